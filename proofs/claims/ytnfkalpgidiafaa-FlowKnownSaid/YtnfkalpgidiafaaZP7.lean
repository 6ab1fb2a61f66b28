import Derived.Test.YtnfkalpgidiafaaZP6
import Derived.Test.YtnfkalpgidiafaaZP1
set_option linter.unusedVariables false
set_option linter.unusedSimpArgs false
set_option maxRecDepth 100000
namespace Go.Proofs.Ytnfkalpgidiafaa
open _root_.Go.Proofs.Try
open Go
def lb0 : qam:=List.replicate 128 0
def pol0 (pp : Bool) : PolG:=⟨pp,⟨none,0,[]⟩,⟨none,0,[]⟩⟩
theorem pol0_rd (h : Hp) : RdSinkGs (⟨none,0,[]⟩ : Sl SinkG) h:=⟨RdS.nil 3 h,fun x hx=>by cases hx⟩
def awX : qam:=setL lb0 [1,0,0,0] 2
def awY : qam:=setL (setL awX [1,1,1,1] 1) qfe 0
theorem aw13_w : encP ⟨28,1,2,3,0⟩ = (3211443,0):=by kernel_rfl
theorem aw13 : qhb (madeD [3211443] []) ⟨2,[]⟩ (st0 4096) awX false [] = ⟨⟨List.replicate 32 0,4100,1⟩,awY,[],noEv,0,madeD [3211443] [],⟨2,[]⟩⟩:=by kernel_rfl
theorem awake13_spec : Spec Try.prog 6 #[] (fun _=>True) [] (fun ρ ρ' v L=>v = .bool true ∧ L = []):=by
 refine Spec.of 51 Try.func6 rfl Try.ntmps6 [] rfl rfl ?_
 intro cx ρ hr' h0
 refine Cd.seq fun K1 hK1=>?_
 refine Cd.qac [(0,false)] rfl rfl ?_
 refine Jp.y 0 rfl (qaa rfl) rfl rfl Kp.true (Y.assign rfl rfl) ?_
 refine Jp.qae hK1 ?_
 refine Cd.seq fun K2 hK2=>?_
 refine Cd.qac [(0,false),(1,false),(2,false),(3,false),(4,false)] rfl rfl ?_
 refine Jp.y 10 rfl (qaa rfl) rfl rfl Kp.true (Y.struct [(0,_),(1,_),(2,_),(3,_)] [_,_,_,_,_] rfl rfl qeu zeroValue34 rfl) ?_
 refine Jp.call [] [] (qen ⟨28,1,2,3,0⟩ ⟨by decide,by decide,by decide,by decide,by decide⟩ (by decide)) 11 rfl (qaa rfl) rfl rfl (Runs.fn rfl call8 rfl) (by decide) (by decide) rfl trivial ?_
 rintro v1 ρ1 L1 ⟨rfl,rfl,rfl⟩
 refine ⟨rfl,fun hle1=>⟨Kp.true,?_⟩⟩
 rw [aw13_w]
 refine Jp.lit 12 9 [(0,_)] [_] rfl (qaa rfl) rfl rfl rfl rfl underlying35 sizeOf31 zeroValue31 rfl rfl rfl rfl rfl fun b9=>⟨Kp.true,?_⟩
 refine Jp.freeze (i:=9) rfl (OwnS.up _ _ _ _ _ _) fun ρ7 hle7 hA7=>?_
 refine Jp.call [] [0] (made13_spec (some ⟨b9,0,none⟩) 1 [3211443] none 0 [] (by intro x hx; simp at hx; exact ⟨3211443,hx,by omega⟩)) 13 rfl (qaa rfl) rfl rfl (Runs.fn rfl call7 rfl) (by decide) (by decide) rfl ⟨hA7.rd,RdS.nil 1 _⟩ ?_
 rintro v2 ρ2 L2 ⟨b,rfl,rfl⟩
 refine ⟨rfl,fun hle2=>⟨Kp.true,?_⟩⟩
 refine Jp.y 1 rfl (qaa rfl) rfl rfl Kp.true (Y.assign rfl rfl) ?_
 refine Jp.qae hK2 ?_
 refine Cd.seq fun K3 hK3=>?_
 refine Cd.qac [(0,false),(1,false),(2,false),(3,false),(4,false),(5,false)] rfl rfl ?_
 refine Jp.call [] [1] (shNew_spec 2) 15 rfl (qaa rfl) rfl rfl (Runs.fn rfl call9 rfl) (by decide) (by decide) rfl trivial ?_
 rintro v3 ρ3 L3 ⟨rfl,bs,rfl,rfl⟩
 refine ⟨rfl,fun hle3=>⟨Kp.true,?_⟩⟩
 refine Jp.y 14 rfl (qaa rfl) rfl rfl Kp.true (Y.move rfl rfl) ?_
 refine Jp.y 16 rfl (qaa rfl) rfl rfl Kp.true (Y.extract rfl rfl rfl) ?_
 refine Jp.y 17 rfl (qaa rfl) rfl rfl Kp.true (Y.extract rfl rfl rfl) ?_
 refine Jp.y 2 rfl (qaa rfl) rfl rfl Kp.true (Y.assign rfl rfl) ?_
 refine Jp.y 3 rfl (qaa rfl) rfl rfl Kp.true (Y.assign rfl rfl) ?_
 refine Jp.qae hK3 ?_
 refine Cd.seq fun K4 hK4=>?_
 refine Cd.qac [(0,false),(1,false),(2,false)] rfl rfl ?_
 refine Jp.y 18 rfl (qaa rfl) rfl rfl Kp.true (Y.qce [] [_,_,_,_,_,_,_,_,_,_,_,_,_,_,_,_,_,_,_,_,_,_,_,_,_,_,_,_,_,_,_,_,_,_,_,_,_,_,_,_,_,_,_,_,_,_,_,_,_,_,_,_,_,_,_,_,_,_,_,_,_,_,_,_,_,_,_,_,_,_,_,_,_,_,_,_,_,_,_,_,_,_,_,_,_,_,_,_,_,_,_,_,_,_,_,_,_,_,_,_,_,_,_,_,_,_,_,_,_,_,_,_,_,_,_,_,_,_,_,_,_,_,_,_,_,_,_,_] rfl rfl underlying43 sizeOf41 zeroValue43 rfl) ?_
 refine Jp.alloc 4 4 rfl (qaa rfl) rfl rfl rfl zeroValue43 fun b4=>⟨Kp.true,?_⟩
 refine Jp.qbm 4 rfl (qaa rfl) rfl rfl sizeOf43 rfl rfl rfl rfl rfl rfl (fun k _ _=>qao k) Kp.true ?_
 refine Jp.qae hK4 ?_
 refine Cd.seq fun K5 hK5=>?_
 refine Cd.qac [(0,false),(1,false),(2,false)] rfl rfl ?_
 refine Jp.y 19 rfl (qaa rfl) rfl rfl Kp.true (Y.qce [(0,_)] [_,_,_,_] rfl rfl underlying41 sizeOf5 zeroValue41 rfl) ?_
 refine Jp.y 20 rfl (qaa rfl) rfl rfl Kp.true (Y.qal rfl rfl rfl underlying43 sizeOf41 (by first | decide | omega) (by first | decide | omega) rfl) ?_
 refine Jp.qbm (cs:=qaf [1,0,0,0]) 4 rfl (qaa rfl) rfl rfl sizeOf41 rfl rfl rfl rfl rfl rfl (fun k _ _=>qao k) Kp.true ?_
 refine Jp.imp (j:=4) rfl (fun h hh=>(show Pt b4 (.cells (qaf awX).toArray 43) h from hh)) ?_
 have hS:=qdd b bs (madeD [3211443] []) ⟨2,[]⟩ (st0 4096) awX (pol0 false) (st0_ok (by decide)) rfl (by decide)
 rw [show qhb (madeD [3211443] []) ⟨2,[]⟩ (st0 4096) awX (pol0 false).pointer (pol0 false).sinks.xs = _ from aw13] at hS
 refine Jp.qae hK5 ?_
 refine Cd.seq fun K6 hK6=>?_
 refine Cd.qac [(0,false),(1,false),(2,false),(3,false),(4,false),(5,false),(6,false),(7,false),(8,false),(9,false),(10,false),(11,false),(12,false),(13,false),(14,false),(15,false),(16,false),(17,false),(18,false),(19,false)] rfl rfl ?_
 refine Jp.y 22 rfl (qaa rfl) rfl rfl Kp.true (Y.move rfl rfl) ?_
 refine Jp.y 23 rfl (qaa rfl) rfl rfl Kp.true (Y.move rfl rfl) ?_
 refine Jp.y 24 rfl (qaa rfl) rfl rfl Kp.true (Y.struct [(1,_)] [_,_,_,_,_,_,_,_,_,_,_,_,_,_,_,_,_,_,_,_,_,_,_,_,_,_,_,_,_,_,_,_,_,_] rfl rfl places46 zeroValue46 rfl) ?_
 refine Jp.y 25 rfl (qaa rfl) rfl rfl Kp.true (by first | exact Y.qag 4 rfl isAgg43 sizeOf43 rfl rfl rfl) ?_
 refine Jp.y 26 rfl (qaa rfl) rfl rfl Kp.true (Y.struct [] [_,_,_] rfl rfl places28 zeroValue28 rfl) ?_
 refine Jp.call [0,1] [0,1,2] hS 27 rfl (qaa rfl) rfl rfl (Runs.fn rfl call10 rfl) (by decide) (by decide) rfl (pol0_rd _) ?_
 rintro v4 ρ4 L4 ⟨A,c,rfl,rfl⟩
 refine ⟨rfl,fun hle4=>⟨Kp.true,?_⟩⟩
 refine Jp.y 21 rfl (qaa rfl) rfl rfl Kp.true (Y.move rfl rfl) ?_
 refine Jp.y 28 rfl (qaa rfl) rfl rfl Kp.true (Y.extract rfl rfl rfl) ?_
 refine Jp.y 29 rfl (qaa rfl) rfl rfl Kp.true (Y.extract rfl rfl rfl) ?_
 refine Jp.y 30 rfl (qaa rfl) rfl rfl Kp.true (Y.extract rfl rfl rfl) ?_
 refine Jp.y 31 rfl (qaa rfl) rfl rfl Kp.true (Y.extract rfl rfl rfl) ?_
 refine Jp.y 32 rfl (qaa rfl) rfl rfl Kp.true (Y.extract rfl rfl rfl) ?_
 refine Jp.alloc 5 5 rfl (qaa rfl) rfl rfl rfl zeroValue46 fun b5=>⟨Kp.true,?_⟩
 refine Jp.alloc 6 6 rfl (qaa rfl) rfl rfl rfl zeroValue43 fun b6=>⟨Kp.true,?_⟩
 refine Jp.alloc 8 8 rfl (qaa rfl) rfl rfl rfl zeroValue50 fun b8=>⟨Kp.true,?_⟩
 refine Jp.qah 5 rfl (qaa rfl) rfl rfl sizeOf46 rfl rfl (by first | rfl | assumption) (by first | rfl | assumption) rfl (by first | rfl | assumption) (fun k _ _=>qao k) Kp.true ?_
 refine Jp.qah 6 rfl (qaa rfl) rfl rfl sizeOf43 rfl rfl (by first | rfl | assumption) (by first | rfl | assumption) rfl (by first | rfl | assumption) (fun k _ _=>qao k) Kp.true ?_
 refine Jp.y 7 rfl (qaa rfl) rfl rfl Kp.true (Y.assign rfl rfl) ?_
 refine Jp.qah 8 rfl (qaa rfl) rfl rfl sizeOf50 rfl rfl (by first | rfl | assumption) (by first | rfl | assumption) rfl (by first | rfl | assumption) (fun k _ _=>qao k) Kp.true ?_
 refine Jp.y 9 rfl (qaa rfl) rfl rfl Kp.true (Y.assign rfl rfl) ?_
 refine Jp.qae hK6 ?_
 refine Cd.seq fun K7 hK7=>?_
 refine Cd.qac [(0,false),(1,false),(2,false),(3,false),(4,false),(5,false),(6,false),(7,false),(8,false),(9,false),(10,false),(11,false),(12,false),(13,false),(14,false),(15,false),(16,false),(17,false),(18,false)] rfl rfl ?_
 refine Jp.y 33 rfl (qaa rfl) rfl rfl Kp.true (Y.qal rfl rfl rfl underlying43 sizeOf41 (by first | decide | omega) (by first | decide | omega) rfl) ?_
 refine Jp.y 34 rfl (qaa rfl) rfl rfl Kp.true (Y.qft 6 (qaf (qck awY 1)) rfl isAgg41 sizeOf41 rfl rfl rfl (fun p v h=>labOf_get (X:=awY) (r:=1) (by decide) p v h)) ?_
 refine Jp.y 35 rfl (qaa rfl) rfl rfl Kp.true (Y.qce [(0,_),(1,_),(2,_),(3,_)] [_,_,_,_] rfl rfl underlying41 sizeOf5 zeroValue41 rfl) ?_
 refine Jp.y 36 rfl (qaa rfl) rfl rfl Kp.true (Y.eqlV (xs:=(qaf (qck awY 1)).toArray) (ys:=(qaf [1,1,1,1]).toArray) (r:=true) rfl rfl rfl tg_guard (fun w=>by rw [tg_eqd 9998 rfl rfl,decide_eq_true (by kernel_rfl)])) ?_
 refine Jp.y 37 rfl (qaa rfl) rfl rfl Kp.true (Y.move rfl rfl) ?_
 refine Jp.slot 37 rfl (show _ = Value.bool true from rfl) ?_
 refine Jp.y 38 rfl (qab rfl rfl rfl rfl) rfl rfl Kp.true (Y.move rfl rfl) ?_
 refine Jp.y 39 rfl (qab rfl rfl rfl rfl) rfl rfl Kp.true (Y.qcd rfl underlying47 rfl) ?_
 refine Jp.y 40 rfl (qab rfl rfl rfl rfl) rfl rfl Kp.true (Y.eql rfl rfl rfl) ?_
 refine Jp.y 41 rfl (qaa rfl) rfl rfl Kp.true (Y.qaw rfl rfl rfl) ?_
 refine Jp.y 42 rfl (qaa rfl) rfl rfl Kp.true (Y.move rfl rfl) ?_
 refine Jp.slot 42 rfl (show _ = Value.bool true from rfl) ?_
 refine Jp.y 43 rfl (qab rfl rfl rfl rfl) rfl rfl Kp.true (by exact Y.qag 8 rfl isAgg50 sizeOf50 rfl rfl (by first | rfl | assumption)) ?_
 refine Jp.y 44 rfl (qab rfl rfl rfl rfl) rfl rfl Kp.true (Y.struct [] [_,_,_] rfl rfl qbq zeroValue50 rfl) ?_
 refine Jp.y 45 rfl (qab rfl rfl rfl rfl) rfl rfl Kp.true (Y.eqlS (xs:=noEv.cells.toArray) (ys:=noEv.cells.toArray) (r:=true) rfl rfl rfl ev_guard ev_fields ev_stood (fun w=>by rw [ev_eq,(evEq_iff _ _).2 rfl])) ?_
 refine Jp.y 46 rfl (qaa rfl) rfl rfl Kp.true (Y.qaw rfl rfl rfl) ?_
 refine Jp.y 47 rfl (qaa rfl) rfl rfl Kp.true (Y.move rfl rfl) ?_
 refine Jp.slot 47 rfl (show _ = Value.bool true from rfl) ?_
 refine Jp.y 48 rfl (qab rfl rfl rfl rfl) rfl rfl Kp.true (Y.move rfl rfl) ?_
 refine Jp.y 49 rfl (qab rfl rfl rfl rfl) rfl rfl Kp.true (Y.eql rfl rfl rfl) ?_
 refine Jp.y 50 rfl (qaa rfl) rfl rfl Kp.true (Y.qaw rfl rfl rfl) ?_
 refine Jp.y 0 rfl (qaa rfl) rfl rfl Kp.true (Y.assign rfl rfl) ?_
 refine Jp.qae hK7 ?_
 refine Cd.ret [] rfl (qbe rfl rfl) trivial ⟨rfl,rfl⟩
end Go.Proofs.Ytnfkalpgidiafaa

namespace Go.Proofs.Ytnfkalpgidiafaa
open _root_.Go.Proofs.Try
open Go
def knS : List SinkG:=[⟨2,0,1⟩,⟨3,0,255⟩,⟨1,0,2⟩,⟨2,0,4⟩]
def polK (b : Nat) : PolG:=⟨true,⟨none,0,[]⟩,⟨some ⟨b,0,none⟩,4,knS⟩⟩
def knI1 : InsP:=⟨13,5,6,0,0⟩
def knI2 : InsP:=⟨18,0,6,5,0⟩
def knI3 : InsP:=⟨13,5,7,0,0⟩
def knW : List Int:=[((encP knI1).1 : Int),((encP knI2).1 : Int),((encP knI3).1 : Int)]
theorem knW_ok : ∀ x ∈ knW,∃ m : Nat,x = m ∧ m < 4294967296:=by
 intro x hx
 simp only [knW,List.mem_cons,List.not_mem_nil,or_false] at hx
 rcases hx with h | h | h
 ·exact ⟨_,h,encP_lt _⟩
 ·exact ⟨_,h,encP_lt _⟩
 ·exact ⟨_,h,encP_lt _⟩
def knD : MemG:=madeD knW []
def knA : StP:=⟨(List.replicate 32 0).set 6 65536,4096,3⟩
def knB : StP:=⟨(List.replicate 32 0).set 6 65536,4100,4⟩
def knC : StP:=⟨(List.replicate 32 0).set 6 65536,4104,4⟩
def knX : qam:=setL (setL lb0 [0,1,0,0] 6) [4,0,0,0] 7
def knY : qam:=setL (setL knX [1,1,1,1] 5) qfe 0
def knZ : ShG:=⟨0,[]⟩
theorem knG1 : qhb knD knZ knA knX true knS = ⟨knB,knY,[⟨3,4096,0,1⟩],noEv,0,knD,knZ⟩:=by kernel_rfl
theorem knG2 : qhb knD knZ knB knY true knS = ⟨knB,knY,[],noEv,6,knD,knZ⟩:=by kernel_rfl
theorem knG3 : qhb knD knZ knC knY true knS = ⟨knC,knY,[⟨4,4104,3,4⟩],⟨3,0,1⟩,0,knD,knZ⟩:=by kernel_rfl
theorem knA_ok : StOk knA:=⟨rfl,by decide,by decide,by decide⟩
theorem knB_ok : StOk knB:=⟨rfl,by decide,by decide,by decide⟩
theorem knC_ok : StOk knC:=⟨rfl,by decide,by decide,by decide⟩
theorem knI_ok (op rd r1 r2 : Nat) (h : op < 50) (h1 : rd < 32) (h2 : r1 < 32) (h3 : r2 < 32) : InsOk ⟨op,rd,r1,r2,0⟩:=⟨h,h1,h2,h3,(by decide : -2147483648 ≤ (0 : Int) ∧ (0 : Int) ≤ 2147483647)⟩
theorem knS_rd : ∀ x ∈ knS,∀ h,SinkG.Rd x h:=by
 intro x hx h
 simp only [knS,List.mem_cons,List.not_mem_nil,or_false] at hx
 rcases hx with rfl | rfl | rfl | rfl <;> exact ⟨by decide,by decide,by decide⟩
theorem flowKnown_spec : Spec Try.prog 3 #[] (fun _=>True) [] (fun ρ ρ' v L=>v = .bool true ∧ L = []):=by
 refine Spec.of 153 Try.func3 rfl Try.ntmps3 [] rfl rfl ?_
 intro cx ρ hr' h0
 refine Cd.seq fun K1 hK1=>?_
 refine Cd.qac [(0,false)] rfl rfl ?_
 refine Jp.y 0 rfl (qaa rfl) rfl rfl Kp.true (Y.assign rfl rfl) ?_
 refine Jp.qae hK1 ?_
 refine Cd.seq fun K2 hK2=>?_
 refine Cd.seq fun K3 hK3=>?_
 refine Cd.qac [(0,false),(1,false)] rfl rfl ?_
 refine Jp.call [] [] awake13_spec 20 rfl (qaa rfl) rfl rfl (Runs.fn rfl call6 rfl) (by decide) (by decide) rfl trivial ?_
 rintro v1 ρ1 L1 ⟨rfl,rfl⟩
 refine ⟨rfl,fun hle1=>⟨Kp.true,?_⟩⟩
 refine Jp.y 21 rfl (qaa rfl) rfl rfl Kp.true (Y.not rfl rfl) ?_
 refine Jp.qae hK3 ?_
 refine Cd.qaq rfl (fun ga=>?_) (fun ga=>?_)
 ·exact absurd ga (by simp)
 ·skip
  refine Cd.qbx hK2 ?_
  refine Cd.seq fun K4 hK4=>?_
  refine Cd.qac [(0,false),(1,false),(2,false),(3,false),(4,false),(5,false),(6,false),(7,false)] rfl rfl ?_
  refine Jp.y 22 rfl (qaa rfl) rfl rfl Kp.true (Y.struct [(0,_),(2,_)] [_,_,_] rfl rfl places24 zeroValue24 rfl) ?_
  refine Jp.y 23 rfl (qaa rfl) rfl rfl Kp.true (Y.struct [(0,_),(2,_)] [_,_,_] rfl rfl places24 zeroValue24 rfl) ?_
  refine Jp.y 24 rfl (qaa rfl) rfl rfl Kp.true (Y.struct [(0,_),(2,_)] [_,_,_] rfl rfl places24 zeroValue24 rfl) ?_
  refine Jp.y 25 rfl (qaa rfl) rfl rfl Kp.true (Y.struct [(0,_),(2,_)] [_,_,_] rfl rfl places24 zeroValue24 rfl) ?_
  refine Jp.lit 26 40 [(0,_),(1,_),(2,_),(3,_)] [_,_,_,_,_,_,_,_,_,_,_,_] rfl (qaa rfl) rfl rfl rfl rfl underlying25 sizeOf24 zeroValue24 rfl rfl rfl rfl rfl fun b40=>⟨Kp.true,?_⟩
  refine Jp.freeze (i:=40) rfl (OwnS.up _ _ _ _ _ _) fun ρ2 hle2 hA2=>?_
  have hS : RdSinkGs (polK b40).sinks ρ2:=⟨hA2.rd,fun x hx=>knS_rd x hx _⟩
  clear hA2
  refine Jp.y 27 rfl (qaa rfl) rfl rfl Kp.true (Y.struct [(0,_),(2,_)] [_,_,_] rfl rfl places28 zeroValue28 rfl) ?_
  refine Jp.alloc 41 1 rfl (qaa rfl) rfl rfl rfl zeroValue28 fun b41=>⟨Kp.true,?_⟩
  refine Jp.qbm 41 rfl (qaa rfl) rfl rfl sizeOf28 rfl rfl rfl rfl rfl rfl (fun k _ _=>qao k) Kp.true ?_
  refine Jp.qae hK4 ?_
  refine Cd.seq fun K5 hK5=>?_
  refine Cd.qac [(0,false),(1,false),(2,false),(3,false),(4,false),(5,false),(6,false),(7,false),(8,false)] rfl rfl ?_
  refine Jp.y 28 rfl (qaa rfl) rfl rfl Kp.true (Y.struct [(0,_),(1,_),(2,_)] [_,_,_,_,_] rfl rfl qeu zeroValue34 rfl) ?_
  refine Jp.call [] [] (qen knI1 (knI_ok _ _ _ _ (by decide) (by decide) (by decide) (by decide)) (by decide)) 29 rfl (qaa rfl) rfl rfl (Runs.fn rfl call8 rfl) (by decide) (by decide) rfl trivial ?_
  rintro v3 ρ3 L3 ⟨rfl,rfl,rfl⟩
  refine ⟨rfl,fun hle3=>⟨Kp.true,?_⟩⟩
  refine Jp.y 30 rfl (qaa rfl) rfl rfl Kp.true (Y.struct [(0,_),(2,_),(3,_)] [_,_,_,_,_] rfl rfl qeu zeroValue34 rfl) ?_
  refine Jp.call [] [] (qen knI2 (knI_ok _ _ _ _ (by decide) (by decide) (by decide) (by decide)) (by decide)) 31 rfl (qaa rfl) rfl rfl (Runs.fn rfl call8 rfl) (by decide) (by decide) rfl trivial ?_
  rintro v4 ρ4 L4 ⟨rfl,rfl,rfl⟩
  refine ⟨rfl,fun hle4=>⟨Kp.true,?_⟩⟩
  refine Jp.y 32 rfl (qaa rfl) rfl rfl Kp.true (Y.struct [(0,_),(1,_),(2,_)] [_,_,_,_,_] rfl rfl qeu zeroValue34 rfl) ?_
  refine Jp.call [] [] (qen knI3 (knI_ok _ _ _ _ (by decide) (by decide) (by decide) (by decide)) (by decide)) 33 rfl (qaa rfl) rfl rfl (Runs.fn rfl call8 rfl) (by decide) (by decide) rfl trivial ?_
  rintro v5 ρ5 L5 ⟨rfl,rfl,rfl⟩
  refine ⟨rfl,fun hle5=>⟨Kp.true,?_⟩⟩
  refine Jp.lit 34 42 [(0,_),(1,_),(2,_)] [_,_,_] rfl (qaa rfl) rfl rfl rfl rfl underlying35 sizeOf31 zeroValue31 rfl rfl rfl rfl rfl fun b42=>⟨Kp.true,?_⟩
  refine Jp.freeze (i:=42) rfl (OwnS.up _ _ _ _ _ _) fun ρ6 hle6 hA6=>?_
  have hS:=RdSinkGs.up _ _ _ hle6 hS
  refine Jp.call [] [0] (made13_spec (some ⟨b42,0,none⟩) 3 knW none 0 [] knW_ok) 35 rfl (qaa rfl) rfl rfl (Runs.fn rfl call7 rfl) (by decide) (by decide) rfl ⟨hA6.rd,RdS.nil 1 _⟩ ?_
  rintro v7 ρ7 L7 ⟨b,rfl,rfl⟩
  refine ⟨rfl,fun hle7=>⟨Kp.true,?_⟩⟩
  have hS:=RdSinkGs.up _ _ _ hle7 hS
  refine Jp.y 2 rfl (qaa rfl) rfl rfl Kp.true (Y.assign rfl rfl) ?_
  refine Jp.qae hK5 ?_
  refine Cd.seq fun K6 hK6=>?_
  refine Cd.qac [(0,false),(1,false),(2,false),(3,false),(4,false),(5,false)] rfl rfl ?_
  refine Jp.call [] [1] (shNew_spec 0) 37 rfl (qaa rfl) rfl rfl (Runs.fn rfl call9 rfl) (by decide) (by decide) rfl trivial ?_
  rintro v8 ρ8 L8 ⟨rfl,bs,rfl,rfl⟩
  refine ⟨rfl,fun hle8=>⟨Kp.true,?_⟩⟩
  refine Jp.y 36 rfl (qaa rfl) rfl rfl Kp.true (Y.move rfl rfl) ?_
  refine Jp.y 38 rfl (qaa rfl) rfl rfl Kp.true (Y.extract rfl rfl rfl) ?_
  refine Jp.y 39 rfl (qaa rfl) rfl rfl Kp.true (Y.extract rfl rfl rfl) ?_
  refine Jp.y 3 rfl (qaa rfl) rfl rfl Kp.true (Y.assign rfl rfl) ?_
  refine Jp.y 4 rfl (qaa rfl) rfl rfl Kp.true (Y.assign rfl rfl) ?_
  refine Jp.qae hK6 ?_
  refine Cd.seq fun K7 hK7=>?_
  refine Cd.qac [(0,false),(1,false),(2,false)] rfl rfl ?_
  refine Jp.y 40 rfl (qaa rfl) rfl rfl Kp.true (Y.qce [] [_,_,_,_,_,_,_,_,_,_,_,_,_,_,_,_,_,_,_,_,_,_,_,_,_,_,_,_,_,_,_,_,_,_,_,_,_,_,_,_,_,_,_,_,_,_,_,_,_,_,_,_,_,_,_,_,_,_,_,_,_,_,_,_,_,_,_,_,_,_,_,_,_,_,_,_,_,_,_,_,_,_,_,_,_,_,_,_,_,_,_,_,_,_,_,_,_,_,_,_,_,_,_,_,_,_,_,_,_,_,_,_,_,_,_,_,_,_,_,_,_,_,_,_,_,_,_,_] rfl rfl underlying43 sizeOf41 zeroValue43 rfl) ?_
  refine Jp.alloc 5 5 rfl (qaa rfl) rfl rfl rfl zeroValue43 fun b5=>⟨Kp.true,?_⟩
  refine Jp.qbm 5 rfl (qaa rfl) rfl rfl sizeOf43 rfl rfl rfl rfl rfl rfl (fun k _ _=>qao k) Kp.true ?_
  refine Jp.qae hK7 ?_
  refine Cd.seq fun K8 hK8=>?_
  refine Cd.qac [(0,false),(1,false),(2,false),(3,false),(4,false),(5,false)] rfl rfl ?_
  refine Jp.y 41 rfl (qaa rfl) rfl rfl Kp.true (Y.qce [(0,_),(1,_)] [_,_,_,_] rfl rfl underlying41 sizeOf5 zeroValue41 rfl) ?_
  refine Jp.y 42 rfl (qaa rfl) rfl rfl Kp.true (Y.qce [(0,_)] [_,_,_,_] rfl rfl underlying41 sizeOf5 zeroValue41 rfl) ?_
  refine Jp.y 43 rfl (qaa rfl) rfl rfl Kp.true (Y.qal rfl rfl rfl underlying43 sizeOf41 (by first | decide | omega) (by first | decide | omega) rfl) ?_
  refine Jp.qbm (cs:=qaf [0,1,0,0]) 5 rfl (qaa rfl) rfl rfl sizeOf41 rfl rfl rfl rfl rfl rfl (fun k _ _=>qao k) Kp.true ?_
  refine Jp.imp (j:=5) rfl (fun h hh=>(show Pt b5 (.cells (qaf (setL lb0 [0,1,0,0] 6)).toArray 43) h from hh)) ?_
  refine Jp.y 44 rfl (qaa rfl) rfl rfl Kp.true (Y.qal rfl rfl rfl underlying43 sizeOf41 (by first | decide | omega) (by first | decide | omega) rfl) ?_
  refine Jp.qbm (cs:=qaf [4,0,0,0]) 5 rfl (qaa rfl) rfl rfl sizeOf41 rfl rfl rfl rfl rfl rfl (fun k _ _=>qao k) Kp.true ?_
  refine Jp.imp (j:=5) rfl (fun h hh=>(show Pt b5 (.cells (qaf knX).toArray 43) h from hh)) ?_
  refine Jp.qae hK8 ?_
  refine Cd.seq fun K9 hK9=>?_
  refine Cd.qac [(0,false),(1,false),(2,false)] rfl rfl ?_
  refine Jp.y 45 rfl (qaa rfl) rfl rfl Kp.true (Y.struct [(1,_),(2,_)] [_,_,_,_,_,_,_,_,_,_,_,_,_,_,_,_,_,_,_,_,_,_,_,_,_,_,_,_,_,_,_,_,_,_] rfl rfl places46 zeroValue46 rfl) ?_
  refine Jp.alloc 6 6 rfl (qaa rfl) rfl rfl rfl zeroValue46 fun b6=>⟨Kp.true,?_⟩
  refine Jp.qbm 6 rfl (qaa rfl) rfl rfl sizeOf46 rfl rfl rfl rfl rfl rfl (fun k _ _=>qao k) Kp.true ?_
  refine Jp.qae hK9 ?_
  refine Cd.seq fun K10 hK10=>?_
  refine Cd.qac [(0,false),(1,false),(2,false)] rfl rfl ?_
  refine Jp.y 46 rfl (qaa rfl) rfl rfl Kp.true (by exact Y.qad rfl rfl underlying46 rfl sizeOf44 (by decide) (show _ + 0 = _ from rfl)) ?_
  refine Jp.y 47 rfl (qaa rfl) rfl rfl Kp.true (Y.qal rfl rfl rfl underlying44 sizeOf31 (by first | decide | omega) (by first | decide | omega) rfl) ?_
  refine Jp.store 6 rfl (qaa rfl) rfl rfl sizeOf31 rfl rfl rfl rfl rfl rfl Kp.true ?_
  refine Jp.qae hK10 ?_
  refine Cd.seq fun K11 hK11=>?_
  refine Cd.qac [(0,false),(1,false),(2,false),(3,false),(4,false),(5,false),(6,false),(7,false),(8,false),(9,false),(10,false),(11,false),(12,false),(13,false),(14,false),(15,false),(16,false),(17,false)] rfl rfl ?_
  refine Jp.imp (j:=6) rfl (fun h hh=>(show Pt b6 (.cells knA.cells.toArray 46) h from hh)) ?_
  have hS1:=qdd b bs knD knZ knA knX (polK b40) knA_ok rfl (show (4 : Nat) ≤ 4096 by decide)
  rw [show qhb knD knZ knA knX (polK b40).pointer (polK b40).sinks.xs = _ from knG1] at hS1
  refine Jp.y 49 rfl (qaa rfl) rfl rfl Kp.true (Y.move rfl rfl) ?_
  refine Jp.y 50 rfl (qaa rfl) rfl rfl Kp.true (Y.move rfl rfl) ?_
  refine Jp.y 51 rfl (qaa rfl) rfl rfl Kp.true (by exact Y.qag 6 rfl isAgg46 sizeOf46 rfl rfl rfl) ?_
  refine Jp.y 52 rfl (qaa rfl) rfl rfl Kp.true (by exact Y.qag 5 rfl isAgg43 sizeOf43 rfl rfl rfl) ?_
  refine Jp.y 53 rfl (qaa rfl) rfl rfl Kp.true (by exact Y.qag 41 rfl isAgg28 sizeOf28 rfl rfl rfl) ?_
  refine Jp.call [0,1] [0,1,20] hS1 54 rfl (qaa rfl) rfl rfl (Runs.fn rfl call10 rfl) (by decide) (by decide) rfl hS ?_
  rintro v9 ρ9 L9 ⟨A,c,rfl,rfl⟩
  refine ⟨rfl,fun hle9=>⟨Kp.true,?_⟩⟩
  have hS:=RdSinkGs.up _ _ _ hle9 hS
  have hS2:=qdd b bs knD knZ knB knY (polK b40) knB_ok rfl (show (4 : Nat) ≤ 4096 by decide)
  rw [show qhb knD knZ knB knY (polK b40).pointer (polK b40).sinks.xs = _ from knG2] at hS2
  refine Jp.y 48 rfl (qaa rfl) rfl rfl Kp.true (Y.move rfl rfl) ?_
  refine Jp.y 55 rfl (qaa rfl) rfl rfl Kp.true (Y.extract rfl rfl rfl) ?_
  refine Jp.y 56 rfl (qaa rfl) rfl rfl Kp.true (Y.extract rfl rfl rfl) ?_
  refine Jp.y 57 rfl (qaa rfl) rfl rfl Kp.true (Y.extract rfl rfl rfl) ?_
  refine Jp.y 58 rfl (qaa rfl) rfl rfl Kp.true (Y.extract rfl rfl rfl) ?_
  refine Jp.y 59 rfl (qaa rfl) rfl rfl Kp.true (Y.extract rfl rfl rfl) ?_
  refine Jp.alloc 8 8 rfl (qaa rfl) rfl rfl rfl zeroValue50 fun b8=>⟨Kp.true,?_⟩
  refine Jp.qah 6 rfl (qaa rfl) rfl rfl sizeOf46 rfl rfl (by first | rfl | assumption) (by first | rfl | assumption) rfl (by first | rfl | assumption) (fun k _ _=>qao k) Kp.true ?_
  refine Jp.qah 5 rfl (qaa rfl) rfl rfl sizeOf43 rfl rfl (by first | rfl | assumption) (by first | rfl | assumption) rfl (by first | rfl | assumption) (fun k _ _=>qao k) Kp.true ?_
  refine Jp.y 7 rfl (qaa rfl) rfl rfl Kp.true (Y.assign rfl rfl) ?_
  refine Jp.qah 8 rfl (qaa rfl) rfl rfl sizeOf50 rfl rfl (by first | rfl | assumption) (by first | rfl | assumption) rfl (by first | rfl | assumption) (fun k _ _=>qao k) Kp.true ?_
  refine Jp.y 9 rfl (qaa rfl) rfl rfl Kp.true (Y.assign rfl rfl) ?_
  refine Jp.qae hK11 ?_
  refine Cd.seq fun K12 hK12=>?_
  refine Cd.qac [(0,false),(1,false),(2,false),(3,false),(4,false),(5,false),(6,false),(7,false),(8,false),(9,false),(10,false),(11,false),(12,false),(13,false),(14,false),(15,false),(16,false),(17,false),(18,false),(19,false)] rfl rfl ?_
  refine Jp.y 61 rfl (qaa rfl) rfl rfl Kp.true (Y.move rfl rfl) ?_
  refine Jp.y 62 rfl (qaa rfl) rfl rfl Kp.true (Y.move rfl rfl) ?_
  refine Jp.y 63 rfl (qaa rfl) rfl rfl Kp.true (by exact Y.qag 6 rfl isAgg46 sizeOf46 rfl rfl (by first | rfl | assumption)) ?_
  refine Jp.y 64 rfl (qaa rfl) rfl rfl Kp.true (by exact Y.qag 5 rfl isAgg43 sizeOf43 rfl rfl (by first | rfl | assumption)) ?_
  refine Jp.y 65 rfl (qaa rfl) rfl rfl Kp.true (by exact Y.qag 41 rfl isAgg28 sizeOf28 rfl rfl (by first | rfl | assumption)) ?_
  refine Jp.call [0,1] [0,1,21] hS2 66 rfl (qaa rfl) rfl rfl (Runs.fn rfl call10 rfl) (by decide) (by decide) rfl hS ?_
  rintro v10 ρ10 L10 ⟨A2,c2,rfl,rfl⟩
  refine ⟨rfl,fun hle10=>⟨Kp.true,?_⟩⟩
  have hS:=RdSinkGs.up _ _ _ hle10 hS
  refine Jp.y 60 rfl (qaa rfl) rfl rfl Kp.true (Y.move rfl rfl) ?_
  refine Jp.y 67 rfl (qaa rfl) rfl rfl Kp.true (Y.extract rfl rfl rfl) ?_
  refine Jp.y 68 rfl (qaa rfl) rfl rfl Kp.true (Y.extract rfl rfl rfl) ?_
  refine Jp.y 69 rfl (qaa rfl) rfl rfl Kp.true (Y.extract rfl rfl rfl) ?_
  refine Jp.y 70 rfl (qaa rfl) rfl rfl Kp.true (Y.extract rfl rfl rfl) ?_
  refine Jp.y 71 rfl (qaa rfl) rfl rfl Kp.true (Y.extract rfl rfl rfl) ?_
  refine Jp.alloc 10 10 rfl (qaa rfl) rfl rfl rfl zeroValue46 fun b10=>⟨Kp.true,?_⟩
  refine Jp.alloc 11 11 rfl (qaa rfl) rfl rfl rfl zeroValue43 fun b11=>⟨Kp.true,?_⟩
  refine Jp.alloc 13 13 rfl (qaa rfl) rfl rfl rfl zeroValue50 fun b13=>⟨Kp.true,?_⟩
  refine Jp.qah 10 rfl (qaa rfl) rfl rfl sizeOf46 rfl rfl (by first | rfl | assumption) (by first | rfl | assumption) rfl (by first | rfl | assumption) (fun k _ _=>qao k) Kp.true ?_
  refine Jp.qah 11 rfl (qaa rfl) rfl rfl sizeOf43 rfl rfl (by first | rfl | assumption) (by first | rfl | assumption) rfl (by first | rfl | assumption) (fun k _ _=>qao k) Kp.true ?_
  refine Jp.y 12 rfl (qaa rfl) rfl rfl Kp.true (Y.assign rfl rfl) ?_
  refine Jp.qah 13 rfl (qaa rfl) rfl rfl sizeOf50 rfl rfl (by first | rfl | assumption) (by first | rfl | assumption) rfl (by first | rfl | assumption) (fun k _ _=>qao k) Kp.true ?_
  refine Jp.y 14 rfl (qaa rfl) rfl rfl Kp.true (Y.assign rfl rfl) ?_
  refine Jp.qae hK12 ?_
  refine Cd.seq fun K13 hK13=>?_
  refine Cd.qac [(0,false),(1,false)] rfl rfl ?_
  refine Jp.y 72 rfl (qaa rfl) rfl rfl Kp.true (by exact Y.qad rfl rfl underlying46 rfl sizeOf31 (by decide) (show _ + 32 = _ from rfl)) ?_
  refine Jp.store 6 rfl (qaa rfl) rfl rfl sizeOf31 rfl rfl rfl rfl rfl rfl Kp.true ?_
  refine Jp.qae hK13 ?_
  refine Cd.seq fun K14 hK14=>?_
  refine Cd.qac [(0,false),(1,false),(2,false),(3,false),(4,false),(5,false),(6,false),(7,false),(8,false),(9,false),(10,false),(11,false),(12,false),(13,false),(14,false),(15,false),(16,false),(17,false),(18,false),(19,false)] rfl rfl ?_
  refine Jp.imp (j:=6) rfl (fun h hh=>(show Pt b6 (.cells knC.cells.toArray 46) h from hh)) ?_
  have hS3:=qdd b bs knD knZ knC knY (polK b40) knC_ok rfl (show (4 : Nat) ≤ 4096 by decide)
  rw [show qhb knD knZ knC knY (polK b40).pointer (polK b40).sinks.xs = _ from knG3] at hS3
  refine Jp.y 74 rfl (qaa rfl) rfl rfl Kp.true (Y.move rfl rfl) ?_
  refine Jp.y 75 rfl (qaa rfl) rfl rfl Kp.true (Y.move rfl rfl) ?_
  refine Jp.y 76 rfl (qaa rfl) rfl rfl Kp.true (by exact Y.qag 6 rfl isAgg46 sizeOf46 rfl rfl (by first | rfl | assumption)) ?_
  refine Jp.y 77 rfl (qaa rfl) rfl rfl Kp.true (by exact Y.qag 5 rfl isAgg43 sizeOf43 rfl rfl (by first | rfl | assumption)) ?_
  refine Jp.y 78 rfl (qaa rfl) rfl rfl Kp.true (by exact Y.qag 41 rfl isAgg28 sizeOf28 rfl rfl (by first | rfl | assumption)) ?_
  refine Jp.call [0,1] [0,1,22] hS3 79 rfl (qaa rfl) rfl rfl (Runs.fn rfl call10 rfl) (by decide) (by decide) rfl hS ?_
  rintro v11 ρ11 L11 ⟨A3,c3,rfl,rfl⟩
  refine ⟨rfl,fun hle11=>⟨Kp.true,?_⟩⟩
  refine Jp.y 73 rfl (qaa rfl) rfl rfl Kp.true (Y.move rfl rfl) ?_
  refine Jp.y 80 rfl (qaa rfl) rfl rfl Kp.true (Y.extract rfl rfl rfl) ?_
  refine Jp.y 81 rfl (qaa rfl) rfl rfl Kp.true (Y.extract rfl rfl rfl) ?_
  refine Jp.y 82 rfl (qaa rfl) rfl rfl Kp.true (Y.extract rfl rfl rfl) ?_
  refine Jp.y 83 rfl (qaa rfl) rfl rfl Kp.true (Y.extract rfl rfl rfl) ?_
  refine Jp.y 84 rfl (qaa rfl) rfl rfl Kp.true (Y.extract rfl rfl rfl) ?_
  refine Jp.alloc 15 15 rfl (qaa rfl) rfl rfl rfl zeroValue46 fun b15=>⟨Kp.true,?_⟩
  refine Jp.alloc 16 16 rfl (qaa rfl) rfl rfl rfl zeroValue43 fun b16=>⟨Kp.true,?_⟩
  refine Jp.alloc 18 18 rfl (qaa rfl) rfl rfl rfl zeroValue50 fun b18=>⟨Kp.true,?_⟩
  refine Jp.qah 15 rfl (qaa rfl) rfl rfl sizeOf46 rfl rfl (by first | rfl | assumption) (by first | rfl | assumption) rfl (by first | rfl | assumption) (fun k _ _=>qao k) Kp.true ?_
  refine Jp.qah 16 rfl (qaa rfl) rfl rfl sizeOf43 rfl rfl (by first | rfl | assumption) (by first | rfl | assumption) rfl (by first | rfl | assumption) (fun k _ _=>qao k) Kp.true ?_
  refine Jp.y 17 rfl (qaa rfl) rfl rfl Kp.true (Y.assign rfl rfl) ?_
  refine Jp.qah 18 rfl (qaa rfl) rfl rfl sizeOf50 rfl rfl (by first | rfl | assumption) (by first | rfl | assumption) rfl (by first | rfl | assumption) (fun k _ _=>qao k) Kp.true ?_
  refine Jp.y 19 rfl (qaa rfl) rfl rfl Kp.true (Y.assign rfl rfl) ?_
  refine Jp.qae hK14 ?_
  refine Cd.seq fun K15 hK15=>?_
  refine Cd.qac [(0,false),(1,false),(2,false),(3,false),(4,false),(5,false),(6,false),(7,false),(8,false),(9,false),(10,false),(11,false),(12,false),(13,false),(14,false),(15,false),(16,false),(17,false),(18,false),(19,false),(20,false),(21,false),(22,false),(23,false),(24,false),(25,false),(26,false),(27,false),(28,false),(29,false),(30,false),(31,false),(32,false),(33,false),(34,false),(35,false),(36,false),(37,false),(38,false),(39,false),(40,false),(41,false),(42,false),(43,false),(44,false),(45,false),(46,false),(47,false),(48,false),(49,false),(50,false),(51,false),(52,false),(53,false),(54,false),(55,false),(56,false),(57,false),(58,false),(59,false),(60,false),(61,false),(62,false),(63,false),(64,false),(65,false),(66,false),(67,false),(68,false)] rfl rfl ?_
  refine Jp.freeze (i:=20) rfl (OwnS.up _ _ _ _ _ _) fun ρ12 hle12 hA12=>?_
  refine Jp.freeze (i:=22) rfl (OwnS.up _ _ _ _ _ _) fun ρ13 hle13 hA13=>?_
  have hR1:=RdS.up _ _ _ _ _ _ _ hle13 hA12.rd
  have hR3:=hA13.rd
  refine Jp.y 85 rfl (qaa rfl) rfl rfl Kp.true (Y.move rfl rfl) ?_
  refine Jp.y 86 rfl (qaa rfl) rfl rfl Kp.true (Y.eql rfl rfl rfl) ?_
  refine Jp.y 87 rfl (qaa rfl) rfl rfl Kp.true (Y.move rfl rfl) ?_
  refine Jp.slot 87 rfl (show _ = Value.bool true from rfl) ?_
  refine Jp.y 88 rfl (qab rfl rfl rfl rfl) rfl rfl Kp.true (by first | exact Y.qag 8 rfl isAgg50 sizeOf50 rfl rfl (by first | rfl | assumption)) ?_
  refine Jp.y 89 rfl (qab rfl rfl rfl rfl) rfl rfl Kp.true (Y.struct [] [_,_,_] rfl rfl qbq zeroValue50 rfl) ?_
  refine Jp.y 90 rfl (qab rfl rfl rfl rfl) rfl rfl Kp.true (Y.eqlS (xs:=noEv.cells.toArray) (ys:=noEv.cells.toArray) (r:=true) rfl rfl rfl ev_guard ev_fields ev_stood (fun w=>by rw [ev_eq,(evEq_iff _ _).2 rfl])) ?_
  refine Jp.y 91 rfl (qaa rfl) rfl rfl Kp.true (Y.qaw rfl rfl rfl) ?_
  refine Jp.y 92 rfl (qaa rfl) rfl rfl Kp.true (Y.move rfl rfl) ?_
  refine Jp.slot 92 rfl (show _ = Value.bool true from rfl) ?_
  refine Jp.y 93 rfl (qab rfl rfl rfl rfl) rfl rfl Kp.true (Y.move rfl rfl) ?_
  refine Jp.y 94 rfl (qab rfl rfl rfl rfl) rfl rfl Kp.true (Y.struct [(0,_),(1,_),(2,_),(3,_)] [_,_,_,_] rfl rfl places55 zeroValue55 rfl) ?_
  refine Jp.lit 95 30 [(0,_)] [_,_,_,_] rfl (qab rfl rfl rfl rfl) rfl rfl rfl rfl underlying47 sizeOf55 zeroValue55 rfl rfl rfl rfl rfl fun b30=>⟨Kp.true,?_⟩
  refine Jp.freeze (i:=30) rfl (OwnS.up _ _ _ _ _ _) fun ρ14 hle14 hA14=>?_
  have hR3:=RdS.up _ _ _ _ _ _ _ hle14 hR3
  refine Jp.call [] [] (told_spec A (some ⟨b30,0,none⟩) c 1 [⟨3,4096,0,1⟩]) 96 rfl (qab rfl rfl rfl rfl) rfl rfl (Runs.fn rfl call11 rfl) (by decide) (by decide) rfl ⟨RdS.up _ _ _ _ _ _ _ hle14 hR1,hA14.rd⟩ ?_
  rintro v15 ρ15 L15 ⟨rfl,rfl,rfl⟩
  refine ⟨rfl,fun hle15=>⟨Kp.true,?_⟩⟩
  refine Jp.y 97 rfl (qaa rfl) rfl rfl Kp.true (Y.qaw rfl rfl rfl) ?_
  refine Jp.y 98 rfl (qaa rfl) rfl rfl Kp.true (Y.move rfl rfl) ?_
  refine Jp.slot 98 rfl (show _ = Value.bool true from rfl) ?_
  refine Jp.y 99 rfl (qab rfl rfl rfl rfl) rfl rfl Kp.true (Y.qal rfl rfl rfl underlying43 sizeOf41 (by first | decide | omega) (by first | decide | omega) rfl) ?_
  refine Jp.y 100 rfl (qab rfl rfl rfl rfl) rfl rfl Kp.true (Y.qft 5 (qaf (qck knY 5)) rfl isAgg41 sizeOf41 rfl rfl rfl (fun p v h=>labOf_get (X:=knY) (r:=5) (by decide) p v h)) ?_
  refine Jp.y 101 rfl (qab rfl rfl rfl rfl) rfl rfl Kp.true (Y.qce [(0,_),(1,_),(2,_),(3,_)] [_,_,_,_] rfl rfl underlying41 sizeOf5 zeroValue41 rfl) ?_
  refine Jp.y 102 rfl (qab rfl rfl rfl rfl) rfl rfl Kp.true (Y.eqlV (xs:=(qaf (qck knY 5)).toArray) (ys:=(qaf [1,1,1,1]).toArray) (r:=true) rfl rfl rfl tg_guard (fun w=>by rw [tg_eqd 9998 rfl rfl,decide_eq_true (by kernel_rfl)])) ?_
  refine Jp.y 103 rfl (qaa rfl) rfl rfl Kp.true (Y.qaw rfl rfl rfl) ?_
  refine Jp.y 104 rfl (qaa rfl) rfl rfl Kp.true (Y.move rfl rfl) ?_
  refine Jp.slot 104 rfl (show _ = Value.bool true from rfl) ?_
  refine Jp.y 105 rfl (qab rfl rfl rfl rfl) rfl rfl Kp.true (Y.move rfl rfl) ?_
  refine Jp.y 106 rfl (qab rfl rfl rfl rfl) rfl rfl Kp.true (Y.eql rfl rfl rfl) ?_
  refine Jp.y 107 rfl (qaa rfl) rfl rfl Kp.true (Y.qaw rfl rfl rfl) ?_
  refine Jp.y 108 rfl (qaa rfl) rfl rfl Kp.true (Y.move rfl rfl) ?_
  refine Jp.slot 108 rfl (show _ = Value.bool true from rfl) ?_
  refine Jp.y 109 rfl (qab rfl rfl rfl rfl) rfl rfl Kp.true (Y.move rfl rfl) ?_
  refine Jp.y 110 rfl (qab rfl rfl rfl rfl) rfl rfl Kp.true (Y.qcd rfl underlying47 rfl) ?_
  refine Jp.y 111 rfl (qab rfl rfl rfl rfl) rfl rfl Kp.true (Y.eql rfl rfl rfl) ?_
  refine Jp.y 112 rfl (qaa rfl) rfl rfl Kp.true (Y.qaw rfl rfl rfl) ?_
  refine Jp.y 113 rfl (qaa rfl) rfl rfl Kp.true (Y.move rfl rfl) ?_
  refine Jp.slot 113 rfl (show _ = Value.bool true from rfl) ?_
  refine Jp.y 114 rfl (qab rfl rfl rfl rfl) rfl rfl Kp.true (by first | exact Y.qag 13 rfl isAgg50 sizeOf50 rfl rfl (by first | rfl | assumption)) ?_
  refine Jp.y 115 rfl (qab rfl rfl rfl rfl) rfl rfl Kp.true (Y.struct [] [_,_,_] rfl rfl qbq zeroValue50 rfl) ?_
  refine Jp.y 116 rfl (qab rfl rfl rfl rfl) rfl rfl Kp.true (Y.eqlS (xs:=noEv.cells.toArray) (ys:=noEv.cells.toArray) (r:=true) rfl rfl rfl ev_guard ev_fields ev_stood (fun w=>by rw [ev_eq,(evEq_iff _ _).2 rfl])) ?_
  refine Jp.y 117 rfl (qaa rfl) rfl rfl Kp.true (Y.qaw rfl rfl rfl) ?_
  refine Jp.y 118 rfl (qaa rfl) rfl rfl Kp.true (Y.move rfl rfl) ?_
  refine Jp.slot 118 rfl (show _ = Value.bool true from rfl) ?_
  refine Jp.y 119 rfl (qab rfl rfl rfl rfl) rfl rfl Kp.true (by exact Y.qad rfl rfl underlying46 rfl sizeOf31 (by decide) (show _ + 32 = _ from rfl)) ?_
  refine Jp.y 120 rfl (qab rfl rfl rfl rfl) rfl rfl Kp.true (Y.qau 10 rfl isAgg31 rfl rfl rfl) ?_
  refine Jp.y 121 rfl (qab rfl rfl rfl rfl) rfl rfl Kp.true (Y.eql rfl rfl rfl) ?_
  refine Jp.y 122 rfl (qaa rfl) rfl rfl Kp.true (Y.qaw rfl rfl rfl) ?_
  refine Jp.y 123 rfl (qaa rfl) rfl rfl Kp.true (Y.move rfl rfl) ?_
  refine Jp.slot 123 rfl (show _ = Value.bool true from rfl) ?_
  refine Jp.y 124 rfl (qab rfl rfl rfl rfl) rfl rfl Kp.true (by exact Y.qag 11 rfl isAgg43 sizeOf43 rfl rfl (by first | rfl | assumption)) ?_
  refine Jp.y 125 rfl (qab rfl rfl rfl rfl) rfl rfl Kp.true (by exact Y.qag 5 rfl isAgg43 sizeOf43 rfl rfl (by first | rfl | assumption)) ?_
  refine Jp.y 126 rfl (qab rfl rfl rfl rfl) rfl rfl Kp.true (Y.eqlV (xs:=(qaf knY).toArray) (ys:=(qaf knY).toArray) (r:=true) rfl rfl rfl lb_guard (fun w=>by rw [labels_eq rfl rfl,decide_eq_true rfl])) ?_
  refine Jp.y 127 rfl (qaa rfl) rfl rfl Kp.true (Y.qaw rfl rfl rfl) ?_
  refine Jp.y 128 rfl (qaa rfl) rfl rfl Kp.true (Y.move rfl rfl) ?_
  refine Jp.slot 128 rfl (show _ = Value.bool true from rfl) ?_
  refine Jp.y 129 rfl (qab rfl rfl rfl rfl) rfl rfl Kp.true (Y.move rfl rfl) ?_
  refine Jp.y 130 rfl (qab rfl rfl rfl rfl) rfl rfl Kp.true (Y.eql rfl rfl rfl) ?_
  refine Jp.y 131 rfl (qaa rfl) rfl rfl Kp.true (Y.qaw rfl rfl rfl) ?_
  refine Jp.y 132 rfl (qaa rfl) rfl rfl Kp.true (Y.move rfl rfl) ?_
  refine Jp.slot 132 rfl (show _ = Value.bool true from rfl) ?_
  refine Jp.y 133 rfl (qab rfl rfl rfl rfl) rfl rfl Kp.true (Y.move rfl rfl) ?_
  refine Jp.y 134 rfl (qab rfl rfl rfl rfl) rfl rfl Kp.true (Y.struct [(0,_),(1,_),(2,_),(3,_)] [_,_,_,_] rfl rfl places55 zeroValue55 rfl) ?_
  refine Jp.lit 135 31 [(0,_)] [_,_,_,_] rfl (qab rfl rfl rfl rfl) rfl rfl rfl rfl underlying47 sizeOf55 zeroValue55 rfl rfl rfl rfl rfl fun b31=>⟨Kp.true,?_⟩
  refine Jp.freeze (i:=31) rfl (OwnS.up _ _ _ _ _ _) fun ρ16 hle16 hA16=>?_
  refine Jp.call [] [] (told_spec A3 (some ⟨b31,0,none⟩) c3 1 [⟨4,4104,3,4⟩]) 136 rfl (qab rfl rfl rfl rfl) rfl rfl (Runs.fn rfl call11 rfl) (by decide) (by decide) rfl ⟨RdS.up _ _ _ _ _ _ _ hle16 hR3,hA16.rd⟩ ?_
  rintro v17 ρ17 L17 ⟨rfl,rfl,rfl⟩
  refine ⟨rfl,fun hle17=>⟨Kp.true,?_⟩⟩
  refine Jp.y 137 rfl (qaa rfl) rfl rfl Kp.true (Y.qaw rfl rfl rfl) ?_
  refine Jp.y 138 rfl (qaa rfl) rfl rfl Kp.true (Y.move rfl rfl) ?_
  refine Jp.slot 138 rfl (show _ = Value.bool true from rfl) ?_
  refine Jp.y 139 rfl (qab rfl rfl rfl rfl) rfl rfl Kp.true (by exact Y.qad rfl rfl underlying50 rfl sizeOf3 (by decide) (show _ + 0 = _ from rfl)) ?_
  refine Jp.y 140 rfl (qab rfl rfl rfl rfl) rfl rfl Kp.true (Y.qau 18 rfl isAgg3 rfl rfl rfl) ?_
  refine Jp.y 141 rfl (qab rfl rfl rfl rfl) rfl rfl Kp.true (Y.eql rfl rfl rfl) ?_
  refine Jp.y 142 rfl (qaa rfl) rfl rfl Kp.true (Y.qaw rfl rfl rfl) ?_
  refine Jp.y 143 rfl (qaa rfl) rfl rfl Kp.true (Y.move rfl rfl) ?_
  refine Jp.slot 143 rfl (show _ = Value.bool true from rfl) ?_
  refine Jp.y 144 rfl (qab rfl rfl rfl rfl) rfl rfl Kp.true (by exact Y.qad rfl rfl underlying50 rfl sizeOf48 (by decide) (show _ + 2 = _ from rfl)) ?_
  refine Jp.y 145 rfl (qab rfl rfl rfl rfl) rfl rfl Kp.true (Y.qau 18 rfl isAgg48 rfl rfl rfl) ?_
  refine Jp.y 146 rfl (qab rfl rfl rfl rfl) rfl rfl Kp.true (Y.eql rfl rfl rfl) ?_
  refine Jp.y 147 rfl (qaa rfl) rfl rfl Kp.true (Y.qaw rfl rfl rfl) ?_
  refine Jp.y 148 rfl (qaa rfl) rfl rfl Kp.true (Y.move rfl rfl) ?_
  refine Jp.slot 148 rfl (show _ = Value.bool true from rfl) ?_
  refine Jp.y 149 rfl (qab rfl rfl rfl rfl) rfl rfl Kp.true (by exact Y.qag 16 rfl isAgg43 sizeOf43 rfl rfl (by first | rfl | assumption)) ?_
  refine Jp.y 150 rfl (qab rfl rfl rfl rfl) rfl rfl Kp.true (by exact Y.qag 5 rfl isAgg43 sizeOf43 rfl rfl (by first | rfl | assumption)) ?_
  refine Jp.y 151 rfl (qab rfl rfl rfl rfl) rfl rfl Kp.true (Y.eqlV (xs:=(qaf knY).toArray) (ys:=(qaf knY).toArray) (r:=true) rfl rfl rfl lb_guard (fun w=>by rw [labels_eq rfl rfl,decide_eq_true rfl])) ?_
  refine Jp.y 152 rfl (qaa rfl) rfl rfl Kp.true (Y.qaw rfl rfl rfl) ?_
  refine Jp.y 0 rfl (qaa rfl) rfl rfl Kp.true (Y.assign rfl rfl) ?_
  refine Jp.qae hK15 ?_
  refine Cd.ret [] rfl (qbe rfl rfl) trivial ⟨rfl,rfl⟩
end Go.Proofs.Ytnfkalpgidiafaa

namespace Go.Proofs.Ytnfkalpgidiafaa
open Go Go.ChangeShapes Go.WideShapes Go.ChangeAt Go.RowKit
theorem w3 (W : World) :
  Calls Try.prog 3 #[] W fun e w'=>e = .returned (.bool true) ∧ Below W.heap.size W w':=by
 exact (flowKnown_spec).walk W trivial
end Go.Proofs.Ytnfkalpgidiafaa
