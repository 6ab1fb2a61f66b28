import Derived.Test.YtnfkalpgidiafaaZP2
import Derived.Test.YtnfkalpgidiafaaZP3
set_option linter.unusedVariables false
set_option linter.unusedSimpArgs false
set_option maxRecDepth 100000
namespace Go.Proofs.Ytnfkalpgidiafaa
open _root_.Go.Proofs.Try
open Go
def endsP (op : Nat) : Bool:=op == 0 || (decide (3 ≤ op) && decide (op ≤ 10)) || (decide (47 ≤ op) && decide (op ≤ 49))
structure EvP where
 kind : Nat
 addr : Nat
 why : Int
def EvP.cells (e : EvP) : List Value:=[.int .i64 (e.kind : Int),.int .u32 (e.addr : Int),.int .i64 e.why]
def noIns : InsP:=⟨0,0,0,0,0⟩
def noEv : EvP:=⟨0,0,0⟩
def qbn (M : MemG) (pc : Nat) : InsP × EvP :=
 if (qdp M pc 4 4).2 = 0 then (if (decP (qdp M pc 4 4).1).op = 0 then (noIns,⟨2,pc,0⟩) else (decP (qdp M pc 4 4).1,noEv)) else (noIns,⟨1,pc,(qdp M pc 4 4).2⟩)
theorem fetch_spec (b : Nat) (M : MemG) (pc : Nat) (hpc : pc < 4294967296) (hl : (qdp M pc 4 4).1 < 4294967296) : Spec Try.prog 18 #[.pointer (some ⟨b,0,none⟩),.int .u32 pc] (fun _=>True) [(0,qfz b M)]
  (fun ρ ρ' v L=>ρ' = ρ ∧ v = .tuple #[.agg (qbn M pc).1.cells.toArray,.agg (qbn M pc).2.cells.toArray] ∧ L = [(0,qfz b M)]):=by
 refine Spec.of 31 Try.func18 rfl Try.ntmps18 [(0,_),(1,_)] rfl rfl ?_
 intro cx ρ hr h0
 obtain ⟨F,hF⟩ : ∃ F,qbn M pc = F:=⟨_,rfl⟩
 rw [hF]
 unfold qbn at hF
 have hL:=load_spec b M pc 4 4 hpc
 obtain ⟨w,hw⟩ : ∃ w,(qdp M pc 4 4).1 = w:=⟨_,rfl⟩
 obtain ⟨f,hf⟩ : ∃ f,(qdp M pc 4 4).2 = f:=⟨_,rfl⟩
 rw [hw,hf] at hF hL
 rw [hw] at hl
 have hD:=decode_spec w hl
 obtain ⟨i,hi⟩ : ∃ i,decP w = i:=⟨_,rfl⟩
 rw [hi] at hF hD
 refine Cd.seq fun K1 hK1=>?_
 refine Cd.qac [(0,false),(1,false)] rfl rfl ?_
 refine Jp.alloc 4 4 rfl (qaa rfl) rfl rfl rfl zeroValue34 fun b4=>⟨Kp.true,?_⟩
 refine Jp.alloc 5 5 rfl (qaa rfl) rfl rfl rfl zeroValue50 fun b5=>⟨Kp.true,?_⟩
 refine Jp.qae hK1 ?_
 refine Cd.seq fun K2 hK2=>?_
 refine Cd.qac [(0,false),(1,false),(2,false),(3,false),(4,false),(5,false),(6,false),(7,false)] rfl rfl ?_
 refine Jp.y 10 rfl (qaa rfl) rfl rfl Kp.true (Y.move rfl rfl) ?_
 refine Jp.y 11 rfl (qaa rfl) rfl rfl Kp.true (Y.move rfl rfl) ?_
 refine Jp.call [0] [0] hL 12 rfl (qaa rfl) rfl rfl (Runs.fn rfl call37 rfl) (by decide) (by decide) rfl trivial ?_
 rintro v1 ρ1 L1 ⟨rfl,rfl,rfl⟩
 refine ⟨rfl,fun hle1=>⟨Kp.true,?_⟩⟩
 refine Jp.y 9 rfl (qaa rfl) rfl rfl Kp.true (Y.move rfl rfl) ?_
 refine Jp.y 13 rfl (qaa rfl) rfl rfl Kp.true (Y.extract rfl rfl rfl) ?_
 refine Jp.y 14 rfl (qaa rfl) rfl rfl Kp.true (Y.extract rfl rfl rfl) ?_
 refine Jp.y 6 rfl (qaa rfl) rfl rfl Kp.true (Y.assign rfl rfl) ?_
 refine Jp.y 7 rfl (qaa rfl) rfl rfl Kp.true (Y.assign rfl rfl) ?_
 refine Jp.qae hK2 ?_
 refine Cd.seq fun K3 hK3=>?_
 refine Cd.seq fun K4 hK4=>?_
 refine Cd.qac [(0,false),(1,false)] rfl rfl ?_
 refine Jp.y 15 rfl (qaa rfl) rfl rfl Kp.true (Y.move rfl rfl) ?_
 refine Jp.y 16 rfl (qaa rfl) rfl rfl Kp.true (Y.neq rfl rfl rfl) ?_
 refine Jp.qae hK4 ?_
 refine Cd.qaq rfl (fun ga=>?_) (fun ga=>?_)
 ·simp at ga
  rw [if_neg ga] at hF
  subst hF
  refine Cd.seq fun K5 hK5=>?_
  refine Cd.qac [(0,false),(1,false),(2,false),(3,false),(4,false),(5,false)] rfl rfl ?_
  refine Jp.y 17 rfl (qaa rfl) rfl rfl Kp.true (Y.struct [] [_,_,_,_,_] rfl rfl qfo zeroValue34 rfl) ?_
  refine Jp.y 18 rfl (qaa rfl) rfl rfl Kp.true (Y.move rfl rfl) ?_
  refine Jp.y 19 rfl (qaa rfl) rfl rfl Kp.true (Y.move rfl rfl) ?_
  refine Jp.y 20 rfl (qaa rfl) rfl rfl Kp.true (Y.struct [(0,_),(1,_),(2,_)] [_,_,_] rfl rfl qbs zeroValue50 rfl) ?_
  refine Jp.qbo 4 rfl (qaa rfl) rfl rfl sizeOf34 rfl rfl rfl rfl rfl rfl (fun k _ _=>qap k) Kp.true ?_
  refine Jp.qbo 5 rfl (qaa rfl) rfl rfl sizeOf50 rfl rfl rfl rfl rfl rfl (fun k _ _=>qap k) Kp.true ?_
  refine Jp.qae hK5 ?_
  refine Cd.ret [(0,_)] rfl (by exact resCC 4 5 rfl rfl rfl isAgg34 sizeOf34 isAgg50 sizeOf50 rfl rfl rfl rfl) ⟨rfl,trivial⟩ ⟨rfl,rfl,rfl⟩
 ·simp at ga
  rw [if_pos ga] at hF
  refine Cd.qbw hK3 ?_
  refine Cd.seq fun K6 hK6=>?_
  refine Cd.qac [(0,false),(1,false),(2,false),(3,false)] rfl rfl ?_
  refine Jp.y 21 rfl (qaa rfl) rfl rfl Kp.true (Y.move rfl rfl) ?_
  refine Jp.call [] [] hD 22 rfl (qaa rfl) rfl rfl (Runs.fn rfl call36 rfl) (by decide) (by decide) rfl trivial ?_
  rintro v2 ρ2 L2 ⟨rfl,rfl,rfl⟩
  refine ⟨rfl,fun hle2=>⟨Kp.true,?_⟩⟩
  obtain ⟨op,rd,r1,r2,imm⟩:=i
  refine Jp.alloc 8 8 rfl (qaa rfl) rfl rfl rfl zeroValue34 fun b8=>⟨Kp.true,?_⟩
  refine Jp.qbo 8 rfl (qaa rfl) rfl rfl sizeOf34 rfl rfl rfl rfl rfl rfl (fun k _ _=>qap k) Kp.true ?_
  refine Jp.qae hK6 ?_
  refine Cd.seq fun K7 hK7=>?_
  refine Cd.seq fun K8 hK8=>?_
  refine Cd.qac [(0,false),(1,false),(2,false)] rfl rfl ?_
  refine Jp.y 23 rfl (qaa rfl) rfl rfl Kp.true (by exact Y.qad rfl rfl underlying34 rfl sizeOf3 (by decide) (show _ + 0 = _ from rfl)) ?_
  refine Jp.y 24 rfl (qaa rfl) rfl rfl Kp.true (by exact Y.qaw 8 rfl isAgg3 rfl rfl rfl) ?_
  refine Jp.y 25 rfl (qaa rfl) rfl rfl Kp.true (Y.eql rfl rfl rfl) ?_
  refine Jp.qae hK8 ?_
  refine Cd.qaq rfl (fun gb=>?_) (fun gb=>?_)
  ·rw [if_pos (by simpa using gb)] at hF
   subst hF
   refine Cd.seq fun K9 hK9=>?_
   refine Cd.qac [(0,false),(1,false),(2,false),(3,false),(4,false)] rfl rfl ?_
   refine Jp.y 26 rfl (qaa rfl) rfl rfl Kp.true (Y.struct [] [_,_,_,_,_] rfl rfl qfo zeroValue34 rfl) ?_
   refine Jp.y 27 rfl (qaa rfl) rfl rfl Kp.true (Y.move rfl rfl) ?_
   refine Jp.y 28 rfl (qaa rfl) rfl rfl Kp.true (Y.struct [(0,_),(1,_)] [_,_,_] rfl rfl qbs zeroValue50 rfl) ?_
   refine Jp.qbo 4 rfl (qaa rfl) rfl rfl sizeOf34 rfl rfl rfl rfl rfl rfl (fun k _ _=>qap k) Kp.true ?_
   refine Jp.qbo 5 rfl (qaa rfl) rfl rfl sizeOf50 rfl rfl rfl rfl rfl rfl (fun k _ _=>qap k) Kp.true ?_
   refine Jp.qae hK9 ?_
   refine Cd.ret [(0,_)] rfl (by exact resCC 4 5 rfl rfl rfl isAgg34 sizeOf34 isAgg50 sizeOf50 rfl rfl rfl rfl) ⟨rfl,trivial⟩ ⟨rfl,rfl,rfl⟩
  ·rw [if_neg (by simpa using gb)] at hF
   subst hF
   refine Cd.qbw hK7 ?_
   refine Cd.seq fun K10 hK10=>?_
   refine Cd.qac [(0,false),(1,false),(2,false),(3,false)] rfl rfl ?_
   refine Jp.y 29 rfl (qaa rfl) rfl rfl Kp.true (by exact Y.qag 8 rfl isAgg34 sizeOf34 rfl rfl rfl) ?_
   refine Jp.y 30 rfl (qaa rfl) rfl rfl Kp.true (Y.struct [] [_,_,_] rfl rfl qbs zeroValue50 rfl) ?_
   refine Jp.qbo 4 rfl (qaa rfl) rfl rfl sizeOf34 rfl rfl rfl rfl rfl rfl (fun k _ _=>qap k) Kp.true ?_
   refine Jp.qbo 5 rfl (qaa rfl) rfl rfl sizeOf50 rfl rfl rfl rfl rfl rfl (fun k _ _=>qap k) Kp.true ?_
   refine Jp.qae hK10 ?_
   refine Cd.ret [(0,_)] rfl (by exact resCC 4 5 rfl rfl rfl isAgg34 sizeOf34 isAgg50 sizeOf50 rfl rfl rfl rfl) ⟨rfl,trivial⟩ ⟨rfl,rfl,rfl⟩
end Go.Proofs.Ytnfkalpgidiafaa

namespace Go.Proofs.Ytnfkalpgidiafaa
open _root_.Go.Proofs.Try
open Go
structure StP where
 x : List Nat
 pc : Nat
 ret : Int
def StP.cells (s : StP) : List Value:=qcf .u32 s.x ++ [.int .u32 (s.pc : Int),.int .i64 s.ret]
structure StOk (s : StP) : Prop where
 len : s.x.length = 32
 lt : ∀ y ∈ s.x,y < 4294967296
 pc : s.pc < 4294967296
 ret : -9223372036854775808 ≤ s.ret ∧ s.ret ≤ 4611686018427387904
theorem StP.len {s : StP} (h : StOk s) : s.cells.length = 34:=by simp [StP.cells,qcf,h.len]
theorem StP.one (s : StP) : s.cells.all one = true:=by
 unfold StP.cells qcf
 rw [List.all_append,List.all_map]
 simp [Ytnfkalpgidiafaa.one,List.all_eq_true]
theorem StP.cX {s : StP} (h : StOk s) {r v : Nat} (hr : s.x[r]? = some v) : s.cells.toArray[r]? = some (.int .u32 (v : Int)):=by
 have hl : r < s.x.length:=(List.getElem?_eq_some_iff.1 hr).1
 have e : s.x[r] = v:=by rw [List.getElem?_eq_getElem hl] at hr; injection hr
 simp [StP.cells,qcf,List.getElem?_append,hl,e]
theorem StP.cPc {s : StP} (h : StOk s) : s.cells.toArray[32]? = some (.int .u32 (s.pc : Int)):=by
 simp [StP.cells,qcf,List.getElem?_append,h.len]
theorem StP.cRet {s : StP} (h : StOk s) : s.cells.toArray[33]? = some (.int .i64 s.ret):=by
 simp [StP.cells,qcf,List.getElem?_append,h.len]
def regP (s : StP) (r : Nat) : Nat:=if r = 0 then 0 else s.x.getD r 0
theorem regP_lt {s : StP} (h : StOk s) (r : Nat) : regP s r < 4294967296:=by
 unfold regP
 split
 ·omega
 ·rw [List.getD_eq_getElem?_getD]
  cases hx : s.x[r]? with
  | none=>simp
  | some v=>exact h.lt v (List.mem_of_getElem? hx)
theorem regP_get {s : StP} (h : StOk s) {r : Nat} (hr : r < 32) (h0 : r ≠ 0) : s.x[r]? = some (regP s r):=by
 have hl : r < s.x.length:=by rw [h.len]; exact hr
 simp [regP,h0,List.getD_eq_getElem?_getD,hl]
theorem qfn (s : StP) (r : Nat) (hs : StOk s) (hr : r < 32) : Spec Try.prog 66 #[.agg s.cells.toArray,.int .i64 r] (fun _=>True) [] (fun ρ ρ' v L=>ρ' = ρ ∧ v = .int .u32 (regP s r : Int) ∧ L = []):=by
 refine Spec.of 15 Try.func66 rfl Try.ntmps66 [(0,_),(1,_)] rfl rfl ?_
 intro cx ρ hr' h0
 refine Cd.seq fun K1 hK1=>?_
 refine Cd.qac [(0,false),(1,false)] rfl rfl ?_
 refine Jp.box 1 2 rfl (qaa rfl) rfl rfl rfl rfl fun b1=>⟨Kp.true,?_⟩
 refine Jp.y 4 rfl (qaa rfl) rfl rfl Kp.true (Y.assign rfl rfl) ?_
 refine Jp.qae hK1 ?_
 refine Cd.seq fun K2 hK2=>?_
 refine Cd.seq fun K3 hK3=>?_
 refine Cd.qac [(0,false),(1,false),(2,false),(3,false),(4,false),(5,false)] rfl rfl ?_
 refine Jp.y 5 rfl (qaa rfl) rfl rfl Kp.true (Y.move rfl rfl) ?_
 refine Jp.y 6 rfl (qaa rfl) rfl rfl Kp.true (Y.leq rfl rfl rfl) ?_
 refine Jp.y 7 rfl (qaa rfl) rfl rfl Kp.true (Y.move rfl rfl) ?_
 refine Jp.split 7 rfl (fun g7=>?_) (fun g7=>?_)
 ·skip
  try simp only [sG0] at g7
  have hz : r = 0:=by omega
  refine Jp.qat 8 rfl (qab rfl rfl rfl rfl) rfl rfl Kp.true ?_
  refine Jp.qat 9 rfl (qab rfl rfl rfl rfl) rfl rfl Kp.true ?_
  refine Jp.y 10 rfl (qaa rfl) rfl rfl Kp.true (Y.qba rfl rfl rfl) ?_
  refine Jp.qae hK3 ?_
  refine Cd.qdk rfl ?_
  refine Cd.seq fun K4 hK4=>?_
  refine Cd.qac [(0,false)] rfl rfl ?_
  refine Jp.y 4 rfl (qaa rfl) rfl rfl Kp.true (Y.assign rfl rfl) ?_
  refine Jp.qae hK4 ?_
  refine Cd.ret [] rfl (qbe rfl rfl) trivial ⟨rfl,by rw [hz]; rfl,rfl⟩
 try simp only [sG0] at g7
 refine Jp.y 8 rfl (qab rfl rfl rfl rfl) rfl rfl Kp.true (Y.move rfl rfl) ?_
 refine Jp.y 9 rfl (qab rfl rfl rfl rfl) rfl rfl Kp.true (Y.geq rfl rfl rfl) ?_
 refine Jp.y 10 rfl (qaa rfl) rfl rfl Kp.true (Y.qaz rfl rfl rfl) ?_
 refine Jp.qae hK3 ?_
 refine Cd.qaq rfl (fun g10=>?_) (fun g10=>?_)
 ·skip
  try simp only [sG0] at g10
  have hz : r = 0:=by omega
  refine Cd.seq fun K5 hK5=>?_
  refine Cd.qac [(0,false)] rfl rfl ?_
  refine Jp.y 4 rfl (qaa rfl) rfl rfl Kp.true (Y.assign rfl rfl) ?_
  refine Jp.qae hK5 ?_
  refine Cd.ret [] rfl (qbe rfl rfl) trivial ⟨rfl,by rw [hz]; rfl,rfl⟩
 try simp only [sG0] at g10
 refine Cd.qbw hK2 ?_
 refine Cd.seq fun K6 hK6=>?_
 refine Cd.qac [(0,false),(1,false),(2,false),(3,false),(4,false)] rfl rfl ?_
 refine Jp.y 11 rfl (qaa rfl) rfl rfl Kp.true (Y.move rfl rfl) ?_
 have hr0 : r ≠ 0:=by omega
 refine Jp.y 12 rfl (qaa rfl) rfl rfl Kp.true (by exact Y.qad rfl rfl underlying46 rfl sizeOf44 (by decide) (show _ + 0 = _ from rfl)) ?_
 refine Jp.y 13 rfl (qaa rfl) rfl rfl Kp.true (Y.qal (q:=r) rfl rfl rfl underlying44 sizeOf31 (by omega) (by omega) (by omega)) ?_
 refine Jp.y 14 rfl (qaa rfl) rfl rfl Kp.true (by exact Y.qbk 1 rfl isAgg31 rfl rfl (HasC.pt (StP.cX hs (regP_get hs hr hr0)))) ?_
 refine Jp.y 4 rfl (qaa rfl) rfl rfl Kp.true (Y.assign rfl rfl) ?_
 refine Jp.qae hK6 ?_
 refine Cd.ret [] rfl (qbe rfl rfl) trivial ⟨rfl,rfl,rfl⟩
def addrP (i : InsP) (s : StP) : Nat:=u32 ((regP s i.r1 : Int) + (u32 i.imm : Int))
end Go.Proofs.Ytnfkalpgidiafaa

namespace Go.Proofs.Ytnfkalpgidiafaa
open _root_.Go.Proofs.Try
open Go
structure InsOk (i : InsP) : Prop where
 op : i.op < 50
 rd : i.rd < 32
 r1 : i.r1 < 32
 r2 : i.r2 < 32
 imm : -2147483648 ≤ i.imm ∧ i.imm ≤ 2147483647
theorem qde (i : InsP) (s : StP) (hs : StOk s) (hi : InsOk i) : Spec Try.prog 43 #[.agg i.cells.toArray,.agg s.cells.toArray] (fun _=>True) [] (fun ρ ρ' v L=>ρ' = ρ ∧ v = .int .u32 (addrP i s : Int) ∧ L = []):=by
 obtain ⟨op,rd,r1,r2,imm⟩:=i
 refine Spec.of 13 Try.func43 rfl Try.ntmps43 [(0,_),(1,_)] rfl rfl ?_
 intro cx ρ hr' h0
 have hsl:=StP.len hs
 refine Cd.seq fun K1 hK1=>?_
 refine Cd.qac [(0,false),(1,false),(2,false)] rfl rfl ?_
 refine Jp.box 2 2 rfl (qaa rfl) rfl rfl rfl rfl fun b2=>⟨Kp.true,?_⟩
 refine Jp.box 3 3 rfl (qaa rfl) rfl rfl rfl rfl fun b3=>⟨Kp.true,?_⟩
 refine Jp.y 4 rfl (qaa rfl) rfl rfl Kp.true (Y.assign rfl rfl) ?_
 refine Jp.qae hK1 ?_
 refine Cd.seq fun K2 hK2=>?_
 refine Cd.drawn [(2,_),(3,_)] ⟨rfl,rfl,trivial⟩ [(0,true),(1,true),(2,true),(4,true),(5,true),(6,true),(3,false),(7,true),(8,true)] follows (by kernel_rfl) (fun hrl=>?_)
 refine Jp.q 5 rfl (qaa rfl) rfl rfl (by exact Y.qag 3 rfl isAgg46 sizeOf46 rfl rfl (by first | rfl | assumption)) ?_
 refine Jp.q 6 rfl (qaa rfl) rfl rfl (by exact Y.qad rfl rfl underlying34 rfl sizeOf3 (by decide) (show _ + 2 = _ from rfl)) ?_
 refine Jp.q 7 rfl (qaa rfl) rfl rfl (by exact Y.qaw 2 rfl isAgg3 rfl rfl rfl) ?_
 refine Jp.q 9 rfl (qaa rfl) rfl rfl (by exact Y.qad rfl rfl underlying34 rfl sizeOf21 (by decide) (show _ + 4 = _ from rfl)) ?_
 refine Jp.q 10 rfl (qaa rfl) rfl rfl (by exact Y.qaw 2 rfl isAgg21 rfl rfl rfl) ?_
 refine Jp.q 11 rfl (qaa rfl) rfl rfl (Y.qav rfl rfl underlying21 underlying31 (by rfl)) ?_
 refine Jp.call [] [] (qfn s r1 hs hi.r1) 8 rfl (qaa rfl) rfl rfl (Runs.fn rfl call66 rfl) (by decide) (by decide) rfl trivial ?_
 rintro v1 ρ1 L1 ⟨rfl,rfl,rfl⟩
 refine ⟨rfl,fun hle1=>⟨(Kp.st ⟨rfl,rfl,trivial⟩),?_⟩⟩
 refine Jp.q 12 rfl (qaa rfl) rfl rfl (Y.qcd rfl rfl rfl (by rfl)) ?_
 refine Jp.q 4 rfl (qaa rfl) rfl rfl (Y.assign rfl rfl) ?_
 refine Jp.qae hK2 ?_
 refine Cd.ret [] rfl (qbe rfl rfl) trivial ⟨rfl,by rw [qbz imm,qbz]; rfl,rfl⟩
def qcl (op : Nat) : Nat × Bool:=if op = 11 then (1,true) else if op = 12 then (2,true) else if op = 14 ∨ op = 16 then (1,false) else if op = 15 ∨ op = 17 then (2,false) else (4,false)
theorem qgn (op : Nat) : Spec Try.prog 42 #[.int .i64 op] (fun _=>True) [] (fun ρ ρ' v L=>ρ' = ρ ∧ v = .tuple #[.int .i64 ((qcl op).1 : Int),.bool (qcl op).2] ∧ L = []):=by
 refine Spec.of 15 Try.func42 rfl Try.ntmps42 [(0,_)] rfl rfl ?_
 intro cx ρ hr' h0
 refine Cd.seq fun K4 hK4=>?_
 refine Cd.qac [(0,false),(1,false)] rfl rfl ?_
 refine Jp.y 2 rfl (qaa rfl) rfl rfl Kp.true (Y.assign rfl rfl) ?_
 refine Jp.y 3 rfl (qaa rfl) rfl rfl Kp.true (Y.assign rfl rfl) ?_
 refine Jp.qae hK4 ?_
 refine Cd.seq fun K5 hK5=>?_
 refine Cd.seq fun K6 hK6=>?_
 refine Cd.qac [(0,false)] rfl rfl ?_
 refine Jp.y 4 rfl (qaa rfl) rfl rfl Kp.true (Y.move rfl rfl) ?_
 refine Jp.qae hK6 ?_
 refine Cd.block ?_
 refine Cd.seq fun K7 hK7=>?_
 refine Cd.qac [(0,false),(1,false)] rfl rfl ?_
 refine Jp.y 6 rfl (qaa rfl) rfl rfl Kp.true (Y.eql rfl rfl rfl) ?_
 refine Jp.y 5 rfl (qaa rfl) rfl rfl Kp.true (Y.assign rfl rfl) ?_
 refine Jp.qae hK7 ?_
 refine Cd.qaq rfl (fun g5=>?_) (fun g5=>?_)
 ·skip
  try simp only [sG0] at g5
  refine Cd.seq fun K8 hK8=>?_
  refine Cd.qac [(0,false),(1,false)] rfl rfl ?_
  refine Jp.y 2 rfl (qaa rfl) rfl rfl Kp.true (Y.assign rfl rfl) ?_
  refine Jp.y 3 rfl (qaa rfl) rfl rfl Kp.true (Y.assign rfl rfl) ?_
  refine Jp.qae hK8 ?_
  refine Cd.ret [] rfl (qbr rfl rfl rfl) trivial ⟨rfl,by (unfold qcl; repeat first | rfl | rw [if_pos (by omega)] | rw [if_neg (by omega)]),rfl⟩
 ·skip
  try simp only [sG0] at g5
  refine Cd.seq fun K9 hK9=>?_
  refine Cd.qac [(0,false),(1,false)] rfl rfl ?_
  refine Jp.y 8 rfl (qaa rfl) rfl rfl Kp.true (Y.eql rfl rfl rfl) ?_
  refine Jp.y 7 rfl (qaa rfl) rfl rfl Kp.true (Y.assign rfl rfl) ?_
  refine Jp.qae hK9 ?_
  refine Cd.qaq rfl (fun g7=>?_) (fun g7=>?_)
  ·skip
   try simp only [sG0] at g7
   refine Cd.seq fun K10 hK10=>?_
   refine Cd.qac [(0,false),(1,false)] rfl rfl ?_
   refine Jp.y 2 rfl (qaa rfl) rfl rfl Kp.true (Y.assign rfl rfl) ?_
   refine Jp.y 3 rfl (qaa rfl) rfl rfl Kp.true (Y.assign rfl rfl) ?_
   refine Jp.qae hK10 ?_
   refine Cd.ret [] rfl (qbr rfl rfl rfl) trivial ⟨rfl,by (unfold qcl; repeat first | rfl | rw [if_pos (by omega)] | rw [if_neg (by omega)]),rfl⟩
  ·skip
   try simp only [sG0] at g7
   refine Cd.seq fun K11 hK11=>?_
   refine Cd.seq fun K12 hK12=>?_
   refine Cd.qac [(0,false),(1,false)] rfl rfl ?_
   refine Jp.y 10 rfl (qaa rfl) rfl rfl Kp.true (Y.eql rfl rfl rfl) ?_
   refine Jp.y 9 rfl (qaa rfl) rfl rfl Kp.true (Y.assign rfl rfl) ?_
   refine Jp.qae hK12 ?_
   refine Cd.qaq rfl (fun g9=>?_) (fun g9=>?_)
   ·skip
    refine Cd.slot 9 rfl (show _ = Value.bool true from congrArg Value.bool g9) ?_
    try simp only [sG0] at g9
    refine Cd.qbw hK11 ?_
    refine Cd.qdk rfl ?_
    refine Cd.seq fun K13 hK13=>?_
    refine Cd.qac [(0,false),(1,false)] rfl rfl ?_
    refine Jp.y 2 rfl (qaa rfl) rfl rfl Kp.true (Y.assign rfl rfl) ?_
    refine Jp.y 3 rfl (qaa rfl) rfl rfl Kp.true (Y.assign rfl rfl) ?_
    refine Jp.qae hK13 ?_
    refine Cd.ret [] rfl (qbr rfl rfl rfl) trivial ⟨rfl,by (unfold qcl; repeat first | rfl | rw [if_pos (by omega)] | rw [if_neg (by omega)]),rfl⟩
   ·skip
    try simp only [sG0] at g9
    refine Cd.qac [(0,false),(1,false)] rfl rfl ?_
    refine Jp.y 11 rfl (qaa rfl) rfl rfl Kp.true (Y.eql rfl rfl rfl) ?_
    refine Jp.y 9 rfl (qaa rfl) rfl rfl Kp.true (Y.assign rfl rfl) ?_
    refine Jp.qae hK11 ?_
    refine Cd.qaq rfl (fun g9=>?_) (fun g9=>?_)
    ·skip
     try simp only [sG0] at g9
     refine Cd.seq fun K14 hK14=>?_
     refine Cd.qac [(0,false),(1,false)] rfl rfl ?_
     refine Jp.y 2 rfl (qaa rfl) rfl rfl Kp.true (Y.assign rfl rfl) ?_
     refine Jp.y 3 rfl (qaa rfl) rfl rfl Kp.true (Y.assign rfl rfl) ?_
     refine Jp.qae hK14 ?_
     refine Cd.ret [] rfl (qbr rfl rfl rfl) trivial ⟨rfl,by (unfold qcl; repeat first | rfl | rw [if_pos (by omega)] | rw [if_neg (by omega)]),rfl⟩
    ·skip
     try simp only [sG0] at g9
     refine Cd.seq fun K15 hK15=>?_
     refine Cd.seq fun K16 hK16=>?_
     refine Cd.qac [(0,false),(1,false)] rfl rfl ?_
     refine Jp.y 13 rfl (qaa rfl) rfl rfl Kp.true (Y.eql rfl rfl rfl) ?_
     refine Jp.y 12 rfl (qaa rfl) rfl rfl Kp.true (Y.assign rfl rfl) ?_
     refine Jp.qae hK16 ?_
     refine Cd.qaq rfl (fun g12=>?_) (fun g12=>?_)
     ·skip
      refine Cd.slot 12 rfl (show _ = Value.bool true from congrArg Value.bool g12) ?_
      try simp only [sG0] at g12
      refine Cd.qbw hK15 ?_
      refine Cd.qdk rfl ?_
      refine Cd.seq fun K17 hK17=>?_
      refine Cd.qac [(0,false),(1,false)] rfl rfl ?_
      refine Jp.y 2 rfl (qaa rfl) rfl rfl Kp.true (Y.assign rfl rfl) ?_
      refine Jp.y 3 rfl (qaa rfl) rfl rfl Kp.true (Y.assign rfl rfl) ?_
      refine Jp.qae hK17 ?_
      refine Cd.ret [] rfl (qbr rfl rfl rfl) trivial ⟨rfl,by (unfold qcl; repeat first | rfl | rw [if_pos (by omega)] | rw [if_neg (by omega)]),rfl⟩
     ·skip
      try simp only [sG0] at g12
      refine Cd.qac [(0,false),(1,false)] rfl rfl ?_
      refine Jp.y 14 rfl (qaa rfl) rfl rfl Kp.true (Y.eql rfl rfl rfl) ?_
      refine Jp.y 12 rfl (qaa rfl) rfl rfl Kp.true (Y.assign rfl rfl) ?_
      refine Jp.qae hK15 ?_
      refine Cd.qaq rfl (fun g12=>?_) (fun g12=>?_)
      ·skip
       try simp only [sG0] at g12
       refine Cd.seq fun K18 hK18=>?_
       refine Cd.qac [(0,false),(1,false)] rfl rfl ?_
       refine Jp.y 2 rfl (qaa rfl) rfl rfl Kp.true (Y.assign rfl rfl) ?_
       refine Jp.y 3 rfl (qaa rfl) rfl rfl Kp.true (Y.assign rfl rfl) ?_
       refine Jp.qae hK18 ?_
       refine Cd.ret [] rfl (qbr rfl rfl rfl) trivial ⟨rfl,by (unfold qcl; repeat first | rfl | rw [if_pos (by omega)] | rw [if_neg (by omega)]),rfl⟩
      ·skip
       try simp only [sG0] at g12
       refine Cd.over rfl hK5 ?_
       refine Cd.seq fun K19 hK19=>?_
       refine Cd.qac [(0,false),(1,false)] rfl rfl ?_
       refine Jp.y 2 rfl (qaa rfl) rfl rfl Kp.true (Y.assign rfl rfl) ?_
       refine Jp.y 3 rfl (qaa rfl) rfl rfl Kp.true (Y.assign rfl rfl) ?_
       refine Jp.qae hK19 ?_
       refine Cd.ret [] rfl (qbr rfl rfl rfl) trivial ⟨rfl,by (unfold qcl; repeat first | rfl | rw [if_pos (by omega)] | rw [if_neg (by omega)]),rfl⟩
def qeh (op : Nat) : Bool:=decide (11 ≤ op ∧ op ≤ 15)
def storesP (op : Nat) : Bool:=decide (16 ≤ op ∧ op ≤ 18)
def qcq (op : Nat) : Bool:=decide (1 ≤ op ∧ op ≤ 4 ∨ 11 ≤ op ∧ op ≤ 15 ∨ 19 ≤ op ∧ op ≤ 45)
theorem qeg (op : Nat) : Spec Try.prog 47 #[.int .i64 op] (fun _=>True) [] (fun ρ ρ' v L=>ρ' = ρ ∧ v = .bool (qeh op) ∧ L = []):=by
 refine Spec.of 9 Try.func47 rfl Try.ntmps47 [(0,_)] rfl rfl ?_
 intro cx ρ hr' h0
 refine Cd.seq fun K20 hK20=>?_
 refine Cd.qac [(0,false)] rfl rfl ?_
 refine Jp.y 2 rfl (qaa rfl) rfl rfl Kp.true (Y.assign rfl rfl) ?_
 refine Jp.qae hK20 ?_
 refine Cd.seq fun K21 hK21=>?_
 refine Cd.qac [(0,false),(1,false),(2,false),(3,false),(4,false),(5,false),(6,false)] rfl rfl ?_
 refine Jp.y 3 rfl (qaa rfl) rfl rfl Kp.true (Y.move rfl rfl) ?_
 refine Jp.y 4 rfl (qaa rfl) rfl rfl Kp.true (Y.geq rfl rfl rfl) ?_
 refine Jp.y 5 rfl (qaa rfl) rfl rfl Kp.true (Y.move rfl rfl) ?_
 refine Jp.split 5 rfl (fun g5=>?_) (fun g5=>?_)
 ·skip
  try simp only [sG0] at g5
  refine Jp.y 6 rfl (qab rfl rfl rfl rfl) rfl rfl Kp.true (Y.move rfl rfl) ?_
  refine Jp.y 7 rfl (qab rfl rfl rfl rfl) rfl rfl Kp.true (Y.leq rfl rfl rfl) ?_
  refine Jp.y 8 rfl (qaa rfl) rfl rfl Kp.true (Y.qba rfl rfl rfl) ?_
  refine Jp.y 2 rfl (qaa rfl) rfl rfl Kp.true (Y.assign rfl rfl) ?_
  refine Jp.qae hK21 ?_
  refine Cd.ret [] rfl (qbe rfl rfl) trivial ⟨rfl,congrArg Value.bool (by rw [Bool.eq_iff_iff]; simp only [qeh,decide_eq_true_eq,Bool.false_eq_true,true_iff,false_iff]; omega),rfl⟩
 ·skip
  try simp only [sG0] at g5
  refine Jp.qat 6 rfl (qab rfl rfl rfl rfl) rfl rfl Kp.true ?_
  refine Jp.qat 7 rfl (qab rfl rfl rfl rfl) rfl rfl Kp.true ?_
  refine Jp.y 8 rfl (qaa rfl) rfl rfl Kp.true (Y.qaz rfl rfl rfl) ?_
  refine Jp.y 2 rfl (qaa rfl) rfl rfl Kp.true (Y.assign rfl rfl) ?_
  refine Jp.qae hK21 ?_
  refine Cd.ret [] rfl (qbe rfl rfl) trivial ⟨rfl,congrArg Value.bool (by rw [Bool.eq_iff_iff]; simp only [qeh,decide_eq_true_eq,Bool.false_eq_true,true_iff,false_iff]; omega),rfl⟩
theorem qgc (op : Nat) : Spec Try.prog 20 #[.int .i64 op] (fun _=>True) [] (fun ρ ρ' v L=>ρ' = ρ ∧ v = .bool (storesP op) ∧ L = []):=by
 refine Spec.of 9 Try.func20 rfl Try.ntmps20 [(0,_)] rfl rfl ?_
 intro cx ρ hr' h0
 refine Cd.seq fun K22 hK22=>?_
 refine Cd.qac [(0,false)] rfl rfl ?_
 refine Jp.y 2 rfl (qaa rfl) rfl rfl Kp.true (Y.assign rfl rfl) ?_
 refine Jp.qae hK22 ?_
 refine Cd.seq fun K23 hK23=>?_
 refine Cd.qac [(0,false),(1,false),(2,false),(3,false),(4,false),(5,false),(6,false)] rfl rfl ?_
 refine Jp.y 3 rfl (qaa rfl) rfl rfl Kp.true (Y.move rfl rfl) ?_
 refine Jp.y 4 rfl (qaa rfl) rfl rfl Kp.true (Y.geq rfl rfl rfl) ?_
 refine Jp.y 5 rfl (qaa rfl) rfl rfl Kp.true (Y.move rfl rfl) ?_
 refine Jp.split 5 rfl (fun g5=>?_) (fun g5=>?_)
 ·skip
  try simp only [sG0] at g5
  refine Jp.y 6 rfl (qab rfl rfl rfl rfl) rfl rfl Kp.true (Y.move rfl rfl) ?_
  refine Jp.y 7 rfl (qab rfl rfl rfl rfl) rfl rfl Kp.true (Y.leq rfl rfl rfl) ?_
  refine Jp.y 8 rfl (qaa rfl) rfl rfl Kp.true (Y.qba rfl rfl rfl) ?_
  refine Jp.y 2 rfl (qaa rfl) rfl rfl Kp.true (Y.assign rfl rfl) ?_
  refine Jp.qae hK23 ?_
  refine Cd.ret [] rfl (qbe rfl rfl) trivial ⟨rfl,congrArg Value.bool (by rw [Bool.eq_iff_iff]; simp only [storesP,decide_eq_true_eq,Bool.false_eq_true,true_iff,false_iff]; omega),rfl⟩
 ·skip
  try simp only [sG0] at g5
  refine Jp.qat 6 rfl (qab rfl rfl rfl rfl) rfl rfl Kp.true ?_
  refine Jp.qat 7 rfl (qab rfl rfl rfl rfl) rfl rfl Kp.true ?_
  refine Jp.y 8 rfl (qaa rfl) rfl rfl Kp.true (Y.qaz rfl rfl rfl) ?_
  refine Jp.y 2 rfl (qaa rfl) rfl rfl Kp.true (Y.assign rfl rfl) ?_
  refine Jp.qae hK23 ?_
  refine Cd.ret [] rfl (qbe rfl rfl) trivial ⟨rfl,congrArg Value.bool (by rw [Bool.eq_iff_iff]; simp only [storesP,decide_eq_true_eq,Bool.false_eq_true,true_iff,false_iff]; omega),rfl⟩
theorem qga (op : Nat) : Spec Try.prog 22 #[.int .i64 op] (fun _=>True) [] (fun ρ ρ' v L=>ρ' = ρ ∧ v = .bool (qcq op) ∧ L = []):=by
 refine Spec.of 21 Try.func22 rfl Try.ntmps22 [(0,_)] rfl rfl ?_
 intro cx ρ hr' h0
 refine Cd.seq fun K24 hK24=>?_
 refine Cd.qac [(0,false)] rfl rfl ?_
 refine Jp.y 2 rfl (qaa rfl) rfl rfl Kp.true (Y.assign rfl rfl) ?_
 refine Jp.qae hK24 ?_
 refine Cd.seq fun K25 hK25=>?_
 refine Cd.qac [(0,false),(1,false),(2,false),(3,false),(4,false),(5,false),(6,false),(7,false),(8,false),(9,false),(10,false),(11,false),(12,false),(13,false),(14,false),(15,false),(16,false),(17,false),(18,false)] rfl rfl ?_
 refine Jp.y 3 rfl (qaa rfl) rfl rfl Kp.true (Y.move rfl rfl) ?_
 refine Jp.y 4 rfl (qaa rfl) rfl rfl Kp.true (Y.geq rfl rfl rfl) ?_
 refine Jp.y 5 rfl (qaa rfl) rfl rfl Kp.true (Y.move rfl rfl) ?_
 refine Jp.split 5 rfl (fun g5=>?_) (fun g5=>?_)
 ·skip
  try simp only [sG0] at g5
  refine Jp.y 6 rfl (qab rfl rfl rfl rfl) rfl rfl Kp.true (Y.move rfl rfl) ?_
  refine Jp.y 7 rfl (qab rfl rfl rfl rfl) rfl rfl Kp.true (Y.leq rfl rfl rfl) ?_
  refine Jp.y 8 rfl (qaa rfl) rfl rfl Kp.true (Y.qba rfl rfl rfl) ?_
  refine Jp.y 9 rfl (qaa rfl) rfl rfl Kp.true (Y.move rfl rfl) ?_
  refine Jp.split 9 rfl (fun g9=>?_) (fun g9=>?_)
  ·skip
   try simp only [sG0] at g9
   refine Jp.qat 10 rfl (qab rfl rfl rfl rfl) rfl rfl Kp.true ?_
   refine Jp.qat 11 rfl (qab rfl rfl rfl rfl) rfl rfl Kp.true ?_
   refine Jp.y 12 rfl (qaa rfl) rfl rfl Kp.true (Y.qba rfl rfl rfl) ?_
   refine Jp.y 13 rfl (qaa rfl) rfl rfl Kp.true (Y.move rfl rfl) ?_
   refine Jp.qat 14 rfl (qab rfl rfl rfl rfl) rfl rfl Kp.true ?_
   refine Jp.qat 15 rfl (qab rfl rfl rfl rfl) rfl rfl Kp.true ?_
   refine Jp.qat 16 rfl (qab rfl rfl rfl rfl) rfl rfl Kp.true ?_
   refine Jp.qat 17 rfl (qdg rfl rfl rfl) rfl rfl Kp.true ?_
   refine Jp.qat 18 rfl (qdg rfl rfl rfl) rfl rfl Kp.true ?_
   refine Jp.qat 19 rfl (qab rfl rfl rfl rfl) rfl rfl Kp.true ?_
   refine Jp.y 20 rfl (qaa rfl) rfl rfl Kp.true (Y.qba rfl rfl rfl) ?_
   refine Jp.y 2 rfl (qaa rfl) rfl rfl Kp.true (Y.assign rfl rfl) ?_
   refine Jp.qae hK25 ?_
   refine Cd.ret [] rfl (qbe rfl rfl) trivial ⟨rfl,congrArg Value.bool (by rw [Bool.eq_iff_iff]; (try simp only [qeh,decide_eq_true_eq,decide_eq_false_iff_not] at *); simp only [qcq,decide_eq_true_eq,Bool.false_eq_true,true_iff,false_iff]; omega),rfl⟩
  ·skip
   try simp only [sG0] at g9
   refine Jp.y 10 rfl (qab rfl rfl rfl rfl) rfl rfl Kp.true (Y.move rfl rfl) ?_
   refine Jp.call [] [] (qeg op) 11 rfl (qab rfl rfl rfl rfl) rfl rfl (Runs.fn rfl call47 rfl) (by decide) (by decide) rfl trivial ?_
   rintro v101 ρ101 L101 ⟨rfl,rfl,rfl⟩
   refine ⟨rfl,fun hle101=>⟨Kp.true,?_⟩⟩
   refine Jp.y 12 rfl (qaa rfl) rfl rfl Kp.true (Y.qaz rfl rfl rfl) ?_
   refine Jp.y 13 rfl (qaa rfl) rfl rfl Kp.true (Y.move rfl rfl) ?_
   refine Jp.split 13 rfl (fun g13=>?_) (fun g13=>?_)
   ·skip
    try simp only [sG0] at g13
    refine Jp.qat 14 rfl (qab rfl rfl rfl rfl) rfl rfl Kp.true ?_
    refine Jp.qat 15 rfl (qab rfl rfl rfl rfl) rfl rfl Kp.true ?_
    refine Jp.qat 16 rfl (qab rfl rfl rfl rfl) rfl rfl Kp.true ?_
    refine Jp.qat 17 rfl (qdg rfl rfl rfl) rfl rfl Kp.true ?_
    refine Jp.qat 18 rfl (qdg rfl rfl rfl) rfl rfl Kp.true ?_
    refine Jp.qat 19 rfl (qab rfl rfl rfl rfl) rfl rfl Kp.true ?_
    refine Jp.y 20 rfl (qaa rfl) rfl rfl Kp.true (Y.qba rfl rfl rfl) ?_
    refine Jp.y 2 rfl (qaa rfl) rfl rfl Kp.true (Y.assign rfl rfl) ?_
    refine Jp.qae hK25 ?_
    refine Cd.ret [] rfl (qbe rfl rfl) trivial ⟨rfl,congrArg Value.bool (by rw [Bool.eq_iff_iff]; (try simp only [qeh,decide_eq_true_eq,decide_eq_false_iff_not] at *); simp only [qcq,decide_eq_true_eq,Bool.false_eq_true,true_iff,false_iff]; omega),rfl⟩
   ·skip
    try simp only [sG0] at g13
    refine Jp.y 14 rfl (qab rfl rfl rfl rfl) rfl rfl Kp.true (Y.move rfl rfl) ?_
    refine Jp.y 15 rfl (qab rfl rfl rfl rfl) rfl rfl Kp.true (Y.geq rfl rfl rfl) ?_
    refine Jp.y 16 rfl (qab rfl rfl rfl rfl) rfl rfl Kp.true (Y.move rfl rfl) ?_
    refine Jp.split 16 rfl (fun g16=>?_) (fun g16=>?_)
    ·skip
     try simp only [sG0] at g16
     refine Jp.y 17 rfl (qab rfl rfl rfl rfl) rfl rfl Kp.true (Y.move rfl rfl) ?_
     refine Jp.y 18 rfl (qab rfl rfl rfl rfl) rfl rfl Kp.true (Y.leq rfl rfl rfl) ?_
     refine Jp.y 19 rfl (qab rfl rfl rfl rfl) rfl rfl Kp.true (Y.qba rfl rfl rfl) ?_
     refine Jp.y 20 rfl (qaa rfl) rfl rfl Kp.true (Y.qaz rfl rfl rfl) ?_
     refine Jp.y 2 rfl (qaa rfl) rfl rfl Kp.true (Y.assign rfl rfl) ?_
     refine Jp.qae hK25 ?_
     refine Cd.ret [] rfl (qbe rfl rfl) trivial ⟨rfl,congrArg Value.bool (by rw [Bool.eq_iff_iff]; (try simp only [qeh,decide_eq_true_eq,decide_eq_false_iff_not] at *); simp only [qcq,decide_eq_true_eq,Bool.false_eq_true,true_iff,false_iff]; omega),rfl⟩
    ·skip
     try simp only [sG0] at g16
     refine Jp.qat 17 rfl (qab rfl rfl rfl rfl) rfl rfl Kp.true ?_
     refine Jp.qat 18 rfl (qab rfl rfl rfl rfl) rfl rfl Kp.true ?_
     refine Jp.y 19 rfl (qab rfl rfl rfl rfl) rfl rfl Kp.true (Y.qaz rfl rfl rfl) ?_
     refine Jp.y 20 rfl (qaa rfl) rfl rfl Kp.true (Y.qaz rfl rfl rfl) ?_
     refine Jp.y 2 rfl (qaa rfl) rfl rfl Kp.true (Y.assign rfl rfl) ?_
     refine Jp.qae hK25 ?_
     refine Cd.ret [] rfl (qbe rfl rfl) trivial ⟨rfl,congrArg Value.bool (by rw [Bool.eq_iff_iff]; (try simp only [qeh,decide_eq_true_eq,decide_eq_false_iff_not] at *); simp only [qcq,decide_eq_true_eq,Bool.false_eq_true,true_iff,false_iff]; omega),rfl⟩
 ·skip
  try simp only [sG0] at g5
  refine Jp.qat 6 rfl (qab rfl rfl rfl rfl) rfl rfl Kp.true ?_
  refine Jp.qat 7 rfl (qab rfl rfl rfl rfl) rfl rfl Kp.true ?_
  refine Jp.y 8 rfl (qaa rfl) rfl rfl Kp.true (Y.qaz rfl rfl rfl) ?_
  refine Jp.y 9 rfl (qaa rfl) rfl rfl Kp.true (Y.move rfl rfl) ?_
  refine Jp.y 10 rfl (qab rfl rfl rfl rfl) rfl rfl Kp.true (Y.move rfl rfl) ?_
  refine Jp.call [] [] (qeg op) 11 rfl (qab rfl rfl rfl rfl) rfl rfl (Runs.fn rfl call47 rfl) (by decide) (by decide) rfl trivial ?_
  rintro v102 ρ102 L102 ⟨rfl,rfl,rfl⟩
  refine ⟨rfl,fun hle102=>⟨Kp.true,?_⟩⟩
  refine Jp.y 12 rfl (qaa rfl) rfl rfl Kp.true (Y.qaz rfl rfl rfl) ?_
  refine Jp.y 13 rfl (qaa rfl) rfl rfl Kp.true (Y.move rfl rfl) ?_
  refine Jp.split 13 rfl (fun g13=>?_) (fun g13=>?_)
  ·skip
   try simp only [sG0] at g13
   refine Jp.qat 14 rfl (qab rfl rfl rfl rfl) rfl rfl Kp.true ?_
   refine Jp.qat 15 rfl (qab rfl rfl rfl rfl) rfl rfl Kp.true ?_
   refine Jp.qat 16 rfl (qab rfl rfl rfl rfl) rfl rfl Kp.true ?_
   refine Jp.qat 17 rfl (qdg rfl rfl rfl) rfl rfl Kp.true ?_
   refine Jp.qat 18 rfl (qdg rfl rfl rfl) rfl rfl Kp.true ?_
   refine Jp.qat 19 rfl (qab rfl rfl rfl rfl) rfl rfl Kp.true ?_
   refine Jp.y 20 rfl (qaa rfl) rfl rfl Kp.true (Y.qba rfl rfl rfl) ?_
   refine Jp.y 2 rfl (qaa rfl) rfl rfl Kp.true (Y.assign rfl rfl) ?_
   refine Jp.qae hK25 ?_
   refine Cd.ret [] rfl (qbe rfl rfl) trivial ⟨rfl,congrArg Value.bool (by rw [Bool.eq_iff_iff]; (try simp only [qeh,decide_eq_true_eq,decide_eq_false_iff_not] at *); simp only [qcq,decide_eq_true_eq,Bool.false_eq_true,true_iff,false_iff]; omega),rfl⟩
  ·skip
   try simp only [sG0] at g13
   refine Jp.y 14 rfl (qab rfl rfl rfl rfl) rfl rfl Kp.true (Y.move rfl rfl) ?_
   refine Jp.y 15 rfl (qab rfl rfl rfl rfl) rfl rfl Kp.true (Y.geq rfl rfl rfl) ?_
   refine Jp.y 16 rfl (qab rfl rfl rfl rfl) rfl rfl Kp.true (Y.move rfl rfl) ?_
   refine Jp.split 16 rfl (fun g16=>?_) (fun g16=>?_)
   ·skip
    try simp only [sG0] at g16
    refine Jp.y 17 rfl (qab rfl rfl rfl rfl) rfl rfl Kp.true (Y.move rfl rfl) ?_
    refine Jp.y 18 rfl (qab rfl rfl rfl rfl) rfl rfl Kp.true (Y.leq rfl rfl rfl) ?_
    refine Jp.y 19 rfl (qab rfl rfl rfl rfl) rfl rfl Kp.true (Y.qba rfl rfl rfl) ?_
    refine Jp.y 20 rfl (qaa rfl) rfl rfl Kp.true (Y.qaz rfl rfl rfl) ?_
    refine Jp.y 2 rfl (qaa rfl) rfl rfl Kp.true (Y.assign rfl rfl) ?_
    refine Jp.qae hK25 ?_
    refine Cd.ret [] rfl (qbe rfl rfl) trivial ⟨rfl,congrArg Value.bool (by rw [Bool.eq_iff_iff]; (try simp only [qeh,decide_eq_true_eq,decide_eq_false_iff_not] at *); simp only [qcq,decide_eq_true_eq,Bool.false_eq_true,true_iff,false_iff]; omega),rfl⟩
   ·skip
    try simp only [sG0] at g16
    refine Jp.qat 17 rfl (qab rfl rfl rfl rfl) rfl rfl Kp.true ?_
    refine Jp.qat 18 rfl (qab rfl rfl rfl rfl) rfl rfl Kp.true ?_
    refine Jp.y 19 rfl (qab rfl rfl rfl rfl) rfl rfl Kp.true (Y.qaz rfl rfl rfl) ?_
    refine Jp.y 20 rfl (qaa rfl) rfl rfl Kp.true (Y.qaz rfl rfl rfl) ?_
    refine Jp.y 2 rfl (qaa rfl) rfl rfl Kp.true (Y.assign rfl rfl) ?_
    refine Jp.qae hK25 ?_
    refine Cd.ret [] rfl (qbe rfl rfl) trivial ⟨rfl,congrArg Value.bool (by rw [Bool.eq_iff_iff]; (try simp only [qeh,decide_eq_true_eq,decide_eq_false_iff_not] at *); simp only [qcq,decide_eq_true_eq,Bool.false_eq_true,true_iff,false_iff]; omega),rfl⟩
def brK (op : Nat) : Nat:=[0,1,4,5,6,7].getD (op - 5) 0
theorem brK_ok {op : Nat} (h : 5 ≤ op ∧ op ≤ 10) : brK op = 0 ∨ brK op = 1 ∨ 4 ≤ brK op ∧ brK op ≤ 7:=by
 rcases (show op = 5 ∨ op = 6 ∨ op = 7 ∨ op = 8 ∨ op = 9 ∨ op = 10 by omega) with rfl | rfl | rfl | rfl | rfl | rfl <;> decide
theorem brtest_spec (op : Nat) (h : 5 ≤ op ∧ op ≤ 10) : Spec Try.prog 87 #[.int .i64 op] (fun _=>True) [] (fun ρ ρ' v L=>ρ' = ρ ∧ v = .int .i64 (brK op : Int) ∧ L = []):=by
 refine Spec.of 7 Try.func87 rfl Try.ntmps87 [(0,_)] rfl rfl ?_
 intro cx ρ hr' h0
 have hidx : (#[Value.int .i64 0,Value.int .i64 1,Value.int .i64 4,Value.int .i64 5,Value.int .i64 6,Value.int .i64 7] : Array Value)[((op : Int) - 5).toNat * 1]? = some (.int .i64 (brK op : Int)):=by
  rcases (show op = 5 ∨ op = 6 ∨ op = 7 ∨ op = 8 ∨ op = 9 ∨ op = 10 by omega) with rfl | rfl | rfl | rfl | rfl | rfl <;> rfl
 refine Cd.seq fun K26 hK26=>?_
 refine Cd.qac [(0,false)] rfl rfl ?_
 refine Jp.y 2 rfl (qaa rfl) rfl rfl Kp.true (Y.assign rfl rfl) ?_
 refine Jp.qae hK26 ?_
 refine Cd.seq fun K27 hK27=>?_
 refine Cd.qac [(0,false),(1,false),(2,false),(3,false),(4,false)] rfl rfl ?_
 refine Jp.y 3 rfl (qaa rfl) rfl rfl Kp.true (Y.array [(0,_),(1,_),(2,_),(3,_),(4,_),(5,_)] [_,_,_,_,_,_] rfl rfl underlying130 sizeOf3 zeroValue130 rfl) ?_
 refine Jp.y 4 rfl (qaa rfl) rfl rfl Kp.true (Y.move rfl rfl) ?_
 refine Jp.y 5 rfl (qaa rfl) rfl rfl Kp.true (Y.qfy rfl rfl rfl (by exact qaj (by omega) (by omega))) ?_
 refine Jp.y 6 rfl (qaa rfl) rfl rfl Kp.true (Y.qcj (v:=.int .i64 (brK op : Int)) rfl underlying130 sizeOf3 isAgg3 rfl rfl (by omega) (by omega) hidx) ?_
 refine Jp.y 2 rfl (qaa rfl) rfl rfl Kp.true (Y.assign rfl rfl) ?_
 refine Jp.qae hK27 ?_
 refine Cd.ret [] rfl (qbe rfl rfl) trivial ⟨rfl,rfl,rfl⟩
def goesP (i : InsP) (s : StP) : Nat :=
 if i.op = 3 then u32 ((s.pc : Int) + (u32 i.imm : Int)) else if i.op = 4 then addrP i s - addrP i s % 2 else
 if 5 ≤ i.op ∧ i.op ≤ 10 ∧ testP (brK i.op) (regP s i.r1) (regP s i.r2) = true then u32 ((s.pc : Int) + (u32 i.imm : Int)) else u32 ((s.pc : Int) + 4)
theorem bits_even {v : Nat} (hv : v < 4294967296) : qcc .andNot .u32 v 1 = ((v - v % 2 : Nat) : Int):=by
 show IntKind.u32.wrap ((BitVec.ofInt 32 (v : Int) &&& ~~~ BitVec.ofInt 32 1).toNat : Int) = _
 have e : (BitVec.ofInt 32 (v : Int) &&& ~~~ BitVec.ofInt 32 1).toNat = v - v % 2:=by
  rw [BitVec.toNat_and,qce 32 v hv]
  rw [show (~~~ BitVec.ofInt 32 1).toNat = 4294967294 by decide]
  have h : v - v % 2 = v / 2 ^ 1 * 2 ^ 1:=by omega
  rw [h]
  apply Nat.eq_of_testBit_eq
  intro i
  rw [Nat.testBit_and,Nat.testBit_mul_two_pow,Nat.testBit_div_two_pow,show (4294967294 : Nat) = 2147483647 * 2 ^ 1 from rfl,Nat.testBit_mul_two_pow,show (2147483647 : Nat) = 2 ^ 31 - 1 from rfl,Nat.testBit_two_pow_sub_one]
  by_cases h8 : 1 ≤ i
  ·rw [show i - 1 + 1 = i by omega]
   by_cases h32 : i < 32
   ·simp [h8,show i - 1 < 31 by omega]
   ·have : v.testBit i = false := Nat.testBit_lt_two_pow (Nat.lt_of_lt_of_le hv (by
     have:=Nat.pow_le_pow_right (n:=2) (by omega) (show 32 ≤ i by omega)
     omega))
    simp [this]
  ·simp [h8]
 rw [e,qbz,u32_id (by omega)]
theorem qhg (i : InsP) (s : StP) : addrP i s < 4294967296:=u32_lt _
theorem goes_spec (i : InsP) (s : StP) (hs : StOk s) (hi : InsOk i) : Spec Try.prog 73 #[.agg i.cells.toArray,.agg s.cells.toArray] (fun _=>True) [] (fun ρ ρ' v L=>ρ' = ρ ∧ v = .int .u32 (goesP i s : Int) ∧ L = []):=by
 have hA:=qde i s hs hi
 have hal:=qhg i s
 obtain ⟨ad,had⟩ : ∃ ad,addrP i s = ad:=⟨_,rfl⟩
 obtain ⟨g,hg⟩ : ∃ g,goesP i s = g:=⟨_,rfl⟩
 rw [hg]
 unfold goesP at hg
 rw [had] at hA hg hal
 obtain ⟨op,rd,r1,r2,imm⟩:=i
 dsimp only at hg
 have hb:=bits_even hal
 have hR1:=qfn s r1 hs hi.r1
 have hR2:=qfn s r2 hs hi.r2
 have l1:=regP_lt hs r1
 have l2:=regP_lt hs r2
 obtain ⟨x1,hx1⟩ : ∃ x,regP s r1 = x:=⟨_,rfl⟩
 obtain ⟨x2,hx2⟩ : ∃ x,regP s r2 = x:=⟨_,rfl⟩
 rw [hx1] at hR1 hg l1
 rw [hx2] at hR2 hg l2
 refine Spec.of 59 Try.func73 rfl Try.ntmps73 [(0,_),(1,_)] rfl rfl ?_
 intro cx ρ hr' h0
 have hsl:=StP.len hs
 refine Cd.seq fun K28 hK28=>?_
 refine Cd.qac [(0,false),(1,false),(2,false)] rfl rfl ?_
 refine Jp.box 2 2 rfl (qaa rfl) rfl rfl rfl rfl fun b2=>⟨Kp.true,?_⟩
 refine Jp.box 3 3 rfl (qaa rfl) rfl rfl rfl rfl fun b3=>⟨Kp.true,?_⟩
 refine Jp.y 4 rfl (qaa rfl) rfl rfl Kp.true (Y.assign rfl rfl) ?_
 refine Jp.qae hK28 ?_
 refine Cd.seq fun K29 hK29=>?_
 refine Cd.block ?_
 refine Cd.seq fun K30 hK30=>?_
 refine Cd.qac [(0,false),(1,false),(2,false),(3,false)] rfl rfl ?_
 refine Jp.y 8 rfl (qaa rfl) rfl rfl Kp.true (by exact Y.qad rfl rfl underlying34 rfl sizeOf3 (by decide) (show _ + 0 = _ from rfl)) ?_
 refine Jp.y 9 rfl (qaa rfl) rfl rfl Kp.true (by exact Y.qaw 2 rfl isAgg3 rfl rfl rfl) ?_
 refine Jp.y 10 rfl (qaa rfl) rfl rfl Kp.true (Y.eql rfl rfl rfl) ?_
 refine Jp.y 7 rfl (qaa rfl) rfl rfl Kp.true (Y.assign rfl rfl) ?_
 refine Jp.qae hK30 ?_
 refine Cd.qaq rfl (fun ga=>?_) (fun ga=>?_)
 ·have hop : op = 3:=by simp at ga; omega
  rw [if_pos hop] at hg
  refine Cd.seq fun K31 hK31=>?_
  refine Cd.qac [(0,false),(1,false),(2,false),(3,false),(4,false),(5,false),(6,false)] rfl rfl ?_
  refine Jp.y 11 rfl (qaa rfl) rfl rfl Kp.true (by exact Y.qad rfl rfl underlying46 rfl sizeOf31 (by decide) (show _ + 32 = _ from rfl)) ?_
  refine Jp.y 12 rfl (qaa rfl) rfl rfl Kp.true (by exact Y.qbk 3 rfl isAgg31 rfl rfl (HasC.pt (StP.cPc hs))) ?_
  refine Jp.y 13 rfl (qaa rfl) rfl rfl Kp.true (by exact Y.qad rfl rfl underlying34 rfl sizeOf21 (by decide) (show _ + 4 = _ from rfl)) ?_
  refine Jp.y 14 rfl (qaa rfl) rfl rfl Kp.true (by exact Y.qaw 2 rfl isAgg21 rfl rfl rfl) ?_
  refine Jp.y 15 rfl (qaa rfl) rfl rfl Kp.true (Y.qav rfl rfl underlying21 underlying31 (by rfl)) ?_
  refine Jp.y 16 rfl (qaa rfl) rfl rfl Kp.true (Y.qcd rfl rfl rfl (by rfl)) ?_
  refine Jp.y 4 rfl (qaa rfl) rfl rfl Kp.true (Y.assign rfl rfl) ?_
  refine Jp.qae hK31 ?_
  refine Cd.ret [] rfl (qbe rfl rfl) trivial ⟨rfl,by rw [qbz imm,qbz,← hg],rfl⟩
 ·have hop3 : ¬ op = 3:=by simp at ga; omega
  rw [if_neg hop3] at hg
  refine Cd.seq fun K32 hK32=>?_
  refine Cd.qac [(0,false),(1,false),(2,false),(3,false)] rfl rfl ?_
  refine Jp.y 18 rfl (qaa rfl) rfl rfl Kp.true (by exact Y.qad rfl rfl underlying34 rfl sizeOf3 (by decide) (show _ + 0 = _ from rfl)) ?_
  refine Jp.y 19 rfl (qaa rfl) rfl rfl Kp.true (by exact Y.qaw 2 rfl isAgg3 rfl rfl rfl) ?_
  refine Jp.y 20 rfl (qaa rfl) rfl rfl Kp.true (Y.eql rfl rfl rfl) ?_
  refine Jp.y 17 rfl (qaa rfl) rfl rfl Kp.true (Y.assign rfl rfl) ?_
  refine Jp.qae hK32 ?_
  refine Cd.qaq rfl (fun gb=>?_) (fun gb=>?_)
  ·have hop : op = 4:=by simp at gb; omega
   rw [if_pos hop] at hg
   refine Cd.seq fun K33 hK33=>?_
   refine Cd.qac [(0,false),(1,false),(2,false),(3,false),(4,false)] rfl rfl ?_
   refine Jp.y 21 rfl (qaa rfl) rfl rfl Kp.true (by exact Y.qag 2 rfl isAgg34 sizeOf34 rfl rfl (by first | rfl | assumption)) ?_
   refine Jp.y 22 rfl (qaa rfl) rfl rfl Kp.true (by exact Y.qag 3 rfl isAgg46 sizeOf46 rfl rfl (by first | rfl | assumption)) ?_
   refine Jp.call [] [] hA 23 rfl (qaa rfl) rfl rfl (Runs.fn rfl call43 rfl) (by decide) (by decide) rfl trivial ?_
   rintro v1 ρ1 L1 ⟨rfl,rfl,rfl⟩
   refine ⟨rfl,fun hle1=>⟨Kp.true,?_⟩⟩
   refine Jp.y 24 rfl (qaa rfl) rfl rfl Kp.true (Y.bits rfl rfl rfl rfl) ?_
   refine Jp.y 4 rfl (qaa rfl) rfl rfl Kp.true (Y.assign rfl rfl) ?_
   refine Jp.qae hK33 ?_
   refine Cd.ret [] rfl (qbe rfl rfl) trivial ⟨rfl,by rw [hb,hg],rfl⟩
  ·have hop4 : ¬ op = 4:=by simp at gb; omega
   rw [if_neg hop4] at hg
   refine Cd.seq fun K34 hK34=>?_
   refine Cd.qac [(0,false),(1,false),(2,false),(3,false),(4,false),(5,false),(6,false),(7,false),(8,false)] rfl rfl ?_
   refine Jp.y 26 rfl (qaa rfl) rfl rfl Kp.true (by exact Y.qad rfl rfl underlying34 rfl sizeOf3 (by decide) (show _ + 0 = _ from rfl)) ?_
   refine Jp.y 27 rfl (qaa rfl) rfl rfl Kp.true (by exact Y.qaw 2 rfl isAgg3 rfl rfl rfl) ?_
   refine Jp.y 28 rfl (qaa rfl) rfl rfl Kp.true (Y.geq rfl rfl rfl) ?_
   refine Jp.y 29 rfl (qaa rfl) rfl rfl Kp.true (Y.move rfl rfl) ?_
   refine Jp.splitF 29 rfl (fun g29=>?_) (fun g29=>?_)
   ·skip
    have hno : ¬ (5 ≤ op ∧ op ≤ 10):=by simp at g29; omega
    rw [if_neg (fun h=>hno ⟨h.1,h.2.1⟩)] at hg
    refine Jp.qat 30 rfl (qab rfl rfl rfl rfl) rfl rfl Kp.true ?_
    refine Jp.qat 31 rfl (qab rfl rfl rfl rfl) rfl rfl Kp.true ?_
    refine Jp.qat 32 rfl (qab rfl rfl rfl rfl) rfl rfl Kp.true ?_
    refine Jp.y 33 rfl (qaa rfl) rfl rfl Kp.true (Y.qaz rfl rfl rfl) ?_
    refine Jp.y 25 rfl (qaa rfl) rfl rfl Kp.true (Y.assign rfl rfl) ?_
    refine Jp.qae hK34 ?_
    refine Cd.qbu rfl ?_
    refine Cd.over rfl hK29 ?_
    refine Cd.seq fun K35 hK35=>?_
    refine Cd.qac [(0,false),(1,false),(2,false),(3,false)] rfl rfl ?_
    refine Jp.y 56 rfl (qaa rfl) rfl rfl Kp.true (by exact Y.qad rfl rfl underlying46 rfl sizeOf31 (by decide) (show _ + 32 = _ from rfl)) ?_
    refine Jp.y 57 rfl (qaa rfl) rfl rfl Kp.true (by exact Y.qbk 3 rfl isAgg31 rfl rfl (HasC.pt (StP.cPc hs))) ?_
    refine Jp.y 58 rfl (qaa rfl) rfl rfl Kp.true (Y.qcd rfl rfl rfl (by rfl)) ?_
    refine Jp.y 4 rfl (qaa rfl) rfl rfl Kp.true (Y.assign rfl rfl) ?_
    refine Jp.qae hK35 ?_
    refine Cd.ret [] rfl (qbe rfl rfl) trivial ⟨rfl,by rw [qbz,← hg],rfl⟩
   try simp only [sG0] at g29
   refine Jp.y 30 rfl (qab rfl rfl rfl rfl) rfl rfl Kp.true (by exact Y.qad rfl rfl underlying34 rfl sizeOf3 (by decide) (show _ + 0 = _ from rfl)) ?_
   refine Jp.y 31 rfl (qab rfl rfl rfl rfl) rfl rfl Kp.true (by exact Y.qaw 2 rfl isAgg3 rfl rfl rfl) ?_
   refine Jp.y 32 rfl (qab rfl rfl rfl rfl) rfl rfl Kp.true (Y.leq rfl rfl rfl) ?_
   refine Jp.y 33 rfl (qaa rfl) rfl rfl Kp.true (Y.qba rfl rfl rfl) ?_
   refine Jp.y 25 rfl (qaa rfl) rfl rfl Kp.true (Y.assign rfl rfl) ?_
   refine Jp.qae hK34 ?_
   refine Cd.condF' rfl (fun g25=>?_) (fun g25=>?_)
   ·skip
    have hno : ¬ (5 ≤ op ∧ op ≤ 10):=by simp at g25; omega
    rw [if_neg (fun h=>hno ⟨h.1,h.2.1⟩)] at hg
    refine Cd.over rfl hK29 ?_
    refine Cd.seq fun K36 hK36=>?_
    refine Cd.qac [(0,false),(1,false),(2,false),(3,false)] rfl rfl ?_
    refine Jp.y 56 rfl (qaa rfl) rfl rfl Kp.true (by exact Y.qad rfl rfl underlying46 rfl sizeOf31 (by decide) (show _ + 32 = _ from rfl)) ?_
    refine Jp.y 57 rfl (qaa rfl) rfl rfl Kp.true (by exact Y.qbk 3 rfl isAgg31 rfl rfl (HasC.pt (StP.cPc hs))) ?_
    refine Jp.y 58 rfl (qaa rfl) rfl rfl Kp.true (Y.qcd rfl rfl rfl (by rfl)) ?_
    refine Jp.y 4 rfl (qaa rfl) rfl rfl Kp.true (Y.assign rfl rfl) ?_
    refine Jp.qae hK36 ?_
    refine Cd.ret [] rfl (qbe rfl rfl) trivial ⟨rfl,by rw [qbz,← hg],rfl⟩
   try simp only [sG0] at g25
   refine Cd.seq fun K37 hK37=>?_
   refine Cd.drawn [(2,_),(3,_)] ⟨rfl,rfl,trivial⟩ [(0,true),(1,true),(3,true),(4,true),(5,true),(7,true),(8,true),(9,true),(2,false),(6,false),(10,false),(11,false),(12,true),(13,true),(14,true),(15,true),(16,true)] follows (by kernel_rfl) (fun hrl=>?_)
   have hbr : 5 ≤ op ∧ op ≤ 10:=by (try dsimp only at g25 g29); omega
   refine Jp.q 35 rfl (qaa rfl) rfl rfl (by exact Y.qad rfl rfl underlying34 rfl sizeOf3 (by decide) (show _ + 0 = _ from rfl)) ?_
   refine Jp.q 36 rfl (qaa rfl) rfl rfl (by exact Y.qaw 2 rfl isAgg3 rfl rfl rfl) ?_
   refine Jp.q 38 rfl (qaa rfl) rfl rfl (by exact Y.qag 3 rfl isAgg46 sizeOf46 rfl rfl (by first | rfl | assumption)) ?_
   refine Jp.q 39 rfl (qaa rfl) rfl rfl (by exact Y.qad rfl rfl underlying34 rfl sizeOf3 (by decide) (show _ + 2 = _ from rfl)) ?_
   refine Jp.q 40 rfl (qaa rfl) rfl rfl (by exact Y.qaw 2 rfl isAgg3 rfl rfl rfl) ?_
   refine Jp.q 42 rfl (qaa rfl) rfl rfl (by exact Y.qag 3 rfl isAgg46 sizeOf46 rfl rfl (by first | rfl | assumption)) ?_
   refine Jp.q 43 rfl (qaa rfl) rfl rfl (by exact Y.qad rfl rfl underlying34 rfl sizeOf3 (by decide) (show _ + 3 = _ from rfl)) ?_
   refine Jp.q 44 rfl (qaa rfl) rfl rfl (by exact Y.qaw 2 rfl isAgg3 rfl rfl rfl) ?_
   refine Jp.call [] [] (brtest_spec op hbr) 37 rfl (qaa rfl) rfl rfl (Runs.fn rfl call87 rfl) (by decide) (by decide) rfl trivial ?_
   rintro v1 ρ1 L1 ⟨rfl,rfl,rfl⟩
   refine ⟨rfl,fun hle1=>⟨(Kp.st ⟨rfl,rfl,trivial⟩),?_⟩⟩
   refine Jp.call [] [] hR1 41 rfl (qaa rfl) rfl rfl (Runs.fn rfl call66 rfl) (by decide) (by decide) rfl trivial ?_
   rintro v2 ρ2 L2 ⟨rfl,rfl,rfl⟩
   refine ⟨rfl,fun hle2=>⟨(Kp.st ⟨rfl,rfl,trivial⟩),?_⟩⟩
   refine Jp.call [] [] hR2 45 rfl (qaa rfl) rfl rfl (Runs.fn rfl call66 rfl) (by decide) (by decide) rfl trivial ?_
   rintro v3 ρ3 L3 ⟨rfl,rfl,rfl⟩
   refine ⟨rfl,fun hle3=>⟨(Kp.st ⟨rfl,rfl,trivial⟩),?_⟩⟩
   refine Jp.call [] [] (test_spec (brK op) x1 x2 (brK_ok hbr) l1 l2) 46 rfl (qaa rfl) rfl rfl (Runs.fn rfl call86 rfl) (by decide) (by decide) rfl trivial ?_
   rintro v4 ρ4 L4 ⟨rfl,rfl,rfl⟩
   refine ⟨rfl,fun hle4=>⟨(Kp.st ⟨rfl,rfl,trivial⟩),?_⟩⟩
   refine Jp.q 34 rfl (qaa rfl) rfl rfl (Y.move rfl rfl) ?_
   refine Jp.q 47 rfl (qaa rfl) rfl rfl (Y.extract rfl rfl rfl) ?_
   refine Jp.q 48 rfl (qaa rfl) rfl rfl (Y.extract rfl rfl rfl) ?_
   refine Jp.q 5 rfl (qaa rfl) rfl rfl (Y.assign rfl rfl) ?_
   refine Jp.q 6 rfl (qaa rfl) rfl rfl (Y.assign rfl rfl) ?_
   refine Jp.qae hK37 ?_
   refine Cd.seq fun K39 hK39=>?_
   refine Cd.qac [(0,false)] rfl rfl ?_
   refine Jp.y 49 rfl (qaa rfl) rfl rfl Kp.true (Y.move rfl rfl) ?_
   refine Jp.qae hK39 ?_
   refine Cd.qaq rfl (fun gc=>?_) (fun gc=>?_)
   ·rw [if_pos ⟨hbr.1,hbr.2,gc⟩] at hg
    refine Cd.seq fun K40 hK40=>?_
    refine Cd.qac [(0,false),(1,false),(2,false),(3,false),(4,false),(5,false),(6,false)] rfl rfl ?_
    refine Jp.y 50 rfl (qaa rfl) rfl rfl Kp.true (by exact Y.qad rfl rfl underlying46 rfl sizeOf31 (by decide) (show _ + 32 = _ from rfl)) ?_
    refine Jp.y 51 rfl (qaa rfl) rfl rfl Kp.true (by exact Y.qbk 3 rfl isAgg31 rfl rfl (HasC.pt (StP.cPc hs))) ?_
    refine Jp.y 52 rfl (qaa rfl) rfl rfl Kp.true (by exact Y.qad rfl rfl underlying34 rfl sizeOf21 (by decide) (show _ + 4 = _ from rfl)) ?_
    refine Jp.y 53 rfl (qaa rfl) rfl rfl Kp.true (by exact Y.qaw 2 rfl isAgg21 rfl rfl rfl) ?_
    refine Jp.y 54 rfl (qaa rfl) rfl rfl Kp.true (Y.qav rfl rfl underlying21 underlying31 (by rfl)) ?_
    refine Jp.y 55 rfl (qaa rfl) rfl rfl Kp.true (Y.qcd rfl rfl rfl (by rfl)) ?_
    refine Jp.y 4 rfl (qaa rfl) rfl rfl Kp.true (Y.assign rfl rfl) ?_
    refine Jp.qae hK40 ?_
    refine Cd.ret [] rfl (qbe rfl rfl) trivial ⟨rfl,by rw [qbz imm,qbz,← hg],rfl⟩
   ·rw [if_neg (fun h=>by rw [h.2.2] at gc; cases gc)] at hg
    refine Cd.over rfl hK29 ?_
    refine Cd.seq fun K41 hK41=>?_
    refine Cd.qac [(0,false),(1,false),(2,false),(3,false)] rfl rfl ?_
    refine Jp.y 56 rfl (qaa rfl) rfl rfl Kp.true (by exact Y.qad rfl rfl underlying46 rfl sizeOf31 (by decide) (show _ + 32 = _ from rfl)) ?_
    refine Jp.y 57 rfl (qaa rfl) rfl rfl Kp.true (by exact Y.qbk 3 rfl isAgg31 rfl rfl (HasC.pt (StP.cPc hs))) ?_
    refine Jp.y 58 rfl (qaa rfl) rfl rfl Kp.true (Y.qcd rfl rfl rfl (by rfl)) ?_
    refine Jp.y 4 rfl (qaa rfl) rfl rfl Kp.true (Y.assign rfl rfl) ?_
    refine Jp.qae hK41 ?_
    refine Cd.ret [] rfl (qbe rfl rfl) trivial ⟨rfl,by rw [qbz,← hg],rfl⟩
def opdP (i : InsP) (s : StP) : Nat:=if i.op ≤ 27 then u32 i.imm else regP s i.r2
theorem operand_spec (i : InsP) (s : StP) (hs : StOk s) (hi : InsOk i) : Spec Try.prog 52 #[.agg i.cells.toArray,.agg s.cells.toArray] (fun _=>True) [] (fun ρ ρ' v L=>ρ' = ρ ∧ v = .int .u32 (opdP i s : Int) ∧ L = []):=by
 obtain ⟨op,rd,r1,r2,imm⟩:=i
 refine Spec.of 15 Try.func52 rfl Try.ntmps52 [(0,_),(1,_)] rfl rfl ?_
 intro cx ρ hr' h0
 have hsl:=StP.len hs
 refine Cd.seq fun K42 hK42=>?_
 refine Cd.qac [(0,false),(1,false),(2,false)] rfl rfl ?_
 refine Jp.box 2 2 rfl (qaa rfl) rfl rfl rfl rfl fun b2=>⟨Kp.true,?_⟩
 refine Jp.box 3 3 rfl (qaa rfl) rfl rfl rfl rfl fun b3=>⟨Kp.true,?_⟩
 refine Jp.y 4 rfl (qaa rfl) rfl rfl Kp.true (Y.assign rfl rfl) ?_
 refine Jp.qae hK42 ?_
 refine Cd.seq fun K43 hK43=>?_
 refine Cd.seq fun K44 hK44=>?_
 refine Cd.qac [(0,false),(1,false),(2,false)] rfl rfl ?_
 refine Jp.y 5 rfl (qaa rfl) rfl rfl Kp.true (by exact Y.qad rfl rfl underlying34 rfl sizeOf3 (by decide) (show _ + 0 = _ from rfl)) ?_
 refine Jp.y 6 rfl (qaa rfl) rfl rfl Kp.true (by exact Y.qaw 2 rfl isAgg3 rfl rfl rfl) ?_
 refine Jp.y 7 rfl (qaa rfl) rfl rfl Kp.true (Y.leq rfl rfl rfl) ?_
 refine Jp.qae hK44 ?_
 refine Cd.qaq rfl (fun ga=>?_) (fun ga=>?_)
 ·skip
  refine Cd.seq fun K45 hK45=>?_
  refine Cd.qac [(0,false),(1,false),(2,false),(3,false)] rfl rfl ?_
  refine Jp.y 8 rfl (qaa rfl) rfl rfl Kp.true (by exact Y.qad rfl rfl underlying34 rfl sizeOf21 (by decide) (show _ + 4 = _ from rfl)) ?_
  refine Jp.y 9 rfl (qaa rfl) rfl rfl Kp.true (by exact Y.qaw 2 rfl isAgg21 rfl rfl rfl) ?_
  refine Jp.y 10 rfl (qaa rfl) rfl rfl Kp.true (Y.qav rfl rfl underlying21 underlying31 (by rfl)) ?_
  refine Jp.y 4 rfl (qaa rfl) rfl rfl Kp.true (Y.assign rfl rfl) ?_
  refine Jp.qae hK45 ?_
  refine Cd.ret [] rfl (qbe rfl rfl) trivial ⟨rfl,by rw [qbz imm,opdP,if_pos (by simp at ga; exact (show op ≤ 27 by omega))],rfl⟩
 ·skip
  refine Cd.qbw hK43 ?_
  refine Cd.seq fun K46 hK46=>?_
  refine Cd.qac [(0,false),(1,false),(2,false),(3,false),(4,false)] rfl rfl ?_
  refine Jp.y 11 rfl (qaa rfl) rfl rfl Kp.true (by exact Y.qag 3 rfl isAgg46 sizeOf46 rfl rfl (by first | rfl | assumption)) ?_
  refine Jp.y 12 rfl (qaa rfl) rfl rfl Kp.true (by exact Y.qad rfl rfl underlying34 rfl sizeOf3 (by decide) (show _ + 3 = _ from rfl)) ?_
  refine Jp.y 13 rfl (qaa rfl) rfl rfl Kp.true (by exact Y.qaw 2 rfl isAgg3 rfl rfl rfl) ?_
  refine Jp.call [] [] (qfn s r2 hs hi.r2) 14 rfl (qaa rfl) rfl rfl (Runs.fn rfl call66 rfl) (by decide) (by decide) rfl trivial ?_
  rintro v1 ρ1 L1 ⟨rfl,rfl,rfl⟩
  refine ⟨rfl,fun hle1=>⟨Kp.true,?_⟩⟩
  refine Jp.y 4 rfl (qaa rfl) rfl rfl Kp.true (Y.assign rfl rfl) ?_
  refine Jp.qae hK46 ?_
  refine Cd.ret [] rfl (qbe rfl rfl) trivial ⟨rfl,by rw [opdP,if_neg (by simp at ga; exact (show ¬ op ≤ 27 by omega))],rfl⟩
def kindA (op : Nat) : Nat:=if 19 ≤ op ∧ op ≤ 27 then [0,3,4,5,8,9,2,6,7].getD (op - 19) 0 else if 28 ≤ op ∧ op ≤ 37 then op - 28 else if 38 ≤ op ∧ op ≤ 45 then op - 28 else 0
def isKind (op : Nat) : Bool:=decide (19 ≤ op ∧ op ≤ 45)
theorem qgz (op : Nat) : kindA op ≤ 17:=by
 unfold kindA
 split
 ·rename_i h
  rcases (show op = 19 ∨ op = 20 ∨ op = 21 ∨ op = 22 ∨ op = 23 ∨ op = 24 ∨ op = 25 ∨ op = 26 ∨ op = 27 by omega) with rfl | rfl | rfl | rfl | rfl | rfl | rfl | rfl | rfl <;> decide
 ·split
  ·omega
  ·split <;> omega
theorem kind_spec (op : Nat) : Spec Try.prog 50 #[.int .i64 op] (fun _=>True) [] (fun ρ ρ' v L=>ρ' = ρ ∧ v = .tuple #[.int .i64 (kindA op : Int),.bool (isKind op)] ∧ L = []):=by
 refine Spec.of 36 Try.func50 rfl Try.ntmps50 [(0,_)] rfl rfl ?_
 intro cx ρ hr' h0
 have hidx1 : 19 ≤ op ∧ op ≤ 27 → (#[Value.int .i64 0,Value.int .i64 3,Value.int .i64 4,Value.int .i64 5,Value.int .i64 8,Value.int .i64 9,Value.int .i64 2,Value.int .i64 6,Value.int .i64 7] : Array Value)[((op : Int) - 19).toNat * 1]? = some (.int .i64 (kindA op : Int)):=fun h=>by
  rcases (show op = 19 ∨ op = 20 ∨ op = 21 ∨ op = 22 ∨ op = 23 ∨ op = 24 ∨ op = 25 ∨ op = 26 ∨ op = 27 by omega) with rfl | rfl | rfl | rfl | rfl | rfl | rfl | rfl | rfl <;> rfl
 have hidx2 : 28 ≤ op ∧ op ≤ 37 → (#[Value.int .i64 0,Value.int .i64 1,Value.int .i64 2,Value.int .i64 3,Value.int .i64 4,Value.int .i64 5,Value.int .i64 6,Value.int .i64 7,Value.int .i64 8,Value.int .i64 9] : Array Value)[((op : Int) - 28).toNat * 1]? = some (.int .i64 (kindA op : Int)):=fun h=>by
  rcases (show op = 28 ∨ op = 29 ∨ op = 30 ∨ op = 31 ∨ op = 32 ∨ op = 33 ∨ op = 34 ∨ op = 35 ∨ op = 36 ∨ op = 37 by omega) with rfl | rfl | rfl | rfl | rfl | rfl | rfl | rfl | rfl | rfl <;> rfl
 refine Cd.seq fun K47 hK47=>?_
 refine Cd.qac [(0,false),(1,false)] rfl rfl ?_
 refine Jp.y 2 rfl (qaa rfl) rfl rfl Kp.true (Y.assign rfl rfl) ?_
 refine Jp.y 3 rfl (qaa rfl) rfl rfl Kp.true (Y.assign rfl rfl) ?_
 refine Jp.qae hK47 ?_
 refine Cd.seq fun K48 hK48=>?_
 refine Cd.block ?_
 refine Cd.seq fun K49 hK49=>?_
 refine Cd.qac [(0,false),(1,false),(2,false),(3,false),(4,false),(5,false),(6,false)] rfl rfl ?_
 refine Jp.y 5 rfl (qaa rfl) rfl rfl Kp.true (Y.move rfl rfl) ?_
 refine Jp.y 6 rfl (qaa rfl) rfl rfl Kp.true (Y.geq rfl rfl rfl) ?_
 refine Jp.y 7 rfl (qaa rfl) rfl rfl Kp.true (Y.move rfl rfl) ?_
 refine Jp.split 7 rfl (fun g7=>?_) (fun g7=>?_)
 ·skip
  try simp only [sG0] at g7
  refine Jp.y 8 rfl (qab rfl rfl rfl rfl) rfl rfl Kp.true (Y.move rfl rfl) ?_
  refine Jp.y 9 rfl (qab rfl rfl rfl rfl) rfl rfl Kp.true (Y.leq rfl rfl rfl) ?_
  refine Jp.y 10 rfl (qaa rfl) rfl rfl Kp.true (Y.qba rfl rfl rfl) ?_
  refine Jp.y 4 rfl (qaa rfl) rfl rfl Kp.true (Y.assign rfl rfl) ?_
  refine Jp.qae hK49 ?_
  refine Cd.qaq rfl (fun g4=>?_) (fun g4=>?_)
  ·skip
   try simp only [sG0] at g4
   refine Cd.seq fun K50 hK50=>?_
   refine Cd.qac [(0,false),(1,false),(2,false),(3,false),(4,false),(5,false)] rfl rfl ?_
   refine Jp.y 11 rfl (qaa rfl) rfl rfl Kp.true (Y.array [(0,_),(1,_),(2,_),(3,_),(4,_),(5,_),(6,_),(7,_),(8,_)] [_,_,_,_,_,_,_,_,_] rfl rfl underlying141 sizeOf3 zeroValue141 rfl) ?_
   refine Jp.y 12 rfl (qaa rfl) rfl rfl Kp.true (Y.move rfl rfl) ?_
   refine Jp.y 13 rfl (qaa rfl) rfl rfl Kp.true (Y.qfy rfl rfl rfl (by exact qaj (by omega) (by omega))) ?_
   refine Jp.y 14 rfl (qaa rfl) rfl rfl Kp.true (Y.qcj (v:=.int .i64 (kindA op : Int)) rfl underlying141 sizeOf3 isAgg3 rfl rfl (by omega) (by omega) (hidx1 (by omega))) ?_
   refine Jp.y 2 rfl (qaa rfl) rfl rfl Kp.true (Y.assign rfl rfl) ?_
   refine Jp.y 3 rfl (qaa rfl) rfl rfl Kp.true (Y.assign rfl rfl) ?_
   refine Jp.qae hK50 ?_
   refine Cd.ret [] rfl (qbr rfl rfl rfl) trivial ⟨rfl,by rw [show isKind op = true from decide_eq_true (by omega)],rfl⟩
  ·skip
   try simp only [sG0] at g4
   refine Cd.seq fun K51 hK51=>?_
   refine Cd.qac [(0,false),(1,false),(2,false),(3,false),(4,false),(5,false),(6,false)] rfl rfl ?_
   refine Jp.y 16 rfl (qaa rfl) rfl rfl Kp.true (Y.move rfl rfl) ?_
   refine Jp.y 17 rfl (qaa rfl) rfl rfl Kp.true (Y.geq rfl rfl rfl) ?_
   refine Jp.y 18 rfl (qaa rfl) rfl rfl Kp.true (Y.move rfl rfl) ?_
   refine Jp.split 18 rfl (fun g18=>?_) (fun g18=>?_)
   ·skip
    try simp only [sG0] at g18
    refine Jp.y 19 rfl (qab rfl rfl rfl rfl) rfl rfl Kp.true (Y.move rfl rfl) ?_
    refine Jp.y 20 rfl (qab rfl rfl rfl rfl) rfl rfl Kp.true (Y.leq rfl rfl rfl) ?_
    refine Jp.y 21 rfl (qaa rfl) rfl rfl Kp.true (Y.qba rfl rfl rfl) ?_
    refine Jp.y 15 rfl (qaa rfl) rfl rfl Kp.true (Y.assign rfl rfl) ?_
    refine Jp.qae hK51 ?_
    refine Cd.qaq rfl (fun g15=>?_) (fun g15=>?_)
    ·skip
     try simp only [sG0] at g15
     refine Cd.seq fun K52 hK52=>?_
     refine Cd.qac [(0,false),(1,false),(2,false),(3,false),(4,false),(5,false)] rfl rfl ?_
     refine Jp.y 22 rfl (qaa rfl) rfl rfl Kp.true (Y.array [(0,_),(1,_),(2,_),(3,_),(4,_),(5,_),(6,_),(7,_),(8,_),(9,_)] [_,_,_,_,_,_,_,_,_,_] rfl rfl underlying133 sizeOf3 zeroValue133 rfl) ?_
     refine Jp.y 23 rfl (qaa rfl) rfl rfl Kp.true (Y.move rfl rfl) ?_
     refine Jp.y 24 rfl (qaa rfl) rfl rfl Kp.true (Y.qfy rfl rfl rfl (by exact qaj (by omega) (by omega))) ?_
     refine Jp.y 25 rfl (qaa rfl) rfl rfl Kp.true (Y.qcj (v:=.int .i64 (kindA op : Int)) rfl underlying133 sizeOf3 isAgg3 rfl rfl (by omega) (by omega) (hidx2 (by omega))) ?_
     refine Jp.y 2 rfl (qaa rfl) rfl rfl Kp.true (Y.assign rfl rfl) ?_
     refine Jp.y 3 rfl (qaa rfl) rfl rfl Kp.true (Y.assign rfl rfl) ?_
     refine Jp.qae hK52 ?_
     refine Cd.ret [] rfl (qbr rfl rfl rfl) trivial ⟨rfl,by rw [show isKind op = true from decide_eq_true (by omega)],rfl⟩
    ·skip
     try simp only [sG0] at g15
     refine Cd.seq fun K53 hK53=>?_
     refine Cd.qac [(0,false),(1,false),(2,false),(3,false),(4,false),(5,false),(6,false)] rfl rfl ?_
     refine Jp.y 27 rfl (qaa rfl) rfl rfl Kp.true (Y.move rfl rfl) ?_
     refine Jp.y 28 rfl (qaa rfl) rfl rfl Kp.true (Y.geq rfl rfl rfl) ?_
     refine Jp.y 29 rfl (qaa rfl) rfl rfl Kp.true (Y.move rfl rfl) ?_
     refine Jp.split 29 rfl (fun g29=>?_) (fun g29=>?_)
     ·skip
      try simp only [sG0] at g29
      refine Jp.y 30 rfl (qab rfl rfl rfl rfl) rfl rfl Kp.true (Y.move rfl rfl) ?_
      refine Jp.y 31 rfl (qab rfl rfl rfl rfl) rfl rfl Kp.true (Y.leq rfl rfl rfl) ?_
      refine Jp.y 32 rfl (qaa rfl) rfl rfl Kp.true (Y.qba rfl rfl rfl) ?_
      refine Jp.y 26 rfl (qaa rfl) rfl rfl Kp.true (Y.assign rfl rfl) ?_
      refine Jp.qae hK53 ?_
      refine Cd.qaq rfl (fun g26=>?_) (fun g26=>?_)
      ·skip
       try simp only [sG0] at g26
       refine Cd.seq fun K54 hK54=>?_
       refine Cd.qac [(0,false),(1,false),(2,false),(3,false),(4,false)] rfl rfl ?_
       refine Jp.y 33 rfl (qaa rfl) rfl rfl Kp.true (Y.move rfl rfl) ?_
       refine Jp.y 34 rfl (qaa rfl) rfl rfl Kp.true (Y.qfy rfl rfl rfl (by exact qaj (by omega) (by omega))) ?_
       refine Jp.y 35 rfl (qaa rfl) rfl rfl Kp.true (Y.qcd rfl rfl rfl (by exact qaj (by omega) (by omega))) ?_
       refine Jp.y 2 rfl (qaa rfl) rfl rfl Kp.true (Y.assign rfl rfl) ?_
       refine Jp.y 3 rfl (qaa rfl) rfl rfl Kp.true (Y.assign rfl rfl) ?_
       refine Jp.qae hK54 ?_
       refine Cd.ret [] rfl (qbr rfl rfl rfl) trivial ⟨rfl,by (rw [show isKind op = true from decide_eq_true (by omega)]; (rw [show kindA op = op - 28 by (rw [kindA,if_neg (by omega),if_neg (by omega),if_pos (by omega)])]; exact congrArg (fun x=>Value.tuple #[.int .i64 x,.bool true]) (by omega))),rfl⟩
      ·skip
       try simp only [sG0] at g26
       refine Cd.over rfl hK48 ?_
       refine Cd.seq fun K55 hK55=>?_
       refine Cd.qac [(0,false),(1,false)] rfl rfl ?_
       refine Jp.y 2 rfl (qaa rfl) rfl rfl Kp.true (Y.assign rfl rfl) ?_
       refine Jp.y 3 rfl (qaa rfl) rfl rfl Kp.true (Y.assign rfl rfl) ?_
       refine Jp.qae hK55 ?_
       refine Cd.ret [] rfl (qbr rfl rfl rfl) trivial ⟨rfl,by (rw [show isKind op = false from decide_eq_false (by omega),show kindA op = 0 by (rw [kindA,if_neg (by omega),if_neg (by omega),if_neg (by omega)])]; rfl),rfl⟩
     ·skip
      try simp only [sG0] at g29
      refine Jp.qat 30 rfl (qab rfl rfl rfl rfl) rfl rfl Kp.true ?_
      refine Jp.qat 31 rfl (qab rfl rfl rfl rfl) rfl rfl Kp.true ?_
      refine Jp.y 32 rfl (qaa rfl) rfl rfl Kp.true (Y.qaz rfl rfl rfl) ?_
      refine Jp.y 26 rfl (qaa rfl) rfl rfl Kp.true (Y.assign rfl rfl) ?_
      refine Jp.qae hK53 ?_
      refine Cd.qbu rfl ?_
      refine Cd.over rfl hK48 ?_
      refine Cd.seq fun K56 hK56=>?_
      refine Cd.qac [(0,false),(1,false)] rfl rfl ?_
      refine Jp.y 2 rfl (qaa rfl) rfl rfl Kp.true (Y.assign rfl rfl) ?_
      refine Jp.y 3 rfl (qaa rfl) rfl rfl Kp.true (Y.assign rfl rfl) ?_
      refine Jp.qae hK56 ?_
      refine Cd.ret [] rfl (qbr rfl rfl rfl) trivial ⟨rfl,by (exfalso; omega),rfl⟩
   ·skip
    try simp only [sG0] at g18
    refine Jp.qat 19 rfl (qab rfl rfl rfl rfl) rfl rfl Kp.true ?_
    refine Jp.qat 20 rfl (qab rfl rfl rfl rfl) rfl rfl Kp.true ?_
    refine Jp.y 21 rfl (qaa rfl) rfl rfl Kp.true (Y.qaz rfl rfl rfl) ?_
    refine Jp.y 15 rfl (qaa rfl) rfl rfl Kp.true (Y.assign rfl rfl) ?_
    refine Jp.qae hK51 ?_
    refine Cd.qbu rfl ?_
    refine Cd.seq fun K57 hK57=>?_
    refine Cd.qac [(0,false),(1,false),(2,false),(3,false),(4,false),(5,false),(6,false)] rfl rfl ?_
    refine Jp.y 27 rfl (qaa rfl) rfl rfl Kp.true (Y.move rfl rfl) ?_
    refine Jp.y 28 rfl (qaa rfl) rfl rfl Kp.true (Y.geq rfl rfl rfl) ?_
    refine Jp.y 29 rfl (qaa rfl) rfl rfl Kp.true (Y.move rfl rfl) ?_
    refine Jp.split 29 rfl (fun g29=>?_) (fun g29=>?_)
    ·skip
     try simp only [sG0] at g29
     refine Jp.y 30 rfl (qab rfl rfl rfl rfl) rfl rfl Kp.true (Y.move rfl rfl) ?_
     refine Jp.y 31 rfl (qab rfl rfl rfl rfl) rfl rfl Kp.true (Y.leq rfl rfl rfl) ?_
     refine Jp.y 32 rfl (qaa rfl) rfl rfl Kp.true (Y.qba rfl rfl rfl) ?_
     refine Jp.y 26 rfl (qaa rfl) rfl rfl Kp.true (Y.assign rfl rfl) ?_
     refine Jp.qae hK57 ?_
     refine Cd.qaq rfl (fun g26=>?_) (fun g26=>?_)
     ·skip
      try simp only [sG0] at g26
      refine Cd.seq fun K58 hK58=>?_
      refine Cd.qac [(0,false),(1,false),(2,false),(3,false),(4,false)] rfl rfl ?_
      refine Jp.y 33 rfl (qaa rfl) rfl rfl Kp.true (Y.move rfl rfl) ?_
      refine Jp.y 34 rfl (qaa rfl) rfl rfl Kp.true (Y.qfy rfl rfl rfl (by exact qaj (by omega) (by omega))) ?_
      refine Jp.y 35 rfl (qaa rfl) rfl rfl Kp.true (Y.qcd rfl rfl rfl (by exact qaj (by omega) (by omega))) ?_
      refine Jp.y 2 rfl (qaa rfl) rfl rfl Kp.true (Y.assign rfl rfl) ?_
      refine Jp.y 3 rfl (qaa rfl) rfl rfl Kp.true (Y.assign rfl rfl) ?_
      refine Jp.qae hK58 ?_
      refine Cd.ret [] rfl (qbr rfl rfl rfl) trivial ⟨rfl,by (exfalso; omega),rfl⟩
     ·skip
      try simp only [sG0] at g26
      refine Cd.over rfl hK48 ?_
      refine Cd.seq fun K59 hK59=>?_
      refine Cd.qac [(0,false),(1,false)] rfl rfl ?_
      refine Jp.y 2 rfl (qaa rfl) rfl rfl Kp.true (Y.assign rfl rfl) ?_
      refine Jp.y 3 rfl (qaa rfl) rfl rfl Kp.true (Y.assign rfl rfl) ?_
      refine Jp.qae hK59 ?_
      refine Cd.ret [] rfl (qbr rfl rfl rfl) trivial ⟨rfl,by (exfalso; omega),rfl⟩
    ·skip
     try simp only [sG0] at g29
     refine Jp.qat 30 rfl (qab rfl rfl rfl rfl) rfl rfl Kp.true ?_
     refine Jp.qat 31 rfl (qab rfl rfl rfl rfl) rfl rfl Kp.true ?_
     refine Jp.y 32 rfl (qaa rfl) rfl rfl Kp.true (Y.qaz rfl rfl rfl) ?_
     refine Jp.y 26 rfl (qaa rfl) rfl rfl Kp.true (Y.assign rfl rfl) ?_
     refine Jp.qae hK57 ?_
     refine Cd.qbu rfl ?_
     refine Cd.over rfl hK48 ?_
     refine Cd.seq fun K60 hK60=>?_
     refine Cd.qac [(0,false),(1,false)] rfl rfl ?_
     refine Jp.y 2 rfl (qaa rfl) rfl rfl Kp.true (Y.assign rfl rfl) ?_
     refine Jp.y 3 rfl (qaa rfl) rfl rfl Kp.true (Y.assign rfl rfl) ?_
     refine Jp.qae hK60 ?_
     refine Cd.ret [] rfl (qbr rfl rfl rfl) trivial ⟨rfl,by (exfalso; omega),rfl⟩
 ·skip
  try simp only [sG0] at g7
  refine Jp.qat 8 rfl (qab rfl rfl rfl rfl) rfl rfl Kp.true ?_
  refine Jp.qat 9 rfl (qab rfl rfl rfl rfl) rfl rfl Kp.true ?_
  refine Jp.y 10 rfl (qaa rfl) rfl rfl Kp.true (Y.qaz rfl rfl rfl) ?_
  refine Jp.y 4 rfl (qaa rfl) rfl rfl Kp.true (Y.assign rfl rfl) ?_
  refine Jp.qae hK49 ?_
  refine Cd.qbu rfl ?_
  refine Cd.seq fun K61 hK61=>?_
  refine Cd.qac [(0,false),(1,false),(2,false),(3,false),(4,false),(5,false),(6,false)] rfl rfl ?_
  refine Jp.y 16 rfl (qaa rfl) rfl rfl Kp.true (Y.move rfl rfl) ?_
  refine Jp.y 17 rfl (qaa rfl) rfl rfl Kp.true (Y.geq rfl rfl rfl) ?_
  refine Jp.y 18 rfl (qaa rfl) rfl rfl Kp.true (Y.move rfl rfl) ?_
  refine Jp.split 18 rfl (fun g18=>?_) (fun g18=>?_)
  ·skip
   try simp only [sG0] at g18
   refine Jp.y 19 rfl (qab rfl rfl rfl rfl) rfl rfl Kp.true (Y.move rfl rfl) ?_
   refine Jp.y 20 rfl (qab rfl rfl rfl rfl) rfl rfl Kp.true (Y.leq rfl rfl rfl) ?_
   refine Jp.y 21 rfl (qaa rfl) rfl rfl Kp.true (Y.qba rfl rfl rfl) ?_
   refine Jp.y 15 rfl (qaa rfl) rfl rfl Kp.true (Y.assign rfl rfl) ?_
   refine Jp.qae hK61 ?_
   refine Cd.qaq rfl (fun g15=>?_) (fun g15=>?_)
   ·skip
    try simp only [sG0] at g15
    refine Cd.seq fun K62 hK62=>?_
    refine Cd.qac [(0,false),(1,false),(2,false),(3,false),(4,false),(5,false)] rfl rfl ?_
    refine Jp.y 22 rfl (qaa rfl) rfl rfl Kp.true (Y.array [(0,_),(1,_),(2,_),(3,_),(4,_),(5,_),(6,_),(7,_),(8,_),(9,_)] [_,_,_,_,_,_,_,_,_,_] rfl rfl underlying133 sizeOf3 zeroValue133 rfl) ?_
    refine Jp.y 23 rfl (qaa rfl) rfl rfl Kp.true (Y.move rfl rfl) ?_
    refine Jp.y 24 rfl (qaa rfl) rfl rfl Kp.true (Y.qfy rfl rfl rfl (by exact qaj (by omega) (by omega))) ?_
    refine Jp.y 25 rfl (qaa rfl) rfl rfl Kp.true (Y.qcj (v:=.int .i64 (kindA op : Int)) rfl underlying133 sizeOf3 isAgg3 rfl rfl (by omega) (by omega) (hidx2 (by omega))) ?_
    refine Jp.y 2 rfl (qaa rfl) rfl rfl Kp.true (Y.assign rfl rfl) ?_
    refine Jp.y 3 rfl (qaa rfl) rfl rfl Kp.true (Y.assign rfl rfl) ?_
    refine Jp.qae hK62 ?_
    refine Cd.ret [] rfl (qbr rfl rfl rfl) trivial ⟨rfl,by rw [show isKind op = true from decide_eq_true (by omega)],rfl⟩
   ·skip
    try simp only [sG0] at g15
    refine Cd.seq fun K63 hK63=>?_
    refine Cd.qac [(0,false),(1,false),(2,false),(3,false),(4,false),(5,false),(6,false)] rfl rfl ?_
    refine Jp.y 27 rfl (qaa rfl) rfl rfl Kp.true (Y.move rfl rfl) ?_
    refine Jp.y 28 rfl (qaa rfl) rfl rfl Kp.true (Y.geq rfl rfl rfl) ?_
    refine Jp.y 29 rfl (qaa rfl) rfl rfl Kp.true (Y.move rfl rfl) ?_
    refine Jp.split 29 rfl (fun g29=>?_) (fun g29=>?_)
    ·skip
     try simp only [sG0] at g29
     refine Jp.y 30 rfl (qab rfl rfl rfl rfl) rfl rfl Kp.true (Y.move rfl rfl) ?_
     refine Jp.y 31 rfl (qab rfl rfl rfl rfl) rfl rfl Kp.true (Y.leq rfl rfl rfl) ?_
     refine Jp.y 32 rfl (qaa rfl) rfl rfl Kp.true (Y.qba rfl rfl rfl) ?_
     refine Jp.y 26 rfl (qaa rfl) rfl rfl Kp.true (Y.assign rfl rfl) ?_
     refine Jp.qae hK63 ?_
     refine Cd.qaq rfl (fun g26=>?_) (fun g26=>?_)
     ·skip
      try simp only [sG0] at g26
      refine Cd.seq fun K64 hK64=>?_
      refine Cd.qac [(0,false),(1,false),(2,false),(3,false),(4,false)] rfl rfl ?_
      refine Jp.y 33 rfl (qaa rfl) rfl rfl Kp.true (Y.move rfl rfl) ?_
      refine Jp.y 34 rfl (qaa rfl) rfl rfl Kp.true (Y.qfy rfl rfl rfl (by exact qaj (by omega) (by omega))) ?_
      refine Jp.y 35 rfl (qaa rfl) rfl rfl Kp.true (Y.qcd rfl rfl rfl (by exact qaj (by omega) (by omega))) ?_
      refine Jp.y 2 rfl (qaa rfl) rfl rfl Kp.true (Y.assign rfl rfl) ?_
      refine Jp.y 3 rfl (qaa rfl) rfl rfl Kp.true (Y.assign rfl rfl) ?_
      refine Jp.qae hK64 ?_
      refine Cd.ret [] rfl (qbr rfl rfl rfl) trivial ⟨rfl,by (exfalso; omega),rfl⟩
     ·skip
      try simp only [sG0] at g26
      refine Cd.over rfl hK48 ?_
      refine Cd.seq fun K65 hK65=>?_
      refine Cd.qac [(0,false),(1,false)] rfl rfl ?_
      refine Jp.y 2 rfl (qaa rfl) rfl rfl Kp.true (Y.assign rfl rfl) ?_
      refine Jp.y 3 rfl (qaa rfl) rfl rfl Kp.true (Y.assign rfl rfl) ?_
      refine Jp.qae hK65 ?_
      refine Cd.ret [] rfl (qbr rfl rfl rfl) trivial ⟨rfl,by (exfalso; omega),rfl⟩
    ·skip
     try simp only [sG0] at g29
     refine Jp.qat 30 rfl (qab rfl rfl rfl rfl) rfl rfl Kp.true ?_
     refine Jp.qat 31 rfl (qab rfl rfl rfl rfl) rfl rfl Kp.true ?_
     refine Jp.y 32 rfl (qaa rfl) rfl rfl Kp.true (Y.qaz rfl rfl rfl) ?_
     refine Jp.y 26 rfl (qaa rfl) rfl rfl Kp.true (Y.assign rfl rfl) ?_
     refine Jp.qae hK63 ?_
     refine Cd.qbu rfl ?_
     refine Cd.over rfl hK48 ?_
     refine Cd.seq fun K66 hK66=>?_
     refine Cd.qac [(0,false),(1,false)] rfl rfl ?_
     refine Jp.y 2 rfl (qaa rfl) rfl rfl Kp.true (Y.assign rfl rfl) ?_
     refine Jp.y 3 rfl (qaa rfl) rfl rfl Kp.true (Y.assign rfl rfl) ?_
     refine Jp.qae hK66 ?_
     refine Cd.ret [] rfl (qbr rfl rfl rfl) trivial ⟨rfl,by (exfalso; omega),rfl⟩
  ·skip
   try simp only [sG0] at g18
   refine Jp.qat 19 rfl (qab rfl rfl rfl rfl) rfl rfl Kp.true ?_
   refine Jp.qat 20 rfl (qab rfl rfl rfl rfl) rfl rfl Kp.true ?_
   refine Jp.y 21 rfl (qaa rfl) rfl rfl Kp.true (Y.qaz rfl rfl rfl) ?_
   refine Jp.y 15 rfl (qaa rfl) rfl rfl Kp.true (Y.assign rfl rfl) ?_
   refine Jp.qae hK61 ?_
   refine Cd.qbu rfl ?_
   refine Cd.seq fun K67 hK67=>?_
   refine Cd.qac [(0,false),(1,false),(2,false),(3,false),(4,false),(5,false),(6,false)] rfl rfl ?_
   refine Jp.y 27 rfl (qaa rfl) rfl rfl Kp.true (Y.move rfl rfl) ?_
   refine Jp.y 28 rfl (qaa rfl) rfl rfl Kp.true (Y.geq rfl rfl rfl) ?_
   refine Jp.y 29 rfl (qaa rfl) rfl rfl Kp.true (Y.move rfl rfl) ?_
   refine Jp.split 29 rfl (fun g29=>?_) (fun g29=>?_)
   ·skip
    try simp only [sG0] at g29
    refine Jp.y 30 rfl (qab rfl rfl rfl rfl) rfl rfl Kp.true (Y.move rfl rfl) ?_
    refine Jp.y 31 rfl (qab rfl rfl rfl rfl) rfl rfl Kp.true (Y.leq rfl rfl rfl) ?_
    refine Jp.y 32 rfl (qaa rfl) rfl rfl Kp.true (Y.qba rfl rfl rfl) ?_
    refine Jp.y 26 rfl (qaa rfl) rfl rfl Kp.true (Y.assign rfl rfl) ?_
    refine Jp.qae hK67 ?_
    refine Cd.qaq rfl (fun g26=>?_) (fun g26=>?_)
    ·skip
     try simp only [sG0] at g26
     refine Cd.seq fun K68 hK68=>?_
     refine Cd.qac [(0,false),(1,false),(2,false),(3,false),(4,false)] rfl rfl ?_
     refine Jp.y 33 rfl (qaa rfl) rfl rfl Kp.true (Y.move rfl rfl) ?_
     refine Jp.y 34 rfl (qaa rfl) rfl rfl Kp.true (Y.qfy rfl rfl rfl (by exact qaj (by omega) (by omega))) ?_
     refine Jp.y 35 rfl (qaa rfl) rfl rfl Kp.true (Y.qcd rfl rfl rfl (by exact qaj (by omega) (by omega))) ?_
     refine Jp.y 2 rfl (qaa rfl) rfl rfl Kp.true (Y.assign rfl rfl) ?_
     refine Jp.y 3 rfl (qaa rfl) rfl rfl Kp.true (Y.assign rfl rfl) ?_
     refine Jp.qae hK68 ?_
     refine Cd.ret [] rfl (qbr rfl rfl rfl) trivial ⟨rfl,by (exfalso; omega),rfl⟩
    ·skip
     try simp only [sG0] at g26
     refine Cd.over rfl hK48 ?_
     refine Cd.seq fun K69 hK69=>?_
     refine Cd.qac [(0,false),(1,false)] rfl rfl ?_
     refine Jp.y 2 rfl (qaa rfl) rfl rfl Kp.true (Y.assign rfl rfl) ?_
     refine Jp.y 3 rfl (qaa rfl) rfl rfl Kp.true (Y.assign rfl rfl) ?_
     refine Jp.qae hK69 ?_
     refine Cd.ret [] rfl (qbr rfl rfl rfl) trivial ⟨rfl,by (exfalso; omega),rfl⟩
   ·skip
    try simp only [sG0] at g29
    refine Jp.qat 30 rfl (qab rfl rfl rfl rfl) rfl rfl Kp.true ?_
    refine Jp.qat 31 rfl (qab rfl rfl rfl rfl) rfl rfl Kp.true ?_
    refine Jp.y 32 rfl (qaa rfl) rfl rfl Kp.true (Y.qaz rfl rfl rfl) ?_
    refine Jp.y 26 rfl (qaa rfl) rfl rfl Kp.true (Y.assign rfl rfl) ?_
    refine Jp.qae hK67 ?_
    refine Cd.qbu rfl ?_
    refine Cd.over rfl hK48 ?_
    refine Cd.seq fun K70 hK70=>?_
    refine Cd.qac [(0,false),(1,false)] rfl rfl ?_
    refine Jp.y 2 rfl (qaa rfl) rfl rfl Kp.true (Y.assign rfl rfl) ?_
    refine Jp.y 3 rfl (qaa rfl) rfl rfl Kp.true (Y.assign rfl rfl) ?_
    refine Jp.qae hK70 ?_
    refine Cd.ret [] rfl (qbr rfl rfl rfl) trivial ⟨rfl,by (rw [show isKind op = false from decide_eq_false (by omega),show kindA op = 0 by (rw [kindA,if_neg (by omega),if_neg (by omega),if_neg (by omega)])]; rfl),rfl⟩
end Go.Proofs.Ytnfkalpgidiafaa

namespace Go.Proofs.Ytnfkalpgidiafaa
open _root_.Go.Proofs.Try
open Go
def pgOk (M : MemG) (k : Nat) (need : Int) : Bool:=match qan M.pages k with
 | some p=>may p.perm need
 | none=>false
def qfi (a n : Nat) : Nat:=(a % 256 + n + 255) / 256
def allM (M : MemG) (a n : Nat) (need : Int) : Bool:=decide (n = 0) || (decide (a + n ≤ 4294967296) && (List.range (qfi a n)).all fun j=>pgOk M (qar a + 256 * j) need)
theorem pgOk_some {M : MemG} {k : Nat} {need : Int} {p : Pg} (h : qan M.pages k = some p) : pgOk M k need = may p.perm need:=by rw [pgOk,h]
theorem pgOk_none {M : MemG} {k : Nat} {need : Int} (h : qan M.pages k = none) : pgOk M k need = false:=by rw [pgOk,h]
theorem allM_yes {M : MemG} {a n : Nat} {need : Int} (h : a + n ≤ 4294967296) (h2 : ∀ j,j < qfi a n → pgOk M (qar a + 256 * j) need = true) : allM M a n need = true:=by
 simp only [allM,h,decide_true,Bool.true_and,Bool.or_eq_true]
 exact .inr (List.all_eq_true.2 fun j hj=>h2 j (List.mem_range.1 hj))
theorem allM_no {M : MemG} {a n j : Nat} {need : Int} (hn : n ≠ 0) (hj : j < qfi a n) (h2 : pgOk M (qar a + 256 * j) need = false) : allM M a n need = false:=by
 simp only [allM,hn,decide_false,Bool.false_or,Bool.and_eq_false_iff]
 refine .inr (Bool.eq_false_iff.2 fun h=>?_)
 have:=List.all_eq_true.1 h j (List.mem_range.2 hj)
 rw [h2] at this; cases this
theorem allM_big {M : MemG} {a n : Nat} {need : Int} (hn : n ≠ 0) (h : 4294967296 < a + n) : allM M a n need = false:=by
 simp only [allM,hn,decide_false,Bool.false_or,Bool.and_eq_false_iff,decide_eq_false_iff_not]
 exact .inl (by omega)
theorem allM_page {M : MemG} {a n i : Nat} {need : Int} (h : allM M a n need = true) (hi : i < n) : a + n ≤ 4294967296 ∧ ∃ p,qan M.pages (qar (a + i)) = some p ∧ may p.perm need = true:=by
 simp only [allM,Bool.or_eq_true,Bool.and_eq_true,decide_eq_true_eq] at h
 rcases h with h | ⟨h1,h2⟩
 ·omega
 refine ⟨h1,?_⟩
 have hb : qar (a + i) = qar a + 256 * ((a % 256 + i) / 256):=by unfold qar; omega
 have:=List.all_eq_true.1 h2 ((a % 256 + i) / 256) (List.mem_range.2 (by unfold qfi; omega))
 rw [← hb,pgOk] at this
 split at this
 ·rename_i p hp; exact ⟨p,hp,this⟩
 ·cases this
theorem all_spec (b : Nat) (M : MemG) (x : MemX) (hf : MemF M x) (a n : Nat) (need : Int) (ha : a < 4294967296) (hn : n ≤ 65536) : Spec Try.prog 57 #[.pointer (some ⟨b,0,none⟩),.int .u32 a,.int .i64 n,.int .i64 need] (fun _=>True) [(0,Pt b (qct M x)),(1,qda .u32 x.pb x.pm),(2,Blks (qbm M x))]
  (fun ρ ρ' v L=>ρ' = ρ ∧ v = .bool (allM M a n need) ∧ L = [(0,Pt b (qct M x)),(1,qda .u32 x.pb x.pm),(2,Blks (qbm M x))]):=by
 refine Spec.of 51 Try.func57 rfl Try.ntmps57 [(0,_),(1,_),(2,_),(3,_)] rfl rfl ?_
 intro cx ρ hr h0
 refine Cd.seq fun K1 hK1=>?_
 refine Cd.qac [(0,false)] rfl rfl ?_
 refine Jp.y 8 rfl (qaa rfl) rfl rfl Kp.true (Y.assign rfl rfl) ?_
 refine Jp.qae hK1 ?_
 refine Cd.seq fun K2 hK2=>?_
 refine Cd.seq fun K3 hK3=>?_
 refine Cd.qac [(0,false),(1,false)] rfl rfl ?_
 refine Jp.y 12 rfl (qaa rfl) rfl rfl Kp.true (Y.move rfl rfl) ?_
 refine Jp.y 13 rfl (qaa rfl) rfl rfl Kp.true (Y.eql rfl rfl rfl) ?_
 refine Jp.qae hK3 ?_
 refine Cd.qaq rfl (fun g13=>?_) (fun g13=>?_)
 ·skip
  try simp only [sG0] at g13
  refine Cd.seq fun K4 hK4=>?_
  refine Cd.qac [(0,false)] rfl rfl ?_
  refine Jp.y 8 rfl (qaa rfl) rfl rfl Kp.true (Y.assign rfl rfl) ?_
  refine Jp.qae hK4 ?_
  refine Cd.ret [(0,_),(1,_),(2,_)] rfl (qbe rfl rfl) ⟨rfl,rfl,rfl,trivial⟩ ⟨rfl,congrArg Value.bool ?_,rfl⟩
  have : n = 0:=by omega
  subst this; rfl
 try simp only [sG0] at g13
 refine Cd.qbw hK2 ?_
 refine Cd.seq fun K5 hK5=>?_
 refine Cd.seq fun K6 hK6=>?_
 refine Cd.qac [(0,false),(1,false),(2,false),(3,false),(4,false),(5,false)] rfl rfl ?_
 refine Jp.y 14 rfl (qaa rfl) rfl rfl Kp.true (Y.move rfl rfl) ?_
 refine Jp.y 15 rfl (qaa rfl) rfl rfl Kp.true (Y.qav rfl rfl underlying31 underlying93 (by exact qbh (by omega) (by omega))) ?_
 refine Jp.y 16 rfl (qaa rfl) rfl rfl Kp.true (Y.move rfl rfl) ?_
 refine Jp.y 17 rfl (qaa rfl) rfl rfl Kp.true (Y.qav rfl rfl underlying3 underlying93 (by exact qbh (by omega) (by omega))) ?_
 refine Jp.y 18 rfl (qaa rfl) rfl rfl Kp.true (Y.qcd rfl rfl rfl (by exact qbh (by omega) (by omega))) ?_
 refine Jp.y 19 rfl (qaa rfl) rfl rfl Kp.true (Y.gtr rfl rfl rfl) ?_
 refine Jp.qae hK6 ?_
 refine Cd.qaq rfl (fun g19=>?_) (fun g19=>?_)
 ·skip
  try simp only [sG0] at g19
  refine Cd.seq fun K7 hK7=>?_
  refine Cd.qac [(0,false)] rfl rfl ?_
  refine Jp.y 8 rfl (qaa rfl) rfl rfl Kp.true (Y.assign rfl rfl) ?_
  refine Jp.qae hK7 ?_
  refine Cd.ret [(0,_),(1,_),(2,_)] rfl (qbe rfl rfl) ⟨rfl,rfl,rfl,trivial⟩ ⟨rfl,congrArg Value.bool (allM_big (by omega) (by omega)).symm,rfl⟩
 try simp only [sG0] at g19
 refine Cd.qbw hK5 ?_
 refine Cd.seq fun K8 hK8=>?_
 refine Cd.qac [(0,false),(1,false),(2,false),(3,false),(4,false),(5,false),(6,false)] rfl rfl ?_
 refine Jp.y 20 rfl (qaa rfl) rfl rfl Kp.true (Y.move rfl rfl) ?_
 refine Jp.y 21 rfl (qaa rfl) rfl rfl Kp.true (Y.move rfl rfl) ?_
 refine Jp.y 22 rfl (qaa rfl) rfl rfl Kp.true (Y.qfy rfl rfl rfl (by exact qaj (by omega) (by omega))) ?_
 refine Jp.y 23 rfl (qaa rfl) rfl rfl Kp.true (Y.qav rfl rfl underlying3 underlying31 (by exact qau (by omega) (by omega))) ?_
 refine Jp.y 24 rfl (qaa rfl) rfl rfl Kp.true (Y.qcd rfl rfl rfl (by exact qau (by omega) (by omega))) ?_
 refine Jp.slot 24 rfl (congrArg (Value.int .u32) (show (a : Int) + (n - 1) = ((a + n - 1 : Nat) : Int) by omega)) ?_
 refine Jp.call [] [] (qcw (a + n - 1) (by omega)) 25 rfl (qaa rfl) rfl rfl (Runs.fn rfl call58 rfl) (by decide) (by decide) rfl trivial ?_
 rintro v1 ρ1 L1 ⟨rfl,rfl,rfl⟩
 refine ⟨rfl,fun hle1=>⟨Kp.true,?_⟩⟩
 refine Jp.y 9 rfl (qaa rfl) rfl rfl Kp.true (Y.assign rfl rfl) ?_
 refine Jp.qae hK8 ?_
 refine Cd.seq fun K9 hK9=>?_
 refine Cd.qac [(0,false),(1,false),(2,false)] rfl rfl ?_
 refine Jp.y 26 rfl (qaa rfl) rfl rfl Kp.true (Y.move rfl rfl) ?_
 refine Jp.call [] [] (qcw a ha) 27 rfl (qaa rfl) rfl rfl (Runs.fn rfl call58 rfl) (by decide) (by decide) rfl trivial ?_
 rintro v2 ρ2 L2 ⟨rfl,rfl,rfl⟩
 refine ⟨rfl,fun hle2=>⟨Kp.true,?_⟩⟩
 refine Jp.y 10 rfl (qaa rfl) rfl rfl Kp.true (Y.assign rfl rfl) ?_
 refine Jp.qae hK9 ?_
 refine Cd.block ?_
 have hc1 : 1 ≤ qfi a n:=by unfold qfi; omega
 have hlast : qar (a + n - 1) = qar a + 256 * (qfi a n - 1):=by unfold qar qfi; omega
 have hb0 : qar a ≤ a:=by unfold qar; omega
 have hb1 : qar a + 256 * (qfi a n - 1) < 4294967296:=by rw [← hlast]; unfold qar; omega
 rw [hlast]
 refine Cd.qfl (G:=Nat) (fun j=>j < qfi a n ∧ ∀ i,i < j → pgOk M (qar a + 256 * i) need = true) (fun j=>qfi a n - j) (fun _=>_) (fun j=>[(10,.int .u32 ((qar a + 256 * j : Nat) : Int))]) [(0,_),(3,_),(9,_)] (fun _=>[]) [(0,_),(1,_),(2,_)] 0 ⟨hc1,fun i h=>by omega⟩ rfl ⟨rfl,trivial⟩ ⟨rfl,rfl,rfl,trivial⟩ trivial ⟨rfl,rfl,rfl,trivial⟩ (fun g KLa hok hLa=>?_)
 obtain ⟨ok1,ok2⟩:=hok
 have hget:=hf.get (qar a + 256 * g)
 refine Cd.seq fun K10 hK10=>?_
 refine Cd.block ?_
 refine Cd.seq fun K11 hK11=>?_
 refine Cd.qac [(0,false),(1,false),(2,false),(3,false),(4,false),(5,false),(6,false)] rfl rfl ?_
 refine Jp.y 30 rfl (qaa rfl) rfl rfl Kp.true (Y.move rfl rfl) ?_
 refine Jp.y 31 rfl (qaa rfl) rfl rfl Kp.true (Y.qao rfl rfl) ?_
 refine Jp.y 32 rfl (qaa rfl) rfl rfl Kp.true (by exact Y.qad rfl rfl underlying92 rfl sizeOf89 (by decide) (show _ + 1 = _ from rfl)) ?_
 refine Jp.y 33 rfl (qaa rfl) rfl rfl Kp.true (Y.qaw 0 rfl isAgg89 rfl rfl rfl) ?_
 refine Jp.y 34 rfl (qaa rfl) rfl rfl Kp.true (Y.move rfl rfl) ?_
 refine Jp.y 35 rfl (qaa rfl) rfl rfl Kp.true (by first | exact Y.lookup 1 rfl rfl rfl underlying89 underlying31 zeroValue97 rfl) ?_
 refine Jp.y 11 rfl (qaa rfl) rfl rfl Kp.true (Y.assign rfl rfl) ?_
 refine Jp.qae hK11 ?_
 refine Cd.seq fun K12 hK12=>?_
 refine Cd.seq fun K13 hK13=>?_
 refine Cd.qac [(0,false),(1,false),(2,false),(3,false),(4,false),(5,false),(6,false),(7,false),(8,false),(9,false),(10,false),(11,false)] rfl rfl ?_
 rcases hg : qan M.pages (qar a + 256 * g) with _ | p
 ·rw [hg] at hget
  refine Jp.slot 11 rfl (show _ = Value.pointer none by rw [hget]; rfl) ?_
  refine Jp.y 36 rfl (qaa rfl) rfl rfl Kp.true (Y.move rfl rfl) ?_
  refine Jp.y 37 rfl (qaa rfl) rfl rfl Kp.true (Y.qfj rfl underlying97 rfl rfl) ?_
  refine Jp.y 38 rfl (qaa rfl) rfl rfl Kp.true (Y.move rfl rfl) ?_
  refine Jp.split 38 rfl (fun g38=>?_) (fun g38=>?_)
  ·skip
   try simp only [sG0] at g38
   skip
   refine Jp.qat 39 rfl (qab rfl rfl rfl rfl) rfl rfl Kp.true ?_
   refine Jp.qat 40 rfl (qab rfl rfl rfl rfl) rfl rfl Kp.true ?_
   refine Jp.qat 41 rfl (qab rfl rfl rfl rfl) rfl rfl Kp.true ?_
   refine Jp.qat 42 rfl (qab rfl rfl rfl rfl) rfl rfl Kp.true ?_
   refine Jp.qat 43 rfl (qab rfl rfl rfl rfl) rfl rfl Kp.true ?_
   refine Jp.qat 44 rfl (qab rfl rfl rfl rfl) rfl rfl Kp.true ?_
   refine Jp.qat 45 rfl (qab rfl rfl rfl rfl) rfl rfl Kp.true ?_
   refine Jp.qat 46 rfl (qab rfl rfl rfl rfl) rfl rfl Kp.true ?_
   refine Jp.y 47 rfl (qaa rfl) rfl rfl Kp.true (Y.qba rfl rfl rfl) ?_
   refine Jp.qae hK13 ?_
   refine Cd.qdk rfl ?_
   refine Cd.seq fun K14 hK14=>?_
   refine Cd.qac [(0,false)] rfl rfl ?_
   refine Jp.y 8 rfl (qaa rfl) rfl rfl Kp.true (Y.assign rfl rfl) ?_
   refine Jp.qae hK14 ?_
   refine Cd.ret [(0,_),(1,_),(2,_)] rfl (qbe rfl rfl) ⟨rfl,rfl,rfl,trivial⟩ ⟨rfl,congrArg Value.bool ?_,rfl⟩
   exact (allM_no (M:=M) (a:=a) (n:=n) (by omega) ok1 (pgOk_none hg)).symm
  ·skip
   try simp only [sG0] at g38
   ((simp at g38; done))
 ·rw [hg] at hget
  refine Jp.slot 11 rfl (show _ = Value.pointer (some ⟨x.blk (qar a + 256 * g),0,none⟩) by rw [hget]; rfl) ?_
  have hpo:=hf.ok.page _ (qbb hg)
  have hcell:=Blks.cell (MemF.blk (x:=x) hg) (qby p hpo.len)
  refine Jp.y 36 rfl (qaa rfl) rfl rfl Kp.true (Y.move rfl rfl) ?_
  refine Jp.y 37 rfl (qaa rfl) rfl rfl Kp.true (Y.qfj rfl underlying97 rfl rfl) ?_
  refine Jp.y 38 rfl (qaa rfl) rfl rfl Kp.true (Y.move rfl rfl) ?_
  refine Jp.split 38 rfl (fun g38=>?_) (fun g38=>?_)
  ·skip
   try simp only [sG0] at g38
   ((simp at g38; done))
  ·skip
   try simp only [sG0] at g38
   skip
   refine Jp.y 39 rfl (qab rfl rfl rfl rfl) rfl rfl Kp.true (Y.move rfl rfl) ?_
   refine Jp.y 40 rfl (qab rfl rfl rfl rfl) rfl rfl Kp.true (Y.qao rfl rfl) ?_
   refine Jp.y 41 rfl (qab rfl rfl rfl rfl) rfl rfl Kp.true (by exact Y.qad rfl rfl underlying99 rfl sizeOf3 (by decide) (show _ + 256 = _ from rfl)) ?_
   refine Jp.y 42 rfl (qab rfl rfl rfl rfl) rfl rfl Kp.true (by exact Y.qbk 2 rfl isAgg3 rfl rfl hcell) ?_
   refine Jp.y 43 rfl (qab rfl rfl rfl rfl) rfl rfl Kp.true (Y.move rfl rfl) ?_
   refine Jp.y 44 rfl (qab rfl rfl rfl rfl) rfl rfl Kp.true (Y.bits rfl rfl rfl rfl) ?_
   refine Jp.y 45 rfl (qab rfl rfl rfl rfl) rfl rfl Kp.true (Y.move rfl rfl) ?_
   refine Jp.y 46 rfl (qab rfl rfl rfl rfl) rfl rfl Kp.true (Y.neq rfl rfl rfl) ?_
   refine Jp.y 47 rfl (qaa rfl) rfl rfl Kp.true (Y.qaz rfl rfl rfl) ?_
   refine Jp.qae hK13 ?_
   refine Cd.qaq rfl (fun g47=>?_) (fun g47=>?_)
   ·skip
    try simp only [sG0] at g47
    skip
    refine Cd.seq fun K19 hK19=>?_
    refine Cd.qac [(0,false)] rfl rfl ?_
    refine Jp.y 8 rfl (qaa rfl) rfl rfl Kp.true (Y.assign rfl rfl) ?_
    refine Jp.qae hK19 ?_
    refine Cd.ret [(0,_),(1,_),(2,_)] rfl (qbe rfl rfl) ⟨rfl,rfl,rfl,trivial⟩ ⟨rfl,congrArg Value.bool ?_,rfl⟩
    exact (allM_no (M:=M) (a:=a) (n:=n) (by omega) ok1 (by rw [pgOk_some hg]; simpa [may] using g47)).symm
   ·skip
    try simp only [sG0] at g47
    skip
    refine Cd.qbw hK12 ?_
    refine Cd.seq fun K20 hK20=>?_
    refine Cd.qac [(0,false),(1,false),(2,false)] rfl rfl ?_
    refine Jp.y 48 rfl (qaa rfl) rfl rfl Kp.true (Y.move rfl rfl) ?_
    refine Jp.y 49 rfl (qaa rfl) rfl rfl Kp.true (Y.move rfl rfl) ?_
    refine Jp.y 50 rfl (qaa rfl) rfl rfl Kp.true (Y.eql rfl rfl rfl) ?_
    refine Jp.qae hK20 ?_
    refine Cd.qaq rfl (fun g50=>?_) (fun g50=>?_)
    ·skip
     try simp only [sG0] at g50
     skip
     refine Cd.seq fun K21 hK21=>?_
     refine Cd.qac [(0,false)] rfl rfl ?_
     refine Jp.y 8 rfl (qaa rfl) rfl rfl Kp.true (Y.assign rfl rfl) ?_
     refine Jp.qae hK21 ?_
     refine Cd.ret [(0,_),(1,_),(2,_)] rfl (qbe rfl rfl) ⟨rfl,rfl,rfl,trivial⟩ ⟨rfl,congrArg Value.bool ?_,rfl⟩
     exact (allM_yes (M := M) (a := a) (n := n) (by omega) (fun i hi => by
      by_cases hij : i < g
      ·exact ok2 i hij
      ·have : i = g:=by omega
       subst this; rw [pgOk_some hg]; simpa [may] using g47)).symm
    ·skip
     try simp only [sG0] at g50
     skip
     refine Cd.over rfl hK10 ?_
     refine Cd.qac [(0,false),(1,false),(2,false)] rfl rfl ?_
     refine Jp.y 28 rfl (qaa rfl) rfl rfl Kp.true (Y.move rfl rfl) ?_
     refine Jp.y 29 rfl (qaa rfl) rfl rfl Kp.true (Y.qcd rfl rfl rfl (by exact qau (by omega) (by omega))) ?_
     refine Jp.y 10 rfl (qaa rfl) rfl rfl Kp.true (Y.assign rfl rfl) ?_
     have hyes : pgOk M (qar a + 256 * g) need = true:=by rw [pgOk_some hg]; simpa [may] using g47
     refine Jp.slot 10 rfl (congrArg (Value.int .u32) (show ((qar a + 256 * g : Nat) : Int) + 256 = ((qar a + 256 * (g + 1) : Nat) : Int) by omega)) ?_
     refine Jp.again hLa (g + 1) ⟨by omega,fun i hi=>?_⟩ (by omega) rfl ⟨rfl,rfl,rfl,rfl,trivial⟩ ⟨rfl,rfl,rfl,trivial⟩
     by_cases hij : i < g
     ·exact ok2 i hij
     ·have : i = g:=by omega
      subst this; exact hyes
def byteM (M : MemG) (a : Nat) : UInt8:=match qan M.pages (qar a) with
 | some p=>p.b.getD (a % 256) 0
 | none=>0
def readL (M : MemG) (a n : Nat) : qam:=(List.range n).map fun i=>byteM M (a + i)
def readM (M : MemG) (a : Nat) (n : Int) : qam × Int:=if n < 0 ∨ 4096 < n then ([],1) else if allM M a n.toNat 1 = false then ([],8) else (readL M a n.toNat,0)
end Go.Proofs.Ytnfkalpgidiafaa
set_option linter.unusedVariables false
set_option linter.unusedSimpArgs false
set_option maxRecDepth 100000
namespace Go.Proofs.Ytnfkalpgidiafaa
open _root_.Go.Proofs.Try
open Go
def setByte (l : List (Nat × Pg)) (at' : Nat) (x : UInt8) : List (Nat × Pg):=match qan l (qar at') with
 | some p=>qbx l (qar at') ⟨p.b.set (at' % 256) x,p.perm⟩
 | none=>l
def wrM (M : MemG) (a : Nat) (l : qam) : Nat → MemG
 | 0=>M
 | i + 1=>{ wrM M a l i with pages:=setByte (wrM M a l i).pages (a + i) (l.getD i 0),gens:=if i = 0 ∨ (a + i) % 256 = 0 then bump (wrM M a l i).gens (qar (a + i)) else (wrM M a l i).gens }
def qdl (M : MemG) (a : Nat) (l : qam) (most need : Int) : Int × MemG:=if most < l.length then (1,M) else if allM M a l.length need = false then (8,M) else (0,wrM M a l l.length)
theorem getPg_setByte (l : List (Nat × Pg)) (at' : Nat) (x : UInt8) (k : Nat) : qan (setByte l at' x) k = if k = qar at' then (qan l k).map fun p=>⟨p.b.set (at' % 256) x,p.perm⟩ else qan l k:=by
 unfold setByte
 split
 ·rename_i p hp
  rw [qha]
  by_cases h : k = qar at'
  ·subst h; simp [hp]
  ·simp [h]
 ·rename_i hp
  by_cases h : k = qar at'
  ·subst h; simp [hp]
  ·simp [h]
theorem wrM_page {M : MemG} (a : Nat) (l : qam) {k : Nat} {p : Pg} (h : qan M.pages k = some p) (i : Nat) : ∃ q,qan (wrM M a l i).pages k = some q ∧ q.perm = p.perm ∧ q.b.length = p.b.length:=by
 induction i with
 | zero=>exact ⟨p,h,rfl,rfl⟩
 | succ i ih =>
  obtain ⟨q,h1,h2,h3⟩:=ih
  show ∃ q,qan (setByte _ _ _) k = some q ∧ _
  rw [getPg_setByte,h1]
  by_cases hk : k = qar (a + i)
  ·rw [if_pos hk]; exact ⟨_,rfl,h2,by simpa using h3⟩
  ·rw [if_neg hk]; exact ⟨q,rfl,h2,h3⟩
theorem wrM_budget (M : MemG) (a : Nat) (l : qam) (i : Nat) : (wrM M a l i).budget = M.budget:=by
 induction i with
 | zero=>rfl
 | succ i ih=>exact ih
theorem wrM_bump {M : MemG} {a i : Nat} {l : qam} {q : Pg} {x : UInt8} (hx : l[i]? = some x) (hq : qan (wrM M a l i).pages (qar (a + i)) = some q) (h : i = 0 ∨ (a + i) % 256 = 0) :
  wrM M a l (i + 1) = { wrM M a l i with pages:=qbx (wrM M a l i).pages (qar (a + i)) ⟨q.b.set ((a + i) % 256) x,q.perm⟩,gens:=bump (wrM M a l i).gens (qar (a + i)) }:=by
 rw [wrM,if_pos h,setByte,hq,List.getD_eq_getElem?_getD,hx]; rfl
theorem wrM_still {M : MemG} {a i : Nat} {l : qam} {q : Pg} {x : UInt8} (hx : l[i]? = some x) (hq : qan (wrM M a l i).pages (qar (a + i)) = some q) (h : ¬ (i = 0 ∨ (a + i) % 256 = 0)) :
  wrM M a l (i + 1) = { wrM M a l i with pages:=qbx (wrM M a l i).pages (qar (a + i)) ⟨q.b.set ((a + i) % 256) x,q.perm⟩ }:=by
 rw [wrM,if_neg h,setByte,hq,List.getD_eq_getElem?_getD,hx]; rfl
theorem qgt (p : Pg) {j : Nat} (h : p.b.length = 256) (hj : j < 256) (x : UInt8) : (qay p).toArray.setIfInBounds j (.int .u8 (x.toNat : Int)) = (qay ⟨p.b.set j x,p.perm⟩).toArray:=by
 rw [List.setIfInBounds_toArray]
 congr 1
 rw [qay,List.set_append_left _ _ (by rw [qaf,List.length_map]; omega),bytesV_set]; rfl
theorem RdB.cell {s : Sl UInt8} {ρ : Hp} (hr : RdB s ρ) {i : Nat} {x : UInt8} (h : s.xs[i]? = some x) : ∃ ad,s.A = some ad ∧ qdq ρ (ad.add i) = some (.int .u8 (x.toNat : Int)) :=
 hr.2.2 i _ (by rw [qaf,List.getElem?_map,h]; rfl)
theorem write_spec (b : Nat) (M : MemG) (a : Nat) (s : Sl UInt8) (most need : Int) (ha : a < 4294967296) (hmost : most ≤ 65536) : Spec Try.prog 30 #[.pointer (some ⟨b,0,none⟩),.int .u32 a,s.v,.int .i64 most,.int .i64 need] (RdB s) [(0,qfz b M)]
  (fun ρ ρ' v L=>ρ' = ρ ∧ v = .int .i64 (qdl M a s.xs most need).1 ∧ L = [(0,qfz b (qdl M a s.xs most need).2)]):=by
 obtain ⟨A,c,xs⟩:=s
 dsimp only [Sl.v]
 refine Spec.of 67 Try.func30 rfl Try.ntmps30 [(0,_),(1,_),(2,_),(3,_),(4,_)] rfl rfl ?_
 intro cx ρ hr h0
 have lx : xs.length ≤ 281474976710656:=hr.2.1.2
 refine Cd.memOpen 0 1 2 3 (by decide) rfl fun x hf=>?_
 refine Cd.seq fun K1 hK1=>?_
 refine Cd.qac [(0,false)] rfl rfl ?_
 refine Jp.y 10 rfl (qaa rfl) rfl rfl Kp.true (Y.assign rfl rfl) ?_
 refine Jp.qae hK1 ?_
 refine Cd.seq fun K2 hK2=>?_
 refine Cd.block ?_
 refine Cd.seq fun K3 hK3=>?_
 refine Cd.qac [(0,false),(1,false),(2,false),(3,false),(4,false)] rfl rfl ?_
 refine Jp.y 15 rfl (qaa rfl) rfl rfl Kp.true (Y.move rfl rfl) ?_
 refine Jp.y 16 rfl (qaa rfl) rfl rfl Kp.true (Y.qck rfl underlying58 rfl) ?_
 refine Jp.y 17 rfl (qaa rfl) rfl rfl Kp.true (Y.move rfl rfl) ?_
 refine Jp.y 18 rfl (qaa rfl) rfl rfl Kp.true (Y.gtr rfl rfl rfl) ?_
 refine Jp.y 14 rfl (qaa rfl) rfl rfl Kp.true (Y.assign rfl rfl) ?_
 refine Jp.qae hK3 ?_
 refine Cd.qaq rfl (fun g14=>?_) (fun g14=>?_)
 ·skip
  try simp only [sG0] at g14
  refine Cd.seq fun K4 hK4=>?_
  refine Cd.qac [(0,false)] rfl rfl ?_
  refine Jp.y 10 rfl (qaa rfl) rfl rfl Kp.true (Y.assign rfl rfl) ?_
  refine Jp.qae hK4 ?_
  have hV : qdl M a xs most need = (1,M):=by rw [qdl,if_pos (by omega)]
  refine Cd.memClose 0 1 2 3 (by decide) hf rfl rfl rfl rfl ?_
  refine Cd.ret [(0,_)] rfl (qbe rfl rfl) ⟨rfl,trivial⟩ ⟨rfl,by rw [hV],by rw [hV]⟩
 try simp only [sG0] at g14
 refine Cd.seq fun K5 hK5=>?_
 refine Cd.qac [(0,false),(1,false),(2,false),(3,false),(4,false),(5,false),(6,false),(7,false)] rfl rfl ?_
 refine Jp.y 20 rfl (qaa rfl) rfl rfl Kp.true (Y.move rfl rfl) ?_
 refine Jp.y 21 rfl (qaa rfl) rfl rfl Kp.true (Y.move rfl rfl) ?_
 refine Jp.y 22 rfl (qaa rfl) rfl rfl Kp.true (Y.move rfl rfl) ?_
 refine Jp.y 23 rfl (qaa rfl) rfl rfl Kp.true (Y.qck rfl underlying58 rfl) ?_
 refine Jp.y 24 rfl (qaa rfl) rfl rfl Kp.true (Y.move rfl rfl) ?_
 refine Jp.call [0,1,3] [0,1,3] (all_spec b M x hf a xs.length need ha (by omega)) 25 rfl (qaa rfl) rfl rfl (Runs.fn rfl call57 rfl) (by decide) (by decide) rfl trivial ?_
 rintro v1 ρ1 L1 ⟨rfl,rfl,rfl⟩
 refine ⟨rfl,fun hle1=>⟨Kp.true,?_⟩⟩
 refine Jp.y 26 rfl (qaa rfl) rfl rfl Kp.true (Y.not rfl rfl) ?_
 refine Jp.y 19 rfl (qaa rfl) rfl rfl Kp.true (Y.assign rfl rfl) ?_
 refine Jp.qae hK5 ?_
 refine Cd.qaq rfl (fun g19=>?_) (fun g19=>?_)
 ·skip
  try simp only [sG0] at g19
  refine Cd.seq fun K6 hK6=>?_
  refine Cd.qac [(0,false)] rfl rfl ?_
  refine Jp.y 10 rfl (qaa rfl) rfl rfl Kp.true (Y.assign rfl rfl) ?_
  refine Jp.qae hK6 ?_
  have hV : qdl M a xs most need = (8,M):=by rw [qdl,if_neg (by omega),if_pos g19]
  refine Cd.memClose 0 1 2 3 (by decide) hf rfl rfl rfl rfl ?_
  refine Cd.ret [(0,_)] rfl (qbe rfl rfl) ⟨rfl,trivial⟩ ⟨rfl,by rw [hV],by rw [hV]⟩
 try simp only [sG0] at g19
 refine Cd.over rfl hK2 ?_
 refine Cd.seq fun K7 hK7=>?_
 refine Cd.seq fun K8 hK8=>?_
 refine Cd.qac [(0,false),(1,false),(2,false)] rfl rfl ?_
 refine Jp.y 27 rfl (qaa rfl) rfl rfl Kp.true (Y.move rfl rfl) ?_
 refine Jp.y 28 rfl (qaa rfl) rfl rfl Kp.true (Y.qck rfl underlying58 rfl) ?_
 refine Jp.y 29 rfl (qaa rfl) rfl rfl Kp.true (Y.move rfl rfl) ?_
 refine Jp.qae hK8 ?_
 refine Cd.block ?_
 have hV : qdl M a xs most need = (0,wrM M a xs xs.length):=by rw [qdl,if_neg (by omega),if_neg (by rw [g19]; simp)]
 refine Cd.qfl (G:=Nat × MemX) (fun g=>g.1 ≤ xs.length ∧ MemF (wrM M a xs g.1) g.2 ∧ g.2.pb = x.pb ∧ g.2.gb = x.gb) (fun g=>xs.length - g.1) (fun _=>_) (fun g=>[(29,.int .i64 g.1)]) [(0,_),(1,_),(27,_),(28,_)] (fun g=>[(1,qda .u32 x.pb g.2.pm),(2,qda .u32 x.gb g.2.gm),(3,Blks (qbm (wrM M a xs g.1) g.2))]) [(0,_)] ⟨0,x⟩ ⟨Nat.zero_le _,hf,rfl,rfl⟩ rfl ⟨rfl,trivial⟩ ⟨rfl,rfl,rfl,rfl,trivial⟩ ⟨rfl,rfl,rfl,trivial⟩ ⟨rfl,trivial⟩ (fun g KLa hok hLa=>?_)
 obtain ⟨i,y⟩:=g
 obtain ⟨ok1,ok2,ok3,ok4⟩:=hok
 dsimp only at ok1 ok2 ok3 ok4 ⊢
 refine Cd.seq fun K9 hK9=>?_
 refine Cd.qac [(0,false)] rfl rfl ?_
 refine Jp.y 30 rfl (qaa rfl) rfl rfl Kp.true (Y.lss rfl rfl rfl) ?_
 refine Jp.qae hK9 ?_
 refine Cd.seq fun K10 hK10=>?_
 refine Cd.qaq rfl (fun ga=>?_) (fun ga=>?_)
 ·simp only [decide_eq_true_eq] at ga
  have hi : i < xs.length:=by omega
  have hx : xs[i]? = some xs[i]:=by simp [hi]
  obtain ⟨hle,p,hg,hm⟩:=allM_page g19 hi
  obtain ⟨ad,hA,hc⟩:=RdB.cell hr hx
  dsimp only at hA
  subst hA
  have hpo:=hf.ok.page _ (qbb hg)
  obtain ⟨q,hq,hq1,hq2⟩:=wrM_page a xs hg i
  have hql : q.b.length = 256:=by rw [hq2]; exact hpo.len
  have hget:=ok2.get (qar (a + i))
  rw [hq] at hget
  have hj : (a + i) % 256 < 256:=Nat.mod_lt _ (by omega)
  have hf2 : MemF { wrM M a xs i with pages:=qbx (wrM M a xs i).pages (qar (a + i)) ⟨q.b.set ((a + i) % 256) xs[i],q.perm⟩ } y:=ok2.set hq (by simpa using hql) (by rw [hq1]; exact hpo.perm)
  refine Cd.qbw hK10 ?_
  refine Cd.seq fun K11 hK11=>?_
  refine Cd.block ?_
  refine Cd.seq fun K12 hK12=>?_
  refine Cd.qac [(0,false),(1,false),(2,false),(3,false),(4,false)] rfl rfl ?_
  refine Jp.y 31 rfl (qaa rfl) rfl rfl Kp.true (Y.move rfl rfl) ?_
  refine Jp.y 32 rfl (qaa rfl) rfl rfl Kp.true (Y.qdw (q:=i) rfl rfl rfl underlying58 sizeOf5 (by omega) (by omega) (by omega)) ?_
  refine Jp.y 33 rfl (qaa rfl) rfl rfl Kp.true (by exact Y.loadR rfl isAgg5 rfl hc) ?_
  refine Jp.y 11 rfl (qaa rfl) rfl rfl Kp.true (Y.assign rfl rfl) ?_
  refine Jp.y 12 rfl (qaa rfl) rfl rfl Kp.true (Y.assign rfl rfl) ?_
  refine Jp.qae hK12 ?_
  refine Cd.seq fun K13 hK13=>?_
  refine Cd.qac [(0,false),(1,false),(2,false),(3,false),(4,false)] rfl rfl ?_
  refine Jp.y 34 rfl (qaa rfl) rfl rfl Kp.true (Y.move rfl rfl) ?_
  refine Jp.y 35 rfl (qaa rfl) rfl rfl Kp.true (Y.move rfl rfl) ?_
  refine Jp.y 36 rfl (qaa rfl) rfl rfl Kp.true (Y.qav rfl rfl underlying3 underlying31 (by exact qau (by omega) (by omega))) ?_
  refine Jp.y 37 rfl (qaa rfl) rfl rfl Kp.true (Y.qcd rfl rfl rfl (by exact qau (by omega) (by omega))) ?_
  refine Jp.slot 37 rfl (congrArg (Value.int .u32) (show (a : Int) + i = ((a + i : Nat) : Int) by omega)) ?_
  refine Jp.y 13 rfl (qaa rfl) rfl rfl Kp.true (Y.assign rfl rfl) ?_
  refine Jp.qae hK13 ?_
  refine Cd.seq fun K14 hK14=>?_
  refine Cd.drawn [(0,_),(1,_)] ⟨rfl,rfl,trivial⟩ [(0,true),(1,true),(2,true),(3,true),(4,true),(7,true),(8,true),(9,true),(5,false),(6,true),(10,true),(11,true),(12,true),(13,false)] follows (by kernel_rfl) (fun hrl=>?_)
  refine Jp.q 38 rfl (qaa rfl) rfl rfl (Y.move rfl rfl) ?_
  refine Jp.q 39 rfl (qaa rfl) rfl rfl (Y.qao rfl rfl) ?_
  refine Jp.q 40 rfl (qaa rfl) rfl rfl (by exact Y.qad rfl rfl underlying92 rfl sizeOf89 (by decide) (show _ + 1 = _ from rfl)) ?_
  refine Jp.q 41 rfl (qaa rfl) rfl rfl (by exact Y.qaw 0 rfl isAgg89 rfl rfl rfl) ?_
  refine Jp.q 42 rfl (qaa rfl) rfl rfl (Y.move rfl rfl) ?_
  refine Jp.q 45 rfl (qaa rfl) rfl rfl (Y.move rfl rfl) ?_
  refine Jp.q 46 rfl (qaa rfl) rfl rfl (by exact Y.remN rfl rfl rfl (by omega) (by omega)) ?_
  refine Jp.q 47 rfl (qaa rfl) rfl rfl (Y.move rfl rfl) ?_
  refine Jp.call [] [] (qcw (a + i) (by omega)) 43 rfl (qaa rfl) rfl rfl (Runs.fn rfl call58 rfl) (by decide) (by decide) rfl trivial ?_
  rintro v3 ρ3 L3 ⟨rfl,rfl,rfl⟩
  refine ⟨rfl,fun hle3=>⟨(Kp.st ⟨rfl,rfl,trivial⟩),?_⟩⟩
  refine Jp.q 44 rfl (qaa rfl) rfl rfl (by first | exact Y.lookup 1 rfl rfl rfl underlying89 underlying31 zeroValue97 rfl) ?_
  refine Jp.slot 44 rfl (show _ = Value.pointer (some ⟨y.blk (qar (a + i)),0,none⟩) by rw [hget]; rfl) ?_
  refine Jp.know (φ:=((qbm (wrM M a xs i) y).map (·.1)).Nodup) (A:=Blks (qbm (wrM M a xs i) y)) 3 rfl (fun _ h=>h.1) fun hnd=>?_
  refine Jp.q 48 rfl (qaa rfl) rfl rfl (Y.qao rfl rfl) ?_
  refine Jp.q 49 rfl (qaa rfl) rfl rfl (by exact Y.qad rfl rfl underlying99 rfl sizeOf84 (by decide) (show _ + 0 = _ from rfl)) ?_
  refine Jp.q 50 rfl (qaa rfl) rfl rfl (Y.qal (q:=(a + i) % 256) rfl rfl rfl underlying84 sizeOf5 (by omega) (by omega) (by omega)) ?_
  refine Jp.qcx 3 (Blks (qbm { wrM M a xs i with pages:=qbx (wrM M a xs i).pages (qar (a + i)) ⟨q.b.set ((a + i) % 256) xs[i],q.perm⟩ } y)) rfl (qaa rfl) rfl rfl sizeOf5 rfl rfl rfl rfl rfl (Blks.set (MemF.blk hq) (by simp [qay,qaf,hql]; omega) (qap _) (by rw [qgt q hql hj]; exact updB_blks hnd hq)) Kp.last ?_
  refine Jp.qae hK14 ?_
  refine Cd.seq fun K16 hK16=>?_
  refine Cd.qac [(0,false),(1,false),(2,false),(3,false),(4,false),(5,false),(6,false)] rfl rfl ?_
  refine Jp.y 51 rfl (qaa rfl) rfl rfl Kp.true (Y.move rfl rfl) ?_
  refine Jp.y 52 rfl (qaa rfl) rfl rfl Kp.true (Y.eql rfl rfl rfl) ?_
  refine Jp.y 53 rfl (qaa rfl) rfl rfl Kp.true (Y.move rfl rfl) ?_
  refine Jp.split 53 rfl (fun g53=>?_) (fun g53=>?_)
  ·skip
   try simp only [sG0] at g53
   refine Jp.qat 54 rfl (qab rfl rfl rfl rfl) rfl rfl Kp.true ?_
   refine Jp.qat 55 rfl (qab rfl rfl rfl rfl) rfl rfl Kp.true ?_
   refine Jp.qat 56 rfl (qab rfl rfl rfl rfl) rfl rfl Kp.true ?_
   refine Jp.y 57 rfl (qaa rfl) rfl rfl Kp.true (Y.qba rfl rfl rfl) ?_
   refine Jp.qae hK16 ?_
   refine Cd.qdk rfl ?_
   have hc : i = 0 ∨ (a + i) % 256 = 0:=by omega
   have e:=wrM_bump hx hq hc
   refine Cd.drawn [(0,_),(2,_)] ⟨rfl,rfl,trivial⟩ [(0,true),(1,true),(2,true),(3,true),(4,true),(5,false),(6,true),(7,true),(8,false)] follows (by kernel_rfl) (fun hrl=>?_)
   refine Jp.q 58 rfl (qaa rfl) rfl rfl (Y.move rfl rfl) ?_
   refine Jp.q 59 rfl (qaa rfl) rfl rfl (Y.qao rfl rfl) ?_
   refine Jp.q 60 rfl (qaa rfl) rfl rfl (by exact Y.qad rfl rfl underlying92 rfl sizeOf90 (by decide) (show _ + 2 = _ from rfl)) ?_
   refine Jp.q 61 rfl (qaa rfl) rfl rfl (by exact Y.qaw 0 rfl isAgg90 rfl rfl rfl) ?_
   refine Jp.q 62 rfl (qaa rfl) rfl rfl (Y.move rfl rfl) ?_
   refine Jp.call [] [] (qcw (a + i) (by omega)) 63 rfl (qaa rfl) rfl rfl (Runs.fn rfl call58 rfl) (by decide) (by decide) rfl trivial ?_
   rintro v101 ρ101 L101 ⟨rfl,rfl,rfl⟩
   refine ⟨rfl,fun hle101=>⟨(Kp.st ⟨rfl,rfl,trivial⟩),?_⟩⟩
   refine Jp.q 64 rfl (qaa rfl) rfl rfl (by first | exact Y.lookup 2 rfl rfl rfl underlying90 underlying31 zeroValue31 rfl) ?_
   refine Jp.slot 64 rfl ((ok2.gens _)) ?_
   refine Jp.q 65 rfl (qaa rfl) rfl rfl (Y.qcd rfl rfl rfl (qgk ((wrM M a xs i).gens (qar (a + i)) + 1))) ?_
   first | refine Jp.mapUpdate 2 rfl (qaa rfl) rfl rfl rfl rfl rfl underlying90 underlying31 rfl Kp.last ?_
   refine Jp.over rfl hK11 ?_
   refine Cd.qac [(0,false),(1,false)] rfl rfl ?_
   refine Jp.y 66 rfl (qaa rfl) rfl rfl Kp.true (Y.qcd rfl rfl rfl (by exact qaj (by omega) (by omega))) ?_
   refine Jp.y 29 rfl (qaa rfl) rfl rfl Kp.true (Y.move rfl rfl) ?_
   refine Jp.imp (j:=3) rfl (fun h hh=>(show Blks (qbm (wrM M a xs (i + 1)) y) h by rw [e]; exact hh)) ?_
   refine Jp.again hLa ⟨i + 1,{ y with gm:=qgg y.gm (qar (a + i)) (.int .u32 ((((wrM M a xs i).gens (qar (a + i)) + 1) % 4294967296 : Nat) : Int)) }⟩ ⟨hi,by rw [e]; exact hf2.bump (qar (a + i)),ok3,ok4⟩ (by show xs.length - (i + 1) < xs.length - i; omega) rfl ⟨rfl,rfl,rfl,rfl,rfl,trivial⟩ ⟨rfl,rfl,rfl,rfl,trivial⟩
  ·skip
   try simp only [sG0] at g53
   refine Jp.y 54 rfl (qab rfl rfl rfl rfl) rfl rfl Kp.true (Y.move rfl rfl) ?_
   refine Jp.y 55 rfl (qab rfl rfl rfl rfl) rfl rfl Kp.true (by exact Y.remN rfl rfl rfl (by omega) (by omega)) ?_
   refine Jp.y 56 rfl (qab rfl rfl rfl rfl) rfl rfl Kp.true (Y.eql rfl rfl rfl) ?_
   refine Jp.y 57 rfl (qaa rfl) rfl rfl Kp.true (Y.qaz rfl rfl rfl) ?_
   refine Jp.qae hK16 ?_
   refine Cd.qaq rfl (fun g57=>?_) (fun g57=>?_)
   ·skip
    try simp only [sG0] at g57
    have hc : i = 0 ∨ (a + i) % 256 = 0:=by omega
    have e:=wrM_bump hx hq hc
    refine Cd.drawn [(0,_),(2,_)] ⟨rfl,rfl,trivial⟩ [(0,true),(1,true),(2,true),(3,true),(4,true),(5,false),(6,true),(7,true),(8,false)] follows (by kernel_rfl) (fun hrl=>?_)
    refine Jp.q 58 rfl (qaa rfl) rfl rfl (Y.move rfl rfl) ?_
    refine Jp.q 59 rfl (qaa rfl) rfl rfl (Y.qao rfl rfl) ?_
    refine Jp.q 60 rfl (qaa rfl) rfl rfl (by exact Y.qad rfl rfl underlying92 rfl sizeOf90 (by decide) (show _ + 2 = _ from rfl)) ?_
    refine Jp.q 61 rfl (qaa rfl) rfl rfl (by exact Y.qaw 0 rfl isAgg90 rfl rfl rfl) ?_
    refine Jp.q 62 rfl (qaa rfl) rfl rfl (Y.move rfl rfl) ?_
    refine Jp.call [] [] (qcw (a + i) (by omega)) 63 rfl (qaa rfl) rfl rfl (Runs.fn rfl call58 rfl) (by decide) (by decide) rfl trivial ?_
    rintro v102 ρ102 L102 ⟨rfl,rfl,rfl⟩
    refine ⟨rfl,fun hle102=>⟨(Kp.st ⟨rfl,rfl,trivial⟩),?_⟩⟩
    refine Jp.q 64 rfl (qaa rfl) rfl rfl (by first | exact Y.lookup 2 rfl rfl rfl underlying90 underlying31 zeroValue31 rfl) ?_
    refine Jp.slot 64 rfl ((ok2.gens _)) ?_
    refine Jp.q 65 rfl (qaa rfl) rfl rfl (Y.qcd rfl rfl rfl (qgk ((wrM M a xs i).gens (qar (a + i)) + 1))) ?_
    first | refine Jp.mapUpdate 2 rfl (qaa rfl) rfl rfl rfl rfl rfl underlying90 underlying31 rfl Kp.last ?_
    refine Jp.over rfl hK11 ?_
    refine Cd.qac [(0,false),(1,false)] rfl rfl ?_
    refine Jp.y 66 rfl (qaa rfl) rfl rfl Kp.true (Y.qcd rfl rfl rfl (by exact qaj (by omega) (by omega))) ?_
    refine Jp.y 29 rfl (qaa rfl) rfl rfl Kp.true (Y.move rfl rfl) ?_
    refine Jp.imp (j:=3) rfl (fun h hh=>(show Blks (qbm (wrM M a xs (i + 1)) y) h by rw [e]; exact hh)) ?_
    refine Jp.again hLa ⟨i + 1,{ y with gm:=qgg y.gm (qar (a + i)) (.int .u32 ((((wrM M a xs i).gens (qar (a + i)) + 1) % 4294967296 : Nat) : Int)) }⟩ ⟨hi,by rw [e]; exact hf2.bump (qar (a + i)),ok3,ok4⟩ (by show xs.length - (i + 1) < xs.length - i; omega) rfl ⟨rfl,rfl,rfl,rfl,rfl,trivial⟩ ⟨rfl,rfl,rfl,rfl,trivial⟩
   ·skip
    try simp only [sG0] at g57
    refine Cd.over rfl hK11 ?_
    refine Cd.qac [(0,false),(1,false)] rfl rfl ?_
    refine Jp.y 66 rfl (qaa rfl) rfl rfl Kp.true (Y.qcd rfl rfl rfl (by exact qaj (by omega) (by omega))) ?_
    refine Jp.y 29 rfl (qaa rfl) rfl rfl Kp.true (Y.move rfl rfl) ?_
    have hc : ¬ (i = 0 ∨ (a + i) % 256 = 0):=by omega
    have e:=wrM_still hx hq hc
    refine Jp.imp (j:=3) rfl (fun h hh=>(show Blks (qbm (wrM M a xs (i + 1)) y) h by rw [e]; exact hh)) ?_
    refine Jp.again hLa ⟨i + 1,y⟩ ⟨hi,by rw [e]; exact hf2,ok3,ok4⟩ (by show xs.length - (i + 1) < xs.length - i; omega) rfl ⟨rfl,rfl,rfl,rfl,rfl,trivial⟩ ⟨rfl,rfl,rfl,rfl,trivial⟩
 ·simp only [decide_eq_false_iff_not] at ga
  obtain rfl : i = xs.length:=by omega
  refine Cd.exit rfl hK7 ?_
  refine Cd.seq fun K19 hK19=>?_
  refine Cd.qac [(0,false)] rfl rfl ?_
  refine Jp.y 10 rfl (qaa rfl) rfl rfl Kp.true (Y.assign rfl rfl) ?_
  refine Jp.qae hK19 ?_
  have e : qct (wrM M a xs xs.length) y = qct M x:=by rw [qct,qct,ok3,ok4,wrM_budget]
  refine Cd.memClose (b:=b) (x:=y) 0 1 2 3 (by decide) ok2 (by rw [e]; rfl) (by rw [ok3]; rfl) (by rw [ok4]; rfl) rfl ?_
  refine Cd.ret [(0,_)] rfl (qbe rfl rfl) ⟨rfl,trivial⟩ ⟨rfl,by rw [hV],by rw [hV]⟩
theorem Poke_spec (b : Nat) (M : MemG) (a : Nat) (s : Sl UInt8) (ha : a < 4294967296) : Spec Try.prog 16 #[.pointer (some ⟨b,0,none⟩),.int .u32 a,s.v] (RdB s) [(0,qfz b M)]
  (fun ρ ρ' v L=>ρ' = ρ ∧ v = .int .i64 (qdl M a s.xs 65536 0).1 ∧ L = [(0,qfz b (qdl M a s.xs 65536 0).2)]):=by
 refine Spec.of 11 Try.func16 rfl Try.ntmps16 [(0,_),(1,_),(2,_)] rfl rfl ?_
 intro cx ρ hr h0
 refine Cd.seq fun K20 hK20=>?_
 refine Cd.qac [(0,false)] rfl rfl ?_
 refine Jp.y 6 rfl (qaa rfl) rfl rfl Kp.true (Y.assign rfl rfl) ?_
 refine Jp.qae hK20 ?_
 refine Cd.seq fun K21 hK21=>?_
 refine Cd.qac [(0,false),(1,false),(2,false),(3,false),(4,false)] rfl rfl ?_
 refine Jp.y 7 rfl (qaa rfl) rfl rfl Kp.true (Y.move rfl rfl) ?_
 refine Jp.y 8 rfl (qaa rfl) rfl rfl Kp.true (Y.move rfl rfl) ?_
 refine Jp.y 9 rfl (qaa rfl) rfl rfl Kp.true (Y.move rfl rfl) ?_
 refine Jp.call [0] [0] (write_spec b M a s 65536 0 ha (by omega)) 10 rfl (qaa rfl) rfl rfl (Runs.fn rfl call30 rfl) (by decide) (by decide) rfl hr ?_
 rintro v1 ρ1 L1 ⟨rfl,rfl,rfl⟩
 refine ⟨rfl,fun hle1=>⟨Kp.true,?_⟩⟩
 refine Jp.y 6 rfl (qaa rfl) rfl rfl Kp.true (Y.assign rfl rfl) ?_
 refine Jp.qae hK21 ?_
 refine Cd.ret [(0,_)] rfl (qbe rfl rfl) ⟨rfl,trivial⟩ ⟨rfl,rfl,rfl⟩
end Go.Proofs.Ytnfkalpgidiafaa
set_option linter.unusedVariables false
set_option linter.unusedSimpArgs false
set_option maxRecDepth 100000
namespace Go.Proofs.Ytnfkalpgidiafaa
open _root_.Go.Proofs.Try
open Go
def setPerm (l : List (Nat × Pg)) (k perm : Nat) : List (Nat × Pg):=match qan l k with
 | some p=>qbx l k ⟨p.b,perm⟩
 | none=>l
def prot1 (perm : Nat) (M : MemG) (k : Nat) : MemG:={ M with pages:=setPerm M.pages k perm,gens:=bump M.gens k }
def protL (M : MemG) (perm : Nat) (l : List Nat) : MemG:=l.foldl (prot1 perm) M
def bumpS (M : MemG) (f : Nat → Bool) : Nat → Nat:=fun k=>if f k && (qan M.pages k).isSome then (M.gens k + 1) % 4294967296 else M.gens k
def protectM (M : MemG) (a n : Nat) (perm : Int) : Int × MemG:=match qem a n with
 | none=>(1,M)
 | some many=>if perm < 0 ∨ 7 < perm then (1,M) else if (qeb M a many).length ≠ many then (4,M) else
  (0,{ M with pages:=M.pages.map fun y=>if inS a many y.1 then (y.1,⟨y.2.b,perm.toNat⟩) else y,gens:=bumpS M (inS a many) })
theorem pageCells_perm2 (p : Pg) (h : p.b.length = 256) (perm : Nat) : (qay p).toArray.setIfInBounds 256 (.int .i64 perm) = (qay ⟨p.b,perm⟩).toArray:=by
 rw [List.setIfInBounds_toArray]
 congr 1
 rw [qay,List.set_append_right _ _ (by rw [qaf,List.length_map]; omega)]
 simp [qaf,h,qay]
def del1 (M : MemG) (k : Nat) : MemG:={ M with pages:=M.pages.filter fun y=>y.1 != k,gens:=bump M.gens k }
def delL (M : MemG) (l : List Nat) : MemG:=l.foldl del1 M
def unmapM (M : MemG) (a n : Nat) : Int × MemG:=match qem a n with
 | none=>(1,M)
 | some many=>(0,{ M with pages:=M.pages.filter fun y=>!inS a many y.1,gens:=bumpS M (inS a many) })
end Go.Proofs.Ytnfkalpgidiafaa
set_option linter.unusedVariables false
set_option linter.unusedSimpArgs false
set_option maxRecDepth 100000
namespace Go.Proofs.Ytnfkalpgidiafaa
open _root_.Go.Proofs.Try
open Go
theorem base_eq {x y : Nat} (h1 : qar x = qar y) (h2 : x % 256 = y % 256) : x = y:=by unfold qar at h1; omega
def permIn (M : MemG) (a many perm : Nat) : MemG:={ M with pages:=M.pages.map fun y=>if inS a many y.1 then (y.1,⟨y.2.b,perm⟩) else y,gens:=bumpS M (inS a many) }
def dropIn (M : MemG) (a many : Nat) : MemG:={ M with pages:=M.pages.filter fun y=>!inS a many y.1,gens:=bumpS M (inS a many) }
theorem getPg_filter (l : List (Nat × Pg)) (f : Nat → Bool) (k : Nat) : qan (l.filter fun y=>f y.1) k = if f k then qan l k else none:=by
 induction l with
 | nil=>simp [qan]
 | cons x l ih =>
  obtain ⟨x,p⟩:=x
  rw [List.filter_cons]
  by_cases hx : f x = true
  ·rw [if_pos hx]
   simp only [qan]
   by_cases h : x = k
   ·subst h; simp [hx]
   ·rw [if_neg h,if_neg h,ih]
  ·rw [if_neg hx,ih]
   simp only [qan]
   by_cases h : x = k
   ·subst h; simp [hx]
   ·rw [if_neg h]
end Go.Proofs.Ytnfkalpgidiafaa

namespace Go.Proofs.Ytnfkalpgidiafaa
open _root_.Go.Proofs.Try
open Go
def valueP (M : MemG) (i : InsP) (s : StP) : Nat × EvP :=
 if i.op = 1 then (u32 i.imm,noEv) else if i.op = 2 then (u32 ((s.pc : Int) + (u32 i.imm : Int)),noEv) else if i.op = 3 ∨ i.op = 4 then (u32 ((s.pc : Int) + 4),noEv) else
 if qeh i.op = true then (if (qdp M (addrP i s) (qcl i.op).1 1).2 = 0 then
  (if (qcl i.op).2 = true then extP (qdp M (addrP i s) (qcl i.op).1 1).1 (8 * (qcl i.op).1) else (qdp M (addrP i s) (qcl i.op).1 1).1,noEv)
  else (0, ⟨3, addrP i s, (qdp M (addrP i s) (qcl i.op).1 1).2⟩)) else
 (doP (kindA i.op) (regP s i.r1) (opdP i s),noEv)
theorem opdP_lt {i : InsP} {s : StP} (hs : StOk s) : opdP i s < 4294967296:=by
 unfold opdP
 split
 ·exact u32_lt _
 ·exact regP_lt hs _
theorem sizeP_le (op : Nat) : (qcl op).1 ≤ 4:=by
 unfold qcl
 repeat' split
 all_goals decide
theorem qgx (M : MemG) (a : Nat) (n : Nat) (hn : n ≤ 4) (need : Int) : (qdp M a n need).1 < 4294967296:=by
 unfold qdp
 split
 ·split
  ·rename_i p h1
   have h2:=leN_lt ((p.b.drop (a % 256)).take (n : Int).toNat)
   have h3 : ((p.b.drop (a % 256)).take (n : Int).toNat).length ≤ 4:=by rw [List.length_take]; omega
   exact Nat.lt_of_lt_of_le h2 (Nat.pow_le_pow_right (n:=256) (by omega) h3)
  ·exact Nat.zero_lt_succ _
 ·exact Nat.zero_lt_succ _
theorem value_spec (b : Nat) (M : MemG) (i : InsP) (s : StP) (hs : StOk s) (hi : InsOk i) : Spec Try.prog 75 #[.pointer (some ⟨b,0,none⟩),.agg i.cells.toArray,.agg s.cells.toArray] (fun _=>True) [(0,qfz b M)]
  (fun ρ ρ' v L=>ρ' = ρ ∧ v = .tuple #[.int .u32 ((valueP M i s).1 : Int),.agg (valueP M i s).2.cells.toArray] ∧ L = [(0,qfz b M)]):=by
 obtain ⟨V,hV⟩ : ∃ V,valueP M i s = V:=⟨_,rfl⟩
 rw [hV]
 unfold valueP at hV
 have hA:=qde i s hs hi
 have hal:=qhg i s
 have hO:=operand_spec i s hs hi
 have hol:=opdP_lt (i:=i) hs
 obtain ⟨od,hod⟩ : ∃ od,opdP i s = od:=⟨_,rfl⟩
 obtain ⟨ad,had⟩ : ∃ ad,addrP i s = ad:=⟨_,rfl⟩
 rw [had] at hA hV hal
 rw [hod] at hO hV hol
 obtain ⟨op,rd,r1,r2,imm⟩:=i
 dsimp only at hV
 have hR1:=qfn s r1 hs hi.r1
 have l1:=regP_lt hs r1
 obtain ⟨x1,hx1⟩ : ∃ x,regP s r1 = x:=⟨_,rfl⟩
 rw [hx1] at hR1 hV l1
 have hL:=load_spec b M ad (qcl op).1 1 hal
 have hll : (qdp M ad (qcl op).1 1).1 < 4294967296:=qgx _ _ _ (sizeP_le op) _
 have hSz:=qgn op
 have hsz4:=sizeP_le op
 obtain ⟨sz,hsz⟩ : ∃ x,qcl op = x:=⟨_,rfl⟩
 rw [hsz] at hL hV hll hSz hsz4
 obtain ⟨sz,sg⟩:=sz
 dsimp only at hL hV hll hSz hsz4
 obtain ⟨ld,hld⟩ : ∃ x,qdp M ad sz 1 = x:=⟨_,rfl⟩
 rw [hld] at hL hV hll
 obtain ⟨lv,lf⟩:=ld
 dsimp only at hL hV hll
 refine Spec.of 98 Try.func75 rfl Try.ntmps75 [(0,_),(1,_),(2,_)] rfl rfl ?_
 intro cx ρ hr' h0
 have hsl:=StP.len hs
 refine Cd.seq fun K1 hK1=>?_
 refine Cd.qac [(0,false),(1,false),(2,false),(3,false)] rfl rfl ?_
 refine Jp.box 4 4 rfl (qaa rfl) rfl rfl rfl rfl fun b4=>⟨Kp.true,?_⟩
 refine Jp.box 5 5 rfl (qaa rfl) rfl rfl rfl rfl fun b5=>⟨Kp.true,?_⟩
 refine Jp.y 6 rfl (qaa rfl) rfl rfl Kp.true (Y.assign rfl rfl) ?_
 refine Jp.alloc 7 7 rfl (qaa rfl) rfl rfl rfl zeroValue50 fun b7=>⟨Kp.true,?_⟩
 refine Jp.qae hK1 ?_
 refine Cd.seq fun K2 hK2=>?_
 refine Cd.seq fun K3 hK3=>?_
 refine Cd.qac [(0,false),(1,false),(2,false)] rfl rfl ?_
 refine Jp.y 17 rfl (qaa rfl) rfl rfl Kp.true (by exact Y.qad rfl rfl underlying34 rfl sizeOf3 (by decide) (show _ + 0 = _ from rfl)) ?_
 refine Jp.y 18 rfl (qaa rfl) rfl rfl Kp.true (by exact Y.qaw 4 rfl isAgg3 rfl rfl rfl) ?_
 refine Jp.y 8 rfl (qaa rfl) rfl rfl Kp.true (Y.assign rfl rfl) ?_
 refine Jp.qae hK3 ?_
 refine Cd.block ?_
 refine Cd.seq fun K4 hK4=>?_
 refine Cd.qac [(0,false),(1,false),(2,false)] rfl rfl ?_
 refine Jp.y 20 rfl (qaa rfl) rfl rfl Kp.true (Y.move rfl rfl) ?_
 refine Jp.y 21 rfl (qaa rfl) rfl rfl Kp.true (Y.eql rfl rfl rfl) ?_
 refine Jp.y 19 rfl (qaa rfl) rfl rfl Kp.true (Y.assign rfl rfl) ?_
 refine Jp.qae hK4 ?_
 refine Cd.qaq rfl (fun ga=>?_) (fun ga=>?_)
 ·rw [if_pos (show op = 1 by simp at ga; omega)] at hV
  refine Cd.seq fun K5 hK5=>?_
  refine Cd.qac [(0,false),(1,false),(2,false),(3,false),(4,false),(5,false)] rfl rfl ?_
  refine Jp.y 22 rfl (qaa rfl) rfl rfl Kp.true (by exact Y.qad rfl rfl underlying34 rfl sizeOf21 (by decide) (show _ + 4 = _ from rfl)) ?_
  refine Jp.y 23 rfl (qaa rfl) rfl rfl Kp.true (by exact Y.qaw 4 rfl isAgg21 rfl rfl rfl) ?_
  refine Jp.y 24 rfl (qaa rfl) rfl rfl Kp.true (Y.qav rfl rfl underlying21 underlying31 (by rfl)) ?_
  refine Jp.y 25 rfl (qaa rfl) rfl rfl Kp.true (Y.struct [] [_,_,_] rfl rfl qbs zeroValue50 rfl) ?_
  refine Jp.y 6 rfl (qaa rfl) rfl rfl Kp.true (Y.assign rfl rfl) ?_
  refine Jp.qah 7 rfl (qaa rfl) rfl rfl sizeOf50 rfl rfl (by first | rfl | assumption) (by first | rfl | assumption) rfl (by first | rfl | assumption) (fun k _ _=>qap k) Kp.true ?_
  refine Jp.qae hK5 ?_
  refine Cd.ret [(0,_)] rfl (by exact resTC 7 rfl rfl rfl isAgg50 sizeOf50 rfl (by first | rfl | assumption)) ⟨rfl,trivial⟩ ⟨rfl,by rw [qbz imm,← hV]; rfl,rfl⟩
 ·rw [if_neg (show ¬ op = 1 by simp at ga; omega)] at hV
  refine Cd.seq fun K6 hK6=>?_
  refine Cd.qac [(0,false),(1,false),(2,false)] rfl rfl ?_
  refine Jp.y 27 rfl (qaa rfl) rfl rfl Kp.true (Y.move rfl rfl) ?_
  refine Jp.y 28 rfl (qaa rfl) rfl rfl Kp.true (Y.eql rfl rfl rfl) ?_
  refine Jp.y 26 rfl (qaa rfl) rfl rfl Kp.true (Y.assign rfl rfl) ?_
  refine Jp.qae hK6 ?_
  refine Cd.qaq rfl (fun gb=>?_) (fun gb=>?_)
  ·rw [if_pos (show op = 2 by simp at gb; omega)] at hV
   refine Cd.seq fun K7 hK7=>?_
   refine Cd.qac [(0,false),(1,false),(2,false),(3,false),(4,false),(5,false),(6,false),(7,false),(8,false)] rfl rfl ?_
   refine Jp.y 29 rfl (qaa rfl) rfl rfl Kp.true (by exact Y.qad rfl rfl underlying46 rfl sizeOf31 (by decide) (show _ + 32 = _ from rfl)) ?_
   refine Jp.y 30 rfl (qaa rfl) rfl rfl Kp.true (by exact Y.qbk 5 rfl isAgg31 rfl rfl (HasC.pt (StP.cPc hs))) ?_
   refine Jp.y 31 rfl (qaa rfl) rfl rfl Kp.true (by exact Y.qad rfl rfl underlying34 rfl sizeOf21 (by decide) (show _ + 4 = _ from rfl)) ?_
   refine Jp.y 32 rfl (qaa rfl) rfl rfl Kp.true (by exact Y.qaw 4 rfl isAgg21 rfl rfl rfl) ?_
   refine Jp.y 33 rfl (qaa rfl) rfl rfl Kp.true (Y.qav rfl rfl underlying21 underlying31 (by rfl)) ?_
   refine Jp.y 34 rfl (qaa rfl) rfl rfl Kp.true (Y.qcd rfl rfl rfl (by rfl)) ?_
   refine Jp.y 35 rfl (qaa rfl) rfl rfl Kp.true (Y.struct [] [_,_,_] rfl rfl qbs zeroValue50 rfl) ?_
   refine Jp.y 6 rfl (qaa rfl) rfl rfl Kp.true (Y.assign rfl rfl) ?_
   refine Jp.qah 7 rfl (qaa rfl) rfl rfl sizeOf50 rfl rfl (by first | rfl | assumption) (by first | rfl | assumption) rfl (by first | rfl | assumption) (fun k _ _=>qap k) Kp.true ?_
   refine Jp.qae hK7 ?_
   refine Cd.ret [(0,_)] rfl (by exact resTC 7 rfl rfl rfl isAgg50 sizeOf50 rfl (by first | rfl | assumption)) ⟨rfl,trivial⟩ ⟨rfl,by rw [qbz imm,qbz,← hV]; rfl,rfl⟩
  ·rw [if_neg (show ¬ op = 2 by simp at gb; omega)] at hV
   refine Cd.seq fun K8 hK8=>?_
   refine Cd.qac [(0,false),(1,false),(2,false),(3,false),(4,false),(5,false),(6,false)] rfl rfl ?_
   refine Jp.y 37 rfl (qaa rfl) rfl rfl Kp.true (Y.move rfl rfl) ?_
   refine Jp.y 38 rfl (qaa rfl) rfl rfl Kp.true (Y.eql rfl rfl rfl) ?_
   refine Jp.y 39 rfl (qaa rfl) rfl rfl Kp.true (Y.move rfl rfl) ?_
   refine Jp.split 39 rfl (fun g39=>?_) (fun g39=>?_)
   ·skip
    rw [if_pos (show op = 3 ∨ op = 4 by simp at g39; omega)] at hV
    refine Jp.qat 40 rfl (qab rfl rfl rfl rfl) rfl rfl Kp.true ?_
    refine Jp.qat 41 rfl (qab rfl rfl rfl rfl) rfl rfl Kp.true ?_
    refine Jp.y 42 rfl (qaa rfl) rfl rfl Kp.true (Y.qba rfl rfl rfl) ?_
    refine Jp.y 36 rfl (qaa rfl) rfl rfl Kp.true (Y.assign rfl rfl) ?_
    refine Jp.qae hK8 ?_
    refine Cd.qdk rfl ?_
    refine Cd.seq fun K9 hK9=>?_
    refine Cd.qac [(0,false),(1,false),(2,false),(3,false),(4,false),(5,false)] rfl rfl ?_
    refine Jp.y 43 rfl (qaa rfl) rfl rfl Kp.true (by exact Y.qad rfl rfl underlying46 rfl sizeOf31 (by decide) (show _ + 32 = _ from rfl)) ?_
    refine Jp.y 44 rfl (qaa rfl) rfl rfl Kp.true (by exact Y.qbk 5 rfl isAgg31 rfl rfl (HasC.pt (StP.cPc hs))) ?_
    refine Jp.y 45 rfl (qaa rfl) rfl rfl Kp.true (Y.qcd rfl rfl rfl (by rfl)) ?_
    refine Jp.y 46 rfl (qaa rfl) rfl rfl Kp.true (Y.struct [] [_,_,_] rfl rfl qbs zeroValue50 rfl) ?_
    refine Jp.y 6 rfl (qaa rfl) rfl rfl Kp.true (Y.assign rfl rfl) ?_
    refine Jp.qah 7 rfl (qaa rfl) rfl rfl sizeOf50 rfl rfl (by first | rfl | assumption) (by first | rfl | assumption) rfl (by first | rfl | assumption) (fun k _ _=>qap k) Kp.true ?_
    refine Jp.qae hK9 ?_
    refine Cd.ret [(0,_)] rfl (by exact resTC 7 rfl rfl rfl isAgg50 sizeOf50 rfl (by first | rfl | assumption)) ⟨rfl,trivial⟩ ⟨rfl,by rw [qbz,← hV]; rfl,rfl⟩
   try simp only [sG0] at g39
   refine Jp.y 40 rfl (qab rfl rfl rfl rfl) rfl rfl Kp.true (Y.move rfl rfl) ?_
   refine Jp.y 41 rfl (qab rfl rfl rfl rfl) rfl rfl Kp.true (Y.eql rfl rfl rfl) ?_
   refine Jp.y 42 rfl (qaa rfl) rfl rfl Kp.true (Y.qaz rfl rfl rfl) ?_
   refine Jp.y 36 rfl (qaa rfl) rfl rfl Kp.true (Y.assign rfl rfl) ?_
   refine Jp.qae hK8 ?_
   refine Cd.qaq rfl (fun g36=>?_) (fun g36=>?_)
   ·skip
    rw [if_pos (show op = 3 ∨ op = 4 by simp at g36; omega)] at hV
    refine Cd.seq fun K10 hK10=>?_
    refine Cd.qac [(0,false),(1,false),(2,false),(3,false),(4,false),(5,false)] rfl rfl ?_
    refine Jp.y 43 rfl (qaa rfl) rfl rfl Kp.true (by exact Y.qad rfl rfl underlying46 rfl sizeOf31 (by decide) (show _ + 32 = _ from rfl)) ?_
    refine Jp.y 44 rfl (qaa rfl) rfl rfl Kp.true (by exact Y.qbk 5 rfl isAgg31 rfl rfl (HasC.pt (StP.cPc hs))) ?_
    refine Jp.y 45 rfl (qaa rfl) rfl rfl Kp.true (Y.qcd rfl rfl rfl (by rfl)) ?_
    refine Jp.y 46 rfl (qaa rfl) rfl rfl Kp.true (Y.struct [] [_,_,_] rfl rfl qbs zeroValue50 rfl) ?_
    refine Jp.y 6 rfl (qaa rfl) rfl rfl Kp.true (Y.assign rfl rfl) ?_
    refine Jp.qah 7 rfl (qaa rfl) rfl rfl sizeOf50 rfl rfl (by first | rfl | assumption) (by first | rfl | assumption) rfl (by first | rfl | assumption) (fun k _ _=>qap k) Kp.true ?_
    refine Jp.qae hK10 ?_
    refine Cd.ret [(0,_)] rfl (by exact resTC 7 rfl rfl rfl isAgg50 sizeOf50 rfl (by first | rfl | assumption)) ⟨rfl,trivial⟩ ⟨rfl,by rw [qbz,← hV]; rfl,rfl⟩
   try simp only [sG0] at g36
   refine Cd.seq fun K11 hK11=>?_
   refine Cd.qac [(0,false),(1,false),(2,false)] rfl rfl ?_
   (try dsimp only at g36)
   rw [if_neg (show ¬ (op = 3 ∨ op = 4) by omega)] at hV
   refine Jp.y 48 rfl (qaa rfl) rfl rfl Kp.true (Y.move rfl rfl) ?_
   refine Jp.call [] [] (qeg op) 49 rfl (qaa rfl) rfl rfl (Runs.fn rfl call47 rfl) (by decide) (by decide) rfl trivial ?_
   rintro v1 ρ1 L1 ⟨rfl,rfl,rfl⟩
   refine ⟨rfl,fun hle1=>⟨Kp.true,?_⟩⟩
   refine Jp.y 47 rfl (qaa rfl) rfl rfl Kp.true (Y.assign rfl rfl) ?_
   refine Jp.qae hK11 ?_
   refine Cd.qaq rfl (fun gd=>?_) (fun gd=>?_)
   ·rw [if_pos gd] at hV
    refine Cd.seq fun K12 hK12=>?_
    refine Cd.qac [(0,false),(1,false),(2,false),(3,false),(4,false),(5,false),(6,false)] rfl rfl ?_
    refine Jp.y 51 rfl (qaa rfl) rfl rfl Kp.true (Y.move rfl rfl) ?_
    refine Jp.call [] [] hSz 52 rfl (qaa rfl) rfl rfl (Runs.fn rfl call42 rfl) (by decide) (by decide) rfl trivial ?_
    rintro v2 ρ2 L2 ⟨rfl,rfl,rfl⟩
    refine ⟨rfl,fun hle2=>⟨Kp.true,?_⟩⟩
    refine Jp.y 50 rfl (qaa rfl) rfl rfl Kp.true (Y.move rfl rfl) ?_
    refine Jp.y 53 rfl (qaa rfl) rfl rfl Kp.true (Y.extract rfl rfl rfl) ?_
    refine Jp.y 54 rfl (qaa rfl) rfl rfl Kp.true (Y.extract rfl rfl rfl) ?_
    refine Jp.y 9 rfl (qaa rfl) rfl rfl Kp.true (Y.assign rfl rfl) ?_
    refine Jp.y 10 rfl (qaa rfl) rfl rfl Kp.true (Y.assign rfl rfl) ?_
    refine Jp.qae hK12 ?_
    refine Cd.seq fun K13 hK13=>?_
    refine Cd.qac [(0,false),(1,false),(2,false),(3,false),(4,false),(5,false),(6,false),(7,false),(8,false),(9,false),(10,false)] rfl rfl ?_
    refine Jp.y 56 rfl (qaa rfl) rfl rfl Kp.true (Y.move rfl rfl) ?_
    refine Jp.y 57 rfl (qaa rfl) rfl rfl Kp.true (by exact Y.qag 4 rfl isAgg34 sizeOf34 rfl rfl (by first | rfl | assumption)) ?_
    refine Jp.y 58 rfl (qaa rfl) rfl rfl Kp.true (by exact Y.qag 5 rfl isAgg46 sizeOf46 rfl rfl (by first | rfl | assumption)) ?_
    refine Jp.call [] [] hA 59 rfl (qaa rfl) rfl rfl (Runs.fn rfl call43 rfl) (by decide) (by decide) rfl trivial ?_
    rintro v3 ρ3 L3 ⟨rfl,rfl,rfl⟩
    refine ⟨rfl,fun hle3=>⟨Kp.true,?_⟩⟩
    refine Jp.y 60 rfl (qaa rfl) rfl rfl Kp.true (Y.move rfl rfl) ?_
    refine Jp.call [0] [0] hL 61 rfl (qaa rfl) rfl rfl (Runs.fn rfl call37 rfl) (by decide) (by decide) rfl trivial ?_
    rintro v4 ρ4 L4 ⟨rfl,rfl,rfl⟩
    refine ⟨rfl,fun hle4=>⟨Kp.true,?_⟩⟩
    refine Jp.y 55 rfl (qaa rfl) rfl rfl Kp.true (Y.move rfl rfl) ?_
    refine Jp.y 62 rfl (qaa rfl) rfl rfl Kp.true (Y.extract rfl rfl rfl) ?_
    refine Jp.y 63 rfl (qaa rfl) rfl rfl Kp.true (Y.extract rfl rfl rfl) ?_
    refine Jp.y 11 rfl (qaa rfl) rfl rfl Kp.true (Y.assign rfl rfl) ?_
    refine Jp.y 12 rfl (qaa rfl) rfl rfl Kp.true (Y.assign rfl rfl) ?_
    refine Jp.qae hK13 ?_
    refine Cd.seq fun K14 hK14=>?_
    refine Cd.seq fun K15 hK15=>?_
    refine Cd.qac [(0,false),(1,false)] rfl rfl ?_
    refine Jp.y 64 rfl (qaa rfl) rfl rfl Kp.true (Y.move rfl rfl) ?_
    refine Jp.y 65 rfl (qaa rfl) rfl rfl Kp.true (Y.neq rfl rfl rfl) ?_
    refine Jp.qae hK15 ?_
    refine Cd.qaq rfl (fun ge=>?_) (fun ge=>?_)
    ·have hf : ¬ lf = 0:=by simpa using ge
     rw [if_neg hf] at hV
     refine Cd.seq fun K16 hK16=>?_
     refine Cd.qac [(0,false),(1,false),(2,false),(3,false),(4,false),(5,false),(6,false)] rfl rfl ?_
     refine Jp.y 66 rfl (qaa rfl) rfl rfl Kp.true (by exact Y.qag 4 rfl isAgg34 sizeOf34 rfl rfl (by first | rfl | assumption)) ?_
     refine Jp.y 67 rfl (qaa rfl) rfl rfl Kp.true (by exact Y.qag 5 rfl isAgg46 sizeOf46 rfl rfl (by first | rfl | assumption)) ?_
     refine Jp.call [] [] hA 68 rfl (qaa rfl) rfl rfl (Runs.fn rfl call43 rfl) (by decide) (by decide) rfl trivial ?_
     rintro v5 ρ5 L5 ⟨rfl,rfl,rfl⟩
     refine ⟨rfl,fun hle5=>⟨Kp.true,?_⟩⟩
     refine Jp.y 69 rfl (qaa rfl) rfl rfl Kp.true (Y.move rfl rfl) ?_
     refine Jp.y 70 rfl (qaa rfl) rfl rfl Kp.true (Y.struct [(0,_),(1,_),(2,_)] [_,_,_] rfl rfl qbs zeroValue50 rfl) ?_
     refine Jp.y 6 rfl (qaa rfl) rfl rfl Kp.true (Y.assign rfl rfl) ?_
     refine Jp.qah 7 rfl (qaa rfl) rfl rfl sizeOf50 rfl rfl (by first | rfl | assumption) (by first | rfl | assumption) rfl (by first | rfl | assumption) (fun k _ _=>qap k) Kp.true ?_
     refine Jp.qae hK16 ?_
     refine Cd.ret [(0,_)] rfl (by exact resTC 7 rfl rfl rfl isAgg50 sizeOf50 rfl (by first | rfl | assumption)) ⟨rfl,trivial⟩ ⟨rfl,by rw [← hV]; rfl,rfl⟩
    ·have hf : lf = 0:=by simpa using ge
     rw [if_pos hf] at hV
     refine Cd.qbw hK14 ?_
     refine Cd.seq fun K17 hK17=>?_
     refine Cd.seq fun K18 hK18=>?_
     refine Cd.qac [(0,false)] rfl rfl ?_
     refine Jp.y 71 rfl (qaa rfl) rfl rfl Kp.true (Y.move rfl rfl) ?_
     refine Jp.qae hK18 ?_
     refine Cd.qaq rfl (fun gf=>?_) (fun gf=>?_)
     ·rw [if_pos gf] at hV
      refine Cd.qac [(0,false),(1,false),(2,false),(3,false),(4,false)] rfl rfl ?_
      refine Jp.y 72 rfl (qaa rfl) rfl rfl Kp.true (Y.move rfl rfl) ?_
      refine Jp.y 73 rfl (qaa rfl) rfl rfl Kp.true (Y.move rfl rfl) ?_
      refine Jp.y 74 rfl (qaa rfl) rfl rfl Kp.true (Y.mul_ rfl rfl rfl (by exact qaj (by omega) (by omega))) ?_
      refine Jp.slot 74 rfl (show _ = Value.int .i64 ((8 * sz : Nat) : Int) from congrArg (Value.int .i64) (by omega)) ?_
      refine Jp.call [] [] (extend_spec lv (8 * sz)) 75 rfl (qaa rfl) rfl rfl (Runs.fn rfl call88 rfl) (by decide) (by decide) rfl trivial ?_
      rintro v6 ρ6 L6 ⟨rfl,rfl,rfl⟩
      refine ⟨rfl,fun hle6=>⟨Kp.true,?_⟩⟩
      refine Jp.y 11 rfl (qaa rfl) rfl rfl Kp.true (Y.assign rfl rfl) ?_
      refine Jp.qae hK17 ?_
      refine Cd.seq fun K19 hK19=>?_
      refine Cd.qac [(0,false),(1,false),(2,false),(3,false)] rfl rfl ?_
      refine Jp.y 76 rfl (qaa rfl) rfl rfl Kp.true (Y.move rfl rfl) ?_
      refine Jp.y 77 rfl (qaa rfl) rfl rfl Kp.true (Y.struct [] [_,_,_] rfl rfl qbs zeroValue50 rfl) ?_
      refine Jp.y 6 rfl (qaa rfl) rfl rfl Kp.true (Y.assign rfl rfl) ?_
      refine Jp.qah 7 rfl (qaa rfl) rfl rfl sizeOf50 rfl rfl (by first | rfl | assumption) (by first | rfl | assumption) rfl (by first | rfl | assumption) (fun k _ _=>qap k) Kp.true ?_
      refine Jp.qae hK19 ?_
      refine Cd.ret [(0,_)] rfl (by exact resTC 7 rfl rfl rfl isAgg50 sizeOf50 rfl (by first | rfl | assumption)) ⟨rfl,trivial⟩ ⟨rfl,by rw [← hV]; rfl,rfl⟩
     ·rw [if_neg (by simp [gf])] at hV
      refine Cd.qbw hK17 ?_
      refine Cd.seq fun K20 hK20=>?_
      refine Cd.qac [(0,false),(1,false),(2,false),(3,false)] rfl rfl ?_
      refine Jp.y 76 rfl (qaa rfl) rfl rfl Kp.true (Y.move rfl rfl) ?_
      refine Jp.y 77 rfl (qaa rfl) rfl rfl Kp.true (Y.struct [] [_,_,_] rfl rfl qbs zeroValue50 rfl) ?_
      refine Jp.y 6 rfl (qaa rfl) rfl rfl Kp.true (Y.assign rfl rfl) ?_
      refine Jp.qah 7 rfl (qaa rfl) rfl rfl sizeOf50 rfl rfl (by first | rfl | assumption) (by first | rfl | assumption) rfl (by first | rfl | assumption) (fun k _ _=>qap k) Kp.true ?_
      refine Jp.qae hK20 ?_
      refine Cd.ret [(0,_)] rfl (by exact resTC 7 rfl rfl rfl isAgg50 sizeOf50 rfl (by first | rfl | assumption)) ⟨rfl,trivial⟩ ⟨rfl,by rw [← hV]; rfl,rfl⟩
   ·rw [if_neg (by simp [gd])] at hV
    refine Cd.over rfl hK2 ?_
    refine Cd.seq fun K21 hK21=>?_
    refine Cd.qac [(0,false),(1,false),(2,false),(3,false),(4,false),(5,false),(6,false),(7,false)] rfl rfl ?_
    refine Jp.y 79 rfl (qaa rfl) rfl rfl Kp.true (by exact Y.qad rfl rfl underlying34 rfl sizeOf3 (by decide) (show _ + 0 = _ from rfl)) ?_
    refine Jp.y 80 rfl (qaa rfl) rfl rfl Kp.true (by exact Y.qaw 4 rfl isAgg3 rfl rfl rfl) ?_
    refine Jp.call [] [] (kind_spec op) 81 rfl (qaa rfl) rfl rfl (Runs.fn rfl call50 rfl) (by decide) (by decide) rfl trivial ?_
    rintro v2 ρ2 L2 ⟨rfl,rfl,rfl⟩
    refine ⟨rfl,fun hle2=>⟨Kp.true,?_⟩⟩
    refine Jp.y 78 rfl (qaa rfl) rfl rfl Kp.true (Y.move rfl rfl) ?_
    refine Jp.y 82 rfl (qaa rfl) rfl rfl Kp.true (Y.extract rfl rfl rfl) ?_
    refine Jp.y 83 rfl (qaa rfl) rfl rfl Kp.true (Y.extract rfl rfl rfl) ?_
    refine Jp.y 13 rfl (qaa rfl) rfl rfl Kp.true (Y.assign rfl rfl) ?_
    refine Jp.y 14 rfl (qaa rfl) rfl rfl Kp.true (Y.assign rfl rfl) ?_
    refine Jp.qae hK21 ?_
    refine Cd.seq fun K22 hK22=>?_
    refine Cd.drawn [(4,_),(5,_)] ⟨rfl,rfl,trivial⟩ [(0,true),(1,true),(2,true),(3,true),(5,true),(6,true),(4,false),(7,false),(8,false),(9,true),(10,true),(11,true),(12,true),(13,true)] follows (by kernel_rfl) (fun hrl=>?_)
    refine Jp.q 85 rfl (qaa rfl) rfl rfl (Y.move rfl rfl) ?_
    refine Jp.q 86 rfl (qaa rfl) rfl rfl (by exact Y.qag 5 rfl isAgg46 sizeOf46 rfl rfl (by first | rfl | assumption)) ?_
    refine Jp.q 87 rfl (qaa rfl) rfl rfl (by exact Y.qad rfl rfl underlying34 rfl sizeOf3 (by decide) (show _ + 2 = _ from rfl)) ?_
    refine Jp.q 88 rfl (qaa rfl) rfl rfl (by exact Y.qaw 4 rfl isAgg3 rfl rfl rfl) ?_
    refine Jp.q 90 rfl (qaa rfl) rfl rfl (by exact Y.qag 4 rfl isAgg34 sizeOf34 rfl rfl (by first | rfl | assumption)) ?_
    refine Jp.q 91 rfl (qaa rfl) rfl rfl (by exact Y.qag 5 rfl isAgg46 sizeOf46 rfl rfl (by first | rfl | assumption)) ?_
    refine Jp.call [] [] hR1 89 rfl (qaa rfl) rfl rfl (Runs.fn rfl call66 rfl) (by decide) (by decide) rfl trivial ?_
    rintro v3 ρ3 L3 ⟨rfl,rfl,rfl⟩
    refine ⟨rfl,fun hle3=>⟨(Kp.st ⟨rfl,rfl,trivial⟩),?_⟩⟩
    refine Jp.call [] [] hO 92 rfl (qaa rfl) rfl rfl (Runs.fn rfl call52 rfl) (by decide) (by decide) rfl trivial ?_
    rintro v4 ρ4 L4 ⟨rfl,rfl,rfl⟩
    refine ⟨rfl,fun hle4=>⟨(Kp.st ⟨rfl,rfl,trivial⟩),?_⟩⟩
    refine Jp.call [] [] (do_spec (kindA op) x1 od (qgz op) l1 hol) 93 rfl (qaa rfl) rfl rfl (Runs.fn rfl call69 rfl) (by decide) (by decide) rfl trivial ?_
    rintro v5 ρ5 L5 ⟨rfl,rfl,rfl⟩
    refine ⟨rfl,fun hle5=>⟨(Kp.st ⟨rfl,rfl,trivial⟩),?_⟩⟩
    refine Jp.q 84 rfl (qaa rfl) rfl rfl (Y.move rfl rfl) ?_
    refine Jp.q 94 rfl (qaa rfl) rfl rfl (Y.extract rfl rfl rfl) ?_
    refine Jp.q 95 rfl (qaa rfl) rfl rfl (Y.extract rfl rfl rfl) ?_
    refine Jp.q 15 rfl (qaa rfl) rfl rfl (Y.assign rfl rfl) ?_
    refine Jp.q 16 rfl (qaa rfl) rfl rfl (Y.assign rfl rfl) ?_
    refine Jp.qae hK22 ?_
    refine Cd.seq fun K24 hK24=>?_
    refine Cd.qac [(0,false),(1,false),(2,false),(3,false)] rfl rfl ?_
    refine Jp.y 96 rfl (qaa rfl) rfl rfl Kp.true (Y.move rfl rfl) ?_
    refine Jp.y 97 rfl (qaa rfl) rfl rfl Kp.true (Y.struct [] [_,_,_] rfl rfl qbs zeroValue50 rfl) ?_
    refine Jp.y 6 rfl (qaa rfl) rfl rfl Kp.true (Y.assign rfl rfl) ?_
    refine Jp.qah 7 rfl (qaa rfl) rfl rfl sizeOf50 rfl rfl (by first | rfl | assumption) (by first | rfl | assumption) rfl (by first | rfl | assumption) (fun k _ _=>qap k) Kp.true ?_
    refine Jp.qae hK24 ?_
    refine Cd.ret [(0,_)] rfl (by exact resTC 7 rfl rfl rfl isAgg50 sizeOf50 rfl (by first | rfl | assumption)) ⟨rfl,trivial⟩ ⟨rfl,by rw [← hV]; rfl,rfl⟩
end Go.Proofs.Ytnfkalpgidiafaa

namespace Go.Proofs.Ytnfkalpgidiafaa
open _root_.Go.Proofs.Try
open Go
theorem natsV_setN (l : List Nat) (r v : Nat) : (qcf .u32 l).set r (.int .u32 (v : Int)) = qcf .u32 (l.set r v):=by simp [qcf,List.map_set]
theorem StP.setX {x : List Nat} {pc : Nat} {ret : Int} (hx : x.length = 32) {r : Nat} (hr : r < 32) (v : Nat) : (StP.cells ⟨x,pc,ret⟩).toArray.setIfInBounds r (.int .u32 (v : Int)) = (StP.cells ⟨x.set r v,pc,ret⟩).toArray:=by
 rw [List.setIfInBounds_toArray]
 unfold StP.cells
 rw [List.set_append_left _ _ (by simp [qcf,hx,hr]),natsV_setN]
theorem StP.setPc {x : List Nat} {pc : Nat} {ret : Int} (hx : x.length = 32) (v : Nat) : (StP.cells ⟨x,pc,ret⟩).toArray.setIfInBounds 32 (.int .u32 (v : Int)) = (StP.cells ⟨x,v,ret⟩).toArray:=by
 rw [List.setIfInBounds_toArray]
 unfold StP.cells
 rw [List.set_append_right _ _ (by simp [qcf,hx])]
 simp [qcf,hx]
theorem StP.setRet {x : List Nat} {pc : Nat} {ret : Int} (hx : x.length = 32) (v : Int) : (StP.cells ⟨x,pc,ret⟩).toArray.setIfInBounds 33 (.int .i64 v) = (StP.cells ⟨x,pc,v⟩).toArray:=by
 rw [List.setIfInBounds_toArray]
 unfold StP.cells
 rw [List.set_append_right _ _ (by simp [qcf,hx])]
 simp [qcf,hx]
theorem StP.size {x : List Nat} {pc : Nat} {ret : Int} (hx : x.length = 32) : (StP.cells ⟨x,pc,ret⟩).toArray.size = 34:=by simp [StP.cells,qcf,hx]
theorem SetC.st {b r : Nat} {x : List Nat} {pc : Nat} {ret : Int} (hx : x.length = 32) (hr : r < 32) (v : Nat) : SetC (Pt b (.cells (StP.cells ⟨x,pc,ret⟩).toArray 46)) (Pt b (.cells (StP.cells ⟨x.set r v,pc,ret⟩).toArray 46)) b r (.int .u32 (v : Int)) :=
 SetC.pt (by rw [StP.size hx]; omega) (qap _) (StP.setX hx hr v)
theorem SetC.stPc {b : Nat} {x : List Nat} {pc : Nat} {ret : Int} (hx : x.length = 32) (v : Nat) : SetC (Pt b (.cells (StP.cells ⟨x,pc,ret⟩).toArray 46)) (Pt b (.cells (StP.cells ⟨x,v,ret⟩).toArray 46)) b 32 (.int .u32 (v : Int)) :=
 SetC.pt (by rw [StP.size hx]; omega) (qap _) (StP.setPc hx v)
theorem SetC.stRet {b : Nat} {x : List Nat} {pc : Nat} {ret : Int} (hx : x.length = 32) (v : Int) : SetC (Pt b (.cells (StP.cells ⟨x,pc,ret⟩).toArray 46)) (Pt b (.cells (StP.cells ⟨x,pc,v⟩).toArray 46)) b 33 (.int .i64 v) :=
 SetC.pt (by rw [StP.size hx]; omega) (qap _) (StP.setRet hx v)
theorem HasC.stRet {b : Nat} {x : List Nat} {pc : Nat} {ret : Int} (hx : x.length = 32) : HasC (Pt b (.cells (StP.cells ⟨x,pc,ret⟩).toArray 46)) ⟨b,33,none⟩ (.int .i64 ret):=HasC.pt (by simp [StP.cells,qcf,List.getElem?_append,hx])
def outP (s : StP) (x : List Nat) (to : Nat) : StP:=⟨x.set 0 0,to,s.ret + 1⟩
def qhf (M : MemG) (i : InsP) (s : StP) : StP × EvP × MemG :=
 if i.op = 48 then (s,⟨5,s.pc,0⟩,M) else if i.op = 49 then (s,⟨6,s.pc,0⟩,M) else if ¬ goesP i s % 4 = 0 then (s,⟨7,goesP i s,0⟩,M) else
 if storesP i.op = true then (if (qfb M (addrP i s) (qcl i.op).1 (regP s i.r2)).1 = 0 then (outP s s.x (goesP i s), noEv, (qfb M (addrP i s) (qcl i.op).1 (regP s i.r2)).2)
  else (s, ⟨4, addrP i s, (qfb M (addrP i s) (qcl i.op).1 (regP s i.r2)).1⟩, (qfb M (addrP i s) (qcl i.op).1 (regP s i.r2)).2)) else
 if qcq i.op = true then (if (valueP M i s).2.kind = 0 then (outP s (s.x.set i.rd (valueP M i s).1) (goesP i s),noEv,M) else (s,(valueP M i s).2,M)) else
 (outP s s.x (goesP i s),noEv,M)
theorem do_ins_spec (b : Nat) (M : MemG) (i : InsP) (s : StP) (hs : StOk s) (hi : InsOk i) : Spec Try.prog 53 #[.pointer (some ⟨b,0,none⟩),.agg i.cells.toArray,.agg s.cells.toArray] (fun _=>True) [(0,qfz b M)]
  (fun ρ ρ' v L=>ρ' = ρ ∧ v = .tuple #[.agg (qhf M i s).1.cells.toArray,.agg (qhf M i s).2.1.cells.toArray] ∧ L = [(0,qfz b (qhf M i s).2.2)]):=by
 obtain ⟨D,hD⟩ : ∃ D,qhf M i s = D:=⟨_,rfl⟩
 rw [hD]
 unfold qhf at hD
 have hG:=goes_spec i s hs hi
 have hA:=qde i s hs hi
 have hal:=qhg i s
 have hV:=value_spec b M i s hs hi
 have hgl : goesP i s < 4294967296:=by
  unfold goesP
  repeat' split
  all_goals first | exact u32_lt _ | exact Nat.lt_of_le_of_lt (Nat.sub_le ..) hal
 obtain ⟨to,hto⟩ : ∃ x,goesP i s = x:=⟨_,rfl⟩
 obtain ⟨ad,had⟩ : ∃ x,addrP i s = x:=⟨_,rfl⟩
 obtain ⟨va,hva⟩ : ∃ x,valueP M i s = x:=⟨_,rfl⟩
 rw [hto] at hG hD hgl
 rw [had] at hA hal hD
 rw [hva] at hV hD
 obtain ⟨vv,ve⟩:=va
 obtain ⟨vk,vad,vw⟩:=ve
 obtain ⟨op,rd,r1,r2,imm⟩:=i
 dsimp only at hD hV
 have hrd : rd < 32:=hi.rd
 have hR2:=qfn s r2 hs hi.r2
 have l2:=regP_lt hs r2
 obtain ⟨x2,hx2⟩ : ∃ x,regP s r2 = x:=⟨_,rfl⟩
 rw [hx2] at hR2 hD l2
 have hSz:=qgn op
 obtain ⟨sz,hsz⟩ : ∃ x,qcl op = x:=⟨_,rfl⟩
 rw [hsz] at hSz hD
 obtain ⟨sz,sg⟩:=sz
 dsimp only at hSz hD
 have hSt:=store_spec b M ad sz x2 hal l2
 obtain ⟨sm,hsm⟩ : ∃ x,qfb M ad sz x2 = x:=⟨_,rfl⟩
 rw [hsm] at hSt hD
 obtain ⟨sf,sM⟩:=sm
 dsimp only at hSt hD
 refine Spec.of 101 Try.func53 rfl Try.ntmps53 [(0,_),(1,_),(2,_)] rfl rfl ?_
 intro cx ρ hr' h0
 have hsl:=StP.len hs
 have hso:=StP.one s
 obtain ⟨sx,spc,sret⟩:=s
 have hx32 : sx.length = 32:=hs.len
 have hrt:=hs.ret
 dsimp only at hrt
 refine Cd.seq fun K1 hK1=>?_
 refine Cd.qac [(0,false),(1,false),(2,false),(3,false)] rfl rfl ?_
 refine Jp.box 4 4 rfl (qaa rfl) rfl rfl rfl rfl fun b4=>⟨Kp.true,?_⟩
 refine Jp.box 5 5 rfl (qaa rfl) rfl rfl rfl rfl fun b5=>⟨Kp.true,?_⟩
 refine Jp.alloc 6 6 rfl (qaa rfl) rfl rfl rfl zeroValue46 fun b6=>⟨Kp.true,?_⟩
 refine Jp.alloc 7 7 rfl (qaa rfl) rfl rfl rfl zeroValue50 fun b7=>⟨Kp.true,?_⟩
 refine Jp.qae hK1 ?_
 refine Cd.seq fun K2 hK2=>?_
 refine Cd.qac [(0,false),(1,false),(2,false),(3,false)] rfl rfl ?_
 refine Jp.y 15 rfl (qaa rfl) rfl rfl Kp.true (by exact Y.qag 4 rfl isAgg34 sizeOf34 rfl rfl (by first | rfl | assumption)) ?_
 refine Jp.y 16 rfl (qaa rfl) rfl rfl Kp.true (by exact Y.qag 5 rfl isAgg46 sizeOf46 rfl rfl (by first | rfl | assumption)) ?_
 refine Jp.call [] [] hG 17 rfl (qaa rfl) rfl rfl (Runs.fn rfl call73 rfl) (by decide) (by decide) rfl trivial ?_
 rintro v1 ρ1 L1 ⟨rfl,rfl,rfl⟩
 refine ⟨rfl,fun hle1=>⟨Kp.true,?_⟩⟩
 refine Jp.y 8 rfl (qaa rfl) rfl rfl Kp.true (Y.assign rfl rfl) ?_
 refine Jp.qae hK2 ?_
 refine Cd.seq fun K3 hK3=>?_
 refine Cd.qac [(0,false),(1,false),(2,false)] rfl rfl ?_
 refine Jp.y 18 rfl (qaa rfl) rfl rfl Kp.true (by exact Y.qag 5 rfl isAgg46 sizeOf46 rfl rfl (by first | rfl | assumption)) ?_
 refine Jp.alloc 9 9 rfl (qaa rfl) rfl rfl rfl zeroValue46 fun b9=>⟨Kp.true,?_⟩
 refine Jp.qah 9 rfl (qaa rfl) rfl rfl sizeOf46 rfl rfl (by first | rfl | assumption) (by first | rfl | assumption) rfl (by first | rfl | assumption) (fun k _ _=>qap k) Kp.true ?_
 refine Jp.qae hK3 ?_
 refine Cd.seq fun K4 hK4=>?_
 refine Cd.block ?_
 refine Cd.seq fun K5 hK5=>?_
 refine Cd.qac [(0,false),(1,false),(2,false),(3,false)] rfl rfl ?_
 refine Jp.y 20 rfl (qaa rfl) rfl rfl Kp.true (by exact Y.qad rfl rfl underlying34 rfl sizeOf3 (by decide) (show _ + 0 = _ from rfl)) ?_
 refine Jp.y 21 rfl (qaa rfl) rfl rfl Kp.true (by exact Y.qaw 4 rfl isAgg3 rfl rfl rfl) ?_
 refine Jp.y 22 rfl (qaa rfl) rfl rfl Kp.true (Y.eql rfl rfl rfl) ?_
 refine Jp.y 19 rfl (qaa rfl) rfl rfl Kp.true (Y.assign rfl rfl) ?_
 refine Jp.qae hK5 ?_
 refine Cd.qhi (G:=List Nat × MemG) (fun g=>g.1.length = 32 ∧ D = (outP ⟨sx,spc,sret⟩ g.1 to,noEv,g.2)) (fun g=>[]) [(6,_),(7,_),(8,_),(9,_)] ⟨rfl,rfl,rfl,rfl,trivial⟩ (fun g=>[(9,Pt b9 (.cells (StP.cells ⟨g.1,spc,sret⟩).toArray 46)),(0,qfz b g.2)]) [(6,_),(7,_)] ⟨rfl,rfl,trivial⟩ hK4 (fun g hφ=>?_) (fun hj1=>?_)
 ·obtain ⟨x,M'⟩:=g
  obtain ⟨hxl,hDe⟩:=hφ
  dsimp only at hxl hDe ⊢
  refine Cd.seq fun K6 hK6=>?_
  refine Cd.qac [(0,false),(1,false),(2,false)] rfl rfl ?_
  refine Jp.y 91 rfl (qaa rfl) rfl rfl Kp.true (by exact Y.qad rfl rfl underlying46 rfl sizeOf44 (by decide) (show _ + 0 = _ from rfl)) ?_
  refine Jp.y 92 rfl (qaa rfl) rfl rfl Kp.true (Y.qal rfl rfl rfl underlying44 sizeOf31 (by first | decide | omega) (by first | decide | omega) rfl) ?_
  refine Jp.qcx 9 (Pt b9 (.cells (StP.cells ⟨x.set 0 0,spc,sret⟩).toArray 46)) rfl (qaa rfl) rfl rfl sizeOf31 rfl rfl rfl rfl rfl (SetC.st hxl (by omega) 0) Kp.true ?_
  have hxl2 : (x.set 0 0).length = 32:=by rw [List.length_set]; exact hxl
  refine Jp.qae hK6 ?_
  refine Cd.seq fun K7 hK7=>?_
  refine Cd.qac [(0,false),(1,false),(2,false)] rfl rfl ?_
  refine Jp.y 93 rfl (qaa rfl) rfl rfl Kp.true (Y.move rfl rfl) ?_
  refine Jp.y 94 rfl (qaa rfl) rfl rfl Kp.true (by exact Y.qad rfl rfl underlying46 rfl sizeOf31 (by decide) (show _ + 32 = _ from rfl)) ?_
  refine Jp.qcx 9 (Pt b9 (.cells (StP.cells ⟨x.set 0 0,to,sret⟩).toArray 46)) rfl (qaa rfl) rfl rfl sizeOf31 rfl rfl rfl rfl rfl (SetC.stPc hxl2 to) Kp.true ?_
  refine Jp.qae hK7 ?_
  refine Cd.seq fun K8 hK8=>?_
  refine Cd.qac [(0,false),(1,false),(2,false),(3,false),(4,false)] rfl rfl ?_
  refine Jp.y 95 rfl (qaa rfl) rfl rfl Kp.true (by exact Y.qad rfl rfl underlying46 rfl sizeOf2 (by decide) (show _ + 33 = _ from rfl)) ?_
  refine Jp.y 96 rfl (qaa rfl) rfl rfl Kp.true (by exact Y.qbk 9 rfl isAgg2 rfl rfl (HasC.stRet hxl2)) ?_
  refine Jp.y 97 rfl (qaa rfl) rfl rfl Kp.true (Y.qcd rfl rfl rfl (by exact qaj (by omega) (by omega))) ?_
  refine Jp.y 98 rfl (qaa rfl) rfl rfl Kp.true (by exact Y.qad rfl rfl underlying46 rfl sizeOf2 (by decide) (show _ + 33 = _ from rfl)) ?_
  refine Jp.qcx 9 (Pt b9 (.cells (StP.cells ⟨x.set 0 0,to,sret + 1⟩).toArray 46)) rfl (qaa rfl) rfl rfl sizeOf2 rfl rfl rfl rfl rfl (SetC.stRet hxl2 _) Kp.true ?_
  have hol : (StP.cells ⟨x.set 0 0,to,sret + 1⟩).length = 34:=by simp [StP.cells,qcf,hxl]
  have hoo:=StP.one ⟨x.set 0 0,to,sret + 1⟩
  refine Jp.qae hK8 ?_
  refine Cd.seq fun K9 hK9=>?_
  refine Cd.qac [(0,false),(1,false),(2,false),(3,false)] rfl rfl ?_
  refine Jp.y 99 rfl (qaa rfl) rfl rfl Kp.true (by exact Y.qag 9 rfl isAgg46 sizeOf46 rfl rfl (by first | rfl | assumption)) ?_
  refine Jp.y 100 rfl (qaa rfl) rfl rfl Kp.true (Y.struct [] [_,_,_] rfl rfl qbs zeroValue50 rfl) ?_
  refine Jp.qah 6 rfl (qaa rfl) rfl rfl sizeOf46 rfl rfl (by first | rfl | assumption) (by first | rfl | assumption) rfl (by first | rfl | assumption) (fun k _ _=>qap k) Kp.true ?_
  refine Jp.qah 7 rfl (qaa rfl) rfl rfl sizeOf50 rfl rfl (by first | rfl | assumption) (by first | rfl | assumption) rfl (by first | rfl | assumption) (fun k _ _=>qap k) Kp.true ?_
  refine Jp.qae hK9 ?_
  refine Cd.ret [(0,_)] rfl (by exact resCC 6 7 rfl rfl rfl isAgg46 sizeOf46 isAgg50 sizeOf50 rfl (by first | rfl | assumption) rfl (by first | rfl | assumption)) ⟨rfl,trivial⟩ ⟨rfl,by rw [hDe]; rfl,by rw [hDe]⟩
 ·skip
  refine Cd.qaq rfl (fun ga=>?_) (fun ga=>?_)
  ·rw [if_pos (show op = 48 by simp at ga; omega)] at hD
   refine Cd.seq fun K10 hK10=>?_
   refine Cd.drawn [(4,_),(5,_)] ⟨rfl,rfl,trivial⟩ [(0,true),(1,true),(2,true),(3,true),(4,false),(5,false)] follows (by kernel_rfl) (fun hrl=>?_)
   refine Jp.q 23 rfl (qaa rfl) rfl rfl (by exact Y.qag 5 rfl isAgg46 sizeOf46 rfl rfl (by first | rfl | assumption)) ?_
   refine Jp.q 24 rfl (qaa rfl) rfl rfl (by exact Y.qad rfl rfl underlying46 rfl sizeOf31 (by decide) (show _ + 32 = _ from rfl)) ?_
   refine Jp.q 25 rfl (qaa rfl) rfl rfl (by exact Y.qbk 5 rfl isAgg31 rfl rfl (HasC.pt (StP.cPc hs))) ?_
   refine Jp.q 26 rfl (qaa rfl) rfl rfl (Y.struct [(0,_),(1,_)] [_,_,_] rfl rfl qbs zeroValue50 rfl) ?_
   refine Jp.qah 6 rfl (qaa rfl) rfl rfl sizeOf46 rfl rfl (by first | rfl | assumption) (by first | rfl | assumption) rfl (by first | rfl | assumption) (fun k _ _=>qap k) (Kp.st ⟨rfl,rfl,trivial⟩) ?_
   refine Jp.qah 7 rfl (qaa rfl) rfl rfl sizeOf50 rfl rfl (by first | rfl | assumption) (by first | rfl | assumption) rfl (by first | rfl | assumption) (fun k _ _=>qap k) Kp.last ?_
   refine Jp.qae hK10 ?_
   refine Cd.ret [(0,_)] rfl (by exact resCC 6 7 rfl rfl rfl isAgg46 sizeOf46 isAgg50 sizeOf50 rfl (by first | rfl | assumption) rfl (by first | rfl | assumption)) ⟨rfl,trivial⟩ ⟨rfl,by rw [← hD] <;> rfl,by rw [← hD]⟩
  ·rw [if_neg (show ¬ op = 48 by simp at ga; omega)] at hD
   refine Cd.seq fun K12 hK12=>?_
   refine Cd.qac [(0,false),(1,false),(2,false),(3,false)] rfl rfl ?_
   refine Jp.y 28 rfl (qaa rfl) rfl rfl Kp.true (by exact Y.qad rfl rfl underlying34 rfl sizeOf3 (by decide) (show _ + 0 = _ from rfl)) ?_
   refine Jp.y 29 rfl (qaa rfl) rfl rfl Kp.true (by exact Y.qaw 4 rfl isAgg3 rfl rfl rfl) ?_
   refine Jp.y 30 rfl (qaa rfl) rfl rfl Kp.true (Y.eql rfl rfl rfl) ?_
   refine Jp.y 27 rfl (qaa rfl) rfl rfl Kp.true (Y.assign rfl rfl) ?_
   refine Jp.qae hK12 ?_
   refine Cd.qaq rfl (fun gb=>?_) (fun gb=>?_)
   ·rw [if_pos (show op = 49 by simp at gb; omega)] at hD
    refine Cd.seq fun K13 hK13=>?_
    refine Cd.drawn [(4,_),(5,_)] ⟨rfl,rfl,trivial⟩ [(0,true),(1,true),(2,true),(3,true),(4,false),(5,false)] follows (by kernel_rfl) (fun hrl=>?_)
    refine Jp.q 31 rfl (qaa rfl) rfl rfl (by exact Y.qag 5 rfl isAgg46 sizeOf46 rfl rfl (by first | rfl | assumption)) ?_
    refine Jp.q 32 rfl (qaa rfl) rfl rfl (by exact Y.qad rfl rfl underlying46 rfl sizeOf31 (by decide) (show _ + 32 = _ from rfl)) ?_
    refine Jp.q 33 rfl (qaa rfl) rfl rfl (by exact Y.qbk 5 rfl isAgg31 rfl rfl (HasC.pt (StP.cPc hs))) ?_
    refine Jp.q 34 rfl (qaa rfl) rfl rfl (Y.struct [(0,_),(1,_)] [_,_,_] rfl rfl qbs zeroValue50 rfl) ?_
    refine Jp.qah 6 rfl (qaa rfl) rfl rfl sizeOf46 rfl rfl (by first | rfl | assumption) (by first | rfl | assumption) rfl (by first | rfl | assumption) (fun k _ _=>qap k) (Kp.st ⟨rfl,rfl,trivial⟩) ?_
    refine Jp.qah 7 rfl (qaa rfl) rfl rfl sizeOf50 rfl rfl (by first | rfl | assumption) (by first | rfl | assumption) rfl (by first | rfl | assumption) (fun k _ _=>qap k) Kp.last ?_
    refine Jp.qae hK13 ?_
    refine Cd.ret [(0,_)] rfl (by exact resCC 6 7 rfl rfl rfl isAgg46 sizeOf46 isAgg50 sizeOf50 rfl (by first | rfl | assumption) rfl (by first | rfl | assumption)) ⟨rfl,trivial⟩ ⟨rfl,by rw [← hD] <;> rfl,by rw [← hD]⟩
   ·rw [if_neg (show ¬ op = 49 by simp at gb; omega)] at hD
    refine Cd.seq fun K15 hK15=>?_
    refine Cd.qac [(0,false),(1,false),(2,false),(3,false)] rfl rfl ?_
    refine Jp.y 36 rfl (qaa rfl) rfl rfl Kp.true (Y.move rfl rfl) ?_
    refine Jp.y 37 rfl (qaa rfl) rfl rfl Kp.true (by exact Y.remN rfl rfl rfl (by omega) (by omega)) ?_
    refine Jp.y 38 rfl (qaa rfl) rfl rfl Kp.true (Y.neq rfl rfl rfl) ?_
    refine Jp.y 35 rfl (qaa rfl) rfl rfl Kp.true (Y.assign rfl rfl) ?_
    refine Jp.qae hK15 ?_
    refine Cd.qaq rfl (fun gc=>?_) (fun gc=>?_)
    ·rw [if_pos (show ¬ to % 4 = 0 by simp at gc; omega)] at hD
     refine Cd.seq fun K16 hK16=>?_
     refine Cd.qac [(0,false),(1,false),(2,false),(3,false),(4,false)] rfl rfl ?_
     refine Jp.y 39 rfl (qaa rfl) rfl rfl Kp.true (by exact Y.qag 5 rfl isAgg46 sizeOf46 rfl rfl (by first | rfl | assumption)) ?_
     refine Jp.y 40 rfl (qaa rfl) rfl rfl Kp.true (Y.move rfl rfl) ?_
     refine Jp.y 41 rfl (qaa rfl) rfl rfl Kp.true (Y.struct [(0,_),(1,_)] [_,_,_] rfl rfl qbs zeroValue50 rfl) ?_
     refine Jp.qah 6 rfl (qaa rfl) rfl rfl sizeOf46 rfl rfl (by first | rfl | assumption) (by first | rfl | assumption) rfl (by first | rfl | assumption) (fun k _ _=>qap k) Kp.true ?_
     refine Jp.qah 7 rfl (qaa rfl) rfl rfl sizeOf50 rfl rfl (by first | rfl | assumption) (by first | rfl | assumption) rfl (by first | rfl | assumption) (fun k _ _=>qap k) Kp.true ?_
     refine Jp.qae hK16 ?_
     refine Cd.ret [(0,_)] rfl (by exact resCC 6 7 rfl rfl rfl isAgg46 sizeOf46 isAgg50 sizeOf50 rfl (by first | rfl | assumption) rfl (by first | rfl | assumption)) ⟨rfl,trivial⟩ ⟨rfl,by rw [← hD] <;> rfl,by rw [← hD]⟩
    ·rw [if_neg (show ¬ ¬ to % 4 = 0 by simp at gc; omega)] at hD
     refine Cd.seq fun K17 hK17=>?_
     refine Cd.qac [(0,false),(1,false),(2,false),(3,false)] rfl rfl ?_
     refine Jp.y 43 rfl (qaa rfl) rfl rfl Kp.true (by exact Y.qad rfl rfl underlying34 rfl sizeOf3 (by decide) (show _ + 0 = _ from rfl)) ?_
     refine Jp.y 44 rfl (qaa rfl) rfl rfl Kp.true (by exact Y.qaw 4 rfl isAgg3 rfl rfl rfl) ?_
     refine Jp.call [] [] (qgc op) 45 rfl (qaa rfl) rfl rfl (Runs.fn rfl call20 rfl) (by decide) (by decide) rfl trivial ?_
     rintro v2 ρ2 L2 ⟨rfl,rfl,rfl⟩
     refine ⟨rfl,fun hle2=>⟨Kp.true,?_⟩⟩
     refine Jp.y 42 rfl (qaa rfl) rfl rfl Kp.true (Y.assign rfl rfl) ?_
     refine Jp.qae hK17 ?_
     refine Cd.qaq rfl (fun gd=>?_) (fun gd=>?_)
     ·rw [if_pos gd] at hD
      refine Cd.seq fun K18 hK18=>?_
      refine Cd.qac [(0,false),(1,false),(2,false),(3,false),(4,false),(5,false),(6,false),(7,false)] rfl rfl ?_
      refine Jp.y 47 rfl (qaa rfl) rfl rfl Kp.true (by exact Y.qad rfl rfl underlying34 rfl sizeOf3 (by decide) (show _ + 0 = _ from rfl)) ?_
      refine Jp.y 48 rfl (qaa rfl) rfl rfl Kp.true (by exact Y.qaw 4 rfl isAgg3 rfl rfl rfl) ?_
      refine Jp.call [] [] hSz 49 rfl (qaa rfl) rfl rfl (Runs.fn rfl call42 rfl) (by decide) (by decide) rfl trivial ?_
      rintro v3 ρ3 L3 ⟨rfl,rfl,rfl⟩
      refine ⟨rfl,fun hle3=>⟨Kp.true,?_⟩⟩
      refine Jp.y 46 rfl (qaa rfl) rfl rfl Kp.true (Y.move rfl rfl) ?_
      refine Jp.y 50 rfl (qaa rfl) rfl rfl Kp.true (Y.extract rfl rfl rfl) ?_
      refine Jp.y 51 rfl (qaa rfl) rfl rfl Kp.true (Y.extract rfl rfl rfl) ?_
      refine Jp.y 10 rfl (qaa rfl) rfl rfl Kp.true (Y.assign rfl rfl) ?_
      refine Jp.y 11 rfl (qaa rfl) rfl rfl Kp.true (Y.assign rfl rfl) ?_
      refine Jp.qae hK18 ?_
      refine Cd.seq fun K19 hK19=>?_
      refine Cd.drawn [(4,_),(5,_)] ⟨rfl,rfl,trivial⟩ [(0,true),(1,true),(2,true),(4,true),(5,true),(6,true),(7,true),(3,false),(8,false),(9,false),(10,true)] follows (by kernel_rfl) (fun hrl=>?_)
      refine Jp.q 52 rfl (qaa rfl) rfl rfl (Y.move rfl rfl) ?_
      refine Jp.q 53 rfl (qaa rfl) rfl rfl (by exact Y.qag 4 rfl isAgg34 sizeOf34 rfl rfl (by first | rfl | assumption)) ?_
      refine Jp.q 54 rfl (qaa rfl) rfl rfl (by exact Y.qag 5 rfl isAgg46 sizeOf46 rfl rfl (by first | rfl | assumption)) ?_
      refine Jp.q 56 rfl (qaa rfl) rfl rfl (Y.move rfl rfl) ?_
      refine Jp.q 57 rfl (qaa rfl) rfl rfl (by exact Y.qag 5 rfl isAgg46 sizeOf46 rfl rfl (by first | rfl | assumption)) ?_
      refine Jp.q 58 rfl (qaa rfl) rfl rfl (by exact Y.qad rfl rfl underlying34 rfl sizeOf3 (by decide) (show _ + 3 = _ from rfl)) ?_
      refine Jp.q 59 rfl (qaa rfl) rfl rfl (by exact Y.qaw 4 rfl isAgg3 rfl rfl rfl) ?_
      refine Jp.call [] [] hA 55 rfl (qaa rfl) rfl rfl (Runs.fn rfl call43 rfl) (by decide) (by decide) rfl trivial ?_
      rintro v4 ρ4 L4 ⟨rfl,rfl,rfl⟩
      refine ⟨rfl,fun hle4=>⟨(Kp.st ⟨rfl,rfl,trivial⟩),?_⟩⟩
      refine Jp.call [] [] hR2 60 rfl (qaa rfl) rfl rfl (Runs.fn rfl call66 rfl) (by decide) (by decide) rfl trivial ?_
      rintro v5 ρ5 L5 ⟨rfl,rfl,rfl⟩
      refine ⟨rfl,fun hle5=>⟨(Kp.st ⟨rfl,rfl,trivial⟩),?_⟩⟩
      refine Jp.call [0] [0] hSt 61 rfl (qaa rfl) rfl rfl (Runs.fn rfl call74 rfl) (by decide) (by decide) rfl trivial ?_
      rintro v6 ρ6 L6 ⟨rfl,rfl,rfl⟩
      refine ⟨rfl,fun hle6=>⟨(Kp.st ⟨rfl,rfl,trivial⟩),?_⟩⟩
      refine Jp.q 12 rfl (qaa rfl) rfl rfl (Y.assign rfl rfl) ?_
      refine Jp.qae hK19 ?_
      refine Cd.seq fun K21 hK21=>?_
      refine Cd.qac [(0,false),(1,false)] rfl rfl ?_
      refine Jp.y 62 rfl (qaa rfl) rfl rfl Kp.true (Y.move rfl rfl) ?_
      refine Jp.y 63 rfl (qaa rfl) rfl rfl Kp.true (Y.neq rfl rfl rfl) ?_
      refine Jp.qae hK21 ?_
      refine Cd.qaq rfl (fun ge=>?_) (fun ge=>?_)
      ·rw [if_neg (show ¬ sf = 0 by simpa using ge)] at hD
       refine Cd.seq fun K22 hK22=>?_
       refine Cd.drawn [(4,_),(5,_)] ⟨rfl,rfl,trivial⟩ [(0,true),(1,true),(2,true),(4,true),(3,false),(5,true),(6,false),(7,false)] follows (by kernel_rfl) (fun hrl=>?_)
       refine Jp.q 64 rfl (qaa rfl) rfl rfl (by exact Y.qag 5 rfl isAgg46 sizeOf46 rfl rfl (by first | rfl | assumption)) ?_
       refine Jp.q 65 rfl (qaa rfl) rfl rfl (by exact Y.qag 4 rfl isAgg34 sizeOf34 rfl rfl (by first | rfl | assumption)) ?_
       refine Jp.q 66 rfl (qaa rfl) rfl rfl (by exact Y.qag 5 rfl isAgg46 sizeOf46 rfl rfl (by first | rfl | assumption)) ?_
       refine Jp.q 68 rfl (qaa rfl) rfl rfl (Y.move rfl rfl) ?_
       refine Jp.call [] [] hA 67 rfl (qaa rfl) rfl rfl (Runs.fn rfl call43 rfl) (by decide) (by decide) rfl trivial ?_
       rintro v7 ρ7 L7 ⟨rfl,rfl,rfl⟩
       refine ⟨rfl,fun hle7=>⟨(Kp.st ⟨rfl,rfl,trivial⟩),?_⟩⟩
       refine Jp.q 69 rfl (qaa rfl) rfl rfl (Y.struct [(0,_),(1,_),(2,_)] [_,_,_] rfl rfl qbs zeroValue50 rfl) ?_
       refine Jp.qah 6 rfl (qaa rfl) rfl rfl sizeOf46 rfl rfl (by first | rfl | assumption) (by first | rfl | assumption) rfl (by first | rfl | assumption) (fun k _ _=>qap k) (Kp.st ⟨rfl,rfl,trivial⟩) ?_
       refine Jp.qah 7 rfl (qaa rfl) rfl rfl sizeOf50 rfl rfl (by first | rfl | assumption) (by first | rfl | assumption) rfl (by first | rfl | assumption) (fun k _ _=>qap k) Kp.last ?_
       refine Jp.qae hK22 ?_
       refine Cd.ret [(0,_)] rfl (by exact resCC 6 7 rfl rfl rfl isAgg46 sizeOf46 isAgg50 sizeOf50 rfl (by first | rfl | assumption) rfl (by first | rfl | assumption)) ⟨rfl,trivial⟩ ⟨rfl,by rw [← hD] <;> rfl,by rw [← hD]⟩
      ·rw [if_pos (show sf = 0 by simpa using ge)] at hD
       refine Cd.over rfl hK4 ?_
       exact Cd.qcz (hj1 ⟨sx,sM⟩ ⟨hx32,hD.symm⟩) ⟨rfl,rfl,rfl,rfl,trivial⟩ ⟨rfl,rfl,rfl,rfl,trivial⟩
     ·rw [if_neg (by simp [gd])] at hD
      refine Cd.seq fun K24 hK24=>?_
      refine Cd.qac [(0,false),(1,false),(2,false),(3,false)] rfl rfl ?_
      refine Jp.y 71 rfl (qaa rfl) rfl rfl Kp.true (by exact Y.qad rfl rfl underlying34 rfl sizeOf3 (by decide) (show _ + 0 = _ from rfl)) ?_
      refine Jp.y 72 rfl (qaa rfl) rfl rfl Kp.true (by exact Y.qaw 4 rfl isAgg3 rfl rfl rfl) ?_
      refine Jp.call [] [] (qga op) 73 rfl (qaa rfl) rfl rfl (Runs.fn rfl call22 rfl) (by decide) (by decide) rfl trivial ?_
      rintro v3 ρ3 L3 ⟨rfl,rfl,rfl⟩
      refine ⟨rfl,fun hle3=>⟨Kp.true,?_⟩⟩
      refine Jp.y 70 rfl (qaa rfl) rfl rfl Kp.true (Y.assign rfl rfl) ?_
      refine Jp.qae hK24 ?_
      refine Cd.qaq rfl (fun ge=>?_) (fun ge=>?_)
      ·rw [if_pos ge] at hD
       refine Cd.seq fun K25 hK25=>?_
       refine Cd.qac [(0,false),(1,false),(2,false),(3,false),(4,false),(5,false),(6,false),(7,false),(8,false),(9,false)] rfl rfl ?_
       refine Jp.y 75 rfl (qaa rfl) rfl rfl Kp.true (Y.move rfl rfl) ?_
       refine Jp.y 76 rfl (qaa rfl) rfl rfl Kp.true (by exact Y.qag 4 rfl isAgg34 sizeOf34 rfl rfl (by first | rfl | assumption)) ?_
       refine Jp.y 77 rfl (qaa rfl) rfl rfl Kp.true (by exact Y.qag 5 rfl isAgg46 sizeOf46 rfl rfl (by first | rfl | assumption)) ?_
       refine Jp.call [0] [0] hV 78 rfl (qaa rfl) rfl rfl (Runs.fn rfl call75 rfl) (by decide) (by decide) rfl trivial ?_
       rintro v4 ρ4 L4 ⟨rfl,rfl,rfl⟩
       refine ⟨rfl,fun hle4=>⟨Kp.true,?_⟩⟩
       refine Jp.y 74 rfl (qaa rfl) rfl rfl Kp.true (Y.move rfl rfl) ?_
       refine Jp.y 79 rfl (qaa rfl) rfl rfl Kp.true (Y.extract rfl rfl rfl) ?_
       refine Jp.y 80 rfl (qaa rfl) rfl rfl Kp.true (Y.extract rfl rfl rfl) ?_
       refine Jp.alloc 14 14 rfl (qaa rfl) rfl rfl rfl zeroValue50 fun b14=>⟨Kp.true,?_⟩
       refine Jp.y 13 rfl (qaa rfl) rfl rfl Kp.true (Y.assign rfl rfl) ?_
       refine Jp.qah 14 rfl (qaa rfl) rfl rfl sizeOf50 rfl rfl (by first | rfl | assumption) (by first | rfl | assumption) rfl (by first | rfl | assumption) (fun k _ _=>qap k) Kp.true ?_
       refine Jp.qae hK25 ?_
       refine Cd.seq fun K26 hK26=>?_
       refine Cd.seq fun K27 hK27=>?_
       refine Cd.qac [(0,false),(1,false),(2,false)] rfl rfl ?_
       refine Jp.y 81 rfl (qaa rfl) rfl rfl Kp.true (by exact Y.qad rfl rfl underlying50 rfl sizeOf3 (by decide) (show _ + 0 = _ from rfl)) ?_
       refine Jp.y 82 rfl (qaa rfl) rfl rfl Kp.true (by exact Y.qaw 14 rfl isAgg3 rfl rfl rfl) ?_
       refine Jp.y 83 rfl (qaa rfl) rfl rfl Kp.true (Y.neq rfl rfl rfl) ?_
       refine Jp.qae hK27 ?_
       refine Cd.qaq rfl (fun gf=>?_) (fun gf=>?_)
       ·rw [if_neg (show ¬ vk = 0 by simp at gf; omega)] at hD
        refine Cd.seq fun K28 hK28=>?_
        refine Cd.drawn [(4,_),(5,_),(14,_)] ⟨rfl,rfl,rfl,trivial⟩ [(0,true),(1,true),(2,false),(3,false)] follows (by kernel_rfl) (fun hrl=>?_)
        refine Jp.q 84 rfl (qaa rfl) rfl rfl (by exact Y.qag 5 rfl isAgg46 sizeOf46 rfl rfl (by first | rfl | assumption)) ?_
        refine Jp.q 85 rfl (qaa rfl) rfl rfl (by exact Y.qag 14 rfl isAgg50 sizeOf50 rfl rfl (by first | rfl | assumption)) ?_
        refine Jp.qah 6 rfl (qaa rfl) rfl rfl sizeOf46 rfl rfl (by first | rfl | assumption) (by first | rfl | assumption) rfl (by first | rfl | assumption) (fun k _ _=>qap k) (Kp.st ⟨rfl,rfl,rfl,trivial⟩) ?_
        refine Jp.qah 7 rfl (qaa rfl) rfl rfl sizeOf50 rfl rfl (by first | rfl | assumption) (by first | rfl | assumption) rfl (by first | rfl | assumption) (fun k _ _=>qap k) Kp.last ?_
        refine Jp.qae hK28 ?_
        refine Cd.ret [(0,_)] rfl (by exact resCC 6 7 rfl rfl rfl isAgg46 sizeOf46 isAgg50 sizeOf50 rfl (by first | rfl | assumption) rfl (by first | rfl | assumption)) ⟨rfl,trivial⟩ ⟨rfl,by rw [← hD] <;> rfl,by rw [← hD]⟩
       ·rw [if_pos (show vk = 0 by simp at gf; omega)] at hD
        refine Cd.qbw hK26 ?_
        refine Cd.qac [(0,false),(1,false),(2,false),(3,false),(4,false),(5,false)] rfl rfl ?_
        refine Jp.y 86 rfl (qaa rfl) rfl rfl Kp.true (by exact Y.qad rfl rfl underlying34 rfl sizeOf3 (by decide) (show _ + 1 = _ from rfl)) ?_
        refine Jp.y 87 rfl (qaa rfl) rfl rfl Kp.true (by exact Y.qaw 4 rfl isAgg3 rfl rfl rfl) ?_
        refine Jp.slot 87 rfl (show _ = Value.int .i64 (rd : Int) from rfl) ?_
        refine Jp.y 88 rfl (qaa rfl) rfl rfl Kp.true (Y.move rfl rfl) ?_
        refine Jp.y 89 rfl (qaa rfl) rfl rfl Kp.true (by exact Y.qad rfl rfl underlying46 rfl sizeOf44 (by decide) (show _ + 0 = _ from rfl)) ?_
        refine Jp.y 90 rfl (qaa rfl) rfl rfl Kp.true (Y.qal (q:=rd) rfl rfl rfl underlying44 sizeOf31 (by omega) (by omega) (by omega)) ?_
        refine Jp.qcx 9 (Pt b9 (.cells (StP.cells ⟨sx.set rd vv,spc,sret⟩).toArray 46)) rfl (qaa rfl) rfl rfl sizeOf31 rfl rfl rfl rfl rfl (SetC.st hx32 hrd vv) Kp.true ?_
        refine Jp.over rfl hK4 ?_
        exact Cd.qcz (hj1 ⟨sx.set rd vv,M⟩ ⟨by simp [hx32],hD.symm⟩) ⟨rfl,rfl,rfl,rfl,trivial⟩ ⟨rfl,rfl,rfl,rfl,trivial⟩
      ·rw [if_neg (by simp [ge])] at hD
       refine Cd.over rfl hK4 ?_
       exact Cd.qcz (hj1 ⟨sx,M⟩ ⟨hx32,hD.symm⟩) ⟨rfl,rfl,rfl,rfl,trivial⟩ ⟨rfl,rfl,rfl,rfl,trivial⟩
end Go.Proofs.Ytnfkalpgidiafaa

namespace Go.Proofs.Ytnfkalpgidiafaa
open _root_.Go.Proofs.Try
open Go
theorem kindP_lt (w : Nat) (hw : w < 4294967296) : kindP w < 50:=by
 have hg : ∀ (l : List Nat) (f : Nat),(∀ x ∈ l,x < 50) → l.getD f 0 < 50:=fun l f h=>by
  rw [List.getD_eq_getElem?_getD]
  cases hx : l[f]? with
  | none=>decide
  | some v=>exact h v (List.mem_of_getElem? hx)
 have h1 : ∀ f,branchP f < 50:=fun f=>hg _ f (by decide)
 have h2 : ∀ f,loadP f < 50:=fun f=>hg _ f (by decide)
 have h3 : ∀ f,storeP f < 50:=fun f=>hg _ f (by decide)
 have h4 : ∀ f t,immKP f t < 50:=fun f t=>by
  unfold immKP
  repeat' split
  all_goals first | omega | exact hg _ f (by decide)
 have h5 : ∀ f t,f < 8 → regKP f t < 50:=fun f t hf=>by
  unfold regKP
  repeat' split
  all_goals first | omega | exact hg _ f (by decide)
 have h6 : ∀ w,systemP w < 50:=fun w=>by
  unfold systemP
  repeat' split
  all_goals omega
 have h7 : w / 2 ^ 12 % 2 ^ 3 < 8:=Nat.mod_lt _ (by decide)
 unfold kindP
 repeat' split
 all_goals first | omega | exact h1 _ | exact h2 _ | exact h3 _ | exact h4 _ _ | exact h5 _ _ h7 | exact h6 _
theorem i32_rng (x : Int) : -2147483648 ≤ IntKind.i32.wrap x ∧ IntKind.i32.wrap x ≤ 2147483647:=by
 simp only [IntKind.wrap,IntKind.bits,IntKind.signed]
 simp
 split <;> omega
theorem bitsB_i32 (x y : Int) : -2147483648 ≤ qcc .or .i32 x y ∧ qcc .or .i32 x y ≤ 2147483647:=i32_rng _
theorem immI_rng (w : Nat) : -2147483648 ≤ immIP w ∧ immIP w ≤ 2147483647:=by
 have h:=i32_rng (w : Int)
 unfold immIP s32
 rw [Int.fdiv_eq_ediv_of_nonneg _ (by decide)]
 omega
theorem decP_ok (w : Nat) (hw : w < 4294967296) : InsOk (decP w):=by
 have h0:=kindP_lt w hw
 have hz : (0 : Nat) < 32:=by decide
 have hi : -2147483648 ≤ (0 : Int) ∧ (0 : Int) ≤ 2147483647:=by decide
 have h7 : w / 2 ^ 7 % 2 ^ 5 < 32:=Nat.mod_lt _ (by decide)
 have h15 : w / 2 ^ 15 % 2 ^ 5 < 32:=Nat.mod_lt _ (by decide)
 have h20 : w / 2 ^ 20 % 2 ^ 5 < 32:=Nat.mod_lt _ (by decide)
 unfold decP
 repeat' split
 ·exact ⟨h0,hz,hz,hz,hi⟩
 ·exact ⟨h0,h7,hz,hz,i32_rng _⟩
 ·exact ⟨h0,h7,hz,hz,bitsB_i32 _ _⟩
 ·exact ⟨h0,hz,h15,h20,bitsB_i32 _ _⟩
 ·exact ⟨h0,hz,h15,h20,bitsB_i32 _ _⟩
 ·exact ⟨h0,h7,h15,hz,by dsimp only; omega⟩
 ·exact ⟨h0,h7,h15,h20,hi⟩
 ·exact ⟨h0,h7,h15,hz,immI_rng w⟩
theorem noIns_ok : InsOk noIns:=⟨by decide,by decide,by decide,by decide,by decide⟩
theorem fetchP_ok (M : MemG) (pc : Nat) : InsOk (qbn M pc).1:=by
 have hl : (qdp M pc 4 4).1 < 4294967296:=qgx M pc 4 (by omega) 4
 unfold qbn
 split
 ·split
  ·exact noIns_ok
  ·exact decP_ok _ hl
 ·exact noIns_ok
def qec (M : MemG) (s : StP) : StP × EvP × MemG:=if (qbn M s.pc).2.kind = 0 then qhf M (qbn M s.pc).1 s else (s,(qbn M s.pc).2,M)
theorem step_spec (b : Nat) (M : MemG) (s : StP) (hs : StOk s) : Spec Try.prog 24 #[.pointer (some ⟨b,0,none⟩),.agg s.cells.toArray] (fun _=>True) [(0,qfz b M)]
  (fun ρ ρ' v L=>ρ' = ρ ∧ v = .tuple #[.agg (qec M s).1.cells.toArray,.agg (qec M s).2.1.cells.toArray] ∧ L = [(0,qfz b (qec M s).2.2)]):=by
 obtain ⟨D,hD⟩ : ∃ D,qec M s = D:=⟨_,rfl⟩
 rw [hD]
 unfold qec at hD
 have hF:=fetch_spec b M s.pc hs.pc (qgx M s.pc 4 (by omega) 4)
 have hI:=do_ins_spec b M (qbn M s.pc).1 s hs (fetchP_ok M s.pc)
 have hil : (qbn M s.pc).1.cells.length = 5:=rfl
 have hio : (qbn M s.pc).1.cells.all one = true:=by unfold InsP.cells; simp [one]
 obtain ⟨F,hFe⟩ : ∃ F,qbn M s.pc = F:=⟨_,rfl⟩
 rw [hFe] at hF hI hil hio hD
 obtain ⟨fi,fe⟩:=F
 obtain ⟨kd,ead,wy⟩:=fe
 dsimp only at hF hI hil hio hD
 by_cases hk : kd = 0
 ·rw [if_pos hk] at hD
  rw [hD] at hI
  have hok : StOk D.1 ∨ True:=.inr trivial
  subst hk
  have hDl : D.1.cells.length = 34:=by
   rw [← hD]
   unfold qhf
   have:=hs.len
   repeat' split
   all_goals simp [outP,StP.cells,qcf,this]
  have hDo:=StP.one D.1
  have hEl : D.2.1.cells.length = 3:=rfl
  have hEo : D.2.1.cells.all one = true:=by unfold EvP.cells; simp [one]
  refine Spec.of 26 Try.func24 rfl Try.ntmps24 [(0,_),(1,_)] rfl rfl ?_
  intro cx ρ hr' h0
  have hsl:=StP.len hs
  have hso:=StP.one s
  refine Cd.seq fun K1 hK1=>?_
  refine Cd.qac [(0,false),(1,false),(2,false)] rfl rfl ?_
  refine Jp.box 3 3 rfl (qaa rfl) rfl rfl rfl rfl fun b3=>⟨Kp.true,?_⟩
  refine Jp.alloc 4 4 rfl (qaa rfl) rfl rfl rfl zeroValue46 fun b4=>⟨Kp.true,?_⟩
  refine Jp.alloc 5 5 rfl (qaa rfl) rfl rfl rfl zeroValue50 fun b5=>⟨Kp.true,?_⟩
  refine Jp.qae hK1 ?_
  refine Cd.seq fun K2 hK2=>?_
  refine Cd.qac [(0,false),(1,false),(2,false),(3,false),(4,false),(5,false),(6,false),(7,false),(8,false),(9,false),(10,false)] rfl rfl ?_
  refine Jp.y 9 rfl (qaa rfl) rfl rfl Kp.true (Y.move rfl rfl) ?_
  refine Jp.y 10 rfl (qaa rfl) rfl rfl Kp.true (by exact Y.qad rfl rfl underlying46 rfl sizeOf31 (by decide) (show _ + 32 = _ from rfl)) ?_
  refine Jp.y 11 rfl (qaa rfl) rfl rfl Kp.true (by exact Y.qbk 3 rfl isAgg31 rfl rfl (HasC.pt (StP.cPc hs))) ?_
  refine Jp.call [0] [0] hF 12 rfl (qaa rfl) rfl rfl (Runs.fn rfl call18 rfl) (by decide) (by decide) rfl trivial ?_
  rintro v1 ρ1 L1 ⟨rfl,rfl,rfl⟩
  refine ⟨rfl,fun hle1=>⟨Kp.true,?_⟩⟩
  refine Jp.y 8 rfl (qaa rfl) rfl rfl Kp.true (Y.move rfl rfl) ?_
  refine Jp.y 13 rfl (qaa rfl) rfl rfl Kp.true (Y.extract rfl rfl rfl) ?_
  refine Jp.y 14 rfl (qaa rfl) rfl rfl Kp.true (Y.extract rfl rfl rfl) ?_
  refine Jp.alloc 6 6 rfl (qaa rfl) rfl rfl rfl zeroValue34 fun b6=>⟨Kp.true,?_⟩
  refine Jp.alloc 7 7 rfl (qaa rfl) rfl rfl rfl zeroValue50 fun b7=>⟨Kp.true,?_⟩
  refine Jp.qah 6 rfl (qaa rfl) rfl rfl sizeOf34 rfl rfl (by first | rfl | assumption) (by first | rfl | assumption) rfl (by first | rfl | assumption) (fun k _ _=>qap k) Kp.true ?_
  refine Jp.qah 7 rfl (qaa rfl) rfl rfl sizeOf50 rfl rfl (by first | rfl | assumption) (by first | rfl | assumption) rfl (by first | rfl | assumption) (fun k _ _=>qap k) Kp.true ?_
  refine Jp.qae hK2 ?_
  refine Cd.seq fun K3 hK3=>?_
  refine Cd.seq fun K4 hK4=>?_
  refine Cd.qac [(0,false),(1,false),(2,false)] rfl rfl ?_
  refine Jp.y 15 rfl (qaa rfl) rfl rfl Kp.true (by exact Y.qad rfl rfl underlying50 rfl sizeOf3 (by decide) (show _ + 0 = _ from rfl)) ?_
  refine Jp.y 16 rfl (qaa rfl) rfl rfl Kp.true (by exact Y.qaw 7 rfl isAgg3 rfl rfl rfl) ?_
  refine Jp.y 17 rfl (qaa rfl) rfl rfl Kp.true (Y.neq rfl rfl rfl) ?_
  refine Jp.qae hK4 ?_
  refine Cd.qaq rfl (fun ga=>?_) (fun ga=>?_)
  ·exact absurd ga (by simp)
  ·skip
   refine Cd.qbw hK3 ?_
   refine Cd.seq fun K5 hK5=>?_
   refine Cd.qac [(0,false),(1,false),(2,false),(3,false),(4,false),(5,false),(6,false),(7,false)] rfl rfl ?_
   refine Jp.y 20 rfl (qaa rfl) rfl rfl Kp.true (Y.move rfl rfl) ?_
   refine Jp.y 21 rfl (qaa rfl) rfl rfl Kp.true (by exact Y.qag 6 rfl isAgg34 sizeOf34 rfl rfl (by first | rfl | assumption)) ?_
   refine Jp.y 22 rfl (qaa rfl) rfl rfl Kp.true (by exact Y.qag 3 rfl isAgg46 sizeOf46 rfl rfl (by first | rfl | assumption)) ?_
   refine Jp.call [0] [0] hI 23 rfl (qaa rfl) rfl rfl (Runs.fn rfl call53 rfl) (by decide) (by decide) rfl trivial ?_
   rintro v2 ρ2 L2 ⟨rfl,rfl,rfl⟩
   refine ⟨rfl,fun hle2=>⟨Kp.true,?_⟩⟩
   refine Jp.y 24 rfl (qaa rfl) rfl rfl Kp.true (Y.extract rfl rfl rfl) ?_
   refine Jp.y 25 rfl (qaa rfl) rfl rfl Kp.true (Y.extract rfl rfl rfl) ?_
   refine Jp.qah 4 rfl (qaa rfl) rfl rfl sizeOf46 rfl rfl (by first | rfl | assumption) (by first | rfl | assumption) rfl (by first | rfl | assumption) (fun k _ _=>qap k) Kp.true ?_
   refine Jp.qah 5 rfl (qaa rfl) rfl rfl sizeOf50 rfl rfl (by first | rfl | assumption) (by first | rfl | assumption) rfl (by first | rfl | assumption) (fun k _ _=>qap k) Kp.true ?_
   refine Jp.qae hK5 ?_
   refine Cd.ret [(0,_)] rfl (by exact resCC 4 5 rfl rfl rfl isAgg46 sizeOf46 isAgg50 sizeOf50 rfl (by first | rfl | assumption) rfl (by first | rfl | assumption)) ⟨rfl,trivial⟩ ⟨rfl,rfl,rfl⟩
 ·rw [if_neg hk] at hD
  subst hD
  have hEl : (EvP.mk kd ead wy).cells.length = 3:=rfl
  have hEo : (EvP.mk kd ead wy).cells.all one = true:=by unfold EvP.cells; simp [one]
  refine Spec.of 26 Try.func24 rfl Try.ntmps24 [(0,_),(1,_)] rfl rfl ?_
  intro cx ρ hr' h0
  have hsl:=StP.len hs
  have hso:=StP.one s
  refine Cd.seq fun K6 hK6=>?_
  refine Cd.qac [(0,false),(1,false),(2,false)] rfl rfl ?_
  refine Jp.box 3 3 rfl (qaa rfl) rfl rfl rfl rfl fun b3=>⟨Kp.true,?_⟩
  refine Jp.alloc 4 4 rfl (qaa rfl) rfl rfl rfl zeroValue46 fun b4=>⟨Kp.true,?_⟩
  refine Jp.alloc 5 5 rfl (qaa rfl) rfl rfl rfl zeroValue50 fun b5=>⟨Kp.true,?_⟩
  refine Jp.qae hK6 ?_
  refine Cd.seq fun K7 hK7=>?_
  refine Cd.qac [(0,false),(1,false),(2,false),(3,false),(4,false),(5,false),(6,false),(7,false),(8,false),(9,false),(10,false)] rfl rfl ?_
  refine Jp.y 9 rfl (qaa rfl) rfl rfl Kp.true (Y.move rfl rfl) ?_
  refine Jp.y 10 rfl (qaa rfl) rfl rfl Kp.true (by exact Y.qad rfl rfl underlying46 rfl sizeOf31 (by decide) (show _ + 32 = _ from rfl)) ?_
  refine Jp.y 11 rfl (qaa rfl) rfl rfl Kp.true (by exact Y.qbk 3 rfl isAgg31 rfl rfl (HasC.pt (StP.cPc hs))) ?_
  refine Jp.call [0] [0] hF 12 rfl (qaa rfl) rfl rfl (Runs.fn rfl call18 rfl) (by decide) (by decide) rfl trivial ?_
  rintro v1 ρ1 L1 ⟨rfl,rfl,rfl⟩
  refine ⟨rfl,fun hle1=>⟨Kp.true,?_⟩⟩
  refine Jp.y 8 rfl (qaa rfl) rfl rfl Kp.true (Y.move rfl rfl) ?_
  refine Jp.y 13 rfl (qaa rfl) rfl rfl Kp.true (Y.extract rfl rfl rfl) ?_
  refine Jp.y 14 rfl (qaa rfl) rfl rfl Kp.true (Y.extract rfl rfl rfl) ?_
  refine Jp.alloc 6 6 rfl (qaa rfl) rfl rfl rfl zeroValue34 fun b6=>⟨Kp.true,?_⟩
  refine Jp.alloc 7 7 rfl (qaa rfl) rfl rfl rfl zeroValue50 fun b7=>⟨Kp.true,?_⟩
  refine Jp.qah 6 rfl (qaa rfl) rfl rfl sizeOf34 rfl rfl (by first | rfl | assumption) (by first | rfl | assumption) rfl (by first | rfl | assumption) (fun k _ _=>qap k) Kp.true ?_
  refine Jp.qah 7 rfl (qaa rfl) rfl rfl sizeOf50 rfl rfl (by first | rfl | assumption) (by first | rfl | assumption) rfl (by first | rfl | assumption) (fun k _ _=>qap k) Kp.true ?_
  refine Jp.qae hK7 ?_
  refine Cd.seq fun K8 hK8=>?_
  refine Cd.seq fun K9 hK9=>?_
  refine Cd.qac [(0,false),(1,false),(2,false)] rfl rfl ?_
  refine Jp.y 15 rfl (qaa rfl) rfl rfl Kp.true (by exact Y.qad rfl rfl underlying50 rfl sizeOf3 (by decide) (show _ + 0 = _ from rfl)) ?_
  refine Jp.y 16 rfl (qaa rfl) rfl rfl Kp.true (by exact Y.qaw 7 rfl isAgg3 rfl rfl rfl) ?_
  refine Jp.y 17 rfl (qaa rfl) rfl rfl Kp.true (Y.neq rfl rfl rfl) ?_
  refine Jp.qae hK9 ?_
  refine Cd.qaq rfl (fun ga=>?_) (fun ga=>?_)
  ·skip
   refine Cd.seq fun K10 hK10=>?_
   refine Cd.drawn [(3,_),(7,_)] ⟨rfl,rfl,trivial⟩ [(0,true),(1,true),(2,false),(3,false)] follows (by kernel_rfl) (fun hrl=>?_)
   refine Jp.q 18 rfl (qaa rfl) rfl rfl (by exact Y.qag 3 rfl isAgg46 sizeOf46 rfl rfl (by first | rfl | assumption)) ?_
   refine Jp.q 19 rfl (qaa rfl) rfl rfl (by exact Y.qag 7 rfl isAgg50 sizeOf50 rfl rfl (by first | rfl | assumption)) ?_
   refine Jp.qah 4 rfl (qaa rfl) rfl rfl sizeOf46 rfl rfl (by first | rfl | assumption) (by first | rfl | assumption) rfl (by first | rfl | assumption) (fun k _ _=>qap k) (Kp.st ⟨rfl,rfl,trivial⟩) ?_
   refine Jp.qah 5 rfl (qaa rfl) rfl rfl sizeOf50 rfl rfl (by first | rfl | assumption) (by first | rfl | assumption) rfl (by first | rfl | assumption) (fun k _ _=>qap k) Kp.last ?_
   refine Jp.qae hK10 ?_
   refine Cd.ret [(0,_)] rfl (by exact resCC 4 5 rfl rfl rfl isAgg46 sizeOf46 isAgg50 sizeOf50 rfl (by first | rfl | assumption) rfl (by first | rfl | assumption)) ⟨rfl,trivial⟩ ⟨rfl,rfl,rfl⟩
  ·exact absurd ga (by simp; omega)
end Go.Proofs.Ytnfkalpgidiafaa

namespace Go.Proofs.Ytnfkalpgidiafaa
open _root_.Go.Proofs.Try
open Go
def qch (X : qam) (r : Nat) : qam:=if r = 0 then [0,0,0,0] else (X.drop (4 * r)).take 4
theorem qca {X : qam} (hX : X.length = 128) {r : Nat} (hr : r < 32) : (qch X r).length = 4:=by
 unfold qch
 split
 ·rfl
 ·rw [List.length_take,List.length_drop]; omega
theorem labOf_get {X : qam} {r : Nat} (h0 : r ≠ 0) (p : Nat) (v : Value) (h : (qaf (qch X r))[p]? = some v) : (qaf X)[r * 4 + p]? = some v:=by
 rw [qch,if_neg h0,qaf,List.getElem?_map] at h
 rw [qaf,List.getElem?_map,Nat.mul_comm r 4]
 by_cases hp : p < 4
 ·rw [List.getElem?_take_of_lt hp,List.getElem?_drop] at h; exact h
 ·rw [List.getElem?_eq_none (by rw [List.length_take]; omega)] at h; cases h
theorem qge (b : Nat) (X : qam) (r : Nat) (hX : X.length = 128) (hr : r < 32) : Spec Try.prog 40 #[.pointer (some ⟨b,0,none⟩),.int .i64 r] (fun _=>True) [(0,Pt b (.cells (qaf X).toArray 43))]
  (fun ρ ρ' v L=>ρ' = ρ ∧ v = .agg (qaf (qch X r)).toArray ∧ L = [(0,Pt b (.cells (qaf X).toArray 43))]):=by
 refine Spec.of 17 Try.func40 rfl Try.ntmps40 [(0,_),(1,_)] rfl rfl ?_
 intro cx ρ hr' h0
 have hl : (qaf (qch X r)).length = 4:=by rw [qbc,qca hX hr]
 have ho:=qbd (qch X r)
 refine Cd.seq fun K1 hK1=>?_
 refine Cd.qac [(0,false)] rfl rfl ?_
 refine Jp.alloc 4 4 rfl (qaa rfl) rfl rfl rfl zeroValue41 fun b4=>⟨Kp.true,?_⟩
 refine Jp.qae hK1 ?_
 refine Cd.seq fun K2 hK2=>?_
 refine Cd.seq fun K3 hK3=>?_
 refine Cd.qac [(0,false),(1,false),(2,false),(3,false),(4,false),(5,false)] rfl rfl ?_
 refine Jp.y 5 rfl (qaa rfl) rfl rfl Kp.true (Y.move rfl rfl) ?_
 refine Jp.y 6 rfl (qaa rfl) rfl rfl Kp.true (Y.leq rfl rfl rfl) ?_
 by_cases hz : r = 0
 ·skip
  refine Jp.y 7 rfl (qaa rfl) rfl rfl Kp.true (Y.move rfl rfl) ?_
  refine Jp.slot 7 rfl (show _ = Value.bool true from congrArg Value.bool (by simp; omega)) ?_
  refine Jp.qat 8 rfl (qab rfl rfl rfl rfl) rfl rfl Kp.true ?_
  refine Jp.qat 9 rfl (qab rfl rfl rfl rfl) rfl rfl Kp.true ?_
  refine Jp.y 10 rfl (qaa rfl) rfl rfl Kp.true (Y.qba rfl rfl rfl) ?_
  refine Jp.qae hK3 ?_
  refine Cd.qdk rfl ?_
  refine Cd.seq fun K4 hK4=>?_
  refine Cd.qac [(0,false),(1,false)] rfl rfl ?_
  refine Jp.y 11 rfl (qaa rfl) rfl rfl Kp.true (Y.array [] [_,_,_,_] rfl rfl underlying41 sizeOf5 zeroValue41 rfl) ?_
  refine Jp.qah 4 rfl (qaa rfl) rfl rfl sizeOf41 rfl rfl (by first | rfl | assumption) (by first | rfl | assumption) rfl (by first | rfl | assumption) (fun k _ _=>qap k) Kp.true ?_
  refine Jp.qae hK4 ?_
  refine Cd.ret [(0,_)] rfl (by exact qer 4 rfl rfl isAgg41 sizeOf41 rfl (by first | rfl | assumption)) ⟨rfl,trivial⟩ ⟨rfl,by rw [hz]; rfl,rfl⟩
 ·skip
  refine Jp.y 7 rfl (qaa rfl) rfl rfl Kp.true (Y.move rfl rfl) ?_
  refine Jp.slot 7 rfl (show _ = Value.bool false from congrArg Value.bool (by simp; omega)) ?_
  refine Jp.y 8 rfl (qab rfl rfl rfl rfl) rfl rfl Kp.true (Y.move rfl rfl) ?_
  refine Jp.y 9 rfl (qab rfl rfl rfl rfl) rfl rfl Kp.true (Y.geq rfl rfl rfl) ?_
  refine Jp.y 10 rfl (qaa rfl) rfl rfl Kp.true (Y.qaz rfl rfl rfl) ?_
  refine Jp.slot 10 rfl (show _ = Value.bool false from congrArg Value.bool (by simp; omega)) ?_
  refine Jp.qae hK3 ?_
  refine Cd.qbu rfl ?_
  refine Cd.qbw hK2 ?_
  refine Cd.seq fun K5 hK5=>?_
  refine Cd.qac [(0,false),(1,false),(2,false),(3,false),(4,false),(5,false)] rfl rfl ?_
  refine Jp.y 12 rfl (qaa rfl) rfl rfl Kp.true (Y.move rfl rfl) ?_
  refine Jp.y 13 rfl (qaa rfl) rfl rfl Kp.true (Y.move rfl rfl) ?_
  refine Jp.y 14 rfl (qaa rfl) rfl rfl Kp.true (Y.qao rfl rfl) ?_
  refine Jp.y 15 rfl (qaa rfl) rfl rfl Kp.true (Y.qal (q:=r * 4) rfl rfl rfl underlying43 sizeOf41 (by omega) (by omega) (by omega)) ?_
  refine Jp.y 16 rfl (qaa rfl) rfl rfl Kp.true (Y.qfr 0 (qaf (qch X r)) rfl isAgg41 sizeOf41 rfl rfl hl (fun p v h=>by have:=labOf_get hz p v h; simpa using this)) ?_
  refine Jp.qah 4 rfl (qaa rfl) rfl rfl sizeOf41 rfl rfl (by first | rfl | assumption) (by first | rfl | assumption) rfl (by first | rfl | assumption) (fun k _ _=>qap k) Kp.true ?_
  refine Jp.qae hK5 ?_
  refine Cd.ret [(0,_)] rfl (by exact qer 4 rfl rfl isAgg41 sizeOf41 rfl (by first | rfl | assumption)) ⟨rfl,trivial⟩ ⟨rfl,rfl,rfl⟩
def sinkP (op : Nat) : Nat:=if op = 4 then 1 else if qeh op = true then 2 else if storesP op = true then 3 else 0
theorem sink_spec (op : Nat) : Spec Try.prog 38 #[.int .i64 op] (fun _=>True) [] (fun ρ ρ' v L=>ρ' = ρ ∧ v = .int .i64 (sinkP op : Int) ∧ L = []):=by
 refine Spec.of 12 Try.func38 rfl Try.ntmps38 [(0,_)] rfl rfl ?_
 intro cx ρ hr h0
 refine Cd.seq fun K6 hK6=>?_
 refine Cd.qac [(0,false)] rfl rfl ?_
 refine Jp.y 2 rfl (qaa rfl) rfl rfl Kp.true (Y.assign rfl rfl) ?_
 refine Jp.qae hK6 ?_
 refine Cd.seq fun K7 hK7=>?_
 refine Cd.block ?_
 refine Cd.seq fun K8 hK8=>?_
 refine Cd.qac [(0,false),(1,false),(2,false)] rfl rfl ?_
 refine Jp.y 4 rfl (qaa rfl) rfl rfl Kp.true (Y.move rfl rfl) ?_
 refine Jp.y 5 rfl (qaa rfl) rfl rfl Kp.true (Y.eql rfl rfl rfl) ?_
 refine Jp.y 3 rfl (qaa rfl) rfl rfl Kp.true (Y.assign rfl rfl) ?_
 refine Jp.qae hK8 ?_
 refine Cd.qaq rfl (fun ga=>?_) (fun ga=>?_)
 ·have h : op = 4:=by simp at ga; omega
  refine Cd.seq fun K9 hK9=>?_
  refine Cd.qac [(0,false)] rfl rfl ?_
  refine Jp.y 2 rfl (qaa rfl) rfl rfl Kp.true (Y.assign rfl rfl) ?_
  refine Jp.qae hK9 ?_
  refine Cd.ret [] rfl (qbe rfl rfl) trivial ⟨rfl,by rw [sinkP,if_pos h]; rfl,rfl⟩
 ·have h : ¬ op = 4:=by simp at ga; omega
  refine Cd.seq fun K10 hK10=>?_
  refine Cd.qac [(0,false),(1,false),(2,false)] rfl rfl ?_
  refine Jp.y 7 rfl (qaa rfl) rfl rfl Kp.true (Y.move rfl rfl) ?_
  refine Jp.call [] [] (qeg op) 8 rfl (qaa rfl) rfl rfl (Runs.fn rfl call47 rfl) (by decide) (by decide) rfl trivial ?_
  rintro v1 ρ1 L1 ⟨rfl,rfl,rfl⟩
  refine ⟨rfl,fun hle1=>⟨Kp.true,?_⟩⟩
  refine Jp.y 6 rfl (qaa rfl) rfl rfl Kp.true (Y.assign rfl rfl) ?_
  refine Jp.qae hK10 ?_
  refine Cd.qaq rfl (fun gb=>?_) (fun gb=>?_)
  ·skip
   refine Cd.seq fun K11 hK11=>?_
   refine Cd.qac [(0,false)] rfl rfl ?_
   refine Jp.y 2 rfl (qaa rfl) rfl rfl Kp.true (Y.assign rfl rfl) ?_
   refine Jp.qae hK11 ?_
   refine Cd.ret [] rfl (qbe rfl rfl) trivial ⟨rfl,by rw [sinkP,if_neg h,if_pos gb]; rfl,rfl⟩
  ·skip
   refine Cd.seq fun K12 hK12=>?_
   refine Cd.qac [(0,false),(1,false),(2,false)] rfl rfl ?_
   refine Jp.y 10 rfl (qaa rfl) rfl rfl Kp.true (Y.move rfl rfl) ?_
   refine Jp.call [] [] (qgc op) 11 rfl (qaa rfl) rfl rfl (Runs.fn rfl call20 rfl) (by decide) (by decide) rfl trivial ?_
   rintro v2 ρ2 L2 ⟨rfl,rfl,rfl⟩
   refine ⟨rfl,fun hle2=>⟨Kp.true,?_⟩⟩
   refine Jp.y 9 rfl (qaa rfl) rfl rfl Kp.true (Y.assign rfl rfl) ?_
   refine Jp.qae hK12 ?_
   refine Cd.qaq rfl (fun gc=>?_) (fun gc=>?_)
   ·skip
    refine Cd.seq fun K13 hK13=>?_
    refine Cd.qac [(0,false)] rfl rfl ?_
    refine Jp.y 2 rfl (qaa rfl) rfl rfl Kp.true (Y.assign rfl rfl) ?_
    refine Jp.qae hK13 ?_
    refine Cd.ret [] rfl (qbe rfl rfl) trivial ⟨rfl,by rw [sinkP,if_neg h,if_neg (by rw [gb]; decide),if_pos gc]; rfl,rfl⟩
   ·skip
    refine Cd.over rfl hK7 ?_
    refine Cd.seq fun K14 hK14=>?_
    refine Cd.qac [(0,false)] rfl rfl ?_
    refine Jp.y 2 rfl (qaa rfl) rfl rfl Kp.true (Y.assign rfl rfl) ?_
    refine Jp.qae hK14 ?_
    refine Cd.ret [] rfl (qbe rfl rfl) trivial ⟨rfl,by rw [sinkP,if_neg h,if_neg (by rw [gb]; decide),if_neg (by rw [gc]; decide)]; rfl,rfl⟩
end Go.Proofs.Ytnfkalpgidiafaa
