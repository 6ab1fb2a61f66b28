import Derived.Test.YtnfkalpgidiafaaZP6
import Derived.Test.YtnfkalpgidiafaaZP5
import Derived.Test.YtnfkalpgidiafaaZP1
set_option linter.unusedVariables false
set_option linter.unusedSimpArgs false
set_option maxRecDepth 100000
namespace Go.Proofs.Ytnfkalpgidiafaa
open _root_.Go.Proofs.Try
open Go
def lb0 : qam:=List.replicate 128 0
def pol0 (pp : Bool) : PolG:=⟨pp,⟨none,0,[]⟩,⟨none,0,[]⟩⟩
theorem pol0_rd (h : Hp) : RdSinkGs (⟨none,0,[]⟩ : Sl SinkG) h:=⟨RdS.nil 3 h,fun x hx=>by cases hx⟩
def awX : qam:=setL lb0 [1,0,0,0] 2
def awY : qam:=setL (setL awX [1,1,1,1] 1) qdy 0
theorem aw13_w : encP ⟨28,1,2,3,0⟩ = (3211443,0):=by kernel_rfl
theorem aw13 : qhe (madeD [3211443] []) ⟨2,[]⟩ (st0 4096) awX false [] = ⟨⟨List.replicate 32 0,4100,1⟩,awY,[],noEv,0,madeD [3211443] [],⟨2,[]⟩⟩:=by kernel_rfl
theorem awake13_spec : Spec Try.prog 6 #[] (fun _=>True) [] (fun ρ ρ' v L=>v = .bool true ∧ L = []):=by
 refine Spec.of 51 Try.func6 rfl Try.ntmps6 [] rfl rfl ?_
 intro cx ρ hr' h0
 refine Cd.seq fun K1 hK1=>?_
 refine Cd.qac [(0,false)] rfl rfl ?_
 refine Jp.y 0 rfl (qaa rfl) rfl rfl Kp.true (Y.assign rfl rfl) ?_
 refine Jp.qae hK1 ?_
 refine Cd.seq fun K2 hK2=>?_
 refine Cd.qac [(0,false),(1,false),(2,false),(3,false),(4,false)] rfl rfl ?_
 refine Jp.y 10 rfl (qaa rfl) rfl rfl Kp.true (Y.struct [(0,_),(1,_),(2,_),(3,_)] [_,_,_,_,_] rfl rfl qfq zeroValue34 rfl) ?_
 refine Jp.call [] [] (qgc ⟨28,1,2,3,0⟩ ⟨by decide,by decide,by decide,by decide,by decide⟩ (by decide)) 11 rfl (qaa rfl) rfl rfl (Runs.fn rfl call8 rfl) (by decide) (by decide) rfl trivial ?_
 rintro v1 ρ1 L1 ⟨rfl,rfl,rfl⟩
 refine ⟨rfl,fun hle1=>⟨Kp.true,?_⟩⟩
 rw [aw13_w]
 refine Jp.lit 12 9 [(0,_)] [_] rfl (qaa rfl) rfl rfl rfl rfl underlying35 sizeOf31 zeroValue31 rfl rfl rfl rfl rfl fun b9=>⟨Kp.true,?_⟩
 refine Jp.freeze (i:=9) rfl (OwnS.up _ _ _ _ _ _) fun ρ7 hle7 hA7=>?_
 refine Jp.call [] [0] (made13_spec (some ⟨b9,0,none⟩) 1 [3211443] none 0 [] (by intro x hx; simp at hx; exact ⟨3211443,hx,by omega⟩)) 13 rfl (qaa rfl) rfl rfl (Runs.fn rfl call7 rfl) (by decide) (by decide) rfl ⟨hA7.rd,RdS.nil 1 _⟩ ?_
 rintro v2 ρ2 L2 ⟨b,rfl,rfl⟩
 refine ⟨rfl,fun hle2=>⟨Kp.true,?_⟩⟩
 refine Jp.y 1 rfl (qaa rfl) rfl rfl Kp.true (Y.assign rfl rfl) ?_
 refine Jp.qae hK2 ?_
 refine Cd.seq fun K3 hK3=>?_
 refine Cd.qac [(0,false),(1,false),(2,false),(3,false),(4,false),(5,false)] rfl rfl ?_
 refine Jp.call [] [1] (shNew_spec 2) 15 rfl (qaa rfl) rfl rfl (Runs.fn rfl call9 rfl) (by decide) (by decide) rfl trivial ?_
 rintro v3 ρ3 L3 ⟨rfl,bs,rfl,rfl⟩
 refine ⟨rfl,fun hle3=>⟨Kp.true,?_⟩⟩
 refine Jp.y 14 rfl (qaa rfl) rfl rfl Kp.true (Y.move rfl rfl) ?_
 refine Jp.y 16 rfl (qaa rfl) rfl rfl Kp.true (Y.extract rfl rfl rfl) ?_
 refine Jp.y 17 rfl (qaa rfl) rfl rfl Kp.true (Y.extract rfl rfl rfl) ?_
 refine Jp.y 2 rfl (qaa rfl) rfl rfl Kp.true (Y.assign rfl rfl) ?_
 refine Jp.y 3 rfl (qaa rfl) rfl rfl Kp.true (Y.assign rfl rfl) ?_
 refine Jp.qae hK3 ?_
 refine Cd.seq fun K4 hK4=>?_
 refine Cd.qac [(0,false),(1,false),(2,false)] rfl rfl ?_
 refine Jp.y 18 rfl (qaa rfl) rfl rfl Kp.true (Y.array [] [_,_,_,_,_,_,_,_,_,_,_,_,_,_,_,_,_,_,_,_,_,_,_,_,_,_,_,_,_,_,_,_,_,_,_,_,_,_,_,_,_,_,_,_,_,_,_,_,_,_,_,_,_,_,_,_,_,_,_,_,_,_,_,_,_,_,_,_,_,_,_,_,_,_,_,_,_,_,_,_,_,_,_,_,_,_,_,_,_,_,_,_,_,_,_,_,_,_,_,_,_,_,_,_,_,_,_,_,_,_,_,_,_,_,_,_,_,_,_,_,_,_,_,_,_,_,_,_] rfl rfl underlying43 sizeOf41 zeroValue43 rfl) ?_
 refine Jp.alloc 4 4 rfl (qaa rfl) rfl rfl rfl zeroValue43 fun b4=>⟨Kp.true,?_⟩
 refine Jp.qbn 4 rfl (qaa rfl) rfl rfl sizeOf43 rfl rfl rfl rfl rfl rfl (fun k _ _=>qap k) Kp.true ?_
 refine Jp.qae hK4 ?_
 refine Cd.seq fun K5 hK5=>?_
 refine Cd.qac [(0,false),(1,false),(2,false)] rfl rfl ?_
 refine Jp.y 19 rfl (qaa rfl) rfl rfl Kp.true (Y.array [(0,_)] [_,_,_,_] rfl rfl underlying41 sizeOf5 zeroValue41 rfl) ?_
 refine Jp.y 20 rfl (qaa rfl) rfl rfl Kp.true (Y.qak rfl rfl rfl underlying43 sizeOf41 (by first | decide | omega) (by first | decide | omega) rfl) ?_
 refine Jp.qbn (cs:=qaf [1,0,0,0]) 4 rfl (qaa rfl) rfl rfl sizeOf41 rfl rfl rfl rfl rfl rfl (fun k _ _=>qap k) Kp.true ?_
 refine Jp.imp (j:=4) rfl (fun h hh=>(show Pt b4 (.cells (qaf awX).toArray 43) h from hh)) ?_
 have hS:=qef b bs (madeD [3211443] []) ⟨2,[]⟩ (st0 4096) awX (pol0 false) (st0_ok (by decide)) rfl (by decide)
 rw [show qhe (madeD [3211443] []) ⟨2,[]⟩ (st0 4096) awX (pol0 false).pointer (pol0 false).sinks.xs = _ from aw13] at hS
 refine Jp.qae hK5 ?_
 refine Cd.seq fun K6 hK6=>?_
 refine Cd.qac [(0,false),(1,false),(2,false),(3,false),(4,false),(5,false),(6,false),(7,false),(8,false),(9,false),(10,false),(11,false),(12,false),(13,false),(14,false),(15,false),(16,false),(17,false),(18,false),(19,false)] rfl rfl ?_
 refine Jp.y 22 rfl (qaa rfl) rfl rfl Kp.true (Y.move rfl rfl) ?_
 refine Jp.y 23 rfl (qaa rfl) rfl rfl Kp.true (Y.move rfl rfl) ?_
 refine Jp.y 24 rfl (qaa rfl) rfl rfl Kp.true (Y.struct [(1,_)] [_,_,_,_,_,_,_,_,_,_,_,_,_,_,_,_,_,_,_,_,_,_,_,_,_,_,_,_,_,_,_,_,_,_] rfl rfl places46 zeroValue46 rfl) ?_
 refine Jp.y 25 rfl (qaa rfl) rfl rfl Kp.true (by first | exact Y.qag 4 rfl isAgg43 sizeOf43 rfl rfl rfl) ?_
 refine Jp.y 26 rfl (qaa rfl) rfl rfl Kp.true (Y.struct [] [_,_,_] rfl rfl places28 zeroValue28 rfl) ?_
 refine Jp.call [0,1] [0,1,2] hS 27 rfl (qaa rfl) rfl rfl (Runs.fn rfl call10 rfl) (by decide) (by decide) rfl (pol0_rd _) ?_
 rintro v4 ρ4 L4 ⟨A,c,rfl,rfl⟩
 refine ⟨rfl,fun hle4=>⟨Kp.true,?_⟩⟩
 refine Jp.y 21 rfl (qaa rfl) rfl rfl Kp.true (Y.move rfl rfl) ?_
 refine Jp.y 28 rfl (qaa rfl) rfl rfl Kp.true (Y.extract rfl rfl rfl) ?_
 refine Jp.y 29 rfl (qaa rfl) rfl rfl Kp.true (Y.extract rfl rfl rfl) ?_
 refine Jp.y 30 rfl (qaa rfl) rfl rfl Kp.true (Y.extract rfl rfl rfl) ?_
 refine Jp.y 31 rfl (qaa rfl) rfl rfl Kp.true (Y.extract rfl rfl rfl) ?_
 refine Jp.y 32 rfl (qaa rfl) rfl rfl Kp.true (Y.extract rfl rfl rfl) ?_
 refine Jp.alloc 5 5 rfl (qaa rfl) rfl rfl rfl zeroValue46 fun b5=>⟨Kp.true,?_⟩
 refine Jp.alloc 6 6 rfl (qaa rfl) rfl rfl rfl zeroValue43 fun b6=>⟨Kp.true,?_⟩
 refine Jp.alloc 8 8 rfl (qaa rfl) rfl rfl rfl zeroValue50 fun b8=>⟨Kp.true,?_⟩
 refine Jp.qah 5 rfl (qaa rfl) rfl rfl sizeOf46 rfl rfl (by first | rfl | assumption) (by first | rfl | assumption) rfl (by first | rfl | assumption) (fun k _ _=>qap k) Kp.true ?_
 refine Jp.qah 6 rfl (qaa rfl) rfl rfl sizeOf43 rfl rfl (by first | rfl | assumption) (by first | rfl | assumption) rfl (by first | rfl | assumption) (fun k _ _=>qap k) Kp.true ?_
 refine Jp.y 7 rfl (qaa rfl) rfl rfl Kp.true (Y.assign rfl rfl) ?_
 refine Jp.qah 8 rfl (qaa rfl) rfl rfl sizeOf50 rfl rfl (by first | rfl | assumption) (by first | rfl | assumption) rfl (by first | rfl | assumption) (fun k _ _=>qap k) Kp.true ?_
 refine Jp.y 9 rfl (qaa rfl) rfl rfl Kp.true (Y.assign rfl rfl) ?_
 refine Jp.qae hK6 ?_
 refine Cd.seq fun K7 hK7=>?_
 refine Cd.qac [(0,false),(1,false),(2,false),(3,false),(4,false),(5,false),(6,false),(7,false),(8,false),(9,false),(10,false),(11,false),(12,false),(13,false),(14,false),(15,false),(16,false),(17,false),(18,false)] rfl rfl ?_
 refine Jp.y 33 rfl (qaa rfl) rfl rfl Kp.true (Y.qak rfl rfl rfl underlying43 sizeOf41 (by first | decide | omega) (by first | decide | omega) rfl) ?_
 refine Jp.y 34 rfl (qaa rfl) rfl rfl Kp.true (Y.qhj 6 (qaf (qck awY 1)) rfl isAgg41 sizeOf41 rfl rfl rfl (fun p v h=>labOf_get (X:=awY) (r:=1) (by decide) p v h)) ?_
 refine Jp.y 35 rfl (qaa rfl) rfl rfl Kp.true (Y.array [(0,_),(1,_),(2,_),(3,_)] [_,_,_,_] rfl rfl underlying41 sizeOf5 zeroValue41 rfl) ?_
 refine Jp.y 36 rfl (qaa rfl) rfl rfl Kp.true (Y.eqlV (xs:=(qaf (qck awY 1)).toArray) (ys:=(qaf [1,1,1,1]).toArray) (r:=true) rfl rfl rfl tg_guard (fun w=>by rw [tg_eqd 9998 rfl rfl,decide_eq_true (by kernel_rfl)])) ?_
 refine Jp.y 37 rfl (qaa rfl) rfl rfl Kp.true (Y.move rfl rfl) ?_
 refine Jp.slot 37 rfl (show _ = Value.bool true from rfl) ?_
 refine Jp.y 38 rfl (qab rfl rfl rfl rfl) rfl rfl Kp.true (Y.move rfl rfl) ?_
 refine Jp.y 39 rfl (qab rfl rfl rfl rfl) rfl rfl Kp.true (Y.qcx rfl underlying47 rfl) ?_
 refine Jp.y 40 rfl (qab rfl rfl rfl rfl) rfl rfl Kp.true (Y.eql rfl rfl rfl) ?_
 refine Jp.y 41 rfl (qaa rfl) rfl rfl Kp.true (Y.qbe rfl rfl rfl) ?_
 refine Jp.y 42 rfl (qaa rfl) rfl rfl Kp.true (Y.move rfl rfl) ?_
 refine Jp.slot 42 rfl (show _ = Value.bool true from rfl) ?_
 refine Jp.y 43 rfl (qab rfl rfl rfl rfl) rfl rfl Kp.true (by exact Y.qag 8 rfl isAgg50 sizeOf50 rfl rfl (by first | rfl | assumption)) ?_
 refine Jp.y 44 rfl (qab rfl rfl rfl rfl) rfl rfl Kp.true (Y.struct [] [_,_,_] rfl rfl qbs zeroValue50 rfl) ?_
 refine Jp.y 45 rfl (qab rfl rfl rfl rfl) rfl rfl Kp.true (Y.eqlS (xs:=noEv.cells.toArray) (ys:=noEv.cells.toArray) (r:=true) rfl rfl rfl ev_guard ev_fields ev_stood (fun w=>by rw [ev_eq,(evEq_iff _ _).2 rfl])) ?_
 refine Jp.y 46 rfl (qaa rfl) rfl rfl Kp.true (Y.qbe rfl rfl rfl) ?_
 refine Jp.y 47 rfl (qaa rfl) rfl rfl Kp.true (Y.move rfl rfl) ?_
 refine Jp.slot 47 rfl (show _ = Value.bool true from rfl) ?_
 refine Jp.y 48 rfl (qab rfl rfl rfl rfl) rfl rfl Kp.true (Y.move rfl rfl) ?_
 refine Jp.y 49 rfl (qab rfl rfl rfl rfl) rfl rfl Kp.true (Y.eql rfl rfl rfl) ?_
 refine Jp.y 50 rfl (qaa rfl) rfl rfl Kp.true (Y.qbe rfl rfl rfl) ?_
 refine Jp.y 0 rfl (qaa rfl) rfl rfl Kp.true (Y.assign rfl rfl) ?_
 refine Jp.qae hK7 ?_
 refine Cd.ret [] rfl (qbf rfl rfl) trivial ⟨rfl,rfl⟩
end Go.Proofs.Ytnfkalpgidiafaa

namespace Go.Proofs.Ytnfkalpgidiafaa
open Go
def knS : List SinkG:=[⟨2,0,1⟩,⟨3,0,255⟩,⟨1,0,2⟩,⟨2,0,4⟩]
def polK (b : Nat) : PolG:=⟨true,⟨none,0,[]⟩,⟨some ⟨b,0,none⟩,4,knS⟩⟩
def knI1 : InsP:=⟨13,5,6,0,0⟩
def knI2 : InsP:=⟨18,0,6,5,0⟩
def knI3 : InsP:=⟨13,5,7,0,0⟩
def knW : List Int:=[((encP knI1).1 : Int),((encP knI2).1 : Int),((encP knI3).1 : Int)]
def knD : MemG:=madeD knW []
def knA : StP:=⟨(List.replicate 32 0).set 6 65536,4096,3⟩
def knB : StP:=⟨(List.replicate 32 0).set 6 65536,4100,4⟩
def knC : StP:=⟨(List.replicate 32 0).set 6 65536,4104,4⟩
def knX : qam:=setL (setL lb0 [0,1,0,0] 6) [4,0,0,0] 7
def knY : qam:=setL (setL knX [1,1,1,1] 5) qdy 0
def knZ : ShG:=⟨0,[]⟩
end Go.Proofs.Ytnfkalpgidiafaa

namespace Go.Proofs.Ytnfkalpgidiafaa
open Go
theorem win_len {l : List (Nat × Pg)} (hl : ShOk l) {lo N : Nat} (hlo : lo % 256 = 0) (h : ∀ x ∈ l,lo ≤ x.1 ∧ x.1 < lo + 256 * N) : l.length ≤ N:=by
 have key : ∀ (N : Nat) (l : List Nat),l.Nodup → (∀ x ∈ l,x < N) → l.length ≤ N:=by
  intro N
  induction N with
  | zero=>intro l _ h; cases l with
   | nil=>exact Nat.le_refl _
   | cons x l=>exact absurd (h x (List.mem_cons_self ..)) (by omega)
  | succ N ih =>
   intro l hn h
   have h1:=ih (l.erase N) (hn.erase N) fun x hx=>by
    have:=(hn.mem_erase_iff).1 hx
    have:=h x this.2
    omega
   have h2 : l.length ≤ (l.erase N).length + 1:=by rw [List.length_erase]; split <;> omega
   omega
 have h2 := key N (l.map fun x => (x.1 - lo) / 256) (by
  rw [List.Nodup,List.pairwise_map]
  have hr : l.Pairwise fun x y=>x.1 ≠ y.1:=hl.rising.imp fun h=>by omega
  refine (List.Pairwise.and_mem.1 hr).imp fun {x y} hxy=>?_
  obtain ⟨hx,hy,hne⟩:=hxy
  have a1:=(hl.page x hx).al
  have a2:=(hl.page y hy).al
  have b1:=h x hx
  have b2:=h y hy
  omega) fun x hx => by
   obtain ⟨y,hy,rfl⟩:=List.mem_map.1 hx
   have:=h y hy
   omega
 simpa using h2
theorem sub_len : ∀ {m l : List Nat},m.Nodup → (∀ x ∈ m,x ∈ l) → m.length ≤ l.length
 | [],l,_,_=>Nat.zero_le _
 | x :: m,l,hn,h=>by
  rw [List.nodup_cons] at hn
  have hx:=h x (List.mem_cons_self ..)
  have h1:=sub_len (m:=m) (l:=l.erase x) hn.2 fun y hy=>(List.mem_erase_of_ne (fun e=>hn.1 (by rw [← e]; exact hy))).2 (h y (List.mem_cons_of_mem _ hy))
  rw [List.length_erase_of_mem hx] at h1
  have:=List.length_pos_of_mem hx
  rw [List.length_cons]; omega
theorem put_keys {l : List (Nat × Pg)} {k : Nat} {b : qam} : ∀ x ∈ qdl l k b,x.1 = k ∨ x.1 ∈ l.map (·.1):=by
 intro x hx
 unfold qdl at hx
 split at hx
 ·split at hx
  ·exact .inr (List.mem_map.2 ⟨x,(List.mem_filter.1 hx).1,rfl⟩)
  ·right
   rw [← qfo l k ⟨b,qey b⟩]
   exact List.mem_map.2 ⟨x,hx,rfl⟩
 ·split at hx
  ·exact .inr (List.mem_map.2 ⟨x,hx,rfl⟩)
  ·have:=(qbq _ _ _).mem_iff.1 hx
   rcases List.mem_cons.1 this with rfl | h
   ·exact .inl rfl
   ·exact .inr (List.mem_map.2 ⟨x,h,rfl⟩)
theorem lay_keys : ∀ {bs : qam} {l : List (Nat × Pg)} {a : Nat},∀ x ∈ layP l a bs,(∃ j,j < bs.length ∧ x.1 = qar (a + j)) ∨ x.1 ∈ l.map (·.1)
 | [],l,a,x,hx=>.inr (List.mem_map.2 ⟨x,hx,rfl⟩)
 | v :: bs,l,a,x,hx=>by
  rcases lay_keys (bs:=bs) (l:=oneP l a v) (a:=a + 1) x hx with ⟨j,h1,h2⟩ | h
  ·exact .inl ⟨j + 1,by simpa using h1,by rw [h2]; congr 1; omega⟩
  ·obtain ⟨y,hy,e⟩:=List.mem_map.1 h
   rcases put_keys y hy with h | h
   ·exact .inl ⟨0,by simp,by rw [← e,h]; rfl⟩
   ·exact .inr (by rw [← e]; exact h)
theorem lay_more {l : List (Nat × Pg)} (h : ShOk l) {a : Nat} {bs : qam} (ha : a + bs.length ≤ 4294967296) {N : Nat} (hN : (a % 256 + bs.length + 255) / 256 ≤ N) : (layP l a bs).length ≤ l.length + N:=by
 have hok:=lay_ok h ha
 have h1 : ((layP l a bs).filter fun x=>decide (x.1 ∈ l.map (·.1))).length ≤ l.length:=by
  have hn : (((layP l a bs).filter fun x=>decide (x.1 ∈ l.map (·.1))).map (·.1)).Nodup:=hok.rising.nodup.sublist (List.filter_sublist.map _)
  have hs : ∀ x ∈ ((layP l a bs).filter fun x=>decide (x.1 ∈ l.map (·.1))).map (·.1),x ∈ l.map (·.1):=fun x hx=>by
   obtain ⟨y,hy,rfl⟩:=List.mem_map.1 hx
   simpa using (List.mem_filter.1 hy).2
  have:=sub_len hn hs
  simpa using this
 have h2 : ((layP l a bs).filter fun x=>!decide (x.1 ∈ l.map (·.1))).length ≤ N:=by
  refine win_len (lo:=qar a) ⟨hok.rising.sublist List.filter_sublist,fun x hx=>hok.page x (List.mem_filter.1 hx).1⟩ (base_mod a) fun x hx=>?_
  obtain ⟨hx1,hx2⟩:=List.mem_filter.1 hx
  rcases lay_keys x hx1 with ⟨j,j1,j2⟩ | h
  ·rw [j2]; unfold qar; omega
  ·simp [h] at hx2
 have h3 : ∀ (p : Nat × Pg → Bool) (m : List (Nat × Pg)),m.length = (m.filter p).length + (m.filter fun x=>!p x).length:=by
  intro p m
  induction m with
  | nil=>rfl
  | cons x m ih =>
   rw [List.filter_cons,List.filter_cons]
   cases p x <;> simp <;> omega
 have:=h3 (fun x=>decide (x.1 ∈ l.map (·.1))) (layP l a bs)
 omega
theorem setM_yes {S : ShG} (h : ShOk S.pages) {a : Nat} {bs : qam} (ha : a + bs.length ≤ 4294967296) {N : Nat} (hN : (a % 256 + bs.length + 255) / 256 ≤ N) (hb : S.pages.length + N ≤ S.budget) : setM S a bs = (0,⟨S.budget,layP S.pages a bs⟩):=by
 have:=lay_more h ha hN
 unfold setM
 rw [List.take_of_length_le (by omega),if_neg (by omega)]
theorem shOk_nil : ShOk []:=⟨List.Pairwise.nil,fun x h=>(List.not_mem_nil h).elim⟩
end Go.Proofs.Ytnfkalpgidiafaa

namespace Go.Proofs.Ytnfkalpgidiafaa
open Go
theorem flowP_yes {M M' : MemG} {S S' : ShG} {s s' : StP} {X : qam} {pp : Bool} {sk : List SinkG} {i : InsP} {ev0 ev : EvP} (hF : qbo M s.pc = (i,ev0)) (h0 : ev0.kind = 0) (hL : layF M S X pp i s = (0,S')) (hD : qep M s = (s',ev,M')) (hk : ev.kind = 0) :
  qhe M S s X pp sk = ⟨s',setL (newL S' X pp i s) qdy 0,qfv i.op i.r1 s X sk,ev,0,M',S'⟩:=by
 unfold qhe
 rw [hF,hL,hD]
 dsimp only
 rw [if_pos h0,if_pos rfl,if_pos hk]
theorem watch_nil (op r1 : Nat) (s : StP) (X : qam) : qfv op r1 s X [] = []:=by
 unfold qfv
 split <;> rfl
theorem joinT_zero {t : qam} (h : t.length = 4) : qdg t qdy = t:=by
 obtain ⟨a,b,c,d,rfl⟩:=four h
 show [a ||| 0,b ||| 0,c ||| 0,d ||| 0] = _
 simp
theorem tagM_lay {L : List (Nat × Pg)} (hL : ShOk L) {n a : Nat} {t : qam} (ht : t.length = 4) (ha : a + 4 ≤ 4294967296) : tagM ⟨n,layP L a t⟩ a 4 = t:=by
 have h : ∀ i,i < 4 → (if i < sizedP 4 ∧ a + i < 4294967296 then labL (layP L a t) (a + i) else 0) = t.getD i 0:=fun i hi=>by
  rw [if_pos ⟨(show i < 4 from hi),by omega⟩,labL_lay hL (by omega),if_pos (by omega),show a + i - a = i by omega]
 unfold tagM
 rw [List.map_congr_left (g:=fun i=>t.getD i 0) (fun i hi=>h i (List.mem_range.1 hi))]
 obtain ⟨a,b,c,d,rfl⟩:=four ht
 rfl
def crI1 : InsP:=⟨18,0,1,2,8⟩
def crI2 : InsP:=⟨13,3,4,0,8⟩
theorem crI1_ok : InsOk crI1:=⟨by decide,by decide,by decide,by decide,by decide⟩
theorem crI2_ok : InsOk crI2:=⟨by decide,by decide,by decide,by decide,by decide⟩
def crW : List Int:=[((encP crI1).1 : Int),((encP crI2).1 : Int)]
theorem crW_ok : ∀ x ∈ crW,∃ m : Nat,x = m ∧ m < 4294967296:=by
 intro x hx
 simp only [crW,List.mem_cons,List.not_mem_nil,or_false] at hx
 rcases hx with h | h
 ·exact ⟨_,h,encP_lt _⟩
 ·exact ⟨_,h,encP_lt _⟩
def crD : MemG:=madeD crW []
def crR : List Nat:=((List.replicate 32 0).set 1 65536).set 4 65536
def crA : StP:=⟨crR,4096,0⟩
def crB : StP:=⟨crR,4100,1⟩
def crC : StP:=⟨crR,4104,2⟩
def crM : MemG:=(qep crD crA).2.2
theorem crA_ok : StOk crA:=⟨rfl,by decide,by decide,by decide⟩
theorem crB_ok : StOk crB:=⟨rfl,by decide,by decide,by decide⟩
theorem crF1 : qbo crD 4096 = (crI1,noEv):=by kernel_rfl
theorem crF2 : qbo crM 4100 = (crI2,noEv):=by kernel_rfl
theorem crS1 : qep crD crA = (crB,noEv,crM):=by kernel_rfl
theorem crS2 : qep crM crB = (crC,noEv,crM):=by kernel_rfl
theorem crL1 : (qdq crD 65544 4 2).2 = 0:=by kernel_rfl
theorem crP1 : addrP crI1 crA = 65544:=by kernel_rfl
theorem crP2 : addrP crI2 crB = 65544:=by kernel_rfl
def crX (t u : qam) : qam:=setL (setL lb0 u 1) t 2
def crT (t u : qam) (pp : Bool) : qam:=if pp = true then qdg t (List.replicate 4 (allT u)) else t
theorem crT_len {t u : qam} {pp : Bool} (ht : t.length = 4) : (crT t u pp).length = 4:=by
 unfold crT
 split
 ·exact qdf ht rfl
 ·exact ht
def crG (t u : qam) (pp : Bool) : ShG:=⟨3,layP [] 65544 (crT t u pp)⟩
def crY (t u : qam) (pp : Bool) : qam:=setL (setL (crX t u) (crT t u pp) 3) qdy 0
theorem cr_lay {t u : qam} (pp : Bool) (ht : t.length = 4) (hu : u.length = 4) : layF crD ⟨3,[]⟩ (crX t u) pp crI1 crA = (0,crG t u pp):=by
 have hT:=crT_len (u:=u) (pp:=pp) ht
 have e : qdg (qck (crX t u) 2) (ptrT (crX t u) pp 1) = crT t u pp:=by
  obtain ⟨a,b,c,d,rfl⟩:=four ht
  obtain ⟨a',b',c',d',rfl⟩:=four hu
  cases pp
  ·exact joinT_zero rfl
  ·rfl
 unfold layF
 rw [if_pos (by decide)]
 unfold layT
 rw [crP1,show (qcd crI1.op).1 = 4 from rfl,show ((4 : Nat) : Int) = 4 from rfl,if_pos crL1,show crI1.r2 = 2 from rfl,show crI1.r1 = 1 from rfl,e]
 unfold putM
 rw [show sizedP 4 = 4 from rfl,List.take_of_length_le (by omega)]
 exact setM_yes (S:=⟨3,[]⟩) (N:=1) shOk_nil (by omega) (by omega) (by decide)
theorem crG1 {t u : qam} (pp : Bool) (ht : t.length = 4) (hu : u.length = 4) : qhe crD ⟨3,[]⟩ crA (crX t u) pp [] = ⟨crB,crX t u,[],noEv,0,crM,crG t u pp⟩:=by
 rw [flowP_yes crF1 rfl (cr_lay pp ht hu) crS1 rfl,watch_nil]
 obtain ⟨a,b,c,d,rfl⟩:=four ht
 obtain ⟨a',b',c',d',rfl⟩:=four hu
 rfl
theorem crG2 {t u : qam} (pp : Bool) (ht : t.length = 4) (hu : u.length = 4) : qhe crM (crG t u pp) crB (crX t u) pp [] = ⟨crC,crY t u pp,[],noEv,0,crM,crG t u pp⟩:=by
 have hT:=crT_len (u:=u) (pp:=pp) ht
 have hV : qgm (crG t u pp) (crX t u) pp crI2 crB = crT t u pp:=by
  unfold qgm
  rw [if_pos (by decide),crP2]
  unfold crG
  rw [show (qcd crI2.op).1 = 4 from rfl,show ((4 : Nat) : Int) = 4 from rfl,tagM_lay shOk_nil hT (by omega)]
  have hp : ptrT (crX t u) pp crI2.r1 = qdy:=by
   obtain ⟨a,b,c,d,rfl⟩:=four ht
   obtain ⟨a',b',c',d',rfl⟩:=four hu
   cases pp
   ·rfl
   ·show List.replicate 4 ((0 : UInt8) ||| 0 ||| 0 ||| 0) = qdy
    decide
  rw [hp,show qdc (crT t u pp) 4 (qcd crI2.op).2 = crT t u pp by (obtain ⟨a,b,c,d,he⟩:=four hT; rw [he]; rfl),joinT_zero hT]
 rw [flowP_yes crF2 rfl (show layF crM (crG t u pp) (crX t u) pp crI2 crB = (0,crG t u pp) from rfl) crS2 rfl,watch_nil]
 unfold newL
 rw [if_pos (by decide),hV]
 rfl
theorem cr_at {t u : qam} (pp : Bool) (ht : t.length = 4) (hu : u.length = 4) (i : Nat) (hi : i < 4) :
  ∃ y z,t[i]? = some y ∧ (crY t u pp)[12 + i]? = some z ∧ z = (if pp = true then y ||| allT u else y) ∧ labL (crG t u pp).pages (65544 + i) = z:=by
 have hT:=crT_len (u:=u) (pp:=pp) ht
 have hl : labL (crG t u pp).pages (65544 + i) = (crT t u pp).getD i 0:=by
  show labL (layP [] 65544 (crT t u pp)) (65544 + i) = _
  rw [labL_lay shOk_nil (by omega),if_pos (by omega),show 65544 + i - 65544 = i by omega]
 rw [hl]
 have hy : (crY t u pp)[12 + i]? = (crT t u pp)[i]?:=by
  unfold crY
  obtain ⟨a,b,c,d,rfl⟩:=four ht
  obtain ⟨a',b',c',d',rfl⟩:=four hu
  obtain ⟨z0,z1,z2,z3,he⟩:=four hT
  rw [he]
  rcases (show i = 0 ∨ i = 1 ∨ i = 2 ∨ i = 3 by omega) with rfl | rfl | rfl | rfl <;> rfl
 rw [hy]
 refine ⟨t[i]'(by omega),(crT t u pp)[i]'(by omega),by simp,by simp,?_,by simp [List.getD_eq_getElem?_getD,hT,hi]⟩
 unfold crT
 obtain ⟨a,b,c,d,rfl⟩:=four ht
 cases pp
 ·rfl
 ·rcases (show i = 0 ∨ i = 1 ∨ i = 2 ∨ i = 3 by omega) with rfl | rfl | rfl | rfl <;> rfl
end Go.Proofs.Ytnfkalpgidiafaa

namespace Go.Proofs.Ytnfkalpgidiafaa
open _root_.Go.Proofs.Try
open Go
theorem flowCarries_spec (t u : qam) (pp : Bool) (ht : t.length = 4) (hu : u.length = 4) : Spec Try.prog 4 #[.agg (qaf t).toArray,.agg (qaf u).toArray,.bool pp] (fun _=>True) [] (fun ρ ρ' v L=>v = .bool true ∧ L = []):=by
 have hG1:=crG1 pp ht hu
 have hG2:=crG2 pp ht hu
 have hAt:=cr_at pp ht hu
 have hXl : (qaf (crX t u)).length = 128:=by rw [qaw]; exact qcl (qcl rfl hu (by decide)) ht (by decide)
 have hXo:=qaz (crX t u)
 have hYl : (qaf (crY t u pp)).length = 128:=by rw [qaw]; exact qcl (qcl (qcl (qcl rfl hu (by decide)) ht (by decide)) (crT_len ht) (by decide)) rfl (by decide)
 have hYo:=qaz (crY t u pp)
 obtain ⟨X,hXe⟩ : ∃ X,crX t u = X:=⟨_,rfl⟩
 obtain ⟨ZY,hYe⟩ : ∃ ZY,crY t u pp = ZY:=⟨_,rfl⟩
 obtain ⟨S,hSe⟩ : ∃ S,crG t u pp = S:=⟨_,rfl⟩
 have hX : X.length = 128:=by rw [← hXe]; exact qcl (qcl rfl hu (by decide)) ht (by decide)
 rw [hXe] at hG1 hG2 hXl hXo
 rw [hYe] at hG2 hAt hYl hYo
 rw [hSe] at hG1 hG2 hAt
 have htl : (qaf t).length = 4:=by rw [qaw,ht]
 have hto:=qaz t
 have hul : (qaf u).length = 4:=by rw [qaw,hu]
 have huo:=qaz u
 refine Spec.of 124 Try.func4 rfl Try.ntmps4 [(0,_),(1,_),(2,_)] rfl rfl ?_
 intro cx ρ hr' h0
 refine Cd.seq fun K1 hK1=>?_
 refine Cd.qac [(0,false),(1,false),(2,false)] rfl rfl ?_
 refine Jp.box 3 3 rfl (qaa rfl) rfl rfl rfl rfl fun b3=>⟨Kp.true,?_⟩
 refine Jp.box 4 4 rfl (qaa rfl) rfl rfl rfl rfl fun b4=>⟨Kp.true,?_⟩
 refine Jp.y 6 rfl (qaa rfl) rfl rfl Kp.true (Y.assign rfl rfl) ?_
 refine Jp.qae hK1 ?_
 refine Cd.seq fun K2 hK2=>?_
 refine Cd.seq fun K3 hK3=>?_
 refine Cd.qac [(0,false),(1,false)] rfl rfl ?_
 refine Jp.call [] [] awake13_spec 23 rfl (qaa rfl) rfl rfl (Runs.fn rfl call6 rfl) (by decide) (by decide) rfl trivial ?_
 rintro v1 ρ1 L1 ⟨rfl,rfl⟩
 refine ⟨rfl,fun hle1=>⟨Kp.true,?_⟩⟩
 refine Jp.y 24 rfl (qaa rfl) rfl rfl Kp.true (Y.not rfl rfl) ?_
 refine Jp.qae hK3 ?_
 refine Cd.qaq rfl (fun ga=>?_) (fun ga=>?_)
 ·exact absurd ga (by simp)
 ·skip
  refine Cd.qbx hK2 ?_
  refine Cd.seq fun K4 hK4=>?_
  refine Cd.qac [(0,false),(1,false),(2,false),(3,false),(4,false),(5,false),(6,false)] rfl rfl ?_
  refine Jp.y 25 rfl (qaa rfl) rfl rfl Kp.true (Y.struct [(0,_),(2,_),(3,_),(4,_)] [_,_,_,_,_] rfl rfl qfq zeroValue34 rfl) ?_
  refine Jp.call [] [] (qgc crI1 crI1_ok (by decide)) 26 rfl (qaa rfl) rfl rfl (Runs.fn rfl call8 rfl) (by decide) (by decide) rfl trivial ?_
  rintro v3 ρ3 L3 ⟨rfl,rfl,rfl⟩
  refine ⟨rfl,fun hle3=>⟨Kp.true,?_⟩⟩
  refine Jp.y 27 rfl (qaa rfl) rfl rfl Kp.true (Y.struct [(0,_),(1,_),(2,_),(4,_)] [_,_,_,_,_] rfl rfl qfq zeroValue34 rfl) ?_
  refine Jp.call [] [] (qgc crI2 crI2_ok (by decide)) 28 rfl (qaa rfl) rfl rfl (Runs.fn rfl call8 rfl) (by decide) (by decide) rfl trivial ?_
  rintro v4 ρ4 L4 ⟨rfl,rfl,rfl⟩
  refine ⟨rfl,fun hle4=>⟨Kp.true,?_⟩⟩
  refine Jp.lit 29 42 [(0,_),(1,_)] [_,_] rfl (qaa rfl) rfl rfl rfl rfl underlying35 sizeOf31 zeroValue31 rfl rfl rfl rfl rfl fun b42=>⟨Kp.true,?_⟩
  refine Jp.freeze (i:=42) rfl (OwnS.up _ _ _ _ _ _) fun ρ6 hle6 hA6=>?_
  refine Jp.call [] [0] (made13_spec (some ⟨b42,0,none⟩) 2 crW none 0 [] crW_ok) 30 rfl (qaa rfl) rfl rfl (Runs.fn rfl call7 rfl) (by decide) (by decide) rfl ⟨hA6.rd,RdS.nil 1 _⟩ ?_
  rintro v7 ρ7 L7 ⟨b,rfl,rfl⟩
  refine ⟨rfl,fun hle7=>⟨Kp.true,?_⟩⟩
  refine Jp.y 7 rfl (qaa rfl) rfl rfl Kp.true (Y.assign rfl rfl) ?_
  refine Jp.qae hK4 ?_
  refine Cd.seq fun K5 hK5=>?_
  refine Cd.qac [(0,false),(1,false),(2,false),(3,false),(4,false),(5,false)] rfl rfl ?_
  refine Jp.call [] [1] (shNew_spec 3) 32 rfl (qaa rfl) rfl rfl (Runs.fn rfl call9 rfl) (by decide) (by decide) rfl trivial ?_
  rintro v8 ρ8 L8 ⟨rfl,bs,rfl,rfl⟩
  refine ⟨rfl,fun hle8=>⟨Kp.true,?_⟩⟩
  refine Jp.y 31 rfl (qaa rfl) rfl rfl Kp.true (Y.move rfl rfl) ?_
  refine Jp.y 33 rfl (qaa rfl) rfl rfl Kp.true (Y.extract rfl rfl rfl) ?_
  refine Jp.y 34 rfl (qaa rfl) rfl rfl Kp.true (Y.extract rfl rfl rfl) ?_
  refine Jp.y 8 rfl (qaa rfl) rfl rfl Kp.true (Y.assign rfl rfl) ?_
  refine Jp.y 9 rfl (qaa rfl) rfl rfl Kp.true (Y.assign rfl rfl) ?_
  refine Jp.qae hK5 ?_
  refine Cd.seq fun K6 hK6=>?_
  refine Cd.qac [(0,false),(1,false),(2,false),(3,false)] rfl rfl ?_
  refine Jp.y 35 rfl (qaa rfl) rfl rfl Kp.true (Y.move rfl rfl) ?_
  refine Jp.y 36 rfl (qaa rfl) rfl rfl Kp.true (Y.struct [(0,_)] [_,_,_] rfl rfl places28 zeroValue28 rfl) ?_
  refine Jp.alloc 10 10 rfl (qaa rfl) rfl rfl rfl zeroValue28 fun b10=>⟨Kp.true,?_⟩
  refine Jp.qah 10 rfl (qaa rfl) rfl rfl sizeOf28 rfl rfl (by first | rfl | assumption) (by first | rfl | assumption) rfl (by first | rfl | assumption) (fun k _ _=>qap k) Kp.true ?_
  refine Jp.qae hK6 ?_
  refine Cd.seq fun K7 hK7=>?_
  refine Cd.qac [(0,false),(1,false),(2,false)] rfl rfl ?_
  refine Jp.y 37 rfl (qaa rfl) rfl rfl Kp.true (Y.array [] [_,_,_,_,_,_,_,_,_,_,_,_,_,_,_,_,_,_,_,_,_,_,_,_,_,_,_,_,_,_,_,_,_,_,_,_,_,_,_,_,_,_,_,_,_,_,_,_,_,_,_,_,_,_,_,_,_,_,_,_,_,_,_,_,_,_,_,_,_,_,_,_,_,_,_,_,_,_,_,_,_,_,_,_,_,_,_,_,_,_,_,_,_,_,_,_,_,_,_,_,_,_,_,_,_,_,_,_,_,_,_,_,_,_,_,_,_,_,_,_,_,_,_,_,_,_,_,_] rfl rfl underlying43 sizeOf41 zeroValue43 rfl) ?_
  refine Jp.alloc 11 11 rfl (qaa rfl) rfl rfl rfl zeroValue43 fun b11=>⟨Kp.true,?_⟩
  refine Jp.qah 11 rfl (qaa rfl) rfl rfl sizeOf43 rfl rfl (by first | rfl | assumption) (by first | rfl | assumption) rfl (by first | rfl | assumption) (fun k _ _=>qap k) Kp.true ?_
  refine Jp.qae hK7 ?_
  refine Cd.seq fun K8 hK8=>?_
  refine Cd.drawn [(3,_),(4,_)] ⟨rfl,rfl,trivial⟩ [(0,true),(1,true),(2,true),(3,false),(4,true),(5,false)] follows (by kernel_rfl) (fun hrl=>?_)
  refine Jp.imp (j:=11) rfl (fun h hh=>(show Pt b11 (.cells (qaf lb0).toArray 43) h from hh)) ?_
  refine Jp.q 38 rfl (qaa rfl) rfl rfl (by exact Y.qag 4 rfl isAgg41 sizeOf41 rfl rfl (by first | rfl | assumption)) ?_
  refine Jp.q 39 rfl (qaa rfl) rfl rfl (by exact Y.qag 3 rfl isAgg41 sizeOf41 rfl rfl (by first | rfl | assumption)) ?_
  refine Jp.q 40 rfl (qaa rfl) rfl rfl (Y.qak rfl rfl rfl underlying43 sizeOf41 (by first | decide | omega) (by first | decide | omega) rfl) ?_
  refine Jp.qbn 11 rfl (qaa rfl) rfl rfl sizeOf41 rfl rfl huo hul rfl rfl (fun k _ _=>qap k) (Kp.st ⟨rfl,rfl,trivial⟩) ?_
  refine Jp.imp (j:=11) rfl (fun h hh=>(show Pt b11 (.cells (qaf (setL lb0 u 1)).toArray 43) h from (by rw [← spl_setL rfl hu (by decide)]; exact hh))) ?_
  refine Jp.q 41 rfl (qaa rfl) rfl rfl (Y.qak rfl rfl rfl underlying43 sizeOf41 (by first | decide | omega) (by first | decide | omega) rfl) ?_
  refine Jp.qbn 11 rfl (qaa rfl) rfl rfl sizeOf41 rfl rfl hto htl rfl (Nat.ble_eq_true_of_le (by rw [qdx,qcl rfl hu (by decide)]; decide)) (fun k _ _=>qap k) (Kp.st ⟨rfl,rfl,trivial⟩) ?_
  refine Jp.imp (j:=11) rfl (fun h hh=>(show Pt b11 (.cells (qaf X).toArray 43) h from (by rw [← hXe]; unfold crX; rw [← spl_setL (qcl rfl hu (by decide)) ht (by decide)]; exact hh))) ?_
  refine Jp.qae hK8 ?_
  refine Cd.seq fun K10 hK10=>?_
  refine Cd.qac [(0,false),(1,false),(2,false)] rfl rfl ?_
  refine Jp.y 42 rfl (qaa rfl) rfl rfl Kp.true (Y.struct [(1,_)] [_,_,_,_,_,_,_,_,_,_,_,_,_,_,_,_,_,_,_,_,_,_,_,_,_,_,_,_,_,_,_,_,_,_] rfl rfl places46 zeroValue46 rfl) ?_
  refine Jp.alloc 12 12 rfl (qaa rfl) rfl rfl rfl zeroValue46 fun b12=>⟨Kp.true,?_⟩
  refine Jp.qah 12 rfl (qaa rfl) rfl rfl sizeOf46 rfl rfl (by first | rfl | assumption) (by first | rfl | assumption) rfl (by first | rfl | assumption) (fun k _ _=>qap k) Kp.true ?_
  refine Jp.qae hK10 ?_
  refine Cd.seq fun K11 hK11=>?_
  refine Cd.qac [(0,false),(1,false),(2,false),(3,false),(4,false),(5,false)] rfl rfl ?_
  refine Jp.y 43 rfl (qaa rfl) rfl rfl Kp.true (by exact Y.qad rfl rfl underlying46 rfl sizeOf44 (by decide) (show _ + 0 = _ from rfl)) ?_
  refine Jp.y 44 rfl (qaa rfl) rfl rfl Kp.true (Y.qak rfl rfl rfl underlying44 sizeOf31 (by first | decide | omega) (by first | decide | omega) rfl) ?_
  refine Jp.store 12 rfl (qaa rfl) rfl rfl sizeOf31 rfl rfl rfl rfl rfl rfl Kp.true ?_
  refine Jp.y 45 rfl (qaa rfl) rfl rfl Kp.true (by exact Y.qad rfl rfl underlying46 rfl sizeOf44 (by decide) (show _ + 0 = _ from rfl)) ?_
  refine Jp.y 46 rfl (qaa rfl) rfl rfl Kp.true (Y.qak rfl rfl rfl underlying44 sizeOf31 (by first | decide | omega) (by first | decide | omega) rfl) ?_
  refine Jp.store 12 rfl (qaa rfl) rfl rfl sizeOf31 rfl rfl rfl rfl rfl rfl Kp.true ?_
  refine Jp.qae hK11 ?_
  refine Cd.seq fun K12 hK12=>?_
  refine Cd.qac [(0,false),(1,false),(2,false),(3,false),(4,false),(5,false),(6,false),(7,false),(8,false),(9,false),(10,false),(11,false),(12,false),(13,false),(14,false),(15,false),(16,false),(17,false)] rfl rfl ?_
  refine Jp.imp (j:=12) rfl (fun h hh=>(show Pt b12 (.cells crA.cells.toArray 46) h from hh)) ?_
  have hS1:=qef b bs crD ⟨3,[]⟩ crA X (pol0 pp) crA_ok hX (show (0 : Nat) ≤ 4096 by decide)
  rw [show qhe crD ⟨3,[]⟩ crA X (pol0 pp).pointer (pol0 pp).sinks.xs = _ from hG1] at hS1
  refine Jp.y 48 rfl (qaa rfl) rfl rfl Kp.true (Y.move rfl rfl) ?_
  refine Jp.y 49 rfl (qaa rfl) rfl rfl Kp.true (Y.move rfl rfl) ?_
  refine Jp.y 50 rfl (qaa rfl) rfl rfl Kp.true (by exact Y.qag 12 rfl isAgg46 sizeOf46 rfl rfl (by first | rfl | assumption)) ?_
  refine Jp.y 51 rfl (qaa rfl) rfl rfl Kp.true (by exact Y.qag 11 rfl isAgg43 sizeOf43 rfl rfl (by first | rfl | assumption)) ?_
  refine Jp.y 52 rfl (qaa rfl) rfl rfl Kp.true (by exact Y.qag 10 rfl isAgg28 sizeOf28 rfl rfl (by first | rfl | assumption)) ?_
  refine Jp.call [0,1] [0,1,20] hS1 53 rfl (qaa rfl) rfl rfl (Runs.fn rfl call10 rfl) (by decide) (by decide) rfl (pol0_rd _) ?_
  rintro v9 ρ9 L9 ⟨A,c,rfl,rfl⟩
  refine ⟨rfl,fun hle9=>⟨Kp.true,?_⟩⟩
  refine Jp.y 47 rfl (qaa rfl) rfl rfl Kp.true (Y.move rfl rfl) ?_
  refine Jp.y 54 rfl (qaa rfl) rfl rfl Kp.true (Y.extract rfl rfl rfl) ?_
  refine Jp.y 55 rfl (qaa rfl) rfl rfl Kp.true (Y.extract rfl rfl rfl) ?_
  refine Jp.y 56 rfl (qaa rfl) rfl rfl Kp.true (Y.extract rfl rfl rfl) ?_
  refine Jp.y 57 rfl (qaa rfl) rfl rfl Kp.true (Y.extract rfl rfl rfl) ?_
  refine Jp.y 58 rfl (qaa rfl) rfl rfl Kp.true (Y.extract rfl rfl rfl) ?_
  refine Jp.alloc 14 14 rfl (qaa rfl) rfl rfl rfl zeroValue50 fun b14=>⟨Kp.true,?_⟩
  refine Jp.qah 12 rfl (qaa rfl) rfl rfl sizeOf46 rfl rfl (by first | rfl | assumption) (by first | rfl | assumption) rfl (by first | rfl | assumption) (fun k _ _=>qap k) Kp.true ?_
  refine Jp.qah 11 rfl (qaa rfl) rfl rfl sizeOf43 rfl rfl (by first | rfl | assumption) (by first | rfl | assumption) rfl (by first | rfl | assumption) (fun k _ _=>qap k) Kp.true ?_
  refine Jp.y 13 rfl (qaa rfl) rfl rfl Kp.true (Y.assign rfl rfl) ?_
  refine Jp.qah 14 rfl (qaa rfl) rfl rfl sizeOf50 rfl rfl (by first | rfl | assumption) (by first | rfl | assumption) rfl (by first | rfl | assumption) (fun k _ _=>qap k) Kp.true ?_
  refine Jp.y 15 rfl (qaa rfl) rfl rfl Kp.true (Y.assign rfl rfl) ?_
  refine Jp.qae hK12 ?_
  refine Cd.seq fun K13 hK13=>?_
  refine Cd.qac [(0,false),(1,false),(2,false),(3,false),(4,false),(5,false),(6,false),(7,false),(8,false),(9,false),(10,false),(11,false),(12,false),(13,false),(14,false),(15,false),(16,false),(17,false),(18,false)] rfl rfl ?_
  have hS2:=qef b bs crM S crB X (pol0 pp) crB_ok hX (show (0 : Nat) ≤ 4096 by decide)
  rw [show qhe crM S crB X (pol0 pp).pointer (pol0 pp).sinks.xs = _ from hG2] at hS2
  refine Jp.y 60 rfl (qaa rfl) rfl rfl Kp.true (Y.move rfl rfl) ?_
  refine Jp.y 61 rfl (qaa rfl) rfl rfl Kp.true (Y.move rfl rfl) ?_
  refine Jp.y 62 rfl (qaa rfl) rfl rfl Kp.true (by exact Y.qag 12 rfl isAgg46 sizeOf46 rfl rfl (by first | rfl | assumption)) ?_
  refine Jp.y 63 rfl (qaa rfl) rfl rfl Kp.true (by exact Y.qag 11 rfl isAgg43 sizeOf43 rfl rfl (by first | rfl | assumption)) ?_
  refine Jp.y 64 rfl (qaa rfl) rfl rfl Kp.true (by exact Y.qag 10 rfl isAgg28 sizeOf28 rfl rfl (by first | rfl | assumption)) ?_
  refine Jp.call [0,1] [0,1,21] hS2 65 rfl (qaa rfl) rfl rfl (Runs.fn rfl call10 rfl) (by decide) (by decide) rfl (pol0_rd _) ?_
  rintro v10 ρ10 L10 ⟨A2,c2,rfl,rfl⟩
  refine ⟨rfl,fun hle10=>⟨Kp.true,?_⟩⟩
  refine Jp.y 59 rfl (qaa rfl) rfl rfl Kp.true (Y.move rfl rfl) ?_
  refine Jp.y 66 rfl (qaa rfl) rfl rfl Kp.true (Y.extract rfl rfl rfl) ?_
  refine Jp.y 67 rfl (qaa rfl) rfl rfl Kp.true (Y.extract rfl rfl rfl) ?_
  refine Jp.y 68 rfl (qaa rfl) rfl rfl Kp.true (Y.extract rfl rfl rfl) ?_
  refine Jp.y 69 rfl (qaa rfl) rfl rfl Kp.true (Y.extract rfl rfl rfl) ?_
  refine Jp.y 70 rfl (qaa rfl) rfl rfl Kp.true (Y.extract rfl rfl rfl) ?_
  refine Jp.alloc 16 16 rfl (qaa rfl) rfl rfl rfl zeroValue46 fun b16=>⟨Kp.true,?_⟩
  refine Jp.alloc 18 18 rfl (qaa rfl) rfl rfl rfl zeroValue50 fun b18=>⟨Kp.true,?_⟩
  refine Jp.qah 16 rfl (qaa rfl) rfl rfl sizeOf46 rfl rfl (by first | rfl | assumption) (by first | rfl | assumption) rfl (by first | rfl | assumption) (fun k _ _=>qap k) Kp.true ?_
  refine Jp.qah 11 rfl (qaa rfl) rfl rfl sizeOf43 rfl rfl (by first | rfl | assumption) (by first | rfl | assumption) rfl (by first | rfl | assumption) (fun k _ _=>qap k) Kp.true ?_
  refine Jp.y 17 rfl (qaa rfl) rfl rfl Kp.true (Y.assign rfl rfl) ?_
  refine Jp.qah 18 rfl (qaa rfl) rfl rfl sizeOf50 rfl rfl (by first | rfl | assumption) (by first | rfl | assumption) rfl (by first | rfl | assumption) (fun k _ _=>qap k) Kp.true ?_
  refine Jp.y 19 rfl (qaa rfl) rfl rfl Kp.true (Y.assign rfl rfl) ?_
  refine Jp.qae hK13 ?_
  refine Cd.seq fun K14 hK14=>?_
  refine Cd.seq fun K15 hK15=>?_
  refine Cd.qac [(0,false),(1,false),(2,false),(3,false),(4,false),(5,false),(6,false),(7,false),(8,false),(9,false),(10,false),(11,false),(12,false),(13,false),(14,false),(15,false)] rfl rfl ?_
  refine Jp.y 71 rfl (qaa rfl) rfl rfl Kp.true (by exact Y.qad rfl rfl underlying50 rfl sizeOf3 (by decide) (show _ + 0 = _ from rfl)) ?_
  refine Jp.y 72 rfl (qaa rfl) rfl rfl Kp.true (Y.qau 14 rfl isAgg3 rfl rfl rfl) ?_
  refine Jp.y 73 rfl (qaa rfl) rfl rfl Kp.true (Y.neq rfl rfl rfl) ?_
  refine Jp.y 74 rfl (qaa rfl) rfl rfl Kp.true (Y.move rfl rfl) ?_
  refine Jp.slot 74 rfl (show _ = Value.bool false from rfl) ?_
  refine Jp.y 75 rfl (qab rfl rfl rfl rfl) rfl rfl Kp.true (Y.move rfl rfl) ?_
  refine Jp.y 76 rfl (qab rfl rfl rfl rfl) rfl rfl Kp.true (Y.neq rfl rfl rfl) ?_
  refine Jp.y 77 rfl (qaa rfl) rfl rfl Kp.true (Y.qba rfl rfl rfl) ?_
  refine Jp.y 78 rfl (qaa rfl) rfl rfl Kp.true (Y.move rfl rfl) ?_
  refine Jp.slot 78 rfl (show _ = Value.bool false from rfl) ?_
  refine Jp.y 79 rfl (qab rfl rfl rfl rfl) rfl rfl Kp.true (by exact Y.qad rfl rfl underlying50 rfl sizeOf3 (by decide) (show _ + 0 = _ from rfl)) ?_
  refine Jp.y 80 rfl (qab rfl rfl rfl rfl) rfl rfl Kp.true (Y.qau 18 rfl isAgg3 rfl rfl rfl) ?_
  refine Jp.y 81 rfl (qab rfl rfl rfl rfl) rfl rfl Kp.true (Y.neq rfl rfl rfl) ?_
  refine Jp.y 82 rfl (qaa rfl) rfl rfl Kp.true (Y.qba rfl rfl rfl) ?_
  refine Jp.y 83 rfl (qaa rfl) rfl rfl Kp.true (Y.move rfl rfl) ?_
  refine Jp.slot 83 rfl (show _ = Value.bool false from rfl) ?_
  refine Jp.y 84 rfl (qab rfl rfl rfl rfl) rfl rfl Kp.true (Y.move rfl rfl) ?_
  refine Jp.y 85 rfl (qab rfl rfl rfl rfl) rfl rfl Kp.true (Y.neq rfl rfl rfl) ?_
  refine Jp.y 86 rfl (qaa rfl) rfl rfl Kp.true (Y.qba rfl rfl rfl) ?_
  refine Jp.slot 86 rfl (show _ = Value.bool false from rfl) ?_
  refine Jp.qae hK15 ?_
  obtain ⟨u0,u1,u2,u3,rfl⟩:=four hu
  refine Cd.qbu rfl ?_
  refine Cd.qbx hK14 ?_
  refine Cd.seq fun K16 hK16=>?_
  refine Cd.qac [(0,false),(1,false),(2,false),(3,false),(4,false),(5,false),(6,false),(7,false),(8,false),(9,false),(10,false),(11,false)] rfl rfl ?_
  refine Jp.y 87 rfl (qaa rfl) rfl rfl Kp.true (Y.qak rfl rfl rfl underlying41 sizeOf5 (by first | decide | omega) (by first | decide | omega) rfl) ?_
  refine Jp.y 88 rfl (qaa rfl) rfl rfl Kp.true (Y.qau 4 rfl isAgg5 rfl rfl rfl) ?_
  refine Jp.y 89 rfl (qaa rfl) rfl rfl Kp.true (Y.qak rfl rfl rfl underlying41 sizeOf5 (by first | decide | omega) (by first | decide | omega) rfl) ?_
  refine Jp.y 90 rfl (qaa rfl) rfl rfl Kp.true (Y.qau 4 rfl isAgg5 rfl rfl rfl) ?_
  refine Jp.y 91 rfl (qaa rfl) rfl rfl Kp.true (Y.bits rfl rfl rfl rfl) ?_
  refine Jp.y 92 rfl (qaa rfl) rfl rfl Kp.true (Y.qak rfl rfl rfl underlying41 sizeOf5 (by first | decide | omega) (by first | decide | omega) rfl) ?_
  refine Jp.y 93 rfl (qaa rfl) rfl rfl Kp.true (Y.qau 4 rfl isAgg5 rfl rfl rfl) ?_
  refine Jp.y 94 rfl (qaa rfl) rfl rfl Kp.true (Y.bits rfl rfl rfl rfl) ?_
  refine Jp.y 95 rfl (qaa rfl) rfl rfl Kp.true (Y.qak rfl rfl rfl underlying41 sizeOf5 (by first | decide | omega) (by first | decide | omega) rfl) ?_
  refine Jp.y 96 rfl (qaa rfl) rfl rfl Kp.true (Y.qau 4 rfl isAgg5 rfl rfl rfl) ?_
  refine Jp.y 97 rfl (qaa rfl) rfl rfl Kp.true (Y.bits rfl rfl rfl rfl) ?_
  refine Jp.slot 97 rfl (show _ = Value.int .u8 ((allT [u0,u1,u2,u3]).toNat : Int) from congrArg (Value.int .u8) (by rw [or8,or8,or8]; rfl)) ?_
  refine Jp.y 20 rfl (qaa rfl) rfl rfl Kp.true (Y.assign rfl rfl) ?_
  refine Jp.qae hK16 ?_
  refine Cd.seq fun K17 hK17=>?_
  refine Cd.seq fun K18 hK18=>?_
  refine Cd.qac [(0,false)] rfl rfl ?_
  refine Jp.y 21 rfl (qaa rfl) rfl rfl Kp.true (Y.assign rfl rfl) ?_
  refine Jp.qae hK18 ?_
  refine Cd.block ?_
  obtain ⟨w,hw⟩ : ∃ w,allT [u0,u1,u2,u3] = w:=⟨_,rfl⟩
  rw [hw] at hAt ⊢
  refine Cd.loop (G:=Nat) (fun i=>i ≤ 4) (fun i=>4 - i) (fun _=>ρ10) (fun i=>[(2,.bool pp),(3,.pointer (some ⟨b3,0,none⟩)),(8,.pointer (some ⟨bs,0,none⟩)),(11,.pointer (some ⟨b11,0,none⟩)),(20,.int .u8 (w.toNat : Int)),(21,.int .i64 i)]) (fun _=>[(3,Pt b3 (.cells (qaf t).toArray 41)),(11,Pt b11 (.cells (qaf ZY).toArray 43)),(1,ShO bs S)]) 0 (Nat.zero_le _) rfl ⟨rfl,rfl,rfl,rfl,rfl,rfl,trivial⟩ ⟨rfl,rfl,rfl,trivial⟩ (fun g KLa hok hLa=>?_)
  obtain ⟨i,hi⟩ : ∃ i,i = g:=⟨_,rfl⟩
  rw [← hi] at hok ⊢
  have hok4 : i ≤ 4:=hok
  refine Cd.seq fun K19 hK19=>?_
  refine Cd.seq fun K20 hK20=>?_
  refine Cd.qac [(0,false),(1,false)] rfl rfl ?_
  refine Jp.y 98 rfl (qaa rfl) rfl rfl Kp.true (Y.move rfl rfl) ?_
  refine Jp.y 99 rfl (qaa rfl) rfl rfl Kp.true (Y.lss rfl rfl rfl) ?_
  refine Jp.qae hK20 ?_
  refine Cd.qaq rfl (fun gb=>?_) (fun gb=>?_)
  ·have hi4 : i < 4:=by simp at gb; omega
   obtain ⟨y,z,hy,hz,he,hl⟩:=hAt i hi4
   refine Cd.qbx hK19 ?_
   refine Cd.seq fun K21 hK21=>?_
   refine Cd.block ?_
   refine Cd.seq fun K22 hK22=>?_
   refine Cd.qac [(0,false),(1,false),(2,false),(3,false)] rfl rfl ?_
   refine Jp.y 102 rfl (qaa rfl) rfl rfl Kp.true (Y.move rfl rfl) ?_
   refine Jp.y 103 rfl (qaa rfl) rfl rfl Kp.true (Y.qak (q:=i) rfl rfl rfl underlying41 sizeOf5 (by omega) (by omega) (by omega)) ?_
   refine Jp.y 104 rfl (qaa rfl) rfl rfl Kp.true (by exact Y.qbi 3 rfl isAgg5 rfl rfl (HasC.pt (qbd hy))) ?_
   refine Jp.y 22 rfl (qaa rfl) rfl rfl Kp.true (Y.assign rfl rfl) ?_
   refine Jp.qae hK22 ?_
   refine Cd.seq fun K23 hK23=>?_
   refine Cd.seq fun K24 hK24=>?_
   refine Cd.qac [(0,false)] rfl rfl ?_
   refine Jp.y 105 rfl (qaa rfl) rfl rfl Kp.true (Y.move rfl rfl) ?_
   refine Jp.qae hK24 ?_
   refine Cd.qaq rfl (fun gq=>?_) (fun gq=>?_)
   ·skip
    refine Cd.qac [(0,false),(1,false),(2,false),(3,false)] rfl rfl ?_
    refine Jp.y 106 rfl (qaa rfl) rfl rfl Kp.true (Y.move rfl rfl) ?_
    refine Jp.y 107 rfl (qaa rfl) rfl rfl Kp.true (Y.move rfl rfl) ?_
    refine Jp.y 108 rfl (qaa rfl) rfl rfl Kp.true (Y.bits rfl rfl rfl rfl) ?_
    refine Jp.y 22 rfl (qaa rfl) rfl rfl Kp.true (Y.assign rfl rfl) ?_
    refine Jp.qae hK23 ?_
    refine Cd.seq fun K25 hK25=>?_
    refine Cd.qac [(0,false),(1,false),(2,false),(3,false),(4,false),(5,false),(6,false),(7,false),(8,false),(9,false),(10,false),(11,false),(12,false),(13,false),(14,false)] rfl rfl ?_
    refine Jp.slot 22 rfl (show _ = Value.int .u8 (z.toNat : Int) from congrArg (Value.int .u8) (by rw [or8,he,if_pos gq])) ?_
    refine Jp.y 109 rfl (qaa rfl) rfl rfl Kp.true (Y.move rfl rfl) ?_
    refine Jp.y 110 rfl (qaa rfl) rfl rfl Kp.true (Y.qak (q:=12) rfl rfl rfl underlying43 sizeOf41 (by omega) (by omega) (by omega)) ?_
    refine Jp.y 111 rfl (qaa rfl) rfl rfl Kp.true (Y.qak (q:=12 + i) rfl rfl rfl underlying41 sizeOf5 (by omega) (by omega) (by omega)) ?_
    refine Jp.y 112 rfl (qaa rfl) rfl rfl Kp.true (by exact Y.qbi 11 rfl isAgg5 rfl rfl (HasC.pt (qbd hz))) ?_
    refine Jp.y 113 rfl (qaa rfl) rfl rfl Kp.true (Y.move rfl rfl) ?_
    refine Jp.y 114 rfl (qaa rfl) rfl rfl Kp.true (Y.neq rfl rfl rfl) ?_
    refine Jp.y 115 rfl (qaa rfl) rfl rfl Kp.true (Y.move rfl rfl) ?_
    refine Jp.slot 115 rfl (show _ = Value.bool false from congrArg Value.bool (by simp)) ?_
    refine Jp.y 116 rfl (qab rfl rfl rfl rfl) rfl rfl Kp.true (Y.move rfl rfl) ?_
    refine Jp.y 117 rfl (qab rfl rfl rfl rfl) rfl rfl Kp.true (Y.move rfl rfl) ?_
    refine Jp.y 118 rfl (qab rfl rfl rfl rfl) rfl rfl Kp.true (Y.qav rfl rfl underlying3 underlying31 (by exact qax (by omega) (by omega))) ?_
    refine Jp.y 119 rfl (qab rfl rfl rfl rfl) rfl rfl Kp.true (Y.qcj rfl rfl rfl (by exact qax (by omega) (by omega))) ?_
    refine Jp.slot 119 rfl (show _ = Value.int .u32 ((65544 + i : Nat) : Int) from congrArg (Value.int .u32) (by omega)) ?_
    refine Jp.call [1] [1] (shAt_spec bs S (65544 + i) (by omega)) 120 rfl (qab rfl rfl rfl rfl) rfl rfl (Runs.fn rfl call12 rfl) (by decide) (by decide) rfl trivial ?_
    rintro v12 ρ12 L12 ⟨rfl,rfl,rfl⟩
    refine ⟨rfl,fun hle12=>⟨Kp.true,?_⟩⟩
    rw [hl]
    refine Jp.y 121 rfl (qab rfl rfl rfl rfl) rfl rfl Kp.true (Y.move rfl rfl) ?_
    refine Jp.y 122 rfl (qab rfl rfl rfl rfl) rfl rfl Kp.true (Y.neq rfl rfl rfl) ?_
    refine Jp.y 123 rfl (qaa rfl) rfl rfl Kp.true (Y.qba rfl rfl rfl) ?_
    refine Jp.slot 123 rfl (show _ = Value.bool false from congrArg Value.bool (by simp)) ?_
    refine Jp.qae hK25 ?_
    refine Cd.qbu rfl ?_
    refine Cd.over rfl hK21 ?_
    refine Cd.qac [(0,false),(1,false),(2,false)] rfl rfl ?_
    refine Jp.y 100 rfl (qaa rfl) rfl rfl Kp.true (Y.move rfl rfl) ?_
    refine Jp.y 101 rfl (qaa rfl) rfl rfl Kp.true (Y.qcj rfl rfl rfl (by exact qaj (by omega) (by omega))) ?_
    refine Jp.y 21 rfl (qaa rfl) rfl rfl Kp.true (Y.assign rfl rfl) ?_
    rw [show (i : Int) + 1 = ((i + 1 : Nat) : Int) by omega]
    refine Jp.again hLa (i + 1) hi4 (by omega) rfl ⟨rfl,rfl,rfl,rfl,rfl,rfl,trivial⟩ ⟨rfl,rfl,rfl,trivial⟩
   ·skip
    refine Cd.slot 22 rfl (show _ = Value.int .u8 (z.toNat : Int) from congrArg (Value.int .u8) (by rw [he,if_neg (by rw [gq]; decide)])) ?_
    refine Cd.qbx hK23 ?_
    refine Cd.seq fun K26 hK26=>?_
    refine Cd.qac [(0,false),(1,false),(2,false),(3,false),(4,false),(5,false),(6,false),(7,false),(8,false),(9,false),(10,false),(11,false),(12,false),(13,false),(14,false)] rfl rfl ?_
    refine Jp.y 109 rfl (qaa rfl) rfl rfl Kp.true (Y.move rfl rfl) ?_
    refine Jp.y 110 rfl (qaa rfl) rfl rfl Kp.true (Y.qak (q:=12) rfl rfl rfl underlying43 sizeOf41 (by omega) (by omega) (by omega)) ?_
    refine Jp.y 111 rfl (qaa rfl) rfl rfl Kp.true (Y.qak (q:=12 + i) rfl rfl rfl underlying41 sizeOf5 (by omega) (by omega) (by omega)) ?_
    refine Jp.y 112 rfl (qaa rfl) rfl rfl Kp.true (by exact Y.qbi 11 rfl isAgg5 rfl rfl (HasC.pt (qbd hz))) ?_
    refine Jp.y 113 rfl (qaa rfl) rfl rfl Kp.true (Y.move rfl rfl) ?_
    refine Jp.y 114 rfl (qaa rfl) rfl rfl Kp.true (Y.neq rfl rfl rfl) ?_
    refine Jp.y 115 rfl (qaa rfl) rfl rfl Kp.true (Y.move rfl rfl) ?_
    refine Jp.slot 115 rfl (show _ = Value.bool false from congrArg Value.bool (by simp)) ?_
    refine Jp.y 116 rfl (qab rfl rfl rfl rfl) rfl rfl Kp.true (Y.move rfl rfl) ?_
    refine Jp.y 117 rfl (qab rfl rfl rfl rfl) rfl rfl Kp.true (Y.move rfl rfl) ?_
    refine Jp.y 118 rfl (qab rfl rfl rfl rfl) rfl rfl Kp.true (Y.qav rfl rfl underlying3 underlying31 (by exact qax (by omega) (by omega))) ?_
    refine Jp.y 119 rfl (qab rfl rfl rfl rfl) rfl rfl Kp.true (Y.qcj rfl rfl rfl (by exact qax (by omega) (by omega))) ?_
    refine Jp.slot 119 rfl (show _ = Value.int .u32 ((65544 + i : Nat) : Int) from congrArg (Value.int .u32) (by omega)) ?_
    refine Jp.call [1] [1] (shAt_spec bs S (65544 + i) (by omega)) 120 rfl (qab rfl rfl rfl rfl) rfl rfl (Runs.fn rfl call12 rfl) (by decide) (by decide) rfl trivial ?_
    rintro v12 ρ12 L12 ⟨rfl,rfl,rfl⟩
    refine ⟨rfl,fun hle12=>⟨Kp.true,?_⟩⟩
    rw [hl]
    refine Jp.y 121 rfl (qab rfl rfl rfl rfl) rfl rfl Kp.true (Y.move rfl rfl) ?_
    refine Jp.y 122 rfl (qab rfl rfl rfl rfl) rfl rfl Kp.true (Y.neq rfl rfl rfl) ?_
    refine Jp.y 123 rfl (qaa rfl) rfl rfl Kp.true (Y.qba rfl rfl rfl) ?_
    refine Jp.slot 123 rfl (show _ = Value.bool false from congrArg Value.bool (by simp)) ?_
    refine Jp.qae hK26 ?_
    refine Cd.qbu rfl ?_
    refine Cd.over rfl hK21 ?_
    refine Cd.qac [(0,false),(1,false),(2,false)] rfl rfl ?_
    refine Jp.y 100 rfl (qaa rfl) rfl rfl Kp.true (Y.move rfl rfl) ?_
    refine Jp.y 101 rfl (qaa rfl) rfl rfl Kp.true (Y.qcj rfl rfl rfl (by exact qaj (by omega) (by omega))) ?_
    refine Jp.y 21 rfl (qaa rfl) rfl rfl Kp.true (Y.assign rfl rfl) ?_
    rw [show (i : Int) + 1 = ((i + 1 : Nat) : Int) by omega]
    refine Jp.again hLa (i + 1) hi4 (by omega) rfl ⟨rfl,rfl,rfl,rfl,rfl,rfl,trivial⟩ ⟨rfl,rfl,rfl,trivial⟩
  ·skip
   refine Cd.exit rfl hK17 ?_
   refine Cd.seq fun K27 hK27=>?_
   refine Cd.qac [(0,false)] rfl rfl ?_
   refine Jp.y 6 rfl (qaa rfl) rfl rfl Kp.true (Y.assign rfl rfl) ?_
   refine Jp.qae hK27 ?_
   refine Cd.ret [] rfl (qbf rfl rfl) trivial ⟨rfl,rfl⟩
end Go.Proofs.Ytnfkalpgidiafaa

namespace Go.Proofs.Ytnfkalpgidiafaa
open Go Go.ChangeShapes Go.WideShapes Go.ChangeAt Go.RowKit
theorem Rdd.array {P : Program} {w : World} {t e : TypeId} {cs : List Value} {n : Nat} (hu : P.underlying t = some (.array n e)) (h : Rdd P w t cs) :
  cs.length = P.cellsOf t ∧ ∀ i,i < n → Rdd P w e ((cs.drop (i * P.cellsOf e)).take (P.cellsOf e)):=by
 obtain ⟨H,enc,base,spare,held,fuel,d,ps,h,hs⟩:=h
 obtain ⟨xs,m,rfl,h2,h3,h4,h5⟩:=DataW.trod_array hu h
 injection h2 with h2 _
 subst h2
 refine ⟨h3,fun i hi=>?_⟩
 have e1 : xs[i]? = some (xs[i]'(by omega)):=by simp [show i < xs.length by omega]
 refine ⟨H,enc,base,spare,held,m,(xs[i]'(by omega)).1,(xs[i]'(by omega)).2,(h5 i hi).trans e1,fun k hk=>hs k ?_⟩
 rw [DataW.weights,hu]
 exact qfu hk (List.mem_map.2 ⟨_,List.getElem_mem _,rfl⟩)
theorem Rdd.arrI {P : Program} {w : World} {t e : TypeId} {cs : List Value} {n : Nat} {k : IntKind} (hu : P.underlying t = some (.array n e)) (he : P.underlying e = some (.int k)) (hm : P.cellsOf e = 1) (ht : P.cellsOf t = n) (h : Rdd P w t cs) :
  ∃ xs : List Int,cs = xs.map (fun x=>Value.int k x) ∧ xs.length = n ∧ ∀ x ∈ xs,(Lit.int k x).wf = true:=by
 obtain ⟨h1,h2⟩:=Rdd.array hu h
 rw [ht] at h1
 have key : ∀ (cs : List Value),(∀ v ∈ cs,∃ x,v = Value.int k x ∧ (Lit.int k x).wf = true) → ∃ xs : List Int,cs = xs.map (fun x=>Value.int k x) ∧ ∀ x ∈ xs,(Lit.int k x).wf = true:=by
  intro cs
  induction cs with
  | nil=>intro _; exact ⟨[],rfl,fun x h=>by cases h⟩
  | cons v cs ih =>
   intro h
   obtain ⟨x,rfl,hx⟩:=h v (List.mem_cons_self ..)
   obtain ⟨xs,rfl,hxs⟩:=ih fun v hv=>h v (List.mem_cons_of_mem _ hv)
   refine ⟨x :: xs,rfl,fun y hy=>?_⟩
   rcases List.mem_cons.1 hy with rfl | hy
   ·exact hx
   ·exact hxs y hy
 obtain ⟨xs,e1,e2⟩:=key cs fun v hv=>by
  obtain ⟨i,hi,rfl⟩:=List.mem_iff_getElem.1 hv
  have:=h2 i (by omega)
  rw [hm,Nat.mul_one] at this
  have h3 : (cs.drop i).take 1 = [cs[i]]:=by
   rw [List.drop_eq_getElem_cons hi,List.take_succ_cons,List.take_zero]
  rw [h3] at this
  obtain ⟨x,hx,hw⟩:=Rdd.int he this
  injection hx with hx
  exact ⟨x,hx,hw⟩
 exact ⟨xs,e1,by rw [← h1,e1,List.length_map],e2⟩
theorem Rdd.arrN {P : Program} {w : World} {t e : TypeId} {cs : List Value} {n : Nat} {k : IntKind} {N : Nat} (hk : ∀ x : Int,(Lit.int k x).wf = true → 0 ≤ x ∧ x < N) (hu : P.underlying t = some (.array n e)) (he : P.underlying e = some (.int k)) (hm : P.cellsOf e = 1) (ht : P.cellsOf t = n) (h : Rdd P w t cs) :
  ∃ xs : List Nat,cs = xs.map (fun x : Nat=>Value.int k (x : Int)) ∧ xs.length = n ∧ ∀ x ∈ xs,x < N:=by
 obtain ⟨xs,rfl,h1,h2⟩:=Rdd.arrI hu he hm ht h
 refine ⟨xs.map Int.toNat,?_,by rw [List.length_map]; exact h1,fun x hx=>?_⟩
 ·rw [List.map_map]
  refine List.map_congr_left fun x hx=>?_
  have:=hk x (h2 x hx)
  simp only [Function.comp]
  rw [show ((x.toNat : Nat) : Int) = x by omega]
 ·obtain ⟨y,hy,rfl⟩:=List.mem_map.1 hx
  have:=hk y (h2 y hy)
  omega
theorem wfn_u8 (x : Int) (h : (Lit.int .u8 x).wf = true) : 0 ≤ x ∧ x < (256 : Nat):=by
 rw [Lit.wf,Bool.and_eq_true] at h
 have h1 : 0 ≤ x:=of_decide_eq_true h.1
 have h2 : x ≤ 255:=of_decide_eq_true h.2
 omega
theorem Rdd.arrB {P : Program} {w : World} {t e : TypeId} {cs : List Value} {n : Nat} (hu : P.underlying t = some (.array n e)) (he : P.underlying e = some (.int .u8)) (hm : P.cellsOf e = 1) (ht : P.cellsOf t = n) (h : Rdd P w t cs) :
  ∃ xs : List UInt8,cs = qaf xs ∧ xs.length = n:=by
 obtain ⟨xs,rfl,h1,h2⟩:=Rdd.arrN wfn_u8 hu he hm ht h
 refine ⟨xs.map UInt8.ofNat,?_,by rw [List.length_map]; exact h1⟩
 rw [qaf,List.map_map]
 refine List.map_congr_left fun x hx=>?_
 have:=h2 x hx
 simp only [Function.comp]
 rw [UInt8.toNat_ofNat',Nat.mod_eq_of_lt this]
theorem val_array {P : Program} {w W : World} {r : Reach} {b : Nat} {t e : TypeId} {n : Nat} {v : Value} {cs : List Value} (hu : P.underlying t = some (.array n e)) (h : Value.okWide P W r b t v) (hc : v.cells.toList = cs) : v = .agg cs.toArray:=by
 simp only [Value.okWide,hu] at h
 obtain ⟨cs',rfl,_⟩:=h
 subst hc
 simp [Value.cells]
end Go.Proofs.Ytnfkalpgidiafaa

namespace Go.Proofs.Ytnfkalpgidiafaa
open _root_.Go.Proofs.Try
open Go Go.ChangeShapes Go.WideShapes Go.ChangeAt Go.RowKit
theorem qfy : Try.prog.cellsOf 41 = 4:=by kernel_rfl
theorem qhg : Try.prog.cellsOf 5 = 1:=by kernel_rfl
theorem w4 (W : World) {b : Nat} (v0 v1 v2 : Value) (o0 : Value.okWide Try.prog W .any b 41 v0) (o1 : Value.okWide Try.prog W .any b 41 v1) (o2 : Value.okWide Try.prog W .any b 4 v2) (q0 : Rdd Try.prog W 41 v0.cells.toList) (q1 : Rdd Try.prog W 41 v1.cells.toList) (q2 : Rdd Try.prog W 4 v2.cells.toList) :
  Calls Try.prog 4 #[v0,v1,v2] W fun e w'=>e = .returned (.bool true) ∧ Below W.heap.size W w':=by
 obtain ⟨s0,e0,r0⟩:=Rdd.arrB underlying41 underlying5 qhg qfy q0
 obtain rfl:=val_array (w:=W) underlying41 o0 e0
 obtain ⟨s1,e1,r1⟩:=Rdd.arrB underlying41 underlying5 qhg qfy q1
 obtain rfl:=val_array (w:=W) underlying41 o1 e1
 obtain ⟨x2,e2⟩:=Rdd.bool underlying4 q2
 obtain rfl:=val_bool (w:=W) underlying4 o2 e2
 exact (flowCarries_spec s0 s1 x2 r0 r1).walk W trivial
end Go.Proofs.Ytnfkalpgidiafaa
