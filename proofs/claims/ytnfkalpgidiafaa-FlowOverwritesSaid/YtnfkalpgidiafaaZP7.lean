import Derived.Test.YtnfkalpgidiafaaZP6
import Derived.Test.YtnfkalpgidiafaaZP5
import Derived.Test.YtnfkalpgidiafaaZP1
set_option linter.unusedVariables false
set_option linter.unusedSimpArgs false
set_option maxRecDepth 100000
namespace Go.Proofs.Ytnfkalpgidiafaa
open _root_.Go.Proofs.Try
open Go
def lb0 : qam:=List.replicate 128 0
def pol0 (pp : Bool) : PolG:=⟨pp,⟨none,0,[]⟩,⟨none,0,[]⟩⟩
theorem pol0_rd (h : Hp) : RdSinkGs (⟨none,0,[]⟩ : Sl SinkG) h:=⟨RdS.nil 3 h,fun x hx=>by cases hx⟩
def awX : qam:=setL lb0 [1,0,0,0] 2
def awY : qam:=setL (setL awX [1,1,1,1] 1) zeroT 0
theorem aw13_w : encP ⟨28,1,2,3,0⟩ = (3211443,0):=by kernel_rfl
theorem aw13 : qhe (madeD [3211443] []) ⟨2,[]⟩ (st0 4096) awX false [] = ⟨⟨List.replicate 32 0,4100,1⟩,awY,[],noEv,0,madeD [3211443] [],⟨2,[]⟩⟩:=by kernel_rfl
theorem awake13_spec : Spec Try.prog 6 #[] (fun _=>True) [] (fun ρ ρ' v L=>v = .bool true ∧ L = []):=by
 refine Spec.of 51 Try.func6 rfl Try.ntmps6 [] rfl rfl ?_
 intro cx ρ hr' h0
 refine Cd.seq fun K1 hK1=>?_
 refine Cd.qac [(0,false)] rfl rfl ?_
 refine Jp.y 0 rfl (qaa rfl) rfl rfl Kp.true (Y.assign rfl rfl) ?_
 refine Jp.qae hK1 ?_
 refine Cd.seq fun K2 hK2=>?_
 refine Cd.qac [(0,false),(1,false),(2,false),(3,false),(4,false)] rfl rfl ?_
 refine Jp.y 10 rfl (qaa rfl) rfl rfl Kp.true (Y.struct [(0,_),(1,_),(2,_),(3,_)] [_,_,_,_,_] rfl rfl qfo zeroValue34 rfl) ?_
 refine Jp.call [] [] (qgb ⟨28,1,2,3,0⟩ ⟨by decide,by decide,by decide,by decide,by decide⟩ (by decide)) 11 rfl (qaa rfl) rfl rfl (Runs.fn rfl call8 rfl) (by decide) (by decide) rfl trivial ?_
 rintro v1 ρ1 L1 ⟨rfl,rfl,rfl⟩
 refine ⟨rfl,fun hle1=>⟨Kp.true,?_⟩⟩
 rw [aw13_w]
 refine Jp.lit 12 9 [(0,_)] [_] rfl (qaa rfl) rfl rfl rfl rfl underlying35 sizeOf31 zeroValue31 rfl rfl rfl rfl rfl fun b9=>⟨Kp.true,?_⟩
 refine Jp.freeze (i:=9) rfl (OwnS.up _ _ _ _ _ _) fun ρ7 hle7 hA7=>?_
 refine Jp.call [] [0] (made13_spec (some ⟨b9,0,none⟩) 1 [3211443] none 0 [] (by intro x hx; simp at hx; exact ⟨3211443,hx,by omega⟩)) 13 rfl (qaa rfl) rfl rfl (Runs.fn rfl call7 rfl) (by decide) (by decide) rfl ⟨hA7.rd,RdS.nil 1 _⟩ ?_
 rintro v2 ρ2 L2 ⟨b,rfl,rfl⟩
 refine ⟨rfl,fun hle2=>⟨Kp.true,?_⟩⟩
 refine Jp.y 1 rfl (qaa rfl) rfl rfl Kp.true (Y.assign rfl rfl) ?_
 refine Jp.qae hK2 ?_
 refine Cd.seq fun K3 hK3=>?_
 refine Cd.qac [(0,false),(1,false),(2,false),(3,false),(4,false),(5,false)] rfl rfl ?_
 refine Jp.call [] [1] (shNew_spec 2) 15 rfl (qaa rfl) rfl rfl (Runs.fn rfl call9 rfl) (by decide) (by decide) rfl trivial ?_
 rintro v3 ρ3 L3 ⟨rfl,bs,rfl,rfl⟩
 refine ⟨rfl,fun hle3=>⟨Kp.true,?_⟩⟩
 refine Jp.y 14 rfl (qaa rfl) rfl rfl Kp.true (Y.move rfl rfl) ?_
 refine Jp.y 16 rfl (qaa rfl) rfl rfl Kp.true (Y.extract rfl rfl rfl) ?_
 refine Jp.y 17 rfl (qaa rfl) rfl rfl Kp.true (Y.extract rfl rfl rfl) ?_
 refine Jp.y 2 rfl (qaa rfl) rfl rfl Kp.true (Y.assign rfl rfl) ?_
 refine Jp.y 3 rfl (qaa rfl) rfl rfl Kp.true (Y.assign rfl rfl) ?_
 refine Jp.qae hK3 ?_
 refine Cd.seq fun K4 hK4=>?_
 refine Cd.qac [(0,false),(1,false),(2,false)] rfl rfl ?_
 refine Jp.y 18 rfl (qaa rfl) rfl rfl Kp.true (Y.array [] [_,_,_,_,_,_,_,_,_,_,_,_,_,_,_,_,_,_,_,_,_,_,_,_,_,_,_,_,_,_,_,_,_,_,_,_,_,_,_,_,_,_,_,_,_,_,_,_,_,_,_,_,_,_,_,_,_,_,_,_,_,_,_,_,_,_,_,_,_,_,_,_,_,_,_,_,_,_,_,_,_,_,_,_,_,_,_,_,_,_,_,_,_,_,_,_,_,_,_,_,_,_,_,_,_,_,_,_,_,_,_,_,_,_,_,_,_,_,_,_,_,_,_,_,_,_,_,_] rfl rfl underlying43 sizeOf41 zeroValue43 rfl) ?_
 refine Jp.alloc 4 4 rfl (qaa rfl) rfl rfl rfl zeroValue43 fun b4=>⟨Kp.true,?_⟩
 refine Jp.qbo 4 rfl (qaa rfl) rfl rfl sizeOf43 rfl rfl rfl rfl rfl rfl (fun k _ _=>qap k) Kp.true ?_
 refine Jp.qae hK4 ?_
 refine Cd.seq fun K5 hK5=>?_
 refine Cd.qac [(0,false),(1,false),(2,false)] rfl rfl ?_
 refine Jp.y 19 rfl (qaa rfl) rfl rfl Kp.true (Y.array [(0,_)] [_,_,_,_] rfl rfl underlying41 sizeOf5 zeroValue41 rfl) ?_
 refine Jp.y 20 rfl (qaa rfl) rfl rfl Kp.true (Y.qal rfl rfl rfl underlying43 sizeOf41 (by first | decide | omega) (by first | decide | omega) rfl) ?_
 refine Jp.qbo (cs:=qaf [1,0,0,0]) 4 rfl (qaa rfl) rfl rfl sizeOf41 rfl rfl rfl rfl rfl rfl (fun k _ _=>qap k) Kp.true ?_
 refine Jp.imp (j:=4) rfl (fun h hh=>(show Pt b4 (.cells (qaf awX).toArray 43) h from hh)) ?_
 have hS:=qee b bs (madeD [3211443] []) ⟨2,[]⟩ (st0 4096) awX (pol0 false) (st0_ok (by decide)) rfl (by decide)
 rw [show qhe (madeD [3211443] []) ⟨2,[]⟩ (st0 4096) awX (pol0 false).pointer (pol0 false).sinks.xs = _ from aw13] at hS
 refine Jp.qae hK5 ?_
 refine Cd.seq fun K6 hK6=>?_
 refine Cd.qac [(0,false),(1,false),(2,false),(3,false),(4,false),(5,false),(6,false),(7,false),(8,false),(9,false),(10,false),(11,false),(12,false),(13,false),(14,false),(15,false),(16,false),(17,false),(18,false),(19,false)] rfl rfl ?_
 refine Jp.y 22 rfl (qaa rfl) rfl rfl Kp.true (Y.move rfl rfl) ?_
 refine Jp.y 23 rfl (qaa rfl) rfl rfl Kp.true (Y.move rfl rfl) ?_
 refine Jp.y 24 rfl (qaa rfl) rfl rfl Kp.true (Y.struct [(1,_)] [_,_,_,_,_,_,_,_,_,_,_,_,_,_,_,_,_,_,_,_,_,_,_,_,_,_,_,_,_,_,_,_,_,_] rfl rfl places46 zeroValue46 rfl) ?_
 refine Jp.y 25 rfl (qaa rfl) rfl rfl Kp.true (by first | exact Y.qag 4 rfl isAgg43 sizeOf43 rfl rfl rfl) ?_
 refine Jp.y 26 rfl (qaa rfl) rfl rfl Kp.true (Y.struct [] [_,_,_] rfl rfl places28 zeroValue28 rfl) ?_
 refine Jp.call [0,1] [0,1,2] hS 27 rfl (qaa rfl) rfl rfl (Runs.fn rfl call10 rfl) (by decide) (by decide) rfl (pol0_rd _) ?_
 rintro v4 ρ4 L4 ⟨A,c,rfl,rfl⟩
 refine ⟨rfl,fun hle4=>⟨Kp.true,?_⟩⟩
 refine Jp.y 21 rfl (qaa rfl) rfl rfl Kp.true (Y.move rfl rfl) ?_
 refine Jp.y 28 rfl (qaa rfl) rfl rfl Kp.true (Y.extract rfl rfl rfl) ?_
 refine Jp.y 29 rfl (qaa rfl) rfl rfl Kp.true (Y.extract rfl rfl rfl) ?_
 refine Jp.y 30 rfl (qaa rfl) rfl rfl Kp.true (Y.extract rfl rfl rfl) ?_
 refine Jp.y 31 rfl (qaa rfl) rfl rfl Kp.true (Y.extract rfl rfl rfl) ?_
 refine Jp.y 32 rfl (qaa rfl) rfl rfl Kp.true (Y.extract rfl rfl rfl) ?_
 refine Jp.alloc 5 5 rfl (qaa rfl) rfl rfl rfl zeroValue46 fun b5=>⟨Kp.true,?_⟩
 refine Jp.alloc 6 6 rfl (qaa rfl) rfl rfl rfl zeroValue43 fun b6=>⟨Kp.true,?_⟩
 refine Jp.alloc 8 8 rfl (qaa rfl) rfl rfl rfl zeroValue50 fun b8=>⟨Kp.true,?_⟩
 refine Jp.qah 5 rfl (qaa rfl) rfl rfl sizeOf46 rfl rfl (by first | rfl | assumption) (by first | rfl | assumption) rfl (by first | rfl | assumption) (fun k _ _=>qap k) Kp.true ?_
 refine Jp.qah 6 rfl (qaa rfl) rfl rfl sizeOf43 rfl rfl (by first | rfl | assumption) (by first | rfl | assumption) rfl (by first | rfl | assumption) (fun k _ _=>qap k) Kp.true ?_
 refine Jp.y 7 rfl (qaa rfl) rfl rfl Kp.true (Y.assign rfl rfl) ?_
 refine Jp.qah 8 rfl (qaa rfl) rfl rfl sizeOf50 rfl rfl (by first | rfl | assumption) (by first | rfl | assumption) rfl (by first | rfl | assumption) (fun k _ _=>qap k) Kp.true ?_
 refine Jp.y 9 rfl (qaa rfl) rfl rfl Kp.true (Y.assign rfl rfl) ?_
 refine Jp.qae hK6 ?_
 refine Cd.seq fun K7 hK7=>?_
 refine Cd.qac [(0,false),(1,false),(2,false),(3,false),(4,false),(5,false),(6,false),(7,false),(8,false),(9,false),(10,false),(11,false),(12,false),(13,false),(14,false),(15,false),(16,false),(17,false),(18,false)] rfl rfl ?_
 refine Jp.y 33 rfl (qaa rfl) rfl rfl Kp.true (Y.qal rfl rfl rfl underlying43 sizeOf41 (by first | decide | omega) (by first | decide | omega) rfl) ?_
 refine Jp.y 34 rfl (qaa rfl) rfl rfl Kp.true (Y.qfr 6 (qaf (qch awY 1)) rfl isAgg41 sizeOf41 rfl rfl rfl (fun p v h=>labOf_get (X:=awY) (r:=1) (by decide) p v h)) ?_
 refine Jp.y 35 rfl (qaa rfl) rfl rfl Kp.true (Y.array [(0,_),(1,_),(2,_),(3,_)] [_,_,_,_] rfl rfl underlying41 sizeOf5 zeroValue41 rfl) ?_
 refine Jp.y 36 rfl (qaa rfl) rfl rfl Kp.true (Y.eqlV (xs:=(qaf (qch awY 1)).toArray) (ys:=(qaf [1,1,1,1]).toArray) (r:=true) rfl rfl rfl tg_guard (fun w=>by rw [tg_eqd 9998 rfl rfl,decide_eq_true (by kernel_rfl)])) ?_
 refine Jp.y 37 rfl (qaa rfl) rfl rfl Kp.true (Y.move rfl rfl) ?_
 refine Jp.slot 37 rfl (show _ = Value.bool true from rfl) ?_
 refine Jp.y 38 rfl (qab rfl rfl rfl rfl) rfl rfl Kp.true (Y.move rfl rfl) ?_
 refine Jp.y 39 rfl (qab rfl rfl rfl rfl) rfl rfl Kp.true (Y.qck rfl underlying47 rfl) ?_
 refine Jp.y 40 rfl (qab rfl rfl rfl rfl) rfl rfl Kp.true (Y.eql rfl rfl rfl) ?_
 refine Jp.y 41 rfl (qaa rfl) rfl rfl Kp.true (Y.qba rfl rfl rfl) ?_
 refine Jp.y 42 rfl (qaa rfl) rfl rfl Kp.true (Y.move rfl rfl) ?_
 refine Jp.slot 42 rfl (show _ = Value.bool true from rfl) ?_
 refine Jp.y 43 rfl (qab rfl rfl rfl rfl) rfl rfl Kp.true (by exact Y.qag 8 rfl isAgg50 sizeOf50 rfl rfl (by first | rfl | assumption)) ?_
 refine Jp.y 44 rfl (qab rfl rfl rfl rfl) rfl rfl Kp.true (Y.struct [] [_,_,_] rfl rfl qbs zeroValue50 rfl) ?_
 refine Jp.y 45 rfl (qab rfl rfl rfl rfl) rfl rfl Kp.true (Y.eqlS (xs:=noEv.cells.toArray) (ys:=noEv.cells.toArray) (r:=true) rfl rfl rfl ev_guard ev_fields ev_stood (fun w=>by rw [ev_eq,(evEq_iff _ _).2 rfl])) ?_
 refine Jp.y 46 rfl (qaa rfl) rfl rfl Kp.true (Y.qba rfl rfl rfl) ?_
 refine Jp.y 47 rfl (qaa rfl) rfl rfl Kp.true (Y.move rfl rfl) ?_
 refine Jp.slot 47 rfl (show _ = Value.bool true from rfl) ?_
 refine Jp.y 48 rfl (qab rfl rfl rfl rfl) rfl rfl Kp.true (Y.move rfl rfl) ?_
 refine Jp.y 49 rfl (qab rfl rfl rfl rfl) rfl rfl Kp.true (Y.eql rfl rfl rfl) ?_
 refine Jp.y 50 rfl (qaa rfl) rfl rfl Kp.true (Y.qba rfl rfl rfl) ?_
 refine Jp.y 0 rfl (qaa rfl) rfl rfl Kp.true (Y.assign rfl rfl) ?_
 refine Jp.qae hK7 ?_
 refine Cd.ret [] rfl (qbe rfl rfl) trivial ⟨rfl,rfl⟩
end Go.Proofs.Ytnfkalpgidiafaa

namespace Go.Proofs.Ytnfkalpgidiafaa
open Go
def knS : List SinkG:=[⟨2,0,1⟩,⟨3,0,255⟩,⟨1,0,2⟩,⟨2,0,4⟩]
def polK (b : Nat) : PolG:=⟨true,⟨none,0,[]⟩,⟨some ⟨b,0,none⟩,4,knS⟩⟩
def knI1 : InsP:=⟨13,5,6,0,0⟩
def knI2 : InsP:=⟨18,0,6,5,0⟩
def knI3 : InsP:=⟨13,5,7,0,0⟩
def knW : List Int:=[((encP knI1).1 : Int),((encP knI2).1 : Int),((encP knI3).1 : Int)]
def knD : MemG:=madeD knW []
def knA : StP:=⟨(List.replicate 32 0).set 6 65536,4096,3⟩
def knB : StP:=⟨(List.replicate 32 0).set 6 65536,4100,4⟩
def knC : StP:=⟨(List.replicate 32 0).set 6 65536,4104,4⟩
def knX : qam:=setL (setL lb0 [0,1,0,0] 6) [4,0,0,0] 7
def knY : qam:=setL (setL knX [1,1,1,1] 5) zeroT 0
def knZ : ShG:=⟨0,[]⟩
end Go.Proofs.Ytnfkalpgidiafaa

namespace Go.Proofs.Ytnfkalpgidiafaa
open Go
theorem win_len {l : List (Nat × Pg)} (hl : ShOk l) {lo N : Nat} (hlo : lo % 256 = 0) (h : ∀ x ∈ l,lo ≤ x.1 ∧ x.1 < lo + 256 * N) : l.length ≤ N:=by
 have key : ∀ (N : Nat) (l : List Nat),l.Nodup → (∀ x ∈ l,x < N) → l.length ≤ N:=by
  intro N
  induction N with
  | zero=>intro l _ h; cases l with
   | nil=>exact Nat.le_refl _
   | cons x l=>exact absurd (h x (List.mem_cons_self ..)) (by omega)
  | succ N ih =>
   intro l hn h
   have h1:=ih (l.erase N) (hn.erase N) fun x hx=>by
    have:=(hn.mem_erase_iff).1 hx
    have:=h x this.2
    omega
   have h2 : l.length ≤ (l.erase N).length + 1:=by rw [List.length_erase]; split <;> omega
   omega
 have h2 := key N (l.map fun x => (x.1 - lo) / 256) (by
  rw [List.Nodup,List.pairwise_map]
  have hr : l.Pairwise fun x y=>x.1 ≠ y.1:=hl.rising.imp fun h=>by omega
  refine (List.Pairwise.and_mem.1 hr).imp fun {x y} hxy=>?_
  obtain ⟨hx,hy,hne⟩:=hxy
  have a1:=(hl.page x hx).al
  have a2:=(hl.page y hy).al
  have b1:=h x hx
  have b2:=h y hy
  omega) fun x hx => by
   obtain ⟨y,hy,rfl⟩:=List.mem_map.1 hx
   have:=h y hy
   omega
 simpa using h2
theorem sub_len : ∀ {m l : List Nat},m.Nodup → (∀ x ∈ m,x ∈ l) → m.length ≤ l.length
 | [],l,_,_=>Nat.zero_le _
 | x :: m,l,hn,h=>by
  rw [List.nodup_cons] at hn
  have hx:=h x (List.mem_cons_self ..)
  have h1:=sub_len (m:=m) (l:=l.erase x) hn.2 fun y hy=>(List.mem_erase_of_ne (fun e=>hn.1 (by rw [← e]; exact hy))).2 (h y (List.mem_cons_of_mem _ hy))
  rw [List.length_erase_of_mem hx] at h1
  have:=List.length_pos_of_mem hx
  rw [List.length_cons]; omega
theorem put_keys {l : List (Nat × Pg)} {k : Nat} {b : qam} : ∀ x ∈ qdh l k b,x.1 = k ∨ x.1 ∈ l.map (·.1):=by
 intro x hx
 unfold qdh at hx
 split at hx
 ·split at hx
  ·exact .inr (List.mem_map.2 ⟨x,(List.mem_filter.1 hx).1,rfl⟩)
  ·right
   rw [← qfm l k ⟨b,qew b⟩]
   exact List.mem_map.2 ⟨x,hx,rfl⟩
 ·split at hx
  ·exact .inr (List.mem_map.2 ⟨x,hx,rfl⟩)
  ·have:=(qbq _ _ _).mem_iff.1 hx
   rcases List.mem_cons.1 this with rfl | h
   ·exact .inl rfl
   ·exact .inr (List.mem_map.2 ⟨x,h,rfl⟩)
theorem lay_keys : ∀ {bs : qam} {l : List (Nat × Pg)} {a : Nat},∀ x ∈ qfx l a bs,(∃ j,j < bs.length ∧ x.1 = qar (a + j)) ∨ x.1 ∈ l.map (·.1)
 | [],l,a,x,hx=>.inr (List.mem_map.2 ⟨x,hx,rfl⟩)
 | v :: bs,l,a,x,hx=>by
  rcases lay_keys (bs:=bs) (l:=oneP l a v) (a:=a + 1) x hx with ⟨j,h1,h2⟩ | h
  ·exact .inl ⟨j + 1,by simpa using h1,by rw [h2]; congr 1; omega⟩
  ·obtain ⟨y,hy,e⟩:=List.mem_map.1 h
   rcases put_keys y hy with h | h
   ·exact .inl ⟨0,by simp,by rw [← e,h]; rfl⟩
   ·exact .inr (by rw [← e]; exact h)
theorem lay_more {l : List (Nat × Pg)} (h : ShOk l) {a : Nat} {bs : qam} (ha : a + bs.length ≤ 4294967296) {N : Nat} (hN : (a % 256 + bs.length + 255) / 256 ≤ N) : (qfx l a bs).length ≤ l.length + N:=by
 have hok:=lay_ok h ha
 have h1 : ((qfx l a bs).filter fun x=>decide (x.1 ∈ l.map (·.1))).length ≤ l.length:=by
  have hn : (((qfx l a bs).filter fun x=>decide (x.1 ∈ l.map (·.1))).map (·.1)).Nodup:=hok.rising.nodup.sublist (List.filter_sublist.map _)
  have hs : ∀ x ∈ ((qfx l a bs).filter fun x=>decide (x.1 ∈ l.map (·.1))).map (·.1),x ∈ l.map (·.1):=fun x hx=>by
   obtain ⟨y,hy,rfl⟩:=List.mem_map.1 hx
   simpa using (List.mem_filter.1 hy).2
  have:=sub_len hn hs
  simpa using this
 have h2 : ((qfx l a bs).filter fun x=>!decide (x.1 ∈ l.map (·.1))).length ≤ N:=by
  refine win_len (lo:=qar a) ⟨hok.rising.sublist List.filter_sublist,fun x hx=>hok.page x (List.mem_filter.1 hx).1⟩ (base_mod a) fun x hx=>?_
  obtain ⟨hx1,hx2⟩:=List.mem_filter.1 hx
  rcases lay_keys x hx1 with ⟨j,j1,j2⟩ | h
  ·rw [j2]; unfold qar; omega
  ·simp [h] at hx2
 have h3 : ∀ (p : Nat × Pg → Bool) (m : List (Nat × Pg)),m.length = (m.filter p).length + (m.filter fun x=>!p x).length:=by
  intro p m
  induction m with
  | nil=>rfl
  | cons x m ih =>
   rw [List.filter_cons,List.filter_cons]
   cases p x <;> simp <;> omega
 have:=h3 (fun x=>decide (x.1 ∈ l.map (·.1))) (qfx l a bs)
 omega
theorem setM_yes {S : ShG} (h : ShOk S.pages) {a : Nat} {bs : qam} (ha : a + bs.length ≤ 4294967296) {N : Nat} (hN : (a % 256 + bs.length + 255) / 256 ≤ N) (hb : S.pages.length + N ≤ S.budget) : setM S a bs = (0,⟨S.budget,qfx S.pages a bs⟩):=by
 have:=lay_more h ha hN
 unfold setM
 rw [List.take_of_length_le (by omega),if_neg (by omega)]
theorem shOk_nil : ShOk []:=⟨List.Pairwise.nil,fun x h=>(List.not_mem_nil h).elim⟩
end Go.Proofs.Ytnfkalpgidiafaa

namespace Go.Proofs.Ytnfkalpgidiafaa
open Go
theorem flowP_yes {M M' : MemG} {S S' : ShG} {s s' : StP} {X : qam} {pp : Bool} {sk : List SinkG} {i : InsP} {ev0 ev : EvP} (hF : qbn M s.pc = (i,ev0)) (h0 : ev0.kind = 0) (hL : layF M S X pp i s = (0,S')) (hD : qec M s = (s',ev,M')) (hk : ev.kind = 0) :
  qhe M S s X pp sk = ⟨s',setL (newL S' X pp i s) zeroT 0,qfu i.op i.r1 s X sk,ev,0,M',S'⟩:=by
 unfold qhe
 rw [hF,hL,hD]
 dsimp only
 rw [if_pos h0,if_pos rfl,if_pos hk]
theorem watch_nil (op r1 : Nat) (s : StP) (X : qam) : qfu op r1 s X [] = []:=by
 unfold qfu
 split <;> rfl
def crI1 : InsP:=⟨18,0,1,2,8⟩
def crI2 : InsP:=⟨13,3,4,0,8⟩
def crW : List Int:=[((encP crI1).1 : Int),((encP crI2).1 : Int)]
def crD : MemG:=madeD crW []
def crR : List Nat:=((List.replicate 32 0).set 1 65536).set 4 65536
def crA : StP:=⟨crR,4096,0⟩
def crB : StP:=⟨crR,4100,1⟩
def crC : StP:=⟨crR,4104,2⟩
def crM : MemG:=(qec crD crA).2.2
def crX (t u : qam) : qam:=setL (setL lb0 u 1) t 2
def crT (t u : qam) (pp : Bool) : qam:=if pp = true then qdj t (List.replicate 4 (allT u)) else t
def crG (t u : qam) (pp : Bool) : ShG:=⟨3,qfx [] 65544 (crT t u pp)⟩
def crY (t u : qam) (pp : Bool) : qam:=setL (setL (crX t u) (crT t u pp) 3) zeroT 0
end Go.Proofs.Ytnfkalpgidiafaa

namespace Go.Proofs.Ytnfkalpgidiafaa
open _root_.Go.Proofs.Try
open Go
def ovI1 : InsP:=⟨18,0,1,2,16⟩
def ovI2 : InsP:=⟨1,2,0,0,4096⟩
theorem ovI1_ok : InsOk ovI1:=⟨by decide,by decide,by decide,by decide,by decide⟩
theorem ovI2_ok : InsOk ovI2:=⟨by decide,by decide,by decide,by decide,by decide⟩
def ovW : List Int:=[((encP ovI1).1 : Int),((encP ovI2).1 : Int)]
theorem ovW_ok : ∀ x ∈ ovW,∃ m : Nat,x = m ∧ m < 4294967296:=by
 intro x hx
 simp only [ovW,List.mem_cons,List.not_mem_nil,or_false] at hx
 rcases hx with h | h
 ·exact ⟨_,h,encP_lt _⟩
 ·exact ⟨_,h,encP_lt _⟩
def ovD : MemG:=madeD ovW []
def ovR (v : Nat) : List Nat:=((List.replicate 32 0).set 1 65536).set 2 v
def ovA (v : Nat) : StP:=⟨ovR v,4096,0⟩
def ovB (v : Nat) : StP:=⟨ovR v,4100,1⟩
def ovM (v : Nat) : MemG:=(qec ovD (ovA v)).2.2
def ovC (v : Nat) : StP:=(qec (ovM v) (ovB v)).1
theorem ovR_lt {v : Nat} (hv : v < 4294967296) : ∀ y ∈ ovR v,y < 4294967296:=fun y hy=>by
 rcases List.mem_or_eq_of_mem_set hy with h | h
 ·rcases List.mem_or_eq_of_mem_set h with h | h
  ·rw [List.eq_of_mem_replicate h]; decide
  ·rw [h]; decide
 ·rw [h]; exact hv
theorem ovA_ok {v : Nat} (hv : v < 4294967296) : StOk (ovA v):=⟨rfl,ovR_lt hv,(by decide : 4096 < 4294967296),(by decide : -9223372036854775808 ≤ (0 : Int) ∧ (0 : Int) ≤ 4611686018427387904)⟩
theorem ovB_ok {v : Nat} (hv : v < 4294967296) : StOk (ovB v):=⟨rfl,ovR_lt hv,(by decide : 4100 < 4294967296),(by decide : -9223372036854775808 ≤ (1 : Int) ∧ (1 : Int) ≤ 4611686018427387904)⟩
theorem ovF1 : qbn ovD 4096 = (ovI1,noEv):=by kernel_rfl
theorem ovF2 (v : Nat) : qbn (ovM v) 4100 = (ovI2,noEv):=by kernel_rfl
theorem ovS1 (v : Nat) : qec ovD (ovA v) = (ovB v,noEv,ovM v):=by kernel_rfl
theorem ovS2 (v : Nat) : qec (ovM v) (ovB v) = (ovC v,noEv,ovM v):=by kernel_rfl
theorem ovL1 : (qdp ovD 65552 4 2).2 = 0:=by kernel_rfl
theorem ovP1 (v : Nat) : addrP ovI1 (ovA v) = 65552:=by kernel_rfl
def ovS (l : qam) : ShG:=⟨3,qfx [] 65536 l⟩
def ovT (l : qam) : ShG:=⟨3,qfx (qfx [] 65536 l) 65552 zeroT⟩
def ovX : qam:=setL lb0 [7,0,0,0] 2
def ovY : qam:=setL (setL ovX zeroT 2) zeroT 0
theorem ovS_ok {l : qam} (h : l.length ≤ 200) : ShOk (qfx [] 65536 l):=lay_ok shOk_nil (by omega)
theorem ov_set {l : qam} (h : l.length ≤ 200) : setM ⟨3,[]⟩ 65536 l = (0,ovS l):=setM_yes (S:=⟨3,[]⟩) (N:=1) shOk_nil (by omega) (by omega) (by decide)
theorem ov_lay {l : qam} (h : l.length ≤ 200) (v : Nat) : layF ovD (ovS l) lb0 false ovI1 (ovA v) = (0,ovT l):=by
 have hm:=lay_more (l:=[]) (bs:=l) (a:=65536) shOk_nil (by omega) (N:=1) (by omega)
 unfold layF
 rw [if_pos (by decide)]
 unfold layT
 rw [ovP1,show (qcl ovI1.op).1 = 4 from rfl,show ((4 : Nat) : Int) = 4 from rfl,if_pos ovL1,show qdj (qch lb0 ovI1.r2) (ptrT lb0 false ovI1.r1) = zeroT by decide]
 unfold putM
 rw [show zeroT.take (sizedP 4) = zeroT from rfl]
 refine setM_yes (S:=ovS l) (N:=1) (ovS_ok h) (by decide) (by decide) ?_
 show (qfx [] 65536 l).length + 1 ≤ 3
 simp only [List.length_nil] at hm
 omega
theorem ovG1 {l : qam} (h : l.length ≤ 200) (v : Nat) : qhe ovD (ovS l) (ovA v) lb0 false [] = ⟨ovB v,lb0,[],noEv,0,ovM v,ovT l⟩:=by
 rw [flowP_yes ovF1 rfl (ov_lay h v) (ovS1 v) rfl,watch_nil]
 rfl
theorem ovG2 (l : qam) (v : Nat) : qhe (ovM v) (ovT l) (ovB v) ovX false [] = ⟨ovC v,ovY,[],noEv,0,ovM v,ovT l⟩:=by
 rw [flowP_yes (ovF2 v) rfl (show layF (ovM v) (ovT l) ovX false ovI2 (ovB v) = (0,ovT l) from rfl) (ovS2 v) rfl,watch_nil]
 unfold newL
 rw [if_pos (by decide),show valueT (ovT l) ovX false ovI2 (ovB v) = zeroT from rfl]
 rfl
theorem ov_at {l : qam} (h : l.length ≤ 200) {i : Nat} {y : UInt8} (hi : l[i]? = some y) : labL (ovT l).pages (65536 + i) = if 16 ≤ i ∧ i < 20 then 0 else y:=by
 have hil:=(List.getElem?_eq_some_iff.1 hi).1
 show labL (qfx (qfx [] 65536 l) 65552 zeroT) (65536 + i) = _
 rw [labL_lay (ovS_ok h) (by decide),show zeroT.length = 4 from rfl]
 by_cases hc : 16 ≤ i ∧ i < 20
 ·rw [if_pos (by omega),if_pos hc]
  rcases (show i = 16 ∨ i = 17 ∨ i = 18 ∨ i = 19 by omega) with rfl | rfl | rfl | rfl <;> rfl
 ·rw [if_neg (by omega),if_neg hc,labL_lay shOk_nil (by omega),if_pos (by omega),show 65536 + i - 65536 = i by omega,List.getD_eq_getElem?_getD,hi]
  rfl
theorem qgi (A : Option Addr) (c : Nat) (l : qam) (v : Nat) (hv : v < 4294967296) : Spec Try.prog 5 #[.slice A l.length c,.int .u32 v] (RdB ⟨A,c,l⟩) [] (fun ρ ρ' w L=>w = .bool true ∧ L = []):=by
 have hCl : (ovC v).cells.length = 34:=stepP_len (ovB_ok hv)
 have hCo:=StP.one (ovC v)
 refine Spec.of 115 Try.func5 rfl Try.ntmps5 [(0,_),(1,_)] rfl rfl ?_
 intro cx ρ hr h0
 have hll : l.length ≤ 281474976710656:=hr.2.1.2
 refine Cd.seq fun K1 hK1=>?_
 refine Cd.qac [(0,false)] rfl rfl ?_
 refine Jp.y 4 rfl (qaa rfl) rfl rfl Kp.true (Y.assign rfl rfl) ?_
 refine Jp.qae hK1 ?_
 refine Cd.seq fun K2 hK2=>?_
 refine Cd.seq fun K3 hK3=>?_
 refine Cd.qac [(0,false),(1,false)] rfl rfl ?_
 refine Jp.call [] [] awake13_spec 19 rfl (qaa rfl) rfl rfl (Runs.fn rfl call6 rfl) (by decide) (by decide) rfl trivial ?_
 rintro v1 ρ1 L1 ⟨rfl,rfl⟩
 refine ⟨rfl,fun hle1=>⟨Kp.true,?_⟩⟩
 have hr:=RdB.up _ _ _ hle1 hr
 refine Jp.y 20 rfl (qaa rfl) rfl rfl Kp.true (Y.not rfl rfl) ?_
 refine Jp.qae hK3 ?_
 refine Cd.qaq rfl (fun ga=>?_) (fun ga=>?_)
 ·exact absurd ga (by simp)
 ·skip
  refine Cd.qbw hK2 ?_
  refine Cd.seq fun K4 hK4=>?_
  refine Cd.seq fun K5 hK5=>?_
  refine Cd.qac [(0,false),(1,false),(2,false)] rfl rfl ?_
  refine Jp.y 21 rfl (qaa rfl) rfl rfl Kp.true (Y.move rfl rfl) ?_
  refine Jp.y 22 rfl (qaa rfl) rfl rfl Kp.true (Y.qck rfl underlying58 rfl) ?_
  refine Jp.y 23 rfl (qaa rfl) rfl rfl Kp.true (Y.gtr rfl rfl rfl) ?_
  refine Jp.qae hK5 ?_
  refine Cd.qaq rfl (fun gz=>?_) (fun gz=>?_)
  ·skip
   refine Cd.seq fun K6 hK6=>?_
   refine Cd.qac [(0,false)] rfl rfl ?_
   refine Jp.y 4 rfl (qaa rfl) rfl rfl Kp.true (Y.assign rfl rfl) ?_
   refine Jp.qae hK6 ?_
   refine Cd.ret [] rfl (qbe rfl rfl) trivial ⟨rfl,rfl⟩
  ·have hl2 : l.length ≤ 200:=by simp at gz; omega
   refine Cd.qbw hK4 ?_
   refine Cd.seq fun K7 hK7=>?_
   refine Cd.qac [(0,false),(1,false),(2,false),(3,false),(4,false),(5,false),(6,false)] rfl rfl ?_
   refine Jp.y 24 rfl (qaa rfl) rfl rfl Kp.true (Y.struct [(0,_),(2,_),(3,_),(4,_)] [_,_,_,_,_] rfl rfl qfo zeroValue34 rfl) ?_
   refine Jp.call [] [] (qgb ovI1 ovI1_ok (by decide)) 25 rfl (qaa rfl) rfl rfl (Runs.fn rfl call8 rfl) (by decide) (by decide) rfl trivial ?_
   rintro v3 ρ3 L3 ⟨rfl,rfl,rfl⟩
   refine ⟨rfl,fun hle3=>⟨Kp.true,?_⟩⟩
   refine Jp.y 26 rfl (qaa rfl) rfl rfl Kp.true (Y.struct [(0,_),(1,_),(4,_)] [_,_,_,_,_] rfl rfl qfo zeroValue34 rfl) ?_
   refine Jp.call [] [] (qgb ovI2 ovI2_ok (by decide)) 27 rfl (qaa rfl) rfl rfl (Runs.fn rfl call8 rfl) (by decide) (by decide) rfl trivial ?_
   rintro v4 ρ4 L4 ⟨rfl,rfl,rfl⟩
   refine ⟨rfl,fun hle4=>⟨Kp.true,?_⟩⟩
   refine Jp.lit 28 42 [(0,_),(1,_)] [_,_] rfl (qaa rfl) rfl rfl rfl rfl underlying35 sizeOf31 zeroValue31 rfl rfl rfl rfl rfl fun b42=>⟨Kp.true,?_⟩
   refine Jp.freeze (i:=42) rfl (OwnS.up _ _ _ _ _ _) fun ρ6 hle6 hA6=>?_
   have hr:=RdB.up _ _ _ hle6 hr
   refine Jp.call [] [0] (made13_spec (some ⟨b42,0,none⟩) 2 ovW none 0 [] ovW_ok) 29 rfl (qaa rfl) rfl rfl (Runs.fn rfl call7 rfl) (by decide) (by decide) rfl ⟨hA6.rd,RdS.nil 1 _⟩ ?_
   rintro v7 ρ7 L7 ⟨b,rfl,rfl⟩
   refine ⟨rfl,fun hle7=>⟨Kp.true,?_⟩⟩
   have hr:=RdB.up _ _ _ hle7 hr
   refine Jp.y 5 rfl (qaa rfl) rfl rfl Kp.true (Y.assign rfl rfl) ?_
   refine Jp.qae hK7 ?_
   refine Cd.seq fun K8 hK8=>?_
   refine Cd.qac [(0,false),(1,false),(2,false),(3,false),(4,false),(5,false)] rfl rfl ?_
   refine Jp.call [] [1] (shNew_spec 3) 31 rfl (qaa rfl) rfl rfl (Runs.fn rfl call9 rfl) (by decide) (by decide) rfl trivial ?_
   rintro v8 ρ8 L8 ⟨rfl,bs,rfl,rfl⟩
   refine ⟨rfl,fun hle8=>⟨Kp.true,?_⟩⟩
   have hSet:=shSet_spec bs ⟨3,[]⟩ 65536 ⟨A,c,l⟩ (by decide) (show l.length ≤ 1048576 by omega)
   rw [show setM ⟨3,[]⟩ 65536 (Sl.xs ⟨A,c,l⟩) = _ from ov_set hl2] at hSet
   refine Jp.y 30 rfl (qaa rfl) rfl rfl Kp.true (Y.move rfl rfl) ?_
   refine Jp.y 32 rfl (qaa rfl) rfl rfl Kp.true (Y.extract rfl rfl rfl) ?_
   refine Jp.y 33 rfl (qaa rfl) rfl rfl Kp.true (Y.extract rfl rfl rfl) ?_
   refine Jp.y 6 rfl (qaa rfl) rfl rfl Kp.true (Y.assign rfl rfl) ?_
   refine Jp.y 7 rfl (qaa rfl) rfl rfl Kp.true (Y.assign rfl rfl) ?_
   refine Jp.qae hK8 ?_
   refine Cd.seq fun K9 hK9=>?_
   refine Cd.qac [(0,false),(1,false),(2,false)] rfl rfl ?_
   refine Jp.y 34 rfl (qaa rfl) rfl rfl Kp.true (Y.move rfl rfl) ?_
   refine Jp.y 35 rfl (qaa rfl) rfl rfl Kp.true (Y.move rfl rfl) ?_
   refine Jp.call [1] [1] hSet 36 rfl (qaa rfl) rfl rfl (Runs.fn rfl call13 rfl) (by decide) (by decide) rfl hr ?_
   rintro v9 ρ9 L9 ⟨rfl,rfl,rfl⟩
   refine ⟨rfl,fun hle9=>⟨Kp.true,?_⟩⟩
   refine Jp.qae hK9 ?_
   refine Cd.seq fun K10 hK10=>?_
   refine Cd.qac [(0,false),(1,false),(2,false)] rfl rfl ?_
   refine Jp.y 37 rfl (qaa rfl) rfl rfl Kp.true (Y.array [] [_,_,_,_,_,_,_,_,_,_,_,_,_,_,_,_,_,_,_,_,_,_,_,_,_,_,_,_,_,_,_,_,_,_,_,_,_,_,_,_,_,_,_,_,_,_,_,_,_,_,_,_,_,_,_,_,_,_,_,_,_,_,_,_,_,_,_,_,_,_,_,_,_,_,_,_,_,_,_,_,_,_,_,_,_,_,_,_,_,_,_,_,_,_,_,_,_,_,_,_,_,_,_,_,_,_,_,_,_,_,_,_,_,_,_,_,_,_,_,_,_,_,_,_,_,_,_,_] rfl rfl underlying43 sizeOf41 zeroValue43 rfl) ?_
   refine Jp.alloc 8 8 rfl (qaa rfl) rfl rfl rfl zeroValue43 fun b8=>⟨Kp.true,?_⟩
   refine Jp.qah 8 rfl (qaa rfl) rfl rfl sizeOf43 rfl rfl (by first | rfl | assumption) (by first | rfl | assumption) rfl (by first | rfl | assumption) (fun k _ _=>qap k) Kp.true ?_
   refine Jp.qae hK10 ?_
   refine Cd.seq fun K11 hK11=>?_
   refine Cd.qac [(0,false),(1,false),(2,false)] rfl rfl ?_
   refine Jp.imp (j:=8) rfl (fun h hh=>(show Pt b8 (.cells (qaf lb0).toArray 43) h from hh)) ?_
   refine Jp.y 38 rfl (qaa rfl) rfl rfl Kp.true (Y.struct [(1,_)] [_,_,_,_,_,_,_,_,_,_,_,_,_,_,_,_,_,_,_,_,_,_,_,_,_,_,_,_,_,_,_,_,_,_] rfl rfl places46 zeroValue46 rfl) ?_
   refine Jp.alloc 9 9 rfl (qaa rfl) rfl rfl rfl zeroValue46 fun b9=>⟨Kp.true,?_⟩
   refine Jp.qah 9 rfl (qaa rfl) rfl rfl sizeOf46 rfl rfl (by first | rfl | assumption) (by first | rfl | assumption) rfl (by first | rfl | assumption) (fun k _ _=>qap k) Kp.true ?_
   refine Jp.qae hK11 ?_
   refine Cd.seq fun K12 hK12=>?_
   refine Cd.qac [(0,false),(1,false),(2,false),(3,false),(4,false),(5,false),(6,false)] rfl rfl ?_
   refine Jp.y 39 rfl (qaa rfl) rfl rfl Kp.true (Y.move rfl rfl) ?_
   refine Jp.y 40 rfl (qaa rfl) rfl rfl Kp.true (by exact Y.qad rfl rfl underlying46 rfl sizeOf44 (by decide) (show _ + 0 = _ from rfl)) ?_
   refine Jp.y 41 rfl (qaa rfl) rfl rfl Kp.true (Y.qal rfl rfl rfl underlying44 sizeOf31 (by first | decide | omega) (by first | decide | omega) rfl) ?_
   refine Jp.store 9 rfl (qaa rfl) rfl rfl sizeOf31 rfl rfl rfl rfl rfl rfl Kp.true ?_
   refine Jp.y 42 rfl (qaa rfl) rfl rfl Kp.true (by exact Y.qad rfl rfl underlying46 rfl sizeOf44 (by decide) (show _ + 0 = _ from rfl)) ?_
   refine Jp.y 43 rfl (qaa rfl) rfl rfl Kp.true (Y.qal rfl rfl rfl underlying44 sizeOf31 (by first | decide | omega) (by first | decide | omega) rfl) ?_
   refine Jp.store 9 rfl (qaa rfl) rfl rfl sizeOf31 rfl rfl rfl rfl rfl rfl Kp.true ?_
   refine Jp.qae hK12 ?_
   refine Cd.seq fun K13 hK13=>?_
   refine Cd.qac [(0,false),(1,false),(2,false),(3,false),(4,false),(5,false),(6,false),(7,false),(8,false),(9,false),(10,false),(11,false),(12,false),(13,false),(14,false),(15,false),(16,false),(17,false)] rfl rfl ?_
   refine Jp.imp (j:=9) rfl (fun h hh=>(show Pt b9 (.cells (ovA v).cells.toArray 46) h from hh)) ?_
   have hS1:=qee b bs ovD (ovS l) (ovA v) lb0 (pol0 false) (ovA_ok hv) rfl (show (0 : Nat) ≤ 4096 by decide)
   rw [show qhe ovD (ovS l) (ovA v) lb0 (pol0 false).pointer (pol0 false).sinks.xs = _ from ovG1 hl2 v] at hS1
   refine Jp.y 45 rfl (qaa rfl) rfl rfl Kp.true (Y.move rfl rfl) ?_
   refine Jp.y 46 rfl (qaa rfl) rfl rfl Kp.true (Y.move rfl rfl) ?_
   refine Jp.y 47 rfl (qaa rfl) rfl rfl Kp.true (by exact Y.qag 9 rfl isAgg46 sizeOf46 rfl rfl (by first | rfl | assumption)) ?_
   refine Jp.y 48 rfl (qaa rfl) rfl rfl Kp.true (by exact Y.qag 8 rfl isAgg43 sizeOf43 rfl rfl (by first | rfl | assumption)) ?_
   refine Jp.y 49 rfl (qaa rfl) rfl rfl Kp.true (Y.struct [] [_,_,_] rfl rfl places28 zeroValue28 rfl) ?_
   refine Jp.call [0,1] [0,1,20] hS1 50 rfl (qaa rfl) rfl rfl (Runs.fn rfl call10 rfl) (by decide) (by decide) rfl (pol0_rd _) ?_
   rintro v10 ρ10 L10 ⟨A1,c1,rfl,rfl⟩
   refine ⟨rfl,fun hle10=>⟨Kp.true,?_⟩⟩
   have hr:=RdB.up _ _ _ hle10 hr
   refine Jp.y 44 rfl (qaa rfl) rfl rfl Kp.true (Y.move rfl rfl) ?_
   refine Jp.y 51 rfl (qaa rfl) rfl rfl Kp.true (Y.extract rfl rfl rfl) ?_
   refine Jp.y 52 rfl (qaa rfl) rfl rfl Kp.true (Y.extract rfl rfl rfl) ?_
   refine Jp.y 53 rfl (qaa rfl) rfl rfl Kp.true (Y.extract rfl rfl rfl) ?_
   refine Jp.y 54 rfl (qaa rfl) rfl rfl Kp.true (Y.extract rfl rfl rfl) ?_
   refine Jp.y 55 rfl (qaa rfl) rfl rfl Kp.true (Y.extract rfl rfl rfl) ?_
   refine Jp.alloc 11 11 rfl (qaa rfl) rfl rfl rfl zeroValue50 fun b11=>⟨Kp.true,?_⟩
   refine Jp.qah 9 rfl (qaa rfl) rfl rfl sizeOf46 rfl rfl (by first | rfl | assumption) (by first | rfl | assumption) rfl (by first | rfl | assumption) (fun k _ _=>qap k) Kp.true ?_
   refine Jp.qah 8 rfl (qaa rfl) rfl rfl sizeOf43 rfl rfl (by first | rfl | assumption) (by first | rfl | assumption) rfl (by first | rfl | assumption) (fun k _ _=>qap k) Kp.true ?_
   refine Jp.y 10 rfl (qaa rfl) rfl rfl Kp.true (Y.assign rfl rfl) ?_
   refine Jp.qah 11 rfl (qaa rfl) rfl rfl sizeOf50 rfl rfl (by first | rfl | assumption) (by first | rfl | assumption) rfl (by first | rfl | assumption) (fun k _ _=>qap k) Kp.true ?_
   refine Jp.y 12 rfl (qaa rfl) rfl rfl Kp.true (Y.assign rfl rfl) ?_
   refine Jp.qae hK13 ?_
   refine Cd.seq fun K14 hK14=>?_
   refine Cd.qac [(0,false),(1,false),(2,false)] rfl rfl ?_
   refine Jp.y 56 rfl (qaa rfl) rfl rfl Kp.true (Y.array [(0,_)] [_,_,_,_] rfl rfl underlying41 sizeOf5 zeroValue41 rfl) ?_
   refine Jp.y 57 rfl (qaa rfl) rfl rfl Kp.true (Y.qal rfl rfl rfl underlying43 sizeOf41 (by first | decide | omega) (by first | decide | omega) rfl) ?_
   refine Jp.qbo (cs:=qaf [7,0,0,0]) 8 rfl (qaa rfl) rfl rfl sizeOf41 rfl rfl rfl rfl rfl rfl (fun k _ _=>qap k) Kp.true ?_
   refine Jp.imp (j:=8) rfl (fun h hh=>(show Pt b8 (.cells (qaf ovX).toArray 43) h from hh)) ?_
   have hS2:=qee b bs (ovM v) (ovT l) (ovB v) ovX (pol0 false) (ovB_ok hv) rfl (show (0 : Nat) ≤ 4096 by decide)
   rw [show qhe (ovM v) (ovT l) (ovB v) ovX (pol0 false).pointer (pol0 false).sinks.xs = _ from ovG2 l v] at hS2
   refine Jp.qae hK14 ?_
   refine Cd.seq fun K15 hK15=>?_
   refine Cd.qac [(0,false),(1,false),(2,false),(3,false),(4,false),(5,false),(6,false),(7,false),(8,false),(9,false),(10,false),(11,false),(12,false),(13,false),(14,false),(15,false),(16,false),(17,false),(18,false)] rfl rfl ?_
   refine Jp.y 59 rfl (qaa rfl) rfl rfl Kp.true (Y.move rfl rfl) ?_
   refine Jp.y 60 rfl (qaa rfl) rfl rfl Kp.true (Y.move rfl rfl) ?_
   refine Jp.y 61 rfl (qaa rfl) rfl rfl Kp.true (by exact Y.qag 9 rfl isAgg46 sizeOf46 rfl rfl (by first | rfl | assumption)) ?_
   refine Jp.y 62 rfl (qaa rfl) rfl rfl Kp.true (by exact Y.qag 8 rfl isAgg43 sizeOf43 rfl rfl (by first | rfl | assumption)) ?_
   refine Jp.y 63 rfl (qaa rfl) rfl rfl Kp.true (Y.struct [] [_,_,_] rfl rfl places28 zeroValue28 rfl) ?_
   refine Jp.call [0,1] [0,1,21] hS2 64 rfl (qaa rfl) rfl rfl (Runs.fn rfl call10 rfl) (by decide) (by decide) rfl (pol0_rd _) ?_
   rintro v11 ρ11 L11 ⟨A2,c2,rfl,rfl⟩
   refine ⟨rfl,fun hle11=>⟨Kp.true,?_⟩⟩
   have hr:=RdB.up _ _ _ hle11 hr
   refine Jp.y 58 rfl (qaa rfl) rfl rfl Kp.true (Y.move rfl rfl) ?_
   refine Jp.y 65 rfl (qaa rfl) rfl rfl Kp.true (Y.extract rfl rfl rfl) ?_
   refine Jp.y 66 rfl (qaa rfl) rfl rfl Kp.true (Y.extract rfl rfl rfl) ?_
   refine Jp.y 67 rfl (qaa rfl) rfl rfl Kp.true (Y.extract rfl rfl rfl) ?_
   refine Jp.y 68 rfl (qaa rfl) rfl rfl Kp.true (Y.extract rfl rfl rfl) ?_
   refine Jp.y 69 rfl (qaa rfl) rfl rfl Kp.true (Y.extract rfl rfl rfl) ?_
   refine Jp.alloc 13 13 rfl (qaa rfl) rfl rfl rfl zeroValue46 fun b13=>⟨Kp.true,?_⟩
   refine Jp.alloc 15 15 rfl (qaa rfl) rfl rfl rfl zeroValue50 fun b15=>⟨Kp.true,?_⟩
   refine Jp.qah 13 rfl (qaa rfl) rfl rfl sizeOf46 rfl rfl (by first | rfl | assumption) (by first | rfl | assumption) rfl (by first | rfl | assumption) (fun k _ _=>qap k) Kp.true ?_
   refine Jp.qah 8 rfl (qaa rfl) rfl rfl sizeOf43 rfl rfl (by first | rfl | assumption) (by first | rfl | assumption) rfl (by first | rfl | assumption) (fun k _ _=>qap k) Kp.true ?_
   refine Jp.y 14 rfl (qaa rfl) rfl rfl Kp.true (Y.assign rfl rfl) ?_
   refine Jp.qah 15 rfl (qaa rfl) rfl rfl sizeOf50 rfl rfl (by first | rfl | assumption) (by first | rfl | assumption) rfl (by first | rfl | assumption) (fun k _ _=>qap k) Kp.true ?_
   refine Jp.y 16 rfl (qaa rfl) rfl rfl Kp.true (Y.assign rfl rfl) ?_
   refine Jp.qae hK15 ?_
   refine Cd.seq fun K16 hK16=>?_
   refine Cd.seq fun K17 hK17=>?_
   refine Cd.qac [(0,false)] rfl rfl ?_
   refine Jp.y 17 rfl (qaa rfl) rfl rfl Kp.true (Y.assign rfl rfl) ?_
   refine Jp.qae hK17 ?_
   refine Cd.block ?_
   refine Cd.loop (G:=Nat) (fun i=>i ≤ l.length) (fun i=>l.length - i) (fun _=>ρ11) (fun i=>[(0,.slice A l.length c),(6,.pointer (some ⟨bs,0,none⟩)),(8,.pointer (some ⟨b8,0,none⟩)),(11,.pointer (some ⟨b11,0,none⟩)),(12,.int .i64 0),(15,.pointer (some ⟨b15,0,none⟩)),(16,.int .i64 0),(17,.int .i64 i)]) (fun _=>[(8,Pt b8 (.cells (qaf ovY).toArray 43)),(11,Pt b11 (.cells noEv.cells.toArray 50)),(15,Pt b15 (.cells noEv.cells.toArray 50)),(1,ShO bs (ovT l))]) 0 (Nat.zero_le _) rfl ⟨rfl,rfl,rfl,rfl,rfl,rfl,rfl,rfl,trivial⟩ ⟨rfl,rfl,rfl,rfl,trivial⟩ (fun g KLa hok hLa=>?_)
   obtain ⟨i,hi⟩ : ∃ i,i = g:=⟨_,rfl⟩
   rw [← hi] at hok ⊢
   have hok4 : i ≤ l.length:=hok
   refine Cd.seq fun K18 hK18=>?_
   refine Cd.seq fun K19 hK19=>?_
   refine Cd.qac [(0,false),(1,false),(2,false),(3,false)] rfl rfl ?_
   refine Jp.y 70 rfl (qaa rfl) rfl rfl Kp.true (Y.move rfl rfl) ?_
   refine Jp.y 71 rfl (qaa rfl) rfl rfl Kp.true (Y.move rfl rfl) ?_
   refine Jp.y 72 rfl (qaa rfl) rfl rfl Kp.true (Y.qck rfl underlying58 rfl) ?_
   refine Jp.y 73 rfl (qaa rfl) rfl rfl Kp.true (Y.lss rfl rfl rfl) ?_
   refine Jp.qae hK19 ?_
   refine Cd.qaq rfl (fun gb=>?_) (fun gb=>?_)
   ·have hil : i < l.length:=by simpa using gb
    obtain ⟨y,hy⟩ : ∃ y,l[i]? = some y:=⟨l[i],by simp [hil]⟩
    have hat:=ov_at hl2 hy
    obtain ⟨ad,rfl⟩:=RdS.some hr (show 0 < l.length * 1 by omega)
    have hy8 : (qaf l)[i]? = some (.int .u8 (y.toNat : Int)):=by simp [qaf,hy]
    have hc : qdq ρ11 (ad.add i) = some (.int .u8 (y.toNat : Int)):=RdS.cell hr hy8
    refine Cd.qbw hK18 ?_
    refine Cd.seq fun K20 hK20=>?_
    refine Cd.block ?_
    refine Cd.seq fun K21 hK21=>?_
    refine Cd.qac [(0,false),(1,false),(2,false),(3,false),(4,false)] rfl rfl ?_
    refine Jp.y 76 rfl (qaa rfl) rfl rfl Kp.true (Y.move rfl rfl) ?_
    refine Jp.y 77 rfl (qaa rfl) rfl rfl Kp.true (Y.move rfl rfl) ?_
    refine Jp.y 78 rfl (qaa rfl) rfl rfl Kp.true (Y.qdw (q:=i) rfl rfl rfl underlying58 sizeOf5 (by omega) (by omega) (by omega)) ?_
    refine Jp.y 79 rfl (qaa rfl) rfl rfl Kp.true (Y.loadR rfl isAgg5 rfl hc) ?_
    refine Jp.y 18 rfl (qaa rfl) rfl rfl Kp.true (Y.assign rfl rfl) ?_
    refine Jp.qae hK21 ?_
    refine Cd.seq fun K22 hK22=>?_
    refine Cd.seq fun K23 hK23=>?_
    refine Cd.qac [(0,false),(1,false),(2,false),(3,false),(4,false),(5,false)] rfl rfl ?_
    by_cases hcc : 16 ≤ i ∧ i < 20
    ·skip
     refine Jp.y 80 rfl (qaa rfl) rfl rfl Kp.true (Y.move rfl rfl) ?_
     refine Jp.y 81 rfl (qaa rfl) rfl rfl Kp.true (Y.geq rfl rfl rfl) ?_
     refine Jp.y 82 rfl (qaa rfl) rfl rfl Kp.true (Y.move rfl rfl) ?_
     refine Jp.slot 82 rfl (show _ = Value.bool true from congrArg Value.bool (by simp; omega)) ?_
     refine Jp.y 83 rfl (qab rfl rfl rfl rfl) rfl rfl Kp.true (Y.move rfl rfl) ?_
     refine Jp.y 84 rfl (qab rfl rfl rfl rfl) rfl rfl Kp.true (Y.lss rfl rfl rfl) ?_
     refine Jp.y 85 rfl (qaa rfl) rfl rfl Kp.true (Y.qba rfl rfl rfl) ?_
     refine Jp.slot 85 rfl (show _ = Value.bool true from congrArg Value.bool (by simp; omega)) ?_
     refine Jp.qae hK23 ?_
     refine Cd.qdk rfl ?_
     refine Cd.qac [(0,false)] rfl rfl ?_
     refine Jp.y 18 rfl (qaa rfl) rfl rfl Kp.true (Y.assign rfl rfl) ?_
     refine Jp.qae hK22 ?_
     refine Cd.seq fun K24 hK24=>?_
     refine Cd.qac [(0,false),(1,false),(2,false),(3,false),(4,false),(5,false),(6,false)] rfl rfl ?_
     refine Jp.y 86 rfl (qaa rfl) rfl rfl Kp.true (Y.move rfl rfl) ?_
     refine Jp.y 87 rfl (qaa rfl) rfl rfl Kp.true (Y.move rfl rfl) ?_
     refine Jp.y 88 rfl (qaa rfl) rfl rfl Kp.true (Y.qav rfl rfl underlying3 underlying31 (by exact qau (by omega) (by omega))) ?_
     refine Jp.y 89 rfl (qaa rfl) rfl rfl Kp.true (Y.qcd rfl rfl rfl (by exact qau (by omega) (by omega))) ?_
     refine Jp.slot 89 rfl (show _ = Value.int .u32 ((65536 + i : Nat) : Int) from congrArg (Value.int .u32) (by omega)) ?_
     refine Jp.call [1] [1] (qgo bs (ovT l) (65536 + i) (by omega)) 90 rfl (qaa rfl) rfl rfl (Runs.fn rfl call12 rfl) (by decide) (by decide) rfl trivial ?_
     rintro v12 ρ12 L12 ⟨rfl,rfl,rfl⟩
     refine ⟨rfl,fun hle12=>⟨Kp.true,?_⟩⟩
     rw [hat]
     refine Jp.y 91 rfl (qaa rfl) rfl rfl Kp.true (Y.move rfl rfl) ?_
     refine Jp.y 92 rfl (qaa rfl) rfl rfl Kp.true (Y.neq rfl rfl rfl) ?_
     refine Jp.qae hK24 ?_
     refine Cd.qaq rfl (fun gw=>?_) (fun gw=>?_)
     ·exact absurd gw (by simp [hcc])
     ·skip
      refine Cd.over rfl hK20 ?_
      refine Cd.qac [(0,false),(1,false),(2,false)] rfl rfl ?_
      refine Jp.y 74 rfl (qaa rfl) rfl rfl Kp.true (Y.move rfl rfl) ?_
      refine Jp.y 75 rfl (qaa rfl) rfl rfl Kp.true (Y.qcd rfl rfl rfl (by exact qaj (by omega) (by omega))) ?_
      refine Jp.y 17 rfl (qaa rfl) rfl rfl Kp.true (Y.assign rfl rfl) ?_
      rw [show (i : Int) + 1 = ((i + 1 : Nat) : Int) by omega]
      refine Jp.again hLa (i + 1) hil (by omega) rfl ⟨rfl,rfl,rfl,rfl,rfl,rfl,rfl,rfl,trivial⟩ ⟨rfl,rfl,rfl,rfl,trivial⟩
    ·skip
     by_cases h16 : 16 ≤ i
     ·skip
      refine Jp.y 80 rfl (qaa rfl) rfl rfl Kp.true (Y.move rfl rfl) ?_
      refine Jp.y 81 rfl (qaa rfl) rfl rfl Kp.true (Y.geq rfl rfl rfl) ?_
      refine Jp.y 82 rfl (qaa rfl) rfl rfl Kp.true (Y.move rfl rfl) ?_
      refine Jp.slot 82 rfl (show _ = Value.bool true from congrArg Value.bool (by simp; omega)) ?_
      refine Jp.y 83 rfl (qab rfl rfl rfl rfl) rfl rfl Kp.true (Y.move rfl rfl) ?_
      refine Jp.y 84 rfl (qab rfl rfl rfl rfl) rfl rfl Kp.true (Y.lss rfl rfl rfl) ?_
      refine Jp.y 85 rfl (qaa rfl) rfl rfl Kp.true (Y.qba rfl rfl rfl) ?_
      refine Jp.slot 85 rfl (show _ = Value.bool false from congrArg Value.bool (by simp; omega)) ?_
      refine Jp.qae hK23 ?_
      refine Cd.qbu rfl ?_
      refine Cd.qbw hK22 ?_
      refine Cd.seq fun K25 hK25=>?_
      refine Cd.qac [(0,false),(1,false),(2,false),(3,false),(4,false),(5,false),(6,false)] rfl rfl ?_
      refine Jp.y 86 rfl (qaa rfl) rfl rfl Kp.true (Y.move rfl rfl) ?_
      refine Jp.y 87 rfl (qaa rfl) rfl rfl Kp.true (Y.move rfl rfl) ?_
      refine Jp.y 88 rfl (qaa rfl) rfl rfl Kp.true (Y.qav rfl rfl underlying3 underlying31 (by exact qau (by omega) (by omega))) ?_
      refine Jp.y 89 rfl (qaa rfl) rfl rfl Kp.true (Y.qcd rfl rfl rfl (by exact qau (by omega) (by omega))) ?_
      refine Jp.slot 89 rfl (show _ = Value.int .u32 ((65536 + i : Nat) : Int) from congrArg (Value.int .u32) (by omega)) ?_
      refine Jp.call [1] [1] (qgo bs (ovT l) (65536 + i) (by omega)) 90 rfl (qaa rfl) rfl rfl (Runs.fn rfl call12 rfl) (by decide) (by decide) rfl trivial ?_
      rintro v12 ρ12 L12 ⟨rfl,rfl,rfl⟩
      refine ⟨rfl,fun hle12=>⟨Kp.true,?_⟩⟩
      rw [hat]
      refine Jp.y 91 rfl (qaa rfl) rfl rfl Kp.true (Y.move rfl rfl) ?_
      refine Jp.y 92 rfl (qaa rfl) rfl rfl Kp.true (Y.neq rfl rfl rfl) ?_
      refine Jp.qae hK25 ?_
      refine Cd.qaq rfl (fun gw=>?_) (fun gw=>?_)
      ·exact absurd gw (by simp [hcc])
      ·skip
       refine Cd.over rfl hK20 ?_
       refine Cd.qac [(0,false),(1,false),(2,false)] rfl rfl ?_
       refine Jp.y 74 rfl (qaa rfl) rfl rfl Kp.true (Y.move rfl rfl) ?_
       refine Jp.y 75 rfl (qaa rfl) rfl rfl Kp.true (Y.qcd rfl rfl rfl (by exact qaj (by omega) (by omega))) ?_
       refine Jp.y 17 rfl (qaa rfl) rfl rfl Kp.true (Y.assign rfl rfl) ?_
       rw [show (i : Int) + 1 = ((i + 1 : Nat) : Int) by omega]
       refine Jp.again hLa (i + 1) hil (by omega) rfl ⟨rfl,rfl,rfl,rfl,rfl,rfl,rfl,rfl,trivial⟩ ⟨rfl,rfl,rfl,rfl,trivial⟩
     ·skip
      refine Jp.y 80 rfl (qaa rfl) rfl rfl Kp.true (Y.move rfl rfl) ?_
      refine Jp.y 81 rfl (qaa rfl) rfl rfl Kp.true (Y.geq rfl rfl rfl) ?_
      refine Jp.y 82 rfl (qaa rfl) rfl rfl Kp.true (Y.move rfl rfl) ?_
      refine Jp.slot 82 rfl (show _ = Value.bool false from congrArg Value.bool (by simp; omega)) ?_
      refine Jp.qat 83 rfl (qab rfl rfl rfl rfl) rfl rfl Kp.true ?_
      refine Jp.qat 84 rfl (qab rfl rfl rfl rfl) rfl rfl Kp.true ?_
      refine Jp.y 85 rfl (qaa rfl) rfl rfl Kp.true (Y.qaz rfl rfl rfl) ?_
      refine Jp.slot 85 rfl (show _ = Value.bool false from rfl) ?_
      refine Jp.qae hK23 ?_
      refine Cd.qbu rfl ?_
      refine Cd.qbw hK22 ?_
      refine Cd.seq fun K26 hK26=>?_
      refine Cd.qac [(0,false),(1,false),(2,false),(3,false),(4,false),(5,false),(6,false)] rfl rfl ?_
      refine Jp.y 86 rfl (qaa rfl) rfl rfl Kp.true (Y.move rfl rfl) ?_
      refine Jp.y 87 rfl (qaa rfl) rfl rfl Kp.true (Y.move rfl rfl) ?_
      refine Jp.y 88 rfl (qaa rfl) rfl rfl Kp.true (Y.qav rfl rfl underlying3 underlying31 (by exact qau (by omega) (by omega))) ?_
      refine Jp.y 89 rfl (qaa rfl) rfl rfl Kp.true (Y.qcd rfl rfl rfl (by exact qau (by omega) (by omega))) ?_
      refine Jp.slot 89 rfl (show _ = Value.int .u32 ((65536 + i : Nat) : Int) from congrArg (Value.int .u32) (by omega)) ?_
      refine Jp.call [1] [1] (qgo bs (ovT l) (65536 + i) (by omega)) 90 rfl (qaa rfl) rfl rfl (Runs.fn rfl call12 rfl) (by decide) (by decide) rfl trivial ?_
      rintro v12 ρ12 L12 ⟨rfl,rfl,rfl⟩
      refine ⟨rfl,fun hle12=>⟨Kp.true,?_⟩⟩
      rw [hat]
      refine Jp.y 91 rfl (qaa rfl) rfl rfl Kp.true (Y.move rfl rfl) ?_
      refine Jp.y 92 rfl (qaa rfl) rfl rfl Kp.true (Y.neq rfl rfl rfl) ?_
      refine Jp.qae hK26 ?_
      refine Cd.qaq rfl (fun gw=>?_) (fun gw=>?_)
      ·exact absurd gw (by simp [hcc])
      ·skip
       refine Cd.over rfl hK20 ?_
       refine Cd.qac [(0,false),(1,false),(2,false)] rfl rfl ?_
       refine Jp.y 74 rfl (qaa rfl) rfl rfl Kp.true (Y.move rfl rfl) ?_
       refine Jp.y 75 rfl (qaa rfl) rfl rfl Kp.true (Y.qcd rfl rfl rfl (by exact qaj (by omega) (by omega))) ?_
       refine Jp.y 17 rfl (qaa rfl) rfl rfl Kp.true (Y.assign rfl rfl) ?_
       rw [show (i : Int) + 1 = ((i + 1 : Nat) : Int) by omega]
       refine Jp.again hLa (i + 1) hil (by omega) rfl ⟨rfl,rfl,rfl,rfl,rfl,rfl,rfl,rfl,trivial⟩ ⟨rfl,rfl,rfl,rfl,trivial⟩
   ·skip
    refine Cd.exit rfl hK16 ?_
    refine Cd.seq fun K27 hK27=>?_
    refine Cd.qac [(0,false),(1,false),(2,false),(3,false),(4,false),(5,false),(6,false),(7,false),(8,false),(9,false),(10,false),(11,false),(12,false),(13,false),(14,false),(15,false),(16,false),(17,false),(18,false),(19,false),(20,false),(21,false),(22,false)] rfl rfl ?_
    refine Jp.y 93 rfl (qaa rfl) rfl rfl Kp.true (by exact Y.qad rfl rfl underlying50 rfl sizeOf3 (by decide) (show _ + 0 = _ from rfl)) ?_
    refine Jp.y 94 rfl (qaa rfl) rfl rfl Kp.true (by exact Y.qaw 11 rfl isAgg3 rfl rfl rfl) ?_
    refine Jp.y 95 rfl (qaa rfl) rfl rfl Kp.true (Y.eql rfl rfl rfl) ?_
    refine Jp.y 96 rfl (qaa rfl) rfl rfl Kp.true (Y.move rfl rfl) ?_
    refine Jp.slot 96 rfl (show _ = Value.bool true from rfl) ?_
    refine Jp.y 97 rfl (qab rfl rfl rfl rfl) rfl rfl Kp.true (Y.move rfl rfl) ?_
    refine Jp.y 98 rfl (qab rfl rfl rfl rfl) rfl rfl Kp.true (Y.eql rfl rfl rfl) ?_
    refine Jp.y 99 rfl (qaa rfl) rfl rfl Kp.true (Y.qba rfl rfl rfl) ?_
    refine Jp.y 100 rfl (qaa rfl) rfl rfl Kp.true (Y.move rfl rfl) ?_
    refine Jp.slot 100 rfl (show _ = Value.bool true from rfl) ?_
    refine Jp.y 101 rfl (qab rfl rfl rfl rfl) rfl rfl Kp.true (by exact Y.qad rfl rfl underlying50 rfl sizeOf3 (by decide) (show _ + 0 = _ from rfl)) ?_
    refine Jp.y 102 rfl (qab rfl rfl rfl rfl) rfl rfl Kp.true (by exact Y.qaw 15 rfl isAgg3 rfl rfl rfl) ?_
    refine Jp.y 103 rfl (qab rfl rfl rfl rfl) rfl rfl Kp.true (Y.eql rfl rfl rfl) ?_
    refine Jp.y 104 rfl (qaa rfl) rfl rfl Kp.true (Y.qba rfl rfl rfl) ?_
    refine Jp.y 105 rfl (qaa rfl) rfl rfl Kp.true (Y.move rfl rfl) ?_
    refine Jp.slot 105 rfl (show _ = Value.bool true from rfl) ?_
    refine Jp.y 106 rfl (qab rfl rfl rfl rfl) rfl rfl Kp.true (Y.move rfl rfl) ?_
    refine Jp.y 107 rfl (qab rfl rfl rfl rfl) rfl rfl Kp.true (Y.eql rfl rfl rfl) ?_
    refine Jp.y 108 rfl (qaa rfl) rfl rfl Kp.true (Y.qba rfl rfl rfl) ?_
    refine Jp.y 109 rfl (qaa rfl) rfl rfl Kp.true (Y.move rfl rfl) ?_
    refine Jp.slot 109 rfl (show _ = Value.bool true from rfl) ?_
    refine Jp.y 110 rfl (qab rfl rfl rfl rfl) rfl rfl Kp.true (Y.qal rfl rfl rfl underlying43 sizeOf41 (by first | decide | omega) (by first | decide | omega) rfl) ?_
    refine Jp.y 111 rfl (qab rfl rfl rfl rfl) rfl rfl Kp.true (Y.qfr 8 (qaf (qch ovY 2)) rfl isAgg41 sizeOf41 rfl rfl rfl (fun p v h=>labOf_get (X:=ovY) (r:=2) (by decide) p v h)) ?_
    refine Jp.y 112 rfl (qab rfl rfl rfl rfl) rfl rfl Kp.true (Y.array [] [_,_,_,_] rfl rfl underlying41 sizeOf5 zeroValue41 rfl) ?_
    refine Jp.y 113 rfl (qab rfl rfl rfl rfl) rfl rfl Kp.true (Y.eqlV (xs:=(qaf (qch ovY 2)).toArray) (ys:=(qaf zeroT).toArray) (r:=true) rfl rfl rfl tg_guard (fun w=>by rw [tg_eqd 9998 rfl rfl,decide_eq_true (by kernel_rfl)])) ?_
    refine Jp.y 114 rfl (qaa rfl) rfl rfl Kp.true (Y.qba rfl rfl rfl) ?_
    refine Jp.y 4 rfl (qaa rfl) rfl rfl Kp.true (Y.assign rfl rfl) ?_
    refine Jp.qae hK27 ?_
    refine Cd.ret [] rfl (qbe rfl rfl) trivial ⟨rfl,rfl⟩
end Go.Proofs.Ytnfkalpgidiafaa

namespace Go.Proofs.Ytnfkalpgidiafaa
open Go Go.ChangeShapes Go.WideShapes Go.ChangeAt Go.RowKit
theorem Rdd.array {P : Program} {w : World} {t e : TypeId} {cs : List Value} {n : Nat} (hu : P.underlying t = some (.array n e)) (h : Rdd P w t cs) :
  cs.length = P.cellsOf t ∧ ∀ i,i < n → Rdd P w e ((cs.drop (i * P.cellsOf e)).take (P.cellsOf e)):=by
 obtain ⟨H,enc,base,spare,held,fuel,d,ps,h,hs⟩:=h
 obtain ⟨xs,m,rfl,h2,h3,h4,h5⟩:=DataW.trod_array hu h
 injection h2 with h2 _
 subst h2
 refine ⟨h3,fun i hi=>?_⟩
 have e1 : xs[i]? = some (xs[i]'(by omega)):=by simp [show i < xs.length by omega]
 refine ⟨H,enc,base,spare,held,m,(xs[i]'(by omega)).1,(xs[i]'(by omega)).2,(h5 i hi).trans e1,fun k hk=>hs k ?_⟩
 rw [DataW.weights,hu]
 exact qft hk (List.mem_map.2 ⟨_,List.getElem_mem _,rfl⟩)
end Go.Proofs.Ytnfkalpgidiafaa

namespace Go.Proofs.Ytnfkalpgidiafaa
open _root_.Go.Proofs.Try
open Go Go.ChangeShapes Go.WideShapes Go.ChangeAt Go.RowKit
theorem cells_5_L13Ro : Try.prog.cellsOf 5 = 1:=by kernel_rfl
theorem bytes_5_L13Ro : 1 ≤ Try.prog.bytesOf 5:=of_decide_eq_true (by kernel_rfl)
theorem w5 (W : World) {b : Nat} (v0 v1 : Value) (o0 : Value.okWide Try.prog W .any b 58 v0) (o1 : Value.okWide Try.prog W .any b 31 v1) (q0 : Rdd Try.prog W 58 v0.cells.toList) (q1 : Rdd Try.prog W 31 v1.cells.toList) :
  Calls Try.prog 5 #[v0,v1] W fun e w'=>e = .returned (.bool true) ∧ Below W.heap.size W w':=by
 obtain ⟨s0,e0,r0⟩:=Rdd.u8s underlying58 underlying5 cells_5_L13Ro bytes_5_L13Ro q0
 obtain rfl:=val_slice (w:=W) underlying58 o0 e0
 obtain ⟨n1,e1,f1⟩:=Rdd.int underlying31 q1
 obtain rfl:=val_int (w:=W) underlying31 o1 e1
 obtain ⟨n1,rfl,h1⟩:=wf_u32 f1
 exact (qgi s0.A s0.c s0.xs n1 h1).walk W r0
end Go.Proofs.Ytnfkalpgidiafaa
