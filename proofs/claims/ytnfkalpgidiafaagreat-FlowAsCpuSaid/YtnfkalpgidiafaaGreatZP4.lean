import Derived.Test.YtnfkalpgidiafaaGreatZP1
import Derived.Test.YtnfkalpgidiafaaGreatZP2
import Derived.Test.YtnfkalpgidiafaaGreatZP3
set_option linter.unusedVariables false
set_option linter.unusedSimpArgs false
set_option maxRecDepth 100000
namespace Go.Proofs.YtnfkalpgidiafaaGreat
open _root_.Go.Proofs.Tryz
open Go
structure Pg where
 b : List UInt8
 perm : Nat
structure MemG where
 budget : Nat
 pages : List (Nat × Pg)
 gens : Nat → Nat
def qao : List (Nat × Pg) → Nat → Option Pg
 | [],_=>none
 | (x,p) :: l,k=>if x = k then some p else qao l k
def qbt (l : List (Nat × Pg)) (k : Nat) (p : Pg) : List (Nat × Pg):=l.map fun x=>if x.1 = k then (k,p) else x
def qfd (k : Nat) (p : Pg) : List (Nat × Pg) → List (Nat × Pg)
 | []=>[(k,p)]
 | x :: l=>if k < x.1 then (k,p) :: x :: l else x :: qfd k p l
def Rising (l : List (Nat × Pg)) : Prop:=l.Pairwise fun x y=>x.1 < y.1
structure PgOk (x : Nat × Pg) : Prop where
 al : x.1 % 256 = 0
 lt : x.1 < 4294967296
 len : x.2.b.length = 256
 perm : x.2.perm ≤ 7
structure MemOk (M : MemG) : Prop where
 rising : Rising M.pages
 page : ∀ x ∈ M.pages,PgOk x
 gens : ∀ k,M.gens k < 4294967296
 room : M.pages.length ≤ M.budget
 budget : 1 ≤ M.budget ∧ M.budget ≤ 4096
def qap (a : Nat) : Nat:=a - a % 256
def bump (g : Nat → Nat) (k : Nat) : Nat → Nat:=fun x=>if x = k then (g k + 1) % 4294967296 else g x
def may (perm : Nat) (need : Int) : Bool:=qci .and .i64 perm need == need
def qei (a n : Nat) : Option Nat:=if 0 < n ∧ a % 256 = 0 ∧ a + (n + 255) / 256 * 256 ≤ 4294967296 then some ((n + 255) / 256) else none
def inS (a many k : Nat) : Bool:=decide (a ≤ k) && decide (k < a + many * 256)
def qeh (M : MemG) (a many : Nat) : List Nat:=(M.pages.filter fun x=>inS a many x.1).map (·.1)
def qdy (a : Nat) (size : Int) : Bool:=(size == 1 || size == 2 || size == 4) && ((a : Int) % size == 0)
def qcv (M : MemG) (a : Nat) (size need : Int) : Int:=if qdy a size = false then 3 else match qao M.pages (qap a) with
 | none=>1
 | some p=>if may p.perm need then 0 else 2
def qdq (M : MemG) (a : Nat) (size need : Int) : Nat × Int := if qcv M a size need = 0 then (match qao M.pages (qap a) with
 | some p=>leN ((p.b.drop (a % 256)).take size.toNat)
 | none => 0, 0) else (0, qcv M a size need)
def stPg (p : Pg) (off n v : Nat) : Pg:=⟨lay p.b off (leB v n),p.perm⟩
def qel (M : MemG) (a : Nat) (size : Int) (v : Nat) : Int × MemG := if qcv M a size 2 = 0 then (0, match qao M.pages (qap a) with
 | some p=>{ M with pages:=qbt M.pages (qap a) (stPg p (a % 256) size.toNat v),gens:=bump M.gens (qap a) }
 | none => M) else (qcv M a size 2, M)
def permM (M : MemG) (a : Nat) : Int × Bool:=match qao M.pages (qap a) with
 | some p=>(p.perm,true)
 | none=>(0,false)
def newM (budget : Nat) : MemG:=⟨budget,[],fun _=>0⟩
def qdt (M : MemG) (a perm : Nat) : Nat → MemG
 | 0=>M
 | i + 1=>{ qdt M a perm i with pages:=qfd (a + 256 * i) ⟨List.replicate 256 0,perm⟩ (qdt M a perm i).pages,gens:=bump (qdt M a perm i).gens (a + 256 * i) }
def mapM (M : MemG) (a n : Nat) (perm : Int) : Int × MemG:=match qei a n with
 | none=>(1,M)
 | some many=>if perm < 0 ∨ 7 < perm then (1,M) else if 0 < (qeh M a many).length then (5,M) else if M.budget - M.pages.length < many then (6,M) else (0,qdt M a perm.toNat many)
theorem qbc {l : List (Nat × Pg)} {k : Nat} {p : Pg} (h : qao l k = some p) : (k,p) ∈ l:=by
 induction l with
 | nil=>cases h
 | cons x l ih =>
  obtain ⟨x,q⟩:=x
  simp only [qao] at h
  split at h
  ·rename_i e; subst e; injection h with h; subst h; exact List.mem_cons_self ..
  ·exact List.mem_cons_of_mem _ (ih h)
theorem Rising.nodup {l : List (Nat × Pg)} (h : Rising l) : (l.map (·.1)).Nodup:=by
 rw [List.Nodup,List.pairwise_map]
 exact h.imp fun h=>by omega
theorem qcd {l : List (Nat × Pg)} (hn : (l.map (·.1)).Nodup) {k : Nat} {p : Pg} (h : (k,p) ∈ l) : qao l k = some p:=by
 induction l with
 | nil=>cases h
 | cons x l ih =>
  obtain ⟨x,q⟩:=x
  rw [List.map_cons,List.nodup_cons] at hn
  simp only [qao]
  rcases List.mem_cons.1 h with h0 | h0
  ·injection h0 with h1 h2; subst h1 h2; simp
  ·rw [if_neg,ih hn.2 h0]
   intro e; subst e
   exact hn.1 (List.mem_map.2 ⟨(x,p),h0,rfl⟩)
theorem qbm {l : List (Nat × Pg)} {k : Nat} : qao l k = none ↔ k ∉ l.map (·.1):=by
 induction l with
 | nil=>simp [qao]
 | cons x l ih =>
  obtain ⟨x,q⟩:=x
  simp only [qao]
  by_cases h : x = k
  ·subst h; simp
  ·rw [if_neg h,ih]; simp [Ne.symm h]
theorem mget_pages {l : List (Nat × Pg)} (f : Nat → Value) (k : Nat) : qhm (l.map fun p=>((p.1 : Int),f p.1)) (k : Int) = (qao l k).map fun _=>f k:=by
 induction l with
 | nil=>rfl
 | cons x l ih =>
  obtain ⟨x,q⟩:=x
  rw [List.map_cons,qcl,ih]
  simp only [qao]
  by_cases h : x = k
  ·subst h; simp
  ·rw [if_neg h,if_neg (by omega)]
theorem qem (l : List (Nat × Pg)) (k : Nat) (p : Pg) : (qbt l k p).map (·.1) = l.map (·.1):=by
 rw [qbt,List.map_map]
 apply List.map_congr_left
 intro x _
 simp only [Function.comp]
 split
 ·rename_i h; exact h.symm
 ·rfl
theorem setPg_map {α : Type} (l : List (Nat × Pg)) (k : Nat) (p : Pg) (f : Nat → α) : (qbt l k p).map (fun x=>f x.1) = l.map fun x=>f x.1:=by
 have:=congrArg (List.map f) (qem l k p)
 rw [List.map_map,List.map_map] at this
 exact this
theorem setPg_set (l : List (Nat × Pg)) (k : Nat) (p q : Pg) : qbt (qbt l k p) k q = qbt l k q:=by
 rw [qbt,qbt,qbt,List.map_map]
 apply List.map_congr_left
 intro x _
 simp only [Function.comp]
 by_cases h : x.1 = k <;> simp [h]
theorem setPg_same {l : List (Nat × Pg)} {k : Nat} {p : Pg} (hn : (l.map (·.1)).Nodup) (h : qao l k = some p) : qbt l k p = l:=by
 have : qbt l k p = l.map id:=List.map_congr_left fun x hx=>by
  split
  ·rename_i e
   have h2 : qao l x.1 = some x.2:=qcd hn hx
   rw [e,h] at h2
   injection h2 with h2
   subst h2
   rw [← e]; rfl
  ·rfl
 rw [this,List.map_id]
theorem qhs (l : List (Nat × Pg)) (k : Nat) (p : Pg) (k' : Nat) : qao (qbt l k p) k' = if k' = k then (qao l k).map (fun _=>p) else qao l k':=by
 induction l with
 | nil=>simp [qbt,qao]
 | cons x l ih =>
  obtain ⟨x,q⟩:=x
  have e : qbt ((x,q) :: l) k p = (if x = k then (k,p) else (x,q)) :: qbt l k p:=rfl
  rw [e]
  by_cases h : x = k
  ·subst h
   simp only [if_true,qao]
   by_cases h' : k' = x
   ·subst h'; simp
   ·rw [if_neg (Ne.symm h'),ih,if_neg h',if_neg h',if_neg (Ne.symm h')]
  ·rw [if_neg h]
   simp only [qao]
   by_cases h' : x = k'
   ·subst h'; simp [h]
   ·rw [if_neg h',if_neg h',ih]; by_cases h2 : k' = k
    ·subst h2; simp [h]
    ·simp [h2]
theorem Rising.set {l : List (Nat × Pg)} (h : Rising l) (k : Nat) (p : Pg) : Rising (qbt l k p):=by
 have e:=qem l k p
 have h1 : (l.map (·.1)).Pairwise (· < ·):=List.pairwise_map.2 h
 rw [← e] at h1
 exact List.pairwise_map.1 h1
theorem MemOk.set {M : MemG} (h : MemOk M) {k : Nat} {p p' : Pg} (hg : qao M.pages k = some p) (h1 : p'.b.length = 256) (h2 : p'.perm ≤ 7) : MemOk { M with pages:=qbt M.pages k p' }:=by
 refine ⟨h.rising.set k p',fun x hx=>?_,h.gens,?_,h.budget⟩
 ·obtain ⟨y,hy,rfl⟩:=List.mem_map.1 hx
  have:=h.page y hy
  split
  ·rename_i e
   exact ⟨by rw [← e]; exact this.al,by rw [← e]; exact this.lt,h1,h2⟩
  ·exact this
 ·show (qbt M.pages k p').length ≤ _
  rw [qbt,List.length_map]; exact h.room
theorem MemOk.bump {M : MemG} (h : MemOk M) (k : Nat) : MemOk { M with gens:=bump M.gens k } :=
 ⟨h.rising, h.page, fun x => by
  show YtnfkalpgidiafaaGreat.bump M.gens k x < _
  unfold YtnfkalpgidiafaaGreat.bump
  split
  ·omega
  ·exact h.gens x, h.room, h.budget⟩
theorem qby (k : Nat) (p : Pg) (l : List (Nat × Pg)) : (qfd k p l).Perm ((k,p) :: l):=by
 induction l with
 | nil=>exact List.Perm.refl _
 | cons x l ih =>
  simp only [qfd]
  split
  ·exact List.Perm.refl _
  ·exact (ih.cons x).trans (List.Perm.swap ..)
theorem Rising.ins {l : List (Nat × Pg)} (h : Rising l) {k : Nat} (p : Pg) (hk : k ∉ l.map (·.1)) : Rising (qfd k p l):=by
 induction l with
 | nil=>exact List.pairwise_singleton ..
 | cons x l ih =>
  have hx:=List.pairwise_cons.1 h
  simp only [List.map_cons,List.mem_cons,not_or] at hk
  simp only [qfd]
  split
  ·rename_i hlt
   refine List.pairwise_cons.2 ⟨fun y hy=>?_,h⟩
   rcases List.mem_cons.1 hy with rfl | hy
   ·exact hlt
   ·exact Nat.lt_trans hlt (hx.1 y hy)
  ·rename_i hge
   refine List.pairwise_cons.2 ⟨fun y hy=>?_,ih hx.2 hk.2⟩
   have hm:=(qby k p l).mem_iff.1 hy
   rcases List.mem_cons.1 hm with rfl | hm
   ·show x.1 < k; have:=hk.1; omega
   ·exact hx.1 y hm
theorem MemOk.ins {M : MemG} (h : MemOk M) {k : Nat} {p : Pg} (hk : k ∉ M.pages.map (·.1)) (h1 : k % 256 = 0) (h2 : k < 4294967296) (h3 : p.b.length = 256) (h4 : p.perm ≤ 7) (hr : M.pages.length < M.budget) : MemOk { M with pages:=qfd k p M.pages }:=by
 refine ⟨h.rising.ins p hk,fun x hx=>?_,h.gens,?_,h.budget⟩
 ·have hm:=(qby k p M.pages).mem_iff.1 hx
  rcases List.mem_cons.1 hm with rfl | hm
  ·exact ⟨h1,h2,h3,h4⟩
  ·exact h.page x hm
 ·show (qfd k p M.pages).length ≤ M.budget
  rw [(qby k p M.pages).length_eq,List.length_cons]; omega
theorem qib (M : MemG) (a perm i : Nat) : (qdt M a perm i).budget = M.budget:=by
 induction i with
 | zero=>rfl
 | succ i ih=>exact ih
theorem addPgs_length (M : MemG) (a perm i : Nat) : (qdt M a perm i).pages.length = M.pages.length + i:=by
 induction i with
 | zero=>rfl
 | succ i ih =>
  show (qfd _ _ _).length = _
  rw [(qby _ _ _).length_eq,List.length_cons,ih]; omega
theorem addPgs_mem {M : MemG} {a perm i k : Nat} (h : k ∈ (qdt M a perm i).pages.map (·.1)) : k ∈ M.pages.map (·.1) ∨ ∃ j,j < i ∧ k = a + 256 * j:=by
 induction i with
 | zero=>exact .inl h
 | succ i ih =>
  have h2 : k ∈ ((a + 256 * i,(⟨List.replicate 256 0,perm⟩ : Pg)) :: (qdt M a perm i).pages).map (·.1):=((qby _ _ _).map _).mem_iff.1 h
  rw [List.map_cons,List.mem_cons] at h2
  rcases h2 with h2 | h2
  ·exact .inr ⟨i,by omega,h2⟩
  ·rcases ih h2 with h3 | ⟨j,h3,h4⟩
   ·exact .inl h3
   ·exact .inr ⟨j,by omega,h4⟩
theorem within_none {M : MemG} {a many : Nat} (h : (qeh M a many).length = 0) {k : Nat} (hk : inS a many k = true) : k ∉ M.pages.map (·.1):=by
 intro hm
 obtain ⟨x,hx,rfl⟩:=List.mem_map.1 hm
 have : x.1 ∈ qeh M a many:=List.mem_map.2 ⟨x,List.mem_filter.2 ⟨hx,hk⟩,rfl⟩
 rw [List.length_eq_zero_iff.1 h] at this
 cases this
end Go.Proofs.YtnfkalpgidiafaaGreat
set_option linter.unusedVariables false
set_option linter.unusedSimpArgs false
set_option maxRecDepth 100000
namespace Go.Proofs.YtnfkalpgidiafaaGreat
open _root_.Go.Proofs.Tryz
open Go
theorem qcs (a : Nat) (ha : a < 4294967296) : Spec Tryz.prog 64 #[.int .u32 a] (fun _=>True) [] (fun ρ ρ' v L=>ρ' = ρ ∧ v = .int .u32 (qap a) ∧ L = []):=by
 refine Spec.of 7 Tryz.func64 rfl Tryz.ntmps64 [(0,_)] rfl rfl ?_
 intro cx ρ hr h0
 refine Cd.seq fun K1 hK1=>?_
 refine Cd.qac [(0,false)] rfl rfl ?_
 refine Jp.y 2 rfl (qaa rfl) rfl rfl Kp.true (Y.assign rfl rfl) ?_
 refine Jp.qae hK1 ?_
 refine Cd.seq fun K2 hK2=>?_
 refine Cd.qac [(0,false),(1,false),(2,false),(3,false),(4,false)] rfl rfl ?_
 refine Jp.y 3 rfl (qaa rfl) rfl rfl Kp.true (Y.move rfl rfl) ?_
 refine Jp.y 4 rfl (qaa rfl) rfl rfl Kp.true (Y.move rfl rfl) ?_
 refine Jp.y 5 rfl (qaa rfl) rfl rfl Kp.true (by exact Y.remN rfl rfl rfl (by omega) (by omega)) ?_
 refine Jp.y 6 rfl (qaa rfl) rfl rfl Kp.true (Y.qfm rfl rfl rfl (qba (by omega) (by omega))) ?_
 refine Jp.y 2 rfl (qaa rfl) rfl rfl Kp.true (Y.assign rfl rfl) ?_
 refine Jp.qae hK2 ?_
 refine Cd.ret [] rfl (qbd rfl rfl) trivial ⟨rfl,congrArg (Value.int .u32) (by unfold qap; omega),rfl⟩
theorem stretch_spec (a n : Nat) (ha : a < 4294967296) (hn : n < 4294967296) : Spec Tryz.prog 33 #[.int .u32 a,.int .u32 n] (fun _=>True) [] (fun ρ ρ' v L=>ρ' = ρ ∧ v = .tuple #[.int .u64 (((n + 255) / 256 : Nat) : Int),.bool (qei a n).isSome] ∧ L = []):=by
 refine Spec.of 28 Tryz.func33 rfl Tryz.ntmps33 [(0,_),(1,_)] rfl rfl ?_
 intro cx ρ hr h0
 refine Cd.seq fun K3 hK3=>?_
 refine Cd.qac [(0,false),(1,false)] rfl rfl ?_
 refine Jp.y 4 rfl (qaa rfl) rfl rfl Kp.true (Y.assign rfl rfl) ?_
 refine Jp.y 5 rfl (qaa rfl) rfl rfl Kp.true (Y.assign rfl rfl) ?_
 refine Jp.qae hK3 ?_
 refine Cd.seq fun K4 hK4=>?_
 refine Cd.qac [(0,false),(1,false),(2,false),(3,false),(4,false),(5,false)] rfl rfl ?_
 refine Jp.y 7 rfl (qaa rfl) rfl rfl Kp.true (Y.move rfl rfl) ?_
 refine Jp.y 8 rfl (qaa rfl) rfl rfl Kp.true (Y.qaw rfl rfl underlying24 underlying103 (by exact qbh (by omega) (by omega))) ?_
 refine Jp.y 9 rfl (qaa rfl) rfl rfl Kp.true (Y.qcj rfl rfl rfl (by exact qbh (by omega) (by omega))) ?_
 refine Jp.y 10 rfl (qaa rfl) rfl rfl Kp.true (Y.qfm rfl rfl rfl (by exact qbh (by omega) (by omega))) ?_
 refine Jp.y 11 rfl (qaa rfl) rfl rfl Kp.true (by exact Y.quoN rfl rfl rfl (by omega) (by omega) (qbh (by omega) (by omega))) ?_
 refine Jp.y 6 rfl (qaa rfl) rfl rfl Kp.true (Y.assign rfl rfl) ?_
 refine Jp.qae hK4 ?_
 refine Cd.seq fun K5 hK5=>?_
 refine Cd.qac [(0,false),(1,false),(2,false),(3,false),(4,false),(5,false),(6,false),(7,false),(8,false),(9,false),(10,false),(11,false),(12,false),(13,false),(14,false),(15,false),(16,false),(17,false)] rfl rfl ?_
 refine Jp.y 12 rfl (qaa rfl) rfl rfl Kp.true (Y.move rfl rfl) ?_
 refine Jp.y 13 rfl (qaa rfl) rfl rfl Kp.true (Y.move rfl rfl) ?_
 refine Jp.y 14 rfl (qaa rfl) rfl rfl Kp.true (Y.gtr rfl rfl rfl) ?_
 refine Jp.y 15 rfl (qaa rfl) rfl rfl Kp.true (Y.move rfl rfl) ?_
 refine Jp.split 15 rfl (fun g15=>?_) (fun g15=>?_)
 ·skip
  try simp only [sG0] at g15
  refine Jp.y 16 rfl (qab rfl rfl rfl rfl) rfl rfl Kp.true (Y.move rfl rfl) ?_
  refine Jp.y 17 rfl (qab rfl rfl rfl rfl) rfl rfl Kp.true (by exact Y.remN rfl rfl rfl (by omega) (by omega)) ?_
  refine Jp.y 18 rfl (qab rfl rfl rfl rfl) rfl rfl Kp.true (Y.eql rfl rfl rfl) ?_
  refine Jp.y 19 rfl (qaa rfl) rfl rfl Kp.true (Y.qav rfl rfl rfl) ?_
  refine Jp.y 20 rfl (qaa rfl) rfl rfl Kp.true (Y.move rfl rfl) ?_
  refine Jp.split 20 rfl (fun g20=>?_) (fun g20=>?_)
  ·skip
   try simp only [sG0] at g20
   refine Jp.y 21 rfl (qab rfl rfl rfl rfl) rfl rfl Kp.true (Y.move rfl rfl) ?_
   refine Jp.y 22 rfl (qab rfl rfl rfl rfl) rfl rfl Kp.true (Y.qaw rfl rfl underlying24 underlying103 (by exact qbh (by omega) (by omega))) ?_
   refine Jp.y 23 rfl (qab rfl rfl rfl rfl) rfl rfl Kp.true (Y.move rfl rfl) ?_
   refine Jp.y 24 rfl (qab rfl rfl rfl rfl) rfl rfl Kp.true (Y.mul_ rfl rfl rfl (by exact qbh (by omega) (by omega))) ?_
   refine Jp.y 25 rfl (qab rfl rfl rfl rfl) rfl rfl Kp.true (Y.qcj rfl rfl rfl (by exact qbh (by omega) (by omega))) ?_
   refine Jp.y 26 rfl (qab rfl rfl rfl rfl) rfl rfl Kp.true (Y.leq rfl rfl rfl) ?_
   refine Jp.y 27 rfl (qaa rfl) rfl rfl Kp.true (Y.qav rfl rfl rfl) ?_
   refine Jp.y 4 rfl (qaa rfl) rfl rfl Kp.true (Y.assign rfl rfl) ?_
   refine Jp.y 5 rfl (qaa rfl) rfl rfl Kp.true (Y.assign rfl rfl) ?_
   refine Jp.qae hK5 ?_
   refine Cd.ret [] rfl (qbx rfl rfl rfl) trivial ⟨rfl,?_,rfl⟩
   rw [qei]; split <;> simp <;> omega
  ·skip
   try simp only [sG0] at g20
   refine Jp.qaq 21 rfl (qab rfl rfl rfl rfl) rfl rfl Kp.true ?_
   refine Jp.qaq 22 rfl (qab rfl rfl rfl rfl) rfl rfl Kp.true ?_
   refine Jp.qaq 23 rfl (qab rfl rfl rfl rfl) rfl rfl Kp.true ?_
   refine Jp.qaq 24 rfl (qab rfl rfl rfl rfl) rfl rfl Kp.true ?_
   refine Jp.qaq 25 rfl (qab rfl rfl rfl rfl) rfl rfl Kp.true ?_
   refine Jp.qaq 26 rfl (qab rfl rfl rfl rfl) rfl rfl Kp.true ?_
   refine Jp.y 27 rfl (qaa rfl) rfl rfl Kp.true (Y.qay rfl rfl rfl) ?_
   refine Jp.y 4 rfl (qaa rfl) rfl rfl Kp.true (Y.assign rfl rfl) ?_
   refine Jp.y 5 rfl (qaa rfl) rfl rfl Kp.true (Y.assign rfl rfl) ?_
   refine Jp.qae hK5 ?_
   refine Cd.ret [] rfl (qbx rfl rfl rfl) trivial ⟨rfl,?_,rfl⟩
   rw [qei]; split <;> simp <;> omega
 ·skip
  try simp only [sG0] at g15
  refine Jp.qaq 16 rfl (qab rfl rfl rfl rfl) rfl rfl Kp.true ?_
  refine Jp.qaq 17 rfl (qab rfl rfl rfl rfl) rfl rfl Kp.true ?_
  refine Jp.qaq 18 rfl (qab rfl rfl rfl rfl) rfl rfl Kp.true ?_
  refine Jp.y 19 rfl (qaa rfl) rfl rfl Kp.true (Y.qay rfl rfl rfl) ?_
  refine Jp.y 20 rfl (qaa rfl) rfl rfl Kp.true (Y.move rfl rfl) ?_
  refine Jp.qaq 21 rfl (qab rfl rfl rfl rfl) rfl rfl Kp.true ?_
  refine Jp.qaq 22 rfl (qab rfl rfl rfl rfl) rfl rfl Kp.true ?_
  refine Jp.qaq 23 rfl (qab rfl rfl rfl rfl) rfl rfl Kp.true ?_
  refine Jp.qaq 24 rfl (qab rfl rfl rfl rfl) rfl rfl Kp.true ?_
  refine Jp.qaq 25 rfl (qab rfl rfl rfl rfl) rfl rfl Kp.true ?_
  refine Jp.qaq 26 rfl (qab rfl rfl rfl rfl) rfl rfl Kp.true ?_
  refine Jp.y 27 rfl (qaa rfl) rfl rfl Kp.true (Y.qay rfl rfl rfl) ?_
  refine Jp.y 4 rfl (qaa rfl) rfl rfl Kp.true (Y.assign rfl rfl) ?_
  refine Jp.y 5 rfl (qaa rfl) rfl rfl Kp.true (Y.assign rfl rfl) ?_
  refine Jp.qae hK5 ?_
  refine Cd.ret [] rfl (qbx rfl rfl rfl) trivial ⟨rfl,?_,rfl⟩
  rw [qei]; split <;> simp <;> omega
end Go.Proofs.YtnfkalpgidiafaaGreat
set_option linter.unusedVariables false
set_option linter.unusedSimpArgs false
set_option maxRecDepth 100000
namespace Go.Proofs.YtnfkalpgidiafaaGreat
open _root_.Go.Proofs.Tryz
open Go
structure MemX where
 pb : Nat
 gb : Nat
 pm : qcp
 gm : qcp
 blk : Nat → Nat
def pgPtr (x : MemX) (k : Nat) : Value:=.pointer (some ⟨x.blk k,0,none⟩)
structure MemF (M : MemG) (x : MemX) : Prop where
 ok : MemOk M
 pages : x.pm.Perm (M.pages.map fun p=>((p.1 : Int),pgPtr x p.1))
 gens : ∀ k : Nat,(qhm x.gm k).getD (.int .u32 0) = .int .u32 (M.gens k)
def qbb (p : Pg) : List Value:=qaf p.b ++ [.int .i64 p.perm]
def pageO (p : Pg) : Obj:=.cells (qbb p).toArray 109
def qcx (M : MemG) (x : MemX) : Obj:=.cells #[.int .i64 M.budget,.map (some x.pb),.map (some x.gb)] 102
def qbp (M : MemG) (x : MemX) : List (Nat × Obj):=M.pages.map fun p=>(x.blk p.1,pageO p.2)
def qew (b : Nat) (M : MemG) : qax:=Ex fun x : MemX=>Fact (MemF M x) (Sep (Pt b (qcx M x)) (Sep (qcn .u32 x.pb x.pm) (Sep (qcn .u32 x.gb x.gm) (Blks (qbp M x)))))
theorem MemF.get {M : MemG} {x : MemX} (f : MemF M x) (k : Nat) : qhm x.pm (k : Int) = (qao M.pages k).map fun _=>pgPtr x k:=by
 rw [mget_perm f.pages,mget_pages (pgPtr x)]
 have h:=f.ok.rising.nodup
 rw [List.map_map]
 have e : ((fun x=>x.1) ∘ fun p : Nat × Pg=>((p.1 : Int),pgPtr x p.1)) = (fun k : Nat=>(k : Int)) ∘ fun p=>p.1:=rfl
 rw [e,← List.map_map]
 rw [List.Nodup,List.pairwise_map]
 exact h.imp fun h=>by omega
section
variable {P : Program} {n : Nat} {cx : Cx} {ρ : Hp} {E : Env} {L : Own} {ops : Array Oper} {Q : Exit → Act → World → Prop} {S' : World → Prop} {π : List (Nat × Bool)}
theorem St.memOpen {w : World} (hs : St cx ρ L w) {b : Nat} {M : MemG} (j j1 j2 j3 : Nat) (hd : [j,j1,j2,j3].Nodup) (e : look L j = some (qew b M)) :
  ∃ x,MemF M x ∧ St cx ρ ((j,Pt b (qcx M x)) :: (j1,qcn .u32 x.pb x.pm) :: (j2,qcn .u32 x.gb x.gm) :: (j3,Blks (qbp M x)) :: L) w:=by
 obtain ⟨x,h1⟩:=hs.ex' e
 obtain ⟨hf,h2⟩:=h1.fact (j:=j) (by rw [qag,if_pos rfl])
 simp only [List.nodup_cons,List.mem_cons,not_or,List.not_mem_nil,not_false_eq_true,List.nodup_nil,and_true] at hd
 obtain ⟨⟨d1,d2,d3⟩,⟨d4,d5⟩,d6⟩:=hd
 have h3:=h2.part (j:=j) (k:=j1) d1 (by rw [qag,if_pos rfl])
 have h4:=h3.part (j:=j1) (k:=j2) d4 (by rw [qag,if_neg d1,qag,if_pos rfl])
 have h5:=h4.part (j:=j2) (k:=j3) d6 (by rw [qag,if_neg d4,qag,if_pos rfl])
 refine ⟨x,hf,h5.subF fun q C hq=>?_⟩
 simp only [qag] at hq ⊢
 by_cases q0 : j = q <;> by_cases q1 : j1 = q <;> by_cases q2 : j2 = q <;> by_cases q3 : j3 = q <;> simp only [q0,q1,q2,q3,if_true,if_false] at hq ⊢ <;> first | exact hq | (exfalso; omega)
theorem St.memClose {w : World} (hs : St cx ρ L w) {b : Nat} {M : MemG} {x : MemX} (j j1 j2 j3 : Nat) (hd : [j,j1,j2,j3].Nodup) (hf : MemF M x) (e : look L j = some (Pt b (qcx M x))) (e1 : look L j1 = some (qcn .u32 x.pb x.pm)) (e2 : look L j2 = some (qcn .u32 x.gb x.gm)) (e3 : look L j3 = some (Blks (qbp M x))) :
  St cx ρ ((j,qew b M) :: (j1,Emp) :: (j2,Emp) :: (j3,Emp) :: L) w:=by
 simp only [List.nodup_cons,List.mem_cons,not_or,List.not_mem_nil,not_false_eq_true,List.nodup_nil,and_true] at hd
 obtain ⟨⟨d1,d2,d3⟩,⟨d4,d5⟩,d6⟩:=hd
 have h3:=hs.glue (j:=j2) (k:=j3) d6 e2 e3
 have h4:=h3.glue (j:=j1) (k:=j2) d4 (by rw [qag,if_neg (Ne.symm d4),qag,if_neg (Ne.symm d5)]; exact e1) (by rw [qag,if_pos rfl])
 have h5:=h4.glue (j:=j) (k:=j1) d1 (by rw [qag,if_neg (Ne.symm d1),qag,if_neg (Ne.symm d2),qag,if_neg (Ne.symm d2),qag,if_neg (Ne.symm d3)]; exact e) (by rw [qag,if_pos rfl])
 have h6:=h5.imp (i:=j) (A':=qew b M) (by rw [qag,if_pos rfl]) fun k hk=>⟨x,hf,hk⟩
 refine h6.subF fun q C hq=>?_
 simp only [qag] at hq ⊢
 by_cases q0 : j = q <;> by_cases q1 : j1 = q <;> by_cases q2 : j2 = q <;> by_cases q3 : j3 = q <;> simp only [q0,q1,q2,q3,if_true,if_false] at hq ⊢ <;> first | exact hq | (exfalso; omega)
theorem Cd.memOpen {d : Code} {b : Nat} {M : MemG} (j j1 j2 j3 : Nat) (hd : [j,j1,j2,j3].Nodup) (e : look L j = some (qew b M))
  (h : ∀ x,MemF M x → Cd P Q n cx ρ E ((j,Pt b (qcx M x)) :: (j1,qcn .u32 x.pb x.pm) :: (j2,qcn .u32 x.gb x.gm) :: (j3,Blks (qbp M x)) :: L) d) : Cd P Q n cx ρ E L d:=fun a w ha hs =>
 let ⟨x,hf,h2⟩:=hs.memOpen j j1 j2 j3 hd e; h x hf a w ha h2
theorem Cd.memClose {d : Code} {b : Nat} {M : MemG} {x : MemX} (j j1 j2 j3 : Nat) (hd : [j,j1,j2,j3].Nodup) (hf : MemF M x) (e : look L j = some (Pt b (qcx M x))) (e1 : look L j1 = some (qcn .u32 x.pb x.pm)) (e2 : look L j2 = some (qcn .u32 x.gb x.gm)) (e3 : look L j3 = some (Blks (qbp M x)))
  (h : Cd P Q n cx ρ E ((j,qew b M) :: (j1,Emp) :: (j2,Emp) :: (j3,Emp) :: L) d) : Cd P Q n cx ρ E L d:=fun a w ha hs=>h a w ha (hs.memClose j j1 j2 j3 hd hf e e1 e2 e3)
end
end Go.Proofs.YtnfkalpgidiafaaGreat
set_option linter.unusedVariables false
set_option linter.unusedSimpArgs false
set_option maxRecDepth 100000
namespace Go.Proofs.YtnfkalpgidiafaaGreat
open _root_.Go.Proofs.Tryz
open Go
theorem within_spec (b : Nat) (M : MemG) (x : MemX) (hf : MemF M x) (a many : Nat) (ha : a < 4294967296) (hm : many ≤ 16777216) : Spec Tryz.prog 34 #[.pointer (some ⟨b,0,none⟩),.int .u32 a,.int .u64 many] (fun _=>True) [(0,Pt b (qcx M x)),(1,qcn .u32 x.pb x.pm)]
  (fun ρ ρ' v L=>ρ' = ρ ∧ ∃ l A c,l.Perm (qeh M a many) ∧ v = .slice A l.length c ∧ L = [(0,Pt b (qcx M x)),(1,qcn .u32 x.pb x.pm),(2,OwnS 24 1 A l.length c (qbk .u32 l))]):=by
 refine Spec.of 36 Tryz.func34 rfl Tryz.ntmps34 [(0,_),(1,_),(2,_)] rfl rfl ?_
 intro cx ρ hr h0
 have hlen:=hf.pages.length_eq
 have hroom:=hf.ok.room
 have hbud:=hf.ok.budget.2
 refine Cd.make 2 (A:=OwnS 24 1 none 0 0 []) (OwnS.nil _ _ _) ?_
 refine Cd.seq fun K1 hK1=>?_
 refine Cd.qac [(0,false)] rfl rfl ?_
 refine Jp.y 6 rfl (qaa rfl) rfl rfl Kp.true (Y.assign rfl rfl) ?_
 refine Jp.qae hK1 ?_
 refine Cd.seq fun K2 hK2=>?_
 refine Cd.qac [(0,false)] rfl rfl ?_
 refine Jp.y 7 rfl (qaa rfl) rfl rfl Kp.true (Y.assign rfl rfl) ?_
 refine Jp.qae hK2 ?_
 refine Cd.seq fun K3 hK3=>?_
 refine Cd.seq fun K4 hK4=>?_
 refine Cd.qac [(0,false),(1,false),(2,false),(3,false),(4,false)] rfl rfl ?_
 refine Jp.y 9 rfl (qaa rfl) rfl rfl Kp.true (Y.move rfl rfl) ?_
 refine Jp.y 10 rfl (qaa rfl) rfl rfl Kp.true (Y.qan rfl rfl) ?_
 refine Jp.y 11 rfl (qaa rfl) rfl rfl Kp.true (by exact Y.qad rfl rfl underlying102 rfl sizeOf99 (by decide) (show _ + 1 = _ from rfl)) ?_
 refine Jp.y 12 rfl (qaa rfl) rfl rfl Kp.true (Y.qau 0 rfl isAgg99 rfl rfl rfl) ?_
 first | refine Jp.range 13 1 50 (by decide) rfl (qaa rfl) rfl rfl rfl rfl underlying99 rfl fun r1=>⟨Kp.true,?_⟩
 refine Jp.qae hK4 ?_
 refine Cd.block ?_
 obtain ⟨K,hK⟩ : ∃ K : qcp → List Nat,K = fun l=>(l.filter fun y=>inS a many y.1.toNat).map fun y=>y.1.toNat:=⟨_,rfl⟩
 have hstart : (K x.pm).Perm (qeh M a many):=by
  rw [hK,qeh]
  refine ((hf.pages.filter _).map _).trans ?_
  rw [List.filter_map,List.map_map]
  exact List.Perm.of_eq rfl
 have hwl : (qeh M a many).length ≤ 4096:=by
  rw [qeh,List.length_map]
  exact Nat.le_trans (List.length_filter_le _ _) (Nat.le_trans hroom hbud)
 refine Cd.qdv (G:=qcp × List Nat × Option Addr × Nat × Option (Int × Value)) (fun g=>(g.2.1 ++ K g.1).Perm (qeh M a many) ∧ ∀ y ∈ g.1,y ∈ x.pm) (fun g=>g.1.length) (fun _=>_) (fun g=>[(7,.slice g.2.2.1 g.2.1.length g.2.2.2.1)]) [(1,_),(2,_),(13,_)] (fun g=>[(1,RangeO .u32 x.pb r1 x.pm g.1 g.2.2.2.2),(2,OwnS 24 1 g.2.2.1 g.2.1.length g.2.2.2.1 (qbk .u32 g.2.1))]) [(0,_)] ⟨x.pm,[],none,0,none⟩ ⟨hstart,fun y h=>h⟩ rfl ⟨rfl,trivial⟩ ⟨rfl,rfl,rfl,trivial⟩ ⟨rfl,rfl,trivial⟩ ⟨rfl,trivial⟩ (fun g KLa hok hLa=>?_)
 obtain ⟨left,l,A,c,cur⟩:=g
 obtain ⟨ok1,ok2⟩:=hok
 dsimp only at ok1 ok2 ⊢
 refine Cd.seq fun K5 hK5=>?_
 refine Cd.qac [(0,false),(1,false)] rfl rfl ?_
 refine Jp.next 14 1 rfl (qaa rfl) rfl rfl (fun _=>rfl) rfl rfl (fun hn=>⟨Kp.true,?_⟩) (fun q y hq=>⟨Kp.true,?_⟩)
 ·skip
  refine Jp.y 15 rfl (qaa rfl) rfl rfl Kp.true (Y.extract rfl rfl rfl) ?_
  refine Jp.qae hK5 ?_
  refine Cd.seq fun K6 hK6=>?_
  refine Cd.qbz rfl ?_
  refine Cd.exit rfl hK3 ?_
  refine Cd.seq fun K7 hK7=>?_
  refine Cd.qac [(0,false),(1,false)] rfl rfl ?_
  refine Jp.y 35 rfl (qaa rfl) rfl rfl Kp.true (Y.move rfl rfl) ?_
  refine Jp.y 6 rfl (qaa rfl) rfl rfl Kp.true (Y.assign rfl rfl) ?_
  refine Jp.qae hK7 ?_
  refine Cd.imp (i:=1) rfl RangeO.map ?_
  subst hn
  refine Cd.ret [(0,_),(1,_),(2,_)] rfl (qbd rfl rfl) ⟨rfl,rfl,rfl,trivial⟩ ⟨rfl,l,A,c,?_,rfl,rfl⟩
  simpa [hK] using ok1
 ·have hy:=ok2 y (List.mem_of_getElem? hq)
  obtain ⟨p,hp,hpy⟩:=List.mem_map.1 (hf.pages.mem_iff.1 hy)
  have hpo:=hf.ok.page p hp
  have hplt:=hpo.lt
  have hpe:=qge hq
  have hql:=(List.getElem?_eq_some_iff.1 hq).1
  have hel : (left.eraseIdx q).length < left.length:=by rw [List.length_eraseIdx]; split <;> omega
  have hsub : ∀ z ∈ left.eraseIdx q,z ∈ x.pm:=fun z hz=>ok2 z (List.mem_of_mem_eraseIdx hz)
  have hKl : (l ++ K left).length ≤ 4096:=by rw [ok1.length_eq]; exact hwl
  rw [List.length_append] at hKl
  subst hpy
  refine Jp.y 15 rfl (qaa rfl) rfl rfl Kp.true (Y.extract rfl rfl rfl) ?_
  refine Jp.qae hK5 ?_
  refine Cd.seq fun K8 hK8=>?_
  refine Cd.qcw rfl ?_
  refine Cd.qbu hK8 ?_
  refine Cd.block ?_
  refine Cd.seq fun K9 hK9=>?_
  refine Cd.qac [(0,false),(1,false),(2,false)] rfl rfl ?_
  refine Jp.y 16 rfl (qaa rfl) rfl rfl Kp.true (by first | exact Y.entry 1 rfl rfl rfl) ?_
  refine Jp.y 17 rfl (qaa rfl) rfl rfl Kp.true (Y.extract rfl rfl rfl) ?_
  refine Jp.y 8 rfl (qaa rfl) rfl rfl Kp.true (Y.assign rfl rfl) ?_
  refine Jp.qae hK9 ?_
  refine Cd.seq fun K10 hK10=>?_
  refine Cd.qac [(0,false),(1,false),(2,false),(3,false),(4,false),(5,false),(6,false),(7,false),(8,false),(9,false),(10,false),(11,false),(12,false)] rfl rfl ?_
  refine Jp.y 18 rfl (qaa rfl) rfl rfl Kp.true (Y.move rfl rfl) ?_
  refine Jp.y 19 rfl (qaa rfl) rfl rfl Kp.true (Y.move rfl rfl) ?_
  refine Jp.y 20 rfl (qaa rfl) rfl rfl Kp.true (Y.geq rfl rfl rfl) ?_
  refine Jp.y 21 rfl (qaa rfl) rfl rfl Kp.true (Y.move rfl rfl) ?_
  refine Jp.splitF 21 rfl (fun g21=>?_) (fun g21=>?_)
  ·skip
   refine Jp.qaq 22 rfl (qab rfl rfl rfl rfl) rfl rfl Kp.true ?_
   refine Jp.qaq 23 rfl (qab rfl rfl rfl rfl) rfl rfl Kp.true ?_
   refine Jp.qaq 24 rfl (qab rfl rfl rfl rfl) rfl rfl Kp.true ?_
   refine Jp.qaq 25 rfl (qab rfl rfl rfl rfl) rfl rfl Kp.true ?_
   refine Jp.qaq 26 rfl (qab rfl rfl rfl rfl) rfl rfl Kp.true ?_
   refine Jp.qaq 27 rfl (qab rfl rfl rfl rfl) rfl rfl Kp.true ?_
   refine Jp.qaq 28 rfl (qab rfl rfl rfl rfl) rfl rfl Kp.true ?_
   refine Jp.qaq 29 rfl (qab rfl rfl rfl rfl) rfl rfl Kp.true ?_
   refine Jp.y 30 rfl (qaa rfl) rfl rfl Kp.true (Y.qay rfl rfl rfl) ?_
   refine Jp.qae hK10 ?_
   refine Cd.qbz rfl ?_
   refine CdQ.again rfl hLa ⟨left.eraseIdx q,l,A,c,_⟩ ⟨(List.Perm.append_left l ?_).trans ok1,hsub⟩ hel rfl ⟨rfl,rfl,rfl,rfl,trivial⟩ ⟨rfl,rfl,rfl,trivial⟩
   have hin : inS a many p.1 = false:=by simp only [decide_eq_false_iff_not] at g21; simp only [inS,Bool.and_eq_false_iff,decide_eq_false_iff_not]; omega
   rw [hK]
   refine (((hpe.filter _).map _).trans ?_).symm
   rw [List.filter_cons_of_neg (by simp [hin])]
  try simp only [sG0] at g21
  refine Jp.y 22 rfl (qab rfl rfl rfl rfl) rfl rfl Kp.true (Y.move rfl rfl) ?_
  refine Jp.y 23 rfl (qab rfl rfl rfl rfl) rfl rfl Kp.true (Y.qaw rfl rfl underlying24 underlying103 (by exact qbh (by omega) (by omega))) ?_
  refine Jp.y 24 rfl (qab rfl rfl rfl rfl) rfl rfl Kp.true (Y.move rfl rfl) ?_
  refine Jp.y 25 rfl (qab rfl rfl rfl rfl) rfl rfl Kp.true (Y.qaw rfl rfl underlying24 underlying103 (by exact qbh (by omega) (by omega))) ?_
  refine Jp.y 26 rfl (qab rfl rfl rfl rfl) rfl rfl Kp.true (Y.move rfl rfl) ?_
  refine Jp.y 27 rfl (qab rfl rfl rfl rfl) rfl rfl Kp.true (Y.mul_ rfl rfl rfl (by exact qbh (by omega) (by omega))) ?_
  refine Jp.y 28 rfl (qab rfl rfl rfl rfl) rfl rfl Kp.true (Y.qcj rfl rfl rfl (by exact qbh (by omega) (by omega))) ?_
  refine Jp.y 29 rfl (qab rfl rfl rfl rfl) rfl rfl Kp.true (Y.lss rfl rfl rfl) ?_
  refine Jp.y 30 rfl (qaa rfl) rfl rfl Kp.true (Y.qav rfl rfl rfl) ?_
  refine Jp.qae hK10 ?_
  refine Cd.condF' rfl (fun g30=>?_) (fun g30=>?_)
  ·skip
   refine CdQ.again rfl hLa ⟨left.eraseIdx q,l,A,c,_⟩ ⟨(List.Perm.append_left l ?_).trans ok1,hsub⟩ hel rfl ⟨rfl,rfl,rfl,rfl,trivial⟩ ⟨rfl,rfl,rfl,trivial⟩
   have hin : inS a many p.1 = false:=by simp only [decide_eq_false_iff_not] at g30; simp only [inS,Bool.and_eq_false_iff,decide_eq_false_iff_not]; omega
   rw [hK]
   refine (((hpe.filter _).map _).trans ?_).symm
   rw [List.filter_cons_of_neg (by simp [hin])]
  try simp only [sG0] at g30
  refine Cd.qac [(0,false),(1,false),(2,false),(3,false),(4,false)] rfl rfl ?_
  refine Jp.y 31 rfl (qaa rfl) rfl rfl Kp.true (Y.move rfl rfl) ?_
  refine Jp.y 32 rfl (qaa rfl) rfl rfl Kp.true (Y.move rfl rfl) ?_
  refine Jp.lit 33 51 [(0,_)] [_] rfl (qaa rfl) rfl rfl rfl rfl underlying22 sizeOf24 zeroValue24 rfl rfl rfl rfl rfl fun b51=>⟨Kp.true,?_⟩
  have hin : inS a many p.1 = true:=by simp only [inS,Bool.and_eq_true,decide_eq_true_eq]; omega
  have hKp : (K left).Perm (p.1 :: K (left.eraseIdx q)):=by
   rw [hK]
   refine ((hpe.filter _).map _).trans ?_
   rw [List.filter_cons_of_pos (by simp [hin])]
   exact List.Perm.of_eq rfl
  have hKpl:=hKp.length_eq
  rw [List.length_cons] at hKpl
  refine Jp.append 34 2 rfl (qaa rfl) rfl rfl rfl underlying22 underlying22 (.inl ⟨_,rfl⟩) sizeOf24 Tryz.typeInfo24 zeroValue24 rfl (by decide) rfl rfl rfl (Src.own 51 rfl) rfl ((l.length + 1)) ((qbk .u32 (l ++ [p.1]))) (by first | omega | simp) (by simp [qbk]) (by simp only [Tryz.t24]; omega) fun AN cN=>⟨Kp.true,?_⟩
  refine Jp.y 7 rfl (qaa rfl) rfl rfl Kp.true (Y.assign rfl rfl) ?_
  rw [show l.length + 1 = (l ++ [p.1]).length by simp]
  refine JpQ.again rfl hLa ⟨left.eraseIdx q,l ++ [p.1],AN,cN,_⟩ ⟨?_,hsub⟩ hel rfl ⟨rfl,rfl,rfl,rfl,trivial⟩ ⟨rfl,rfl,rfl,trivial⟩
  rw [List.append_assoc]
  exact (List.Perm.append_left l (hKp.symm)).trans ok1
theorem qbv (p : Pg) (h : p.b.length = 256) : (qbb p).toArray[256]? = some (.int .i64 p.perm):=by
 simp [qbb,qaf,h]
theorem MemF.blk {M : MemG} {x : MemX} {k : Nat} {p : Pg} (h : qao M.pages k = some p) : (x.blk k,pageO p) ∈ qbp M x:=List.mem_map.2 ⟨(k,p),qbc h,rfl⟩
theorem look_spec (b : Nat) (M : MemG) (x : MemX) (hf : MemF M x) (a : Nat) (size need : Int) (ha : a < 4294967296) : Spec Tryz.prog 65 #[.pointer (some ⟨b,0,none⟩),.int .u32 a,.int .i64 size,.int .i64 need] (fun _=>True) [(0,Pt b (qcx M x)),(1,qcn .u32 x.pb x.pm),(2,Blks (qbp M x))]
    (fun ρ ρ' v L=>ρ' = ρ ∧ v = .tuple #[.pointer (if qcv M a size need = 0 then some ⟨x.blk (qap a),0,none⟩ else none),.int .i64 (qcv M a size need)] ∧ L = [(0,Pt b (qcx M x)),(1,qcn .u32 x.pb x.pm),(2,Blks (qbp M x))]):=by
  refine Spec.of 48 Tryz.func65 rfl Tryz.ntmps65 [(0,_),(1,_),(2,_),(3,_)] rfl rfl ?_
  intro cx ρ hr h0
  refine Cd.seq fun K11 hK11=>?_
  refine Cd.qac [(0,false),(1,false)] rfl rfl ?_
  refine Jp.y 8 rfl (qaa rfl) rfl rfl Kp.true (Y.assign rfl rfl) ?_
  refine Jp.y 9 rfl (qaa rfl) rfl rfl Kp.true (Y.assign rfl rfl) ?_
  refine Jp.qae hK11 ?_
  refine Cd.seq fun K12 hK12=>?_
  refine Cd.seq fun K13 hK13=>?_
  refine Cd.qac [(0,false),(1,false),(2,false),(3,false),(4,false),(5,false),(6,false),(7,false),(8,false),(9,false),(10,false),(11,false),(12,false),(13,false),(14,false),(15,false),(16,false)] rfl rfl ?_
  refine Jp.y 11 rfl (qaa rfl) rfl rfl Kp.true (Y.move rfl rfl) ?_
  refine Jp.y 12 rfl (qaa rfl) rfl rfl Kp.true (Y.neq rfl rfl rfl) ?_
  refine Jp.y 13 rfl (qaa rfl) rfl rfl Kp.true (Y.move rfl rfl) ?_
  refine Jp.split 13 rfl (fun g13=>?_) (fun g13=>?_)
  · skip
    try simp only [sG0] at g13
    refine Jp.y 14 rfl (qab rfl rfl rfl rfl) rfl rfl Kp.true (Y.move rfl rfl) ?_
    refine Jp.y 15 rfl (qab rfl rfl rfl rfl) rfl rfl Kp.true (Y.neq rfl rfl rfl) ?_
    refine Jp.y 16 rfl (qaa rfl) rfl rfl Kp.true (Y.qav rfl rfl rfl) ?_
    refine Jp.y 17 rfl (qaa rfl) rfl rfl Kp.true (Y.move rfl rfl) ?_
    refine Jp.split 17 rfl (fun g17=>?_) (fun g17=>?_)
    · skip
      try simp only [sG0] at g17
      refine Jp.y 18 rfl (qab rfl rfl rfl rfl) rfl rfl Kp.true (Y.move rfl rfl) ?_
      refine Jp.y 19 rfl (qab rfl rfl rfl rfl) rfl rfl Kp.true (Y.neq rfl rfl rfl) ?_
      refine Jp.y 20 rfl (qaa rfl) rfl rfl Kp.true (Y.qav rfl rfl rfl) ?_
      refine Jp.y 21 rfl (qaa rfl) rfl rfl Kp.true (Y.move rfl rfl) ?_
      refine Jp.split 21 rfl (fun g21=>?_) (fun g21=>?_)
      · skip
        try simp only [sG0] at g21
        refine Jp.qaq 22 rfl (qab rfl rfl rfl rfl) rfl rfl Kp.true ?_
        refine Jp.qaq 23 rfl (qab rfl rfl rfl rfl) rfl rfl Kp.true ?_
        refine Jp.qaq 24 rfl (qab rfl rfl rfl rfl) rfl rfl Kp.true ?_
        refine Jp.qaq 25 rfl (qab rfl rfl rfl rfl) rfl rfl Kp.true ?_
        refine Jp.qaq 26 rfl (qab rfl rfl rfl rfl) rfl rfl Kp.true ?_
        refine Jp.y 27 rfl (qaa rfl) rfl rfl Kp.true (Y.qav rfl rfl rfl) ?_
        refine Jp.qae hK13 ?_
        refine Cd.qcw rfl ?_
        refine Cd.seq fun K14 hK14=>?_
        refine Cd.qac [(0,false),(1,false)] rfl rfl ?_
        refine Jp.y 8 rfl (qaa rfl) rfl rfl Kp.true (Y.assign rfl rfl) ?_
        refine Jp.y 9 rfl (qaa rfl) rfl rfl Kp.true (Y.assign rfl rfl) ?_
        refine Jp.qae hK14 ?_
        refine Cd.ret [(0,_),(1,_),(2,_)] rfl (qbx rfl rfl rfl) ⟨rfl,rfl,rfl,trivial⟩ ⟨rfl,?_,rfl⟩
        have h3 : qcv M a size need = 3:=by
          rw [qcv,if_pos]
          simp only [qdy,Bool.and_eq_false_iff,Bool.or_eq_false_iff,beq_eq_false_iff_ne,ne_eq]
          omega
        rw [h3]; rfl
      · skip
        try simp only [sG0] at g21
        refine Jp.y 22 rfl (qab rfl rfl rfl rfl) rfl rfl Kp.true (Y.move rfl rfl) ?_
        refine Jp.y 23 rfl (qab rfl rfl rfl rfl) rfl rfl Kp.true (Y.move rfl rfl) ?_
        refine Jp.y 24 rfl (qab rfl rfl rfl rfl) rfl rfl Kp.true (Y.qaw rfl rfl underlying3 underlying24 (by exact qba (by omega) (by omega))) ?_
        refine Jp.y 25 rfl (qab rfl rfl rfl rfl) rfl rfl Kp.true (by exact Y.remN rfl rfl rfl (by omega) (by omega)) ?_
        refine Jp.y 26 rfl (qab rfl rfl rfl rfl) rfl rfl Kp.true (Y.neq rfl rfl rfl) ?_
        refine Jp.y 27 rfl (qaa rfl) rfl rfl Kp.true (Y.qay rfl rfl rfl) ?_
        refine Jp.qae hK13 ?_
        refine Cd.qar rfl (fun g27=>?_) (fun g27=>?_)
        · skip
          try simp only [sG0] at g27
          refine Cd.seq fun K15 hK15=>?_
          refine Cd.qac [(0,false),(1,false)] rfl rfl ?_
          refine Jp.y 8 rfl (qaa rfl) rfl rfl Kp.true (Y.assign rfl rfl) ?_
          refine Jp.y 9 rfl (qaa rfl) rfl rfl Kp.true (Y.assign rfl rfl) ?_
          refine Jp.qae hK15 ?_
          refine Cd.ret [(0,_),(1,_),(2,_)] rfl (qbx rfl rfl rfl) ⟨rfl,rfl,rfl,trivial⟩ ⟨rfl,?_,rfl⟩
          have h3 : qcv M a size need = 3:=by
            rw [qcv,if_pos]
            simp only [qdy,Bool.and_eq_false_iff,Bool.or_eq_false_iff,beq_eq_false_iff_ne,ne_eq]
            omega
          rw [h3]; rfl
        · skip
          try simp only [sG0] at g27
          refine Cd.qbu hK12 ?_
          refine Cd.seq fun K16 hK16=>?_
          have hs : qdy a size = true:=by
            simp only [qdy,Bool.and_eq_true,Bool.or_eq_true,beq_iff_eq]
            omega
          refine Cd.drawn [(0,_),(1,_)] ⟨rfl,rfl,trivial⟩ [(0,true),(1,true),(2,true),(3,true),(4,true),(5,false),(6,true),(7,true)] follows (by kernel_rfl) (fun hrl=>?_)
          refine Jp.q 28 rfl (qaa rfl) rfl rfl (Y.move rfl rfl) ?_
          refine Jp.q 29 rfl (qaa rfl) rfl rfl (Y.qan rfl rfl) ?_
          refine Jp.q 30 rfl (qaa rfl) rfl rfl (by exact Y.qad rfl rfl underlying102 rfl sizeOf99 (by decide) (show _ + 1 = _ from rfl)) ?_
          refine Jp.q 31 rfl (qaa rfl) rfl rfl (Y.qau 0 rfl isAgg99 rfl rfl rfl) ?_
          refine Jp.q 32 rfl (qaa rfl) rfl rfl (Y.move rfl rfl) ?_
          refine Jp.call [] [] (qcs a ha) 33 rfl (qaa rfl) rfl rfl (Runs.fn rfl call64 rfl) (by decide) (by decide) rfl trivial ?_
          rintro v101 ρ101 L101 ⟨rfl,rfl,rfl⟩
          refine ⟨rfl,fun hle101=>⟨(Kp.st ⟨rfl,rfl,trivial⟩),?_⟩⟩
          refine Jp.q 34 rfl (qaa rfl) rfl rfl (by first | exact Y.lookup 1 rfl rfl rfl underlying99 underlying24 zeroValue107 rfl) ?_
          refine Jp.q 10 rfl (qaa rfl) rfl rfl (Y.assign rfl rfl) ?_
          refine Jp.qae hK16 ?_
          refine Cd.seq fun K18 hK18=>?_
          refine Cd.block ?_
          refine Cd.seq fun K19 hK19=>?_
          refine Cd.qac [(0,false),(1,false),(2,false)] rfl rfl ?_
          have hget:=hf.get (qap a)
          rcases hg : qao M.pages (qap a) with _ | p
          · have hlk : qcv M a size need = 1:=by rw [qcv,if_neg (by rw [hs]; simp),hg]
            rw [hg] at hget
            refine Jp.slot 10 rfl (show _ = Value.pointer none by rw [hget]; rfl) ?_
            refine Jp.y 36 rfl (qaa rfl) rfl rfl Kp.true (Y.move rfl rfl) ?_
            refine Jp.y 37 rfl (qaa rfl) rfl rfl Kp.true (Y.qeu rfl underlying107 rfl rfl) ?_
            refine Jp.y 35 rfl (qaa rfl) rfl rfl Kp.true (Y.assign rfl rfl) ?_
            refine Jp.qae hK19 ?_
            refine Cd.qar rfl (fun g35=>?_) (fun g35=>?_)
            · skip
              try simp only [sG0] at g35
              skip
              refine Cd.seq fun K20 hK20=>?_
              refine Cd.qac [(0,false),(1,false)] rfl rfl ?_
              refine Jp.y 8 rfl (qaa rfl) rfl rfl Kp.true (Y.assign rfl rfl) ?_
              refine Jp.y 9 rfl (qaa rfl) rfl rfl Kp.true (Y.assign rfl rfl) ?_
              refine Jp.qae hK20 ?_
              refine Cd.ret [(0,_),(1,_),(2,_)] rfl (qbx rfl rfl rfl) ⟨rfl,rfl,rfl,trivial⟩ ⟨rfl,?_,rfl⟩
              (rw [hlk]; rfl)
            · skip
              try simp only [sG0] at g35
              (simp at g35; done)
          · have hlk : qcv M a size need = if may p.perm need then 0 else 2:=by rw [qcv,if_neg (by rw [hs]; simp),hg]
            rw [hg] at hget
            refine Jp.slot 10 rfl (show _ = Value.pointer (some ⟨x.blk (qap a),0,none⟩) by rw [hget]; rfl) ?_
            have hpo:=hf.ok.page _ (qbc hg)
            have hcell:=Blks.cell (MemF.blk (x:=x) hg) (qbv p hpo.len)
            refine Jp.y 36 rfl (qaa rfl) rfl rfl Kp.true (Y.move rfl rfl) ?_
            refine Jp.y 37 rfl (qaa rfl) rfl rfl Kp.true (Y.qeu rfl underlying107 rfl rfl) ?_
            refine Jp.y 35 rfl (qaa rfl) rfl rfl Kp.true (Y.assign rfl rfl) ?_
            refine Jp.qae hK19 ?_
            refine Cd.qar rfl (fun g35=>?_) (fun g35=>?_)
            · skip
              try simp only [sG0] at g35
              (simp at g35; done)
            · skip
              try simp only [sG0] at g35
              skip
              refine Cd.seq fun K25 hK25=>?_
              refine Cd.qac [(0,false),(1,false),(2,false),(3,false),(4,false),(5,false),(6,false),(7,false),(8,false)] rfl rfl ?_
              refine Jp.y 39 rfl (qaa rfl) rfl rfl Kp.true (Y.move rfl rfl) ?_
              refine Jp.y 40 rfl (qaa rfl) rfl rfl Kp.true (Y.qan rfl rfl) ?_
              refine Jp.y 41 rfl (qaa rfl) rfl rfl Kp.true (by exact Y.qad rfl rfl underlying109 rfl sizeOf3 (by decide) (show _ + 256 = _ from rfl)) ?_
              refine Jp.y 42 rfl (qaa rfl) rfl rfl Kp.true (by exact Y.qbg 2 rfl isAgg3 rfl rfl hcell) ?_
              refine Jp.y 43 rfl (qaa rfl) rfl rfl Kp.true (Y.move rfl rfl) ?_
              refine Jp.y 44 rfl (qaa rfl) rfl rfl Kp.true (Y.bits rfl rfl rfl rfl) ?_
              refine Jp.y 45 rfl (qaa rfl) rfl rfl Kp.true (Y.move rfl rfl) ?_
              refine Jp.y 46 rfl (qaa rfl) rfl rfl Kp.true (Y.neq rfl rfl rfl) ?_
              refine Jp.y 38 rfl (qaa rfl) rfl rfl Kp.true (Y.assign rfl rfl) ?_
              refine Jp.qae hK25 ?_
              refine Cd.qar rfl (fun g38=>?_) (fun g38=>?_)
              · skip
                try simp only [sG0] at g38
                skip
                refine Cd.seq fun K26 hK26=>?_
                refine Cd.qac [(0,false),(1,false)] rfl rfl ?_
                refine Jp.y 8 rfl (qaa rfl) rfl rfl Kp.true (Y.assign rfl rfl) ?_
                refine Jp.y 9 rfl (qaa rfl) rfl rfl Kp.true (Y.assign rfl rfl) ?_
                refine Jp.qae hK26 ?_
                refine Cd.ret [(0,_),(1,_),(2,_)] rfl (qbx rfl rfl rfl) ⟨rfl,rfl,rfl,trivial⟩ ⟨rfl,?_,rfl⟩
                (have hm : may p.perm need = false := by simpa [may] using g38
                 simp [hlk, hm])
              · skip
                try simp only [sG0] at g38
                skip
                refine Cd.over rfl hK18 ?_
                refine Cd.seq fun K27 hK27=>?_
                refine Cd.qac [(0,false),(1,false),(2,false)] rfl rfl ?_
                refine Jp.y 47 rfl (qaa rfl) rfl rfl Kp.true (Y.move rfl rfl) ?_
                refine Jp.y 8 rfl (qaa rfl) rfl rfl Kp.true (Y.assign rfl rfl) ?_
                refine Jp.y 9 rfl (qaa rfl) rfl rfl Kp.true (Y.assign rfl rfl) ?_
                refine Jp.qae hK27 ?_
                refine Cd.ret [(0,_),(1,_),(2,_)] rfl (qbx rfl rfl rfl) ⟨rfl,rfl,rfl,trivial⟩ ⟨rfl,?_,rfl⟩
                (have hm : may p.perm need = true := by simpa [may] using g38
                 simp [hlk, hm])
    · skip
      try simp only [sG0] at g17
      refine Jp.qaq 18 rfl (qab rfl rfl rfl rfl) rfl rfl Kp.true ?_
      refine Jp.qaq 19 rfl (qab rfl rfl rfl rfl) rfl rfl Kp.true ?_
      refine Jp.y 20 rfl (qaa rfl) rfl rfl Kp.true (Y.qay rfl rfl rfl) ?_
      refine Jp.y 21 rfl (qaa rfl) rfl rfl Kp.true (Y.move rfl rfl) ?_
      refine Jp.y 22 rfl (qab rfl rfl rfl rfl) rfl rfl Kp.true (Y.move rfl rfl) ?_
      refine Jp.y 23 rfl (qab rfl rfl rfl rfl) rfl rfl Kp.true (Y.move rfl rfl) ?_
      refine Jp.y 24 rfl (qab rfl rfl rfl rfl) rfl rfl Kp.true (Y.qaw rfl rfl underlying3 underlying24 (by exact qba (by omega) (by omega))) ?_
      refine Jp.y 25 rfl (qab rfl rfl rfl rfl) rfl rfl Kp.true (by exact Y.remN rfl rfl rfl (by omega) (by omega)) ?_
      refine Jp.y 26 rfl (qab rfl rfl rfl rfl) rfl rfl Kp.true (Y.neq rfl rfl rfl) ?_
      refine Jp.y 27 rfl (qaa rfl) rfl rfl Kp.true (Y.qay rfl rfl rfl) ?_
      refine Jp.qae hK13 ?_
      refine Cd.qar rfl (fun g27=>?_) (fun g27=>?_)
      · skip
        try simp only [sG0] at g27
        refine Cd.seq fun K28 hK28=>?_
        refine Cd.qac [(0,false),(1,false)] rfl rfl ?_
        refine Jp.y 8 rfl (qaa rfl) rfl rfl Kp.true (Y.assign rfl rfl) ?_
        refine Jp.y 9 rfl (qaa rfl) rfl rfl Kp.true (Y.assign rfl rfl) ?_
        refine Jp.qae hK28 ?_
        refine Cd.ret [(0,_),(1,_),(2,_)] rfl (qbx rfl rfl rfl) ⟨rfl,rfl,rfl,trivial⟩ ⟨rfl,?_,rfl⟩
        have h3 : qcv M a size need = 3:=by
          rw [qcv,if_pos]
          simp only [qdy,Bool.and_eq_false_iff,Bool.or_eq_false_iff,beq_eq_false_iff_ne,ne_eq]
          omega
        rw [h3]; rfl
      · skip
        try simp only [sG0] at g27
        refine Cd.qbu hK12 ?_
        refine Cd.seq fun K29 hK29=>?_
        have hs : qdy a size = true:=by
          simp only [qdy,Bool.and_eq_true,Bool.or_eq_true,beq_iff_eq]
          omega
        refine Cd.drawn [(0,_),(1,_)] ⟨rfl,rfl,trivial⟩ [(0,true),(1,true),(2,true),(3,true),(4,true),(5,false),(6,true),(7,true)] follows (by kernel_rfl) (fun hrl=>?_)
        refine Jp.q 28 rfl (qaa rfl) rfl rfl (Y.move rfl rfl) ?_
        refine Jp.q 29 rfl (qaa rfl) rfl rfl (Y.qan rfl rfl) ?_
        refine Jp.q 30 rfl (qaa rfl) rfl rfl (by exact Y.qad rfl rfl underlying102 rfl sizeOf99 (by decide) (show _ + 1 = _ from rfl)) ?_
        refine Jp.q 31 rfl (qaa rfl) rfl rfl (by exact Y.qau 0 rfl isAgg99 rfl rfl rfl) ?_
        refine Jp.q 32 rfl (qaa rfl) rfl rfl (Y.move rfl rfl) ?_
        refine Jp.call [] [] (qcs a ha) 33 rfl (qaa rfl) rfl rfl (Runs.fn rfl call64 rfl) (by decide) (by decide) rfl trivial ?_
        rintro v102 ρ102 L102 ⟨rfl,rfl,rfl⟩
        refine ⟨rfl,fun hle102=>⟨(Kp.st ⟨rfl,rfl,trivial⟩),?_⟩⟩
        refine Jp.q 34 rfl (qaa rfl) rfl rfl (by first | exact Y.lookup 1 rfl rfl rfl underlying99 underlying24 zeroValue107 rfl) ?_
        refine Jp.q 10 rfl (qaa rfl) rfl rfl (Y.assign rfl rfl) ?_
        refine Jp.qae hK29 ?_
        refine Cd.seq fun K31 hK31=>?_
        refine Cd.block ?_
        refine Cd.seq fun K32 hK32=>?_
        refine Cd.qac [(0,false),(1,false),(2,false)] rfl rfl ?_
        have hget:=hf.get (qap a)
        rcases hg : qao M.pages (qap a) with _ | p
        · have hlk : qcv M a size need = 1:=by rw [qcv,if_neg (by rw [hs]; simp),hg]
          rw [hg] at hget
          refine Jp.slot 10 rfl (show _ = Value.pointer none by rw [hget]; rfl) ?_
          refine Jp.y 36 rfl (qaa rfl) rfl rfl Kp.true (Y.move rfl rfl) ?_
          refine Jp.y 37 rfl (qaa rfl) rfl rfl Kp.true (Y.qeu rfl underlying107 rfl rfl) ?_
          refine Jp.y 35 rfl (qaa rfl) rfl rfl Kp.true (Y.assign rfl rfl) ?_
          refine Jp.qae hK32 ?_
          refine Cd.qar rfl (fun g35=>?_) (fun g35=>?_)
          · skip
            try simp only [sG0] at g35
            skip
            refine Cd.seq fun K33 hK33=>?_
            refine Cd.qac [(0,false),(1,false)] rfl rfl ?_
            refine Jp.y 8 rfl (qaa rfl) rfl rfl Kp.true (Y.assign rfl rfl) ?_
            refine Jp.y 9 rfl (qaa rfl) rfl rfl Kp.true (Y.assign rfl rfl) ?_
            refine Jp.qae hK33 ?_
            refine Cd.ret [(0,_),(1,_),(2,_)] rfl (qbx rfl rfl rfl) ⟨rfl,rfl,rfl,trivial⟩ ⟨rfl,?_,rfl⟩
            (rw [hlk]; rfl)
          · skip
            try simp only [sG0] at g35
            (simp at g35; done)
        · have hlk : qcv M a size need = if may p.perm need then 0 else 2:=by rw [qcv,if_neg (by rw [hs]; simp),hg]
          rw [hg] at hget
          refine Jp.slot 10 rfl (show _ = Value.pointer (some ⟨x.blk (qap a),0,none⟩) by rw [hget]; rfl) ?_
          have hpo:=hf.ok.page _ (qbc hg)
          have hcell:=Blks.cell (MemF.blk (x:=x) hg) (qbv p hpo.len)
          refine Jp.y 36 rfl (qaa rfl) rfl rfl Kp.true (Y.move rfl rfl) ?_
          refine Jp.y 37 rfl (qaa rfl) rfl rfl Kp.true (Y.qeu rfl underlying107 rfl rfl) ?_
          refine Jp.y 35 rfl (qaa rfl) rfl rfl Kp.true (Y.assign rfl rfl) ?_
          refine Jp.qae hK32 ?_
          refine Cd.qar rfl (fun g35=>?_) (fun g35=>?_)
          · skip
            try simp only [sG0] at g35
            (simp at g35; done)
          · skip
            try simp only [sG0] at g35
            skip
            refine Cd.seq fun K38 hK38=>?_
            refine Cd.qac [(0,false),(1,false),(2,false),(3,false),(4,false),(5,false),(6,false),(7,false),(8,false)] rfl rfl ?_
            refine Jp.y 39 rfl (qaa rfl) rfl rfl Kp.true (Y.move rfl rfl) ?_
            refine Jp.y 40 rfl (qaa rfl) rfl rfl Kp.true (Y.qan rfl rfl) ?_
            refine Jp.y 41 rfl (qaa rfl) rfl rfl Kp.true (by exact Y.qad rfl rfl underlying109 rfl sizeOf3 (by decide) (show _ + 256 = _ from rfl)) ?_
            refine Jp.y 42 rfl (qaa rfl) rfl rfl Kp.true (by exact Y.qbg 2 rfl isAgg3 rfl rfl hcell) ?_
            refine Jp.y 43 rfl (qaa rfl) rfl rfl Kp.true (Y.move rfl rfl) ?_
            refine Jp.y 44 rfl (qaa rfl) rfl rfl Kp.true (Y.bits rfl rfl rfl rfl) ?_
            refine Jp.y 45 rfl (qaa rfl) rfl rfl Kp.true (Y.move rfl rfl) ?_
            refine Jp.y 46 rfl (qaa rfl) rfl rfl Kp.true (Y.neq rfl rfl rfl) ?_
            refine Jp.y 38 rfl (qaa rfl) rfl rfl Kp.true (Y.assign rfl rfl) ?_
            refine Jp.qae hK38 ?_
            refine Cd.qar rfl (fun g38=>?_) (fun g38=>?_)
            · skip
              try simp only [sG0] at g38
              skip
              refine Cd.seq fun K39 hK39=>?_
              refine Cd.qac [(0,false),(1,false)] rfl rfl ?_
              refine Jp.y 8 rfl (qaa rfl) rfl rfl Kp.true (Y.assign rfl rfl) ?_
              refine Jp.y 9 rfl (qaa rfl) rfl rfl Kp.true (Y.assign rfl rfl) ?_
              refine Jp.qae hK39 ?_
              refine Cd.ret [(0,_),(1,_),(2,_)] rfl (qbx rfl rfl rfl) ⟨rfl,rfl,rfl,trivial⟩ ⟨rfl,?_,rfl⟩
              (have hm : may p.perm need = false := by simpa [may] using g38
               simp [hlk, hm])
            · skip
              try simp only [sG0] at g38
              skip
              refine Cd.over rfl hK31 ?_
              refine Cd.seq fun K40 hK40=>?_
              refine Cd.qac [(0,false),(1,false),(2,false)] rfl rfl ?_
              refine Jp.y 47 rfl (qaa rfl) rfl rfl Kp.true (Y.move rfl rfl) ?_
              refine Jp.y 8 rfl (qaa rfl) rfl rfl Kp.true (Y.assign rfl rfl) ?_
              refine Jp.y 9 rfl (qaa rfl) rfl rfl Kp.true (Y.assign rfl rfl) ?_
              refine Jp.qae hK40 ?_
              refine Cd.ret [(0,_),(1,_),(2,_)] rfl (qbx rfl rfl rfl) ⟨rfl,rfl,rfl,trivial⟩ ⟨rfl,?_,rfl⟩
              (have hm : may p.perm need = true := by simpa [may] using g38
               simp [hlk, hm])
  · skip
    try simp only [sG0] at g13
    refine Jp.qaq 14 rfl (qab rfl rfl rfl rfl) rfl rfl Kp.true ?_
    refine Jp.qaq 15 rfl (qab rfl rfl rfl rfl) rfl rfl Kp.true ?_
    refine Jp.y 16 rfl (qaa rfl) rfl rfl Kp.true (Y.qay rfl rfl rfl) ?_
    refine Jp.y 17 rfl (qaa rfl) rfl rfl Kp.true (Y.move rfl rfl) ?_
    refine Jp.qaq 18 rfl (qab rfl rfl rfl rfl) rfl rfl Kp.true ?_
    refine Jp.qaq 19 rfl (qab rfl rfl rfl rfl) rfl rfl Kp.true ?_
    refine Jp.y 20 rfl (qaa rfl) rfl rfl Kp.true (Y.qay rfl rfl rfl) ?_
    refine Jp.y 21 rfl (qaa rfl) rfl rfl Kp.true (Y.move rfl rfl) ?_
    refine Jp.y 22 rfl (qab rfl rfl rfl rfl) rfl rfl Kp.true (Y.move rfl rfl) ?_
    refine Jp.y 23 rfl (qab rfl rfl rfl rfl) rfl rfl Kp.true (Y.move rfl rfl) ?_
    refine Jp.y 24 rfl (qab rfl rfl rfl rfl) rfl rfl Kp.true (Y.qaw rfl rfl underlying3 underlying24 (by exact qba (by omega) (by omega))) ?_
    refine Jp.y 25 rfl (qab rfl rfl rfl rfl) rfl rfl Kp.true (by exact Y.remN rfl rfl rfl (by omega) (by omega)) ?_
    refine Jp.y 26 rfl (qab rfl rfl rfl rfl) rfl rfl Kp.true (Y.neq rfl rfl rfl) ?_
    refine Jp.y 27 rfl (qaa rfl) rfl rfl Kp.true (Y.qay rfl rfl rfl) ?_
    refine Jp.qae hK13 ?_
    refine Cd.qar rfl (fun g27=>?_) (fun g27=>?_)
    · skip
      try simp only [sG0] at g27
      refine Cd.seq fun K41 hK41=>?_
      refine Cd.qac [(0,false),(1,false)] rfl rfl ?_
      refine Jp.y 8 rfl (qaa rfl) rfl rfl Kp.true (Y.assign rfl rfl) ?_
      refine Jp.y 9 rfl (qaa rfl) rfl rfl Kp.true (Y.assign rfl rfl) ?_
      refine Jp.qae hK41 ?_
      refine Cd.ret [(0,_),(1,_),(2,_)] rfl (qbx rfl rfl rfl) ⟨rfl,rfl,rfl,trivial⟩ ⟨rfl,?_,rfl⟩
      have h3 : qcv M a size need = 3:=by
        rw [qcv,if_pos]
        simp only [qdy,Bool.and_eq_false_iff,Bool.or_eq_false_iff,beq_eq_false_iff_ne,ne_eq]
        omega
      rw [h3]; rfl
    · skip
      try simp only [sG0] at g27
      refine Cd.qbu hK12 ?_
      refine Cd.seq fun K42 hK42=>?_
      have hs : qdy a size = true:=by
        simp only [qdy,Bool.and_eq_true,Bool.or_eq_true,beq_iff_eq]
        omega
      refine Cd.drawn [(0,_),(1,_)] ⟨rfl,rfl,trivial⟩ [(0,true),(1,true),(2,true),(3,true),(4,true),(5,false),(6,true),(7,true)] follows (by kernel_rfl) (fun hrl=>?_)
      refine Jp.q 28 rfl (qaa rfl) rfl rfl (Y.move rfl rfl) ?_
      refine Jp.q 29 rfl (qaa rfl) rfl rfl (Y.qan rfl rfl) ?_
      refine Jp.q 30 rfl (qaa rfl) rfl rfl (by exact Y.qad rfl rfl underlying102 rfl sizeOf99 (by decide) (show _ + 1 = _ from rfl)) ?_
      refine Jp.q 31 rfl (qaa rfl) rfl rfl (by exact Y.qau 0 rfl isAgg99 rfl rfl rfl) ?_
      refine Jp.q 32 rfl (qaa rfl) rfl rfl (Y.move rfl rfl) ?_
      refine Jp.call [] [] (qcs a ha) 33 rfl (qaa rfl) rfl rfl (Runs.fn rfl call64 rfl) (by decide) (by decide) rfl trivial ?_
      rintro v103 ρ103 L103 ⟨rfl,rfl,rfl⟩
      refine ⟨rfl,fun hle103=>⟨(Kp.st ⟨rfl,rfl,trivial⟩),?_⟩⟩
      refine Jp.q 34 rfl (qaa rfl) rfl rfl (by first | exact Y.lookup 1 rfl rfl rfl underlying99 underlying24 zeroValue107 rfl) ?_
      refine Jp.q 10 rfl (qaa rfl) rfl rfl (Y.assign rfl rfl) ?_
      refine Jp.qae hK42 ?_
      refine Cd.seq fun K44 hK44=>?_
      refine Cd.block ?_
      refine Cd.seq fun K45 hK45=>?_
      refine Cd.qac [(0,false),(1,false),(2,false)] rfl rfl ?_
      have hget:=hf.get (qap a)
      rcases hg : qao M.pages (qap a) with _ | p
      · have hlk : qcv M a size need = 1:=by rw [qcv,if_neg (by rw [hs]; simp),hg]
        rw [hg] at hget
        refine Jp.slot 10 rfl (show _ = Value.pointer none by rw [hget]; rfl) ?_
        refine Jp.y 36 rfl (qaa rfl) rfl rfl Kp.true (Y.move rfl rfl) ?_
        refine Jp.y 37 rfl (qaa rfl) rfl rfl Kp.true (Y.qeu rfl underlying107 rfl rfl) ?_
        refine Jp.y 35 rfl (qaa rfl) rfl rfl Kp.true (Y.assign rfl rfl) ?_
        refine Jp.qae hK45 ?_
        refine Cd.qar rfl (fun g35=>?_) (fun g35=>?_)
        · skip
          try simp only [sG0] at g35
          skip
          refine Cd.seq fun K46 hK46=>?_
          refine Cd.qac [(0,false),(1,false)] rfl rfl ?_
          refine Jp.y 8 rfl (qaa rfl) rfl rfl Kp.true (Y.assign rfl rfl) ?_
          refine Jp.y 9 rfl (qaa rfl) rfl rfl Kp.true (Y.assign rfl rfl) ?_
          refine Jp.qae hK46 ?_
          refine Cd.ret [(0,_),(1,_),(2,_)] rfl (qbx rfl rfl rfl) ⟨rfl,rfl,rfl,trivial⟩ ⟨rfl,?_,rfl⟩
          (rw [hlk]; rfl)
        · skip
          try simp only [sG0] at g35
          (simp at g35; done)
      · have hlk : qcv M a size need = if may p.perm need then 0 else 2:=by rw [qcv,if_neg (by rw [hs]; simp),hg]
        rw [hg] at hget
        refine Jp.slot 10 rfl (show _ = Value.pointer (some ⟨x.blk (qap a),0,none⟩) by rw [hget]; rfl) ?_
        have hpo:=hf.ok.page _ (qbc hg)
        have hcell:=Blks.cell (MemF.blk (x:=x) hg) (qbv p hpo.len)
        refine Jp.y 36 rfl (qaa rfl) rfl rfl Kp.true (Y.move rfl rfl) ?_
        refine Jp.y 37 rfl (qaa rfl) rfl rfl Kp.true (Y.qeu rfl underlying107 rfl rfl) ?_
        refine Jp.y 35 rfl (qaa rfl) rfl rfl Kp.true (Y.assign rfl rfl) ?_
        refine Jp.qae hK45 ?_
        refine Cd.qar rfl (fun g35=>?_) (fun g35=>?_)
        · skip
          try simp only [sG0] at g35
          (simp at g35; done)
        · skip
          try simp only [sG0] at g35
          skip
          refine Cd.seq fun K51 hK51=>?_
          refine Cd.qac [(0,false),(1,false),(2,false),(3,false),(4,false),(5,false),(6,false),(7,false),(8,false)] rfl rfl ?_
          refine Jp.y 39 rfl (qaa rfl) rfl rfl Kp.true (Y.move rfl rfl) ?_
          refine Jp.y 40 rfl (qaa rfl) rfl rfl Kp.true (Y.qan rfl rfl) ?_
          refine Jp.y 41 rfl (qaa rfl) rfl rfl Kp.true (by exact Y.qad rfl rfl underlying109 rfl sizeOf3 (by decide) (show _ + 256 = _ from rfl)) ?_
          refine Jp.y 42 rfl (qaa rfl) rfl rfl Kp.true (by exact Y.qbg 2 rfl isAgg3 rfl rfl hcell) ?_
          refine Jp.y 43 rfl (qaa rfl) rfl rfl Kp.true (Y.move rfl rfl) ?_
          refine Jp.y 44 rfl (qaa rfl) rfl rfl Kp.true (Y.bits rfl rfl rfl rfl) ?_
          refine Jp.y 45 rfl (qaa rfl) rfl rfl Kp.true (Y.move rfl rfl) ?_
          refine Jp.y 46 rfl (qaa rfl) rfl rfl Kp.true (Y.neq rfl rfl rfl) ?_
          refine Jp.y 38 rfl (qaa rfl) rfl rfl Kp.true (Y.assign rfl rfl) ?_
          refine Jp.qae hK51 ?_
          refine Cd.qar rfl (fun g38=>?_) (fun g38=>?_)
          · skip
            try simp only [sG0] at g38
            skip
            refine Cd.seq fun K52 hK52=>?_
            refine Cd.qac [(0,false),(1,false)] rfl rfl ?_
            refine Jp.y 8 rfl (qaa rfl) rfl rfl Kp.true (Y.assign rfl rfl) ?_
            refine Jp.y 9 rfl (qaa rfl) rfl rfl Kp.true (Y.assign rfl rfl) ?_
            refine Jp.qae hK52 ?_
            refine Cd.ret [(0,_),(1,_),(2,_)] rfl (qbx rfl rfl rfl) ⟨rfl,rfl,rfl,trivial⟩ ⟨rfl,?_,rfl⟩
            (have hm : may p.perm need = false := by simpa [may] using g38
             simp [hlk, hm])
          · skip
            try simp only [sG0] at g38
            skip
            refine Cd.over rfl hK44 ?_
            refine Cd.seq fun K53 hK53=>?_
            refine Cd.qac [(0,false),(1,false),(2,false)] rfl rfl ?_
            refine Jp.y 47 rfl (qaa rfl) rfl rfl Kp.true (Y.move rfl rfl) ?_
            refine Jp.y 8 rfl (qaa rfl) rfl rfl Kp.true (Y.assign rfl rfl) ?_
            refine Jp.y 9 rfl (qaa rfl) rfl rfl Kp.true (Y.assign rfl rfl) ?_
            refine Jp.qae hK53 ?_
            refine Cd.ret [(0,_),(1,_),(2,_)] rfl (qbx rfl rfl rfl) ⟨rfl,rfl,rfl,trivial⟩ ⟨rfl,?_,rfl⟩
            (have hm : may p.perm need = true := by simpa [may] using g38
             simp [hlk, hm])
end Go.Proofs.YtnfkalpgidiafaaGreat
set_option linter.unusedVariables false
set_option linter.unusedSimpArgs false
set_option maxRecDepth 100000
namespace Go.Proofs.YtnfkalpgidiafaaGreat
open _root_.Go.Proofs.Tryz
open Go
theorem qhc (n : Nat) : IntKind.u32.wrap (n : Int) = ((n % 4294967296 : Nat) : Int):=by
 simp only [IntKind.wrap,IntKind.bits,IntKind.signed]
 simp
theorem qdd {α β : Type} {f : α → β} : ∀ {l : List α},(l.map f).Nodup → ∀ {x y : α},x ∈ l → y ∈ l → f x = f y → x = y:=by
 intro l
 induction l with
 | nil=>intro _ x y h; cases h
 | cons z l ih =>
  intro hn x y hx hy e
  rw [List.map_cons,List.nodup_cons] at hn
  rcases List.mem_cons.1 hx with h1 | h1 <;> rcases List.mem_cons.1 hy with h2 | h2
  ·rw [h1,h2]
  ·subst h1; exact absurd (e ▸ List.mem_map.2 ⟨y,h2,rfl⟩) hn.1
  ·subst h2; exact absurd (e ▸ List.mem_map.2 ⟨x,h1,rfl⟩) hn.1
  ·exact ih hn.2 h1 h2 e
theorem MemF.set {M : MemG} {x : MemX} (f : MemF M x) {k : Nat} {p p' : Pg} (hg : qao M.pages k = some p) (h1 : p'.b.length = 256) (h2 : p'.perm ≤ 7) : MemF { M with pages:=qbt M.pages k p' } x :=
 ⟨f.ok.set hg h1 h2, by
  show x.pm.Perm ((qbt M.pages k p').map fun p=>((p.1 : Int),pgPtr x p.1))
  rw [setPg_map _ _ _ fun k=>((k : Int),pgPtr x k)]
  exact f.pages, f.gens⟩
theorem MemF.bump {M : MemG} {x : MemX} (f : MemF M x) (k : Nat) : MemF { M with gens:=YtnfkalpgidiafaaGreat.bump M.gens k } { x with gm:=qgy x.gm k (.int .u32 (((M.gens k + 1) % 4294967296 : Nat) : Int)) } :=
 ⟨f.ok.bump k, f.pages, fun k' => by
  show (qhm (qgy x.gm k _) k').getD _ = .int .u32 ((YtnfkalpgidiafaaGreat.bump M.gens k k' : Nat) : Int)
  rw [mget_mset,YtnfkalpgidiafaaGreat.bump]
  by_cases h : k' = k
  ·subst h; simp
  ·rw [if_neg h, if_neg (by omega)]; exact f.gens k'⟩
theorem updB_blks {M : MemG} {x : MemX} (hn : ((qbp M x).map (·.1)).Nodup) {k : Nat} {p p' : Pg} (hg : qao M.pages k = some p) : qhe (qbp M x) (x.blk k) (pageO p') = qbp { M with pages:=qbt M.pages k p' } x:=by
 rw [qhe,qbp,qbp,qbt,List.map_map,List.map_map]
 apply List.map_congr_left
 intro y hy
 simp only [Function.comp]
 by_cases h : y.1 = k
 ·simp [h]
 ·rw [if_neg h,if_neg]
  intro e
  rw [qbp,List.map_map] at hn
  exact h (congrArg (·.1) (qdd (f:=fun p : Nat × Pg=>x.blk p.1) hn hy (qbc hg) e))
theorem new_spec (budget : Int) : Spec Tryz.prog 15 #[.int .i64 budget] (fun _=>True) []
  (fun ρ ρ' v L=>ρ' = ρ ∧ if 1 ≤ budget ∧ budget ≤ 4096 then ∃ b,v = .tuple #[.pointer (some ⟨b,0,none⟩),.int .i64 0] ∧ L = [(0,qew b (newM budget.toNat))] else v = .tuple #[.pointer none,.int .i64 1] ∧ L = []):=by
 refine Spec.of 15 Tryz.func15 rfl Tryz.ntmps15 [(0,_)] rfl rfl ?_
 intro cx ρ hr h0
 refine Cd.seq fun K1 hK1=>?_
 refine Cd.qac [(0,false),(1,false)] rfl rfl ?_
 refine Jp.y 2 rfl (qaa rfl) rfl rfl Kp.true (Y.assign rfl rfl) ?_
 refine Jp.y 3 rfl (qaa rfl) rfl rfl Kp.true (Y.assign rfl rfl) ?_
 refine Jp.qae hK1 ?_
 refine Cd.seq fun K2 hK2=>?_
 refine Cd.seq fun K3 hK3=>?_
 refine Cd.qac [(0,false),(1,false),(2,false),(3,false),(4,false),(5,false)] rfl rfl ?_
 refine Jp.y 4 rfl (qaa rfl) rfl rfl Kp.true (Y.move rfl rfl) ?_
 refine Jp.y 5 rfl (qaa rfl) rfl rfl Kp.true (Y.lss rfl rfl rfl) ?_
 refine Jp.y 6 rfl (qaa rfl) rfl rfl Kp.true (Y.move rfl rfl) ?_
 refine Jp.split 6 rfl (fun g6=>?_) (fun g6=>?_)
 ·skip
  try simp only [sG0] at g6
  refine Jp.qaq 7 rfl (qab rfl rfl rfl rfl) rfl rfl Kp.true ?_
  refine Jp.qaq 8 rfl (qab rfl rfl rfl rfl) rfl rfl Kp.true ?_
  refine Jp.y 9 rfl (qaa rfl) rfl rfl Kp.true (Y.qav rfl rfl rfl) ?_
  refine Jp.qae hK3 ?_
  refine Cd.qcw rfl ?_
  refine Cd.seq fun K4 hK4=>?_
  refine Cd.qac [(0,false),(1,false)] rfl rfl ?_
  refine Jp.y 2 rfl (qaa rfl) rfl rfl Kp.true (Y.assign rfl rfl) ?_
  refine Jp.y 3 rfl (qaa rfl) rfl rfl Kp.true (Y.assign rfl rfl) ?_
  refine Jp.qae hK4 ?_
  refine Cd.ret [] rfl (qbx rfl rfl rfl) trivial ⟨rfl,?_⟩
  rw [if_neg (by omega)]
  exact ⟨rfl,rfl⟩
 try simp only [sG0] at g6
 refine Jp.y 7 rfl (qab rfl rfl rfl rfl) rfl rfl Kp.true (Y.move rfl rfl) ?_
 refine Jp.y 8 rfl (qab rfl rfl rfl rfl) rfl rfl Kp.true (Y.gtr rfl rfl rfl) ?_
 refine Jp.y 9 rfl (qaa rfl) rfl rfl Kp.true (Y.qay rfl rfl rfl) ?_
 refine Jp.qae hK3 ?_
 refine Cd.qar rfl (fun g9=>?_) (fun g9=>?_)
 ·skip
  try simp only [sG0] at g9
  refine Cd.seq fun K5 hK5=>?_
  refine Cd.qac [(0,false),(1,false)] rfl rfl ?_
  refine Jp.y 2 rfl (qaa rfl) rfl rfl Kp.true (Y.assign rfl rfl) ?_
  refine Jp.y 3 rfl (qaa rfl) rfl rfl Kp.true (Y.assign rfl rfl) ?_
  refine Jp.qae hK5 ?_
  refine Cd.ret [] rfl (qbx rfl rfl rfl) trivial ⟨rfl,?_⟩
  rw [if_neg (by omega)]
  exact ⟨rfl,rfl⟩
 try simp only [sG0] at g9
 refine Cd.qbu hK2 ?_
 refine Cd.seq fun K6 hK6=>?_
 refine Cd.qac [(0,false),(1,false),(2,false),(3,false),(4,false),(5,false),(6,false)] rfl rfl ?_
 refine Jp.y 10 rfl (qaa rfl) rfl rfl Kp.true (Y.move rfl rfl) ?_
 refine Jp.makeMap 11 1 .u32 rfl (qaa rfl) rfl rfl rfl fun b1=>⟨Kp.true,?_⟩
 refine Jp.makeMap 12 2 .u32 rfl (qaa rfl) rfl rfl rfl fun b2=>⟨Kp.true,?_⟩
 refine Jp.y 13 rfl (qaa rfl) rfl rfl Kp.true (Y.struct [(0,_),(1,_),(2,_)] [_,_,_] rfl rfl places102 zeroValue102 rfl) ?_
 refine Jp.box 0 14 rfl (qaa rfl) rfl rfl rfl rfl fun b0=>⟨Kp.true,?_⟩
 refine Jp.y 2 rfl (qaa rfl) rfl rfl Kp.true (Y.assign rfl rfl) ?_
 refine Jp.y 3 rfl (qaa rfl) rfl rfl Kp.true (Y.assign rfl rfl) ?_
 refine Jp.qae hK6 ?_
 obtain ⟨m,rfl⟩:=Int.eq_ofNat_of_zero_le (show 0 ≤ budget by omega)
 refine Cd.make 53 Blks.nil ?_
 have hok : MemOk (newM m):=⟨List.Pairwise.nil,fun x h=>(List.not_mem_nil h).elim,fun k=>(by show 0 < 4294967296; omega),Nat.zero_le _,(by show 1 ≤ m ∧ m ≤ 4096; omega)⟩
 refine Cd.memClose (M:=newM m) (x:=⟨b1,b2,[],[],fun _=>0⟩) 0 1 2 53 (by decide) ⟨hok,List.Perm.refl _,fun k=>rfl⟩ rfl rfl rfl rfl ?_
 refine Cd.ret [(0,_)] rfl (qbx rfl rfl rfl) ⟨rfl,trivial⟩ ⟨rfl,?_⟩
 rw [if_pos (by omega)]
 exact ⟨b0,rfl,rfl⟩
theorem perm_spec (b : Nat) (M : MemG) (a : Nat) (ha : a < 4294967296) : Spec Tryz.prog 30 #[.pointer (some ⟨b,0,none⟩),.int .u32 a] (fun _=>True) [(0,qew b M)]
  (fun ρ ρ' v L=>ρ' = ρ ∧ v = .tuple #[.int .i64 (permM M a).1,.bool (permM M a).2] ∧ L = [(0,qew b M)]):=by
 refine Spec.of 20 Tryz.func30 rfl Tryz.ntmps30 [(0,_),(1,_)] rfl rfl ?_
 intro cx ρ hr h0
 refine Cd.memOpen 0 1 2 3 (by decide) rfl fun x hf=>?_
 refine Cd.seq fun K7 hK7=>?_
 refine Cd.qac [(0,false),(1,false)] rfl rfl ?_
 refine Jp.y 4 rfl (qaa rfl) rfl rfl Kp.true (Y.assign rfl rfl) ?_
 refine Jp.y 5 rfl (qaa rfl) rfl rfl Kp.true (Y.assign rfl rfl) ?_
 refine Jp.qae hK7 ?_
 refine Cd.seq fun K8 hK8=>?_
 refine Cd.drawn [(0,_),(1,_)] ⟨rfl,rfl,trivial⟩ [(0,true),(1,true),(2,true),(3,true),(4,true),(5,false),(6,true),(7,true)] follows (by kernel_rfl) (fun hrl=>?_)
 refine Jp.q 7 rfl (qaa rfl) rfl rfl (Y.move rfl rfl) ?_
 refine Jp.q 8 rfl (qaa rfl) rfl rfl (Y.qan rfl rfl) ?_
 refine Jp.q 9 rfl (qaa rfl) rfl rfl (by exact Y.qad rfl rfl underlying102 rfl sizeOf99 (by decide) (show _ + 1 = _ from rfl)) ?_
 refine Jp.q 10 rfl (qaa rfl) rfl rfl (Y.qau 0 rfl isAgg99 rfl rfl rfl) ?_
 refine Jp.q 11 rfl (qaa rfl) rfl rfl (Y.move rfl rfl) ?_
 refine Jp.call [] [] (qcs a ha) 12 rfl (qaa rfl) rfl rfl (Runs.fn rfl call64 rfl) (by decide) (by decide) rfl trivial ?_
 rintro v101 ρ101 L101 ⟨rfl,rfl,rfl⟩
 refine ⟨rfl,fun hle101=>⟨(Kp.st ⟨rfl,rfl,trivial⟩),?_⟩⟩
 refine Jp.q 13 rfl (qaa rfl) rfl rfl (by first | exact Y.lookup 1 rfl rfl rfl underlying99 underlying24 zeroValue107 rfl) ?_
 refine Jp.q 6 rfl (qaa rfl) rfl rfl (Y.assign rfl rfl) ?_
 refine Jp.qae hK8 ?_
 refine Cd.seq fun K10 hK10=>?_
 refine Cd.seq fun K11 hK11=>?_
 refine Cd.qac [(0,false),(1,false)] rfl rfl ?_
 have hget:=hf.get (qap a)
 rcases hg : qao M.pages (qap a) with _ | p
 ·rw [hg] at hget
  refine Jp.slot 6 rfl (show _ = Value.pointer none by rw [hget]; rfl) ?_
  refine Jp.y 14 rfl (qaa rfl) rfl rfl Kp.true (Y.move rfl rfl) ?_
  refine Jp.y 15 rfl (qaa rfl) rfl rfl Kp.true (Y.qeu rfl underlying107 rfl rfl) ?_
  refine Jp.qae hK11 ?_
  refine Cd.qar rfl (fun g15=>?_) (fun g15=>?_)
  ·skip
   try simp only [sG0] at g15
   skip
   refine Cd.seq fun K12 hK12=>?_
   refine Cd.qac [(0,false),(1,false)] rfl rfl ?_
   refine Jp.y 4 rfl (qaa rfl) rfl rfl Kp.true (Y.assign rfl rfl) ?_
   refine Jp.y 5 rfl (qaa rfl) rfl rfl Kp.true (Y.assign rfl rfl) ?_
   refine Jp.qae hK12 ?_
   refine Cd.memClose 0 1 2 3 (by decide) hf rfl rfl rfl rfl ?_
   refine Cd.ret [(0,_)] rfl (qbx rfl rfl rfl) ⟨rfl,trivial⟩ ⟨rfl,?_,rfl⟩
   rw [permM,hg]
  ·skip
   try simp only [sG0] at g15
   (simp at g15; done)
 ·rw [hg] at hget
  refine Jp.slot 6 rfl (show _ = Value.pointer (some ⟨x.blk (qap a),0,none⟩) by rw [hget]; rfl) ?_
  have hpo:=hf.ok.page _ (qbc hg)
  have hcell:=Blks.cell (MemF.blk (x:=x) hg) (qbv p hpo.len)
  refine Jp.y 14 rfl (qaa rfl) rfl rfl Kp.true (Y.move rfl rfl) ?_
  refine Jp.y 15 rfl (qaa rfl) rfl rfl Kp.true (Y.qeu rfl underlying107 rfl rfl) ?_
  refine Jp.qae hK11 ?_
  refine Cd.qar rfl (fun g15=>?_) (fun g15=>?_)
  ·skip
   try simp only [sG0] at g15
   (simp at g15; done)
  ·skip
   try simp only [sG0] at g15
   skip
   refine Cd.qbu hK10 ?_
   refine Cd.seq fun K15 hK15=>?_
   refine Cd.qac [(0,false),(1,false),(2,false),(3,false),(4,false),(5,false)] rfl rfl ?_
   refine Jp.y 16 rfl (qaa rfl) rfl rfl Kp.true (Y.move rfl rfl) ?_
   refine Jp.y 17 rfl (qaa rfl) rfl rfl Kp.true (Y.qan rfl rfl) ?_
   refine Jp.y 18 rfl (qaa rfl) rfl rfl Kp.true (by exact Y.qad rfl rfl underlying109 rfl sizeOf3 (by decide) (show _ + 256 = _ from rfl)) ?_
   refine Jp.y 19 rfl (qaa rfl) rfl rfl Kp.true (by exact Y.qbg 3 rfl isAgg3 rfl rfl hcell) ?_
   refine Jp.y 4 rfl (qaa rfl) rfl rfl Kp.true (Y.assign rfl rfl) ?_
   refine Jp.y 5 rfl (qaa rfl) rfl rfl Kp.true (Y.assign rfl rfl) ?_
   refine Jp.qae hK15 ?_
   refine Cd.memClose 0 1 2 3 (by decide) hf rfl rfl rfl rfl ?_
   refine Cd.ret [(0,_)] rfl (qbx rfl rfl rfl) ⟨rfl,trivial⟩ ⟨rfl,?_,rfl⟩
   rw [permM,hg]
end Go.Proofs.YtnfkalpgidiafaaGreat
set_option linter.unusedVariables false
set_option linter.unusedSimpArgs false
set_option maxRecDepth 100000
namespace Go.Proofs.YtnfkalpgidiafaaGreat
open _root_.Go.Proofs.Tryz
open Go
theorem lookM_ok {M : MemG} {a : Nat} {size need : Int} (h : qcv M a size need = 0) : qdy a size = true ∧ ∃ p,qao M.pages (qap a) = some p ∧ may p.perm need = true:=by
 rw [qcv] at h
 split at h
 ·omega
 ·rename_i hs
  refine ⟨by simpa using hs,?_⟩
  split at h
  ·omega
  ·rename_i p hp
   refine ⟨p,hp,?_⟩
   split at h
   ·assumption
   ·omega
theorem sizeOk_nat {a : Nat} {size : Int} (h : qdy a size = true) : ∃ n : Nat,size = n ∧ (n = 1 ∨ n = 2 ∨ n = 4) ∧ a % 256 + n ≤ 256:=by
 simp only [qdy,Bool.and_eq_true,Bool.or_eq_true,beq_iff_eq] at h
 obtain ⟨(h1 | h1) | h1,h2⟩:=h
 ·exact ⟨1,h1,by omega,by omega⟩
 ·subst h1; exact ⟨2,rfl,by omega,by omega⟩
 ·subst h1; exact ⟨4,rfl,by omega,by omega⟩
theorem qej (p : Pg) {j : Nat} (h : p.b.length = 256) (hj : j < 256) : (qbb p).toArray[j]? = some (.int .u8 ((p.b[j]'(by omega)).toNat : Int)):=by
 have hj' : j < p.b.length:=by omega
 rw [qbb,List.getElem?_toArray,List.getElem?_append_left (by rw [qaf,List.length_map]; exact hj'),qaf,List.getElem?_map,List.getElem?_eq_getElem hj']; rfl
theorem qho (b : Nat) (M : MemG) (a : Nat) (size need : Int) (ha : a < 4294967296) : Spec Tryz.prog 31 #[.pointer (some ⟨b,0,none⟩),.int .u32 a,.int .i64 size,.int .i64 need] (fun _=>True) [(0,qew b M)]
  (fun ρ ρ' v L=>ρ' = ρ ∧ v = .tuple #[.int .u32 (qdq M a size need).1,.int .i64 (qdq M a size need).2] ∧ L = [(0,qew b M)]):=by
 refine Spec.of 47 Tryz.func31 rfl Tryz.ntmps31 [(0,_),(1,_),(2,_),(3,_)] rfl rfl ?_
 intro cx ρ hr h0
 refine Cd.memOpen 0 1 2 3 (by decide) rfl fun x hf=>?_
 refine Cd.seq fun K1 hK1=>?_
 refine Cd.qac [(0,false),(1,false)] rfl rfl ?_
 refine Jp.y 8 rfl (qaa rfl) rfl rfl Kp.true (Y.assign rfl rfl) ?_
 refine Jp.y 9 rfl (qaa rfl) rfl rfl Kp.true (Y.assign rfl rfl) ?_
 refine Jp.qae hK1 ?_
 refine Cd.seq fun K2 hK2=>?_
 refine Cd.qac [(0,false),(1,false),(2,false),(3,false),(4,false),(5,false),(6,false),(7,false),(8,false),(9,false)] rfl rfl ?_
 refine Jp.y 15 rfl (qaa rfl) rfl rfl Kp.true (Y.move rfl rfl) ?_
 refine Jp.y 16 rfl (qaa rfl) rfl rfl Kp.true (Y.move rfl rfl) ?_
 refine Jp.y 17 rfl (qaa rfl) rfl rfl Kp.true (Y.move rfl rfl) ?_
 refine Jp.y 18 rfl (qaa rfl) rfl rfl Kp.true (Y.move rfl rfl) ?_
 refine Jp.call [0,1,3] [0,1,3] (look_spec b M x hf a size need ha) 19 rfl (qaa rfl) rfl rfl (Runs.fn rfl call65 rfl) (by decide) (by decide) rfl trivial ?_
 rintro v101 ρ101 L101 ⟨rfl,rfl,rfl⟩
 refine ⟨rfl,fun hle101=>⟨Kp.true,?_⟩⟩
 refine Jp.y 14 rfl (qaa rfl) rfl rfl Kp.true (Y.move rfl rfl) ?_
 refine Jp.y 20 rfl (qaa rfl) rfl rfl Kp.true (Y.extract rfl rfl rfl) ?_
 refine Jp.y 21 rfl (qaa rfl) rfl rfl Kp.true (Y.extract rfl rfl rfl) ?_
 refine Jp.y 10 rfl (qaa rfl) rfl rfl Kp.true (Y.assign rfl rfl) ?_
 refine Jp.y 11 rfl (qaa rfl) rfl rfl Kp.true (Y.assign rfl rfl) ?_
 refine Jp.qae hK2 ?_
 refine Cd.seq fun K3 hK3=>?_
 refine Cd.seq fun K4 hK4=>?_
 refine Cd.qac [(0,false),(1,false)] rfl rfl ?_
 refine Jp.y 22 rfl (qaa rfl) rfl rfl Kp.true (Y.move rfl rfl) ?_
 refine Jp.y 23 rfl (qaa rfl) rfl rfl Kp.true (Y.neq rfl rfl rfl) ?_
 refine Jp.qae hK4 ?_
 refine Cd.qar rfl (fun g23=>?_) (fun g23=>?_)
 ·skip
  try simp only [sG0] at g23
  refine Cd.seq fun K5 hK5=>?_
  refine Cd.qac [(0,false),(1,false),(2,false)] rfl rfl ?_
  refine Jp.y 24 rfl (qaa rfl) rfl rfl Kp.true (Y.move rfl rfl) ?_
  refine Jp.y 8 rfl (qaa rfl) rfl rfl Kp.true (Y.assign rfl rfl) ?_
  refine Jp.y 9 rfl (qaa rfl) rfl rfl Kp.true (Y.assign rfl rfl) ?_
  refine Jp.qae hK5 ?_
  refine Cd.memClose 0 1 2 3 (by decide) hf rfl rfl rfl rfl ?_
  refine Cd.ret [(0,_)] rfl (qbx rfl rfl rfl) ⟨rfl,trivial⟩ ⟨rfl,?_,rfl⟩
  rw [qdq,if_neg g23]; rfl
 try simp only [sG0] at g23
 refine Cd.qbu hK3 ?_
 refine Cd.seq fun K6 hK6=>?_
 refine Cd.qac [(0,false)] rfl rfl ?_
 obtain ⟨hs,p,hg,hm⟩:=lookM_ok g23
 obtain ⟨n,rfl,hn1,hn2⟩:=sizeOk_nat hs
 have hpo:=hf.ok.page _ (qbc hg)
 have hlen : p.b.length = 256:=hpo.len
 have hV : qdq M a n need = (leN ((p.b.drop (a % 256)).take n),0):=by rw [qdq,if_pos g23,hg]; rfl
 refine Jp.slot 10 rfl (show _ = Value.pointer (some ⟨x.blk (qap a),0,none⟩) by rw [if_pos g23]) ?_
 refine Jp.y 12 rfl (qaa rfl) rfl rfl Kp.true (Y.assign rfl rfl) ?_
 refine Jp.qae hK6 ?_
 refine Cd.seq fun K7 hK7=>?_
 refine Cd.seq fun K8 hK8=>?_
 refine Cd.qac [(0,false),(1,false),(2,false)] rfl rfl ?_
 refine Jp.y 25 rfl (qaa rfl) rfl rfl Kp.true (Y.move rfl rfl) ?_
 refine Jp.y 26 rfl (qaa rfl) rfl rfl Kp.true (Y.qaw rfl rfl underlying3 underlying24 (by exact qba (by omega) (by omega))) ?_
 refine Jp.y 27 rfl (qaa rfl) rfl rfl Kp.true (Y.move rfl rfl) ?_
 refine Jp.qae hK8 ?_
 refine Cd.block ?_
 refine Cd.qdv (G:=Nat) (fun k=>k ≤ n) (fun k=>n - k) (fun _=>_) (fun k=>[(12,.int .u32 (leN ((p.b.drop (a % 256)).take k))),(27,.int .u32 k)]) [(1,_),(10,_),(26,_)] (fun _=>[]) [(0,_),(1,_),(2,_),(3,_)] 0 (Nat.zero_le _) rfl ⟨rfl,rfl,trivial⟩ ⟨rfl,rfl,rfl,trivial⟩ trivial ⟨rfl,rfl,rfl,rfl,trivial⟩ (fun g KLa hok hLa=>?_)
 refine Cd.seq fun K9 hK9=>?_
 refine Cd.qac [(0,false)] rfl rfl ?_
 refine Jp.y 28 rfl (qaa rfl) rfl rfl Kp.true (Y.lss rfl rfl rfl) ?_
 refine Jp.qae hK9 ?_
 refine Cd.seq fun K10 hK10=>?_
 refine Cd.qar rfl (fun ga=>?_) (fun ga=>?_)
 ·simp only [decide_eq_true_eq] at ga
  have hgn : g < n:=by omega
  have hj : a % 256 + g < 256:=by omega
  have hcell:=Blks.cell (MemF.blk (x:=x) hg) (qej p hlen hj)
  have hb:=(p.b[a % 256 + g]'(by omega)).toNat_lt
  refine Cd.qbu hK10 ?_
  refine Cd.seq fun K11 hK11=>?_
  refine Cd.block ?_
  refine Cd.seq fun K12 hK12=>?_
  refine Cd.qac [(0,false),(1,false)] rfl rfl ?_
  refine Jp.y 29 rfl (qaa rfl) rfl rfl Kp.true (Y.move rfl rfl) ?_
  refine Jp.y 13 rfl (qaa rfl) rfl rfl Kp.true (Y.assign rfl rfl) ?_
  refine Jp.qae hK12 ?_
  refine Cd.qac [(0,false),(1,false),(2,false),(3,false),(4,false),(5,false),(6,false),(7,false),(8,false),(9,false),(10,false),(11,false),(12,false),(13,false),(14,false),(15,false)] rfl rfl ?_
  refine Jp.y 30 rfl (qaa rfl) rfl rfl Kp.true (Y.move rfl rfl) ?_
  refine Jp.y 31 rfl (qaa rfl) rfl rfl Kp.true (Y.move rfl rfl) ?_
  refine Jp.y 32 rfl (qaa rfl) rfl rfl Kp.true (Y.move rfl rfl) ?_
  refine Jp.y 33 rfl (qaa rfl) rfl rfl Kp.true (by exact Y.remN rfl rfl rfl (by omega) (by omega)) ?_
  refine Jp.y 34 rfl (qaa rfl) rfl rfl Kp.true (Y.move rfl rfl) ?_
  refine Jp.y 35 rfl (qaa rfl) rfl rfl Kp.true (Y.qcj rfl rfl rfl (by exact qba (by omega) (by omega))) ?_
  refine Jp.y 36 rfl (qaa rfl) rfl rfl Kp.true (Y.qan rfl rfl) ?_
  refine Jp.y 37 rfl (qaa rfl) rfl rfl Kp.true (by exact Y.qad rfl rfl underlying109 rfl sizeOf90 (by decide) (show _ + 0 = _ from rfl)) ?_
  refine Jp.y 38 rfl (qaa rfl) rfl rfl Kp.true (Y.qam (q:=a % 256 + g) rfl rfl rfl underlying90 sizeOf5 (by omega) (by omega) (by omega)) ?_
  refine Jp.y 39 rfl (qaa rfl) rfl rfl Kp.true (by exact Y.qbg 3 rfl isAgg5 rfl rfl hcell) ?_
  refine Jp.y 40 rfl (qaa rfl) rfl rfl Kp.true (Y.qaw rfl rfl underlying5 underlying24 (by exact qba (by omega) (by omega))) ?_
  refine Jp.y 41 rfl (qaa rfl) rfl rfl Kp.true (Y.move rfl rfl) ?_
  refine Jp.y 42 rfl (qaa rfl) rfl rfl Kp.true (Y.mul_ rfl rfl rfl (by exact qba (by omega) (by omega))) ?_
  refine Jp.y 43 rfl (qaa rfl) rfl rfl Kp.true (Y.shl rfl rfl rfl (by first | decide | omega)) ?_
  refine Jp.y 44 rfl (qaa rfl) rfl rfl Kp.true (Y.bits rfl rfl rfl rfl) ?_
  refine Jp.y 12 rfl (qaa rfl) rfl rfl Kp.true (Y.assign rfl rfl) ?_
  refine Jp.over rfl hK11 ?_
  refine Cd.qac [(0,false),(1,false)] rfl rfl ?_
  refine Jp.slot 12 rfl (congrArg (Value.int .u32) (le_or2 (i:=g) (by rw [List.length_take,List.length_drop]; omega) (by omega))) ?_
  have e : (p.b.drop (a % 256)).take g ++ [p.b[a % 256 + g]'(by omega)] = (p.b.drop (a % 256)).take (g + 1):=by
   rw [List.take_succ_eq_append_getElem (by rw [List.length_drop]; omega),List.getElem_drop]
  rw [e]
  refine Jp.y 45 rfl (qaa rfl) rfl rfl Kp.true (Y.qcj rfl rfl rfl (by exact qba (by omega) (by omega))) ?_
  refine Jp.y 27 rfl (qaa rfl) rfl rfl Kp.true (Y.move rfl rfl) ?_
  refine Jp.again hLa (g + 1) (by omega) (by omega) rfl ⟨rfl,rfl,rfl,rfl,rfl,trivial⟩ ⟨rfl,rfl,rfl,rfl,trivial⟩
 ·simp only [decide_eq_false_iff_not] at ga
  obtain rfl : g = n:=by omega
  refine Cd.exit rfl hK7 ?_
  refine Cd.seq fun K13 hK13=>?_
  refine Cd.qac [(0,false),(1,false),(2,false)] rfl rfl ?_
  refine Jp.y 46 rfl (qaa rfl) rfl rfl Kp.true (Y.move rfl rfl) ?_
  refine Jp.y 8 rfl (qaa rfl) rfl rfl Kp.true (Y.assign rfl rfl) ?_
  refine Jp.y 9 rfl (qaa rfl) rfl rfl Kp.true (Y.assign rfl rfl) ?_
  refine Jp.qae hK13 ?_
  refine Cd.memClose 0 1 2 3 (by decide) hf rfl rfl rfl rfl ?_
  refine Cd.ret [(0,_)] rfl (qbx rfl rfl rfl) ⟨rfl,trivial⟩ ⟨rfl,?_,rfl⟩
  rw [hV]
theorem pageCells_lay (p : Pg) {off k v : Nat} (h : p.b.length = 256) (hk : off + k < 256) : (qbb (stPg p off k v)).toArray.setIfInBounds (off + k) (.int .u8 ((UInt8.ofNat (v / 2 ^ (8 * k))).toNat : Int)) = (qbb (stPg p off (k + 1) v)).toArray:=by
 rw [List.setIfInBounds_toArray]
 congr 1
 have hl : (lay p.b off (leB v k)).length = 256:=by rw [lay_length (by rw [qeq]; omega),h]
 rw [qbb,List.set_append_left _ _ (by rw [qaf,List.length_map]; show off + k < (lay p.b off (leB v k)).length; omega),bytesV_set]
 show qaf ((lay p.b off (leB v k)).set (off + k) _) ++ _ = _
 have:=lay_snoc_set (p:=p.b) (k:=off) (a:=leB v k) (x:=UInt8.ofNat (v / 2 ^ (8 * k))) (by rw [qeq]; omega)
 rw [qeq] at this
 rw [this,← leB_succ]; rfl
theorem stPg_len {p : Pg} {off k v : Nat} (h : p.b.length = 256) (hk : off + k ≤ 256) : (stPg p off k v).b.length = 256:=by
 show (lay p.b off (leB v k)).length = 256
 rw [lay_length (by rw [qeq]; omega),h]
def stMem (M : MemG) (key : Nat) (p : Pg) (off k v : Nat) : MemG:={ M with pages:=qbt M.pages key (stPg p off k v) }
theorem store_spec (b : Nat) (M : MemG) (a : Nat) (size : Int) (v : Nat) (ha : a < 4294967296) (hv : v < 4294967296) : Spec Tryz.prog 60 #[.pointer (some ⟨b,0,none⟩),.int .u32 a,.int .i64 size,.int .u32 v] (fun _=>True) [(0,qew b M)]
  (fun ρ ρ' r L=>ρ' = ρ ∧ r = .int .i64 (qel M a size v).1 ∧ L = [(0,qew b (qel M a size v).2)]):=by
 refine Spec.of 49 Tryz.func60 rfl Tryz.ntmps60 [(0,_),(1,_),(2,_),(3,_)] rfl rfl ?_
 intro cx ρ hr h0
 refine Cd.memOpen 0 1 2 3 (by decide) rfl fun x hf=>?_
 refine Cd.seq fun K14 hK14=>?_
 refine Cd.qac [(0,false)] rfl rfl ?_
 refine Jp.y 8 rfl (qaa rfl) rfl rfl Kp.true (Y.assign rfl rfl) ?_
 refine Jp.qae hK14 ?_
 refine Cd.seq fun K15 hK15=>?_
 refine Cd.qac [(0,false),(1,false),(2,false),(3,false),(4,false),(5,false),(6,false),(7,false),(8,false)] rfl rfl ?_
 refine Jp.y 13 rfl (qaa rfl) rfl rfl Kp.true (Y.move rfl rfl) ?_
 refine Jp.y 14 rfl (qaa rfl) rfl rfl Kp.true (Y.move rfl rfl) ?_
 refine Jp.y 15 rfl (qaa rfl) rfl rfl Kp.true (Y.move rfl rfl) ?_
 refine Jp.call [0,1,3] [0,1,3] (look_spec b M x hf a size 2 ha) 16 rfl (qaa rfl) rfl rfl (Runs.fn rfl call65 rfl) (by decide) (by decide) rfl trivial ?_
 rintro v102 ρ102 L102 ⟨rfl,rfl,rfl⟩
 refine ⟨rfl,fun hle102=>⟨Kp.true,?_⟩⟩
 refine Jp.y 12 rfl (qaa rfl) rfl rfl Kp.true (Y.move rfl rfl) ?_
 refine Jp.y 17 rfl (qaa rfl) rfl rfl Kp.true (Y.extract rfl rfl rfl) ?_
 refine Jp.y 18 rfl (qaa rfl) rfl rfl Kp.true (Y.extract rfl rfl rfl) ?_
 refine Jp.y 9 rfl (qaa rfl) rfl rfl Kp.true (Y.assign rfl rfl) ?_
 refine Jp.y 10 rfl (qaa rfl) rfl rfl Kp.true (Y.assign rfl rfl) ?_
 refine Jp.qae hK15 ?_
 refine Cd.seq fun K16 hK16=>?_
 refine Cd.seq fun K17 hK17=>?_
 refine Cd.qac [(0,false),(1,false)] rfl rfl ?_
 refine Jp.y 19 rfl (qaa rfl) rfl rfl Kp.true (Y.move rfl rfl) ?_
 refine Jp.y 20 rfl (qaa rfl) rfl rfl Kp.true (Y.neq rfl rfl rfl) ?_
 refine Jp.qae hK17 ?_
 refine Cd.qar rfl (fun g20=>?_) (fun g20=>?_)
 ·skip
  try simp only [sG0] at g20
  refine Cd.seq fun K18 hK18=>?_
  refine Cd.qac [(0,false),(1,false)] rfl rfl ?_
  refine Jp.y 21 rfl (qaa rfl) rfl rfl Kp.true (Y.move rfl rfl) ?_
  refine Jp.y 8 rfl (qaa rfl) rfl rfl Kp.true (Y.assign rfl rfl) ?_
  refine Jp.qae hK18 ?_
  refine Cd.memClose 0 1 2 3 (by decide) hf rfl rfl rfl rfl ?_
  have hV : qel M a size v = (qcv M a size 2,M):=by rw [qel,if_neg g20]
  refine Cd.ret [(0,_)] rfl (qbd rfl rfl) ⟨rfl,trivial⟩ ⟨rfl,by rw [hV],by rw [hV]⟩
 try simp only [sG0] at g20
 refine Cd.qbu hK16 ?_
 refine Cd.seq fun K19 hK19=>?_
 refine Cd.seq fun K20 hK20=>?_
 refine Cd.qac [(0,false),(1,false),(2,false)] rfl rfl ?_
 obtain ⟨hs,p,hg,hm⟩:=lookM_ok g20
 obtain ⟨n,rfl,hn1,hn2⟩:=sizeOk_nat hs
 have hpo:=hf.ok.page _ (qbc hg)
 have hlen : p.b.length = 256:=hpo.len
 have hV : qel M a n v = (0,{ M with pages:=qbt M.pages (qap a) (stPg p (a % 256) n v),gens:=bump M.gens (qap a) }):=by rw [qel,if_pos g20,hg]; rfl
 refine Jp.know (φ:=((qbp M x).map (·.1)).Nodup) (A:=Blks (qbp M x)) 3 rfl (fun _ h=>h.1) fun hnd=>?_
 refine Jp.slot 9 rfl (show _ = Value.pointer (some ⟨x.blk (qap a),0,none⟩) by rw [if_pos g20]) ?_
 have hnk : ∀ k,((qbp (stMem M (qap a) p (a % 256) k v) x).map (·.1)).Nodup:=fun k=>by
  rw [qbp,List.map_map]
  show ((qbt M.pages (qap a) _).map fun y=>x.blk y.1).Nodup
  rw [setPg_map]
  rw [qbp,List.map_map] at hnd
  exact hnd
 have hst0 : qbp M x = qbp (stMem M (qap a) p (a % 256) 0 v) x:=by
  have : stPg p (a % 256) 0 v = p:=by show (⟨lay p.b (a % 256) [],p.perm⟩ : Pg) = p; rw [lay_nil]
  rw [stMem,this,setPg_same hf.ok.rising.nodup hg]
 rw [hst0]
 refine Jp.y 22 rfl (qaa rfl) rfl rfl Kp.true (Y.move rfl rfl) ?_
 refine Jp.y 23 rfl (qaa rfl) rfl rfl Kp.true (Y.qaw rfl rfl underlying3 underlying24 (by exact qba (by omega) (by omega))) ?_
 refine Jp.y 24 rfl (qaa rfl) rfl rfl Kp.true (Y.move rfl rfl) ?_
 refine Jp.qae hK20 ?_
 refine Cd.block ?_
 refine Cd.qdv (G:=Nat) (fun k=>k ≤ n) (fun k=>n - k) (fun _=>_) (fun k=>[(24,.int .u32 k)]) [(0,_),(1,_),(3,_),(9,_),(23,_)] (fun k=>[(3,Blks (qbp (stMem M (qap a) p (a % 256) k v) x))]) [(0,_),(1,_),(2,_)] 0 (Nat.zero_le _) rfl ⟨rfl,trivial⟩ ⟨rfl,rfl,rfl,rfl,rfl,trivial⟩ ⟨rfl,trivial⟩ ⟨rfl,rfl,rfl,trivial⟩ (fun g KLa hok hLa=>?_)
 have hgk : qao (stMem M (qap a) p (a % 256) g v).pages (qap a) = some (stPg p (a % 256) g v):=by
  show qao (qbt _ _ _) _ = _
  rw [qhs,if_pos rfl,hg]; rfl
 refine Cd.seq fun K21 hK21=>?_
 refine Cd.qac [(0,false)] rfl rfl ?_
 refine Jp.y 25 rfl (qaa rfl) rfl rfl Kp.true (Y.lss rfl rfl rfl) ?_
 refine Jp.qae hK21 ?_
 refine Cd.seq fun K22 hK22=>?_
 refine Cd.qar rfl (fun ga=>?_) (fun ga=>?_)
 ·simp only [decide_eq_true_eq] at ga
  have hgn : g < n:=by omega
  refine Cd.qbu hK22 ?_
  refine Cd.seq fun K23 hK23=>?_
  refine Cd.block ?_
  refine Cd.seq fun K24 hK24=>?_
  refine Cd.qac [(0,false),(1,false)] rfl rfl ?_
  refine Jp.y 26 rfl (qaa rfl) rfl rfl Kp.true (Y.move rfl rfl) ?_
  refine Jp.y 11 rfl (qaa rfl) rfl rfl Kp.true (Y.assign rfl rfl) ?_
  refine Jp.qae hK24 ?_
  refine Cd.qac [(0,false),(1,false),(2,false),(3,false),(4,false),(5,false),(6,false),(7,false),(8,false),(9,false),(10,false),(11,false),(12,false),(13,false)] rfl rfl ?_
  refine Jp.y 27 rfl (qaa rfl) rfl rfl Kp.true (Y.move rfl rfl) ?_
  refine Jp.y 28 rfl (qaa rfl) rfl rfl Kp.true (Y.move rfl rfl) ?_
  refine Jp.y 29 rfl (qaa rfl) rfl rfl Kp.true (by exact Y.remN rfl rfl rfl (by omega) (by omega)) ?_
  refine Jp.y 30 rfl (qaa rfl) rfl rfl Kp.true (Y.move rfl rfl) ?_
  refine Jp.y 31 rfl (qaa rfl) rfl rfl Kp.true (Y.qcj rfl rfl rfl (by exact qba (by omega) (by omega))) ?_
  refine Jp.y 32 rfl (qaa rfl) rfl rfl Kp.true (Y.move rfl rfl) ?_
  refine Jp.y 33 rfl (qaa rfl) rfl rfl Kp.true (Y.move rfl rfl) ?_
  refine Jp.y 34 rfl (qaa rfl) rfl rfl Kp.true (Y.mul_ rfl rfl rfl (by exact qba (by omega) (by omega))) ?_
  refine Jp.y 35 rfl (qaa rfl) rfl rfl Kp.true (Y.shr rfl rfl rfl (by first | decide | omega)) ?_
  refine Jp.y 36 rfl (qaa rfl) rfl rfl Kp.true (Y.qaw rfl rfl underlying24 underlying5 (by rfl)) ?_
  refine Jp.y 37 rfl (qaa rfl) rfl rfl Kp.true (Y.qan rfl rfl) ?_
  refine Jp.y 38 rfl (qaa rfl) rfl rfl Kp.true (by exact Y.qad rfl rfl underlying109 rfl sizeOf90 (by decide) (show _ + 0 = _ from rfl)) ?_
  refine Jp.y 39 rfl (qaa rfl) rfl rfl Kp.true (Y.qam (q:=a % 256 + g) rfl rfl rfl underlying90 sizeOf5 (by omega) (by omega) (by omega)) ?_
  refine Jp.slot 36 rfl (congrArg (Value.int .u8) (shr8 v g (by omega))) ?_
  refine Jp.qct 3 (Blks (qbp (stMem M (qap a) p (a % 256) (g + 1) v) x)) rfl (qaa rfl) rfl rfl sizeOf5 rfl rfl rfl rfl rfl (Blks.set (MemF.blk hgk) (by simp [qbb,qaf,stPg_len hlen (show a % 256 + g ≤ 256 by omega)]; omega) (qas _) (by rw [pageCells_lay p hlen (by omega)]; exact (updB_blks (M:=stMem M (qap a) p (a % 256) g v) (x:=x) (hnk g) hgk).trans (by rw [stMem,stMem,setPg_set]))) Kp.true ?_
  refine Jp.over rfl hK23 ?_
  refine Cd.qac [(0,false),(1,false)] rfl rfl ?_
  refine Jp.y 40 rfl (qaa rfl) rfl rfl Kp.true (Y.qcj rfl rfl rfl (by exact qba (by omega) (by omega))) ?_
  refine Jp.y 24 rfl (qaa rfl) rfl rfl Kp.true (Y.move rfl rfl) ?_
  refine Jp.again hLa (g + 1) (by omega) (by omega) rfl ⟨rfl,rfl,rfl,rfl,rfl,rfl,trivial⟩ ⟨rfl,rfl,rfl,rfl,trivial⟩
 ·simp only [decide_eq_false_iff_not] at ga
  obtain rfl : g = n:=by omega
  have hf2 : MemF (stMem M (qap a) p (a % 256) g v) x:=hf.set hg (stPg_len hlen hn2) hpo.perm
  have hf3:=hf2.bump (qap a)
  refine Cd.exit rfl hK19 ?_
  refine Cd.seq fun K25 hK25=>?_
  refine Cd.drawn [(0,_),(2,_)] ⟨rfl,rfl,trivial⟩ [(0,true),(1,true),(2,true),(3,true),(4,true),(5,false),(6,true),(7,true),(8,false)] follows (by kernel_rfl) (fun hrl=>?_)
  refine Jp.q 41 rfl (qaa rfl) rfl rfl (Y.move rfl rfl) ?_
  refine Jp.q 42 rfl (qaa rfl) rfl rfl (Y.qan rfl rfl) ?_
  refine Jp.q 43 rfl (qaa rfl) rfl rfl (by exact Y.qad rfl rfl underlying102 rfl sizeOf100 (by decide) (show _ + 2 = _ from rfl)) ?_
  refine Jp.q 44 rfl (qaa rfl) rfl rfl (Y.qau 0 rfl isAgg100 rfl rfl rfl) ?_
  refine Jp.q 45 rfl (qaa rfl) rfl rfl (Y.move rfl rfl) ?_
  refine Jp.call [] [] (qcs a ha) 46 rfl (qaa rfl) rfl rfl (Runs.fn rfl call64 rfl) (by decide) (by decide) rfl trivial ?_
  rintro v103 ρ103 L103 ⟨rfl,rfl,rfl⟩
  refine ⟨rfl,fun hle103=>⟨(Kp.st ⟨rfl,rfl,trivial⟩),?_⟩⟩
  refine Jp.q 47 rfl (qaa rfl) rfl rfl (by first | exact Y.lookup 2 rfl rfl rfl underlying100 underlying24 zeroValue24 rfl) ?_
  refine Jp.slot 47 rfl ((hf.gens _)) ?_
  refine Jp.q 48 rfl (qaa rfl) rfl rfl (Y.qcj rfl rfl rfl (qhc (M.gens (qap a) + 1))) ?_
  first | refine Jp.mapUpdate 2 rfl (qaa rfl) rfl rfl rfl rfl rfl underlying100 underlying24 rfl Kp.last ?_
  refine Jp.qae hK25 ?_
  refine Cd.seq fun K27 hK27=>?_
  refine Cd.qac [(0,false)] rfl rfl ?_
  refine Jp.y 8 rfl (qaa rfl) rfl rfl Kp.true (Y.assign rfl rfl) ?_
  refine Jp.qae hK27 ?_
  refine Cd.memClose 0 1 2 3 (by decide) hf3 rfl rfl rfl rfl ?_
  refine Cd.ret [(0,_)] rfl (qbd rfl rfl) ⟨rfl,trivial⟩ ⟨rfl,by rw [hV],by rw [hV]; rfl⟩
end Go.Proofs.YtnfkalpgidiafaaGreat
set_option linter.unusedVariables false
set_option linter.unusedSimpArgs false
set_option maxRecDepth 100000
namespace Go.Proofs.YtnfkalpgidiafaaGreat
open _root_.Go.Proofs.Tryz
open Go
theorem MemF.ins {M : MemG} {x : MemX} (f : MemF M x) {k : Nat} {p : Pg} (b : Nat) (hk : k ∉ M.pages.map (·.1)) (h : MemOk { M with pages:=qfd k p M.pages }) :
  MemF { M with pages:=qfd k p M.pages } { x with pm:=qgy x.pm k (.pointer (some ⟨b,0,none⟩)),blk:=fun k'=>if k' = k then b else x.blk k' }:=by
 refine ⟨h,?_,f.gens⟩
 have h1 : (k : Int) ∉ (M.pages.map fun p=>((p.1 : Int),pgPtr x p.1)).map (·.1):=by
  rw [List.map_map]
  intro hm
  obtain ⟨y,hy,e⟩:=List.mem_map.1 hm
  have : y.1 = k:=Int.ofNat.inj e
  exact hk (this ▸ List.mem_map.2 ⟨y,hy,rfl⟩)
 refine (mset_perm f.pages h1).trans ?_
 refine (List.Perm.trans ?_ ((qby k p M.pages).map _).symm)
 rw [List.map_cons]
 have e : (M.pages.map fun p=>((p.1 : Int),pgPtr x p.1)) = M.pages.map fun p=>((p.1 : Int),pgPtr { x with pm:=qgy x.pm k (.pointer (some ⟨b,0,none⟩)),blk:=fun k'=>if k' = k then b else x.blk k' } p.1):=by
  apply List.map_congr_left
  intro y hy
  have : ¬ y.1 = k:=fun e=>hk (e ▸ List.mem_map.2 ⟨y,hy,rfl⟩)
  simp [pgPtr,this]
 rw [e]
 simp [pgPtr]
theorem blks_ins {M : MemG} {x : MemX} {k : Nat} {p : Pg} (b : Nat) (pm : qcp) (hk : k ∉ M.pages.map (·.1)) : ((b,pageO p) :: qbp M x).Perm (qbp { M with pages:=qfd k p M.pages } { x with pm:=pm,blk:=fun k'=>if k' = k then b else x.blk k' }):=by
 refine (List.Perm.trans ?_ ((qby k p M.pages).map _).symm)
 rw [List.map_cons]
 have e : qbp M x = M.pages.map fun q=>((if q.1 = k then b else x.blk q.1),pageO q.2):=by
  apply List.map_congr_left
  intro y hy
  have : ¬ y.1 = k:=fun e=>hk (e ▸ List.mem_map.2 ⟨y,hy,rfl⟩)
  simp [this]
 rw [e]
 simp
theorem map_spec (b : Nat) (M : MemG) (a n : Nat) (perm : Int) (ha : a < 4294967296) (hn : n < 4294967296) : Spec Tryz.prog 16 #[.pointer (some ⟨b,0,none⟩),.int .u32 a,.int .u32 n,.int .i64 perm] (fun _=>True) [(0,qew b M)]
  (fun ρ ρ' r L=>ρ' = ρ ∧ r = .int .i64 (mapM M a n perm).1 ∧ L = [(0,qew b (mapM M a n perm).2)]):=by
 refine Spec.of 76 Tryz.func16 rfl Tryz.ntmps16 [(0,_),(1,_),(2,_),(3,_)] rfl rfl ?_
 intro cx ρ hr h0
 refine Cd.memOpen 0 1 2 3 (by decide) rfl fun x hf=>?_
 have hroom:=hf.ok.room
 have hbud:=hf.ok.budget
 have hlen : x.pm.length = M.pages.length:=by rw [hf.pages.length_eq,List.length_map]
 refine Cd.seq fun K1 hK1=>?_
 refine Cd.qac [(0,false)] rfl rfl ?_
 refine Jp.y 8 rfl (qaa rfl) rfl rfl Kp.true (Y.assign rfl rfl) ?_
 refine Jp.qae hK1 ?_
 refine Cd.seq fun K2 hK2=>?_
 refine Cd.qac [(0,false),(1,false),(2,false),(3,false),(4,false),(5,false),(6,false),(7,false)] rfl rfl ?_
 refine Jp.y 14 rfl (qaa rfl) rfl rfl Kp.true (Y.move rfl rfl) ?_
 refine Jp.y 15 rfl (qaa rfl) rfl rfl Kp.true (Y.move rfl rfl) ?_
 refine Jp.call [] [] (stretch_spec a n ha hn) 16 rfl (qaa rfl) rfl rfl (Runs.fn rfl call33 rfl) (by decide) (by decide) rfl trivial ?_
 rintro v1 ρ1 L1 ⟨rfl,rfl,rfl⟩
 refine ⟨rfl,fun hle1=>⟨Kp.true,?_⟩⟩
 refine Jp.y 13 rfl (qaa rfl) rfl rfl Kp.true (Y.move rfl rfl) ?_
 refine Jp.y 17 rfl (qaa rfl) rfl rfl Kp.true (Y.extract rfl rfl rfl) ?_
 refine Jp.y 18 rfl (qaa rfl) rfl rfl Kp.true (Y.extract rfl rfl rfl) ?_
 refine Jp.y 9 rfl (qaa rfl) rfl rfl Kp.true (Y.assign rfl rfl) ?_
 refine Jp.y 10 rfl (qaa rfl) rfl rfl Kp.true (Y.assign rfl rfl) ?_
 refine Jp.qae hK2 ?_
 refine Cd.seq fun K3 hK3=>?_
 refine Cd.block ?_
 refine Cd.seq fun K4 hK4=>?_
 refine Cd.qac [(0,false),(1,false),(2,false),(3,false),(4,false),(5,false),(6,false),(7,false),(8,false),(9,false),(10,false)] rfl rfl ?_
 refine Jp.y 20 rfl (qaa rfl) rfl rfl Kp.true (Y.move rfl rfl) ?_
 refine Jp.y 21 rfl (qaa rfl) rfl rfl Kp.true (Y.not rfl rfl) ?_
 refine Jp.y 22 rfl (qaa rfl) rfl rfl Kp.true (Y.move rfl rfl) ?_
 refine Jp.split 22 rfl (fun g22=>?_) (fun g22=>?_)
 ·skip
  try simp only [sG0] at g22
  refine Jp.qaq 23 rfl (qab rfl rfl rfl rfl) rfl rfl Kp.true ?_
  refine Jp.qaq 24 rfl (qab rfl rfl rfl rfl) rfl rfl Kp.true ?_
  refine Jp.y 25 rfl (qaa rfl) rfl rfl Kp.true (Y.qav rfl rfl rfl) ?_
  refine Jp.y 26 rfl (qaa rfl) rfl rfl Kp.true (Y.move rfl rfl) ?_
  refine Jp.qaq 27 rfl (qab rfl rfl rfl rfl) rfl rfl Kp.true ?_
  refine Jp.qaq 28 rfl (qab rfl rfl rfl rfl) rfl rfl Kp.true ?_
  refine Jp.y 29 rfl (qaa rfl) rfl rfl Kp.true (Y.qav rfl rfl rfl) ?_
  refine Jp.y 19 rfl (qaa rfl) rfl rfl Kp.true (Y.assign rfl rfl) ?_
  refine Jp.qae hK4 ?_
  refine Cd.qcw rfl ?_
  refine Cd.seq fun K5 hK5=>?_
  refine Cd.qac [(0,false)] rfl rfl ?_
  refine Jp.y 8 rfl (qaa rfl) rfl rfl Kp.true (Y.assign rfl rfl) ?_
  refine Jp.qae hK5 ?_
  refine Cd.memClose 0 1 2 3 (by decide) hf rfl rfl rfl rfl ?_
  have hV : mapM M a n perm = (1,M):=by
   rw [mapM]
   split
   ·rfl
   ·rename_i many hm
    rw [if_pos (by (rw [hm] at g22; cases g22; done))]
  refine Cd.ret [(0,_)] rfl (qbd rfl rfl) ⟨rfl,trivial⟩ ⟨rfl,by rw [hV],by rw [hV]⟩
 try simp only [sG0] at g22
 refine Jp.y 23 rfl (qab rfl rfl rfl rfl) rfl rfl Kp.true (Y.move rfl rfl) ?_
 refine Jp.y 24 rfl (qab rfl rfl rfl rfl) rfl rfl Kp.true (Y.lss rfl rfl rfl) ?_
 refine Jp.y 25 rfl (qaa rfl) rfl rfl Kp.true (Y.qay rfl rfl rfl) ?_
 refine Jp.y 26 rfl (qaa rfl) rfl rfl Kp.true (Y.move rfl rfl) ?_
 refine Jp.split 26 rfl (fun g26=>?_) (fun g26=>?_)
 ·skip
  try simp only [sG0] at g26
  refine Jp.qaq 27 rfl (qab rfl rfl rfl rfl) rfl rfl Kp.true ?_
  refine Jp.qaq 28 rfl (qab rfl rfl rfl rfl) rfl rfl Kp.true ?_
  refine Jp.y 29 rfl (qaa rfl) rfl rfl Kp.true (Y.qav rfl rfl rfl) ?_
  refine Jp.y 19 rfl (qaa rfl) rfl rfl Kp.true (Y.assign rfl rfl) ?_
  refine Jp.qae hK4 ?_
  refine Cd.qcw rfl ?_
  refine Cd.seq fun K6 hK6=>?_
  refine Cd.qac [(0,false)] rfl rfl ?_
  refine Jp.y 8 rfl (qaa rfl) rfl rfl Kp.true (Y.assign rfl rfl) ?_
  refine Jp.qae hK6 ?_
  refine Cd.memClose 0 1 2 3 (by decide) hf rfl rfl rfl rfl ?_
  have hV : mapM M a n perm = (1,M):=by
   rw [mapM]
   split
   ·rfl
   ·rename_i many hm
    rw [if_pos (by omega)]
  refine Cd.ret [(0,_)] rfl (qbd rfl rfl) ⟨rfl,trivial⟩ ⟨rfl,by rw [hV],by rw [hV]⟩
 try simp only [sG0] at g26
 refine Jp.y 27 rfl (qab rfl rfl rfl rfl) rfl rfl Kp.true (Y.move rfl rfl) ?_
 refine Jp.y 28 rfl (qab rfl rfl rfl rfl) rfl rfl Kp.true (Y.gtr rfl rfl rfl) ?_
 refine Jp.y 29 rfl (qaa rfl) rfl rfl Kp.true (Y.qay rfl rfl rfl) ?_
 refine Jp.y 19 rfl (qaa rfl) rfl rfl Kp.true (Y.assign rfl rfl) ?_
 refine Jp.qae hK4 ?_
 refine Cd.qar rfl (fun g19=>?_) (fun g19=>?_)
 ·skip
  try simp only [sG0] at g19
  refine Cd.seq fun K7 hK7=>?_
  refine Cd.qac [(0,false)] rfl rfl ?_
  refine Jp.y 8 rfl (qaa rfl) rfl rfl Kp.true (Y.assign rfl rfl) ?_
  refine Jp.qae hK7 ?_
  refine Cd.memClose 0 1 2 3 (by decide) hf rfl rfl rfl rfl ?_
  have hV : mapM M a n perm = (1,M):=by
   rw [mapM]
   split
   ·rfl
   ·rename_i many hm
    rw [if_pos (by omega)]
  refine Cd.ret [(0,_)] rfl (qbd rfl rfl) ⟨rfl,trivial⟩ ⟨rfl,by rw [hV],by rw [hV]⟩
 try simp only [sG0] at g19
 refine Cd.seq fun K8 hK8=>?_
 refine Cd.qac [(0,false),(1,false),(2,false),(3,false),(4,false),(5,false),(6,false)] rfl rfl ?_
 obtain ⟨many,hm⟩:=Option.isSome_iff_exists.1 g22
 have hmany : (n + 255) / 256 = many:=by
  rw [qei] at hm
  split at hm
  ·injection hm
  ·cases hm
 rw [hmany]
 have hst : a % 256 = 0 ∧ a + many * 256 ≤ 4294967296 ∧ 0 < many:=by
  rw [qei] at hm
  split at hm
  ·rename_i h; injection hm with hm; omega
  ·cases hm
 refine Jp.y 31 rfl (qaa rfl) rfl rfl Kp.true (Y.move rfl rfl) ?_
 refine Jp.y 32 rfl (qaa rfl) rfl rfl Kp.true (Y.move rfl rfl) ?_
 refine Jp.y 33 rfl (qaa rfl) rfl rfl Kp.true (Y.move rfl rfl) ?_
 refine Jp.call [0,1] [0,1,9] (within_spec b M x hf a many ha (by omega)) 34 rfl (qaa rfl) rfl rfl (Runs.fn rfl call34 rfl) (by decide) (by decide) rfl trivial ?_
 rintro v2 ρ2 L2 ⟨rfl,l,Al,cl,hl,rfl,rfl⟩
 refine ⟨rfl,fun hle2=>⟨Kp.true,?_⟩⟩
 have hll:=hl.length_eq
 refine Jp.y 35 rfl (qaa rfl) rfl rfl Kp.true (Y.qbq rfl underlying22 rfl) ?_
 refine Jp.y 36 rfl (qaa rfl) rfl rfl Kp.true (Y.gtr rfl rfl rfl) ?_
 refine Jp.y 30 rfl (qaa rfl) rfl rfl Kp.true (Y.assign rfl rfl) ?_
 refine Jp.qae hK8 ?_
 refine Cd.qar rfl (fun g30=>?_) (fun g30=>?_)
 ·skip
  try simp only [sG0] at g30
  refine Cd.seq fun K9 hK9=>?_
  refine Cd.qac [(0,false)] rfl rfl ?_
  refine Jp.y 8 rfl (qaa rfl) rfl rfl Kp.true (Y.assign rfl rfl) ?_
  refine Jp.qae hK9 ?_
  refine Cd.memClose 0 1 2 3 (by decide) hf rfl rfl rfl rfl ?_
  have hV : mapM M a n perm = (5,M):=by rw [mapM,hm]; dsimp only; rw [if_neg (by omega),if_pos (by omega)]
  refine Cd.ret [(0,_)] rfl (qbd rfl rfl) ⟨rfl,trivial⟩ ⟨rfl,by rw [hV],by rw [hV]⟩
 try simp only [sG0] at g30
 refine Cd.seq fun K10 hK10=>?_
 refine Cd.drawn [(0,_),(1,_)] ⟨rfl,rfl,trivial⟩ [(0,true),(1,true),(2,true),(3,true),(4,true),(5,true),(6,true),(7,true),(8,true),(9,true),(10,true),(11,true),(12,true),(13,true)] follows (by kernel_rfl) (fun hrl=>?_)
 refine Jp.q 38 rfl (qaa rfl) rfl rfl (Y.move rfl rfl) ?_
 refine Jp.q 39 rfl (qaa rfl) rfl rfl (Y.move rfl rfl) ?_
 refine Jp.q 40 rfl (qaa rfl) rfl rfl (Y.qan rfl rfl) ?_
 refine Jp.q 41 rfl (qaa rfl) rfl rfl (by exact Y.qad rfl rfl underlying102 rfl sizeOf3 (by decide) (show _ + 0 = _ from rfl)) ?_
 refine Jp.q 42 rfl (qaa rfl) rfl rfl (Y.qau 0 rfl isAgg3 rfl rfl rfl) ?_
 refine Jp.q 43 rfl (qaa rfl) rfl rfl (Y.move rfl rfl) ?_
 refine Jp.q 44 rfl (qaa rfl) rfl rfl (Y.qan rfl rfl) ?_
 refine Jp.q 45 rfl (qaa rfl) rfl rfl (by exact Y.qad rfl rfl underlying102 rfl sizeOf99 (by decide) (show _ + 1 = _ from rfl)) ?_
 refine Jp.q 46 rfl (qaa rfl) rfl rfl (Y.qau 0 rfl isAgg99 rfl rfl rfl) ?_
 refine Jp.q 47 rfl (qaa rfl) rfl rfl (by first | exact Y.lenmap 1 rfl underlying99 rfl rfl) ?_
 refine Jp.q 48 rfl (qaa rfl) rfl rfl (Y.qfm rfl rfl rfl (by exact qaj (by omega) (by omega))) ?_
 refine Jp.q 49 rfl (qaa rfl) rfl rfl (Y.qaw rfl rfl underlying3 underlying103 (by exact qbh (by omega) (by omega))) ?_
 refine Jp.q 50 rfl (qaa rfl) rfl rfl (Y.gtr rfl rfl rfl) ?_
 refine Jp.q 37 rfl (qaa rfl) rfl rfl (Y.assign rfl rfl) ?_
 refine Jp.qae hK10 ?_
 refine Cd.qar rfl (fun g37=>?_) (fun g37=>?_)
 ·skip
  try simp only [sG0] at g37
  refine Cd.seq fun K12 hK12=>?_
  refine Cd.qac [(0,false)] rfl rfl ?_
  refine Jp.y 8 rfl (qaa rfl) rfl rfl Kp.true (Y.assign rfl rfl) ?_
  refine Jp.qae hK12 ?_
  refine Cd.memClose 0 1 2 3 (by decide) hf rfl rfl rfl rfl ?_
  have hV : mapM M a n perm = (6,M):=by rw [mapM,hm]; dsimp only; rw [if_neg (by omega),if_neg (by omega),if_pos (by omega)]
  refine Cd.ret [(0,_)] rfl (qbd rfl rfl) ⟨rfl,trivial⟩ ⟨rfl,by rw [hV],by rw [hV]⟩
 try simp only [sG0] at g37
 refine Cd.over rfl hK3 ?_
 refine Cd.seq fun K13 hK13=>?_
 refine Cd.seq fun K14 hK14=>?_
 refine Cd.qac [(0,false),(1,false),(2,false)] rfl rfl ?_
 refine Jp.y 51 rfl (qaa rfl) rfl rfl Kp.true (Y.move rfl rfl) ?_
 refine Jp.y 52 rfl (qaa rfl) rfl rfl Kp.true (Y.qaw rfl rfl underlying103 underlying24 (by exact qba (by omega) (by omega))) ?_
 refine Jp.y 53 rfl (qaa rfl) rfl rfl Kp.true (Y.move rfl rfl) ?_
 refine Jp.qae hK14 ?_
 refine Cd.block ?_
 obtain ⟨pn,rfl⟩:=Int.eq_ofNat_of_zero_le g26
 have hV : mapM M a n pn = (0,qdt M a pn many):=by rw [mapM,hm]; dsimp only; rw [if_neg (by omega),if_neg (by omega),if_neg (by omega)]; rfl
 have hnone : ∀ i,i < many → a + 256 * i ∉ (qdt M a pn i).pages.map (·.1):=fun i hi h=>by
  rcases addPgs_mem h with h | ⟨j,hj,h⟩
  ·exact within_none (a:=a) (many:=many) (by omega) (by simp only [inS,Bool.and_eq_true,decide_eq_true_eq]; omega) h
  ·omega
 refine Cd.qdv (G:=Nat × MemX) (fun g=>g.1 ≤ many ∧ MemF (qdt M a pn g.1) g.2 ∧ g.2.pb = x.pb ∧ g.2.gb = x.gb) (fun g=>many - g.1) (fun _=>_) (fun g=>[(53,.int .u32 g.1)]) [(0,_),(1,_),(3,_),(52,_)] (fun g=>[(1,qcn .u32 x.pb g.2.pm),(2,qcn .u32 x.gb g.2.gm),(3,Blks (qbp (qdt M a pn g.1) g.2))]) [(0,_)] ⟨0,x⟩ ⟨Nat.zero_le _,hf,rfl,rfl⟩ rfl ⟨rfl,trivial⟩ ⟨rfl,rfl,rfl,rfl,trivial⟩ ⟨rfl,rfl,rfl,trivial⟩ ⟨rfl,trivial⟩ (fun g KLa hok hLa=>?_)
 obtain ⟨i,y⟩:=g
 obtain ⟨ok1,ok2,ok3,ok4⟩:=hok
 dsimp only at ok1 ok2 ok3 ok4 ⊢
 refine Cd.seq fun K15 hK15=>?_
 refine Cd.qac [(0,false)] rfl rfl ?_
 refine Jp.y 54 rfl (qaa rfl) rfl rfl Kp.true (Y.lss rfl rfl rfl) ?_
 refine Jp.qae hK15 ?_
 refine Cd.seq fun K16 hK16=>?_
 refine Cd.qar rfl (fun ga=>?_) (fun ga=>?_)
 ·simp only [decide_eq_true_eq] at ga
  have hi : i < many:=by omega
  have hno:=hnone i hi
  have hmo : MemOk { qdt M a pn i with pages:=qfd (a + 256 * i) ⟨List.replicate 256 0,pn⟩ (qdt M a pn i).pages } :=
   ok2.ok.ins hno (by omega) (by omega) (by simp) (by show pn ≤ 7; omega) (by rw [addPgs_length,qib]; omega)
  refine Cd.qbu hK16 ?_
  refine Cd.seq fun K17 hK17=>?_
  refine Cd.block ?_
  refine Cd.seq fun K18 hK18=>?_
  refine Cd.qac [(0,false),(1,false)] rfl rfl ?_
  refine Jp.y 55 rfl (qaa rfl) rfl rfl Kp.true (Y.move rfl rfl) ?_
  refine Jp.y 11 rfl (qaa rfl) rfl rfl Kp.true (Y.assign rfl rfl) ?_
  refine Jp.qae hK18 ?_
  refine Cd.seq fun K19 hK19=>?_
  refine Cd.qac [(0,false),(1,false),(2,false),(3,false),(4,false)] rfl rfl ?_
  refine Jp.y 56 rfl (qaa rfl) rfl rfl Kp.true (Y.move rfl rfl) ?_
  refine Jp.y 57 rfl (qaa rfl) rfl rfl Kp.true (Y.move rfl rfl) ?_
  refine Jp.y 58 rfl (qaa rfl) rfl rfl Kp.true (Y.mul_ rfl rfl rfl (by exact qba (by omega) (by omega))) ?_
  refine Jp.y 59 rfl (qaa rfl) rfl rfl Kp.true (Y.qcj rfl rfl rfl (by exact qba (by omega) (by omega))) ?_
  refine Jp.y 12 rfl (qaa rfl) rfl rfl Kp.true (Y.assign rfl rfl) ?_
  refine Jp.qae hK19 ?_
  refine Cd.seq fun K20 hK20=>?_
  refine Cd.qac [(0,false),(1,false),(2,false),(3,false),(4,false),(5,false),(6,false),(7,false),(8,false)] rfl rfl ?_
  refine Jp.slot 12 rfl (congrArg (Value.int .u32) (show ((a : Int) + i * 256) = ((a + 256 * i : Nat) : Int) by omega)) ?_
  refine Jp.y 60 rfl (qaa rfl) rfl rfl Kp.true (Y.move rfl rfl) ?_
  refine Jp.y 61 rfl (qaa rfl) rfl rfl Kp.true (Y.qan rfl rfl) ?_
  refine Jp.y 62 rfl (qaa rfl) rfl rfl Kp.true (by exact Y.qad rfl rfl underlying102 rfl sizeOf99 (by decide) (show _ + 1 = _ from rfl)) ?_
  refine Jp.y 63 rfl (qaa rfl) rfl rfl Kp.true (Y.qau 0 rfl isAgg99 rfl rfl rfl) ?_
  refine Jp.y 64 rfl (qaa rfl) rfl rfl Kp.true (Y.move rfl rfl) ?_
  refine Jp.y 65 rfl (qaa rfl) rfl rfl Kp.true (Y.move rfl rfl) ?_
  refine Jp.y 66 rfl (qaa rfl) rfl rfl Kp.true (Y.struct [(1,_)] [_,_,_,_,_,_,_,_,_,_,_,_,_,_,_,_,_,_,_,_,_,_,_,_,_,_,_,_,_,_,_,_,_,_,_,_,_,_,_,_,_,_,_,_,_,_,_,_,_,_,_,_,_,_,_,_,_,_,_,_,_,_,_,_,_,_,_,_,_,_,_,_,_,_,_,_,_,_,_,_,_,_,_,_,_,_,_,_,_,_,_,_,_,_,_,_,_,_,_,_,_,_,_,_,_,_,_,_,_,_,_,_,_,_,_,_,_,_,_,_,_,_,_,_,_,_,_,_,_,_,_,_,_,_,_,_,_,_,_,_,_,_,_,_,_,_,_,_,_,_,_,_,_,_,_,_,_,_,_,_,_,_,_,_,_,_,_,_,_,_,_,_,_,_,_,_,_,_,_,_,_,_,_,_,_,_,_,_,_,_,_,_,_,_,_,_,_,_,_,_,_,_,_,_,_,_,_,_,_,_,_,_,_,_,_,_,_,_,_,_,_,_,_,_,_,_,_,_,_,_,_,_,_,_,_,_,_,_,_,_,_,_,_,_,_,_,_,_,_,_,_,_,_,_,_,_,_] rfl rfl places109 zeroValue109 rfl) ?_
  refine Jp.slot 66 rfl (show _ = Value.agg (qbb ⟨List.replicate 256 0,pn⟩).toArray by rfl) ?_
  refine Jp.box 50 67 rfl (qaa rfl) rfl rfl rfl rfl fun b50=>⟨Kp.true,?_⟩
  first | refine Jp.mapUpdate 1 rfl (qaa rfl) rfl rfl rfl rfl rfl underlying99 underlying24 rfl Kp.true ?_
  refine Jp.qae hK20 ?_
  refine Cd.qac [(0,false),(1,false),(2,false),(3,false),(4,false),(5,false),(6,false),(7,false)] rfl rfl ?_
  refine Jp.joinB (ob:=pageO ⟨List.replicate 256 0,pn⟩) 3 50 (by decide) rfl rfl ?_
  refine Jp.imp (j:=3) rfl (Blks.perm (blks_ins (p:=⟨List.replicate 256 0,pn⟩) b50 (qgy y.pm ((a + 256 * i : Nat) : Int) (.pointer (some ⟨b50,0,none⟩))) hno)) ?_
  have hf2:=ok2.ins (p:=⟨List.replicate 256 0,pn⟩) b50 hno hmo
  have hf3:=hf2.bump (a + 256 * i)
  refine Jp.y 68 rfl (qaa rfl) rfl rfl Kp.true (Y.move rfl rfl) ?_
  refine Jp.y 69 rfl (qaa rfl) rfl rfl Kp.true (Y.qan rfl rfl) ?_
  refine Jp.y 70 rfl (qaa rfl) rfl rfl Kp.true (by exact Y.qad rfl rfl underlying102 rfl sizeOf100 (by decide) (show _ + 2 = _ from rfl)) ?_
  refine Jp.y 71 rfl (qaa rfl) rfl rfl Kp.true (by exact Y.qau 0 rfl isAgg100 rfl rfl rfl) ?_
  refine Jp.y 72 rfl (qaa rfl) rfl rfl Kp.true (Y.move rfl rfl) ?_
  refine Jp.y 73 rfl (qaa rfl) rfl rfl Kp.true (by first | exact Y.lookup 2 rfl rfl rfl underlying100 underlying24 zeroValue24 rfl) ?_
  refine Jp.slot 73 rfl ((ok2.gens _)) ?_
  refine Jp.y 74 rfl (qaa rfl) rfl rfl Kp.true (Y.qcj rfl rfl rfl (qhc ((qdt M a pn i).gens (a + 256 * i) + 1))) ?_
  first | refine Jp.mapUpdate 2 rfl (qaa rfl) rfl rfl rfl rfl rfl underlying100 underlying24 rfl Kp.true ?_
  refine Jp.over rfl hK17 ?_
  refine Cd.qac [(0,false),(1,false)] rfl rfl ?_
  refine Jp.y 75 rfl (qaa rfl) rfl rfl Kp.true (Y.qcj rfl rfl rfl (qba (by omega) (by omega))) ?_
  refine Jp.y 53 rfl (qaa rfl) rfl rfl Kp.true (Y.move rfl rfl) ?_
  refine Jp.again hLa ⟨i + 1,_⟩ ⟨hi,hf3,ok3,ok4⟩ (by show many - (i + 1) < many - i; omega) rfl ⟨rfl,rfl,rfl,rfl,rfl,trivial⟩ ⟨rfl,rfl,rfl,rfl,trivial⟩
 ·simp only [decide_eq_false_iff_not] at ga
  obtain rfl : i = many:=by omega
  refine Cd.exit rfl hK13 ?_
  refine Cd.seq fun K21 hK21=>?_
  refine Cd.qac [(0,false)] rfl rfl ?_
  refine Jp.y 8 rfl (qaa rfl) rfl rfl Kp.true (Y.assign rfl rfl) ?_
  refine Jp.qae hK21 ?_
  have e : qcx (qdt M a pn i) y = qcx M x:=by rw [qcx,qcx,qib,ok3,ok4]
  refine Cd.memClose (b:=b) (x:=y) 0 1 2 3 (by decide) ok2 (by rw [e]; rfl) (by rw [ok3]; rfl) (by rw [ok4]; rfl) rfl ?_
  refine Cd.ret [(0,_)] rfl (qbd rfl rfl) ⟨rfl,trivial⟩ ⟨rfl,by rw [hV],by rw [hV]⟩
end Go.Proofs.YtnfkalpgidiafaaGreat
set_option linter.unusedVariables false
set_option linter.unusedSimpArgs false
set_option maxRecDepth 100000
namespace Go.Proofs.YtnfkalpgidiafaaGreat
open _root_.Go.Proofs.Tryz
open Go
theorem new_yes (m : Nat) (h : 1 ≤ m ∧ m ≤ 4096) : Spec Tryz.prog 15 #[.int .i64 m] (fun _=>True) [] (fun ρ ρ' v L=>ρ' = ρ ∧ ∃ b,v = .tuple #[.pointer (some ⟨b,0,none⟩),.int .i64 0] ∧ L = [(0,qew b (newM m))]) :=
 (new_spec m).mono (fun _ h=>h) fun ρ ρ' v l hp=>by
  obtain ⟨h1,h2⟩:=hp
  rw [if_pos (by omega)] at h2
  exact ⟨h1,h2⟩
end Go.Proofs.YtnfkalpgidiafaaGreat
set_option linter.unusedVariables false
set_option linter.unusedSimpArgs false
set_option maxRecDepth 100000
namespace Go.Proofs.YtnfkalpgidiafaaGreat
open _root_.Go.Proofs.Tryz
open Go
def oneM (bud : Nat) (bs : qal) (g : Nat → Nat) : MemG:=⟨bud,[(0,⟨bs,3⟩)],g⟩
end Go.Proofs.YtnfkalpgidiafaaGreat

namespace Go.Proofs.YtnfkalpgidiafaaGreat
open _root_.Go.Proofs.Tryz
open Go
def endsP (op : Nat) : Bool:=op == 0 || (decide (3 ≤ op) && decide (op ≤ 10)) || (decide (47 ≤ op) && decide (op ≤ 49))
structure EvP where
 kind : Nat
 addr : Nat
 why : Int
def EvP.cells (e : EvP) : List Value:=[.int .i64 (e.kind : Int),.int .u32 (e.addr : Int),.int .i64 e.why]
def noIns : InsP:=⟨0,0,0,0,0⟩
def noEv : EvP:=⟨0,0,0⟩
def qbs (M : MemG) (pc : Nat) : InsP × EvP :=
 if (qdq M pc 4 4).2 = 0 then (if (decP (qdq M pc 4 4).1).op = 0 then (noIns,⟨2,pc,0⟩) else (decP (qdq M pc 4 4).1,noEv)) else (noIns,⟨1,pc,(qdq M pc 4 4).2⟩)
theorem fetch_spec (b : Nat) (M : MemG) (pc : Nat) (hpc : pc < 4294967296) (hl : (qdq M pc 4 4).1 < 4294967296) : Spec Tryz.prog 18 #[.pointer (some ⟨b,0,none⟩),.int .u32 pc] (fun _=>True) [(0,qew b M)]
  (fun ρ ρ' v L=>ρ' = ρ ∧ v = .tuple #[.agg (qbs M pc).1.cells.toArray,.agg (qbs M pc).2.cells.toArray] ∧ L = [(0,qew b M)]):=by
 refine Spec.of 31 Tryz.func18 rfl Tryz.ntmps18 [(0,_),(1,_)] rfl rfl ?_
 intro cx ρ hr h0
 obtain ⟨F,hF⟩ : ∃ F,qbs M pc = F:=⟨_,rfl⟩
 rw [hF]
 unfold qbs at hF
 have hL:=qho b M pc 4 4 hpc
 obtain ⟨w,hw⟩ : ∃ w,(qdq M pc 4 4).1 = w:=⟨_,rfl⟩
 obtain ⟨f,hf⟩ : ∃ f,(qdq M pc 4 4).2 = f:=⟨_,rfl⟩
 rw [hw,hf] at hF hL
 rw [hw] at hl
 have hD:=decode_spec w hl
 obtain ⟨i,hi⟩ : ∃ i,decP w = i:=⟨_,rfl⟩
 rw [hi] at hF hD
 refine Cd.seq fun K1 hK1=>?_
 refine Cd.qac [(0,false),(1,false)] rfl rfl ?_
 refine Jp.alloc 4 4 rfl (qaa rfl) rfl rfl rfl zeroValue60 fun b4=>⟨Kp.true,?_⟩
 refine Jp.alloc 5 5 rfl (qaa rfl) rfl rfl rfl zeroValue46 fun b5=>⟨Kp.true,?_⟩
 refine Jp.qae hK1 ?_
 refine Cd.seq fun K2 hK2=>?_
 refine Cd.qac [(0,false),(1,false),(2,false),(3,false),(4,false),(5,false),(6,false),(7,false)] rfl rfl ?_
 refine Jp.y 10 rfl (qaa rfl) rfl rfl Kp.true (Y.move rfl rfl) ?_
 refine Jp.y 11 rfl (qaa rfl) rfl rfl Kp.true (Y.move rfl rfl) ?_
 refine Jp.call [0] [0] hL 12 rfl (qaa rfl) rfl rfl (Runs.fn rfl call31 rfl) (by decide) (by decide) rfl trivial ?_
 rintro v1 ρ1 L1 ⟨rfl,rfl,rfl⟩
 refine ⟨rfl,fun hle1=>⟨Kp.true,?_⟩⟩
 refine Jp.y 9 rfl (qaa rfl) rfl rfl Kp.true (Y.move rfl rfl) ?_
 refine Jp.y 13 rfl (qaa rfl) rfl rfl Kp.true (Y.extract rfl rfl rfl) ?_
 refine Jp.y 14 rfl (qaa rfl) rfl rfl Kp.true (Y.extract rfl rfl rfl) ?_
 refine Jp.y 6 rfl (qaa rfl) rfl rfl Kp.true (Y.assign rfl rfl) ?_
 refine Jp.y 7 rfl (qaa rfl) rfl rfl Kp.true (Y.assign rfl rfl) ?_
 refine Jp.qae hK2 ?_
 refine Cd.seq fun K3 hK3=>?_
 refine Cd.seq fun K4 hK4=>?_
 refine Cd.qac [(0,false),(1,false)] rfl rfl ?_
 refine Jp.y 15 rfl (qaa rfl) rfl rfl Kp.true (Y.move rfl rfl) ?_
 refine Jp.y 16 rfl (qaa rfl) rfl rfl Kp.true (Y.neq rfl rfl rfl) ?_
 refine Jp.qae hK4 ?_
 refine Cd.qar rfl (fun ga=>?_) (fun ga=>?_)
 ·simp at ga
  rw [if_neg ga] at hF
  subst hF
  refine Cd.seq fun K5 hK5=>?_
  refine Cd.qac [(0,false),(1,false),(2,false),(3,false),(4,false),(5,false)] rfl rfl ?_
  refine Jp.y 17 rfl (qaa rfl) rfl rfl Kp.true (Y.struct [] [_,_,_,_,_] rfl rfl places60 zeroValue60 rfl) ?_
  refine Jp.y 18 rfl (qaa rfl) rfl rfl Kp.true (Y.move rfl rfl) ?_
  refine Jp.y 19 rfl (qaa rfl) rfl rfl Kp.true (Y.move rfl rfl) ?_
  refine Jp.y 20 rfl (qaa rfl) rfl rfl Kp.true (Y.struct [(0,_),(1,_),(2,_)] [_,_,_] rfl rfl qca zeroValue46 rfl) ?_
  refine Jp.qcb 4 rfl (qaa rfl) rfl rfl sizeOf60 rfl rfl rfl rfl rfl rfl (fun k _ _=>qas k) Kp.true ?_
  refine Jp.qcb 5 rfl (qaa rfl) rfl rfl sizeOf46 rfl rfl rfl rfl rfl rfl (fun k _ _=>qas k) Kp.true ?_
  refine Jp.qae hK5 ?_
  refine Cd.ret [(0,_)] rfl (by exact resCC 4 5 rfl rfl rfl isAgg60 sizeOf60 isAgg46 sizeOf46 rfl rfl rfl rfl) ⟨rfl,trivial⟩ ⟨rfl,rfl,rfl⟩
 ·simp at ga
  rw [if_pos ga] at hF
  refine Cd.qbu hK3 ?_
  refine Cd.seq fun K6 hK6=>?_
  refine Cd.qac [(0,false),(1,false),(2,false),(3,false)] rfl rfl ?_
  refine Jp.y 21 rfl (qaa rfl) rfl rfl Kp.true (Y.move rfl rfl) ?_
  refine Jp.call [] [] hD 22 rfl (qaa rfl) rfl rfl (Runs.fn rfl call36 rfl) (by decide) (by decide) rfl trivial ?_
  rintro v2 ρ2 L2 ⟨rfl,rfl,rfl⟩
  refine ⟨rfl,fun hle2=>⟨Kp.true,?_⟩⟩
  obtain ⟨op,rd,r1,r2,imm⟩:=i
  refine Jp.alloc 8 8 rfl (qaa rfl) rfl rfl rfl zeroValue60 fun b8=>⟨Kp.true,?_⟩
  refine Jp.qcb 8 rfl (qaa rfl) rfl rfl sizeOf60 rfl rfl rfl rfl rfl rfl (fun k _ _=>qas k) Kp.true ?_
  refine Jp.qae hK6 ?_
  refine Cd.seq fun K7 hK7=>?_
  refine Cd.seq fun K8 hK8=>?_
  refine Cd.qac [(0,false),(1,false),(2,false)] rfl rfl ?_
  refine Jp.y 23 rfl (qaa rfl) rfl rfl Kp.true (by exact Y.qad rfl rfl underlying60 rfl sizeOf3 (by decide) (show _ + 0 = _ from rfl)) ?_
  refine Jp.y 24 rfl (qaa rfl) rfl rfl Kp.true (by exact Y.qau 8 rfl isAgg3 rfl rfl rfl) ?_
  refine Jp.y 25 rfl (qaa rfl) rfl rfl Kp.true (Y.eql rfl rfl rfl) ?_
  refine Jp.qae hK8 ?_
  refine Cd.qar rfl (fun gb=>?_) (fun gb=>?_)
  ·rw [if_pos (by simpa using gb)] at hF
   subst hF
   refine Cd.seq fun K9 hK9=>?_
   refine Cd.qac [(0,false),(1,false),(2,false),(3,false),(4,false)] rfl rfl ?_
   refine Jp.y 26 rfl (qaa rfl) rfl rfl Kp.true (Y.struct [] [_,_,_,_,_] rfl rfl places60 zeroValue60 rfl) ?_
   refine Jp.y 27 rfl (qaa rfl) rfl rfl Kp.true (Y.move rfl rfl) ?_
   refine Jp.y 28 rfl (qaa rfl) rfl rfl Kp.true (Y.struct [(0,_),(1,_)] [_,_,_] rfl rfl qca zeroValue46 rfl) ?_
   refine Jp.qcb 4 rfl (qaa rfl) rfl rfl sizeOf60 rfl rfl rfl rfl rfl rfl (fun k _ _=>qas k) Kp.true ?_
   refine Jp.qcb 5 rfl (qaa rfl) rfl rfl sizeOf46 rfl rfl rfl rfl rfl rfl (fun k _ _=>qas k) Kp.true ?_
   refine Jp.qae hK9 ?_
   refine Cd.ret [(0,_)] rfl (by exact resCC 4 5 rfl rfl rfl isAgg60 sizeOf60 isAgg46 sizeOf46 rfl rfl rfl rfl) ⟨rfl,trivial⟩ ⟨rfl,rfl,rfl⟩
  ·rw [if_neg (by simpa using gb)] at hF
   subst hF
   refine Cd.qbu hK7 ?_
   refine Cd.seq fun K10 hK10=>?_
   refine Cd.qac [(0,false),(1,false),(2,false),(3,false)] rfl rfl ?_
   refine Jp.y 29 rfl (qaa rfl) rfl rfl Kp.true (by exact Y.qah 8 rfl isAgg60 sizeOf60 rfl rfl rfl) ?_
   refine Jp.y 30 rfl (qaa rfl) rfl rfl Kp.true (Y.struct [] [_,_,_] rfl rfl qca zeroValue46 rfl) ?_
   refine Jp.qcb 4 rfl (qaa rfl) rfl rfl sizeOf60 rfl rfl rfl rfl rfl rfl (fun k _ _=>qas k) Kp.true ?_
   refine Jp.qcb 5 rfl (qaa rfl) rfl rfl sizeOf46 rfl rfl rfl rfl rfl rfl (fun k _ _=>qas k) Kp.true ?_
   refine Jp.qae hK10 ?_
   refine Cd.ret [(0,_)] rfl (by exact resCC 4 5 rfl rfl rfl isAgg60 sizeOf60 isAgg46 sizeOf46 rfl rfl rfl rfl) ⟨rfl,trivial⟩ ⟨rfl,rfl,rfl⟩
end Go.Proofs.YtnfkalpgidiafaaGreat

namespace Go.Proofs.YtnfkalpgidiafaaGreat
open _root_.Go.Proofs.Tryz
open Go
structure StP where
 x : List Nat
 pc : Nat
 ret : Int
def StP.cells (s : StP) : List Value:=qbk .u32 s.x ++ [.int .u32 (s.pc : Int),.int .i64 s.ret]
structure StOk (s : StP) : Prop where
 len : s.x.length = 32
 lt : ∀ y ∈ s.x,y < 4294967296
 pc : s.pc < 4294967296
 ret : -9223372036854775808 ≤ s.ret ∧ s.ret ≤ 4611686018427387904
theorem StP.len {s : StP} (h : StOk s) : s.cells.length = 34:=by simp [StP.cells,qbk,h.len]
theorem StP.one (s : StP) : s.cells.all one = true:=by
 unfold StP.cells qbk
 rw [List.all_append,List.all_map]
 simp [YtnfkalpgidiafaaGreat.one,List.all_eq_true]
theorem StP.cX {s : StP} (h : StOk s) {r v : Nat} (hr : s.x[r]? = some v) : s.cells.toArray[r]? = some (.int .u32 (v : Int)):=by
 have hl : r < s.x.length:=(List.getElem?_eq_some_iff.1 hr).1
 have e : s.x[r] = v:=by rw [List.getElem?_eq_getElem hl] at hr; injection hr
 simp [StP.cells,qbk,List.getElem?_append,hl,e]
theorem StP.cPc {s : StP} (h : StOk s) : s.cells.toArray[32]? = some (.int .u32 (s.pc : Int)):=by
 simp [StP.cells,qbk,List.getElem?_append,h.len]
theorem StP.cRet {s : StP} (h : StOk s) : s.cells.toArray[33]? = some (.int .i64 s.ret):=by
 simp [StP.cells,qbk,List.getElem?_append,h.len]
def regP (s : StP) (r : Nat) : Nat:=if r = 0 then 0 else s.x.getD r 0
theorem regP_lt {s : StP} (h : StOk s) (r : Nat) : regP s r < 4294967296:=by
 unfold regP
 split
 ·omega
 ·rw [List.getD_eq_getElem?_getD]
  cases hx : s.x[r]? with
  | none=>simp
  | some v=>exact h.lt v (List.mem_of_getElem? hx)
theorem regP_get {s : StP} (h : StOk s) {r : Nat} (hr : r < 32) (h0 : r ≠ 0) : s.x[r]? = some (regP s r):=by
 have hl : r < s.x.length:=by rw [h.len]; exact hr
 simp [regP,h0,List.getD_eq_getElem?_getD,hl]
theorem qgd (s : StP) (r : Nat) (hs : StOk s) (hr : r < 32) : Spec Tryz.prog 61 #[.agg s.cells.toArray,.int .i64 r] (fun _=>True) [] (fun ρ ρ' v L=>ρ' = ρ ∧ v = .int .u32 (regP s r : Int) ∧ L = []):=by
 refine Spec.of 15 Tryz.func61 rfl Tryz.ntmps61 [(0,_),(1,_)] rfl rfl ?_
 intro cx ρ hr' h0
 refine Cd.seq fun K1 hK1=>?_
 refine Cd.qac [(0,false),(1,false)] rfl rfl ?_
 refine Jp.box 1 2 rfl (qaa rfl) rfl rfl rfl rfl fun b1=>⟨Kp.true,?_⟩
 refine Jp.y 4 rfl (qaa rfl) rfl rfl Kp.true (Y.assign rfl rfl) ?_
 refine Jp.qae hK1 ?_
 refine Cd.seq fun K2 hK2=>?_
 refine Cd.seq fun K3 hK3=>?_
 refine Cd.qac [(0,false),(1,false),(2,false),(3,false),(4,false),(5,false)] rfl rfl ?_
 refine Jp.y 5 rfl (qaa rfl) rfl rfl Kp.true (Y.move rfl rfl) ?_
 refine Jp.y 6 rfl (qaa rfl) rfl rfl Kp.true (Y.leq rfl rfl rfl) ?_
 refine Jp.y 7 rfl (qaa rfl) rfl rfl Kp.true (Y.move rfl rfl) ?_
 refine Jp.split 7 rfl (fun g7=>?_) (fun g7=>?_)
 ·skip
  try simp only [sG0] at g7
  have hz : r = 0:=by omega
  refine Jp.qaq 8 rfl (qab rfl rfl rfl rfl) rfl rfl Kp.true ?_
  refine Jp.qaq 9 rfl (qab rfl rfl rfl rfl) rfl rfl Kp.true ?_
  refine Jp.y 10 rfl (qaa rfl) rfl rfl Kp.true (Y.qav rfl rfl rfl) ?_
  refine Jp.qae hK3 ?_
  refine Cd.qcw rfl ?_
  refine Cd.seq fun K4 hK4=>?_
  refine Cd.qac [(0,false)] rfl rfl ?_
  refine Jp.y 4 rfl (qaa rfl) rfl rfl Kp.true (Y.assign rfl rfl) ?_
  refine Jp.qae hK4 ?_
  refine Cd.ret [] rfl (qbd rfl rfl) trivial ⟨rfl,by rw [hz]; rfl,rfl⟩
 try simp only [sG0] at g7
 refine Jp.y 8 rfl (qab rfl rfl rfl rfl) rfl rfl Kp.true (Y.move rfl rfl) ?_
 refine Jp.y 9 rfl (qab rfl rfl rfl rfl) rfl rfl Kp.true (Y.geq rfl rfl rfl) ?_
 refine Jp.y 10 rfl (qaa rfl) rfl rfl Kp.true (Y.qay rfl rfl rfl) ?_
 refine Jp.qae hK3 ?_
 refine Cd.qar rfl (fun g10=>?_) (fun g10=>?_)
 ·skip
  try simp only [sG0] at g10
  have hz : r = 0:=by omega
  refine Cd.seq fun K5 hK5=>?_
  refine Cd.qac [(0,false)] rfl rfl ?_
  refine Jp.y 4 rfl (qaa rfl) rfl rfl Kp.true (Y.assign rfl rfl) ?_
  refine Jp.qae hK5 ?_
  refine Cd.ret [] rfl (qbd rfl rfl) trivial ⟨rfl,by rw [hz]; rfl,rfl⟩
 try simp only [sG0] at g10
 refine Cd.qbu hK2 ?_
 refine Cd.seq fun K6 hK6=>?_
 refine Cd.qac [(0,false),(1,false),(2,false),(3,false),(4,false)] rfl rfl ?_
 refine Jp.y 11 rfl (qaa rfl) rfl rfl Kp.true (Y.move rfl rfl) ?_
 have hr0 : r ≠ 0:=by omega
 refine Jp.y 12 rfl (qaa rfl) rfl rfl Kp.true (by exact Y.qad rfl rfl underlying27 rfl sizeOf25 (by decide) (show _ + 0 = _ from rfl)) ?_
 refine Jp.y 13 rfl (qaa rfl) rfl rfl Kp.true (Y.qam (q:=r) rfl rfl rfl underlying25 sizeOf24 (by omega) (by omega) (by omega)) ?_
 refine Jp.y 14 rfl (qaa rfl) rfl rfl Kp.true (by exact Y.qbg 1 rfl isAgg24 rfl rfl (HasC.pt (StP.cX hs (regP_get hs hr hr0)))) ?_
 refine Jp.y 4 rfl (qaa rfl) rfl rfl Kp.true (Y.assign rfl rfl) ?_
 refine Jp.qae hK6 ?_
 refine Cd.ret [] rfl (qbd rfl rfl) trivial ⟨rfl,rfl,rfl⟩
def addrP (i : InsP) (s : StP) : Nat:=u32 ((regP s i.r1 : Int) + (u32 i.imm : Int))
end Go.Proofs.YtnfkalpgidiafaaGreat

namespace Go.Proofs.YtnfkalpgidiafaaGreat
open _root_.Go.Proofs.Tryz
open Go
structure InsOk (i : InsP) : Prop where
 op : i.op < 50
 rd : i.rd < 32
 r1 : i.r1 < 32
 r2 : i.r2 < 32
 imm : -2147483648 ≤ i.imm ∧ i.imm ≤ 2147483647
theorem qdm (i : InsP) (s : StP) (hs : StOk s) (hi : InsOk i) : Spec Tryz.prog 42 #[.agg i.cells.toArray,.agg s.cells.toArray] (fun _=>True) [] (fun ρ ρ' v L=>ρ' = ρ ∧ v = .int .u32 (addrP i s : Int) ∧ L = []):=by
 obtain ⟨op,rd,r1,r2,imm⟩:=i
 refine Spec.of 13 Tryz.func42 rfl Tryz.ntmps42 [(0,_),(1,_)] rfl rfl ?_
 intro cx ρ hr' h0
 have hsl:=StP.len hs
 refine Cd.seq fun K1 hK1=>?_
 refine Cd.qac [(0,false),(1,false),(2,false)] rfl rfl ?_
 refine Jp.box 2 2 rfl (qaa rfl) rfl rfl rfl rfl fun b2=>⟨Kp.true,?_⟩
 refine Jp.box 3 3 rfl (qaa rfl) rfl rfl rfl rfl fun b3=>⟨Kp.true,?_⟩
 refine Jp.y 4 rfl (qaa rfl) rfl rfl Kp.true (Y.assign rfl rfl) ?_
 refine Jp.qae hK1 ?_
 refine Cd.seq fun K2 hK2=>?_
 refine Cd.drawn [(2,_),(3,_)] ⟨rfl,rfl,trivial⟩ [(0,true),(1,true),(2,true),(4,true),(5,true),(6,true),(3,false),(7,true),(8,true)] follows (by kernel_rfl) (fun hrl=>?_)
 refine Jp.q 5 rfl (qaa rfl) rfl rfl (by exact Y.qah 3 rfl isAgg27 sizeOf27 rfl rfl (by first | rfl | assumption)) ?_
 refine Jp.q 6 rfl (qaa rfl) rfl rfl (by exact Y.qad rfl rfl underlying60 rfl sizeOf3 (by decide) (show _ + 2 = _ from rfl)) ?_
 refine Jp.q 7 rfl (qaa rfl) rfl rfl (by exact Y.qau 2 rfl isAgg3 rfl rfl rfl) ?_
 refine Jp.q 9 rfl (qaa rfl) rfl rfl (by exact Y.qad rfl rfl underlying60 rfl sizeOf21 (by decide) (show _ + 4 = _ from rfl)) ?_
 refine Jp.q 10 rfl (qaa rfl) rfl rfl (by exact Y.qau 2 rfl isAgg21 rfl rfl rfl) ?_
 refine Jp.q 11 rfl (qaa rfl) rfl rfl (Y.qaw rfl rfl underlying21 underlying24 (by rfl)) ?_
 refine Jp.call [] [] (qgd s r1 hs hi.r1) 8 rfl (qaa rfl) rfl rfl (Runs.fn rfl call61 rfl) (by decide) (by decide) rfl trivial ?_
 rintro v1 ρ1 L1 ⟨rfl,rfl,rfl⟩
 refine ⟨rfl,fun hle1=>⟨(Kp.st ⟨rfl,rfl,trivial⟩),?_⟩⟩
 refine Jp.q 12 rfl (qaa rfl) rfl rfl (Y.qcj rfl rfl rfl (by rfl)) ?_
 refine Jp.q 4 rfl (qaa rfl) rfl rfl (Y.assign rfl rfl) ?_
 refine Jp.qae hK2 ?_
 refine Cd.ret [] rfl (qbd rfl rfl) trivial ⟨rfl,by rw [qce imm,qce]; rfl,rfl⟩
def qcq (op : Nat) : Nat × Bool:=if op = 11 then (1,true) else if op = 12 then (2,true) else if op = 14 ∨ op = 16 then (1,false) else if op = 15 ∨ op = 17 then (2,false) else (4,false)
theorem qhf (op : Nat) : Spec Tryz.prog 41 #[.int .i64 op] (fun _=>True) [] (fun ρ ρ' v L=>ρ' = ρ ∧ v = .tuple #[.int .i64 ((qcq op).1 : Int),.bool (qcq op).2] ∧ L = []):=by
 refine Spec.of 15 Tryz.func41 rfl Tryz.ntmps41 [(0,_)] rfl rfl ?_
 intro cx ρ hr' h0
 refine Cd.seq fun K4 hK4=>?_
 refine Cd.qac [(0,false),(1,false)] rfl rfl ?_
 refine Jp.y 2 rfl (qaa rfl) rfl rfl Kp.true (Y.assign rfl rfl) ?_
 refine Jp.y 3 rfl (qaa rfl) rfl rfl Kp.true (Y.assign rfl rfl) ?_
 refine Jp.qae hK4 ?_
 refine Cd.seq fun K5 hK5=>?_
 refine Cd.seq fun K6 hK6=>?_
 refine Cd.qac [(0,false)] rfl rfl ?_
 refine Jp.y 4 rfl (qaa rfl) rfl rfl Kp.true (Y.move rfl rfl) ?_
 refine Jp.qae hK6 ?_
 refine Cd.block ?_
 refine Cd.seq fun K7 hK7=>?_
 refine Cd.qac [(0,false),(1,false)] rfl rfl ?_
 refine Jp.y 6 rfl (qaa rfl) rfl rfl Kp.true (Y.eql rfl rfl rfl) ?_
 refine Jp.y 5 rfl (qaa rfl) rfl rfl Kp.true (Y.assign rfl rfl) ?_
 refine Jp.qae hK7 ?_
 refine Cd.qar rfl (fun g5=>?_) (fun g5=>?_)
 ·skip
  try simp only [sG0] at g5
  refine Cd.seq fun K8 hK8=>?_
  refine Cd.qac [(0,false),(1,false)] rfl rfl ?_
  refine Jp.y 2 rfl (qaa rfl) rfl rfl Kp.true (Y.assign rfl rfl) ?_
  refine Jp.y 3 rfl (qaa rfl) rfl rfl Kp.true (Y.assign rfl rfl) ?_
  refine Jp.qae hK8 ?_
  refine Cd.ret [] rfl (qbx rfl rfl rfl) trivial ⟨rfl,by (unfold qcq; repeat first | rfl | rw [if_pos (by omega)] | rw [if_neg (by omega)]),rfl⟩
 ·skip
  try simp only [sG0] at g5
  refine Cd.seq fun K9 hK9=>?_
  refine Cd.qac [(0,false),(1,false)] rfl rfl ?_
  refine Jp.y 8 rfl (qaa rfl) rfl rfl Kp.true (Y.eql rfl rfl rfl) ?_
  refine Jp.y 7 rfl (qaa rfl) rfl rfl Kp.true (Y.assign rfl rfl) ?_
  refine Jp.qae hK9 ?_
  refine Cd.qar rfl (fun g7=>?_) (fun g7=>?_)
  ·skip
   try simp only [sG0] at g7
   refine Cd.seq fun K10 hK10=>?_
   refine Cd.qac [(0,false),(1,false)] rfl rfl ?_
   refine Jp.y 2 rfl (qaa rfl) rfl rfl Kp.true (Y.assign rfl rfl) ?_
   refine Jp.y 3 rfl (qaa rfl) rfl rfl Kp.true (Y.assign rfl rfl) ?_
   refine Jp.qae hK10 ?_
   refine Cd.ret [] rfl (qbx rfl rfl rfl) trivial ⟨rfl,by (unfold qcq; repeat first | rfl | rw [if_pos (by omega)] | rw [if_neg (by omega)]),rfl⟩
  ·skip
   try simp only [sG0] at g7
   refine Cd.seq fun K11 hK11=>?_
   refine Cd.seq fun K12 hK12=>?_
   refine Cd.qac [(0,false),(1,false)] rfl rfl ?_
   refine Jp.y 10 rfl (qaa rfl) rfl rfl Kp.true (Y.eql rfl rfl rfl) ?_
   refine Jp.y 9 rfl (qaa rfl) rfl rfl Kp.true (Y.assign rfl rfl) ?_
   refine Jp.qae hK12 ?_
   refine Cd.qar rfl (fun g9=>?_) (fun g9=>?_)
   ·skip
    refine Cd.slot 9 rfl (show _ = Value.bool true from congrArg Value.bool g9) ?_
    try simp only [sG0] at g9
    refine Cd.qbu hK11 ?_
    refine Cd.qcw rfl ?_
    refine Cd.seq fun K13 hK13=>?_
    refine Cd.qac [(0,false),(1,false)] rfl rfl ?_
    refine Jp.y 2 rfl (qaa rfl) rfl rfl Kp.true (Y.assign rfl rfl) ?_
    refine Jp.y 3 rfl (qaa rfl) rfl rfl Kp.true (Y.assign rfl rfl) ?_
    refine Jp.qae hK13 ?_
    refine Cd.ret [] rfl (qbx rfl rfl rfl) trivial ⟨rfl,by (unfold qcq; repeat first | rfl | rw [if_pos (by omega)] | rw [if_neg (by omega)]),rfl⟩
   ·skip
    try simp only [sG0] at g9
    refine Cd.qac [(0,false),(1,false)] rfl rfl ?_
    refine Jp.y 11 rfl (qaa rfl) rfl rfl Kp.true (Y.eql rfl rfl rfl) ?_
    refine Jp.y 9 rfl (qaa rfl) rfl rfl Kp.true (Y.assign rfl rfl) ?_
    refine Jp.qae hK11 ?_
    refine Cd.qar rfl (fun g9=>?_) (fun g9=>?_)
    ·skip
     try simp only [sG0] at g9
     refine Cd.seq fun K14 hK14=>?_
     refine Cd.qac [(0,false),(1,false)] rfl rfl ?_
     refine Jp.y 2 rfl (qaa rfl) rfl rfl Kp.true (Y.assign rfl rfl) ?_
     refine Jp.y 3 rfl (qaa rfl) rfl rfl Kp.true (Y.assign rfl rfl) ?_
     refine Jp.qae hK14 ?_
     refine Cd.ret [] rfl (qbx rfl rfl rfl) trivial ⟨rfl,by (unfold qcq; repeat first | rfl | rw [if_pos (by omega)] | rw [if_neg (by omega)]),rfl⟩
    ·skip
     try simp only [sG0] at g9
     refine Cd.seq fun K15 hK15=>?_
     refine Cd.seq fun K16 hK16=>?_
     refine Cd.qac [(0,false),(1,false)] rfl rfl ?_
     refine Jp.y 13 rfl (qaa rfl) rfl rfl Kp.true (Y.eql rfl rfl rfl) ?_
     refine Jp.y 12 rfl (qaa rfl) rfl rfl Kp.true (Y.assign rfl rfl) ?_
     refine Jp.qae hK16 ?_
     refine Cd.qar rfl (fun g12=>?_) (fun g12=>?_)
     ·skip
      refine Cd.slot 12 rfl (show _ = Value.bool true from congrArg Value.bool g12) ?_
      try simp only [sG0] at g12
      refine Cd.qbu hK15 ?_
      refine Cd.qcw rfl ?_
      refine Cd.seq fun K17 hK17=>?_
      refine Cd.qac [(0,false),(1,false)] rfl rfl ?_
      refine Jp.y 2 rfl (qaa rfl) rfl rfl Kp.true (Y.assign rfl rfl) ?_
      refine Jp.y 3 rfl (qaa rfl) rfl rfl Kp.true (Y.assign rfl rfl) ?_
      refine Jp.qae hK17 ?_
      refine Cd.ret [] rfl (qbx rfl rfl rfl) trivial ⟨rfl,by (unfold qcq; repeat first | rfl | rw [if_pos (by omega)] | rw [if_neg (by omega)]),rfl⟩
     ·skip
      try simp only [sG0] at g12
      refine Cd.qac [(0,false),(1,false)] rfl rfl ?_
      refine Jp.y 14 rfl (qaa rfl) rfl rfl Kp.true (Y.eql rfl rfl rfl) ?_
      refine Jp.y 12 rfl (qaa rfl) rfl rfl Kp.true (Y.assign rfl rfl) ?_
      refine Jp.qae hK15 ?_
      refine Cd.qar rfl (fun g12=>?_) (fun g12=>?_)
      ·skip
       try simp only [sG0] at g12
       refine Cd.seq fun K18 hK18=>?_
       refine Cd.qac [(0,false),(1,false)] rfl rfl ?_
       refine Jp.y 2 rfl (qaa rfl) rfl rfl Kp.true (Y.assign rfl rfl) ?_
       refine Jp.y 3 rfl (qaa rfl) rfl rfl Kp.true (Y.assign rfl rfl) ?_
       refine Jp.qae hK18 ?_
       refine Cd.ret [] rfl (qbx rfl rfl rfl) trivial ⟨rfl,by (unfold qcq; repeat first | rfl | rw [if_pos (by omega)] | rw [if_neg (by omega)]),rfl⟩
      ·skip
       try simp only [sG0] at g12
       refine Cd.over rfl hK5 ?_
       refine Cd.seq fun K19 hK19=>?_
       refine Cd.qac [(0,false),(1,false)] rfl rfl ?_
       refine Jp.y 2 rfl (qaa rfl) rfl rfl Kp.true (Y.assign rfl rfl) ?_
       refine Jp.y 3 rfl (qaa rfl) rfl rfl Kp.true (Y.assign rfl rfl) ?_
       refine Jp.qae hK19 ?_
       refine Cd.ret [] rfl (qbx rfl rfl rfl) trivial ⟨rfl,by (unfold qcq; repeat first | rfl | rw [if_pos (by omega)] | rw [if_neg (by omega)]),rfl⟩
def qep (op : Nat) : Bool:=decide (11 ≤ op ∧ op ≤ 15)
def storesP (op : Nat) : Bool:=decide (16 ≤ op ∧ op ≤ 18)
def qdb (op : Nat) : Bool:=decide (1 ≤ op ∧ op ≤ 4 ∨ 11 ≤ op ∧ op ≤ 15 ∨ 19 ≤ op ∧ op ≤ 45)
theorem qeo (op : Nat) : Spec Tryz.prog 46 #[.int .i64 op] (fun _=>True) [] (fun ρ ρ' v L=>ρ' = ρ ∧ v = .bool (qep op) ∧ L = []):=by
 refine Spec.of 9 Tryz.func46 rfl Tryz.ntmps46 [(0,_)] rfl rfl ?_
 intro cx ρ hr' h0
 refine Cd.seq fun K20 hK20=>?_
 refine Cd.qac [(0,false)] rfl rfl ?_
 refine Jp.y 2 rfl (qaa rfl) rfl rfl Kp.true (Y.assign rfl rfl) ?_
 refine Jp.qae hK20 ?_
 refine Cd.seq fun K21 hK21=>?_
 refine Cd.qac [(0,false),(1,false),(2,false),(3,false),(4,false),(5,false),(6,false)] rfl rfl ?_
 refine Jp.y 3 rfl (qaa rfl) rfl rfl Kp.true (Y.move rfl rfl) ?_
 refine Jp.y 4 rfl (qaa rfl) rfl rfl Kp.true (Y.geq rfl rfl rfl) ?_
 refine Jp.y 5 rfl (qaa rfl) rfl rfl Kp.true (Y.move rfl rfl) ?_
 refine Jp.split 5 rfl (fun g5=>?_) (fun g5=>?_)
 ·skip
  try simp only [sG0] at g5
  refine Jp.y 6 rfl (qab rfl rfl rfl rfl) rfl rfl Kp.true (Y.move rfl rfl) ?_
  refine Jp.y 7 rfl (qab rfl rfl rfl rfl) rfl rfl Kp.true (Y.leq rfl rfl rfl) ?_
  refine Jp.y 8 rfl (qaa rfl) rfl rfl Kp.true (Y.qav rfl rfl rfl) ?_
  refine Jp.y 2 rfl (qaa rfl) rfl rfl Kp.true (Y.assign rfl rfl) ?_
  refine Jp.qae hK21 ?_
  refine Cd.ret [] rfl (qbd rfl rfl) trivial ⟨rfl,congrArg Value.bool (by rw [Bool.eq_iff_iff]; simp only [qep,decide_eq_true_eq,Bool.false_eq_true,true_iff,false_iff]; omega),rfl⟩
 ·skip
  try simp only [sG0] at g5
  refine Jp.qaq 6 rfl (qab rfl rfl rfl rfl) rfl rfl Kp.true ?_
  refine Jp.qaq 7 rfl (qab rfl rfl rfl rfl) rfl rfl Kp.true ?_
  refine Jp.y 8 rfl (qaa rfl) rfl rfl Kp.true (Y.qay rfl rfl rfl) ?_
  refine Jp.y 2 rfl (qaa rfl) rfl rfl Kp.true (Y.assign rfl rfl) ?_
  refine Jp.qae hK21 ?_
  refine Cd.ret [] rfl (qbd rfl rfl) trivial ⟨rfl,congrArg Value.bool (by rw [Bool.eq_iff_iff]; simp only [qep,decide_eq_true_eq,Bool.false_eq_true,true_iff,false_iff]; omega),rfl⟩
theorem qgt (op : Nat) : Spec Tryz.prog 20 #[.int .i64 op] (fun _=>True) [] (fun ρ ρ' v L=>ρ' = ρ ∧ v = .bool (storesP op) ∧ L = []):=by
 refine Spec.of 9 Tryz.func20 rfl Tryz.ntmps20 [(0,_)] rfl rfl ?_
 intro cx ρ hr' h0
 refine Cd.seq fun K22 hK22=>?_
 refine Cd.qac [(0,false)] rfl rfl ?_
 refine Jp.y 2 rfl (qaa rfl) rfl rfl Kp.true (Y.assign rfl rfl) ?_
 refine Jp.qae hK22 ?_
 refine Cd.seq fun K23 hK23=>?_
 refine Cd.qac [(0,false),(1,false),(2,false),(3,false),(4,false),(5,false),(6,false)] rfl rfl ?_
 refine Jp.y 3 rfl (qaa rfl) rfl rfl Kp.true (Y.move rfl rfl) ?_
 refine Jp.y 4 rfl (qaa rfl) rfl rfl Kp.true (Y.geq rfl rfl rfl) ?_
 refine Jp.y 5 rfl (qaa rfl) rfl rfl Kp.true (Y.move rfl rfl) ?_
 refine Jp.split 5 rfl (fun g5=>?_) (fun g5=>?_)
 ·skip
  try simp only [sG0] at g5
  refine Jp.y 6 rfl (qab rfl rfl rfl rfl) rfl rfl Kp.true (Y.move rfl rfl) ?_
  refine Jp.y 7 rfl (qab rfl rfl rfl rfl) rfl rfl Kp.true (Y.leq rfl rfl rfl) ?_
  refine Jp.y 8 rfl (qaa rfl) rfl rfl Kp.true (Y.qav rfl rfl rfl) ?_
  refine Jp.y 2 rfl (qaa rfl) rfl rfl Kp.true (Y.assign rfl rfl) ?_
  refine Jp.qae hK23 ?_
  refine Cd.ret [] rfl (qbd rfl rfl) trivial ⟨rfl,congrArg Value.bool (by rw [Bool.eq_iff_iff]; simp only [storesP,decide_eq_true_eq,Bool.false_eq_true,true_iff,false_iff]; omega),rfl⟩
 ·skip
  try simp only [sG0] at g5
  refine Jp.qaq 6 rfl (qab rfl rfl rfl rfl) rfl rfl Kp.true ?_
  refine Jp.qaq 7 rfl (qab rfl rfl rfl rfl) rfl rfl Kp.true ?_
  refine Jp.y 8 rfl (qaa rfl) rfl rfl Kp.true (Y.qay rfl rfl rfl) ?_
  refine Jp.y 2 rfl (qaa rfl) rfl rfl Kp.true (Y.assign rfl rfl) ?_
  refine Jp.qae hK23 ?_
  refine Cd.ret [] rfl (qbd rfl rfl) trivial ⟨rfl,congrArg Value.bool (by rw [Bool.eq_iff_iff]; simp only [storesP,decide_eq_true_eq,Bool.false_eq_true,true_iff,false_iff]; omega),rfl⟩
theorem qgs (op : Nat) : Spec Tryz.prog 22 #[.int .i64 op] (fun _=>True) [] (fun ρ ρ' v L=>ρ' = ρ ∧ v = .bool (qdb op) ∧ L = []):=by
 refine Spec.of 21 Tryz.func22 rfl Tryz.ntmps22 [(0,_)] rfl rfl ?_
 intro cx ρ hr' h0
 refine Cd.seq fun K24 hK24=>?_
 refine Cd.qac [(0,false)] rfl rfl ?_
 refine Jp.y 2 rfl (qaa rfl) rfl rfl Kp.true (Y.assign rfl rfl) ?_
 refine Jp.qae hK24 ?_
 refine Cd.seq fun K25 hK25=>?_
 refine Cd.qac [(0,false),(1,false),(2,false),(3,false),(4,false),(5,false),(6,false),(7,false),(8,false),(9,false),(10,false),(11,false),(12,false),(13,false),(14,false),(15,false),(16,false),(17,false),(18,false)] rfl rfl ?_
 refine Jp.y 3 rfl (qaa rfl) rfl rfl Kp.true (Y.move rfl rfl) ?_
 refine Jp.y 4 rfl (qaa rfl) rfl rfl Kp.true (Y.geq rfl rfl rfl) ?_
 refine Jp.y 5 rfl (qaa rfl) rfl rfl Kp.true (Y.move rfl rfl) ?_
 refine Jp.split 5 rfl (fun g5=>?_) (fun g5=>?_)
 ·skip
  try simp only [sG0] at g5
  refine Jp.y 6 rfl (qab rfl rfl rfl rfl) rfl rfl Kp.true (Y.move rfl rfl) ?_
  refine Jp.y 7 rfl (qab rfl rfl rfl rfl) rfl rfl Kp.true (Y.leq rfl rfl rfl) ?_
  refine Jp.y 8 rfl (qaa rfl) rfl rfl Kp.true (Y.qav rfl rfl rfl) ?_
  refine Jp.y 9 rfl (qaa rfl) rfl rfl Kp.true (Y.move rfl rfl) ?_
  refine Jp.split 9 rfl (fun g9=>?_) (fun g9=>?_)
  ·skip
   try simp only [sG0] at g9
   refine Jp.qaq 10 rfl (qab rfl rfl rfl rfl) rfl rfl Kp.true ?_
   refine Jp.qaq 11 rfl (qab rfl rfl rfl rfl) rfl rfl Kp.true ?_
   refine Jp.y 12 rfl (qaa rfl) rfl rfl Kp.true (Y.qav rfl rfl rfl) ?_
   refine Jp.y 13 rfl (qaa rfl) rfl rfl Kp.true (Y.move rfl rfl) ?_
   refine Jp.qaq 14 rfl (qab rfl rfl rfl rfl) rfl rfl Kp.true ?_
   refine Jp.qaq 15 rfl (qab rfl rfl rfl rfl) rfl rfl Kp.true ?_
   refine Jp.qaq 16 rfl (qab rfl rfl rfl rfl) rfl rfl Kp.true ?_
   refine Jp.qaq 17 rfl (qdn rfl rfl rfl) rfl rfl Kp.true ?_
   refine Jp.qaq 18 rfl (qdn rfl rfl rfl) rfl rfl Kp.true ?_
   refine Jp.qaq 19 rfl (qab rfl rfl rfl rfl) rfl rfl Kp.true ?_
   refine Jp.y 20 rfl (qaa rfl) rfl rfl Kp.true (Y.qav rfl rfl rfl) ?_
   refine Jp.y 2 rfl (qaa rfl) rfl rfl Kp.true (Y.assign rfl rfl) ?_
   refine Jp.qae hK25 ?_
   refine Cd.ret [] rfl (qbd rfl rfl) trivial ⟨rfl,congrArg Value.bool (by rw [Bool.eq_iff_iff]; (try simp only [qep,decide_eq_true_eq,decide_eq_false_iff_not] at *); simp only [qdb,decide_eq_true_eq,Bool.false_eq_true,true_iff,false_iff]; omega),rfl⟩
  ·skip
   try simp only [sG0] at g9
   refine Jp.y 10 rfl (qab rfl rfl rfl rfl) rfl rfl Kp.true (Y.move rfl rfl) ?_
   refine Jp.call [] [] (qeo op) 11 rfl (qab rfl rfl rfl rfl) rfl rfl (Runs.fn rfl call46 rfl) (by decide) (by decide) rfl trivial ?_
   rintro v101 ρ101 L101 ⟨rfl,rfl,rfl⟩
   refine ⟨rfl,fun hle101=>⟨Kp.true,?_⟩⟩
   refine Jp.y 12 rfl (qaa rfl) rfl rfl Kp.true (Y.qay rfl rfl rfl) ?_
   refine Jp.y 13 rfl (qaa rfl) rfl rfl Kp.true (Y.move rfl rfl) ?_
   refine Jp.split 13 rfl (fun g13=>?_) (fun g13=>?_)
   ·skip
    try simp only [sG0] at g13
    refine Jp.qaq 14 rfl (qab rfl rfl rfl rfl) rfl rfl Kp.true ?_
    refine Jp.qaq 15 rfl (qab rfl rfl rfl rfl) rfl rfl Kp.true ?_
    refine Jp.qaq 16 rfl (qab rfl rfl rfl rfl) rfl rfl Kp.true ?_
    refine Jp.qaq 17 rfl (qdn rfl rfl rfl) rfl rfl Kp.true ?_
    refine Jp.qaq 18 rfl (qdn rfl rfl rfl) rfl rfl Kp.true ?_
    refine Jp.qaq 19 rfl (qab rfl rfl rfl rfl) rfl rfl Kp.true ?_
    refine Jp.y 20 rfl (qaa rfl) rfl rfl Kp.true (Y.qav rfl rfl rfl) ?_
    refine Jp.y 2 rfl (qaa rfl) rfl rfl Kp.true (Y.assign rfl rfl) ?_
    refine Jp.qae hK25 ?_
    refine Cd.ret [] rfl (qbd rfl rfl) trivial ⟨rfl,congrArg Value.bool (by rw [Bool.eq_iff_iff]; (try simp only [qep,decide_eq_true_eq,decide_eq_false_iff_not] at *); simp only [qdb,decide_eq_true_eq,Bool.false_eq_true,true_iff,false_iff]; omega),rfl⟩
   ·skip
    try simp only [sG0] at g13
    refine Jp.y 14 rfl (qab rfl rfl rfl rfl) rfl rfl Kp.true (Y.move rfl rfl) ?_
    refine Jp.y 15 rfl (qab rfl rfl rfl rfl) rfl rfl Kp.true (Y.geq rfl rfl rfl) ?_
    refine Jp.y 16 rfl (qab rfl rfl rfl rfl) rfl rfl Kp.true (Y.move rfl rfl) ?_
    refine Jp.split 16 rfl (fun g16=>?_) (fun g16=>?_)
    ·skip
     try simp only [sG0] at g16
     refine Jp.y 17 rfl (qab rfl rfl rfl rfl) rfl rfl Kp.true (Y.move rfl rfl) ?_
     refine Jp.y 18 rfl (qab rfl rfl rfl rfl) rfl rfl Kp.true (Y.leq rfl rfl rfl) ?_
     refine Jp.y 19 rfl (qab rfl rfl rfl rfl) rfl rfl Kp.true (Y.qav rfl rfl rfl) ?_
     refine Jp.y 20 rfl (qaa rfl) rfl rfl Kp.true (Y.qay rfl rfl rfl) ?_
     refine Jp.y 2 rfl (qaa rfl) rfl rfl Kp.true (Y.assign rfl rfl) ?_
     refine Jp.qae hK25 ?_
     refine Cd.ret [] rfl (qbd rfl rfl) trivial ⟨rfl,congrArg Value.bool (by rw [Bool.eq_iff_iff]; (try simp only [qep,decide_eq_true_eq,decide_eq_false_iff_not] at *); simp only [qdb,decide_eq_true_eq,Bool.false_eq_true,true_iff,false_iff]; omega),rfl⟩
    ·skip
     try simp only [sG0] at g16
     refine Jp.qaq 17 rfl (qab rfl rfl rfl rfl) rfl rfl Kp.true ?_
     refine Jp.qaq 18 rfl (qab rfl rfl rfl rfl) rfl rfl Kp.true ?_
     refine Jp.y 19 rfl (qab rfl rfl rfl rfl) rfl rfl Kp.true (Y.qay rfl rfl rfl) ?_
     refine Jp.y 20 rfl (qaa rfl) rfl rfl Kp.true (Y.qay rfl rfl rfl) ?_
     refine Jp.y 2 rfl (qaa rfl) rfl rfl Kp.true (Y.assign rfl rfl) ?_
     refine Jp.qae hK25 ?_
     refine Cd.ret [] rfl (qbd rfl rfl) trivial ⟨rfl,congrArg Value.bool (by rw [Bool.eq_iff_iff]; (try simp only [qep,decide_eq_true_eq,decide_eq_false_iff_not] at *); simp only [qdb,decide_eq_true_eq,Bool.false_eq_true,true_iff,false_iff]; omega),rfl⟩
 ·skip
  try simp only [sG0] at g5
  refine Jp.qaq 6 rfl (qab rfl rfl rfl rfl) rfl rfl Kp.true ?_
  refine Jp.qaq 7 rfl (qab rfl rfl rfl rfl) rfl rfl Kp.true ?_
  refine Jp.y 8 rfl (qaa rfl) rfl rfl Kp.true (Y.qay rfl rfl rfl) ?_
  refine Jp.y 9 rfl (qaa rfl) rfl rfl Kp.true (Y.move rfl rfl) ?_
  refine Jp.y 10 rfl (qab rfl rfl rfl rfl) rfl rfl Kp.true (Y.move rfl rfl) ?_
  refine Jp.call [] [] (qeo op) 11 rfl (qab rfl rfl rfl rfl) rfl rfl (Runs.fn rfl call46 rfl) (by decide) (by decide) rfl trivial ?_
  rintro v102 ρ102 L102 ⟨rfl,rfl,rfl⟩
  refine ⟨rfl,fun hle102=>⟨Kp.true,?_⟩⟩
  refine Jp.y 12 rfl (qaa rfl) rfl rfl Kp.true (Y.qay rfl rfl rfl) ?_
  refine Jp.y 13 rfl (qaa rfl) rfl rfl Kp.true (Y.move rfl rfl) ?_
  refine Jp.split 13 rfl (fun g13=>?_) (fun g13=>?_)
  ·skip
   try simp only [sG0] at g13
   refine Jp.qaq 14 rfl (qab rfl rfl rfl rfl) rfl rfl Kp.true ?_
   refine Jp.qaq 15 rfl (qab rfl rfl rfl rfl) rfl rfl Kp.true ?_
   refine Jp.qaq 16 rfl (qab rfl rfl rfl rfl) rfl rfl Kp.true ?_
   refine Jp.qaq 17 rfl (qdn rfl rfl rfl) rfl rfl Kp.true ?_
   refine Jp.qaq 18 rfl (qdn rfl rfl rfl) rfl rfl Kp.true ?_
   refine Jp.qaq 19 rfl (qab rfl rfl rfl rfl) rfl rfl Kp.true ?_
   refine Jp.y 20 rfl (qaa rfl) rfl rfl Kp.true (Y.qav rfl rfl rfl) ?_
   refine Jp.y 2 rfl (qaa rfl) rfl rfl Kp.true (Y.assign rfl rfl) ?_
   refine Jp.qae hK25 ?_
   refine Cd.ret [] rfl (qbd rfl rfl) trivial ⟨rfl,congrArg Value.bool (by rw [Bool.eq_iff_iff]; (try simp only [qep,decide_eq_true_eq,decide_eq_false_iff_not] at *); simp only [qdb,decide_eq_true_eq,Bool.false_eq_true,true_iff,false_iff]; omega),rfl⟩
  ·skip
   try simp only [sG0] at g13
   refine Jp.y 14 rfl (qab rfl rfl rfl rfl) rfl rfl Kp.true (Y.move rfl rfl) ?_
   refine Jp.y 15 rfl (qab rfl rfl rfl rfl) rfl rfl Kp.true (Y.geq rfl rfl rfl) ?_
   refine Jp.y 16 rfl (qab rfl rfl rfl rfl) rfl rfl Kp.true (Y.move rfl rfl) ?_
   refine Jp.split 16 rfl (fun g16=>?_) (fun g16=>?_)
   ·skip
    try simp only [sG0] at g16
    refine Jp.y 17 rfl (qab rfl rfl rfl rfl) rfl rfl Kp.true (Y.move rfl rfl) ?_
    refine Jp.y 18 rfl (qab rfl rfl rfl rfl) rfl rfl Kp.true (Y.leq rfl rfl rfl) ?_
    refine Jp.y 19 rfl (qab rfl rfl rfl rfl) rfl rfl Kp.true (Y.qav rfl rfl rfl) ?_
    refine Jp.y 20 rfl (qaa rfl) rfl rfl Kp.true (Y.qay rfl rfl rfl) ?_
    refine Jp.y 2 rfl (qaa rfl) rfl rfl Kp.true (Y.assign rfl rfl) ?_
    refine Jp.qae hK25 ?_
    refine Cd.ret [] rfl (qbd rfl rfl) trivial ⟨rfl,congrArg Value.bool (by rw [Bool.eq_iff_iff]; (try simp only [qep,decide_eq_true_eq,decide_eq_false_iff_not] at *); simp only [qdb,decide_eq_true_eq,Bool.false_eq_true,true_iff,false_iff]; omega),rfl⟩
   ·skip
    try simp only [sG0] at g16
    refine Jp.qaq 17 rfl (qab rfl rfl rfl rfl) rfl rfl Kp.true ?_
    refine Jp.qaq 18 rfl (qab rfl rfl rfl rfl) rfl rfl Kp.true ?_
    refine Jp.y 19 rfl (qab rfl rfl rfl rfl) rfl rfl Kp.true (Y.qay rfl rfl rfl) ?_
    refine Jp.y 20 rfl (qaa rfl) rfl rfl Kp.true (Y.qay rfl rfl rfl) ?_
    refine Jp.y 2 rfl (qaa rfl) rfl rfl Kp.true (Y.assign rfl rfl) ?_
    refine Jp.qae hK25 ?_
    refine Cd.ret [] rfl (qbd rfl rfl) trivial ⟨rfl,congrArg Value.bool (by rw [Bool.eq_iff_iff]; (try simp only [qep,decide_eq_true_eq,decide_eq_false_iff_not] at *); simp only [qdb,decide_eq_true_eq,Bool.false_eq_true,true_iff,false_iff]; omega),rfl⟩
def brK (op : Nat) : Nat:=[0,1,4,5,6,7].getD (op - 5) 0
theorem brK_ok {op : Nat} (h : 5 ≤ op ∧ op ≤ 10) : brK op = 0 ∨ brK op = 1 ∨ 4 ≤ brK op ∧ brK op ≤ 7:=by
 rcases (show op = 5 ∨ op = 6 ∨ op = 7 ∨ op = 8 ∨ op = 9 ∨ op = 10 by omega) with rfl | rfl | rfl | rfl | rfl | rfl <;> decide
theorem brtest_spec (op : Nat) (h : 5 ≤ op ∧ op ≤ 10) : Spec Tryz.prog 89 #[.int .i64 op] (fun _=>True) [] (fun ρ ρ' v L=>ρ' = ρ ∧ v = .int .i64 (brK op : Int) ∧ L = []):=by
 refine Spec.of 7 Tryz.func89 rfl Tryz.ntmps89 [(0,_)] rfl rfl ?_
 intro cx ρ hr' h0
 have hidx : (#[Value.int .i64 0,Value.int .i64 1,Value.int .i64 4,Value.int .i64 5,Value.int .i64 6,Value.int .i64 7] : Array Value)[((op : Int) - 5).toNat * 1]? = some (.int .i64 (brK op : Int)):=by
  rcases (show op = 5 ∨ op = 6 ∨ op = 7 ∨ op = 8 ∨ op = 9 ∨ op = 10 by omega) with rfl | rfl | rfl | rfl | rfl | rfl <;> rfl
 refine Cd.seq fun K26 hK26=>?_
 refine Cd.qac [(0,false)] rfl rfl ?_
 refine Jp.y 2 rfl (qaa rfl) rfl rfl Kp.true (Y.assign rfl rfl) ?_
 refine Jp.qae hK26 ?_
 refine Cd.seq fun K27 hK27=>?_
 refine Cd.qac [(0,false),(1,false),(2,false),(3,false),(4,false)] rfl rfl ?_
 refine Jp.y 3 rfl (qaa rfl) rfl rfl Kp.true (Y.array [(0,_),(1,_),(2,_),(3,_),(4,_),(5,_)] [_,_,_,_,_,_] rfl rfl underlying169 sizeOf3 zeroValue169 rfl) ?_
 refine Jp.y 4 rfl (qaa rfl) rfl rfl Kp.true (Y.move rfl rfl) ?_
 refine Jp.y 5 rfl (qaa rfl) rfl rfl Kp.true (Y.qfm rfl rfl rfl (by exact qaj (by omega) (by omega))) ?_
 refine Jp.y 6 rfl (qaa rfl) rfl rfl Kp.true (Y.qcm (v:=.int .i64 (brK op : Int)) rfl underlying169 sizeOf3 isAgg3 rfl rfl (by omega) (by omega) hidx) ?_
 refine Jp.y 2 rfl (qaa rfl) rfl rfl Kp.true (Y.assign rfl rfl) ?_
 refine Jp.qae hK27 ?_
 refine Cd.ret [] rfl (qbd rfl rfl) trivial ⟨rfl,rfl,rfl⟩
def goesP (i : InsP) (s : StP) : Nat :=
 if i.op = 3 then u32 ((s.pc : Int) + (u32 i.imm : Int)) else if i.op = 4 then addrP i s - addrP i s % 2 else
 if 5 ≤ i.op ∧ i.op ≤ 10 ∧ testP (brK i.op) (regP s i.r1) (regP s i.r2) = true then u32 ((s.pc : Int) + (u32 i.imm : Int)) else u32 ((s.pc : Int) + 4)
theorem bits_even {v : Nat} (hv : v < 4294967296) : qci .andNot .u32 v 1 = ((v - v % 2 : Nat) : Int):=by
 show IntKind.u32.wrap ((BitVec.ofInt 32 (v : Int) &&& ~~~ BitVec.ofInt 32 1).toNat : Int) = _
 have e : (BitVec.ofInt 32 (v : Int) &&& ~~~ BitVec.ofInt 32 1).toNat = v - v % 2:=by
  rw [BitVec.toNat_and,qck 32 v hv]
  rw [show (~~~ BitVec.ofInt 32 1).toNat = 4294967294 by decide]
  have h : v - v % 2 = v / 2 ^ 1 * 2 ^ 1:=by omega
  rw [h]
  apply Nat.eq_of_testBit_eq
  intro i
  rw [Nat.testBit_and,Nat.testBit_mul_two_pow,Nat.testBit_div_two_pow,show (4294967294 : Nat) = 2147483647 * 2 ^ 1 from rfl,Nat.testBit_mul_two_pow,show (2147483647 : Nat) = 2 ^ 31 - 1 from rfl,Nat.testBit_two_pow_sub_one]
  by_cases h8 : 1 ≤ i
  ·rw [show i - 1 + 1 = i by omega]
   by_cases h32 : i < 32
   ·simp [h8,show i - 1 < 31 by omega]
   ·have : v.testBit i = false := Nat.testBit_lt_two_pow (Nat.lt_of_lt_of_le hv (by
     have:=Nat.pow_le_pow_right (n:=2) (by omega) (show 32 ≤ i by omega)
     omega))
    simp [this]
  ·simp [h8]
 rw [e,qce,u32_id (by omega)]
theorem qgi (i : InsP) (s : StP) : addrP i s < 4294967296:=u32_lt _
theorem goes_spec (i : InsP) (s : StP) (hs : StOk s) (hi : InsOk i) : Spec Tryz.prog 59 #[.agg i.cells.toArray,.agg s.cells.toArray] (fun _=>True) [] (fun ρ ρ' v L=>ρ' = ρ ∧ v = .int .u32 (goesP i s : Int) ∧ L = []):=by
 have hA:=qdm i s hs hi
 have hal:=qgi i s
 obtain ⟨ad,had⟩ : ∃ ad,addrP i s = ad:=⟨_,rfl⟩
 obtain ⟨g,hg⟩ : ∃ g,goesP i s = g:=⟨_,rfl⟩
 rw [hg]
 unfold goesP at hg
 rw [had] at hA hg hal
 obtain ⟨op,rd,r1,r2,imm⟩:=i
 dsimp only at hg
 have hb:=bits_even hal
 have hR1:=qgd s r1 hs hi.r1
 have hR2:=qgd s r2 hs hi.r2
 have l1:=regP_lt hs r1
 have l2:=regP_lt hs r2
 obtain ⟨x1,hx1⟩ : ∃ x,regP s r1 = x:=⟨_,rfl⟩
 obtain ⟨x2,hx2⟩ : ∃ x,regP s r2 = x:=⟨_,rfl⟩
 rw [hx1] at hR1 hg l1
 rw [hx2] at hR2 hg l2
 refine Spec.of 59 Tryz.func59 rfl Tryz.ntmps59 [(0,_),(1,_)] rfl rfl ?_
 intro cx ρ hr' h0
 have hsl:=StP.len hs
 refine Cd.seq fun K28 hK28=>?_
 refine Cd.qac [(0,false),(1,false),(2,false)] rfl rfl ?_
 refine Jp.box 2 2 rfl (qaa rfl) rfl rfl rfl rfl fun b2=>⟨Kp.true,?_⟩
 refine Jp.box 3 3 rfl (qaa rfl) rfl rfl rfl rfl fun b3=>⟨Kp.true,?_⟩
 refine Jp.y 4 rfl (qaa rfl) rfl rfl Kp.true (Y.assign rfl rfl) ?_
 refine Jp.qae hK28 ?_
 refine Cd.seq fun K29 hK29=>?_
 refine Cd.block ?_
 refine Cd.seq fun K30 hK30=>?_
 refine Cd.qac [(0,false),(1,false),(2,false),(3,false)] rfl rfl ?_
 refine Jp.y 8 rfl (qaa rfl) rfl rfl Kp.true (by exact Y.qad rfl rfl underlying60 rfl sizeOf3 (by decide) (show _ + 0 = _ from rfl)) ?_
 refine Jp.y 9 rfl (qaa rfl) rfl rfl Kp.true (by exact Y.qau 2 rfl isAgg3 rfl rfl rfl) ?_
 refine Jp.y 10 rfl (qaa rfl) rfl rfl Kp.true (Y.eql rfl rfl rfl) ?_
 refine Jp.y 7 rfl (qaa rfl) rfl rfl Kp.true (Y.assign rfl rfl) ?_
 refine Jp.qae hK30 ?_
 refine Cd.qar rfl (fun ga=>?_) (fun ga=>?_)
 ·have hop : op = 3:=by simp at ga; omega
  rw [if_pos hop] at hg
  refine Cd.seq fun K31 hK31=>?_
  refine Cd.qac [(0,false),(1,false),(2,false),(3,false),(4,false),(5,false),(6,false)] rfl rfl ?_
  refine Jp.y 11 rfl (qaa rfl) rfl rfl Kp.true (by exact Y.qad rfl rfl underlying27 rfl sizeOf24 (by decide) (show _ + 32 = _ from rfl)) ?_
  refine Jp.y 12 rfl (qaa rfl) rfl rfl Kp.true (by exact Y.qbg 3 rfl isAgg24 rfl rfl (HasC.pt (StP.cPc hs))) ?_
  refine Jp.y 13 rfl (qaa rfl) rfl rfl Kp.true (by exact Y.qad rfl rfl underlying60 rfl sizeOf21 (by decide) (show _ + 4 = _ from rfl)) ?_
  refine Jp.y 14 rfl (qaa rfl) rfl rfl Kp.true (by exact Y.qau 2 rfl isAgg21 rfl rfl rfl) ?_
  refine Jp.y 15 rfl (qaa rfl) rfl rfl Kp.true (Y.qaw rfl rfl underlying21 underlying24 (by rfl)) ?_
  refine Jp.y 16 rfl (qaa rfl) rfl rfl Kp.true (Y.qcj rfl rfl rfl (by rfl)) ?_
  refine Jp.y 4 rfl (qaa rfl) rfl rfl Kp.true (Y.assign rfl rfl) ?_
  refine Jp.qae hK31 ?_
  refine Cd.ret [] rfl (qbd rfl rfl) trivial ⟨rfl,by rw [qce imm,qce,← hg],rfl⟩
 ·have hop3 : ¬ op = 3:=by simp at ga; omega
  rw [if_neg hop3] at hg
  refine Cd.seq fun K32 hK32=>?_
  refine Cd.qac [(0,false),(1,false),(2,false),(3,false)] rfl rfl ?_
  refine Jp.y 18 rfl (qaa rfl) rfl rfl Kp.true (by exact Y.qad rfl rfl underlying60 rfl sizeOf3 (by decide) (show _ + 0 = _ from rfl)) ?_
  refine Jp.y 19 rfl (qaa rfl) rfl rfl Kp.true (by exact Y.qau 2 rfl isAgg3 rfl rfl rfl) ?_
  refine Jp.y 20 rfl (qaa rfl) rfl rfl Kp.true (Y.eql rfl rfl rfl) ?_
  refine Jp.y 17 rfl (qaa rfl) rfl rfl Kp.true (Y.assign rfl rfl) ?_
  refine Jp.qae hK32 ?_
  refine Cd.qar rfl (fun gb=>?_) (fun gb=>?_)
  ·have hop : op = 4:=by simp at gb; omega
   rw [if_pos hop] at hg
   refine Cd.seq fun K33 hK33=>?_
   refine Cd.qac [(0,false),(1,false),(2,false),(3,false),(4,false)] rfl rfl ?_
   refine Jp.y 21 rfl (qaa rfl) rfl rfl Kp.true (by exact Y.qah 2 rfl isAgg60 sizeOf60 rfl rfl (by first | rfl | assumption)) ?_
   refine Jp.y 22 rfl (qaa rfl) rfl rfl Kp.true (by exact Y.qah 3 rfl isAgg27 sizeOf27 rfl rfl (by first | rfl | assumption)) ?_
   refine Jp.call [] [] hA 23 rfl (qaa rfl) rfl rfl (Runs.fn rfl call42 rfl) (by decide) (by decide) rfl trivial ?_
   rintro v1 ρ1 L1 ⟨rfl,rfl,rfl⟩
   refine ⟨rfl,fun hle1=>⟨Kp.true,?_⟩⟩
   refine Jp.y 24 rfl (qaa rfl) rfl rfl Kp.true (Y.bits rfl rfl rfl rfl) ?_
   refine Jp.y 4 rfl (qaa rfl) rfl rfl Kp.true (Y.assign rfl rfl) ?_
   refine Jp.qae hK33 ?_
   refine Cd.ret [] rfl (qbd rfl rfl) trivial ⟨rfl,by rw [hb,hg],rfl⟩
  ·have hop4 : ¬ op = 4:=by simp at gb; omega
   rw [if_neg hop4] at hg
   refine Cd.seq fun K34 hK34=>?_
   refine Cd.qac [(0,false),(1,false),(2,false),(3,false),(4,false),(5,false),(6,false),(7,false),(8,false)] rfl rfl ?_
   refine Jp.y 26 rfl (qaa rfl) rfl rfl Kp.true (by exact Y.qad rfl rfl underlying60 rfl sizeOf3 (by decide) (show _ + 0 = _ from rfl)) ?_
   refine Jp.y 27 rfl (qaa rfl) rfl rfl Kp.true (by exact Y.qau 2 rfl isAgg3 rfl rfl rfl) ?_
   refine Jp.y 28 rfl (qaa rfl) rfl rfl Kp.true (Y.geq rfl rfl rfl) ?_
   refine Jp.y 29 rfl (qaa rfl) rfl rfl Kp.true (Y.move rfl rfl) ?_
   refine Jp.splitF 29 rfl (fun g29=>?_) (fun g29=>?_)
   ·skip
    have hno : ¬ (5 ≤ op ∧ op ≤ 10):=by simp at g29; omega
    rw [if_neg (fun h=>hno ⟨h.1,h.2.1⟩)] at hg
    refine Jp.qaq 30 rfl (qab rfl rfl rfl rfl) rfl rfl Kp.true ?_
    refine Jp.qaq 31 rfl (qab rfl rfl rfl rfl) rfl rfl Kp.true ?_
    refine Jp.qaq 32 rfl (qab rfl rfl rfl rfl) rfl rfl Kp.true ?_
    refine Jp.y 33 rfl (qaa rfl) rfl rfl Kp.true (Y.qay rfl rfl rfl) ?_
    refine Jp.y 25 rfl (qaa rfl) rfl rfl Kp.true (Y.assign rfl rfl) ?_
    refine Jp.qae hK34 ?_
    refine Cd.qbz rfl ?_
    refine Cd.over rfl hK29 ?_
    refine Cd.seq fun K35 hK35=>?_
    refine Cd.qac [(0,false),(1,false),(2,false),(3,false)] rfl rfl ?_
    refine Jp.y 56 rfl (qaa rfl) rfl rfl Kp.true (by exact Y.qad rfl rfl underlying27 rfl sizeOf24 (by decide) (show _ + 32 = _ from rfl)) ?_
    refine Jp.y 57 rfl (qaa rfl) rfl rfl Kp.true (by exact Y.qbg 3 rfl isAgg24 rfl rfl (HasC.pt (StP.cPc hs))) ?_
    refine Jp.y 58 rfl (qaa rfl) rfl rfl Kp.true (Y.qcj rfl rfl rfl (by rfl)) ?_
    refine Jp.y 4 rfl (qaa rfl) rfl rfl Kp.true (Y.assign rfl rfl) ?_
    refine Jp.qae hK35 ?_
    refine Cd.ret [] rfl (qbd rfl rfl) trivial ⟨rfl,by rw [qce,← hg],rfl⟩
   try simp only [sG0] at g29
   refine Jp.y 30 rfl (qab rfl rfl rfl rfl) rfl rfl Kp.true (by exact Y.qad rfl rfl underlying60 rfl sizeOf3 (by decide) (show _ + 0 = _ from rfl)) ?_
   refine Jp.y 31 rfl (qab rfl rfl rfl rfl) rfl rfl Kp.true (by exact Y.qau 2 rfl isAgg3 rfl rfl rfl) ?_
   refine Jp.y 32 rfl (qab rfl rfl rfl rfl) rfl rfl Kp.true (Y.leq rfl rfl rfl) ?_
   refine Jp.y 33 rfl (qaa rfl) rfl rfl Kp.true (Y.qav rfl rfl rfl) ?_
   refine Jp.y 25 rfl (qaa rfl) rfl rfl Kp.true (Y.assign rfl rfl) ?_
   refine Jp.qae hK34 ?_
   refine Cd.condF' rfl (fun g25=>?_) (fun g25=>?_)
   ·skip
    have hno : ¬ (5 ≤ op ∧ op ≤ 10):=by simp at g25; omega
    rw [if_neg (fun h=>hno ⟨h.1,h.2.1⟩)] at hg
    refine Cd.over rfl hK29 ?_
    refine Cd.seq fun K36 hK36=>?_
    refine Cd.qac [(0,false),(1,false),(2,false),(3,false)] rfl rfl ?_
    refine Jp.y 56 rfl (qaa rfl) rfl rfl Kp.true (by exact Y.qad rfl rfl underlying27 rfl sizeOf24 (by decide) (show _ + 32 = _ from rfl)) ?_
    refine Jp.y 57 rfl (qaa rfl) rfl rfl Kp.true (by exact Y.qbg 3 rfl isAgg24 rfl rfl (HasC.pt (StP.cPc hs))) ?_
    refine Jp.y 58 rfl (qaa rfl) rfl rfl Kp.true (Y.qcj rfl rfl rfl (by rfl)) ?_
    refine Jp.y 4 rfl (qaa rfl) rfl rfl Kp.true (Y.assign rfl rfl) ?_
    refine Jp.qae hK36 ?_
    refine Cd.ret [] rfl (qbd rfl rfl) trivial ⟨rfl,by rw [qce,← hg],rfl⟩
   try simp only [sG0] at g25
   refine Cd.seq fun K37 hK37=>?_
   refine Cd.drawn [(2,_),(3,_)] ⟨rfl,rfl,trivial⟩ [(0,true),(1,true),(3,true),(4,true),(5,true),(7,true),(8,true),(9,true),(2,false),(6,false),(10,false),(11,false),(12,true),(13,true),(14,true),(15,true),(16,true)] follows (by kernel_rfl) (fun hrl=>?_)
   have hbr : 5 ≤ op ∧ op ≤ 10:=by (try dsimp only at g25 g29); omega
   refine Jp.q 35 rfl (qaa rfl) rfl rfl (by exact Y.qad rfl rfl underlying60 rfl sizeOf3 (by decide) (show _ + 0 = _ from rfl)) ?_
   refine Jp.q 36 rfl (qaa rfl) rfl rfl (by exact Y.qau 2 rfl isAgg3 rfl rfl rfl) ?_
   refine Jp.q 38 rfl (qaa rfl) rfl rfl (by exact Y.qah 3 rfl isAgg27 sizeOf27 rfl rfl (by first | rfl | assumption)) ?_
   refine Jp.q 39 rfl (qaa rfl) rfl rfl (by exact Y.qad rfl rfl underlying60 rfl sizeOf3 (by decide) (show _ + 2 = _ from rfl)) ?_
   refine Jp.q 40 rfl (qaa rfl) rfl rfl (by exact Y.qau 2 rfl isAgg3 rfl rfl rfl) ?_
   refine Jp.q 42 rfl (qaa rfl) rfl rfl (by exact Y.qah 3 rfl isAgg27 sizeOf27 rfl rfl (by first | rfl | assumption)) ?_
   refine Jp.q 43 rfl (qaa rfl) rfl rfl (by exact Y.qad rfl rfl underlying60 rfl sizeOf3 (by decide) (show _ + 3 = _ from rfl)) ?_
   refine Jp.q 44 rfl (qaa rfl) rfl rfl (by exact Y.qau 2 rfl isAgg3 rfl rfl rfl) ?_
   refine Jp.call [] [] (brtest_spec op hbr) 37 rfl (qaa rfl) rfl rfl (Runs.fn rfl call89 rfl) (by decide) (by decide) rfl trivial ?_
   rintro v1 ρ1 L1 ⟨rfl,rfl,rfl⟩
   refine ⟨rfl,fun hle1=>⟨(Kp.st ⟨rfl,rfl,trivial⟩),?_⟩⟩
   refine Jp.call [] [] hR1 41 rfl (qaa rfl) rfl rfl (Runs.fn rfl call61 rfl) (by decide) (by decide) rfl trivial ?_
   rintro v2 ρ2 L2 ⟨rfl,rfl,rfl⟩
   refine ⟨rfl,fun hle2=>⟨(Kp.st ⟨rfl,rfl,trivial⟩),?_⟩⟩
   refine Jp.call [] [] hR2 45 rfl (qaa rfl) rfl rfl (Runs.fn rfl call61 rfl) (by decide) (by decide) rfl trivial ?_
   rintro v3 ρ3 L3 ⟨rfl,rfl,rfl⟩
   refine ⟨rfl,fun hle3=>⟨(Kp.st ⟨rfl,rfl,trivial⟩),?_⟩⟩
   refine Jp.call [] [] (test_spec (brK op) x1 x2 (brK_ok hbr) l1 l2) 46 rfl (qaa rfl) rfl rfl (Runs.fn rfl call88 rfl) (by decide) (by decide) rfl trivial ?_
   rintro v4 ρ4 L4 ⟨rfl,rfl,rfl⟩
   refine ⟨rfl,fun hle4=>⟨(Kp.st ⟨rfl,rfl,trivial⟩),?_⟩⟩
   refine Jp.q 34 rfl (qaa rfl) rfl rfl (Y.move rfl rfl) ?_
   refine Jp.q 47 rfl (qaa rfl) rfl rfl (Y.extract rfl rfl rfl) ?_
   refine Jp.q 48 rfl (qaa rfl) rfl rfl (Y.extract rfl rfl rfl) ?_
   refine Jp.q 5 rfl (qaa rfl) rfl rfl (Y.assign rfl rfl) ?_
   refine Jp.q 6 rfl (qaa rfl) rfl rfl (Y.assign rfl rfl) ?_
   refine Jp.qae hK37 ?_
   refine Cd.seq fun K39 hK39=>?_
   refine Cd.qac [(0,false)] rfl rfl ?_
   refine Jp.y 49 rfl (qaa rfl) rfl rfl Kp.true (Y.move rfl rfl) ?_
   refine Jp.qae hK39 ?_
   refine Cd.qar rfl (fun gc=>?_) (fun gc=>?_)
   ·rw [if_pos ⟨hbr.1,hbr.2,gc⟩] at hg
    refine Cd.seq fun K40 hK40=>?_
    refine Cd.qac [(0,false),(1,false),(2,false),(3,false),(4,false),(5,false),(6,false)] rfl rfl ?_
    refine Jp.y 50 rfl (qaa rfl) rfl rfl Kp.true (by exact Y.qad rfl rfl underlying27 rfl sizeOf24 (by decide) (show _ + 32 = _ from rfl)) ?_
    refine Jp.y 51 rfl (qaa rfl) rfl rfl Kp.true (by exact Y.qbg 3 rfl isAgg24 rfl rfl (HasC.pt (StP.cPc hs))) ?_
    refine Jp.y 52 rfl (qaa rfl) rfl rfl Kp.true (by exact Y.qad rfl rfl underlying60 rfl sizeOf21 (by decide) (show _ + 4 = _ from rfl)) ?_
    refine Jp.y 53 rfl (qaa rfl) rfl rfl Kp.true (by exact Y.qau 2 rfl isAgg21 rfl rfl rfl) ?_
    refine Jp.y 54 rfl (qaa rfl) rfl rfl Kp.true (Y.qaw rfl rfl underlying21 underlying24 (by rfl)) ?_
    refine Jp.y 55 rfl (qaa rfl) rfl rfl Kp.true (Y.qcj rfl rfl rfl (by rfl)) ?_
    refine Jp.y 4 rfl (qaa rfl) rfl rfl Kp.true (Y.assign rfl rfl) ?_
    refine Jp.qae hK40 ?_
    refine Cd.ret [] rfl (qbd rfl rfl) trivial ⟨rfl,by rw [qce imm,qce,← hg],rfl⟩
   ·rw [if_neg (fun h=>by rw [h.2.2] at gc; cases gc)] at hg
    refine Cd.over rfl hK29 ?_
    refine Cd.seq fun K41 hK41=>?_
    refine Cd.qac [(0,false),(1,false),(2,false),(3,false)] rfl rfl ?_
    refine Jp.y 56 rfl (qaa rfl) rfl rfl Kp.true (by exact Y.qad rfl rfl underlying27 rfl sizeOf24 (by decide) (show _ + 32 = _ from rfl)) ?_
    refine Jp.y 57 rfl (qaa rfl) rfl rfl Kp.true (by exact Y.qbg 3 rfl isAgg24 rfl rfl (HasC.pt (StP.cPc hs))) ?_
    refine Jp.y 58 rfl (qaa rfl) rfl rfl Kp.true (Y.qcj rfl rfl rfl (by rfl)) ?_
    refine Jp.y 4 rfl (qaa rfl) rfl rfl Kp.true (Y.assign rfl rfl) ?_
    refine Jp.qae hK41 ?_
    refine Cd.ret [] rfl (qbd rfl rfl) trivial ⟨rfl,by rw [qce,← hg],rfl⟩
def opdP (i : InsP) (s : StP) : Nat:=if i.op ≤ 27 then u32 i.imm else regP s i.r2
theorem operand_spec (i : InsP) (s : StP) (hs : StOk s) (hi : InsOk i) : Spec Tryz.prog 51 #[.agg i.cells.toArray,.agg s.cells.toArray] (fun _=>True) [] (fun ρ ρ' v L=>ρ' = ρ ∧ v = .int .u32 (opdP i s : Int) ∧ L = []):=by
 obtain ⟨op,rd,r1,r2,imm⟩:=i
 refine Spec.of 15 Tryz.func51 rfl Tryz.ntmps51 [(0,_),(1,_)] rfl rfl ?_
 intro cx ρ hr' h0
 have hsl:=StP.len hs
 refine Cd.seq fun K42 hK42=>?_
 refine Cd.qac [(0,false),(1,false),(2,false)] rfl rfl ?_
 refine Jp.box 2 2 rfl (qaa rfl) rfl rfl rfl rfl fun b2=>⟨Kp.true,?_⟩
 refine Jp.box 3 3 rfl (qaa rfl) rfl rfl rfl rfl fun b3=>⟨Kp.true,?_⟩
 refine Jp.y 4 rfl (qaa rfl) rfl rfl Kp.true (Y.assign rfl rfl) ?_
 refine Jp.qae hK42 ?_
 refine Cd.seq fun K43 hK43=>?_
 refine Cd.seq fun K44 hK44=>?_
 refine Cd.qac [(0,false),(1,false),(2,false)] rfl rfl ?_
 refine Jp.y 5 rfl (qaa rfl) rfl rfl Kp.true (by exact Y.qad rfl rfl underlying60 rfl sizeOf3 (by decide) (show _ + 0 = _ from rfl)) ?_
 refine Jp.y 6 rfl (qaa rfl) rfl rfl Kp.true (by exact Y.qau 2 rfl isAgg3 rfl rfl rfl) ?_
 refine Jp.y 7 rfl (qaa rfl) rfl rfl Kp.true (Y.leq rfl rfl rfl) ?_
 refine Jp.qae hK44 ?_
 refine Cd.qar rfl (fun ga=>?_) (fun ga=>?_)
 ·skip
  refine Cd.seq fun K45 hK45=>?_
  refine Cd.qac [(0,false),(1,false),(2,false),(3,false)] rfl rfl ?_
  refine Jp.y 8 rfl (qaa rfl) rfl rfl Kp.true (by exact Y.qad rfl rfl underlying60 rfl sizeOf21 (by decide) (show _ + 4 = _ from rfl)) ?_
  refine Jp.y 9 rfl (qaa rfl) rfl rfl Kp.true (by exact Y.qau 2 rfl isAgg21 rfl rfl rfl) ?_
  refine Jp.y 10 rfl (qaa rfl) rfl rfl Kp.true (Y.qaw rfl rfl underlying21 underlying24 (by rfl)) ?_
  refine Jp.y 4 rfl (qaa rfl) rfl rfl Kp.true (Y.assign rfl rfl) ?_
  refine Jp.qae hK45 ?_
  refine Cd.ret [] rfl (qbd rfl rfl) trivial ⟨rfl,by rw [qce imm,opdP,if_pos (by simp at ga; exact (show op ≤ 27 by omega))],rfl⟩
 ·skip
  refine Cd.qbu hK43 ?_
  refine Cd.seq fun K46 hK46=>?_
  refine Cd.qac [(0,false),(1,false),(2,false),(3,false),(4,false)] rfl rfl ?_
  refine Jp.y 11 rfl (qaa rfl) rfl rfl Kp.true (by exact Y.qah 3 rfl isAgg27 sizeOf27 rfl rfl (by first | rfl | assumption)) ?_
  refine Jp.y 12 rfl (qaa rfl) rfl rfl Kp.true (by exact Y.qad rfl rfl underlying60 rfl sizeOf3 (by decide) (show _ + 3 = _ from rfl)) ?_
  refine Jp.y 13 rfl (qaa rfl) rfl rfl Kp.true (by exact Y.qau 2 rfl isAgg3 rfl rfl rfl) ?_
  refine Jp.call [] [] (qgd s r2 hs hi.r2) 14 rfl (qaa rfl) rfl rfl (Runs.fn rfl call61 rfl) (by decide) (by decide) rfl trivial ?_
  rintro v1 ρ1 L1 ⟨rfl,rfl,rfl⟩
  refine ⟨rfl,fun hle1=>⟨Kp.true,?_⟩⟩
  refine Jp.y 4 rfl (qaa rfl) rfl rfl Kp.true (Y.assign rfl rfl) ?_
  refine Jp.qae hK46 ?_
  refine Cd.ret [] rfl (qbd rfl rfl) trivial ⟨rfl,by rw [opdP,if_neg (by simp at ga; exact (show ¬ op ≤ 27 by omega))],rfl⟩
def kindA (op : Nat) : Nat:=if 19 ≤ op ∧ op ≤ 27 then [0,3,4,5,8,9,2,6,7].getD (op - 19) 0 else if 28 ≤ op ∧ op ≤ 37 then op - 28 else if 38 ≤ op ∧ op ≤ 45 then op - 28 else 0
def isKind (op : Nat) : Bool:=decide (19 ≤ op ∧ op ≤ 45)
theorem qhr (op : Nat) : kindA op ≤ 17:=by
 unfold kindA
 split
 ·rename_i h
  rcases (show op = 19 ∨ op = 20 ∨ op = 21 ∨ op = 22 ∨ op = 23 ∨ op = 24 ∨ op = 25 ∨ op = 26 ∨ op = 27 by omega) with rfl | rfl | rfl | rfl | rfl | rfl | rfl | rfl | rfl <;> decide
 ·split
  ·omega
  ·split <;> omega
theorem kind_spec (op : Nat) : Spec Tryz.prog 49 #[.int .i64 op] (fun _=>True) [] (fun ρ ρ' v L=>ρ' = ρ ∧ v = .tuple #[.int .i64 (kindA op : Int),.bool (isKind op)] ∧ L = []):=by
 refine Spec.of 36 Tryz.func49 rfl Tryz.ntmps49 [(0,_)] rfl rfl ?_
 intro cx ρ hr' h0
 have hidx1 : 19 ≤ op ∧ op ≤ 27 → (#[Value.int .i64 0,Value.int .i64 3,Value.int .i64 4,Value.int .i64 5,Value.int .i64 8,Value.int .i64 9,Value.int .i64 2,Value.int .i64 6,Value.int .i64 7] : Array Value)[((op : Int) - 19).toNat * 1]? = some (.int .i64 (kindA op : Int)):=fun h=>by
  rcases (show op = 19 ∨ op = 20 ∨ op = 21 ∨ op = 22 ∨ op = 23 ∨ op = 24 ∨ op = 25 ∨ op = 26 ∨ op = 27 by omega) with rfl | rfl | rfl | rfl | rfl | rfl | rfl | rfl | rfl <;> rfl
 have hidx2 : 28 ≤ op ∧ op ≤ 37 → (#[Value.int .i64 0,Value.int .i64 1,Value.int .i64 2,Value.int .i64 3,Value.int .i64 4,Value.int .i64 5,Value.int .i64 6,Value.int .i64 7,Value.int .i64 8,Value.int .i64 9] : Array Value)[((op : Int) - 28).toNat * 1]? = some (.int .i64 (kindA op : Int)):=fun h=>by
  rcases (show op = 28 ∨ op = 29 ∨ op = 30 ∨ op = 31 ∨ op = 32 ∨ op = 33 ∨ op = 34 ∨ op = 35 ∨ op = 36 ∨ op = 37 by omega) with rfl | rfl | rfl | rfl | rfl | rfl | rfl | rfl | rfl | rfl <;> rfl
 refine Cd.seq fun K47 hK47=>?_
 refine Cd.qac [(0,false),(1,false)] rfl rfl ?_
 refine Jp.y 2 rfl (qaa rfl) rfl rfl Kp.true (Y.assign rfl rfl) ?_
 refine Jp.y 3 rfl (qaa rfl) rfl rfl Kp.true (Y.assign rfl rfl) ?_
 refine Jp.qae hK47 ?_
 refine Cd.seq fun K48 hK48=>?_
 refine Cd.block ?_
 refine Cd.seq fun K49 hK49=>?_
 refine Cd.qac [(0,false),(1,false),(2,false),(3,false),(4,false),(5,false),(6,false)] rfl rfl ?_
 refine Jp.y 5 rfl (qaa rfl) rfl rfl Kp.true (Y.move rfl rfl) ?_
 refine Jp.y 6 rfl (qaa rfl) rfl rfl Kp.true (Y.geq rfl rfl rfl) ?_
 refine Jp.y 7 rfl (qaa rfl) rfl rfl Kp.true (Y.move rfl rfl) ?_
 refine Jp.split 7 rfl (fun g7=>?_) (fun g7=>?_)
 ·skip
  try simp only [sG0] at g7
  refine Jp.y 8 rfl (qab rfl rfl rfl rfl) rfl rfl Kp.true (Y.move rfl rfl) ?_
  refine Jp.y 9 rfl (qab rfl rfl rfl rfl) rfl rfl Kp.true (Y.leq rfl rfl rfl) ?_
  refine Jp.y 10 rfl (qaa rfl) rfl rfl Kp.true (Y.qav rfl rfl rfl) ?_
  refine Jp.y 4 rfl (qaa rfl) rfl rfl Kp.true (Y.assign rfl rfl) ?_
  refine Jp.qae hK49 ?_
  refine Cd.qar rfl (fun g4=>?_) (fun g4=>?_)
  ·skip
   try simp only [sG0] at g4
   refine Cd.seq fun K50 hK50=>?_
   refine Cd.qac [(0,false),(1,false),(2,false),(3,false),(4,false),(5,false)] rfl rfl ?_
   refine Jp.y 11 rfl (qaa rfl) rfl rfl Kp.true (Y.array [(0,_),(1,_),(2,_),(3,_),(4,_),(5,_),(6,_),(7,_),(8,_)] [_,_,_,_,_,_,_,_,_] rfl rfl underlying157 sizeOf3 zeroValue157 rfl) ?_
   refine Jp.y 12 rfl (qaa rfl) rfl rfl Kp.true (Y.move rfl rfl) ?_
   refine Jp.y 13 rfl (qaa rfl) rfl rfl Kp.true (Y.qfm rfl rfl rfl (by exact qaj (by omega) (by omega))) ?_
   refine Jp.y 14 rfl (qaa rfl) rfl rfl Kp.true (Y.qcm (v:=.int .i64 (kindA op : Int)) rfl underlying157 sizeOf3 isAgg3 rfl rfl (by omega) (by omega) (hidx1 (by omega))) ?_
   refine Jp.y 2 rfl (qaa rfl) rfl rfl Kp.true (Y.assign rfl rfl) ?_
   refine Jp.y 3 rfl (qaa rfl) rfl rfl Kp.true (Y.assign rfl rfl) ?_
   refine Jp.qae hK50 ?_
   refine Cd.ret [] rfl (qbx rfl rfl rfl) trivial ⟨rfl,by rw [show isKind op = true from decide_eq_true (by omega)],rfl⟩
  ·skip
   try simp only [sG0] at g4
   refine Cd.seq fun K51 hK51=>?_
   refine Cd.qac [(0,false),(1,false),(2,false),(3,false),(4,false),(5,false),(6,false)] rfl rfl ?_
   refine Jp.y 16 rfl (qaa rfl) rfl rfl Kp.true (Y.move rfl rfl) ?_
   refine Jp.y 17 rfl (qaa rfl) rfl rfl Kp.true (Y.geq rfl rfl rfl) ?_
   refine Jp.y 18 rfl (qaa rfl) rfl rfl Kp.true (Y.move rfl rfl) ?_
   refine Jp.split 18 rfl (fun g18=>?_) (fun g18=>?_)
   ·skip
    try simp only [sG0] at g18
    refine Jp.y 19 rfl (qab rfl rfl rfl rfl) rfl rfl Kp.true (Y.move rfl rfl) ?_
    refine Jp.y 20 rfl (qab rfl rfl rfl rfl) rfl rfl Kp.true (Y.leq rfl rfl rfl) ?_
    refine Jp.y 21 rfl (qaa rfl) rfl rfl Kp.true (Y.qav rfl rfl rfl) ?_
    refine Jp.y 15 rfl (qaa rfl) rfl rfl Kp.true (Y.assign rfl rfl) ?_
    refine Jp.qae hK51 ?_
    refine Cd.qar rfl (fun g15=>?_) (fun g15=>?_)
    ·skip
     try simp only [sG0] at g15
     refine Cd.seq fun K52 hK52=>?_
     refine Cd.qac [(0,false),(1,false),(2,false),(3,false),(4,false),(5,false)] rfl rfl ?_
     refine Jp.y 22 rfl (qaa rfl) rfl rfl Kp.true (Y.array [(0,_),(1,_),(2,_),(3,_),(4,_),(5,_),(6,_),(7,_),(8,_),(9,_)] [_,_,_,_,_,_,_,_,_,_] rfl rfl underlying158 sizeOf3 zeroValue158 rfl) ?_
     refine Jp.y 23 rfl (qaa rfl) rfl rfl Kp.true (Y.move rfl rfl) ?_
     refine Jp.y 24 rfl (qaa rfl) rfl rfl Kp.true (Y.qfm rfl rfl rfl (by exact qaj (by omega) (by omega))) ?_
     refine Jp.y 25 rfl (qaa rfl) rfl rfl Kp.true (Y.qcm (v:=.int .i64 (kindA op : Int)) rfl underlying158 sizeOf3 isAgg3 rfl rfl (by omega) (by omega) (hidx2 (by omega))) ?_
     refine Jp.y 2 rfl (qaa rfl) rfl rfl Kp.true (Y.assign rfl rfl) ?_
     refine Jp.y 3 rfl (qaa rfl) rfl rfl Kp.true (Y.assign rfl rfl) ?_
     refine Jp.qae hK52 ?_
     refine Cd.ret [] rfl (qbx rfl rfl rfl) trivial ⟨rfl,by rw [show isKind op = true from decide_eq_true (by omega)],rfl⟩
    ·skip
     try simp only [sG0] at g15
     refine Cd.seq fun K53 hK53=>?_
     refine Cd.qac [(0,false),(1,false),(2,false),(3,false),(4,false),(5,false),(6,false)] rfl rfl ?_
     refine Jp.y 27 rfl (qaa rfl) rfl rfl Kp.true (Y.move rfl rfl) ?_
     refine Jp.y 28 rfl (qaa rfl) rfl rfl Kp.true (Y.geq rfl rfl rfl) ?_
     refine Jp.y 29 rfl (qaa rfl) rfl rfl Kp.true (Y.move rfl rfl) ?_
     refine Jp.split 29 rfl (fun g29=>?_) (fun g29=>?_)
     ·skip
      try simp only [sG0] at g29
      refine Jp.y 30 rfl (qab rfl rfl rfl rfl) rfl rfl Kp.true (Y.move rfl rfl) ?_
      refine Jp.y 31 rfl (qab rfl rfl rfl rfl) rfl rfl Kp.true (Y.leq rfl rfl rfl) ?_
      refine Jp.y 32 rfl (qaa rfl) rfl rfl Kp.true (Y.qav rfl rfl rfl) ?_
      refine Jp.y 26 rfl (qaa rfl) rfl rfl Kp.true (Y.assign rfl rfl) ?_
      refine Jp.qae hK53 ?_
      refine Cd.qar rfl (fun g26=>?_) (fun g26=>?_)
      ·skip
       try simp only [sG0] at g26
       refine Cd.seq fun K54 hK54=>?_
       refine Cd.qac [(0,false),(1,false),(2,false),(3,false),(4,false)] rfl rfl ?_
       refine Jp.y 33 rfl (qaa rfl) rfl rfl Kp.true (Y.move rfl rfl) ?_
       refine Jp.y 34 rfl (qaa rfl) rfl rfl Kp.true (Y.qfm rfl rfl rfl (by exact qaj (by omega) (by omega))) ?_
       refine Jp.y 35 rfl (qaa rfl) rfl rfl Kp.true (Y.qcj rfl rfl rfl (by exact qaj (by omega) (by omega))) ?_
       refine Jp.y 2 rfl (qaa rfl) rfl rfl Kp.true (Y.assign rfl rfl) ?_
       refine Jp.y 3 rfl (qaa rfl) rfl rfl Kp.true (Y.assign rfl rfl) ?_
       refine Jp.qae hK54 ?_
       refine Cd.ret [] rfl (qbx rfl rfl rfl) trivial ⟨rfl,by (rw [show isKind op = true from decide_eq_true (by omega)]; (rw [show kindA op = op - 28 by (rw [kindA,if_neg (by omega),if_neg (by omega),if_pos (by omega)])]; exact congrArg (fun x=>Value.tuple #[.int .i64 x,.bool true]) (by omega))),rfl⟩
      ·skip
       try simp only [sG0] at g26
       refine Cd.over rfl hK48 ?_
       refine Cd.seq fun K55 hK55=>?_
       refine Cd.qac [(0,false),(1,false)] rfl rfl ?_
       refine Jp.y 2 rfl (qaa rfl) rfl rfl Kp.true (Y.assign rfl rfl) ?_
       refine Jp.y 3 rfl (qaa rfl) rfl rfl Kp.true (Y.assign rfl rfl) ?_
       refine Jp.qae hK55 ?_
       refine Cd.ret [] rfl (qbx rfl rfl rfl) trivial ⟨rfl,by (rw [show isKind op = false from decide_eq_false (by omega),show kindA op = 0 by (rw [kindA,if_neg (by omega),if_neg (by omega),if_neg (by omega)])]; rfl),rfl⟩
     ·skip
      try simp only [sG0] at g29
      refine Jp.qaq 30 rfl (qab rfl rfl rfl rfl) rfl rfl Kp.true ?_
      refine Jp.qaq 31 rfl (qab rfl rfl rfl rfl) rfl rfl Kp.true ?_
      refine Jp.y 32 rfl (qaa rfl) rfl rfl Kp.true (Y.qay rfl rfl rfl) ?_
      refine Jp.y 26 rfl (qaa rfl) rfl rfl Kp.true (Y.assign rfl rfl) ?_
      refine Jp.qae hK53 ?_
      refine Cd.qbz rfl ?_
      refine Cd.over rfl hK48 ?_
      refine Cd.seq fun K56 hK56=>?_
      refine Cd.qac [(0,false),(1,false)] rfl rfl ?_
      refine Jp.y 2 rfl (qaa rfl) rfl rfl Kp.true (Y.assign rfl rfl) ?_
      refine Jp.y 3 rfl (qaa rfl) rfl rfl Kp.true (Y.assign rfl rfl) ?_
      refine Jp.qae hK56 ?_
      refine Cd.ret [] rfl (qbx rfl rfl rfl) trivial ⟨rfl,by (exfalso; omega),rfl⟩
   ·skip
    try simp only [sG0] at g18
    refine Jp.qaq 19 rfl (qab rfl rfl rfl rfl) rfl rfl Kp.true ?_
    refine Jp.qaq 20 rfl (qab rfl rfl rfl rfl) rfl rfl Kp.true ?_
    refine Jp.y 21 rfl (qaa rfl) rfl rfl Kp.true (Y.qay rfl rfl rfl) ?_
    refine Jp.y 15 rfl (qaa rfl) rfl rfl Kp.true (Y.assign rfl rfl) ?_
    refine Jp.qae hK51 ?_
    refine Cd.qbz rfl ?_
    refine Cd.seq fun K57 hK57=>?_
    refine Cd.qac [(0,false),(1,false),(2,false),(3,false),(4,false),(5,false),(6,false)] rfl rfl ?_
    refine Jp.y 27 rfl (qaa rfl) rfl rfl Kp.true (Y.move rfl rfl) ?_
    refine Jp.y 28 rfl (qaa rfl) rfl rfl Kp.true (Y.geq rfl rfl rfl) ?_
    refine Jp.y 29 rfl (qaa rfl) rfl rfl Kp.true (Y.move rfl rfl) ?_
    refine Jp.split 29 rfl (fun g29=>?_) (fun g29=>?_)
    ·skip
     try simp only [sG0] at g29
     refine Jp.y 30 rfl (qab rfl rfl rfl rfl) rfl rfl Kp.true (Y.move rfl rfl) ?_
     refine Jp.y 31 rfl (qab rfl rfl rfl rfl) rfl rfl Kp.true (Y.leq rfl rfl rfl) ?_
     refine Jp.y 32 rfl (qaa rfl) rfl rfl Kp.true (Y.qav rfl rfl rfl) ?_
     refine Jp.y 26 rfl (qaa rfl) rfl rfl Kp.true (Y.assign rfl rfl) ?_
     refine Jp.qae hK57 ?_
     refine Cd.qar rfl (fun g26=>?_) (fun g26=>?_)
     ·skip
      try simp only [sG0] at g26
      refine Cd.seq fun K58 hK58=>?_
      refine Cd.qac [(0,false),(1,false),(2,false),(3,false),(4,false)] rfl rfl ?_
      refine Jp.y 33 rfl (qaa rfl) rfl rfl Kp.true (Y.move rfl rfl) ?_
      refine Jp.y 34 rfl (qaa rfl) rfl rfl Kp.true (Y.qfm rfl rfl rfl (by exact qaj (by omega) (by omega))) ?_
      refine Jp.y 35 rfl (qaa rfl) rfl rfl Kp.true (Y.qcj rfl rfl rfl (by exact qaj (by omega) (by omega))) ?_
      refine Jp.y 2 rfl (qaa rfl) rfl rfl Kp.true (Y.assign rfl rfl) ?_
      refine Jp.y 3 rfl (qaa rfl) rfl rfl Kp.true (Y.assign rfl rfl) ?_
      refine Jp.qae hK58 ?_
      refine Cd.ret [] rfl (qbx rfl rfl rfl) trivial ⟨rfl,by (exfalso; omega),rfl⟩
     ·skip
      try simp only [sG0] at g26
      refine Cd.over rfl hK48 ?_
      refine Cd.seq fun K59 hK59=>?_
      refine Cd.qac [(0,false),(1,false)] rfl rfl ?_
      refine Jp.y 2 rfl (qaa rfl) rfl rfl Kp.true (Y.assign rfl rfl) ?_
      refine Jp.y 3 rfl (qaa rfl) rfl rfl Kp.true (Y.assign rfl rfl) ?_
      refine Jp.qae hK59 ?_
      refine Cd.ret [] rfl (qbx rfl rfl rfl) trivial ⟨rfl,by (exfalso; omega),rfl⟩
    ·skip
     try simp only [sG0] at g29
     refine Jp.qaq 30 rfl (qab rfl rfl rfl rfl) rfl rfl Kp.true ?_
     refine Jp.qaq 31 rfl (qab rfl rfl rfl rfl) rfl rfl Kp.true ?_
     refine Jp.y 32 rfl (qaa rfl) rfl rfl Kp.true (Y.qay rfl rfl rfl) ?_
     refine Jp.y 26 rfl (qaa rfl) rfl rfl Kp.true (Y.assign rfl rfl) ?_
     refine Jp.qae hK57 ?_
     refine Cd.qbz rfl ?_
     refine Cd.over rfl hK48 ?_
     refine Cd.seq fun K60 hK60=>?_
     refine Cd.qac [(0,false),(1,false)] rfl rfl ?_
     refine Jp.y 2 rfl (qaa rfl) rfl rfl Kp.true (Y.assign rfl rfl) ?_
     refine Jp.y 3 rfl (qaa rfl) rfl rfl Kp.true (Y.assign rfl rfl) ?_
     refine Jp.qae hK60 ?_
     refine Cd.ret [] rfl (qbx rfl rfl rfl) trivial ⟨rfl,by (exfalso; omega),rfl⟩
 ·skip
  try simp only [sG0] at g7
  refine Jp.qaq 8 rfl (qab rfl rfl rfl rfl) rfl rfl Kp.true ?_
  refine Jp.qaq 9 rfl (qab rfl rfl rfl rfl) rfl rfl Kp.true ?_
  refine Jp.y 10 rfl (qaa rfl) rfl rfl Kp.true (Y.qay rfl rfl rfl) ?_
  refine Jp.y 4 rfl (qaa rfl) rfl rfl Kp.true (Y.assign rfl rfl) ?_
  refine Jp.qae hK49 ?_
  refine Cd.qbz rfl ?_
  refine Cd.seq fun K61 hK61=>?_
  refine Cd.qac [(0,false),(1,false),(2,false),(3,false),(4,false),(5,false),(6,false)] rfl rfl ?_
  refine Jp.y 16 rfl (qaa rfl) rfl rfl Kp.true (Y.move rfl rfl) ?_
  refine Jp.y 17 rfl (qaa rfl) rfl rfl Kp.true (Y.geq rfl rfl rfl) ?_
  refine Jp.y 18 rfl (qaa rfl) rfl rfl Kp.true (Y.move rfl rfl) ?_
  refine Jp.split 18 rfl (fun g18=>?_) (fun g18=>?_)
  ·skip
   try simp only [sG0] at g18
   refine Jp.y 19 rfl (qab rfl rfl rfl rfl) rfl rfl Kp.true (Y.move rfl rfl) ?_
   refine Jp.y 20 rfl (qab rfl rfl rfl rfl) rfl rfl Kp.true (Y.leq rfl rfl rfl) ?_
   refine Jp.y 21 rfl (qaa rfl) rfl rfl Kp.true (Y.qav rfl rfl rfl) ?_
   refine Jp.y 15 rfl (qaa rfl) rfl rfl Kp.true (Y.assign rfl rfl) ?_
   refine Jp.qae hK61 ?_
   refine Cd.qar rfl (fun g15=>?_) (fun g15=>?_)
   ·skip
    try simp only [sG0] at g15
    refine Cd.seq fun K62 hK62=>?_
    refine Cd.qac [(0,false),(1,false),(2,false),(3,false),(4,false),(5,false)] rfl rfl ?_
    refine Jp.y 22 rfl (qaa rfl) rfl rfl Kp.true (Y.array [(0,_),(1,_),(2,_),(3,_),(4,_),(5,_),(6,_),(7,_),(8,_),(9,_)] [_,_,_,_,_,_,_,_,_,_] rfl rfl underlying158 sizeOf3 zeroValue158 rfl) ?_
    refine Jp.y 23 rfl (qaa rfl) rfl rfl Kp.true (Y.move rfl rfl) ?_
    refine Jp.y 24 rfl (qaa rfl) rfl rfl Kp.true (Y.qfm rfl rfl rfl (by exact qaj (by omega) (by omega))) ?_
    refine Jp.y 25 rfl (qaa rfl) rfl rfl Kp.true (Y.qcm (v:=.int .i64 (kindA op : Int)) rfl underlying158 sizeOf3 isAgg3 rfl rfl (by omega) (by omega) (hidx2 (by omega))) ?_
    refine Jp.y 2 rfl (qaa rfl) rfl rfl Kp.true (Y.assign rfl rfl) ?_
    refine Jp.y 3 rfl (qaa rfl) rfl rfl Kp.true (Y.assign rfl rfl) ?_
    refine Jp.qae hK62 ?_
    refine Cd.ret [] rfl (qbx rfl rfl rfl) trivial ⟨rfl,by rw [show isKind op = true from decide_eq_true (by omega)],rfl⟩
   ·skip
    try simp only [sG0] at g15
    refine Cd.seq fun K63 hK63=>?_
    refine Cd.qac [(0,false),(1,false),(2,false),(3,false),(4,false),(5,false),(6,false)] rfl rfl ?_
    refine Jp.y 27 rfl (qaa rfl) rfl rfl Kp.true (Y.move rfl rfl) ?_
    refine Jp.y 28 rfl (qaa rfl) rfl rfl Kp.true (Y.geq rfl rfl rfl) ?_
    refine Jp.y 29 rfl (qaa rfl) rfl rfl Kp.true (Y.move rfl rfl) ?_
    refine Jp.split 29 rfl (fun g29=>?_) (fun g29=>?_)
    ·skip
     try simp only [sG0] at g29
     refine Jp.y 30 rfl (qab rfl rfl rfl rfl) rfl rfl Kp.true (Y.move rfl rfl) ?_
     refine Jp.y 31 rfl (qab rfl rfl rfl rfl) rfl rfl Kp.true (Y.leq rfl rfl rfl) ?_
     refine Jp.y 32 rfl (qaa rfl) rfl rfl Kp.true (Y.qav rfl rfl rfl) ?_
     refine Jp.y 26 rfl (qaa rfl) rfl rfl Kp.true (Y.assign rfl rfl) ?_
     refine Jp.qae hK63 ?_
     refine Cd.qar rfl (fun g26=>?_) (fun g26=>?_)
     ·skip
      try simp only [sG0] at g26
      refine Cd.seq fun K64 hK64=>?_
      refine Cd.qac [(0,false),(1,false),(2,false),(3,false),(4,false)] rfl rfl ?_
      refine Jp.y 33 rfl (qaa rfl) rfl rfl Kp.true (Y.move rfl rfl) ?_
      refine Jp.y 34 rfl (qaa rfl) rfl rfl Kp.true (Y.qfm rfl rfl rfl (by exact qaj (by omega) (by omega))) ?_
      refine Jp.y 35 rfl (qaa rfl) rfl rfl Kp.true (Y.qcj rfl rfl rfl (by exact qaj (by omega) (by omega))) ?_
      refine Jp.y 2 rfl (qaa rfl) rfl rfl Kp.true (Y.assign rfl rfl) ?_
      refine Jp.y 3 rfl (qaa rfl) rfl rfl Kp.true (Y.assign rfl rfl) ?_
      refine Jp.qae hK64 ?_
      refine Cd.ret [] rfl (qbx rfl rfl rfl) trivial ⟨rfl,by (exfalso; omega),rfl⟩
     ·skip
      try simp only [sG0] at g26
      refine Cd.over rfl hK48 ?_
      refine Cd.seq fun K65 hK65=>?_
      refine Cd.qac [(0,false),(1,false)] rfl rfl ?_
      refine Jp.y 2 rfl (qaa rfl) rfl rfl Kp.true (Y.assign rfl rfl) ?_
      refine Jp.y 3 rfl (qaa rfl) rfl rfl Kp.true (Y.assign rfl rfl) ?_
      refine Jp.qae hK65 ?_
      refine Cd.ret [] rfl (qbx rfl rfl rfl) trivial ⟨rfl,by (exfalso; omega),rfl⟩
    ·skip
     try simp only [sG0] at g29
     refine Jp.qaq 30 rfl (qab rfl rfl rfl rfl) rfl rfl Kp.true ?_
     refine Jp.qaq 31 rfl (qab rfl rfl rfl rfl) rfl rfl Kp.true ?_
     refine Jp.y 32 rfl (qaa rfl) rfl rfl Kp.true (Y.qay rfl rfl rfl) ?_
     refine Jp.y 26 rfl (qaa rfl) rfl rfl Kp.true (Y.assign rfl rfl) ?_
     refine Jp.qae hK63 ?_
     refine Cd.qbz rfl ?_
     refine Cd.over rfl hK48 ?_
     refine Cd.seq fun K66 hK66=>?_
     refine Cd.qac [(0,false),(1,false)] rfl rfl ?_
     refine Jp.y 2 rfl (qaa rfl) rfl rfl Kp.true (Y.assign rfl rfl) ?_
     refine Jp.y 3 rfl (qaa rfl) rfl rfl Kp.true (Y.assign rfl rfl) ?_
     refine Jp.qae hK66 ?_
     refine Cd.ret [] rfl (qbx rfl rfl rfl) trivial ⟨rfl,by (exfalso; omega),rfl⟩
  ·skip
   try simp only [sG0] at g18
   refine Jp.qaq 19 rfl (qab rfl rfl rfl rfl) rfl rfl Kp.true ?_
   refine Jp.qaq 20 rfl (qab rfl rfl rfl rfl) rfl rfl Kp.true ?_
   refine Jp.y 21 rfl (qaa rfl) rfl rfl Kp.true (Y.qay rfl rfl rfl) ?_
   refine Jp.y 15 rfl (qaa rfl) rfl rfl Kp.true (Y.assign rfl rfl) ?_
   refine Jp.qae hK61 ?_
   refine Cd.qbz rfl ?_
   refine Cd.seq fun K67 hK67=>?_
   refine Cd.qac [(0,false),(1,false),(2,false),(3,false),(4,false),(5,false),(6,false)] rfl rfl ?_
   refine Jp.y 27 rfl (qaa rfl) rfl rfl Kp.true (Y.move rfl rfl) ?_
   refine Jp.y 28 rfl (qaa rfl) rfl rfl Kp.true (Y.geq rfl rfl rfl) ?_
   refine Jp.y 29 rfl (qaa rfl) rfl rfl Kp.true (Y.move rfl rfl) ?_
   refine Jp.split 29 rfl (fun g29=>?_) (fun g29=>?_)
   ·skip
    try simp only [sG0] at g29
    refine Jp.y 30 rfl (qab rfl rfl rfl rfl) rfl rfl Kp.true (Y.move rfl rfl) ?_
    refine Jp.y 31 rfl (qab rfl rfl rfl rfl) rfl rfl Kp.true (Y.leq rfl rfl rfl) ?_
    refine Jp.y 32 rfl (qaa rfl) rfl rfl Kp.true (Y.qav rfl rfl rfl) ?_
    refine Jp.y 26 rfl (qaa rfl) rfl rfl Kp.true (Y.assign rfl rfl) ?_
    refine Jp.qae hK67 ?_
    refine Cd.qar rfl (fun g26=>?_) (fun g26=>?_)
    ·skip
     try simp only [sG0] at g26
     refine Cd.seq fun K68 hK68=>?_
     refine Cd.qac [(0,false),(1,false),(2,false),(3,false),(4,false)] rfl rfl ?_
     refine Jp.y 33 rfl (qaa rfl) rfl rfl Kp.true (Y.move rfl rfl) ?_
     refine Jp.y 34 rfl (qaa rfl) rfl rfl Kp.true (Y.qfm rfl rfl rfl (by exact qaj (by omega) (by omega))) ?_
     refine Jp.y 35 rfl (qaa rfl) rfl rfl Kp.true (Y.qcj rfl rfl rfl (by exact qaj (by omega) (by omega))) ?_
     refine Jp.y 2 rfl (qaa rfl) rfl rfl Kp.true (Y.assign rfl rfl) ?_
     refine Jp.y 3 rfl (qaa rfl) rfl rfl Kp.true (Y.assign rfl rfl) ?_
     refine Jp.qae hK68 ?_
     refine Cd.ret [] rfl (qbx rfl rfl rfl) trivial ⟨rfl,by (exfalso; omega),rfl⟩
    ·skip
     try simp only [sG0] at g26
     refine Cd.over rfl hK48 ?_
     refine Cd.seq fun K69 hK69=>?_
     refine Cd.qac [(0,false),(1,false)] rfl rfl ?_
     refine Jp.y 2 rfl (qaa rfl) rfl rfl Kp.true (Y.assign rfl rfl) ?_
     refine Jp.y 3 rfl (qaa rfl) rfl rfl Kp.true (Y.assign rfl rfl) ?_
     refine Jp.qae hK69 ?_
     refine Cd.ret [] rfl (qbx rfl rfl rfl) trivial ⟨rfl,by (exfalso; omega),rfl⟩
   ·skip
    try simp only [sG0] at g29
    refine Jp.qaq 30 rfl (qab rfl rfl rfl rfl) rfl rfl Kp.true ?_
    refine Jp.qaq 31 rfl (qab rfl rfl rfl rfl) rfl rfl Kp.true ?_
    refine Jp.y 32 rfl (qaa rfl) rfl rfl Kp.true (Y.qay rfl rfl rfl) ?_
    refine Jp.y 26 rfl (qaa rfl) rfl rfl Kp.true (Y.assign rfl rfl) ?_
    refine Jp.qae hK67 ?_
    refine Cd.qbz rfl ?_
    refine Cd.over rfl hK48 ?_
    refine Cd.seq fun K70 hK70=>?_
    refine Cd.qac [(0,false),(1,false)] rfl rfl ?_
    refine Jp.y 2 rfl (qaa rfl) rfl rfl Kp.true (Y.assign rfl rfl) ?_
    refine Jp.y 3 rfl (qaa rfl) rfl rfl Kp.true (Y.assign rfl rfl) ?_
    refine Jp.qae hK70 ?_
    refine Cd.ret [] rfl (qbx rfl rfl rfl) trivial ⟨rfl,by (rw [show isKind op = false from decide_eq_false (by omega),show kindA op = 0 by (rw [kindA,if_neg (by omega),if_neg (by omega),if_neg (by omega)])]; rfl),rfl⟩
end Go.Proofs.YtnfkalpgidiafaaGreat
