import Derived.Test.YtgmhijlcdadaeaaZComX
set_option linter.unusedVariables false
set_option linter.unusedSimpArgs false
namespace Go.Proofs.Ytgmhijlcdadaeaa
open Go
structure Pg where
  b : List UInt8
  perm : Nat
structure MemG where
  budget : Nat
  pages : List (Nat × Pg)
  gens : Nat → Nat
def getPg : List (Nat × Pg) → Nat → Option Pg
  | [], _ => none
  | (x, p) :: l, k => if x = k then some p else getPg l k
def setPg (l : List (Nat × Pg)) (k : Nat) (p : Pg) : List (Nat × Pg) := l.map fun x => if x.1 = k then (k, p) else x
def insPg (k : Nat) (p : Pg) : List (Nat × Pg) → List (Nat × Pg)
  | [] => [(k, p)]
  | x :: l => if k < x.1 then (k, p) :: x :: l else x :: insPg k p l
def Rising (l : List (Nat × Pg)) : Prop := l.Pairwise fun x y => x.1 < y.1
structure PgOk (x : Nat × Pg) : Prop where
  al : x.1 % 256 = 0
  lt : x.1 < 4294967296
  len : x.2.b.length = 256
  perm : x.2.perm ≤ 7
structure MemOk (M : MemG) : Prop where
  rising : Rising M.pages
  page : ∀ x ∈ M.pages, PgOk x
  gens : ∀ k, M.gens k < 4294967296
  room : M.pages.length ≤ M.budget
  budget : 1 ≤ M.budget ∧ M.budget ≤ 4096
def baseN (a : Nat) : Nat := a - a % 256
def bump (g : Nat → Nat) (k : Nat) : Nat → Nat := fun x => if x = k then (g k + 1) % 4294967296 else g x
def may (perm : Nat) (need : Int) : Bool := bitsB .and .i64 perm need == need
def stretch (a n : Nat) : Option Nat := if 0 < n ∧ a % 256 = 0 ∧ a + (n + 255) / 256 * 256 ≤ 4294967296 then some ((n + 255) / 256) else none
def inS (a many k : Nat) : Bool := decide (a ≤ k) && decide (k < a + many * 256)
def withinP (M : MemG) (a many : Nat) : List Nat := (M.pages.filter fun x => inS a many x.1).map (·.1)
def sizeOk (a : Nat) (size : Int) : Bool := (size == 1 || size == 2 || size == 4) && ((a : Int) % size == 0)
def lookM (M : MemG) (a : Nat) (size need : Int) : Int := if sizeOk a size = false then 3 else match getPg M.pages (baseN a) with
  | none => 1
  | some p => if may p.perm need then 0 else 2
def loadM (M : MemG) (a : Nat) (size need : Int) : Nat × Int := if lookM M a size need = 0 then (match getPg M.pages (baseN a) with
  | some p => leN ((p.b.drop (a % 256)).take size.toNat)
  | none => 0, 0) else (0, lookM M a size need)
def stPg (p : Pg) (off n v : Nat) : Pg := ⟨lay p.b off (leB v n), p.perm⟩
def storeM (M : MemG) (a : Nat) (size : Int) (v : Nat) : Int × MemG := if lookM M a size 2 = 0 then (0, match getPg M.pages (baseN a) with
  | some p => { M with pages := setPg M.pages (baseN a) (stPg p (a % 256) size.toNat v), gens := bump M.gens (baseN a) }
  | none => M) else (lookM M a size 2, M)
def permM (M : MemG) (a : Nat) : Int × Bool := match getPg M.pages (baseN a) with
  | some p => (p.perm, true)
  | none => (0, false)
def newM (budget : Nat) : MemG := ⟨budget, [], fun _ => 0⟩
def addPgs (M : MemG) (a perm : Nat) : Nat → MemG
  | 0 => M
  | i + 1 => { addPgs M a perm i with pages := insPg (a + 256 * i) ⟨List.replicate 256 0, perm⟩ (addPgs M a perm i).pages, gens := bump (addPgs M a perm i).gens (a + 256 * i) }
def mapM (M : MemG) (a n : Nat) (perm : Int) : Int × MemG := match stretch a n with
  | none => (1, M)
  | some many => if perm < 0 ∨ 7 < perm then (1, M) else if 0 < (withinP M a many).length then (5, M) else if M.budget - M.pages.length < many then (6, M) else (0, addPgs M a perm.toNat many)
theorem getPg_mem {l : List (Nat × Pg)} {k : Nat} {p : Pg} (h : getPg l k = some p) : (k, p) ∈ l := by
  induction l with
  | nil => cases h
  | cons x l ih =>
    obtain ⟨x, q⟩ := x
    simp only [getPg] at h
    split at h
    · rename_i e; subst e; injection h with h; subst h; exact List.mem_cons_self ..
    · exact List.mem_cons_of_mem _ (ih h)
theorem Rising.nodup {l : List (Nat × Pg)} (h : Rising l) : (l.map (·.1)).Nodup := by
  rw [List.Nodup, List.pairwise_map]
  exact h.imp fun h => by omega
theorem getPg_of_mem {l : List (Nat × Pg)} (hn : (l.map (·.1)).Nodup) {k : Nat} {p : Pg} (h : (k, p) ∈ l) : getPg l k = some p := by
  induction l with
  | nil => cases h
  | cons x l ih =>
    obtain ⟨x, q⟩ := x
    rw [List.map_cons, List.nodup_cons] at hn
    simp only [getPg]
    rcases List.mem_cons.1 h with h0 | h0
    · injection h0 with h1 h2; subst h1 h2; simp
    · rw [if_neg, ih hn.2 h0]
      intro e; subst e
      exact hn.1 (List.mem_map.2 ⟨(x, p), h0, rfl⟩)
theorem getPg_none {l : List (Nat × Pg)} {k : Nat} : getPg l k = none ↔ k ∉ l.map (·.1) := by
  induction l with
  | nil => simp [getPg]
  | cons x l ih =>
    obtain ⟨x, q⟩ := x
    simp only [getPg]
    by_cases h : x = k
    · subst h; simp
    · rw [if_neg h, ih]; simp [Ne.symm h]
theorem mget_pages {l : List (Nat × Pg)} (f : Nat → Value) (k : Nat) : mget (l.map fun p => ((p.1 : Int), f p.1)) (k : Int) = (getPg l k).map fun _ => f k := by
  induction l with
  | nil => rfl
  | cons x l ih =>
    obtain ⟨x, q⟩ := x
    rw [List.map_cons, mget_cons, ih]
    simp only [getPg]
    by_cases h : x = k
    · subst h; simp
    · rw [if_neg h, if_neg (by omega)]
theorem setPg_keys (l : List (Nat × Pg)) (k : Nat) (p : Pg) : (setPg l k p).map (·.1) = l.map (·.1) := by
  rw [setPg, List.map_map]
  apply List.map_congr_left
  intro x _
  simp only [Function.comp]
  split
  · rename_i h; exact h.symm
  · rfl
theorem setPg_map {α : Type} (l : List (Nat × Pg)) (k : Nat) (p : Pg) (f : Nat → α) : (setPg l k p).map (fun x => f x.1) = l.map fun x => f x.1 := by
  have := congrArg (List.map f) (setPg_keys l k p)
  rw [List.map_map, List.map_map] at this
  exact this
theorem setPg_set (l : List (Nat × Pg)) (k : Nat) (p q : Pg) : setPg (setPg l k p) k q = setPg l k q := by
  rw [setPg, setPg, setPg, List.map_map]
  apply List.map_congr_left
  intro x _
  simp only [Function.comp]
  by_cases h : x.1 = k <;> simp [h]
theorem setPg_same {l : List (Nat × Pg)} {k : Nat} {p : Pg} (hn : (l.map (·.1)).Nodup) (h : getPg l k = some p) : setPg l k p = l := by
  have : setPg l k p = l.map id := List.map_congr_left fun x hx => by
    split
    · rename_i e
      have h2 : getPg l x.1 = some x.2 := getPg_of_mem hn hx
      rw [e, h] at h2
      injection h2 with h2
      subst h2
      rw [← e]; rfl
    · rfl
  rw [this, List.map_id]
theorem getPg_set (l : List (Nat × Pg)) (k : Nat) (p : Pg) (k' : Nat) : getPg (setPg l k p) k' = if k' = k then (getPg l k).map (fun _ => p) else getPg l k' := by
  induction l with
  | nil => simp [setPg, getPg]
  | cons x l ih =>
    obtain ⟨x, q⟩ := x
    have e : setPg ((x, q) :: l) k p = (if x = k then (k, p) else (x, q)) :: setPg l k p := rfl
    rw [e]
    by_cases h : x = k
    · subst h
      simp only [if_true, getPg]
      by_cases h' : k' = x
      · subst h'; simp
      · rw [if_neg (Ne.symm h'), ih, if_neg h', if_neg h', if_neg (Ne.symm h')]
    · rw [if_neg h]
      simp only [getPg]
      by_cases h' : x = k'
      · subst h'; simp [h]
      · rw [if_neg h', if_neg h', ih]; by_cases h2 : k' = k
        · subst h2; simp [h]
        · simp [h2]
theorem Rising.set {l : List (Nat × Pg)} (h : Rising l) (k : Nat) (p : Pg) : Rising (setPg l k p) := by
  have e := setPg_keys l k p
  have h1 : (l.map (·.1)).Pairwise (· < ·) := List.pairwise_map.2 h
  rw [← e] at h1
  exact List.pairwise_map.1 h1
theorem MemOk.set {M : MemG} (h : MemOk M) {k : Nat} {p p' : Pg} (hg : getPg M.pages k = some p) (h1 : p'.b.length = 256) (h2 : p'.perm ≤ 7) : MemOk { M with pages := setPg M.pages k p' } := by
  refine ⟨h.rising.set k p', fun x hx => ?_, h.gens, ?_, h.budget⟩
  · obtain ⟨y, hy, rfl⟩ := List.mem_map.1 hx
    have := h.page y hy
    split
    · rename_i e
      exact ⟨by rw [← e]; exact this.al, by rw [← e]; exact this.lt, h1, h2⟩
    · exact this
  · show (setPg M.pages k p').length ≤ _
    rw [setPg, List.length_map]; exact h.room
theorem MemOk.bump {M : MemG} (h : MemOk M) (k : Nat) : MemOk { M with gens := bump M.gens k } :=
  ⟨h.rising, h.page, fun x => by
    show Ytgmhijlcdadaeaa.bump M.gens k x < _
    unfold Ytgmhijlcdadaeaa.bump
    split
    · omega
    · exact h.gens x, h.room, h.budget⟩
theorem insPg_perm (k : Nat) (p : Pg) (l : List (Nat × Pg)) : (insPg k p l).Perm ((k, p) :: l) := by
  induction l with
  | nil => exact List.Perm.refl _
  | cons x l ih =>
    simp only [insPg]
    split
    · exact List.Perm.refl _
    · exact (ih.cons x).trans (List.Perm.swap ..)
theorem Rising.ins {l : List (Nat × Pg)} (h : Rising l) {k : Nat} (p : Pg) (hk : k ∉ l.map (·.1)) : Rising (insPg k p l) := by
  induction l with
  | nil => exact List.pairwise_singleton ..
  | cons x l ih =>
    have hx := List.pairwise_cons.1 h
    simp only [List.map_cons, List.mem_cons, not_or] at hk
    simp only [insPg]
    split
    · rename_i hlt
      refine List.pairwise_cons.2 ⟨fun y hy => ?_, h⟩
      rcases List.mem_cons.1 hy with rfl | hy
      · exact hlt
      · exact Nat.lt_trans hlt (hx.1 y hy)
    · rename_i hge
      refine List.pairwise_cons.2 ⟨fun y hy => ?_, ih hx.2 hk.2⟩
      have hm := (insPg_perm k p l).mem_iff.1 hy
      rcases List.mem_cons.1 hm with rfl | hm
      · show x.1 < k; have := hk.1; omega
      · exact hx.1 y hm
theorem MemOk.ins {M : MemG} (h : MemOk M) {k : Nat} {p : Pg} (hk : k ∉ M.pages.map (·.1)) (h1 : k % 256 = 0) (h2 : k < 4294967296) (h3 : p.b.length = 256) (h4 : p.perm ≤ 7) (hr : M.pages.length < M.budget) : MemOk { M with pages := insPg k p M.pages } := by
  refine ⟨h.rising.ins p hk, fun x hx => ?_, h.gens, ?_, h.budget⟩
  · have hm := (insPg_perm k p M.pages).mem_iff.1 hx
    rcases List.mem_cons.1 hm with rfl | hm
    · exact ⟨h1, h2, h3, h4⟩
    · exact h.page x hm
  · show (insPg k p M.pages).length ≤ M.budget
    rw [(insPg_perm k p M.pages).length_eq, List.length_cons]; omega
end Go.Proofs.Ytgmhijlcdadaeaa
set_option linter.unusedVariables false
set_option linter.unusedSimpArgs false
set_option maxRecDepth 100000
namespace Go.Proofs.Ytgmhijlcdadaeaa
open Go
end Go.Proofs.Ytgmhijlcdadaeaa
set_option linter.unusedVariables false
set_option linter.unusedSimpArgs false
set_option maxRecDepth 100000
namespace Go.Proofs.Ytgmhijlcdadaeaa
open Go
structure MemX where
  pb : Nat
  gb : Nat
  pm : MapL
  gm : MapL
  blk : Nat → Nat
def pgPtr (x : MemX) (k : Nat) : Value := .pointer (some ⟨x.blk k, 0, none⟩)
structure MemF (M : MemG) (x : MemX) : Prop where
  ok : MemOk M
  pages : x.pm.Perm (M.pages.map fun p => ((p.1 : Int), pgPtr x p.1))
  gens : ∀ k : Nat, (mget x.gm k).getD (.int .u32 0) = .int .u32 (M.gens k)
def pageCells (p : Pg) : List Value := bytesV p.b ++ [.int .i64 p.perm]
def pageO (p : Pg) : Obj := .cells (pageCells p).toArray 145
def memObj (M : MemG) (x : MemX) : Obj := .cells #[.int .i64 M.budget, .map (some x.pb), .map (some x.gb)] 115
def blksOf (M : MemG) (x : MemX) : List (Nat × Obj) := M.pages.map fun p => (x.blk p.1, pageO p.2)
def MemO (b : Nat) (M : MemG) : HProp := Ex fun x : MemX => Fact (MemF M x) (Sep (Pt b (memObj M x)) (Sep (MapO .u32 x.pb x.pm) (Sep (MapO .u32 x.gb x.gm) (Blks (blksOf M x)))))
theorem MemF.get {M : MemG} {x : MemX} (f : MemF M x) (k : Nat) : mget x.pm (k : Int) = (getPg M.pages k).map fun _ => pgPtr x k := by
  rw [mget_perm f.pages, mget_pages (pgPtr x)]
  have h := f.ok.rising.nodup
  rw [List.map_map]
  have e : ((fun x => x.1) ∘ fun p : Nat × Pg => ((p.1 : Int), pgPtr x p.1)) = (fun k : Nat => (k : Int)) ∘ fun p => p.1 := rfl
  rw [e, ← List.map_map]
  rw [List.Nodup, List.pairwise_map]
  exact h.imp fun h => by omega
section
variable {P : Program} {n : Nat} {cx : Cx} {ρ : Hp} {E : Env} {L : Own} {ops : Array Oper} {Q : Exit → Act → World → Prop} {S' : World → Prop} {π : List (Nat × Bool)}
end
end Go.Proofs.Ytgmhijlcdadaeaa
set_option linter.unusedVariables false
set_option linter.unusedSimpArgs false
set_option maxRecDepth 100000
namespace Go.Proofs.Ytgmhijlcdadaeaa
open Go
theorem pageCells_perm (p : Pg) (h : p.b.length = 256) : (pageCells p).toArray[256]? = some (.int .i64 p.perm) := by
  simp [pageCells, bytesV, h]
theorem MemF.blk {M : MemG} {x : MemX} {k : Nat} {p : Pg} (h : getPg M.pages k = some p) : (x.blk k, pageO p) ∈ blksOf M x := List.mem_map.2 ⟨(k, p), getPg_mem h, rfl⟩
end Go.Proofs.Ytgmhijlcdadaeaa
set_option linter.unusedVariables false
set_option linter.unusedSimpArgs false
set_option maxRecDepth 100000
namespace Go.Proofs.Ytgmhijlcdadaeaa
open Go
theorem nodup_map_inj {α β : Type} {f : α → β} : ∀ {l : List α}, (l.map f).Nodup → ∀ {x y : α}, x ∈ l → y ∈ l → f x = f y → x = y := by
  intro l
  induction l with
  | nil => intro _ x y h; cases h
  | cons z l ih =>
    intro hn x y hx hy e
    rw [List.map_cons, List.nodup_cons] at hn
    rcases List.mem_cons.1 hx with h1 | h1 <;> rcases List.mem_cons.1 hy with h2 | h2
    · rw [h1, h2]
    · subst h1; exact absurd (e ▸ List.mem_map.2 ⟨y, h2, rfl⟩) hn.1
    · subst h2; exact absurd (e ▸ List.mem_map.2 ⟨x, h1, rfl⟩) hn.1
    · exact ih hn.2 h1 h2 e
theorem MemF.set {M : MemG} {x : MemX} (f : MemF M x) {k : Nat} {p p' : Pg} (hg : getPg M.pages k = some p) (h1 : p'.b.length = 256) (h2 : p'.perm ≤ 7) : MemF { M with pages := setPg M.pages k p' } x :=
  ⟨f.ok.set hg h1 h2, by
    show x.pm.Perm ((setPg M.pages k p').map fun p => ((p.1 : Int), pgPtr x p.1))
    rw [setPg_map _ _ _ fun k => ((k : Int), pgPtr x k)]
    exact f.pages, f.gens⟩
theorem MemF.bump {M : MemG} {x : MemX} (f : MemF M x) (k : Nat) : MemF { M with gens := Ytgmhijlcdadaeaa.bump M.gens k } { x with gm := mset x.gm k (.int .u32 (((M.gens k + 1) % 4294967296 : Nat) : Int)) } :=
  ⟨f.ok.bump k, f.pages, fun k' => by
    show (mget (mset x.gm k _) k').getD _ = .int .u32 ((Ytgmhijlcdadaeaa.bump M.gens k k' : Nat) : Int)
    rw [mget_mset, Ytgmhijlcdadaeaa.bump]
    by_cases h : k' = k
    · subst h; simp
    · rw [if_neg h, if_neg (by omega)]; exact f.gens k'⟩
end Go.Proofs.Ytgmhijlcdadaeaa
set_option linter.unusedVariables false
set_option linter.unusedSimpArgs false
set_option maxRecDepth 100000
namespace Go.Proofs.Ytgmhijlcdadaeaa
open Go
theorem pageCells_byte (p : Pg) {j : Nat} (h : p.b.length = 256) (hj : j < 256) : (pageCells p).toArray[j]? = some (.int .u8 ((p.b[j]'(by omega)).toNat : Int)) := by
  have hj' : j < p.b.length := by omega
  rw [pageCells, List.getElem?_toArray, List.getElem?_append_left (by rw [bytesV, List.length_map]; exact hj'), bytesV, List.getElem?_map, List.getElem?_eq_getElem hj']; rfl
def stMem (M : MemG) (key : Nat) (p : Pg) (off k v : Nat) : MemG := { M with pages := setPg M.pages key (stPg p off k v) }
end Go.Proofs.Ytgmhijlcdadaeaa
set_option linter.unusedVariables false
set_option linter.unusedSimpArgs false
set_option maxRecDepth 100000
namespace Go.Proofs.Ytgmhijlcdadaeaa
open Go
theorem MemF.ins {M : MemG} {x : MemX} (f : MemF M x) {k : Nat} {p : Pg} (b : Nat) (hk : k ∉ M.pages.map (·.1)) (h : MemOk { M with pages := insPg k p M.pages }) :
    MemF { M with pages := insPg k p M.pages } { x with pm := mset x.pm k (.pointer (some ⟨b, 0, none⟩)), blk := fun k' => if k' = k then b else x.blk k' } := by
  refine ⟨h, ?_, f.gens⟩
  have h1 : (k : Int) ∉ (M.pages.map fun p => ((p.1 : Int), pgPtr x p.1)).map (·.1) := by
    rw [List.map_map]
    intro hm
    obtain ⟨y, hy, e⟩ := List.mem_map.1 hm
    have : y.1 = k := Int.ofNat.inj e
    exact hk (this ▸ List.mem_map.2 ⟨y, hy, rfl⟩)
  refine (mset_perm f.pages h1).trans ?_
  refine (List.Perm.trans ?_ ((insPg_perm k p M.pages).map _).symm)
  rw [List.map_cons]
  have e : (M.pages.map fun p => ((p.1 : Int), pgPtr x p.1)) = M.pages.map fun p => ((p.1 : Int), pgPtr { x with pm := mset x.pm k (.pointer (some ⟨b, 0, none⟩)), blk := fun k' => if k' = k then b else x.blk k' } p.1) := by
    apply List.map_congr_left
    intro y hy
    have : ¬ y.1 = k := fun e => hk (e ▸ List.mem_map.2 ⟨y, hy, rfl⟩)
    simp [pgPtr, this]
  rw [e]
  simp [pgPtr]
end Go.Proofs.Ytgmhijlcdadaeaa
set_option linter.unusedVariables false
set_option linter.unusedSimpArgs false
set_option maxRecDepth 100000
namespace Go.Proofs.Ytgmhijlcdadaeaa
open Go
end Go.Proofs.Ytgmhijlcdadaeaa
set_option linter.unusedVariables false
set_option linter.unusedSimpArgs false
set_option maxRecDepth 100000
namespace Go.Proofs.Ytgmhijlcdadaeaa
open Go
def oneM (bud : Nat) (bs : Bytes) (g : Nat → Nat) : MemG := ⟨bud, [(0, ⟨bs, 3⟩)], g⟩
end Go.Proofs.Ytgmhijlcdadaeaa
