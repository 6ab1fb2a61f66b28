import Derived.Test.YtkjeidoplonkjaaZComX
set_option linter.unusedVariables false
set_option linter.unusedSimpArgs false
namespace Go.Proofs.Ytkjeidoplonkjaa
open Go
structure Pg where
  b : List UInt8
  perm : Nat
structure MemG where
  budget : Nat
  pages : List (Nat × Pg)
  gens : Nat → Nat
def getPg : List (Nat × Pg) → Nat → Option Pg
  | [], _ => none
  | (x, p) :: l, k => if x = k then some p else getPg l k
def setPg (l : List (Nat × Pg)) (k : Nat) (p : Pg) : List (Nat × Pg) := l.map fun x => if x.1 = k then (k, p) else x
def insPg (k : Nat) (p : Pg) : List (Nat × Pg) → List (Nat × Pg)
  | [] => [(k, p)]
  | x :: l => if k < x.1 then (k, p) :: x :: l else x :: insPg k p l
def Rising (l : List (Nat × Pg)) : Prop := l.Pairwise fun x y => x.1 < y.1
structure PgOk (x : Nat × Pg) : Prop where
  al : x.1 % 256 = 0
  lt : x.1 < 4294967296
  len : x.2.b.length = 256
  perm : x.2.perm ≤ 7
structure MemOk (M : MemG) : Prop where
  rising : Rising M.pages
  page : ∀ x ∈ M.pages, PgOk x
  gens : ∀ k, M.gens k < 4294967296
  room : M.pages.length ≤ M.budget
  budget : 1 ≤ M.budget ∧ M.budget ≤ 4096
def baseN (a : Nat) : Nat := a - a % 256
def bump (g : Nat → Nat) (k : Nat) : Nat → Nat := fun x => if x = k then (g k + 1) % 4294967296 else g x
def may (perm : Nat) (need : Int) : Bool := bitsB .and .i64 perm need == need
def stretch (a n : Nat) : Option Nat := if 0 < n ∧ a % 256 = 0 ∧ a + (n + 255) / 256 * 256 ≤ 4294967296 then some ((n + 255) / 256) else none
def inS (a many k : Nat) : Bool := decide (a ≤ k) && decide (k < a + many * 256)
def withinP (M : MemG) (a many : Nat) : List Nat := (M.pages.filter fun x => inS a many x.1).map (·.1)
def sizeOk (a : Nat) (size : Int) : Bool := (size == 1 || size == 2 || size == 4) && ((a : Int) % size == 0)
def lookM (M : MemG) (a : Nat) (size need : Int) : Int := if sizeOk a size = false then 3 else match getPg M.pages (baseN a) with
  | none => 1
  | some p => if may p.perm need then 0 else 2
def loadM (M : MemG) (a : Nat) (size need : Int) : Nat × Int := if lookM M a size need = 0 then (match getPg M.pages (baseN a) with
  | some p => leN ((p.b.drop (a % 256)).take size.toNat)
  | none => 0, 0) else (0, lookM M a size need)
def stPg (p : Pg) (off n v : Nat) : Pg := ⟨lay p.b off (leB v n), p.perm⟩
def storeM (M : MemG) (a : Nat) (size : Int) (v : Nat) : Int × MemG := if lookM M a size 2 = 0 then (0, match getPg M.pages (baseN a) with
  | some p => { M with pages := setPg M.pages (baseN a) (stPg p (a % 256) size.toNat v), gens := bump M.gens (baseN a) }
  | none => M) else (lookM M a size 2, M)
def permM (M : MemG) (a : Nat) : Int × Bool := match getPg M.pages (baseN a) with
  | some p => (p.perm, true)
  | none => (0, false)
def newM (budget : Nat) : MemG := ⟨budget, [], fun _ => 0⟩
def addPgs (M : MemG) (a perm : Nat) : Nat → MemG
  | 0 => M
  | i + 1 => { addPgs M a perm i with pages := insPg (a + 256 * i) ⟨List.replicate 256 0, perm⟩ (addPgs M a perm i).pages, gens := bump (addPgs M a perm i).gens (a + 256 * i) }
def mapM (M : MemG) (a n : Nat) (perm : Int) : Int × MemG := match stretch a n with
  | none => (1, M)
  | some many => if perm < 0 ∨ 7 < perm then (1, M) else if 0 < (withinP M a many).length then (5, M) else if M.budget - M.pages.length < many then (6, M) else (0, addPgs M a perm.toNat many)
theorem getPg_mem {l : List (Nat × Pg)} {k : Nat} {p : Pg} (h : getPg l k = some p) : (k, p) ∈ l := by
  induction l with
  | nil => cases h
  | cons x l ih =>
    obtain ⟨x, q⟩ := x
    simp only [getPg] at h
    split at h
    · rename_i e; subst e; injection h with h; subst h; exact List.mem_cons_self ..
    · exact List.mem_cons_of_mem _ (ih h)
theorem Rising.nodup {l : List (Nat × Pg)} (h : Rising l) : (l.map (·.1)).Nodup := by
  rw [List.Nodup, List.pairwise_map]
  exact h.imp fun h => by omega
theorem getPg_of_mem {l : List (Nat × Pg)} (hn : (l.map (·.1)).Nodup) {k : Nat} {p : Pg} (h : (k, p) ∈ l) : getPg l k = some p := by
  induction l with
  | nil => cases h
  | cons x l ih =>
    obtain ⟨x, q⟩ := x
    rw [List.map_cons, List.nodup_cons] at hn
    simp only [getPg]
    rcases List.mem_cons.1 h with h0 | h0
    · injection h0 with h1 h2; subst h1 h2; simp
    · rw [if_neg, ih hn.2 h0]
      intro e; subst e
      exact hn.1 (List.mem_map.2 ⟨(x, p), h0, rfl⟩)
theorem getPg_none {l : List (Nat × Pg)} {k : Nat} : getPg l k = none ↔ k ∉ l.map (·.1) := by
  induction l with
  | nil => simp [getPg]
  | cons x l ih =>
    obtain ⟨x, q⟩ := x
    simp only [getPg]
    by_cases h : x = k
    · subst h; simp
    · rw [if_neg h, ih]; simp [Ne.symm h]
theorem mget_pages {l : List (Nat × Pg)} (f : Nat → Value) (k : Nat) : mget (l.map fun p => ((p.1 : Int), f p.1)) (k : Int) = (getPg l k).map fun _ => f k := by
  induction l with
  | nil => rfl
  | cons x l ih =>
    obtain ⟨x, q⟩ := x
    rw [List.map_cons, mget_cons, ih]
    simp only [getPg]
    by_cases h : x = k
    · subst h; simp
    · rw [if_neg h, if_neg (by omega)]
theorem setPg_keys (l : List (Nat × Pg)) (k : Nat) (p : Pg) : (setPg l k p).map (·.1) = l.map (·.1) := by
  rw [setPg, List.map_map]
  apply List.map_congr_left
  intro x _
  simp only [Function.comp]
  split
  · rename_i h; exact h.symm
  · rfl
theorem setPg_map {α : Type} (l : List (Nat × Pg)) (k : Nat) (p : Pg) (f : Nat → α) : (setPg l k p).map (fun x => f x.1) = l.map fun x => f x.1 := by
  have := congrArg (List.map f) (setPg_keys l k p)
  rw [List.map_map, List.map_map] at this
  exact this
theorem setPg_set (l : List (Nat × Pg)) (k : Nat) (p q : Pg) : setPg (setPg l k p) k q = setPg l k q := by
  rw [setPg, setPg, setPg, List.map_map]
  apply List.map_congr_left
  intro x _
  simp only [Function.comp]
  by_cases h : x.1 = k <;> simp [h]
theorem setPg_same {l : List (Nat × Pg)} {k : Nat} {p : Pg} (hn : (l.map (·.1)).Nodup) (h : getPg l k = some p) : setPg l k p = l := by
  have : setPg l k p = l.map id := List.map_congr_left fun x hx => by
    split
    · rename_i e
      have h2 : getPg l x.1 = some x.2 := getPg_of_mem hn hx
      rw [e, h] at h2
      injection h2 with h2
      subst h2
      rw [← e]; rfl
    · rfl
  rw [this, List.map_id]
theorem getPg_set (l : List (Nat × Pg)) (k : Nat) (p : Pg) (k' : Nat) : getPg (setPg l k p) k' = if k' = k then (getPg l k).map (fun _ => p) else getPg l k' := by
  induction l with
  | nil => simp [setPg, getPg]
  | cons x l ih =>
    obtain ⟨x, q⟩ := x
    have e : setPg ((x, q) :: l) k p = (if x = k then (k, p) else (x, q)) :: setPg l k p := rfl
    rw [e]
    by_cases h : x = k
    · subst h
      simp only [if_true, getPg]
      by_cases h' : k' = x
      · subst h'; simp
      · rw [if_neg (Ne.symm h'), ih, if_neg h', if_neg h', if_neg (Ne.symm h')]
    · rw [if_neg h]
      simp only [getPg]
      by_cases h' : x = k'
      · subst h'; simp [h]
      · rw [if_neg h', if_neg h', ih]; by_cases h2 : k' = k
        · subst h2; simp [h]
        · simp [h2]
theorem Rising.set {l : List (Nat × Pg)} (h : Rising l) (k : Nat) (p : Pg) : Rising (setPg l k p) := by
  have e := setPg_keys l k p
  have h1 : (l.map (·.1)).Pairwise (· < ·) := List.pairwise_map.2 h
  rw [← e] at h1
  exact List.pairwise_map.1 h1
theorem MemOk.set {M : MemG} (h : MemOk M) {k : Nat} {p p' : Pg} (hg : getPg M.pages k = some p) (h1 : p'.b.length = 256) (h2 : p'.perm ≤ 7) : MemOk { M with pages := setPg M.pages k p' } := by
  refine ⟨h.rising.set k p', fun x hx => ?_, h.gens, ?_, h.budget⟩
  · obtain ⟨y, hy, rfl⟩ := List.mem_map.1 hx
    have := h.page y hy
    split
    · rename_i e
      exact ⟨by rw [← e]; exact this.al, by rw [← e]; exact this.lt, h1, h2⟩
    · exact this
  · show (setPg M.pages k p').length ≤ _
    rw [setPg, List.length_map]; exact h.room
theorem MemOk.bump {M : MemG} (h : MemOk M) (k : Nat) : MemOk { M with gens := bump M.gens k } :=
  ⟨h.rising, h.page, fun x => by
    show Ytkjeidoplonkjaa.bump M.gens k x < _
    unfold Ytkjeidoplonkjaa.bump
    split
    · omega
    · exact h.gens x, h.room, h.budget⟩
theorem insPg_perm (k : Nat) (p : Pg) (l : List (Nat × Pg)) : (insPg k p l).Perm ((k, p) :: l) := by
  induction l with
  | nil => exact List.Perm.refl _
  | cons x l ih =>
    simp only [insPg]
    split
    · exact List.Perm.refl _
    · exact (ih.cons x).trans (List.Perm.swap ..)
theorem Rising.ins {l : List (Nat × Pg)} (h : Rising l) {k : Nat} (p : Pg) (hk : k ∉ l.map (·.1)) : Rising (insPg k p l) := by
  induction l with
  | nil => exact List.pairwise_singleton ..
  | cons x l ih =>
    have hx := List.pairwise_cons.1 h
    simp only [List.map_cons, List.mem_cons, not_or] at hk
    simp only [insPg]
    split
    · rename_i hlt
      refine List.pairwise_cons.2 ⟨fun y hy => ?_, h⟩
      rcases List.mem_cons.1 hy with rfl | hy
      · exact hlt
      · exact Nat.lt_trans hlt (hx.1 y hy)
    · rename_i hge
      refine List.pairwise_cons.2 ⟨fun y hy => ?_, ih hx.2 hk.2⟩
      have hm := (insPg_perm k p l).mem_iff.1 hy
      rcases List.mem_cons.1 hm with rfl | hm
      · show x.1 < k; have := hk.1; omega
      · exact hx.1 y hm
theorem MemOk.ins {M : MemG} (h : MemOk M) {k : Nat} {p : Pg} (hk : k ∉ M.pages.map (·.1)) (h1 : k % 256 = 0) (h2 : k < 4294967296) (h3 : p.b.length = 256) (h4 : p.perm ≤ 7) (hr : M.pages.length < M.budget) : MemOk { M with pages := insPg k p M.pages } := by
  refine ⟨h.rising.ins p hk, fun x hx => ?_, h.gens, ?_, h.budget⟩
  · have hm := (insPg_perm k p M.pages).mem_iff.1 hx
    rcases List.mem_cons.1 hm with rfl | hm
    · exact ⟨h1, h2, h3, h4⟩
    · exact h.page x hm
  · show (insPg k p M.pages).length ≤ M.budget
    rw [(insPg_perm k p M.pages).length_eq, List.length_cons]; omega
theorem addPgs_budget (M : MemG) (a perm i : Nat) : (addPgs M a perm i).budget = M.budget := by
  induction i with
  | zero => rfl
  | succ i ih => exact ih
theorem addPgs_length (M : MemG) (a perm i : Nat) : (addPgs M a perm i).pages.length = M.pages.length + i := by
  induction i with
  | zero => rfl
  | succ i ih =>
    show (insPg _ _ _).length = _
    rw [(insPg_perm _ _ _).length_eq, List.length_cons, ih]; omega
theorem addPgs_mem {M : MemG} {a perm i k : Nat} (h : k ∈ (addPgs M a perm i).pages.map (·.1)) : k ∈ M.pages.map (·.1) ∨ ∃ j, j < i ∧ k = a + 256 * j := by
  induction i with
  | zero => exact .inl h
  | succ i ih =>
    have h2 : k ∈ ((a + 256 * i, (⟨List.replicate 256 0, perm⟩ : Pg)) :: (addPgs M a perm i).pages).map (·.1) := ((insPg_perm _ _ _).map _).mem_iff.1 h
    rw [List.map_cons, List.mem_cons] at h2
    rcases h2 with h2 | h2
    · exact .inr ⟨i, by omega, h2⟩
    · rcases ih h2 with h3 | ⟨j, h3, h4⟩
      · exact .inl h3
      · exact .inr ⟨j, by omega, h4⟩
theorem within_none {M : MemG} {a many : Nat} (h : (withinP M a many).length = 0) {k : Nat} (hk : inS a many k = true) : k ∉ M.pages.map (·.1) := by
  intro hm
  obtain ⟨x, hx, rfl⟩ := List.mem_map.1 hm
  have : x.1 ∈ withinP M a many := List.mem_map.2 ⟨x, List.mem_filter.2 ⟨hx, hk⟩, rfl⟩
  rw [List.length_eq_zero_iff.1 h] at this
  cases this
end Go.Proofs.Ytkjeidoplonkjaa
set_option linter.unusedVariables false
set_option linter.unusedSimpArgs false
set_option maxRecDepth 100000
namespace Go.Proofs.Ytkjeidoplonkjaa
open Go
theorem base_spec (a : Nat) (ha : a < 4294967296) : Spec Try.prog 48 #[.int .u32 a] (fun _ => True) [] (fun ρ ρ' v L => ρ' = ρ ∧ v = .int .u32 (baseN a) ∧ L = []) := by
  refine Spec.of 7 Try.func48 rfl Try.ntmps48 [(0, _)] rfl rfl ?_
  intro cx ρ hr h0
  refine Cd.seq fun K1 hK1 => ?_
  refine Cd.plain [(0, false)] rfl rfl ?_
  refine Jp.y 2 rfl (want_all rfl) rfl rfl Kp.true (Y.assign rfl rfl) ?_
  refine Jp.done hK1 ?_
  refine Cd.seq fun K2 hK2 => ?_
  refine Cd.plain [(0, false), (1, false), (2, false), (3, false), (4, false)] rfl rfl ?_
  refine Jp.y 3 rfl (want_all rfl) rfl rfl Kp.true (Y.move rfl rfl) ?_
  refine Jp.y 4 rfl (want_all rfl) rfl rfl Kp.true (Y.move rfl rfl) ?_
  refine Jp.y 5 rfl (want_all rfl) rfl rfl Kp.true (by first | exact Y.remN rfl rfl rfl (by omega) (by omega) | exact Y.rem rfl rfl rfl (by first | decide | omega)) ?_
  refine Jp.y 6 rfl (want_all rfl) rfl rfl Kp.true (Y.sub_ rfl rfl rfl (wrap_u32 (by omega) (by omega))) ?_
  refine Jp.y 2 rfl (want_all rfl) rfl rfl Kp.true (Y.assign rfl rfl) ?_
  refine Jp.done hK2 ?_
  refine Cd.ret [] rfl (res1 rfl rfl) trivial ⟨rfl, congrArg (Value.int .u32) (by unfold baseN; omega), rfl⟩
theorem stretch_spec (a n : Nat) (ha : a < 4294967296) (hn : n < 4294967296) : Spec Try.prog 52 #[.int .u32 a, .int .u32 n] (fun _ => True) [] (fun ρ ρ' v L => ρ' = ρ ∧ v = .tuple #[.int .u64 (((n + 255) / 256 : Nat) : Int), .bool (stretch a n).isSome] ∧ L = []) := by
  refine Spec.of 28 Try.func52 rfl Try.ntmps52 [(0, _), (1, _)] rfl rfl ?_
  intro cx ρ hr h0
  refine Cd.seq fun K3 hK3 => ?_
  refine Cd.plain [(0, false), (1, false)] rfl rfl ?_
  refine Jp.y 4 rfl (want_all rfl) rfl rfl Kp.true (Y.assign rfl rfl) ?_
  refine Jp.y 5 rfl (want_all rfl) rfl rfl Kp.true (Y.assign rfl rfl) ?_
  refine Jp.done hK3 ?_
  refine Cd.seq fun K4 hK4 => ?_
  refine Cd.plain [(0, false), (1, false), (2, false), (3, false), (4, false), (5, false)] rfl rfl ?_
  refine Jp.y 7 rfl (want_all rfl) rfl rfl Kp.true (Y.move rfl rfl) ?_
  refine Jp.y 8 rfl (want_all rfl) rfl rfl Kp.true (Y.conv_ rfl rfl Try.underlying25 Try.underlying105 (by first | exact wrap_u64 (by omega) (by omega) | rfl)) ?_
  refine Jp.y 9 rfl (want_all rfl) rfl rfl Kp.true (Y.add_ rfl rfl rfl (by first | exact wrap_u64 (by omega) (by omega) | rfl)) ?_
  refine Jp.y 10 rfl (want_all rfl) rfl rfl Kp.true (Y.sub_ rfl rfl rfl (by first | exact wrap_u64 (by omega) (by omega) | rfl)) ?_
  refine Jp.y 11 rfl (want_all rfl) rfl rfl Kp.true (by first | exact Y.quoN rfl rfl rfl (by omega) (by omega) (wrap_u64 (by omega) (by omega)) | exact Y.quo rfl rfl rfl (by first | decide | omega)) ?_
  refine Jp.y 6 rfl (want_all rfl) rfl rfl Kp.true (Y.assign rfl rfl) ?_
  refine Jp.done hK4 ?_
  refine Cd.seq fun K5 hK5 => ?_
  refine Cd.plain [(0, false), (1, false), (2, false), (3, false), (4, false), (5, false), (6, false), (7, false), (8, false), (9, false), (10, false), (11, false), (12, false), (13, false), (14, false), (15, false), (16, false), (17, false)] rfl rfl ?_
  refine Jp.y 12 rfl (want_all rfl) rfl rfl Kp.true (Y.move rfl rfl) ?_
  refine Jp.y 13 rfl (want_all rfl) rfl rfl Kp.true (Y.move rfl rfl) ?_
  refine Jp.y 14 rfl (want_all rfl) rfl rfl Kp.true (Y.gtr rfl rfl rfl) ?_
  refine Jp.y 15 rfl (want_all rfl) rfl rfl Kp.true (Y.move rfl rfl) ?_
  refine Jp.split 15 rfl (fun g15 => ?_) (fun g15 => ?_)
  · skip
    try simp only [decide_eq_false_iff_not, decide_eq_true_eq, Int.not_lt, Int.not_le, Bool.not_eq_false, Bool.not_eq_true, Bool.not_true, Bool.not_false, Bool.not_eq_true', Bool.not_eq_false', beq_eq_false_iff_ne, ne_eq, beq_iff_eq, bne_iff_ne, bne_eq_false_iff_eq, Classical.not_not] at g15
    refine Jp.y 16 rfl (want_as rfl rfl rfl rfl) rfl rfl Kp.true (Y.move rfl rfl) ?_
    refine Jp.y 17 rfl (want_as rfl rfl rfl rfl) rfl rfl Kp.true (by first | exact Y.remN rfl rfl rfl (by omega) (by omega) | exact Y.rem rfl rfl rfl (by first | decide | omega)) ?_
    refine Jp.y 18 rfl (want_as rfl rfl rfl rfl) rfl rfl Kp.true (Y.eql rfl rfl rfl) ?_
    refine Jp.y 19 rfl (want_all rfl) rfl rfl Kp.true (Y.pickT rfl rfl rfl) ?_
    refine Jp.y 20 rfl (want_all rfl) rfl rfl Kp.true (Y.move rfl rfl) ?_
    refine Jp.split 20 rfl (fun g20 => ?_) (fun g20 => ?_)
    · skip
      try simp only [decide_eq_false_iff_not, decide_eq_true_eq, Int.not_lt, Int.not_le, Bool.not_eq_false, Bool.not_eq_true, Bool.not_true, Bool.not_false, Bool.not_eq_true', Bool.not_eq_false', beq_eq_false_iff_ne, ne_eq, beq_iff_eq, bne_iff_ne, bne_eq_false_iff_eq, Classical.not_not] at g20
      refine Jp.y 21 rfl (want_as rfl rfl rfl rfl) rfl rfl Kp.true (Y.move rfl rfl) ?_
      refine Jp.y 22 rfl (want_as rfl rfl rfl rfl) rfl rfl Kp.true (Y.conv_ rfl rfl Try.underlying25 Try.underlying105 (by first | exact wrap_u64 (by omega) (by omega) | rfl)) ?_
      refine Jp.y 23 rfl (want_as rfl rfl rfl rfl) rfl rfl Kp.true (Y.move rfl rfl) ?_
      refine Jp.y 24 rfl (want_as rfl rfl rfl rfl) rfl rfl Kp.true (Y.mul_ rfl rfl rfl (by first | exact wrap_u64 (by omega) (by omega) | rfl)) ?_
      refine Jp.y 25 rfl (want_as rfl rfl rfl rfl) rfl rfl Kp.true (Y.add_ rfl rfl rfl (by first | exact wrap_u64 (by omega) (by omega) | rfl)) ?_
      refine Jp.y 26 rfl (want_as rfl rfl rfl rfl) rfl rfl Kp.true (Y.leq rfl rfl rfl) ?_
      refine Jp.y 27 rfl (want_all rfl) rfl rfl Kp.true (Y.pickT rfl rfl rfl) ?_
      refine Jp.y 4 rfl (want_all rfl) rfl rfl Kp.true (Y.assign rfl rfl) ?_
      refine Jp.y 5 rfl (want_all rfl) rfl rfl Kp.true (Y.assign rfl rfl) ?_
      refine Jp.done hK5 ?_
      refine Cd.ret [] rfl (res2 rfl rfl rfl) trivial ⟨rfl, ?_, rfl⟩
      rw [stretch]; split <;> simp <;> omega
    · skip
      try simp only [decide_eq_false_iff_not, decide_eq_true_eq, Int.not_lt, Int.not_le, Bool.not_eq_false, Bool.not_eq_true, Bool.not_true, Bool.not_false, Bool.not_eq_true', Bool.not_eq_false', beq_eq_false_iff_ne, ne_eq, beq_iff_eq, bne_iff_ne, bne_eq_false_iff_eq, Classical.not_not] at g20
      refine Jp.skip 21 rfl (want_as rfl rfl rfl rfl) rfl rfl Kp.true ?_
      refine Jp.skip 22 rfl (want_as rfl rfl rfl rfl) rfl rfl Kp.true ?_
      refine Jp.skip 23 rfl (want_as rfl rfl rfl rfl) rfl rfl Kp.true ?_
      refine Jp.skip 24 rfl (want_as rfl rfl rfl rfl) rfl rfl Kp.true ?_
      refine Jp.skip 25 rfl (want_as rfl rfl rfl rfl) rfl rfl Kp.true ?_
      refine Jp.skip 26 rfl (want_as rfl rfl rfl rfl) rfl rfl Kp.true ?_
      refine Jp.y 27 rfl (want_all rfl) rfl rfl Kp.true (Y.pickF rfl rfl rfl) ?_
      refine Jp.y 4 rfl (want_all rfl) rfl rfl Kp.true (Y.assign rfl rfl) ?_
      refine Jp.y 5 rfl (want_all rfl) rfl rfl Kp.true (Y.assign rfl rfl) ?_
      refine Jp.done hK5 ?_
      refine Cd.ret [] rfl (res2 rfl rfl rfl) trivial ⟨rfl, ?_, rfl⟩
      rw [stretch]; split <;> simp <;> omega
  · skip
    try simp only [decide_eq_false_iff_not, decide_eq_true_eq, Int.not_lt, Int.not_le, Bool.not_eq_false, Bool.not_eq_true, Bool.not_true, Bool.not_false, Bool.not_eq_true', Bool.not_eq_false', beq_eq_false_iff_ne, ne_eq, beq_iff_eq, bne_iff_ne, bne_eq_false_iff_eq, Classical.not_not] at g15
    refine Jp.skip 16 rfl (want_as rfl rfl rfl rfl) rfl rfl Kp.true ?_
    refine Jp.skip 17 rfl (want_as rfl rfl rfl rfl) rfl rfl Kp.true ?_
    refine Jp.skip 18 rfl (want_as rfl rfl rfl rfl) rfl rfl Kp.true ?_
    refine Jp.y 19 rfl (want_all rfl) rfl rfl Kp.true (Y.pickF rfl rfl rfl) ?_
    refine Jp.y 20 rfl (want_all rfl) rfl rfl Kp.true (Y.move rfl rfl) ?_
    refine Jp.skip 21 rfl (want_as rfl rfl rfl rfl) rfl rfl Kp.true ?_
    refine Jp.skip 22 rfl (want_as rfl rfl rfl rfl) rfl rfl Kp.true ?_
    refine Jp.skip 23 rfl (want_as rfl rfl rfl rfl) rfl rfl Kp.true ?_
    refine Jp.skip 24 rfl (want_as rfl rfl rfl rfl) rfl rfl Kp.true ?_
    refine Jp.skip 25 rfl (want_as rfl rfl rfl rfl) rfl rfl Kp.true ?_
    refine Jp.skip 26 rfl (want_as rfl rfl rfl rfl) rfl rfl Kp.true ?_
    refine Jp.y 27 rfl (want_all rfl) rfl rfl Kp.true (Y.pickF rfl rfl rfl) ?_
    refine Jp.y 4 rfl (want_all rfl) rfl rfl Kp.true (Y.assign rfl rfl) ?_
    refine Jp.y 5 rfl (want_all rfl) rfl rfl Kp.true (Y.assign rfl rfl) ?_
    refine Jp.done hK5 ?_
    refine Cd.ret [] rfl (res2 rfl rfl rfl) trivial ⟨rfl, ?_, rfl⟩
    rw [stretch]; split <;> simp <;> omega
end Go.Proofs.Ytkjeidoplonkjaa
set_option linter.unusedVariables false
set_option linter.unusedSimpArgs false
set_option maxRecDepth 100000
namespace Go.Proofs.Ytkjeidoplonkjaa
open Go
structure MemX where
  pb : Nat
  gb : Nat
  pm : MapL
  gm : MapL
  blk : Nat → Nat
def pgPtr (x : MemX) (k : Nat) : Value := .pointer (some ⟨x.blk k, 0, none⟩)
structure MemF (M : MemG) (x : MemX) : Prop where
  ok : MemOk M
  pages : x.pm.Perm (M.pages.map fun p => ((p.1 : Int), pgPtr x p.1))
  gens : ∀ k : Nat, (mget x.gm k).getD (.int .u32 0) = .int .u32 (M.gens k)
def pageCells (p : Pg) : List Value := bytesV p.b ++ [.int .i64 p.perm]
def pageO (p : Pg) : Obj := .cells (pageCells p).toArray 144
def memObj (M : MemG) (x : MemX) : Obj := .cells #[.int .i64 M.budget, .map (some x.pb), .map (some x.gb)] 142
def blksOf (M : MemG) (x : MemX) : List (Nat × Obj) := M.pages.map fun p => (x.blk p.1, pageO p.2)
def MemO (b : Nat) (M : MemG) : HProp := Ex fun x : MemX => Fact (MemF M x) (Sep (Pt b (memObj M x)) (Sep (MapO .u32 x.pb x.pm) (Sep (MapO .u32 x.gb x.gm) (Blks (blksOf M x)))))
theorem MemF.get {M : MemG} {x : MemX} (f : MemF M x) (k : Nat) : mget x.pm (k : Int) = (getPg M.pages k).map fun _ => pgPtr x k := by
  rw [mget_perm f.pages, mget_pages (pgPtr x)]
  have h := f.ok.rising.nodup
  rw [List.map_map]
  have e : ((fun x => x.1) ∘ fun p : Nat × Pg => ((p.1 : Int), pgPtr x p.1)) = (fun k : Nat => (k : Int)) ∘ fun p => p.1 := rfl
  rw [e, ← List.map_map]
  rw [List.Nodup, List.pairwise_map]
  exact h.imp fun h => by omega
section
variable {P : Program} {n : Nat} {cx : Cx} {ρ : Hp} {E : Env} {L : Own} {ops : Array Oper} {Q : Exit → Act → World → Prop} {S' : World → Prop} {π : List (Nat × Bool)}
theorem St.memOpen {w : World} (hs : St cx ρ L w) {b : Nat} {M : MemG} (j j1 j2 j3 : Nat) (hd : [j, j1, j2, j3].Nodup) (e : look L j = some (MemO b M)) :
    ∃ x, MemF M x ∧ St cx ρ ((j, Pt b (memObj M x)) :: (j1, MapO .u32 x.pb x.pm) :: (j2, MapO .u32 x.gb x.gm) :: (j3, Blks (blksOf M x)) :: L) w := by
  obtain ⟨x, h1⟩ := hs.ex' e
  obtain ⟨hf, h2⟩ := h1.fact (j := j) (by rw [look_cons, if_pos rfl])
  simp only [List.nodup_cons, List.mem_cons, not_or, List.not_mem_nil, not_false_eq_true, List.nodup_nil, and_true] at hd
  obtain ⟨⟨d1, d2, d3⟩, ⟨d4, d5⟩, d6⟩ := hd
  have h3 := h2.part (j := j) (k := j1) d1 (by rw [look_cons, if_pos rfl])
  have h4 := h3.part (j := j1) (k := j2) d4 (by rw [look_cons, if_neg d1, look_cons, if_pos rfl])
  have h5 := h4.part (j := j2) (k := j3) d6 (by rw [look_cons, if_neg d4, look_cons, if_pos rfl])
  refine ⟨x, hf, h5.subF fun q C hq => ?_⟩
  simp only [look_cons] at hq ⊢
  by_cases q0 : j = q <;> by_cases q1 : j1 = q <;> by_cases q2 : j2 = q <;> by_cases q3 : j3 = q <;> simp only [q0, q1, q2, q3, if_true, if_false] at hq ⊢ <;> first | exact hq | (exfalso; omega)
theorem St.memClose {w : World} (hs : St cx ρ L w) {b : Nat} {M : MemG} {x : MemX} (j j1 j2 j3 : Nat) (hd : [j, j1, j2, j3].Nodup) (hf : MemF M x) (e : look L j = some (Pt b (memObj M x))) (e1 : look L j1 = some (MapO .u32 x.pb x.pm)) (e2 : look L j2 = some (MapO .u32 x.gb x.gm)) (e3 : look L j3 = some (Blks (blksOf M x))) :
    St cx ρ ((j, MemO b M) :: (j1, Emp) :: (j2, Emp) :: (j3, Emp) :: L) w := by
  simp only [List.nodup_cons, List.mem_cons, not_or, List.not_mem_nil, not_false_eq_true, List.nodup_nil, and_true] at hd
  obtain ⟨⟨d1, d2, d3⟩, ⟨d4, d5⟩, d6⟩ := hd
  have h3 := hs.glue (j := j2) (k := j3) d6 e2 e3
  have h4 := h3.glue (j := j1) (k := j2) d4 (by rw [look_cons, if_neg (Ne.symm d4), look_cons, if_neg (Ne.symm d5)]; exact e1) (by rw [look_cons, if_pos rfl])
  have h5 := h4.glue (j := j) (k := j1) d1 (by rw [look_cons, if_neg (Ne.symm d1), look_cons, if_neg (Ne.symm d2), look_cons, if_neg (Ne.symm d2), look_cons, if_neg (Ne.symm d3)]; exact e) (by rw [look_cons, if_pos rfl])
  have h6 := h5.imp (i := j) (A' := MemO b M) (by rw [look_cons, if_pos rfl]) fun k hk => ⟨x, hf, hk⟩
  refine h6.subF fun q C hq => ?_
  simp only [look_cons] at hq ⊢
  by_cases q0 : j = q <;> by_cases q1 : j1 = q <;> by_cases q2 : j2 = q <;> by_cases q3 : j3 = q <;> simp only [q0, q1, q2, q3, if_true, if_false] at hq ⊢ <;> first | exact hq | (exfalso; omega)
theorem Cd.memOpen {d : Code} {b : Nat} {M : MemG} (j j1 j2 j3 : Nat) (hd : [j, j1, j2, j3].Nodup) (e : look L j = some (MemO b M))
    (h : ∀ x, MemF M x → Cd P Q n cx ρ E ((j, Pt b (memObj M x)) :: (j1, MapO .u32 x.pb x.pm) :: (j2, MapO .u32 x.gb x.gm) :: (j3, Blks (blksOf M x)) :: L) d) : Cd P Q n cx ρ E L d := fun a w ha hs =>
  let ⟨x, hf, h2⟩ := hs.memOpen j j1 j2 j3 hd e; h x hf a w ha h2
theorem Cd.memClose {d : Code} {b : Nat} {M : MemG} {x : MemX} (j j1 j2 j3 : Nat) (hd : [j, j1, j2, j3].Nodup) (hf : MemF M x) (e : look L j = some (Pt b (memObj M x))) (e1 : look L j1 = some (MapO .u32 x.pb x.pm)) (e2 : look L j2 = some (MapO .u32 x.gb x.gm)) (e3 : look L j3 = some (Blks (blksOf M x)))
    (h : Cd P Q n cx ρ E ((j, MemO b M) :: (j1, Emp) :: (j2, Emp) :: (j3, Emp) :: L) d) : Cd P Q n cx ρ E L d := fun a w ha hs => h a w ha (hs.memClose j j1 j2 j3 hd hf e e1 e2 e3)
end
end Go.Proofs.Ytkjeidoplonkjaa
set_option linter.unusedVariables false
set_option linter.unusedSimpArgs false
set_option maxRecDepth 100000
namespace Go.Proofs.Ytkjeidoplonkjaa
open Go
theorem within_spec (b : Nat) (M : MemG) (x : MemX) (hf : MemF M x) (a many : Nat) (ha : a < 4294967296) (hm : many ≤ 16777216) : Spec Try.prog 53 #[.pointer (some ⟨b, 0, none⟩), .int .u32 a, .int .u64 many] (fun _ => True) [(0, Pt b (memObj M x)), (1, MapO .u32 x.pb x.pm)]
    (fun ρ ρ' v L => ρ' = ρ ∧ ∃ l A c, l.Perm (withinP M a many) ∧ v = .slice A l.length c ∧ L = [(0, Pt b (memObj M x)), (1, MapO .u32 x.pb x.pm), (2, OwnS 25 1 A l.length c (natsV .u32 l))]) := by
  refine Spec.of 36 Try.func53 rfl Try.ntmps53 [(0, _), (1, _), (2, _)] rfl rfl ?_
  intro cx ρ hr h0
  have hlen := hf.pages.length_eq
  have hroom := hf.ok.room
  have hbud := hf.ok.budget.2
  refine Cd.make 2 (A := OwnS 25 1 none 0 0 []) (OwnS.nil _ _ _) ?_
  refine Cd.seq fun K1 hK1 => ?_
  refine Cd.plain [(0, false)] rfl rfl ?_
  refine Jp.y 6 rfl (want_all rfl) rfl rfl Kp.true (Y.assign rfl rfl) ?_
  refine Jp.done hK1 ?_
  refine Cd.seq fun K2 hK2 => ?_
  refine Cd.plain [(0, false)] rfl rfl ?_
  refine Jp.y 7 rfl (want_all rfl) rfl rfl Kp.true (Y.assign rfl rfl) ?_
  refine Jp.done hK2 ?_
  refine Cd.seq fun K3 hK3 => ?_
  refine Cd.seq fun K4 hK4 => ?_
  refine Cd.plain [(0, false), (1, false), (2, false), (3, false), (4, false)] rfl rfl ?_
  refine Jp.y 9 rfl (want_all rfl) rfl rfl Kp.true (Y.move rfl rfl) ?_
  refine Jp.y 10 rfl (want_all rfl) rfl rfl Kp.true (Y.nilCheck rfl rfl) ?_
  refine Jp.y 11 rfl (want_all rfl) rfl rfl Kp.true (by first | exact Y.fieldAddrP rfl rfl Try.underlying142 rfl Try.sizeOf139 (by decide) (show _ + 1 = _ from rfl) | exact Y.fieldAddr rfl rfl Try.underlying142 rfl Try.sizeOf139 (by decide)) ?_
  refine Jp.y 12 rfl (want_all rfl) rfl rfl Kp.true (Y.loadO 0 rfl Try.isAgg139 rfl rfl rfl) ?_
  first | refine Jp.range 13 1 50 (by decide) rfl (want_all rfl) rfl rfl rfl rfl Try.underlying139 rfl fun r1 => ⟨Kp.true, ?_⟩
  refine Jp.done hK4 ?_
  refine Cd.block ?_
  obtain ⟨K, hK⟩ : ∃ K : MapL → List Nat, K = fun l => (l.filter fun y => inS a many y.1.toNat).map fun y => y.1.toNat := ⟨_, rfl⟩
  have hstart : (K x.pm).Perm (withinP M a many) := by
    rw [hK, withinP]
    refine ((hf.pages.filter _).map _).trans ?_
    rw [List.filter_map, List.map_map]
    exact List.Perm.of_eq rfl
  have hwl : (withinP M a many).length ≤ 4096 := by
    rw [withinP, List.length_map]
    exact Nat.le_trans (List.length_filter_le _ _) (Nat.le_trans hroom hbud)
  refine Cd.loopK (G := MapL × List Nat × Option Addr × Nat × Option (Int × Value)) (fun g => (g.2.1 ++ K g.1).Perm (withinP M a many) ∧ ∀ y ∈ g.1, y ∈ x.pm) (fun g => g.1.length) (fun _ => _) (fun g => [(7, .slice g.2.2.1 g.2.1.length g.2.2.2.1)]) [(1, _), (2, _), (13, _)] (fun g => [(1, RangeO .u32 x.pb r1 x.pm g.1 g.2.2.2.2), (2, OwnS 25 1 g.2.2.1 g.2.1.length g.2.2.2.1 (natsV .u32 g.2.1))]) [(0, _)] ⟨x.pm, [], none, 0, none⟩ ⟨hstart, fun y h => h⟩ rfl ⟨rfl, trivial⟩ ⟨rfl, rfl, rfl, trivial⟩ ⟨rfl, rfl, trivial⟩ ⟨rfl, trivial⟩ (fun g KLa hok hLa => ?_)
  obtain ⟨left, l, A, c, cur⟩ := g
  obtain ⟨ok1, ok2⟩ := hok
  dsimp only at ok1 ok2 ⊢
  refine Cd.seq fun K5 hK5 => ?_
  refine Cd.plain [(0, false), (1, false)] rfl rfl ?_
  refine Jp.next 14 1 rfl (want_all rfl) rfl rfl (fun _ => rfl) rfl rfl (fun hn => ⟨Kp.true, ?_⟩) (fun q y hq => ⟨Kp.true, ?_⟩)
  · skip
    refine Jp.y 15 rfl (want_all rfl) rfl rfl Kp.true (Y.extract rfl rfl rfl) ?_
    refine Jp.done hK5 ?_
    refine Cd.seq fun K6 hK6 => ?_
    refine Cd.condF rfl ?_
    refine Cd.exit rfl hK3 ?_
    refine Cd.seq fun K7 hK7 => ?_
    refine Cd.plain [(0, false), (1, false)] rfl rfl ?_
    refine Jp.y 35 rfl (want_all rfl) rfl rfl Kp.true (Y.move rfl rfl) ?_
    refine Jp.y 6 rfl (want_all rfl) rfl rfl Kp.true (Y.assign rfl rfl) ?_
    refine Jp.done hK7 ?_
    refine Cd.imp (i := 1) rfl RangeO.map ?_
    subst hn
    refine Cd.ret [(0, _), (1, _), (2, _)] rfl (res1 rfl rfl) ⟨rfl, rfl, rfl, trivial⟩ ⟨rfl, l, A, c, ?_, rfl, rfl⟩
    simpa [hK] using ok1
  · have hy := ok2 y (List.mem_of_getElem? hq)
    obtain ⟨p, hp, hpy⟩ := List.mem_map.1 (hf.pages.mem_iff.1 hy)
    have hpo := hf.ok.page p hp
    have hplt := hpo.lt
    have hpe := perm_erase hq
    have hql := (List.getElem?_eq_some_iff.1 hq).1
    have hel : (left.eraseIdx q).length < left.length := by rw [List.length_eraseIdx]; split <;> omega
    have hsub : ∀ z ∈ left.eraseIdx q, z ∈ x.pm := fun z hz => ok2 z (List.mem_of_mem_eraseIdx hz)
    have hKl : (l ++ K left).length ≤ 4096 := by rw [ok1.length_eq]; exact hwl
    rw [List.length_append] at hKl
    subst hpy
    refine Jp.y 15 rfl (want_all rfl) rfl rfl Kp.true (Y.extract rfl rfl rfl) ?_
    refine Jp.done hK5 ?_
    refine Cd.seq fun K8 hK8 => ?_
    refine Cd.condT rfl ?_
    refine Cd.skip hK8 ?_
    refine Cd.block ?_
    refine Cd.seq fun K9 hK9 => ?_
    refine Cd.plain [(0, false), (1, false), (2, false)] rfl rfl ?_
    refine Jp.y 16 rfl (want_all rfl) rfl rfl Kp.true (by first | exact Y.entry 1 rfl rfl rfl) ?_
    refine Jp.y 17 rfl (want_all rfl) rfl rfl Kp.true (Y.extract rfl rfl rfl) ?_
    refine Jp.y 8 rfl (want_all rfl) rfl rfl Kp.true (Y.assign rfl rfl) ?_
    refine Jp.done hK9 ?_
    refine Cd.seq fun K10 hK10 => ?_
    refine Cd.plain [(0, false), (1, false), (2, false), (3, false), (4, false), (5, false), (6, false), (7, false), (8, false), (9, false), (10, false), (11, false), (12, false)] rfl rfl ?_
    refine Jp.y 18 rfl (want_all rfl) rfl rfl Kp.true (Y.move rfl rfl) ?_
    refine Jp.y 19 rfl (want_all rfl) rfl rfl Kp.true (Y.move rfl rfl) ?_
    refine Jp.y 20 rfl (want_all rfl) rfl rfl Kp.true (Y.geq rfl rfl rfl) ?_
    refine Jp.y 21 rfl (want_all rfl) rfl rfl Kp.true (Y.move rfl rfl) ?_
    refine Jp.splitF 21 rfl (fun g21 => ?_) (fun g21 => ?_)
    · skip
      refine Jp.skip 22 rfl (want_as rfl rfl rfl rfl) rfl rfl Kp.true ?_
      refine Jp.skip 23 rfl (want_as rfl rfl rfl rfl) rfl rfl Kp.true ?_
      refine Jp.skip 24 rfl (want_as rfl rfl rfl rfl) rfl rfl Kp.true ?_
      refine Jp.skip 25 rfl (want_as rfl rfl rfl rfl) rfl rfl Kp.true ?_
      refine Jp.skip 26 rfl (want_as rfl rfl rfl rfl) rfl rfl Kp.true ?_
      refine Jp.skip 27 rfl (want_as rfl rfl rfl rfl) rfl rfl Kp.true ?_
      refine Jp.skip 28 rfl (want_as rfl rfl rfl rfl) rfl rfl Kp.true ?_
      refine Jp.skip 29 rfl (want_as rfl rfl rfl rfl) rfl rfl Kp.true ?_
      refine Jp.y 30 rfl (want_all rfl) rfl rfl Kp.true (Y.pickF rfl rfl rfl) ?_
      refine Jp.done hK10 ?_
      refine Cd.condF rfl ?_
      refine CdQ.again rfl hLa ⟨left.eraseIdx q, l, A, c, _⟩ ⟨(List.Perm.append_left l ?_).trans ok1, hsub⟩ hel rfl ⟨rfl, rfl, rfl, rfl, trivial⟩ ⟨rfl, rfl, rfl, trivial⟩
      have hin : inS a many p.1 = false := by simp only [decide_eq_false_iff_not] at g21; simp only [inS, Bool.and_eq_false_iff, decide_eq_false_iff_not]; omega
      rw [hK]
      refine (((hpe.filter _).map _).trans ?_).symm
      rw [List.filter_cons_of_neg (by simp [hin])]
    try simp only [decide_eq_false_iff_not, decide_eq_true_eq, Int.not_lt, Int.not_le, Bool.not_eq_false, Bool.not_eq_true, Bool.not_true, Bool.not_false, Bool.not_eq_true', Bool.not_eq_false', beq_eq_false_iff_ne, ne_eq, beq_iff_eq, bne_iff_ne, bne_eq_false_iff_eq, Classical.not_not] at g21
    refine Jp.y 22 rfl (want_as rfl rfl rfl rfl) rfl rfl Kp.true (Y.move rfl rfl) ?_
    refine Jp.y 23 rfl (want_as rfl rfl rfl rfl) rfl rfl Kp.true (Y.conv_ rfl rfl Try.underlying25 Try.underlying105 (by first | exact wrap_u64 (by omega) (by omega) | rfl)) ?_
    refine Jp.y 24 rfl (want_as rfl rfl rfl rfl) rfl rfl Kp.true (Y.move rfl rfl) ?_
    refine Jp.y 25 rfl (want_as rfl rfl rfl rfl) rfl rfl Kp.true (Y.conv_ rfl rfl Try.underlying25 Try.underlying105 (by first | exact wrap_u64 (by omega) (by omega) | rfl)) ?_
    refine Jp.y 26 rfl (want_as rfl rfl rfl rfl) rfl rfl Kp.true (Y.move rfl rfl) ?_
    refine Jp.y 27 rfl (want_as rfl rfl rfl rfl) rfl rfl Kp.true (Y.mul_ rfl rfl rfl (by first | exact wrap_u64 (by omega) (by omega) | rfl)) ?_
    refine Jp.y 28 rfl (want_as rfl rfl rfl rfl) rfl rfl Kp.true (Y.add_ rfl rfl rfl (by first | exact wrap_u64 (by omega) (by omega) | rfl)) ?_
    refine Jp.y 29 rfl (want_as rfl rfl rfl rfl) rfl rfl Kp.true (Y.lss rfl rfl rfl) ?_
    refine Jp.y 30 rfl (want_all rfl) rfl rfl Kp.true (Y.pickT rfl rfl rfl) ?_
    refine Jp.done hK10 ?_
    refine Cd.condF' rfl (fun g30 => ?_) (fun g30 => ?_)
    · skip
      refine CdQ.again rfl hLa ⟨left.eraseIdx q, l, A, c, _⟩ ⟨(List.Perm.append_left l ?_).trans ok1, hsub⟩ hel rfl ⟨rfl, rfl, rfl, rfl, trivial⟩ ⟨rfl, rfl, rfl, trivial⟩
      have hin : inS a many p.1 = false := by simp only [decide_eq_false_iff_not] at g30; simp only [inS, Bool.and_eq_false_iff, decide_eq_false_iff_not]; omega
      rw [hK]
      refine (((hpe.filter _).map _).trans ?_).symm
      rw [List.filter_cons_of_neg (by simp [hin])]
    try simp only [decide_eq_false_iff_not, decide_eq_true_eq, Int.not_lt, Int.not_le, Bool.not_eq_false, Bool.not_eq_true, Bool.not_true, Bool.not_false, Bool.not_eq_true', Bool.not_eq_false', beq_eq_false_iff_ne, ne_eq, beq_iff_eq, bne_iff_ne, bne_eq_false_iff_eq, Classical.not_not] at g30
    refine Cd.plain [(0, false), (1, false), (2, false), (3, false), (4, false)] rfl rfl ?_
    refine Jp.y 31 rfl (want_all rfl) rfl rfl Kp.true (Y.move rfl rfl) ?_
    refine Jp.y 32 rfl (want_all rfl) rfl rfl Kp.true (Y.move rfl rfl) ?_
    refine Jp.lit 33 51 [(0, _)] [_] rfl (want_all rfl) rfl rfl rfl rfl Try.underlying29 Try.sizeOf25 Try.zeroValue25 rfl rfl rfl rfl rfl fun b51 => ⟨Kp.true, ?_⟩
    have hin : inS a many p.1 = true := by simp only [inS, Bool.and_eq_true, decide_eq_true_eq]; omega
    have hKp : (K left).Perm (p.1 :: K (left.eraseIdx q)) := by
      rw [hK]
      refine ((hpe.filter _).map _).trans ?_
      rw [List.filter_cons_of_pos (by simp [hin])]
      exact List.Perm.of_eq rfl
    have hKpl := hKp.length_eq
    rw [List.length_cons] at hKpl
    refine Jp.append 34 2 rfl (want_all rfl) rfl rfl rfl Try.underlying29 Try.underlying29 (.inl ⟨_, rfl⟩) Try.sizeOf25 Try.typeInfo25 Try.zeroValue25 rfl (by decide) rfl rfl rfl (Src.own 51 rfl) rfl ((l.length + 1)) ((natsV .u32 (l ++ [p.1]))) (by first | omega | simp) (by simp [natsV]) (by simp only [Try.t25]; omega) fun AN cN => ⟨Kp.true, ?_⟩
    refine Jp.y 7 rfl (want_all rfl) rfl rfl Kp.true (Y.assign rfl rfl) ?_
    rw [show l.length + 1 = (l ++ [p.1]).length by simp]
    refine JpQ.again rfl hLa ⟨left.eraseIdx q, l ++ [p.1], AN, cN, _⟩ ⟨?_, hsub⟩ hel rfl ⟨rfl, rfl, rfl, rfl, trivial⟩ ⟨rfl, rfl, rfl, trivial⟩
    rw [List.append_assoc]
    exact (List.Perm.append_left l (hKp.symm)).trans ok1
theorem pageCells_perm (p : Pg) (h : p.b.length = 256) : (pageCells p).toArray[256]? = some (.int .i64 p.perm) := by
  simp [pageCells, bytesV, h]
theorem MemF.blk {M : MemG} {x : MemX} {k : Nat} {p : Pg} (h : getPg M.pages k = some p) : (x.blk k, pageO p) ∈ blksOf M x := List.mem_map.2 ⟨(k, p), getPg_mem h, rfl⟩
theorem look_spec (b : Nat) (M : MemG) (x : MemX) (hf : MemF M x) (a : Nat) (size need : Int) (ha : a < 4294967296) : Spec Try.prog 49 #[.pointer (some ⟨b, 0, none⟩), .int .u32 a, .int .i64 size, .int .i64 need] (fun _ => True) [(0, Pt b (memObj M x)), (1, MapO .u32 x.pb x.pm), (2, Blks (blksOf M x))]
    (fun ρ ρ' v L => ρ' = ρ ∧ v = .tuple #[.pointer (if lookM M a size need = 0 then some ⟨x.blk (baseN a), 0, none⟩ else none), .int .i64 (lookM M a size need)] ∧ L = [(0, Pt b (memObj M x)), (1, MapO .u32 x.pb x.pm), (2, Blks (blksOf M x))]) := by
  refine Spec.of 48 Try.func49 rfl Try.ntmps49 [(0, _), (1, _), (2, _), (3, _)] rfl rfl ?_
  intro cx ρ hr h0
  refine Cd.seq fun K11 hK11 => ?_
  refine Cd.plain [(0, false), (1, false)] rfl rfl ?_
  refine Jp.y 8 rfl (want_all rfl) rfl rfl Kp.true (Y.assign rfl rfl) ?_
  refine Jp.y 9 rfl (want_all rfl) rfl rfl Kp.true (Y.assign rfl rfl) ?_
  refine Jp.done hK11 ?_
  refine Cd.seq fun K12 hK12 => ?_
  refine Cd.seq fun K13 hK13 => ?_
  refine Cd.plain [(0, false), (1, false), (2, false), (3, false), (4, false), (5, false), (6, false), (7, false), (8, false), (9, false), (10, false), (11, false), (12, false), (13, false), (14, false), (15, false), (16, false)] rfl rfl ?_
  refine Jp.y 11 rfl (want_all rfl) rfl rfl Kp.true (Y.move rfl rfl) ?_
  refine Jp.y 12 rfl (want_all rfl) rfl rfl Kp.true (Y.neq rfl rfl rfl) ?_
  refine Jp.y 13 rfl (want_all rfl) rfl rfl Kp.true (Y.move rfl rfl) ?_
  refine Jp.split 13 rfl (fun g13 => ?_) (fun g13 => ?_)
  · skip
    try simp only [decide_eq_false_iff_not, decide_eq_true_eq, Int.not_lt, Int.not_le, Bool.not_eq_false, Bool.not_eq_true, Bool.not_true, Bool.not_false, Bool.not_eq_true', Bool.not_eq_false', beq_eq_false_iff_ne, ne_eq, beq_iff_eq, bne_iff_ne, bne_eq_false_iff_eq, Classical.not_not] at g13
    refine Jp.y 14 rfl (want_as rfl rfl rfl rfl) rfl rfl Kp.true (Y.move rfl rfl) ?_
    refine Jp.y 15 rfl (want_as rfl rfl rfl rfl) rfl rfl Kp.true (Y.neq rfl rfl rfl) ?_
    refine Jp.y 16 rfl (want_all rfl) rfl rfl Kp.true (Y.pickT rfl rfl rfl) ?_
    refine Jp.y 17 rfl (want_all rfl) rfl rfl Kp.true (Y.move rfl rfl) ?_
    refine Jp.split 17 rfl (fun g17 => ?_) (fun g17 => ?_)
    · skip
      try simp only [decide_eq_false_iff_not, decide_eq_true_eq, Int.not_lt, Int.not_le, Bool.not_eq_false, Bool.not_eq_true, Bool.not_true, Bool.not_false, Bool.not_eq_true', Bool.not_eq_false', beq_eq_false_iff_ne, ne_eq, beq_iff_eq, bne_iff_ne, bne_eq_false_iff_eq, Classical.not_not] at g17
      refine Jp.y 18 rfl (want_as rfl rfl rfl rfl) rfl rfl Kp.true (Y.move rfl rfl) ?_
      refine Jp.y 19 rfl (want_as rfl rfl rfl rfl) rfl rfl Kp.true (Y.neq rfl rfl rfl) ?_
      refine Jp.y 20 rfl (want_all rfl) rfl rfl Kp.true (Y.pickT rfl rfl rfl) ?_
      refine Jp.y 21 rfl (want_all rfl) rfl rfl Kp.true (Y.move rfl rfl) ?_
      refine Jp.split 21 rfl (fun g21 => ?_) (fun g21 => ?_)
      · skip
        try simp only [decide_eq_false_iff_not, decide_eq_true_eq, Int.not_lt, Int.not_le, Bool.not_eq_false, Bool.not_eq_true, Bool.not_true, Bool.not_false, Bool.not_eq_true', Bool.not_eq_false', beq_eq_false_iff_ne, ne_eq, beq_iff_eq, bne_iff_ne, bne_eq_false_iff_eq, Classical.not_not] at g21
        refine Jp.skip 22 rfl (want_as rfl rfl rfl rfl) rfl rfl Kp.true ?_
        refine Jp.skip 23 rfl (want_as rfl rfl rfl rfl) rfl rfl Kp.true ?_
        refine Jp.skip 24 rfl (want_as rfl rfl rfl rfl) rfl rfl Kp.true ?_
        refine Jp.skip 25 rfl (want_as rfl rfl rfl rfl) rfl rfl Kp.true ?_
        refine Jp.skip 26 rfl (want_as rfl rfl rfl rfl) rfl rfl Kp.true ?_
        refine Jp.y 27 rfl (want_all rfl) rfl rfl Kp.true (Y.pickT rfl rfl rfl) ?_
        refine Jp.done hK13 ?_
        refine Cd.condT rfl ?_
        refine Cd.seq fun K14 hK14 => ?_
        refine Cd.plain [(0, false), (1, false)] rfl rfl ?_
        refine Jp.y 8 rfl (want_all rfl) rfl rfl Kp.true (Y.assign rfl rfl) ?_
        refine Jp.y 9 rfl (want_all rfl) rfl rfl Kp.true (Y.assign rfl rfl) ?_
        refine Jp.done hK14 ?_
        refine Cd.ret [(0, _), (1, _), (2, _)] rfl (res2 rfl rfl rfl) ⟨rfl, rfl, rfl, trivial⟩ ⟨rfl, ?_, rfl⟩
        have h3 : lookM M a size need = 3 := by
          rw [lookM, if_pos]
          simp only [sizeOk, Bool.and_eq_false_iff, Bool.or_eq_false_iff, beq_eq_false_iff_ne, ne_eq]
          omega
        rw [h3]; rfl
      · skip
        try simp only [decide_eq_false_iff_not, decide_eq_true_eq, Int.not_lt, Int.not_le, Bool.not_eq_false, Bool.not_eq_true, Bool.not_true, Bool.not_false, Bool.not_eq_true', Bool.not_eq_false', beq_eq_false_iff_ne, ne_eq, beq_iff_eq, bne_iff_ne, bne_eq_false_iff_eq, Classical.not_not] at g21
        refine Jp.y 22 rfl (want_as rfl rfl rfl rfl) rfl rfl Kp.true (Y.move rfl rfl) ?_
        refine Jp.y 23 rfl (want_as rfl rfl rfl rfl) rfl rfl Kp.true (Y.move rfl rfl) ?_
        refine Jp.y 24 rfl (want_as rfl rfl rfl rfl) rfl rfl Kp.true (Y.conv_ rfl rfl Try.underlying3 Try.underlying25 (by first | exact wrap_u32 (by omega) (by omega) | rfl)) ?_
        refine Jp.y 25 rfl (want_as rfl rfl rfl rfl) rfl rfl Kp.true (by first | exact Y.remN rfl rfl rfl (by omega) (by omega) | exact Y.rem rfl rfl rfl (by first | decide | omega)) ?_
        refine Jp.y 26 rfl (want_as rfl rfl rfl rfl) rfl rfl Kp.true (Y.neq rfl rfl rfl) ?_
        refine Jp.y 27 rfl (want_all rfl) rfl rfl Kp.true (Y.pickF rfl rfl rfl) ?_
        refine Jp.done hK13 ?_
        refine Cd.cond rfl (fun g27 => ?_) (fun g27 => ?_)
        · skip
          try simp only [decide_eq_false_iff_not, decide_eq_true_eq, Int.not_lt, Int.not_le, Bool.not_eq_false, Bool.not_eq_true, Bool.not_true, Bool.not_false, Bool.not_eq_true', Bool.not_eq_false', beq_eq_false_iff_ne, ne_eq, beq_iff_eq, bne_iff_ne, bne_eq_false_iff_eq, Classical.not_not] at g27
          refine Cd.seq fun K15 hK15 => ?_
          refine Cd.plain [(0, false), (1, false)] rfl rfl ?_
          refine Jp.y 8 rfl (want_all rfl) rfl rfl Kp.true (Y.assign rfl rfl) ?_
          refine Jp.y 9 rfl (want_all rfl) rfl rfl Kp.true (Y.assign rfl rfl) ?_
          refine Jp.done hK15 ?_
          refine Cd.ret [(0, _), (1, _), (2, _)] rfl (res2 rfl rfl rfl) ⟨rfl, rfl, rfl, trivial⟩ ⟨rfl, ?_, rfl⟩
          have h3 : lookM M a size need = 3 := by
            rw [lookM, if_pos]
            simp only [sizeOk, Bool.and_eq_false_iff, Bool.or_eq_false_iff, beq_eq_false_iff_ne, ne_eq]
            omega
          rw [h3]; rfl
        · skip
          try simp only [decide_eq_false_iff_not, decide_eq_true_eq, Int.not_lt, Int.not_le, Bool.not_eq_false, Bool.not_eq_true, Bool.not_true, Bool.not_false, Bool.not_eq_true', Bool.not_eq_false', beq_eq_false_iff_ne, ne_eq, beq_iff_eq, bne_iff_ne, bne_eq_false_iff_eq, Classical.not_not] at g27
          refine Cd.skip hK12 ?_
          refine Cd.seq fun K16 hK16 => ?_
          refine Cd.drawn [(0, _), (1, _)] ⟨rfl, rfl, trivial⟩ [(0, true), (1, true), (2, true), (3, true), (4, true), (5, false), (6, true), (7, true)] follows (by kernel_rfl) (fun hrl => ?_)
          have hs : sizeOk a size = true := by
            simp only [sizeOk, Bool.and_eq_true, Bool.or_eq_true, beq_iff_eq]
            omega
          refine Jp.q 28 rfl (want_all rfl) rfl rfl (Y.move rfl rfl) ?_
          refine Jp.q 29 rfl (want_all rfl) rfl rfl (Y.nilCheck rfl rfl) ?_
          refine Jp.q 30 rfl (want_all rfl) rfl rfl (by first | exact Y.fieldAddrP rfl rfl Try.underlying142 rfl Try.sizeOf139 (by decide) (show _ + 1 = _ from rfl) | exact Y.fieldAddr rfl rfl Try.underlying142 rfl Try.sizeOf139 (by decide)) ?_
          refine Jp.q 31 rfl (want_all rfl) rfl rfl (Y.loadO 0 rfl Try.isAgg139 rfl rfl rfl) ?_
          refine Jp.q 32 rfl (want_all rfl) rfl rfl (Y.move rfl rfl) ?_
          refine Jp.call [] [] (base_spec a ha) 33 rfl (want_all rfl) rfl rfl (Runs.fn rfl Try.call48 rfl) (by decide) (by decide) rfl trivial ?_
          rintro v101 ρ101 L101 ⟨rfl, rfl, rfl⟩
          refine ⟨rfl, fun hle101 => ⟨(Kp.st ⟨rfl, rfl, trivial⟩), ?_⟩⟩
          refine Jp.q 34 rfl (want_all rfl) rfl rfl (by first | exact Y.lookup 1 rfl rfl rfl Try.underlying139 Try.underlying25 Try.zeroValue138 rfl) ?_
          refine Jp.q 10 rfl (want_all rfl) rfl rfl (Y.assign rfl rfl) ?_
          refine Jp.done hK16 ?_
          refine Cd.seq fun K18 hK18 => ?_
          refine Cd.block ?_
          refine Cd.seq fun K19 hK19 => ?_
          refine Cd.plain [(0, false), (1, false), (2, false)] rfl rfl ?_
          have hget := hf.get (baseN a)
          rcases hg : getPg M.pages (baseN a) with _ | p
          · have hlk : lookM M a size need = 1 := by rw [lookM, if_neg (by rw [hs]; simp), hg]
            rw [hg] at hget
            refine Jp.slot 10 rfl (show _ = Value.pointer none by rw [hget]; rfl) ?_
            refine Jp.y 36 rfl (want_all rfl) rfl rfl Kp.true (Y.move rfl rfl) ?_
            refine Jp.y 37 rfl (want_all rfl) rfl rfl Kp.true (Y.ptrNil rfl Try.underlying138 rfl rfl) ?_
            refine Jp.y 35 rfl (want_all rfl) rfl rfl Kp.true (Y.assign rfl rfl) ?_
            refine Jp.done hK19 ?_
            refine Cd.cond rfl (fun g35 => ?_) (fun g35 => ?_)
            · skip
              try simp only [decide_eq_false_iff_not, decide_eq_true_eq, Int.not_lt, Int.not_le, Bool.not_eq_false, Bool.not_eq_true, Bool.not_true, Bool.not_false, Bool.not_eq_true', Bool.not_eq_false', beq_eq_false_iff_ne, ne_eq, beq_iff_eq, bne_iff_ne, bne_eq_false_iff_eq, Classical.not_not] at g35
              first
              | done
              | (simp at g35; done)
              | skip
                refine Cd.seq fun K20 hK20 => ?_
                refine Cd.plain [(0, false), (1, false)] rfl rfl ?_
                refine Jp.y 8 rfl (want_all rfl) rfl rfl Kp.true (Y.assign rfl rfl) ?_
                refine Jp.y 9 rfl (want_all rfl) rfl rfl Kp.true (Y.assign rfl rfl) ?_
                refine Jp.done hK20 ?_
                refine Cd.ret [(0, _), (1, _), (2, _)] rfl (res2 rfl rfl rfl) ⟨rfl, rfl, rfl, trivial⟩ ⟨rfl, ?_, rfl⟩
                first
                | (rw [hlk]; rfl)
                | (have hm : may p.perm need = true := by simpa [may] using g38
                   simp [hlk, hm])
                | (have hm : may p.perm need = false := by simpa [may] using g38
                   simp [hlk, hm])
            · skip
              try simp only [decide_eq_false_iff_not, decide_eq_true_eq, Int.not_lt, Int.not_le, Bool.not_eq_false, Bool.not_eq_true, Bool.not_true, Bool.not_false, Bool.not_eq_true', Bool.not_eq_false', beq_eq_false_iff_ne, ne_eq, beq_iff_eq, bne_iff_ne, bne_eq_false_iff_eq, Classical.not_not] at g35
              first
              | done
              | (simp at g35; done)
              | skip
                refine Cd.seq fun K21 hK21 => ?_
                refine Cd.plain [(0, false), (1, false), (2, false), (3, false), (4, false), (5, false), (6, false), (7, false), (8, false)] rfl rfl ?_
                refine Jp.y 39 rfl (want_all rfl) rfl rfl Kp.true (Y.move rfl rfl) ?_
                refine Jp.y 40 rfl (want_all rfl) rfl rfl Kp.true (Y.nilCheck rfl rfl) ?_
                refine Jp.y 41 rfl (want_all rfl) rfl rfl Kp.true (by first | exact Y.fieldAddrP rfl rfl Try.underlying144 rfl Try.sizeOf3 (by decide) (show _ + 256 = _ from rfl) | exact Y.fieldAddr rfl rfl Try.underlying144 rfl Try.sizeOf3 (by decide)) ?_
                refine Jp.y 42 rfl (want_all rfl) rfl rfl Kp.true (Y.loadO 0 rfl Try.isAgg3 rfl rfl rfl) ?_
                refine Jp.y 43 rfl (want_all rfl) rfl rfl Kp.true (Y.move rfl rfl) ?_
                refine Jp.y 44 rfl (want_all rfl) rfl rfl Kp.true (Y.bits rfl rfl rfl rfl) ?_
                refine Jp.y 45 rfl (want_all rfl) rfl rfl Kp.true (Y.move rfl rfl) ?_
                refine Jp.y 46 rfl (want_all rfl) rfl rfl Kp.true (Y.neq rfl rfl rfl) ?_
                refine Jp.y 38 rfl (want_all rfl) rfl rfl Kp.true (Y.assign rfl rfl) ?_
                refine Jp.done hK21 ?_
                refine Cd.cond rfl (fun g38 => ?_) (fun g38 => ?_)
                · skip
                  try simp only [decide_eq_false_iff_not, decide_eq_true_eq, Int.not_lt, Int.not_le, Bool.not_eq_false, Bool.not_eq_true, Bool.not_true, Bool.not_false, Bool.not_eq_true', Bool.not_eq_false', beq_eq_false_iff_ne, ne_eq, beq_iff_eq, bne_iff_ne, bne_eq_false_iff_eq, Classical.not_not] at g38
                  first
                  | done
                  | (simp at g38; done)
                  | skip
                    refine Cd.seq fun K22 hK22 => ?_
                    refine Cd.plain [(0, false), (1, false)] rfl rfl ?_
                    refine Jp.y 8 rfl (want_all rfl) rfl rfl Kp.true (Y.assign rfl rfl) ?_
                    refine Jp.y 9 rfl (want_all rfl) rfl rfl Kp.true (Y.assign rfl rfl) ?_
                    refine Jp.done hK22 ?_
                    refine Cd.ret [(0, _), (1, _), (2, _)] rfl (res2 rfl rfl rfl) ⟨rfl, rfl, rfl, trivial⟩ ⟨rfl, ?_, rfl⟩
                    first
                    | (rw [hlk]; rfl)
                    | (have hm : may p.perm need = true := by simpa [may] using g38
                       simp [hlk, hm])
                    | (have hm : may p.perm need = false := by simpa [may] using g38
                       simp [hlk, hm])
                · skip
                  try simp only [decide_eq_false_iff_not, decide_eq_true_eq, Int.not_lt, Int.not_le, Bool.not_eq_false, Bool.not_eq_true, Bool.not_true, Bool.not_false, Bool.not_eq_true', Bool.not_eq_false', beq_eq_false_iff_ne, ne_eq, beq_iff_eq, bne_iff_ne, bne_eq_false_iff_eq, Classical.not_not] at g38
                  first
                  | done
                  | (simp at g38; done)
                  | skip
                    refine Cd.over rfl hK18 ?_
                    refine Cd.seq fun K23 hK23 => ?_
                    refine Cd.plain [(0, false), (1, false), (2, false)] rfl rfl ?_
                    refine Jp.y 47 rfl (want_all rfl) rfl rfl Kp.true (Y.move rfl rfl) ?_
                    refine Jp.y 8 rfl (want_all rfl) rfl rfl Kp.true (Y.assign rfl rfl) ?_
                    refine Jp.y 9 rfl (want_all rfl) rfl rfl Kp.true (Y.assign rfl rfl) ?_
                    refine Jp.done hK23 ?_
                    refine Cd.ret [(0, _), (1, _), (2, _)] rfl (res2 rfl rfl rfl) ⟨rfl, rfl, rfl, trivial⟩ ⟨rfl, ?_, rfl⟩
                    first
                    | (rw [hlk]; rfl)
                    | (have hm : may p.perm need = true := by simpa [may] using g38
                       simp [hlk, hm])
                    | (have hm : may p.perm need = false := by simpa [may] using g38
                       simp [hlk, hm])
          · have hlk : lookM M a size need = if may p.perm need then 0 else 2 := by rw [lookM, if_neg (by rw [hs]; simp), hg]
            rw [hg] at hget
            refine Jp.slot 10 rfl (show _ = Value.pointer (some ⟨x.blk (baseN a), 0, none⟩) by rw [hget]; rfl) ?_
            have hpo := hf.ok.page _ (getPg_mem hg)
            have hcell := Blks.cell (MemF.blk (x := x) hg) (pageCells_perm p hpo.len)
            refine Jp.y 36 rfl (want_all rfl) rfl rfl Kp.true (Y.move rfl rfl) ?_
            refine Jp.y 37 rfl (want_all rfl) rfl rfl Kp.true (Y.ptrNil rfl Try.underlying138 rfl rfl) ?_
            refine Jp.y 35 rfl (want_all rfl) rfl rfl Kp.true (Y.assign rfl rfl) ?_
            refine Jp.done hK19 ?_
            refine Cd.cond rfl (fun g35 => ?_) (fun g35 => ?_)
            · skip
              try simp only [decide_eq_false_iff_not, decide_eq_true_eq, Int.not_lt, Int.not_le, Bool.not_eq_false, Bool.not_eq_true, Bool.not_true, Bool.not_false, Bool.not_eq_true', Bool.not_eq_false', beq_eq_false_iff_ne, ne_eq, beq_iff_eq, bne_iff_ne, bne_eq_false_iff_eq, Classical.not_not] at g35
              first
              | done
              | (simp at g35; done)
              | skip
                refine Cd.seq fun K24 hK24 => ?_
                refine Cd.plain [(0, false), (1, false)] rfl rfl ?_
                refine Jp.y 8 rfl (want_all rfl) rfl rfl Kp.true (Y.assign rfl rfl) ?_
                refine Jp.y 9 rfl (want_all rfl) rfl rfl Kp.true (Y.assign rfl rfl) ?_
                refine Jp.done hK24 ?_
                refine Cd.ret [(0, _), (1, _), (2, _)] rfl (res2 rfl rfl rfl) ⟨rfl, rfl, rfl, trivial⟩ ⟨rfl, ?_, rfl⟩
                first
                | (rw [hlk]; rfl)
                | (have hm : may p.perm need = true := by simpa [may] using g38
                   simp [hlk, hm])
                | (have hm : may p.perm need = false := by simpa [may] using g38
                   simp [hlk, hm])
            · skip
              try simp only [decide_eq_false_iff_not, decide_eq_true_eq, Int.not_lt, Int.not_le, Bool.not_eq_false, Bool.not_eq_true, Bool.not_true, Bool.not_false, Bool.not_eq_true', Bool.not_eq_false', beq_eq_false_iff_ne, ne_eq, beq_iff_eq, bne_iff_ne, bne_eq_false_iff_eq, Classical.not_not] at g35
              first
              | done
              | (simp at g35; done)
              | skip
                refine Cd.seq fun K25 hK25 => ?_
                refine Cd.plain [(0, false), (1, false), (2, false), (3, false), (4, false), (5, false), (6, false), (7, false), (8, false)] rfl rfl ?_
                refine Jp.y 39 rfl (want_all rfl) rfl rfl Kp.true (Y.move rfl rfl) ?_
                refine Jp.y 40 rfl (want_all rfl) rfl rfl Kp.true (Y.nilCheck rfl rfl) ?_
                refine Jp.y 41 rfl (want_all rfl) rfl rfl Kp.true (by first | exact Y.fieldAddrP rfl rfl Try.underlying144 rfl Try.sizeOf3 (by decide) (show _ + 256 = _ from rfl) | exact Y.fieldAddr rfl rfl Try.underlying144 rfl Try.sizeOf3 (by decide)) ?_
                refine Jp.y 42 rfl (want_all rfl) rfl rfl Kp.true (by first | exact Y.loadO 0 rfl Try.isAgg3 rfl rfl rfl | exact Y.loadC 2 rfl Try.isAgg3 rfl rfl hcell) ?_
                refine Jp.y 43 rfl (want_all rfl) rfl rfl Kp.true (Y.move rfl rfl) ?_
                refine Jp.y 44 rfl (want_all rfl) rfl rfl Kp.true (Y.bits rfl rfl rfl rfl) ?_
                refine Jp.y 45 rfl (want_all rfl) rfl rfl Kp.true (Y.move rfl rfl) ?_
                refine Jp.y 46 rfl (want_all rfl) rfl rfl Kp.true (Y.neq rfl rfl rfl) ?_
                refine Jp.y 38 rfl (want_all rfl) rfl rfl Kp.true (Y.assign rfl rfl) ?_
                refine Jp.done hK25 ?_
                refine Cd.cond rfl (fun g38 => ?_) (fun g38 => ?_)
                · skip
                  try simp only [decide_eq_false_iff_not, decide_eq_true_eq, Int.not_lt, Int.not_le, Bool.not_eq_false, Bool.not_eq_true, Bool.not_true, Bool.not_false, Bool.not_eq_true', Bool.not_eq_false', beq_eq_false_iff_ne, ne_eq, beq_iff_eq, bne_iff_ne, bne_eq_false_iff_eq, Classical.not_not] at g38
                  first
                  | done
                  | (simp at g38; done)
                  | skip
                    refine Cd.seq fun K26 hK26 => ?_
                    refine Cd.plain [(0, false), (1, false)] rfl rfl ?_
                    refine Jp.y 8 rfl (want_all rfl) rfl rfl Kp.true (Y.assign rfl rfl) ?_
                    refine Jp.y 9 rfl (want_all rfl) rfl rfl Kp.true (Y.assign rfl rfl) ?_
                    refine Jp.done hK26 ?_
                    refine Cd.ret [(0, _), (1, _), (2, _)] rfl (res2 rfl rfl rfl) ⟨rfl, rfl, rfl, trivial⟩ ⟨rfl, ?_, rfl⟩
                    first
                    | (rw [hlk]; rfl)
                    | (have hm : may p.perm need = true := by simpa [may] using g38
                       simp [hlk, hm])
                    | (have hm : may p.perm need = false := by simpa [may] using g38
                       simp [hlk, hm])
                · skip
                  try simp only [decide_eq_false_iff_not, decide_eq_true_eq, Int.not_lt, Int.not_le, Bool.not_eq_false, Bool.not_eq_true, Bool.not_true, Bool.not_false, Bool.not_eq_true', Bool.not_eq_false', beq_eq_false_iff_ne, ne_eq, beq_iff_eq, bne_iff_ne, bne_eq_false_iff_eq, Classical.not_not] at g38
                  first
                  | done
                  | (simp at g38; done)
                  | skip
                    refine Cd.over rfl hK18 ?_
                    refine Cd.seq fun K27 hK27 => ?_
                    refine Cd.plain [(0, false), (1, false), (2, false)] rfl rfl ?_
                    refine Jp.y 47 rfl (want_all rfl) rfl rfl Kp.true (Y.move rfl rfl) ?_
                    refine Jp.y 8 rfl (want_all rfl) rfl rfl Kp.true (Y.assign rfl rfl) ?_
                    refine Jp.y 9 rfl (want_all rfl) rfl rfl Kp.true (Y.assign rfl rfl) ?_
                    refine Jp.done hK27 ?_
                    refine Cd.ret [(0, _), (1, _), (2, _)] rfl (res2 rfl rfl rfl) ⟨rfl, rfl, rfl, trivial⟩ ⟨rfl, ?_, rfl⟩
                    first
                    | (rw [hlk]; rfl)
                    | (have hm : may p.perm need = true := by simpa [may] using g38
                       simp [hlk, hm])
                    | (have hm : may p.perm need = false := by simpa [may] using g38
                       simp [hlk, hm])
    · skip
      try simp only [decide_eq_false_iff_not, decide_eq_true_eq, Int.not_lt, Int.not_le, Bool.not_eq_false, Bool.not_eq_true, Bool.not_true, Bool.not_false, Bool.not_eq_true', Bool.not_eq_false', beq_eq_false_iff_ne, ne_eq, beq_iff_eq, bne_iff_ne, bne_eq_false_iff_eq, Classical.not_not] at g17
      refine Jp.skip 18 rfl (want_as rfl rfl rfl rfl) rfl rfl Kp.true ?_
      refine Jp.skip 19 rfl (want_as rfl rfl rfl rfl) rfl rfl Kp.true ?_
      refine Jp.y 20 rfl (want_all rfl) rfl rfl Kp.true (Y.pickF rfl rfl rfl) ?_
      refine Jp.y 21 rfl (want_all rfl) rfl rfl Kp.true (Y.move rfl rfl) ?_
      refine Jp.y 22 rfl (want_as rfl rfl rfl rfl) rfl rfl Kp.true (Y.move rfl rfl) ?_
      refine Jp.y 23 rfl (want_as rfl rfl rfl rfl) rfl rfl Kp.true (Y.move rfl rfl) ?_
      refine Jp.y 24 rfl (want_as rfl rfl rfl rfl) rfl rfl Kp.true (Y.conv_ rfl rfl Try.underlying3 Try.underlying25 (by first | exact wrap_u32 (by omega) (by omega) | rfl)) ?_
      refine Jp.y 25 rfl (want_as rfl rfl rfl rfl) rfl rfl Kp.true (by first | exact Y.remN rfl rfl rfl (by omega) (by omega) | exact Y.rem rfl rfl rfl (by first | decide | omega)) ?_
      refine Jp.y 26 rfl (want_as rfl rfl rfl rfl) rfl rfl Kp.true (Y.neq rfl rfl rfl) ?_
      refine Jp.y 27 rfl (want_all rfl) rfl rfl Kp.true (Y.pickF rfl rfl rfl) ?_
      refine Jp.done hK13 ?_
      refine Cd.cond rfl (fun g27 => ?_) (fun g27 => ?_)
      · skip
        try simp only [decide_eq_false_iff_not, decide_eq_true_eq, Int.not_lt, Int.not_le, Bool.not_eq_false, Bool.not_eq_true, Bool.not_true, Bool.not_false, Bool.not_eq_true', Bool.not_eq_false', beq_eq_false_iff_ne, ne_eq, beq_iff_eq, bne_iff_ne, bne_eq_false_iff_eq, Classical.not_not] at g27
        refine Cd.seq fun K28 hK28 => ?_
        refine Cd.plain [(0, false), (1, false)] rfl rfl ?_
        refine Jp.y 8 rfl (want_all rfl) rfl rfl Kp.true (Y.assign rfl rfl) ?_
        refine Jp.y 9 rfl (want_all rfl) rfl rfl Kp.true (Y.assign rfl rfl) ?_
        refine Jp.done hK28 ?_
        refine Cd.ret [(0, _), (1, _), (2, _)] rfl (res2 rfl rfl rfl) ⟨rfl, rfl, rfl, trivial⟩ ⟨rfl, ?_, rfl⟩
        have h3 : lookM M a size need = 3 := by
          rw [lookM, if_pos]
          simp only [sizeOk, Bool.and_eq_false_iff, Bool.or_eq_false_iff, beq_eq_false_iff_ne, ne_eq]
          omega
        rw [h3]; rfl
      · skip
        try simp only [decide_eq_false_iff_not, decide_eq_true_eq, Int.not_lt, Int.not_le, Bool.not_eq_false, Bool.not_eq_true, Bool.not_true, Bool.not_false, Bool.not_eq_true', Bool.not_eq_false', beq_eq_false_iff_ne, ne_eq, beq_iff_eq, bne_iff_ne, bne_eq_false_iff_eq, Classical.not_not] at g27
        refine Cd.skip hK12 ?_
        refine Cd.seq fun K29 hK29 => ?_
        refine Cd.drawn [(0, _), (1, _)] ⟨rfl, rfl, trivial⟩ [(0, true), (1, true), (2, true), (3, true), (4, true), (5, false), (6, true), (7, true)] follows (by kernel_rfl) (fun hrl => ?_)
        have hs : sizeOk a size = true := by
          simp only [sizeOk, Bool.and_eq_true, Bool.or_eq_true, beq_iff_eq]
          omega
        refine Jp.q 28 rfl (want_all rfl) rfl rfl (Y.move rfl rfl) ?_
        refine Jp.q 29 rfl (want_all rfl) rfl rfl (Y.nilCheck rfl rfl) ?_
        refine Jp.q 30 rfl (want_all rfl) rfl rfl (by first | exact Y.fieldAddrP rfl rfl Try.underlying142 rfl Try.sizeOf139 (by decide) (show _ + 1 = _ from rfl) | exact Y.fieldAddr rfl rfl Try.underlying142 rfl Try.sizeOf139 (by decide)) ?_
        refine Jp.q 31 rfl (want_all rfl) rfl rfl (by first | exact Y.loadO 0 rfl Try.isAgg139 rfl rfl rfl | exact Y.loadC 2 rfl Try.isAgg139 rfl rfl hcell) ?_
        refine Jp.q 32 rfl (want_all rfl) rfl rfl (Y.move rfl rfl) ?_
        refine Jp.call [] [] (base_spec a ha) 33 rfl (want_all rfl) rfl rfl (Runs.fn rfl Try.call48 rfl) (by decide) (by decide) rfl trivial ?_
        rintro v102 ρ102 L102 ⟨rfl, rfl, rfl⟩
        refine ⟨rfl, fun hle102 => ⟨(Kp.st ⟨rfl, rfl, trivial⟩), ?_⟩⟩
        refine Jp.q 34 rfl (want_all rfl) rfl rfl (by first | exact Y.lookup 1 rfl rfl rfl Try.underlying139 Try.underlying25 Try.zeroValue138 rfl) ?_
        refine Jp.q 10 rfl (want_all rfl) rfl rfl (Y.assign rfl rfl) ?_
        refine Jp.done hK29 ?_
        refine Cd.seq fun K31 hK31 => ?_
        refine Cd.block ?_
        refine Cd.seq fun K32 hK32 => ?_
        refine Cd.plain [(0, false), (1, false), (2, false)] rfl rfl ?_
        have hget := hf.get (baseN a)
        rcases hg : getPg M.pages (baseN a) with _ | p
        · have hlk : lookM M a size need = 1 := by rw [lookM, if_neg (by rw [hs]; simp), hg]
          rw [hg] at hget
          refine Jp.slot 10 rfl (show _ = Value.pointer none by rw [hget]; rfl) ?_
          refine Jp.y 36 rfl (want_all rfl) rfl rfl Kp.true (Y.move rfl rfl) ?_
          refine Jp.y 37 rfl (want_all rfl) rfl rfl Kp.true (Y.ptrNil rfl Try.underlying138 rfl rfl) ?_
          refine Jp.y 35 rfl (want_all rfl) rfl rfl Kp.true (Y.assign rfl rfl) ?_
          refine Jp.done hK32 ?_
          refine Cd.cond rfl (fun g35 => ?_) (fun g35 => ?_)
          · skip
            try simp only [decide_eq_false_iff_not, decide_eq_true_eq, Int.not_lt, Int.not_le, Bool.not_eq_false, Bool.not_eq_true, Bool.not_true, Bool.not_false, Bool.not_eq_true', Bool.not_eq_false', beq_eq_false_iff_ne, ne_eq, beq_iff_eq, bne_iff_ne, bne_eq_false_iff_eq, Classical.not_not] at g35
            first
            | done
            | (simp at g35; done)
            | skip
              refine Cd.seq fun K33 hK33 => ?_
              refine Cd.plain [(0, false), (1, false)] rfl rfl ?_
              refine Jp.y 8 rfl (want_all rfl) rfl rfl Kp.true (Y.assign rfl rfl) ?_
              refine Jp.y 9 rfl (want_all rfl) rfl rfl Kp.true (Y.assign rfl rfl) ?_
              refine Jp.done hK33 ?_
              refine Cd.ret [(0, _), (1, _), (2, _)] rfl (res2 rfl rfl rfl) ⟨rfl, rfl, rfl, trivial⟩ ⟨rfl, ?_, rfl⟩
              first
              | (rw [hlk]; rfl)
              | (have hm : may p.perm need = true := by simpa [may] using g38
                 simp [hlk, hm])
              | (have hm : may p.perm need = false := by simpa [may] using g38
                 simp [hlk, hm])
          · skip
            try simp only [decide_eq_false_iff_not, decide_eq_true_eq, Int.not_lt, Int.not_le, Bool.not_eq_false, Bool.not_eq_true, Bool.not_true, Bool.not_false, Bool.not_eq_true', Bool.not_eq_false', beq_eq_false_iff_ne, ne_eq, beq_iff_eq, bne_iff_ne, bne_eq_false_iff_eq, Classical.not_not] at g35
            first
            | done
            | (simp at g35; done)
            | skip
              refine Cd.seq fun K34 hK34 => ?_
              refine Cd.plain [(0, false), (1, false), (2, false), (3, false), (4, false), (5, false), (6, false), (7, false), (8, false)] rfl rfl ?_
              refine Jp.y 39 rfl (want_all rfl) rfl rfl Kp.true (Y.move rfl rfl) ?_
              refine Jp.y 40 rfl (want_all rfl) rfl rfl Kp.true (Y.nilCheck rfl rfl) ?_
              refine Jp.y 41 rfl (want_all rfl) rfl rfl Kp.true (by first | exact Y.fieldAddrP rfl rfl Try.underlying144 rfl Try.sizeOf3 (by decide) (show _ + 256 = _ from rfl) | exact Y.fieldAddr rfl rfl Try.underlying144 rfl Try.sizeOf3 (by decide)) ?_
              refine Jp.y 42 rfl (want_all rfl) rfl rfl Kp.true (by first | exact Y.loadO 0 rfl Try.isAgg3 rfl rfl rfl | exact Y.loadC 2 rfl Try.isAgg3 rfl rfl hcell) ?_
              refine Jp.y 43 rfl (want_all rfl) rfl rfl Kp.true (Y.move rfl rfl) ?_
              refine Jp.y 44 rfl (want_all rfl) rfl rfl Kp.true (Y.bits rfl rfl rfl rfl) ?_
              refine Jp.y 45 rfl (want_all rfl) rfl rfl Kp.true (Y.move rfl rfl) ?_
              refine Jp.y 46 rfl (want_all rfl) rfl rfl Kp.true (Y.neq rfl rfl rfl) ?_
              refine Jp.y 38 rfl (want_all rfl) rfl rfl Kp.true (Y.assign rfl rfl) ?_
              refine Jp.done hK34 ?_
              refine Cd.cond rfl (fun g38 => ?_) (fun g38 => ?_)
              · skip
                try simp only [decide_eq_false_iff_not, decide_eq_true_eq, Int.not_lt, Int.not_le, Bool.not_eq_false, Bool.not_eq_true, Bool.not_true, Bool.not_false, Bool.not_eq_true', Bool.not_eq_false', beq_eq_false_iff_ne, ne_eq, beq_iff_eq, bne_iff_ne, bne_eq_false_iff_eq, Classical.not_not] at g38
                first
                | done
                | (simp at g38; done)
                | skip
                  refine Cd.seq fun K35 hK35 => ?_
                  refine Cd.plain [(0, false), (1, false)] rfl rfl ?_
                  refine Jp.y 8 rfl (want_all rfl) rfl rfl Kp.true (Y.assign rfl rfl) ?_
                  refine Jp.y 9 rfl (want_all rfl) rfl rfl Kp.true (Y.assign rfl rfl) ?_
                  refine Jp.done hK35 ?_
                  refine Cd.ret [(0, _), (1, _), (2, _)] rfl (res2 rfl rfl rfl) ⟨rfl, rfl, rfl, trivial⟩ ⟨rfl, ?_, rfl⟩
                  first
                  | (rw [hlk]; rfl)
                  | (have hm : may p.perm need = true := by simpa [may] using g38
                     simp [hlk, hm])
                  | (have hm : may p.perm need = false := by simpa [may] using g38
                     simp [hlk, hm])
              · skip
                try simp only [decide_eq_false_iff_not, decide_eq_true_eq, Int.not_lt, Int.not_le, Bool.not_eq_false, Bool.not_eq_true, Bool.not_true, Bool.not_false, Bool.not_eq_true', Bool.not_eq_false', beq_eq_false_iff_ne, ne_eq, beq_iff_eq, bne_iff_ne, bne_eq_false_iff_eq, Classical.not_not] at g38
                first
                | done
                | (simp at g38; done)
                | skip
                  refine Cd.over rfl hK31 ?_
                  refine Cd.seq fun K36 hK36 => ?_
                  refine Cd.plain [(0, false), (1, false), (2, false)] rfl rfl ?_
                  refine Jp.y 47 rfl (want_all rfl) rfl rfl Kp.true (Y.move rfl rfl) ?_
                  refine Jp.y 8 rfl (want_all rfl) rfl rfl Kp.true (Y.assign rfl rfl) ?_
                  refine Jp.y 9 rfl (want_all rfl) rfl rfl Kp.true (Y.assign rfl rfl) ?_
                  refine Jp.done hK36 ?_
                  refine Cd.ret [(0, _), (1, _), (2, _)] rfl (res2 rfl rfl rfl) ⟨rfl, rfl, rfl, trivial⟩ ⟨rfl, ?_, rfl⟩
                  first
                  | (rw [hlk]; rfl)
                  | (have hm : may p.perm need = true := by simpa [may] using g38
                     simp [hlk, hm])
                  | (have hm : may p.perm need = false := by simpa [may] using g38
                     simp [hlk, hm])
        · have hlk : lookM M a size need = if may p.perm need then 0 else 2 := by rw [lookM, if_neg (by rw [hs]; simp), hg]
          rw [hg] at hget
          refine Jp.slot 10 rfl (show _ = Value.pointer (some ⟨x.blk (baseN a), 0, none⟩) by rw [hget]; rfl) ?_
          have hpo := hf.ok.page _ (getPg_mem hg)
          have hcell := Blks.cell (MemF.blk (x := x) hg) (pageCells_perm p hpo.len)
          refine Jp.y 36 rfl (want_all rfl) rfl rfl Kp.true (Y.move rfl rfl) ?_
          refine Jp.y 37 rfl (want_all rfl) rfl rfl Kp.true (Y.ptrNil rfl Try.underlying138 rfl rfl) ?_
          refine Jp.y 35 rfl (want_all rfl) rfl rfl Kp.true (Y.assign rfl rfl) ?_
          refine Jp.done hK32 ?_
          refine Cd.cond rfl (fun g35 => ?_) (fun g35 => ?_)
          · skip
            try simp only [decide_eq_false_iff_not, decide_eq_true_eq, Int.not_lt, Int.not_le, Bool.not_eq_false, Bool.not_eq_true, Bool.not_true, Bool.not_false, Bool.not_eq_true', Bool.not_eq_false', beq_eq_false_iff_ne, ne_eq, beq_iff_eq, bne_iff_ne, bne_eq_false_iff_eq, Classical.not_not] at g35
            first
            | done
            | (simp at g35; done)
            | skip
              refine Cd.seq fun K37 hK37 => ?_
              refine Cd.plain [(0, false), (1, false)] rfl rfl ?_
              refine Jp.y 8 rfl (want_all rfl) rfl rfl Kp.true (Y.assign rfl rfl) ?_
              refine Jp.y 9 rfl (want_all rfl) rfl rfl Kp.true (Y.assign rfl rfl) ?_
              refine Jp.done hK37 ?_
              refine Cd.ret [(0, _), (1, _), (2, _)] rfl (res2 rfl rfl rfl) ⟨rfl, rfl, rfl, trivial⟩ ⟨rfl, ?_, rfl⟩
              first
              | (rw [hlk]; rfl)
              | (have hm : may p.perm need = true := by simpa [may] using g38
                 simp [hlk, hm])
              | (have hm : may p.perm need = false := by simpa [may] using g38
                 simp [hlk, hm])
          · skip
            try simp only [decide_eq_false_iff_not, decide_eq_true_eq, Int.not_lt, Int.not_le, Bool.not_eq_false, Bool.not_eq_true, Bool.not_true, Bool.not_false, Bool.not_eq_true', Bool.not_eq_false', beq_eq_false_iff_ne, ne_eq, beq_iff_eq, bne_iff_ne, bne_eq_false_iff_eq, Classical.not_not] at g35
            first
            | done
            | (simp at g35; done)
            | skip
              refine Cd.seq fun K38 hK38 => ?_
              refine Cd.plain [(0, false), (1, false), (2, false), (3, false), (4, false), (5, false), (6, false), (7, false), (8, false)] rfl rfl ?_
              refine Jp.y 39 rfl (want_all rfl) rfl rfl Kp.true (Y.move rfl rfl) ?_
              refine Jp.y 40 rfl (want_all rfl) rfl rfl Kp.true (Y.nilCheck rfl rfl) ?_
              refine Jp.y 41 rfl (want_all rfl) rfl rfl Kp.true (by first | exact Y.fieldAddrP rfl rfl Try.underlying144 rfl Try.sizeOf3 (by decide) (show _ + 256 = _ from rfl) | exact Y.fieldAddr rfl rfl Try.underlying144 rfl Try.sizeOf3 (by decide)) ?_
              refine Jp.y 42 rfl (want_all rfl) rfl rfl Kp.true (by first | exact Y.loadO 0 rfl Try.isAgg3 rfl rfl rfl | exact Y.loadC 2 rfl Try.isAgg3 rfl rfl hcell) ?_
              refine Jp.y 43 rfl (want_all rfl) rfl rfl Kp.true (Y.move rfl rfl) ?_
              refine Jp.y 44 rfl (want_all rfl) rfl rfl Kp.true (Y.bits rfl rfl rfl rfl) ?_
              refine Jp.y 45 rfl (want_all rfl) rfl rfl Kp.true (Y.move rfl rfl) ?_
              refine Jp.y 46 rfl (want_all rfl) rfl rfl Kp.true (Y.neq rfl rfl rfl) ?_
              refine Jp.y 38 rfl (want_all rfl) rfl rfl Kp.true (Y.assign rfl rfl) ?_
              refine Jp.done hK38 ?_
              refine Cd.cond rfl (fun g38 => ?_) (fun g38 => ?_)
              · skip
                try simp only [decide_eq_false_iff_not, decide_eq_true_eq, Int.not_lt, Int.not_le, Bool.not_eq_false, Bool.not_eq_true, Bool.not_true, Bool.not_false, Bool.not_eq_true', Bool.not_eq_false', beq_eq_false_iff_ne, ne_eq, beq_iff_eq, bne_iff_ne, bne_eq_false_iff_eq, Classical.not_not] at g38
                first
                | done
                | (simp at g38; done)
                | skip
                  refine Cd.seq fun K39 hK39 => ?_
                  refine Cd.plain [(0, false), (1, false)] rfl rfl ?_
                  refine Jp.y 8 rfl (want_all rfl) rfl rfl Kp.true (Y.assign rfl rfl) ?_
                  refine Jp.y 9 rfl (want_all rfl) rfl rfl Kp.true (Y.assign rfl rfl) ?_
                  refine Jp.done hK39 ?_
                  refine Cd.ret [(0, _), (1, _), (2, _)] rfl (res2 rfl rfl rfl) ⟨rfl, rfl, rfl, trivial⟩ ⟨rfl, ?_, rfl⟩
                  first
                  | (rw [hlk]; rfl)
                  | (have hm : may p.perm need = true := by simpa [may] using g38
                     simp [hlk, hm])
                  | (have hm : may p.perm need = false := by simpa [may] using g38
                     simp [hlk, hm])
              · skip
                try simp only [decide_eq_false_iff_not, decide_eq_true_eq, Int.not_lt, Int.not_le, Bool.not_eq_false, Bool.not_eq_true, Bool.not_true, Bool.not_false, Bool.not_eq_true', Bool.not_eq_false', beq_eq_false_iff_ne, ne_eq, beq_iff_eq, bne_iff_ne, bne_eq_false_iff_eq, Classical.not_not] at g38
                first
                | done
                | (simp at g38; done)
                | skip
                  refine Cd.over rfl hK31 ?_
                  refine Cd.seq fun K40 hK40 => ?_
                  refine Cd.plain [(0, false), (1, false), (2, false)] rfl rfl ?_
                  refine Jp.y 47 rfl (want_all rfl) rfl rfl Kp.true (Y.move rfl rfl) ?_
                  refine Jp.y 8 rfl (want_all rfl) rfl rfl Kp.true (Y.assign rfl rfl) ?_
                  refine Jp.y 9 rfl (want_all rfl) rfl rfl Kp.true (Y.assign rfl rfl) ?_
                  refine Jp.done hK40 ?_
                  refine Cd.ret [(0, _), (1, _), (2, _)] rfl (res2 rfl rfl rfl) ⟨rfl, rfl, rfl, trivial⟩ ⟨rfl, ?_, rfl⟩
                  first
                  | (rw [hlk]; rfl)
                  | (have hm : may p.perm need = true := by simpa [may] using g38
                     simp [hlk, hm])
                  | (have hm : may p.perm need = false := by simpa [may] using g38
                     simp [hlk, hm])
  · skip
    try simp only [decide_eq_false_iff_not, decide_eq_true_eq, Int.not_lt, Int.not_le, Bool.not_eq_false, Bool.not_eq_true, Bool.not_true, Bool.not_false, Bool.not_eq_true', Bool.not_eq_false', beq_eq_false_iff_ne, ne_eq, beq_iff_eq, bne_iff_ne, bne_eq_false_iff_eq, Classical.not_not] at g13
    refine Jp.skip 14 rfl (want_as rfl rfl rfl rfl) rfl rfl Kp.true ?_
    refine Jp.skip 15 rfl (want_as rfl rfl rfl rfl) rfl rfl Kp.true ?_
    refine Jp.y 16 rfl (want_all rfl) rfl rfl Kp.true (Y.pickF rfl rfl rfl) ?_
    refine Jp.y 17 rfl (want_all rfl) rfl rfl Kp.true (Y.move rfl rfl) ?_
    refine Jp.skip 18 rfl (want_as rfl rfl rfl rfl) rfl rfl Kp.true ?_
    refine Jp.skip 19 rfl (want_as rfl rfl rfl rfl) rfl rfl Kp.true ?_
    refine Jp.y 20 rfl (want_all rfl) rfl rfl Kp.true (Y.pickF rfl rfl rfl) ?_
    refine Jp.y 21 rfl (want_all rfl) rfl rfl Kp.true (Y.move rfl rfl) ?_
    refine Jp.y 22 rfl (want_as rfl rfl rfl rfl) rfl rfl Kp.true (Y.move rfl rfl) ?_
    refine Jp.y 23 rfl (want_as rfl rfl rfl rfl) rfl rfl Kp.true (Y.move rfl rfl) ?_
    refine Jp.y 24 rfl (want_as rfl rfl rfl rfl) rfl rfl Kp.true (Y.conv_ rfl rfl Try.underlying3 Try.underlying25 (by first | exact wrap_u32 (by omega) (by omega) | rfl)) ?_
    refine Jp.y 25 rfl (want_as rfl rfl rfl rfl) rfl rfl Kp.true (by first | exact Y.remN rfl rfl rfl (by omega) (by omega) | exact Y.rem rfl rfl rfl (by first | decide | omega)) ?_
    refine Jp.y 26 rfl (want_as rfl rfl rfl rfl) rfl rfl Kp.true (Y.neq rfl rfl rfl) ?_
    refine Jp.y 27 rfl (want_all rfl) rfl rfl Kp.true (Y.pickF rfl rfl rfl) ?_
    refine Jp.done hK13 ?_
    refine Cd.cond rfl (fun g27 => ?_) (fun g27 => ?_)
    · skip
      try simp only [decide_eq_false_iff_not, decide_eq_true_eq, Int.not_lt, Int.not_le, Bool.not_eq_false, Bool.not_eq_true, Bool.not_true, Bool.not_false, Bool.not_eq_true', Bool.not_eq_false', beq_eq_false_iff_ne, ne_eq, beq_iff_eq, bne_iff_ne, bne_eq_false_iff_eq, Classical.not_not] at g27
      refine Cd.seq fun K41 hK41 => ?_
      refine Cd.plain [(0, false), (1, false)] rfl rfl ?_
      refine Jp.y 8 rfl (want_all rfl) rfl rfl Kp.true (Y.assign rfl rfl) ?_
      refine Jp.y 9 rfl (want_all rfl) rfl rfl Kp.true (Y.assign rfl rfl) ?_
      refine Jp.done hK41 ?_
      refine Cd.ret [(0, _), (1, _), (2, _)] rfl (res2 rfl rfl rfl) ⟨rfl, rfl, rfl, trivial⟩ ⟨rfl, ?_, rfl⟩
      have h3 : lookM M a size need = 3 := by
        rw [lookM, if_pos]
        simp only [sizeOk, Bool.and_eq_false_iff, Bool.or_eq_false_iff, beq_eq_false_iff_ne, ne_eq]
        omega
      rw [h3]; rfl
    · skip
      try simp only [decide_eq_false_iff_not, decide_eq_true_eq, Int.not_lt, Int.not_le, Bool.not_eq_false, Bool.not_eq_true, Bool.not_true, Bool.not_false, Bool.not_eq_true', Bool.not_eq_false', beq_eq_false_iff_ne, ne_eq, beq_iff_eq, bne_iff_ne, bne_eq_false_iff_eq, Classical.not_not] at g27
      refine Cd.skip hK12 ?_
      refine Cd.seq fun K42 hK42 => ?_
      refine Cd.drawn [(0, _), (1, _)] ⟨rfl, rfl, trivial⟩ [(0, true), (1, true), (2, true), (3, true), (4, true), (5, false), (6, true), (7, true)] follows (by kernel_rfl) (fun hrl => ?_)
      have hs : sizeOk a size = true := by
        simp only [sizeOk, Bool.and_eq_true, Bool.or_eq_true, beq_iff_eq]
        omega
      refine Jp.q 28 rfl (want_all rfl) rfl rfl (Y.move rfl rfl) ?_
      refine Jp.q 29 rfl (want_all rfl) rfl rfl (Y.nilCheck rfl rfl) ?_
      refine Jp.q 30 rfl (want_all rfl) rfl rfl (by first | exact Y.fieldAddrP rfl rfl Try.underlying142 rfl Try.sizeOf139 (by decide) (show _ + 1 = _ from rfl) | exact Y.fieldAddr rfl rfl Try.underlying142 rfl Try.sizeOf139 (by decide)) ?_
      refine Jp.q 31 rfl (want_all rfl) rfl rfl (by first | exact Y.loadO 0 rfl Try.isAgg139 rfl rfl rfl | exact Y.loadC 2 rfl Try.isAgg139 rfl rfl hcell) ?_
      refine Jp.q 32 rfl (want_all rfl) rfl rfl (Y.move rfl rfl) ?_
      refine Jp.call [] [] (base_spec a ha) 33 rfl (want_all rfl) rfl rfl (Runs.fn rfl Try.call48 rfl) (by decide) (by decide) rfl trivial ?_
      rintro v103 ρ103 L103 ⟨rfl, rfl, rfl⟩
      refine ⟨rfl, fun hle103 => ⟨(Kp.st ⟨rfl, rfl, trivial⟩), ?_⟩⟩
      refine Jp.q 34 rfl (want_all rfl) rfl rfl (by first | exact Y.lookup 1 rfl rfl rfl Try.underlying139 Try.underlying25 Try.zeroValue138 rfl) ?_
      refine Jp.q 10 rfl (want_all rfl) rfl rfl (Y.assign rfl rfl) ?_
      refine Jp.done hK42 ?_
      refine Cd.seq fun K44 hK44 => ?_
      refine Cd.block ?_
      refine Cd.seq fun K45 hK45 => ?_
      refine Cd.plain [(0, false), (1, false), (2, false)] rfl rfl ?_
      have hget := hf.get (baseN a)
      rcases hg : getPg M.pages (baseN a) with _ | p
      · have hlk : lookM M a size need = 1 := by rw [lookM, if_neg (by rw [hs]; simp), hg]
        rw [hg] at hget
        refine Jp.slot 10 rfl (show _ = Value.pointer none by rw [hget]; rfl) ?_
        refine Jp.y 36 rfl (want_all rfl) rfl rfl Kp.true (Y.move rfl rfl) ?_
        refine Jp.y 37 rfl (want_all rfl) rfl rfl Kp.true (Y.ptrNil rfl Try.underlying138 rfl rfl) ?_
        refine Jp.y 35 rfl (want_all rfl) rfl rfl Kp.true (Y.assign rfl rfl) ?_
        refine Jp.done hK45 ?_
        refine Cd.cond rfl (fun g35 => ?_) (fun g35 => ?_)
        · skip
          try simp only [decide_eq_false_iff_not, decide_eq_true_eq, Int.not_lt, Int.not_le, Bool.not_eq_false, Bool.not_eq_true, Bool.not_true, Bool.not_false, Bool.not_eq_true', Bool.not_eq_false', beq_eq_false_iff_ne, ne_eq, beq_iff_eq, bne_iff_ne, bne_eq_false_iff_eq, Classical.not_not] at g35
          first
          | done
          | (simp at g35; done)
          | skip
            refine Cd.seq fun K46 hK46 => ?_
            refine Cd.plain [(0, false), (1, false)] rfl rfl ?_
            refine Jp.y 8 rfl (want_all rfl) rfl rfl Kp.true (Y.assign rfl rfl) ?_
            refine Jp.y 9 rfl (want_all rfl) rfl rfl Kp.true (Y.assign rfl rfl) ?_
            refine Jp.done hK46 ?_
            refine Cd.ret [(0, _), (1, _), (2, _)] rfl (res2 rfl rfl rfl) ⟨rfl, rfl, rfl, trivial⟩ ⟨rfl, ?_, rfl⟩
            first
            | (rw [hlk]; rfl)
            | (have hm : may p.perm need = true := by simpa [may] using g38
               simp [hlk, hm])
            | (have hm : may p.perm need = false := by simpa [may] using g38
               simp [hlk, hm])
        · skip
          try simp only [decide_eq_false_iff_not, decide_eq_true_eq, Int.not_lt, Int.not_le, Bool.not_eq_false, Bool.not_eq_true, Bool.not_true, Bool.not_false, Bool.not_eq_true', Bool.not_eq_false', beq_eq_false_iff_ne, ne_eq, beq_iff_eq, bne_iff_ne, bne_eq_false_iff_eq, Classical.not_not] at g35
          first
          | done
          | (simp at g35; done)
          | skip
            refine Cd.seq fun K47 hK47 => ?_
            refine Cd.plain [(0, false), (1, false), (2, false), (3, false), (4, false), (5, false), (6, false), (7, false), (8, false)] rfl rfl ?_
            refine Jp.y 39 rfl (want_all rfl) rfl rfl Kp.true (Y.move rfl rfl) ?_
            refine Jp.y 40 rfl (want_all rfl) rfl rfl Kp.true (Y.nilCheck rfl rfl) ?_
            refine Jp.y 41 rfl (want_all rfl) rfl rfl Kp.true (by first | exact Y.fieldAddrP rfl rfl Try.underlying144 rfl Try.sizeOf3 (by decide) (show _ + 256 = _ from rfl) | exact Y.fieldAddr rfl rfl Try.underlying144 rfl Try.sizeOf3 (by decide)) ?_
            refine Jp.y 42 rfl (want_all rfl) rfl rfl Kp.true (by first | exact Y.loadO 0 rfl Try.isAgg3 rfl rfl rfl | exact Y.loadC 2 rfl Try.isAgg3 rfl rfl hcell) ?_
            refine Jp.y 43 rfl (want_all rfl) rfl rfl Kp.true (Y.move rfl rfl) ?_
            refine Jp.y 44 rfl (want_all rfl) rfl rfl Kp.true (Y.bits rfl rfl rfl rfl) ?_
            refine Jp.y 45 rfl (want_all rfl) rfl rfl Kp.true (Y.move rfl rfl) ?_
            refine Jp.y 46 rfl (want_all rfl) rfl rfl Kp.true (Y.neq rfl rfl rfl) ?_
            refine Jp.y 38 rfl (want_all rfl) rfl rfl Kp.true (Y.assign rfl rfl) ?_
            refine Jp.done hK47 ?_
            refine Cd.cond rfl (fun g38 => ?_) (fun g38 => ?_)
            · skip
              try simp only [decide_eq_false_iff_not, decide_eq_true_eq, Int.not_lt, Int.not_le, Bool.not_eq_false, Bool.not_eq_true, Bool.not_true, Bool.not_false, Bool.not_eq_true', Bool.not_eq_false', beq_eq_false_iff_ne, ne_eq, beq_iff_eq, bne_iff_ne, bne_eq_false_iff_eq, Classical.not_not] at g38
              first
              | done
              | (simp at g38; done)
              | skip
                refine Cd.seq fun K48 hK48 => ?_
                refine Cd.plain [(0, false), (1, false)] rfl rfl ?_
                refine Jp.y 8 rfl (want_all rfl) rfl rfl Kp.true (Y.assign rfl rfl) ?_
                refine Jp.y 9 rfl (want_all rfl) rfl rfl Kp.true (Y.assign rfl rfl) ?_
                refine Jp.done hK48 ?_
                refine Cd.ret [(0, _), (1, _), (2, _)] rfl (res2 rfl rfl rfl) ⟨rfl, rfl, rfl, trivial⟩ ⟨rfl, ?_, rfl⟩
                first
                | (rw [hlk]; rfl)
                | (have hm : may p.perm need = true := by simpa [may] using g38
                   simp [hlk, hm])
                | (have hm : may p.perm need = false := by simpa [may] using g38
                   simp [hlk, hm])
            · skip
              try simp only [decide_eq_false_iff_not, decide_eq_true_eq, Int.not_lt, Int.not_le, Bool.not_eq_false, Bool.not_eq_true, Bool.not_true, Bool.not_false, Bool.not_eq_true', Bool.not_eq_false', beq_eq_false_iff_ne, ne_eq, beq_iff_eq, bne_iff_ne, bne_eq_false_iff_eq, Classical.not_not] at g38
              first
              | done
              | (simp at g38; done)
              | skip
                refine Cd.over rfl hK44 ?_
                refine Cd.seq fun K49 hK49 => ?_
                refine Cd.plain [(0, false), (1, false), (2, false)] rfl rfl ?_
                refine Jp.y 47 rfl (want_all rfl) rfl rfl Kp.true (Y.move rfl rfl) ?_
                refine Jp.y 8 rfl (want_all rfl) rfl rfl Kp.true (Y.assign rfl rfl) ?_
                refine Jp.y 9 rfl (want_all rfl) rfl rfl Kp.true (Y.assign rfl rfl) ?_
                refine Jp.done hK49 ?_
                refine Cd.ret [(0, _), (1, _), (2, _)] rfl (res2 rfl rfl rfl) ⟨rfl, rfl, rfl, trivial⟩ ⟨rfl, ?_, rfl⟩
                first
                | (rw [hlk]; rfl)
                | (have hm : may p.perm need = true := by simpa [may] using g38
                   simp [hlk, hm])
                | (have hm : may p.perm need = false := by simpa [may] using g38
                   simp [hlk, hm])
      · have hlk : lookM M a size need = if may p.perm need then 0 else 2 := by rw [lookM, if_neg (by rw [hs]; simp), hg]
        rw [hg] at hget
        refine Jp.slot 10 rfl (show _ = Value.pointer (some ⟨x.blk (baseN a), 0, none⟩) by rw [hget]; rfl) ?_
        have hpo := hf.ok.page _ (getPg_mem hg)
        have hcell := Blks.cell (MemF.blk (x := x) hg) (pageCells_perm p hpo.len)
        refine Jp.y 36 rfl (want_all rfl) rfl rfl Kp.true (Y.move rfl rfl) ?_
        refine Jp.y 37 rfl (want_all rfl) rfl rfl Kp.true (Y.ptrNil rfl Try.underlying138 rfl rfl) ?_
        refine Jp.y 35 rfl (want_all rfl) rfl rfl Kp.true (Y.assign rfl rfl) ?_
        refine Jp.done hK45 ?_
        refine Cd.cond rfl (fun g35 => ?_) (fun g35 => ?_)
        · skip
          try simp only [decide_eq_false_iff_not, decide_eq_true_eq, Int.not_lt, Int.not_le, Bool.not_eq_false, Bool.not_eq_true, Bool.not_true, Bool.not_false, Bool.not_eq_true', Bool.not_eq_false', beq_eq_false_iff_ne, ne_eq, beq_iff_eq, bne_iff_ne, bne_eq_false_iff_eq, Classical.not_not] at g35
          first
          | done
          | (simp at g35; done)
          | skip
            refine Cd.seq fun K50 hK50 => ?_
            refine Cd.plain [(0, false), (1, false)] rfl rfl ?_
            refine Jp.y 8 rfl (want_all rfl) rfl rfl Kp.true (Y.assign rfl rfl) ?_
            refine Jp.y 9 rfl (want_all rfl) rfl rfl Kp.true (Y.assign rfl rfl) ?_
            refine Jp.done hK50 ?_
            refine Cd.ret [(0, _), (1, _), (2, _)] rfl (res2 rfl rfl rfl) ⟨rfl, rfl, rfl, trivial⟩ ⟨rfl, ?_, rfl⟩
            first
            | (rw [hlk]; rfl)
            | (have hm : may p.perm need = true := by simpa [may] using g38
               simp [hlk, hm])
            | (have hm : may p.perm need = false := by simpa [may] using g38
               simp [hlk, hm])
        · skip
          try simp only [decide_eq_false_iff_not, decide_eq_true_eq, Int.not_lt, Int.not_le, Bool.not_eq_false, Bool.not_eq_true, Bool.not_true, Bool.not_false, Bool.not_eq_true', Bool.not_eq_false', beq_eq_false_iff_ne, ne_eq, beq_iff_eq, bne_iff_ne, bne_eq_false_iff_eq, Classical.not_not] at g35
          first
          | done
          | (simp at g35; done)
          | skip
            refine Cd.seq fun K51 hK51 => ?_
            refine Cd.plain [(0, false), (1, false), (2, false), (3, false), (4, false), (5, false), (6, false), (7, false), (8, false)] rfl rfl ?_
            refine Jp.y 39 rfl (want_all rfl) rfl rfl Kp.true (Y.move rfl rfl) ?_
            refine Jp.y 40 rfl (want_all rfl) rfl rfl Kp.true (Y.nilCheck rfl rfl) ?_
            refine Jp.y 41 rfl (want_all rfl) rfl rfl Kp.true (by first | exact Y.fieldAddrP rfl rfl Try.underlying144 rfl Try.sizeOf3 (by decide) (show _ + 256 = _ from rfl) | exact Y.fieldAddr rfl rfl Try.underlying144 rfl Try.sizeOf3 (by decide)) ?_
            refine Jp.y 42 rfl (want_all rfl) rfl rfl Kp.true (by first | exact Y.loadO 0 rfl Try.isAgg3 rfl rfl rfl | exact Y.loadC 2 rfl Try.isAgg3 rfl rfl hcell) ?_
            refine Jp.y 43 rfl (want_all rfl) rfl rfl Kp.true (Y.move rfl rfl) ?_
            refine Jp.y 44 rfl (want_all rfl) rfl rfl Kp.true (Y.bits rfl rfl rfl rfl) ?_
            refine Jp.y 45 rfl (want_all rfl) rfl rfl Kp.true (Y.move rfl rfl) ?_
            refine Jp.y 46 rfl (want_all rfl) rfl rfl Kp.true (Y.neq rfl rfl rfl) ?_
            refine Jp.y 38 rfl (want_all rfl) rfl rfl Kp.true (Y.assign rfl rfl) ?_
            refine Jp.done hK51 ?_
            refine Cd.cond rfl (fun g38 => ?_) (fun g38 => ?_)
            · skip
              try simp only [decide_eq_false_iff_not, decide_eq_true_eq, Int.not_lt, Int.not_le, Bool.not_eq_false, Bool.not_eq_true, Bool.not_true, Bool.not_false, Bool.not_eq_true', Bool.not_eq_false', beq_eq_false_iff_ne, ne_eq, beq_iff_eq, bne_iff_ne, bne_eq_false_iff_eq, Classical.not_not] at g38
              first
              | done
              | (simp at g38; done)
              | skip
                refine Cd.seq fun K52 hK52 => ?_
                refine Cd.plain [(0, false), (1, false)] rfl rfl ?_
                refine Jp.y 8 rfl (want_all rfl) rfl rfl Kp.true (Y.assign rfl rfl) ?_
                refine Jp.y 9 rfl (want_all rfl) rfl rfl Kp.true (Y.assign rfl rfl) ?_
                refine Jp.done hK52 ?_
                refine Cd.ret [(0, _), (1, _), (2, _)] rfl (res2 rfl rfl rfl) ⟨rfl, rfl, rfl, trivial⟩ ⟨rfl, ?_, rfl⟩
                first
                | (rw [hlk]; rfl)
                | (have hm : may p.perm need = true := by simpa [may] using g38
                   simp [hlk, hm])
                | (have hm : may p.perm need = false := by simpa [may] using g38
                   simp [hlk, hm])
            · skip
              try simp only [decide_eq_false_iff_not, decide_eq_true_eq, Int.not_lt, Int.not_le, Bool.not_eq_false, Bool.not_eq_true, Bool.not_true, Bool.not_false, Bool.not_eq_true', Bool.not_eq_false', beq_eq_false_iff_ne, ne_eq, beq_iff_eq, bne_iff_ne, bne_eq_false_iff_eq, Classical.not_not] at g38
              first
              | done
              | (simp at g38; done)
              | skip
                refine Cd.over rfl hK44 ?_
                refine Cd.seq fun K53 hK53 => ?_
                refine Cd.plain [(0, false), (1, false), (2, false)] rfl rfl ?_
                refine Jp.y 47 rfl (want_all rfl) rfl rfl Kp.true (Y.move rfl rfl) ?_
                refine Jp.y 8 rfl (want_all rfl) rfl rfl Kp.true (Y.assign rfl rfl) ?_
                refine Jp.y 9 rfl (want_all rfl) rfl rfl Kp.true (Y.assign rfl rfl) ?_
                refine Jp.done hK53 ?_
                refine Cd.ret [(0, _), (1, _), (2, _)] rfl (res2 rfl rfl rfl) ⟨rfl, rfl, rfl, trivial⟩ ⟨rfl, ?_, rfl⟩
                first
                | (rw [hlk]; rfl)
                | (have hm : may p.perm need = true := by simpa [may] using g38
                   simp [hlk, hm])
                | (have hm : may p.perm need = false := by simpa [may] using g38
                   simp [hlk, hm])
end Go.Proofs.Ytkjeidoplonkjaa
set_option linter.unusedVariables false
set_option linter.unusedSimpArgs false
set_option maxRecDepth 100000
namespace Go.Proofs.Ytkjeidoplonkjaa
open Go
theorem wrap_u32m (n : Nat) : IntKind.u32.wrap (n : Int) = ((n % 4294967296 : Nat) : Int) := by
  simp only [IntKind.wrap, IntKind.bits, IntKind.signed]
  simp
theorem nodup_map_inj {α β : Type} {f : α → β} : ∀ {l : List α}, (l.map f).Nodup → ∀ {x y : α}, x ∈ l → y ∈ l → f x = f y → x = y := by
  intro l
  induction l with
  | nil => intro _ x y h; cases h
  | cons z l ih =>
    intro hn x y hx hy e
    rw [List.map_cons, List.nodup_cons] at hn
    rcases List.mem_cons.1 hx with h1 | h1 <;> rcases List.mem_cons.1 hy with h2 | h2
    · rw [h1, h2]
    · subst h1; exact absurd (e ▸ List.mem_map.2 ⟨y, h2, rfl⟩) hn.1
    · subst h2; exact absurd (e ▸ List.mem_map.2 ⟨x, h1, rfl⟩) hn.1
    · exact ih hn.2 h1 h2 e
theorem MemF.set {M : MemG} {x : MemX} (f : MemF M x) {k : Nat} {p p' : Pg} (hg : getPg M.pages k = some p) (h1 : p'.b.length = 256) (h2 : p'.perm ≤ 7) : MemF { M with pages := setPg M.pages k p' } x :=
  ⟨f.ok.set hg h1 h2, by
    show x.pm.Perm ((setPg M.pages k p').map fun p => ((p.1 : Int), pgPtr x p.1))
    rw [setPg_map _ _ _ fun k => ((k : Int), pgPtr x k)]
    exact f.pages, f.gens⟩
theorem MemF.bump {M : MemG} {x : MemX} (f : MemF M x) (k : Nat) : MemF { M with gens := Ytkjeidoplonkjaa.bump M.gens k } { x with gm := mset x.gm k (.int .u32 (((M.gens k + 1) % 4294967296 : Nat) : Int)) } :=
  ⟨f.ok.bump k, f.pages, fun k' => by
    show (mget (mset x.gm k _) k').getD _ = .int .u32 ((Ytkjeidoplonkjaa.bump M.gens k k' : Nat) : Int)
    rw [mget_mset, Ytkjeidoplonkjaa.bump]
    by_cases h : k' = k
    · subst h; simp
    · rw [if_neg h, if_neg (by omega)]; exact f.gens k'⟩
theorem updB_blks {M : MemG} {x : MemX} (hn : ((blksOf M x).map (·.1)).Nodup) {k : Nat} {p p' : Pg} (hg : getPg M.pages k = some p) : updB (blksOf M x) (x.blk k) (pageO p') = blksOf { M with pages := setPg M.pages k p' } x := by
  rw [updB, blksOf, blksOf, setPg, List.map_map, List.map_map]
  apply List.map_congr_left
  intro y hy
  simp only [Function.comp]
  by_cases h : y.1 = k
  · simp [h]
  · rw [if_neg h, if_neg]
    intro e
    rw [blksOf, List.map_map] at hn
    exact h (congrArg (·.1) (nodup_map_inj (f := fun p : Nat × Pg => x.blk p.1) hn hy (getPg_mem hg) e))
theorem new_spec (budget : Int) : Spec Try.prog 29 #[.int .i64 budget] (fun _ => True) []
    (fun ρ ρ' v L => ρ' = ρ ∧ if 1 ≤ budget ∧ budget ≤ 4096 then ∃ b, v = .tuple #[.pointer (some ⟨b, 0, none⟩), .int .i64 0] ∧ L = [(0, MemO b (newM budget.toNat))] else v = .tuple #[.pointer none, .int .i64 1] ∧ L = []) := by
  refine Spec.of 15 Try.func29 rfl Try.ntmps29 [(0, _)] rfl rfl ?_
  intro cx ρ hr h0
  refine Cd.seq fun K1 hK1 => ?_
  refine Cd.plain [(0, false), (1, false)] rfl rfl ?_
  refine Jp.y 2 rfl (want_all rfl) rfl rfl Kp.true (Y.assign rfl rfl) ?_
  refine Jp.y 3 rfl (want_all rfl) rfl rfl Kp.true (Y.assign rfl rfl) ?_
  refine Jp.done hK1 ?_
  refine Cd.seq fun K2 hK2 => ?_
  refine Cd.seq fun K3 hK3 => ?_
  refine Cd.plain [(0, false), (1, false), (2, false), (3, false), (4, false), (5, false)] rfl rfl ?_
  refine Jp.y 4 rfl (want_all rfl) rfl rfl Kp.true (Y.move rfl rfl) ?_
  refine Jp.y 5 rfl (want_all rfl) rfl rfl Kp.true (Y.lss rfl rfl rfl) ?_
  refine Jp.y 6 rfl (want_all rfl) rfl rfl Kp.true (Y.move rfl rfl) ?_
  refine Jp.split 6 rfl (fun g6 => ?_) (fun g6 => ?_)
  · skip
    try simp only [decide_eq_false_iff_not, decide_eq_true_eq, Int.not_lt, Int.not_le, Bool.not_eq_false, Bool.not_eq_true, Bool.not_true, Bool.not_false, Bool.not_eq_true', Bool.not_eq_false', beq_eq_false_iff_ne, ne_eq, beq_iff_eq, bne_iff_ne, bne_eq_false_iff_eq, Classical.not_not] at g6
    refine Jp.skip 7 rfl (want_as rfl rfl rfl rfl) rfl rfl Kp.true ?_
    refine Jp.skip 8 rfl (want_as rfl rfl rfl rfl) rfl rfl Kp.true ?_
    refine Jp.y 9 rfl (want_all rfl) rfl rfl Kp.true (Y.pickT rfl rfl rfl) ?_
    refine Jp.done hK3 ?_
    refine Cd.condT rfl ?_
    refine Cd.seq fun K4 hK4 => ?_
    refine Cd.plain [(0, false), (1, false)] rfl rfl ?_
    refine Jp.y 2 rfl (want_all rfl) rfl rfl Kp.true (Y.assign rfl rfl) ?_
    refine Jp.y 3 rfl (want_all rfl) rfl rfl Kp.true (Y.assign rfl rfl) ?_
    refine Jp.done hK4 ?_
    refine Cd.ret [] rfl (res2 rfl rfl rfl) trivial ⟨rfl, ?_⟩
    rw [if_neg (by omega)]
    exact ⟨rfl, rfl⟩
  try simp only [decide_eq_false_iff_not, decide_eq_true_eq, Int.not_lt, Int.not_le, Bool.not_eq_false, Bool.not_eq_true, Bool.not_true, Bool.not_false, Bool.not_eq_true', Bool.not_eq_false', beq_eq_false_iff_ne, ne_eq, beq_iff_eq, bne_iff_ne, bne_eq_false_iff_eq, Classical.not_not] at g6
  refine Jp.y 7 rfl (want_as rfl rfl rfl rfl) rfl rfl Kp.true (Y.move rfl rfl) ?_
  refine Jp.y 8 rfl (want_as rfl rfl rfl rfl) rfl rfl Kp.true (Y.gtr rfl rfl rfl) ?_
  refine Jp.y 9 rfl (want_all rfl) rfl rfl Kp.true (Y.pickF rfl rfl rfl) ?_
  refine Jp.done hK3 ?_
  refine Cd.cond rfl (fun g9 => ?_) (fun g9 => ?_)
  · skip
    try simp only [decide_eq_false_iff_not, decide_eq_true_eq, Int.not_lt, Int.not_le, Bool.not_eq_false, Bool.not_eq_true, Bool.not_true, Bool.not_false, Bool.not_eq_true', Bool.not_eq_false', beq_eq_false_iff_ne, ne_eq, beq_iff_eq, bne_iff_ne, bne_eq_false_iff_eq, Classical.not_not] at g9
    refine Cd.seq fun K5 hK5 => ?_
    refine Cd.plain [(0, false), (1, false)] rfl rfl ?_
    refine Jp.y 2 rfl (want_all rfl) rfl rfl Kp.true (Y.assign rfl rfl) ?_
    refine Jp.y 3 rfl (want_all rfl) rfl rfl Kp.true (Y.assign rfl rfl) ?_
    refine Jp.done hK5 ?_
    refine Cd.ret [] rfl (res2 rfl rfl rfl) trivial ⟨rfl, ?_⟩
    rw [if_neg (by omega)]
    exact ⟨rfl, rfl⟩
  try simp only [decide_eq_false_iff_not, decide_eq_true_eq, Int.not_lt, Int.not_le, Bool.not_eq_false, Bool.not_eq_true, Bool.not_true, Bool.not_false, Bool.not_eq_true', Bool.not_eq_false', beq_eq_false_iff_ne, ne_eq, beq_iff_eq, bne_iff_ne, bne_eq_false_iff_eq, Classical.not_not] at g9
  refine Cd.skip hK2 ?_
  refine Cd.seq fun K6 hK6 => ?_
  refine Cd.plain [(0, false), (1, false), (2, false), (3, false), (4, false), (5, false), (6, false)] rfl rfl ?_
  refine Jp.y 10 rfl (want_all rfl) rfl rfl Kp.true (Y.move rfl rfl) ?_
  refine Jp.makeMap 11 1 .u32 rfl (want_all rfl) rfl rfl rfl fun b1 => ⟨Kp.true, ?_⟩
  refine Jp.makeMap 12 2 .u32 rfl (want_all rfl) rfl rfl rfl fun b2 => ⟨Kp.true, ?_⟩
  refine Jp.y 13 rfl (want_all rfl) rfl rfl Kp.true (Y.struct [(0, _), (1, _), (2, _)] [_, _, _] rfl rfl places142 Try.zeroValue142 rfl) ?_
  refine Jp.box 0 14 rfl (want_all rfl) rfl rfl rfl rfl fun b0 => ⟨Kp.true, ?_⟩
  refine Jp.y 2 rfl (want_all rfl) rfl rfl Kp.true (Y.assign rfl rfl) ?_
  refine Jp.y 3 rfl (want_all rfl) rfl rfl Kp.true (Y.assign rfl rfl) ?_
  refine Jp.done hK6 ?_
  obtain ⟨m, rfl⟩ := Int.eq_ofNat_of_zero_le (show 0 ≤ budget by omega)
  refine Cd.make 53 Blks.nil ?_
  have hok : MemOk (newM m) := ⟨List.Pairwise.nil, fun x h => (List.not_mem_nil h).elim, fun k => (by show 0 < 4294967296; omega), Nat.zero_le _, (by show 1 ≤ m ∧ m ≤ 4096; omega)⟩
  refine Cd.memClose (M := newM m) (x := ⟨b1, b2, [], [], fun _ => 0⟩) 0 1 2 53 (by decide) ⟨hok, List.Perm.refl _, fun k => rfl⟩ rfl rfl rfl rfl ?_
  refine Cd.ret [(0, _)] rfl (res2 rfl rfl rfl) ⟨rfl, trivial⟩ ⟨rfl, ?_⟩
  rw [if_pos (by omega)]
  exact ⟨b0, rfl, rfl⟩
theorem perm_spec (b : Nat) (M : MemG) (a : Nat) (ha : a < 4294967296) : Spec Try.prog 26 #[.pointer (some ⟨b, 0, none⟩), .int .u32 a] (fun _ => True) [(0, MemO b M)]
    (fun ρ ρ' v L => ρ' = ρ ∧ v = .tuple #[.int .i64 (permM M a).1, .bool (permM M a).2] ∧ L = [(0, MemO b M)]) := by
  refine Spec.of 20 Try.func26 rfl Try.ntmps26 [(0, _), (1, _)] rfl rfl ?_
  intro cx ρ hr h0
  refine Cd.memOpen 0 1 2 3 (by decide) rfl fun x hf => ?_
  refine Cd.seq fun K7 hK7 => ?_
  refine Cd.plain [(0, false), (1, false)] rfl rfl ?_
  refine Jp.y 4 rfl (want_all rfl) rfl rfl Kp.true (Y.assign rfl rfl) ?_
  refine Jp.y 5 rfl (want_all rfl) rfl rfl Kp.true (Y.assign rfl rfl) ?_
  refine Jp.done hK7 ?_
  refine Cd.seq fun K8 hK8 => ?_
  refine Cd.drawn [(0, _), (1, _)] ⟨rfl, rfl, trivial⟩ [(0, true), (1, true), (2, true), (3, true), (4, true), (5, false), (6, true), (7, true)] follows (by kernel_rfl) (fun hrl => ?_)
  refine Jp.q 7 rfl (want_all rfl) rfl rfl (Y.move rfl rfl) ?_
  refine Jp.q 8 rfl (want_all rfl) rfl rfl (Y.nilCheck rfl rfl) ?_
  refine Jp.q 9 rfl (want_all rfl) rfl rfl (by first | exact Y.fieldAddrP rfl rfl Try.underlying142 rfl Try.sizeOf139 (by decide) (show _ + 1 = _ from rfl) | exact Y.fieldAddr rfl rfl Try.underlying142 rfl Try.sizeOf139 (by decide)) ?_
  refine Jp.q 10 rfl (want_all rfl) rfl rfl (Y.loadO 0 rfl Try.isAgg139 rfl rfl rfl) ?_
  refine Jp.q 11 rfl (want_all rfl) rfl rfl (Y.move rfl rfl) ?_
  refine Jp.call [] [] (base_spec a ha) 12 rfl (want_all rfl) rfl rfl (Runs.fn rfl Try.call48 rfl) (by decide) (by decide) rfl trivial ?_
  rintro v101 ρ101 L101 ⟨rfl, rfl, rfl⟩
  refine ⟨rfl, fun hle101 => ⟨(Kp.st ⟨rfl, rfl, trivial⟩), ?_⟩⟩
  refine Jp.q 13 rfl (want_all rfl) rfl rfl (by first | exact Y.lookup 1 rfl rfl rfl Try.underlying139 Try.underlying25 Try.zeroValue138 rfl) ?_
  refine Jp.q 6 rfl (want_all rfl) rfl rfl (Y.assign rfl rfl) ?_
  refine Jp.done hK8 ?_
  refine Cd.seq fun K10 hK10 => ?_
  refine Cd.seq fun K11 hK11 => ?_
  refine Cd.plain [(0, false), (1, false)] rfl rfl ?_
  have hget := hf.get (baseN a)
  rcases hg : getPg M.pages (baseN a) with _ | p
  · rw [hg] at hget
    refine Jp.slot 6 rfl (show _ = Value.pointer none by rw [hget]; rfl) ?_
    refine Jp.y 14 rfl (want_all rfl) rfl rfl Kp.true (Y.move rfl rfl) ?_
    refine Jp.y 15 rfl (want_all rfl) rfl rfl Kp.true (Y.ptrNil rfl Try.underlying138 rfl rfl) ?_
    refine Jp.done hK11 ?_
    refine Cd.cond rfl (fun g15 => ?_) (fun g15 => ?_)
    · skip
      try simp only [decide_eq_false_iff_not, decide_eq_true_eq, Int.not_lt, Int.not_le, Bool.not_eq_false, Bool.not_eq_true, Bool.not_true, Bool.not_false, Bool.not_eq_true', Bool.not_eq_false', beq_eq_false_iff_ne, ne_eq, beq_iff_eq, bne_iff_ne, bne_eq_false_iff_eq, Classical.not_not] at g15
      first
      | done
      | (simp at g15; done)
      | skip
        refine Cd.seq fun K12 hK12 => ?_
        refine Cd.plain [(0, false), (1, false)] rfl rfl ?_
        refine Jp.y 4 rfl (want_all rfl) rfl rfl Kp.true (Y.assign rfl rfl) ?_
        refine Jp.y 5 rfl (want_all rfl) rfl rfl Kp.true (Y.assign rfl rfl) ?_
        refine Jp.done hK12 ?_
        refine Cd.memClose 0 1 2 3 (by decide) hf rfl rfl rfl rfl ?_
        refine Cd.ret [(0, _)] rfl (res2 rfl rfl rfl) ⟨rfl, trivial⟩ ⟨rfl, ?_, rfl⟩
        rw [permM, hg]
    · skip
      try simp only [decide_eq_false_iff_not, decide_eq_true_eq, Int.not_lt, Int.not_le, Bool.not_eq_false, Bool.not_eq_true, Bool.not_true, Bool.not_false, Bool.not_eq_true', Bool.not_eq_false', beq_eq_false_iff_ne, ne_eq, beq_iff_eq, bne_iff_ne, bne_eq_false_iff_eq, Classical.not_not] at g15
      first
      | done
      | (simp at g15; done)
      | skip
        refine Cd.skip hK10 ?_
        refine Cd.seq fun K13 hK13 => ?_
        refine Cd.plain [(0, false), (1, false), (2, false), (3, false), (4, false), (5, false)] rfl rfl ?_
        refine Jp.y 16 rfl (want_all rfl) rfl rfl Kp.true (Y.move rfl rfl) ?_
        refine Jp.y 17 rfl (want_all rfl) rfl rfl Kp.true (Y.nilCheck rfl rfl) ?_
        refine Jp.y 18 rfl (want_all rfl) rfl rfl Kp.true (by first | exact Y.fieldAddrP rfl rfl Try.underlying144 rfl Try.sizeOf3 (by decide) (show _ + 256 = _ from rfl) | exact Y.fieldAddr rfl rfl Try.underlying144 rfl Try.sizeOf3 (by decide)) ?_
        refine Jp.y 19 rfl (want_all rfl) rfl rfl Kp.true (Y.loadO 0 rfl Try.isAgg3 rfl rfl rfl) ?_
        refine Jp.y 4 rfl (want_all rfl) rfl rfl Kp.true (Y.assign rfl rfl) ?_
        refine Jp.y 5 rfl (want_all rfl) rfl rfl Kp.true (Y.assign rfl rfl) ?_
        refine Jp.done hK13 ?_
        refine Cd.memClose 0 1 2 3 (by decide) hf rfl rfl rfl rfl ?_
        refine Cd.ret [(0, _)] rfl (res2 rfl rfl rfl) ⟨rfl, trivial⟩ ⟨rfl, ?_, rfl⟩
        rw [permM, hg]
  · rw [hg] at hget
    refine Jp.slot 6 rfl (show _ = Value.pointer (some ⟨x.blk (baseN a), 0, none⟩) by rw [hget]; rfl) ?_
    have hpo := hf.ok.page _ (getPg_mem hg)
    have hcell := Blks.cell (MemF.blk (x := x) hg) (pageCells_perm p hpo.len)
    refine Jp.y 14 rfl (want_all rfl) rfl rfl Kp.true (Y.move rfl rfl) ?_
    refine Jp.y 15 rfl (want_all rfl) rfl rfl Kp.true (Y.ptrNil rfl Try.underlying138 rfl rfl) ?_
    refine Jp.done hK11 ?_
    refine Cd.cond rfl (fun g15 => ?_) (fun g15 => ?_)
    · skip
      try simp only [decide_eq_false_iff_not, decide_eq_true_eq, Int.not_lt, Int.not_le, Bool.not_eq_false, Bool.not_eq_true, Bool.not_true, Bool.not_false, Bool.not_eq_true', Bool.not_eq_false', beq_eq_false_iff_ne, ne_eq, beq_iff_eq, bne_iff_ne, bne_eq_false_iff_eq, Classical.not_not] at g15
      first
      | done
      | (simp at g15; done)
      | skip
        refine Cd.seq fun K14 hK14 => ?_
        refine Cd.plain [(0, false), (1, false)] rfl rfl ?_
        refine Jp.y 4 rfl (want_all rfl) rfl rfl Kp.true (Y.assign rfl rfl) ?_
        refine Jp.y 5 rfl (want_all rfl) rfl rfl Kp.true (Y.assign rfl rfl) ?_
        refine Jp.done hK14 ?_
        refine Cd.memClose 0 1 2 3 (by decide) hf rfl rfl rfl rfl ?_
        refine Cd.ret [(0, _)] rfl (res2 rfl rfl rfl) ⟨rfl, trivial⟩ ⟨rfl, ?_, rfl⟩
        rw [permM, hg]
    · skip
      try simp only [decide_eq_false_iff_not, decide_eq_true_eq, Int.not_lt, Int.not_le, Bool.not_eq_false, Bool.not_eq_true, Bool.not_true, Bool.not_false, Bool.not_eq_true', Bool.not_eq_false', beq_eq_false_iff_ne, ne_eq, beq_iff_eq, bne_iff_ne, bne_eq_false_iff_eq, Classical.not_not] at g15
      first
      | done
      | (simp at g15; done)
      | skip
        refine Cd.skip hK10 ?_
        refine Cd.seq fun K15 hK15 => ?_
        refine Cd.plain [(0, false), (1, false), (2, false), (3, false), (4, false), (5, false)] rfl rfl ?_
        refine Jp.y 16 rfl (want_all rfl) rfl rfl Kp.true (Y.move rfl rfl) ?_
        refine Jp.y 17 rfl (want_all rfl) rfl rfl Kp.true (Y.nilCheck rfl rfl) ?_
        refine Jp.y 18 rfl (want_all rfl) rfl rfl Kp.true (by first | exact Y.fieldAddrP rfl rfl Try.underlying144 rfl Try.sizeOf3 (by decide) (show _ + 256 = _ from rfl) | exact Y.fieldAddr rfl rfl Try.underlying144 rfl Try.sizeOf3 (by decide)) ?_
        refine Jp.y 19 rfl (want_all rfl) rfl rfl Kp.true (by first | exact Y.loadO 0 rfl Try.isAgg3 rfl rfl rfl | exact Y.loadC 3 rfl Try.isAgg3 rfl rfl hcell) ?_
        refine Jp.y 4 rfl (want_all rfl) rfl rfl Kp.true (Y.assign rfl rfl) ?_
        refine Jp.y 5 rfl (want_all rfl) rfl rfl Kp.true (Y.assign rfl rfl) ?_
        refine Jp.done hK15 ?_
        refine Cd.memClose 0 1 2 3 (by decide) hf rfl rfl rfl rfl ?_
        refine Cd.ret [(0, _)] rfl (res2 rfl rfl rfl) ⟨rfl, trivial⟩ ⟨rfl, ?_, rfl⟩
        rw [permM, hg]
end Go.Proofs.Ytkjeidoplonkjaa
set_option linter.unusedVariables false
set_option linter.unusedSimpArgs false
set_option maxRecDepth 100000
namespace Go.Proofs.Ytkjeidoplonkjaa
open Go
theorem lookM_ok {M : MemG} {a : Nat} {size need : Int} (h : lookM M a size need = 0) : sizeOk a size = true ∧ ∃ p, getPg M.pages (baseN a) = some p ∧ may p.perm need = true := by
  rw [lookM] at h
  split at h
  · omega
  · rename_i hs
    refine ⟨by simpa using hs, ?_⟩
    split at h
    · omega
    · rename_i p hp
      refine ⟨p, hp, ?_⟩
      split at h
      · assumption
      · omega
theorem sizeOk_nat {a : Nat} {size : Int} (h : sizeOk a size = true) : ∃ n : Nat, size = n ∧ (n = 1 ∨ n = 2 ∨ n = 4) ∧ a % 256 + n ≤ 256 := by
  simp only [sizeOk, Bool.and_eq_true, Bool.or_eq_true, beq_iff_eq] at h
  obtain ⟨(h1 | h1) | h1, h2⟩ := h
  · exact ⟨1, h1, by omega, by omega⟩
  · subst h1; exact ⟨2, rfl, by omega, by omega⟩
  · subst h1; exact ⟨4, rfl, by omega, by omega⟩
theorem pageCells_byte (p : Pg) {j : Nat} (h : p.b.length = 256) (hj : j < 256) : (pageCells p).toArray[j]? = some (.int .u8 ((p.b[j]'(by omega)).toNat : Int)) := by
  have hj' : j < p.b.length := by omega
  rw [pageCells, List.getElem?_toArray, List.getElem?_append_left (by rw [bytesV, List.length_map]; exact hj'), bytesV, List.getElem?_map, List.getElem?_eq_getElem hj']; rfl
theorem load_spec (b : Nat) (M : MemG) (a : Nat) (size need : Int) (ha : a < 4294967296) : Spec Try.prog 27 #[.pointer (some ⟨b, 0, none⟩), .int .u32 a, .int .i64 size, .int .i64 need] (fun _ => True) [(0, MemO b M)]
    (fun ρ ρ' v L => ρ' = ρ ∧ v = .tuple #[.int .u32 (loadM M a size need).1, .int .i64 (loadM M a size need).2] ∧ L = [(0, MemO b M)]) := by
  refine Spec.of 47 Try.func27 rfl Try.ntmps27 [(0, _), (1, _), (2, _), (3, _)] rfl rfl ?_
  intro cx ρ hr h0
  refine Cd.memOpen 0 1 2 3 (by decide) rfl fun x hf => ?_
  refine Cd.seq fun K1 hK1 => ?_
  refine Cd.plain [(0, false), (1, false)] rfl rfl ?_
  refine Jp.y 8 rfl (want_all rfl) rfl rfl Kp.true (Y.assign rfl rfl) ?_
  refine Jp.y 9 rfl (want_all rfl) rfl rfl Kp.true (Y.assign rfl rfl) ?_
  refine Jp.done hK1 ?_
  refine Cd.seq fun K2 hK2 => ?_
  refine Cd.plain [(0, false), (1, false), (2, false), (3, false), (4, false), (5, false), (6, false), (7, false), (8, false), (9, false)] rfl rfl ?_
  refine Jp.y 15 rfl (want_all rfl) rfl rfl Kp.true (Y.move rfl rfl) ?_
  refine Jp.y 16 rfl (want_all rfl) rfl rfl Kp.true (Y.move rfl rfl) ?_
  refine Jp.y 17 rfl (want_all rfl) rfl rfl Kp.true (Y.move rfl rfl) ?_
  refine Jp.y 18 rfl (want_all rfl) rfl rfl Kp.true (Y.move rfl rfl) ?_
  refine Jp.call [0, 1, 3] [0, 1, 3] (look_spec b M x hf a size need ha) 19 rfl (want_all rfl) rfl rfl (Runs.fn rfl Try.call49 rfl) (by decide) (by decide) rfl trivial ?_
  rintro v101 ρ101 L101 ⟨rfl, rfl, rfl⟩
  refine ⟨rfl, fun hle101 => ⟨Kp.true, ?_⟩⟩
  refine Jp.y 14 rfl (want_all rfl) rfl rfl Kp.true (Y.move rfl rfl) ?_
  refine Jp.y 20 rfl (want_all rfl) rfl rfl Kp.true (Y.extract rfl rfl rfl) ?_
  refine Jp.y 21 rfl (want_all rfl) rfl rfl Kp.true (Y.extract rfl rfl rfl) ?_
  refine Jp.y 10 rfl (want_all rfl) rfl rfl Kp.true (Y.assign rfl rfl) ?_
  refine Jp.y 11 rfl (want_all rfl) rfl rfl Kp.true (Y.assign rfl rfl) ?_
  refine Jp.done hK2 ?_
  refine Cd.seq fun K3 hK3 => ?_
  refine Cd.seq fun K4 hK4 => ?_
  refine Cd.plain [(0, false), (1, false)] rfl rfl ?_
  refine Jp.y 22 rfl (want_all rfl) rfl rfl Kp.true (Y.move rfl rfl) ?_
  refine Jp.y 23 rfl (want_all rfl) rfl rfl Kp.true (Y.neq rfl rfl rfl) ?_
  refine Jp.done hK4 ?_
  refine Cd.cond rfl (fun g23 => ?_) (fun g23 => ?_)
  · skip
    try simp only [decide_eq_false_iff_not, decide_eq_true_eq, Int.not_lt, Int.not_le, Bool.not_eq_false, Bool.not_eq_true, Bool.not_true, Bool.not_false, Bool.not_eq_true', Bool.not_eq_false', beq_eq_false_iff_ne, ne_eq, beq_iff_eq, bne_iff_ne, bne_eq_false_iff_eq, Classical.not_not] at g23
    refine Cd.seq fun K5 hK5 => ?_
    refine Cd.plain [(0, false), (1, false), (2, false)] rfl rfl ?_
    refine Jp.y 24 rfl (want_all rfl) rfl rfl Kp.true (Y.move rfl rfl) ?_
    refine Jp.y 8 rfl (want_all rfl) rfl rfl Kp.true (Y.assign rfl rfl) ?_
    refine Jp.y 9 rfl (want_all rfl) rfl rfl Kp.true (Y.assign rfl rfl) ?_
    refine Jp.done hK5 ?_
    refine Cd.memClose 0 1 2 3 (by decide) hf rfl rfl rfl rfl ?_
    refine Cd.ret [(0, _)] rfl (res2 rfl rfl rfl) ⟨rfl, trivial⟩ ⟨rfl, ?_, rfl⟩
    rw [loadM, if_neg g23]; rfl
  try simp only [decide_eq_false_iff_not, decide_eq_true_eq, Int.not_lt, Int.not_le, Bool.not_eq_false, Bool.not_eq_true, Bool.not_true, Bool.not_false, Bool.not_eq_true', Bool.not_eq_false', beq_eq_false_iff_ne, ne_eq, beq_iff_eq, bne_iff_ne, bne_eq_false_iff_eq, Classical.not_not] at g23
  refine Cd.skip hK3 ?_
  refine Cd.seq fun K6 hK6 => ?_
  refine Cd.plain [(0, false)] rfl rfl ?_
  obtain ⟨hs, p, hg, hm⟩ := lookM_ok g23
  obtain ⟨n, rfl, hn1, hn2⟩ := sizeOk_nat hs
  have hpo := hf.ok.page _ (getPg_mem hg)
  have hlen : p.b.length = 256 := hpo.len
  have hV : loadM M a n need = (leN ((p.b.drop (a % 256)).take n), 0) := by rw [loadM, if_pos g23, hg]; rfl
  refine Jp.slot 10 rfl (show _ = Value.pointer (some ⟨x.blk (baseN a), 0, none⟩) by rw [if_pos g23]) ?_
  refine Jp.y 12 rfl (want_all rfl) rfl rfl Kp.true (Y.assign rfl rfl) ?_
  refine Jp.done hK6 ?_
  refine Cd.seq fun K7 hK7 => ?_
  refine Cd.seq fun K8 hK8 => ?_
  refine Cd.plain [(0, false), (1, false), (2, false)] rfl rfl ?_
  refine Jp.y 25 rfl (want_all rfl) rfl rfl Kp.true (Y.move rfl rfl) ?_
  refine Jp.y 26 rfl (want_all rfl) rfl rfl Kp.true (Y.conv_ rfl rfl Try.underlying3 Try.underlying25 (by first | exact wrap_u32 (by omega) (by omega) | rfl)) ?_
  refine Jp.y 27 rfl (want_all rfl) rfl rfl Kp.true (Y.move rfl rfl) ?_
  refine Jp.done hK8 ?_
  refine Cd.block ?_
  refine Cd.loopK (G := Nat) (fun k => k ≤ n) (fun k => n - k) (fun _ => _) (fun k => [(12, .int .u32 (leN ((p.b.drop (a % 256)).take k))), (27, .int .u32 k)]) [(1, _), (10, _), (26, _)] (fun _ => []) [(0, _), (1, _), (2, _), (3, _)] 0 (Nat.zero_le _) rfl ⟨rfl, rfl, trivial⟩ ⟨rfl, rfl, rfl, trivial⟩ trivial ⟨rfl, rfl, rfl, rfl, trivial⟩ (fun g KLa hok hLa => ?_)
  refine Cd.seq fun K9 hK9 => ?_
  refine Cd.plain [(0, false)] rfl rfl ?_
  refine Jp.y 28 rfl (want_all rfl) rfl rfl Kp.true (Y.lss rfl rfl rfl) ?_
  refine Jp.done hK9 ?_
  refine Cd.seq fun K10 hK10 => ?_
  refine Cd.cond rfl (fun ga => ?_) (fun ga => ?_)
  · simp only [decide_eq_true_eq] at ga
    have hgn : g < n := by omega
    have hj : a % 256 + g < 256 := by omega
    have hcell := Blks.cell (MemF.blk (x := x) hg) (pageCells_byte p hlen hj)
    have hb := (p.b[a % 256 + g]'(by omega)).toNat_lt
    refine Cd.skip hK10 ?_
    refine Cd.seq fun K11 hK11 => ?_
    refine Cd.block ?_
    refine Cd.seq fun K12 hK12 => ?_
    refine Cd.plain [(0, false), (1, false)] rfl rfl ?_
    refine Jp.y 29 rfl (want_all rfl) rfl rfl Kp.true (Y.move rfl rfl) ?_
    refine Jp.y 13 rfl (want_all rfl) rfl rfl Kp.true (Y.assign rfl rfl) ?_
    refine Jp.done hK12 ?_
    refine Cd.plain [(0, false), (1, false), (2, false), (3, false), (4, false), (5, false), (6, false), (7, false), (8, false), (9, false), (10, false), (11, false), (12, false), (13, false), (14, false), (15, false)] rfl rfl ?_
    refine Jp.y 30 rfl (want_all rfl) rfl rfl Kp.true (Y.move rfl rfl) ?_
    refine Jp.y 31 rfl (want_all rfl) rfl rfl Kp.true (Y.move rfl rfl) ?_
    refine Jp.y 32 rfl (want_all rfl) rfl rfl Kp.true (Y.move rfl rfl) ?_
    refine Jp.y 33 rfl (want_all rfl) rfl rfl Kp.true (by first | exact Y.remN rfl rfl rfl (by omega) (by omega) | exact Y.rem rfl rfl rfl (by first | decide | omega)) ?_
    refine Jp.y 34 rfl (want_all rfl) rfl rfl Kp.true (Y.move rfl rfl) ?_
    refine Jp.y 35 rfl (want_all rfl) rfl rfl Kp.true (Y.add_ rfl rfl rfl (by first | exact wrap_u32 (by omega) (by omega) | rfl)) ?_
    refine Jp.y 36 rfl (want_all rfl) rfl rfl Kp.true (Y.nilCheck rfl rfl) ?_
    refine Jp.y 37 rfl (want_all rfl) rfl rfl Kp.true (by first | exact Y.fieldAddrP rfl rfl Try.underlying144 rfl Try.sizeOf114 (by decide) (show _ + 0 = _ from rfl) | exact Y.fieldAddr rfl rfl Try.underlying144 rfl Try.sizeOf114 (by decide)) ?_
    refine Jp.y 38 rfl (want_all rfl) rfl rfl Kp.true (Y.indexArrP (q := a % 256 + g) rfl rfl rfl Try.underlying114 Try.sizeOf5 (by omega) (by omega) (by omega)) ?_
    refine Jp.y 39 rfl (want_all rfl) rfl rfl Kp.true (by first | exact Y.loadO 0 rfl Try.isAgg5 rfl rfl rfl | exact Y.loadC 3 rfl Try.isAgg5 rfl rfl hcell) ?_
    refine Jp.y 40 rfl (want_all rfl) rfl rfl Kp.true (Y.conv_ rfl rfl Try.underlying5 Try.underlying25 (by first | exact wrap_u32 (by omega) (by omega) | rfl)) ?_
    refine Jp.y 41 rfl (want_all rfl) rfl rfl Kp.true (Y.move rfl rfl) ?_
    refine Jp.y 42 rfl (want_all rfl) rfl rfl Kp.true (Y.mul_ rfl rfl rfl (by first | exact wrap_u32 (by omega) (by omega) | rfl)) ?_
    refine Jp.y 43 rfl (want_all rfl) rfl rfl Kp.true (Y.shl rfl rfl rfl (by first | decide | omega)) ?_
    refine Jp.y 44 rfl (want_all rfl) rfl rfl Kp.true (Y.bits rfl rfl rfl rfl) ?_
    refine Jp.y 12 rfl (want_all rfl) rfl rfl Kp.true (Y.assign rfl rfl) ?_
    refine Jp.over rfl hK11 ?_
    refine Cd.plain [(0, false), (1, false)] rfl rfl ?_
    refine Jp.slot 12 rfl (congrArg (Value.int .u32) (le_or2 (i := g) (by rw [List.length_take, List.length_drop]; omega) (by omega))) ?_
    have e : (p.b.drop (a % 256)).take g ++ [p.b[a % 256 + g]'(by omega)] = (p.b.drop (a % 256)).take (g + 1) := by
      rw [List.take_succ_eq_append_getElem (by rw [List.length_drop]; omega), List.getElem_drop]
    rw [e]
    refine Jp.y 45 rfl (want_all rfl) rfl rfl Kp.true (Y.add_ rfl rfl rfl (by first | exact wrap_u32 (by omega) (by omega) | rfl)) ?_
    refine Jp.y 27 rfl (want_all rfl) rfl rfl Kp.true (Y.move rfl rfl) ?_
    refine Jp.again hLa (g + 1) (by omega) (by omega) rfl ⟨rfl, rfl, rfl, rfl, rfl, trivial⟩ ⟨rfl, rfl, rfl, rfl, trivial⟩
  · simp only [decide_eq_false_iff_not] at ga
    obtain rfl : g = n := by omega
    refine Cd.exit rfl hK7 ?_
    refine Cd.seq fun K13 hK13 => ?_
    refine Cd.plain [(0, false), (1, false), (2, false)] rfl rfl ?_
    refine Jp.y 46 rfl (want_all rfl) rfl rfl Kp.true (Y.move rfl rfl) ?_
    refine Jp.y 8 rfl (want_all rfl) rfl rfl Kp.true (Y.assign rfl rfl) ?_
    refine Jp.y 9 rfl (want_all rfl) rfl rfl Kp.true (Y.assign rfl rfl) ?_
    refine Jp.done hK13 ?_
    refine Cd.memClose 0 1 2 3 (by decide) hf rfl rfl rfl rfl ?_
    refine Cd.ret [(0, _)] rfl (res2 rfl rfl rfl) ⟨rfl, trivial⟩ ⟨rfl, ?_, rfl⟩
    rw [hV]
theorem pageCells_lay (p : Pg) {off k v : Nat} (h : p.b.length = 256) (hk : off + k < 256) : (pageCells (stPg p off k v)).toArray.setIfInBounds (off + k) (.int .u8 ((UInt8.ofNat (v / 2 ^ (8 * k))).toNat : Int)) = (pageCells (stPg p off (k + 1) v)).toArray := by
  rw [List.setIfInBounds_toArray]
  congr 1
  have hl : (lay p.b off (leB v k)).length = 256 := by rw [lay_length (by rw [leB_length]; omega), h]
  rw [pageCells, List.set_append_left _ _ (by rw [bytesV, List.length_map]; show off + k < (lay p.b off (leB v k)).length; omega), bytesV_set]
  show bytesV ((lay p.b off (leB v k)).set (off + k) _) ++ _ = _
  have := lay_snoc_set (p := p.b) (k := off) (a := leB v k) (x := UInt8.ofNat (v / 2 ^ (8 * k))) (by rw [leB_length]; omega)
  rw [leB_length] at this
  rw [this, ← leB_succ]; rfl
theorem stPg_len {p : Pg} {off k v : Nat} (h : p.b.length = 256) (hk : off + k ≤ 256) : (stPg p off k v).b.length = 256 := by
  show (lay p.b off (leB v k)).length = 256
  rw [lay_length (by rw [leB_length]; omega), h]
def stMem (M : MemG) (key : Nat) (p : Pg) (off k v : Nat) : MemG := { M with pages := setPg M.pages key (stPg p off k v) }
theorem store_spec (b : Nat) (M : MemG) (a : Nat) (size : Int) (v : Nat) (ha : a < 4294967296) (hv : v < 4294967296) : Spec Try.prog 64 #[.pointer (some ⟨b, 0, none⟩), .int .u32 a, .int .i64 size, .int .u32 v] (fun _ => True) [(0, MemO b M)]
    (fun ρ ρ' r L => ρ' = ρ ∧ r = .int .i64 (storeM M a size v).1 ∧ L = [(0, MemO b (storeM M a size v).2)]) := by
  refine Spec.of 49 Try.func64 rfl Try.ntmps64 [(0, _), (1, _), (2, _), (3, _)] rfl rfl ?_
  intro cx ρ hr h0
  refine Cd.memOpen 0 1 2 3 (by decide) rfl fun x hf => ?_
  refine Cd.seq fun K14 hK14 => ?_
  refine Cd.plain [(0, false)] rfl rfl ?_
  refine Jp.y 8 rfl (want_all rfl) rfl rfl Kp.true (Y.assign rfl rfl) ?_
  refine Jp.done hK14 ?_
  refine Cd.seq fun K15 hK15 => ?_
  refine Cd.plain [(0, false), (1, false), (2, false), (3, false), (4, false), (5, false), (6, false), (7, false), (8, false)] rfl rfl ?_
  refine Jp.y 13 rfl (want_all rfl) rfl rfl Kp.true (Y.move rfl rfl) ?_
  refine Jp.y 14 rfl (want_all rfl) rfl rfl Kp.true (Y.move rfl rfl) ?_
  refine Jp.y 15 rfl (want_all rfl) rfl rfl Kp.true (Y.move rfl rfl) ?_
  refine Jp.call [0, 1, 3] [0, 1, 3] (look_spec b M x hf a size 2 ha) 16 rfl (want_all rfl) rfl rfl (Runs.fn rfl Try.call49 rfl) (by decide) (by decide) rfl trivial ?_
  rintro v102 ρ102 L102 ⟨rfl, rfl, rfl⟩
  refine ⟨rfl, fun hle102 => ⟨Kp.true, ?_⟩⟩
  refine Jp.y 12 rfl (want_all rfl) rfl rfl Kp.true (Y.move rfl rfl) ?_
  refine Jp.y 17 rfl (want_all rfl) rfl rfl Kp.true (Y.extract rfl rfl rfl) ?_
  refine Jp.y 18 rfl (want_all rfl) rfl rfl Kp.true (Y.extract rfl rfl rfl) ?_
  refine Jp.y 9 rfl (want_all rfl) rfl rfl Kp.true (Y.assign rfl rfl) ?_
  refine Jp.y 10 rfl (want_all rfl) rfl rfl Kp.true (Y.assign rfl rfl) ?_
  refine Jp.done hK15 ?_
  refine Cd.seq fun K16 hK16 => ?_
  refine Cd.seq fun K17 hK17 => ?_
  refine Cd.plain [(0, false), (1, false)] rfl rfl ?_
  refine Jp.y 19 rfl (want_all rfl) rfl rfl Kp.true (Y.move rfl rfl) ?_
  refine Jp.y 20 rfl (want_all rfl) rfl rfl Kp.true (Y.neq rfl rfl rfl) ?_
  refine Jp.done hK17 ?_
  refine Cd.cond rfl (fun g20 => ?_) (fun g20 => ?_)
  · skip
    try simp only [decide_eq_false_iff_not, decide_eq_true_eq, Int.not_lt, Int.not_le, Bool.not_eq_false, Bool.not_eq_true, Bool.not_true, Bool.not_false, Bool.not_eq_true', Bool.not_eq_false', beq_eq_false_iff_ne, ne_eq, beq_iff_eq, bne_iff_ne, bne_eq_false_iff_eq, Classical.not_not] at g20
    refine Cd.seq fun K18 hK18 => ?_
    refine Cd.plain [(0, false), (1, false)] rfl rfl ?_
    refine Jp.y 21 rfl (want_all rfl) rfl rfl Kp.true (Y.move rfl rfl) ?_
    refine Jp.y 8 rfl (want_all rfl) rfl rfl Kp.true (Y.assign rfl rfl) ?_
    refine Jp.done hK18 ?_
    refine Cd.memClose 0 1 2 3 (by decide) hf rfl rfl rfl rfl ?_
    have hV : storeM M a size v = (lookM M a size 2, M) := by rw [storeM, if_neg g20]
    refine Cd.ret [(0, _)] rfl (res1 rfl rfl) ⟨rfl, trivial⟩ ⟨rfl, by rw [hV], by rw [hV]⟩
  try simp only [decide_eq_false_iff_not, decide_eq_true_eq, Int.not_lt, Int.not_le, Bool.not_eq_false, Bool.not_eq_true, Bool.not_true, Bool.not_false, Bool.not_eq_true', Bool.not_eq_false', beq_eq_false_iff_ne, ne_eq, beq_iff_eq, bne_iff_ne, bne_eq_false_iff_eq, Classical.not_not] at g20
  refine Cd.skip hK16 ?_
  refine Cd.seq fun K19 hK19 => ?_
  refine Cd.seq fun K20 hK20 => ?_
  refine Cd.plain [(0, false), (1, false), (2, false)] rfl rfl ?_
  obtain ⟨hs, p, hg, hm⟩ := lookM_ok g20
  obtain ⟨n, rfl, hn1, hn2⟩ := sizeOk_nat hs
  have hpo := hf.ok.page _ (getPg_mem hg)
  have hlen : p.b.length = 256 := hpo.len
  have hV : storeM M a n v = (0, { M with pages := setPg M.pages (baseN a) (stPg p (a % 256) n v), gens := bump M.gens (baseN a) }) := by rw [storeM, if_pos g20, hg]; rfl
  refine Jp.know (φ := ((blksOf M x).map (·.1)).Nodup) (A := Blks (blksOf M x)) 3 rfl (fun _ h => h.1) fun hnd => ?_
  refine Jp.slot 9 rfl (show _ = Value.pointer (some ⟨x.blk (baseN a), 0, none⟩) by rw [if_pos g20]) ?_
  have hnk : ∀ k, ((blksOf (stMem M (baseN a) p (a % 256) k v) x).map (·.1)).Nodup := fun k => by
    rw [blksOf, List.map_map]
    show ((setPg M.pages (baseN a) _).map fun y => x.blk y.1).Nodup
    rw [setPg_map]
    rw [blksOf, List.map_map] at hnd
    exact hnd
  have hst0 : blksOf M x = blksOf (stMem M (baseN a) p (a % 256) 0 v) x := by
    have : stPg p (a % 256) 0 v = p := by show (⟨lay p.b (a % 256) [], p.perm⟩ : Pg) = p; rw [lay_nil]
    rw [stMem, this, setPg_same hf.ok.rising.nodup hg]
  rw [hst0]
  refine Jp.y 22 rfl (want_all rfl) rfl rfl Kp.true (Y.move rfl rfl) ?_
  refine Jp.y 23 rfl (want_all rfl) rfl rfl Kp.true (Y.conv_ rfl rfl Try.underlying3 Try.underlying25 (by first | exact wrap_u32 (by omega) (by omega) | rfl)) ?_
  refine Jp.y 24 rfl (want_all rfl) rfl rfl Kp.true (Y.move rfl rfl) ?_
  refine Jp.done hK20 ?_
  refine Cd.block ?_
  refine Cd.loopK (G := Nat) (fun k => k ≤ n) (fun k => n - k) (fun _ => _) (fun k => [(24, .int .u32 k)]) [(0, _), (1, _), (3, _), (9, _), (23, _)] (fun k => [(3, Blks (blksOf (stMem M (baseN a) p (a % 256) k v) x))]) [(0, _), (1, _), (2, _)] 0 (Nat.zero_le _) rfl ⟨rfl, trivial⟩ ⟨rfl, rfl, rfl, rfl, rfl, trivial⟩ ⟨rfl, trivial⟩ ⟨rfl, rfl, rfl, trivial⟩ (fun g KLa hok hLa => ?_)
  have hgk : getPg (stMem M (baseN a) p (a % 256) g v).pages (baseN a) = some (stPg p (a % 256) g v) := by
    show getPg (setPg _ _ _) _ = _
    rw [getPg_set, if_pos rfl, hg]; rfl
  refine Cd.seq fun K21 hK21 => ?_
  refine Cd.plain [(0, false)] rfl rfl ?_
  refine Jp.y 25 rfl (want_all rfl) rfl rfl Kp.true (Y.lss rfl rfl rfl) ?_
  refine Jp.done hK21 ?_
  refine Cd.seq fun K22 hK22 => ?_
  refine Cd.cond rfl (fun ga => ?_) (fun ga => ?_)
  · simp only [decide_eq_true_eq] at ga
    have hgn : g < n := by omega
    refine Cd.skip hK22 ?_
    refine Cd.seq fun K23 hK23 => ?_
    refine Cd.block ?_
    refine Cd.seq fun K24 hK24 => ?_
    refine Cd.plain [(0, false), (1, false)] rfl rfl ?_
    refine Jp.y 26 rfl (want_all rfl) rfl rfl Kp.true (Y.move rfl rfl) ?_
    refine Jp.y 11 rfl (want_all rfl) rfl rfl Kp.true (Y.assign rfl rfl) ?_
    refine Jp.done hK24 ?_
    refine Cd.plain [(0, false), (1, false), (2, false), (3, false), (4, false), (5, false), (6, false), (7, false), (8, false), (9, false), (10, false), (11, false), (12, false), (13, false)] rfl rfl ?_
    refine Jp.y 27 rfl (want_all rfl) rfl rfl Kp.true (Y.move rfl rfl) ?_
    refine Jp.y 28 rfl (want_all rfl) rfl rfl Kp.true (Y.move rfl rfl) ?_
    refine Jp.y 29 rfl (want_all rfl) rfl rfl Kp.true (by first | exact Y.remN rfl rfl rfl (by omega) (by omega) | exact Y.rem rfl rfl rfl (by first | decide | omega)) ?_
    refine Jp.y 30 rfl (want_all rfl) rfl rfl Kp.true (Y.move rfl rfl) ?_
    refine Jp.y 31 rfl (want_all rfl) rfl rfl Kp.true (Y.add_ rfl rfl rfl (by first | exact wrap_u32 (by omega) (by omega) | rfl)) ?_
    refine Jp.y 32 rfl (want_all rfl) rfl rfl Kp.true (Y.move rfl rfl) ?_
    refine Jp.y 33 rfl (want_all rfl) rfl rfl Kp.true (Y.move rfl rfl) ?_
    refine Jp.y 34 rfl (want_all rfl) rfl rfl Kp.true (Y.mul_ rfl rfl rfl (by first | exact wrap_u32 (by omega) (by omega) | rfl)) ?_
    refine Jp.y 35 rfl (want_all rfl) rfl rfl Kp.true (Y.shr rfl rfl rfl (by first | decide | omega)) ?_
    refine Jp.y 36 rfl (want_all rfl) rfl rfl Kp.true (Y.conv_ rfl rfl Try.underlying25 Try.underlying5 (by first | exact wrap_u8 (by omega) (by omega) | rfl)) ?_
    refine Jp.y 37 rfl (want_all rfl) rfl rfl Kp.true (Y.nilCheck rfl rfl) ?_
    refine Jp.y 38 rfl (want_all rfl) rfl rfl Kp.true (by first | exact Y.fieldAddrP rfl rfl Try.underlying144 rfl Try.sizeOf114 (by decide) (show _ + 0 = _ from rfl) | exact Y.fieldAddr rfl rfl Try.underlying144 rfl Try.sizeOf114 (by decide)) ?_
    refine Jp.y 39 rfl (want_all rfl) rfl rfl Kp.true (Y.indexArrP (q := a % 256 + g) rfl rfl rfl Try.underlying114 Try.sizeOf5 (by omega) (by omega) (by omega)) ?_
    refine Jp.slot 36 rfl (congrArg (Value.int .u8) (shr8 v g (by omega))) ?_
    refine Jp.storeC 3 (Blks (blksOf (stMem M (baseN a) p (a % 256) (g + 1) v) x)) rfl (want_all rfl) rfl rfl Try.sizeOf5 rfl rfl rfl rfl rfl (Blks.set (MemF.blk hgk) (by simp [pageCells, bytesV, stPg_len hlen (show a % 256 + g ≤ 256 by omega)]; omega) (noFr0 _) (by rw [pageCells_lay p hlen (by omega)]; exact (updB_blks (M := stMem M (baseN a) p (a % 256) g v) (x := x) (hnk g) hgk).trans (by rw [stMem, stMem, setPg_set]))) Kp.true ?_
    refine Jp.over rfl hK23 ?_
    refine Cd.plain [(0, false), (1, false)] rfl rfl ?_
    refine Jp.y 40 rfl (want_all rfl) rfl rfl Kp.true (Y.add_ rfl rfl rfl (by first | exact wrap_u32 (by omega) (by omega) | rfl)) ?_
    refine Jp.y 24 rfl (want_all rfl) rfl rfl Kp.true (Y.move rfl rfl) ?_
    refine Jp.again hLa (g + 1) (by omega) (by omega) rfl ⟨rfl, rfl, rfl, rfl, rfl, rfl, trivial⟩ ⟨rfl, rfl, rfl, rfl, trivial⟩
  · simp only [decide_eq_false_iff_not] at ga
    obtain rfl : g = n := by omega
    have hf2 : MemF (stMem M (baseN a) p (a % 256) g v) x := hf.set hg (stPg_len hlen hn2) hpo.perm
    have hf3 := hf2.bump (baseN a)
    refine Cd.exit rfl hK19 ?_
    refine Cd.seq fun K25 hK25 => ?_
    refine Cd.drawn [(0, _), (2, _)] ⟨rfl, rfl, trivial⟩ [(0, true), (1, true), (2, true), (3, true), (4, true), (5, false), (6, true), (7, true), (8, false)] follows (by kernel_rfl) (fun hrl => ?_)
    refine Jp.q 41 rfl (want_all rfl) rfl rfl (Y.move rfl rfl) ?_
    refine Jp.q 42 rfl (want_all rfl) rfl rfl (Y.nilCheck rfl rfl) ?_
    refine Jp.q 43 rfl (want_all rfl) rfl rfl (by first | exact Y.fieldAddrP rfl rfl Try.underlying142 rfl Try.sizeOf140 (by decide) (show _ + 2 = _ from rfl) | exact Y.fieldAddr rfl rfl Try.underlying142 rfl Try.sizeOf140 (by decide)) ?_
    refine Jp.q 44 rfl (want_all rfl) rfl rfl (Y.loadO 0 rfl Try.isAgg140 rfl rfl rfl) ?_
    refine Jp.q 45 rfl (want_all rfl) rfl rfl (Y.move rfl rfl) ?_
    refine Jp.call [] [] (base_spec a ha) 46 rfl (want_all rfl) rfl rfl (Runs.fn rfl Try.call48 rfl) (by decide) (by decide) rfl trivial ?_
    rintro v103 ρ103 L103 ⟨rfl, rfl, rfl⟩
    refine ⟨rfl, fun hle103 => ⟨(Kp.st ⟨rfl, rfl, trivial⟩), ?_⟩⟩
    refine Jp.q 47 rfl (want_all rfl) rfl rfl (by first | exact Y.lookup 2 rfl rfl rfl Try.underlying140 Try.underlying25 Try.zeroValue25 rfl) ?_
    refine Jp.slot 47 rfl ((hf.gens _)) ?_
    refine Jp.q 48 rfl (want_all rfl) rfl rfl (Y.add_ rfl rfl rfl (wrap_u32m (M.gens (baseN a) + 1))) ?_
    first | refine Jp.mapUpdate 2 rfl (want_all rfl) rfl rfl rfl rfl rfl Try.underlying140 Try.underlying25 rfl Kp.last ?_
    refine Jp.done hK25 ?_
    refine Cd.seq fun K27 hK27 => ?_
    refine Cd.plain [(0, false)] rfl rfl ?_
    refine Jp.y 8 rfl (want_all rfl) rfl rfl Kp.true (Y.assign rfl rfl) ?_
    refine Jp.done hK27 ?_
    refine Cd.memClose 0 1 2 3 (by decide) hf3 rfl rfl rfl rfl ?_
    refine Cd.ret [(0, _)] rfl (res1 rfl rfl) ⟨rfl, trivial⟩ ⟨rfl, by rw [hV], by rw [hV]; rfl⟩
end Go.Proofs.Ytkjeidoplonkjaa
set_option linter.unusedVariables false
set_option linter.unusedSimpArgs false
set_option maxRecDepth 100000
namespace Go.Proofs.Ytkjeidoplonkjaa
open Go
theorem MemF.ins {M : MemG} {x : MemX} (f : MemF M x) {k : Nat} {p : Pg} (b : Nat) (hk : k ∉ M.pages.map (·.1)) (h : MemOk { M with pages := insPg k p M.pages }) :
    MemF { M with pages := insPg k p M.pages } { x with pm := mset x.pm k (.pointer (some ⟨b, 0, none⟩)), blk := fun k' => if k' = k then b else x.blk k' } := by
  refine ⟨h, ?_, f.gens⟩
  have h1 : (k : Int) ∉ (M.pages.map fun p => ((p.1 : Int), pgPtr x p.1)).map (·.1) := by
    rw [List.map_map]
    intro hm
    obtain ⟨y, hy, e⟩ := List.mem_map.1 hm
    have : y.1 = k := Int.ofNat.inj e
    exact hk (this ▸ List.mem_map.2 ⟨y, hy, rfl⟩)
  refine (mset_perm f.pages h1).trans ?_
  refine (List.Perm.trans ?_ ((insPg_perm k p M.pages).map _).symm)
  rw [List.map_cons]
  have e : (M.pages.map fun p => ((p.1 : Int), pgPtr x p.1)) = M.pages.map fun p => ((p.1 : Int), pgPtr { x with pm := mset x.pm k (.pointer (some ⟨b, 0, none⟩)), blk := fun k' => if k' = k then b else x.blk k' } p.1) := by
    apply List.map_congr_left
    intro y hy
    have : ¬ y.1 = k := fun e => hk (e ▸ List.mem_map.2 ⟨y, hy, rfl⟩)
    simp [pgPtr, this]
  rw [e]
  simp [pgPtr]
theorem blks_ins {M : MemG} {x : MemX} {k : Nat} {p : Pg} (b : Nat) (pm : MapL) (hk : k ∉ M.pages.map (·.1)) : ((b, pageO p) :: blksOf M x).Perm (blksOf { M with pages := insPg k p M.pages } { x with pm := pm, blk := fun k' => if k' = k then b else x.blk k' }) := by
  refine (List.Perm.trans ?_ ((insPg_perm k p M.pages).map _).symm)
  rw [List.map_cons]
  have e : blksOf M x = M.pages.map fun q => ((if q.1 = k then b else x.blk q.1), pageO q.2) := by
    apply List.map_congr_left
    intro y hy
    have : ¬ y.1 = k := fun e => hk (e ▸ List.mem_map.2 ⟨y, hy, rfl⟩)
    simp [this]
  rw [e]
  simp
theorem map_spec (b : Nat) (M : MemG) (a n : Nat) (perm : Int) (ha : a < 4294967296) (hn : n < 4294967296) : Spec Try.prog 30 #[.pointer (some ⟨b, 0, none⟩), .int .u32 a, .int .u32 n, .int .i64 perm] (fun _ => True) [(0, MemO b M)]
    (fun ρ ρ' r L => ρ' = ρ ∧ r = .int .i64 (mapM M a n perm).1 ∧ L = [(0, MemO b (mapM M a n perm).2)]) := by
  refine Spec.of 76 Try.func30 rfl Try.ntmps30 [(0, _), (1, _), (2, _), (3, _)] rfl rfl ?_
  intro cx ρ hr h0
  refine Cd.memOpen 0 1 2 3 (by decide) rfl fun x hf => ?_
  have hroom := hf.ok.room
  have hbud := hf.ok.budget
  have hlen : x.pm.length = M.pages.length := by rw [hf.pages.length_eq, List.length_map]
  refine Cd.seq fun K1 hK1 => ?_
  refine Cd.plain [(0, false)] rfl rfl ?_
  refine Jp.y 8 rfl (want_all rfl) rfl rfl Kp.true (Y.assign rfl rfl) ?_
  refine Jp.done hK1 ?_
  refine Cd.seq fun K2 hK2 => ?_
  refine Cd.plain [(0, false), (1, false), (2, false), (3, false), (4, false), (5, false), (6, false), (7, false)] rfl rfl ?_
  refine Jp.y 14 rfl (want_all rfl) rfl rfl Kp.true (Y.move rfl rfl) ?_
  refine Jp.y 15 rfl (want_all rfl) rfl rfl Kp.true (Y.move rfl rfl) ?_
  refine Jp.call [] [] (stretch_spec a n ha hn) 16 rfl (want_all rfl) rfl rfl (Runs.fn rfl Try.call52 rfl) (by decide) (by decide) rfl trivial ?_
  rintro v1 ρ1 L1 ⟨rfl, rfl, rfl⟩
  refine ⟨rfl, fun hle1 => ⟨Kp.true, ?_⟩⟩
  refine Jp.y 13 rfl (want_all rfl) rfl rfl Kp.true (Y.move rfl rfl) ?_
  refine Jp.y 17 rfl (want_all rfl) rfl rfl Kp.true (Y.extract rfl rfl rfl) ?_
  refine Jp.y 18 rfl (want_all rfl) rfl rfl Kp.true (Y.extract rfl rfl rfl) ?_
  refine Jp.y 9 rfl (want_all rfl) rfl rfl Kp.true (Y.assign rfl rfl) ?_
  refine Jp.y 10 rfl (want_all rfl) rfl rfl Kp.true (Y.assign rfl rfl) ?_
  refine Jp.done hK2 ?_
  refine Cd.seq fun K3 hK3 => ?_
  refine Cd.block ?_
  refine Cd.seq fun K4 hK4 => ?_
  refine Cd.plain [(0, false), (1, false), (2, false), (3, false), (4, false), (5, false), (6, false), (7, false), (8, false), (9, false), (10, false)] rfl rfl ?_
  refine Jp.y 20 rfl (want_all rfl) rfl rfl Kp.true (Y.move rfl rfl) ?_
  refine Jp.y 21 rfl (want_all rfl) rfl rfl Kp.true (Y.not rfl rfl) ?_
  refine Jp.y 22 rfl (want_all rfl) rfl rfl Kp.true (Y.move rfl rfl) ?_
  refine Jp.split 22 rfl (fun g22 => ?_) (fun g22 => ?_)
  · skip
    try simp only [decide_eq_false_iff_not, decide_eq_true_eq, Int.not_lt, Int.not_le, Bool.not_eq_false, Bool.not_eq_true, Bool.not_true, Bool.not_false, Bool.not_eq_true', Bool.not_eq_false', beq_eq_false_iff_ne, ne_eq, beq_iff_eq, bne_iff_ne, bne_eq_false_iff_eq, Classical.not_not] at g22
    refine Jp.skip 23 rfl (want_as rfl rfl rfl rfl) rfl rfl Kp.true ?_
    refine Jp.skip 24 rfl (want_as rfl rfl rfl rfl) rfl rfl Kp.true ?_
    refine Jp.y 25 rfl (want_all rfl) rfl rfl Kp.true (Y.pickT rfl rfl rfl) ?_
    refine Jp.y 26 rfl (want_all rfl) rfl rfl Kp.true (Y.move rfl rfl) ?_
    refine Jp.skip 27 rfl (want_as rfl rfl rfl rfl) rfl rfl Kp.true ?_
    refine Jp.skip 28 rfl (want_as rfl rfl rfl rfl) rfl rfl Kp.true ?_
    refine Jp.y 29 rfl (want_all rfl) rfl rfl Kp.true (Y.pickT rfl rfl rfl) ?_
    refine Jp.y 19 rfl (want_all rfl) rfl rfl Kp.true (Y.assign rfl rfl) ?_
    refine Jp.done hK4 ?_
    refine Cd.condT rfl ?_
    refine Cd.seq fun K5 hK5 => ?_
    refine Cd.plain [(0, false)] rfl rfl ?_
    refine Jp.y 8 rfl (want_all rfl) rfl rfl Kp.true (Y.assign rfl rfl) ?_
    refine Jp.done hK5 ?_
    refine Cd.memClose 0 1 2 3 (by decide) hf rfl rfl rfl rfl ?_
    have hV : mapM M a n perm = (1, M) := by
      rw [mapM]
      split
      · rfl
      · rename_i many hm
        rw [if_pos (by first | (rw [hm] at g22; cases g22; done) | omega)]
    refine Cd.ret [(0, _)] rfl (res1 rfl rfl) ⟨rfl, trivial⟩ ⟨rfl, by rw [hV], by rw [hV]⟩
  try simp only [decide_eq_false_iff_not, decide_eq_true_eq, Int.not_lt, Int.not_le, Bool.not_eq_false, Bool.not_eq_true, Bool.not_true, Bool.not_false, Bool.not_eq_true', Bool.not_eq_false', beq_eq_false_iff_ne, ne_eq, beq_iff_eq, bne_iff_ne, bne_eq_false_iff_eq, Classical.not_not] at g22
  refine Jp.y 23 rfl (want_as rfl rfl rfl rfl) rfl rfl Kp.true (Y.move rfl rfl) ?_
  refine Jp.y 24 rfl (want_as rfl rfl rfl rfl) rfl rfl Kp.true (Y.lss rfl rfl rfl) ?_
  refine Jp.y 25 rfl (want_all rfl) rfl rfl Kp.true (Y.pickF rfl rfl rfl) ?_
  refine Jp.y 26 rfl (want_all rfl) rfl rfl Kp.true (Y.move rfl rfl) ?_
  refine Jp.split 26 rfl (fun g26 => ?_) (fun g26 => ?_)
  · skip
    try simp only [decide_eq_false_iff_not, decide_eq_true_eq, Int.not_lt, Int.not_le, Bool.not_eq_false, Bool.not_eq_true, Bool.not_true, Bool.not_false, Bool.not_eq_true', Bool.not_eq_false', beq_eq_false_iff_ne, ne_eq, beq_iff_eq, bne_iff_ne, bne_eq_false_iff_eq, Classical.not_not] at g26
    refine Jp.skip 27 rfl (want_as rfl rfl rfl rfl) rfl rfl Kp.true ?_
    refine Jp.skip 28 rfl (want_as rfl rfl rfl rfl) rfl rfl Kp.true ?_
    refine Jp.y 29 rfl (want_all rfl) rfl rfl Kp.true (Y.pickT rfl rfl rfl) ?_
    refine Jp.y 19 rfl (want_all rfl) rfl rfl Kp.true (Y.assign rfl rfl) ?_
    refine Jp.done hK4 ?_
    refine Cd.condT rfl ?_
    refine Cd.seq fun K6 hK6 => ?_
    refine Cd.plain [(0, false)] rfl rfl ?_
    refine Jp.y 8 rfl (want_all rfl) rfl rfl Kp.true (Y.assign rfl rfl) ?_
    refine Jp.done hK6 ?_
    refine Cd.memClose 0 1 2 3 (by decide) hf rfl rfl rfl rfl ?_
    have hV : mapM M a n perm = (1, M) := by
      rw [mapM]
      split
      · rfl
      · rename_i many hm
        rw [if_pos (by first | (rw [hm] at g26; cases g26; done) | omega)]
    refine Cd.ret [(0, _)] rfl (res1 rfl rfl) ⟨rfl, trivial⟩ ⟨rfl, by rw [hV], by rw [hV]⟩
  try simp only [decide_eq_false_iff_not, decide_eq_true_eq, Int.not_lt, Int.not_le, Bool.not_eq_false, Bool.not_eq_true, Bool.not_true, Bool.not_false, Bool.not_eq_true', Bool.not_eq_false', beq_eq_false_iff_ne, ne_eq, beq_iff_eq, bne_iff_ne, bne_eq_false_iff_eq, Classical.not_not] at g26
  refine Jp.y 27 rfl (want_as rfl rfl rfl rfl) rfl rfl Kp.true (Y.move rfl rfl) ?_
  refine Jp.y 28 rfl (want_as rfl rfl rfl rfl) rfl rfl Kp.true (Y.gtr rfl rfl rfl) ?_
  refine Jp.y 29 rfl (want_all rfl) rfl rfl Kp.true (Y.pickF rfl rfl rfl) ?_
  refine Jp.y 19 rfl (want_all rfl) rfl rfl Kp.true (Y.assign rfl rfl) ?_
  refine Jp.done hK4 ?_
  refine Cd.cond rfl (fun g19 => ?_) (fun g19 => ?_)
  · skip
    try simp only [decide_eq_false_iff_not, decide_eq_true_eq, Int.not_lt, Int.not_le, Bool.not_eq_false, Bool.not_eq_true, Bool.not_true, Bool.not_false, Bool.not_eq_true', Bool.not_eq_false', beq_eq_false_iff_ne, ne_eq, beq_iff_eq, bne_iff_ne, bne_eq_false_iff_eq, Classical.not_not] at g19
    refine Cd.seq fun K7 hK7 => ?_
    refine Cd.plain [(0, false)] rfl rfl ?_
    refine Jp.y 8 rfl (want_all rfl) rfl rfl Kp.true (Y.assign rfl rfl) ?_
    refine Jp.done hK7 ?_
    refine Cd.memClose 0 1 2 3 (by decide) hf rfl rfl rfl rfl ?_
    have hV : mapM M a n perm = (1, M) := by
      rw [mapM]
      split
      · rfl
      · rename_i many hm
        rw [if_pos (by first | (rw [hm] at g19; cases g19; done) | omega)]
    refine Cd.ret [(0, _)] rfl (res1 rfl rfl) ⟨rfl, trivial⟩ ⟨rfl, by rw [hV], by rw [hV]⟩
  try simp only [decide_eq_false_iff_not, decide_eq_true_eq, Int.not_lt, Int.not_le, Bool.not_eq_false, Bool.not_eq_true, Bool.not_true, Bool.not_false, Bool.not_eq_true', Bool.not_eq_false', beq_eq_false_iff_ne, ne_eq, beq_iff_eq, bne_iff_ne, bne_eq_false_iff_eq, Classical.not_not] at g19
  refine Cd.seq fun K8 hK8 => ?_
  refine Cd.plain [(0, false), (1, false), (2, false), (3, false), (4, false), (5, false), (6, false)] rfl rfl ?_
  obtain ⟨many, hm⟩ := Option.isSome_iff_exists.1 g22
  have hmany : (n + 255) / 256 = many := by
    rw [stretch] at hm
    split at hm
    · injection hm
    · cases hm
  rw [hmany]
  have hst : a % 256 = 0 ∧ a + many * 256 ≤ 4294967296 ∧ 0 < many := by
    rw [stretch] at hm
    split at hm
    · rename_i h; injection hm with hm; omega
    · cases hm
  refine Jp.y 31 rfl (want_all rfl) rfl rfl Kp.true (Y.move rfl rfl) ?_
  refine Jp.y 32 rfl (want_all rfl) rfl rfl Kp.true (Y.move rfl rfl) ?_
  refine Jp.y 33 rfl (want_all rfl) rfl rfl Kp.true (Y.move rfl rfl) ?_
  refine Jp.call [0, 1] [0, 1, 9] (within_spec b M x hf a many ha (by omega)) 34 rfl (want_all rfl) rfl rfl (Runs.fn rfl Try.call53 rfl) (by decide) (by decide) rfl trivial ?_
  rintro v2 ρ2 L2 ⟨rfl, l, Al, cl, hl, rfl, rfl⟩
  refine ⟨rfl, fun hle2 => ⟨Kp.true, ?_⟩⟩
  have hll := hl.length_eq
  refine Jp.y 35 rfl (want_all rfl) rfl rfl Kp.true (Y.lenslice rfl Try.underlying29 rfl) ?_
  refine Jp.y 36 rfl (want_all rfl) rfl rfl Kp.true (Y.gtr rfl rfl rfl) ?_
  refine Jp.y 30 rfl (want_all rfl) rfl rfl Kp.true (Y.assign rfl rfl) ?_
  refine Jp.done hK8 ?_
  refine Cd.cond rfl (fun g30 => ?_) (fun g30 => ?_)
  · skip
    try simp only [decide_eq_false_iff_not, decide_eq_true_eq, Int.not_lt, Int.not_le, Bool.not_eq_false, Bool.not_eq_true, Bool.not_true, Bool.not_false, Bool.not_eq_true', Bool.not_eq_false', beq_eq_false_iff_ne, ne_eq, beq_iff_eq, bne_iff_ne, bne_eq_false_iff_eq, Classical.not_not] at g30
    refine Cd.seq fun K9 hK9 => ?_
    refine Cd.plain [(0, false)] rfl rfl ?_
    refine Jp.y 8 rfl (want_all rfl) rfl rfl Kp.true (Y.assign rfl rfl) ?_
    refine Jp.done hK9 ?_
    refine Cd.memClose 0 1 2 3 (by decide) hf rfl rfl rfl rfl ?_
    have hV : mapM M a n perm = (5, M) := by rw [mapM, hm]; dsimp only; rw [if_neg (by omega), if_pos (by omega)]
    refine Cd.ret [(0, _)] rfl (res1 rfl rfl) ⟨rfl, trivial⟩ ⟨rfl, by rw [hV], by rw [hV]⟩
  try simp only [decide_eq_false_iff_not, decide_eq_true_eq, Int.not_lt, Int.not_le, Bool.not_eq_false, Bool.not_eq_true, Bool.not_true, Bool.not_false, Bool.not_eq_true', Bool.not_eq_false', beq_eq_false_iff_ne, ne_eq, beq_iff_eq, bne_iff_ne, bne_eq_false_iff_eq, Classical.not_not] at g30
  refine Cd.seq fun K10 hK10 => ?_
  refine Cd.drawn [(0, _), (1, _)] ⟨rfl, rfl, trivial⟩ [(0, true), (1, true), (2, true), (3, true), (4, true), (5, true), (6, true), (7, true), (8, true), (9, true), (10, true), (11, true), (12, true), (13, true)] follows (by kernel_rfl) (fun hrl => ?_)
  refine Jp.q 38 rfl (want_all rfl) rfl rfl (Y.move rfl rfl) ?_
  refine Jp.q 39 rfl (want_all rfl) rfl rfl (Y.move rfl rfl) ?_
  refine Jp.q 40 rfl (want_all rfl) rfl rfl (Y.nilCheck rfl rfl) ?_
  refine Jp.q 41 rfl (want_all rfl) rfl rfl (by first | exact Y.fieldAddrP rfl rfl Try.underlying142 rfl Try.sizeOf3 (by decide) (show _ + 0 = _ from rfl) | exact Y.fieldAddr rfl rfl Try.underlying142 rfl Try.sizeOf3 (by decide)) ?_
  refine Jp.q 42 rfl (want_all rfl) rfl rfl (Y.loadO 0 rfl Try.isAgg3 rfl rfl rfl) ?_
  refine Jp.q 43 rfl (want_all rfl) rfl rfl (Y.move rfl rfl) ?_
  refine Jp.q 44 rfl (want_all rfl) rfl rfl (Y.nilCheck rfl rfl) ?_
  refine Jp.q 45 rfl (want_all rfl) rfl rfl (by first | exact Y.fieldAddrP rfl rfl Try.underlying142 rfl Try.sizeOf139 (by decide) (show _ + 1 = _ from rfl) | exact Y.fieldAddr rfl rfl Try.underlying142 rfl Try.sizeOf139 (by decide)) ?_
  refine Jp.q 46 rfl (want_all rfl) rfl rfl (Y.loadO 0 rfl Try.isAgg139 rfl rfl rfl) ?_
  refine Jp.q 47 rfl (want_all rfl) rfl rfl (by first | exact Y.lenmap 1 rfl Try.underlying139 rfl rfl) ?_
  refine Jp.q 48 rfl (want_all rfl) rfl rfl (Y.sub_ rfl rfl rfl (by first | exact wrap_i64 (by omega) (by omega) | rfl)) ?_
  refine Jp.q 49 rfl (want_all rfl) rfl rfl (Y.conv_ rfl rfl Try.underlying3 Try.underlying105 (by first | exact wrap_u64 (by omega) (by omega) | rfl)) ?_
  refine Jp.q 50 rfl (want_all rfl) rfl rfl (Y.gtr rfl rfl rfl) ?_
  refine Jp.q 37 rfl (want_all rfl) rfl rfl (Y.assign rfl rfl) ?_
  refine Jp.done hK10 ?_
  refine Cd.cond rfl (fun g37 => ?_) (fun g37 => ?_)
  · skip
    try simp only [decide_eq_false_iff_not, decide_eq_true_eq, Int.not_lt, Int.not_le, Bool.not_eq_false, Bool.not_eq_true, Bool.not_true, Bool.not_false, Bool.not_eq_true', Bool.not_eq_false', beq_eq_false_iff_ne, ne_eq, beq_iff_eq, bne_iff_ne, bne_eq_false_iff_eq, Classical.not_not] at g37
    refine Cd.seq fun K12 hK12 => ?_
    refine Cd.plain [(0, false)] rfl rfl ?_
    refine Jp.y 8 rfl (want_all rfl) rfl rfl Kp.true (Y.assign rfl rfl) ?_
    refine Jp.done hK12 ?_
    refine Cd.memClose 0 1 2 3 (by decide) hf rfl rfl rfl rfl ?_
    have hV : mapM M a n perm = (6, M) := by rw [mapM, hm]; dsimp only; rw [if_neg (by omega), if_neg (by omega), if_pos (by omega)]
    refine Cd.ret [(0, _)] rfl (res1 rfl rfl) ⟨rfl, trivial⟩ ⟨rfl, by rw [hV], by rw [hV]⟩
  try simp only [decide_eq_false_iff_not, decide_eq_true_eq, Int.not_lt, Int.not_le, Bool.not_eq_false, Bool.not_eq_true, Bool.not_true, Bool.not_false, Bool.not_eq_true', Bool.not_eq_false', beq_eq_false_iff_ne, ne_eq, beq_iff_eq, bne_iff_ne, bne_eq_false_iff_eq, Classical.not_not] at g37
  refine Cd.over rfl hK3 ?_
  refine Cd.seq fun K13 hK13 => ?_
  refine Cd.seq fun K14 hK14 => ?_
  refine Cd.plain [(0, false), (1, false), (2, false)] rfl rfl ?_
  refine Jp.y 51 rfl (want_all rfl) rfl rfl Kp.true (Y.move rfl rfl) ?_
  refine Jp.y 52 rfl (want_all rfl) rfl rfl Kp.true (Y.conv_ rfl rfl Try.underlying105 Try.underlying25 (by first | exact wrap_u32 (by omega) (by omega) | rfl)) ?_
  refine Jp.y 53 rfl (want_all rfl) rfl rfl Kp.true (Y.move rfl rfl) ?_
  refine Jp.done hK14 ?_
  refine Cd.block ?_
  obtain ⟨pn, rfl⟩ := Int.eq_ofNat_of_zero_le g26
  have hV : mapM M a n pn = (0, addPgs M a pn many) := by rw [mapM, hm]; dsimp only; rw [if_neg (by omega), if_neg (by omega), if_neg (by omega)]; rfl
  have hnone : ∀ i, i < many → a + 256 * i ∉ (addPgs M a pn i).pages.map (·.1) := fun i hi h => by
    rcases addPgs_mem h with h | ⟨j, hj, h⟩
    · exact within_none (a := a) (many := many) (by omega) (by simp only [inS, Bool.and_eq_true, decide_eq_true_eq]; omega) h
    · omega
  refine Cd.loopK (G := Nat × MemX) (fun g => g.1 ≤ many ∧ MemF (addPgs M a pn g.1) g.2 ∧ g.2.pb = x.pb ∧ g.2.gb = x.gb) (fun g => many - g.1) (fun _ => _) (fun g => [(53, .int .u32 g.1)]) [(0, _), (1, _), (3, _), (52, _)] (fun g => [(1, MapO .u32 x.pb g.2.pm), (2, MapO .u32 x.gb g.2.gm), (3, Blks (blksOf (addPgs M a pn g.1) g.2))]) [(0, _)] ⟨0, x⟩ ⟨Nat.zero_le _, hf, rfl, rfl⟩ rfl ⟨rfl, trivial⟩ ⟨rfl, rfl, rfl, rfl, trivial⟩ ⟨rfl, rfl, rfl, trivial⟩ ⟨rfl, trivial⟩ (fun g KLa hok hLa => ?_)
  obtain ⟨i, y⟩ := g
  obtain ⟨ok1, ok2, ok3, ok4⟩ := hok
  dsimp only at ok1 ok2 ok3 ok4 ⊢
  refine Cd.seq fun K15 hK15 => ?_
  refine Cd.plain [(0, false)] rfl rfl ?_
  refine Jp.y 54 rfl (want_all rfl) rfl rfl Kp.true (Y.lss rfl rfl rfl) ?_
  refine Jp.done hK15 ?_
  refine Cd.seq fun K16 hK16 => ?_
  refine Cd.cond rfl (fun ga => ?_) (fun ga => ?_)
  · simp only [decide_eq_true_eq] at ga
    have hi : i < many := by omega
    have hno := hnone i hi
    have hmo : MemOk { addPgs M a pn i with pages := insPg (a + 256 * i) ⟨List.replicate 256 0, pn⟩ (addPgs M a pn i).pages } :=
      ok2.ok.ins hno (by omega) (by omega) (by simp) (by show pn ≤ 7; omega) (by rw [addPgs_length, addPgs_budget]; omega)
    refine Cd.skip hK16 ?_
    refine Cd.seq fun K17 hK17 => ?_
    refine Cd.block ?_
    refine Cd.seq fun K18 hK18 => ?_
    refine Cd.plain [(0, false), (1, false)] rfl rfl ?_
    refine Jp.y 55 rfl (want_all rfl) rfl rfl Kp.true (Y.move rfl rfl) ?_
    refine Jp.y 11 rfl (want_all rfl) rfl rfl Kp.true (Y.assign rfl rfl) ?_
    refine Jp.done hK18 ?_
    refine Cd.seq fun K19 hK19 => ?_
    refine Cd.plain [(0, false), (1, false), (2, false), (3, false), (4, false)] rfl rfl ?_
    refine Jp.y 56 rfl (want_all rfl) rfl rfl Kp.true (Y.move rfl rfl) ?_
    refine Jp.y 57 rfl (want_all rfl) rfl rfl Kp.true (Y.move rfl rfl) ?_
    refine Jp.y 58 rfl (want_all rfl) rfl rfl Kp.true (Y.mul_ rfl rfl rfl (by first | exact wrap_u32 (by omega) (by omega) | rfl)) ?_
    refine Jp.y 59 rfl (want_all rfl) rfl rfl Kp.true (Y.add_ rfl rfl rfl (by first | exact wrap_u32 (by omega) (by omega) | rfl)) ?_
    refine Jp.y 12 rfl (want_all rfl) rfl rfl Kp.true (Y.assign rfl rfl) ?_
    refine Jp.done hK19 ?_
    refine Cd.seq fun K20 hK20 => ?_
    refine Cd.plain [(0, false), (1, false), (2, false), (3, false), (4, false), (5, false), (6, false), (7, false), (8, false)] rfl rfl ?_
    refine Jp.slot 12 rfl (congrArg (Value.int .u32) (show ((a : Int) + i * 256) = ((a + 256 * i : Nat) : Int) by omega)) ?_
    refine Jp.y 60 rfl (want_all rfl) rfl rfl Kp.true (Y.move rfl rfl) ?_
    refine Jp.y 61 rfl (want_all rfl) rfl rfl Kp.true (Y.nilCheck rfl rfl) ?_
    refine Jp.y 62 rfl (want_all rfl) rfl rfl Kp.true (by first | exact Y.fieldAddrP rfl rfl Try.underlying142 rfl Try.sizeOf139 (by decide) (show _ + 1 = _ from rfl) | exact Y.fieldAddr rfl rfl Try.underlying142 rfl Try.sizeOf139 (by decide)) ?_
    refine Jp.y 63 rfl (want_all rfl) rfl rfl Kp.true (Y.loadO 0 rfl Try.isAgg139 rfl rfl rfl) ?_
    refine Jp.y 64 rfl (want_all rfl) rfl rfl Kp.true (Y.move rfl rfl) ?_
    refine Jp.y 65 rfl (want_all rfl) rfl rfl Kp.true (Y.move rfl rfl) ?_
    refine Jp.y 66 rfl (want_all rfl) rfl rfl Kp.true (Y.struct [(1, _)] [_, _, _, _, _, _, _, _, _, _, _, _, _, _, _, _, _, _, _, _, _, _, _, _, _, _, _, _, _, _, _, _, _, _, _, _, _, _, _, _, _, _, _, _, _, _, _, _, _, _, _, _, _, _, _, _, _, _, _, _, _, _, _, _, _, _, _, _, _, _, _, _, _, _, _, _, _, _, _, _, _, _, _, _, _, _, _, _, _, _, _, _, _, _, _, _, _, _, _, _, _, _, _, _, _, _, _, _, _, _, _, _, _, _, _, _, _, _, _, _, _, _, _, _, _, _, _, _, _, _, _, _, _, _, _, _, _, _, _, _, _, _, _, _, _, _, _, _, _, _, _, _, _, _, _, _, _, _, _, _, _, _, _, _, _, _, _, _, _, _, _, _, _, _, _, _, _, _, _, _, _, _, _, _, _, _, _, _, _, _, _, _, _, _, _, _, _, _, _, _, _, _, _, _, _, _, _, _, _, _, _, _, _, _, _, _, _, _, _, _, _, _, _, _, _, _, _, _, _, _, _, _, _, _, _, _, _, _, _, _, _, _, _, _, _, _, _, _, _, _, _, _, _, _, _, _, _] rfl rfl places144 Try.zeroValue144 rfl) ?_
    refine Jp.slot 66 rfl (show _ = Value.agg (pageCells ⟨List.replicate 256 0, pn⟩).toArray by rfl) ?_
    refine Jp.box 50 67 rfl (want_all rfl) rfl rfl rfl rfl fun b50 => ⟨Kp.true, ?_⟩
    first | refine Jp.mapUpdate 1 rfl (want_all rfl) rfl rfl rfl rfl rfl Try.underlying139 Try.underlying25 rfl Kp.true ?_
    refine Jp.done hK20 ?_
    refine Cd.plain [(0, false), (1, false), (2, false), (3, false), (4, false), (5, false), (6, false), (7, false)] rfl rfl ?_
    refine Jp.joinB (ob := pageO ⟨List.replicate 256 0, pn⟩) 3 50 (by decide) rfl rfl ?_
    refine Jp.imp (j := 3) rfl (Blks.perm (blks_ins (p := ⟨List.replicate 256 0, pn⟩) b50 (mset y.pm ((a + 256 * i : Nat) : Int) (.pointer (some ⟨b50, 0, none⟩))) hno)) ?_
    have hf2 := ok2.ins (p := ⟨List.replicate 256 0, pn⟩) b50 hno hmo
    have hf3 := hf2.bump (a + 256 * i)
    refine Jp.y 68 rfl (want_all rfl) rfl rfl Kp.true (Y.move rfl rfl) ?_
    refine Jp.y 69 rfl (want_all rfl) rfl rfl Kp.true (Y.nilCheck rfl rfl) ?_
    refine Jp.y 70 rfl (want_all rfl) rfl rfl Kp.true (by first | exact Y.fieldAddrP rfl rfl Try.underlying142 rfl Try.sizeOf140 (by decide) (show _ + 2 = _ from rfl) | exact Y.fieldAddr rfl rfl Try.underlying142 rfl Try.sizeOf140 (by decide)) ?_
    refine Jp.y 71 rfl (want_all rfl) rfl rfl Kp.true (by first | exact Y.loadO 0 rfl Try.isAgg140 rfl rfl rfl | exact Y.loadO 50 rfl Try.isAgg140 rfl rfl rfl) ?_
    refine Jp.y 72 rfl (want_all rfl) rfl rfl Kp.true (Y.move rfl rfl) ?_
    refine Jp.y 73 rfl (want_all rfl) rfl rfl Kp.true (by first | exact Y.lookup 2 rfl rfl rfl Try.underlying140 Try.underlying25 Try.zeroValue25 rfl) ?_
    refine Jp.slot 73 rfl ((ok2.gens _)) ?_
    refine Jp.y 74 rfl (want_all rfl) rfl rfl Kp.true (Y.add_ rfl rfl rfl (wrap_u32m ((addPgs M a pn i).gens (a + 256 * i) + 1))) ?_
    first | refine Jp.mapUpdate 2 rfl (want_all rfl) rfl rfl rfl rfl rfl Try.underlying140 Try.underlying25 rfl Kp.true ?_
    refine Jp.over rfl hK17 ?_
    refine Cd.plain [(0, false), (1, false)] rfl rfl ?_
    refine Jp.y 75 rfl (want_all rfl) rfl rfl Kp.true (Y.add_ rfl rfl rfl (wrap_u32 (by omega) (by omega))) ?_
    refine Jp.y 53 rfl (want_all rfl) rfl rfl Kp.true (Y.move rfl rfl) ?_
    refine Jp.again hLa ⟨i + 1, _⟩ ⟨hi, hf3, ok3, ok4⟩ (by show many - (i + 1) < many - i; omega) rfl ⟨rfl, rfl, rfl, rfl, rfl, trivial⟩ ⟨rfl, rfl, rfl, rfl, trivial⟩
  · simp only [decide_eq_false_iff_not] at ga
    obtain rfl : i = many := by omega
    refine Cd.exit rfl hK13 ?_
    refine Cd.seq fun K21 hK21 => ?_
    refine Cd.plain [(0, false)] rfl rfl ?_
    refine Jp.y 8 rfl (want_all rfl) rfl rfl Kp.true (Y.assign rfl rfl) ?_
    refine Jp.done hK21 ?_
    have e : memObj (addPgs M a pn i) y = memObj M x := by rw [memObj, memObj, addPgs_budget, ok3, ok4]
    refine Cd.memClose (b := b) (x := y) 0 1 2 3 (by decide) ok2 (by rw [e]; rfl) (by rw [ok3]; rfl) (by rw [ok4]; rfl) rfl ?_
    refine Cd.ret [(0, _)] rfl (res1 rfl rfl) ⟨rfl, trivial⟩ ⟨rfl, by rw [hV], by rw [hV]⟩
end Go.Proofs.Ytkjeidoplonkjaa
set_option linter.unusedVariables false
set_option linter.unusedSimpArgs false
set_option maxRecDepth 100000
namespace Go.Proofs.Ytkjeidoplonkjaa
open Go
theorem new_yes (m : Nat) (h : 1 ≤ m ∧ m ≤ 4096) : Spec Try.prog 29 #[.int .i64 m] (fun _ => True) [] (fun ρ ρ' v L => ρ' = ρ ∧ ∃ b, v = .tuple #[.pointer (some ⟨b, 0, none⟩), .int .i64 0] ∧ L = [(0, MemO b (newM m))]) :=
  (new_spec m).mono (fun _ h => h) fun ρ ρ' v l hp => by
    obtain ⟨h1, h2⟩ := hp
    rw [if_pos (by omega)] at h2
    exact ⟨h1, h2⟩
end Go.Proofs.Ytkjeidoplonkjaa
set_option linter.unusedVariables false
set_option linter.unusedSimpArgs false
set_option maxRecDepth 100000
namespace Go.Proofs.Ytkjeidoplonkjaa
open Go
def oneM (bud : Nat) (bs : Bytes) (g : Nat → Nat) : MemG := ⟨bud, [(0, ⟨bs, 3⟩)], g⟩
end Go.Proofs.Ytkjeidoplonkjaa
