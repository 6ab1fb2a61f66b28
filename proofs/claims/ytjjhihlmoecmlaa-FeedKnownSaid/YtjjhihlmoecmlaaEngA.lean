/- A small logic of our own over the model's weakest preconditions: heaps of some blocks, owned pieces of memory by number, read-only memory, frames as lists of slots. -/
import Derived.WalkKit
import Derived.OrdersHeld
import Derived.KernelRfl
set_option linter.unusedVariables false
set_option linter.unusedSimpArgs false
namespace Go.Proofs.Ytjjhihlmoecmlaa
open Go

/-! ### 1. Lists by number -/
def look {α : Type} : List (Nat × α) → Nat → Option α
  | [], _ => none
  | (k, v) :: l, n => cond (Nat.beq k n) (some v) (look l n)
theorem look_cons {α : Type} (k : Nat) (v : α) (l : List (Nat × α)) (n : Nat) : look ((k, v) :: l) n = if k = n then some v else look l n := by
  simp only [look]
  by_cases h : k = n
  · subst h; simp
  · have : Nat.beq k n = false := Bool.eq_false_iff.2 fun e => h (Nat.eq_of_beq_eq_true e)
    simp [this, h]
theorem look_append {α : Type} (l m : List (Nat × α)) (n : Nat) : look (l ++ m) n = (look l n).or (look m n) := by
  induction l with
  | nil => simp [look]
  | cons p l ih =>
    obtain ⟨k, v⟩ := p
    rw [List.cons_append, look_cons, look_cons, ih]
    split <;> simp
theorem look_mem {α : Type} {l : List (Nat × α)} {n : Nat} {v : α} (h : look l n = some v) : (n, v) ∈ l := by
  induction l with
  | nil => simp [look] at h
  | cons p l ih =>
    obtain ⟨k, u⟩ := p
    rw [look_cons] at h
    split at h
    · rename_i hk; injection h with h; subst h; subst hk; exact List.mem_cons_self ..
    · exact List.mem_cons_of_mem _ (ih h)
/-- All that the first list tells, the second tells. -/
def Subl {α : Type} : List (Nat × α) → List (Nat × α) → Prop
  | [], _ => True
  | (k, v) :: l, m => look m k = some v ∧ Subl l m
theorem Subl.look {α : Type} {l m : List (Nat × α)} (h : Subl l m) : ∀ {n v}, look l n = some v → Ytjjhihlmoecmlaa.look m n = some v := by
  induction l with
  | nil => intro n v h; simp [Ytjjhihlmoecmlaa.look] at h
  | cons p l ih =>
    obtain ⟨k, u⟩ := p
    intro n v hl
    rw [look_cons] at hl
    split at hl
    · rename_i hk; injection hl with hl; subst hl; subst hk; exact h.1
    · exact ih h.2 hl

theorem nodup_inj {l : List Nat} (h : l.Nodup) : ∀ {x y i : Nat}, l[x]? = some i → l[y]? = some i → x = y := by
  induction l with
  | nil => intro x y i hx; simp at hx
  | cons a l ih =>
    intro x y i hx hy
    rw [List.nodup_cons] at h
    cases x with
    | zero =>
      cases y with
      | zero => rfl
      | succ y => simp at hx hy; subst hx; exact absurd (List.mem_of_getElem? hy) h.1
    | succ x =>
      cases y with
      | zero => simp at hx hy; subst hy; exact absurd (List.mem_of_getElem? hx) h.1
      | succ y => simp at hx hy; rw [ih h.2 hx hy]

/-! ### 2. Partial heaps -/
abbrev Hp := Nat → Option Obj
abbrev HProp := Hp → Prop
def Hp.le (h k : Hp) : Prop := ∀ b o, h b = some o → k b = some o
def Hp.disj (h k : Hp) : Prop := ∀ b, h b = none ∨ k b = none
def Hp.emp : Hp := fun _ => none
theorem Hp.le_refl (h : Hp) : Hp.le h h := fun _ _ e => e
theorem Hp.le_trans {h k l : Hp} (a : Hp.le h k) (b : Hp.le k l) : Hp.le h l := fun _ _ e => b _ _ (a _ _ e)
theorem Hp.disj_symm {h k : Hp} (a : Hp.disj h k) : Hp.disj k h := fun b => (a b).symm
theorem Hp.disj_emp (h : Hp) : Hp.disj h Hp.emp := fun _ => .inr rfl
theorem Hp.emp_disj (h : Hp) : Hp.disj Hp.emp h := fun _ => .inl rfl
open Classical in
noncomputable def Hp.union (h k : Hp) : Hp := fun b => if h b = none then k b else h b
theorem Hp.le_union_left (h k : Hp) : Hp.le h (Hp.union h k) := fun b o e => by simp [Hp.union, e]
theorem Hp.union_cases {h k : Hp} {b : Nat} {o : Obj} (e : Hp.union h k b = some o) : h b = some o ∨ (h b = none ∧ k b = some o) := by
  unfold Hp.union at e
  split at e
  · exact .inr ⟨‹_›, e⟩
  · exact .inl e
theorem Hp.le_union_right {h k : Hp} (d : Hp.disj h k) : Hp.le k (Hp.union h k) := fun b o e => by
  unfold Hp.union
  rcases d b with h0 | h0
  · rw [if_pos h0]; exact e
  · rw [h0] at e; cases e
/-- A claim on memory that more memory does not undo. -/
def Up (A : HProp) : Prop := ∀ h k, Hp.le h k → A h → A k
def Emp : HProp := fun _ => True
def Pt (b : Nat) (o : Obj) : HProp := fun h => h b = some o
theorem Pt.up (b : Nat) (o : Obj) : Up (Pt b o) := fun _ _ l e => l _ _ e

/-! ### 3. The state: owned pieces by number, beside read-only memory; what stood at the call's begin and is not owned is as it was -/
/-- A call's begin: its world, what it may turn, what it may read for ever. -/
structure Cx where
  w0 : World
  M : Nat → Prop
  r0 : Hp
structure St (c : Cx) (ρ : Hp) (L : List (Nat × HProp)) (w : World) : Prop where
  ex : ∃ H : Nat → Hp, (∀ i A, look L i = some A → A (H i)) ∧ (∀ i j, i ≠ j → Hp.disj (H i) (H j)) ∧
    (∀ i, Hp.disj (H i) ρ) ∧ (∀ i b o, H i b = some o → w.heap[b]? = some o ∧ (c.M b ∨ c.w0.heap.size ≤ b))
  rho : ∀ b o, ρ b = some o → w.heap[b]? = some o
  rle : Hp.le c.r0 ρ
  rdom : ∀ b o, ρ b = some o → c.r0 b = some o ∨ c.M b ∨ c.w0.heap.size ≤ b
  size : c.w0.heap.size ≤ w.heap.size
  frame : ∀ b, b < c.w0.heap.size → ¬ c.M b → w.heap[b]? = c.w0.heap[b]?
  os : w.os = c.w0.os
  tape : w.tape = c.w0.tape
  output : w.output = c.w0.output

theorem lt_of_heap {w : World} {b : Nat} {o : Obj} (h : w.heap[b]? = some o) : b < w.heap.size := (Array.getElem?_eq_some_iff.1 h).1

theorem St.sub {cx : Cx} {ρ : Hp} {L L' : List (Nat × HProp)} {w : World} (h : St cx ρ L w) (s : Subl L' L) : St cx ρ L' w :=
  { h with ex := let ⟨H, a, b, c, d⟩ := h.ex; ⟨H, fun i A e => a i A (s.look e), b, c, d⟩ }
theorem St.subF {cx : Cx} {ρ : Hp} {L L' : List (Nat × HProp)} {w : World} (h : St cx ρ L w) (s : ∀ k A, look L' k = some A → look L k = some A) : St cx ρ L' w :=
  { h with ex := let ⟨H, a, b, c, d⟩ := h.ex; ⟨H, fun i A e => a i A (s i A e), b, c, d⟩ }
theorem St.drew {cx : Cx} {ρ : Hp} {L : List (Nat × HProp)} {w : World} (h : St cx ρ L w) : St cx ρ L { w with drawn := w.drawn + 1 } :=
  ⟨h.ex, h.rho, h.rle, h.rdom, h.size, h.frame, h.os, h.tape, h.output⟩
theorem St.refl (w : World) (M : Nat → Prop) (ρ : Hp) (hr : ∀ b o, ρ b = some o → w.heap[b]? = some o) : St ⟨w, M, ρ⟩ ρ [] w :=
  ⟨⟨fun _ => Hp.emp, fun _ _ e => by simp [look] at e, fun _ _ _ => Hp.emp_disj _, fun _ => Hp.emp_disj _, fun _ _ _ e => by cases e⟩, hr, Hp.le_refl _, fun _ _ e => .inl e, Nat.le_refl _, fun _ _ _ => rfl, rfl, rfl, rfl⟩
/-- What is owned under a number, in the world. -/
theorem St.get {cx : Cx} {ρ : Hp} {L : List (Nat × HProp)} {w : World} (h : St cx ρ L w) {i : Nat} {A : HProp} (e : look L i = some A) :
    ∃ k : Hp, A k ∧ ∀ b o, k b = some o → w.heap[b]? = some o :=
  let ⟨H, a, _, _, d⟩ := h.ex; ⟨H i, a i A e, fun b o hb => (d i b o hb).1⟩
theorem St.pt {cx : Cx} {ρ : Hp} {L : List (Nat × HProp)} {w : World} (h : St cx ρ L w) {i b : Nat} {o : Obj} (e : look L i = some (Pt b o)) : w.heap[b]? = some o :=
  let ⟨_, a, d⟩ := h.get e; d _ _ a

/-- One owned piece is turned, the world with it; nothing else is. -/
theorem St.set {cx : Cx} {ρ : Hp} {L : List (Nat × HProp)} {w w' : World} (h : St cx ρ L w) {i : Nat} {A A' : HProp} (e : look L i = some A)
    (turn : ∀ k : Hp, A k → (∀ b o, k b = some o → w.heap[b]? = some o) → ∃ k' : Hp, A' k' ∧ (∀ b o, k' b = some o → w'.heap[b]? = some o ∧ k b ≠ none) ∧
      ∀ b, k b = none → w'.heap[b]? = w.heap[b]?)
    (hs : w'.heap.size = w.heap.size) (h1 : w'.os = w.os) (h2 : w'.tape = w.tape) (h3 : w'.output = w.output) : St cx ρ ((i, A') :: L) w' := by
  obtain ⟨H, a, b, c, d⟩ := h.ex
  obtain ⟨k', ha', hk', hf⟩ := turn (H i) (a i A e) (fun b o hb => (d i b o hb).1)
  refine ⟨⟨fun j => if j = i then k' else H j, ?_, ?_, ?_, ?_⟩, ?_, h.rle, h.rdom, by rw [hs]; exact h.size, ?_, h1.trans h.os, h2.trans h.tape, h3.trans h.output⟩
  · intro j B hj
    rw [look_cons] at hj
    by_cases hji : j = i
    · subst hji; simp at hj; subst hj; simpa using ha'
    · rw [if_neg (Ne.symm hji)] at hj; simpa [hji] using a j B hj
  · intro x y hxy p
    by_cases hx : x = i
    · have hy : y ≠ i := fun q => hxy (hx.trans q.symm)
      simp only [hx, hy, if_true, if_false]
      cases hk : k' p with
      | none => exact .inl rfl
      | some o =>
        have := (hk' p o hk).2
        exact .inr ((b i y (Ne.symm hy) p).resolve_left this)
    · by_cases hy : y = i
      · simp only [hx, hy, if_true, if_false]
        cases hk : k' p with
        | none => exact .inr rfl
        | some o =>
          have := (hk' p o hk).2
          exact .inl ((b i x (Ne.symm hx) p).resolve_left this)
      · simp only [hx, hy, if_false]; exact b x y hxy p
  · intro x p
    by_cases hx : x = i
    · simp only [hx, if_true]
      cases hk : k' p with
      | none => exact .inl rfl
      | some o => exact .inr ((c i p).resolve_left (hk' p o hk).2)
    · simp only [hx, if_false]; exact c x p
  · intro x p o hp
    by_cases hx : x = i
    · simp only [hx, if_true] at hp
      refine ⟨(hk' p o hp).1, ?_⟩
      cases hk : H i p with
      | none => exact absurd hk (hk' p o hp).2
      | some o' => exact (d i p o' hk).2
    · simp only [hx, if_false] at hp
      have hd := d x p o hp
      have : H i p = none := by
        rcases b i x (Ne.symm hx) p with q | q
        · exact q
        · rw [hp] at q; cases q
      exact ⟨by rw [hf p this]; exact hd.1, hd.2⟩
  · intro p o hp
    have : H i p = none := by
      rcases c i p with q | q
      · exact q
      · rw [hp] at q; cases q
    rw [hf p this]; exact h.rho p o hp
  · intro p hp hM
    have : H i p = none := by
      cases hk : H i p with
      | none => rfl
      | some o =>
        rcases (d i p o hk).2 with q | q
        · exact absurd q hM
        · omega
    rw [hf p this]; exact h.frame p hp hM

/-- A new block. -/
theorem St.alloc {cx : Cx} {ρ : Hp} {L : List (Nat × HProp)} {w : World} (h : St cx ρ L w) (n : Nat) (o : Obj) : St cx ρ ((n, Pt w.heap.size o) :: L) { w with heap := w.heap.push o } := by
  obtain ⟨H, a, b, c, d⟩ := h.ex
  have hlt : ∀ i p o', H i p = some o' → p < w.heap.size := fun i p o' hp => lt_of_heap (d i p o' hp).1
  have hget : ∀ p, p < w.heap.size → (w.heap.push o)[p]? = w.heap[p]? := fun p hp => by rw [Array.getElem?_push]; rw [if_neg (by omega)]
  have hnew : (w.heap.push o)[w.heap.size]? = some o := by simp
  refine ⟨⟨fun j => if j = n then (fun p => if p = w.heap.size then some o else none) else H j, ?_, ?_, ?_, ?_⟩, ?_, h.rle, h.rdom, by simp; have := h.size; omega, ?_, h.os, h.tape, h.output⟩
  · intro j B hj
    rw [look_cons] at hj
    by_cases hji : j = n
    · subst hji; simp at hj; subst hj; simp [Pt]
    · rw [if_neg (Ne.symm hji)] at hj; simpa [hji] using a j B hj
  · intro x y hxy p
    by_cases hx : x = n
    · have hy : y ≠ n := fun q => hxy (hx.trans q.symm)
      simp only [hx, hy, if_true, if_false]
      by_cases hp : p = w.heap.size
      · refine .inr ?_
        cases hk : H y p with
        | none => rfl
        | some o' => have := hlt y p o' hk; omega
      · exact .inl (by simp [hp])
    · by_cases hy : y = n
      · simp only [hx, hy, if_true, if_false]
        by_cases hp : p = w.heap.size
        · refine .inl ?_
          cases hk : H x p with
          | none => rfl
          | some o' => have := hlt x p o' hk; omega
        · exact .inr (by simp [hp])
      · simp only [hx, hy, if_false]; exact b x y hxy p
  · intro x p
    by_cases hx : x = n
    · simp only [hx, if_true]
      by_cases hp : p = w.heap.size
      · refine .inr ?_
        cases hk : ρ p with
        | none => rfl
        | some o' => have := lt_of_heap (h.rho p o' hk); omega
      · exact .inl (by simp [hp])
    · simp only [hx, if_false]; exact c x p
  · intro x p o' hp
    by_cases hx : x = n
    · simp only [hx, if_true] at hp
      by_cases hq : p = w.heap.size
      · simp only [hq, if_true] at hp; injection hp with hp; subst hp; subst hq; exact ⟨hnew, .inr h.size⟩
      · simp [hq] at hp
    · simp only [hx, if_false] at hp
      have hd := d x p o' hp
      exact ⟨by show (w.heap.push o)[p]? = _; rw [hget p (hlt x p o' hp)]; exact hd.1, hd.2⟩
  · intro p o' hp
    show (w.heap.push o)[p]? = _
    rw [hget p (lt_of_heap (h.rho p o' hp))]; exact h.rho p o' hp
  · intro p hp hM
    show (w.heap.push o)[p]? = _
    rw [hget p (by have := h.size; omega)]; exact h.frame p hp hM

/-- What is owned is told otherwise. -/
theorem St.imp {cx : Cx} {ρ : Hp} {L : List (Nat × HProp)} {w : World} (h : St cx ρ L w) {i : Nat} {A A' : HProp} (e : look L i = some A) (f : ∀ k, A k → A' k) : St cx ρ ((i, A') :: L) w :=
  h.set e (fun k a hk => ⟨k, f k a, fun b o hb => ⟨hk b o hb, by rw [hb]; simp⟩, fun _ _ => rfl⟩) rfl rfl rfl rfl
/-- What is owned is owned no more, but to be read for ever. -/
theorem St.freeze {cx : Cx} {ρ : Hp} {L : List (Nat × HProp)} {w : World} (h : St cx ρ L w) {i : Nat} {A : HProp} (e : look L i = some A) (up : Up A) :
    ∃ ρ', Hp.le ρ ρ' ∧ A ρ' ∧ St cx ρ' ((i, Emp) :: L) w := by
  obtain ⟨H, a, b, c, d⟩ := h.ex
  refine ⟨Hp.union (H i) ρ, Hp.le_union_right (c i), up _ _ (Hp.le_union_left _ _) (a i A e), ⟨⟨fun j => if j = i then Hp.emp else H j, ?_, ?_, ?_, ?_⟩, ?_, Hp.le_trans h.rle (Hp.le_union_right (c i)), ?_, h.size, h.frame, h.os, h.tape, h.output⟩⟩
  · intro j B hj
    rw [look_cons] at hj
    by_cases hji : j = i
    · subst hji; simp at hj; subst hj; simp [Emp]
    · rw [if_neg (Ne.symm hji)] at hj; simpa [hji] using a j B hj
  · intro x y hxy
    by_cases hx : x = i
    · simp only [hx, if_true]; exact Hp.emp_disj _
    · by_cases hy : y = i
      · simp only [hx, hy, if_true, if_false]; exact Hp.disj_emp _
      · simp only [hx, hy, if_false]; exact b x y hxy
  · intro x p
    by_cases hx : x = i
    · simp only [hx, if_true]; exact .inl rfl
    · simp only [hx, if_false]
      rcases b x i hx p with q | q
      · exact .inl q
      · rcases c x p with r | r
        · exact .inl r
        · exact .inr (by simp [Hp.union, q, r])
  · intro x p o hp
    by_cases hx : x = i
    · simp [hx, Hp.emp] at hp
    · simp only [hx, if_false] at hp; exact d x p o hp
  · intro p o hp
    rcases Hp.union_cases hp with q | q
    · exact (d i p o q).1
    · exact h.rho p o q.2
  · intro p o hp
    rcases Hp.union_cases hp with q | q
    · exact .inr (d i p o q).2
    · exact h.rdom p o q.2

/-! ### 4. Contracts -/
def Spec (P : Program) (f : FuncId) (args : Array Value) (R : Hp → Prop) (Lin : List (Nat × HProp)) (Post : Hp → Hp → Value → List (Nat × HProp) → Prop) : Prop :=
  ∀ w M ρ, R ρ → St ⟨w, M, ρ⟩ ρ Lin w → Calls P f args w fun e w' => ∃ v ρ' Lout, e = .returned v ∧ Post ρ ρ' v Lout ∧ St ⟨w, M, ρ⟩ ρ' Lout w'

/-- The pieces that are handed over, under the callee's numbers 0, 1, .. -/
def hand (L : List (Nat × HProp)) : Nat → List Nat → List (Nat × HProp)
  | _, [] => []
  | n, i :: is => (n, (look L i).getD Emp) :: hand L (n + 1) is
theorem look_hand (L : List (Nat × HProp)) : ∀ (idx : List Nat) (n j : Nat) (A : HProp), look (hand L n idx) j = some A → ∃ k i, j = n + k ∧ idx[k]? = some i ∧ A = (look L i).getD Emp := by
  intro idx
  induction idx with
  | nil => intro n j A h; simp [hand, look] at h
  | cons i is ih =>
    intro n j A h
    rw [hand, look_cons] at h
    split at h
    · rename_i hn; injection h with h; exact ⟨0, i, by omega, by simp, h.symm⟩
    · obtain ⟨k, i', hj, hk, hA⟩ := ih _ _ _ h
      exact ⟨k + 1, i', by omega, by simpa using hk, hA⟩
/-- What comes back, under the caller's numbers. -/
def back (ms : List Nat) (Lout : List (Nat × HProp)) : List (Nat × HProp) := Lout.map fun p => (ms.getD p.1 0, p.2)
def gone (idx : List Nat) : List (Nat × HProp) := idx.map fun i => (i, Emp)

theorem look_gone (idx : List Nat) (i : Nat) : look (gone idx) i = if i ∈ idx then some Emp else none := by
  induction idx with
  | nil => simp [gone, look]
  | cons j js ih =>
    rw [gone, List.map_cons, look_cons]
    rw [gone] at ih
    rw [ih]
    by_cases h : j = i
    · subst h; simp
    · have : ¬ i = j := fun e => h e.symm
      simp [h, this]

theorem look_back {ms : List Nat} (hnd : ms.Nodup) : ∀ (Lout : List (Nat × HProp)) (_ : ∀ p ∈ Lout, p.1 < ms.length) (i : Nat) (A : HProp), look (back ms Lout) i = some A → ∃ j, ms[j]? = some i ∧ look Lout j = some A := by
  intro Lout
  induction Lout with
  | nil => intro _ i A h; simp [back, look] at h
  | cons p l ih =>
    obtain ⟨k, B⟩ := p
    intro hlt i A h
    rw [back, List.map_cons, look_cons] at h
    have hk : k < ms.length := hlt (k, B) (List.mem_cons_self ..)
    have hkm : ms[k]? = some (ms.getD k 0) := by simp [List.getElem?_eq_getElem hk, List.getD_eq_getElem?_getD]
    split at h
    · rename_i hi
      injection h with h
      subst h
      exact ⟨k, by rw [hkm, ← hi], by rw [look_cons]; simp⟩
    · rename_i hi
      obtain ⟨j, hj, hl⟩ := ih (fun p hp => hlt p (List.mem_cons_of_mem _ hp)) i A h
      refine ⟨j, hj, ?_⟩
      rw [look_cons, if_neg]
      · exact hl
      · intro e
        subst e
        rw [hkm] at hj
        injection hj with hj
        exact hi hj
theorem look_back_none {ms : List Nat} (Lout : List (Nat × HProp)) {i : Nat} (h : look (back ms Lout) i = none) : ∀ j A, ms[j]? = some i → look Lout j = some A → False := by
  induction Lout with
  | nil => intro j A _ e; simp [look] at e
  | cons p l ih =>
    obtain ⟨k, B⟩ := p
    intro j A hj e
    rw [back, List.map_cons, look_cons] at h
    split at h
    · cases h
    · rename_i hi
      rw [look_cons] at e
      split at e
      · rename_i hkj
        subst hkj
        apply hi
        simp [List.getD_eq_getElem?_getD, hj]
      · exact ih h j A hj e

/-- **The frame rule.** Some pieces are handed over, what comes back takes their place; all else stands. -/
theorem St.call {cx : Cx} {ρ : Hp} {L : List (Nat × HProp)} {w : World} (h : St cx ρ L w) (idx ms : List Nat) (hnd : idx.Nodup) (hms : ms.Nodup) :
    ∃ M', St ⟨w, M', ρ⟩ ρ (hand L 0 idx) w ∧ ∀ w' ρ' Lout, (∀ p ∈ Lout, p.1 < ms.length) → St ⟨w, M', ρ⟩ ρ' Lout w' → St cx ρ' (back ms Lout ++ (gone idx ++ L)) w' := by
  obtain ⟨H, a, b, c, d⟩ := h.ex
  have hlt : ∀ i p o', H i p = some o' → p < w.heap.size := fun i p o' hp => lt_of_heap (d i p o' hp).1
  refine ⟨fun p => ∃ i ∈ idx, H i p ≠ none, ⟨⟨fun j => match idx[j]? with | some i => H i | none => Hp.emp, ?_, ?_, ?_, ?_⟩, h.rho, Hp.le_refl _, fun _ _ e => .inl e, Nat.le_refl _, fun _ _ _ => rfl, rfl, rfl, rfl⟩, ?_⟩
  · intro j A hj
    obtain ⟨k, i, hk, hi, hA⟩ := look_hand L idx 0 j A hj
    have : j = k := by omega
    subst this
    simp only [hi]
    subst hA
    cases hl : look L i with
    | none => simp [Emp]
    | some B => simpa using a i B hl
  · intro x y hxy
    show Hp.disj (match idx[x]? with | some i => H i | none => Hp.emp) (match idx[y]? with | some i => H i | none => Hp.emp)
    cases hx : idx[x]? with
    | none => exact Hp.emp_disj _
    | some i =>
      cases hy : idx[y]? with
      | none => exact Hp.disj_emp _
      | some j =>
        refine b i j fun e => hxy ?_
        subst e
        exact nodup_inj hnd hx hy
  · intro x
    show Hp.disj (match idx[x]? with | some i => H i | none => Hp.emp) ρ
    cases hx : idx[x]? with
    | none => exact Hp.emp_disj _
    | some i => exact c i
  · intro x p o hp
    cases hx : idx[x]? with
    | none => simp [hx, Hp.emp] at hp
    | some i =>
      simp only [hx] at hp
      exact ⟨(d i p o hp).1, .inl ⟨i, List.mem_of_getElem? hx, by rw [hp]; simp⟩⟩
  · intro w' ρ' Lout hlen h'
    obtain ⟨H', a', b', c', d'⟩ := h'.ex
    have hout : ∀ i p o, i ∉ idx → H i p = some o → ¬ ∃ i ∈ idx, H i p ≠ none := fun i p o hi hp => by
      rintro ⟨j, hj, hjp⟩
      have : i ≠ j := fun e => hi (e ▸ hj)
      rcases b i j this p with q | q
      · rw [hp] at q; cases q
      · exact hjp q
    have hkeep : ∀ i p o, i ∉ idx → H i p = some o → w'.heap[p]? = some o := fun i p o hi hp => by
      rw [h'.frame p (hlt i p o hp) (hout i p o hi hp)]; exact (d i p o hp).1
    have hapart : ∀ j i, i ∉ idx → Hp.disj (H' j) (H i) := fun j i hi p => by
      cases hj : H' j p with
      | none => exact .inl rfl
      | some o =>
        refine .inr ?_
        cases hk : H i p with
        | none => rfl
        | some o' =>
          rcases (d' j p o hj).2 with q | q
          · exact absurd q (hout i p o' hi hk)
          · have := hlt i p o' hk
            have : w.heap.size ≤ p := q
            omega
    have hread : ∀ i, i ∉ idx → Hp.disj (H i) ρ' := fun i hi p => by
      cases hk : H i p with
      | none => exact .inl rfl
      | some o =>
        refine .inr ?_
        cases hr : ρ' p with
        | none => rfl
        | some o' =>
          rcases h'.rdom p o' hr with q | q | q
          · rcases c i p with r | r
            · rw [hk] at r; cases r
            · have q : ρ p = some o' := q
              rw [r] at q; cases q
          · exact absurd q (hout i p o hi hk)
          · have := hlt i p o hk
            have : w.heap.size ≤ p := q
            omega
    have hin : ∀ j p o, H' j p = some o → cx.M p ∨ cx.w0.heap.size ≤ p := fun j p o hp => by
      rcases (d' j p o hp).2 with ⟨k, hk1, hk2⟩ | q
      · cases hk : H k p with
        | none => exact absurd hk hk2
        | some o' => exact (d k p o' hk).2
      · exact .inr (Nat.le_trans h.size q)
    classical
    let G : Nat → Hp := fun i => if hm : ∃ j, ms[j]? = some i ∧ look Lout j ≠ none then H' (Classical.choose hm) else if i ∈ idx then Hp.emp else H i
    have G1 : ∀ i, (∃ j, ms[j]? = some i ∧ look Lout j ≠ none ∧ G i = H' j) ∨ (G i = Hp.emp) ∨ (i ∉ idx ∧ G i = H i ∧ ¬ ∃ j, ms[j]? = some i ∧ look Lout j ≠ none) := fun i => by
      by_cases hm : ∃ j, ms[j]? = some i ∧ look Lout j ≠ none
      · exact .inl ⟨_, (Classical.choose_spec hm).1, (Classical.choose_spec hm).2, dif_pos hm⟩
      · by_cases hi : i ∈ idx
        · exact .inr (.inl (by simp only [G]; rw [dif_neg hm, if_pos hi]))
        · exact .inr (.inr ⟨hi, by simp only [G]; rw [dif_neg hm, if_neg hi], hm⟩)
    have inj : ∀ {x y i : Nat}, ms[x]? = some i → ms[y]? = some i → x = y := fun {x y i} hx hy => by
      exact nodup_inj hms hx hy
    refine ⟨⟨G, ?_, ?_, ?_, ?_⟩, h'.rho, Hp.le_trans h.rle h'.rle, ?_, Nat.le_trans h.size h'.size, ?_, h'.os.trans h.os, h'.tape.trans h.tape, h'.output.trans h.output⟩
    · intro i A hA
      rw [look_append] at hA
      cases hb : look (back ms Lout) i with
      | some B =>
        rw [hb] at hA
        simp at hA
        subst hA
        obtain ⟨j, hj, hl⟩ := look_back hms Lout hlen i B hb
        rcases G1 i with ⟨k, hk, _, hG⟩ | hG | ⟨_, _, hn⟩
        · rw [hG, inj hk hj]; exact a' j B hl
        · have hm : ∃ j, ms[j]? = some i ∧ look Lout j ≠ none := ⟨j, hj, by rw [hl]; simp⟩
          have : G i = H' (Classical.choose hm) := dif_pos hm
          rw [this, inj (Classical.choose_spec hm).1 hj]; exact a' j B hl
        · exact absurd ⟨j, hj, by rw [hl]; simp⟩ hn
      | none =>
        rw [hb, look_append, look_gone] at hA
        by_cases hi : i ∈ idx
        · simp [hi] at hA; subst hA; trivial
        · simp [hi] at hA
          rcases G1 i with ⟨k, hk, hl, _⟩ | hG | ⟨_, hG, _⟩
          · cases hx : look Lout k with
            | none => exact absurd hx hl
            | some B => exact (look_back_none Lout hb k B hk hx).elim
          · have hm : ¬ ∃ j, ms[j]? = some i ∧ look Lout j ≠ none := by
              rintro ⟨k, hk, hl⟩
              cases hx : look Lout k with
              | none => exact absurd hx hl
              | some B => exact (look_back_none Lout hb k B hk hx).elim
            have : G i = H i := by simp only [G]; rw [dif_neg hm, if_neg hi]
            rw [this]; exact a i A hA
          · rw [hG]; exact a i A hA
    · intro x y hxy
      rcases G1 x with ⟨j, hj, _, hG⟩ | hG | ⟨hx, hG, _⟩
      · rcases G1 y with ⟨k, hk, _, hG'⟩ | hG' | ⟨hy, hG', _⟩
        · rw [hG, hG']
          refine b' j k fun e => hxy ?_
          subst e
          rw [hj] at hk
          injection hk
        · rw [hG']; exact Hp.disj_emp _
        · rw [hG, hG']; exact hapart j y hy
      · rw [hG]; exact Hp.emp_disj _
      · rcases G1 y with ⟨k, hk, _, hG'⟩ | hG' | ⟨hy, hG', _⟩
        · rw [hG, hG']; exact Hp.disj_symm (hapart k x hx)
        · rw [hG']; exact Hp.disj_emp _
        · rw [hG, hG']; exact b x y hxy
    · intro x
      rcases G1 x with ⟨j, _, _, hG⟩ | hG | ⟨hx, hG, _⟩
      · rw [hG]; exact c' j
      · rw [hG]; exact Hp.emp_disj _
      · rw [hG]; exact hread x hx
    · intro x p o hp
      rcases G1 x with ⟨j, _, _, hG⟩ | hG | ⟨hx, hG, _⟩
      · rw [hG] at hp; exact ⟨(d' j p o hp).1, hin j p o hp⟩
      · rw [hG] at hp; cases hp
      · rw [hG] at hp; exact ⟨hkeep x p o hx hp, (d x p o hp).2⟩
    · intro p o hp
      rcases h'.rdom p o hp with q | ⟨k, hk1, hk2⟩ | q
      · exact h.rdom p o q
      · cases hk : H k p with
        | none => exact absurd hk hk2
        | some o' => exact .inr (d k p o' hk).2
      · exact .inr (.inr (Nat.le_trans h.size q))
    · intro p hp hM
      have hp' : p < w.heap.size := Nat.lt_of_lt_of_le hp h.size
      rw [h'.frame p hp' ?_]
      · exact h.frame p hp hM
      · rintro ⟨k, hk1, hk2⟩
        cases hk : H k p with
        | none => exact absurd hk hk2
        | some o' =>
          rcases (d k p o' hk).2 with q | q
          · exact absurd q hM
          · omega
end Go.Proofs.Ytjjhihlmoecmlaa
