import Derived.Test.YtkjeidoplonkjaaZEngY
set_option linter.unusedVariables false
set_option linter.unusedSimpArgs false
namespace Go.Proofs.Ytkjeidoplonkjaa
open Go Go.ChangeShapes Go.WideShapes Go.ChangeAt Go.RowKit
theorem Rdd.array {P : Program} {w : World} {t e : TypeId} {cs : List Value} {n : Nat} (hu : P.underlying t = some (.array n e)) (h : Rdd P w t cs) :
    cs.length = P.cellsOf t ∧ ∀ i, i < n → Rdd P w e ((cs.drop (i * P.cellsOf e)).take (P.cellsOf e)) := by
  obtain ⟨H, enc, base, spare, held, fuel, d, ps, h, hs⟩ := h
  obtain ⟨xs, m, rfl, h2, h3, h4, h5⟩ := DataW.trod_array hu h
  injection h2 with h2 _
  subst h2
  refine ⟨h3, fun i hi => ?_⟩
  have e1 : xs[i]? = some (xs[i]'(by omega)) := by simp [show i < xs.length by omega]
  refine ⟨H, enc, base, spare, held, m, (xs[i]'(by omega)).1, (xs[i]'(by omega)).2, (h5 i hi).trans e1, fun k hk => hs k ?_⟩
  rw [DataW.weights, hu]
  exact weightsAll_mem hk (List.mem_map.2 ⟨_, List.getElem_mem _, rfl⟩)
theorem Rdd.arrI {P : Program} {w : World} {t e : TypeId} {cs : List Value} {n : Nat} {k : IntKind} (hu : P.underlying t = some (.array n e)) (he : P.underlying e = some (.int k)) (hm : P.cellsOf e = 1) (ht : P.cellsOf t = n) (h : Rdd P w t cs) :
    ∃ xs : List Int, cs = xs.map (fun x => Value.int k x) ∧ xs.length = n ∧ ∀ x ∈ xs, (Lit.int k x).wf = true := by
  obtain ⟨h1, h2⟩ := Rdd.array hu h
  rw [ht] at h1
  have key : ∀ (cs : List Value), (∀ v ∈ cs, ∃ x, v = Value.int k x ∧ (Lit.int k x).wf = true) → ∃ xs : List Int, cs = xs.map (fun x => Value.int k x) ∧ ∀ x ∈ xs, (Lit.int k x).wf = true := by
    intro cs
    induction cs with
    | nil => intro _; exact ⟨[], rfl, fun x h => by cases h⟩
    | cons v cs ih =>
      intro h
      obtain ⟨x, rfl, hx⟩ := h v (List.mem_cons_self ..)
      obtain ⟨xs, rfl, hxs⟩ := ih fun v hv => h v (List.mem_cons_of_mem _ hv)
      refine ⟨x :: xs, rfl, fun y hy => ?_⟩
      rcases List.mem_cons.1 hy with rfl | hy
      · exact hx
      · exact hxs y hy
  obtain ⟨xs, e1, e2⟩ := key cs fun v hv => by
    obtain ⟨i, hi, rfl⟩ := List.mem_iff_getElem.1 hv
    have := h2 i (by omega)
    rw [hm, Nat.mul_one] at this
    have h3 : (cs.drop i).take 1 = [cs[i]] := by
      rw [List.drop_eq_getElem_cons hi, List.take_succ_cons, List.take_zero]
    rw [h3] at this
    obtain ⟨x, hx, hw⟩ := Rdd.int he this
    injection hx with hx
    exact ⟨x, hx, hw⟩
  exact ⟨xs, e1, by rw [← h1, e1, List.length_map], e2⟩
theorem Rdd.arrN {P : Program} {w : World} {t e : TypeId} {cs : List Value} {n : Nat} {k : IntKind} {N : Nat} (hk : ∀ x : Int, (Lit.int k x).wf = true → 0 ≤ x ∧ x < N) (hu : P.underlying t = some (.array n e)) (he : P.underlying e = some (.int k)) (hm : P.cellsOf e = 1) (ht : P.cellsOf t = n) (h : Rdd P w t cs) :
    ∃ xs : List Nat, cs = xs.map (fun x : Nat => Value.int k (x : Int)) ∧ xs.length = n ∧ ∀ x ∈ xs, x < N := by
  obtain ⟨xs, rfl, h1, h2⟩ := Rdd.arrI hu he hm ht h
  refine ⟨xs.map Int.toNat, ?_, by rw [List.length_map]; exact h1, fun x hx => ?_⟩
  · rw [List.map_map]
    refine List.map_congr_left fun x hx => ?_
    have := hk x (h2 x hx)
    simp only [Function.comp]
    rw [show ((x.toNat : Nat) : Int) = x by omega]
  · obtain ⟨y, hy, rfl⟩ := List.mem_map.1 hx
    have := hk y (h2 y hy)
    omega
theorem wfn_u32 (x : Int) (h : (Lit.int .u32 x).wf = true) : 0 ≤ x ∧ x < (4294967296 : Nat) := by
  rw [Lit.wf, Bool.and_eq_true] at h
  have h1 : 0 ≤ x := of_decide_eq_true h.1
  have h2 : x ≤ 4294967295 := of_decide_eq_true h.2
  omega
end Go.Proofs.Ytkjeidoplonkjaa
