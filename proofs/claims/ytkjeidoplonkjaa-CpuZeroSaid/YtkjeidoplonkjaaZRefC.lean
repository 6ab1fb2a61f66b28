import Derived.Test.YtkjeidoplonkjaaZRefB
set_option linter.unusedVariables false
set_option linter.unusedSimpArgs false
set_option maxRecDepth 100000
namespace Go.Proofs.Ytkjeidoplonkjaa
open Go
section
variable {P : Program} {n : Nat} {cx : Cx} {ρ ρs : Hp} {E : Env} {L : Own} {ops : Array Oper} {Q : Exit → Act → World → Prop} {S' : World → Prop} {π : List (Nat × Bool)}
theorem Cd.down {d : Code} (hle : Hp.le ρs ρ) (h0 : Hp.le cx.r0 ρs) (h : Cd P Q n cx ρs E L d) : Cd P Q n cx ρ E L d := fun a w ha hs => h a w ha (hs.down hle h0)
theorem Jp.down (hle : Hp.le ρs ρ) (h0 : Hp.le cx.r0 ρs) (h : Jp P ops Q S' n cx π ρs E L) : Jp P ops Q S' n cx π ρ E L := fun a w ha hs => h a w ha (hs.down hle h0)
end
theorem gLook_set : ∀ {g : List (Nat × Nat)} {f k n n' : Nat}, (g.map (·.1)).Nodup → g[f]? = some (k, n) → ∀ x, gLook (g.set f (k, n')) x = if x = k then n' else gLook g x
  | [], _, _, _, _, _, h, _ => by simp at h
  | y :: l, 0, k, n, n', hn, h, x => by
    simp only [List.getElem?_cons_zero, Option.some.injEq] at h
    subst h
    rw [List.set_cons_zero, gLook, gLook]
    by_cases e : k = x
    · simp [e]
    · rw [if_neg e, if_neg e, if_neg (Ne.symm e)]
  | (y, m) :: l, f + 1, k, n, n', hn, h, x => by
    rw [List.map_cons, List.nodup_cons] at hn
    rw [List.getElem?_cons_succ] at h
    have ih := gLook_set (n' := n') hn.2 h x
    rw [List.set_cons_succ, gLook, gLook, ih]
    have hne : y ≠ k := fun e => hn.1 (List.mem_map.2 ⟨(k, n), List.mem_of_getElem? h, e.symm⟩)
    by_cases e : y = x
    · rw [if_pos e, if_pos e, if_neg (by omega)]
    · rw [if_neg e, if_neg e]
theorem GenF.set {G : Nat → Nat} {g : List (Nat × Nat)} (h : GenF G g) {f k n : Nat} (hx : g[f]? = some (k, n)) : GenF (Ytkjeidoplonkjaa.bump G k) (g.set f (k, (n + 1) % 4294967296)) := by
  have hG : G k = n := by
    have h1 := h.gens k
    have h2 := gLook_set (n' := n) h.once hx k
    rw [if_pos rfl] at h2
    have h3 : g.set f (k, n) = g := by
      obtain ⟨h4, h5⟩ := List.getElem?_eq_some_iff.1 hx
      rw [← h5]; exact List.set_getElem_self h4
    rw [h3] at h2
    rw [h1, h2]
  refine ⟨fun x => ?_, ?_, fun y hy => ?_⟩
  · rw [gLook_set h.once hx x, Ytkjeidoplonkjaa.bump, hG, h.gens x]
  · have : (g.set f (k, (n + 1) % 4294967296)).map (·.1) = g.map (·.1) := by
      rw [List.map_set]
      obtain ⟨h4, h5⟩ := List.getElem?_eq_some_iff.1 hx
      have : (g.map (·.1))[f]'(by rw [List.length_map]; exact h4) = k := by rw [List.getElem_map, h5]
      show (g.map (·.1)).set f k = _
      rw [← this]; exact List.set_getElem_self _
    rw [this]; exact h.once
  · rcases List.mem_or_eq_of_mem_set hy with h1 | h1
    · exact h.rng y h1
    · have := h.rng _ (List.mem_of_getElem? hx)
      rw [h1]
      dsimp only at this ⊢
      omega
theorem pgs_one {l : List (Nat × Pg)} : (l.flatMap refPg).all one = true := by
  rw [List.all_eq_true]
  intro v hv
  obtain ⟨x, _, hx⟩ := List.mem_flatMap.1 hv
  rcases List.mem_cons.1 hx with rfl | hx
  · rfl
  · rcases List.mem_cons.1 hx with rfl | hx
    · rfl
    · obtain ⟨y, _, rfl⟩ := List.mem_map.1 hx; rfl
end Go.Proofs.Ytkjeidoplonkjaa
