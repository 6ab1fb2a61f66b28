import Derived.Test.YtgmhijlcdadaeaaZShG
set_option linter.unusedVariables false
set_option linter.unusedSimpArgs false
set_option maxRecDepth 100000
namespace Go.Proofs.Ytgmhijlcdadaeaa
open Go
def clrTo (f i : Nat) (b : Bytes) : Bytes := b.zipIdx.map fun x => if f ≤ x.2 ∧ x.2 < i then 0 else x.1
structure CInv (l0 fin : List (Nat × Pg)) (blk : Nat → Nat) (left : MapL) (l : List (Nat × Pg)) (pm : MapL) : Prop where
  rising : Rising l
  perm : pm.Perm (pmOf l blk)
  sub : ∀ y ∈ left, y ∈ pmOf l0 blk
  nodup : (left.map (·.1)).Nodup
  get : ∀ k : Nat, getPg l k = if (k : Int) ∈ left.map (·.1) then getPg l0 k else getPg fin k
theorem pmOf_rem (l : List (Nat × Pg)) (blk : Nat → Nat) (k : Nat) : pmOf (remPg l k) blk = (pmOf l blk).filter fun x => x.1 != (k : Int) := by
  unfold remPg pmOf
  rw [List.filter_map]
  congr 1
  apply List.filter_congr
  intro y _
  simp only [Function.comp]
  rw [Bool.eq_iff_iff]
  simp
  omega
theorem CInv.step {l0 : List (Nat × Pg)} {a e : Nat} {blk : Nat → Nat} {left : MapL} {l : List (Nat × Pg)} {pm : MapL} (h0 : ShOk l0) (h : CInv l0 (clearP l0 a e) blk left l pm) {q k : Nat} {p : Pg} (hq : left[q]? = some ((k : Int), shPtr blk k)) (hg : getPg l0 k = some p) :
    getPg l k = some p ∧ (∀ z ∈ left.eraseIdx q, z.1 ≠ (k : Int)) ∧ (cntB (clrB k a e p.b) = 0 → CInv l0 (clearP l0 a e) blk (left.eraseIdx q) (remPg (setPg l k (pgB (clrB k a e p.b))) k) (mdel pm (k : Int))) ∧ (cntB (clrB k a e p.b) ≠ 0 → CInv l0 (clearP l0 a e) blk (left.eraseIdx q) (setPg l k (pgB (clrB k a e p.b))) pm) := by
  have hpe := (perm_erase hq).map (·.1)
  rw [List.map_cons] at hpe
  have hn2 := hpe.nodup_iff.1 h.nodup
  rw [List.nodup_cons] at hn2
  have hin : ((k : Int)) ∈ left.map (·.1) := hpe.mem_iff.2 (List.mem_cons_self ..)
  have hgl : getPg l k = some p := by rw [h.get, if_pos hin, hg]
  have hfin := clear_get h0 a e k
  rw [hg] at hfin
  dsimp only at hfin
  have hoth : ∀ j : Nat, j ≠ k → ((j : Int) ∈ left.map (·.1) ↔ (j : Int) ∈ (left.eraseIdx q).map (·.1)) := fun j hj => by
    rw [hpe.mem_iff, List.mem_cons]
    constructor
    · intro hx; exact hx.resolve_left (by omega)
    · exact .inr
  have hsub : ∀ y ∈ left.eraseIdx q, y ∈ pmOf l0 blk := fun y hy => h.sub y (List.mem_of_mem_eraseIdx hy)
  have hrs : Rising (setPg l k (pgB (clrB k a e p.b))) := h.rising.set _ _
  refine ⟨hgl, fun z hz e => hn2.1 (by dsimp only; rw [← e]; exact List.mem_map.2 ⟨z, hz, rfl⟩), fun hz => ?_, fun hz => ?_⟩
  · rw [if_pos hz] at hfin
    refine ⟨hrs.sublist List.filter_sublist, ?_, hsub, hn2.2, fun j => ?_⟩
    · rw [pmOf_rem, pmOf_set]
      exact mdel_perm h.perm (pmOf_nodup h.rising.nodup blk) _
    · rw [getPg_rem, getPg_set]
      by_cases ej : j = k
      · subst ej
        rw [if_pos rfl, if_neg hn2.1, hfin]
      · rw [if_neg ej, if_neg ej, h.get]
        simp only [hoth j ej]
  · rw [if_neg hz] at hfin
    refine ⟨hrs, by rw [pmOf_set]; exact h.perm, hsub, hn2.2, fun j => ?_⟩
    rw [getPg_set]
    by_cases ej : j = k
    · subst ej
      rw [if_pos rfl, if_neg hn2.1, hfin, hgl]; rfl
    · rw [if_neg ej, h.get]
      simp only [hoth j ej]
end Go.Proofs.Ytgmhijlcdadaeaa
