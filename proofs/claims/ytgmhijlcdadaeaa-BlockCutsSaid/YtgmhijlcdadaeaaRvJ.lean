/- Law 18: BlockRows. -/
import Derived.Test.YtgmhijlcdadaeaaRvG
set_option linter.unusedVariables false
set_option linter.unusedSimpArgs false
set_option maxRecDepth 100000
namespace Go.Proofs.Ytgmhijlcdadaeaa
open Go
theorem findL_len (M : MemG) (pc : Nat) : ∀ (n k : Nat), (findL M pc n k).length ≤ n
  | 0, _ => Nat.le_refl _
  | n + 1, k => by
    rw [findL]
    split
    · rw [List.length_cons]
      split
      · simp
      · have := findL_len M pc n (k + 1); omega
    · simp
theorem findL_get (M : MemG) (pc : Nat) : ∀ (n k i : Nat) (x : InsP), (findL M pc n k)[i]? = some x →
    atP pc (k + i) / 256 = pc / 256 ∧ (fetchP M (atP pc (k + i))).2.kind = 0 ∧ (fetchP M (atP pc (k + i))).1 = x ∧ (i + 1 < (findL M pc n k).length → endsP x.op = false)
  | 0, k, i, x, h => by simp [findL] at h
  | n + 1, k, i, x, h => by
    rw [findL] at h ⊢
    split at h
    · rename_i hc
      rw [if_pos hc]
      cases i with
      | zero =>
        simp only [List.getElem?_cons_zero, Option.some.injEq] at h
        refine ⟨hc.1, hc.2, h, fun hl => ?_⟩
        rw [← h]
        cases he : endsP (fetchP M (atP pc k)).1.op with
        | false => rfl
        | true => rw [he] at hl; simp at hl
      | succ i =>
        rw [List.getElem?_cons_succ] at h
        split at h
        · simp at h
        · rename_i he
          have := findL_get M pc n (k + 1) i x h
          rw [show k + 1 + i = k + (i + 1) by omega] at this
          rw [if_neg he]
          refine ⟨this.1, this.2.1, this.2.2.1, fun hl => this.2.2.2 ?_⟩
          rw [List.length_cons] at hl; omega
    · simp at h
end Go.Proofs.Ytgmhijlcdadaeaa
