/- The laid stack in memory: plain laws. -/
import Derived.Test.YtgfbdiibndbbjaaStackG
import Derived.Test.YtgfbdiibndbbjaaMemQ
set_option linter.unusedVariables false
set_option linter.unusedSimpArgs false
set_option maxRecDepth 100000
namespace Go.Proofs.Ytgfbdiibndbbjaa
open Go
theorem load_word {M : MemG} {a : Nat} {p : Pg} (hp : getPg M.pages (baseN a) = some p) (hl : p.b.length = 256) (hm : may p.perm 1 = true) (h4 : a % 4 = 0) : loadM M a 4 1 = (leN [byteM M a, byteM M (a + 1), byteM M (a + 2), byteM M (a + 3)], 0) := by
  have hs : sizeOk a 4 = true := by simp [sizeOk]; omega
  have hk : lookM M a 4 1 = 0 := by rw [lookM, hs, hp]; simp [hm]
  have hb : ∀ i, i < 4 → byteM M (a + i) = p.b.getD (a % 256 + i) 0 := fun i hi => by
    have h1 : baseN (a + i) = baseN a := by unfold baseN; omega
    have h2 : (a + i) % 256 = a % 256 + i := by omega
    rw [byteM, h1, hp]; dsimp only; rw [h2]
  have hlist : (p.b.drop (a % 256)).take 4 = [byteM M a, byteM M (a + 1), byteM M (a + 2), byteM M (a + 3)] := by
    have hh : a % 256 + 4 ≤ p.b.length := by omega
    apply List.ext_getElem?
    intro j
    rw [List.getElem?_take]
    by_cases hj : j < 4
    · rw [if_pos hj, List.getElem?_drop, List.getElem?_eq_getElem (by omega)]
      have h5 := hb j hj
      rw [List.getD_eq_getElem?_getD, List.getElem?_eq_getElem (by omega), Option.getD_some] at h5
      have : j = 0 ∨ j = 1 ∨ j = 2 ∨ j = 3 := by omega
      rcases this with rfl | rfl | rfl | rfl <;> simp [h5]
      exact h5.symm
    · rw [if_neg hj]
      have : ([byteM M a, byteM M (a + 1), byteM M (a + 2), byteM M (a + 3)] : Bytes)[j]? = none := by rw [List.getElem?_eq_none_iff]; simp; omega
      rw [this]
  rw [loadM, if_pos hk, hp]
  dsimp only
  rw [show ((4 : Int).toNat) = 4 from rfl, hlist]
end Go.Proofs.Ytgfbdiibndbbjaa
