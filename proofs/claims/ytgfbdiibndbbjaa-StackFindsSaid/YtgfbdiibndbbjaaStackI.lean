/- The bytes of the laid page. -/
import Derived.Test.YtgfbdiibndbbjaaStackH
set_option linter.unusedVariables false
set_option linter.unusedSimpArgs false
set_option maxRecDepth 100000
namespace Go.Proofs.Ytgfbdiibndbbjaa
open Go
theorem lay_getD {p : Bytes} {k : Nat} {b : Bytes} (h : k + b.length ≤ p.length) (j : Nat) : (lay p k b).getD j 0 = if k ≤ j ∧ j < k + b.length then b.getD (j - k) 0 else p.getD j 0 := by
  have hk : (p.take k).length = k := by rw [List.length_take]; omega
  simp only [List.getD_eq_getElem?_getD, lay]
  by_cases h1 : j < k
  · rw [if_neg (by omega), List.append_assoc, List.getElem?_append_left (by omega), List.getElem?_take, if_pos h1]
  · by_cases h2 : j < k + b.length
    · rw [if_pos ⟨by omega, h2⟩, List.append_assoc, List.getElem?_append_right (by omega), List.getElem?_append_left (by omega), hk]
    · rw [if_neg (by omega), List.getElem?_append_right (by rw [List.length_append]; omega), List.length_append, hk, List.getElem?_drop]
      rw [show k + b.length + (j - (k + b.length)) = j by omega]
theorem leN_le32 {x : Nat} (h : x < 4294967296) (b0 b1 b2 b3 : UInt8) (e : [b0, b1, b2, b3] = le32 (x : Int)) : leN [b0, b1, b2, b3] = x := by
  have e2 : le32 (x : Int) = leB x 4 := by
    have h8 : ∀ y : Nat, UInt8.ofNat (y % 256) = UInt8.ofNat y := fun y => UInt8.toNat_inj.1 (by simp [UInt8.toNat_ofNat'])
    simp only [le32, leB, byteAt, List.range, List.range.loop, List.map_cons, List.map_nil, Int.toNat_natCast, h8]
  rw [e, e2, leN_leB]; omega
theorem flatMap_at {α β : Type} {m : Nat} {c : α → List β} (hm : ∀ x, (c x).length = m) : ∀ (l : List α) (k j : Nat) (x : α), l[k]? = some x → j < m → (l.flatMap c)[k * m + j]? = (c x)[j]?
  | [], k, j, x, h, _ => by simp at h
  | y :: l, 0, j, x, h, hj => by
    simp at h; subst h
    rw [List.flatMap_cons, Nat.zero_mul, Nat.zero_add, List.getElem?_append_left (by rw [hm]; exact hj)]
  | y :: l, k + 1, j, x, h, hj => by
    rw [List.flatMap_cons, List.getElem?_append_right (by rw [hm, Nat.succ_mul]; omega), hm, show (k + 1) * m + j - m = k * m + j by rw [Nat.succ_mul]; omega]
    exact flatMap_at hm l k j x (by simpa using h) hj
/-- The words of the page. -/
def wordP (l : List Bytes) (i : Nat) : Nat := if i = 0 then l.length else if i ≤ l.length then addrP l (i - 1) else 0
theorem vecP_at (l : List Bytes) {i r : Nat} (hi : i ≤ l.length) (hr : r < 4) : (vecP l l.length)[4 * i + r]? = (le32 (wordP l i : Int))[r]? := by
  have hle : ∀ x : Int, (le32 x).length = 4 := fun _ => rfl
  rw [vecP]
  by_cases h0 : i = 0
  · subst h0
    rw [Nat.mul_zero, Nat.zero_add, List.getElem?_append_left (by rw [hle]; exact hr)]; rfl
  · rw [List.getElem?_append_right (by rw [hle]; omega), hle, show 4 * i + r - 4 = (i - 1) * 4 + r by omega]
    rw [flatMap_at (m := 4) (fun _ => rfl) (List.range l.length) (i - 1) r (i - 1) (by rw [List.getElem?_range (by omega)]) hr]
    rw [wordP, if_neg h0, if_pos hi]
theorem page_fit {l : List Bytes} (hT : (textP l).length ≤ 3000) (hn : l.length ≤ 20) : at0P l + (textP l).length = 4096 ∧ spP l + 4 * (l.length + 3) ≤ at0P l ∧ spP l % 16 = 0 := by
  have h1 : at0P l = 4096 - (textP l).length := rfl
  have h2 : spP l = (at0P l - 4 * (l.length + 3)) / 16 * 16 := rfl
  omega
theorem page_word {l : List Bytes} (hT : (textP l).length ≤ 3000) (hn : l.length ≤ 20) {i r : Nat} (hi : i < l.length + 3) (hr : r < 4) : (pageP l l.length).getD (spP l + 4 * i + r) 0 = (le32 (wordP l i : Int)).getD r 0 := by
  obtain ⟨f1, f2, f3⟩ := page_fit hT hn
  have hv := vecP_len l l.length
  have hl1 : (lay noughts (at0P l) (textP l)).length = 4096 := by rw [lay_length (by rw [noughts_length]; omega), noughts_length]
  rw [pageP, lay_getD (by rw [hl1]; omega)]
  by_cases h : i ≤ l.length
  · rw [if_pos (by omega), show spP l + 4 * i + r - spP l = 4 * i + r by omega, List.getD_eq_getElem?_getD, vecP_at l h hr, List.getD_eq_getElem?_getD]
  · rw [if_neg (by omega), lay_getD (by rw [noughts_length]; omega), if_neg (by omega)]
    have hw : wordP l i = 0 := by rw [wordP, if_neg (by omega), if_neg h]
    rw [hw]
    have h1 : noughts.getD (spP l + 4 * i + r) 0 = 0 := by
      rw [noughts, List.getD_eq_getElem?_getD, List.getElem?_replicate]; split <;> rfl
    rw [h1]
    have : r = 0 ∨ r = 1 ∨ r = 2 ∨ r = 3 := by omega
    rcases this with rfl | rfl | rfl | rfl <;> rfl
theorem page_text {l : List Bytes} (hT : (textP l).length ≤ 3000) (hn : l.length ≤ 20) {j : Nat} (hj : j < (textP l).length) : (pageP l l.length).getD (at0P l + j) 0 = (textP l).getD j 0 := by
  obtain ⟨f1, f2, f3⟩ := page_fit hT hn
  have hv := vecP_len l l.length
  have hl1 : (lay noughts (at0P l) (textP l)).length = 4096 := by rw [lay_length (by rw [noughts_length]; omega), noughts_length]
  rw [pageP, lay_getD (by rw [hl1]; omega), if_neg (by omega), lay_getD (by rw [noughts_length]; omega), if_pos (by omega), show at0P l + j - at0P l = j by omega]
end Go.Proofs.Ytgfbdiibndbbjaa
