/- A laid page in memory: words are loaded, texts are read. -/
import Derived.Test.YtgfbdiibndbbjaaStackI
set_option linter.unusedVariables false
set_option linter.unusedSimpArgs false
set_option maxRecDepth 100000
namespace Go.Proofs.Ytgfbdiibndbbjaa
open Go
structure LaidM (M : MemG) (page : Bytes) : Prop where
  pg : ∀ k, k % 256 = 0 → 2147475456 ≤ k → k < 2147479552 → ∃ p, getPg M.pages k = some p ∧ p.b.length = 256 ∧ p.perm = 3
  byte : ∀ j, j < 4096 → byteM M (2147475456 + j) = page.getD j 0
theorem LaidM.load {M : MemG} {page : Bytes} (h : LaidM M page) {o x : Nat} (ho : o + 4 ≤ 4096) (h4 : o % 4 = 0) (hx : x < 4294967296) (hw : ∀ r, r < 4 → page.getD (o + r) 0 = (le32 (x : Int)).getD r 0) : loadM M (2147475456 + o) 4 1 = (x, 0) := by
  obtain ⟨p, h1, h2, h3⟩ := h.pg (baseN (2147475456 + o)) (by unfold baseN; omega) (by unfold baseN; omega) (by unfold baseN; omega)
  rw [load_word h1 h2 (by rw [h3]; decide) (by omega)]
  have hb : ∀ r, r < 4 → byteM M (2147475456 + o + r) = (le32 (x : Int)).getD r 0 := fun r hr => by
    rw [Nat.add_assoc, h.byte (o + r) (by omega), hw r hr]
  have h0 := hb 0 (by omega)
  rw [Nat.add_zero] at h0
  rw [h0, hb 1 (by omega), hb 2 (by omega), hb 3 (by omega)]
  exact congrArg (fun y => (y, (0 : Int))) (leN_le32 hx _ _ _ _ rfl)
theorem textP_split {l : List Bytes} {i : Nat} (hi : i < l.length) : textP l = textP (l.take i) ++ ((l[i] ++ [0]) ++ textP (l.drop (i + 1))) := by
  have h : l = l.take i ++ (l[i] :: l.drop (i + 1)) := by rw [← List.drop_eq_getElem_cons hi, List.take_append_drop]
  conv => lhs; rw [h]
  rw [textP, List.flatMap_append, List.flatMap_cons]; rfl
theorem textP_at {l : List Bytes} {i j : Nat} (hi : i < l.length) (hj : j < l[i].length + 1) : (textP l).getD ((textP (l.take i)).length + j) 0 = (l[i] ++ [0]).getD j 0 ∧ (textP (l.take i)).length + j < (textP l).length := by
  have hlen : (l[i] ++ [0]).length = l[i].length + 1 := by simp
  have h := textP_split hi
  refine ⟨?_, ?_⟩
  · rw [h, List.getD_eq_getElem?_getD, List.getElem?_append_right (by omega), Nat.add_sub_cancel_left, List.getElem?_append_left (by omega), List.getD_eq_getElem?_getD]
  · rw [h, List.length_append, List.length_append, hlen]; omega
theorem LaidM.read {M : MemG} {l : List Bytes} (h : LaidM M (pageP l l.length)) (hT : (textP l).length ≤ 3000) (hn : l.length ≤ 20) {i : Nat} (hi : i < l.length) : readM M (addrP l i) ((l[i].length : Int) + 1) = (l[i] ++ [0], 0) := by
  obtain ⟨f1, f2, f3⟩ := page_fit hT hn
  have hend := (textP_at (j := l[i].length) hi (by omega)).2
  have ha : addrP l i = 2147475456 + (at0P l + (textP (l.take i)).length) := by rw [addrP]; omega
  have hnat : ((l[i].length : Int) + 1).toNat = l[i].length + 1 := by omega
  have hall : allM M (addrP l i) (l[i].length + 1) 1 = true := allM_yes (by rw [ha]; omega) fun j hj => by
    rw [allCnt] at hj
    obtain ⟨p, h1, h2, h3⟩ := h.pg (baseN (addrP l i) + 256 * j) (by unfold baseN; omega) (by rw [ha] at hj ⊢; unfold baseN; omega) (by rw [ha] at hj ⊢; unfold baseN; omega)
    rw [pgOk_some h1, h3]; decide
  have hL : readL M (addrP l i) (l[i].length + 1) = l[i] ++ [0] := by
    apply List.ext_getElem?
    intro j
    by_cases hj : j < l[i].length + 1
    · have h5 := (textP_at hi hj)
      rw [readL, List.getElem?_map, List.getElem?_range hj, Option.map_some, ha, Nat.add_assoc, h.byte _ (by omega), Nat.add_assoc, page_text hT hn h5.2, h5.1, List.getD_eq_getElem?_getD, List.getElem?_eq_getElem (by simp; omega)]
      rfl
    · rw [List.getElem?_eq_none_iff.2 (by rw [readL_length]; omega), List.getElem?_eq_none_iff.2 (by simp; omega)]
  rw [readM, if_neg (by omega), hnat, if_neg (by rw [hall]; simp), hL]
end Go.Proofs.Ytgfbdiibndbbjaa
