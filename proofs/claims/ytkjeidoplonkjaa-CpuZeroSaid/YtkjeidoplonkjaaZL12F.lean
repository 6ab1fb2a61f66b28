import Derived.Test.YtkjeidoplonkjaaZSamee
set_option linter.unusedVariables false
set_option linter.unusedSimpArgs false
set_option maxRecDepth 100000
namespace Go.Proofs.Ytkjeidoplonkjaa
open Go
theorem storeM_no {M : MemG} {a : Nat} {n : Int} {v : Nat} (h : (storeM M a n v).1 ≠ 0) : (storeM M a n v).2 = M := by
  unfold storeM at h ⊢
  split
  · rename_i q; rw [if_pos q] at h; exact absurd rfl h
  · rfl
theorem storeM_len (M : MemG) (a : Nat) (n : Int) (v : Nat) : (storeM M a n v).2.pages.length = M.pages.length := by
  unfold storeM
  split
  · split
    · show (setPg _ _ _).length = _
      rw [setPg, List.length_map]
    · rfl
  · rfl
structure StepYes (M : MemG) (s : StP) (D : StP × EvP × MemG) : Prop where
  ev : D.2.1 = noEv
  st : ∃ rd v, rd < 32 ∧ D.1.x = (s.x.set rd v).set 0 0
  pc : D.1.pc % 4 = 0
  ret : D.1.ret = s.ret + 1
theorem step_shape (M : MemG) (s : StP) : ((stepP M s).2.1.kind ≠ 0 ∧ (stepP M s).1 = s ∧ (stepP M s).2.2 = M) ∨ StepYes M s (stepP M s) := by
  unfold stepP
  split
  · have hi := fetchP_ok M s.pc
    obtain ⟨i, hie⟩ : ∃ i, (fetchP M s.pc).1 = i := ⟨_, rfl⟩
    rw [hie] at hi ⊢
    have hplain : s.x.set 0 0 = (s.x.set 0 0).set 0 0 := by rw [List.set_set]
    unfold doInsP
    split
    · exact .inl ⟨(by decide : 5 ≠ 0), rfl, rfl⟩
    · split
      · exact .inl ⟨(by decide : 6 ≠ 0), rfl, rfl⟩
      · split
        · exact .inl ⟨(by decide : 7 ≠ 0), rfl, rfl⟩
        · rename_i h4
          have h4 : goesP i s % 4 = 0 := by omega
          split
          · split
            · exact .inr ⟨rfl, ⟨0, 0, by decide, hplain⟩, h4, rfl⟩
            · rename_i h5
              exact .inl ⟨(by decide : 4 ≠ 0), rfl, storeM_no h5⟩
          · split
            · split
              · exact .inr ⟨rfl, ⟨i.rd, _, hi.rd, rfl⟩, h4, rfl⟩
              · rename_i h6
                exact .inl ⟨h6, rfl, rfl⟩
            · exact .inr ⟨rfl, ⟨0, 0, by decide, hplain⟩, h4, rfl⟩
  · rename_i h
    exact .inl ⟨h, rfl, rfl⟩
theorem doInsP_pages (M : MemG) (i : InsP) (s : StP) : (doInsP M i s).2.2.pages.length = M.pages.length := by
  unfold doInsP
  repeat' split
  all_goals first | rfl | exact storeM_len ..
theorem stepP_pages (M : MemG) (s : StP) : (stepP M s).2.2.pages.length = M.pages.length := by
  unfold stepP
  split
  · exact doInsP_pages ..
  · rfl
theorem writeM_len (M : MemG) (a : Nat) (l : Bytes) (most need : Int) : (writeM M a l most need).2.pages.length = M.pages.length := by
  unfold writeM
  split
  · rfl
  · split
    · rfl
    · rw [← List.length_map (f := (·.1)), wrM_keys, List.length_map]
theorem madeD_len (xs : List Int) (bs : Bytes) : (madeD xs bs).pages.length ≤ 12 := by
  unfold madeD
  rw [writeM_len, writeM_len]
  decide +kernel
end Go.Proofs.Ytkjeidoplonkjaa
