/- The small logic, part eight: pieces side by side. -/
import Derived.Test.YtjjhihlmoecmlaaEngG
set_option linter.unusedVariables false
set_option linter.unusedSimpArgs false
namespace Go.Proofs.Ytjjhihlmoecmlaa
open Go
/-! ### 25. Two pieces as one -/
/-- Both, apart. -/
def Sep (A B : HProp) : HProp := fun h => ∃ h1 h2, A h1 ∧ B h2 ∧ Hp.disj h1 h2 ∧ Hp.le h1 h ∧ Hp.le h2 h
theorem disj_le {h k h' : Hp} (d : Hp.disj h k) (l : Hp.le h' h) : Hp.disj h' k := fun b => by
  rcases d b with q | q
  · cases hb : h' b with
    | none => exact .inl rfl
    | some o => rw [l _ _ hb] at q; cases q
  · exact .inr q
section
variable {P : Program} {n : Nat} {cx : Cx} {ρ : Hp} {E : Env} {L : Own} {ops : Array Oper} {Q : Exit → Act → World → Prop} {S' : World → Prop} {π : List (Nat × Bool)}
theorem St.part {w : World} (hs : St cx ρ L w) {j k : Nat} {A B : HProp} (hjk : j ≠ k) (e : look L j = some (Sep A B)) : St cx ρ ((j, A) :: (k, B) :: L) w := by
  obtain ⟨H, a, b, c, d⟩ := hs.ex
  obtain ⟨h1, h2, ha, hb, hd, l1, l2⟩ := a j _ e
  refine { hs with ex := ⟨fun i => if i = j then h1 else if i = k then h2 else H i, fun i C hC => ?_, fun p q hpq => ?_, fun p => ?_, fun p bb o hp => ?_⟩ }
  · rw [look_cons] at hC
    split at hC
    · rename_i h; injection hC with hC; subst hC; subst h; simpa using ha
    · rename_i h
      rw [look_cons] at hC
      split at hC
      · rename_i h'; injection hC with hC; subst hC; subst h'; simp [Ne.symm h]; exact hb
      · rename_i h'; simp [Ne.symm h, Ne.symm h']; exact a i C hC
  · dsimp only
    have sub : ∀ i, i ≠ j → i ≠ k → Hp.disj (H i) h1 ∧ Hp.disj (H i) h2 := fun i hi hk => ⟨Hp.disj_symm (disj_le (b j i (Ne.symm hi)) l1), Hp.disj_symm (disj_le (b j i (Ne.symm hi)) l2)⟩
    by_cases hp : p = j <;> by_cases hq : q = j <;> by_cases hp' : p = k <;> by_cases hq' : q = k <;> simp only [hp, hq, hp', hq', if_true, if_false]
    all_goals first
      | omega
      | (exfalso; omega)
      | (simp only [Ne.symm hjk, if_true, if_false]; first | exact hd | exact Hp.disj_symm hd | exact (sub _ ‹_› ‹_›).1 | exact (sub _ ‹_› ‹_›).2 | exact Hp.disj_symm (sub _ ‹_› ‹_›).1 | exact Hp.disj_symm (sub _ ‹_› ‹_›).2 | exact b p q hpq)
      | exact hd
      | exact Hp.disj_symm hd
      | exact (sub _ ‹_› ‹_›).1
      | exact (sub _ ‹_› ‹_›).2
      | exact Hp.disj_symm (sub _ ‹_› ‹_›).1
      | exact Hp.disj_symm (sub _ ‹_› ‹_›).2
      | exact b p q hpq
  · dsimp only
    by_cases hp : p = j
    · rw [if_pos hp]; exact disj_le (c j) l1
    · by_cases hp' : p = k
      · rw [if_neg hp, if_pos hp']; exact disj_le (c j) l2
      · rw [if_neg hp, if_neg hp']; exact c p
  · dsimp only at hp
    split at hp
    · exact d j bb o (l1 _ _ hp)
    · split at hp
      · exact d j bb o (l2 _ _ hp)
      · exact d p bb o hp
theorem St.glue {w : World} (hs : St cx ρ L w) {j k : Nat} {A B : HProp} (hjk : j ≠ k) (e1 : look L j = some A) (e2 : look L k = some B) : St cx ρ ((j, Sep A B) :: (k, Emp) :: L) w := by
  obtain ⟨H, a, b, c, d⟩ := hs.ex
  refine { hs with ex := ⟨fun i => if i = j then Hp.union (H j) (H k) else if i = k then Hp.emp else H i, fun i C hC => ?_, fun p q hpq => ?_, fun p => ?_, fun p bb o hp => ?_⟩ }
  · rw [look_cons] at hC
    split at hC
    · rename_i h; injection hC with hC; subst hC; subst h
      dsimp only
      rw [if_pos rfl]
      exact ⟨H j, H k, a j _ e1, a k _ e2, b j k hjk, Hp.le_union_left _ _, Hp.le_union_right (b j k hjk)⟩
    · rename_i h
      rw [look_cons] at hC
      split at hC
      · rename_i h'; injection hC with hC; subst hC; exact trivial
      · rename_i h'; dsimp only; rw [if_neg (Ne.symm h), if_neg (Ne.symm h')]; exact a i C hC
  · have key : ∀ q, q ≠ j → q ≠ k → Hp.disj (Hp.union (H j) (H k)) (H q) := fun q hq hq' bb => by
      cases hb : Hp.union (H j) (H k) bb with
      | none => exact .inl rfl
      | some o =>
        rcases Hp.union_cases hb with h | ⟨_, h⟩
        · rcases b j q (Ne.symm hq) bb with h' | h'
          · rw [h] at h'; cases h'
          · exact .inr h'
        · rcases b k q (Ne.symm hq') bb with h' | h'
          · rw [h] at h'; cases h'
          · exact .inr h'
    dsimp only
    by_cases hp : p = j
    · by_cases hq : q = j
      · exact absurd (hp.trans hq.symm) hpq
      · rw [if_pos hp, if_neg hq]
        by_cases hq' : q = k
        · rw [if_pos hq']; exact Hp.disj_emp _
        · rw [if_neg hq']; exact key q hq hq'
    · rw [if_neg hp]
      by_cases hp' : p = k
      · rw [if_pos hp']; exact Hp.emp_disj _
      · rw [if_neg hp']
        by_cases hq : q = j
        · rw [if_pos hq]; exact Hp.disj_symm (key p hp hp')
        · rw [if_neg hq]
          by_cases hq' : q = k
          · rw [if_pos hq']; exact Hp.disj_emp _
          · rw [if_neg hq']; exact b p q hpq
  · dsimp only
    by_cases hp : p = j
    · rw [if_pos hp]
      intro bb
      cases hb : Hp.union (H j) (H k) bb with
      | none => exact .inl rfl
      | some o =>
        rcases Hp.union_cases hb with h | ⟨_, h⟩
        · rcases c j bb with h' | h'
          · rw [h] at h'; cases h'
          · exact .inr h'
        · rcases c k bb with h' | h'
          · rw [h] at h'; cases h'
          · exact .inr h'
    · by_cases hp' : p = k
      · rw [if_neg hp, if_pos hp']; exact Hp.emp_disj _
      · rw [if_neg hp, if_neg hp']; exact c p
  · dsimp only at hp
    split at hp
    · rcases Hp.union_cases hp with h | ⟨_, h⟩
      · exact d j bb o h
      · exact d k bb o h
    · split at hp
      · cases hp
      · exact d p bb o hp
theorem Cd.part {d : Code} (j k : Nat) {A B : HProp} (hjk : j ≠ k) (e : look L j = some (Sep A B)) (h : Cd P Q n cx ρ E ((j, A) :: (k, B) :: L) d) : Cd P Q n cx ρ E L d := fun a w ha hs => h a w ha (hs.part hjk e)
theorem Cd.glue {d : Code} (j k : Nat) {A B : HProp} (hjk : j ≠ k) (e1 : look L j = some A) (e2 : look L k = some B) (h : Cd P Q n cx ρ E ((j, Sep A B) :: (k, Emp) :: L) d) : Cd P Q n cx ρ E L d := fun a w ha hs => h a w ha (hs.glue hjk e1 e2)
theorem Jp.part (j k : Nat) {A B : HProp} (hjk : j ≠ k) (e : look L j = some (Sep A B)) (h : Jp P ops Q S' n cx π ρ E ((j, A) :: (k, B) :: L)) : Jp P ops Q S' n cx π ρ E L := fun a w ha hs => h a w ha (hs.part hjk e)
theorem Jp.glue (j k : Nat) {A B : HProp} (hjk : j ≠ k) (e1 : look L j = some A) (e2 : look L k = some B) (h : Jp P ops Q S' n cx π ρ E ((j, Sep A B) :: (k, Emp) :: L)) : Jp P ops Q S' n cx π ρ E L := fun a w ha hs => h a w ha (hs.glue hjk e1 e2)
variable {o : Oper} {i : Nat} {v : Value}
/-! ### 26. Arrays that lie in a block; cells at places that are no numerals -/
theorem Y.indexArr {x y : Operand} {t e : TypeId} {k : IntKind} {j : Int} {A : Addr} {l m q : Nat} (hop : o.op = .indexAddr t x y) (hx : evE E x = some (.pointer (some A))) (hy : evE E y = some (.int k j)) (hT : P.underlying t = some (.array l e))
    (hz : ∀ w, (sizeOf e).run P w = .ok m w) (h0 : 0 ≤ j) (h1 : j < l) (hq : j.toNat * m = q) : Y P n cx ρ E L o (.pointer (some (A.add q))) := fun ac w ha hs => by
  subst hq
  simp only [execOp, hop, ha.ev hx, ha.ev hy] <;> simp [Instr.indexAt, Instr.sureAddr, asIntOf, run_underlying' hT, h0, h1, hz, go_sem]
theorem Y.loadP (j : Nat) {x : Operand} {t : TypeId} {a : Addr} {b off : Nat} {cs : Array Value} {T : TypeId} {fr : Nat × Nat} (hop : o.op = .load t x) (hA : ∀ w, (isAgg t).run P w = .ok false w) (hx : evE E x = some (.pointer (some a)))
    (hj : look L j = some (Pt b (.cells cs T fr))) (ha' : a = ⟨b, off, none⟩) (hc : cs[off]? = some v) : Y P n cx ρ E L o v := fun ac w ha hs => by
  subst ha'
  have h1 : w.cell? ⟨b, off, none⟩ = some v := by simp [World.cell?, hs.pt hj, hc]
  simp only [execOp, hop, ha.ev hx, Sem.run_bind, run_load1 hA h1, Result.andThen_ok, Sem.run_pure]
theorem Jp.storeP (j : Nat) {x y : Operand} {t : TypeId} {a : Addr} {b off : Nat} {cs res : Array Value} {T : TypeId} {fr : Nat × Nat} (hi : nth ops.toList i = some o) (hw : Want n ops E o true) (he : o.dst = none)
    (hop : o.op = .store t x y) (hz : ∀ w, (sizeOf t).run P w = .ok 1 w) (hx : evE E x = some (.pointer (some a))) (hy : evE E y = some v) (h1 : one v = true)
    (hj : look L j = some (Pt b (.cells cs T fr))) (ha' : a = ⟨b, off, none⟩) (hlt : off < cs.size) (hfr : (decide (fr.1 ≤ off) && decide (off < fr.2)) = false) (hres : cs.setIfInBounds off v = res)
    (hk : Kp π S' cx ρ ((j, Pt b (.cells res T fr)) :: L)) (h : Jp P ops Q S' n cx π ρ E ((j, Pt b (.cells res T fr)) :: L)) : Jp P ops Q S' n cx ((i, false) :: π) ρ E L := by
  subst ha' hres
  intro a w ha hs
  have hb := hs.pt hj
  have hc : w.cell? ⟨b, off, none⟩ = some cs[off] := by simp [World.cell?, hb, hlt]
  have hr := run_store1 (P := P) hz (v := v) h1 hc (by rw [frozen_pt hb]; exact hfr)
  simp only [wpPi, wpOp, nth_arr hi, hw a ha, if_true, Oper.wp, execOp, hop, ha.ev hx, ha.ev hy, Sem.run_bind, hr, Result.andThen_ok, Sem.run_pure, Oper.upon, he]
  have hs' := hs.store hj off v
  exact .inl ⟨hk.get hs', h _ _ ha hs'⟩
end
end Go.Proofs.Ytjjhihlmoecmlaa
