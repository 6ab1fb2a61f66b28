/- The small logic, part seventeen: what is converted to the type it has; strings into bytes. -/
import Derived.Test.YtgfbdiibndbbjaaEngP
set_option linter.unusedVariables false
set_option linter.unusedSimpArgs false
namespace Go.Proofs.Ytgfbdiibndbbjaa
open Go
section
variable {P : Program} {n : Nat} {cx : Cx} {ρ : Hp} {E : Env} {L : Own} {o : Oper} {ops : Array Oper} {Q : Exit → Act → World → Prop} {S' : World → Prop} {π : List (Nat × Bool)} {i : Nat}
/-- Bytes that are converted to bytes: their block is marked; it may be read from then on. -/
theorem Jp.mark (d j : Nat) {x : Operand} {t e : TypeId} {m k c b : Nat} {cs : List Value} (hi : nth ops.toList i = some o) (hw : Want n ops E o true) (he : o.dst = some d) (hd : Nat.blt d n = true)
    (hop : o.op = .convert t t x) (hT : P.underlying t = some (.slice e)) (hE : P.underlying e = some (.int .u8)) (hx : evE E x = some (.slice (some ⟨b, 0, none⟩) k c)) (hj : look L j = some (OwnS e m (some ⟨b, 0, none⟩) k c cs))
    (hk : Kp π S' cx ρ ((j, RdS m (some ⟨b, 0, none⟩) k c cs) :: L)) (h : Jp P ops Q S' n cx π ρ ((d, .slice (some ⟨b, 0, none⟩) k c) :: E) ((j, RdS m (some ⟨b, 0, none⟩) k c cs) :: L)) : Jp P ops Q S' n cx ((i, false) :: π) ρ E L := by
  intro a w ha hs
  obtain ⟨hh, hA, hhw⟩ := hs.get hj
  rcases hA.2 with ⟨h1, _, _⟩ | ⟨b', cur, fr, h1, hb, hsz, hkc, hget, hnf⟩
  · cases h1
  · injection h1 with h1
    injection h1 with h1 _
    subst h1
    have hbw := hhw _ _ hb
    obtain ⟨lo, hi'⟩ := fr
    obtain ⟨fr', hfr'⟩ : ∃ fr' : Nat × Nat, fr' = (if lo == hi' then (cur.size, cur.size + 1) else (min lo cur.size, max hi' (cur.size + 1))) := ⟨_, rfl⟩
    obtain ⟨w', hw'⟩ : ∃ w' : World, w' = w.freeze ⟨b, cur.size, none⟩ 1 := ⟨_, rfl⟩
    have hheap : w'.heap = w.heap.modify b fun | .cells c elem (lo, hi) => .cells c elem (if lo == hi then (cur.size, cur.size + 1) else (min lo cur.size, max hi (cur.size + 1))) | o => o := by
      rw [hw', World.freeze]; rfl
    have hlt := lt_of_heap hbw
    have g1 : w'.heap[b]? = some (.cells cur e fr') := by
      rw [hheap, Array.getElem?_modify, if_pos rfl, hbw, hfr']; rfl
    have g2 : ∀ p, p ≠ b → w'.heap[p]? = w.heap[p]? := fun p hp => by rw [hheap, Array.getElem?_modify, if_neg (Ne.symm hp)]
    have g3 : w'.heap.size = w.heap.size := by rw [hheap, Array.size_modify]
    have hs' : St cx ρ ((j, RdS m (some ⟨b, 0, none⟩) k c cs) :: L) w' := by
      refine hs.setA hj (b := b) (ob := .cells cur e (lo, hi')) (ob' := .cells cur e fr') (fun h' hh' hw2 => ?_) (fun h' hb' => ?_) g1 g2 g3 (by rw [hw']; rfl) (by rw [hw']; rfl) (by rw [hw']; rfl)
      · rcases hh'.2 with ⟨q, _, _⟩ | ⟨b2, cur2, fr2, q, hb2, _⟩
        · cases q
        · injection q with q
          injection q with q _
          subst q
          have := hw2 _ _ hb2
          rw [hbw] at this
          rw [hb2, ← this]
      · refine ⟨hA.1.1, ⟨hkc, hA.1.2⟩, fun q v hq => ⟨_, rfl, ?_⟩⟩
        have hql := (List.getElem?_eq_some_iff.1 hq).1
        rw [hA.1.1] at hql
        rw [add_mk, Nat.zero_add]
        simp only [cellH, hb']
        have h2 := hget q hql
        rw [hq] at h2
        exact h2
    have hr : (execOp a.eval o).run P w = .ok (.value (.slice (some ⟨b, 0, none⟩) k c)) w' := by
      have hsh : w.shape? b = some (e, cur.size) := by rw [World.shape?, hbw]
      simp only [execOp, hop, ha.ev hx, convert, Sem.run_bind, run_underlying hT, Result.andThen_ok, beq_self_eq_true, run_underlying hE, markStringish, shape, Go.freeze, Sem.run, hsh, Sem.run_pure, ← hw']
    simp only [wpPi, wpOp, nth_arr hi, hw a ha, if_true, Oper.wp, hr, Oper.upon]
    exact .inl ⟨hk.get hs', h _ _ (ha.put' he hd _) hs'⟩
/-- A string's bytes in a new block. -/
theorem Jp.bytes (d j : Nat) {x : Operand} {st t e : TypeId} {v : ByteArray} (hi : nth ops.toList i = some o) (hw : Want n ops E o true) (he : o.dst = some d) (hd : Nat.blt d n = true)
    (hop : o.op = .convert st t x) (hS : P.underlying st = some .string) (hT : P.underlying t = some (.slice e)) (hE : P.underlying e = some (.int .u8)) (hx : evE E x = some (.string v)) (hsz : v.size ≤ 281474976710656)
    (h : ∀ b c, Kp π S' cx ρ ((j, RdS 1 (some ⟨b, 0, none⟩) v.size c (bytesV (str v))) :: L) ∧ Jp P ops Q S' n cx π ρ ((d, .slice (some ⟨b, 0, none⟩) v.size c) :: E) ((j, RdS 1 (some ⟨b, 0, none⟩) v.size c (bytesV (str v))) :: L)) : Jp P ops Q S' n cx ((i, false) :: π) ρ E L := by
  intro a w ha hs
  obtain ⟨c, hc⟩ : ∃ c : Nat, c = (Question.appendCap v.size 0 e).cut (w.tape w.drawn (Question.appendCap v.size 0 e)) := ⟨_, rfl⟩
  have hcv : v.size ≤ c := by rw [hc]; simp [Question.cut]
  obtain ⟨h1, h2⟩ := h w.heap.size c
  obtain ⟨cur, hcur⟩ : ∃ cur : Array Value, cur = v.data.map (fun b => Value.int .u8 b.toNat) ++ Array.replicate (c - v.size) (.int .u8 0) := ⟨_, rfl⟩
  obtain ⟨w1, hw1⟩ : ∃ w1 : World, w1 = { w with drawn := w.drawn + 1, heap := w.heap.push (.cells cur e) } := ⟨_, rfl⟩
  have hsh : w1.shape? w.heap.size = some (e, cur.size) := by rw [World.shape?, hw1]; simp
  obtain ⟨w', hw'⟩ : ∃ w' : World, w' = w1.freeze ⟨w.heap.size, cur.size, none⟩ 1 := ⟨_, rfl⟩
  have hheap : w'.heap = w.heap.push (.cells cur e (cur.size, cur.size + 1)) := by
    rw [hw', World.freeze, hw1]
    apply Array.ext_getElem?
    intro p
    simp only [Nat.succ_ne_zero, if_false, Array.getElem?_modify, Array.getElem?_push]
    by_cases hp : w.heap.size = p
    · subst hp; simp
    · rw [if_neg hp]
      split
      · rename_i q; exact absurd q.symm hp
      · rfl
  have hr : (execOp a.eval o).run P w = .ok (.value (.slice (some ⟨w.heap.size, 0, none⟩) v.size c)) w' := by
    simp only [execOp, hop, ha.ev hx, convert, Sem.run_bind, run_underlying hS, run_underlying hT, Result.andThen_ok, run_underlying hE, Conv.stringToBytes, choose, Sem.run, Question.forced, ← hc, newRow, newObj, markStringish, shape, Go.freeze, Bool.false_eq_true, if_false, ← hcur]
    simp only [← hw1, hsh, Sem.run, Sem.run_pure, Result.andThen_ok, ← hw']
  have hs' : St cx ρ ((j, RdS 1 (some ⟨w.heap.size, 0, none⟩) v.size c (bytesV (str v))) :: L) w' := by
    have h3 := (hs.drawn (w.drawn + 1)).allocA j (A := RdS 1 (some ⟨w.heap.size, 0, none⟩) v.size c (bytesV (str v))) (.cells cur e (cur.size, cur.size + 1)) fun h' hh' => by
      refine ⟨by simp [bytesV, str], ⟨hcv, hsz⟩, fun q u hq => ⟨_, rfl, ?_⟩⟩
      rw [add_mk, Nat.zero_add]
      have hh'' : h' w.heap.size = some (.cells cur e (cur.size, cur.size + 1)) := hh'
      simp only [cellH, hh'']
      rw [bytesV, List.getElem?_map] at hq
      obtain ⟨y, hy, rfl⟩ := Option.map_eq_some_iff.1 hq
      rw [str, Array.getElem?_toList] at hy
      have hlt := (Array.getElem?_eq_some_iff.1 hy).1
      have : cur[q]? = some (.int .u8 y.toNat) := by
        rw [hcur, Array.getElem?_append_left (by simpa using hlt), Array.getElem?_map, hy]; rfl
      exact this
    have e1 : w' = { { w with drawn := w.drawn + 1 } with heap := w.heap.push (.cells cur e (cur.size, cur.size + 1)) } := by
      have : w' = { w1 with heap := w'.heap } := by rw [hw', World.freeze]; rfl
      rw [this, hheap, hw1]
    rw [e1]; exact h3
  simp only [wpPi, wpOp, nth_arr hi, hw a ha, if_true, Oper.wp, hr, Oper.upon]
  exact .inl ⟨h1.get hs', h2 _ _ (ha.put' he hd _) hs'⟩
end
end Go.Proofs.Ytgfbdiibndbbjaa
