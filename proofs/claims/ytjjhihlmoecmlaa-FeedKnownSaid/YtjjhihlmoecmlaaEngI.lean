/- The small logic, part nine: ranging over a map that stays as it is. -/
import Derived.Test.YtjjhihlmoecmlaaEngH
set_option linter.unusedVariables false
set_option linter.unusedSimpArgs false
namespace Go.Proofs.Ytjjhihlmoecmlaa
open Go
/-! ### 27. A map and an iterator over it -/
/-- The entries that are left: their stamps are not among those seen. -/
def leftE (es : Array MapEntry) (seen : Array Nat) : List MapEntry := es.toList.filter fun e => !seen.contains e.born
/-- A map (block b) and an iterator (block r) that stands over it; left: what has not been seen, in the map's order; cur: what was seen last. -/
def RangeO (kk : IntKind) (b r : Nat) (m : MapL) (left : MapL) (cur : Option (Int × Value)) : HProp := fun h => b ≠ r ∧ ∃ es clock seen, h b = some (.map es clock) ∧ h r = some (.mapIter (some b) clock seen clock) ∧ Stamps es clock ∧
  es.toList.map (fun e => (e.key, e.val)) = m.map (fun x => (Value.int kk x.1, x.2)) ∧ (leftE es seen).map (fun e => (e.key, e.val)) = left.map (fun x => (Value.int kk x.1, x.2)) ∧
  ∀ x, cur = some x → ∃ e, seen.back? = some e.born ∧ e ∈ es.toList ∧ e.key = .int kk x.1 ∧ e.val = x.2
section
variable {P : Program} {n : Nat} {cx : Cx} {ρ : Hp} {E : Env} {L : Own} {o : Oper} {ops : Array Oper} {Q : Exit → Act → World → Prop} {S' : World → Prop} {π : List (Nat × Bool)} {i : Nat} {v : Value}
theorem leftE_nil (es : Array MapEntry) : leftE es #[] = es.toList := by simp [leftE]
theorem find_born {es : Array MapEntry} {clock : Nat} (hs : Stamps es clock) {e : MapEntry} (he : e ∈ es.toList) : es.find? (·.born == e.born) = some e := by
  rw [← Array.find?_toList]
  have key : ∀ l : List MapEntry, (l.map (·.born)).Nodup → e ∈ l → l.find? (·.born == e.born) = some e := by
    intro l
    induction l with
    | nil => intro _ h; cases h
    | cons x l ih =>
      intro hn h
      rw [List.map_cons, List.nodup_cons] at hn
      rw [List.find?_cons]
      rcases List.mem_cons.1 h with rfl | h
      · simp
      · have hne : ¬ x.born = e.born := fun q => hn.1 (by rw [q]; exact List.mem_map.2 ⟨e, h, rfl⟩)
        rw [ih hn.2 h, beq_eq_false_iff_ne.2 hne]
  exact key _ hs.1 he
theorem leftE_push {es : Array MapEntry} {clock : Nat} (hs : Stamps es clock) {seen : Array Nat} {q : Nat} {e : MapEntry} (he : (leftE es seen)[q]? = some e) : leftE es (seen.push e.born) = (leftE es seen).eraseIdx q := by
  have h1 : leftE es (seen.push e.born) = (leftE es seen).filter fun x => !(x.born == e.born) := by
    rw [leftE, leftE, List.filter_filter]
    congr 1; funext x
    simp only [Array.contains_push, Bool.not_or]
    rw [Bool.and_comm]
  rw [h1]
  have hn : ((leftE es seen).map (·.born)).Nodup := hs.1.sublist (List.filter_sublist.map _)
  have key : ∀ (l : List MapEntry) (q : Nat), (l.map (·.born)).Nodup → l[q]? = some e → l.filter (fun x => !(x.born == e.born)) = l.eraseIdx q := by
    intro l
    induction l with
    | nil => intro q _ h; simp at h
    | cons x l ih =>
      intro q hn h
      rw [List.map_cons, List.nodup_cons] at hn
      cases q with
      | zero =>
        simp at h; subst h
        rw [List.filter_cons_of_neg (by simp), List.eraseIdx_cons_zero, List.filter_eq_self]
        intro y hy
        have : ¬ y.born = x.born := fun q => hn.1 (by rw [← q]; exact List.mem_map.2 ⟨y, hy, rfl⟩)
        simp [this]
      | succ q =>
        have h' : l[q]? = some e := by simpa using h
        have hne : ¬ x.born = e.born := fun q' => hn.1 (by rw [q']; exact List.mem_map.2 ⟨e, List.mem_of_getElem? h', rfl⟩)
        rw [List.filter_cons_of_pos (by simp [hne]), List.eraseIdx_cons_succ, ih q hn.2 h']
  exact key _ _ hn he
theorem run_getIter {w : World} {r : Nat} {A : Option Nat} {a : Nat} {seen : Array Nat} {c : Nat} (h : w.heap[r]? = some (.mapIter A a seen c)) : (getObj r).run P w = .ok (.mapIter A a seen c) w := by
  simp only [getObj, Sem.run, h]
theorem run_setIter {w : World} {r : Nat} {A : Option Nat} {a : Nat} {seen : Array Nat} {c : Nat} {ob : Obj} (h : w.heap[r]? = some (.mapIter A a seen c)) : (setObj r ob).run P w = .ok () { w with heap := w.heap.setIfInBounds r ob } := by
  simp only [setObj, Sem.run, h]
theorem rangeO_get {w : World} (hs : St cx ρ L w) {j b r : Nat} {kk : IntKind} {m left : MapL} {cur : Option (Int × Value)} (hj : look L j = some (RangeO kk b r m left cur)) : b ≠ r ∧ ∃ es clock seen, w.heap[b]? = some (.map es clock) ∧ w.heap[r]? = some (.mapIter (some b) clock seen clock) ∧ Stamps es clock ∧
    es.toList.map (fun e => (e.key, e.val)) = m.map (fun x => (Value.int kk x.1, x.2)) ∧ (leftE es seen).map (fun e => (e.key, e.val)) = left.map (fun x => (Value.int kk x.1, x.2)) ∧
    ∀ x, cur = some x → ∃ e, seen.back? = some e.born ∧ e ∈ es.toList ∧ e.key = .int kk x.1 ∧ e.val = x.2 := by
  obtain ⟨hh, ⟨hbr, es, clock, seen, h1, h2, h3⟩, hw⟩ := hs.get hj
  exact ⟨hbr, es, clock, seen, hw _ _ h1, hw _ _ h2, h3⟩
/-- The entry that was seen last. -/
theorem Y.entry (j : Nat) {x : Operand} {b r : Nat} {kk : IntKind} {m left : MapL} {c : Int × Value} (hop : o.op = .entry x) (hx : evE E x = some (.pointer (some ⟨r, 0, none⟩))) (hj : look L j = some (RangeO kk b r m left (some c))) : Y P n cx ρ E L o (.tuple #[.int kk c.1, c.2]) := fun ac w ha hs => by
  obtain ⟨hbr, es, clock, seen, h1, h2, h3, h4, h5, h6⟩ := rangeO_get hs hj
  obtain ⟨e, g1, g2, g3, g4⟩ := h6 c rfl
  have hf := find_born h3 g2
  simp only [execOp, hop, ha.ev hx, Instr.entry, Sem.run_bind, run_getIter h2, Result.andThen_ok, g1, run_getObj h1, bne_self_eq_false, Bool.false_eq_true, if_false, hf, Sem.run_pure, g3, g4]
theorem St.exact {w : World} (hs : St cx ρ L w) {j b : Nat} {kk : IntKind} {m : MapL} (hj : look L j = some (MapO kk b m)) {es : Array MapEntry} {clock : Nat} (hb : w.heap[b]? = some (.map es clock)) : St cx ρ ((j, Pt b (.map es clock)) :: L) w := by
  have hA : ∀ h : Hp, MapO kk b m h → (∀ b o, h b = some o → w.heap[b]? = some o) → h b = some (.map es clock) := fun h a hk => by
    obtain ⟨e2, c2, p1, _⟩ := a
    have := hk _ _ p1
    rw [hb] at this
    rw [p1, ← this]
  exact hs.set hj (fun k a hk => ⟨k, hA k a hk, fun b o hb => ⟨hk b o hb, by rw [hb]; simp⟩, fun _ _ => rfl⟩) rfl rfl rfl rfl
theorem Jp.range (d j k : Nat) {x : Operand} {t kt et : TypeId} {kk : IntKind} {b : Nat} {m : MapL} (hjk : j ≠ k) (hi : nth ops.toList i = some o) (hw : Want n ops E o true) (he : o.dst = some d) (hd : Nat.blt d n = true) (hop : o.op = .range t x)
    (hx : evE E x = some (.map (some b))) (hT : P.underlying t = some (.map kt et)) (hj : look L j = some (MapO kk b m))
    (h : ∀ r, Kp π S' cx ρ ((j, RangeO kk b r m m none) :: (k, Emp) :: L) ∧ Jp P ops Q S' n cx π ρ ((d, .pointer (some ⟨r, 0, none⟩)) :: E) ((j, RangeO kk b r m m none) :: (k, Emp) :: L)) : Jp P ops Q S' n cx ((i, false) :: π) ρ E L := by
  intro a w ha hs
  obtain ⟨es, clock, h1, hst, h2⟩ := mapO_get hs hj
  obtain ⟨k1, k2⟩ := h w.heap.size
  have hr : (execOp a.eval o).run P w = .ok (.value (.pointer (some ⟨w.heap.size, 0, none⟩))) { w with heap := w.heap.push (.mapIter (some b) clock #[] clock) } := by
    simp only [execOp, hop, ha.ev hx, Instr.range, Sem.run_bind, run_underlying hT, Result.andThen_ok, run_getObj h1, Sem.run_pure, newObj]; rfl
  simp only [wpPi, wpOp, nth_arr hi, hw a ha, if_true, Oper.wp, hr, Oper.upon]
  have hbl : b ≠ w.heap.size := Nat.ne_of_lt (lt_of_heap h1)
  have s1 := (hs.exact hj h1).alloc k (.mapIter (some b) clock #[] clock)
  have s2 := s1.glue hjk (A := Pt b (.map es clock)) (B := Pt w.heap.size (.mapIter (some b) clock #[] clock)) (by rw [look_cons, if_neg (Ne.symm hjk), look_cons, if_pos rfl]) (by rw [look_cons, if_pos rfl])
  have s3 := s2.imp (i := j) (A := Sep (Pt b (.map es clock)) (Pt w.heap.size (.mapIter (some b) clock #[] clock))) (A' := RangeO kk b w.heap.size m m none) (by rw [look_cons, if_pos rfl]) fun h' ⟨g1, g2, e1, e2, _, l1, l2⟩ => ⟨hbl, es, clock, #[], l1 _ _ e1, l2 _ _ e2, hst, h2, by rw [leftE_nil]; exact h2, fun x hx => by cases hx⟩
  have hs' : St cx ρ ((j, RangeO kk b w.heap.size m m none) :: (k, Emp) :: L) { w with heap := w.heap.push (.mapIter (some b) clock #[] clock) } := s3.subF fun q B e => by
    rw [look_cons] at e ⊢
    split at e
    · rename_i hq; rw [if_pos hq]; exact e
    · rename_i hq
      rw [if_neg hq, look_cons, if_neg hq]
      rw [look_cons] at e ⊢
      split at e
      · rename_i hq'; rw [if_pos hq']; exact e
      · rename_i hq'; rw [if_neg hq', look_cons, if_neg hq', look_cons, if_neg hq]; exact e
  exact .inl ⟨k1.get hs', k2 _ _ (ha.put' he hd _) hs'⟩
theorem run_next {w : World} {b r : Nat} {es : Array MapEntry} {clock : Nat} {seen : Array Nat} (T : TypeId) (h1 : w.heap[b]? = some (.map es clock)) (h2 : w.heap[r]? = some (.mapIter (some b) clock seen clock)) (hs : Stamps es clock) :
    (leftE es seen = [] ∧ ∃ d, (Instr.next (.pointer (some ⟨r, 0, none⟩)) false T).run P w = .ok (.tuple #[.bool false]) { w with drawn := d }) ∨
    ∃ (q : Nat) (e : MapEntry) (d : Nat), (leftE es seen)[q]? = some e ∧ (Instr.next (.pointer (some ⟨r, 0, none⟩)) false T).run P w = .ok (.tuple #[.bool true, e.key, e.val]) { w with drawn := d, heap := w.heap.setIfInBounds r (.mapIter (some b) clock (seen.push e.born) clock) } := by
  have hcond : (!seen.isEmpty && !es.isEmpty && es.all (·.born ≥ clock)) = false := by
    cases hne : es.isEmpty with
    | true => simp
    | false =>
      have : es.all (·.born ≥ clock) = false := by
        rw [Bool.eq_false_iff]
        intro h
        rw [Array.all_eq_true'] at h
        cases hl : es.toList with
        | nil => simp [Array.isEmpty, ← Array.length_toList, hl] at hne
        | cons e l =>
          have hm : e ∈ es.toList := by rw [hl]; simp
          have h3 := hs.2 e hm
          have h4 := h e (by simpa using hm)
          simp at h4
          omega
      simp [this]
  have hold : (es.filter fun e => !seen.contains e.born).filter (·.born < clock) = es.filter fun e => !seen.contains e.born := by
    apply Array.ext'
    rw [Array.toList_filter, List.filter_eq_self]
    intro e he
    rw [Array.toList_filter] at he
    exact decide_eq_true (hs.2 e (List.mem_filter.1 he).1)
  have hnew : (es.filter fun e => !seen.contains e.born).filter (·.born ≥ clock) = #[] := by
    apply Array.ext'
    rw [Array.toList_filter, List.filter_eq_nil_iff]
    intro e he
    rw [Array.toList_filter] at he
    have := hs.2 e (List.mem_filter.1 he).1
    simp; omega
  have hleft : (es.filter fun e => !seen.contains e.born).toList = leftE es seen := by rw [Array.toList_filter]; rfl
  have hsz : (es.filter fun e => !seen.contains e.born).size = (leftE es seen).length := by rw [← hleft, Array.length_toList]
  cases hl : leftE es seen with
  | nil =>
    have hem : (es.filter fun e => !seen.contains e.born) = #[] := by apply Array.ext'; rw [hleft, hl]
    rw [hem] at hold hnew
    refine .inl ⟨rfl, w.drawn, ?_⟩
    unfold Instr.next
    simp only [Sem.run_bind, run_getIter h2, Result.andThen_ok, run_getObj h1, hcond, Bool.false_eq_true, if_false, Sem.run_pure, hem, hold, hnew]
    simp [choose, Sem.run, Question.forced]
  | cons e0 l0 =>
    refine .inr ?_
    obtain ⟨F, hF⟩ : ∃ F, F = es.filter fun e => !seen.contains e.born := ⟨_, rfl⟩
    rw [← hF] at hold hnew hleft hsz
    have hne : F.isEmpty = false := by
      rw [hl] at hsz
      simp only [List.length_cons] at hsz
      rw [Array.isEmpty_eq_false_iff]; intro h; rw [h] at hsz; simp at hsz
    have hpos : 0 < F.size := by rw [hsz, hl]; simp
    have hcand : (#[] ++ (F ++ #[]).map some : Array (Option MapEntry)) = F.map some := by simp
    have key : ∀ q, q < F.size → ∃ e, (leftE es seen)[q]? = some e ∧ (F.map some)[q]? = some (some e) := fun q hq => by
      refine ⟨F[q], by rw [← hleft, Array.getElem?_toList]; simp [hq], by simp [hq]⟩
    rw [← hl]
    by_cases h1n : F.size ≤ 1
    · obtain ⟨e, k1, k2⟩ := key 0 hpos
      refine ⟨0, e, w.drawn, k1, ?_⟩
      unfold Instr.next
      simp only [Sem.run_bind, run_getIter h2, Result.andThen_ok, run_getObj h1, hcond, Bool.false_eq_true, if_false, Sem.run_pure, ← hF, hold, hnew, hne, hcand]
      simp only [choose, Sem.run, Question.forced, Array.size_map, h1n, decide_true, if_true, Result.andThen_ok, k2, Sem.run_bind, run_setIter h2, Sem.run_pure]
    · obtain ⟨e, k1, k2⟩ := key (w.tape w.drawn (.mapNext F.size) % F.size) (Nat.mod_lt _ hpos)
      refine ⟨_, e, w.drawn + 1, k1, ?_⟩
      unfold Instr.next
      simp only [Sem.run_bind, run_getIter h2, Result.andThen_ok, run_getObj h1, hcond, Bool.false_eq_true, if_false, Sem.run_pure, ← hF, hold, hnew, hne, hcand]
      simp only [choose, Sem.run, Question.forced, Question.cut, Array.size_map, h1n, decide_false, Bool.false_eq_true, if_false, Result.andThen_ok, k2, Sem.run_bind, Sem.run_pure]
      rw [run_setIter (w := { w with drawn := w.drawn + 1 }) h2]; rfl
theorem Jp.next (d j : Nat) {x : Operand} {T : TypeId} {kk : IntKind} {b r : Nat} {m left : MapL} {cur : Option (Int × Value)} (hi : nth ops.toList i = some o) (hw : Want n ops E o true) (he : o.dst = some d) (hd : Nat.blt d n = true)
    (hop : ∀ ρ', execOp ρ' o = (do pure (.value (← Instr.next (ρ' x) false T)))) (hx : evE E x = some (.pointer (some ⟨r, 0, none⟩))) (hj : look L j = some (RangeO kk b r m left cur))
    (h0 : left = [] → Kp π S' cx ρ L ∧ Jp P ops Q S' n cx π ρ ((d, .tuple #[.bool false]) :: E) L)
    (h1 : ∀ q y, left[q]? = some y → Kp π S' cx ρ ((j, RangeO kk b r m (left.eraseIdx q) (some y)) :: L) ∧ Jp P ops Q S' n cx π ρ ((d, .tuple #[.bool true, .int kk y.1, y.2]) :: E) ((j, RangeO kk b r m (left.eraseIdx q) (some y)) :: L)) : Jp P ops Q S' n cx ((i, false) :: π) ρ E L := by
  intro a w ha hs
  obtain ⟨hbr, es, clock, seen, g1, g2, g3, g4, g5, g6⟩ := rangeO_get hs hj
  rcases run_next (P := P) T g1 g2 g3 with ⟨hl, dd, hrun⟩ | ⟨q, e, dd, hl, hrun⟩
  · rw [hl] at g5
    have : left = [] := by cases left with
      | nil => rfl
      | cons y l => simp at g5
    obtain ⟨k1, k2⟩ := h0 this
    simp only [wpPi, wpOp, nth_arr hi, hw a ha, if_true, Oper.wp, hop, ha.ev hx, Sem.run_bind, hrun, Result.andThen_ok, Sem.run_pure, Oper.upon]
    exact .inl ⟨k1.get (hs.drawn dd), k2 _ _ (ha.put' he hd _) (hs.drawn dd)⟩
  · have h5 := congrArg (fun l => l[q]?) g5
    simp only [List.getElem?_map, hl, Option.map_some] at h5
    cases hq : left[q]? with
    | none => rw [hq] at h5; cases h5
    | some y =>
      rw [hq] at h5
      simp only [Option.map_some, Option.some.injEq, Prod.mk.injEq] at h5
      obtain ⟨e1, e2⟩ := h5
      obtain ⟨k1, k2⟩ := h1 q y hq
      simp only [wpPi, wpOp, nth_arr hi, hw a ha, if_true, Oper.wp, hop, ha.ev hx, Sem.run_bind, hrun, Result.andThen_ok, Sem.run_pure, Oper.upon]
      have hrl := lt_of_heap g2
      have hs' : St cx ρ ((j, RangeO kk b r m (left.eraseIdx q) (some y)) :: L) { w with drawn := dd, heap := w.heap.setIfInBounds r (.mapIter (some b) clock (seen.push e.born) clock) } := by
        refine (hs.drawn dd).set hj (fun k hk hkw => ?_) (by simp) rfl rfl rfl
        obtain ⟨_, es', clock', seen', p1, p2, p3, p4, p5, p6⟩ := hk
        have q1 := hkw _ _ p1
        have q2 := hkw _ _ p2
        refine ⟨fun p => if p = r then some (.mapIter (some b) clock (seen.push e.born) clock) else k p, ⟨hbr, es, clock, seen.push e.born, ?_, by simp, g3, g4, ?_, ?_⟩, fun p ob hp => ?_, fun p hp => ?_⟩
        · dsimp only; rw [if_neg hbr, p1]; exact (q1.symm.trans g1)
        · rw [leftE_push g3 hl, map_erase, map_erase, g5]
        · intro z hz
          injection hz with hz
          subst hz
          exact ⟨e, by simp, (List.mem_filter.1 (List.mem_of_getElem? hl)).1, e1, e2⟩
        · dsimp only at hp
          split at hp
          · rename_i h; subst h; exact ⟨by simp [hrl]; simpa using hp, by rw [p2]; simp⟩
          · rename_i h; exact ⟨by rw [Array.getElem?_setIfInBounds_ne (Ne.symm h)]; exact hkw _ _ hp, by rw [hp]; simp⟩
        · have : p ≠ r := fun h => by subst h; rw [p2] at hp; cases hp
          rw [Array.getElem?_setIfInBounds_ne (Ne.symm this)]
      rw [e1, e2]
      exact .inl ⟨k1.get hs', k2 _ _ (ha.put' he hd _) hs'⟩
end
end Go.Proofs.Ytjjhihlmoecmlaa
