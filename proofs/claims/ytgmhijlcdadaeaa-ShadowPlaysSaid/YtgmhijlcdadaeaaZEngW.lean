import Derived.Test.YtgmhijlcdadaeaaZEngY
set_option linter.unusedVariables false
set_option linter.unusedSimpArgs false
namespace Go.Proofs.Ytgmhijlcdadaeaa
open Go
theorem filter_eraseIdx {α : Type} {p : α → Bool} : ∀ {l : List α} {q : Nat} {e : α}, l[q]? = some e → p e = false → (l.eraseIdx q).filter p = l.filter p
  | [], q, e, h, _ => by simp at h
  | x :: l, 0, e, h, hp => by
    simp at h; subst h
    rw [List.eraseIdx_cons_zero, List.filter_cons_of_neg (by simp [hp])]
  | x :: l, q + 1, e, h, hp => by
    rw [List.eraseIdx_cons_succ, List.filter_cons, List.filter_cons, filter_eraseIdx (l := l) (by simpa using h) hp]
section
variable {P : Program} {n : Nat} {cx : Cx} {ρ : Hp} {E : Env} {L : Own} {o : Oper} {ops : Array Oper} {Q : Exit → Act → World → Prop} {S' : World → Prop} {π : List (Nat × Bool)} {i : Nat} {v : Value}
theorem Jp.deleteR (j : Nat) {x y : Operand} {t u kt et : TypeId} {ki kk : IntKind} {b r : Nat} {k : Int} {m left : MapL} {cur : Option (Int × Value)} (hi : nth ops.toList i = some o) (hw : Want n ops E o true) (he : o.dst = none)
    (hop : o.op = .call { callee := .builtin .delete, args := #[x, y], argTypes := #[t, u] }) (hx : evE E x = some (.map (some b))) (hy : evE E y = some (.int kk k)) (hT : P.underlying t = some (.map kt et)) (hK : P.underlying kt = some (.int ki)) (hj : look L j = some (RangeO kk b r m left cur)) (hgone : ∀ z ∈ left, z.1 ≠ k)
    (hk : Kp π S' cx ρ ((j, RangeO kk b r (mdel m k) left none) :: L)) (h : Jp P ops Q S' n cx π ρ E ((j, RangeO kk b r (mdel m k) left none) :: L)) : Jp P ops Q S' n cx ((i, false) :: π) ρ E L := by
  intro a w ha hs
  obtain ⟨hbr, es, clock, seen, h1, h1r, hst, h2, g5, g6⟩ := rangeO_get hs hj
  have hf := run_findKey (P := P) (kt := ki) (k := k) hK h2 w
  have hc := run_checkKey (P := P) (kt := ki) (kk := kk) (k := k) es.isEmpty 9999 hK w
  have g0 : (#[t, u] : Array TypeId)[0]? = some t := rfl
  have g2 : (#[.map (some b), .int kk k] : Array Value)[0]? = some (.map (some b)) := rfl
  have g3 : (#[.map (some b), .int kk k] : Array Value)[1]? = some (.int kk k) := rfl
  obtain ⟨es', hst', hrun, hes, hleft⟩ : ∃ es' : Array MapEntry, Stamps es' clock ∧ (Builtin.delete_ #[t, u] o.type #[.map (some b), .int kk k]).run P w = .ok (.tuple #[]) { w with heap := w.heap.setIfInBounds b (.map es' clock) } ∧ (es'.toList.map (fun e => (e.key, e.val)) = (mdel m k).map fun x => (Value.int kk x.1, x.2)) ∧ (leftE es' seen).map (fun e => (e.key, e.val)) = left.map (fun x => (Value.int kk x.1, x.2)) := by
    cases hx : findI k m 0 with
    | none =>
      refine ⟨es, hst, ?_, by simp only [mdel, hx]; exact h2, g5⟩
      unfold Builtin.delete_
      rw [g0, g2, g3]
      simp only [Sem.run_bind, run_underlying hT, Result.andThen_ok, run_getObj h1, hc, hf, hx, run_setMap h1, Sem.run_pure]
    | some p =>
      obtain ⟨q, v⟩ := p
      obtain ⟨_, hq⟩ := findI_some hx
      rw [Nat.sub_zero] at hq
      have hlt : q < es.size := by rw [mapO_size h2]; exact (List.getElem?_eq_some_iff.1 hq).1
      refine ⟨es.eraseIdxIfInBounds q, ?_, ?_, ?_, ?_⟩
      · rw [Array.eraseIdxIfInBounds_eq, dif_pos hlt, Stamps, Array.toList_eraseIdx]
        exact ⟨hst.1.sublist ((List.eraseIdx_sublist ..).map _), fun e he => hst.2 e ((List.eraseIdx_sublist ..).subset he)⟩
      · unfold Builtin.delete_
        rw [g0, g2, g3]
        simp only [Sem.run_bind, run_underlying hT, Result.andThen_ok, run_getObj h1, hc, hf, hx, run_setMap h1, Sem.run_pure]
      · simp only [mdel, hx]
        rw [Array.eraseIdxIfInBounds_eq, dif_pos hlt, Array.toList_eraseIdx, map_erase, map_erase, h2]
      · have hm := congrArg (fun l => l[q]?) h2
        simp only [List.getElem?_map, hq, Option.map_some] at hm
        cases hqe : es.toList[q]? with
        | none => rw [hqe] at hm; cases hm
        | some e =>
          rw [hqe] at hm
          simp only [Option.map_some, Option.some.injEq, Prod.mk.injEq] at hm
          have hpe : (!seen.contains e.born) = false := by
            cases hcn : (!seen.contains e.born) with
            | false => rfl
            | true =>
              have hin : e ∈ leftE es seen := List.mem_filter.2 ⟨List.mem_of_getElem? hqe, hcn⟩
              have hin2 : (e.key, e.val) ∈ left.map (fun x => (Value.int kk x.1, x.2)) := g5 ▸ List.mem_map.2 ⟨e, hin, rfl⟩
              obtain ⟨z, hz, hze⟩ := List.mem_map.1 hin2
              injection hze with z1 z2
              rw [hm.1] at z1
              injection z1 with _ z1
              exact absurd z1 (hgone z hz)
          rw [← g5, leftE, leftE, Array.eraseIdxIfInBounds_eq, dif_pos hlt, Array.toList_eraseIdx, filter_eraseIdx (p := fun e : MapEntry => !seen.contains e.born) hqe hpe]
  have hr' := run_builtin2 (P := P) (w := w) (v := .tuple #[]) (w' := { w with heap := w.heap.setIfInBounds b (.map es' clock) }) hop (ha.ev hx) (ha.ev hy) (fun cs' => by simp only [builtin, Sem.run_bind, hrun, Result.andThen_ok, Sem.run_pure])
  simp only [wpPi, wpOp, nth_arr hi, hw a ha, if_true, Oper.wp, hr', Oper.upon, he]
  have hbl := lt_of_heap h1
  have hs' : St cx ρ ((j, RangeO kk b r (mdel m k) left none) :: L) { w with heap := w.heap.setIfInBounds b (.map es' clock) } := by
    refine hs.set hj (fun k' hk' hkw => ?_) (by simp) rfl rfl rfl
    obtain ⟨_, es2, clock2, seen2, p1, p2, _⟩ := hk'
    have q1 := hkw _ _ p1
    have q2 := hkw _ _ p2
    refine ⟨fun p => if p = b then some (.map es' clock) else k' p, ⟨hbr, es', clock, seen, by simp, ?_, hst', hes, hleft, fun x hx => by cases hx⟩, fun p ob hp => ?_, fun p hp => ?_⟩
    · dsimp only; rw [if_neg (Ne.symm hbr), p2]; exact (q2.symm.trans h1r)
    · dsimp only at hp
      split at hp
      · rename_i h; subst h; exact ⟨by simp [hbl]; simpa using hp, by rw [p1]; simp⟩
      · rename_i h; exact ⟨by rw [Array.getElem?_setIfInBounds_ne (Ne.symm h)]; exact hkw _ _ hp, by rw [hp]; simp⟩
    · have : p ≠ b := fun h => by subst h; rw [p1] at hp; cases hp
      rw [Array.getElem?_setIfInBounds_ne (Ne.symm this)]
  exact .inl ⟨hk.get hs', h _ _ ha hs'⟩
theorem Y.sliceArrTo {x y : Operand} {t e : TypeId} {k : IntKind} {A : Addr} {len m hi : Nat} {z : Int} (hop : o.op = .slice t x none (some y) none) (hx : evE E x = some (.pointer (some A))) (hy : evE E y = some (.int k z)) (hT : P.underlying t = some (.array len e)) (hz : ∀ w, (sizeOf e).run P w = .ok m w)
    (hzi : z = (hi : Int)) (h1 : hi ≤ len) : Y P n cx ρ E L o (.slice (some A) hi len) := fun ac w ha hs => by
  subst hzi
  have e1 : (if len = 0 then A else A.add (0 * m)) = A := by
    split
    · rfl
    · simp [Addr.add]
  simp only [execOp, hop, Option.map_some, Option.map_none, ha.ev hx, ha.ev hy, Instr.sliceAt, Instr.sureAddr, Instr.sliceBounds, Sem.run_bind, Sem.run_pure, Result.andThen_ok, run_underlying hT, run_bound h1, hz, Bool.false_eq_true, if_false, e1, Nat.sub_zero]
theorem Y.sliceArrBoth {x y z : Operand} {t e : TypeId} {k k' : IntKind} {b off len m lo hi q : Nat} {zl zh : Int} (hop : o.op = .slice t x (some y) (some z) none) (hx : evE E x = some (.pointer (some ⟨b, off, none⟩))) (hy : evE E y = some (.int k zl)) (hzz : evE E z = some (.int k' zh)) (hT : P.underlying t = some (.array len e)) (hz : ∀ w, (sizeOf e).run P w = .ok m w)
    (hzl : zl = (lo : Int)) (hzh : zh = (hi : Int)) (h1 : lo ≤ hi) (h2 : hi ≤ len) (h3 : lo ≠ len) (hq : off + lo * m = q) : Y P n cx ρ E L o (.slice (some ⟨b, q, none⟩) (hi - lo) (len - lo)) := fun ac w ha hs => by
  subst hzl hzh hq
  have e1 : (if len = lo then (⟨b, off, none⟩ : Addr) else (⟨b, off, none⟩ : Addr).add (lo * m)) = ⟨b, off + lo * m, none⟩ := by
    rw [if_neg (Ne.symm h3), add_mk]
  simp only [execOp, hop, Option.map_some, Option.map_none, ha.ev hx, ha.ev hy, ha.ev hzz, Instr.sliceAt, Instr.sureAddr, Instr.sliceBounds, Sem.run_bind, Sem.run_pure, Result.andThen_ok, run_underlying hT, run_bound h1, run_bound h2, hz, Option.isSome_none, Bool.false_eq_true, if_false, e1]
theorem SetC.pt {b off : Nat} {cs cs' : Array Value} {T : TypeId} {fr : Nat × Nat} (hlt : off < cs.size) (hnf : noFr fr off) (hc : cs.setIfInBounds off v = cs') : SetC (Pt b (.cells cs T fr)) (Pt b (.cells cs' T fr)) b off v := fun h hh => by
  subst hc
  exact ⟨cs, T, fr, hh, hlt, hnf, by unfold Pt Hp.upd; rw [if_pos rfl]⟩
end
end Go.Proofs.Ytgmhijlcdadaeaa
