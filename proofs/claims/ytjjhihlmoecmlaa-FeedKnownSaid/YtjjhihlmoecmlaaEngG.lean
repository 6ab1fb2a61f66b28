/- The small logic, part seven: maps with integer keys. -/
import Derived.Test.YtjjhihlmoecmlaaEngF
set_option linter.unusedVariables false
set_option linter.unusedSimpArgs false
namespace Go.Proofs.Ytjjhihlmoecmlaa
open Go
section
variable {P : Program} {n : Nat} {cx : Cx} {ρ : Hp} {E : Env} {L : Own} {o : Oper} {ops : Array Oper} {Q : Exit → Act → World → Prop} {S' : World → Prop} {π : List (Nat × Bool)} {i : Nat} {v : Value}
/-! ### 24. Maps with integer keys -/
abbrev MapL := List (Int × Value)
/-- The stamps of a map's entries: distinct, and below the clock. -/
def Stamps (es : Array MapEntry) (clock : Nat) : Prop := (es.toList.map (·.born)).Nodup ∧ ∀ e ∈ es.toList, e.born < clock
/-- A map's block: its entries in their order. -/
def MapO (kk : IntKind) (b : Nat) (m : MapL) : HProp := fun h => ∃ es clock, h b = some (.map es clock) ∧ Stamps es clock ∧ es.toList.map (fun e => (e.key, e.val)) = m.map fun x => (Value.int kk x.1, x.2)
def findI (k : Int) : MapL → Nat → Option (Nat × Value)
  | [], _ => none
  | (x, v) :: m, i => if k == x then some (i, v) else findI k m (i + 1)
def mget (m : MapL) (k : Int) : Option Value := (findI k m 0).map (·.2)
def mset (m : MapL) (k : Int) (v : Value) : MapL := match findI k m 0 with
  | some (i, _) => m.set i (k, v)
  | none => m ++ [(k, v)]
def mdel (m : MapL) (k : Int) : MapL := match findI k m 0 with
  | some (i, _) => m.eraseIdx i
  | none => m
theorem findNow_int (kk kt : IntKind) (k : Int) : ∀ (l : List MapEntry) (m : MapL) (i : Nat), l.map (fun e => (e.key, e.val)) = m.map (fun x => (Value.int kk x.1, x.2)) → Instr.findNow (.int kt) (.int kk k) l i = some (findI k m i) := by
  intro l
  induction l with
  | nil => intro m i h; cases m with
    | nil => rfl
    | cons x m => simp at h
  | cons e l ih =>
    intro m i h
    cases m with
    | nil => simp at h
    | cons x m =>
      obtain ⟨x, v⟩ := x
      simp only [List.map_cons, List.cons.injEq, Prod.mk.injEq] at h
      obtain ⟨⟨h1, h2⟩, h3⟩ := h
      rw [Instr.findNow, h1]
      simp only [Instr.sameNow, if_true, findI]
      cases hx : k == x with
      | true => simp [h2]
      | false => simpa using ih m (i + 1) h3
theorem run_findKey {kt kk : IntKind} {t : TypeId} {k : Int} {es : Array MapEntry} {m : MapL} (ht : P.underlying t = some (.int kt)) (h : es.toList.map (fun e => (e.key, e.val)) = m.map fun x => (Value.int kk x.1, x.2)) (w : World) :
    (Instr.findKey t (.int kk k) es.toList).run P w = .ok (findI k m 0) w := by
  simp only [Instr.findKey, Sem.run_bind, run_underlying ht, Result.andThen_ok, findNow_int kk kt k es.toList m 0 h, Sem.run_pure]
theorem run_checkKey {kt kk : IntKind} {t : TypeId} {k : Int} (e : Bool) (d : Nat) (ht : P.underlying t = some (.int kt)) (w : World) : (Instr.checkKey e (d + 1) t (.int kk k)).run P w = .ok () w := by
  simp only [Instr.checkKey, Sem.run_bind, run_underlying ht, Result.andThen_ok, Sem.run_pure]
theorem mapO_size {es : Array MapEntry} {m : MapL} {kk : IntKind} (h : es.toList.map (fun e => (e.key, e.val)) = m.map fun x => (Value.int kk x.1, x.2)) : es.size = m.length := by
  have := congrArg List.length h
  simpa using this
theorem run_getObj {w : World} {b : Nat} {es : Array MapEntry} {c : Nat} (h : w.heap[b]? = some (.map es c)) : (getObj b).run P w = .ok (.map es c) w := by
  simp only [getObj, Sem.run, h]
theorem run_setMap {w : World} {b : Nat} {es : Array MapEntry} {c : Nat} {ob : Obj} (h : w.heap[b]? = some (.map es c)) : (setObj b ob).run P w = .ok () { w with heap := w.heap.setIfInBounds b ob } := by
  simp only [setObj, Sem.run, h]
theorem mapO_get {w : World} (hs : St cx ρ L w) {j b : Nat} {kk : IntKind} {m : MapL} (hj : look L j = some (MapO kk b m)) : ∃ es clock, w.heap[b]? = some (.map es clock) ∧ Stamps es clock ∧ es.toList.map (fun e => (e.key, e.val)) = m.map fun x => (Value.int kk x.1, x.2) := by
  obtain ⟨hh, ⟨es, clock, h1, hst, h2⟩, hw⟩ := hs.get hj
  exact ⟨es, clock, hw _ _ h1, hst, h2⟩
theorem run_lookup {w : World} {t kt et : TypeId} {ki kk : IntKind} {b : Nat} {k : Int} {z : Value} {es : Array MapEntry} {clock : Nat} {m : MapL} (ok : Bool) (hT : P.underlying t = some (.map kt et)) (hK : P.underlying kt = some (.int ki)) (hz : ∀ w, (zeroValue et).run P w = .ok z w)
    (hb : w.heap[b]? = some (.map es clock)) (h : es.toList.map (fun e => (e.key, e.val)) = m.map fun x => (Value.int kk x.1, x.2)) :
    (Instr.lookup t (.map (some b)) (.int kk k) ok).run P w = .ok (if ok then .tuple #[(mget m k).getD z, .bool (mget m k).isSome] else (mget m k).getD z) w := by
  have hf := run_findKey (P := P) (kt := ki) (k := k) hK h w
  have hc := run_checkKey (P := P) (kt := ki) (kk := kk) (k := k) es.isEmpty 9999 hK w
  simp only [Instr.lookup, Sem.run_bind, run_underlying hT, Result.andThen_ok, run_getObj hb, Sem.run_pure, hc, hf]
  cases hx : findI k m 0 with
  | none => simp only [mget, hx, hz, Sem.run_bind, Result.andThen_ok, Sem.run_pure]; rfl
  | some p => obtain ⟨q, v⟩ := p; simp only [mget, hx, Sem.run_pure, Result.andThen_ok]; rfl
theorem Y.lookup (j : Nat) {x y : Operand} {t kt et : TypeId} {ki kk : IntKind} {b : Nat} {k : Int} {z : Value} {m : MapL} (hop : o.op = .lookup t x y false) (hx : evE E x = some (.map (some b))) (hy : evE E y = some (.int kk k)) (hT : P.underlying t = some (.map kt et)) (hK : P.underlying kt = some (.int ki)) (hz : ∀ w, (zeroValue et).run P w = .ok z w)
    (hj : look L j = some (MapO kk b m)) : Y P n cx ρ E L o ((mget m k).getD z) := fun ac w ha hs => by
  obtain ⟨es, clock, h1, hst, h2⟩ := mapO_get hs hj
  simp only [execOp, hop, ha.ev hx, ha.ev hy, Sem.run_bind, run_lookup false hT hK hz h1 h2, Result.andThen_ok, Sem.run_pure]; rfl
theorem Y.lookupOk (j : Nat) {x y : Operand} {t kt et : TypeId} {ki kk : IntKind} {b : Nat} {k : Int} {z : Value} {m : MapL} (hop : o.op = .lookup t x y true) (hx : evE E x = some (.map (some b))) (hy : evE E y = some (.int kk k)) (hT : P.underlying t = some (.map kt et)) (hK : P.underlying kt = some (.int ki)) (hz : ∀ w, (zeroValue et).run P w = .ok z w)
    (hj : look L j = some (MapO kk b m)) : Y P n cx ρ E L o (.tuple #[(mget m k).getD z, .bool (mget m k).isSome]) := fun ac w ha hs => by
  obtain ⟨es, clock, h1, hst, h2⟩ := mapO_get hs hj
  simp only [execOp, hop, ha.ev hx, ha.ev hy, Sem.run_bind, run_lookup true hT hK hz h1 h2, Result.andThen_ok, Sem.run_pure]; rfl
theorem St.setMap {w : World} (hs : St cx ρ L w) {j b : Nat} {kk : IntKind} {m m' : MapL} (hj : look L j = some (MapO kk b m)) {es es' : Array MapEntry} {clock clock' : Nat} (hb : w.heap[b]? = some (.map es clock)) (hst : Stamps es' clock')
    (h : es'.toList.map (fun e => (e.key, e.val)) = m'.map fun x => (Value.int kk x.1, x.2)) : St cx ρ ((j, MapO kk b m') :: L) { w with heap := w.heap.setIfInBounds b (.map es' clock') } := by
  refine hs.setA hj (b := b) (ob := .map es clock) (ob' := .map es' clock') (fun h' hh' hw' => ?_) (fun h' hb' => ⟨es', clock', hb', hst, h⟩) ?_ ?_ ?_ rfl rfl rfl
  · obtain ⟨e2, c2, p1, _, _⟩ := hh'
    have := hw' _ _ p1
    rw [hb] at this
    rw [p1, ← this]
  · have := lt_of_heap hb
    simp [this]
  · intro p hp; simp [Array.getElem?_setIfInBounds, Ne.symm hp]
  · simp
theorem findI_some {k : Int} : ∀ {m : MapL} {i q : Nat} {v : Value}, findI k m i = some (q, v) → i ≤ q ∧ m[q - i]? = some (k, v) := by
  intro m
  induction m with
  | nil => intro i q v h; cases h
  | cons x m ih =>
    intro i q v h
    obtain ⟨x, u⟩ := x
    simp only [findI] at h
    split at h
    · rename_i hx
      injection h with h
      injection h with h1 h2
      subst h1 h2
      have := eq_of_beq hx
      subst this
      simp
    · obtain ⟨h1, h2⟩ := ih h
      refine ⟨by omega, ?_⟩
      have : q - i = (q - (i + 1)) + 1 := by omega
      rw [this]; simpa using h2
theorem run_mapUpdate {w : World} {t kt et : TypeId} {ki kk : IntKind} {b : Nat} {k : Int} {es : Array MapEntry} {clock : Nat} {m : MapL} (hT : P.underlying t = some (.map kt et)) (hK : P.underlying kt = some (.int ki))
    (hb : w.heap[b]? = some (.map es clock)) (hs : Stamps es clock) (h : es.toList.map (fun e => (e.key, e.val)) = m.map fun x => (Value.int kk x.1, x.2)) :
    ∃ es' clock', Stamps es' clock' ∧ (Instr.mapUpdate t (.map (some b)) (.int kk k) v).run P w = .ok () { w with heap := w.heap.setIfInBounds b (.map es' clock') } ∧ es'.toList.map (fun e => (e.key, e.val)) = (mset m k v).map fun x => (Value.int kk x.1, x.2) := by
  have hf := run_findKey (P := P) (kt := ki) (k := k) hK h w
  have hc := run_checkKey (P := P) (kt := ki) (kk := kk) (k := k) false 9999 hK w
  cases hx : findI k m 0 with
  | none =>
    refine ⟨es.push { key := .int kk k, val := v, born := clock }, clock + 1, ⟨?_, ?_⟩, ?_, ?_⟩
    · rw [Array.toList_push, List.map_append, List.nodup_append]
      refine ⟨hs.1, by simp, fun x hx y hy => ?_⟩
      obtain ⟨e, he, rfl⟩ := List.mem_map.1 hx
      simp at hy
      have := hs.2 e he
      omega
    · intro e he
      rw [Array.toList_push, List.mem_append] at he
      rcases he with he | he
      · have := hs.2 e he; omega
      · simp at he; subst he; show clock < clock + 1; omega
    · simp only [Instr.mapUpdate, Sem.run_bind, run_underlying hT, Result.andThen_ok, run_getObj hb, hc, hf, hx, run_setMap hb]
    · simp only [mset, hx, Array.toList_push, List.map_append, h]; rfl
  | some p =>
    obtain ⟨q, u⟩ := p
    obtain ⟨_, hq⟩ := findI_some hx
    rw [Nat.sub_zero] at hq
    have hkey : ((es[q]?).map (·.key)).getD (.int kk k) = .int kk k := by
      have h1 := congrArg (fun l => l[q]?) h
      simp only [List.getElem?_map, hq, Array.getElem?_toList, Option.map_some] at h1
      cases he : es[q]? with
      | none => rfl
      | some e => rw [he] at h1; simp only [Option.map_some, Option.some.injEq, Prod.mk.injEq] at h1; exact h1.1
    have hborn : (es.modify q fun e => { e with key := .int kk k, val := v }).toList.map (·.born) = es.toList.map (·.born) := by
      rw [Array.toList_modify]
      apply List.ext_getElem?
      intro p
      rw [List.getElem?_map, List.getElem?_map, List.getElem?_modify]
      by_cases hp : q = p
      · subst hp; cases es.toList[q]? <;> simp
      · simp [hp]
    refine ⟨es.modify q fun e => { e with key := .int kk k, val := v }, clock, ⟨by rw [hborn]; exact hs.1, fun e he => ?_⟩, ?_, ?_⟩
    · have : e.born ∈ es.toList.map (·.born) := by rw [← hborn]; exact List.mem_map.2 ⟨e, he, rfl⟩
      obtain ⟨e', he', h'⟩ := List.mem_map.1 this
      rw [← h']; exact hs.2 e' he'
    · have hst : (Instr.keyThatStays (.int kk k) (.int kk k)).run P w = .ok (.int kk k) w := by
        have : Instr.sameBits 10000 (.int kk k) (.int kk k) = true := by simp [Instr.sameBits]
        simp only [Instr.keyThatStays, this, if_true, Sem.run_pure]
      simp only [Instr.mapUpdate, Sem.run_bind, run_underlying hT, Result.andThen_ok, run_getObj hb, hc, hf, hx, hkey, hst, run_setMap hb]
    · simp only [mset, hx, Array.toList_modify]
      apply List.ext_getElem?
      intro p
      have h1 := congrArg (fun l => l[p]?) h
      simp only [List.getElem?_map] at h1 ⊢
      rw [List.getElem?_modify, List.getElem?_set]
      by_cases hp : q = p
      · subst hp
        have hlt : q < m.length := (List.getElem?_eq_some_iff.1 hq).1
        have hes : q < es.toList.length := by rw [Array.length_toList, mapO_size h]; exact hlt
        simp [hlt, List.getElem?_eq_getElem hes]
      · simpa [hp] using h1
theorem Jp.mapUpdate (j : Nat) {x y u : Operand} {t kt et : TypeId} {ki kk : IntKind} {b : Nat} {k : Int} {m : MapL} (hi : nth ops.toList i = some o) (hw : Want n ops E o true) (he : o.dst = none)
    (hop : o.op = .mapUpdate t x y u) (hx : evE E x = some (.map (some b))) (hy : evE E y = some (.int kk k)) (hu : evE E u = some v) (hT : P.underlying t = some (.map kt et)) (hK : P.underlying kt = some (.int ki)) (hj : look L j = some (MapO kk b m))
    (hk : Kp π S' cx ρ ((j, MapO kk b (mset m k v)) :: L)) (h : Jp P ops Q S' n cx π ρ E ((j, MapO kk b (mset m k v)) :: L)) : Jp P ops Q S' n cx ((i, false) :: π) ρ E L := by
  intro a w ha hs
  obtain ⟨es, clock, h1, hst, h2⟩ := mapO_get hs hj
  obtain ⟨es', clock', hst', h3, h4⟩ := run_mapUpdate (P := P) (v := v) (k := k) hT hK h1 hst h2
  simp only [wpPi, wpOp, nth_arr hi, hw a ha, if_true, Oper.wp, execOp, hop, ha.ev hx, ha.ev hy, ha.ev hu, Sem.run_bind, h3, Result.andThen_ok, Sem.run_pure, Oper.upon, he]
  have hs' := St.setMap hs hj h1 hst' h4
  exact .inl ⟨hk.get hs', h _ _ ha hs'⟩
theorem Jp.makeMap (d j : Nat) (kk : IntKind) {t : TypeId} (hi : nth ops.toList i = some o) (hw : Want n ops E o true) (he : o.dst = some d) (hd : Nat.blt d n = true) (hop : o.op = .makeMap t none)
    (h : ∀ b, Kp π S' cx ρ ((j, MapO kk b []) :: L) ∧ Jp P ops Q S' n cx π ρ ((d, .map (some b)) :: E) ((j, MapO kk b []) :: L)) : Jp P ops Q S' n cx ((i, false) :: π) ρ E L := by
  intro a w ha hs
  obtain ⟨h1, h2⟩ := h w.heap.size
  have hr : (execOp a.eval o).run P w = .ok (.value (.map (some w.heap.size))) { w with heap := w.heap.push (.map #[] 0) } := by
    simp only [execOp, hop, Instr.makeMap, newObj]; rfl
  simp only [wpPi, wpOp, nth_arr hi, hw a ha, if_true, Oper.wp, hr, Oper.upon]
  have hs' : St cx ρ ((j, MapO kk w.heap.size []) :: L) { w with heap := w.heap.push (.map #[] 0) } := by
    have h3 := (hs.alloc j (.map #[] 0)).imp (i := j) (A' := MapO kk w.heap.size []) (by rw [look_cons]; simp; rfl) fun h' hh' => ⟨#[], 0, hh', ⟨by simp, by simp⟩, rfl⟩
    refine h3.subF fun q B e => ?_
    rw [look_cons] at e ⊢
    split at e
    · rename_i hq; rw [if_pos hq]; exact e
    · rename_i hq; rw [if_neg hq, look_cons, if_neg hq]; exact e
  exact .inl ⟨h1.get hs', h2 _ _ (ha.put' he hd _) hs'⟩
theorem map_erase {α β : Type} (f : α → β) : ∀ (l : List α) (q : Nat), (l.eraseIdx q).map f = (l.map f).eraseIdx q := by
  intro l
  induction l with
  | nil => intro q; rfl
  | cons x l ih => intro q; cases q with
    | zero => rfl
    | succ q => simp [ih]
theorem Y.lenmap (j : Nat) {x : Operand} {t kt et : TypeId} {kk : IntKind} {b : Nat} {m : MapL} (hop : o.op = .call { callee := .builtin .len, args := #[x], argTypes := #[t] }) (hT : P.underlying t = some (.map kt et)) (hx : evE E x = some (.map (some b))) (hj : look L j = some (MapO kk b m)) : Y P n cx ρ E L o (.int .i64 m.length) := fun ac w ha hs => by
  obtain ⟨es, clock, h1, hst, h2⟩ := mapO_get hs hj
  refine run_builtin1 hop (ha.ev hx) fun c => ?_
  simp [go_sem, Builtin.len_, run_underlying hT, run_getObj h1, mapO_size h2]
theorem Jp.delete (j d : Nat) {x y : Operand} {t u kt et : TypeId} {ki kk : IntKind} {b : Nat} {k : Int} {m : MapL} (hi : nth ops.toList i = some o) (hw : Want n ops E o true) (he : o.dst = some d) (hd : Nat.blt d n = true)
    (hop : o.op = .call { callee := .builtin .delete, args := #[x, y], argTypes := #[t, u] }) (hx : evE E x = some (.map (some b))) (hy : evE E y = some (.int kk k)) (hT : P.underlying t = some (.map kt et)) (hK : P.underlying kt = some (.int ki)) (hj : look L j = some (MapO kk b m))
    (hk : Kp π S' cx ρ ((j, MapO kk b (mdel m k)) :: L)) (h : Jp P ops Q S' n cx π ρ ((d, .tuple #[]) :: E) ((j, MapO kk b (mdel m k)) :: L)) : Jp P ops Q S' n cx ((i, false) :: π) ρ E L := by
  intro a w ha hs
  obtain ⟨es, clock, h1, hst, h2⟩ := mapO_get hs hj
  have hf := run_findKey (P := P) (kt := ki) (k := k) hK h2 w
  have hc := run_checkKey (P := P) (kt := ki) (kk := kk) (k := k) es.isEmpty 9999 hK w
  have g0 : (#[t, u] : Array TypeId)[0]? = some t := rfl
  have g2 : (#[.map (some b), .int kk k] : Array Value)[0]? = some (.map (some b)) := rfl
  have g3 : (#[.map (some b), .int kk k] : Array Value)[1]? = some (.int kk k) := rfl
  obtain ⟨es', hst', hrun, hes⟩ : ∃ es' : Array MapEntry, Stamps es' clock ∧ (Builtin.delete_ #[t, u] o.type #[.map (some b), .int kk k]).run P w = .ok (.tuple #[]) { w with heap := w.heap.setIfInBounds b (.map es' clock) } ∧ es'.toList.map (fun e => (e.key, e.val)) = (mdel m k).map fun x => (Value.int kk x.1, x.2) := by
    cases hx : findI k m 0 with
    | none =>
      refine ⟨es, hst, ?_, by simp only [mdel, hx]; exact h2⟩
      unfold Builtin.delete_
      rw [g0, g2, g3]
      simp only [Sem.run_bind, run_underlying hT, Result.andThen_ok, run_getObj h1, hc, hf, hx, run_setMap h1, Sem.run_pure]
    | some p =>
      obtain ⟨q, v⟩ := p
      refine ⟨es.eraseIdxIfInBounds q, ?_, ?_, ?_⟩
      · rw [Array.eraseIdxIfInBounds_eq]
        split
        · rw [Stamps, Array.toList_eraseIdx]
          exact ⟨hst.1.sublist ((List.eraseIdx_sublist ..).map _), fun e he => hst.2 e ((List.eraseIdx_sublist ..).subset he)⟩
        · exact hst
      · unfold Builtin.delete_
        rw [g0, g2, g3]
        simp only [Sem.run_bind, run_underlying hT, Result.andThen_ok, run_getObj h1, hc, hf, hx, run_setMap h1, Sem.run_pure]
      · obtain ⟨_, hq⟩ := findI_some hx
        rw [Nat.sub_zero] at hq
        have hlt : q < es.size := by rw [mapO_size h2]; exact (List.getElem?_eq_some_iff.1 hq).1
        simp only [mdel, hx]
        rw [Array.eraseIdxIfInBounds_eq, dif_pos hlt, Array.toList_eraseIdx, map_erase, map_erase, h2]
  have hr' := run_builtin2 (P := P) (w := w) (v := .tuple #[]) (w' := { w with heap := w.heap.setIfInBounds b (.map es' clock) }) hop (ha.ev hx) (ha.ev hy) (fun cs' => by simp only [builtin, Sem.run_bind, hrun, Result.andThen_ok, Sem.run_pure])
  simp only [wpPi, wpOp, nth_arr hi, hw a ha, if_true, Oper.wp, hr', Oper.upon]
  have hs' := St.setMap hs hj h1 hst' hes
  exact .inl ⟨hk.get hs', h _ _ (ha.put' he hd _) hs'⟩
end
end Go.Proofs.Ytjjhihlmoecmlaa
