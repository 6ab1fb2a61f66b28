import Derived.Test.YtogkncmhonomdaaZEngX
import Derived.RangeFuncLeaves
import Derived.RangeFuncRecord
import Derived.Test.YtogkncmhonomdaaRows
import Derived.WalkKit
import Derived.ProofKit
import Derived.OpenShut
import Derived.ChangeOld
import Derived.Below
import Derived.SizedLaws
import Derived.Laws.StandIn
set_option linter.unusedVariables false
set_option linter.unusedSimpArgs false
namespace Go.Proofs.Ytogkncmhonomdaa
open Go
section
variable {P : Program} {n : Nat} {cx : Cx} {ρ : Hp} {E : Env} {L : Own} {o : Oper} {ops : Array Oper} {Q : Exit → Act → World → Prop} {S' : World → Prop} {π : List (Nat × Bool)} {i : Nat} {v : Value}
abbrev MapL := List (Int × Value)
def Stamps (es : Array MapEntry) (clock : Nat) : Prop := (es.toList.map (·.born)).Nodup ∧ ∀ e ∈ es.toList, e.born < clock
def MapO (kk : IntKind) (b : Nat) (m : MapL) : HProp := fun h => ∃ es clock, h b = some (.map es clock) ∧ Stamps es clock ∧ es.toList.map (fun e => (e.key, e.val)) = m.map fun x => (Value.int kk x.1, x.2)
def findI (k : Int) : MapL → Nat → Option (Nat × Value)
  | [], _ => none
  | (x, v) :: m, i => if k == x then some (i, v) else findI k m (i + 1)
def mget (m : MapL) (k : Int) : Option Value := (findI k m 0).map (·.2)
def mset (m : MapL) (k : Int) (v : Value) : MapL := match findI k m 0 with
  | some (i, _) => m.set i (k, v)
  | none => m ++ [(k, v)]
def mdel (m : MapL) (k : Int) : MapL := match findI k m 0 with
  | some (i, _) => m.eraseIdx i
  | none => m
theorem findNow_int (kk kt : IntKind) (k : Int) : ∀ (l : List MapEntry) (m : MapL) (i : Nat), l.map (fun e => (e.key, e.val)) = m.map (fun x => (Value.int kk x.1, x.2)) → Instr.findNow (.int kt) (.int kk k) l i = some (findI k m i) := by
  intro l
  induction l with
  | nil => intro m i h; cases m with
    | nil => rfl
    | cons x m => simp at h
  | cons e l ih =>
    intro m i h
    cases m with
    | nil => simp at h
    | cons x m =>
      obtain ⟨x, v⟩ := x
      simp only [List.map_cons, List.cons.injEq, Prod.mk.injEq] at h
      obtain ⟨⟨h1, h2⟩, h3⟩ := h
      rw [Instr.findNow, h1]
      simp only [Instr.sameNow, if_true, findI]
      cases hx : k == x with
      | true => simp [h2]
      | false => simpa using ih m (i + 1) h3
theorem run_findKey {kt kk : IntKind} {t : TypeId} {k : Int} {es : Array MapEntry} {m : MapL} (ht : P.underlying t = some (.int kt)) (h : es.toList.map (fun e => (e.key, e.val)) = m.map fun x => (Value.int kk x.1, x.2)) (w : World) :
    (Instr.findKey t (.int kk k) es.toList).run P w = .ok (findI k m 0) w := by
  simp only [Instr.findKey, Sem.run_bind, run_underlying ht, Result.andThen_ok, findNow_int kk kt k es.toList m 0 h, Sem.run_pure]
theorem run_checkKey {kt kk : IntKind} {t : TypeId} {k : Int} (e : Bool) (d : Nat) (ht : P.underlying t = some (.int kt)) (w : World) : (Instr.checkKey e (d + 1) t (.int kk k)).run P w = .ok () w := by
  simp only [Instr.checkKey, Sem.run_bind, run_underlying ht, Result.andThen_ok, Sem.run_pure]
theorem mapO_size {es : Array MapEntry} {m : MapL} {kk : IntKind} (h : es.toList.map (fun e => (e.key, e.val)) = m.map fun x => (Value.int kk x.1, x.2)) : es.size = m.length := by
  have := congrArg List.length h
  simpa using this
theorem run_getObj {w : World} {b : Nat} {es : Array MapEntry} {c : Nat} (h : w.heap[b]? = some (.map es c)) : (getObj b).run P w = .ok (.map es c) w := by
  simp only [getObj, Sem.run, h]
theorem run_setMap {w : World} {b : Nat} {es : Array MapEntry} {c : Nat} {ob : Obj} (h : w.heap[b]? = some (.map es c)) : (setObj b ob).run P w = .ok () { w with heap := w.heap.setIfInBounds b ob } := by
  simp only [setObj, Sem.run, h]
theorem mapO_get {w : World} (hs : St cx ρ L w) {j b : Nat} {kk : IntKind} {m : MapL} (hj : look L j = some (MapO kk b m)) : ∃ es clock, w.heap[b]? = some (.map es clock) ∧ Stamps es clock ∧ es.toList.map (fun e => (e.key, e.val)) = m.map fun x => (Value.int kk x.1, x.2) := by
  obtain ⟨hh, ⟨es, clock, h1, hst, h2⟩, hw⟩ := hs.get hj
  exact ⟨es, clock, hw _ _ h1, hst, h2⟩
theorem run_lookup {w : World} {t kt et : TypeId} {ki kk : IntKind} {b : Nat} {k : Int} {z : Value} {es : Array MapEntry} {clock : Nat} {m : MapL} (ok : Bool) (hT : P.underlying t = some (.map kt et)) (hK : P.underlying kt = some (.int ki)) (hz : ∀ w, (zeroValue et).run P w = .ok z w)
    (hb : w.heap[b]? = some (.map es clock)) (h : es.toList.map (fun e => (e.key, e.val)) = m.map fun x => (Value.int kk x.1, x.2)) :
    (Instr.lookup t (.map (some b)) (.int kk k) ok).run P w = .ok (if ok then .tuple #[(mget m k).getD z, .bool (mget m k).isSome] else (mget m k).getD z) w := by
  have hf := run_findKey (P := P) (kt := ki) (k := k) hK h w
  have hc := run_checkKey (P := P) (kt := ki) (kk := kk) (k := k) es.isEmpty 9999 hK w
  simp only [Instr.lookup, Sem.run_bind, run_underlying hT, Result.andThen_ok, run_getObj hb, Sem.run_pure, hc, hf]
  cases hx : findI k m 0 with
  | none => simp only [mget, hx, hz, Sem.run_bind, Result.andThen_ok, Sem.run_pure]; rfl
  | some p => obtain ⟨q, v⟩ := p; simp only [mget, hx, Sem.run_pure, Result.andThen_ok]; rfl
theorem Y.lookup (j : Nat) {x y : Operand} {t kt et : TypeId} {ki kk : IntKind} {b : Nat} {k : Int} {z : Value} {m : MapL} (hop : o.op = .lookup t x y false) (hx : evE E x = some (.map (some b))) (hy : evE E y = some (.int kk k)) (hT : P.underlying t = some (.map kt et)) (hK : P.underlying kt = some (.int ki)) (hz : ∀ w, (zeroValue et).run P w = .ok z w)
    (hj : look L j = some (MapO kk b m)) : Y P n cx ρ E L o ((mget m k).getD z) := fun ac w ha hs => by
  obtain ⟨es, clock, h1, hst, h2⟩ := mapO_get hs hj
  simp only [execOp, hop, ha.ev hx, ha.ev hy, Sem.run_bind, run_lookup false hT hK hz h1 h2, Result.andThen_ok, Sem.run_pure]; rfl
theorem Y.lookupOk (j : Nat) {x y : Operand} {t kt et : TypeId} {ki kk : IntKind} {b : Nat} {k : Int} {z : Value} {m : MapL} (hop : o.op = .lookup t x y true) (hx : evE E x = some (.map (some b))) (hy : evE E y = some (.int kk k)) (hT : P.underlying t = some (.map kt et)) (hK : P.underlying kt = some (.int ki)) (hz : ∀ w, (zeroValue et).run P w = .ok z w)
    (hj : look L j = some (MapO kk b m)) : Y P n cx ρ E L o (.tuple #[(mget m k).getD z, .bool (mget m k).isSome]) := fun ac w ha hs => by
  obtain ⟨es, clock, h1, hst, h2⟩ := mapO_get hs hj
  simp only [execOp, hop, ha.ev hx, ha.ev hy, Sem.run_bind, run_lookup true hT hK hz h1 h2, Result.andThen_ok, Sem.run_pure]; rfl
theorem St.setMap {w : World} (hs : St cx ρ L w) {j b : Nat} {kk : IntKind} {m m' : MapL} (hj : look L j = some (MapO kk b m)) {es es' : Array MapEntry} {clock clock' : Nat} (hb : w.heap[b]? = some (.map es clock)) (hst : Stamps es' clock')
    (h : es'.toList.map (fun e => (e.key, e.val)) = m'.map fun x => (Value.int kk x.1, x.2)) : St cx ρ ((j, MapO kk b m') :: L) { w with heap := w.heap.setIfInBounds b (.map es' clock') } := by
  refine hs.setA hj (b := b) (ob := .map es clock) (ob' := .map es' clock') (fun h' hh' hw' => ?_) (fun h' hb' => ⟨es', clock', hb', hst, h⟩) ?_ ?_ ?_ rfl rfl rfl
  · obtain ⟨e2, c2, p1, _, _⟩ := hh'
    have := hw' _ _ p1
    rw [hb] at this
    rw [p1, ← this]
  · have := lt_of_heap hb
    simp [this]
  · intro p hp; simp [Array.getElem?_setIfInBounds, Ne.symm hp]
  · simp
theorem findI_some {k : Int} : ∀ {m : MapL} {i q : Nat} {v : Value}, findI k m i = some (q, v) → i ≤ q ∧ m[q - i]? = some (k, v) := by
  intro m
  induction m with
  | nil => intro i q v h; cases h
  | cons x m ih =>
    intro i q v h
    obtain ⟨x, u⟩ := x
    simp only [findI] at h
    split at h
    · rename_i hx
      injection h with h
      injection h with h1 h2
      subst h1 h2
      have := eq_of_beq hx
      subst this
      simp
    · obtain ⟨h1, h2⟩ := ih h
      refine ⟨by omega, ?_⟩
      have : q - i = (q - (i + 1)) + 1 := by omega
      rw [this]; simpa using h2
theorem run_mapUpdate {w : World} {t kt et : TypeId} {ki kk : IntKind} {b : Nat} {k : Int} {es : Array MapEntry} {clock : Nat} {m : MapL} (hT : P.underlying t = some (.map kt et)) (hK : P.underlying kt = some (.int ki))
    (hb : w.heap[b]? = some (.map es clock)) (hs : Stamps es clock) (h : es.toList.map (fun e => (e.key, e.val)) = m.map fun x => (Value.int kk x.1, x.2)) :
    ∃ es' clock', Stamps es' clock' ∧ (Instr.mapUpdate t (.map (some b)) (.int kk k) v).run P w = .ok () { w with heap := w.heap.setIfInBounds b (.map es' clock') } ∧ es'.toList.map (fun e => (e.key, e.val)) = (mset m k v).map fun x => (Value.int kk x.1, x.2) := by
  have hf := run_findKey (P := P) (kt := ki) (k := k) hK h w
  have hc := run_checkKey (P := P) (kt := ki) (kk := kk) (k := k) false 9999 hK w
  cases hx : findI k m 0 with
  | none =>
    refine ⟨es.push { key := .int kk k, val := v, born := clock }, clock + 1, ⟨?_, ?_⟩, ?_, ?_⟩
    · rw [Array.toList_push, List.map_append, List.nodup_append]
      refine ⟨hs.1, by simp, fun x hx y hy => ?_⟩
      obtain ⟨e, he, rfl⟩ := List.mem_map.1 hx
      simp at hy
      have := hs.2 e he
      omega
    · intro e he
      rw [Array.toList_push, List.mem_append] at he
      rcases he with he | he
      · have := hs.2 e he; omega
      · simp at he; subst he; show clock < clock + 1; omega
    · simp only [Instr.mapUpdate, Sem.run_bind, run_underlying hT, Result.andThen_ok, run_getObj hb, hc, hf, hx, run_setMap hb]
    · simp only [mset, hx, Array.toList_push, List.map_append, h]; rfl
  | some p =>
    obtain ⟨q, u⟩ := p
    obtain ⟨_, hq⟩ := findI_some hx
    rw [Nat.sub_zero] at hq
    have hkey : ((es[q]?).map (·.key)).getD (.int kk k) = .int kk k := by
      have h1 := congrArg (fun l => l[q]?) h
      simp only [List.getElem?_map, hq, Array.getElem?_toList, Option.map_some] at h1
      cases he : es[q]? with
      | none => rfl
      | some e => rw [he] at h1; simp only [Option.map_some, Option.some.injEq, Prod.mk.injEq] at h1; exact h1.1
    have hborn : (es.modify q fun e => { e with key := .int kk k, val := v }).toList.map (·.born) = es.toList.map (·.born) := by
      rw [Array.toList_modify]
      apply List.ext_getElem?
      intro p
      rw [List.getElem?_map, List.getElem?_map, List.getElem?_modify]
      by_cases hp : q = p
      · subst hp; cases es.toList[q]? <;> simp
      · simp [hp]
    refine ⟨es.modify q fun e => { e with key := .int kk k, val := v }, clock, ⟨by rw [hborn]; exact hs.1, fun e he => ?_⟩, ?_, ?_⟩
    · have : e.born ∈ es.toList.map (·.born) := by rw [← hborn]; exact List.mem_map.2 ⟨e, he, rfl⟩
      obtain ⟨e', he', h'⟩ := List.mem_map.1 this
      rw [← h']; exact hs.2 e' he'
    · have hst : (Instr.keyThatStays (.int kk k) (.int kk k)).run P w = .ok (.int kk k) w := by
        have : Instr.sameBits 10000 (.int kk k) (.int kk k) = true := by simp [Instr.sameBits]
        simp only [Instr.keyThatStays, this, if_true, Sem.run_pure]
      simp only [Instr.mapUpdate, Sem.run_bind, run_underlying hT, Result.andThen_ok, run_getObj hb, hc, hf, hx, hkey, hst, run_setMap hb]
    · simp only [mset, hx, Array.toList_modify]
      apply List.ext_getElem?
      intro p
      have h1 := congrArg (fun l => l[p]?) h
      simp only [List.getElem?_map] at h1 ⊢
      rw [List.getElem?_modify, List.getElem?_set]
      by_cases hp : q = p
      · subst hp
        have hlt : q < m.length := (List.getElem?_eq_some_iff.1 hq).1
        have hes : q < es.toList.length := by rw [Array.length_toList, mapO_size h]; exact hlt
        simp [hlt, List.getElem?_eq_getElem hes]
      · simpa [hp] using h1
theorem Jp.mapUpdate (j : Nat) {x y u : Operand} {t kt et : TypeId} {ki kk : IntKind} {b : Nat} {k : Int} {m : MapL} (hi : nth ops.toList i = some o) (hw : Want n ops E o true) (he : o.dst = none)
    (hop : o.op = .mapUpdate t x y u) (hx : evE E x = some (.map (some b))) (hy : evE E y = some (.int kk k)) (hu : evE E u = some v) (hT : P.underlying t = some (.map kt et)) (hK : P.underlying kt = some (.int ki)) (hj : look L j = some (MapO kk b m))
    (hk : Kp π S' cx ρ ((j, MapO kk b (mset m k v)) :: L)) (h : Jp P ops Q S' n cx π ρ E ((j, MapO kk b (mset m k v)) :: L)) : Jp P ops Q S' n cx ((i, false) :: π) ρ E L := by
  intro a w ha hs
  obtain ⟨es, clock, h1, hst, h2⟩ := mapO_get hs hj
  obtain ⟨es', clock', hst', h3, h4⟩ := run_mapUpdate (P := P) (v := v) (k := k) hT hK h1 hst h2
  simp only [wpPi, wpOp, nth_arr hi, hw a ha, if_true, Oper.wp, execOp, hop, ha.ev hx, ha.ev hy, ha.ev hu, Sem.run_bind, h3, Result.andThen_ok, Sem.run_pure, Oper.upon, he]
  have hs' := St.setMap hs hj h1 hst' h4
  exact .inl ⟨hk.get hs', h _ _ ha hs'⟩
theorem Jp.makeMap (d j : Nat) (kk : IntKind) {t : TypeId} (hi : nth ops.toList i = some o) (hw : Want n ops E o true) (he : o.dst = some d) (hd : Nat.blt d n = true) (hop : o.op = .makeMap t none)
    (h : ∀ b, Kp π S' cx ρ ((j, MapO kk b []) :: L) ∧ Jp P ops Q S' n cx π ρ ((d, .map (some b)) :: E) ((j, MapO kk b []) :: L)) : Jp P ops Q S' n cx ((i, false) :: π) ρ E L := by
  intro a w ha hs
  obtain ⟨h1, h2⟩ := h w.heap.size
  have hr : (execOp a.eval o).run P w = .ok (.value (.map (some w.heap.size))) { w with heap := w.heap.push (.map #[] 0) } := by
    simp only [execOp, hop, Instr.makeMap, newObj]; rfl
  simp only [wpPi, wpOp, nth_arr hi, hw a ha, if_true, Oper.wp, hr, Oper.upon]
  have hs' : St cx ρ ((j, MapO kk w.heap.size []) :: L) { w with heap := w.heap.push (.map #[] 0) } := by
    have h3 := (hs.alloc j (.map #[] 0)).imp (i := j) (A' := MapO kk w.heap.size []) (by rw [look_cons]; simp; rfl) fun h' hh' => ⟨#[], 0, hh', ⟨by simp, by simp⟩, rfl⟩
    refine h3.subF fun q B e => ?_
    rw [look_cons] at e ⊢
    split at e
    · rename_i hq; rw [if_pos hq]; exact e
    · rename_i hq; rw [if_neg hq, look_cons, if_neg hq]; exact e
  exact .inl ⟨h1.get hs', h2 _ _ (ha.put' he hd _) hs'⟩
theorem map_erase {α β : Type} (f : α → β) : ∀ (l : List α) (q : Nat), (l.eraseIdx q).map f = (l.map f).eraseIdx q := by
  intro l
  induction l with
  | nil => intro q; rfl
  | cons x l ih => intro q; cases q with
    | zero => rfl
    | succ q => simp [ih]
theorem Y.lenmap (j : Nat) {x : Operand} {t kt et : TypeId} {kk : IntKind} {b : Nat} {m : MapL} (hop : o.op = .call { callee := .builtin .len, args := #[x], argTypes := #[t] }) (hT : P.underlying t = some (.map kt et)) (hx : evE E x = some (.map (some b))) (hj : look L j = some (MapO kk b m)) : Y P n cx ρ E L o (.int .i64 m.length) := fun ac w ha hs => by
  obtain ⟨es, clock, h1, hst, h2⟩ := mapO_get hs hj
  refine run_builtin1 hop (ha.ev hx) fun c => ?_
  simp [go_sem, Builtin.len_, run_underlying hT, run_getObj h1, mapO_size h2]
theorem Jp.delete (j d : Nat) {x y : Operand} {t u kt et : TypeId} {ki kk : IntKind} {b : Nat} {k : Int} {m : MapL} (hi : nth ops.toList i = some o) (hw : Want n ops E o true) (he : o.dst = some d) (hd : Nat.blt d n = true)
    (hop : o.op = .call { callee := .builtin .delete, args := #[x, y], argTypes := #[t, u] }) (hx : evE E x = some (.map (some b))) (hy : evE E y = some (.int kk k)) (hT : P.underlying t = some (.map kt et)) (hK : P.underlying kt = some (.int ki)) (hj : look L j = some (MapO kk b m))
    (hk : Kp π S' cx ρ ((j, MapO kk b (mdel m k)) :: L)) (h : Jp P ops Q S' n cx π ρ ((d, .tuple #[]) :: E) ((j, MapO kk b (mdel m k)) :: L)) : Jp P ops Q S' n cx ((i, false) :: π) ρ E L := by
  intro a w ha hs
  obtain ⟨es, clock, h1, hst, h2⟩ := mapO_get hs hj
  have hf := run_findKey (P := P) (kt := ki) (k := k) hK h2 w
  have hc := run_checkKey (P := P) (kt := ki) (kk := kk) (k := k) es.isEmpty 9999 hK w
  have g0 : (#[t, u] : Array TypeId)[0]? = some t := rfl
  have g2 : (#[.map (some b), .int kk k] : Array Value)[0]? = some (.map (some b)) := rfl
  have g3 : (#[.map (some b), .int kk k] : Array Value)[1]? = some (.int kk k) := rfl
  obtain ⟨es', hst', hrun, hes⟩ : ∃ es' : Array MapEntry, Stamps es' clock ∧ (Builtin.delete_ #[t, u] o.type #[.map (some b), .int kk k]).run P w = .ok (.tuple #[]) { w with heap := w.heap.setIfInBounds b (.map es' clock) } ∧ es'.toList.map (fun e => (e.key, e.val)) = (mdel m k).map fun x => (Value.int kk x.1, x.2) := by
    cases hx : findI k m 0 with
    | none =>
      refine ⟨es, hst, ?_, by simp only [mdel, hx]; exact h2⟩
      unfold Builtin.delete_
      rw [g0, g2, g3]
      simp only [Sem.run_bind, run_underlying hT, Result.andThen_ok, run_getObj h1, hc, hf, hx, run_setMap h1, Sem.run_pure]
    | some p =>
      obtain ⟨q, v⟩ := p
      refine ⟨es.eraseIdxIfInBounds q, ?_, ?_, ?_⟩
      · rw [Array.eraseIdxIfInBounds_eq]
        split
        · rw [Stamps, Array.toList_eraseIdx]
          exact ⟨hst.1.sublist ((List.eraseIdx_sublist ..).map _), fun e he => hst.2 e ((List.eraseIdx_sublist ..).subset he)⟩
        · exact hst
      · unfold Builtin.delete_
        rw [g0, g2, g3]
        simp only [Sem.run_bind, run_underlying hT, Result.andThen_ok, run_getObj h1, hc, hf, hx, run_setMap h1, Sem.run_pure]
      · obtain ⟨_, hq⟩ := findI_some hx
        rw [Nat.sub_zero] at hq
        have hlt : q < es.size := by rw [mapO_size h2]; exact (List.getElem?_eq_some_iff.1 hq).1
        simp only [mdel, hx]
        rw [Array.eraseIdxIfInBounds_eq, dif_pos hlt, Array.toList_eraseIdx, map_erase, map_erase, h2]
  have hr' := run_builtin2 (P := P) (w := w) (v := .tuple #[]) (w' := { w with heap := w.heap.setIfInBounds b (.map es' clock) }) hop (ha.ev hx) (ha.ev hy) (fun cs' => by simp only [builtin, Sem.run_bind, hrun, Result.andThen_ok, Sem.run_pure])
  simp only [wpPi, wpOp, nth_arr hi, hw a ha, if_true, Oper.wp, hr', Oper.upon]
  have hs' := St.setMap hs hj h1 hst' hes
  exact .inl ⟨hk.get hs', h _ _ (ha.put' he hd _) hs'⟩
end
end Go.Proofs.Ytogkncmhonomdaa
set_option linter.unusedVariables false
set_option linter.unusedSimpArgs false
namespace Go.Proofs.Ytogkncmhonomdaa
open Go
def Sep (A B : HProp) : HProp := fun h => ∃ h1 h2, A h1 ∧ B h2 ∧ Hp.disj h1 h2 ∧ Hp.le h1 h ∧ Hp.le h2 h
theorem disj_le {h k h' : Hp} (d : Hp.disj h k) (l : Hp.le h' h) : Hp.disj h' k := fun b => by
  rcases d b with q | q
  · cases hb : h' b with
    | none => exact .inl rfl
    | some o => rw [l _ _ hb] at q; cases q
  · exact .inr q
section
variable {P : Program} {n : Nat} {cx : Cx} {ρ : Hp} {E : Env} {L : Own} {ops : Array Oper} {Q : Exit → Act → World → Prop} {S' : World → Prop} {π : List (Nat × Bool)}
theorem St.part {w : World} (hs : St cx ρ L w) {j k : Nat} {A B : HProp} (hjk : j ≠ k) (e : look L j = some (Sep A B)) : St cx ρ ((j, A) :: (k, B) :: L) w := by
  obtain ⟨H, a, b, c, d⟩ := hs.ex
  obtain ⟨h1, h2, ha, hb, hd, l1, l2⟩ := a j _ e
  refine { hs with ex := ⟨fun i => if i = j then h1 else if i = k then h2 else H i, fun i C hC => ?_, fun p q hpq => ?_, fun p => ?_, fun p bb o hp => ?_⟩ }
  · rw [look_cons] at hC
    split at hC
    · rename_i h; injection hC with hC; subst hC; subst h; simpa using ha
    · rename_i h
      rw [look_cons] at hC
      split at hC
      · rename_i h'; injection hC with hC; subst hC; subst h'; simp [Ne.symm h]; exact hb
      · rename_i h'; simp [Ne.symm h, Ne.symm h']; exact a i C hC
  · dsimp only
    have sub : ∀ i, i ≠ j → i ≠ k → Hp.disj (H i) h1 ∧ Hp.disj (H i) h2 := fun i hi hk => ⟨Hp.disj_symm (disj_le (b j i (Ne.symm hi)) l1), Hp.disj_symm (disj_le (b j i (Ne.symm hi)) l2)⟩
    by_cases hp : p = j <;> by_cases hq : q = j <;> by_cases hp' : p = k <;> by_cases hq' : q = k <;> simp only [hp, hq, hp', hq', if_true, if_false]
    all_goals first
      | omega
      | (exfalso; omega)
      | (simp only [Ne.symm hjk, if_true, if_false]; first | exact hd | exact Hp.disj_symm hd | exact (sub _ ‹_› ‹_›).1 | exact (sub _ ‹_› ‹_›).2 | exact Hp.disj_symm (sub _ ‹_› ‹_›).1 | exact Hp.disj_symm (sub _ ‹_› ‹_›).2 | exact b p q hpq)
      | exact hd
      | exact Hp.disj_symm hd
      | exact (sub _ ‹_› ‹_›).1
      | exact (sub _ ‹_› ‹_›).2
      | exact Hp.disj_symm (sub _ ‹_› ‹_›).1
      | exact Hp.disj_symm (sub _ ‹_› ‹_›).2
      | exact b p q hpq
  · dsimp only
    by_cases hp : p = j
    · rw [if_pos hp]; exact disj_le (c j) l1
    · by_cases hp' : p = k
      · rw [if_neg hp, if_pos hp']; exact disj_le (c j) l2
      · rw [if_neg hp, if_neg hp']; exact c p
  · dsimp only at hp
    split at hp
    · exact d j bb o (l1 _ _ hp)
    · split at hp
      · exact d j bb o (l2 _ _ hp)
      · exact d p bb o hp
theorem St.glue {w : World} (hs : St cx ρ L w) {j k : Nat} {A B : HProp} (hjk : j ≠ k) (e1 : look L j = some A) (e2 : look L k = some B) : St cx ρ ((j, Sep A B) :: (k, Emp) :: L) w := by
  obtain ⟨H, a, b, c, d⟩ := hs.ex
  refine { hs with ex := ⟨fun i => if i = j then Hp.union (H j) (H k) else if i = k then Hp.emp else H i, fun i C hC => ?_, fun p q hpq => ?_, fun p => ?_, fun p bb o hp => ?_⟩ }
  · rw [look_cons] at hC
    split at hC
    · rename_i h; injection hC with hC; subst hC; subst h
      dsimp only
      rw [if_pos rfl]
      exact ⟨H j, H k, a j _ e1, a k _ e2, b j k hjk, Hp.le_union_left _ _, Hp.le_union_right (b j k hjk)⟩
    · rename_i h
      rw [look_cons] at hC
      split at hC
      · rename_i h'; injection hC with hC; subst hC; exact trivial
      · rename_i h'; dsimp only; rw [if_neg (Ne.symm h), if_neg (Ne.symm h')]; exact a i C hC
  · have key : ∀ q, q ≠ j → q ≠ k → Hp.disj (Hp.union (H j) (H k)) (H q) := fun q hq hq' bb => by
      cases hb : Hp.union (H j) (H k) bb with
      | none => exact .inl rfl
      | some o =>
        rcases Hp.union_cases hb with h | ⟨_, h⟩
        · rcases b j q (Ne.symm hq) bb with h' | h'
          · rw [h] at h'; cases h'
          · exact .inr h'
        · rcases b k q (Ne.symm hq') bb with h' | h'
          · rw [h] at h'; cases h'
          · exact .inr h'
    dsimp only
    by_cases hp : p = j
    · by_cases hq : q = j
      · exact absurd (hp.trans hq.symm) hpq
      · rw [if_pos hp, if_neg hq]
        by_cases hq' : q = k
        · rw [if_pos hq']; exact Hp.disj_emp _
        · rw [if_neg hq']; exact key q hq hq'
    · rw [if_neg hp]
      by_cases hp' : p = k
      · rw [if_pos hp']; exact Hp.emp_disj _
      · rw [if_neg hp']
        by_cases hq : q = j
        · rw [if_pos hq]; exact Hp.disj_symm (key p hp hp')
        · rw [if_neg hq]
          by_cases hq' : q = k
          · rw [if_pos hq']; exact Hp.disj_emp _
          · rw [if_neg hq']; exact b p q hpq
  · dsimp only
    by_cases hp : p = j
    · rw [if_pos hp]
      intro bb
      cases hb : Hp.union (H j) (H k) bb with
      | none => exact .inl rfl
      | some o =>
        rcases Hp.union_cases hb with h | ⟨_, h⟩
        · rcases c j bb with h' | h'
          · rw [h] at h'; cases h'
          · exact .inr h'
        · rcases c k bb with h' | h'
          · rw [h] at h'; cases h'
          · exact .inr h'
    · by_cases hp' : p = k
      · rw [if_neg hp, if_pos hp']; exact Hp.emp_disj _
      · rw [if_neg hp, if_neg hp']; exact c p
  · dsimp only at hp
    split at hp
    · rcases Hp.union_cases hp with h | ⟨_, h⟩
      · exact d j bb o h
      · exact d k bb o h
    · split at hp
      · cases hp
      · exact d p bb o hp
theorem Cd.part {d : Code} (j k : Nat) {A B : HProp} (hjk : j ≠ k) (e : look L j = some (Sep A B)) (h : Cd P Q n cx ρ E ((j, A) :: (k, B) :: L) d) : Cd P Q n cx ρ E L d := fun a w ha hs => h a w ha (hs.part hjk e)
theorem Cd.glue {d : Code} (j k : Nat) {A B : HProp} (hjk : j ≠ k) (e1 : look L j = some A) (e2 : look L k = some B) (h : Cd P Q n cx ρ E ((j, Sep A B) :: (k, Emp) :: L) d) : Cd P Q n cx ρ E L d := fun a w ha hs => h a w ha (hs.glue hjk e1 e2)
theorem Jp.part (j k : Nat) {A B : HProp} (hjk : j ≠ k) (e : look L j = some (Sep A B)) (h : Jp P ops Q S' n cx π ρ E ((j, A) :: (k, B) :: L)) : Jp P ops Q S' n cx π ρ E L := fun a w ha hs => h a w ha (hs.part hjk e)
theorem Jp.glue (j k : Nat) {A B : HProp} (hjk : j ≠ k) (e1 : look L j = some A) (e2 : look L k = some B) (h : Jp P ops Q S' n cx π ρ E ((j, Sep A B) :: (k, Emp) :: L)) : Jp P ops Q S' n cx π ρ E L := fun a w ha hs => h a w ha (hs.glue hjk e1 e2)
variable {o : Oper} {i : Nat} {v : Value}
theorem Y.indexArr {x y : Operand} {t e : TypeId} {k : IntKind} {j : Int} {A : Addr} {l m q : Nat} (hop : o.op = .indexAddr t x y) (hx : evE E x = some (.pointer (some A))) (hy : evE E y = some (.int k j)) (hT : P.underlying t = some (.array l e))
    (hz : ∀ w, (sizeOf e).run P w = .ok m w) (h0 : 0 ≤ j) (h1 : j < l) (hq : j.toNat * m = q) : Y P n cx ρ E L o (.pointer (some (A.add q))) := fun ac w ha hs => by
  subst hq
  simp only [execOp, hop, ha.ev hx, ha.ev hy] <;> simp [Instr.indexAt, Instr.sureAddr, asIntOf, run_underlying' hT, h0, h1, hz, go_sem]
end
end Go.Proofs.Ytogkncmhonomdaa
set_option linter.unusedVariables false
set_option linter.unusedSimpArgs false
namespace Go.Proofs.Ytogkncmhonomdaa
open Go
def leftE (es : Array MapEntry) (seen : Array Nat) : List MapEntry := es.toList.filter fun e => !seen.contains e.born
def RangeO (kk : IntKind) (b r : Nat) (m : MapL) (left : MapL) (cur : Option (Int × Value)) : HProp := fun h => b ≠ r ∧ ∃ es clock seen, h b = some (.map es clock) ∧ h r = some (.mapIter (some b) clock seen clock) ∧ Stamps es clock ∧
  es.toList.map (fun e => (e.key, e.val)) = m.map (fun x => (Value.int kk x.1, x.2)) ∧ (leftE es seen).map (fun e => (e.key, e.val)) = left.map (fun x => (Value.int kk x.1, x.2)) ∧
  ∀ x, cur = some x → ∃ e, seen.back? = some e.born ∧ e ∈ es.toList ∧ e.key = .int kk x.1 ∧ e.val = x.2
section
variable {P : Program} {n : Nat} {cx : Cx} {ρ : Hp} {E : Env} {L : Own} {o : Oper} {ops : Array Oper} {Q : Exit → Act → World → Prop} {S' : World → Prop} {π : List (Nat × Bool)} {i : Nat} {v : Value}
theorem leftE_nil (es : Array MapEntry) : leftE es #[] = es.toList := by simp [leftE]
theorem St.exact {w : World} (hs : St cx ρ L w) {j b : Nat} {kk : IntKind} {m : MapL} (hj : look L j = some (MapO kk b m)) {es : Array MapEntry} {clock : Nat} (hb : w.heap[b]? = some (.map es clock)) : St cx ρ ((j, Pt b (.map es clock)) :: L) w := by
  have hA : ∀ h : Hp, MapO kk b m h → (∀ b o, h b = some o → w.heap[b]? = some o) → h b = some (.map es clock) := fun h a hk => by
    obtain ⟨e2, c2, p1, _⟩ := a
    have := hk _ _ p1
    rw [hb] at this
    rw [p1, ← this]
  exact hs.set hj (fun k a hk => ⟨k, hA k a hk, fun b o hb => ⟨hk b o hb, by rw [hb]; simp⟩, fun _ _ => rfl⟩) rfl rfl rfl rfl
theorem Jp.range (d j k : Nat) {x : Operand} {t kt et : TypeId} {kk : IntKind} {b : Nat} {m : MapL} (hjk : j ≠ k) (hi : nth ops.toList i = some o) (hw : Want n ops E o true) (he : o.dst = some d) (hd : Nat.blt d n = true) (hop : o.op = .range t x)
    (hx : evE E x = some (.map (some b))) (hT : P.underlying t = some (.map kt et)) (hj : look L j = some (MapO kk b m))
    (h : ∀ r, Kp π S' cx ρ ((j, RangeO kk b r m m none) :: (k, Emp) :: L) ∧ Jp P ops Q S' n cx π ρ ((d, .pointer (some ⟨r, 0, none⟩)) :: E) ((j, RangeO kk b r m m none) :: (k, Emp) :: L)) : Jp P ops Q S' n cx ((i, false) :: π) ρ E L := by
  intro a w ha hs
  obtain ⟨es, clock, h1, hst, h2⟩ := mapO_get hs hj
  obtain ⟨k1, k2⟩ := h w.heap.size
  have hr : (execOp a.eval o).run P w = .ok (.value (.pointer (some ⟨w.heap.size, 0, none⟩))) { w with heap := w.heap.push (.mapIter (some b) clock #[] clock) } := by
    simp only [execOp, hop, ha.ev hx, Instr.range, Sem.run_bind, run_underlying hT, Result.andThen_ok, run_getObj h1, Sem.run_pure, newObj]; rfl
  simp only [wpPi, wpOp, nth_arr hi, hw a ha, if_true, Oper.wp, hr, Oper.upon]
  have hbl : b ≠ w.heap.size := Nat.ne_of_lt (lt_of_heap h1)
  have s1 := (hs.exact hj h1).alloc k (.mapIter (some b) clock #[] clock)
  have s2 := s1.glue hjk (A := Pt b (.map es clock)) (B := Pt w.heap.size (.mapIter (some b) clock #[] clock)) (by rw [look_cons, if_neg (Ne.symm hjk), look_cons, if_pos rfl]) (by rw [look_cons, if_pos rfl])
  have s3 := s2.imp (i := j) (A := Sep (Pt b (.map es clock)) (Pt w.heap.size (.mapIter (some b) clock #[] clock))) (A' := RangeO kk b w.heap.size m m none) (by rw [look_cons, if_pos rfl]) fun h' ⟨g1, g2, e1, e2, _, l1, l2⟩ => ⟨hbl, es, clock, #[], l1 _ _ e1, l2 _ _ e2, hst, h2, by rw [leftE_nil]; exact h2, fun x hx => by cases hx⟩
  have hs' : St cx ρ ((j, RangeO kk b w.heap.size m m none) :: (k, Emp) :: L) { w with heap := w.heap.push (.mapIter (some b) clock #[] clock) } := s3.subF fun q B e => by
    rw [look_cons] at e ⊢
    split at e
    · rename_i hq; rw [if_pos hq]; exact e
    · rename_i hq
      rw [if_neg hq, look_cons, if_neg hq]
      rw [look_cons] at e ⊢
      split at e
      · rename_i hq'; rw [if_pos hq']; exact e
      · rename_i hq'; rw [if_neg hq', look_cons, if_neg hq', look_cons, if_neg hq]; exact e
  exact .inl ⟨k1.get hs', k2 _ _ (ha.put' he hd _) hs'⟩
end
end Go.Proofs.Ytogkncmhonomdaa
set_option linter.unusedVariables false
set_option linter.unusedSimpArgs false
namespace Go.Proofs.Ytogkncmhonomdaa
open Go
def Ex {ι : Type} (A : ι → HProp) : HProp := fun h => ∃ x, A x h
def Fact (φ : Prop) (A : HProp) : HProp := fun h => φ ∧ A h
def Blks (l : List (Nat × Obj)) : HProp := fun h => (l.map (·.1)).Nodup ∧ ∀ b o, (b, o) ∈ l → h b = some o
section
variable {P : Program} {n : Nat} {cx : Cx} {ρ : Hp} {E : Env} {L : Own} {o : Oper} {ops : Array Oper} {Q : Exit → Act → World → Prop} {S' : World → Prop} {π : List (Nat × Bool)} {i : Nat} {v : Value}
theorem St.ex' {w : World} (hs : St cx ρ L w) {j : Nat} {ι : Type} {A : ι → HProp} (e : look L j = some (Ex A)) : ∃ x, St cx ρ ((j, A x) :: L) w := by
  obtain ⟨H, a, b, c, d⟩ := hs.ex
  obtain ⟨x, hx⟩ := a j _ e
  refine ⟨x, { hs with ex := ⟨H, fun i B hB => ?_, b, c, d⟩ }⟩
  rw [look_cons] at hB
  split at hB
  · rename_i h; injection hB with hB; subst hB; subst h; exact hx
  · exact a i B hB
theorem Cd.ex {d : Code} (j : Nat) {ι : Type} {A : ι → HProp} (e : look L j = some (Ex A)) (h : ∀ x, Cd P Q n cx ρ E ((j, A x) :: L) d) : Cd P Q n cx ρ E L d := fun a w ha hs =>
  let ⟨x, hx⟩ := hs.ex' e; h x a w ha hx
theorem Jp.ex (j : Nat) {ι : Type} {A : ι → HProp} (e : look L j = some (Ex A)) (h : ∀ x, Jp P ops Q S' n cx π ρ E ((j, A x) :: L)) : Jp P ops Q S' n cx π ρ E L := fun a w ha hs =>
  let ⟨x, hx⟩ := hs.ex' e; h x a w ha hx
def HasC (A : HProp) (a : Addr) (v : Value) : Prop := ∀ h, A h → cellH h a = some v
theorem Y.loadC (j : Nat) {x : Operand} {t : TypeId} {a : Addr} {A : HProp} (hop : o.op = .load t x) (hA : ∀ w, (isAgg t).run P w = .ok false w) (hx : evE E x = some (.pointer (some a))) (hj : look L j = some A) (hc : HasC A a v) : Y P n cx ρ E L o v := fun ac w ha hs => by
  obtain ⟨k, hk, hw⟩ := hs.get hj
  simp only [execOp, hop, ha.ev hx, Sem.run_bind, run_load1 hA (cell_of hw (hc k hk)), Result.andThen_ok, Sem.run_pure]
def Hp.upd (h : Hp) (b : Nat) (ob : Obj) : Hp := fun p => if p = b then some ob else h p
def SetC (A A' : HProp) (b off : Nat) (v : Value) : Prop := ∀ h, A h → ∃ cs T fr, h b = some (.cells cs T fr) ∧ off < cs.size ∧ noFr fr off ∧ A' (h.upd b (.cells (cs.setIfInBounds off v) T fr))
theorem Blks.cell {l : List (Nat × Obj)} {b off : Nat} {cs : Array Value} {T : TypeId} {fr : Nat × Nat} (hm : (b, Obj.cells cs T fr) ∈ l) (hc : cs[off]? = some v) : HasC (Blks l) ⟨b, off, none⟩ v := fun h hh => by
  simp [cellH, hh.2 _ _ hm, hc]
theorem Blks.cells {l : List (Nat × Obj)} {b : Nat} {cs : List Value} {T : TypeId} {fr : Nat × Nat} (hm : (b, Obj.cells cs.toArray T fr) ∈ l) : ∀ h, Blks l h → Cells h ⟨b, 0, none⟩ cs := fun h hh j v e => by
  rw [add_mk]; simp [cellH, hh.2 _ _ hm, e]
def updB (l : List (Nat × Obj)) (b : Nat) (ob : Obj) : List (Nat × Obj) := l.map fun p => if p.1 = b then (b, ob) else p
theorem updB_keys (l : List (Nat × Obj)) (b : Nat) (ob : Obj) : (updB l b ob).map (·.1) = l.map (·.1) := by
  rw [updB, List.map_map]
  apply List.map_congr_left
  intro p _
  simp only [Function.comp]
  split
  · rename_i h; exact h.symm
  · rfl
theorem Blks.set {l l' : List (Nat × Obj)} {b off : Nat} {cs : Array Value} {T : TypeId} {fr : Nat × Nat} (hm : (b, Obj.cells cs T fr) ∈ l) (hlt : off < cs.size) (hnf : noFr fr off) (hl : updB l b (.cells (cs.setIfInBounds off v) T fr) = l') : SetC (Blks l) (Blks l') b off v := fun h hh => by
  subst hl
  refine ⟨cs, T, fr, hh.2 _ _ hm, hlt, hnf, by rw [updB_keys]; exact hh.1, fun p ob hp => ?_⟩
  obtain ⟨q, hq, e⟩ := List.mem_map.1 hp
  unfold Hp.upd
  split at e
  · rename_i hqb; injection e with e1 e2; subst e1 e2; rw [if_pos rfl]
  · rename_i hqb; subst e; rw [if_neg hqb]; exact hh.2 _ _ hq
theorem Blks.sub {l l' : List (Nat × Obj)} (s : l'.Sublist l) : ∀ k, Blks l k → Blks l' k := fun k hk => ⟨hk.1.sublist (s.map _), fun b o h => hk.2 b o (s.subset h)⟩
theorem Blks.nil : Blks [] Hp.emp := ⟨by simp, fun b o h => by cases h⟩
theorem emp_cons {j : Nat} {A B : HProp} {w : World} (hs : St cx ρ ((j, A) :: (j, B) :: L) w) : St cx ρ ((j, A) :: L) w := hs.subF fun q C e => by
  rw [look_cons] at e ⊢
  split at e
  · rename_i h; rw [if_pos h]; exact e
  · rename_i h; rw [if_neg h, look_cons, if_neg h]; exact e
theorem Cd.meet {d : Code} {E' : Env} {L' : Own} (h : Cd P Q n cx ρ E' L' d) (hE : Subl E' E) (hL : Subl L' L) : Cd P Q n cx ρ E L d := h.trim hE hL
theorem Jp.joinG {r : Code} {K : Act → World → Prop} {Q'' : Exit → Act → World → Prop} {G : Type} (φ : G → Prop) (Ev : G → Env) (Ek : Env) (hEk : Subl Ek E) (Lv : G → Own) (Lk : Own) (hLk : Subl Lk L) (hK : ∀ a w, r.wp P Q'' a w → K a w)
    (main : ∀ g, φ g → Cd P Q'' n cx ρ (Ev g ++ Ek) (Lv g ++ Lk) r) (rest : (∀ g, φ g → Cd P Q'' n cx ρ (Ev g ++ Ek) (Lv g ++ Lk) r) → Jp P ops Q S' n cx π ρ E L) : Jp P ops Q S' n cx π ρ E L := rest main
theorem Cd.joinG {r d : Code} {K : Act → World → Prop} {Q'' : Exit → Act → World → Prop} {G : Type} (φ : G → Prop) (Ev : G → Env) (Ek : Env) (hEk : Subl Ek E) (Lv : G → Own) (Lk : Own) (hLk : Subl Lk L) (hK : ∀ a w, r.wp P Q'' a w → K a w)
    (main : ∀ g, φ g → Cd P Q'' n cx ρ (Ev g ++ Ek) (Lv g ++ Lk) r) (rest : (∀ g, φ g → Cd P Q'' n cx ρ (Ev g ++ Ek) (Lv g ++ Lk) r) → Cd P Q n cx ρ E L d) : Cd P Q n cx ρ E L d := rest main
theorem subl_app {α : Type} {l m : List (Nat × α)} {k : List (Nat × α)} (h1 : Subl l k) (h2 : Subl m k) : Subl (l ++ m) k := by
  induction l with
  | nil => exact h2
  | cons p l ih => exact ⟨h1.1, ih h1.2⟩
theorem JpQ.again {G : Type} {ok : G → Prop} {mu : G → Nat} {ro : G → Hp} {Eo : G → Env} {Lo : G → Own} {g : G} {K : Act → World → Prop} (hQ : Q .normal = K)
    (hK : ∀ g' a w, ok g' → mu g' < mu g → At n (Eo g') a → St cx (ro g') (Lo g') w → K a w) (g' : G) (h1 : ok g') (h2 : mu g' < mu g) (hr : ro g' = ρ) (hE : Subl (Eo g') E) (hL : Subl (Lo g') L) : Jp P ops Q S' n cx [] ρ E L :=
  fun a w ha hs => by rw [wpPi, hQ]; exact hK g' a w h1 h2 (ha.sub hE) (by rw [hr]; exact hs.sub hL)
theorem CdQ.again {G : Type} {ok : G → Prop} {mu : G → Nat} {ro : G → Hp} {Eo : G → Env} {Lo : G → Own} {g : G} {K : Act → World → Prop} (hQ : Q .normal = K)
    (hK : ∀ g' a w, ok g' → mu g' < mu g → At n (Eo g') a → St cx (ro g') (Lo g') w → K a w) (g' : G) (h1 : ok g') (h2 : mu g' < mu g) (hr : ro g' = ρ) (hE : Subl (Eo g') E) (hL : Subl (Lo g') L) : Cd P Q n cx ρ E L .skip :=
  fun a w ha hs => wp_skip (by rw [hQ]; exact hK g' a w h1 h2 (ha.sub hE) (by rw [hr]; exact hs.sub hL))
theorem Cd.loopK {c : Code} {G : Type} (ok : G → Prop) (mu : G → Nat) (ro : G → Hp) (Ev : G → Env) (Ek : Env) (Lv : G → Own) (Lk : Own) (g0 : G) (h0 : ok g0) (hr : ro g0 = ρ) (hE : Subl (Ev g0) E) (hEk : Subl Ek E) (hL : Subl (Lv g0) L) (hLk : Subl Lk L)
    (round : ∀ (g : G) (K : Act → World → Prop), ok g → (∀ g' a w, ok g' → mu g' < mu g → At n (Ev g' ++ Ek) a → St cx (ro g') (Lv g' ++ Lk) w → K a w) → Cd P (Exit.then K Q) n cx (ro g) (Ev g ++ Ek) (Lv g ++ Lk) c) :
    Cd P Q n cx ρ E L (.loop c) := Cd.loop ok mu ro (fun g => Ev g ++ Ek) (fun g => Lv g ++ Lk) g0 h0 hr (subl_app hE hEk) (subl_app hL hLk) round
end
end Go.Proofs.Ytogkncmhonomdaa
set_option linter.unusedVariables false
set_option linter.unusedSimpArgs false
namespace Go.Proofs.Ytogkncmhonomdaa
open Go
theorem findI_shift (k : Int) : ∀ (m : MapL) (i : Nat), findI k m (i + 1) = (findI k m i).map fun p => (p.1 + 1, p.2) := by
  intro m
  induction m with
  | nil => intro i; rfl
  | cons x m ih =>
    intro i
    obtain ⟨x, u⟩ := x
    simp only [findI]
    split
    · rfl
    · rw [ih]
theorem mget_cons (x : Int) (u : Value) (m : MapL) (k : Int) : mget ((x, u) :: m) k = if k = x then some u else mget m k := by
  simp only [mget, findI]
  by_cases h : k = x
  · subst h; simp
  · have : (k == x) = false := by simpa using h
    rw [this, if_neg h, findI_shift]
    cases findI k m 0 <;> rfl
theorem RangeO.map {kk : IntKind} {b r : Nat} {m left : MapL} {cur : Option (Int × Value)} : ∀ k, RangeO kk b r m left cur k → MapO kk b m k := fun k ⟨_, es, clock, seen, h1, _, h3, h4, _⟩ => ⟨es, clock, h1, h3, h4⟩
section
variable {P : Program} {n : Nat} {cx : Cx} {ρ : Hp} {E : Env} {L : Own} {o : Oper}
end
end Go.Proofs.Ytogkncmhonomdaa
set_option linter.unusedVariables false
set_option linter.unusedSimpArgs false
namespace Go.Proofs.Ytogkncmhonomdaa
open Go
def leN : List UInt8 → Nat
  | [] => 0
  | b :: l => b.toNat + 256 * leN l
def leB (v : Nat) (n : Nat) : List UInt8 := (List.range n).map fun i => UInt8.ofNat (v / 2 ^ (8 * i))
section
variable {P : Program} {n : Nat} {cx : Cx} {ρ : Hp} {E : Env} {L : Own} {o : Oper} {ops : Array Oper} {Q : Exit → Act → World → Prop} {S' : World → Prop} {π : List (Nat × Bool)} {i : Nat} {v : Value}
theorem Jp.delete0 (j : Nat) {x y : Operand} {t u kt et : TypeId} {ki kk : IntKind} {b : Nat} {k : Int} {m : MapL} (hi : nth ops.toList i = some o) (hw : Want n ops E o true) (he : o.dst = none)
    (hop : o.op = .call { callee := .builtin .delete, args := #[x, y], argTypes := #[t, u] }) (hx : evE E x = some (.map (some b))) (hy : evE E y = some (.int kk k)) (hT : P.underlying t = some (.map kt et)) (hK : P.underlying kt = some (.int ki)) (hj : look L j = some (MapO kk b m))
    (hk : Kp π S' cx ρ ((j, MapO kk b (mdel m k)) :: L)) (h : Jp P ops Q S' n cx π ρ E ((j, MapO kk b (mdel m k)) :: L)) : Jp P ops Q S' n cx ((i, false) :: π) ρ E L := by
  intro a w ha hs
  obtain ⟨es, clock, h1, hst, h2⟩ := mapO_get hs hj
  have hf := run_findKey (P := P) (kt := ki) (k := k) hK h2 w
  have hc := run_checkKey (P := P) (kt := ki) (kk := kk) (k := k) es.isEmpty 9999 hK w
  have g0 : (#[t, u] : Array TypeId)[0]? = some t := rfl
  have g2 : (#[.map (some b), .int kk k] : Array Value)[0]? = some (.map (some b)) := rfl
  have g3 : (#[.map (some b), .int kk k] : Array Value)[1]? = some (.int kk k) := rfl
  obtain ⟨es', hst', hrun, hes⟩ : ∃ es' : Array MapEntry, Stamps es' clock ∧ (Builtin.delete_ #[t, u] o.type #[.map (some b), .int kk k]).run P w = .ok (.tuple #[]) { w with heap := w.heap.setIfInBounds b (.map es' clock) } ∧ es'.toList.map (fun e => (e.key, e.val)) = (mdel m k).map fun x => (Value.int kk x.1, x.2) := by
    cases hx : findI k m 0 with
    | none =>
      refine ⟨es, hst, ?_, by simp only [mdel, hx]; exact h2⟩
      unfold Builtin.delete_
      rw [g0, g2, g3]
      simp only [Sem.run_bind, run_underlying hT, Result.andThen_ok, run_getObj h1, hc, hf, hx, run_setMap h1, Sem.run_pure]
    | some p =>
      obtain ⟨q, v⟩ := p
      refine ⟨es.eraseIdxIfInBounds q, ?_, ?_, ?_⟩
      · rw [Array.eraseIdxIfInBounds_eq]
        split
        · rw [Stamps, Array.toList_eraseIdx]
          exact ⟨hst.1.sublist ((List.eraseIdx_sublist ..).map _), fun e he => hst.2 e ((List.eraseIdx_sublist ..).subset he)⟩
        · exact hst
      · unfold Builtin.delete_
        rw [g0, g2, g3]
        simp only [Sem.run_bind, run_underlying hT, Result.andThen_ok, run_getObj h1, hc, hf, hx, run_setMap h1, Sem.run_pure]
      · obtain ⟨_, hq⟩ := findI_some hx
        rw [Nat.sub_zero] at hq
        have hlt : q < es.size := by rw [mapO_size h2]; exact (List.getElem?_eq_some_iff.1 hq).1
        simp only [mdel, hx]
        rw [Array.eraseIdxIfInBounds_eq, dif_pos hlt, Array.toList_eraseIdx, map_erase, map_erase, h2]
  have hr' := run_builtin2 (P := P) (w := w) (v := .tuple #[]) (w' := { w with heap := w.heap.setIfInBounds b (.map es' clock) }) hop (ha.ev hx) (ha.ev hy) (fun cs' => by simp only [builtin, Sem.run_bind, hrun, Result.andThen_ok, Sem.run_pure])
  simp only [wpPi, wpOp, nth_arr hi, hw a ha, if_true, Oper.wp, hr', Oper.upon, he]
  have hs' := St.setMap hs hj h1 hst' hes
  exact .inl ⟨hk.get hs', h _ _ ha hs'⟩
end
section
variable {P : Program} {n : Nat} {cx : Cx} {ρ : Hp} {E : Env} {L : Own} {o : Oper}
theorem Y.fieldAddrP {x : Operand} {s : TypeId} {f b off q : Nat} {fs : Array Field} {fd : Field} {m : Nat} (hop : o.op = .fieldAddr s x f) (hx : evE E x = some (.pointer (some ⟨b, off, none⟩))) (hT : P.underlying s = some (.struct fs)) (hf : nth fs.toList f = some fd)
    (hz : ∀ w, (sizeOf fd.type).run P w = .ok m w) (hm : m ≠ 0) (hq : off + fd.offset = q) : Y P n cx ρ E L o (.pointer (some ⟨b, q, none⟩)) := by
  subst hq
  have := Y.fieldAddr (n := n) (cx := cx) (ρ := ρ) (L := L) hop hx hT hf hz hm
  rw [add_mk] at this
  exact this
theorem Y.indexArrP {x y : Operand} {t e : TypeId} {k : IntKind} {j : Int} {b off : Nat} {l m q : Nat} (hop : o.op = .indexAddr t x y) (hx : evE E x = some (.pointer (some ⟨b, off, none⟩))) (hy : evE E y = some (.int k j)) (hT : P.underlying t = some (.array l e))
    (hz : ∀ w, (sizeOf e).run P w = .ok m w) (h0 : 0 ≤ j) (h1 : j < l) (hq : off + j.toNat * m = q) : Y P n cx ρ E L o (.pointer (some ⟨b, q, none⟩)) := by
  subst hq
  have := Y.indexArr (n := n) (cx := cx) (ρ := ρ) (L := L) hop hx hy hT hz h0 h1 rfl
  rw [add_mk] at this
  exact this
end
end Go.Proofs.Ytogkncmhonomdaa
set_option linter.unusedVariables false
set_option linter.unusedSimpArgs false
namespace Go.Proofs.Ytogkncmhonomdaa
open Go
def wpT (P : Program) (ops : Array Oper) (Q : Exit → Act → World → Prop) (S : World → Prop) (x : Nat) : Nat → Array Bool → Act → World → Prop
  | 0, listed, a, w => Region.ready .any ops listed = [] ∧ Q .normal a w
  | fuel + 1, listed, a, w => (Region.ready .any ops listed = [] → Q .normal a w) ∧
    ∀ i ∈ Region.ready .any ops listed, wpOp P ops Q i (fun a' w' => ((listed.setIfInBounds i true).getD x false = true ∨ S w') ∧ wpT P ops Q S x fuel (listed.setIfInBounds i true) a' w') a w
theorem wpT_any {P : Program} {ops : Array Oper} {Q : Exit → Act → World → Prop} {S : World → Prop} {x : Nat} : ∀ (fuel : Nat) (listed : Array Bool) (a : Act) (w : World), wpT P ops Q S x fuel listed a w → wpAny P .any ops Q fuel listed a w
  | 0, _, _, _, h => h
  | fuel + 1, _, _, _, h => And.intro h.1 fun i hi => wpOp_mono (fun a' w' h' => wpT_any fuel _ a' w' h'.2) (h.2 i hi)
theorem wpT_mono {P : Program} {ops : Array Oper} {Q : Exit → Act → World → Prop} {S S' : World → Prop} {x : Nat} (hm : ∀ w, S' w → S w) : ∀ (fuel : Nat) (listed : Array Bool) (a : Act) (w : World), wpT P ops Q S' x fuel listed a w → wpT P ops Q S x fuel listed a w
  | 0, _, _, _, h => h
  | fuel + 1, _, _, _, h => And.intro h.1 fun i hi => wpOp_mono (fun a' w' h' => ⟨h'.1.imp id (hm _), wpT_mono hm fuel _ a' w' h'.2⟩) (h.2 i hi)
theorem getD_keep {l : Array Bool} {i x : Nat} (h : l.getD x false = true) : (l.setIfInBounds i true).getD x false = true := by
  by_cases hix : i = x
  · subst hix
    have hlt : i < l.size := by
      rcases Nat.lt_or_ge i l.size with q | q
      · exact q
      · rw [Array.getD_eq_getD_getElem?, Array.getElem?_eq_none q] at h; simp at h
    rw [Array.getD_eq_getD_getElem?, Array.getElem?_setIfInBounds]; simp [hlt]
  · rw [getD_set_ne false hix]; exact h
theorem wpT_first {P : Program} {ops : Array Oper} {Q : Exit → Act → World → Prop} {S Y : World → Prop} {i x : Nat} {oi : Oper} {v : Value} (hi : ops[i]? = some oi) (hix : i ≠ x) (hsel : Region.noSelect ops = true) (hQ : ∀ c a w, Q (.panic c) (a.put oi.dst v) w → Q (.panic c) a w)
    (hY : (∀ w, Y w) ∨ ((∀ w, S w → Y w) ∧ ∃ f ox, ops[x]? = some ox ∧ cov ops f x i = true)) :
    ∀ (fuel : Nat) (listed : Array Bool) (a : Act) (w : World), Closed ops listed →
      (∀ j oj, ops[j]? = some oj → j ≠ i → listed.getD j true = false → (∀ e ∈ oj.after, Region.binds .any e = true → e.on ≠ i) → oi.apart ops oj = true) →
      i ∈ Region.ready .any ops listed → YieldsIf P ops Y oi v a → Y w → (listed.getD x false = true ∨ S w) → wpT P ops Q S x fuel (listed.setIfInBounds i true) (a.put oi.dst v) w → wpT P ops Q S x (fuel + 1) listed a w := by
  have sel := Region.noSelect_spec hsel
  intro fuel
  induction fuel with
  | zero =>
    intro listed a w _ _ hr hy hYw hS H
    refine ⟨fun h => ?_, fun j hj => ?_⟩
    · rw [h] at hr; cases hr
    rcases Decidable.em (j = i) with rfl | hji
    · exact hy.wpOp hi hYw ⟨hS.imp getD_keep id, H⟩
    · have := ready_mono hj hji
      rw [H.1] at this; cases this
  | succ fuel ih =>
    intro listed a w hc hfree hr hy hYw hS H
    refine ⟨fun h => ?_, fun j hj => ?_⟩
    · rw [h] at hr; cases hr
    rcases Decidable.em (j = i) with rfl | hji
    · exact hy.wpOp hi hYw ⟨hS.imp getD_keep id, H⟩
    · have h1 := H.2 j (ready_mono hj hji)
      obtain ⟨hjun, oj, hoj, hall⟩ := mem_ready.1 hj
      have hi0 := (mem_ready.1 hr).1
      have hilt : i < listed.size := by
        rcases Nat.lt_or_ge i listed.size with q | q
        · exact q
        · simp [Array.getElem?_eq_none q] at hi0
      have hnot : ∀ e ∈ oj.after, Region.binds .any e = true → e.on ≠ i := fun e he hb heq => by
        have h2 := hall e he hb
        rw [heq] at h2
        simp [hilt] at h2 hi0
        rw [hi0] at h2; cases h2
      have hiun : ∀ q, q ≠ i → (listed.setIfInBounds q true).getD i false = false := fun q hq => by
        rw [getD_set_ne false hq]
        rw [Array.getD_eq_getD_getElem?] at hi0 ⊢
        simp [hilt] at hi0 ⊢; exact hi0
      have h2 := wpOp_putIf hoj (hfree j oj hoj hji hjun hnot) (fun cs b => sel i oi cs b hi) (fun cs b => sel j oj cs b hoj) hQ hy h1
      refine wpOp_mono (fun a' w' h3 => ?_) h2
      obtain ⟨h4, h5, h6⟩ := h3
      have hcj := hc.set hj
      have h7 : (listed.setIfInBounds j true).getD x false = true ∨ S w' := by
        rcases h5 with h5 | h5
        · left
          rw [Array.setIfInBounds_comm _ _ (Ne.symm hji)] at h5
          rwa [getD_set_ne false hix] at h5
        · exact .inr h5
      have h8 : Y w' := by
        rcases hY with hY | ⟨hY, f, ox, hox, hcov⟩
        · exact hY w'
        · rcases h7 with h7 | h7
          · have := closed_cov hcj f x i ox hox (fun e he hb => hcj x ox hox h7 e he hb) hcov
            rw [hiun j hji] at this; cases this
          · exact hY w' h7
      refine ⟨h7, ih _ a' w' hcj (fun k ok hk hki hun hno => hfree k ok hk hki ?_ hno) (ready_mono hr (Ne.symm hji)) h4 h8 h7 ?_⟩
      · rcases Decidable.em (j = k) with rfl | hjk
        · exact hjun
        · rw [getD_set_ne true hjk] at hun; exact hun
      · rw [Array.setIfInBounds_comm _ _ hji]; exact h6
theorem wpOp_qn {P : Program} {ops : Array Oper} {N N' K : Act → World → Prop} {i : Nat} {a : Act} {w : World} (h : wpOp P ops (Qn N) i K a w) : wpOp P ops (Qn N') i K a w := by
  unfold wpOp at h ⊢
  cases ho : ops[i]? with
  | none => rw [ho] at h; exact h
  | some o =>
    rw [ho] at h
    simp only at h ⊢
    by_cases hw : Region.wanted o (yielded ops a.tmps) = true
    · rw [if_pos hw] at h ⊢
      rcases h with h | ⟨h1, a', w', h2⟩
      · left
        unfold Oper.wp at h ⊢
        cases hr : (execOp a.eval o).run P w with
        | ok nx w' => rw [hr] at h; cases nx <;> exact h
        | halt s w' => rw [hr] at h; cases s <;> exact h
      · exact h2.elim
    · rw [if_neg hw] at h ⊢; exact h
def wpPiP (P : Program) (ops : Array Oper) (N : Act → World → Prop) : List (Nat × Bool) → Act → World → Prop
  | [], a, w => N a w
  | (i, true) :: π, a, w => ∃ o v, ops[i]? = some o ∧ YieldsIf P ops (fun _ => True) o v a ∧ wpPiP P ops N π (a.put o.dst v) w
  | (i, false) :: π, a, w => wpOp P ops (Qn N) i (fun a' w' => wpPiP P ops N π a' w') a w
section
variable {P : Program} {ops : Array Oper} {N : Act → World → Prop}
theorem pi_sound2 (hs : Region.noSelect ops = true) {x : Nat} (S : World → Prop) : ∀ (π : List (Nat × Bool)) (listed : Array Bool) (a : Act) (w : World), Closed ops listed → (∀ p ∈ π, p.2 = true → p.1 ≠ x) →
    okPi ops π listed = true → (listed.getD x false = true ∨ ∃ π', π = (x, false) :: π') → (x < listed.size) → wpPiP P ops N π a w → wpT P ops (Qn N) S x π.length listed a w := by
  intro π
  induction π with
  | nil =>
    intro listed a w _ _ h _ _ hw
    exact ⟨by simpa [okPi] using h, hw⟩
  | cons p π ih =>
    obtain ⟨i, b⟩ := p
    intro listed a w hc hq h hx hxl hw
    cases b with
    | true =>
      simp only [okPi, Bool.and_eq_true] at h
      have hxd : listed.getD x false = true := by
        rcases hx with hx | ⟨π', e⟩
        · exact hx
        · injection e with e _; injection e with _ e; cases e
      obtain ⟨o, v, ho, hy, hk⟩ := hw
      have hmem : i ∈ Region.ready .any ops listed := by simpa using h.1.2
      have hne : i ≠ x := hq (i, true) (List.mem_cons_self ..) rfl
      exact wpT_first (Y := fun _ => True) ho hne hs (fun c a w hc => hc.elim) (.inl fun _ => trivial) _ _ _ _ hc (Region.free_spec ho h.1.1) hmem hy trivial (.inl hxd)
        (ih _ _ _ (hc.set hmem) (fun p hp => hq p (List.mem_cons_of_mem _ hp)) h.2 (.inl (getD_keep hxd)) (by simpa using hxl) hk)
    | false =>
      simp only [okPi, Bool.and_eq_true, beq_iff_eq] at h
      refine ⟨fun h0 => ?_, fun j hj => ?_⟩
      · rw [h.1] at h0; cases h0
      have hc' := hc.set hj
      rw [h.1] at hj
      simp at hj
      subst hj
      have hd : (listed.setIfInBounds j true).getD x false = true := by
        rcases hx with hx | ⟨π', e⟩
        · exact getD_keep hx
        · injection e with e _; injection e with e _; subst e
          rw [Array.getD_eq_getD_getElem?, Array.getElem?_setIfInBounds]; simp [hxl]
      exact wpOp_mono (fun a' w' h' => ⟨.inl hd, ih _ _ _ hc' (fun p hp => hq p (List.mem_cons_of_mem _ hp)) h.2 (.inl hd) (by simpa using hxl) h'⟩) hw
def lastQuiet : List (Nat × Bool) → Bool
  | [] => true
  | [(_, b)] => b
  | _ :: π => lastQuiet π
theorem pi_sound1 (hs : Region.noSelect ops = true) {x : Nat} {ox : Oper} (hox : ops[x]? = some ox) {π2 : List (Nat × Bool)} (hx2 : ∃ π', π2 = (x, false) :: π') (hq2 : ∀ p ∈ π2, p.2 = true → p.1 ≠ x) : ∀ (π : List (Nat × Bool)) (S : World → Prop) (listed : Array Bool) (a : Act) (w : World), Closed ops listed → lastQuiet π = true → (∀ p ∈ π, p.1 ≠ x ∧ cov ops 10 x p.1 = true) →
    okPi ops (π ++ π2) listed = true → S w → (x < listed.size) → wpPi P ops (wpPiP P ops N π2) S π a w → wpT P ops (Qn N) S x (π.length + π2.length) listed a w := by
  intro π
  induction π with
  | nil =>
    intro S listed a w hc _ _ h hS hxl hw
    rw [List.length_nil, Nat.zero_add]
    exact pi_sound2 hs S π2 listed a w hc hq2 h (.inr hx2) hxl hw
  | cons p π ih =>
    obtain ⟨i, b⟩ := p
    intro S listed a w hc hl hcv h hS hxl hw
    rw [List.length_cons, show π.length + 1 + π2.length = (π.length + π2.length) + 1 by omega]
    have hl' : lastQuiet π = true := by
      cases π with
      | nil => rfl
      | cons q π => exact hl
    cases b with
    | true =>
      rw [List.cons_append] at h
      simp only [okPi, Bool.and_eq_true] at h
      obtain ⟨S', hm, hSw', o, v, ho, hy, hk⟩ := hw
      have hSw' := hSw' hS
      have hmem : i ∈ Region.ready .any ops listed := by simpa using h.1.2
      obtain ⟨hne, hcov⟩ := hcv (i, true) (List.mem_cons_self ..)
      exact wpT_mono hm _ _ _ _ (wpT_first (Y := S') (S := S') ho hne hs (fun c a w hc => hc.elim) (.inr ⟨fun _ h => h, 10, ox, hox, hcov⟩) _ _ _ _ hc (Region.free_spec ho h.1.1) hmem hy hSw' (.inr hSw')
        (ih S' _ _ _ (hc.set hmem) hl' (fun p hp => hcv p (List.mem_cons_of_mem _ hp)) h.2 hSw' (by simpa using hxl) hk))
    | false =>
      rw [List.cons_append] at h
      simp only [okPi, Bool.and_eq_true, beq_iff_eq] at h
      refine ⟨fun h0 => ?_, fun j hj => ?_⟩
      · rw [h.1] at h0; cases h0
      have hc' := hc.set hj
      rw [h.1] at hj
      simp at hj
      subst hj
      refine wpOp_mono (fun a' w' h' => ?_) (wpOp_qn hw)
      obtain ⟨h1, h2⟩ := h'
      have h1 : S w' := by
        rcases h1 with q | q
        · subst q; cases hl
        · exact q
      exact ⟨.inr h1, ih S _ _ _ hc' hl' (fun p hp => hcv p (List.mem_cons_of_mem _ hp)) h.2 h1 (by simpa using hxl) h2⟩
theorem pi_sound0 (hs : Region.noSelect ops = true) {x : Nat} (S : World → Prop) {k : Nat} {rest : List (Nat × Bool)} {N1 : Act → World → Prop}
    (key : ∀ listed a w, Closed ops listed → okPi ops rest listed = true → x < listed.size → S w → N1 a w → wpT P ops (Qn N) S x k listed a w) : ∀ (π : List (Nat × Bool)) (listed : Array Bool) (a : Act) (w : World), Closed ops listed → (∀ p ∈ π, p.2 = true ∧ p.1 ≠ x) →
    okPi ops (π ++ rest) listed = true → S w → x < listed.size → wpPiP P ops N1 π a w → wpT P ops (Qn N) S x (π.length + k) listed a w := by
  intro π
  induction π with
  | nil =>
    intro listed a w hc _ h hS hxl hw
    rw [List.length_nil, Nat.zero_add]
    exact key listed a w hc h hxl hS hw
  | cons p π ih =>
    obtain ⟨i, b⟩ := p
    intro listed a w hc hq h hS hxl hw
    obtain ⟨hb, hne⟩ := hq (i, b) (List.mem_cons_self ..)
    dsimp only at hb hne
    subst hb
    rw [List.length_cons, show π.length + 1 + k = (π.length + k) + 1 by omega]
    rw [List.cons_append] at h
    simp only [okPi, Bool.and_eq_true] at h
    obtain ⟨o, v, ho, hy, hk⟩ := hw
    have hmem : i ∈ Region.ready .any ops listed := by simpa using h.1.2
    exact wpT_first (Y := fun _ => True) ho hne hs (fun c a w hc => hc.elim) (.inl fun _ => trivial) _ _ _ _ hc (Region.free_spec ho h.1.1) hmem hy trivial (.inr hS)
      (ih _ _ _ (hc.set hmem) (fun p hp => hq p (List.mem_cons_of_mem _ hp)) h.2 hS (by simpa using hxl) hk)
def okRegion3 (ops : Array Oper) (π0 π1 : List (Nat × Bool)) (x : Nat) (π2 : List (Nat × Bool)) : Bool :=
  Region.noSelect ops && ((π0 ++ (π1 ++ (x, false) :: π2)).length == ops.size) && lastQuiet π1 && (π1.all fun p => !(Nat.beq p.1 x) && cov ops 10 x p.1) && (π2.all fun p => !p.2 || !(Nat.beq p.1 x)) && (π0.all fun p => p.2 && !(Nat.beq p.1 x)) && okPi ops (π0 ++ (π1 ++ (x, false) :: π2)) (Array.replicate ops.size false) && decide (x < ops.size)
def okRegion2 (ops : Array Oper) (π1 : List (Nat × Bool)) (x : Nat) (π2 : List (Nat × Bool)) : Bool :=
  Region.noSelect ops && ((π1 ++ (x, false) :: π2).length == ops.size) && lastQuiet π1 && (π1.all fun p => !(Nat.beq p.1 x) && cov ops 10 x p.1) && (π2.all fun p => !p.2 || !(Nat.beq p.1 x)) && okPi ops (π1 ++ (x, false) :: π2) (Array.replicate ops.size false) && decide (x < ops.size)
end
section
variable {P : Program} {Q : Exit → Act → World → Prop} {n : Nat} {cx : Cx} {ρ ρs : Hp} {E E' : Env} {L L' Ls : Own} {ops : Array Oper} {S : World → Prop} {π : List (Nat × Bool)} {i : Nat} {o : Oper} {v : Value}
def Jp2 (P : Program) (ops : Array Oper) (Q : Exit → Act → World → Prop) (n : Nat) (cx : Cx) (π : List (Nat × Bool)) (ρ : Hp) (E : Env) (L : Own) : Prop :=
  ∀ a w, At n E a → St cx ρ L w → wpPiP P ops (Q .normal) π a w
def tailQ (P : Program) (ops : Array Oper) (Q : Exit → Act → World → Prop) (π : List (Nat × Bool)) : Exit → Act → World → Prop
  | .normal, a, w => wpPiP P ops (Q .normal) π a w
  | e, a, w => Q e a w
theorem Jp2.loud (h : Jp P ops (tailQ P ops Q π) (fun _ => True) n cx [(i, false)] ρ E L) : Jp2 P ops Q n cx ((i, false) :: π) ρ E L := fun a w ha hs =>
  wpOp_mono (K := fun a' w' => ([] = ([] : List (Nat × Bool)) ∨ True) ∧ wpPiP P ops (Q .normal) π a' w') (fun a' w' h' => h'.2) (wpOp_qn (h a w ha hs))
theorem Jp2.tail (h : Jp2 P ops Q n cx π ρ E L) : Jp P ops (tailQ P ops Q π) S n cx [] ρ E L := h
theorem Jp2.nil (h : Jp P ops Q (fun _ => True) n cx [] ρ E L) : Jp2 P ops Q n cx [] ρ E L := h
theorem St.any (w : World) : St ⟨w, fun _ => False, Hp.emp⟩ Hp.emp [] w := St.refl w _ _ fun b o e => by cases e
theorem Jp2.q (d : Nat) (hi : nth ops.toList i = some o) (hw : Want n ops E o true) (he : o.dst = some d) (hd : Nat.blt d n = true) (hy : ∀ cx, Y P n cx Hp.emp E [] o v)
    (h : Jp2 P ops Q n cx π ρ ((d, v) :: E) L) : Jp2 P ops Q n cx ((i, true) :: π) ρ E L :=
  fun a w ha hs => ⟨o, v, nth_arr hi, .inl ⟨hw a ha, fun w' _ => hy _ a w' ha (St.any w')⟩, h _ _ (ha.put' he hd v) hs⟩
theorem Jp2.split {c : Bool} (t : Nat) (ht : look E t = some (.bool c)) (h1 : c = true → Jp2 P ops Q n cx π ρ ((t, .bool true) :: E) L) (h2 : c = false → Jp2 P ops Q n cx π ρ ((t, .bool false) :: E) L) : Jp2 P ops Q n cx π ρ E L := by
  intro a w ha hs
  cases c with
  | true => exact h1 rfl a w ⟨ha.defers, ha.size, fun u x e => put_slot ha ht e⟩ hs
  | false => exact h2 rfl a w ⟨ha.defers, ha.size, fun u x e => put_slot ha ht e⟩ hs
theorem Jp2.slot {u u' : Value} (t : Nat) (ht : look E t = some u) (e : u = u') (h : Jp2 P ops Q n cx π ρ ((t, u') :: E) L) : Jp2 P ops Q n cx π ρ E L := by
  subst e
  exact fun a w ha hs => h a w ⟨ha.defers, ha.size, fun k x e => put_slot ha ht e⟩ hs
def headQ (P : Program) (ops : Array Oper) (Q : Exit → Act → World → Prop) (S : World → Prop) (π : List (Nat × Bool)) : Exit → Act → World → Prop
  | .normal, a, w => wpPi P ops (Q .normal) S π a w
  | e, a, w => Q e a w
theorem Jp2.head (h : Jp P ops Q S n cx π ρ E L) : Jp2 P ops (headQ P ops Q S π) n cx [] ρ E L := h
theorem Cd.drawn3 {id : Nat} {ops : Array Oper} (Ls : Own) (hL : Subl Ls L) (π0 π1 : List (Nat × Bool)) (x : Nat) (π2 : List (Nat × Bool)) (hm : P.follows .mixedOrders = true) (hok : okRegion3 ops π0 π1 x π2 = true)
    (h : Hp.le cx.r0 ρ → Jp2 P ops (headQ P ops (tailQ P ops Q ((x, false) :: π2)) (fun w => St cx ρ Ls w) π1) n cx π0 ρ E L) : Cd P Q n cx ρ E L (.region id ops true) := fun a w ha hs => by
  simp only [okRegion3, Bool.and_eq_true, beq_iff_eq, decide_eq_true_eq] at hok
  obtain ⟨⟨⟨⟨⟨⟨⟨h1, h2⟩, h3⟩, h4⟩, h5⟩, h8⟩, h6⟩, h7⟩ := hok
  have hox : ops[x]? = some ops[x] := by simp [h7]
  refine wp_mono (wp_region_any (Q := Qn (Q .normal)) hm (wpT_any (S := fun w => St cx ρ Ls w) (x := x) _ _ _ _ ?_)) (qn_mono fun _ _ h => h)
  have key1 := fun listed a w hc hok hxl hS hN => pi_sound1 (P := P) (N := Q .normal) h1 hox (π2 := (x, false) :: π2) ⟨π2, rfl⟩ (fun p hp hb => by
      rcases List.mem_cons.1 hp with rfl | hp
      · cases hb
      · have := List.all_eq_true.1 h5 p hp
        rw [hb] at this
        intro e
        rw [e] at this; simp at this) π1 (fun w => St cx ρ Ls w) listed a w hc h3
    (fun p hp => by
      have := List.all_eq_true.1 h4 p hp
      simp only [Bool.and_eq_true, Bool.not_eq_true'] at this
      exact ⟨fun e => by rw [e] at this; simp at this, this.2⟩) hok hS hxl hN
  have key := pi_sound0 (P := P) (N := Q .normal) h1 (x := x) (fun w => St cx ρ Ls w) key1 π0 (Array.replicate ops.size false) a _ (fun j o _ hl => by rw [Array.getD_eq_getD_getElem?, Array.getElem?_replicate] at hl; split at hl <;> simp at hl)
    (fun p hp => by
      have := List.all_eq_true.1 h8 p hp
      simp only [Bool.and_eq_true, Bool.not_eq_true'] at this
      exact ⟨this.1, fun e => by rw [e] at this; simp at this⟩) h6 (hs.drew.sub hL) (by simpa using h7) (h hs.rle a _ ha hs.drew)
  rw [List.length_append, List.length_append] at h2
  rw [h2] at key
  exact key
end
theorem OwnS.hasC {e : TypeId} {m k c q : Nat} {ad : Addr} {cs : List Value} {v : Value} (hv : cs[q]? = some v) : HasC (OwnS e m (some ad) k c cs) (ad.add q) v := fun h hh => by
  obtain ⟨ad', e1, e2⟩ := hh.rd.2.2 q v hv
  injection e1 with e1
  subst e1
  exact e2
end Go.Proofs.Ytogkncmhonomdaa
set_option linter.unusedVariables false
set_option linter.unusedSimpArgs false
namespace Go.Proofs.Ytogkncmhonomdaa
open Go
def ValOnly (o : Oper) : Prop := (∀ c, o.op ≠ .defer c) ∧ ∀ ev P w nx w', (execOp ev o).run P w = .ok nx w' → (∃ v, nx = .value v) ∨ nx = .skip
def Yields (P : Program) (l : Nat) (J : List Value → HProp) (ok : List Value → Prop) : Prop :=
  ∀ seen k, ok (seen ++ [k]) → ∀ w M ρ, St ⟨w, M, ρ⟩ ρ [(0, J seen)] w → ∃ r : Loop, w.heap[l]? = some (.loop r) ∧ r.params.size = 1 ∧
    ∀ m, RoundIn Fence.wide m P l r.fn ((r.params.zip #[k]).foldl (fun tmps (t, a) => tmps.setIfInBounds t a) r.tmps) r.assign r.body w
      fun e w' => ∃ ρ', e = .returned (.bool true) ∧ St ⟨w, M, ρ⟩ ρ' [(0, J (seen ++ [k]))] w'
theorem opsIn_y {P : Program} {ops : Array Oper} {F : Fence} {m : Nat} {Q : Exit → Act → World → Prop} (hF : ∀ f, F.fn f) {i : Nat} {rest : List Nat} {o : Oper} {a : Act} {w w' : World} {v : Value} (hi : nth ops.toList i = some o) (hg : o.guard = none) (hnd : ∀ c, o.op ≠ .defer c)
    (hr : (execOp a.eval o).run P w = .ok (.value v) w') (h : wpOpsIn F m P ops Q rest (a.put o.dst v) w') : wpOpsIn F m P ops Q (i :: rest) a w := by
  have hw : Region.wanted o (yielded ops a.tmps) = true := by simp [Region.wanted, hg]
  simp only [wpOpsIn, nth_arr hi]
  rw [if_pos hw]
  refine ⟨fun f _ => hF f, ?_⟩
  rw [Oper.semAt_eq _ _ _ hnd, hr]; exact h
theorem opsIn_round {P : Program} {ops : Array Oper} {F : Fence} {m : Nat} {Q : Exit → Act → World → Prop} (hF : ∀ f, F.fn f) (hdep : F.depth = none) {i l : Nat} {rest : List Nat} {o : Oper} {a : Act} {w w' : World} {f : FuncId} {tmps : Array Value} {A B : Code} {R : Ending → World → Prop} (hi : nth ops.toList i = some o) (hg : o.guard = none) (hnd : ∀ c, o.op ≠ .defer c)
    (hr : (execOp a.eval o).run P w = .ok (.round l f tmps A B) w') (h : RoundIn F (m - 1) P l f tmps A B w' R) (hR : ∀ e w'', R e w'' → ∃ v, e = .returned v ∧ wpOpsIn F m P ops Q rest (a.put o.dst v) w'') : wpOpsIn F m P ops Q (i :: rest) a w := by
  have hw : Region.wanted o (yielded ops a.tmps) = true := by simp [Region.wanted, hg]
  simp only [wpOpsIn, nth_arr hi]
  rw [if_pos hw]
  refine ⟨fun f _ => hF f, ?_⟩
  rw [Oper.semAt_eq _ _ _ hnd, hr]
  refine ⟨fun hd => (by rw [hdep] at hd; cases hd), h.mono ?_⟩
  intro e w'' hre
  obtain ⟨v, rfl, h2⟩ := hR e w'' hre
  exact h2
section
variable {P : Program} {n : Nat} {cx : Cx} {ρ : Hp} {E : Env} {L : Own} {Q : Exit → Act → World → Prop}
theorem Cd.yield (j : Nat) {id l d0 d1 d2 d3 t3 ty0 ty1 ty2 ty3 : Nat} {at0 : TypeId} {x y : Operand} {k : Value} {seen : List Value} {J : List Value → HProp} {ok : List Value → Prop} {p0 p1 p2 p3 : String} {e0 e1 e2 e3 : Array Edge}
    (hx : evE E x = some (.func (.yield l) #[] #[])) (hy : evE ((d0, .func (.yield l) #[] #[]) :: E) y = some k) (hd0 : Nat.blt d0 n = true) (hd1 : Nat.blt d1 n = true) (hd2 : Nat.blt d2 n = true) (hd3 : Nat.blt d3 n = true) (hne : ¬ d1 = d0)
    (hj : look L j = some (J seen)) (hY : Yields P l J ok) (hok : ok (seen ++ [k]))
    (h : ∀ ρ', Hp.le ρ ρ' → Jp P #[] Q (fun _ => True) n cx [] ρ' ((d3, .bool false) :: (d2, .bool true) :: (d1, k) :: (d0, .func (.yield l) #[] #[]) :: E) ((j, J (seen ++ [k])) :: (j, Emp) :: L)) :
    Cd P Q n cx ρ E L (.region id #[{ dst := some d0, op := .move x, type := ty0, pos := p0, after := e0, guard := none }, { dst := some d1, op := .move y, type := ty1, pos := p1, after := e1, guard := none },
      { dst := some d2, op := .call { callee := .value (.tmp d0), args := #[.tmp d1], argTypes := #[at0] }, type := ty2, pos := p2, after := e2, guard := none }, { dst := some d3, op := .unOp .not t3 (.tmp d2), type := ty3, pos := p3, after := e3, guard := none }] false) := by
  intro a w ha hs
  refine (wpIn_wide (n := 1)).1 (wpIn_mono (wpIn_region (Q := Qn (Q .normal)) ?_) (qn_mono fun _ _ h => h))
  have hW : ∀ f, Fence.wide.fn f := fun _ => trivial
  obtain ⟨M', hh, hback⟩ := hs.call [j] [j] (by simp) (by simp)
  have hh' : St ⟨w, M', ρ⟩ ρ [(0, J seen)] w := by
    have e : hand L 0 [j] = [(0, J seen)] := by simp [hand, hj]
    rw [e] at hh; exact hh
  obtain ⟨r, hr, hrp, hround⟩ := hY seen k hok w M' ρ hh'
  have a1 := ha.put' (dst := some d0) rfl hd0 (.func (.yield l) #[] #[])
  have a2 := a1.put' (dst := some d1) rfl hd1 k
  show wpOpsIn Fence.wide 1 P _ _ [0, 1, 2, 3] a w
  refine opsIn_y hW (v := .func (.yield l) #[] #[]) rfl rfl (fun c h => by cases h) (Y.move (n := n) (cx := cx) (ρ := ρ) (L := L) rfl hx a w ha hs) ?_
  refine opsIn_y hW (v := k) rfl rfl (fun c h => by cases h) (Y.move (n := n) (cx := cx) (ρ := ρ) (L := L) rfl hy _ w a1 hs) ?_
  have h0 : ((a.put (some d0) (.func (.yield l) #[] #[])).put (some d1) k).eval (.tmp d0) = .func (.yield l) #[] #[] := a2.ev (x := .tmp d0) (by simp only [evE]; rw [look_cons, if_neg hne, look_cons, if_pos rfl])
  have h1 : ((a.put (some d0) (.func (.yield l) #[] #[])).put (some d1) k).eval (.tmp d1) = k := a2.ev (x := .tmp d1) (by simp only [evE]; rw [look_cons, if_pos rfl])
  have hrun : (execOp ((a.put (some d0) (.func (.yield l) #[] #[])).put (some d1) k).eval { dst := some d2, op := .call { callee := .value (.tmp d0), args := #[.tmp d1], argTypes := #[at0] }, type := ty2, pos := p2, after := e2, guard := none }).run P w =
      .ok (.round l r.fn ((r.params.zip #[k]).foldl (fun tmps (t, a) => tmps.setIfInBounds t a) r.tmps) r.assign r.body) w := by
    have hy2 := run_yield (P := P) (args := #[k]) hr (by simp [hrp])
    simp only [execOp, resolve, List.map_toArray, List.map_cons, List.map_nil, h0, h1, Deferred.ofValue, Sem.run_bind, Sem.run_pure, Result.andThen_ok, invoke]
    simpa using hy2
  refine opsIn_round hW rfl (i := 2) (rest := [3]) (o := { dst := some d2, op := .call { callee := .value (.tmp d0), args := #[.tmp d1], argTypes := #[at0] }, type := ty2, pos := p2, after := e2, guard := none }) rfl rfl (fun c h => by cases h) hrun (hround _) ?_
  rintro e w' ⟨ρ', rfl, hst'⟩
  have hst2 := hback w' ρ' [(0, J (seen ++ [k]))] (by simp) hst'
  have hle : Hp.le ρ ρ' := hst'.rle
  have a3 := a2.put' (dst := some d2) rfl hd2 (.bool true)
  refine ⟨_, rfl, ?_⟩
  refine opsIn_y hW (i := 3) (rest := []) (o := { dst := some d3, op := .unOp .not t3 (.tmp d2), type := ty3, pos := p3, after := e3, guard := none }) (v := .bool false) rfl rfl (fun c h => by cases h) (Y.not (n := n) (cx := cx) (ρ := ρ') (L := back [j] [(0, J (seen ++ [k]))] ++ (gone [j] ++ L)) (x := .tmp d2) rfl (by simp only [evE]; rw [look_cons, if_pos rfl]) _ w' a3 hst2) ?_
  exact h ρ' hle _ w' (a3.put' rfl hd3 _) (by simpa [back, gone] using hst2)
end
end Go.Proofs.Ytogkncmhonomdaa
set_option linter.unusedVariables false
set_option linter.unusedSimpArgs false
namespace Go.Proofs.Ytogkncmhonomdaa
open Go
section
variable {α β : Type}
def gget : List (Int × α) → Int → Option α
  | [], _ => none
  | (x, v) :: m, k => if k = x then some v else gget m k
def gset : List (Int × α) → Int → α → List (Int × α)
  | [], k, v => [(k, v)]
  | (x, u) :: m, k, v => if k = x then (k, v) :: m else (x, u) :: gset m k v
def gdel : List (Int × α) → Int → List (Int × α)
  | [], _ => []
  | (x, u) :: m, k => if k = x then m else (x, u) :: gdel m k
def gmap (f : α → β) (m : List (Int × α)) : List (Int × β) := m.map fun x => (x.1, f x.2)
theorem gmap_length (f : α → β) (m : List (Int × α)) : (gmap f m).length = m.length := by simp [gmap]
theorem gget_gmap (f : α → β) : ∀ (m : List (Int × α)) (k : Int), gget (gmap f m) k = (gget m k).map f
  | [], _ => rfl
  | (x, v) :: m, k => by
    show (if k = x then some (f v) else gget (gmap f m) k) = _
    rw [gget_gmap f m k, gget]; split <;> rfl
theorem gset_gmap (f : α → β) : ∀ (m : List (Int × α)) (k : Int) (v : α), gset (gmap f m) k (f v) = gmap f (gset m k v)
  | [], _, _ => rfl
  | (x, u) :: m, k, v => by
    show (if k = x then (k, f v) :: gmap f m else (x, f u) :: gset (gmap f m) k (f v)) = _
    rw [gset_gmap f m k v, gset]; split <;> rfl
theorem gdel_gmap (f : α → β) : ∀ (m : List (Int × α)) (k : Int), gdel (gmap f m) k = gmap f (gdel m k)
  | [], _ => rfl
  | (x, u) :: m, k => by
    show (if k = x then gmap f m else (x, f u) :: gdel (gmap f m) k) = _
    rw [gdel_gmap f m k, gdel]; split <;> rfl
theorem gget_mem : ∀ {m : List (Int × α)} {k : Int} {v : α}, gget m k = some v → (k, v) ∈ m
  | (x, u) :: m, k, v, h => by
    rw [gget] at h
    split at h
    · rename_i e; injection h with h; subst h e; exact List.mem_cons_self
    · exact List.mem_cons_of_mem _ (gget_mem h)
theorem gget_gset : ∀ (m : List (Int × α)) (k : Int) (v : α) (j : Int), gget (gset m k v) j = if j = k then some v else gget m j
  | [], k, v, j => by simp [gset, gget]
  | (x, u) :: m, k, v, j => by
    rw [gset]
    split
    · rename_i e; subst e; rw [gget, gget]; split <;> rfl
    · rename_i e
      rw [gget, gget_gset m k v j, gget]
      by_cases h1 : j = x
      · subst h1; rw [if_pos rfl, if_pos rfl, if_neg (fun h => e h.symm)]
      · rw [if_neg h1, if_neg h1]
theorem gset_mem : ∀ {m : List (Int × α)} {k : Int} {v : α} {x : Int × α}, x ∈ gset m k v → x = (k, v) ∨ x ∈ m
  | [], k, v, x, h => by simp [gset] at h; exact .inl h
  | (y, u) :: m, k, v, x, h => by
    rw [gset] at h
    split at h
    · rcases List.mem_cons.1 h with h | h
      · exact .inl h
      · exact .inr (List.mem_cons_of_mem _ h)
    · rcases List.mem_cons.1 h with h | h
      · exact .inr (h ▸ List.mem_cons_self)
      · rcases gset_mem h with h | h
        · exact .inl h
        · exact .inr (List.mem_cons_of_mem _ h)
theorem gdel_mem : ∀ {m : List (Int × α)} {k : Int} {x : Int × α}, x ∈ gdel m k → x ∈ m
  | (y, u) :: m, k, x, h => by
    rw [gdel] at h
    split at h
    · exact List.mem_cons_of_mem _ h
    · rcases List.mem_cons.1 h with h | h
      · exact h ▸ List.mem_cons_self
      · exact List.mem_cons_of_mem _ (gdel_mem h)
theorem gget_none {m : List (Int × α)} {k : Int} : gget m k = none ↔ k ∉ m.map (·.1) := by
  induction m with
  | nil => simp [gget]
  | cons x m ih =>
    obtain ⟨x, u⟩ := x
    rw [gget]
    by_cases h : k = x
    · subst h; simp
    · rw [if_neg h, ih]; simp [h]
theorem gset_keys : ∀ (m : List (Int × α)) (k : Int) (v : α), (gset m k v).map (·.1) = if (gget m k).isSome then m.map (·.1) else m.map (·.1) ++ [k]
  | [], k, v => rfl
  | (x, u) :: m, k, v => by
    rw [gset, gget]
    by_cases h : k = x
    · subst h; simp
    · rw [if_neg h, if_neg h]
      have := gset_keys m k v
      simp only [List.map_cons, this]
      split <;> simp
theorem gset_length (m : List (Int × α)) (k : Int) (v : α) : (gset m k v).length = if (gget m k).isSome then m.length else m.length + 1 := by
  have h := congrArg List.length (gset_keys m k v)
  rw [List.length_map] at h
  rw [h]; split <;> simp
theorem gdel_keys : ∀ (m : List (Int × α)) (k : Int), (gdel m k).map (·.1) = (m.map (·.1)).erase k
  | [], k => rfl
  | (x, u) :: m, k => by
    rw [gdel]
    by_cases h : k = x
    · subst h; simp
    · rw [if_neg h]
      simp only [List.map_cons, gdel_keys m k]
      rw [List.erase_cons_tail (by simpa using fun e => h e.symm)]
theorem gget_gdel {m : List (Int × α)} (hn : (m.map (·.1)).Nodup) (k j : Int) : gget (gdel m k) j = if j = k then none else gget m j := by
  induction m with
  | nil => simp [gdel, gget]
  | cons x m ih =>
    obtain ⟨x, u⟩ := x
    rw [List.map_cons, List.nodup_cons] at hn
    rw [gdel]
    by_cases h : k = x
    · subst h
      rw [if_pos rfl, gget]
      by_cases hj : j = k
      · subst hj; rw [if_pos rfl]; exact gget_none.2 hn.1
      · rw [if_neg hj, if_neg hj]
    · rw [if_neg h, gget, ih hn.2, gget]
      by_cases hj : j = x
      · subst hj; rw [if_pos rfl, if_pos rfl, if_neg (fun e => h e.symm)]
      · rw [if_neg hj, if_neg hj]
theorem gset_nodup {m : List (Int × α)} (hn : (m.map (·.1)).Nodup) (k : Int) (v : α) : ((gset m k v).map (·.1)).Nodup := by
  rw [gset_keys]
  split
  · exact hn
  · rename_i h
    have h1 : gget m k = none := by simpa using h
    rw [List.nodup_append]
    refine ⟨hn, by simp, fun a ha b hb => ?_⟩
    simp at hb; subst hb
    exact fun e => gget_none.1 h1 (e ▸ ha)
theorem gdel_nodup {m : List (Int × α)} (hn : (m.map (·.1)).Nodup) (k : Int) : ((gdel m k).map (·.1)).Nodup := by rw [gdel_keys]; exact hn.erase k
theorem gdel_length {m : List (Int × α)} {k : Int} (h : (gget m k).isSome) : (gdel m k).length + 1 = m.length := by
  have h1 := congrArg List.length (gdel_keys m k)
  have hm : k ∈ m.map (·.1) := by
    refine Decidable.byContradiction fun hc => ?_
    rw [gget_none.2 hc] at h; cases h
  rw [List.length_map, List.length_erase_of_mem hm, List.length_map] at h1
  have : 0 < m.length := by
    have := List.length_pos_of_mem hm
    rwa [List.length_map] at this
  omega
theorem range_keys : ∀ (k : Nat) (K : List Int), (∀ j : Nat, j < k → (j : Int) ∈ K) → k ≤ K.length
  | 0, _, _ => Nat.zero_le _
  | k + 1, K, h => by
    have h1 := h k (Nat.lt_succ_self k)
    have h2 := range_keys k (K.erase (k : Int)) fun j hj => (List.mem_erase_of_ne (by omega)).2 (h j (by omega))
    rw [List.length_erase_of_mem h1] at h2
    have := List.length_pos_of_mem h1
    omega
end
theorem mget_eq : ∀ (m : MapL) (k : Int), mget m k = gget m k
  | [], _ => rfl
  | (x, v) :: m, k => by rw [mget_cons, mget_eq m k, gget]
theorem mset_cons (x : Int) (u : Value) (m : MapL) (k : Int) (v : Value) : mset ((x, u) :: m) k v = if k = x then (k, v) :: m else (x, u) :: mset m k v := by
  simp only [mset, findI]
  by_cases h : k = x
  · subst h; simp
  · have h' : (k == x) = false := by simpa using h
    rw [if_neg h]
    simp only [h', findI_shift]
    cases hf : findI k m 0 with
    | none => simp
    | some p => simp
theorem mset_eq : ∀ (m : MapL) (k : Int) (v : Value), mset m k v = gset m k v
  | [], _, _ => rfl
  | (x, u) :: m, k, v => by rw [mset_cons, mset_eq m k v, gset]
theorem mdel_cons (x : Int) (u : Value) (m : MapL) (k : Int) : mdel ((x, u) :: m) k = if k = x then m else (x, u) :: mdel m k := by
  simp only [mdel, findI]
  by_cases h : k = x
  · subst h; simp
  · have h' : (k == x) = false := by simpa using h
    rw [if_neg h]
    simp only [h', findI_shift]
    cases hf : findI k m 0 with
    | none => simp
    | some p => simp
theorem mdel_eqG : ∀ (m : MapL) (k : Int), mdel m k = gdel m k
  | [], _ => rfl
  | (x, u) :: m, k => by rw [mdel_cons, mdel_eqG m k, gdel]
section
variable {α : Type}
theorem mget_gmap (f : α → Value) (m : List (Int × α)) (k : Int) : mget (gmap f m) k = (gget m k).map f := by rw [mget_eq, gget_gmap]
theorem mset_gmap (f : α → Value) (m : List (Int × α)) (k : Int) (v : α) : mset (gmap f m) k (f v) = gmap f (gset m k v) := by rw [mset_eq, gset_gmap]
theorem mdel_gmap (f : α → Value) (m : List (Int × α)) (k : Int) : mdel (gmap f m) k = gmap f (gdel m k) := by rw [mdel_eqG, gdel_gmap]
end
section
variable {P : Program} {n : Nat} {cx : Cx} {ρ : Hp} {E : Env} {L : Own} {o : Oper}
theorem Y.array {t e : TypeId} {len m : Nat} {parts : List (Nat × Operand)} {z : Value} (pv : List (Nat × Value)) (cells : List Value) (hop : o.op = .build t parts.toArray) (hp : parts.map (fun p => (p.1, evE E p.2)) = pv.map (fun p => (p.1, some p.2)))
    (hT : P.underlying t = some (.array len e)) (hz : ∀ w, (sizeOf e).run P w = .ok m w) (hzero : ∀ w, (zeroValue t).run P w = .ok z w) (hfill' : fillL (fun i => some (i * m, m)) z.cells.toList pv = some cells) : Y P n cx ρ E L o (.agg cells.toArray) := by
  refine Y.build hop hp fun w => ?_
  have hfill := fillL_eq _ _ _ _ hfill'
  simp only [Instr.build, Sem.run_bind, hzero, Result.andThen_ok, run_underlying hT, hz, hfill, Sem.run_pure]
theorem Y.indexV {x y : Operand} {t e : TypeId} {len m : Nat} {cs : Array Value} {k : IntKind} {i : Int} {v : Value} (hop : o.op = .index t x y) (hT : P.underlying t = some (.array len e)) (hz : ∀ w, (sizeOf e).run P w = .ok m w) (hA : ∀ w, (isAgg e).run P w = .ok false w)
    (hx : evE E x = some (.agg cs)) (hy : evE E y = some (.int k i)) (h0 : 0 ≤ i) (h1 : i < len) (hv : cs[i.toNat * m]? = some v) : Y P n cx ρ E L o v := fun ac w ha _ => by
  have hi : (asIntOf (.int k i)).run P w = .ok (k, i) w := rfl
  simp only [execOp, hop, ha.ev hx, ha.ev hy, Instr.index, Sem.run_bind, hi, Result.andThen_ok, run_underlying hT, if_pos (And.intro h0 h1), hz, part, run_isAgg hA, Bool.false_eq_true, if_false, hv, Sem.run_pure]
end
end Go.Proofs.Ytogkncmhonomdaa
set_option linter.unusedVariables false
set_option linter.unusedSimpArgs false
namespace Go.Proofs.Ytogkncmhonomdaa
open Go
section
variable {P : Program} {n : Nat} {cx : Cx} {ρ : Hp} {E : Env} {L : Own} {o : Oper} {ops : Array Oper} {Q : Exit → Act → World → Prop} {S' : World → Prop} {π : List (Nat × Bool)} {i : Nat}
theorem Jp.mark (d j : Nat) {x : Operand} {t e : TypeId} {m k c b : Nat} {cs : List Value} (hi : nth ops.toList i = some o) (hw : Want n ops E o true) (he : o.dst = some d) (hd : Nat.blt d n = true)
    (hop : o.op = .convert t t x) (hT : P.underlying t = some (.slice e)) (hE : P.underlying e = some (.int .u8)) (hx : evE E x = some (.slice (some ⟨b, 0, none⟩) k c)) (hj : look L j = some (OwnS e m (some ⟨b, 0, none⟩) k c cs))
    (hk : Kp π S' cx ρ ((j, RdS m (some ⟨b, 0, none⟩) k c cs) :: L)) (h : Jp P ops Q S' n cx π ρ ((d, .slice (some ⟨b, 0, none⟩) k c) :: E) ((j, RdS m (some ⟨b, 0, none⟩) k c cs) :: L)) : Jp P ops Q S' n cx ((i, false) :: π) ρ E L := by
  intro a w ha hs
  obtain ⟨hh, hA, hhw⟩ := hs.get hj
  rcases hA.2 with ⟨h1, _, _⟩ | ⟨b', cur, fr, h1, hb, hsz, hkc, hget, hnf⟩
  · cases h1
  · injection h1 with h1
    injection h1 with h1 _
    subst h1
    have hbw := hhw _ _ hb
    obtain ⟨lo, hi'⟩ := fr
    obtain ⟨fr', hfr'⟩ : ∃ fr' : Nat × Nat, fr' = (if lo == hi' then (cur.size, cur.size + 1) else (min lo cur.size, max hi' (cur.size + 1))) := ⟨_, rfl⟩
    obtain ⟨w', hw'⟩ : ∃ w' : World, w' = w.freeze ⟨b, cur.size, none⟩ 1 := ⟨_, rfl⟩
    have hheap : w'.heap = w.heap.modify b fun | .cells c elem (lo, hi) => .cells c elem (if lo == hi then (cur.size, cur.size + 1) else (min lo cur.size, max hi (cur.size + 1))) | o => o := by
      rw [hw', World.freeze]; rfl
    have hlt := lt_of_heap hbw
    have g1 : w'.heap[b]? = some (.cells cur e fr') := by
      rw [hheap, Array.getElem?_modify, if_pos rfl, hbw, hfr']; rfl
    have g2 : ∀ p, p ≠ b → w'.heap[p]? = w.heap[p]? := fun p hp => by rw [hheap, Array.getElem?_modify, if_neg (Ne.symm hp)]
    have g3 : w'.heap.size = w.heap.size := by rw [hheap, Array.size_modify]
    have hs' : St cx ρ ((j, RdS m (some ⟨b, 0, none⟩) k c cs) :: L) w' := by
      refine hs.setA hj (b := b) (ob := .cells cur e (lo, hi')) (ob' := .cells cur e fr') (fun h' hh' hw2 => ?_) (fun h' hb' => ?_) g1 g2 g3 (by rw [hw']; rfl) (by rw [hw']; rfl) (by rw [hw']; rfl)
      · rcases hh'.2 with ⟨q, _, _⟩ | ⟨b2, cur2, fr2, q, hb2, _⟩
        · cases q
        · injection q with q
          injection q with q _
          subst q
          have := hw2 _ _ hb2
          rw [hbw] at this
          rw [hb2, ← this]
      · refine ⟨hA.1.1, ⟨hkc, hA.1.2⟩, fun q v hq => ⟨_, rfl, ?_⟩⟩
        have hql := (List.getElem?_eq_some_iff.1 hq).1
        rw [hA.1.1] at hql
        rw [add_mk, Nat.zero_add]
        simp only [cellH, hb']
        have h2 := hget q hql
        rw [hq] at h2
        exact h2
    have hr : (execOp a.eval o).run P w = .ok (.value (.slice (some ⟨b, 0, none⟩) k c)) w' := by
      have hsh : w.shape? b = some (e, cur.size) := by rw [World.shape?, hbw]
      simp only [execOp, hop, ha.ev hx, convert, Sem.run_bind, run_underlying hT, Result.andThen_ok, beq_self_eq_true, run_underlying hE, markStringish, shape, Go.freeze, Sem.run, hsh, Sem.run_pure, ← hw']
    simp only [wpPi, wpOp, nth_arr hi, hw a ha, if_true, Oper.wp, hr, Oper.upon]
    exact .inl ⟨hk.get hs', h _ _ (ha.put' he hd _) hs'⟩
theorem Jp.bytes (d j : Nat) {x : Operand} {st t e : TypeId} {v : ByteArray} (hi : nth ops.toList i = some o) (hw : Want n ops E o true) (he : o.dst = some d) (hd : Nat.blt d n = true)
    (hop : o.op = .convert st t x) (hS : P.underlying st = some .string) (hT : P.underlying t = some (.slice e)) (hE : P.underlying e = some (.int .u8)) (hx : evE E x = some (.string v)) (hsz : v.size ≤ 281474976710656)
    (h : ∀ b c, Kp π S' cx ρ ((j, RdS 1 (some ⟨b, 0, none⟩) v.size c (bytesV (str v))) :: L) ∧ Jp P ops Q S' n cx π ρ ((d, .slice (some ⟨b, 0, none⟩) v.size c) :: E) ((j, RdS 1 (some ⟨b, 0, none⟩) v.size c (bytesV (str v))) :: L)) : Jp P ops Q S' n cx ((i, false) :: π) ρ E L := by
  intro a w ha hs
  obtain ⟨c, hc⟩ : ∃ c : Nat, c = (Question.appendCap v.size 0 e).cut (w.tape w.drawn (Question.appendCap v.size 0 e)) := ⟨_, rfl⟩
  have hcv : v.size ≤ c := by rw [hc]; simp [Question.cut]
  obtain ⟨h1, h2⟩ := h w.heap.size c
  obtain ⟨cur, hcur⟩ : ∃ cur : Array Value, cur = v.data.map (fun b => Value.int .u8 b.toNat) ++ Array.replicate (c - v.size) (.int .u8 0) := ⟨_, rfl⟩
  obtain ⟨w1, hw1⟩ : ∃ w1 : World, w1 = { w with drawn := w.drawn + 1, heap := w.heap.push (.cells cur e) } := ⟨_, rfl⟩
  have hsh : w1.shape? w.heap.size = some (e, cur.size) := by rw [World.shape?, hw1]; simp
  obtain ⟨w', hw'⟩ : ∃ w' : World, w' = w1.freeze ⟨w.heap.size, cur.size, none⟩ 1 := ⟨_, rfl⟩
  have hheap : w'.heap = w.heap.push (.cells cur e (cur.size, cur.size + 1)) := by
    rw [hw', World.freeze, hw1]
    apply Array.ext_getElem?
    intro p
    simp only [Nat.succ_ne_zero, if_false, Array.getElem?_modify, Array.getElem?_push]
    by_cases hp : w.heap.size = p
    · subst hp; simp
    · rw [if_neg hp]
      split
      · rename_i q; exact absurd q.symm hp
      · rfl
  have hr : (execOp a.eval o).run P w = .ok (.value (.slice (some ⟨w.heap.size, 0, none⟩) v.size c)) w' := by
    simp only [execOp, hop, ha.ev hx, convert, Sem.run_bind, run_underlying hS, run_underlying hT, Result.andThen_ok, run_underlying hE, Conv.stringToBytes, choose, Sem.run, Question.forced, ← hc, newRow, newObj, markStringish, shape, Go.freeze, Bool.false_eq_true, if_false, ← hcur]
    simp only [← hw1, hsh, Sem.run, Sem.run_pure, Result.andThen_ok, ← hw']
  have hs' : St cx ρ ((j, RdS 1 (some ⟨w.heap.size, 0, none⟩) v.size c (bytesV (str v))) :: L) w' := by
    have h3 := (hs.drawn (w.drawn + 1)).allocA j (A := RdS 1 (some ⟨w.heap.size, 0, none⟩) v.size c (bytesV (str v))) (.cells cur e (cur.size, cur.size + 1)) fun h' hh' => by
      refine ⟨by simp [bytesV, str], ⟨hcv, hsz⟩, fun q u hq => ⟨_, rfl, ?_⟩⟩
      rw [add_mk, Nat.zero_add]
      have hh'' : h' w.heap.size = some (.cells cur e (cur.size, cur.size + 1)) := hh'
      simp only [cellH, hh'']
      rw [bytesV, List.getElem?_map] at hq
      obtain ⟨y, hy, rfl⟩ := Option.map_eq_some_iff.1 hq
      rw [str, Array.getElem?_toList] at hy
      have hlt := (Array.getElem?_eq_some_iff.1 hy).1
      have : cur[q]? = some (.int .u8 y.toNat) := by
        rw [hcur, Array.getElem?_append_left (by simpa using hlt), Array.getElem?_map, hy]; rfl
      exact this
    have e1 : w' = { { w with drawn := w.drawn + 1 } with heap := w.heap.push (.cells cur e (cur.size, cur.size + 1)) } := by
      have : w' = { w1 with heap := w'.heap } := by rw [hw', World.freeze]; rfl
      rw [this, hheap, hw1]
    rw [e1]; exact h3
  simp only [wpPi, wpOp, nth_arr hi, hw a ha, if_true, Oper.wp, hr, Oper.upon]
  exact .inl ⟨h1.get hs', h2 _ _ (ha.put' he hd _) hs'⟩
end
end Go.Proofs.Ytogkncmhonomdaa
set_option linter.unusedVariables false
set_option linter.unusedSimpArgs false
namespace Go.Proofs.Ytogkncmhonomdaa
open Go Go.ChangeShapes Go.WideShapes Go.ChangeAt Go.RowKit
def whole (w : World) : Hp := fun b => w.heap[b]?
theorem cellH_whole {w : World} {a : Addr} {v : Value} (h : w.cell? a = some v) : cellH (whole w) a = some v := h
def Rdd (P : Program) (w : World) (t : TypeId) (cs : List Value) : Prop :=
  ∃ (H : Type) (enc : TypeId × Value → H) (base : Nat) (spare : Nat → Bool) (held : Bool) (fuel : Nat) (d : DataW H) (ps : List MemPlace),
    DataW.trod enc P w base spare held fuel t cs = some (d, ps) ∧ ∀ n ∈ d.weights P t, n ≤ reachBytes
theorem Rdd.arg {H : Type} {enc : TypeId × Value → H} {P : Program} {w : World} {base : Nat} {spare : Nat → Bool} {held : Bool} {t : TypeId} {v : Value} {d : DataW H} {ps : List MemPlace} {ts : List TypeId} {ds : List (DataW H)} {j : Nat}
    (h : DataW.Trod enc P w base spare held t v d ps) (hs : (DataW.weightsEach P ts ds).all (· ≤ reachBytes) = true) (ht : ts[j]? = some t) (hd : ds[j]? = some d) : Rdd P w t v.cells.toList := by
  obtain ⟨fuel, h⟩ := h
  exact ⟨H, enc, base, spare, held, fuel, d, ps, h, fun n hn => by simpa using List.all_eq_true.1 hs n (DataW.weights_mem_each ht hd n hn)⟩
theorem Rdd.int {P : Program} {w : World} {t : TypeId} {cs : List Value} {k : IntKind} (hu : P.underlying t = some (.int k)) (h : Rdd P w t cs) : ∃ n, cs = [.int k n] ∧ (Lit.int k n).wf = true := by
  obtain ⟨H, enc, base, spare, held, fuel, d, ps, h, hs⟩ := h
  obtain ⟨n, h1, _, h3⟩ := DataW.trod_int hu h
  exact ⟨n, h1, h3⟩
theorem Rdd.bool {P : Program} {w : World} {t : TypeId} {cs : List Value} (hu : P.underlying t = some .bool) (h : Rdd P w t cs) : ∃ b, cs = [.bool b] := by
  obtain ⟨H, enc, base, spare, held, fuel, d, ps, h, hs⟩ := h
  obtain ⟨n, h1, _⟩ := DataW.trod_bool hu h
  exact ⟨n, h1⟩
theorem Rdd.string {P : Program} {w : World} {t : TypeId} {cs : List Value} (hu : P.underlying t = some .string) (h : Rdd P w t cs) : ∃ s : ByteArray, cs = [.string s] ∧ s.size ≤ reachBytes := by
  obtain ⟨H, enc, base, spare, held, fuel, d, ps, h, hs⟩ := h
  obtain ⟨s, h1, h2, _⟩ := DataW.trod_string hu h
  injection h2 with h2 _
  subst h2
  exact ⟨s, h1, hs _ (by rw [DataW.weights]; simp)⟩
theorem Rdd.struct {P : Program} {w : World} {t : TypeId} {cs : List Value} {fs : Array Field} (hu : P.underlying t = some (.struct fs)) (h : Rdd P w t cs) :
    cs.length = P.cellsOf t ∧ ∀ (i : Nat) (f : Field), fs[i]? = some f → Rdd P w f.type ((cs.drop f.offset).take (P.cellsOf f.type)) := by
  obtain ⟨H, enc, base, spare, held, fuel, d, ps, h, hs⟩ := h
  obtain ⟨xs, n, rfl, h2, h3, h4, h5⟩ := DataW.trod_struct hu h
  injection h2 with h2 _
  subst h2
  refine ⟨h3, fun i f hf => ?_⟩
  have hi : i < xs.length := by rw [h4]; exact (Array.getElem?_eq_some_iff.1 hf).1
  have e : xs[i]? = some xs[i] := by simp [hi]
  refine ⟨H, enc, base, spare, held, n, xs[i].1, xs[i].2, (h5 i f hf).trans e, fun m hm => hs m ?_⟩
  rw [DataW.weights, hu]
  exact DataW.weights_mem_each (j := i) (t := f.type) (d := xs[i].1) (by rw [List.getElem?_map, Array.getElem?_toList, hf]; rfl) (by rw [List.getElem?_map, e]; rfl) m hm
theorem weightsAll_mem {H : Type} {P : Program} {e : TypeId} {d : DataW H} {n : Nat} (hn : n ∈ d.weights P e) : ∀ {l : List (DataW H)}, d ∈ l → n ∈ DataW.weightsAll P e l := by
  intro l
  induction l with
  | nil => intro h; cases h
  | cons x l ih =>
    intro h
    rw [DataW.weightsAll, List.mem_append]
    rcases List.mem_cons.1 h with rfl | h
    · exact .inl hn
    · exact .inr (ih h)
theorem flatten_get {α : Type} {m : Nat} : ∀ {rows : List (List α)}, (∀ r ∈ rows, r.length = m) → ∀ {j : Nat} {v : α}, rows.flatten[j]? = some v → ∃ i r k, rows[i]? = some r ∧ k < m ∧ r[k]? = some v ∧ j = i * m + k := by
  intro rows
  induction rows with
  | nil => intro _ j v h; simp at h
  | cons r rs ih =>
    intro hm j v h
    have hr := hm r (by simp)
    rw [List.flatten_cons] at h
    by_cases hj : j < m
    · rw [List.getElem?_append_left (by omega)] at h
      exact ⟨0, r, j, rfl, hj, h, by omega⟩
    · rw [List.getElem?_append_right (by omega), hr] at h
      obtain ⟨i, r', k, h1, h2, h3, h4⟩ := ih (fun r hr => hm r (by simp [hr])) h
      exact ⟨i + 1, r', k, by simpa using h1, h2, h3, by rw [Nat.succ_mul]; omega⟩
theorem flatten_len {α : Type} {m : Nat} : ∀ {rows : List (List α)}, (∀ r ∈ rows, r.length = m) → rows.flatten.length = rows.length * m := by
  intro rows
  induction rows with
  | nil => intro _; simp
  | cons r rs ih => intro hm; rw [List.flatten_cons, List.length_append, ih (fun r hr => hm r (by simp [hr])), hm r (by simp), List.length_cons, Nat.succ_mul]; omega
theorem Rdd.slice {P : Program} {w : World} {t e : TypeId} {cs : List Value} {m : Nat} (hu : P.underlying t = some (.slice e)) (hm : P.cellsOf e = m) (hb : 1 ≤ P.bytesOf e) (h : Rdd P w t cs) :
    ∃ (A : Option Addr) (len cap : Nat) (rows : List (List Value)), cs = [.slice A len cap] ∧ rows.length = len ∧ (∀ r ∈ rows, r.length = m ∧ Rdd P w e r) ∧ RdS m A len cap rows.flatten (whole w) := by
  subst hm
  obtain ⟨H, enc, base, spare, held, fuel, d, ps, h, hs⟩ := h
  rcases DataW.trod_slice hu h with ⟨h1, h2⟩ | ⟨a, len, cap, elems, rest, n, rfl, h1, h2, h3, h4, h5, h6, h7, h8, h9⟩
  · exact ⟨none, 0, 0, [], h1, rfl, fun r hr => absurd hr (by simp), RdS.nil _ _⟩
  · injection h2 with h2 _
    subst h2
    rw [DataW.weights, hu] at hs
    have hw := hs _ (List.mem_cons_self ..)
    have hlen : len ≤ 281474976710656 := by
      have := Nat.mul_le_mul_left ((elems.map (·.1)).length + (rest.map (·.1)).length) hb
      rw [List.length_map, List.length_map] at this hw
      have h10 : reachBytes = 140737488351232 := rfl
      omega
    have key : ∀ i, i < len → ∃ r x, elems[i]? = some x ∧ w.cells? base (a.add (i * P.cellsOf e)) (P.cellsOf e) = some r ∧ DataW.trod enc P w base spare held n e r = some x := by
      intro i hi
      have h10 := h7 i hi
      have e1 : elems[i]? = some elems[i] := by simp [h6, hi]
      rw [e1, Option.bind_eq_some_iff] at h10
      obtain ⟨r, h11, h12⟩ := h10
      exact ⟨r, _, e1, h11, h12⟩
    have hrow : ∀ i, i < len → ∃ x, elems[i]? = some x ∧ w.cells? base (a.add (i * P.cellsOf e)) (P.cellsOf e) = some ((w.cells? base (a.add (i * P.cellsOf e)) (P.cellsOf e)).getD []) ∧ DataW.trod enc P w base spare held n e ((w.cells? base (a.add (i * P.cellsOf e)) (P.cellsOf e)).getD []) = some x := by
      intro i hi
      obtain ⟨r, x, e1, e2, e3⟩ := key i hi
      rw [e2]; exact ⟨x, e1, rfl, e3⟩
    have hall : ∀ r ∈ (List.range len).map (fun i => (w.cells? base (a.add (i * P.cellsOf e)) (P.cellsOf e)).getD []), r.length = P.cellsOf e ∧ Rdd P w e r := by
      intro r hr
      obtain ⟨i, hi, rfl⟩ := List.mem_map.1 hr
      obtain ⟨x, e1, e2, e3⟩ := hrow i (List.mem_range.1 hi)
      refine ⟨(World.cells?_some e2).2.1, H, enc, base, spare, held, n, x.1, x.2, e3, fun q hq => hs q (List.mem_cons_of_mem _ (List.mem_append_left _ (weightsAll_mem hq (List.mem_map.2 ⟨x, List.mem_of_getElem? e1, rfl⟩))))⟩
    refine ⟨some a, len, cap, (List.range len).map fun i => (w.cells? base (a.add (i * P.cellsOf e)) (P.cellsOf e)).getD [], h1, by simp, hall, ?_⟩
    refine ⟨by rw [flatten_len (fun r hr => (hall r hr).1)]; simp, ⟨h4, hlen⟩, fun j v hj => ?_⟩
    obtain ⟨i, r, k, f1, f2, f3, rfl⟩ := flatten_get (fun r hr => (hall r hr).1) hj
    rw [List.getElem?_map] at f1
    cases hi : (List.range len)[i]? with
    | none => rw [hi] at f1; cases f1
    | some i' =>
      rw [hi] at f1
      injection f1 with f1
      obtain ⟨g1, g2⟩ := List.getElem?_eq_some_iff.1 hi
      rw [List.getElem_range] at g2
      subst g2
      rw [List.length_range] at g1
      obtain ⟨x, e1, e2, e3⟩ := hrow i g1
      dsimp only at f1
      rw [f1] at e2
      have := (World.cells?_some e2).2.2 k f2
      rw [f3, Addr.add_add] at this
      exact ⟨a, rfl, cellH_whole this⟩
theorem rows_of {α : Type} {rows : List (List Value)} {c : α → List Value} {I : α → Prop} (h : ∀ r ∈ rows, ∃ x, r = c x ∧ I x) : ∃ xs : List α, rows = xs.map c ∧ ∀ x ∈ xs, I x := by
  induction rows with
  | nil => exact ⟨[], rfl, fun x hx => by cases hx⟩
  | cons r rs ih =>
    obtain ⟨x, hx, ix⟩ := h r (by simp)
    obtain ⟨xs, h1, h2⟩ := ih (fun r hr => h r (by simp [hr]))
    exact ⟨x :: xs, by rw [hx, h1]; rfl, fun y hy => by rcases List.mem_cons.1 hy with rfl | hy; exact ix; exact h2 y hy⟩
theorem flat_one {α : Type} {c : α → Value} (l : List α) : (l.map fun x => [c x]).flatten = l.map c := by
  induction l with
  | nil => rfl
  | cons x l ih => simp [ih]
theorem Rdd.cut {P : Program} {w : World} {e : TypeId} {cs : List Value} {o m : Nat} (cs' : List Value) (h : Rdd P w e ((cs.drop o).take (P.cellsOf e))) (hm : P.cellsOf e = m) (hc : (cs.drop o).take m = cs') : Rdd P w e cs' := by subst hm hc; exact h
theorem val_slice {P : Program} {w W : World} {r : Reach} {b : Nat} {t e : TypeId} {v : Value} {A : Option Addr} {l c : Nat} (hu : P.underlying t = some (.slice e)) (h : Value.okWide P W r b t v) (hc : v.cells.toList = [.slice A l c]) : v = .slice A l c := by
  cases v <;> simp_all [Value.okWide, Cell.okWide, Cell.ok, Value.cells]
theorem val_struct {P : Program} {w W : World} {r : Reach} {b : Nat} {t : TypeId} {v : Value} {fs : Array Field} {cs : List Value} (hu : P.underlying t = some (.struct fs)) (h : Value.okWide P W r b t v) (hc : v.cells.toList = cs) : v = .agg cs.toArray := by
  simp only [Value.okWide, hu] at h
  obtain ⟨cs', rfl, _⟩ := h
  subst hc
  simp [Value.cells]
theorem Spec.walk {P : Program} {f : FuncId} {args : Array Value} {R : Hp → Prop} (h : Spec P f args R [] (fun _ _ v L => v = .bool true ∧ L = [])) (w : World) (hR : R (whole w)) :
    Calls P f args w fun e w' => e = .returned (.bool true) ∧ Below w.heap.size w w' := by
  refine (h w (fun _ => False) (whole w) hR (St.refl w _ _ fun b o e => e)).mono fun e w' ⟨v, ρ', L, he, ⟨hv, hL⟩, hs⟩ => ?_
  subst hv
  exact ⟨he, ⟨hs.os, hs.tape, hs.output, hs.size, fun k hk => hs.frame k hk id⟩⟩
end Go.Proofs.Ytogkncmhonomdaa
set_option linter.unusedVariables false
set_option linter.unusedSimpArgs false
namespace Go.Proofs.Ytogkncmhonomdaa
open Go
section
variable {P : Program} {n : Nat} {cx : Cx} {ρ : Hp} {E : Env} {L : Own} {o : Oper} {ops : Array Oper} {Q : Exit → Act → World → Prop} {S' : World → Prop} {π : List (Nat × Bool)} {i : Nat} {v : Value}
theorem eq_mapNil {t kt et : TypeId} (d : Nat) {A : Option Nat} (hT : P.underlying t = some (.map kt et)) (w : World) : (Op.equalIn (d + 1) t (.map A) (.map none)).run P w = .ok A.isNone w := by
  unfold Op.equalIn
  simp only [Sem.run_bind, run_underlying hT, Result.andThen_ok]
  cases A <;> rfl
theorem Y.mapNil {x y : Operand} {t u kt et : TypeId} {A : Option Nat} (hop : o.op = .binOp .eql t x y u) (hT : P.underlying t = some (.map kt et)) (hx : evE E x = some (.map A)) (hy : evE E y = some (.map none)) : Y P n cx ρ E L o (.bool A.isNone) := fun ac w ha _ => by
  simp only [execOp, hop, ha.ev hx, ha.ev hy, eqGuard, binOp, equal_eq, Sem.run_bind, Sem.run_pure, Result.andThen_ok, eq_mapNil _ hT]
  rfl
theorem Y.ifaceMap {x : Operand} {t kt et : TypeId} (hop : o.op = .makeInterface t x) (hT : P.underlying t = some (.map kt et)) (hx : evE E x = some v) : Y P n cx ρ E L o (.iface t v) := fun ac w ha _ => by
  simp only [execOp, hop, ha.ev hx, Instr.makeInterface, Sem.run_bind, run_underlying hT, Result.andThen_ok, Sem.run_pure]
theorem Y.assertMap {x : Operand} {t s kt et : TypeId} (hop : o.op = .typeAssert x s t false) (hT : P.underlying t = some (.map kt et)) (hx : evE E x = some (.iface t v)) : Y P n cx ρ E L o v := fun ac w ha _ => by
  simp only [execOp, hop, ha.ev hx, Instr.typeAssert, Sem.run_bind, run_underlying hT, Result.andThen_ok, Sem.run_pure, if_true, Bool.false_eq_true, if_false]
theorem run_clone {t : TypeId} {b : Nat} {es : Array MapEntry} {clock : Nat} {w : World} (h : w.heap[b]? = some (.map es clock)) : (Extern.MapsClone.clone #[.iface t (.map (some b))]).run P w = .ok (.iface t (.map (some w.heap.size))) { w with heap := w.heap.push (.map es clock) } := by
  have hc : Extern.MapsClone.clone #[.iface t (.map (some b))] = (getObj b >>= fun o => match o with
    | .map entries clock => (newObj (.map entries clock) >>= fun r => pure (Value.iface t (.map (some r))))
    | _ => stuck "maps.clone: a map expected") := rfl
  rw [hc]
  simp only [Sem.run_bind, run_getObj h, Result.andThen_ok, newObj, Sem.run, Sem.run_pure]
theorem Jp.cloneMap (d j j' : Nat) {F : FuncId} {x : Operand} {ts : Array TypeId} {t : TypeId} {kk : IntKind} {b : Nat} {m : MapL} (hi : nth ops.toList i = some o) (hw : Want n ops E o true) (he : o.dst = some d) (hd : Nat.blt d n = true)
    (hop : o.op = .call { callee := .value (.func F), args := #[x], argTypes := ts }) (hF : ∀ (args : Array Value) (w : World), (callFunc F args).run P w = ((Extern.MapsClone.clone args).run P w).andThen fun v w' => .ok (.value v) w')
    (hx : evE E x = some (.iface t (.map (some b)))) (hj : look L j = some (MapO kk b m))
    (h : ∀ b', Kp π S' cx ρ ((j', MapO kk b' m) :: L) ∧ Jp P ops Q S' n cx π ρ ((d, .iface t (.map (some b'))) :: E) ((j', MapO kk b' m) :: L)) : Jp P ops Q S' n cx ((i, false) :: π) ρ E L := by
  intro a w ha hs
  obtain ⟨es, clock, h1, hst, h2⟩ := mapO_get hs hj
  obtain ⟨h3, h4⟩ := h w.heap.size
  have hf : a.eval (.func F) = .func (.func F) #[] #[] := rfl
  have hr : (execOp a.eval o).run P w = .ok (.value (.iface t (.map (some w.heap.size)))) { w with heap := w.heap.push (.map es clock) } := by
    simp only [execOp, hop, resolve, List.map_toArray, List.map_cons, List.map_nil, ha.ev hx, hf, Deferred.ofValue, Sem.run_bind, Sem.run_pure, Result.andThen_ok, invoke]
    have e : (#[] ++ #[.iface t (.map (some b))] ++ #[] : Array Value) = #[.iface t (.map (some b))] := rfl
    simp only [e, hF, run_clone h1, Result.andThen_ok]
  simp only [wpPi, wpOp, nth_arr hi, hw a ha, if_true, Oper.wp, hr, Oper.upon]
  have hs' := hs.allocA j' (A := MapO kk w.heap.size m) (.map es clock) fun h' hh' => ⟨es, clock, hh', hst, h2⟩
  exact .inl ⟨h3.get hs', h4 _ _ (ha.put' he hd _) hs'⟩
end
end Go.Proofs.Ytogkncmhonomdaa
set_option linter.unusedVariables false
set_option linter.unusedSimpArgs false
namespace Go.Proofs.Ytogkncmhonomdaa
open Go
def wpPiF (P : Program) (ops : Array Oper) (N : Act → World → Prop) (πA πB : List (Nat × Bool)) : (World → Prop) → List (Nat × Bool) → Act → World → Prop
  | S, [], a, w => wpPi P ops N S πA a w ∧ wpPi P ops N S πB a w
  | S, (i, true) :: π, a, w => ∃ S' : World → Prop, (∀ w, S' w → S w) ∧ (S w → S' w) ∧ ∃ o v, ops[i]? = some o ∧ YieldsIf P ops S' o v a ∧ wpPiF P ops N πA πB S' π (a.put o.dst v) w
  | S, (i, false) :: π, a, w => wpOp P ops (Qn N) i (fun a' w' => S w' ∧ wpPiF P ops N πA πB S π a' w') a w
def okPiF (ops : Array Oper) (πA πB : List (Nat × Bool)) : List (Nat × Bool) → Array Bool → Bool
  | [], listed => match πA, πB with
    | (i, false) :: tA, (j, false) :: tB => (Region.ready .any ops listed == [i, j]) && (okPi ops tA (listed.setIfInBounds i true) && okPi ops tB (listed.setIfInBounds j true))
    | _, _ => false
  | (i, true) :: π, listed => Region.free .any ops listed i && (Region.ready .any ops listed).contains i && okPiF ops πA πB π (listed.setIfInBounds i true)
  | (i, false) :: π, listed => (Region.ready .any ops listed == [i]) && okPiF ops πA πB π (listed.setIfInBounds i true)
def okRegionF (ops : Array Oper) (πA πB π : List (Nat × Bool)) : Bool :=
  Region.noSelect ops && (π.length + πA.length == ops.size) && (πA.length == πB.length) && Nat.ble 2 πA.length && lastLoud ops πA && (πA.getLast? == πB.getLast?) && okPiF ops πA πB π (Array.replicate ops.size false)
section
variable {P : Program} {ops : Array Oper} {N : Act → World → Prop}
end
def JpF (P : Program) (ops : Array Oper) (Q : Exit → Act → World → Prop) (S : World → Prop) (n : Nat) (cx : Cx) (πA πB π : List (Nat × Bool)) (ρ : Hp) (E : Env) (L : Own) : Prop :=
  ∀ a w, At n E a → St cx ρ L w → wpPiF P ops (Q .normal) πA πB S π a w
section
variable {P : Program} {Q : Exit → Act → World → Prop} {n : Nat} {cx : Cx} {ρ ρs : Hp} {E : Env} {L Ls : Own} {ops : Array Oper} {S : World → Prop} {π πA πB : List (Nat × Bool)} {i : Nat} {o : Oper} {v : Value}
theorem JpF.q (d : Nat) (hi : nth ops.toList i = some o) (hw : Want n ops E o true) (he : o.dst = some d) (hd : Nat.blt d n = true) (hy : Y P n cx ρs E Ls o v)
    (h : JpF P ops Q (fun w => St cx ρs Ls w) n cx πA πB π ρ ((d, v) :: E) L) : JpF P ops Q (fun w => St cx ρs Ls w) n cx πA πB ((i, true) :: π) ρ E L :=
  fun a w ha hs => ⟨_, fun _ h => h, id, o, v, nth_arr hi, .inl ⟨hw a ha, fun w' h' => hy a w' ha h'⟩, h _ _ (ha.put' he hd v) hs⟩
theorem JpF.split (hA : Jp P ops Q S n cx πA ρ E L) (hB : Jp P ops Q S n cx πB ρ E L) : JpF P ops Q S n cx πA πB [] ρ E L := fun a w ha hs => ⟨hA a w ha hs, hB a w ha hs⟩
end
end Go.Proofs.Ytogkncmhonomdaa
set_option linter.unusedVariables false
set_option linter.unusedSimpArgs false
namespace Go.Proofs.Ytogkncmhonomdaa
open Go
section
variable {P : Program} {n : Nat} {cx : Cx} {ρ : Hp} {E : Env} {L : Own}
end
end Go.Proofs.Ytogkncmhonomdaa
