/- Slices: owned and read-only; append, copy, make; whole values in memory; tests that part; calls of function values. -/
import Derived.Test.YtjjhihlmoecmlaaEngC
set_option linter.unusedVariables false
set_option linter.unusedSimpArgs false
namespace Go.Proofs.Ytjjhihlmoecmlaa
open Go

section
variable {P : Program} {Q : Exit → Act → World → Prop} {n : Nat} {cx : Cx} {ρ ρs : Hp} {E E' : Env} {L L' Ls : Own} {ops : Array Oper} {S : World → Prop} {π : List (Nat × Bool)} {i : Nat} {o : Oper} {v : Value}

/-! ### 16. Tests -/
theorem put_slot {a : Act} {t k : Nat} {u x : Value} (ha : At n E a) (ht : look E t = some u) (e : look ((t, u) :: E) k = some x) : a.tmps[k]? = some x := by
  rw [look_cons] at e
  split at e
  · rename_i q; subst q; injection e with e; subst e; exact ha.slot _ _ ht
  · exact ha.slot k x e
theorem Jp.split {c : Bool} (t : Nat) (ht : look E t = some (.bool c)) (h1 : c = true → Jp P ops Q S n cx π ρ ((t, .bool true) :: E) L) (h2 : c = false → Jp P ops Q S n cx π ρ ((t, .bool false) :: E) L) : Jp P ops Q S n cx π ρ E L := by
  intro a w ha hs
  cases c with
  | true => exact h1 rfl a w ⟨ha.defers, ha.size, fun u x e => put_slot ha ht e⟩ hs
  | false => exact h2 rfl a w ⟨ha.defers, ha.size, fun u x e => put_slot ha ht e⟩ hs
theorem Jp.splitF {c : Bool} (t : Nat) (ht : look E t = some (.bool c)) (h2 : c = false → Jp P ops Q S n cx π ρ ((t, .bool false) :: E) L) (h1 : c = true → Jp P ops Q S n cx π ρ ((t, .bool true) :: E) L) : Jp P ops Q S n cx π ρ E L := Jp.split t ht h1 h2
theorem Cd.condT {c : Operand} {x y : Code} (hc : evE E c = some (.bool true)) (h : Cd P Q n cx ρ E L x) : Cd P Q n cx ρ E L (.cond c x y) := Cd.cond hc (fun _ => h) (fun e => by cases e)
theorem Cd.condF {c : Operand} {x y : Code} (hc : evE E c = some (.bool false)) (h : Cd P Q n cx ρ E L y) : Cd P Q n cx ρ E L (.cond c x y) := Cd.cond hc (fun e => by cases e) (fun _ => h)
theorem Cd.condF' {c : Operand} {x y : Code} {b : Bool} (hc : evE E c = some (.bool b)) (hf : b = false → Cd P Q n cx ρ E L y) (ht : b = true → Cd P Q n cx ρ E L x) : Cd P Q n cx ρ E L (.cond c x y) := Cd.cond hc ht hf
/-- A slot's value told otherwise. -/
theorem Jp.slot {u u' : Value} (t : Nat) (ht : look E t = some u) (e : u = u') (h : Jp P ops Q S n cx π ρ ((t, u') :: E) L) : Jp P ops Q S n cx π ρ E L := by
  subst e
  exact fun a w ha hs => h a w ⟨ha.defers, ha.size, fun k x e => put_slot ha ht e⟩ hs
theorem Cd.slot {c : Code} {u u' : Value} (t : Nat) (ht : look E t = some u) (e : u = u') (h : Cd P Q n cx ρ ((t, u') :: E) L c) : Cd P Q n cx ρ E L c := by
  subst e
  exact fun a w ha hs => h a w ⟨ha.defers, ha.size, fun k x e => put_slot ha ht e⟩ hs
theorem Runs.val {f : FuncId} {x : Operand} {xs : List Operand} {ts : Array TypeId} {vs cap : List Value} (hop : o.op = .call { callee := .value x, args := xs.toArray, argTypes := ts }) (hx : evE E x = some (.func (.func f) #[] cap.toArray)) (hc : ∀ args w, (callFunc f args).run P w = .ok (.enter f args) w) (hxs : evL E xs = some vs) : Runs P n E o f (vs ++ cap) := fun a w ha => by
  have := ha.evs hxs
  simp only [execOp, hop, resolve, List.map_toArray, this, ha.ev hx, Deferred.ofValue, Sem.run_bind, Sem.run_pure, Result.andThen_ok, invoke, hc]
  simp
theorem Y.makeFunc {f : FuncId} {xs : List Operand} {vs : List Value} (hop : o.op = .makeFunc (.func f) #[] xs.toArray) (hxs : evL E xs = some vs) : Y P n cx ρ E L o (.func (.func f) #[] vs.toArray) := fun a w ha _ => by
  have := ha.evs hxs
  simp only [execOp, hop, List.map_toArray, this, Instr.makeFunc]; rfl

/-! ### 17. Whole values in memory -/
theorem add_mk (b off k : Nat) : (⟨b, off, none⟩ : Addr).add k = ⟨b, off + k, none⟩ := by
  unfold Addr.add; split
  · rename_i h; subst h; rfl
  · rfl
theorem add_block (a : Addr) (k : Nat) : (a.add k).block = a.block := by unfold Addr.add; split <;> rfl
theorem add_add (a : Addr) (j k : Nat) : (a.add j).add k = a.add (j + k) := by
  unfold Addr.add
  by_cases hj : j = 0
  · subst hj; simp
  · by_cases hk : k = 0
    · subst hk; simp [hj]
    · have : j + k ≠ 0 := by omega
      simp [hj, hk, this, Nat.add_assoc]
theorem run_loadAgg {t : TypeId} {m : Nat} (hA : ∀ w, (isAgg t).run P w = .ok true w) (hz : ∀ w, (sizeOf t).run P w = .ok m w) {a : Addr} {cs : List Value} {w : World} (hm : cs.length = m) (hc : ∀ j v, cs[j]? = some v → w.cell? (a.add j) = some v) : (Instr.loadAt t (.pointer (some a))).run P w = .ok (.agg cs.toArray) w := by
  subst hm
  simp only [Instr.loadAt, Instr.sureAddr, loadVar, Sem.run_bind, Sem.run_pure, Result.andThen_ok, hA, hz, if_true, run_loadCells_list w a cs hc]
/-- Cells one behind the other. -/
def Cells (h : Hp) (a : Addr) (cs : List Value) : Prop := ∀ j v, cs[j]? = some v → cellH h (a.add j) = some v
theorem Cells.up {h k : Hp} (l : Hp.le h k) {a : Addr} {cs : List Value} (c : Cells h a cs) : Cells k a cs := fun j v e => cellH_up l (c j v e)
theorem Y.loadAggR {x : Operand} {t : TypeId} {a : Addr} {m : Nat} (cs : List Value) (hop : o.op = .load t x) (hA : ∀ w, (isAgg t).run P w = .ok true w) (hz : ∀ w, (sizeOf t).run P w = .ok m w) (hx : evE E x = some (.pointer (some a))) (hm : cs.length = m) (hc : Cells ρ a cs) : Y P n cx ρ E L o (.agg cs.toArray) := fun ac w ha hs => by
  simp only [execOp, hop, ha.ev hx, Sem.run_bind, run_loadAgg hA hz hm (fun j v e => cell_of hs.rho (hc j v e)), Result.andThen_ok, Sem.run_pure]
/-- The whole of an owned block that begins at its head. -/
theorem Y.loadAggO (j : Nat) {x : Operand} {t : TypeId} {b m : Nat} {cs : List Value} {T : TypeId} {fr : Nat × Nat} (hop : o.op = .load t x) (hA : ∀ w, (isAgg t).run P w = .ok true w) (hz : ∀ w, (sizeOf t).run P w = .ok m w) (hx : evE E x = some (.pointer (some ⟨b, 0, none⟩)))
    (hj : look L j = some (Pt b (.cells cs.toArray T fr))) (hm : cs.length = m) : Y P n cx ρ E L o (.agg cs.toArray) := fun ac w ha hs => by
  have hb := hs.pt hj
  have hc : ∀ k v, cs[k]? = some v → w.cell? ((⟨b, 0, none⟩ : Addr).add k) = some v := fun k v e => by rw [add_mk]; simp [World.cell?, hb, e]
  simp only [execOp, hop, ha.ev hx, Sem.run_bind, run_loadAgg hA hz hm hc, Result.andThen_ok, Sem.run_pure]
/-- Values laid over a row, from a place on. -/
def spl (cur : Array Value) : Nat → List Value → Array Value
  | _, [] => cur
  | k, v :: vs => spl (cur.setIfInBounds k v) (k + 1) vs
theorem spl_size : ∀ (vs : List Value) (cur : Array Value) (k : Nat), (spl cur k vs).size = cur.size := by
  intro vs
  induction vs with
  | nil => intro cur k; rfl
  | cons v vs ih => intro cur k; rw [spl, ih]; simp
theorem spl_get : ∀ (vs : List Value) (cur : Array Value) (k j : Nat), k + vs.length ≤ cur.size → (spl cur k vs)[j]? = if k ≤ j ∧ j < k + vs.length then vs[j - k]? else cur[j]? := by
  intro vs
  induction vs with
  | nil => intro cur k j h; rw [if_neg (by simp only [List.length_nil]; omega)]; rfl
  | cons v vs ih =>
    intro cur k j h
    simp only [List.length_cons] at h
    rw [spl, ih _ _ _ (by simp; omega)]
    by_cases h1 : k + 1 ≤ j ∧ j < k + 1 + vs.length
    · rw [if_pos h1, if_pos (by simp; omega)]
      obtain ⟨q, hq⟩ : ∃ q, j - k = q + 1 := ⟨j - k - 1, by omega⟩
      rw [hq, show j - (k + 1) = q by omega, List.getElem?_cons_succ]
    · rw [if_neg h1]
      by_cases h2 : k = j
      · subst h2
        rw [if_pos (by simp)]
        rw [Array.getElem?_setIfInBounds]
        simp
        omega
      · rw [Array.getElem?_setIfInBounds_ne h2, if_neg (by simp; omega)]
def noFr (fr : Nat × Nat) (k : Nat) : Prop := (decide (fr.1 ≤ k) && decide (k < fr.2)) = false
theorem noFr0 (k : Nat) : noFr (0, 0) k := by simp [noFr]
theorem run_storeCells {b : Nat} {T : TypeId} {fr : Nat × Nat} : ∀ (vs : List Value) (off i : Nat) (w : World) (cur : Array Value), w.heap[b]? = some (.cells cur T fr) → off + i + vs.length ≤ cur.size → (∀ v ∈ vs, one v = true) → (∀ k, off + i ≤ k → k < off + i + vs.length → noFr fr k) →
    ∃ w', (storeCells ⟨b, off, none⟩ vs i).run P w = .ok () w' ∧ w'.heap[b]? = some (.cells (spl cur (off + i) vs) T fr) ∧ (∀ p, p ≠ b → w'.heap[p]? = w.heap[p]?) ∧ w'.heap.size = w.heap.size ∧ w'.os = w.os ∧ w'.tape = w.tape ∧ w'.output = w.output := by
  intro vs
  induction vs with
  | nil => intro off i w cur hb hl h1 hf; exact ⟨w, rfl, hb, fun _ _ => rfl, rfl, rfl, rfl, rfl⟩
  | cons v vs ih =>
    intro off i w cur hb hl h1 hf
    simp only [List.length_cons] at hl hf
    have hc : w.cell? ⟨b, off + i, none⟩ = some (cur[off + i]'(by omega)) := by simp [World.cell?, hb]
    have hfz : w.frozen? ⟨b, off + i, none⟩ = false := by rw [frozen_pt hb]; exact hf _ (Nat.le_refl _) (by omega)
    have hst : (store ⟨b, off + i, none⟩ v).run P w = .ok () (w.setCell ⟨b, off + i, none⟩ v) := by
      have h1v := h1 v (List.mem_cons_self ..)
      cases v <;> simp [one] at h1v <;> simp [store, Sem.run, hc, hfz]
    have hb' : (w.setCell ⟨b, off + i, none⟩ v).heap[b]? = some (.cells (cur.setIfInBounds (off + i) v) T fr) := by rw [setCell_heap hb, if_pos rfl]
    obtain ⟨w', hr, g1, g2, g3, g4, g5, g6⟩ := ih off (i + 1) (w.setCell ⟨b, off + i, none⟩ v) _ hb' (by simp; omega) (fun u hu => h1 u (List.mem_cons_of_mem _ hu)) (fun k hk1 hk2 => hf k (by omega) (by omega))
    refine ⟨w', ?_, ?_, fun p hp => ?_, by rw [g3]; simp, g4, g5, g6⟩
    · simp only [storeCells, add_mk, Sem.run_bind, hst, Result.andThen_ok, hr]
    · rw [g1]; rfl
    · rw [g2 p hp, setCell_heap hb, if_neg hp]
theorem St.turn {w w' : World} (hs : St cx ρ L w) {j b : Nat} {o o' : Obj} (hj : look L j = some (Pt b o)) (g1 : w'.heap[b]? = some o') (g2 : ∀ p, p ≠ b → w'.heap[p]? = w.heap[p]?) (g3 : w'.heap.size = w.heap.size) (g4 : w'.os = w.os) (g5 : w'.tape = w.tape) (g6 : w'.output = w.output) :
    St cx ρ ((j, Pt b o') :: L) w' := by
  refine hs.set hj (fun k hk hkw => ⟨fun p => if p = b then some o' else none, by simp [Pt], fun p ob hp => ?_, fun p hp => ?_⟩) g3 g4 g5 g6
  · dsimp only at hp
    split at hp
    · rename_i e; subst e; injection hp with hp; subst hp; have : k p = some o := hk; exact ⟨g1, by rw [this]; simp⟩
    · cases hp
  · refine g2 p fun e => ?_
    subst e
    have : k p = some o := hk
    rw [this] at hp; cases hp
/-- A struct or array stored over an owned block, from a place on. -/
theorem Jp.storeAgg (j : Nat) {x y : Operand} {t : TypeId} {b off m : Nat} {cur : Array Value} {cs : List Value} {T : TypeId} {fr : Nat × Nat} (hi : nth ops.toList i = some o) (hw : Want n ops E o true) (he : o.dst = none)
    (hop : o.op = .store t x y) (hz : ∀ w, (sizeOf t).run P w = .ok m w) (hx : evE E x = some (.pointer (some ⟨b, off, none⟩))) (hy : evE E y = some (.agg cs.toArray)) (h1' : cs.all one = true) (hm : cs.length = m)
    (hj : look L j = some (Pt b (.cells cur T fr))) (hlt' : Nat.ble (off + m) cur.size = true) (hfr : ∀ k, off ≤ k → k < off + m → noFr fr k)
    (hk : Kp π S cx ρ ((j, Pt b (.cells (spl cur off cs) T fr)) :: L)) (h : Jp P ops Q S n cx π ρ E ((j, Pt b (.cells (spl cur off cs) T fr)) :: L)) :
    Jp P ops Q S n cx ((i, false) :: π) ρ E L := by
  intro a w ha hs
  have hb := hs.pt hj
  have hlt := Nat.le_of_ble_eq_true hlt'
  have h1 : ∀ v ∈ cs, one v = true := List.all_eq_true.1 h1'
  subst hm
  obtain ⟨w', hr, g1, g2, g3, g4, g5, g6⟩ := run_storeCells (P := P) cs off 0 w cur hb (by omega) h1 (fun k a b => hfr k (by omega) (by omega))
  have hr2 : (Instr.storeAt t (.pointer (some ⟨b, off, none⟩)) (.agg cs.toArray)).run P w = .ok () w' := by
    simp only [Instr.storeAt, Instr.sureAddr, storeVar, Value.cells, Sem.run_bind, Sem.run_pure, Result.andThen_ok, hz, List.size_toArray, ne_eq, not_true_eq_false, if_false, hr]
  simp only [wpPi, wpOp, nth_arr hi, hw a ha, if_true, Oper.wp, execOp, hop, ha.ev hx, ha.ev hy, Sem.run_bind, hr2, Result.andThen_ok, Sem.run_pure, Oper.upon, he]
  have hs' := hs.turn hj g1 g2 g3 g4 g5 g6
  exact .inl ⟨hk.get hs', h _ _ ha hs'⟩
theorem Y.build {t : TypeId} {parts : List (Nat × Operand)} {pv : List (Nat × Value)} (hop : o.op = .build t parts.toArray) (hp : parts.map (fun p => (p.1, evE E p.2)) = pv.map (fun p => (p.1, some p.2)))
    (hr : ∀ w, (Instr.build t pv.toArray).run P w = .ok v w) : Y P n cx ρ E L o v := fun a w ha hs => by
  have h1 : parts.map (fun p => (p.1, a.eval p.2)) = pv := by
    clear hr hop
    induction parts generalizing pv with
    | nil => cases pv with
      | nil => rfl
      | cons q qs => simp at hp
    | cons p ps ih =>
      cases pv with
      | nil => simp at hp
      | cons q qs =>
        simp only [List.map_cons, List.cons.injEq, Prod.mk.injEq] at hp
        rw [List.map_cons, ih hp.2, ha.ev hp.1.2, hp.1.1]
  simp only [execOp, hop, List.map_toArray, h1, Sem.run_bind, hr, Result.andThen_ok, Sem.run_pure]

/-- Values laid over a list, from a place on; the making of a struct's cells by plain steps. -/
def splL (cur : List Value) : Nat → List Value → List Value
  | _, [] => cur
  | k, v :: vs => splL (cur.set k v) (k + 1) vs
def fillL (place : Nat → Option (Nat × Nat)) (cells : List Value) : List (Nat × Value) → Option (List Value)
  | [] => some cells
  | (i, v) :: rest =>
    match place i with
    | none => none
    | some (off, size) => cond (Nat.beq v.cells.toList.length size && Nat.ble (off + v.cells.toList.length) cells.length) (fillL place (splL cells off v.cells.toList) rest) none
theorem splL_eq (off : Nat) : ∀ (vs : List Value) (j : Nat) (cells : Array Value), ((vs.zipIdx j).foldl (fun cs (p : Value × Nat) => cs.setIfInBounds (off + p.2) p.1) cells) = (splL cells.toList (off + j) vs).toArray := by
  intro vs
  induction vs with
  | nil => intro j cells; simp [splL]
  | cons v vs ih =>
    intro j cells
    rw [List.zipIdx_cons, List.foldl_cons, ih, splL]
    simp [Nat.add_assoc]
theorem fillL_eq (place : Nat → Option (Nat × Nat)) : ∀ (pv : List (Nat × Value)) (cells : Array Value) (r : List Value), fillL place cells.toList pv = some r → Instr.fill place cells pv = some r.toArray := by
  intro pv
  induction pv with
  | nil => intro cells r h; simp only [fillL] at h; injection h with h; subst h; rfl
  | cons p pv ih =>
    obtain ⟨i, v⟩ := p
    intro cells r h
    simp only [fillL] at h
    simp only [Instr.fill]
    cases hp : place i with
    | none => simp [hp] at h
    | some q =>
      obtain ⟨off, size⟩ := q
      simp only [hp] at h ⊢
      cases hc : (Nat.beq v.cells.toList.length size && Nat.ble (off + v.cells.toList.length) cells.toList.length) with
      | false => rw [hc] at h; cases h
      | true =>
        rw [hc] at h
        simp only [cond_true] at h
        simp only [Bool.and_eq_true] at hc
        have h1 := Nat.eq_of_beq_eq_true hc.1
        have h2 := Nat.le_of_ble_eq_true hc.2
        simp only [Array.length_toList] at h1 h2
        have h3 : ¬ ((decide (v.cells.size ≠ size) || decide (off + v.cells.size > cells.size)) = true) := by
          simp [h1]; omega
        rw [if_neg h3]
        refine ih _ r ?_
        have e := splL_eq off v.cells.toList 0 cells
        rw [← Array.foldl_toList, Array.toList_zipIdx]
        rw [e]
        simpa using h
/-- Where a struct's fields lie, and how large they are. -/
def Places (P : Program) (t : TypeId) (pl : List (Nat × Nat)) : Prop := ∃ fs, P.underlying t = some (.struct fs) ∧ ∀ w, (fs.mapM fun f => do pure (f.offset, ← sizeOf f.type) : Sem (Array (Nat × Nat))).run P w = .ok pl.toArray w
theorem Y.struct {t : TypeId} {parts : List (Nat × Operand)} {z : Value} {pl : List (Nat × Nat)} (pv : List (Nat × Value)) (cells : List Value) (hop : o.op = .build t parts.toArray) (hp : parts.map (fun p => (p.1, evE E p.2)) = pv.map (fun p => (p.1, some p.2)))
    (hpl : Places P t pl) (hzero : ∀ w, (zeroValue t).run P w = .ok z w) (hfill' : fillL (nth pl) z.cells.toList pv = some cells) : Y P n cx ρ E L o (.agg cells.toArray) := by
  refine Y.build hop hp fun w => ?_
  have e : (nth pl) = (pl.toArray[·]?) := by funext k; rw [nth_eq]; simp
  rw [e] at hfill'
  have hfill := fillL_eq _ _ _ _ hfill'
  obtain ⟨fs, h1, h2⟩ := hpl
  simp only [Instr.build, Sem.run_bind, hzero, Result.andThen_ok, run_underlying h1, h2, hfill, Sem.run_pure]
/-! ### 18. Slices -/
/-- A slice that is read: its cells lie one behind the other. -/
def RdS (m : Nat) (A : Option Addr) (k c : Nat) (cs : List Value) : HProp := fun h => cs.length = k * m ∧ (k ≤ c ∧ k ≤ 281474976710656) ∧ ∀ j v, cs[j]? = some v → ∃ ad, A = some ad ∧ cellH h (ad.add j) = some v
theorem RdS.up (m : Nat) (A : Option Addr) (k c : Nat) (cs : List Value) : Up (RdS m A k c cs) := fun h l hle ⟨a, a', b⟩ => ⟨a, a', fun j v e => let ⟨ad, e1, e2⟩ := b j v e; ⟨ad, e1, cellH_up hle e2⟩⟩
theorem RdS.nil (m : Nat) (h : Hp) : RdS m none 0 0 [] h := ⟨by simp, by omega, fun j v e => by simp at e⟩
theorem RdS.some {m : Nat} {A : Option Addr} {k c : Nat} {cs : List Value} {h : Hp} (r : RdS m A k c cs h) (hk : 0 < k * m) : ∃ ad, A = some ad := by
  have : 0 < cs.length := by rw [r.1]; exact hk
  obtain ⟨ad, e, _⟩ := r.2.2 0 cs[0] (by simp [this])
  exact ⟨ad, e⟩
theorem RdS.none {m k c : Nat} {cs : List Value} {h : Hp} (r : RdS m Option.none k c cs h) : cs = [] := by
  cases cs with
  | nil => rfl
  | cons x xs => obtain ⟨ad, e, _⟩ := r.2.2 0 x rfl; cases e
theorem RdS.cell {m : Nat} {ad : Addr} {k c : Nat} {cs : List Value} {h : Hp} (r : RdS m (Option.some ad) k c cs h) {j : Nat} {v : Value} (e : cs[j]? = Option.some v) : cellH h (ad.add j) = Option.some v := by
  obtain ⟨ad', e1, e2⟩ := r.2.2 j v e
  injection e1 with e1; subst e1; exact e2
theorem RdS.take {m : Nat} {A : Option Addr} {k c : Nat} {cs : List Value} {h : Hp} (r : RdS m A k c cs h) {l : Nat} (hl : l ≤ k) : RdS m A l c (cs.take (l * m)) h := by
  refine ⟨?_, ⟨by have := r.2.1; omega, by have := r.2.1; omega⟩, fun j v e => ?_⟩
  · rw [List.length_take, r.1]; exact Nat.min_eq_left (Nat.mul_le_mul_right m hl)
  · rw [List.getElem?_take] at e
    split at e
    · exact r.2.2 j v e
    · cases e
/-- Where a slice lies that is cut off at its begin. -/
def cutA (A : Option Addr) (c lo m : Nat) : Option Addr := if c = lo then A else A.map (·.add (lo * m))
theorem RdS.drop {m : Nat} {A : Option Addr} {k c : Nat} {cs : List Value} {h : Hp} (r : RdS m A k c cs h) {lo : Nat} (hl : lo ≤ k) : RdS m (cutA A c lo m) (k - lo) (c - lo) (cs.drop (lo * m)) h := by
  refine ⟨?_, ⟨by have := r.2.1; omega, by have := r.2.1; omega⟩, fun j v e => ?_⟩
  · rw [List.length_drop, r.1, Nat.sub_mul]
  · rw [List.getElem?_drop] at e
    obtain ⟨ad, e1, e2⟩ := r.2.2 _ v e
    subst e1
    have hlt := (List.getElem?_eq_some_iff.1 e).1
    rw [r.1] at hlt
    have hne : ¬ c = lo := fun q => by
      have h1 := r.2.1.1
      have : k = lo := by omega
      subst this; omega
    exact ⟨ad.add (lo * m), by simp [cutA, hne], by rw [add_add]; exact e2⟩
/-- A slice of the call's own: nil, or at the head of a block of its own. -/
def OwnS (e : TypeId) (m : Nat) (A : Option Addr) (k c : Nat) (cs : List Value) : HProp := fun h => (cs.length = k * m ∧ k ≤ 281474976710656) ∧
  ((A = none ∧ k = 0 ∧ c = 0) ∨ ∃ b cur fr, A = some ⟨b, 0, none⟩ ∧ h b = some (.cells cur e fr) ∧ cur.size = c * m ∧ k ≤ c ∧ (∀ j, j < k * m → cur[j]? = cs[j]?) ∧ ∀ j, j < c * m → noFr fr j)
theorem OwnS.up (e : TypeId) (m : Nat) (A : Option Addr) (k c : Nat) (cs : List Value) : Up (OwnS e m A k c cs) := fun h l hle ⟨a, b⟩ => ⟨a, by
  rcases b with b | ⟨b, cur, fr, h1, h2, h3⟩
  · exact .inl b
  · exact .inr ⟨b, cur, fr, h1, hle _ _ h2, h3⟩⟩
theorem OwnS.rd {e : TypeId} {m : Nat} {A : Option Addr} {k c : Nat} {cs : List Value} {h : Hp} (r : OwnS e m A k c cs h) : RdS m A k c cs h := ⟨r.1.1, ⟨by rcases r.2 with ⟨_, h2, h3⟩ | ⟨b, cur, fr, h1, h2, h3, h4, _⟩ <;> omega, r.1.2⟩, fun j v hj => by
  have hlt : j < k * m := by have := (List.getElem?_eq_some_iff.1 hj).1; rw [r.1.1] at this; exact this
  rcases r.2 with ⟨h1, h2, _⟩ | ⟨b, cur, fr, h1, h2, h3, h4, h5, h6⟩
  · subst h2; simp at hlt
  · refine ⟨_, h1, ?_⟩
    rw [add_mk]
    simp [cellH, h2, h5 j hlt, hj]⟩
theorem OwnS.nil (e : TypeId) (m : Nat) (h : Hp) : OwnS e m none 0 0 [] h := ⟨⟨by simp, by omega⟩, .inl ⟨rfl, rfl, rfl⟩⟩
def bytesV (l : List UInt8) : List Value := l.map fun b => .int .u8 b.toNat
/-- The cells that a source gives. -/
def Src (P : Program) (cx : Cx) (ρ : Hp) (L : Own) (m k : Nat) (u : Value) (cs : List Value) : Prop := (∀ w, (Builtin.lenOf u).run P w = .ok k w) ∧ ∀ w, St cx ρ L w → cs.length = k * m ∧ (Builtin.firstCells m k u).run P w = .ok cs.toArray w
theorem run_cells {w : World} {m k : Nat} {A : Option Addr} {c : Nat} {cs : List Value} {h : Hp} (hw : ∀ b o, h b = some o → w.heap[b]? = some o) (r : RdS m A k c cs h) : (Builtin.firstCells m k (.slice A k c)).run P w = .ok cs.toArray w := by
  cases A with
  | none =>
    have : cs = [] := by
      cases cs with
      | nil => rfl
      | cons x xs => obtain ⟨ad, e, _⟩ := r.2.2 0 x rfl; cases e
    subst this; rfl
  | some ad =>
    simp only [Builtin.firstCells]
    rw [← r.1]
    exact run_loadCells_list w ad cs fun j v e => cell_of hw (r.cell e)
theorem bytesV_one (l : List UInt8) : (bytesV l).all one = true := by
  rw [List.all_eq_true]; intro v hv; obtain ⟨x, _, rfl⟩ := List.mem_map.1 hv; rfl
theorem Src.rd {m k c : Nat} {A : Option Addr} {cs : List Value} (r : RdS m A k c cs ρ) : Src P cx ρ L m k (.slice A k c) cs := ⟨fun w => rfl, fun w hs => ⟨r.1, run_cells hs.rho r⟩⟩
theorem Src.own (j : Nat) {e : TypeId} {m k c : Nat} {A : Option Addr} {cs : List Value} (hj : look L j = some (OwnS e m A k c cs)) : Src P cx ρ L m k (.slice A k c) cs :=
  ⟨fun w => rfl, fun w hs => let ⟨h, ha, hw⟩ := hs.get hj; ⟨ha.1.1, run_cells hw ha.rd⟩⟩
theorem Src.str {s : ByteArray} : Src P cx ρ L 1 s.size (.string s) (bytesV s.data.toList) := by
  refine ⟨fun w => rfl, fun w hs => ⟨?_, ?_⟩⟩
  · rw [bytesV, List.length_map, Array.length_toList, Nat.mul_one]; rfl
  have h1 : (s.extract 0 s.size).data = s.data := by
    rw [ByteArray.data_extract]
    exact Array.extract_size
  simp only [Builtin.firstCells, h1]
  show Result.ok _ w = _
  congr 1
  rw [bytesV, ← Array.toList_map, Array.toArray_toList]
theorem Src.nil {m : Nat} : Src P cx ρ L m 0 (.slice none 0 0) [] := ⟨fun w => rfl, fun w hs => ⟨by simp, rfl⟩⟩
/-! ### 18b. Slices cut -/
theorem run_bound {w : World} {k : IntKind} {lo : Nat} {y : Nat} {code : BoundsCode} (h : lo ≤ y) : (Instr.sliceBound (.int k (lo : Int)) y code).run P w = .ok lo w := by
  have h1 : (0 : Int) ≤ (lo : Int) ∧ (lo : Int) ≤ (y : Int) := by omega
  simp only [Instr.sliceBound, asIntOf, Sem.run_bind, Sem.run_pure, Result.andThen_ok, h1, and_self, if_true, Int.toNat_natCast]
theorem Y.sliceTo {x y : Operand} {t e : TypeId} {k : IntKind} {A : Option Addr} {l c m hi : Nat} {z : Int} (hop : o.op = .slice t x none (some y) none) (hx : evE E x = some (.slice A l c)) (hy : evE E y = some (.int k z)) (hT : P.underlying t = some (.slice e)) (hz : ∀ w, (sizeOf e).run P w = .ok m w)
    (hzi : z = (hi : Int)) (h1 : hi ≤ c) : Y P n cx ρ E L o (.slice A hi c) := fun ac w ha hs => by
  subst hzi
  have e1 : (if c = 0 then A else A.map fun a => a.add (0 * m)) = A := by
    split
    · rfl
    · cases A <;> simp [Addr.add]
  simp only [execOp, hop, Option.map_some, Option.map_none, ha.ev hx, ha.ev hy, Instr.sliceAt, Instr.slice, Instr.sliceBounds, Sem.run_bind, Sem.run_pure, Result.andThen_ok, run_underlying hT, run_bound h1, hz, if_true, e1, Nat.sub_zero]
theorem Y.sliceFrom {x y : Operand} {t e : TypeId} {k : IntKind} {A : Option Addr} {l c m lo : Nat} {z : Int} (hop : o.op = .slice t x (some y) none none) (hx : evE E x = some (.slice A l c)) (hy : evE E y = some (.int k z)) (hT : P.underlying t = some (.slice e)) (hz : ∀ w, (sizeOf e).run P w = .ok m w)
    (hzi : z = (lo : Int)) (h1 : lo ≤ l) : Y P n cx ρ E L o (.slice (cutA A c lo m) (l - lo) (c - lo)) := fun ac w ha hs => by
  subst hzi
  simp only [execOp, hop, Option.map_some, Option.map_none, ha.ev hx, ha.ev hy, Instr.sliceAt, Instr.slice, Instr.sliceBounds, Sem.run_bind, Sem.run_pure, Result.andThen_ok, run_underlying hT, run_bound h1, hz, cutA, Option.isSome_none, Bool.false_eq_true, if_false]
theorem Y.sliceBoth {x y z : Operand} {t e : TypeId} {k k' : IntKind} {A : Option Addr} {l c m lo hi : Nat} {zl zh : Int} (hop : o.op = .slice t x (some y) (some z) none) (hx : evE E x = some (.slice A l c)) (hy : evE E y = some (.int k zl)) (hzz : evE E z = some (.int k' zh)) (hT : P.underlying t = some (.slice e)) (hz : ∀ w, (sizeOf e).run P w = .ok m w)
    (hzl : zl = (lo : Int)) (hzh : zh = (hi : Int)) (h1 : lo ≤ hi) (h2 : hi ≤ c) : Y P n cx ρ E L o (.slice (cutA A c lo m) (hi - lo) (c - lo)) := fun ac w ha hs => by
  subst hzl hzh
  simp only [execOp, hop, Option.map_some, Option.map_none, ha.ev hx, ha.ev hy, ha.ev hzz, Instr.sliceAt, Instr.slice, Instr.sliceBounds, Sem.run_bind, Sem.run_pure, Result.andThen_ok, run_underlying hT, run_bound h1, run_bound h2, hz, cutA, Option.isSome_none, Bool.false_eq_true, if_false]
theorem Y.sliceAll {x : Operand} {t e : TypeId} {A : Option Addr} {l c m : Nat} (hop : o.op = .slice t x none none none) (hx : evE E x = some (.slice A l c)) (hT : P.underlying t = some (.slice e)) (hz : ∀ w, (sizeOf e).run P w = .ok m w) : Y P n cx ρ E L o (.slice A l c) := fun ac w ha hs => by
  have e1 : (if c = 0 then A else A.map fun a => a.add (0 * m)) = A := by
    split
    · rfl
    · cases A <;> simp [Addr.add]
  simp only [execOp, hop, Option.map_some, Option.map_none, ha.ev hx, Instr.sliceAt, Instr.slice, Instr.sliceBounds, Sem.run_bind, Sem.run_pure, Result.andThen_ok, run_underlying hT, hz, e1, Nat.sub_zero]

/-! ### 19. append -/
theorem OwnS.length {e : TypeId} {m : Nat} {A : Option Addr} {k c : Nat} {cs : List Value} {h : Hp} (r : OwnS e m A k c cs h) : cs.length = k * m := r.1.1
theorem growBy_le : ∀ (r c newLen : Nat), c < newLen → Builtin.growBy newLen r c ≤ 2 * newLen + 1000 := by
  intro r
  induction r with
  | zero => intro c newLen h; simp [Builtin.growBy]; omega
  | succ r ih =>
    intro c newLen h
    simp only [Builtin.growBy]
    rw [if_neg (by omega)]
    by_cases h2 : c + (c + 768) / 4 < newLen
    · exact ih _ _ h2
    · cases r with
      | zero => simp only [Builtin.growBy]; omega
      | succ r => simp only [Builtin.growBy]; rw [if_pos (by omega)]; omega
theorem nextcap_le (need c : Nat) (h : c < need) : Builtin.nextslicecap need c ≤ 2 * need + 1000 := by
  unfold Builtin.nextslicecap
  split
  · omega
  · split
    · omega
    · exact growBy_le 4 c need h
theorem run_info {e : TypeId} {ti : TypeInfo} (h : ∀ w, (typeInfo e).run P w = .ok ti w) (w : World) : (typeInfo e).run P w = .ok ti w := h w
/-- A new block that is a piece by itself. -/
theorem St.allocA {w : World} (hs : St cx ρ L w) (j : Nat) {A : HProp} (ob : Obj) (hA : ∀ h : Hp, h w.heap.size = some ob → A h) : St cx ρ ((j, A) :: L) { w with heap := w.heap.push ob } := by
  have h5 := (hs.alloc j ob).imp (i := j) (A' := A) (by rw [look_cons]; simp; rfl) fun h hp => hA h hp
  refine h5.subF fun k B e => ?_
  rw [look_cons] at e ⊢
  split at e
  · rename_i q; rw [if_pos q]; exact e
  · rename_i q; rw [if_neg q, look_cons, if_neg q]; exact e
theorem St.drawn {w : World} (hs : St cx ρ L w) (d : Nat) : St cx ρ L { w with drawn := d } := ⟨hs.ex, hs.rho, hs.rle, hs.rdom, hs.size, hs.frame, hs.os, hs.tape, hs.output⟩
theorem St.setA {w w' : World} (hs : St cx ρ L w) {j b : Nat} {ob ob' : Obj} {A A' : HProp} (hj : look L j = some A) (hA : ∀ h : Hp, A h → (∀ b o, h b = some o → w.heap[b]? = some o) → h b = some ob) (hA' : ∀ h : Hp, h b = some ob' → A' h)
    (g1 : w'.heap[b]? = some ob') (g2 : ∀ p, p ≠ b → w'.heap[p]? = w.heap[p]?) (g3 : w'.heap.size = w.heap.size) (g4 : w'.os = w.os) (g5 : w'.tape = w.tape) (g6 : w'.output = w.output) : St cx ρ ((j, A') :: L) w' := by
  have h1 : St cx ρ ((j, Pt b ob) :: L) w := hs.set hj (fun k a hk => ⟨k, hA k a hk, fun b o hb => ⟨hk b o hb, by rw [hb]; simp⟩, fun _ _ => rfl⟩) rfl rfl rfl rfl
  have h2 := h1.turn (j := j) (o := ob) (by rw [look_cons]; simp) g1 g2 g3 g4 g5 g6
  have h3 := h2.imp (i := j) (A' := A') (by rw [look_cons]; simp; rfl) fun h hh => hA' h hh
  refine h3.subF fun k B e => ?_
  rw [look_cons] at e ⊢
  split at e
  · rename_i q; rw [if_pos q]; exact e
  · rename_i q; rw [if_neg q, look_cons, if_neg q, look_cons, if_neg q]; exact e
theorem eq_slice {t e : TypeId} (d : Nat) {A : Option Addr} {l c : Nat} (hT : P.underlying t = some (.slice e)) (w : World) : (Op.equalIn (d + 1) t (.slice A l c) (.slice none 0 0)).run P w = .ok A.isNone w := by
  unfold Op.equalIn
  simp only [Sem.run_bind, run_underlying hT, Result.andThen_ok]
  cases A <;> rfl
theorem eq_ptr {t e : TypeId} (d : Nat) {A : Option Addr} (hT : P.underlying t = some (.pointer e)) (w : World) : (Op.equalIn (d + 1) t (.pointer A) (.pointer none)).run P w = .ok A.isNone w := by
  unfold Op.equalIn
  simp only [Sem.run_bind, run_underlying hT, Result.andThen_ok]
  cases A <;> rfl
theorem eq_bool {t : TypeId} (d : Nat) {a b : Bool} (hT : P.underlying t = some .bool) (w : World) : (Op.equalIn (d + 1) t (.bool a) (.bool b)).run P w = .ok (a == b) w := by
  unfold Op.equalIn
  simp only [Sem.run_bind, run_underlying hT, Result.andThen_ok]
  rfl
theorem equal_eq (t : TypeId) (x y : Value) : Op.equal t x y = Op.equalIn (9999 + 1) t x y := rfl
theorem Y.sliceNil {x y : Operand} {t u e : TypeId} {A : Option Addr} {l c : Nat} (hop : o.op = .binOp .eql t x y u) (hT : P.underlying t = some (.slice e)) (hx : evE E x = some (.slice A l c)) (hy : evE E y = some (.slice none 0 0)) : Y P n cx ρ E L o (.bool A.isNone) := fun ac w ha _ => by
  simp only [execOp, hop, ha.ev hx, ha.ev hy, eqGuard, binOp, equal_eq, Sem.run_bind, Sem.run_pure, Result.andThen_ok, eq_slice _ hT]
  rfl
theorem Y.ptrNil {x y : Operand} {t u e : TypeId} {A : Option Addr} (hop : o.op = .binOp .eql t x y u) (hT : P.underlying t = some (.pointer e)) (hx : evE E x = some (.pointer A)) (hy : evE E y = some (.pointer none)) : Y P n cx ρ E L o (.bool A.isNone) := fun ac w ha _ => by
  simp only [execOp, hop, ha.ev hx, ha.ev hy, eqGuard, binOp, equal_eq, Sem.run_bind, Sem.run_pure, Result.andThen_ok, eq_ptr _ hT]
  rfl
theorem Y.ptrNotNil {x y : Operand} {t u e : TypeId} {A : Option Addr} (hop : o.op = .binOp .neq t x y u) (hT : P.underlying t = some (.pointer e)) (hx : evE E x = some (.pointer A)) (hy : evE E y = some (.pointer none)) : Y P n cx ρ E L o (.bool (!A.isNone)) := fun ac w ha _ => by
  simp only [execOp, hop, ha.ev hx, ha.ev hy, eqGuard, binOp, equal_eq, Sem.run_bind, Sem.run_pure, Result.andThen_ok, eq_ptr _ hT]
  rfl
theorem Y.beql {x y : Operand} {t u : TypeId} {a b : Bool} (hop : o.op = .binOp .eql t x y u) (hT : P.underlying t = some .bool) (hx : evE E x = some (.bool a)) (hy : evE E y = some (.bool b)) : Y P n cx ρ E L o (.bool (a == b)) := fun ac w ha _ => by
  simp only [execOp, hop, ha.ev hx, ha.ev hy, eqGuard, binOp, equal_eq, Sem.run_bind, Sem.run_pure, Result.andThen_ok, eq_bool _ hT]
  rfl
theorem Y.bneq {x y : Operand} {t u : TypeId} {a b : Bool} (hop : o.op = .binOp .neq t x y u) (hT : P.underlying t = some .bool) (hx : evE E x = some (.bool a)) (hy : evE E y = some (.bool b)) : Y P n cx ρ E L o (.bool (!(a == b))) := fun ac w ha _ => by
  simp only [execOp, hop, ha.ev hx, ha.ev hy, eqGuard, binOp, equal_eq, Sem.run_bind, Sem.run_pure, Result.andThen_ok, eq_bool _ hT]
  rfl
/-- A piece that wants no memory. -/
theorem St.make {w : World} (hs : St cx ρ L w) (j : Nat) {A : HProp} (hA : A Hp.emp) : St cx ρ ((j, A) :: L) w := by
  obtain ⟨H, a, b, c, d⟩ := hs.ex
  refine { hs with ex := ⟨fun i => if i = j then Hp.emp else H i, fun i B e => ?_, fun x y hxy => ?_, fun x => ?_, fun x p o hp => ?_⟩ }
  · rw [look_cons] at e
    by_cases hi : i = j
    · subst hi; simp at e; subst e; simpa using hA
    · rw [if_neg (Ne.symm hi)] at e; simpa [hi] using a i B e
  · by_cases hx : x = j
    · simp only [hx, if_true]; exact Hp.emp_disj _
    · by_cases hy : y = j
      · simp only [hx, hy, if_true, if_false]; exact Hp.disj_emp _
      · simp only [hx, hy, if_false]; exact b x y hxy
  · by_cases hx : x = j
    · simp only [hx, if_true]; exact Hp.emp_disj _
    · simp only [hx, if_false]; exact c x
  · by_cases hx : x = j
    · simp [hx, Hp.emp] at hp
    · simp only [hx, if_false] at hp; exact d x p o hp
theorem Cd.make {c : Code} (j : Nat) {A : HProp} (hA : A Hp.emp) (h : Cd P Q n cx ρ E ((j, A) :: L) c) : Cd P Q n cx ρ E L c := fun a w ha hs => h a w ha (hs.make j hA)
theorem Jp.make (j : Nat) {A : HProp} (hA : A Hp.emp) (h : Jp P ops Q S n cx π ρ E ((j, A) :: L)) : Jp P ops Q S n cx π ρ E L := fun a w ha hs => h a w ha (hs.make j hA)
def litZ (k m : Nat) (zs : List Value) : List Value := (List.range k).map fun x => (nth zs (x % m)).getD undef
/-- A slice literal. -/
theorem Jp.lit (d j : Nat) {t e : TypeId} {len m : Nat} {z : Value} {parts : List (Nat × Operand)} (pv : List (Nat × Value)) (cells : List Value) (hi : nth ops.toList i = some o) (hw : Want n ops E o true) (he : o.dst = some d) (hd : Nat.blt d n = true)
    (hop : o.op = .buildSlice t len parts.toArray) (hp : parts.map (fun p => (p.1, evE E p.2)) = pv.map (fun p => (p.1, some p.2))) (hT : P.underlying t = some (.slice e)) (hz : ∀ w, (sizeOf e).run P w = .ok m w) (hzero : ∀ w, (zeroValue e).run P w = .ok z w)
    (hsm : Nat.ble (len * m) 16777216 = true) (hzm : z.cells.toList.length = m) (hfill' : fillL (fun i => some (i * m, m)) (litZ (len * m) m z.cells.toList) pv = some cells) (hlen : cells.length = len * m) (hl : Nat.ble len 281474976710656 = true)
    (h : ∀ b, Kp π S cx ρ ((j, OwnS e m (some ⟨b, 0, none⟩) len len cells) :: L) ∧ Jp P ops Q S n cx π ρ ((d, .slice (some ⟨b, 0, none⟩) len len) :: E) ((j, OwnS e m (some ⟨b, 0, none⟩) len len cells) :: L)) :
    Jp P ops Q S n cx ((i, false) :: π) ρ E L := by
  intro a w ha hs
  have hsm' := Nat.le_of_ble_eq_true hsm
  have h1 : parts.map (fun p => (p.1, a.eval p.2)) = pv := by
    clear hop hfill'
    induction parts generalizing pv with
    | nil => cases pv with
      | nil => rfl
      | cons q qs => simp at hp
    | cons p ps ih =>
      cases pv with
      | nil => simp at hp
      | cons q qs =>
        simp only [List.map_cons, List.cons.injEq, Prod.mk.injEq] at hp
        rw [List.map_cons, ih qs hp.2, ha.ev hp.1.2, hp.1.1]
  have hnl : ¬ (len * m > 2 ^ 24) := by omega
  have hr : (execOp a.eval o).run P w = .ok (.value (.slice (some ⟨w.heap.size, 0, none⟩) len len)) { w with heap := w.heap.push (.cells cells.toArray e) } := by
    simp only [execOp, hop, List.map_toArray, h1, Instr.buildSlice, Sem.run_bind, run_underlying hT, Result.andThen_ok, hz, hnl, if_false]
    have hlz : ∀ (zero : Array Value), (len * m ≠ 0 → zero = z.cells) → ((Array.range (len * m)).map (zero[· % zero.size]!)).toList = litZ (len * m) m z.cells.toList := fun zero hzz => by
      rw [Array.toList_map, Array.toList_range, litZ]
      refine List.map_congr_left fun x hx => ?_
      have hx := List.mem_range.1 hx
      have hz1 := hzz (by omega)
      subst hz1
      have hm : z.cells.size = m := by rw [← hzm, Array.length_toList]
      have h0 : 0 < m := by
        rcases Nat.eq_zero_or_pos m with q | q
        · subst q; simp at hx
        · exact q
      have hlt : x % m < z.cells.size := by rw [hm]; exact Nat.mod_lt _ h0
      rw [nth_eq, hm, getElem!_pos z.cells (x % m) hlt]
      simp [hlt]
    by_cases hlm : len * m = 0
    · have hfill := fillL_eq (fun i => some (i * m, m)) pv ((Array.range (len * m)).map ((#[] : Array Value)[· % (#[] : Array Value).size]!)) cells (by rw [hlz #[] (fun q => absurd hlm q)]; exact hfill')
      simp only [hlm, if_true] at hfill ⊢
      simp only [Sem.run_bind, Sem.run_pure, Result.andThen_ok, hfill, newRow, newObj, Sem.run]
    · have hfill := fillL_eq (fun i => some (i * m, m)) pv ((Array.range (len * m)).map (z.cells[· % z.cells.size]!)) cells (by rw [hlz z.cells (fun _ => rfl)]; exact hfill')
      simp only [hlm, if_false] at ⊢
      simp only [Sem.run_bind, hzero, Sem.run_pure, Result.andThen_ok, hfill, newRow, newObj, Sem.run]
  obtain ⟨h2, h3⟩ := h w.heap.size
  simp only [wpPi, wpOp, nth_arr hi, hw a ha, if_true, Oper.wp, hr, Oper.upon]
  have hs' := hs.allocA j (A := OwnS e m (some ⟨w.heap.size, 0, none⟩) len len cells) (.cells cells.toArray e) fun h' hh' =>
    ⟨⟨hlen, Nat.le_of_ble_eq_true hl⟩, .inr ⟨w.heap.size, _, (0, 0), rfl, hh', by simpa using hlen, Nat.le_refl _, fun q _ => by simp, fun q _ => noFr0 q⟩⟩
  exact .inl ⟨h2.get hs', h3 _ _ (ha.put' he hd _) hs'⟩
/-- What append runs: where there is room; where there is none. -/
theorem append_room {sT xT e : TypeId} {dx : TypeDesc} {m k l c : Nat} {A : Option Addr} {u : Value} {new : List Value} {w w' : World} (t : TypeId) (hsT : P.underlying sT = some (.slice e)) (hxT : P.underlying xT = some dx) (hdx : (∃ e', dx = .slice e') ∨ dx = .string)
    (hz : ∀ w, (sizeOf e).run P w = .ok m w) (hsl : ∀ w, (Builtin.lenOf u).run P w = .ok l w) (hsc : (Builtin.firstCells m l u).run P w = .ok new.toArray w) (hfit : k + l ≤ c)
    (hst : ∀ a, A = some a → (storeCells (a.add (k * m)) new).run P w = .ok () w') (hn : A = none → w' = w) : (Builtin.append_ #[sT, xT] t #[.slice A k c, u]).run P w = .ok (.slice A (k + l) c) w' := by
  have h0 : (#[sT, xT] : Array TypeId)[0]? = some sT := rfl
  have h1 : (#[sT, xT] : Array TypeId)[1]? = some xT := rfl
  have h2 : (#[.slice A k c, u] : Array Value)[0]? = some (.slice A k c) := rfl
  have h3 : (#[.slice A k c, u] : Array Value)[1]? = some u := rfl
  unfold Builtin.append_
  rw [h0, h1, h2, h3]
  cases A with
  | none =>
    have := hn rfl
    subst this
    rcases hdx with ⟨e', rfl⟩ | rfl <;> simp only [Sem.run_bind, run_underlying hsT, run_underlying hxT, Result.andThen_ok, hz, Sem.run_pure, hsl, hsc, Bool.false_eq_true, if_false, Bool.not_false, if_true, hfit]
  | some a =>
    have := hst a rfl
    rcases hdx with ⟨e', rfl⟩ | rfl <;> simp only [Sem.run_bind, run_underlying hsT, run_underlying hxT, Result.andThen_ok, hz, Sem.run_pure, hsl, hsc, Bool.false_eq_true, if_false, Bool.not_false, if_true, hfit, this]
theorem append_grow {sT xT e : TypeId} {dx : TypeDesc} {m k l c : Nat} {A : Option Addr} {u z : Value} {old new : List Value} {ti : TypeInfo} {w : World} (t : TypeId) (hsT : P.underlying sT = some (.slice e)) (hxT : P.underlying xT = some dx) (hdx : (∃ e', dx = .slice e') ∨ dx = .string)
    (hz : ∀ w, (sizeOf e).run P w = .ok m w) (hti : ∀ w, (typeInfo e).run P w = .ok ti w) (hB0 : ti.bytes ≠ 0) (hzero : ∀ w, (zeroValue e).run P w = .ok z w)
    (hsl : ∀ w, (Builtin.lenOf u).run P w = .ok l w) (hsc : ∀ d, (Builtin.firstCells m l u).run P { w with drawn := d } = .ok new.toArray { w with drawn := d }) (hso : ∀ d, (Builtin.firstCells m k (.slice A k c)).run P { w with drawn := d } = .ok old.toArray { w with drawn := d })
    (hfit : c < k + l) (hroom : (2 * (k + l) + 1000) * ti.bytes ≤ 2 ^ 48) :
    ∃ c', k + l ≤ c' ∧ (Builtin.append_ #[sT, xT] t #[.slice A k c, u]).run P w = .ok (.slice (some ⟨w.heap.size, 0, none⟩) (k + l) c') { w with drawn := w.drawn + 1, heap := w.heap.push (.cells (old.toArray ++ new.toArray ++ Builtin.zeroCells z.cells (c' - (k + l))) e) } := by
  have h0 : (#[sT, xT] : Array TypeId)[0]? = some sT := rfl
  have h1 : (#[sT, xT] : Array TypeId)[1]? = some xT := rfl
  have h2 : (#[.slice A k c, u] : Array Value)[0]? = some (.slice A k c) := rfl
  have h3 : (#[.slice A k c, u] : Array Value)[1]? = some u := rfl
  have hcap := nextcap_le (k + l) c hfit
  have hb2 : ¬ (Builtin.nextslicecap (k + l) c * ti.bytes > 2 ^ 48) := by
    have := Nat.mul_le_mul_right ti.bytes hcap
    omega
  have hnf : ¬ k + l ≤ c := by omega
  refine ⟨(Question.appendCap (k + l) c e).cut (w.tape w.drawn (Question.appendCap (k + l) c e)), by simp [Question.cut], ?_⟩
  unfold Builtin.append_
  rw [h0, h1, h2, h3]
  rcases hdx with ⟨e', rfl⟩ | rfl <;>
  · simp only [Sem.run_bind, run_underlying hsT, run_underlying hxT, Result.andThen_ok, hz, hti, Sem.run_pure, hsl, Bool.false_eq_true, if_false, Bool.not_false, if_true, hnf, hB0, or_self, and_false, hb2, choose, Sem.run, Question.forced, askRoom]
    have hmark : ∀ (n : Nat) (w' : World), (if n > roomBytes then mark .noRoom else pure ()).run P w' = .ok () w' := fun n w' => by
      split <;> rfl
    simp only [hmark, Result.andThen_ok, hso, hsc, hzero, newRow, newObj, Sem.run_bind, Sem.run, Sem.run_pure]
/-- append to a slice of the call's own. -/
theorem Jp.append (d j : Nat) {x y : Operand} {sT xT e : TypeId} {dx : TypeDesc} {m k l c : Nat} {A : Option Addr} {u z : Value} {cs new : List Value} {ti : TypeInfo}
    (hi : nth ops.toList i = some o) (hw : Want n ops E o true) (he : o.dst = some d) (hd : Nat.blt d n = true)
    (hop : o.op = .call { callee := .builtin .append, args := #[x, y], argTypes := #[sT, xT] }) (hsT : P.underlying sT = some (.slice e)) (hxT : P.underlying xT = some dx) (hdx : (∃ e', dx = .slice e') ∨ dx = .string)
    (hz : ∀ w, (sizeOf e).run P w = .ok m w) (hti : ∀ w, (typeInfo e).run P w = .ok ti w) (hzero : ∀ w, (zeroValue e).run P w = .ok z w) (hzm : z.cells.size = m) (hB0 : ti.bytes ≠ 0)
    (hx : evE E x = some (.slice A k c)) (hy : evE E y = some u) (hj : look L j = some (OwnS e m A k c cs)) (hsrc : Src P cx ρ L m l u new) (hone' : new.all one = true) (q : Nat) (res : List Value) (hq : k + l = q) (hres : cs ++ new = res) (hroom : (2 * q + 1000) * ti.bytes ≤ 2 ^ 48)
    (h : ∀ A' c', Kp π S cx ρ ((j, OwnS e m A' q c' res) :: L) ∧ Jp P ops Q S n cx π ρ ((d, .slice A' q c') :: E) ((j, OwnS e m A' q c' res) :: L)) :
    Jp P ops Q S n cx ((i, false) :: π) ρ E L := by
  subst hq hres
  have hone : ∀ v ∈ new, one v = true := List.all_eq_true.1 hone'
  intro a w ha hs
  obtain ⟨hh, hA, hhw⟩ := hs.get hj
  obtain ⟨hsl, hsc⟩ := hsrc
  have hnl := (hsc w hs).1
  have hcl := hA.length
  suffices hrun : ∃ A' c' w', (Builtin.append_ #[sT, xT] o.type #[.slice A k c, u]).run P w = .ok (.slice A' (k + l) c') w' ∧ St cx ρ ((j, OwnS e m A' (k + l) c' (cs ++ new)) :: L) w' by
    obtain ⟨A', c', w', hr, hs'⟩ := hrun
    obtain ⟨h1, h2⟩ := h A' c'
    have hr' := run_builtin2 (P := P) (w := w) (v := .slice A' (k + l) c') (w' := w') hop (ha.ev hx) (ha.ev hy) (fun cs' => by simp only [builtin, Sem.run_bind, hr, Result.andThen_ok, Sem.run_pure])
    simp only [wpPi, wpOp, nth_arr hi, hw a ha, if_true, Oper.wp, hr', Oper.upon]
    exact .inl ⟨h1.get hs', h2 _ _ (ha.put' he hd _) hs'⟩
  have hlen : (cs ++ new).length = (k + l) * m := by rw [List.length_append, hcl, hnl, Nat.add_mul]
  have hkl : k + l ≤ 281474976710656 := by
    have h1 : 1 ≤ ti.bytes := Nat.pos_of_ne_zero hB0
    have h2 := Nat.mul_le_mul_left (2 * (k + l) + 1000) h1
    omega
  by_cases hfit : k + l ≤ c
  · rcases hA.2 with ⟨rfl, rfl, rfl⟩ | ⟨b, cur, fr, rfl, hb, hsz, hkc, hget, hnf⟩
    · have hl0 : l = 0 := by omega
      subst hl0
      have : new = [] := by simpa using hnl
      subst this
      have : cs = [] := by simpa using hcl
      subst this
      refine ⟨none, 0, w, append_room _ hsT hxT hdx hz hsl (hsc w hs).2 hfit (fun a h => by cases h) (fun _ => rfl), ?_⟩
      exact hs.subF fun q B e => by
        rw [look_cons] at e
        split at e
        · rename_i hq; subst hq; injection e with e; subst e; exact hj
        · exact e
    · have hbw := hhw _ _ hb
      have hle : k * m + new.length ≤ cur.size := by
        rw [hsz, hnl, ← Nat.add_mul]; exact Nat.mul_le_mul_right m hfit
      obtain ⟨w', hr, g1, g2, g3, g4, g5, g6⟩ := run_storeCells (P := P) new (k * m) 0 w cur hbw (by omega) hone (fun q a b => hnf q (by omega))
      refine ⟨some ⟨b, 0, none⟩, c, w', append_room _ hsT hxT hdx hz hsl (hsc w hs).2 hfit (fun a h => ?_) (fun h => by cases h), ?_⟩
      · injection h with h; subst h; rw [add_mk, Nat.zero_add]; exact hr
      · refine hs.setA hj (b := b) (ob := .cells cur e fr) (ob' := .cells (spl cur (k * m + 0) new) e fr) (fun h' hh' hw' => ?_) (fun h' hb' => ⟨⟨hlen, hkl⟩, .inr ⟨b, _, fr, rfl, hb', ?_, hfit, ?_, hnf⟩⟩) g1 g2 g3 g4 g5 g6
        · rcases hh'.2 with ⟨q, _⟩ | ⟨b2, cur2, fr2, q1, q2, _⟩
          · cases q
          · injection q1 with q1; injection q1 with q1 _ _; subst q1
            have := hw' _ _ q2
            rw [hbw] at this
            rw [q2, ← this]
        · rw [spl_size]; exact hsz
        · intro q hq
          rw [spl_get _ _ _ _ (by omega)]
          by_cases h1 : k * m + 0 ≤ q
          · rw [if_pos ⟨h1, by rw [hnl]; rw [Nat.add_mul] at hq; omega⟩, List.getElem?_append_right (by omega), hcl]; rfl
          · rw [if_neg (by omega), hget q (by omega), List.getElem?_append_left (by omega)]
  · obtain ⟨c', hc', hr⟩ := append_grow (P := P) (w := w) (old := cs) (new := new) (k := k) (l := l) (c := c) (A := A) (u := u) o.type hsT hxT hdx hz hti hB0 hzero hsl (fun d => (hsc _ (hs.drawn d)).2) (fun d => run_cells (w := { w with drawn := d }) hhw hA.rd) (by omega) hroom
    refine ⟨_, c', _, hr, ?_⟩
    refine (hs.drawn (w.drawn + 1)).allocA j _ fun h' hh' => ⟨⟨hlen, hkl⟩, .inr ⟨w.heap.size, _, (0, 0), rfl, hh', ?_, hc', fun q hq => ?_, fun q _ => by simp [noFr]⟩⟩
    · simp only [Array.size_append, List.size_toArray, hcl, hnl, size_zeroCells, hzm, ← Nat.add_mul]
      congr 1; omega
    · rw [Array.getElem?_append_left (by simp only [Array.size_append, List.size_toArray, hcl, hnl, ← Nat.add_mul]; exact hq)]
      simp
theorem all_take1 {l : List Value} {k : Nat} (h : l.all one = true) : (l.take k).all one = true := List.all_eq_true.2 fun v hv => List.all_eq_true.1 h v (List.mem_of_mem_take hv)
theorem all_drop1 {l : List Value} {k : Nat} (h : l.all one = true) : (l.drop k).all one = true := List.all_eq_true.2 fun v hv => List.all_eq_true.1 h v (List.mem_of_mem_drop hv)
/-! ### 20. make, copy -/
theorem Jp.makeSlice (d j : Nat) {x y : Operand} {t e : TypeId} {k : Nat} {kk kk' : IntKind} {zx zy : Int} {z : Value} {ti : TypeInfo} (hi : nth ops.toList i = some o) (hw : Want n ops E o true) (he : o.dst = some d) (hd : Nat.blt d n = true)
    (hop : o.op = .makeSlice t x y) (hT : P.underlying t = some (.slice e)) (hz : ∀ w, (sizeOf e).run P w = .ok 1 w) (hti : ∀ w, (typeInfo e).run P w = .ok ti w) (hzero : ∀ w, (zeroValue e).run P w = .ok z w) (hz1 : z.cells = #[z])
    (hx : evE E x = some (.int kk zx)) (hy : evE E y = some (.int kk' zy)) (hk : zx = (k : Int)) (hk' : zy = (k : Int)) (hroom : k * ti.bytes ≤ 2 ^ 48) (hk48 : k ≤ 281474976710656)
    (h : ∀ b, Kp π S cx ρ ((j, OwnS e 1 (some ⟨b, 0, none⟩) k k (List.replicate k z)) :: L) ∧ Jp P ops Q S n cx π ρ ((d, .slice (some ⟨b, 0, none⟩) k k) :: E) ((j, OwnS e 1 (some ⟨b, 0, none⟩) k k (List.replicate k z)) :: L)) :
    Jp P ops Q S n cx ((i, false) :: π) ρ E L := by
  intro a w ha hs
  subst hk hk'
  have hwr : IntKind.i64.wrap (k : Int) = (k : Int) := wrap_i64 (by omega) (by omega)
  have hb : ¬ ((ti.bytes : Int) * (k : Int) > 2 ^ 48) := by
    have h1 : ((k * ti.bytes : Nat) : Int) ≤ 2 ^ 48 := by exact_mod_cast hroom
    rw [Int.natCast_mul, Int.mul_comm] at h1
    omega
  have hcell : ((Array.range k).map (fun i => (#[z] : Array Value)[i % (#[z] : Array Value).size]!)) = (List.replicate k z).toArray := by
    apply Array.toList_inj.1
    rw [Array.toList_map, Array.toList_range]
    refine List.ext_getElem (by simp) fun i h1 h2 => ?_
    simp [Nat.mod_one]
  have hmark : ∀ (q : Nat) (w' : World), (if q > roomBytes then mark .noRoom else pure ()).run P w' = .ok () w' := fun q w' => by split <;> rfl
  have hr : (execOp a.eval o).run P w = .ok (.value (.slice (some ⟨w.heap.size, 0, none⟩) k k)) { w with heap := w.heap.push (.cells (List.replicate k z).toArray e) } := by
    simp only [execOp, hop, ha.ev hx, ha.ev hy, Instr.makeSlice, Sem.run_bind, run_underlying hT, Result.andThen_ok, asInt, asIntOf, Sem.run_pure, hti, hwr]
    have c1 : ((decide ((k : Int) < 0) || decide ((ti.bytes : Int) * (k : Int) > 2 ^ 48)) || decide ((k : Int) < 0) || decide ((k : Int) > (k : Int))) = false := by
      simp only [Bool.or_eq_false_iff, decide_eq_false_iff_not]; omega
    have c2 : ¬ ((decide ((k : Int) < 0) || decide ((ti.bytes : Int) * (k : Int) > 2 ^ 48)) || decide ((k : Int) < 0) || decide ((k : Int) > (k : Int))) = true := by rw [c1]; simp
    simp only [c1, Bool.false_eq_true, if_false, askRoom, Sem.run_bind, hmark, Result.andThen_ok, hz, Int.toNat_natCast, Nat.mul_one]
    by_cases hk0 : k = 0
    · subst hk0
      simp only [if_true, Sem.run_bind, Sem.run_pure, Result.andThen_ok, newRow, newObj, Sem.run]
      have e0 : ∀ (f : Nat → Value), (Array.range 0).map f = (List.replicate 0 z).toArray := fun f => by apply Array.toList_inj.1; simp
      rw [e0]
    · simp only [hk0, if_false, Sem.run_bind, hzero, Sem.run_pure, Result.andThen_ok, newRow, newObj, Sem.run, hz1, hcell]
  obtain ⟨h2, h3⟩ := h w.heap.size
  simp only [wpPi, wpOp, nth_arr hi, hw a ha, if_true, Oper.wp, hr, Oper.upon]
  have hs' := hs.allocA j (A := OwnS e 1 (some ⟨w.heap.size, 0, none⟩) k k (List.replicate k z)) (.cells (List.replicate k z).toArray e) fun h' hh' =>
    ⟨⟨by simp, hk48⟩, .inr ⟨w.heap.size, _, (0, 0), rfl, hh', by simp, Nat.le_refl _, fun q _ => by rw [List.getElem?_toArray], fun q _ => noFr0 q⟩⟩
  exact .inl ⟨h2.get hs', h3 _ _ (ha.put' he hd _) hs'⟩
/-- The first cells of a source. -/
def SrcN (P : Program) (cx : Cx) (ρ : Hp) (L : Own) (m l k : Nat) (u : Value) (cs : List Value) : Prop := (∀ w, (Builtin.lenOf u).run P w = .ok l w) ∧ ∀ w, St cx ρ L w → cs.length = k * m ∧ (Builtin.firstCells m k u).run P w = .ok cs.toArray w
theorem run_cellsN {w : World} {m k l : Nat} {A : Option Addr} {c : Nat} {cs : List Value} {h : Hp} (hw : ∀ b o, h b = some o → w.heap[b]? = some o) (r : RdS m A l c cs h) (hk : k ≤ l) : (Builtin.firstCells m k (.slice A l c)).run P w = .ok (cs.take (k * m)).toArray w :=
  (show (Builtin.firstCells m k (.slice A l c)).run P w = (Builtin.firstCells m k (.slice A k c)).run P w by cases A <;> rfl).trans (run_cells (P := P) (c := c) hw (r.take hk))
theorem SrcN.rd {m k l c : Nat} {A : Option Addr} {cs : List Value} (r : RdS m A l c cs ρ) (hk : k ≤ l) : SrcN P cx ρ L m l k (.slice A l c) (cs.take (k * m)) :=
  ⟨fun w => rfl, fun w hs => ⟨(r.take hk).1, run_cellsN hs.rho r hk⟩⟩
theorem SrcN.own (j : Nat) {e : TypeId} {m k l c : Nat} {A : Option Addr} {cs : List Value} (hj : look L j = some (OwnS e m A l c cs)) (hk : k ≤ l) : SrcN P cx ρ L m l k (.slice A l c) (cs.take (k * m)) :=
  ⟨fun w => rfl, fun w hs => let ⟨h, ha, hw⟩ := hs.get hj; ⟨(ha.rd.take hk).1, run_cellsN hw ha.rd hk⟩⟩
theorem SrcN.str {s : ByteArray} {k : Nat} (hk : k ≤ s.size) : SrcN P cx ρ L 1 s.size k (.string s) ((bytesV (Ytjjhihlmoecmlaa.str s)).take k) := by
  refine ⟨fun w => rfl, fun w hs => ⟨?_, ?_⟩⟩
  · have e0 : (bytesV (Ytjjhihlmoecmlaa.str s)).length = s.size := by rw [bytesV, List.length_map, Ytjjhihlmoecmlaa.str, Array.length_toList]; rfl
    rw [List.length_take, e0, Nat.mul_one]; exact Nat.min_eq_left hk
  have h1 : (s.extract 0 k).data = s.data.extract 0 k := by rw [ByteArray.data_extract]
  simp only [Builtin.firstCells, h1]
  show Result.ok _ w = _
  congr 1
  apply Array.toList_inj.1
  simp [bytesV, Ytjjhihlmoecmlaa.str, List.map_take]
/-- copy over the begin of a slice of the call's own. -/
theorem Jp.copy (d j : Nat) {x y : Operand} {sT xT e : TypeId} {m k l c r : Nat} {A : Option Addr} {u : Value} {cs new : List Value} (hi : nth ops.toList i = some o) (hw : Want n ops E o true) (he : o.dst = some d) (hd : Nat.blt d n = true)
    (hop : o.op = .call { callee := .builtin .copy, args := #[x, y], argTypes := #[sT, xT] }) (hsT : P.underlying sT = some (.slice e)) (hz : ∀ w, (sizeOf e).run P w = .ok m w)
    (hx : evE E x = some (.slice A k c)) (hy : evE E y = some u) (hj : look L j = some (OwnS e m A k c cs)) (hsrc : SrcN P cx ρ L m l r u new) (hr : Nat.min l k = r) (hone' : new.all one = true) (res : List Value) (hres : new ++ cs.drop (r * m) = res)
    (h : Kp π S cx ρ ((j, OwnS e m A k c res) :: L) ∧ Jp P ops Q S n cx π ρ ((d, .int .i64 r) :: E) ((j, OwnS e m A k c res) :: L)) :
    Jp P ops Q S n cx ((i, false) :: π) ρ E L := by
  intro a w ha hs
  subst hres
  have hone : ∀ v ∈ new, one v = true := List.all_eq_true.1 hone'
  obtain ⟨hh, hA, hhw⟩ := hs.get hj
  obtain ⟨hsl, hsc⟩ := hsrc
  obtain ⟨hnl, hsc⟩ := hsc w hs
  have hcl := hA.length
  have hrk : r ≤ k := by subst hr; exact Nat.min_le_right ..
  obtain ⟨h1, h2⟩ := h
  have g0 : (#[sT, xT] : Array TypeId)[0]? = some sT := rfl
  have g2 : (#[.slice A k c, u] : Array Value)[0]? = some (.slice A k c) := rfl
  have g3 : (#[.slice A k c, u] : Array Value)[1]? = some u := rfl
  have hlen : (new ++ cs.drop (r * m)).length = k * m := by
    rw [List.length_append, List.length_drop, hnl, hcl]
    have := Nat.mul_le_mul_right m hrk
    omega
  suffices hrun : ∃ w', (Builtin.copy_ #[sT, xT] o.type #[.slice A k c, u]).run P w = .ok (.int .i64 r) w' ∧ St cx ρ ((j, OwnS e m A k c (new ++ cs.drop (r * m))) :: L) w' by
    obtain ⟨w', hr1, hs'⟩ := hrun
    have hr' := run_builtin2 (P := P) (w := w) (v := .int .i64 r) (w' := w') hop (ha.ev hx) (ha.ev hy) (fun cs' => by simp only [builtin, Sem.run_bind, hr1, Result.andThen_ok, Sem.run_pure])
    simp only [wpPi, wpOp, nth_arr hi, hw a ha, if_true, Oper.wp, hr', Oper.upon]
    exact .inl ⟨h1.get hs', h2 _ _ (ha.put' he hd _) hs'⟩
  rcases hA.2 with ⟨rfl, rfl, rfl⟩ | ⟨b, cur, fr, rfl, hb, hsz, hkc, hget, hnf⟩
  · have : r = 0 := by omega
    subst this
    have : new = [] := by simpa using hnl
    subst this
    refine ⟨w, ?_, ?_⟩
    · unfold Builtin.copy_
      rw [g0, g2, g3]
      simp only [Sem.run_bind, run_underlying hsT, Result.andThen_ok, hsl, hr, hz, hsc, Sem.run_pure]
      rfl
    · have e1 : ([] ++ cs.drop (0 * m)) = cs := by simp
      rw [e1]
      exact hs.subF fun q B e => by
        rw [look_cons] at e
        split at e
        · rename_i hq; subst hq; injection e with e; subst e; exact hj
        · exact e
  · have hbw := hhw _ _ hb
    have hrm := Nat.mul_le_mul_right m (Nat.le_trans hrk hkc)
    obtain ⟨w', hr2, q1, q2, q3, q4, q5, q6⟩ := run_storeCells (P := P) new 0 0 w cur hbw (by omega) hone (fun q a b => hnf q (by omega))
    refine ⟨w', ?_, ?_⟩
    · unfold Builtin.copy_
      rw [g0, g2, g3]
      simp only [Sem.run_bind, run_underlying hsT, Result.andThen_ok, hsl, hr, hz, hsc, Sem.run_pure, hr2, goInt]
    · refine hs.setA hj (b := b) (ob := .cells cur e fr) (ob' := .cells (spl cur (0 + 0) new) e fr) (fun h' hh' hw' => ?_) (fun h' hb' => ⟨⟨hlen, hA.1.2⟩, .inr ⟨b, _, fr, rfl, hb', ?_, hkc, ?_, hnf⟩⟩) q1 q2 q3 q4 q5 q6
      · rcases hh'.2 with ⟨q, _⟩ | ⟨b2, cur2, fr2, p1, p2, _⟩
        · cases q
        · injection p1 with p1; injection p1 with p1 _ _; subst p1
          have := hw' _ _ p2
          rw [hbw] at this
          rw [p2, ← this]
      · rw [spl_size]; exact hsz
      · intro q hq
        rw [spl_get _ _ _ _ (by omega)]
        by_cases hh1 : 0 + 0 ≤ q ∧ q < 0 + 0 + new.length
        · rw [if_pos hh1, List.getElem?_append_left (by omega)]; rfl
        · rw [if_neg hh1, hget q hq, List.getElem?_append_right (by omega), List.getElem?_drop, hnl]
          congr 1; omega
end
end Go.Proofs.Ytjjhihlmoecmlaa
