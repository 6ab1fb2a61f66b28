/- Rows: what an argument that came in reads as, level by level; from a contract to a row's walk. -/
import Derived.Test.YtjjhihlmoecmlaaEngE
import Derived.Test.YtjjhihlmoecmlaaRows
import Derived.WalkKit
import Derived.ProofKit
import Derived.OpenShut
import Derived.ChangeOld
import Derived.Below
import Derived.SizedLaws
set_option linter.unusedVariables false
set_option linter.unusedSimpArgs false
namespace Go.Proofs.Ytjjhihlmoecmlaa
open Go Go.ChangeShapes Go.WideShapes Go.ChangeAt Go.RowKit
def whole (w : World) : Hp := fun b => w.heap[b]?
theorem cellH_whole {w : World} {a : Addr} {v : Value} (h : w.cell? a = some v) : cellH (whole w) a = some v := h
/-- The cells read as a datum of the type, and nothing in it is beyond the reach. -/
def Rdd (P : Program) (w : World) (t : TypeId) (cs : List Value) : Prop :=
  ∃ (H : Type) (enc : TypeId × Value → H) (base : Nat) (spare : Nat → Bool) (held : Bool) (fuel : Nat) (d : DataW H) (ps : List MemPlace),
    DataW.trod enc P w base spare held fuel t cs = some (d, ps) ∧ ∀ n ∈ d.weights P t, n ≤ reachBytes
theorem Rdd.arg {H : Type} {enc : TypeId × Value → H} {P : Program} {w : World} {base : Nat} {spare : Nat → Bool} {held : Bool} {t : TypeId} {v : Value} {d : DataW H} {ps : List MemPlace} {ts : List TypeId} {ds : List (DataW H)} {j : Nat}
    (h : DataW.Trod enc P w base spare held t v d ps) (hs : (DataW.weightsEach P ts ds).all (· ≤ reachBytes) = true) (ht : ts[j]? = some t) (hd : ds[j]? = some d) : Rdd P w t v.cells.toList := by
  obtain ⟨fuel, h⟩ := h
  exact ⟨H, enc, base, spare, held, fuel, d, ps, h, fun n hn => by simpa using List.all_eq_true.1 hs n (DataW.weights_mem_each ht hd n hn)⟩
theorem Rdd.int {P : Program} {w : World} {t : TypeId} {cs : List Value} {k : IntKind} (hu : P.underlying t = some (.int k)) (h : Rdd P w t cs) : ∃ n, cs = [.int k n] ∧ (Lit.int k n).wf = true := by
  obtain ⟨H, enc, base, spare, held, fuel, d, ps, h, hs⟩ := h
  obtain ⟨n, h1, _, h3⟩ := DataW.trod_int hu h
  exact ⟨n, h1, h3⟩
theorem Rdd.bool {P : Program} {w : World} {t : TypeId} {cs : List Value} (hu : P.underlying t = some .bool) (h : Rdd P w t cs) : ∃ b, cs = [.bool b] := by
  obtain ⟨H, enc, base, spare, held, fuel, d, ps, h, hs⟩ := h
  obtain ⟨n, h1, _⟩ := DataW.trod_bool hu h
  exact ⟨n, h1⟩
theorem Rdd.string {P : Program} {w : World} {t : TypeId} {cs : List Value} (hu : P.underlying t = some .string) (h : Rdd P w t cs) : ∃ s : ByteArray, cs = [.string s] ∧ s.size ≤ reachBytes := by
  obtain ⟨H, enc, base, spare, held, fuel, d, ps, h, hs⟩ := h
  obtain ⟨s, h1, h2, _⟩ := DataW.trod_string hu h
  injection h2 with h2 _
  subst h2
  exact ⟨s, h1, hs _ (by rw [DataW.weights]; simp)⟩
theorem Rdd.struct {P : Program} {w : World} {t : TypeId} {cs : List Value} {fs : Array Field} (hu : P.underlying t = some (.struct fs)) (h : Rdd P w t cs) :
    cs.length = P.cellsOf t ∧ ∀ (i : Nat) (f : Field), fs[i]? = some f → Rdd P w f.type ((cs.drop f.offset).take (P.cellsOf f.type)) := by
  obtain ⟨H, enc, base, spare, held, fuel, d, ps, h, hs⟩ := h
  obtain ⟨xs, n, rfl, h2, h3, h4, h5⟩ := DataW.trod_struct hu h
  injection h2 with h2 _
  subst h2
  refine ⟨h3, fun i f hf => ?_⟩
  have hi : i < xs.length := by rw [h4]; exact (Array.getElem?_eq_some_iff.1 hf).1
  have e : xs[i]? = some xs[i] := by simp [hi]
  refine ⟨H, enc, base, spare, held, n, xs[i].1, xs[i].2, (h5 i f hf).trans e, fun m hm => hs m ?_⟩
  rw [DataW.weights, hu]
  exact DataW.weights_mem_each (j := i) (t := f.type) (d := xs[i].1) (by rw [List.getElem?_map, Array.getElem?_toList, hf]; rfl) (by rw [List.getElem?_map, e]; rfl) m hm
theorem weightsAll_mem {H : Type} {P : Program} {e : TypeId} {d : DataW H} {n : Nat} (hn : n ∈ d.weights P e) : ∀ {l : List (DataW H)}, d ∈ l → n ∈ DataW.weightsAll P e l := by
  intro l
  induction l with
  | nil => intro h; cases h
  | cons x l ih =>
    intro h
    rw [DataW.weightsAll, List.mem_append]
    rcases List.mem_cons.1 h with rfl | h
    · exact .inl hn
    · exact .inr (ih h)
theorem flatten_get {α : Type} {m : Nat} : ∀ {rows : List (List α)}, (∀ r ∈ rows, r.length = m) → ∀ {j : Nat} {v : α}, rows.flatten[j]? = some v → ∃ i r k, rows[i]? = some r ∧ k < m ∧ r[k]? = some v ∧ j = i * m + k := by
  intro rows
  induction rows with
  | nil => intro _ j v h; simp at h
  | cons r rs ih =>
    intro hm j v h
    have hr := hm r (by simp)
    rw [List.flatten_cons] at h
    by_cases hj : j < m
    · rw [List.getElem?_append_left (by omega)] at h
      exact ⟨0, r, j, rfl, hj, h, by omega⟩
    · rw [List.getElem?_append_right (by omega), hr] at h
      obtain ⟨i, r', k, h1, h2, h3, h4⟩ := ih (fun r hr => hm r (by simp [hr])) h
      exact ⟨i + 1, r', k, by simpa using h1, h2, h3, by rw [Nat.succ_mul]; omega⟩
theorem flatten_len {α : Type} {m : Nat} : ∀ {rows : List (List α)}, (∀ r ∈ rows, r.length = m) → rows.flatten.length = rows.length * m := by
  intro rows
  induction rows with
  | nil => intro _; simp
  | cons r rs ih => intro hm; rw [List.flatten_cons, List.length_append, ih (fun r hr => hm r (by simp [hr])), hm r (by simp), List.length_cons, Nat.succ_mul]; omega
theorem Rdd.slice {P : Program} {w : World} {t e : TypeId} {cs : List Value} {m : Nat} (hu : P.underlying t = some (.slice e)) (hm : P.cellsOf e = m) (hb : 1 ≤ P.bytesOf e) (h : Rdd P w t cs) :
    ∃ (A : Option Addr) (len cap : Nat) (rows : List (List Value)), cs = [.slice A len cap] ∧ rows.length = len ∧ (∀ r ∈ rows, r.length = m ∧ Rdd P w e r) ∧ RdS m A len cap rows.flatten (whole w) := by
  subst hm
  obtain ⟨H, enc, base, spare, held, fuel, d, ps, h, hs⟩ := h
  rcases DataW.trod_slice hu h with ⟨h1, h2⟩ | ⟨a, len, cap, elems, rest, n, rfl, h1, h2, h3, h4, h5, h6, h7, h8, h9⟩
  · exact ⟨none, 0, 0, [], h1, rfl, fun r hr => absurd hr (by simp), RdS.nil _ _⟩
  · injection h2 with h2 _
    subst h2
    rw [DataW.weights, hu] at hs
    have hw := hs _ (List.mem_cons_self ..)
    have hlen : len ≤ 281474976710656 := by
      have := Nat.mul_le_mul_left ((elems.map (·.1)).length + (rest.map (·.1)).length) hb
      rw [List.length_map, List.length_map] at this hw
      have h10 : reachBytes = 140737488351232 := rfl
      omega
    have key : ∀ i, i < len → ∃ r x, elems[i]? = some x ∧ w.cells? base (a.add (i * P.cellsOf e)) (P.cellsOf e) = some r ∧ DataW.trod enc P w base spare held n e r = some x := by
      intro i hi
      have h10 := h7 i hi
      have e1 : elems[i]? = some elems[i] := by simp [h6, hi]
      rw [e1, Option.bind_eq_some_iff] at h10
      obtain ⟨r, h11, h12⟩ := h10
      exact ⟨r, _, e1, h11, h12⟩
    have hrow : ∀ i, i < len → ∃ x, elems[i]? = some x ∧ w.cells? base (a.add (i * P.cellsOf e)) (P.cellsOf e) = some ((w.cells? base (a.add (i * P.cellsOf e)) (P.cellsOf e)).getD []) ∧ DataW.trod enc P w base spare held n e ((w.cells? base (a.add (i * P.cellsOf e)) (P.cellsOf e)).getD []) = some x := by
      intro i hi
      obtain ⟨r, x, e1, e2, e3⟩ := key i hi
      rw [e2]; exact ⟨x, e1, rfl, e3⟩
    have hall : ∀ r ∈ (List.range len).map (fun i => (w.cells? base (a.add (i * P.cellsOf e)) (P.cellsOf e)).getD []), r.length = P.cellsOf e ∧ Rdd P w e r := by
      intro r hr
      obtain ⟨i, hi, rfl⟩ := List.mem_map.1 hr
      obtain ⟨x, e1, e2, e3⟩ := hrow i (List.mem_range.1 hi)
      refine ⟨(World.cells?_some e2).2.1, H, enc, base, spare, held, n, x.1, x.2, e3, fun q hq => hs q (List.mem_cons_of_mem _ (List.mem_append_left _ (weightsAll_mem hq (List.mem_map.2 ⟨x, List.mem_of_getElem? e1, rfl⟩))))⟩
    refine ⟨some a, len, cap, (List.range len).map fun i => (w.cells? base (a.add (i * P.cellsOf e)) (P.cellsOf e)).getD [], h1, by simp, hall, ?_⟩
    refine ⟨by rw [flatten_len (fun r hr => (hall r hr).1)]; simp, ⟨h4, hlen⟩, fun j v hj => ?_⟩
    obtain ⟨i, r, k, f1, f2, f3, rfl⟩ := flatten_get (fun r hr => (hall r hr).1) hj
    rw [List.getElem?_map] at f1
    cases hi : (List.range len)[i]? with
    | none => rw [hi] at f1; cases f1
    | some i' =>
      rw [hi] at f1
      injection f1 with f1
      obtain ⟨g1, g2⟩ := List.getElem?_eq_some_iff.1 hi
      rw [List.getElem_range] at g2
      subst g2
      rw [List.length_range] at g1
      obtain ⟨x, e1, e2, e3⟩ := hrow i g1
      dsimp only at f1
      rw [f1] at e2
      have := (World.cells?_some e2).2.2 k f2
      rw [f3, Addr.add_add] at this
      exact ⟨a, rfl, cellH_whole this⟩
/-- The rows of a slice, each of a known make. -/
theorem rows_of {α : Type} {rows : List (List Value)} {c : α → List Value} {I : α → Prop} (h : ∀ r ∈ rows, ∃ x, r = c x ∧ I x) : ∃ xs : List α, rows = xs.map c ∧ ∀ x ∈ xs, I x := by
  induction rows with
  | nil => exact ⟨[], rfl, fun x hx => by cases hx⟩
  | cons r rs ih =>
    obtain ⟨x, hx, ix⟩ := h r (by simp)
    obtain ⟨xs, h1, h2⟩ := ih (fun r hr => h r (by simp [hr]))
    exact ⟨x :: xs, by rw [hx, h1]; rfl, fun y hy => by rcases List.mem_cons.1 hy with rfl | hy; exact ix; exact h2 y hy⟩
theorem flat_one {α : Type} {c : α → Value} (l : List α) : (l.map fun x => [c x]).flatten = l.map c := by
  induction l with
  | nil => rfl
  | cons x l ih => simp [ih]
theorem Rdd.cut {P : Program} {w : World} {e : TypeId} {cs : List Value} {o m : Nat} (cs' : List Value) (h : Rdd P w e ((cs.drop o).take (P.cellsOf e))) (hm : P.cellsOf e = m) (hc : (cs.drop o).take m = cs') : Rdd P w e cs' := by subst hm hc; exact h
/-! ### Values of arguments -/
theorem val_slice {P : Program} {w W : World} {r : Reach} {b : Nat} {t e : TypeId} {v : Value} {A : Option Addr} {l c : Nat} (hu : P.underlying t = some (.slice e)) (h : Value.okWide P W r b t v) (hc : v.cells.toList = [.slice A l c]) : v = .slice A l c := by
  cases v <;> simp_all [Value.okWide, Cell.okWide, Cell.ok, Value.cells]
theorem val_int {P : Program} {w W : World} {r : Reach} {b : Nat} {t : TypeId} {v : Value} {k : IntKind} {n : Int} (hu : P.underlying t = some (.int k)) (h : Value.okWide P W r b t v) (hc : v.cells.toList = [.int k n]) : v = .int k n := by
  cases v <;> simp_all [Value.okWide, Cell.okWide, Cell.ok, Value.cells]
theorem val_bool {P : Program} {w W : World} {r : Reach} {b : Nat} {t : TypeId} {v : Value} {x : Bool} (hu : P.underlying t = some .bool) (h : Value.okWide P W r b t v) (hc : v.cells.toList = [.bool x]) : v = .bool x := by
  cases v <;> simp_all [Value.okWide, Cell.okWide, Cell.ok, Value.cells]
theorem val_string {P : Program} {w W : World} {r : Reach} {b : Nat} {t : TypeId} {v : Value} {x : ByteArray} (hu : P.underlying t = some .string) (h : Value.okWide P W r b t v) (hc : v.cells.toList = [.string x]) : v = .string x := by
  cases v <;> simp_all [Value.okWide, Cell.okWide, Cell.ok, Value.cells]
theorem val_struct {P : Program} {w W : World} {r : Reach} {b : Nat} {t : TypeId} {v : Value} {fs : Array Field} {cs : List Value} (hu : P.underlying t = some (.struct fs)) (h : Value.okWide P W r b t v) (hc : v.cells.toList = cs) : v = .agg cs.toArray := by
  simp only [Value.okWide, hu] at h
  obtain ⟨cs', rfl, _⟩ := h
  subst hc
  simp [Value.cells]
/-- From a contract to the walk of a row. -/
theorem Spec.walk {P : Program} {f : FuncId} {args : Array Value} {R : Hp → Prop} (h : Spec P f args R [] (fun _ _ v L => v = .bool true ∧ L = [])) (w : World) (hR : R (whole w)) :
    Calls P f args w fun e w' => e = .returned (.bool true) ∧ Below w.heap.size w w' := by
  refine (h w (fun _ => False) (whole w) hR (St.refl w _ _ fun b o e => e)).mono fun e w' ⟨v, ρ', L, he, ⟨hv, hL⟩, hs⟩ => ?_
  subst hv
  exact ⟨he, ⟨hs.os, hs.tape, hs.output, hs.size, fun k hk => hs.frame k hk id⟩⟩
end Go.Proofs.Ytjjhihlmoecmlaa
