import Derived.Test.YtkjeidoplonkjaaZEngY
import Derived.Test.YtkjeidoplonkjaaZTypes
import Derived.Lib.Bytealg
import Derived.Lib.IndexLaws
import Derived.Laws.StandIn
set_option linter.unusedVariables false
set_option linter.unusedSimpArgs false
set_option maxRecDepth 100000
namespace Go.Proofs.Ytkjeidoplonkjaa
open Go
abbrev Bytes := List UInt8
structure Sl (α : Type) where
  A : Option Addr
  c : Nat
  xs : List α
def Sl.v {α : Type} (s : Sl α) : Value := .slice s.A s.xs.length s.c
def intsV (k : IntKind) (l : List Int) : List Value := l.map fun x => .int k x
def strsV (l : List ByteArray) : List Value := l.map fun s => .string s
theorem str_size (s : ByteArray) : s.size = (str s).length := by unfold str; rw [Array.length_toList]; rfl
def RdB (s : Sl UInt8) : HProp := RdS 1 s.A s.xs.length s.c (bytesV s.xs)
def RdI (k : IntKind) (s : Sl Int) : HProp := RdS 1 s.A s.xs.length s.c (intsV k s.xs)
def RdStr (s : Sl ByteArray) : HProp := RdS 1 s.A s.xs.length s.c (strsV s.xs)
theorem RdB.up (s : Sl UInt8) : Up (RdB s) := RdS.up _ _ _ _ _
theorem RdI.up (k : IntKind) (s : Sl Int) : Up (RdI k s) := RdS.up _ _ _ _ _
theorem RdStr.up (s : Sl ByteArray) : Up (RdStr s) := RdS.up _ _ _ _ _
theorem callIdx (s : ByteArray) (c : Int) (w : World) : (callFunc 150 #[.string s, .int .u8 c]).run Try.prog w = .ok (.value (.int .i64 (Lib.indexByte s.data.toList c.toNat.toUInt8))) w := by
  rw [run_callFunc_indexByte Try.func150 (by kernel_rfl) (by kernel_rfl) (by kernel_rfl) (by kernel_rfl), Lib.run_indexByteString]
  rfl
theorem Y.idx {n : Nat} {cx : Cx} {ρ : Hp} {E : Env} {L : Own} {o : Oper} {x y : Operand} {ts : Array TypeId} {s : ByteArray} {c : Int} (hop : o.op = .call { callee := .value (.func 150), args := #[x, y], argTypes := ts }) (hx : evE E x = some (.string s)) (hy : evE E y = some (.int .u8 c)) :
    Y Try.prog n cx ρ E L o (.int .i64 (Lib.indexByte s.data.toList c.toNat.toUInt8)) := fun a w ha _ => by
  have hf : a.eval (.func 150) = .func (.func 150) #[] #[] := rfl
  simp only [execOp, hop, resolve, List.map_toArray, List.map_cons, List.map_nil, ha.ev hx, ha.ev hy, hf, Deferred.ofValue, Sem.run_bind, Sem.run_pure, Result.andThen_ok, invoke]
  exact callIdx s c w
def RdRows {α : Type} (m : Nat) (c : α → List Value) (I : α → HProp) (s : Sl α) : HProp := fun h => RdS m s.A s.xs.length s.c (s.xs.flatMap c) h ∧ ∀ x ∈ s.xs, I x h
theorem RdRows.up {α : Type} {m : Nat} {c : α → List Value} {I : α → HProp} (hI : ∀ x, Up (I x)) (s : Sl α) : Up (RdRows m c I s) := fun h k l ⟨a, b⟩ => ⟨RdS.up _ _ _ _ _ h k l a, fun x hx => hI x h k l (b x hx)⟩
theorem flatMap_get {α : Type} {m : Nat} {c : α → List Value} (hm : ∀ x, (c x).length = m) : ∀ {l : List α} {k j : Nat} {x : α} {v : Value}, l[k]? = some x → (c x)[j]? = some v → (l.flatMap c)[k * m + j]? = some v := by
  intro l
  induction l with
  | nil => intro k j x v h; simp at h
  | cons y l ih =>
    intro k j x v h hv
    rw [List.flatMap_cons]
    have hj : j < m := by rw [← hm x]; exact (List.getElem?_eq_some_iff.1 hv).1
    cases k with
    | zero =>
      simp at h; subst h
      rw [List.getElem?_append_left (by rw [hm]; omega), Nat.zero_mul, Nat.zero_add]; exact hv
    | succ k =>
      have h' : l[k]? = some x := by simpa using h
      rw [List.getElem?_append_right (by rw [hm, Nat.succ_mul]; omega), hm, ← ih h' hv]
      congr 1
      rw [Nat.succ_mul]; omega
theorem RdRows.at {α : Type} {m : Nat} {c : α → List Value} {I : α → HProp} {s : Sl α} {h : Hp} (hm : ∀ x, (c x).length = m) (hm0 : 0 < m) (r : RdRows m c I s h) {k : Nat} {x : α} (e : s.xs[k]? = some x) : ∃ ad, s.A = some ad ∧ Cells h (ad.add (k * m)) (c x) ∧ I x h := by
  have key : ∀ j v, (c x)[j]? = some v → ∃ ad, s.A = some ad ∧ cellH h (ad.add (k * m + j)) = some v := fun j v hv => r.1.2.2 _ _ (flatMap_get hm e hv)
  obtain ⟨ad, hA, _⟩ := key 0 ((c x)[0]'(by rw [hm]; exact hm0)) (by simp [hm, hm0])
  refine ⟨ad, hA, fun j v hv => ?_, r.2 x (List.mem_of_getElem? e)⟩
  obtain ⟨ad', h1, h2⟩ := key j v hv
  rw [hA] at h1
  injection h1 with h1
  rw [add_add, h1]; exact h2
def natsV (k : IntKind) (l : List Nat) : List Value := l.map fun (x : Nat) => Value.int k (x : Int)
end Go.Proofs.Ytkjeidoplonkjaa
set_option linter.unusedVariables false
set_option linter.unusedSimpArgs false
set_option maxRecDepth 100000
namespace Go.Proofs.Ytkjeidoplonkjaa
open Go Go.ChangeShapes Go.WideShapes Go.ChangeAt Go.RowKit
theorem wf_i64 {n : Int} (h : (Lit.int .i64 n).wf = true) : -9223372036854775808 ≤ n ∧ n ≤ 9223372036854775807 := by
  rw [Lit.wf, Bool.and_eq_true] at h
  exact ⟨of_decide_eq_true h.1, of_decide_eq_true h.2⟩
theorem wf_u32 {n : Int} (h : (Lit.int .u32 n).wf = true) : ∃ m : Nat, n = m ∧ m < 4294967296 := by
  rw [Lit.wf, Bool.and_eq_true] at h
  have h1 : 0 ≤ n := of_decide_eq_true h.1
  have h2 : n ≤ 4294967295 := of_decide_eq_true h.2
  exact ⟨n.toNat, by omega, by omega⟩
theorem Rdd.ints {w : World} {t e : TypeId} {cs : List Value} {k : IntKind} (hu : Try.prog.underlying t = some (.slice e)) (he : Try.prog.underlying e = some (.int k)) (hm : Try.prog.cellsOf e = 1) (hb : 1 ≤ Try.prog.bytesOf e) (h : Rdd Try.prog w t cs) :
    ∃ s : Sl Int, cs = [s.v] ∧ RdI k s (whole w) ∧ ∀ x ∈ s.xs, (Lit.int k x).wf = true := by
  obtain ⟨A, len, cap, rows, e0, hl, hrow, hrd⟩ := Rdd.slice hu hm hb h
  obtain ⟨xs, rfl, hx⟩ := rows_of (c := fun x => [Value.int k x]) (I := fun x => (Lit.int k x).wf = true) (fun r hr => by
    obtain ⟨n, h1, h2⟩ := Rdd.int he (hrow r hr).2; exact ⟨n, h1, h2⟩)
  rw [flat_one] at hrd
  rw [List.length_map] at hl
  subst hl
  exact ⟨⟨A, cap, xs⟩, e0, hrd, hx⟩
theorem Rdd.u8s {w : World} {t e : TypeId} {cs : List Value} (hu : Try.prog.underlying t = some (.slice e)) (he : Try.prog.underlying e = some (.int .u8)) (hm : Try.prog.cellsOf e = 1) (hb : 1 ≤ Try.prog.bytesOf e) (h : Rdd Try.prog w t cs) :
    ∃ s : Sl UInt8, cs = [s.v] ∧ RdB s (whole w) := by
  obtain ⟨A, len, cap, rows, e0, hl, hrow, hrd⟩ := Rdd.slice hu hm hb h
  obtain ⟨xs, rfl, hx⟩ := rows_of (c := fun x : UInt8 => [Value.int .u8 (x.toNat : Int)]) (I := fun x => True) (fun r hr => by
    obtain ⟨n, h1, h2⟩ := Rdd.int he (hrow r hr).2
    rw [Lit.wf, Bool.and_eq_true] at h2
    refine ⟨UInt8.ofNat n.toNat, ?_, trivial⟩
    rw [h1]
    have : ((UInt8.ofNat n.toNat).toNat : Int) = n := by
      rw [UInt8.toNat_ofNat']
      have h3 : 0 ≤ n := of_decide_eq_true h2.1
      have h4 : n ≤ 255 := of_decide_eq_true h2.2
      omega
    rw [this])
  rw [flat_one] at hrd
  rw [List.length_map] at hl
  subst hl
  exact ⟨⟨A, cap, xs⟩, e0, hrd⟩
end Go.Proofs.Ytkjeidoplonkjaa
set_option linter.unusedVariables false
set_option linter.unusedSimpArgs false
set_option maxRecDepth 100000
namespace Go.Proofs.Ytkjeidoplonkjaa
open Go
theorem bytesV_leB (xs : Bytes) (v : Nat) : bytesV xs ++ [.int .u8 ((UInt8.ofNat v).toNat : Int), .int .u8 ((UInt8.ofNat (v / 2 ^ (8 * 1))).toNat : Int), .int .u8 ((UInt8.ofNat (v / 2 ^ (8 * 2))).toNat : Int), .int .u8 ((UInt8.ofNat (v / 2 ^ (8 * 3))).toNat : Int)] = bytesV (xs ++ leB v 4) := by
  have e : leB v 4 = [UInt8.ofNat v, UInt8.ofNat (v / 2 ^ (8 * 1)), UInt8.ofNat (v / 2 ^ (8 * 2)), UInt8.ofNat (v / 2 ^ (8 * 3))] := by
    simp [leB, List.range, List.range.loop]
  rw [e, bytesV, bytesV, List.map_append]; rfl
end Go.Proofs.Ytkjeidoplonkjaa
set_option linter.unusedVariables false
set_option linter.unusedSimpArgs false
set_option maxRecDepth 100000
namespace Go.Proofs.Ytkjeidoplonkjaa
open Go
def lay (p : Bytes) (k : Nat) (b : Bytes) : Bytes := p.take k ++ b ++ p.drop (k + b.length)
theorem lay_length {p : Bytes} {k : Nat} {b : Bytes} (h : k + b.length ≤ p.length) : (lay p k b).length = p.length := by
  simp only [lay, List.length_append, List.length_take, List.length_drop]; omega
theorem lay_nil (p : Bytes) (k : Nat) : lay p k [] = p := by simp [lay]
theorem lay_snoc_set {p : Bytes} {k : Nat} {a : Bytes} {x : UInt8} (h : k + a.length < p.length) : (lay p k a).set (k + a.length) x = lay p k (a ++ [x]) := by
  have h1 : (p.take k ++ a).length = k + a.length := by rw [List.length_append, List.length_take]; omega
  rw [lay, List.set_append_right _ _ (by omega), h1, Nat.sub_self, lay]
  have : p.drop (k + a.length) = p[k + a.length] :: p.drop (k + a.length + 1) := List.drop_eq_getElem_cons h
  rw [this, List.set_cons_zero, List.length_append, List.length_singleton, List.append_assoc, List.append_assoc, List.append_assoc]; rfl
theorem bytesV_set (p : Bytes) (k : Nat) (x : UInt8) : (bytesV p).set k (.int .u8 (x.toNat : Int)) = bytesV (p.set k x) := by rw [bytesV, bytesV, List.map_set]
def byteAt (x : Int) (j : Nat) : UInt8 := UInt8.ofNat (x.toNat / 2 ^ (8 * j) % 256)
def le32 (x : Int) : Bytes := [byteAt x 0, byteAt x 1, byteAt x 2, byteAt x 3]
end Go.Proofs.Ytkjeidoplonkjaa
