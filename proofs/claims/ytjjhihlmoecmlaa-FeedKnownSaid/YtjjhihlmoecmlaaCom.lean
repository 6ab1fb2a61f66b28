/- Slices, strings, integers, as they lie; IndexByte. -/
import Derived.Test.YtjjhihlmoecmlaaEngO
import Derived.Test.YtjjhihlmoecmlaaTypes
import Derived.Lib.Bytealg
import Derived.Lib.IndexLaws
import Derived.Laws.StandIn
set_option linter.unusedVariables false
set_option linter.unusedSimpArgs false
set_option maxRecDepth 100000
namespace Go.Proofs.Ytjjhihlmoecmlaa
open Go
abbrev Bytes := List UInt8
/-- A slice as it lies: where, how much room, what it holds. -/
structure Sl (α : Type) where
  A : Option Addr
  c : Nat
  xs : List α
def Sl.v {α : Type} (s : Sl α) : Value := .slice s.A s.xs.length s.c
def intsV (k : IntKind) (l : List Int) : List Value := l.map fun x => .int k x
def strsV (l : List ByteArray) : List Value := l.map fun s => .string s
theorem str_size (s : ByteArray) : s.size = (str s).length := by unfold str; rw [Array.length_toList]; rfl
theorem intsV_one (k : IntKind) (l : List Int) : (intsV k l).all one = true := by
  rw [List.all_eq_true]; intro v hv; obtain ⟨x, _, rfl⟩ := List.mem_map.1 hv; rfl
theorem strsV_one (l : List ByteArray) : (strsV l).all one = true := by
  rw [List.all_eq_true]; intro v hv; obtain ⟨x, _, rfl⟩ := List.mem_map.1 hv; rfl
def RdB (s : Sl UInt8) : HProp := RdS 1 s.A s.xs.length s.c (bytesV s.xs)
def RdI (k : IntKind) (s : Sl Int) : HProp := RdS 1 s.A s.xs.length s.c (intsV k s.xs)
def RdStr (s : Sl ByteArray) : HProp := RdS 1 s.A s.xs.length s.c (strsV s.xs)
theorem RdB.up (s : Sl UInt8) : Up (RdB s) := RdS.up _ _ _ _ _
theorem RdI.up (k : IntKind) (s : Sl Int) : Up (RdI k s) := RdS.up _ _ _ _ _
theorem RdStr.up (s : Sl ByteArray) : Up (RdStr s) := RdS.up _ _ _ _ _
theorem idx_neg (s : Bytes) (c : UInt8) : (Lib.indexByte s c < 0) ↔ s.contains c = false := by
  have hge := Lib.indexByte_ge s c
  constructor
  · intro h
    have h1 : Lib.indexByte s c = -1 := by omega
    have h2 := Lib.indexByte_none h1
    rw [Bool.eq_false_iff, ne_eq, List.contains_iff_mem]
    intro hm
    obtain ⟨k, hk⟩ := List.mem_iff_getElem?.1 hm
    exact h2 k hk
  · intro h
    refine Int.not_le.1 fun h0 => ?_
    obtain ⟨o, ho⟩ := Int.eq_ofNat_of_zero_le h0
    have := (Lib.indexByte_some ho).1
    rw [Bool.eq_false_iff, ne_eq, List.contains_iff_mem] at h
    exact h (List.mem_of_getElem? this)
theorem all_take {α : Type} {p : α → Bool} {l : List α} (h : ∀ j x, j < l.length → l[j]? = some x → p x = true) : l.all p = true := by
  rw [List.all_eq_true]
  intro x hx
  obtain ⟨j, hj⟩ := List.mem_iff_getElem?.1 hx
  exact h j x (List.getElem?_eq_some_iff.1 hj).1 hj
theorem out_all {α : Type} {p : α → Bool} {l : List α} {k : Nat} (h : ∀ j x, j < k → l[j]? = some x → p x = true) (h2 : l.length ≤ k) : l.all p = true := all_take fun j x hj hx => h j x (by omega) hx
theorem callIdx (s : ByteArray) (c : Int) (w : World) : (callFunc 83 #[.string s, .int .u8 c]).run Try.prog w = .ok (.value (.int .i64 (Lib.indexByte s.data.toList c.toNat.toUInt8))) w := by
  rw [run_callFunc_indexByte Try.func83 (by kernel_rfl) (by kernel_rfl) (by kernel_rfl) (by kernel_rfl), Lib.run_indexByteString]
  rfl
theorem Y.idx {n : Nat} {cx : Cx} {ρ : Hp} {E : Env} {L : Own} {o : Oper} {x y : Operand} {ts : Array TypeId} {s : ByteArray} {c : Int} (hop : o.op = .call { callee := .value (.func 83), args := #[x, y], argTypes := ts }) (hx : evE E x = some (.string s)) (hy : evE E y = some (.int .u8 c)) :
    Y Try.prog n cx ρ E L o (.int .i64 (Lib.indexByte s.data.toList c.toNat.toUInt8)) := fun a w ha _ => by
  have hf : a.eval (.func 83) = .func (.func 83) #[] #[] := rfl
  simp only [execOp, hop, resolve, List.map_toArray, List.map_cons, List.map_nil, ha.ev hx, ha.ev hy, hf, Deferred.ofValue, Sem.run_bind, Sem.run_pure, Result.andThen_ok, invoke]
  exact callIdx s c w
theorem f81_spec (s : ByteArray) (c : Int) : Spec Try.prog 81 #[.string s, .int .u8 c] (fun _ => True) [] (fun ρ ρ' v L => ρ' = ρ ∧ v = .int .i64 (Lib.indexByte s.data.toList c.toNat.toUInt8) ∧ L = []) := by
  refine Spec.of 8 Try.func81 rfl Try.ntmps81 [(0, _), (1, _)] rfl rfl ?_
  intro cx ρ _ hr
  refine Cd.seq fun K1 hK1 => ?_
  refine Cd.plain [(0, false)] rfl rfl ?_
  refine Jp.y 4 rfl (want_all rfl) rfl rfl Kp.true (Y.assign rfl rfl) ?_
  refine Jp.done hK1 ?_
  refine Cd.seq fun K2 hK2 => ?_
  refine Cd.plain [(0, false), (1, false), (2, false), (3, false)] rfl rfl ?_
  refine Jp.y 5 rfl (want_all rfl) rfl rfl Kp.true (Y.move rfl rfl) ?_
  refine Jp.y 6 rfl (want_all rfl) rfl rfl Kp.true (Y.move rfl rfl) ?_
  refine Jp.y 7 rfl (want_all rfl) rfl rfl Kp.true (Y.idx rfl rfl rfl) ?_
  refine Jp.y 4 rfl (want_all rfl) rfl rfl Kp.true (Y.assign rfl rfl) ?_
  refine Jp.done hK2 ?_
  refine Cd.ret [] rfl (res1 rfl rfl) trivial ⟨rfl, rfl, rfl⟩
theorem f78_spec (s : ByteArray) (c : Int) : Spec Try.prog 78 #[.string s, .int .u8 c] (fun _ => True) [] (fun ρ ρ' v L => ρ' = ρ ∧ v = .int .i64 (Lib.indexByte s.data.toList c.toNat.toUInt8) ∧ L = []) := by
  refine Spec.of 8 Try.func78 rfl Try.ntmps78 [(0, _), (1, _)] rfl rfl ?_
  intro cx ρ _ hr
  refine Cd.seq fun K3 hK3 => ?_
  refine Cd.plain [(0, false)] rfl rfl ?_
  refine Jp.y 4 rfl (want_all rfl) rfl rfl Kp.true (Y.assign rfl rfl) ?_
  refine Jp.done hK3 ?_
  refine Cd.seq fun K4 hK4 => ?_
  refine Cd.plain [(0, false), (1, false), (2, false), (3, false)] rfl rfl ?_
  refine Jp.y 5 rfl (want_all rfl) rfl rfl Kp.true (Y.move rfl rfl) ?_
  refine Jp.y 6 rfl (want_all rfl) rfl rfl Kp.true (Y.move rfl rfl) ?_
  refine Jp.call [] [] (f81_spec s c) 7 rfl (want_all rfl) rfl rfl (Runs.fn rfl Try.call81 rfl) (by decide) (by decide) rfl trivial ?_
  rintro v1 ρ1 L1 ⟨rfl, rfl, rfl⟩
  refine ⟨rfl, fun hle1 => ⟨Kp.true, ?_⟩⟩
  refine Jp.y 4 rfl (want_all rfl) rfl rfl Kp.true (Y.assign rfl rfl) ?_
  refine Jp.done hK4 ?_
  refine Cd.ret [] rfl (res1 rfl rfl) trivial ⟨rfl, rfl, rfl⟩
theorem any_false {α : Type} {p : α → Bool} {l : List α} {k : Nat} (h : ∀ j x, j < k → l[j]? = some x → p x = false) (h2 : l.length ≤ k) : l.any p = false := by
  rw [List.any_eq_false]
  intro x hx
  obtain ⟨j, hj⟩ := List.mem_iff_getElem?.1 hx
  have := (List.getElem?_eq_some_iff.1 hj).1
  rw [h j x (by omega) hj]; simp
theorem any_true {α : Type} {p : α → Bool} {l : List α} {k : Nat} {x : α} (h : l[k]? = some x) (hp : p x = true) : l.any p = true := List.any_eq_true.2 ⟨x, List.mem_of_getElem? h, hp⟩
/-! ### Rows of structs -/
def RdRows {α : Type} (m : Nat) (c : α → List Value) (I : α → HProp) (s : Sl α) : HProp := fun h => RdS m s.A s.xs.length s.c (s.xs.flatMap c) h ∧ ∀ x ∈ s.xs, I x h
theorem RdRows.up {α : Type} {m : Nat} {c : α → List Value} {I : α → HProp} (hI : ∀ x, Up (I x)) (s : Sl α) : Up (RdRows m c I s) := fun h k l ⟨a, b⟩ => ⟨RdS.up _ _ _ _ _ h k l a, fun x hx => hI x h k l (b x hx)⟩
theorem flatMap_get {α : Type} {m : Nat} {c : α → List Value} (hm : ∀ x, (c x).length = m) : ∀ {l : List α} {k j : Nat} {x : α} {v : Value}, l[k]? = some x → (c x)[j]? = some v → (l.flatMap c)[k * m + j]? = some v := by
  intro l
  induction l with
  | nil => intro k j x v h; simp at h
  | cons y l ih =>
    intro k j x v h hv
    rw [List.flatMap_cons]
    have hj : j < m := by rw [← hm x]; exact (List.getElem?_eq_some_iff.1 hv).1
    cases k with
    | zero =>
      simp at h; subst h
      rw [List.getElem?_append_left (by rw [hm]; omega), Nat.zero_mul, Nat.zero_add]; exact hv
    | succ k =>
      have h' : l[k]? = some x := by simpa using h
      rw [List.getElem?_append_right (by rw [hm, Nat.succ_mul]; omega), hm, ← ih h' hv]
      congr 1
      rw [Nat.succ_mul]; omega
/-- An element: where it lies, what is known of it. -/
theorem RdRows.at {α : Type} {m : Nat} {c : α → List Value} {I : α → HProp} {s : Sl α} {h : Hp} (hm : ∀ x, (c x).length = m) (hm0 : 0 < m) (r : RdRows m c I s h) {k : Nat} {x : α} (e : s.xs[k]? = some x) : ∃ ad, s.A = some ad ∧ Cells h (ad.add (k * m)) (c x) ∧ I x h := by
  have key : ∀ j v, (c x)[j]? = some v → ∃ ad, s.A = some ad ∧ cellH h (ad.add (k * m + j)) = some v := fun j v hv => r.1.2.2 _ _ (flatMap_get hm e hv)
  obtain ⟨ad, hA, _⟩ := key 0 ((c x)[0]'(by rw [hm]; exact hm0)) (by simp [hm, hm0])
  refine ⟨ad, hA, fun j v hv => ?_, r.2 x (List.mem_of_getElem? e)⟩
  obtain ⟨ad', h1, h2⟩ := key j v hv
  rw [hA] at h1
  injection h1 with h1
  rw [add_add, h1]; exact h2
def natsV (k : IntKind) (l : List Nat) : List Value := l.map fun (x : Nat) => Value.int k (x : Int)
end Go.Proofs.Ytjjhihlmoecmlaa
