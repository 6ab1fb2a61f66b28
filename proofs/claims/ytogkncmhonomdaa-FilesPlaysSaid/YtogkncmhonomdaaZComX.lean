import Derived.Test.YtogkncmhonomdaaZEngY
import Derived.Test.YtogkncmhonomdaaZTypes
import Derived.Lib.Bytealg
import Derived.Lib.IndexLaws
import Derived.Laws.StandIn
set_option linter.unusedVariables false
set_option linter.unusedSimpArgs false
set_option maxRecDepth 100000
namespace Go.Proofs.Ytogkncmhonomdaa
open Go
abbrev Bytes := List UInt8
structure Sl (α : Type) where
  A : Option Addr
  c : Nat
  xs : List α
def Sl.v {α : Type} (s : Sl α) : Value := .slice s.A s.xs.length s.c
def intsV (k : IntKind) (l : List Int) : List Value := l.map fun x => .int k x
def strsV (l : List ByteArray) : List Value := l.map fun s => .string s
theorem str_size (s : ByteArray) : s.size = (str s).length := by unfold str; rw [Array.length_toList]; rfl
theorem intsV_one (k : IntKind) (l : List Int) : (intsV k l).all one = true := by
  rw [List.all_eq_true]; intro v hv; obtain ⟨x, _, rfl⟩ := List.mem_map.1 hv; rfl
def RdB (s : Sl UInt8) : HProp := RdS 1 s.A s.xs.length s.c (bytesV s.xs)
def RdI (k : IntKind) (s : Sl Int) : HProp := RdS 1 s.A s.xs.length s.c (intsV k s.xs)
def RdStr (s : Sl ByteArray) : HProp := RdS 1 s.A s.xs.length s.c (strsV s.xs)
theorem RdB.up (s : Sl UInt8) : Up (RdB s) := RdS.up _ _ _ _ _
theorem RdI.up (k : IntKind) (s : Sl Int) : Up (RdI k s) := RdS.up _ _ _ _ _
theorem RdStr.up (s : Sl ByteArray) : Up (RdStr s) := RdS.up _ _ _ _ _
theorem idx_neg (s : Bytes) (c : UInt8) : (Lib.indexByte s c < 0) ↔ s.contains c = false := by
  have hge := Lib.indexByte_ge s c
  constructor
  · intro h
    have h1 : Lib.indexByte s c = -1 := by omega
    have h2 := Lib.indexByte_none h1
    rw [Bool.eq_false_iff, ne_eq, List.contains_iff_mem]
    intro hm
    obtain ⟨k, hk⟩ := List.mem_iff_getElem?.1 hm
    exact h2 k hk
  · intro h
    refine Int.not_le.1 fun h0 => ?_
    obtain ⟨o, ho⟩ := Int.eq_ofNat_of_zero_le h0
    have := (Lib.indexByte_some ho).1
    rw [Bool.eq_false_iff, ne_eq, List.contains_iff_mem] at h
    exact h (List.mem_of_getElem? this)
theorem all_take {α : Type} {p : α → Bool} {l : List α} (h : ∀ j x, j < l.length → l[j]? = some x → p x = true) : l.all p = true := by
  rw [List.all_eq_true]
  intro x hx
  obtain ⟨j, hj⟩ := List.mem_iff_getElem?.1 hx
  exact h j x (List.getElem?_eq_some_iff.1 hj).1 hj
theorem out_all {α : Type} {p : α → Bool} {l : List α} {k : Nat} (h : ∀ j x, j < k → l[j]? = some x → p x = true) (h2 : l.length ≤ k) : l.all p = true := all_take fun j x hj hx => h j x (by omega) hx
theorem callIdx (s : ByteArray) (c : Int) (w : World) : (callFunc 51 #[.string s, .int .u8 c]).run Try.prog w = .ok (.value (.int .i64 (Lib.indexByte s.data.toList c.toNat.toUInt8))) w := by
  rw [run_callFunc_indexByte Try.func51 (by kernel_rfl) (by kernel_rfl) (by kernel_rfl) (by kernel_rfl), Lib.run_indexByteString]
  rfl
theorem Y.idx {n : Nat} {cx : Cx} {ρ : Hp} {E : Env} {L : Own} {o : Oper} {x y : Operand} {ts : Array TypeId} {s : ByteArray} {c : Int} (hop : o.op = .call { callee := .value (.func 51), args := #[x, y], argTypes := ts }) (hx : evE E x = some (.string s)) (hy : evE E y = some (.int .u8 c)) :
    Y Try.prog n cx ρ E L o (.int .i64 (Lib.indexByte s.data.toList c.toNat.toUInt8)) := fun a w ha _ => by
  have hf : a.eval (.func 51) = .func (.func 51) #[] #[] := rfl
  simp only [execOp, hop, resolve, List.map_toArray, List.map_cons, List.map_nil, ha.ev hx, ha.ev hy, hf, Deferred.ofValue, Sem.run_bind, Sem.run_pure, Result.andThen_ok, invoke]
  exact callIdx s c w
theorem f49_spec (s : ByteArray) (c : Int) : Spec Try.prog 49 #[.string s, .int .u8 c] (fun _ => True) [] (fun ρ ρ' v L => ρ' = ρ ∧ v = .int .i64 (Lib.indexByte s.data.toList c.toNat.toUInt8) ∧ L = []) := by
  refine Spec.of 8 Try.func49 rfl Try.ntmps49 [(0, _), (1, _)] rfl rfl ?_
  intro cx ρ _ hr
  refine Cd.seq fun K1 hK1 => ?_
  refine Cd.plain [(0, false)] rfl rfl ?_
  refine Jp.y 4 rfl (want_all rfl) rfl rfl Kp.true (Y.assign rfl rfl) ?_
  refine Jp.done hK1 ?_
  refine Cd.seq fun K2 hK2 => ?_
  refine Cd.plain [(0, false), (1, false), (2, false), (3, false)] rfl rfl ?_
  refine Jp.y 5 rfl (want_all rfl) rfl rfl Kp.true (Y.move rfl rfl) ?_
  refine Jp.y 6 rfl (want_all rfl) rfl rfl Kp.true (Y.move rfl rfl) ?_
  refine Jp.y 7 rfl (want_all rfl) rfl rfl Kp.true (Y.idx rfl rfl rfl) ?_
  refine Jp.y 4 rfl (want_all rfl) rfl rfl Kp.true (Y.assign rfl rfl) ?_
  refine Jp.done hK2 ?_
  refine Cd.ret [] rfl (res1 rfl rfl) trivial ⟨rfl, rfl, rfl⟩
theorem f45_spec (s : ByteArray) (c : Int) : Spec Try.prog 45 #[.string s, .int .u8 c] (fun _ => True) [] (fun ρ ρ' v L => ρ' = ρ ∧ v = .int .i64 (Lib.indexByte s.data.toList c.toNat.toUInt8) ∧ L = []) := by
  refine Spec.of 8 Try.func45 rfl Try.ntmps45 [(0, _), (1, _)] rfl rfl ?_
  intro cx ρ _ hr
  refine Cd.seq fun K3 hK3 => ?_
  refine Cd.plain [(0, false)] rfl rfl ?_
  refine Jp.y 4 rfl (want_all rfl) rfl rfl Kp.true (Y.assign rfl rfl) ?_
  refine Jp.done hK3 ?_
  refine Cd.seq fun K4 hK4 => ?_
  refine Cd.plain [(0, false), (1, false), (2, false), (3, false)] rfl rfl ?_
  refine Jp.y 5 rfl (want_all rfl) rfl rfl Kp.true (Y.move rfl rfl) ?_
  refine Jp.y 6 rfl (want_all rfl) rfl rfl Kp.true (Y.move rfl rfl) ?_
  refine Jp.call [] [] (f49_spec s c) 7 rfl (want_all rfl) rfl rfl (Runs.fn rfl Try.call49 rfl) (by decide) (by decide) rfl trivial ?_
  rintro v1 ρ1 L1 ⟨rfl, rfl, rfl⟩
  refine ⟨rfl, fun hle1 => ⟨Kp.true, ?_⟩⟩
  refine Jp.y 4 rfl (want_all rfl) rfl rfl Kp.true (Y.assign rfl rfl) ?_
  refine Jp.done hK4 ?_
  refine Cd.ret [] rfl (res1 rfl rfl) trivial ⟨rfl, rfl, rfl⟩
theorem any_false {α : Type} {p : α → Bool} {l : List α} {k : Nat} (h : ∀ j x, j < k → l[j]? = some x → p x = false) (h2 : l.length ≤ k) : l.any p = false := by
  rw [List.any_eq_false]
  intro x hx
  obtain ⟨j, hj⟩ := List.mem_iff_getElem?.1 hx
  have := (List.getElem?_eq_some_iff.1 hj).1
  rw [h j x (by omega) hj]; simp
theorem any_true {α : Type} {p : α → Bool} {l : List α} {k : Nat} {x : α} (h : l[k]? = some x) (hp : p x = true) : l.any p = true := List.any_eq_true.2 ⟨x, List.mem_of_getElem? h, hp⟩
def RdRows {α : Type} (m : Nat) (c : α → List Value) (I : α → HProp) (s : Sl α) : HProp := fun h => RdS m s.A s.xs.length s.c (s.xs.flatMap c) h ∧ ∀ x ∈ s.xs, I x h
theorem RdRows.up {α : Type} {m : Nat} {c : α → List Value} {I : α → HProp} (hI : ∀ x, Up (I x)) (s : Sl α) : Up (RdRows m c I s) := fun h k l ⟨a, b⟩ => ⟨RdS.up _ _ _ _ _ h k l a, fun x hx => hI x h k l (b x hx)⟩
theorem flatMap_get {α : Type} {m : Nat} {c : α → List Value} (hm : ∀ x, (c x).length = m) : ∀ {l : List α} {k j : Nat} {x : α} {v : Value}, l[k]? = some x → (c x)[j]? = some v → (l.flatMap c)[k * m + j]? = some v := by
  intro l
  induction l with
  | nil => intro k j x v h; simp at h
  | cons y l ih =>
    intro k j x v h hv
    rw [List.flatMap_cons]
    have hj : j < m := by rw [← hm x]; exact (List.getElem?_eq_some_iff.1 hv).1
    cases k with
    | zero =>
      simp at h; subst h
      rw [List.getElem?_append_left (by rw [hm]; omega), Nat.zero_mul, Nat.zero_add]; exact hv
    | succ k =>
      have h' : l[k]? = some x := by simpa using h
      rw [List.getElem?_append_right (by rw [hm, Nat.succ_mul]; omega), hm, ← ih h' hv]
      congr 1
      rw [Nat.succ_mul]; omega
theorem RdRows.at {α : Type} {m : Nat} {c : α → List Value} {I : α → HProp} {s : Sl α} {h : Hp} (hm : ∀ x, (c x).length = m) (hm0 : 0 < m) (r : RdRows m c I s h) {k : Nat} {x : α} (e : s.xs[k]? = some x) : ∃ ad, s.A = some ad ∧ Cells h (ad.add (k * m)) (c x) ∧ I x h := by
  have key : ∀ j v, (c x)[j]? = some v → ∃ ad, s.A = some ad ∧ cellH h (ad.add (k * m + j)) = some v := fun j v hv => r.1.2.2 _ _ (flatMap_get hm e hv)
  obtain ⟨ad, hA, _⟩ := key 0 ((c x)[0]'(by rw [hm]; exact hm0)) (by simp [hm, hm0])
  refine ⟨ad, hA, fun j v hv => ?_, r.2 x (List.mem_of_getElem? e)⟩
  obtain ⟨ad', h1, h2⟩ := key j v hv
  rw [hA] at h1
  injection h1 with h1
  rw [add_add, h1]; exact h2
def natsV (k : IntKind) (l : List Nat) : List Value := l.map fun (x : Nat) => Value.int k (x : Int)
end Go.Proofs.Ytogkncmhonomdaa
set_option linter.unusedVariables false
set_option linter.unusedSimpArgs false
set_option maxRecDepth 100000
namespace Go.Proofs.Ytogkncmhonomdaa
open Go Go.ChangeShapes Go.WideShapes Go.ChangeAt Go.RowKit
theorem wf_i32 {n : Int} (h : (Lit.int .i32 n).wf = true) : -2147483648 ≤ n ∧ n ≤ 2147483647 := by
  rw [Lit.wf, Bool.and_eq_true] at h
  exact ⟨of_decide_eq_true h.1, of_decide_eq_true h.2⟩
theorem wf_u32 {n : Int} (h : (Lit.int .u32 n).wf = true) : ∃ m : Nat, n = m ∧ m < 4294967296 := by
  rw [Lit.wf, Bool.and_eq_true] at h
  have h1 : 0 ≤ n := of_decide_eq_true h.1
  have h2 : n ≤ 4294967295 := of_decide_eq_true h.2
  exact ⟨n.toNat, by omega, by omega⟩
theorem Rdd.ints {w : World} {t e : TypeId} {cs : List Value} {k : IntKind} (hu : Try.prog.underlying t = some (.slice e)) (he : Try.prog.underlying e = some (.int k)) (hm : Try.prog.cellsOf e = 1) (hb : 1 ≤ Try.prog.bytesOf e) (h : Rdd Try.prog w t cs) :
    ∃ s : Sl Int, cs = [s.v] ∧ RdI k s (whole w) ∧ ∀ x ∈ s.xs, (Lit.int k x).wf = true := by
  obtain ⟨A, len, cap, rows, e0, hl, hrow, hrd⟩ := Rdd.slice hu hm hb h
  obtain ⟨xs, rfl, hx⟩ := rows_of (c := fun x => [Value.int k x]) (I := fun x => (Lit.int k x).wf = true) (fun r hr => by
    obtain ⟨n, h1, h2⟩ := Rdd.int he (hrow r hr).2; exact ⟨n, h1, h2⟩)
  rw [flat_one] at hrd
  rw [List.length_map] at hl
  subst hl
  exact ⟨⟨A, cap, xs⟩, e0, hrd, hx⟩
theorem Rdd.u8s {w : World} {t e : TypeId} {cs : List Value} (hu : Try.prog.underlying t = some (.slice e)) (he : Try.prog.underlying e = some (.int .u8)) (hm : Try.prog.cellsOf e = 1) (hb : 1 ≤ Try.prog.bytesOf e) (h : Rdd Try.prog w t cs) :
    ∃ s : Sl UInt8, cs = [s.v] ∧ RdB s (whole w) := by
  obtain ⟨A, len, cap, rows, e0, hl, hrow, hrd⟩ := Rdd.slice hu hm hb h
  obtain ⟨xs, rfl, hx⟩ := rows_of (c := fun x : UInt8 => [Value.int .u8 (x.toNat : Int)]) (I := fun x => True) (fun r hr => by
    obtain ⟨n, h1, h2⟩ := Rdd.int he (hrow r hr).2
    rw [Lit.wf, Bool.and_eq_true] at h2
    refine ⟨UInt8.ofNat n.toNat, ?_, trivial⟩
    rw [h1]
    have : ((UInt8.ofNat n.toNat).toNat : Int) = n := by
      rw [UInt8.toNat_ofNat']
      have h3 : 0 ≤ n := of_decide_eq_true h2.1
      have h4 : n ≤ 255 := of_decide_eq_true h2.2
      omega
    rw [this])
  rw [flat_one] at hrd
  rw [List.length_map] at hl
  subst hl
  exact ⟨⟨A, cap, xs⟩, e0, hrd⟩
theorem Rdd.strs {w : World} {t e : TypeId} {cs : List Value} (hu : Try.prog.underlying t = some (.slice e)) (he : Try.prog.underlying e = some .string) (hm : Try.prog.cellsOf e = 1) (hb : 1 ≤ Try.prog.bytesOf e) (h : Rdd Try.prog w t cs) :
    ∃ s : Sl ByteArray, cs = [s.v] ∧ RdStr s (whole w) := by
  obtain ⟨A, len, cap, rows, e0, hl, hrow, hrd⟩ := Rdd.slice hu hm hb h
  obtain ⟨xs, rfl, hx⟩ := rows_of (c := fun x : ByteArray => [Value.string x]) (I := fun x => True) (fun r hr => by
    obtain ⟨n, h1, _⟩ := Rdd.string he (hrow r hr).2; exact ⟨n, h1, trivial⟩)
  rw [flat_one] at hrd
  rw [List.length_map] at hl
  subst hl
  exact ⟨⟨A, cap, xs⟩, e0, hrd⟩
end Go.Proofs.Ytogkncmhonomdaa
set_option linter.unusedVariables false
set_option linter.unusedSimpArgs false
set_option maxRecDepth 100000
namespace Go.Proofs.Ytogkncmhonomdaa
open Go
theorem contains_at {l : Bytes} {k : Nat} (h : l[k]? = some 0) : l.contains 0 = true := by
  rw [List.contains_iff_mem]; exact List.mem_of_getElem? h
theorem contains_none {l : Bytes} {k : Nat} (h : ∀ j, j < k → l[j]? ≠ some 0) (h2 : l.length ≤ k) : l.contains 0 = false := by
  rw [Bool.eq_false_iff, ne_eq, List.contains_iff_mem]
  intro hm
  obtain ⟨j, hj⟩ := List.mem_iff_getElem?.1 hm
  have := (List.getElem?_eq_some_iff.1 hj).1
  exact h j (by omega) hj
theorem str_at {s : ByteArray} {g : Nat} (hg : g < s.size) : (str s)[g]? = some (s[g]'hg) := by
  unfold str; rw [Array.getElem?_toList, Array.getElem?_eq_getElem (by exact hg)]; rfl
theorem f48_spec (s : ByteArray) (hs : s.size ≤ 1000000) : Spec Try.prog 48 #[.string s] (fun _ => True) [] (fun ρ ρ' v L => ρ' = ρ ∧ v = .bool ((str s).contains 0) ∧ L = []) := by
  have hz := str_size s
  refine Spec.of 14 Try.func48 rfl Try.ntmps48 [(0, _)] rfl rfl ?_
  intro cx ρ hr h0
  refine Cd.seq fun K1 hK1 => ?_
  refine Cd.plain [(0, false)] rfl rfl ?_
  refine Jp.y 2 rfl (want_all rfl) rfl rfl Kp.true (Y.assign rfl rfl) ?_
  refine Jp.done hK1 ?_
  refine Cd.seq fun K2 hK2 => ?_
  refine Cd.seq fun K3 hK3 => ?_
  refine Cd.plain [(0, false)] rfl rfl ?_
  refine Jp.y 3 rfl (want_all rfl) rfl rfl Kp.true (Y.assign rfl rfl) ?_
  refine Jp.done hK3 ?_
  refine Cd.block ?_
  refine Cd.loop (G := Nat) (fun k => k ≤ s.size ∧ ∀ j, j < k → (str s)[j]? ≠ some 0) (fun k => s.size - k) (fun _ => ρ) (fun k => [(0, .string s), (3, .int .i64 k)]) (fun _ => []) 0 ⟨Nat.zero_le _, fun j h => by omega⟩ rfl ⟨rfl, rfl, trivial⟩ trivial (fun g KLk hok hLk => ?_)
  obtain ⟨hok1, hok2⟩ := hok
  refine Cd.seq fun K4 hK4 => ?_
  refine Cd.seq fun K5 hK5 => ?_
  refine Cd.plain [(0, false), (1, false), (2, false), (3, false)] rfl rfl ?_
  refine Jp.y 4 rfl (want_all rfl) rfl rfl Kp.true (Y.move rfl rfl) ?_
  refine Jp.y 5 rfl (want_all rfl) rfl rfl Kp.true (Y.move rfl rfl) ?_
  refine Jp.y 6 rfl (want_all rfl) rfl rfl Kp.true (Y.lenstr rfl Try.underlying9 rfl) ?_
  refine Jp.y 7 rfl (want_all rfl) rfl rfl Kp.true (Y.lss rfl rfl rfl) ?_
  refine Jp.done hK5 ?_
  refine Cd.condF' rfl (fun g7 => ?_) (fun g7 => ?_)
  · skip
    simp only [decide_eq_false_iff_not] at g7
    refine Cd.exit rfl hK2 ?_
    refine Cd.seq fun K6 hK6 => ?_
    refine Cd.plain [(0, false)] rfl rfl ?_
    refine Jp.y 2 rfl (want_all rfl) rfl rfl Kp.true (Y.assign rfl rfl) ?_
    refine Jp.done hK6 ?_
    refine Cd.ret [] rfl (res1 rfl rfl) trivial ⟨rfl, congrArg Value.bool (contains_none hok2 (by omega)).symm, rfl⟩
  try simp only [decide_eq_false_iff_not, decide_eq_true_eq, Int.not_lt, Int.not_le, Bool.not_eq_false, Bool.not_eq_true, Bool.not_true, Bool.not_false, Bool.not_eq_true', Bool.not_eq_false', beq_eq_false_iff_ne, ne_eq, beq_iff_eq, bne_iff_ne, bne_eq_false_iff_eq, Classical.not_not] at g7
  refine Cd.skip hK4 ?_
  refine Cd.seq fun K7 hK7 => ?_
  refine Cd.block ?_
  refine Cd.seq fun K8 hK8 => ?_
  refine Cd.plain [(0, false), (1, false), (2, false), (3, false)] rfl rfl ?_
  have hg : g < s.size := by omega
  refine Jp.y 10 rfl (want_all rfl) rfl rfl Kp.true (Y.move rfl rfl) ?_
  refine Jp.y 11 rfl (want_all rfl) rfl rfl Kp.true (Y.move rfl rfl) ?_
  refine Jp.y 12 rfl (want_all rfl) rfl rfl Kp.true (Y.indexstr (q := g) rfl Try.underlying9 rfl rfl (by omega) (by omega) rfl) ?_
  refine Jp.y 13 rfl (want_all rfl) rfl rfl Kp.true (Y.eql rfl rfl rfl) ?_
  refine Jp.done hK8 ?_
  refine Cd.cond rfl (fun g13 => ?_) (fun g13 => ?_)
  · skip
    refine Cd.seq fun K9 hK9 => ?_
    refine Cd.plain [(0, false)] rfl rfl ?_
    refine Jp.y 2 rfl (want_all rfl) rfl rfl Kp.true (Y.assign rfl rfl) ?_
    refine Jp.done hK9 ?_
    refine Cd.ret [] rfl (res1 rfl rfl) trivial ⟨rfl, congrArg Value.bool (contains_at (k := g) (by rw [str_at hg]; simp only [beq_iff_eq] at g13; congr 1; exact UInt8.toNat_inj.1 (by simpa using g13))).symm, rfl⟩
  try simp only [decide_eq_false_iff_not, decide_eq_true_eq, Int.not_lt, Int.not_le, Bool.not_eq_false, Bool.not_eq_true, Bool.not_true, Bool.not_false, Bool.not_eq_true', Bool.not_eq_false', beq_eq_false_iff_ne, ne_eq, beq_iff_eq, bne_iff_ne, bne_eq_false_iff_eq, Classical.not_not] at g13
  refine Cd.over rfl hK7 ?_
  refine Cd.plain [(0, false), (1, false), (2, false)] rfl rfl ?_
  refine Jp.y 8 rfl (want_all rfl) rfl rfl Kp.true (Y.move rfl rfl) ?_
  refine Jp.y 9 rfl (want_all rfl) rfl rfl Kp.true (Y.add_ rfl rfl rfl (by first | exact wrap_i64 (by omega) (by omega) | rfl)) ?_
  refine Jp.y 3 rfl (want_all rfl) rfl rfl Kp.true (Y.assign rfl rfl) ?_
  refine Jp.again hLk (g + 1) ⟨by omega, fun j hj => ?_⟩ (by omega) rfl ⟨rfl, rfl, trivial⟩ trivial
  by_cases hjg : j < g
  · exact hok2 j hjg
  · have : j = g := by omega
    subst this
    rw [str_at hg]
    intro h
    injection h with h
    apply g13
    rw [h]; rfl
end Go.Proofs.Ytogkncmhonomdaa
set_option linter.unusedVariables false
set_option linter.unusedSimpArgs false
set_option maxRecDepth 100000
namespace Go.Proofs.Ytogkncmhonomdaa
open Go
def lay (p : Bytes) (k : Nat) (b : Bytes) : Bytes := p.take k ++ b ++ p.drop (k + b.length)
def byteAt (x : Int) (j : Nat) : UInt8 := UInt8.ofNat (x.toNat / 2 ^ (8 * j) % 256)
def le32 (x : Int) : Bytes := [byteAt x 0, byteAt x 1, byteAt x 2, byteAt x 3]
end Go.Proofs.Ytogkncmhonomdaa
