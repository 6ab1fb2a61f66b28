import Derived.Test.YtgmhijlcdadaeaaZShN
set_option linter.unusedVariables false
set_option linter.unusedSimpArgs false
set_option maxRecDepth 100000
namespace Go.Proofs.Ytgmhijlcdadaeaa
open Go
structure ActS where
  op : Int
  n : Int
  a : Nat
  l : Nat
  b : Sl UInt8
  t : List UInt8
def ActS.cells (x : ActS) : List Value := [.int .i64 x.op] ++ [.int .i64 x.n] ++ [.int .u32 (x.a : Int)] ++ [.int .u8 (x.l : Int)] ++ [x.b.v] ++ bytesV x.t
structure ActS.Rd (x : ActS) (h : Hp) : Prop where
  op : (Lit.int .i64 x.op).wf = true
  n : (Lit.int .i64 x.n).wf = true
  a : x.a < 4294967296
  l : x.l < 256
  b : RdB x.b h
  t : x.t.length = 4
theorem ActS.up (x : ActS) : Up x.Rd := fun h k l r => ⟨r.op, r.n, r.a, r.l, RdB.up _ h k l r.b, r.t⟩
def RdActSs (s : Sl ActS) : HProp := RdRows 9 ActS.cells ActS.Rd s
theorem RdActSs.up (s : Sl ActS) : Up (RdActSs s) := RdRows.up ActS.up s
theorem ActS.len (x : ActS) (h : x.t.length = 4) : x.cells.length = 9 := by
  unfold ActS.cells; simp [bytesV, h]
theorem flat_get {α : Type} {m : Nat} {c : α → List Value} : ∀ {l : List α} {k j : Nat} {x : α} {v : Value}, (∀ x ∈ l, (c x).length = m) → l[k]? = some x → (c x)[j]? = some v → (l.flatMap c)[k * m + j]? = some v
  | [], _, _, _, _, _, e, _ => by simp at e
  | y :: l, 0, j, x, v, h, e, hv => by
    simp only [List.getElem?_cons_zero, Option.some.injEq] at e
    subst e
    have := (List.getElem?_eq_some_iff.1 hv).1
    rw [List.flatMap_cons, Nat.zero_mul, Nat.zero_add, List.getElem?_append_left this]
    exact hv
  | y :: l, k + 1, j, x, v, h, e, hv => by
    have hy := h y (List.mem_cons_self ..)
    rw [List.flatMap_cons, Nat.succ_mul, List.getElem?_append_right (by omega), hy, show k * m + m + j - m = k * m + j by omega]
    exact flat_get (fun z hz => h z (List.mem_cons_of_mem _ hz)) (by simpa using e) hv
theorem RdRows.atM {α : Type} {m : Nat} {c : α → List Value} {I : α → HProp} {s : Sl α} {h : Hp} (hm : ∀ x ∈ s.xs, (c x).length = m) (hm0 : 0 < m) (r : RdRows m c I s h) {k : Nat} {x : α} (e : s.xs[k]? = some x) : ∃ ad, s.A = some ad ∧ Cells h (ad.add (k * m)) (c x) ∧ I x h := by
  have hk := (List.getElem?_eq_some_iff.1 e).1
  obtain ⟨ad, hA⟩ := r.1.some (Nat.mul_pos (by omega) hm0)
  refine ⟨ad, hA, fun j v hv => ?_, r.2 x (List.mem_of_getElem? e)⟩
  obtain ⟨ad', hA', hc⟩ := r.1.2.2 (k * m + j) v (flat_get hm e hv)
  rw [hA] at hA'
  injection hA' with hA'
  subst hA'
  rw [add_add]
  exact hc
def Near (xs : List ActS) (lo hi x : Nat) : Prop := ∃ j y, lo ≤ j ∧ j < hi ∧ xs[j]? = some y ∧ y.a ≤ x ∧ x < y.a + 300
end Go.Proofs.Ytgmhijlcdadaeaa
