import Derived.Test.YtkjeidoplonkjaaZRsB
import Derived.Test.YtkjeidoplonkjaaZShD
set_option linter.unusedVariables false
set_option linter.unusedSimpArgs false
set_option maxRecDepth 100000
namespace Go.Proofs.Ytkjeidoplonkjaa
open Go
def posA (l : List (Nat × Pg)) (a : Nat) : Nat := (l.takeWhile fun x => decide (x.1 < a)).length
theorem posA_le (l : List (Nat × Pg)) (a : Nat) : posA l a ≤ l.length := by
  unfold posA
  induction l with
  | nil => simp
  | cons x l ih =>
    rw [List.takeWhile_cons]
    split <;> simp <;> omega
theorem posA_base : ∀ {l : List (Nat × Pg)} {a : Nat}, (∀ x ∈ l, x.1 % 256 = 0 ∧ x.1 ≠ baseN a) → posA l a = posA l (baseN a)
  | [], a, _ => rfl
  | x :: l, a, h => by
    have ih := posA_base (l := l) (a := a) fun y hy => h y (List.mem_cons_of_mem _ hy)
    have hx := h x (List.mem_cons_self ..)
    unfold posA at ih ⊢
    have e : decide (x.1 < a) = decide (x.1 < baseN a) := by
      rw [Bool.eq_iff_iff, decide_eq_true_eq, decide_eq_true_eq]
      unfold baseN at hx ⊢
      omega
    rw [List.takeWhile_cons, List.takeWhile_cons, e]
    split
    · rw [List.length_cons, List.length_cons, ih]
    · rfl
theorem one_none {l : List (Nat × Pg)} {a : Nat} {v : UInt8} (h : getPg l (baseN a) = none) : oneP l a v = if v = 0 then l else insPg (baseN a) (pgB (zeroB.set (a % 256) v)) l := by
  have hm : a % 256 < 256 := Nat.mod_lt _ (by decide)
  have hc : cntB (zeroB.set (a % 256) v) = c1 v := by
    have := cntB_set (b := zeroB) (j := a % 256) (v := v) (by rw [zeroB_len]; exact hm)
    have h0 : zeroB[a % 256]'(by rw [zeroB_len]; exact hm) = 0 := by
      have := zeroB_get (a % 256)
      rw [List.getD_eq_getElem?_getD, List.getElem?_eq_getElem (by rw [zeroB_len]; exact hm)] at this
      exact this
    rw [h0, zeroB_cnt] at this
    have e : c1 0 = 0 := rfl
    omega
  unfold oneP putPg bOf
  rw [h]
  dsimp only
  rw [hc]
  unfold c1
  by_cases hv : v = 0
  · rw [if_pos hv, if_pos rfl, if_pos hv]
  · rw [if_neg hv, if_neg (by decide), if_neg hv]
    unfold pgB
    rw [hc]; unfold c1; rw [if_neg hv]
theorem one_some {l : List (Nat × Pg)} {a : Nat} {v : UInt8} {p : Pg} (h : getPg l (baseN a) = some p) : oneP l a v = if cntB (p.b.set (a % 256) v) = 0 then remPg l (baseN a) else setPg l (baseN a) (pgB (p.b.set (a % 256) v)) := by
  unfold oneP putPg bOf
  rw [h]; rfl
def zPg : Pg := ⟨zeroB, 0⟩
structure OneJ (l : List (Nat × Pg)) (a : Nat) (v : UInt8) (l1 : List (Nat × Pg)) (i : Nat) : Prop where
  many : l1.length ≤ 16777217
  rows : ∀ y ∈ l1, y.2.b.length = 256
  at' : ∃ q, l1[i]? = some (baseN a, q) ∧ q.b = bOf l (baseN a)
  full : cntB ((bOf l (baseN a)).set (a % 256) v) ≠ 0 → l1.set i (baseN a, pgB ((bOf l (baseN a)).set (a % 256) v)) = oneP l a v
  gone : cntB ((bOf l (baseN a)).set (a % 256) v) = 0 → l1.take i ++ l1.drop (i + 1) = oneP l a v
theorem OneJ.some {l : List (Nat × Pg)} (h : ShOk l) {a : Nat} {v : UInt8} {p : Pg} (hg : getPg l (baseN a) = some p) : OneJ l a v l (findN l (baseN a)) := by
  obtain ⟨g1, g2, g3⟩ := findN_get l (baseN a)
  rw [hg] at g1
  obtain ⟨y, hy, hy2⟩ := Option.map_eq_some_iff.1 g1.symm
  have hy1 := g2 y hy
  have hyk : l[findN l (baseN a)]? = Option.some (baseN a, p) := by rw [hy, ← hy1, ← hy2]
  have hb : bOf l (baseN a) = p.b := by unfold bOf; rw [hg]
  refine ⟨by have := sh_few h; omega, fun y hy => (h.page y hy).len, ⟨p, hyk, hb.symm⟩, fun hc => ?_, fun hc => ?_⟩
  · rw [hb] at hc ⊢
    rw [one_some hg, if_neg hc]
    exact (set_at h.rising.nodup hyk).symm
  · rw [hb] at hc
    rw [one_some hg, if_pos hc]
    exact (rem_at h.rising.nodup hyk).symm
theorem OneJ.none {l : List (Nat × Pg)} (h : ShOk l) {a : Nat} {v : UInt8} (hg : getPg l (baseN a) = none) (hv : v ≠ 0) : OneJ l a v (l.take (posA l a) ++ (baseN a, zPg) :: l.drop (posA l a)) (posA l a) := by
  have hm : a % 256 < 256 := Nat.mod_lt _ (by decide)
  have hk := getPg_none.1 hg
  have hp := posA_le l a
  have hpa := posA_base (l := l) (a := a) fun x hx => ⟨(h.page x hx).al, fun e => hk (List.mem_map.2 ⟨x, hx, e⟩)⟩
  have hb : bOf l (baseN a) = zeroB := by unfold bOf; rw [hg]
  have hl : (l.take (posA l a)).length = posA l a := by rw [List.length_take]; omega
  have hone := one_none (v := v) hg
  rw [if_neg hv] at hone
  have hcz : cntB (zeroB.set (a % 256) v) ≠ 0 := fun e => by
    have h0 := cntB_zero.1 e
    have : (zeroB.set (a % 256) v)[a % 256]? = Option.some v := List.getElem?_set_self (by rw [zeroB_len]; exact hm)
    exact hv (h0 v (List.mem_of_getElem? this))
  refine ⟨?_, fun y hy => ?_, ⟨zPg, ?_, hb.symm⟩, fun hc => ?_, fun hc => ?_⟩
  · have := sh_few h
    rw [List.length_append, List.length_cons, hl, List.length_drop]; omega
  · rcases List.mem_append.1 hy with h1 | h1
    · exact (h.page y (List.mem_of_mem_take h1)).len
    · rcases List.mem_cons.1 h1 with rfl | h1
      · exact zeroB_len
      · exact (h.page y (List.mem_of_mem_drop h1)).len
  · rw [List.getElem?_append_right (by omega), hl, Nat.sub_self]; rfl
  · rw [hb, hone, ins_at _ h.rising hk, List.set_append_right _ _ (by omega), hl, Nat.sub_self, List.set_cons_zero]
    rw [hpa]; rfl
  · rw [hb] at hc; exact absurd hc hcz
end Go.Proofs.Ytkjeidoplonkjaa
