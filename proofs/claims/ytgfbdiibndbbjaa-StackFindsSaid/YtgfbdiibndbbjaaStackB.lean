/- Contracts: good, great. -/
import Derived.Test.YtgfbdiibndbbjaaStackA
set_option linter.unusedVariables false
set_option linter.unusedSimpArgs false
set_option maxRecDepth 100000
namespace Go.Proofs.Ytgfbdiibndbbjaa
open Go
def goodS (l : List Bytes) : Bool := l.all (fun a => !a.contains 0) && decide (l.length ≤ 16)
theorem f47_spec (s : Sl ByteArray) : Spec Try.prog 47 #[s.v] (RdStr s) [] (fun ρ ρ' v L => ρ' = ρ ∧ v = .bool (goodS (s.xs.map str)) ∧ L = []) := by
  obtain ⟨A, c, xs⟩ := s
  dsimp only [Sl.v]
  refine Spec.of 18 Try.func47 rfl Try.ntmps47 [(0, _)] rfl rfl ?_
  intro cx ρ hr h0
  have ls : xs.length ≤ 281474976710656 := hr.2.1.2
  refine Cd.seq fun K1 hK1 => ?_
  refine Cd.plain [(0, false)] rfl rfl ?_
  refine Jp.y 2 rfl (want_all rfl) rfl rfl Kp.true (Y.assign rfl rfl) ?_
  refine Jp.done hK1 ?_
  refine Cd.seq fun K2 hK2 => ?_
  refine Cd.seq fun K3 hK3 => ?_
  refine Cd.plain [(0, false), (1, false), (2, false)] rfl rfl ?_
  refine Jp.y 5 rfl (want_all rfl) rfl rfl Kp.true (Y.move rfl rfl) ?_
  refine Jp.y 6 rfl (want_all rfl) rfl rfl Kp.true (Y.lenslice rfl Try.underlying22 rfl) ?_
  refine Jp.y 7 rfl (want_all rfl) rfl rfl Kp.true (Y.move rfl rfl) ?_
  refine Jp.done hK3 ?_
  refine Cd.block ?_
  refine Cd.loop (G := Nat) (fun k => k ≤ xs.length ∧ ∀ j x, j < k → xs[j]? = some x → (str x).contains 0 = false) (fun k => xs.length - k) (fun _ => ρ) (fun k => [(0, .slice A xs.length c), (5, .slice A xs.length c), (6, .int .i64 xs.length), (7, .int .i64 k)]) (fun _ => []) 0 ⟨Nat.zero_le _, fun j x h => by omega⟩ rfl ⟨rfl, rfl, rfl, rfl, trivial⟩ trivial (fun g KLa hok hLa => ?_)
  obtain ⟨ok1, ok2⟩ := hok
  refine Cd.seq fun K4 hK4 => ?_
  refine Cd.plain [(0, false)] rfl rfl ?_
  refine Jp.y 8 rfl (want_all rfl) rfl rfl Kp.true (Y.lss rfl rfl rfl) ?_
  refine Jp.done hK4 ?_
  refine Cd.seq fun K5 hK5 => ?_
  refine Cd.cond rfl (fun ga => ?_) (fun ga => ?_)
  · simp only [decide_eq_true_eq] at ga
    have hg : g < xs.length := by omega
    have hgx : xs[g]? = some xs[g] := by simp [hg]
    obtain ⟨ad, rfl⟩ := hr.some (show 0 < xs.length * 1 by omega)
    have hcell : cellH ρ (ad.add g) = some (.string xs[g]) := hr.cell (by simp [strsV, hg])
    refine Cd.skip hK5 ?_
    refine Cd.seq fun K6 hK6 => ?_
    refine Cd.block ?_
    refine Cd.seq fun K7 hK7 => ?_
    refine Cd.plain [(0, false), (1, false), (2, false)] rfl rfl ?_
    refine Jp.y 9 rfl (want_all rfl) rfl rfl Kp.true (Y.indexAddr (q := g) rfl rfl rfl Try.underlying22 Try.sizeOf9 (by omega) (by omega) (by omega)) ?_
    refine Jp.y 10 rfl (want_all rfl) rfl rfl Kp.true (Y.loadR rfl Try.isAgg9 rfl hcell) ?_
    refine Jp.y 4 rfl (want_all rfl) rfl rfl Kp.true (Y.assign rfl rfl) ?_
    refine Jp.done hK7 ?_
    refine Cd.seq fun K8 hK8 => ?_
    refine Cd.plain [(0, false), (1, false), (2, false)] rfl rfl ?_
    refine Jp.y 11 rfl (want_all rfl) rfl rfl Kp.true (Y.move rfl rfl) ?_
    refine Jp.call [] [] (f69_spec xs[g] 0) 12 rfl (want_all rfl) rfl rfl (Runs.fn rfl Try.call69 rfl) (by decide) (by decide) rfl trivial ?_
    rintro v1 ρ1 L1 ⟨rfl, rfl, rfl⟩
    refine ⟨rfl, fun hle1 => ⟨Kp.true, ?_⟩⟩
    refine Jp.y 13 rfl (want_all rfl) rfl rfl Kp.true (Y.geq rfl rfl rfl) ?_
    refine Jp.done hK8 ?_
    refine Cd.cond rfl (fun gb => ?_) (fun gb => ?_)
    · simp only [decide_eq_true_eq] at gb
      refine Cd.seq fun K9 hK9 => ?_
      refine Cd.plain [(0, false)] rfl rfl ?_
      refine Jp.y 2 rfl (want_all rfl) rfl rfl Kp.true (Y.assign rfl rfl) ?_
      refine Jp.done hK9 ?_
      refine Cd.ret [] rfl (res1 rfl rfl) trivial ⟨rfl, congrArg Value.bool ?_, rfl⟩
      have h1 : ¬ Lib.indexByte xs[g].data.toList 0 < 0 := by simpa using gb
      rw [idx_neg, Bool.not_eq_false] at h1
      have h2 : (str xs[g]).contains 0 = true := h1
      have h3 : (xs.map str).all (fun a => !a.contains 0) = false := by
        rw [Bool.eq_false_iff]
        intro h
        have := List.all_eq_true.1 h (str xs[g]) (List.mem_map.2 ⟨_, List.getElem_mem hg, rfl⟩)
        rw [h2] at this; cases this
      rw [goodS, h3]; rfl
    · simp only [decide_eq_false_iff_not] at gb
      refine Cd.over rfl hK6 ?_
      refine Cd.plain [(0, false), (1, false)] rfl rfl ?_
      refine Jp.y 14 rfl (want_all rfl) rfl rfl Kp.true (Y.add_ rfl rfl rfl (by first | exact wrap_i64 (by omega) (by omega) | rfl)) ?_
      refine Jp.y 7 rfl (want_all rfl) rfl rfl Kp.true (Y.move rfl rfl) ?_
      refine Jp.again hLa (g + 1) ⟨by omega, fun j x hj hx => ?_⟩ (by omega) rfl ⟨rfl, rfl, rfl, rfl, trivial⟩ trivial
      by_cases hjg : j < g
      · exact ok2 j x hjg hx
      · have : j = g := by omega
        subst this
        rw [hgx] at hx
        injection hx with hx
        subst hx
        have h1 : Lib.indexByte xs[j].data.toList 0 < 0 := by simpa using gb
        rw [idx_neg] at h1
        exact h1
  · simp only [decide_eq_false_iff_not] at ga
    refine Cd.exit rfl hK2 ?_
    refine Cd.seq fun K10 hK10 => ?_
    refine Cd.plain [(0, false), (1, false), (2, false), (3, false)] rfl rfl ?_
    refine Jp.y 15 rfl (want_all rfl) rfl rfl Kp.true (Y.move rfl rfl) ?_
    refine Jp.y 16 rfl (want_all rfl) rfl rfl Kp.true (Y.lenslice rfl Try.underlying22 rfl) ?_
    refine Jp.y 17 rfl (want_all rfl) rfl rfl Kp.true (Y.leq rfl rfl rfl) ?_
    refine Jp.y 2 rfl (want_all rfl) rfl rfl Kp.true (Y.assign rfl rfl) ?_
    refine Jp.done hK10 ?_
    refine Cd.ret [] rfl (res1 rfl rfl) trivial ⟨rfl, congrArg Value.bool ?_, rfl⟩
    have h1 : (xs.map str).all (fun a => !a.contains 0) = true := by
      rw [List.all_map]
      exact out_all (p := fun x => !(str x).contains 0) (fun j x hj hx => by rw [ok2 j x hj hx]; rfl) (by omega)
    rw [goodS, h1, Bool.true_and, List.length_map]
    exact decide_eq_decide.2 (by omega)
theorem f16_spec (s : Sl ByteArray) : Spec Try.prog 16 #[s.v] (RdStr s) [] (fun ρ ρ' v L => ρ' = ρ ∧ (∃ g, v = .bool g ∧ (g = false → s.xs.length ≤ 20 ∧ ∀ a ∈ s.xs, a.size ≤ 400)) ∧ L = []) := by
  obtain ⟨A, c, xs⟩ := s
  dsimp only [Sl.v]
  refine Spec.of 19 Try.func16 rfl Try.ntmps16 [(0, _)] rfl rfl ?_
  intro cx ρ hr h0
  have ls : xs.length ≤ 281474976710656 := hr.2.1.2
  refine Cd.seq fun K11 hK11 => ?_
  refine Cd.plain [(0, false)] rfl rfl ?_
  refine Jp.y 2 rfl (want_all rfl) rfl rfl Kp.true (Y.assign rfl rfl) ?_
  refine Jp.done hK11 ?_
  refine Cd.seq fun K12 hK12 => ?_
  refine Cd.seq fun K13 hK13 => ?_
  refine Cd.plain [(0, false), (1, false), (2, false)] rfl rfl ?_
  refine Jp.y 4 rfl (want_all rfl) rfl rfl Kp.true (Y.move rfl rfl) ?_
  refine Jp.y 5 rfl (want_all rfl) rfl rfl Kp.true (Y.lenslice rfl Try.underlying22 rfl) ?_
  refine Jp.y 6 rfl (want_all rfl) rfl rfl Kp.true (Y.gtr rfl rfl rfl) ?_
  refine Jp.done hK13 ?_
  refine Cd.cond rfl (fun g6 => ?_) (fun g6 => ?_)
  · skip
    refine Cd.seq fun K14 hK14 => ?_
    refine Cd.plain [(0, false)] rfl rfl ?_
    refine Jp.y 2 rfl (want_all rfl) rfl rfl Kp.true (Y.assign rfl rfl) ?_
    refine Jp.done hK14 ?_
    refine Cd.ret [] rfl (res1 rfl rfl) trivial ⟨rfl, ⟨true, rfl, fun h => by cases h⟩, rfl⟩
  try simp only [decide_eq_false_iff_not, decide_eq_true_eq, Int.not_lt, Int.not_le, Bool.not_eq_false, Bool.not_eq_true, Bool.not_true, Bool.not_false, Bool.not_eq_true', Bool.not_eq_false', beq_eq_false_iff_ne, ne_eq, beq_iff_eq, bne_iff_ne, bne_eq_false_iff_eq, Classical.not_not] at g6
  refine Cd.skip hK12 ?_
  refine Cd.seq fun K15 hK15 => ?_
  refine Cd.seq fun K16 hK16 => ?_
  refine Cd.plain [(0, false)] rfl rfl ?_
  refine Jp.y 3 rfl (want_all rfl) rfl rfl Kp.true (Y.assign rfl rfl) ?_
  refine Jp.done hK16 ?_
  refine Cd.block ?_
  refine Cd.loop (G := Nat) (fun k => k ≤ xs.length ∧ ∀ j x, j < k → xs[j]? = some x → x.size ≤ 400) (fun k => xs.length - k) (fun _ => ρ) (fun k => [(0, .slice A xs.length c), (3, .int .i64 k)]) (fun _ => []) 0 ⟨Nat.zero_le _, fun j x h => by omega⟩ rfl ⟨rfl, rfl, trivial⟩ trivial (fun g KLa hok hLa => ?_)
  obtain ⟨ok1, ok2⟩ := hok
  refine Cd.seq fun K17 hK17 => ?_
  refine Cd.seq fun K18 hK18 => ?_
  refine Cd.plain [(0, false), (1, false), (2, false), (3, false)] rfl rfl ?_
  refine Jp.y 7 rfl (want_all rfl) rfl rfl Kp.true (Y.move rfl rfl) ?_
  refine Jp.y 8 rfl (want_all rfl) rfl rfl Kp.true (Y.move rfl rfl) ?_
  refine Jp.y 9 rfl (want_all rfl) rfl rfl Kp.true (Y.lenslice rfl Try.underlying22 rfl) ?_
  refine Jp.y 10 rfl (want_all rfl) rfl rfl Kp.true (Y.lss rfl rfl rfl) ?_
  refine Jp.done hK18 ?_
  refine Cd.cond rfl (fun ga => ?_) (fun ga => ?_)
  · simp only [decide_eq_true_eq] at ga
    have hg : g < xs.length := by omega
    have hgx : xs[g]? = some xs[g] := by simp [hg]
    obtain ⟨ad, rfl⟩ := hr.some (show 0 < xs.length * 1 by omega)
    have hcell : cellH ρ (ad.add g) = some (.string xs[g]) := hr.cell (by simp [strsV, hg])
    refine Cd.skip hK17 ?_
    refine Cd.seq fun K19 hK19 => ?_
    refine Cd.block ?_
    refine Cd.seq fun K20 hK20 => ?_
    refine Cd.plain [(0, false), (1, false), (2, false), (3, false), (4, false), (5, false)] rfl rfl ?_
    refine Jp.y 13 rfl (want_all rfl) rfl rfl Kp.true (Y.move rfl rfl) ?_
    refine Jp.y 14 rfl (want_all rfl) rfl rfl Kp.true (Y.move rfl rfl) ?_
    refine Jp.y 15 rfl (want_all rfl) rfl rfl Kp.true (Y.indexAddr (q := g) rfl rfl rfl Try.underlying22 Try.sizeOf9 (by omega) (by omega) (by omega)) ?_
    refine Jp.y 16 rfl (want_all rfl) rfl rfl Kp.true (Y.loadR rfl Try.isAgg9 rfl hcell) ?_
    refine Jp.y 17 rfl (want_all rfl) rfl rfl Kp.true (Y.lenstr rfl Try.underlying9 rfl) ?_
    refine Jp.y 18 rfl (want_all rfl) rfl rfl Kp.true (Y.gtr rfl rfl rfl) ?_
    refine Jp.done hK20 ?_
    refine Cd.cond rfl (fun g18 => ?_) (fun g18 => ?_)
    · skip
      refine Cd.seq fun K21 hK21 => ?_
      refine Cd.plain [(0, false)] rfl rfl ?_
      refine Jp.y 2 rfl (want_all rfl) rfl rfl Kp.true (Y.assign rfl rfl) ?_
      refine Jp.done hK21 ?_
      refine Cd.ret [] rfl (res1 rfl rfl) trivial ⟨rfl, ⟨true, rfl, fun h => by cases h⟩, rfl⟩
    try simp only [decide_eq_false_iff_not, decide_eq_true_eq, Int.not_lt, Int.not_le, Bool.not_eq_false, Bool.not_eq_true, Bool.not_true, Bool.not_false, Bool.not_eq_true', Bool.not_eq_false', beq_eq_false_iff_ne, ne_eq, beq_iff_eq, bne_iff_ne, bne_eq_false_iff_eq, Classical.not_not] at g18
    refine Cd.over rfl hK19 ?_
    refine Cd.plain [(0, false), (1, false), (2, false)] rfl rfl ?_
    refine Jp.y 11 rfl (want_all rfl) rfl rfl Kp.true (Y.move rfl rfl) ?_
    refine Jp.y 12 rfl (want_all rfl) rfl rfl Kp.true (Y.add_ rfl rfl rfl (by first | exact wrap_i64 (by omega) (by omega) | rfl)) ?_
    refine Jp.y 3 rfl (want_all rfl) rfl rfl Kp.true (Y.assign rfl rfl) ?_
    refine Jp.again hLa (g + 1) ⟨by omega, fun j x hj hx => ?_⟩ (by omega) rfl ⟨rfl, rfl, trivial⟩ trivial
    by_cases hjg : j < g
    · exact ok2 j x hjg hx
    · have : j = g := by omega
      subst this
      rw [hgx] at hx
      injection hx with hx
      subst hx
      omega
  · simp only [decide_eq_false_iff_not] at ga
    refine Cd.exit rfl hK15 ?_
    refine Cd.seq fun K22 hK22 => ?_
    refine Cd.plain [(0, false)] rfl rfl ?_
    refine Jp.y 2 rfl (want_all rfl) rfl rfl Kp.true (Y.assign rfl rfl) ?_
    refine Jp.done hK22 ?_
    refine Cd.ret [] rfl (res1 rfl rfl) trivial ⟨rfl, ⟨false, rfl, fun _ => ⟨by show xs.length ≤ 20; omega, fun a ha => ?_⟩⟩, rfl⟩
    obtain ⟨j, hj⟩ := List.mem_iff_getElem?.1 ha
    have := (List.getElem?_eq_some_iff.1 hj).1
    have hj' : xs[j]? = some a := hj
    exact ok2 j a (by have : j < xs.length := this; omega) hj'
end Go.Proofs.Ytgfbdiibndbbjaa
