import Derived.Test.YtogkncmhonomdaaZFeedW
import Derived.Test.YtogkncmhonomdaaZTypes
set_option linter.unusedVariables false
set_option linter.unusedSimpArgs false
set_option maxRecDepth 100000
namespace Go.Proofs.Ytogkncmhonomdaa
open Go
theorem goodArgs_all {xs : List ByteArray} {k : Nat} (h : ∀ j x, j < k → xs[j]? = some x → goodArg (str x) = true) (h2 : xs.length ≤ k) : decide ((xs.length : Int) ≤ 16) = goodArgs (xs.map str) := by
  have := out_all (p := fun x => goodArg (str x)) h h2
  simp only [goodArgs, List.all_map, Function.comp_def, this, Bool.true_and, List.length_map]
  exact decide_eq_decide.2 (by omega)
theorem goodArg_long {s : ByteArray} (h : (200 : Int) < s.size) : goodArg (str s) = false := by
  have := str_size s
  simp [goodArg]; omega
theorem goodArg_nul {s : ByteArray} (h : (0 : Int) ≤ Lib.indexByte s.data.toList ((0 : Int).toNat.toUInt8)) : goodArg (str s) = false := by
  have h1 : ¬ Lib.indexByte s.data.toList 0 < 0 := by simpa using h
  rw [idx_neg, Bool.not_eq_false] at h1
  simp [goodArg, str]; intro _; simpa using h1
theorem goodArg_yes {s : ByteArray} (h : (s.size : Int) ≤ 200) (h2 : Lib.indexByte s.data.toList ((0 : Int).toNat.toUInt8) < 0) : goodArg (str s) = true := by
  have := str_size s
  have h1 : Lib.indexByte s.data.toList 0 < 0 := by simpa using h2
  rw [idx_neg] at h1
  have h3 : (str s).contains 0 = false := h1
  simp only [goodArg, h3, Bool.not_false, Bool.and_true, decide_eq_true_eq]
  omega
theorem f40_spec (s : Sl ByteArray) : Spec Try.prog 40 #[s.v] (RdStr s) [] (fun ρ ρ' v L => ρ' = ρ ∧ v = .bool (goodArgs (s.xs.map str)) ∧ L = []) := by
  obtain ⟨A, c, xs⟩ := s
  refine Spec.of 23 Try.func40 rfl Try.ntmps40 [(0, _)] rfl rfl ?_
  intro cx ρ hr h0
  have hlen : xs.length ≤ 281474976710656 := hr.2.1.2
  refine Cd.seq fun K1 hK1 => ?_
  refine Cd.plain [(0, false)] rfl rfl ?_
  refine Jp.y 2 rfl (want_all rfl) rfl rfl Kp.true (Y.assign rfl rfl) ?_
  refine Jp.done hK1 ?_
  refine Cd.seq fun K2 hK2 => ?_
  refine Cd.seq fun K3 hK3 => ?_
  refine Cd.plain [(0, false), (1, false), (2, false)] rfl rfl ?_
  refine Jp.y 5 rfl (want_all rfl) rfl rfl Kp.true (Y.move rfl rfl) ?_
  refine Jp.y 6 rfl (want_all rfl) rfl rfl Kp.true (Y.lenslice rfl Try.underlying22 rfl) ?_
  refine Jp.y 7 rfl (want_all rfl) rfl rfl Kp.true (Y.move rfl rfl) ?_
  refine Jp.done hK3 ?_
  refine Cd.block ?_
  refine Cd.loop (G := Nat) (fun k => k ≤ xs.length ∧ ∀ j x, j < k → xs[j]? = some x → goodArg (str x) = true) (fun k => xs.length - k) (fun _ => ρ) (fun k => [(0, .slice A xs.length c), (5, .slice A xs.length c), (6, .int .i64 xs.length), (7, .int .i64 k)]) (fun _ => []) 0 ⟨Nat.zero_le _, fun j x h => by omega⟩ rfl ⟨rfl, rfl, rfl, rfl, trivial⟩ trivial (fun g KLk hok hLk => ?_)
  obtain ⟨hok1, hok2⟩ := hok
  refine Cd.seq fun K4 hK4 => ?_
  refine Cd.plain [(0, false)] rfl rfl ?_
  refine Jp.y 8 rfl (want_all rfl) rfl rfl Kp.true (Y.lss rfl rfl rfl) ?_
  refine Jp.done hK4 ?_
  refine Cd.seq fun K5 hK5 => ?_
  refine Cd.condF' rfl (fun g8 => ?_) (fun g8 => ?_)
  · skip
    simp only [decide_eq_false_iff_not] at g8
    refine Cd.exit rfl hK2 ?_
    refine Cd.seq fun K6 hK6 => ?_
    refine Cd.plain [(0, false), (1, false), (2, false), (3, false)] rfl rfl ?_
    refine Jp.y 20 rfl (want_all rfl) rfl rfl Kp.true (Y.move rfl rfl) ?_
    refine Jp.y 21 rfl (want_all rfl) rfl rfl Kp.true (Y.lenslice rfl Try.underlying22 rfl) ?_
    refine Jp.y 22 rfl (want_all rfl) rfl rfl Kp.true (Y.leq rfl rfl rfl) ?_
    refine Jp.y 2 rfl (want_all rfl) rfl rfl Kp.true (Y.assign rfl rfl) ?_
    refine Jp.done hK6 ?_
    refine Cd.ret [] rfl (res1 rfl rfl) trivial ⟨rfl, congrArg Value.bool (goodArgs_all hok2 (by omega)), rfl⟩
  try simp only [decide_eq_false_iff_not, decide_eq_true_eq, Int.not_lt, Int.not_le, Bool.not_eq_false, Bool.not_eq_true, Bool.not_true, Bool.not_false, Bool.not_eq_true', Bool.not_eq_false', beq_eq_false_iff_ne, ne_eq, beq_iff_eq, bne_iff_ne, bne_eq_false_iff_eq, Classical.not_not] at g8
  refine Cd.skip hK5 ?_
  refine Cd.seq fun K7 hK7 => ?_
  refine Cd.block ?_
  refine Cd.seq fun K8 hK8 => ?_
  refine Cd.plain [(0, false), (1, false), (2, false)] rfl rfl ?_
  have hg : g < xs.length := by omega
  have hgx : xs[g]? = some xs[g] := by simp [hg]
  obtain ⟨ad, rfl⟩ := hr.some (show 0 < xs.length * 1 by omega)
  refine Jp.y 9 rfl (want_all rfl) rfl rfl Kp.true (Y.indexAddr (q := g) rfl rfl rfl Try.underlying22 Try.sizeOf9 (by omega) (by omega) (by omega)) ?_
  refine Jp.y 10 rfl (want_all rfl) rfl rfl Kp.true (Y.loadR rfl Try.isAgg9 rfl (hr.cell (v := .string xs[g]) (by simp [strsV, hg]))) ?_
  refine Jp.y 4 rfl (want_all rfl) rfl rfl Kp.true (Y.assign rfl rfl) ?_
  refine Jp.done hK8 ?_
  refine Cd.seq fun K9 hK9 => ?_
  refine Cd.plain [(0, false), (1, false), (2, false), (3, false), (4, false), (5, false), (6, false), (7, false)] rfl rfl ?_
  refine Jp.y 11 rfl (want_all rfl) rfl rfl Kp.true (Y.move rfl rfl) ?_
  refine Jp.y 12 rfl (want_all rfl) rfl rfl Kp.true (Y.lenstr rfl Try.underlying9 rfl) ?_
  refine Jp.y 13 rfl (want_all rfl) rfl rfl Kp.true (Y.gtr rfl rfl rfl) ?_
  refine Jp.y 14 rfl (want_all rfl) rfl rfl Kp.true (Y.move rfl rfl) ?_
  refine Jp.split 14 rfl (fun g14 => ?_) (fun g14 => ?_)
  · skip
    refine Jp.skip 15 rfl (want_as rfl rfl rfl rfl) rfl rfl Kp.true ?_
    refine Jp.skip 16 rfl (want_as rfl rfl rfl rfl) rfl rfl Kp.true ?_
    refine Jp.skip 17 rfl (want_as rfl rfl rfl rfl) rfl rfl Kp.true ?_
    refine Jp.y 18 rfl (want_all rfl) rfl rfl Kp.true (Y.pickT rfl rfl rfl) ?_
    refine Jp.done hK9 ?_
    refine Cd.condT rfl ?_
    refine Cd.seq fun K10 hK10 => ?_
    refine Cd.plain [(0, false)] rfl rfl ?_
    refine Jp.y 2 rfl (want_all rfl) rfl rfl Kp.true (Y.assign rfl rfl) ?_
    refine Jp.done hK10 ?_
    refine Cd.ret [] rfl (res1 rfl rfl) trivial ⟨rfl, congrArg Value.bool (goodArgs_bad (by rw [List.getElem?_map, hgx]; rfl) (goodArg_long (by simpa using g14))).symm, rfl⟩
  try simp only [decide_eq_false_iff_not, decide_eq_true_eq, Int.not_lt, Int.not_le, Bool.not_eq_false, Bool.not_eq_true, Bool.not_true, Bool.not_false, Bool.not_eq_true', Bool.not_eq_false', beq_eq_false_iff_ne, ne_eq, beq_iff_eq, bne_iff_ne, bne_eq_false_iff_eq, Classical.not_not] at g14
  refine Jp.y 15 rfl (want_as rfl rfl rfl rfl) rfl rfl Kp.true (Y.move rfl rfl) ?_
  refine Jp.call [] [] (f45_spec _ _) 16 rfl (want_as rfl rfl rfl rfl) rfl rfl (Runs.fn rfl Try.call45 rfl) (by decide) (by decide) rfl trivial ?_
  rintro v1 ρ1 L1 ⟨rfl, rfl, rfl⟩
  refine ⟨rfl, fun hle1 => ⟨Kp.true, ?_⟩⟩
  refine Jp.y 17 rfl (want_as rfl rfl rfl rfl) rfl rfl Kp.true (Y.geq rfl rfl rfl) ?_
  refine Jp.y 18 rfl (want_all rfl) rfl rfl Kp.true (Y.pickF rfl rfl rfl) ?_
  refine Jp.done hK9 ?_
  refine Cd.cond rfl (fun g18 => ?_) (fun g18 => ?_)
  · skip
    refine Cd.seq fun K11 hK11 => ?_
    refine Cd.plain [(0, false)] rfl rfl ?_
    refine Jp.y 2 rfl (want_all rfl) rfl rfl Kp.true (Y.assign rfl rfl) ?_
    refine Jp.done hK11 ?_
    refine Cd.ret [] rfl (res1 rfl rfl) trivial ⟨rfl, congrArg Value.bool (goodArgs_bad (by rw [List.getElem?_map, hgx]; rfl) (goodArg_nul (by simpa using g18))).symm, rfl⟩
  try simp only [decide_eq_false_iff_not, decide_eq_true_eq, Int.not_lt, Int.not_le, Bool.not_eq_false, Bool.not_eq_true, Bool.not_true, Bool.not_false, Bool.not_eq_true', Bool.not_eq_false', beq_eq_false_iff_ne, ne_eq, beq_iff_eq, bne_iff_ne, bne_eq_false_iff_eq, Classical.not_not] at g18
  refine Cd.over rfl hK7 ?_
  refine Cd.plain [(0, false), (1, false)] rfl rfl ?_
  refine Jp.y 19 rfl (want_all rfl) rfl rfl Kp.true (Y.add_ rfl rfl rfl (by first | exact wrap_i64 (by omega) (by omega) | rfl)) ?_
  refine Jp.y 7 rfl (want_all rfl) rfl rfl Kp.true (Y.move rfl rfl) ?_
  refine Jp.again hLk (g + 1) ⟨by omega, fun j x hj hx => ?_⟩ (by omega) rfl ⟨rfl, rfl, rfl, rfl, trivial⟩ trivial
  by_cases hjg : j < g
  · exact hok2 j x hjg hx
  · have : j = g := by omega
    subst this
    rw [hgx] at hx
    injection hx with hx
    subst hx
    exact goodArg_yes g14 g18
end Go.Proofs.Ytogkncmhonomdaa
