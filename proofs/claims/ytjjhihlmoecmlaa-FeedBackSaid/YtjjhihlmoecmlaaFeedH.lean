/- Contracts: the reference's MayFeed asks just what Good asks. -/
import Derived.Test.YtjjhihlmoecmlaaFeedG
set_option linter.unusedVariables false
set_option linter.unusedSimpArgs false
set_option maxRecDepth 100000
namespace Go.Proofs.Ytjjhihlmoecmlaa
open Go
theorem contains_at {l : Bytes} {k : Nat} (h : l[k]? = some 0) : l.contains 0 = true := by
  rw [List.contains_iff_mem]; exact List.mem_of_getElem? h
theorem contains_none {l : Bytes} {k : Nat} (h : ∀ j, j < k → l[j]? ≠ some 0) (h2 : l.length ≤ k) : l.contains 0 = false := by
  rw [Bool.eq_false_iff, ne_eq, List.contains_iff_mem]
  intro hm
  obtain ⟨j, hj⟩ := List.mem_iff_getElem?.1 hm
  have := (List.getElem?_eq_some_iff.1 hj).1
  exact h j (by omega) hj
theorem str_at {s : ByteArray} {g : Nat} (hg : g < s.size) : (str s)[g]? = some (s[g]'hg) := by
  unfold str; rw [Array.getElem?_toList, Array.getElem?_eq_getElem (by exact hg)]; rfl
theorem f54_spec (s : ByteArray) (hs : s.size ≤ 1000000) : Spec Try.prog 54 #[.string s] (fun _ => True) [] (fun ρ ρ' v L => ρ' = ρ ∧ v = .bool ((str s).contains 0) ∧ L = []) := by
  have hz := str_size s
  refine Spec.of 14 Try.func54 rfl Try.ntmps54 [(0, _)] rfl rfl ?_
  intro cx ρ hr h0
  refine Cd.seq fun K1 hK1 => ?_
  refine Cd.plain [(0, false)] rfl rfl ?_
  refine Jp.y 2 rfl (want_all rfl) rfl rfl Kp.true (Y.assign rfl rfl) ?_
  refine Jp.done hK1 ?_
  refine Cd.seq fun K2 hK2 => ?_
  refine Cd.seq fun K3 hK3 => ?_
  refine Cd.plain [(0, false)] rfl rfl ?_
  refine Jp.y 3 rfl (want_all rfl) rfl rfl Kp.true (Y.assign rfl rfl) ?_
  refine Jp.done hK3 ?_
  refine Cd.block ?_
  refine Cd.loop (G := Nat) (fun k => k ≤ s.size ∧ ∀ j, j < k → (str s)[j]? ≠ some 0) (fun k => s.size - k) (fun _ => ρ) (fun k => [(0, .string s), (3, .int .i64 k)]) (fun _ => []) 0 ⟨Nat.zero_le _, fun j h => by omega⟩ rfl ⟨rfl, rfl, trivial⟩ trivial (fun g KLk hok hLk => ?_)
  obtain ⟨hok1, hok2⟩ := hok
  refine Cd.seq fun K4 hK4 => ?_
  refine Cd.seq fun K5 hK5 => ?_
  refine Cd.plain [(0, false), (1, false), (2, false), (3, false)] rfl rfl ?_
  refine Jp.y 4 rfl (want_all rfl) rfl rfl Kp.true (Y.move rfl rfl) ?_
  refine Jp.y 5 rfl (want_all rfl) rfl rfl Kp.true (Y.move rfl rfl) ?_
  refine Jp.y 6 rfl (want_all rfl) rfl rfl Kp.true (Y.lenstr rfl Try.underlying9 rfl) ?_
  refine Jp.y 7 rfl (want_all rfl) rfl rfl Kp.true (Y.lss rfl rfl rfl) ?_
  refine Jp.done hK5 ?_
  refine Cd.condF' rfl (fun g7 => ?_) (fun g7 => ?_)
  · skip
    simp only [decide_eq_false_iff_not] at g7
    refine Cd.exit rfl hK2 ?_
    refine Cd.seq fun K6 hK6 => ?_
    refine Cd.plain [(0, false)] rfl rfl ?_
    refine Jp.y 2 rfl (want_all rfl) rfl rfl Kp.true (Y.assign rfl rfl) ?_
    refine Jp.done hK6 ?_
    refine Cd.ret [] rfl (res1 rfl rfl) trivial ⟨rfl, congrArg Value.bool (contains_none hok2 (by omega)).symm, rfl⟩
  try simp only [decide_eq_false_iff_not, decide_eq_true_eq, Int.not_lt, Int.not_le, Bool.not_eq_false, Bool.not_eq_true, Bool.not_true, Bool.not_false, Bool.not_eq_true', Bool.not_eq_false', beq_eq_false_iff_ne, ne_eq, beq_iff_eq, bne_iff_ne, bne_eq_false_iff_eq, Classical.not_not] at g7
  refine Cd.skip hK4 ?_
  refine Cd.seq fun K7 hK7 => ?_
  refine Cd.block ?_
  refine Cd.seq fun K8 hK8 => ?_
  refine Cd.plain [(0, false), (1, false), (2, false), (3, false)] rfl rfl ?_
  have hg : g < s.size := by omega
  refine Jp.y 10 rfl (want_all rfl) rfl rfl Kp.true (Y.move rfl rfl) ?_
  refine Jp.y 11 rfl (want_all rfl) rfl rfl Kp.true (Y.move rfl rfl) ?_
  refine Jp.y 12 rfl (want_all rfl) rfl rfl Kp.true (Y.indexstr (q := g) rfl Try.underlying9 rfl rfl (by omega) (by omega) rfl) ?_
  refine Jp.y 13 rfl (want_all rfl) rfl rfl Kp.true (Y.eql rfl rfl rfl) ?_
  refine Jp.done hK8 ?_
  refine Cd.cond rfl (fun g13 => ?_) (fun g13 => ?_)
  · skip
    refine Cd.seq fun K9 hK9 => ?_
    refine Cd.plain [(0, false)] rfl rfl ?_
    refine Jp.y 2 rfl (want_all rfl) rfl rfl Kp.true (Y.assign rfl rfl) ?_
    refine Jp.done hK9 ?_
    refine Cd.ret [] rfl (res1 rfl rfl) trivial ⟨rfl, congrArg Value.bool (contains_at (k := g) (by rw [str_at hg]; simp only [beq_iff_eq] at g13; congr 1; exact UInt8.toNat_inj.1 (by simpa using g13))).symm, rfl⟩
  try simp only [decide_eq_false_iff_not, decide_eq_true_eq, Int.not_lt, Int.not_le, Bool.not_eq_false, Bool.not_eq_true, Bool.not_true, Bool.not_false, Bool.not_eq_true', Bool.not_eq_false', beq_eq_false_iff_ne, ne_eq, beq_iff_eq, bne_iff_ne, bne_eq_false_iff_eq, Classical.not_not] at g13
  refine Cd.over rfl hK7 ?_
  refine Cd.plain [(0, false), (1, false), (2, false)] rfl rfl ?_
  refine Jp.y 8 rfl (want_all rfl) rfl rfl Kp.true (Y.move rfl rfl) ?_
  refine Jp.y 9 rfl (want_all rfl) rfl rfl Kp.true (Y.add_ rfl rfl rfl (by first | exact wrap_i64 (by omega) (by omega) | rfl)) ?_
  refine Jp.y 3 rfl (want_all rfl) rfl rfl Kp.true (Y.assign rfl rfl) ?_
  refine Jp.again hLk (g + 1) ⟨by omega, fun j hj => ?_⟩ (by omega) rfl ⟨rfl, rfl, trivial⟩ trivial
  by_cases hjg : j < g
  · exact hok2 j hjg
  · have : j = g := by omega
    subst this
    rw [str_at hg]
    intro h
    injection h with h
    apply g13
    rw [h]; rfl
theorem good_n1 {f : FeedP} (h : 16 < f.args.length) : good f = false := good_bad (.inr (.inr (.inr (.inr (.inr (.inl (by
  have : ¬ f.args.length ≤ 16 := by omega
  simp [goodArgs, this])))))))
theorem good_n6 {f : FeedP} (h : 8 < f.files.length) : good f = false := good_bad (.inr (.inr (.inr (.inr (.inr (.inr (by
  have : ¬ f.files.length ≤ 8 := by omega
  simp [goodFiles, this])))))))
theorem good_arg {f : FeedP} {k : Nat} {s : Bytes} (h : f.args[k]? = some s) (hb : goodArg s = false) : good f = false := good_bad (.inr (.inr (.inr (.inr (.inr (.inl (goodArgs_bad h hb)))))))
theorem good_short {f : FeedP} {k : Nat} {x : Int} (h : f.short[k]? = some x) (hb : goodShort x = false) : good f = false := good_bad (.inl (by
  rw [Bool.eq_false_iff, ne_eq, List.all_eq_true]
  intro ha
  rw [ha x (List.mem_of_getElem? h)] at hb; cases hb))
theorem good_file {f : FeedP} {k : Nat} (hk : k < f.files.length) (hb : okAt f.files k = false) : good f = false := good_bad (.inr (.inr (.inr (.inr (.inr (.inr (goodFiles_bad hk hb)))))))
end Go.Proofs.Ytjjhihlmoecmlaa
