import Derived.Test.YtogkncmhonomdaaZFeedD
set_option linter.unusedVariables false
set_option linter.unusedSimpArgs false
set_option maxRecDepth 100000
namespace Go.Proofs.Ytogkncmhonomdaa
open Go
theorem f36_spec (s : Sl Int) (hn : s.xs.length ≤ 1000000) : Spec Try.prog 36 #[s.v] (RdI .i64 s) [] (fun ρ ρ' v L => ρ' = ρ ∧ ∃ A c, v = .slice A s.xs.length c ∧ L = [(0, OwnS 3 1 A s.xs.length c (intsV .i64 s.xs))]) := by
  obtain ⟨A, c, xs⟩ := s
  have hn : xs.length ≤ 1000000 := hn
  refine Spec.of 8 Try.func36 rfl Try.ntmps36 [(0, _)] rfl rfl ?_
  intro cx ρ hr h0
  refine Cd.seq fun K1 hK1 => ?_
  refine Cd.plain [(0, false)] rfl rfl ?_
  refine Jp.y 2 rfl (want_all rfl) rfl rfl Kp.true (Y.assign rfl rfl) ?_
  refine Jp.done hK1 ?_
  refine Cd.seq fun K2 hK2 => ?_
  refine Cd.seq fun K3 hK3 => ?_
  refine Cd.plain [(0, false), (1, false)] rfl rfl ?_
  refine Jp.y 3 rfl (want_all rfl) rfl rfl Kp.true (Y.move rfl rfl) ?_
  refine Jp.y 4 rfl (want_all rfl) rfl rfl Kp.true (Y.sliceNil rfl Try.underlying24 rfl rfl) ?_
  refine Jp.done hK3 ?_
  refine Cd.cond rfl (fun hA => ?_) (fun hA => ?_)
  · have hA : A = none := by simpa using hA
    subst hA
    have hx : xs = [] := by have := hr.none; simpa [intsV] using this
    subst hx
    refine Cd.make 0 (OwnS.nil 3 1 Hp.emp) ?_
    refine Cd.seq fun K4 hK4 => ?_
    refine Cd.plain [(0, false)] rfl rfl ?_
    refine Jp.y 2 rfl (want_all rfl) rfl rfl Kp.true (Y.assign rfl rfl) ?_
    refine Jp.done hK4 ?_
    refine Cd.ret [(0, _)] rfl (res1 rfl rfl) ⟨rfl, trivial⟩ ⟨rfl, none, 0, rfl, rfl⟩
  · skip
    refine Cd.skip hK2 ?_
    refine Cd.seq fun K5 hK5 => ?_
    refine Cd.plain [(0, false), (1, false), (2, false), (3, false)] rfl rfl ?_
    refine Jp.lit 5 0 [] [] rfl (want_all rfl) rfl rfl rfl rfl Try.underlying24 Try.sizeOf3 Try.zeroValue3 rfl rfl rfl rfl rfl fun b0 => ⟨Kp.true, ?_⟩
    refine Jp.y 6 rfl (want_all rfl) rfl rfl Kp.true (Y.move rfl rfl) ?_
    refine Jp.append 7 0 rfl (want_all rfl) rfl rfl rfl Try.underlying24 Try.underlying24 (.inl ⟨_, rfl⟩) Try.sizeOf3 Try.typeInfo3 Try.zeroValue3 rfl (by decide) rfl rfl rfl (Src.rd hr) (intsV_one _ _) (xs.length) (intsV .i64 xs) (by first | omega | simp) (by first | rfl | simp) (by simp only [Try.t3]; omega) fun A1 c1 => ⟨Kp.true, ?_⟩
    refine Jp.y 2 rfl (want_all rfl) rfl rfl Kp.true (Y.assign rfl rfl) ?_
    refine Jp.done hK5 ?_
    refine Cd.ret [(0, OwnS 3 1 A1 xs.length c1 (intsV .i64 xs))] rfl (res1 rfl rfl) ⟨rfl, trivial⟩ ⟨rfl, A1, c1, rfl, rfl⟩
theorem f26_spec (s : Sl UInt8) (hn : s.xs.length ≤ 1000000) : Spec Try.prog 26 #[s.v] (RdB s) [] (fun ρ ρ' v L => ρ' = ρ ∧ ∃ A c, v = .slice A s.xs.length c ∧ L = [(0, OwnS 5 1 A s.xs.length c (bytesV s.xs))]) := by
  obtain ⟨A, c, xs⟩ := s
  have hn : xs.length ≤ 1000000 := hn
  refine Spec.of 8 Try.func26 rfl Try.ntmps26 [(0, _)] rfl rfl ?_
  intro cx ρ hr h0
  refine Cd.seq fun K6 hK6 => ?_
  refine Cd.plain [(0, false)] rfl rfl ?_
  refine Jp.y 2 rfl (want_all rfl) rfl rfl Kp.true (Y.assign rfl rfl) ?_
  refine Jp.done hK6 ?_
  refine Cd.seq fun K7 hK7 => ?_
  refine Cd.seq fun K8 hK8 => ?_
  refine Cd.plain [(0, false), (1, false)] rfl rfl ?_
  refine Jp.y 3 rfl (want_all rfl) rfl rfl Kp.true (Y.move rfl rfl) ?_
  refine Jp.y 4 rfl (want_all rfl) rfl rfl Kp.true (Y.sliceNil rfl Try.underlying23 rfl rfl) ?_
  refine Jp.done hK8 ?_
  refine Cd.cond rfl (fun hA => ?_) (fun hA => ?_)
  · have hA : A = none := by simpa using hA
    subst hA
    have hx : xs = [] := by have := hr.none; simpa [bytesV] using this
    subst hx
    refine Cd.make 0 (OwnS.nil 5 1 Hp.emp) ?_
    refine Cd.seq fun K9 hK9 => ?_
    refine Cd.plain [(0, false)] rfl rfl ?_
    refine Jp.y 2 rfl (want_all rfl) rfl rfl Kp.true (Y.assign rfl rfl) ?_
    refine Jp.done hK9 ?_
    refine Cd.ret [(0, _)] rfl (res1 rfl rfl) ⟨rfl, trivial⟩ ⟨rfl, none, 0, rfl, rfl⟩
  · skip
    refine Cd.skip hK7 ?_
    refine Cd.seq fun K10 hK10 => ?_
    refine Cd.plain [(0, false), (1, false), (2, false), (3, false)] rfl rfl ?_
    refine Jp.lit 5 0 [] [] rfl (want_all rfl) rfl rfl rfl rfl Try.underlying23 Try.sizeOf5 Try.zeroValue5 rfl rfl rfl rfl rfl fun b0 => ⟨Kp.true, ?_⟩
    refine Jp.y 6 rfl (want_all rfl) rfl rfl Kp.true (Y.move rfl rfl) ?_
    refine Jp.append 7 0 rfl (want_all rfl) rfl rfl rfl Try.underlying23 Try.underlying23 (.inl ⟨_, rfl⟩) Try.sizeOf5 Try.typeInfo5 Try.zeroValue5 rfl (by decide) rfl rfl rfl (Src.rd hr) (bytesV_one _) (xs.length) (bytesV xs) (by first | omega | simp) (by first | rfl | simp) (by simp only [Try.t5]; omega) fun A1 c1 => ⟨Kp.true, ?_⟩
    refine Jp.y 2 rfl (want_all rfl) rfl rfl Kp.true (Y.assign rfl rfl) ?_
    refine Jp.done hK10 ?_
    refine Cd.ret [(0, OwnS 5 1 A1 xs.length c1 (bytesV xs))] rfl (res1 rfl rfl) ⟨rfl, trivial⟩ ⟨rfl, A1, c1, rfl, rfl⟩
theorem f37_spec (s : Sl Int) (hn : s.xs.length ≤ 1000000) : Spec Try.prog 37 #[s.v] (RdI .u32 s) [] (fun ρ ρ' v L => ρ' = ρ ∧ ∃ A c, v = .slice A s.xs.length c ∧ L = [(0, OwnS 87 1 A s.xs.length c (intsV .u32 s.xs))]) := by
  obtain ⟨A, c, xs⟩ := s
  have hn : xs.length ≤ 1000000 := hn
  refine Spec.of 8 Try.func37 rfl Try.ntmps37 [(0, _)] rfl rfl ?_
  intro cx ρ hr h0
  refine Cd.seq fun K11 hK11 => ?_
  refine Cd.plain [(0, false)] rfl rfl ?_
  refine Jp.y 2 rfl (want_all rfl) rfl rfl Kp.true (Y.assign rfl rfl) ?_
  refine Jp.done hK11 ?_
  refine Cd.seq fun K12 hK12 => ?_
  refine Cd.seq fun K13 hK13 => ?_
  refine Cd.plain [(0, false), (1, false)] rfl rfl ?_
  refine Jp.y 3 rfl (want_all rfl) rfl rfl Kp.true (Y.move rfl rfl) ?_
  refine Jp.y 4 rfl (want_all rfl) rfl rfl Kp.true (Y.sliceNil rfl Try.underlying25 rfl rfl) ?_
  refine Jp.done hK13 ?_
  refine Cd.cond rfl (fun hA => ?_) (fun hA => ?_)
  · have hA : A = none := by simpa using hA
    subst hA
    have hx : xs = [] := by have := hr.none; simpa [intsV] using this
    subst hx
    refine Cd.make 0 (OwnS.nil 87 1 Hp.emp) ?_
    refine Cd.seq fun K14 hK14 => ?_
    refine Cd.plain [(0, false)] rfl rfl ?_
    refine Jp.y 2 rfl (want_all rfl) rfl rfl Kp.true (Y.assign rfl rfl) ?_
    refine Jp.done hK14 ?_
    refine Cd.ret [(0, _)] rfl (res1 rfl rfl) ⟨rfl, trivial⟩ ⟨rfl, none, 0, rfl, rfl⟩
  · skip
    refine Cd.skip hK12 ?_
    refine Cd.seq fun K15 hK15 => ?_
    refine Cd.plain [(0, false), (1, false), (2, false), (3, false)] rfl rfl ?_
    refine Jp.lit 5 0 [] [] rfl (want_all rfl) rfl rfl rfl rfl Try.underlying25 Try.sizeOf87 Try.zeroValue87 rfl rfl rfl rfl rfl fun b0 => ⟨Kp.true, ?_⟩
    refine Jp.y 6 rfl (want_all rfl) rfl rfl Kp.true (Y.move rfl rfl) ?_
    refine Jp.append 7 0 rfl (want_all rfl) rfl rfl rfl Try.underlying25 Try.underlying25 (.inl ⟨_, rfl⟩) Try.sizeOf87 Try.typeInfo87 Try.zeroValue87 rfl (by decide) rfl rfl rfl (Src.rd hr) (intsV_one _ _) (xs.length) (intsV .u32 xs) (by first | omega | simp) (by first | rfl | simp) (by simp only [Try.t87]; omega) fun A1 c1 => ⟨Kp.true, ?_⟩
    refine Jp.y 2 rfl (want_all rfl) rfl rfl Kp.true (Y.assign rfl rfl) ?_
    refine Jp.done hK15 ?_
    refine Cd.ret [(0, OwnS 87 1 A1 xs.length c1 (intsV .u32 xs))] rfl (res1 rfl rfl) ⟨rfl, trivial⟩ ⟨rfl, A1, c1, rfl, rfl⟩
end Go.Proofs.Ytogkncmhonomdaa
