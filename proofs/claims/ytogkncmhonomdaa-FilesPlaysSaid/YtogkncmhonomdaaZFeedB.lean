import Derived.Test.YtogkncmhonomdaaZFeedA
set_option linter.unusedVariables false
set_option linter.unusedSimpArgs false
set_option maxRecDepth 100000
namespace Go.Proofs.Ytogkncmhonomdaa
open Go
theorem lt_not (a b : Int) : decide (a < b) = !decide (b ≤ a) := by
  by_cases h : a < b
  · rw [decide_eq_true h, decide_eq_false (by omega)]; rfl
  · rw [decide_eq_false h, decide_eq_true (by omega)]; rfl
theorem f44_spec (s : Sl Int) (f : FuncId) (cap : List Value) (p : Int → Bool) (hc : ∀ args w, (callFunc f args).run Try.prog w = .ok (.enter f args) w)
    (hf : ∀ x, Spec Try.prog f ([Value.int .i64 x] ++ cap).toArray (fun _ => True) [] (fun ρ ρ' v L => ρ' = ρ ∧ v = .bool (p x) ∧ L = [])) :
    Spec Try.prog 44 #[s.v, .func (.func f) #[] cap.toArray] (RdI .i64 s) [] (fun ρ ρ' v L => ρ' = ρ ∧ (∃ r : Int, v = .int .i64 r ∧ decide (0 ≤ r) = s.xs.any p) ∧ L = []) := by
  obtain ⟨A, c, xs⟩ := s
  refine Spec.of 19 Try.func44 rfl Try.ntmps44 [(0, _), (1, _)] rfl rfl ?_
  intro cx ρ hr h0
  have hlen : xs.length ≤ 281474976710656 := hr.2.1.2
  refine Cd.seq fun K1 hK1 => ?_
  refine Cd.plain [(0, false)] rfl rfl ?_
  refine Jp.y 4 rfl (want_all rfl) rfl rfl Kp.true (Y.assign rfl rfl) ?_
  refine Jp.done hK1 ?_
  refine Cd.seq fun K2 hK2 => ?_
  refine Cd.seq fun K3 hK3 => ?_
  refine Cd.plain [(0, false), (1, false), (2, false)] rfl rfl ?_
  refine Jp.y 6 rfl (want_all rfl) rfl rfl Kp.true (Y.move rfl rfl) ?_
  refine Jp.y 7 rfl (want_all rfl) rfl rfl Kp.true (Y.lenslice rfl Try.underlying24 rfl) ?_
  refine Jp.y 8 rfl (want_all rfl) rfl rfl Kp.true (Y.move rfl rfl) ?_
  refine Jp.done hK3 ?_
  refine Cd.block ?_
  refine Cd.loop (G := Nat) (fun k => k ≤ xs.length ∧ ∀ j x, j < k → xs[j]? = some x → p x = false) (fun k => xs.length - k) (fun _ => ρ) (fun k => [(0, .slice A xs.length c), (1, .func (.func f) #[] cap.toArray), (7, .int .i64 xs.length), (8, .int .i64 k)]) (fun _ => []) 0 ⟨Nat.zero_le _, fun j x h => by omega⟩ rfl ⟨rfl, rfl, rfl, rfl, trivial⟩ trivial (fun g KLk hok hLk => ?_)
  obtain ⟨hok1, hok2⟩ := hok
  refine Cd.seq fun K4 hK4 => ?_
  refine Cd.plain [(0, false)] rfl rfl ?_
  refine Jp.y 9 rfl (want_all rfl) rfl rfl Kp.true (Y.lss rfl rfl rfl) ?_
  refine Jp.done hK4 ?_
  refine Cd.seq fun K5 hK5 => ?_
  refine Cd.condF' rfl (fun g9 => ?_) (fun g9 => ?_)
  · skip
    simp only [decide_eq_false_iff_not] at g9
    refine Cd.exit rfl hK2 ?_
    refine Cd.seq fun K6 hK6 => ?_
    refine Cd.plain [(0, false)] rfl rfl ?_
    refine Jp.y 4 rfl (want_all rfl) rfl rfl Kp.true (Y.assign rfl rfl) ?_
    refine Jp.done hK6 ?_
    refine Cd.ret [] rfl (res1 rfl rfl) trivial ⟨rfl, ⟨-1, rfl, (any_false hok2 (by omega)).symm⟩, rfl⟩
  try simp only [decide_eq_false_iff_not, decide_eq_true_eq, Int.not_lt, Int.not_le, Bool.not_eq_false, Bool.not_eq_true, Bool.not_true, Bool.not_false, Bool.not_eq_true', Bool.not_eq_false', beq_eq_false_iff_ne, ne_eq, beq_iff_eq, bne_iff_ne, bne_eq_false_iff_eq, Classical.not_not] at g9
  refine Cd.skip hK5 ?_
  refine Cd.seq fun K7 hK7 => ?_
  refine Cd.block ?_
  refine Cd.seq fun K8 hK8 => ?_
  refine Cd.plain [(0, false), (1, false)] rfl rfl ?_
  refine Jp.y 10 rfl (want_all rfl) rfl rfl Kp.true (Y.move rfl rfl) ?_
  refine Jp.y 5 rfl (want_all rfl) rfl rfl Kp.true (Y.assign rfl rfl) ?_
  refine Jp.done hK8 ?_
  refine Cd.seq fun K9 hK9 => ?_
  refine Cd.plain [(0, false), (1, false), (2, false), (3, false), (4, false), (5, false)] rfl rfl ?_
  have hg : g < xs.length := by omega
  have hgx : xs[g]? = some xs[g] := by simp [hg]
  obtain ⟨ad, rfl⟩ := hr.some (show 0 < xs.length * 1 by omega)
  refine Jp.y 11 rfl (want_all rfl) rfl rfl Kp.true (Y.move rfl rfl) ?_
  refine Jp.y 12 rfl (want_all rfl) rfl rfl Kp.true (Y.move rfl rfl) ?_
  refine Jp.y 13 rfl (want_all rfl) rfl rfl Kp.true (Y.move rfl rfl) ?_
  refine Jp.y 14 rfl (want_all rfl) rfl rfl Kp.true (Y.indexAddr (q := g) rfl rfl rfl Try.underlying24 Try.sizeOf3 (by omega) (by omega) (by omega)) ?_
  refine Jp.y 15 rfl (want_all rfl) rfl rfl Kp.true (Y.loadR rfl Try.isAgg3 rfl (hr.cell (v := .int .i64 xs[g]) (by simp [intsV, hg]))) ?_
  refine Jp.call [] [] (hf _) 16 rfl (want_all rfl) rfl rfl (Runs.val rfl rfl hc rfl) (by decide) (by decide) rfl trivial ?_
  rintro v1 ρ1 L1 ⟨rfl, rfl, rfl⟩
  refine ⟨rfl, fun hle1 => ⟨Kp.true, ?_⟩⟩
  refine Jp.done hK9 ?_
  refine Cd.cond rfl (fun g16 => ?_) (fun g16 => ?_)
  · skip
    refine Cd.seq fun K10 hK10 => ?_
    refine Cd.plain [(0, false), (1, false)] rfl rfl ?_
    refine Jp.y 17 rfl (want_all rfl) rfl rfl Kp.true (Y.move rfl rfl) ?_
    refine Jp.y 4 rfl (want_all rfl) rfl rfl Kp.true (Y.assign rfl rfl) ?_
    refine Jp.done hK10 ?_
    refine Cd.ret [] rfl (res1 rfl rfl) trivial ⟨rfl, ⟨g, rfl, by rw [any_true hgx g16]; simp⟩, rfl⟩
  try simp only [decide_eq_false_iff_not, decide_eq_true_eq, Int.not_lt, Int.not_le, Bool.not_eq_false, Bool.not_eq_true, Bool.not_true, Bool.not_false, Bool.not_eq_true', Bool.not_eq_false', beq_eq_false_iff_ne, ne_eq, beq_iff_eq, bne_iff_ne, bne_eq_false_iff_eq, Classical.not_not] at g16
  refine Cd.over rfl hK7 ?_
  refine Cd.plain [(0, false), (1, false)] rfl rfl ?_
  refine Jp.y 18 rfl (want_all rfl) rfl rfl Kp.true (Y.add_ rfl rfl rfl (by first | exact wrap_i64 (by omega) (by omega) | rfl)) ?_
  refine Jp.y 8 rfl (want_all rfl) rfl rfl Kp.true (Y.move rfl rfl) ?_
  refine Jp.again hLk (g + 1) ⟨by omega, fun j x hj hx => ?_⟩ (by omega) rfl ⟨rfl, rfl, rfl, rfl, trivial⟩ trivial
  by_cases hjg : j < g
  · exact hok2 j x hjg hx
  · have : j = g := by omega
    subst this
    rw [hgx] at hx
    injection hx with hx
    subst hx
    exact g16
theorem f38_spec (s : Sl Int) (f : FuncId) (cap : List Value) (p : Int → Bool) (hc : ∀ args w, (callFunc f args).run Try.prog w = .ok (.enter f args) w)
    (hf : ∀ x, Spec Try.prog f ([Value.int .i64 x] ++ cap).toArray (fun _ => True) [] (fun ρ ρ' v L => ρ' = ρ ∧ v = .bool (p x) ∧ L = [])) :
    Spec Try.prog 38 #[s.v, .func (.func f) #[] cap.toArray] (RdI .i64 s) [] (fun ρ ρ' v L => ρ' = ρ ∧ v = .bool (s.xs.any p) ∧ L = []) := by
  refine Spec.of 9 Try.func38 rfl Try.ntmps38 [(0, _), (1, _)] rfl rfl ?_
  intro cx ρ hr h0
  refine Cd.seq fun K11 hK11 => ?_
  refine Cd.plain [(0, false)] rfl rfl ?_
  refine Jp.y 4 rfl (want_all rfl) rfl rfl Kp.true (Y.assign rfl rfl) ?_
  refine Jp.done hK11 ?_
  refine Cd.seq fun K12 hK12 => ?_
  refine Cd.plain [(0, false), (1, false), (2, false), (3, false), (4, false)] rfl rfl ?_
  refine Jp.y 5 rfl (want_all rfl) rfl rfl Kp.true (Y.move rfl rfl) ?_
  refine Jp.y 6 rfl (want_all rfl) rfl rfl Kp.true (Y.move rfl rfl) ?_
  refine Jp.call [] [] (f44_spec s f cap p hc hf) 7 rfl (want_all rfl) rfl rfl (Runs.fn rfl Try.call44 rfl) (by decide) (by decide) rfl hr ?_
  rintro v1 ρ1 L1 ⟨rfl, ⟨r, rfl, hr1⟩, rfl⟩
  refine ⟨rfl, fun hle1 => ⟨Kp.true, ?_⟩⟩
  refine Jp.y 8 rfl (want_all rfl) rfl rfl Kp.true (Y.geq rfl rfl rfl) ?_
  refine Jp.y 4 rfl (want_all rfl) rfl rfl Kp.true (Y.assign rfl rfl) ?_
  refine Jp.done hK12 ?_
  refine Cd.ret [] rfl (res1 rfl rfl) trivial ⟨rfl, congrArg Value.bool hr1, rfl⟩
theorem f39_spec (x : Int) : Spec Try.prog 39 #[.int .i64 x] (fun _ => True) [] (fun ρ ρ' v L => ρ' = ρ ∧ v = .bool (!goodShort x) ∧ L = []) := by
  refine Spec.of 9 Try.func39 rfl Try.ntmps39 [(0, _)] rfl rfl ?_
  intro cx ρ hr h0
  refine Cd.seq fun K13 hK13 => ?_
  refine Cd.plain [(0, false)] rfl rfl ?_
  refine Jp.y 2 rfl (want_all rfl) rfl rfl Kp.true (Y.assign rfl rfl) ?_
  refine Jp.done hK13 ?_
  refine Cd.seq fun K14 hK14 => ?_
  refine Cd.plain [(0, false), (1, false), (2, false), (3, false), (4, false), (5, false), (6, false)] rfl rfl ?_
  refine Jp.y 3 rfl (want_all rfl) rfl rfl Kp.true (Y.move rfl rfl) ?_
  refine Jp.y 4 rfl (want_all rfl) rfl rfl Kp.true (Y.lss rfl rfl rfl) ?_
  refine Jp.y 5 rfl (want_all rfl) rfl rfl Kp.true (Y.move rfl rfl) ?_
  refine Jp.split 5 rfl (fun g5 => ?_) (fun g5 => ?_)
  · skip
    refine Jp.skip 6 rfl (want_as rfl rfl rfl rfl) rfl rfl Kp.true ?_
    refine Jp.skip 7 rfl (want_as rfl rfl rfl rfl) rfl rfl Kp.true ?_
    refine Jp.y 8 rfl (want_all rfl) rfl rfl Kp.true (Y.pickT rfl rfl rfl) ?_
    refine Jp.y 2 rfl (want_all rfl) rfl rfl Kp.true (Y.assign rfl rfl) ?_
    refine Jp.done hK14 ?_
    refine Cd.ret [] rfl (res1 rfl rfl) trivial ⟨rfl, congrArg Value.bool (by simp only [decide_eq_true_eq] at g5; simp [goodShort]; omega), rfl⟩
  try simp only [decide_eq_false_iff_not, decide_eq_true_eq, Int.not_lt, Int.not_le, Bool.not_eq_false, Bool.not_eq_true, Bool.not_true, Bool.not_false, Bool.not_eq_true', Bool.not_eq_false', beq_eq_false_iff_ne, ne_eq, beq_iff_eq, bne_iff_ne, bne_eq_false_iff_eq, Classical.not_not] at g5
  refine Jp.y 6 rfl (want_as rfl rfl rfl rfl) rfl rfl Kp.true (Y.move rfl rfl) ?_
  refine Jp.y 7 rfl (want_as rfl rfl rfl rfl) rfl rfl Kp.true (Y.gtr rfl rfl rfl) ?_
  refine Jp.y 8 rfl (want_all rfl) rfl rfl Kp.true (Y.pickF rfl rfl rfl) ?_
  refine Jp.y 2 rfl (want_all rfl) rfl rfl Kp.true (Y.assign rfl rfl) ?_
  refine Jp.done hK14 ?_
  refine Cd.ret [] rfl (res1 rfl rfl) trivial ⟨rfl, congrArg Value.bool (by rw [goodShort, decide_eq_true g5, Bool.true_and, lt_not]), rfl⟩
theorem f47_spec (b : Nat) (f g : FileG) (T : TypeId) : Spec Try.prog 47 #[.agg g.cells.toArray, .pointer (some ⟨b, 0, none⟩)] (fun _ => True) [(0, Pt b (.cells f.cells.toArray T))] (fun ρ ρ' v L => ρ' = ρ ∧ v = .bool (str g.name == str f.name) ∧ L = [(0, Pt b (.cells f.cells.toArray T))]) := by
  refine Spec.of 9 Try.func47 rfl Try.ntmps47 [(0, _), (1, _)] rfl rfl ?_
  intro cx ρ hr h0
  refine Cd.seq fun K15 hK15 => ?_
  refine Cd.plain [(0, false), (1, false)] rfl rfl ?_
  refine Jp.box 50 2 rfl (want_all rfl) rfl rfl rfl rfl fun b50 => ⟨Kp.true, ?_⟩
  refine Jp.y 3 rfl (want_all rfl) rfl rfl Kp.true (Y.assign rfl rfl) ?_
  refine Jp.done hK15 ?_
  refine Cd.seq fun K16 hK16 => ?_
  refine Cd.plain [(0, false), (1, false), (2, false), (3, false), (4, false), (5, false)] rfl rfl ?_
  refine Jp.y 4 rfl (want_all rfl) rfl rfl Kp.true (by first | exact Y.fieldAddrP rfl rfl Try.underlying63 rfl Try.sizeOf9 (by decide) (show _ + 0 = _ from rfl) | exact Y.fieldAddr rfl rfl Try.underlying63 rfl Try.sizeOf9 (by decide)) ?_
  refine Jp.y 5 rfl (want_all rfl) rfl rfl Kp.true (by first | exact Y.loadO 0 rfl Try.isAgg9 rfl rfl rfl | exact Y.loadO 50 rfl Try.isAgg9 rfl rfl rfl) ?_
  refine Jp.y 6 rfl (want_all rfl) rfl rfl Kp.true (by first | exact Y.fieldAddrP rfl rfl Try.underlying63 rfl Try.sizeOf9 (by decide) (show _ + 0 = _ from rfl) | exact Y.fieldAddr rfl rfl Try.underlying63 rfl Try.sizeOf9 (by decide)) ?_
  refine Jp.y 7 rfl (want_all rfl) rfl rfl Kp.true (by first | exact Y.loadO 0 rfl Try.isAgg9 rfl rfl rfl | exact Y.loadO 50 rfl Try.isAgg9 rfl rfl rfl) ?_
  refine Jp.y 8 rfl (want_all rfl) rfl rfl Kp.true (Y.streql rfl rfl rfl) ?_
  refine Jp.y 3 rfl (want_all rfl) rfl rfl Kp.true (Y.assign rfl rfl) ?_
  refine Jp.done hK16 ?_
  refine Cd.ret [(0, _)] rfl (res1 rfl rfl) ⟨rfl, trivial⟩ ⟨rfl, rfl, rfl⟩
theorem f50_spec (s : Sl FileG) (C : HProp) (f : FuncId) (cap : List Value) (p : FileG → Bool) (hc : ∀ args w, (callFunc f args).run Try.prog w = .ok (.enter f args) w)
    (hf : ∀ x : FileG, Spec Try.prog f ([Value.agg x.cells.toArray] ++ cap).toArray (fun _ => True) [(0, C)] (fun ρ ρ' v L => ρ' = ρ ∧ v = .bool (p x) ∧ L = [(0, C)])) :
    Spec Try.prog 50 #[s.v, .func (.func f) #[] cap.toArray] (RdFiles s) [(0, C)] (fun ρ ρ' v L => ρ' = ρ ∧ (∃ r : Int, v = .int .i64 r ∧ decide (0 ≤ r) = s.xs.any p) ∧ L = [(0, C)]) := by
  obtain ⟨A, c, xs⟩ := s
  refine Spec.of 19 Try.func50 rfl Try.ntmps50 [(0, _), (1, _)] rfl rfl ?_
  intro cx ρ hr h0
  have hlen : xs.length ≤ 281474976710656 := hr.1.2.1.2
  refine Cd.seq fun K17 hK17 => ?_
  refine Cd.plain [(0, false)] rfl rfl ?_
  refine Jp.y 4 rfl (want_all rfl) rfl rfl Kp.true (Y.assign rfl rfl) ?_
  refine Jp.done hK17 ?_
  refine Cd.seq fun K18 hK18 => ?_
  refine Cd.seq fun K19 hK19 => ?_
  refine Cd.plain [(0, false), (1, false), (2, false)] rfl rfl ?_
  refine Jp.y 6 rfl (want_all rfl) rfl rfl Kp.true (Y.move rfl rfl) ?_
  refine Jp.y 7 rfl (want_all rfl) rfl rfl Kp.true (Y.lenslice rfl Try.underlying26 rfl) ?_
  refine Jp.y 8 rfl (want_all rfl) rfl rfl Kp.true (Y.move rfl rfl) ?_
  refine Jp.done hK19 ?_
  refine Cd.block ?_
  refine Cd.loop (G := Nat) (fun k => k ≤ xs.length ∧ ∀ j x, j < k → xs[j]? = some x → p x = false) (fun k => xs.length - k) (fun _ => ρ) (fun k => [(0, .slice A xs.length c), (1, .func (.func f) #[] cap.toArray), (7, .int .i64 xs.length), (8, .int .i64 k)]) (fun _ => [(0, C)]) 0 ⟨Nat.zero_le _, fun j x h => by omega⟩ rfl ⟨rfl, rfl, rfl, rfl, trivial⟩ ⟨rfl, trivial⟩ (fun g KLk hok hLk => ?_)
  obtain ⟨hok1, hok2⟩ := hok
  refine Cd.seq fun K20 hK20 => ?_
  refine Cd.plain [(0, false)] rfl rfl ?_
  refine Jp.y 9 rfl (want_all rfl) rfl rfl Kp.true (Y.lss rfl rfl rfl) ?_
  refine Jp.done hK20 ?_
  refine Cd.seq fun K21 hK21 => ?_
  refine Cd.condF' rfl (fun g9 => ?_) (fun g9 => ?_)
  · skip
    simp only [decide_eq_false_iff_not] at g9
    refine Cd.exit rfl hK18 ?_
    refine Cd.seq fun K22 hK22 => ?_
    refine Cd.plain [(0, false)] rfl rfl ?_
    refine Jp.y 4 rfl (want_all rfl) rfl rfl Kp.true (Y.assign rfl rfl) ?_
    refine Jp.done hK22 ?_
    refine Cd.ret [(0, _)] rfl (res1 rfl rfl) ⟨rfl, trivial⟩ ⟨rfl, ⟨-1, rfl, (any_false hok2 (by omega)).symm⟩, rfl⟩
  try simp only [decide_eq_false_iff_not, decide_eq_true_eq, Int.not_lt, Int.not_le, Bool.not_eq_false, Bool.not_eq_true, Bool.not_true, Bool.not_false, Bool.not_eq_true', Bool.not_eq_false', beq_eq_false_iff_ne, ne_eq, beq_iff_eq, bne_iff_ne, bne_eq_false_iff_eq, Classical.not_not] at g9
  refine Cd.skip hK21 ?_
  refine Cd.seq fun K23 hK23 => ?_
  refine Cd.block ?_
  refine Cd.seq fun K24 hK24 => ?_
  refine Cd.plain [(0, false), (1, false)] rfl rfl ?_
  refine Jp.y 10 rfl (want_all rfl) rfl rfl Kp.true (Y.move rfl rfl) ?_
  refine Jp.y 5 rfl (want_all rfl) rfl rfl Kp.true (Y.assign rfl rfl) ?_
  refine Jp.done hK24 ?_
  refine Cd.seq fun K25 hK25 => ?_
  refine Cd.plain [(0, false), (1, false), (2, false), (3, false), (4, false), (5, false)] rfl rfl ?_
  have hg : g < xs.length := by omega
  have hgx : xs[g]? = some xs[g] := by simp [hg]
  obtain ⟨ad, rfl⟩ := hr.1.some (show 0 < xs.length * 2 by omega)
  refine Jp.y 11 rfl (want_all rfl) rfl rfl Kp.true (Y.move rfl rfl) ?_
  refine Jp.y 12 rfl (want_all rfl) rfl rfl Kp.true (Y.move rfl rfl) ?_
  refine Jp.y 13 rfl (want_all rfl) rfl rfl Kp.true (Y.move rfl rfl) ?_
  refine Jp.y 14 rfl (want_all rfl) rfl rfl Kp.true (Y.indexAddr (q := g * 2) rfl rfl rfl Try.underlying26 Try.sizeOf63 (by omega) (by omega) (by omega)) ?_
  refine Jp.y 15 rfl (want_all rfl) rfl rfl Kp.true (Y.loadAggR xs[g].cells rfl Try.isAgg63 Try.sizeOf63 rfl rfl (hr.at rfl hgx)) ?_
  refine Jp.call [0] [0] (hf _) 16 rfl (want_all rfl) rfl rfl (Runs.val rfl rfl hc rfl) (by decide) (by decide) rfl trivial ?_
  rintro v1 ρ1 L1 ⟨rfl, rfl, rfl⟩
  refine ⟨rfl, fun hle1 => ⟨Kp.true, ?_⟩⟩
  refine Jp.done hK25 ?_
  refine Cd.cond rfl (fun g16 => ?_) (fun g16 => ?_)
  · skip
    refine Cd.seq fun K26 hK26 => ?_
    refine Cd.plain [(0, false), (1, false)] rfl rfl ?_
    refine Jp.y 17 rfl (want_all rfl) rfl rfl Kp.true (Y.move rfl rfl) ?_
    refine Jp.y 4 rfl (want_all rfl) rfl rfl Kp.true (Y.assign rfl rfl) ?_
    refine Jp.done hK26 ?_
    refine Cd.ret [(0, _)] rfl (res1 rfl rfl) ⟨rfl, trivial⟩ ⟨rfl, ⟨g, rfl, by rw [any_true hgx g16]; simp⟩, rfl⟩
  try simp only [decide_eq_false_iff_not, decide_eq_true_eq, Int.not_lt, Int.not_le, Bool.not_eq_false, Bool.not_eq_true, Bool.not_true, Bool.not_false, Bool.not_eq_true', Bool.not_eq_false', beq_eq_false_iff_ne, ne_eq, beq_iff_eq, bne_iff_ne, bne_eq_false_iff_eq, Classical.not_not] at g16
  refine Cd.over rfl hK23 ?_
  refine Cd.plain [(0, false), (1, false)] rfl rfl ?_
  refine Jp.y 18 rfl (want_all rfl) rfl rfl Kp.true (Y.add_ rfl rfl rfl (by first | exact wrap_i64 (by omega) (by omega) | rfl)) ?_
  refine Jp.y 8 rfl (want_all rfl) rfl rfl Kp.true (Y.move rfl rfl) ?_
  refine Jp.again hLk (g + 1) ⟨by omega, fun j x hj hx => ?_⟩ (by omega) rfl ⟨rfl, rfl, rfl, rfl, trivial⟩ ⟨rfl, trivial⟩
  by_cases hjg : j < g
  · exact hok2 j x hjg hx
  · have : j = g := by omega
    subst this
    rw [hgx] at hx
    injection hx with hx
    subst hx
    exact g16
theorem f46_spec (s : Sl FileG) (C : HProp) (f : FuncId) (cap : List Value) (p : FileG → Bool) (hc : ∀ args w, (callFunc f args).run Try.prog w = .ok (.enter f args) w)
    (hf : ∀ x : FileG, Spec Try.prog f ([Value.agg x.cells.toArray] ++ cap).toArray (fun _ => True) [(0, C)] (fun ρ ρ' v L => ρ' = ρ ∧ v = .bool (p x) ∧ L = [(0, C)])) :
    Spec Try.prog 46 #[s.v, .func (.func f) #[] cap.toArray] (RdFiles s) [(0, C)] (fun ρ ρ' v L => ρ' = ρ ∧ v = .bool (s.xs.any p) ∧ L = [(0, C)]) := by
  refine Spec.of 9 Try.func46 rfl Try.ntmps46 [(0, _), (1, _)] rfl rfl ?_
  intro cx ρ hr h0
  refine Cd.seq fun K27 hK27 => ?_
  refine Cd.plain [(0, false)] rfl rfl ?_
  refine Jp.y 4 rfl (want_all rfl) rfl rfl Kp.true (Y.assign rfl rfl) ?_
  refine Jp.done hK27 ?_
  refine Cd.seq fun K28 hK28 => ?_
  refine Cd.plain [(0, false), (1, false), (2, false), (3, false), (4, false)] rfl rfl ?_
  refine Jp.y 5 rfl (want_all rfl) rfl rfl Kp.true (Y.move rfl rfl) ?_
  refine Jp.y 6 rfl (want_all rfl) rfl rfl Kp.true (Y.move rfl rfl) ?_
  refine Jp.call [0] [0] (f50_spec s C f cap p hc hf) 7 rfl (want_all rfl) rfl rfl (Runs.fn rfl Try.call50 rfl) (by decide) (by decide) rfl hr ?_
  rintro v1 ρ1 L1 ⟨rfl, ⟨r, rfl, hr1⟩, rfl⟩
  refine ⟨rfl, fun hle1 => ⟨Kp.true, ?_⟩⟩
  refine Jp.y 8 rfl (want_all rfl) rfl rfl Kp.true (Y.geq rfl rfl rfl) ?_
  refine Jp.y 4 rfl (want_all rfl) rfl rfl Kp.true (Y.assign rfl rfl) ?_
  refine Jp.done hK28 ?_
  refine Cd.ret [(0, _)] rfl (res1 rfl rfl) ⟨rfl, trivial⟩ ⟨rfl, congrArg Value.bool hr1, rfl⟩
end Go.Proofs.Ytogkncmhonomdaa
