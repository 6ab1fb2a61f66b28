import Derived.Test.YtgmhijlcdadaeaaZShF
set_option linter.unusedVariables false
set_option linter.unusedSimpArgs false
set_option maxRecDepth 100000
namespace Go.Proofs.Ytgmhijlcdadaeaa
open Go
theorem setFn_spec (cb : Nat) (s : Sl UInt8) (i : Nat) (v : UInt8) (hv : s.xs[i]? = some v) : Spec Try.prog 78 #[.int .i64 (i : Int), .pointer (some ⟨cb, 0, none⟩)] (RdB s) [(0, Pt cb (.cells #[s.v] 38))]
    (fun ρ ρ' r L => ρ' = ρ ∧ r = .int .u8 (v.toNat : Int) ∧ L = [(0, Pt cb (.cells #[s.v] 38))]) := by
  obtain ⟨A, c, xs⟩ := s
  dsimp only [Sl.v]
  refine Spec.of 8 Try.func78 rfl Try.ntmps78 [(0, _), (1, _)] rfl rfl ?_
  intro cx ρ hr h0
  have hi : i < xs.length := (List.getElem?_eq_some_iff.1 hv).1
  obtain ⟨ad, hA, hc⟩ := RdB.cell hr hv
  have hA : A = some ad := hA
  subst hA
  refine Cd.seq fun K1 hK1 => ?_
  refine Cd.plain [(0, false)] rfl rfl ?_
  refine Jp.y 3 rfl (want_all rfl) rfl rfl Kp.true (Y.assign rfl rfl) ?_
  refine Jp.done hK1 ?_
  refine Cd.seq fun K2 hK2 => ?_
  refine Cd.plain [(0, false), (1, false), (2, false), (3, false), (4, false)] rfl rfl ?_
  refine Jp.y 4 rfl (want_all rfl) rfl rfl Kp.true (Y.loadO 0 rfl Try.isAgg38 rfl rfl rfl) ?_
  refine Jp.y 5 rfl (want_all rfl) rfl rfl Kp.true (Y.move rfl rfl) ?_
  refine Jp.y 6 rfl (want_all rfl) rfl rfl Kp.true (Y.indexAddr (q := i) rfl rfl rfl Try.underlying38 Try.sizeOf5 (by omega) (by omega) (by omega)) ?_
  refine Jp.y 7 rfl (want_all rfl) rfl rfl Kp.true (Y.loadR rfl Try.isAgg5 rfl hc) ?_
  refine Jp.y 3 rfl (want_all rfl) rfl rfl Kp.true (Y.assign rfl rfl) ?_
  refine Jp.done hK2 ?_
  refine Cd.ret [(0, _)] rfl (res1 rfl rfl) ⟨rfl, trivial⟩ ⟨rfl, rfl, rfl⟩
theorem fillFn_spec (cb : Nat) (i : Nat) (v : UInt8) : Spec Try.prog 76 #[.int .i64 (i : Int), .pointer (some ⟨cb, 0, none⟩)] (fun _ => True) [(0, Pt cb (.cells #[.int .u8 (v.toNat : Int)] 5))]
    (fun ρ ρ' r L => ρ' = ρ ∧ r = .int .u8 (v.toNat : Int) ∧ L = [(0, Pt cb (.cells #[.int .u8 (v.toNat : Int)] 5))]) := by
  refine Spec.of 5 Try.func76 rfl Try.ntmps76 [(0, _), (1, _)] rfl rfl ?_
  intro cx ρ hr h0
  refine Cd.seq fun K3 hK3 => ?_
  refine Cd.plain [(0, false)] rfl rfl ?_
  refine Jp.y 3 rfl (want_all rfl) rfl rfl Kp.true (Y.assign rfl rfl) ?_
  refine Jp.done hK3 ?_
  refine Cd.seq fun K4 hK4 => ?_
  refine Cd.plain [(0, false), (1, false)] rfl rfl ?_
  refine Jp.y 4 rfl (want_all rfl) rfl rfl Kp.true (Y.loadO 0 rfl Try.isAgg5 rfl rfl rfl) ?_
  refine Jp.y 3 rfl (want_all rfl) rfl rfl Kp.true (Y.assign rfl rfl) ?_
  refine Jp.done hK4 ?_
  refine Cd.ret [(0, _)] rfl (res1 rfl rfl) ⟨rfl, trivial⟩ ⟨rfl, rfl, rfl⟩
theorem shSet_spec (b : Nat) (S : ShG) (a : Nat) (s : Sl UInt8) (ha : a < 4294967296) (hl : s.xs.length ≤ 1048576) : Spec Try.prog 30 #[.pointer (some ⟨b, 0, none⟩), .int .u32 a, s.v] (RdB s) [(0, ShO b S)]
    (fun ρ ρ' r L => ρ' = ρ ∧ r = .int .i64 (setM S a s.xs).1 ∧ L = [(0, ShO b (setM S a s.xs).2)]) := by
  obtain ⟨A, c, xs⟩ := s
  dsimp only [Sl.v] at hl ⊢
  refine Spec.of 13 Try.func30 rfl Try.ntmps30 [(0, _), (1, _), (2, _)] rfl rfl ?_
  intro cx ρ hr h0
  refine Cd.seq fun K5 hK5 => ?_
  refine Cd.plain [(0, false), (1, false)] rfl rfl ?_
  refine Jp.box 5 5 rfl (want_all rfl) rfl rfl rfl rfl fun b5 => ⟨Kp.true, ?_⟩
  refine Jp.y 6 rfl (want_all rfl) rfl rfl Kp.true (Y.assign rfl rfl) ?_
  refine Jp.done hK5 ?_
  refine Cd.seq fun K6 hK6 => ?_
  refine Cd.plain [(0, false), (1, false), (2, false), (3, false), (4, false), (5, false), (6, false)] rfl rfl ?_
  refine Jp.y 7 rfl (want_all rfl) rfl rfl Kp.true (Y.move rfl rfl) ?_
  refine Jp.y 8 rfl (want_all rfl) rfl rfl Kp.true (Y.move rfl rfl) ?_
  refine Jp.y 9 rfl (want_all rfl) rfl rfl Kp.true (Y.loadO 5 rfl Try.isAgg38 rfl rfl rfl) ?_
  refine Jp.y 10 rfl (want_all rfl) rfl rfl Kp.true (Y.lenslice rfl Try.underlying38 rfl) ?_
  refine Jp.y 11 rfl (want_all rfl) rfl rfl Kp.true (Y.makeFunc rfl rfl) ?_
  have hlay := shLay_spec b S a (xs.length : Int) (xs.take (4294967296 - a)) 78 [.pointer (some ⟨b5, 0, none⟩)] (RdB ⟨A, c, xs⟩) (Pt b5 (.cells #[.slice A xs.length c] 38)) ha (by omega) (by rw [List.length_take]; omega) (by rw [List.length_take]; omega) Try.call78 (fun i v hv => setFn_spec b5 ⟨A, c, xs⟩ i v (by
    have := hv
    rw [List.getElem?_take] at this
    split at this
    · exact this
    · cases this))
  refine Jp.call [0, 5] [0, 5] hlay 12 rfl (want_all rfl) rfl rfl (Runs.fn rfl Try.call75 rfl) (by decide) (by decide) rfl hr ?_
  rintro v1 ρ1 L1 ⟨rfl, rfl, rfl⟩
  refine ⟨rfl, fun hle1 => ⟨Kp.true, ?_⟩⟩
  refine Jp.y 6 rfl (want_all rfl) rfl rfl Kp.true (Y.assign rfl rfl) ?_
  refine Jp.done hK6 ?_
  refine Cd.ret [(0, _)] rfl (res1 rfl rfl) ⟨rfl, trivial⟩ ⟨rfl, rfl, rfl⟩
theorem shFill_spec (b : Nat) (S : ShG) (a : Nat) (n : Int) (v : UInt8) (ha : a < 4294967296) : Spec Try.prog 28 #[.pointer (some ⟨b, 0, none⟩), .int .u32 a, .int .i64 n, .int .u8 (v.toNat : Int)] (fun _ => True) [(0, ShO b S)]
    (fun ρ ρ' r L => ρ' = ρ ∧ r = .int .i64 (fillM S a n v).1 ∧ L = [(0, ShO b (fillM S a n v).2)]) := by
  refine Spec.of 16 Try.func28 rfl Try.ntmps28 [(0, _), (1, _), (2, _), (3, _)] rfl rfl ?_
  intro cx ρ hr h0
  refine Cd.seq fun K7 hK7 => ?_
  refine Cd.plain [(0, false), (1, false)] rfl rfl ?_
  refine Jp.box 5 7 rfl (want_all rfl) rfl rfl rfl rfl fun b5 => ⟨Kp.true, ?_⟩
  refine Jp.y 8 rfl (want_all rfl) rfl rfl Kp.true (Y.assign rfl rfl) ?_
  refine Jp.done hK7 ?_
  refine Cd.seq fun K8 hK8 => ?_
  refine Cd.seq fun K9 hK9 => ?_
  refine Cd.plain [(0, false), (1, false)] rfl rfl ?_
  refine Jp.y 9 rfl (want_all rfl) rfl rfl Kp.true (Y.move rfl rfl) ?_
  refine Jp.y 10 rfl (want_all rfl) rfl rfl Kp.true (Y.gtr rfl rfl rfl) ?_
  refine Jp.done hK9 ?_
  refine Cd.cond rfl (fun gn => ?_) (fun gn => ?_)
  · have e : fillM S a n v = (1, S) := if_pos (by simpa using gn)
    refine Cd.seq fun K10 hK10 => ?_
    refine Cd.plain [(0, false)] rfl rfl ?_
    refine Jp.y 8 rfl (want_all rfl) rfl rfl Kp.true (Y.assign rfl rfl) ?_
    refine Jp.done hK10 ?_
    refine Cd.ret [(0, _)] rfl (res1 rfl rfl) ⟨rfl, trivial⟩ ⟨rfl, by rw [e], by rw [e]⟩
  · have hn : n ≤ 1048576 := by simpa using gn
    have e : fillM S a n v = setM S a (List.replicate n.toNat v) := if_neg (by omega)
    refine Cd.skip hK8 ?_
    refine Cd.seq fun K11 hK11 => ?_
    refine Cd.plain [(0, false), (1, false), (2, false), (3, false), (4, false), (5, false)] rfl rfl ?_
    refine Jp.y 11 rfl (want_all rfl) rfl rfl Kp.true (Y.move rfl rfl) ?_
    refine Jp.y 12 rfl (want_all rfl) rfl rfl Kp.true (Y.move rfl rfl) ?_
    refine Jp.y 13 rfl (want_all rfl) rfl rfl Kp.true (Y.move rfl rfl) ?_
    refine Jp.y 14 rfl (want_all rfl) rfl rfl Kp.true (Y.makeFunc rfl rfl) ?_
    have hlay := shLay_spec b S a n ((List.replicate n.toNat v).take (4294967296 - a)) 76 [.pointer (some ⟨b5, 0, none⟩)] (fun _ => True) (Pt b5 (.cells #[.int .u8 (v.toNat : Int)] 5)) ha (by omega) (by rw [List.length_take, List.length_replicate]; omega) (by rw [List.length_take, List.length_replicate]; omega) Try.call76 (fun i w hv => by
      have h1 := List.mem_of_mem_take (List.mem_of_getElem? hv)
      rw [(List.mem_replicate.1 h1).2]
      exact fillFn_spec b5 i v)
    refine Jp.call [0, 5] [0, 5] hlay 15 rfl (want_all rfl) rfl rfl (Runs.fn rfl Try.call75 rfl) (by decide) (by decide) rfl trivial ?_
    rintro v1 ρ1 L1 ⟨rfl, rfl, rfl⟩
    refine ⟨rfl, fun hle1 => ⟨Kp.true, ?_⟩⟩
    refine Jp.y 8 rfl (want_all rfl) rfl rfl Kp.true (Y.assign rfl rfl) ?_
    refine Jp.done hK11 ?_
    refine Cd.ret [(0, _)] rfl (res1 rfl rfl) ⟨rfl, trivial⟩ ⟨rfl, by rw [e]; rfl, by rw [e]; rfl⟩
theorem shPutN_spec (b : Nat) (S : ShG) (a : Nat) (size : Int) (t : Bytes) (ha : a < 4294967296) (ht : t.length = 4) : Spec Try.prog 31 #[.pointer (some ⟨b, 0, none⟩), .int .u32 a, .int .i64 size, .agg (bytesV t).toArray] (fun _ => True) [(0, ShO b S)]
    (fun ρ ρ' r L => r = .int .i64 (putM S a size t).1 ∧ L = [(0, ShO b (putM S a size t).2)]) := by
  refine Spec.of 15 Try.func31 rfl Try.ntmps31 [(0, _), (1, _), (2, _), (3, _)] rfl rfl ?_
  intro cx ρ hr h0
  have hsz : sizedP size ≤ 4 := by unfold sizedP; split <;> omega
  refine Cd.seq fun K12 hK12 => ?_
  refine Cd.plain [(0, false), (1, false)] rfl rfl ?_
  refine Jp.box 5 7 rfl (want_all rfl) rfl rfl rfl rfl fun b5 => ⟨Kp.true, ?_⟩
  refine Jp.y 8 rfl (want_all rfl) rfl rfl Kp.true (Y.assign rfl rfl) ?_
  refine Jp.done hK12 ?_
  refine Cd.seq fun K13 hK13 => ?_
  refine Cd.plain [(0, false), (1, false), (2, false), (3, false), (4, false), (5, false), (6, false)] rfl rfl ?_
  refine Jp.y 9 rfl (want_all rfl) rfl rfl Kp.true (Y.move rfl rfl) ?_
  refine Jp.y 10 rfl (want_all rfl) rfl rfl Kp.true (Y.move rfl rfl) ?_
  refine Jp.y 11 rfl (want_all rfl) rfl rfl Kp.true (Y.move rfl rfl) ?_
  refine Jp.call [] [] (shSized_spec size) 12 rfl (want_all rfl) rfl rfl (Runs.fn rfl Try.call79 rfl) (by decide) (by decide) rfl trivial ?_
  rintro v1 ρ1 L1 ⟨rfl, rfl, rfl⟩
  refine ⟨rfl, fun hle1 => ⟨Kp.true, ?_⟩⟩
  obtain ⟨z, hz⟩ : ∃ z, sizedP size = z := ⟨_, rfl⟩
  have hpm : putM S a size t = setM S a (t.take z) := by rw [putM, hz]
  rw [hz] at hsz ⊢
  refine Jp.y 13 rfl (want_all rfl) rfl rfl Kp.true (Y.sliceArrTo (hi := z) rfl rfl rfl Try.underlying64 Try.sizeOf5 (by omega) (by omega)) ?_
  refine Jp.freeze (i := 5) (A := Pt b5 (.cells (bytesV t).toArray 64)) rfl (Pt.up _ _) fun ρ5 hle5 hA5 => ?_
  have hlt : (t.take z).length = z := by rw [List.length_take]; omega
  have hrd : RdB ⟨some ⟨b5, 0, none⟩, 4, t.take (z)⟩ ρ5 := by
    refine ⟨by simp [bytesV], ⟨by show (t.take (z)).length ≤ 4; omega, by show (t.take (z)).length ≤ _; omega⟩, fun j v hj => ⟨_, rfl, ?_⟩⟩
    rw [add_mk]
    have hA5 : ρ5 b5 = some (.cells (bytesV t).toArray 64) := hA5
    have hj2 : (bytesV t)[j]? = some v := by
      have h1 : (bytesV (t.take (z)))[j]? = some v := hj
      unfold bytesV at h1 ⊢
      rw [List.map_take, List.getElem?_take] at h1
      split at h1
      · exact h1
      · cases h1
    simp [cellH, hA5, hj2]
  have hS := shSet_spec b S a ⟨some ⟨b5, 0, none⟩, 4, t.take (z)⟩ ha (by show (t.take (z)).length ≤ _; omega)
  unfold Sl.v at hS
  dsimp only at hS
  rw [hlt] at hS
  refine Jp.call [0] [0] hS 14 rfl (want_all rfl) rfl rfl (Runs.fn rfl Try.call30 rfl) (by decide) (by decide) rfl hrd ?_
  rintro v2 ρ2 L2 ⟨rfl, rfl, rfl⟩
  refine ⟨rfl, fun hle2 => ⟨Kp.true, ?_⟩⟩
  refine Jp.y 8 rfl (want_all rfl) rfl rfl Kp.true (Y.assign rfl rfl) ?_
  refine Jp.done hK13 ?_
  refine Cd.ret [(0, _)] rfl (res1 rfl rfl) ⟨rfl, trivial⟩ ⟨by rw [hpm], by rw [hpm]⟩
theorem shNew_spec (budget : Int) : Spec Try.prog 26 #[.int .i64 budget] (fun _ => True) []
    (fun ρ ρ' v L => ρ' = ρ ∧ if 0 ≤ budget ∧ budget ≤ 4096 then ∃ b, v = .tuple #[.pointer (some ⟨b, 0, none⟩), .int .i64 0] ∧ L = [(0, ShO b ⟨budget.toNat, []⟩)] else v = .tuple #[.pointer none, .int .i64 1] ∧ L = []) := by
  refine Spec.of 14 Try.func26 rfl Try.ntmps26 [(0, _)] rfl rfl ?_
  intro cx ρ hr h0
  refine Cd.seq fun K14 hK14 => ?_
  refine Cd.plain [(0, false), (1, false)] rfl rfl ?_
  refine Jp.y 2 rfl (want_all rfl) rfl rfl Kp.true (Y.assign rfl rfl) ?_
  refine Jp.y 3 rfl (want_all rfl) rfl rfl Kp.true (Y.assign rfl rfl) ?_
  refine Jp.done hK14 ?_
  refine Cd.seq fun K15 hK15 => ?_
  refine Cd.seq fun K16 hK16 => ?_
  refine Cd.plain [(0, false), (1, false), (2, false), (3, false), (4, false), (5, false)] rfl rfl ?_
  refine Jp.y 4 rfl (want_all rfl) rfl rfl Kp.true (Y.move rfl rfl) ?_
  refine Jp.y 5 rfl (want_all rfl) rfl rfl Kp.true (Y.lss rfl rfl rfl) ?_
  refine Jp.y 6 rfl (want_all rfl) rfl rfl Kp.true (Y.move rfl rfl) ?_
  refine Jp.split 6 rfl (fun g6 => ?_) (fun g6 => ?_)
  · skip
    try simp only [decide_eq_false_iff_not, decide_eq_true_eq, Int.not_lt, Int.not_le, Bool.not_eq_false, Bool.not_eq_true, Bool.not_true, Bool.not_false, Bool.not_eq_true', Bool.not_eq_false', beq_eq_false_iff_ne, ne_eq, beq_iff_eq, bne_iff_ne, bne_eq_false_iff_eq, Classical.not_not] at g6
    refine Jp.skip 7 rfl (want_as rfl rfl rfl rfl) rfl rfl Kp.true ?_
    refine Jp.skip 8 rfl (want_as rfl rfl rfl rfl) rfl rfl Kp.true ?_
    refine Jp.y 9 rfl (want_all rfl) rfl rfl Kp.true (Y.pickT rfl rfl rfl) ?_
    refine Jp.done hK16 ?_
    refine Cd.condT rfl ?_
    refine Cd.seq fun K17 hK17 => ?_
    refine Cd.plain [(0, false), (1, false)] rfl rfl ?_
    refine Jp.y 2 rfl (want_all rfl) rfl rfl Kp.true (Y.assign rfl rfl) ?_
    refine Jp.y 3 rfl (want_all rfl) rfl rfl Kp.true (Y.assign rfl rfl) ?_
    refine Jp.done hK17 ?_
    refine Cd.ret [] rfl (res2 rfl rfl rfl) trivial ⟨rfl, ?_⟩
    rw [if_neg (by omega)]
    exact ⟨rfl, rfl⟩
  try simp only [decide_eq_false_iff_not, decide_eq_true_eq, Int.not_lt, Int.not_le, Bool.not_eq_false, Bool.not_eq_true, Bool.not_true, Bool.not_false, Bool.not_eq_true', Bool.not_eq_false', beq_eq_false_iff_ne, ne_eq, beq_iff_eq, bne_iff_ne, bne_eq_false_iff_eq, Classical.not_not] at g6
  refine Jp.y 7 rfl (want_as rfl rfl rfl rfl) rfl rfl Kp.true (Y.move rfl rfl) ?_
  refine Jp.y 8 rfl (want_as rfl rfl rfl rfl) rfl rfl Kp.true (Y.gtr rfl rfl rfl) ?_
  refine Jp.y 9 rfl (want_all rfl) rfl rfl Kp.true (Y.pickF rfl rfl rfl) ?_
  refine Jp.done hK16 ?_
  refine Cd.cond rfl (fun g9 => ?_) (fun g9 => ?_)
  · skip
    try simp only [decide_eq_false_iff_not, decide_eq_true_eq, Int.not_lt, Int.not_le, Bool.not_eq_false, Bool.not_eq_true, Bool.not_true, Bool.not_false, Bool.not_eq_true', Bool.not_eq_false', beq_eq_false_iff_ne, ne_eq, beq_iff_eq, bne_iff_ne, bne_eq_false_iff_eq, Classical.not_not] at g9
    refine Cd.seq fun K18 hK18 => ?_
    refine Cd.plain [(0, false), (1, false)] rfl rfl ?_
    refine Jp.y 2 rfl (want_all rfl) rfl rfl Kp.true (Y.assign rfl rfl) ?_
    refine Jp.y 3 rfl (want_all rfl) rfl rfl Kp.true (Y.assign rfl rfl) ?_
    refine Jp.done hK18 ?_
    refine Cd.ret [] rfl (res2 rfl rfl rfl) trivial ⟨rfl, ?_⟩
    rw [if_neg (by omega)]
    exact ⟨rfl, rfl⟩
  try simp only [decide_eq_false_iff_not, decide_eq_true_eq, Int.not_lt, Int.not_le, Bool.not_eq_false, Bool.not_eq_true, Bool.not_true, Bool.not_false, Bool.not_eq_true', Bool.not_eq_false', beq_eq_false_iff_ne, ne_eq, beq_iff_eq, bne_iff_ne, bne_eq_false_iff_eq, Classical.not_not] at g9
  refine Cd.skip hK15 ?_
  refine Cd.seq fun K19 hK19 => ?_
  refine Cd.plain [(0, false), (1, false), (2, false), (3, false), (4, false), (5, false)] rfl rfl ?_
  refine Jp.y 10 rfl (want_all rfl) rfl rfl Kp.true (Y.move rfl rfl) ?_
  refine Jp.makeMap 11 1 .u32 rfl (want_all rfl) rfl rfl rfl fun b1 => ⟨Kp.true, ?_⟩
  refine Jp.y 12 rfl (want_all rfl) rfl rfl Kp.true (Y.struct [(0, _), (1, _)] [_, _] rfl rfl places118 Try.zeroValue118 rfl) ?_
  refine Jp.box 0 13 rfl (want_all rfl) rfl rfl rfl rfl fun b0 => ⟨Kp.true, ?_⟩
  refine Jp.y 2 rfl (want_all rfl) rfl rfl Kp.true (Y.assign rfl rfl) ?_
  refine Jp.y 3 rfl (want_all rfl) rfl rfl Kp.true (Y.assign rfl rfl) ?_
  refine Jp.done hK19 ?_
  obtain ⟨m, rfl⟩ := Int.eq_ofNat_of_zero_le (show 0 ≤ budget by omega)
  refine Cd.make 2 Blks.nil ?_
  refine Cd.shClose (S := ⟨m, []⟩) (x := ⟨b1, [], fun _ => 0⟩) 0 1 2 (by decide) ⟨⟨List.Pairwise.nil, fun x h => (List.not_mem_nil h).elim⟩, Nat.zero_le _, (by show m ≤ 4096; omega), List.Perm.refl _⟩ rfl rfl rfl ?_
  refine Cd.ret [(0, _)] rfl (res2 rfl rfl rfl) ⟨rfl, trivial⟩ ⟨rfl, ?_⟩
  rw [if_pos (by omega)]
  exact ⟨b0, rfl, rfl⟩
theorem tagM_len (S : ShG) (a : Nat) (size : Int) : (tagM S a size).length = 4 := by simp [tagM]
def tagTo (S : ShG) (a i : Nat) : Bytes := (List.range 4).map fun j => if j < i then labL S.pages (a + j) else 0
theorem tagTo_set (S : ShG) (a i : Nat) (hi : i < 4) : (bytesV (tagTo S a i)).toArray.setIfInBounds i (.int .u8 ((labL S.pages (a + i)).toNat : Int)) = (bytesV (tagTo S a (i + 1))).toArray := by
  rw [List.setIfInBounds_toArray]
  congr 1
  apply List.ext_getElem?
  intro j
  unfold bytesV tagTo
  rw [List.map_map, List.map_map, List.getElem?_set, List.length_map, List.length_range, List.getElem?_map, List.getElem?_map]
  by_cases hj : i = j
  · subst hj
    rw [if_pos rfl, if_pos hi, List.getElem?_range hi]
    simp
  · rw [if_neg hj]
    by_cases h4 : j < 4
    · rw [List.getElem?_range h4]
      simp only [Option.map_some, Function.comp]
      by_cases h5 : j < i
      · rw [if_pos h5, if_pos (by omega)]
      · rw [if_neg h5, if_neg (by omega)]
    · rw [List.getElem?_eq_none (by rw [List.length_range]; omega)]; rfl
theorem shTag_spec (b : Nat) (S : ShG) (a : Nat) (size : Int) (ha : a < 4294967296) : Spec Try.prog 32 #[.pointer (some ⟨b, 0, none⟩), .int .u32 a, .int .i64 size] (fun _ => True) [(0, ShO b S)]
    (fun ρ ρ' v L => ρ' = ρ ∧ v = .agg (bytesV (tagM S a size)).toArray ∧ L = [(0, ShO b S)]) := by
  refine Spec.of 30 Try.func32 rfl Try.ntmps32 [(0, _), (1, _), (2, _)] rfl rfl ?_
  intro cx ρ hr h0
  have hsz : sizedP size ≤ 4 := by unfold sizedP; split <;> omega
  obtain ⟨m, hm⟩ : ∃ m, min (sizedP size) (4294967296 - a) = m := ⟨_, rfl⟩
  have hend : endN a (sizedP size : Int) = a + m := by unfold endN; omega
  have hE := shEnd_spec a (sizedP size : Int) ha (by omega)
  rw [hend] at hE
  refine Cd.seq fun K20 hK20 => ?_
  refine Cd.plain [(0, false)] rfl rfl ?_
  refine Jp.alloc 6 6 rfl (want_all rfl) rfl rfl rfl Try.zeroValue64 fun b6 => ⟨Kp.true, ?_⟩
  refine Jp.done hK20 ?_
  refine Cd.seq fun K21 hK21 => ?_
  refine Cd.plain [(0, false)] rfl rfl ?_
  refine Jp.alloc 7 7 rfl (want_all rfl) rfl rfl rfl Try.zeroValue64 fun b7 => ⟨Kp.true, ?_⟩
  refine Jp.done hK21 ?_
  refine Cd.seq fun K22 hK22 => ?_
  refine Cd.seq fun K23 hK23 => ?_
  refine Cd.plain [(0, false), (1, false), (2, false), (3, false), (4, false), (5, false), (6, false), (7, false), (8, false)] rfl rfl ?_
  refine Jp.y 9 rfl (want_all rfl) rfl rfl Kp.true (Y.move rfl rfl) ?_
  refine Jp.y 10 rfl (want_all rfl) rfl rfl Kp.true (Y.move rfl rfl) ?_
  refine Jp.call [] [] (shSized_spec size) 11 rfl (want_all rfl) rfl rfl (Runs.fn rfl Try.call79 rfl) (by decide) (by decide) rfl trivial ?_
  rintro v1 ρ1 L1 ⟨rfl, rfl, rfl⟩
  refine ⟨rfl, fun hle1 => ⟨Kp.true, ?_⟩⟩
  refine Jp.call [] [] hE 12 rfl (want_all rfl) rfl rfl (Runs.fn rfl Try.call80 rfl) (by decide) (by decide) rfl trivial ?_
  rintro v2 ρ2 L2 ⟨rfl, rfl, rfl⟩
  refine ⟨rfl, fun hle2 => ⟨Kp.true, ?_⟩⟩
  refine Jp.imp (j := 7) rfl (fun h hh => (show Pt b7 (.cells (bytesV (tagTo S a 0)).toArray 64) h from hh)) ?_
  refine Jp.y 13 rfl (want_all rfl) rfl rfl Kp.true (Y.move rfl rfl) ?_
  refine Jp.y 14 rfl (want_all rfl) rfl rfl Kp.true (Y.conv_ rfl rfl Try.underlying25 Try.underlying129 (by first | exact wrap_u64 (by omega) (by omega) | rfl)) ?_
  refine Jp.y 15 rfl (want_all rfl) rfl rfl Kp.true (Y.sub_ rfl rfl rfl (by first | exact wrap_u64 (by omega) (by omega) | rfl)) ?_
  refine Jp.y 16 rfl (want_all rfl) rfl rfl Kp.true (Y.conv_ rfl rfl Try.underlying129 Try.underlying3 (by first | exact wrap_i64 (by omega) (by omega) | rfl)) ?_
  refine Jp.slot 16 rfl (show _ = Value.int .i64 (m : Int) from congrArg (Value.int .i64) (by omega)) ?_
  refine Jp.y 17 rfl (want_all rfl) rfl rfl Kp.true (Y.move rfl rfl) ?_
  refine Jp.done hK23 ?_
  refine Cd.block ?_
  refine Cd.loopK (G := Nat) (fun i => i ≤ m) (fun i => m - i) (fun _ => _) (fun i => [(17, .int .i64 (i : Int))]) [(0, _), (1, _), (6, _), (7, _), (16, _)] (fun i => [(7, Pt b7 (.cells (bytesV (tagTo S a i)).toArray 64))]) [(0, _), (6, _)] 0 (Nat.zero_le _) rfl ⟨rfl, trivial⟩ ⟨rfl, rfl, rfl, rfl, rfl, trivial⟩ ⟨rfl, trivial⟩ ⟨rfl, rfl, trivial⟩ (fun g KLa hok hLa => ?_)
  obtain ⟨i, hi⟩ : ∃ i, i = g := ⟨_, rfl⟩
  rw [← hi] at hok ⊢
  refine Cd.seq fun K24 hK24 => ?_
  refine Cd.plain [(0, false)] rfl rfl ?_
  refine Jp.y 18 rfl (want_all rfl) rfl rfl Kp.true (Y.lss rfl rfl rfl) ?_
  refine Jp.done hK24 ?_
  refine Cd.seq fun K25 hK25 => ?_
  refine Cd.cond rfl (fun ga => ?_) (fun ga => ?_)
  · have him : i < m := by simpa using ga
    refine Cd.skip hK25 ?_
    refine Cd.seq fun K26 hK26 => ?_
    refine Cd.block ?_
    refine Cd.seq fun K27 hK27 => ?_
    refine Cd.plain [(0, false), (1, false)] rfl rfl ?_
    refine Jp.y 19 rfl (want_all rfl) rfl rfl Kp.true (Y.move rfl rfl) ?_
    refine Jp.y 8 rfl (want_all rfl) rfl rfl Kp.true (Y.assign rfl rfl) ?_
    refine Jp.done hK27 ?_
    refine Cd.plain [(0, false), (1, false), (2, false), (3, false), (4, false), (5, false), (6, false), (7, false), (8, false)] rfl rfl ?_
    refine Jp.y 20 rfl (want_all rfl) rfl rfl Kp.true (Y.move rfl rfl) ?_
    refine Jp.y 21 rfl (want_all rfl) rfl rfl Kp.true (Y.move rfl rfl) ?_
    refine Jp.y 22 rfl (want_all rfl) rfl rfl Kp.true (Y.move rfl rfl) ?_
    refine Jp.y 23 rfl (want_all rfl) rfl rfl Kp.true (Y.move rfl rfl) ?_
    refine Jp.y 24 rfl (want_all rfl) rfl rfl Kp.true (Y.conv_ rfl rfl Try.underlying3 Try.underlying25 (by first | exact wrap_u32 (by omega) (by omega) | rfl)) ?_
    refine Jp.y 25 rfl (want_all rfl) rfl rfl Kp.true (Y.add_ rfl rfl rfl (by first | exact wrap_u32 (by omega) (by omega) | rfl)) ?_
    refine Jp.slot 25 rfl (show _ = Value.int .u32 ((a + i : Nat) : Int) from congrArg (Value.int .u32) (by omega)) ?_
    refine Jp.call [0] [0] (shAt_spec b S (a + i) (by omega)) 26 rfl (want_all rfl) rfl rfl (Runs.fn rfl Try.call29 rfl) (by decide) (by decide) rfl trivial ?_
    rintro v3 ρ3 L3 ⟨rfl, rfl, rfl⟩
    refine ⟨rfl, fun hle3 => ⟨Kp.true, ?_⟩⟩
    refine Jp.y 27 rfl (want_all rfl) rfl rfl Kp.true (Y.indexArrP (q := i) rfl rfl rfl Try.underlying64 Try.sizeOf5 (by omega) (by omega) (by omega)) ?_
    refine Jp.storeC 7 (Pt b7 (.cells (bytesV (tagTo S a (i + 1))).toArray 64)) rfl (want_all rfl) rfl rfl Try.sizeOf5 rfl rfl rfl rfl rfl (SetC.pt (by simp [bytesV, tagTo]; omega) (noFr0 _) (tagTo_set S a i (by omega))) Kp.true ?_
    refine Jp.over rfl hK26 ?_
    refine Cd.plain [(0, false), (1, false)] rfl rfl ?_
    refine Jp.y 28 rfl (want_all rfl) rfl rfl Kp.true (Y.add_ rfl rfl rfl (by first | exact wrap_i64 (by omega) (by omega) | rfl)) ?_
    refine Jp.y 17 rfl (want_all rfl) rfl rfl Kp.true (Y.move rfl rfl) ?_
    rw [show (i : Int) + 1 = ((i + 1 : Nat) : Int) by omega]
    refine Jp.again hLa (i + 1) (by omega) (by omega) rfl ⟨rfl, rfl, rfl, rfl, rfl, rfl, trivial⟩ ⟨rfl, rfl, rfl, trivial⟩
  · have him : i = m := by have : ¬ i < m := by simpa using ga
                           omega
    have he : tagTo S a i = tagM S a size := by
      unfold tagTo tagM
      refine List.map_congr_left fun j hj => ?_
      have := List.mem_range.1 hj
      by_cases h1 : j < i
      · rw [if_pos h1, if_pos (by omega)]
      · rw [if_neg h1, if_neg (by omega)]
    refine Cd.exit rfl hK22 ?_
    refine Cd.seq fun K28 hK28 => ?_
    refine Cd.plain [(0, false), (1, false)] rfl rfl ?_
    refine Jp.y 29 rfl (want_all rfl) rfl rfl Kp.true (by first | exact Y.loadAggO 6 rfl Try.isAgg64 Try.sizeOf64 rfl rfl rfl | exact Y.loadAggO 7 rfl Try.isAgg64 Try.sizeOf64 rfl rfl rfl) ?_
    first | refine Jp.storeAgg 6 rfl (want_all rfl) rfl rfl Try.sizeOf64 rfl rfl rfl rfl rfl rfl (fun k _ _ => noFr0 k) Kp.true ?_ | refine Jp.storeAgg 7 rfl (want_all rfl) rfl rfl Try.sizeOf64 rfl rfl rfl rfl rfl rfl (fun k _ _ => noFr0 k) Kp.true ?_
    refine Jp.done hK28 ?_
    refine Cd.ret [(0, _)] rfl (by first | exact resC1 6 rfl rfl Try.isAgg64 Try.sizeOf64 rfl rfl | exact resC1 7 rfl rfl Try.isAgg64 Try.sizeOf64 rfl rfl) ⟨rfl, trivial⟩ ⟨rfl, by rw [← he]; rfl, rfl⟩
end Go.Proofs.Ytgmhijlcdadaeaa
