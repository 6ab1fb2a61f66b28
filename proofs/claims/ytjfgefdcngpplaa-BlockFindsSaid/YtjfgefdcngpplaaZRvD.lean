import Derived.Test.YtjfgefdcngpplaaZRvC
import Derived.Test.YtjfgefdcngpplaaZComX
import Derived.Test.YtjfgefdcngpplaaZMemX2
set_option linter.unusedVariables false
set_option linter.unusedSimpArgs false
set_option maxRecDepth 100000
namespace Go.Proofs.Ytjfgefdcngpplaa
open Go
def wordsB (l : List Int) : Bytes := l.flatMap fun x => leB x.toNat 4
theorem wordsB_len (l : List Int) : (wordsB l).length = 4 * l.length := by
  induction l with
  | nil => rfl
  | cons x l ih =>
    have : wordsB (x :: l) = leB x.toNat 4 ++ wordsB l := rfl
    rw [this, List.length_append, ih, leB_length, List.length_cons]; omega
theorem wordsB_snoc {xs : List Int} {i m : Nat} (hi : i < xs.length) (hm : xs[i] = (m : Int)) : wordsB (xs.take (i + 1)) = wordsB (xs.take i) ++ leB m 4 := by
  rw [← List.take_append_getElem hi, hm]
  unfold wordsB
  rw [List.flatMap_append]
  simp
def map3 : MemG := (mapM (mapM (mapM (newM 50) 4096 256 5).2 65536 256 3).2 65792 256 1).2
def madeM (xs : List Int) : MemG := (writeM (writeM map3 4096 (wordsB (xs.take 64)) 65536 0).2 65536 [] 65536 0).2
theorem made_spec (A : Option Addr) (c : Nat) (xs : List Int) (hxs : ∀ x ∈ xs, ∃ m : Nat, x = m ∧ m < 4294967296) : Spec Try.prog 5 #[.slice A xs.length c, .slice none 0 0] (RdI .u32 ⟨A, c, xs⟩) []
    (fun ρ ρ' v L => ∃ b, v = .pointer (some ⟨b, 0, none⟩) ∧ L = [(0, MemO b (madeM xs))]) := by
  refine Spec.of 60 Try.func5 rfl Try.ntmps5 [(0, _), (1, _)] rfl rfl ?_
  intro cx ρ hr h0
  have lx : xs.length ≤ 281474976710656 := hr.2.1.2
  refine Cd.seq fun K1 hK1 => ?_
  refine Cd.plain [(0, false)] rfl rfl ?_
  refine Jp.y 4 rfl (want_all rfl) rfl rfl Kp.true (Y.assign rfl rfl) ?_
  refine Jp.done hK1 ?_
  refine Cd.seq fun K2 hK2 => ?_
  refine Cd.plain [(0, false), (1, false), (2, false), (3, false), (4, false), (5, false)] rfl rfl ?_
  refine Jp.call [] [0] (new_yes 50 (by omega)) 11 rfl (want_all rfl) rfl rfl (Runs.fn rfl Try.call12 rfl) (by decide) (by decide) rfl trivial ?_
  rintro v1 ρ1 L1 ⟨rfl, b, rfl, rfl⟩
  refine ⟨rfl, fun hle1 => ⟨Kp.true, ?_⟩⟩
  refine Jp.y 10 rfl (want_all rfl) rfl rfl Kp.true (Y.move rfl rfl) ?_
  refine Jp.y 12 rfl (want_all rfl) rfl rfl Kp.true (Y.extract rfl rfl rfl) ?_
  refine Jp.y 13 rfl (want_all rfl) rfl rfl Kp.true (Y.extract rfl rfl rfl) ?_
  refine Jp.y 5 rfl (want_all rfl) rfl rfl Kp.true (Y.assign rfl rfl) ?_
  refine Jp.y 6 rfl (want_all rfl) rfl rfl Kp.true (Y.assign rfl rfl) ?_
  refine Jp.done hK2 ?_
  refine Cd.seq fun K3 hK3 => ?_
  refine Cd.plain [(0, false), (1, false)] rfl rfl ?_
  refine Jp.y 14 rfl (want_all rfl) rfl rfl Kp.true (Y.move rfl rfl) ?_
  refine Jp.call [0] [0] (map_spec b (newM 50) 4096 256 5 (by omega) (by omega)) 15 rfl (want_all rfl) rfl rfl (Runs.fn rfl Try.call13 rfl) (by decide) (by decide) rfl trivial ?_
  rintro v2 ρ2 L2 ⟨rfl, rfl, rfl⟩
  refine ⟨rfl, fun hle2 => ⟨Kp.true, ?_⟩⟩
  refine Jp.done hK3 ?_
  refine Cd.seq fun K4 hK4 => ?_
  refine Cd.plain [(0, false), (1, false)] rfl rfl ?_
  refine Jp.y 16 rfl (want_all rfl) rfl rfl Kp.true (Y.move rfl rfl) ?_
  refine Jp.call [0] [0] (map_spec b (mapM (newM 50) 4096 256 5).2 65536 256 3 (by omega) (by omega)) 17 rfl (want_all rfl) rfl rfl (Runs.fn rfl Try.call13 rfl) (by decide) (by decide) rfl trivial ?_
  rintro v3 ρ3 L3 ⟨rfl, rfl, rfl⟩
  refine ⟨rfl, fun hle3 => ⟨Kp.true, ?_⟩⟩
  refine Jp.done hK4 ?_
  refine Cd.seq fun K5 hK5 => ?_
  refine Cd.plain [(0, false), (1, false)] rfl rfl ?_
  refine Jp.y 18 rfl (want_all rfl) rfl rfl Kp.true (Y.move rfl rfl) ?_
  refine Jp.call [0] [0] (map_spec b (mapM (mapM (newM 50) 4096 256 5).2 65536 256 3).2 65792 256 1 (by omega) (by omega)) 19 rfl (want_all rfl) rfl rfl (Runs.fn rfl Try.call13 rfl) (by decide) (by decide) rfl trivial ?_
  rintro v4 ρ4 L4 ⟨rfl, rfl, rfl⟩
  refine ⟨rfl, fun hle4 => ⟨Kp.true, ?_⟩⟩
  refine Jp.imp (j := 0) rfl (fun h hh => (show MemO b map3 h from hh)) ?_
  obtain ⟨M3, hM3⟩ : ∃ M, map3 = M := ⟨_, rfl⟩
  have hmade : madeM xs = (writeM (writeM M3 4096 (wordsB (xs.take 64)) 65536 0).2 65536 [] 65536 0).2 := by rw [← hM3]; rfl
  rw [hM3]
  clear hM3
  refine Jp.done hK5 ?_
  refine Cd.seq fun K6 hK6 => ?_
  refine Cd.plain [(0, false)] rfl rfl ?_
  refine Jp.y 7 rfl (want_all rfl) rfl rfl Kp.true (Y.assign rfl rfl) ?_
  refine Jp.done hK6 ?_
  refine Cd.seq fun K7 hK7 => ?_
  refine Cd.seq fun K8 hK8 => ?_
  refine Cd.plain [(0, false)] rfl rfl ?_
  refine Jp.y 8 rfl (want_all rfl) rfl rfl Kp.true (Y.assign rfl rfl) ?_
  refine Jp.done hK8 ?_
  refine Cd.block ?_
  refine Cd.make 1 (A := OwnS 5 1 none 0 0 (bytesV (wordsB (xs.take 0)))) (OwnS.nil _ _ _) ?_
  refine Cd.joinG (G := Option Addr × Nat) (fun _ => True) (fun g => [(7, .slice g.1 (wordsB (xs.take 64)).length g.2)]) [(1, _), (5, _)] ⟨rfl, rfl, trivial⟩ (fun g => [(1, OwnS 5 1 g.1 (wordsB (xs.take 64)).length g.2 (bytesV (wordsB (xs.take 64))))]) [(0, _)] ⟨rfl, trivial⟩ hK7 (fun g hφ => ?_) (fun hj1 => ?_)
  · obtain ⟨B, d⟩ := g
    clear hφ
    dsimp only
    have hlw := wordsB_len (xs.take 64)
    have hlt : (xs.take 64).length ≤ 64 := by rw [List.length_take]; omega
    refine Cd.freeze (i := 1) rfl (OwnS.up _ _ _ _ _ _) fun ρ7 hle7 hA7 => ?_
    refine Cd.seq fun K9 hK9 => ?_
    refine Cd.plain [(0, false), (1, false), (2, false)] rfl rfl ?_
    refine Jp.y 48 rfl (want_all rfl) rfl rfl Kp.true (Y.move rfl rfl) ?_
    refine Jp.y 49 rfl (want_all rfl) rfl rfl Kp.true (Y.move rfl rfl) ?_
    refine Jp.call [0] [0] (Poke_spec b M3 4096 ⟨B, d, wordsB (xs.take 64)⟩ (by omega)) 50 rfl (want_all rfl) rfl rfl (Runs.fn rfl Try.call6 rfl) (by decide) (by decide) rfl hA7.rd ?_
    rintro v5 ρ5 L5 ⟨rfl, rfl, rfl⟩
    refine ⟨rfl, fun hle5 => ⟨Kp.true, ?_⟩⟩
    refine Jp.done hK9 ?_
    refine Cd.seq fun K10 hK10 => ?_
    refine Cd.seq fun K11 hK11 => ?_
    refine Cd.plain [(0, false), (1, false), (2, false)] rfl rfl ?_
    refine Jp.y 51 rfl (want_all rfl) rfl rfl Kp.true (Y.move rfl rfl) ?_
    refine Jp.y 52 rfl (want_all rfl) rfl rfl Kp.true (Y.lenslice rfl Try.underlying29 rfl) ?_
    refine Jp.y 53 rfl (want_all rfl) rfl rfl Kp.true (Y.gtr rfl rfl rfl) ?_
    refine Jp.done hK11 ?_
    refine Cd.cond rfl (fun gx => ?_) (fun gx => ?_)
    · exact absurd gx (by simp)
    · skip
      refine Cd.skip hK10 ?_
      refine Cd.seq fun K12 hK12 => ?_
      refine Cd.plain [(0, false), (1, false), (2, false)] rfl rfl ?_
      refine Jp.y 56 rfl (want_all rfl) rfl rfl Kp.true (Y.move rfl rfl) ?_
      refine Jp.y 57 rfl (want_all rfl) rfl rfl Kp.true (Y.move rfl rfl) ?_
      refine Jp.call [0] [0] (Poke_spec b _ 65536 ⟨none, 0, []⟩ (by omega)) 58 rfl (want_all rfl) rfl rfl (Runs.fn rfl Try.call6 rfl) (by decide) (by decide) rfl (RdS.nil 1 _) ?_
      rintro v6 ρ6 L6 ⟨rfl, rfl, rfl⟩
      refine ⟨rfl, fun hle6 => ⟨Kp.true, ?_⟩⟩
      refine Jp.done hK12 ?_
      refine Cd.seq fun K13 hK13 => ?_
      refine Cd.plain [(0, false), (1, false)] rfl rfl ?_
      refine Jp.y 59 rfl (want_all rfl) rfl rfl Kp.true (Y.move rfl rfl) ?_
      refine Jp.y 4 rfl (want_all rfl) rfl rfl Kp.true (Y.assign rfl rfl) ?_
      refine Jp.done hK13 ?_
      refine Cd.ret [(0, _)] rfl (res1 rfl rfl) ⟨rfl, trivial⟩ ⟨b, rfl, by rw [hmade]⟩
  · skip
    refine Cd.loopK (G := Nat × Option Addr × Nat) (fun g => g.1 ≤ xs.length ∧ g.1 ≤ 64) (fun g => 64 - g.1) (fun _ => _) (fun g => [(7, .slice g.2.1 (wordsB (xs.take g.1)).length g.2.2), (8, .int .i64 (g.1 : Int))]) [(0, _), (1, _), (5, _)] (fun g => [(1, OwnS 5 1 g.2.1 (wordsB (xs.take g.1)).length g.2.2 (bytesV (wordsB (xs.take g.1))))]) [(0, _)] ⟨0, none, 0⟩ ⟨Nat.zero_le _, Nat.zero_le _⟩ rfl ⟨rfl, rfl, trivial⟩ ⟨rfl, rfl, rfl, trivial⟩ ⟨rfl, trivial⟩ ⟨rfl, trivial⟩ (fun g KLa hok hLa => ?_)
    obtain ⟨i, B, d⟩ := g
    obtain ⟨ok1, ok2⟩ := hok
    dsimp only at ok1 ok2 ⊢
    refine Cd.seq fun K14 hK14 => ?_
    refine Cd.seq fun K15 hK15 => ?_
    refine Cd.plain [(0, false), (1, false), (2, false), (3, false), (4, false), (5, false), (6, false), (7, false)] rfl rfl ?_
    refine Jp.y 20 rfl (want_all rfl) rfl rfl Kp.true (Y.move rfl rfl) ?_
    refine Jp.y 21 rfl (want_all rfl) rfl rfl Kp.true (Y.move rfl rfl) ?_
    refine Jp.y 22 rfl (want_all rfl) rfl rfl Kp.true (Y.lenslice rfl Try.underlying22 rfl) ?_
    refine Jp.y 23 rfl (want_all rfl) rfl rfl Kp.true (Y.lss rfl rfl rfl) ?_
    refine Jp.y 24 rfl (want_all rfl) rfl rfl Kp.true (Y.move rfl rfl) ?_
    refine Jp.splitF 24 rfl (fun g24 => ?_) (fun g24 => ?_)
    · skip
      simp only [decide_eq_false_iff_not] at g24
      have e : xs.take i = xs.take 64 := by
        rcases (show xs.length ≤ i ∨ i = 64 by omega) with h | h
        · rw [List.take_of_length_le h, List.take_of_length_le (by omega)]
        · rw [h]
      rw [e]
      refine Jp.skip 25 rfl (want_as rfl rfl rfl rfl) rfl rfl Kp.true ?_
      refine Jp.skip 26 rfl (want_as rfl rfl rfl rfl) rfl rfl Kp.true ?_
      refine Jp.y 27 rfl (want_all rfl) rfl rfl Kp.true (Y.pickF rfl rfl rfl) ?_
      refine Jp.done hK15 ?_
      refine Cd.condF rfl ?_
      refine Cd.exit rfl hK7 ?_
      exact Cd.meet (hj1 ⟨B, d⟩ trivial) ⟨rfl, rfl, rfl, trivial⟩ ⟨rfl, rfl, trivial⟩
    try simp only [decide_eq_false_iff_not, decide_eq_true_eq, Int.not_lt, Int.not_le, Bool.not_eq_false, Bool.not_eq_true, Bool.not_true, Bool.not_false, Bool.not_eq_true', Bool.not_eq_false', beq_eq_false_iff_ne, ne_eq, beq_iff_eq, bne_iff_ne, bne_eq_false_iff_eq, Classical.not_not] at g24
    refine Jp.y 25 rfl (want_as rfl rfl rfl rfl) rfl rfl Kp.true (Y.move rfl rfl) ?_
    refine Jp.y 26 rfl (want_as rfl rfl rfl rfl) rfl rfl Kp.true (Y.lss rfl rfl rfl) ?_
    refine Jp.y 27 rfl (want_all rfl) rfl rfl Kp.true (Y.pickT rfl rfl rfl) ?_
    refine Jp.done hK15 ?_
    refine Cd.condF' rfl (fun g27 => ?_) (fun g27 => ?_)
    · skip
      simp only [decide_eq_false_iff_not] at g27
      have e : xs.take i = xs.take 64 := by
        rcases (show xs.length ≤ i ∨ i = 64 by omega) with h | h
        · rw [List.take_of_length_le h, List.take_of_length_le (by omega)]
        · rw [h]
      rw [e]
      refine Cd.exit rfl hK7 ?_
      exact Cd.meet (hj1 ⟨B, d⟩ trivial) ⟨rfl, rfl, rfl, trivial⟩ ⟨rfl, rfl, trivial⟩
    try simp only [decide_eq_false_iff_not, decide_eq_true_eq, Int.not_lt, Int.not_le, Bool.not_eq_false, Bool.not_eq_true, Bool.not_true, Bool.not_false, Bool.not_eq_true', Bool.not_eq_false', beq_eq_false_iff_ne, ne_eq, beq_iff_eq, bne_iff_ne, bne_eq_false_iff_eq, Classical.not_not] at g27
    refine Cd.skip hK14 ?_
    refine Cd.seq fun K16 hK16 => ?_
    refine Cd.block ?_
    refine Cd.seq fun K17 hK17 => ?_
    refine Cd.plain [(0, false), (1, false), (2, false), (3, false), (4, false)] rfl rfl ?_
    refine Jp.y 30 rfl (want_all rfl) rfl rfl Kp.true (Y.move rfl rfl) ?_
    refine Jp.y 31 rfl (want_all rfl) rfl rfl Kp.true (Y.move rfl rfl) ?_
    have hi : i < xs.length := by omega
    obtain ⟨m, hm, hml⟩ := hxs xs[i] (List.getElem_mem _)
    have hl1 := wordsB_len (xs.take i)
    have hl2 := wordsB_len (xs.take (i + 1))
    rw [List.length_take] at hl1 hl2
    obtain ⟨ad, hA, hc⟩ := hr.2.2 i (.int .u32 m) (by simp [intsV, hi, hm])
    subst hA
    refine Jp.y 32 rfl (want_all rfl) rfl rfl Kp.true (Y.indexAddr (q := i) rfl rfl rfl Try.underlying22 Try.sizeOf23 (by omega) (by omega) (by omega)) ?_
    refine Jp.y 33 rfl (want_all rfl) rfl rfl Kp.true (Y.loadR rfl Try.isAgg23 rfl hc) ?_
    refine Jp.y 9 rfl (want_all rfl) rfl rfl Kp.true (Y.assign rfl rfl) ?_
    refine Jp.done hK17 ?_
    refine Cd.plain [(0, false), (1, false), (2, false), (3, false), (4, false), (5, false), (6, false), (7, false), (8, false), (9, false), (10, false), (11, false), (12, false), (13, false), (14, false)] rfl rfl ?_
    refine Jp.y 34 rfl (want_all rfl) rfl rfl Kp.true (Y.move rfl rfl) ?_
    refine Jp.y 35 rfl (want_all rfl) rfl rfl Kp.true (Y.move rfl rfl) ?_
    refine Jp.y 36 rfl (want_all rfl) rfl rfl Kp.true (Y.conv_ rfl rfl Try.underlying23 Try.underlying5 (conv8 m)) ?_
    refine Jp.y 37 rfl (want_all rfl) rfl rfl Kp.true (Y.move rfl rfl) ?_
    refine Jp.y 38 rfl (want_all rfl) rfl rfl Kp.true (Y.shr rfl rfl rfl (by first | decide | omega)) ?_
    refine Jp.y 39 rfl (want_all rfl) rfl rfl Kp.true (Y.conv_ rfl rfl Try.underlying23 Try.underlying5 (shr8 m 1 (by omega))) ?_
    refine Jp.y 40 rfl (want_all rfl) rfl rfl Kp.true (Y.move rfl rfl) ?_
    refine Jp.y 41 rfl (want_all rfl) rfl rfl Kp.true (Y.shr rfl rfl rfl (by first | decide | omega)) ?_
    refine Jp.y 42 rfl (want_all rfl) rfl rfl Kp.true (Y.conv_ rfl rfl Try.underlying23 Try.underlying5 (shr8 m 2 (by omega))) ?_
    refine Jp.y 43 rfl (want_all rfl) rfl rfl Kp.true (Y.move rfl rfl) ?_
    refine Jp.y 44 rfl (want_all rfl) rfl rfl Kp.true (Y.shr rfl rfl rfl (by first | decide | omega)) ?_
    refine Jp.y 45 rfl (want_all rfl) rfl rfl Kp.true (Y.conv_ rfl rfl Try.underlying23 Try.underlying5 (shr8 m 3 (by omega))) ?_
    refine Jp.lit 46 2 [(0, _), (1, _), (2, _), (3, _)] [_, _, _, _] rfl (want_all rfl) rfl rfl rfl rfl Try.underlying29 Try.sizeOf5 Try.zeroValue5 rfl rfl rfl rfl rfl fun b2 => ⟨Kp.true, ?_⟩
    refine Jp.append 47 1 rfl (want_all rfl) rfl rfl rfl Try.underlying29 Try.underlying29 (.inl ⟨_, rfl⟩) Try.sizeOf5 Try.typeInfo5 Try.zeroValue5 rfl (by decide) rfl rfl rfl (Src.own 2 rfl) rfl ((wordsB (xs.take (i + 1))).length) (bytesV (wordsB (xs.take (i + 1)))) (by first | omega | simp) (by rw [wordsB_snoc hi hm]; exact bytesV_leB _ _) (by simp only [Try.t5]; omega) fun A7 c7 => ⟨Kp.true, ?_⟩
    refine Jp.y 7 rfl (want_all rfl) rfl rfl Kp.true (Y.assign rfl rfl) ?_
    refine Jp.over rfl hK16 ?_
    refine Cd.plain [(0, false), (1, false), (2, false)] rfl rfl ?_
    refine Jp.y 28 rfl (want_all rfl) rfl rfl Kp.true (Y.move rfl rfl) ?_
    refine Jp.y 29 rfl (want_all rfl) rfl rfl Kp.true (Y.add_ rfl rfl rfl (by first | exact wrap_i64 (by omega) (by omega) | rfl)) ?_
    refine Jp.y 8 rfl (want_all rfl) rfl rfl Kp.true (Y.assign rfl rfl) ?_
    rw [show (i : Int) + 1 = ((i + 1 : Nat) : Int) by omega]
    refine Jp.again hLa ⟨i + 1, A7, c7⟩ ⟨hi, by show i + 1 ≤ 64; omega⟩ (by show 64 - (i + 1) < 64 - i; omega) rfl ⟨rfl, rfl, rfl, rfl, rfl, trivial⟩ ⟨rfl, rfl, trivial⟩
end Go.Proofs.Ytjfgefdcngpplaa
