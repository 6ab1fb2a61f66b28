import Derived.Test.YtkjeidoplonkjaaZEncB
import Derived.Test.YtkjeidoplonkjaaZRvD
import Derived.Test.YtkjeidoplonkjaaZAluP
set_option linter.unusedVariables false
set_option linter.unusedSimpArgs false
set_option maxRecDepth 100000
namespace Go.Proofs.Ytkjeidoplonkjaa
open Go
def madeD (xs : List Int) (bs : Bytes) : MemG := (writeM (writeM map3 4096 (wordsB (xs.take 64)) 65536 0).2 65536 (bs.take 512) 65536 0).2
theorem RdB.takeN {A : Option Addr} {c : Nat} {xs : Bytes} {ρ : Hp} (h : RdB ⟨A, c, xs⟩ ρ) {n : Nat} (hn : n ≤ xs.length) : RdB ⟨A, c, xs.take n⟩ ρ := by
  have h5 := RdS.take (l := n) h (show n ≤ xs.length from hn)
  rw [Nat.mul_one] at h5
  have h6 : (bytesV xs).take n = bytesV (xs.take n) := by simp [bytesV]
  show RdS 1 _ (xs.take n).length _ _ _
  rw [show (xs.take n).length = n by rw [List.length_take]; omega, ← h6]; exact h5
theorem made12_spec (A : Option Addr) (c : Nat) (xs : List Int) (dA : Option Addr) (dc : Nat) (bs : Bytes) (hxs : ∀ x ∈ xs, ∃ m : Nat, x = m ∧ m < 4294967296) : Spec Try.prog 13 #[.slice A xs.length c, .slice dA bs.length dc] (fun h => RdI .u32 ⟨A, c, xs⟩ h ∧ RdB ⟨dA, dc, bs⟩ h) []
    (fun ρ ρ' v L => ∃ b, v = .pointer (some ⟨b, 0, none⟩) ∧ L = [(0, MemO b (madeD xs bs))]) := by
  refine Spec.of 60 Try.func13 rfl Try.ntmps13 [(0, _), (1, _)] rfl rfl ?_
  intro cx ρ hr0 h0
  obtain ⟨hr, hrd⟩ := hr0
  have lx : xs.length ≤ 281474976710656 := hr.2.1.2
  have hcap : bs.length ≤ dc ∧ bs.length ≤ 281474976710656 := hrd.2.1
  refine Cd.seq fun K1 hK1 => ?_
  refine Cd.plain [(0, false)] rfl rfl ?_
  refine Jp.y 4 rfl (want_all rfl) rfl rfl Kp.true (Y.assign rfl rfl) ?_
  refine Jp.done hK1 ?_
  refine Cd.seq fun K2 hK2 => ?_
  refine Cd.plain [(0, false), (1, false), (2, false), (3, false), (4, false), (5, false)] rfl rfl ?_
  refine Jp.call [] [0] (new_yes 50 (by omega)) 11 rfl (want_all rfl) rfl rfl (Runs.fn rfl Try.call29 rfl) (by decide) (by decide) rfl trivial ?_
  rintro v1 ρ1 L1 ⟨rfl, b, rfl, rfl⟩
  refine ⟨rfl, fun hle1 => ⟨Kp.true, ?_⟩⟩
  refine Jp.y 10 rfl (want_all rfl) rfl rfl Kp.true (Y.move rfl rfl) ?_
  refine Jp.y 12 rfl (want_all rfl) rfl rfl Kp.true (Y.extract rfl rfl rfl) ?_
  refine Jp.y 13 rfl (want_all rfl) rfl rfl Kp.true (Y.extract rfl rfl rfl) ?_
  refine Jp.y 5 rfl (want_all rfl) rfl rfl Kp.true (Y.assign rfl rfl) ?_
  refine Jp.y 6 rfl (want_all rfl) rfl rfl Kp.true (Y.assign rfl rfl) ?_
  refine Jp.done hK2 ?_
  refine Cd.seq fun K3 hK3 => ?_
  refine Cd.plain [(0, false), (1, false)] rfl rfl ?_
  refine Jp.y 14 rfl (want_all rfl) rfl rfl Kp.true (Y.move rfl rfl) ?_
  refine Jp.call [0] [0] (map_spec b (newM 50) 4096 256 5 (by omega) (by omega)) 15 rfl (want_all rfl) rfl rfl (Runs.fn rfl Try.call30 rfl) (by decide) (by decide) rfl trivial ?_
  rintro v2 ρ2 L2 ⟨rfl, rfl, rfl⟩
  refine ⟨rfl, fun hle2 => ⟨Kp.true, ?_⟩⟩
  refine Jp.done hK3 ?_
  refine Cd.seq fun K4 hK4 => ?_
  refine Cd.plain [(0, false), (1, false)] rfl rfl ?_
  refine Jp.y 16 rfl (want_all rfl) rfl rfl Kp.true (Y.move rfl rfl) ?_
  refine Jp.call [0] [0] (map_spec b (mapM (newM 50) 4096 256 5).2 65536 256 3 (by omega) (by omega)) 17 rfl (want_all rfl) rfl rfl (Runs.fn rfl Try.call30 rfl) (by decide) (by decide) rfl trivial ?_
  rintro v3 ρ3 L3 ⟨rfl, rfl, rfl⟩
  refine ⟨rfl, fun hle3 => ⟨Kp.true, ?_⟩⟩
  refine Jp.done hK4 ?_
  refine Cd.seq fun K5 hK5 => ?_
  refine Cd.plain [(0, false), (1, false)] rfl rfl ?_
  refine Jp.y 18 rfl (want_all rfl) rfl rfl Kp.true (Y.move rfl rfl) ?_
  refine Jp.call [0] [0] (map_spec b (mapM (mapM (newM 50) 4096 256 5).2 65536 256 3).2 65792 256 1 (by omega) (by omega)) 19 rfl (want_all rfl) rfl rfl (Runs.fn rfl Try.call30 rfl) (by decide) (by decide) rfl trivial ?_
  rintro v4 ρ4 L4 ⟨rfl, rfl, rfl⟩
  refine ⟨rfl, fun hle4 => ⟨Kp.true, ?_⟩⟩
  refine Jp.imp (j := 0) rfl (fun h hh => (show MemO b map3 h from hh)) ?_
  obtain ⟨M3, hM3⟩ : ∃ M, map3 = M := ⟨_, rfl⟩
  have hmade : madeD xs bs = (writeM (writeM M3 4096 (wordsB (xs.take 64)) 65536 0).2 65536 (bs.take 512) 65536 0).2 := by rw [← hM3]; rfl
  rw [hM3]
  clear hM3
  refine Jp.done hK5 ?_
  refine Cd.seq fun K6 hK6 => ?_
  refine Cd.plain [(0, false)] rfl rfl ?_
  refine Jp.y 7 rfl (want_all rfl) rfl rfl Kp.true (Y.assign rfl rfl) ?_
  refine Jp.done hK6 ?_
  refine Cd.seq fun K7 hK7 => ?_
  refine Cd.seq fun K8 hK8 => ?_
  refine Cd.plain [(0, false)] rfl rfl ?_
  refine Jp.y 8 rfl (want_all rfl) rfl rfl Kp.true (Y.assign rfl rfl) ?_
  refine Jp.done hK8 ?_
  refine Cd.block ?_
  refine Cd.make 1 (A := OwnS 5 1 none 0 0 (bytesV (wordsB (xs.take 0)))) (OwnS.nil _ _ _) ?_
  refine Cd.joinG (G := Option Addr × Nat) (fun _ => True) (fun g => [(7, .slice g.1 (wordsB (xs.take 64)).length g.2)]) [(1, _), (5, _)] ⟨rfl, rfl, trivial⟩ (fun g => [(1, OwnS 5 1 g.1 (wordsB (xs.take 64)).length g.2 (bytesV (wordsB (xs.take 64))))]) [(0, _)] ⟨rfl, trivial⟩ hK7 (fun g hφ => ?_) (fun hj1 => ?_)
  · obtain ⟨B, d⟩ := g
    clear hφ
    dsimp only
    have hlw := wordsB_len (xs.take 64)
    have hlt : (xs.take 64).length ≤ 64 := by rw [List.length_take]; omega
    refine Cd.freeze (i := 1) rfl (OwnS.up _ _ _ _ _ _) fun ρ7 hle7 hA7 => ?_
    have hrd := RdS.up _ _ _ _ _ _ _ hle7 hrd
    refine Cd.seq fun K9 hK9 => ?_
    refine Cd.plain [(0, false), (1, false), (2, false)] rfl rfl ?_
    refine Jp.y 48 rfl (want_all rfl) rfl rfl Kp.true (Y.move rfl rfl) ?_
    refine Jp.y 49 rfl (want_all rfl) rfl rfl Kp.true (Y.move rfl rfl) ?_
    refine Jp.call [0] [0] (Poke_spec b M3 4096 ⟨B, d, wordsB (xs.take 64)⟩ (by omega)) 50 rfl (want_all rfl) rfl rfl (Runs.fn rfl Try.call31 rfl) (by decide) (by decide) rfl hA7.rd ?_
    rintro v5 ρ5 L5 ⟨rfl, rfl, rfl⟩
    refine ⟨rfl, fun hle5 => ⟨Kp.true, ?_⟩⟩
    refine Jp.done hK9 ?_
    refine Cd.seq fun K10 hK10 => ?_
    refine Cd.seq fun K11 hK11 => ?_
    refine Cd.plain [(0, false), (1, false), (2, false)] rfl rfl ?_
    refine Jp.y 51 rfl (want_all rfl) rfl rfl Kp.true (Y.move rfl rfl) ?_
    refine Jp.y 52 rfl (want_all rfl) rfl rfl Kp.true (Y.lenslice rfl Try.underlying47 rfl) ?_
    refine Jp.y 53 rfl (want_all rfl) rfl rfl Kp.true (Y.gtr rfl rfl rfl) ?_
    refine Jp.done hK11 ?_
    refine Cd.cond rfl (fun gx => ?_) (fun gx => ?_)
    · have hbl : 512 < bs.length := by simp at gx; omega
      have hcl : (bs.take 512).length = 512 := by rw [List.length_take]; omega
      refine Cd.plain [(0, false), (1, false), (2, false)] rfl rfl ?_
      refine Jp.y 54 rfl (want_all rfl) rfl rfl Kp.true (Y.move rfl rfl) ?_
      refine Jp.y 55 rfl (want_all rfl) rfl rfl Kp.true (Y.sliceTo (hi := 512) rfl rfl rfl Try.underlying47 Try.sizeOf5 (by omega) (by omega)) ?_
      refine Jp.y 1 rfl (want_all rfl) rfl rfl Kp.true (Y.assign rfl rfl) ?_
      refine Jp.done hK10 ?_
      refine Cd.seq fun K12 hK12 => ?_
      refine Cd.plain [(0, false), (1, false), (2, false)] rfl rfl ?_
      refine Jp.y 56 rfl (want_all rfl) rfl rfl Kp.true (Y.move rfl rfl) ?_
      refine Jp.y 57 rfl (want_all rfl) rfl rfl Kp.true (Y.move rfl rfl) ?_
      refine Jp.slot 57 rfl (show _ = Value.slice dA (bs.take 512).length dc by rw [hcl]) ?_
      refine Jp.call [0] [0] (Poke_spec b _ 65536 ⟨dA, dc, bs.take 512⟩ (by omega)) 58 rfl (want_all rfl) rfl rfl (Runs.fn rfl Try.call31 rfl) (by decide) (by decide) rfl (RdB.takeN hrd (by omega)) ?_
      rintro v6 ρ6 L6 ⟨rfl, rfl, rfl⟩
      refine ⟨rfl, fun hle6 => ⟨Kp.true, ?_⟩⟩
      refine Jp.done hK12 ?_
      refine Cd.seq fun K13 hK13 => ?_
      refine Cd.plain [(0, false), (1, false)] rfl rfl ?_
      refine Jp.y 59 rfl (want_all rfl) rfl rfl Kp.true (Y.move rfl rfl) ?_
      refine Jp.y 4 rfl (want_all rfl) rfl rfl Kp.true (Y.assign rfl rfl) ?_
      refine Jp.done hK13 ?_
      refine Cd.ret [(0, _)] rfl (res1 rfl rfl) ⟨rfl, trivial⟩ ⟨b, rfl, by rw [hmade]⟩
    · have hbl : bs.take 512 = bs := List.take_of_length_le (by simp at gx; omega)
      refine Cd.skip hK10 ?_
      refine Cd.seq fun K14 hK14 => ?_
      refine Cd.plain [(0, false), (1, false), (2, false)] rfl rfl ?_
      refine Jp.y 56 rfl (want_all rfl) rfl rfl Kp.true (Y.move rfl rfl) ?_
      refine Jp.y 57 rfl (want_all rfl) rfl rfl Kp.true (Y.move rfl rfl) ?_
      refine Jp.call [0] [0] (Poke_spec b _ 65536 ⟨dA, dc, bs⟩ (by omega)) 58 rfl (want_all rfl) rfl rfl (Runs.fn rfl Try.call31 rfl) (by decide) (by decide) rfl hrd ?_
      rintro v6 ρ6 L6 ⟨rfl, rfl, rfl⟩
      refine ⟨rfl, fun hle6 => ⟨Kp.true, ?_⟩⟩
      refine Jp.done hK14 ?_
      refine Cd.seq fun K15 hK15 => ?_
      refine Cd.plain [(0, false), (1, false)] rfl rfl ?_
      refine Jp.y 59 rfl (want_all rfl) rfl rfl Kp.true (Y.move rfl rfl) ?_
      refine Jp.y 4 rfl (want_all rfl) rfl rfl Kp.true (Y.assign rfl rfl) ?_
      refine Jp.done hK15 ?_
      refine Cd.ret [(0, _)] rfl (res1 rfl rfl) ⟨rfl, trivial⟩ ⟨b, rfl, by rw [hmade, hbl]⟩
  · skip
    refine Cd.loopK (G := Nat × Option Addr × Nat) (fun g => g.1 ≤ xs.length ∧ g.1 ≤ 64) (fun g => 64 - g.1) (fun _ => _) (fun g => [(7, .slice g.2.1 (wordsB (xs.take g.1)).length g.2.2), (8, .int .i64 (g.1 : Int))]) [(0, _), (1, _), (5, _)] (fun g => [(1, OwnS 5 1 g.2.1 (wordsB (xs.take g.1)).length g.2.2 (bytesV (wordsB (xs.take g.1))))]) [(0, _)] ⟨0, none, 0⟩ ⟨Nat.zero_le _, Nat.zero_le _⟩ rfl ⟨rfl, rfl, trivial⟩ ⟨rfl, rfl, rfl, trivial⟩ ⟨rfl, trivial⟩ ⟨rfl, trivial⟩ (fun g KLa hok hLa => ?_)
    obtain ⟨i, B, d⟩ := g
    obtain ⟨ok1, ok2⟩ := hok
    dsimp only at ok1 ok2 ⊢
    refine Cd.seq fun K16 hK16 => ?_
    refine Cd.seq fun K17 hK17 => ?_
    refine Cd.plain [(0, false), (1, false), (2, false), (3, false), (4, false), (5, false), (6, false), (7, false)] rfl rfl ?_
    refine Jp.y 20 rfl (want_all rfl) rfl rfl Kp.true (Y.move rfl rfl) ?_
    refine Jp.y 21 rfl (want_all rfl) rfl rfl Kp.true (Y.move rfl rfl) ?_
    refine Jp.y 22 rfl (want_all rfl) rfl rfl Kp.true (Y.lenslice rfl Try.underlying29 rfl) ?_
    refine Jp.y 23 rfl (want_all rfl) rfl rfl Kp.true (Y.lss rfl rfl rfl) ?_
    refine Jp.y 24 rfl (want_all rfl) rfl rfl Kp.true (Y.move rfl rfl) ?_
    refine Jp.splitF 24 rfl (fun g24 => ?_) (fun g24 => ?_)
    · skip
      simp only [decide_eq_false_iff_not] at g24
      have e : xs.take i = xs.take 64 := by
        rcases (show xs.length ≤ i ∨ i = 64 by omega) with h | h
        · rw [List.take_of_length_le h, List.take_of_length_le (by omega)]
        · rw [h]
      rw [e]
      refine Jp.skip 25 rfl (want_as rfl rfl rfl rfl) rfl rfl Kp.true ?_
      refine Jp.skip 26 rfl (want_as rfl rfl rfl rfl) rfl rfl Kp.true ?_
      refine Jp.y 27 rfl (want_all rfl) rfl rfl Kp.true (Y.pickF rfl rfl rfl) ?_
      refine Jp.done hK17 ?_
      refine Cd.condF rfl ?_
      refine Cd.exit rfl hK7 ?_
      exact Cd.meet (hj1 ⟨B, d⟩ trivial) ⟨rfl, rfl, rfl, trivial⟩ ⟨rfl, rfl, trivial⟩
    try simp only [decide_eq_false_iff_not, decide_eq_true_eq, Int.not_lt, Int.not_le, Bool.not_eq_false, Bool.not_eq_true, Bool.not_true, Bool.not_false, Bool.not_eq_true', Bool.not_eq_false', beq_eq_false_iff_ne, ne_eq, beq_iff_eq, bne_iff_ne, bne_eq_false_iff_eq, Classical.not_not] at g24
    refine Jp.y 25 rfl (want_as rfl rfl rfl rfl) rfl rfl Kp.true (Y.move rfl rfl) ?_
    refine Jp.y 26 rfl (want_as rfl rfl rfl rfl) rfl rfl Kp.true (Y.lss rfl rfl rfl) ?_
    refine Jp.y 27 rfl (want_all rfl) rfl rfl Kp.true (Y.pickT rfl rfl rfl) ?_
    refine Jp.done hK17 ?_
    refine Cd.condF' rfl (fun g27 => ?_) (fun g27 => ?_)
    · skip
      simp only [decide_eq_false_iff_not] at g27
      have e : xs.take i = xs.take 64 := by
        rcases (show xs.length ≤ i ∨ i = 64 by omega) with h | h
        · rw [List.take_of_length_le h, List.take_of_length_le (by omega)]
        · rw [h]
      rw [e]
      refine Cd.exit rfl hK7 ?_
      exact Cd.meet (hj1 ⟨B, d⟩ trivial) ⟨rfl, rfl, rfl, trivial⟩ ⟨rfl, rfl, trivial⟩
    try simp only [decide_eq_false_iff_not, decide_eq_true_eq, Int.not_lt, Int.not_le, Bool.not_eq_false, Bool.not_eq_true, Bool.not_true, Bool.not_false, Bool.not_eq_true', Bool.not_eq_false', beq_eq_false_iff_ne, ne_eq, beq_iff_eq, bne_iff_ne, bne_eq_false_iff_eq, Classical.not_not] at g27
    refine Cd.skip hK16 ?_
    refine Cd.seq fun K18 hK18 => ?_
    refine Cd.block ?_
    refine Cd.seq fun K19 hK19 => ?_
    refine Cd.plain [(0, false), (1, false), (2, false), (3, false), (4, false)] rfl rfl ?_
    refine Jp.y 30 rfl (want_all rfl) rfl rfl Kp.true (Y.move rfl rfl) ?_
    refine Jp.y 31 rfl (want_all rfl) rfl rfl Kp.true (Y.move rfl rfl) ?_
    have hi : i < xs.length := by omega
    obtain ⟨m, hm, hml⟩ := hxs xs[i] (List.getElem_mem _)
    have hl1 := wordsB_len (xs.take i)
    have hl2 := wordsB_len (xs.take (i + 1))
    rw [List.length_take] at hl1 hl2
    obtain ⟨ad, hA, hc⟩ := hr.2.2 i (.int .u32 m) (by simp [intsV, hi, hm])
    subst hA
    refine Jp.y 32 rfl (want_all rfl) rfl rfl Kp.true (Y.indexAddr (q := i) rfl rfl rfl Try.underlying29 Try.sizeOf25 (by omega) (by omega) (by omega)) ?_
    refine Jp.y 33 rfl (want_all rfl) rfl rfl Kp.true (Y.loadR rfl Try.isAgg25 rfl hc) ?_
    refine Jp.y 9 rfl (want_all rfl) rfl rfl Kp.true (Y.assign rfl rfl) ?_
    refine Jp.done hK19 ?_
    refine Cd.plain [(0, false), (1, false), (2, false), (3, false), (4, false), (5, false), (6, false), (7, false), (8, false), (9, false), (10, false), (11, false), (12, false), (13, false), (14, false)] rfl rfl ?_
    refine Jp.y 34 rfl (want_all rfl) rfl rfl Kp.true (Y.move rfl rfl) ?_
    refine Jp.y 35 rfl (want_all rfl) rfl rfl Kp.true (Y.move rfl rfl) ?_
    refine Jp.y 36 rfl (want_all rfl) rfl rfl Kp.true (Y.conv_ rfl rfl Try.underlying25 Try.underlying5 (conv8 m)) ?_
    refine Jp.y 37 rfl (want_all rfl) rfl rfl Kp.true (Y.move rfl rfl) ?_
    refine Jp.y 38 rfl (want_all rfl) rfl rfl Kp.true (Y.shr rfl rfl rfl (by first | decide | omega)) ?_
    refine Jp.y 39 rfl (want_all rfl) rfl rfl Kp.true (Y.conv_ rfl rfl Try.underlying25 Try.underlying5 (shr8 m 1 (by omega))) ?_
    refine Jp.y 40 rfl (want_all rfl) rfl rfl Kp.true (Y.move rfl rfl) ?_
    refine Jp.y 41 rfl (want_all rfl) rfl rfl Kp.true (Y.shr rfl rfl rfl (by first | decide | omega)) ?_
    refine Jp.y 42 rfl (want_all rfl) rfl rfl Kp.true (Y.conv_ rfl rfl Try.underlying25 Try.underlying5 (shr8 m 2 (by omega))) ?_
    refine Jp.y 43 rfl (want_all rfl) rfl rfl Kp.true (Y.move rfl rfl) ?_
    refine Jp.y 44 rfl (want_all rfl) rfl rfl Kp.true (Y.shr rfl rfl rfl (by first | decide | omega)) ?_
    refine Jp.y 45 rfl (want_all rfl) rfl rfl Kp.true (Y.conv_ rfl rfl Try.underlying25 Try.underlying5 (shr8 m 3 (by omega))) ?_
    refine Jp.lit 46 2 [(0, _), (1, _), (2, _), (3, _)] [_, _, _, _] rfl (want_all rfl) rfl rfl rfl rfl Try.underlying47 Try.sizeOf5 Try.zeroValue5 rfl rfl rfl rfl rfl fun b2 => ⟨Kp.true, ?_⟩
    refine Jp.append 47 1 rfl (want_all rfl) rfl rfl rfl Try.underlying47 Try.underlying47 (.inl ⟨_, rfl⟩) Try.sizeOf5 Try.typeInfo5 Try.zeroValue5 rfl (by decide) rfl rfl rfl (Src.own 2 rfl) rfl ((wordsB (xs.take (i + 1))).length) (bytesV (wordsB (xs.take (i + 1)))) (by first | omega | simp) (by rw [wordsB_snoc hi hm]; exact bytesV_leB _ _) (by simp only [Try.t5]; omega) fun A7 c7 => ⟨Kp.true, ?_⟩
    refine Jp.y 7 rfl (want_all rfl) rfl rfl Kp.true (Y.assign rfl rfl) ?_
    refine Jp.over rfl hK18 ?_
    refine Cd.plain [(0, false), (1, false), (2, false)] rfl rfl ?_
    refine Jp.y 28 rfl (want_all rfl) rfl rfl Kp.true (Y.move rfl rfl) ?_
    refine Jp.y 29 rfl (want_all rfl) rfl rfl Kp.true (Y.add_ rfl rfl rfl (by first | exact wrap_i64 (by omega) (by omega) | rfl)) ?_
    refine Jp.y 8 rfl (want_all rfl) rfl rfl Kp.true (Y.assign rfl rfl) ?_
    rw [show (i : Int) + 1 = ((i + 1 : Nat) : Int) by omega]
    refine Jp.again hLa ⟨i + 1, A7, c7⟩ ⟨hi, by show i + 1 ≤ 64; omega⟩ (by show 64 - (i + 1) < 64 - i; omega) rfl ⟨rfl, rfl, rfl, rfl, rfl, trivial⟩ ⟨rfl, rfl, trivial⟩
theorem word12_spec (i : InsP) (hi : InsOk i) (hop : 1 ≤ i.op) : Spec Try.prog 14 #[.agg i.cells.toArray] (fun _ => True) [] (fun ρ ρ' v L => ρ' = ρ ∧ v = .int .u32 ((encP i).1 : Int) ∧ L = []) := by
  have hE := encode_spec i hi hop
  obtain ⟨op, rd, r1, r2, imm⟩ := i
  refine Spec.of 11 Try.func14 rfl Try.ntmps14 [(0, _)] rfl rfl ?_
  intro cx ρ hr' h0
  refine Cd.seq fun K20 hK20 => ?_
  refine Cd.plain [(0, false), (1, false)] rfl rfl ?_
  refine Jp.box 1 1 rfl (want_all rfl) rfl rfl rfl rfl fun b1 => ⟨Kp.true, ?_⟩
  refine Jp.y 2 rfl (want_all rfl) rfl rfl Kp.true (Y.assign rfl rfl) ?_
  refine Jp.done hK20 ?_
  refine Cd.seq fun K21 hK21 => ?_
  refine Cd.plain [(0, false), (1, false), (2, false), (3, false), (4, false), (5, false), (6, false)] rfl rfl ?_
  refine Jp.y 6 rfl (want_all rfl) rfl rfl Kp.true (by first | exact Y.loadAggO 1 rfl Try.isAgg28 Try.sizeOf28 rfl rfl rfl | exact Y.loadAggO 1 rfl Try.isAgg28 Try.sizeOf28 rfl rfl rfl) ?_
  refine Jp.call [] [] hE 7 rfl (want_all rfl) rfl rfl (Runs.fn rfl Try.call32 rfl) (by decide) (by decide) rfl trivial ?_
  rintro v1 ρ1 L1 ⟨rfl, rfl, rfl⟩
  refine ⟨rfl, fun hle1 => ⟨Kp.true, ?_⟩⟩
  refine Jp.y 5 rfl (want_all rfl) rfl rfl Kp.true (Y.move rfl rfl) ?_
  refine Jp.y 8 rfl (want_all rfl) rfl rfl Kp.true (Y.extract rfl rfl rfl) ?_
  refine Jp.y 9 rfl (want_all rfl) rfl rfl Kp.true (Y.extract rfl rfl rfl) ?_
  refine Jp.y 3 rfl (want_all rfl) rfl rfl Kp.true (Y.assign rfl rfl) ?_
  refine Jp.y 4 rfl (want_all rfl) rfl rfl Kp.true (Y.assign rfl rfl) ?_
  refine Jp.done hK21 ?_
  refine Cd.seq fun K22 hK22 => ?_
  refine Cd.plain [(0, false), (1, false)] rfl rfl ?_
  refine Jp.y 10 rfl (want_all rfl) rfl rfl Kp.true (Y.move rfl rfl) ?_
  refine Jp.y 2 rfl (want_all rfl) rfl rfl Kp.true (Y.assign rfl rfl) ?_
  refine Jp.done hK22 ?_
  refine Cd.ret [] rfl (res1 rfl rfl) trivial ⟨rfl, rfl, rfl⟩
def awIns : InsP := ⟨19, 1, 0, 0, 5⟩
theorem awIns_w : encP awIns = (5243027, 0) := by kernel_rfl
def st0 (pc : Nat) : StP := ⟨List.replicate 32 0, pc, 0⟩
theorem st0_ok {pc : Nat} (h : pc < 4294967296) : StOk (st0 pc) := ⟨rfl, fun y hy => by rw [List.eq_of_mem_replicate hy]; decide, h, (show -9223372036854775808 ≤ (0 : Int) ∧ (0 : Int) ≤ 4611686018427387904 by decide)⟩
def awOut : StP := ⟨[0, 5] ++ List.replicate 30 0, 4100, 1⟩
theorem aw_step : (stepP (madeD [5243027] []) (st0 4096)).1 = awOut ∧ (stepP (madeD [5243027] []) (st0 4096)).2.1 = noEv := by
  constructor <;> kernel_rfl
theorem awake12_spec : Spec Try.prog 12 #[] (fun _ => True) [] (fun ρ ρ' v L => v = .bool true ∧ L = []) := by
  refine Spec.of 33 Try.func12 rfl Try.ntmps12 [] rfl rfl ?_
  intro cx ρ hr' h0
  refine Cd.seq fun K23 hK23 => ?_
  refine Cd.plain [(0, false)] rfl rfl ?_
  refine Jp.y 0 rfl (want_all rfl) rfl rfl Kp.true (Y.assign rfl rfl) ?_
  refine Jp.done hK23 ?_
  refine Cd.seq fun K24 hK24 => ?_
  refine Cd.plain [(0, false), (1, false), (2, false), (3, false), (4, false)] rfl rfl ?_
  refine Jp.y 4 rfl (want_all rfl) rfl rfl Kp.true (Y.struct [(0, _), (1, _), (4, _)] [_, _, _, _, _] rfl rfl places28 Try.zeroValue28 rfl) ?_
  refine Jp.call [] [] (word12_spec awIns ⟨by decide, by decide, by decide, by decide, by decide⟩ (by decide)) 5 rfl (want_all rfl) rfl rfl (Runs.fn rfl Try.call14 rfl) (by decide) (by decide) rfl trivial ?_
  rintro v1 ρ1 L1 ⟨rfl, rfl, rfl⟩
  refine ⟨rfl, fun hle1 => ⟨Kp.true, ?_⟩⟩
  rw [awIns_w]
  refine Jp.lit 6 9 [(0, _)] [_] rfl (want_all rfl) rfl rfl rfl rfl Try.underlying29 Try.sizeOf25 Try.zeroValue25 rfl rfl rfl rfl rfl fun b9 => ⟨Kp.true, ?_⟩
  refine Jp.freeze (i := 9) rfl (OwnS.up _ _ _ _ _ _) fun ρ7 hle7 hA7 => ?_
  refine Jp.call [] [0] (made12_spec (some ⟨b9, 0, none⟩) 1 [5243027] none 0 [] (by intro x hx; simp at hx; exact ⟨5243027, hx, by omega⟩)) 7 rfl (want_all rfl) rfl rfl (Runs.fn rfl Try.call13 rfl) (by decide) (by decide) rfl ⟨hA7.rd, RdS.nil 1 _⟩ ?_
  rintro v2 ρ2 L2 ⟨b, rfl, rfl⟩
  refine ⟨rfl, fun hle2 => ⟨Kp.true, ?_⟩⟩
  have hS := step_spec b (madeD [5243027] []) (st0 4096) (st0_ok (by decide))
  rw [aw_step.1, aw_step.2] at hS
  refine Jp.y 1 rfl (want_all rfl) rfl rfl Kp.true (Y.assign rfl rfl) ?_
  refine Jp.done hK24 ?_
  refine Cd.seq fun K25 hK25 => ?_
  refine Cd.plain [(0, false), (1, false), (2, false), (3, false), (4, false), (5, false), (6, false), (7, false), (8, false), (9, false)] rfl rfl ?_
  refine Jp.y 9 rfl (want_all rfl) rfl rfl Kp.true (Y.move rfl rfl) ?_
  refine Jp.y 10 rfl (want_all rfl) rfl rfl Kp.true (Y.struct [(1, _)] [_, _, _, _, _, _, _, _, _, _, _, _, _, _, _, _, _, _, _, _, _, _, _, _, _, _, _, _, _, _, _, _, _, _] rfl rfl places32 Try.zeroValue32 rfl) ?_
  refine Jp.call [0] [0] hS 11 rfl (want_all rfl) rfl rfl (Runs.fn rfl Try.call15 rfl) (by decide) (by decide) rfl trivial ?_
  rintro v3 ρ3 L3 ⟨rfl, rfl, rfl⟩
  refine ⟨rfl, fun hle3 => ⟨Kp.true, ?_⟩⟩
  refine Jp.y 8 rfl (want_all rfl) rfl rfl Kp.true (Y.move rfl rfl) ?_
  refine Jp.y 12 rfl (want_all rfl) rfl rfl Kp.true (Y.extract rfl rfl rfl) ?_
  refine Jp.y 13 rfl (want_all rfl) rfl rfl Kp.true (Y.extract rfl rfl rfl) ?_
  refine Jp.alloc 2 2 rfl (want_all rfl) rfl rfl rfl Try.zeroValue32 fun b2 => ⟨Kp.true, ?_⟩
  refine Jp.alloc 3 3 rfl (want_all rfl) rfl rfl rfl Try.zeroValue35 fun b3 => ⟨Kp.true, ?_⟩
  first | refine Jp.storeAll 2 rfl (want_all rfl) rfl rfl Try.sizeOf32 rfl rfl (by first | rfl | assumption) (by first | rfl | assumption) rfl (by first | rfl | assumption) (fun k _ _ => noFr0 k) Kp.true ?_ | refine Jp.storeAll 3 rfl (want_all rfl) rfl rfl Try.sizeOf32 rfl rfl (by first | rfl | assumption) (by first | rfl | assumption) rfl (by first | rfl | assumption) (fun k _ _ => noFr0 k) Kp.true ?_ | refine Jp.storeAll 2 rfl (want_all rfl) rfl rfl Try.sizeOf32 rfl rfl (by first | rfl | assumption) (by first | rfl | assumption) rfl (by first | rfl | assumption) (fun k _ _ => noFr0 k) Kp.true ?_ | refine Jp.storeAll 3 rfl (want_all rfl) rfl rfl Try.sizeOf32 rfl rfl (by first | rfl | assumption) (by first | rfl | assumption) rfl (by first | rfl | assumption) (fun k _ _ => noFr0 k) Kp.true ?_
  first | refine Jp.storeAll 2 rfl (want_all rfl) rfl rfl Try.sizeOf35 rfl rfl (by first | rfl | assumption) (by first | rfl | assumption) rfl (by first | rfl | assumption) (fun k _ _ => noFr0 k) Kp.true ?_ | refine Jp.storeAll 3 rfl (want_all rfl) rfl rfl Try.sizeOf35 rfl rfl (by first | rfl | assumption) (by first | rfl | assumption) rfl (by first | rfl | assumption) (fun k _ _ => noFr0 k) Kp.true ?_ | refine Jp.storeAll 2 rfl (want_all rfl) rfl rfl Try.sizeOf35 rfl rfl (by first | rfl | assumption) (by first | rfl | assumption) rfl (by first | rfl | assumption) (fun k _ _ => noFr0 k) Kp.true ?_ | refine Jp.storeAll 3 rfl (want_all rfl) rfl rfl Try.sizeOf35 rfl rfl (by first | rfl | assumption) (by first | rfl | assumption) rfl (by first | rfl | assumption) (fun k _ _ => noFr0 k) Kp.true ?_
  refine Jp.done hK25 ?_
  refine Cd.seq fun K26 hK26 => ?_
  refine Cd.plain [(0, false), (1, false), (2, false), (3, false), (4, false), (5, false), (6, false), (7, false), (8, false), (9, false), (10, false), (11, false), (12, false), (13, false), (14, false), (15, false), (16, false), (17, false), (18, false), (19, false)] rfl rfl ?_
  refine Jp.y 14 rfl (want_all rfl) rfl rfl Kp.true (by first | exact Y.loadAggO 2 rfl Try.isAgg35 Try.sizeOf35 rfl rfl (by first | rfl | assumption) | exact Y.loadAggO 3 rfl Try.isAgg35 Try.sizeOf35 rfl rfl (by first | rfl | assumption) | exact Y.loadAggO 2 rfl Try.isAgg35 Try.sizeOf35 rfl rfl (by first | rfl | assumption) | exact Y.loadAggO 3 rfl Try.isAgg35 Try.sizeOf35 rfl rfl (by first | rfl | assumption)) ?_
  refine Jp.y 15 rfl (want_all rfl) rfl rfl Kp.true (Y.struct [] [_, _, _] rfl rfl places35 Try.zeroValue35 rfl) ?_
  refine Jp.y 16 rfl (want_all rfl) rfl rfl Kp.true (Y.eqlS (xs := noEv.cells.toArray) (ys := noEv.cells.toArray) (r := true) rfl rfl rfl ev_guard ev_fields ev_stood (fun w => by rw [ev_eq, (evEq_iff _ _).2 rfl])) ?_
  refine Jp.y 17 rfl (want_all rfl) rfl rfl Kp.true (Y.move rfl rfl) ?_
  refine Jp.splitF 17 rfl (fun g17 => ?_) (fun g17 => ?_)
  · skip
    exact absurd g17 (by simp [awOut])
  try simp only [decide_eq_false_iff_not, decide_eq_true_eq, Int.not_lt, Int.not_le, Bool.not_eq_false, Bool.not_eq_true, Bool.not_true, Bool.not_false, Bool.not_eq_true', Bool.not_eq_false', beq_eq_false_iff_ne, ne_eq, beq_iff_eq, bne_iff_ne, bne_eq_false_iff_eq, Classical.not_not] at g17
  refine Jp.y 18 rfl (want_as rfl rfl rfl rfl) rfl rfl Kp.true (by first | exact Y.fieldAddrP rfl rfl Try.underlying32 rfl Try.sizeOf30 (by decide) (show _ + 0 = _ from rfl) | exact Y.fieldAddr rfl rfl Try.underlying32 rfl Try.sizeOf30 (by decide)) ?_
  refine Jp.y 19 rfl (want_as rfl rfl rfl rfl) rfl rfl Kp.true (Y.indexArrP rfl rfl rfl Try.underlying30 Try.sizeOf25 (by first | decide | omega) (by first | decide | omega) rfl) ?_
  refine Jp.y 20 rfl (want_as rfl rfl rfl rfl) rfl rfl Kp.true (by first | exact Y.loadO 2 rfl Try.isAgg25 rfl rfl rfl | exact Y.loadO 3 rfl Try.isAgg25 rfl rfl rfl | exact Y.loadO 2 rfl Try.isAgg25 rfl rfl rfl | exact Y.loadO 3 rfl Try.isAgg25 rfl rfl rfl) ?_
  refine Jp.y 21 rfl (want_as rfl rfl rfl rfl) rfl rfl Kp.true (Y.eql rfl rfl rfl) ?_
  refine Jp.y 22 rfl (want_all rfl) rfl rfl Kp.true (Y.pickT rfl rfl rfl) ?_
  refine Jp.y 23 rfl (want_all rfl) rfl rfl Kp.true (Y.move rfl rfl) ?_
  refine Jp.splitF 23 rfl (fun g23 => ?_) (fun g23 => ?_)
  · skip
    exact absurd g23 (by simp [awOut])
  try simp only [decide_eq_false_iff_not, decide_eq_true_eq, Int.not_lt, Int.not_le, Bool.not_eq_false, Bool.not_eq_true, Bool.not_true, Bool.not_false, Bool.not_eq_true', Bool.not_eq_false', beq_eq_false_iff_ne, ne_eq, beq_iff_eq, bne_iff_ne, bne_eq_false_iff_eq, Classical.not_not] at g23
  refine Jp.y 24 rfl (want_as rfl rfl rfl rfl) rfl rfl Kp.true (by first | exact Y.fieldAddrP rfl rfl Try.underlying32 rfl Try.sizeOf25 (by decide) (show _ + 32 = _ from rfl) | exact Y.fieldAddr rfl rfl Try.underlying32 rfl Try.sizeOf25 (by decide)) ?_
  refine Jp.y 25 rfl (want_as rfl rfl rfl rfl) rfl rfl Kp.true (by first | exact Y.loadO 2 rfl Try.isAgg25 rfl rfl rfl | exact Y.loadO 3 rfl Try.isAgg25 rfl rfl rfl | exact Y.loadO 2 rfl Try.isAgg25 rfl rfl rfl | exact Y.loadO 3 rfl Try.isAgg25 rfl rfl rfl) ?_
  refine Jp.y 26 rfl (want_as rfl rfl rfl rfl) rfl rfl Kp.true (Y.eql rfl rfl rfl) ?_
  refine Jp.y 27 rfl (want_all rfl) rfl rfl Kp.true (Y.pickT rfl rfl rfl) ?_
  refine Jp.y 28 rfl (want_all rfl) rfl rfl Kp.true (Y.move rfl rfl) ?_
  refine Jp.splitF 28 rfl (fun g28 => ?_) (fun g28 => ?_)
  · skip
    exact absurd g28 (by simp [awOut])
  try simp only [decide_eq_false_iff_not, decide_eq_true_eq, Int.not_lt, Int.not_le, Bool.not_eq_false, Bool.not_eq_true, Bool.not_true, Bool.not_false, Bool.not_eq_true', Bool.not_eq_false', beq_eq_false_iff_ne, ne_eq, beq_iff_eq, bne_iff_ne, bne_eq_false_iff_eq, Classical.not_not] at g28
  refine Jp.y 29 rfl (want_as rfl rfl rfl rfl) rfl rfl Kp.true (by first | exact Y.fieldAddrP rfl rfl Try.underlying32 rfl Try.sizeOf2 (by decide) (show _ + 33 = _ from rfl) | exact Y.fieldAddr rfl rfl Try.underlying32 rfl Try.sizeOf2 (by decide)) ?_
  refine Jp.y 30 rfl (want_as rfl rfl rfl rfl) rfl rfl Kp.true (by first | exact Y.loadO 2 rfl Try.isAgg2 rfl rfl rfl | exact Y.loadO 3 rfl Try.isAgg2 rfl rfl rfl | exact Y.loadO 2 rfl Try.isAgg2 rfl rfl rfl | exact Y.loadO 3 rfl Try.isAgg2 rfl rfl rfl) ?_
  refine Jp.y 31 rfl (want_as rfl rfl rfl rfl) rfl rfl Kp.true (Y.eql rfl rfl rfl) ?_
  refine Jp.y 32 rfl (want_all rfl) rfl rfl Kp.true (Y.pickT rfl rfl rfl) ?_
  refine Jp.y 0 rfl (want_all rfl) rfl rfl Kp.true (Y.assign rfl rfl) ?_
  refine Jp.done hK26 ?_
  refine Cd.ret [] rfl (res1 rfl rfl) trivial ⟨by simp [awOut], rfl⟩
end Go.Proofs.Ytkjeidoplonkjaa
