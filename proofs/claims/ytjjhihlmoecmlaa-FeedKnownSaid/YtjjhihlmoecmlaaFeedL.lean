/- Contract of law9: FeedParts. -/
import Derived.Test.YtjjhihlmoecmlaaFeedJ
set_option linter.unusedVariables false
set_option linter.unusedSimpArgs false
set_option maxRecDepth 100000
namespace Go.Proofs.Ytjjhihlmoecmlaa
open Go
/-- The first n bytes of r, noughts behind its end. -/
def pad (r : Bytes) (n : Nat) : Bytes := r.take n ++ List.replicate (n - r.length) 0
theorem pad_length (r : Bytes) (n : Nat) : (pad r n).length = n := by
  simp only [pad, List.length_append, List.length_take, List.length_replicate]; omega
theorem pad_short {r : Bytes} {n : Nat} (h : n ≤ r.length) : pad r n = r.take n := by
  rw [pad, Nat.sub_eq_zero_of_le h, List.replicate_zero, List.append_nil]
theorem pad_take {r : Bytes} {n : Nat} (h : r.length ≤ n) : (pad r n).take r.length = r := by
  rw [pad, List.take_append_of_le_length (by rw [List.length_take]; omega), List.take_take, List.take_of_length_le (by omega)]
theorem pad_step (r : Bytes) (T : Nat) {m : Int} (h0 : 0 ≤ m) (h1 : m ≤ 4096) : pad r T ++ (bytesP ⟨[], r, [], 0, min T r.length, 0⟩ m).1 = pad r (T + m.toNat) := by
  rw [bytesP, if_neg (by omega)]
  dsimp only
  obtain ⟨n, rfl⟩ := Int.eq_ofNat_of_zero_le h0
  rw [Int.toNat_natCast]
  by_cases h : T ≤ r.length
  · rw [pad_short h, Nat.min_eq_left h, pad, List.take_add, ← List.append_assoc]
    congr 1
    · congr 1
      rw [List.take_eq_take_iff, List.length_drop]; omega
    · congr 1; omega
  · rw [pad, Nat.min_eq_right (show r.length ≤ T by omega), Nat.sub_self, Nat.zero_min, List.take_zero, List.nil_append, Nat.sub_zero, pad, List.append_assoc, List.replicate_append_replicate, List.take_of_length_le (by omega), List.take_of_length_le (by omega)]
    congr 2; omega
theorem use_step (r : Bytes) (T : Nat) {m : Int} (h0 : 0 ≤ m) (h1 : m ≤ 4096) : (bytesP ⟨[], r, [], 0, min T r.length, 0⟩ m).2 = ⟨[], r, [], 0, min (T + m.toNat) r.length, 0⟩ := by
  rw [bytesP, if_neg (by omega)]
  dsimp only
  congr 1; omega
theorem bytes_len (u : UseP) {m : Int} (h0 : 0 ≤ m) (h1 : m ≤ 4096) : (((bytesP u m).1.length : Nat) : Int) = m := by
  rw [bytesP, if_neg (by omega)]
  simp only [List.length_append, List.length_take, List.length_drop, List.length_replicate]; omega
def FeedG.ofRandom (s : Sl UInt8) : FeedG := ⟨⟨none, 0, []⟩, ⟨none, 0, []⟩, ⟨none, 0, []⟩, s, ⟨none, 0, []⟩, ⟨none, 0, []⟩⟩
theorem RdFeed.ofRandom {s : Sl UInt8} {h : Hp} (r : RdB s h) : RdFeed (FeedG.ofRandom s) h := ⟨RdS.nil 1 h, RdS.nil 1 h, RdS.nil 1 h, r, RdS.nil 1 h, RdS.nil 2 h, by simp [FeedG.ofRandom]⟩
theorem good_random {s : Sl UInt8} (h : s.xs.length ≤ 4096) : good (FeedG.ofRandom s).p = true := by
  simp [good, FeedG.ofRandom, FeedG.p, goodArgs, goodFiles, h]
theorem f4_spec (s : Sl UInt8) (l : Sl Int) : Spec Try.prog 4 #[s.v, l.v] (fun h => RdB s h ∧ RdI .i64 l h) [] (fun ρ ρ' v L => v = .bool true ∧ L = []) := by
  obtain ⟨As, cs, xs⟩ := s
  obtain ⟨Al, cl, xl⟩ := l
  dsimp only [Sl.v]
  refine Spec.of 100 Try.func4 rfl Try.ntmps4 [(0, _), (1, _)] rfl rfl ?_
  intro cx ρ hr h0
  obtain ⟨hrs, hrl⟩ := hr
  have ls : xs.length ≤ 281474976710656 := hrs.2.1.2
  have ll : xl.length ≤ 281474976710656 := hrl.2.1.2
  refine Cd.seq fun K1 hK1 => ?_
  refine Cd.plain [(0, false)] rfl rfl ?_
  refine Jp.y 4 rfl (want_all rfl) rfl rfl Kp.true (Y.assign rfl rfl) ?_
  refine Jp.done hK1 ?_
  refine Cd.seq fun K2 hK2 => ?_
  refine Cd.seq fun K3 hK3 => ?_
  refine Cd.plain [(0, false), (1, false)] rfl rfl ?_
  refine Jp.call [] [] f15_spec 10 rfl (want_all rfl) rfl rfl (Runs.fn rfl Try.call15 rfl) (by decide) (by decide) rfl trivial ?_
  rintro v1 ρ1 L1 ⟨rfl, rfl⟩
  refine ⟨rfl, fun hle1 => ⟨Kp.true, ?_⟩⟩
  have hrs := RdB.up _ _ _ hle1 hrs
  have hrl := RdI.up _ _ _ _ hle1 hrl
  refine Jp.y 11 rfl (want_all rfl) rfl rfl Kp.true (Y.not rfl rfl) ?_
  refine Jp.done hK3 ?_
  refine Cd.cond rfl (fun g11 => ?_) (fun g11 => ?_)
  · skip
    exact absurd g11 (by simp)
  try simp only [decide_eq_false_iff_not, decide_eq_true_eq, Int.not_lt, Int.not_le, Bool.not_eq_false, Bool.not_eq_true, Bool.not_true, Bool.not_false, Bool.not_eq_true', Bool.not_eq_false', beq_eq_false_iff_ne, ne_eq, beq_iff_eq, bne_iff_ne, bne_eq_false_iff_eq, Classical.not_not] at g11
  refine Cd.skip hK2 ?_
  refine Cd.seq fun K4 hK4 => ?_
  refine Cd.seq fun K5 hK5 => ?_
  refine Cd.plain [(0, false), (1, false), (2, false), (3, false), (4, false), (5, false), (6, false), (7, false)] rfl rfl ?_
  refine Jp.y 12 rfl (want_all rfl) rfl rfl Kp.true (Y.move rfl rfl) ?_
  refine Jp.y 13 rfl (want_all rfl) rfl rfl Kp.true (Y.lenslice rfl Try.underlying26 rfl) ?_
  refine Jp.y 14 rfl (want_all rfl) rfl rfl Kp.true (Y.gtr rfl rfl rfl) ?_
  refine Jp.y 15 rfl (want_all rfl) rfl rfl Kp.true (Y.move rfl rfl) ?_
  refine Jp.split 15 rfl (fun g15 => ?_) (fun g15 => ?_)
  · skip
    refine Jp.skip 16 rfl (want_as rfl rfl rfl rfl) rfl rfl Kp.true ?_
    refine Jp.skip 17 rfl (want_as rfl rfl rfl rfl) rfl rfl Kp.true ?_
    refine Jp.skip 18 rfl (want_as rfl rfl rfl rfl) rfl rfl Kp.true ?_
    refine Jp.y 19 rfl (want_all rfl) rfl rfl Kp.true (Y.pickT rfl rfl rfl) ?_
    refine Jp.done hK5 ?_
    refine Cd.condT rfl ?_
    refine Cd.seq fun K6 hK6 => ?_
    refine Cd.plain [(0, false)] rfl rfl ?_
    refine Jp.y 4 rfl (want_all rfl) rfl rfl Kp.true (Y.assign rfl rfl) ?_
    refine Jp.done hK6 ?_
    refine Cd.ret [] rfl (res1 rfl rfl) trivial ⟨rfl, rfl⟩
  try simp only [decide_eq_false_iff_not, decide_eq_true_eq, Int.not_lt, Int.not_le, Bool.not_eq_false, Bool.not_eq_true, Bool.not_true, Bool.not_false, Bool.not_eq_true', Bool.not_eq_false', beq_eq_false_iff_ne, ne_eq, beq_iff_eq, bne_iff_ne, bne_eq_false_iff_eq, Classical.not_not] at g15
  refine Jp.y 16 rfl (want_as rfl rfl rfl rfl) rfl rfl Kp.true (Y.move rfl rfl) ?_
  refine Jp.y 17 rfl (want_as rfl rfl rfl rfl) rfl rfl Kp.true (Y.lenslice rfl Try.underlying22 rfl) ?_
  refine Jp.y 18 rfl (want_as rfl rfl rfl rfl) rfl rfl Kp.true (Y.gtr rfl rfl rfl) ?_
  refine Jp.y 19 rfl (want_all rfl) rfl rfl Kp.true (Y.pickF rfl rfl rfl) ?_
  refine Jp.done hK5 ?_
  refine Cd.cond rfl (fun g19 => ?_) (fun g19 => ?_)
  · skip
    refine Cd.seq fun K7 hK7 => ?_
    refine Cd.plain [(0, false)] rfl rfl ?_
    refine Jp.y 4 rfl (want_all rfl) rfl rfl Kp.true (Y.assign rfl rfl) ?_
    refine Jp.done hK7 ?_
    refine Cd.ret [] rfl (res1 rfl rfl) trivial ⟨rfl, rfl⟩
  try simp only [decide_eq_false_iff_not, decide_eq_true_eq, Int.not_lt, Int.not_le, Bool.not_eq_false, Bool.not_eq_true, Bool.not_true, Bool.not_false, Bool.not_eq_true', Bool.not_eq_false', beq_eq_false_iff_ne, ne_eq, beq_iff_eq, bne_iff_ne, bne_eq_false_iff_eq, Classical.not_not] at g19
  refine Cd.skip hK4 ?_
  refine Cd.seq fun K8 hK8 => ?_
  refine Cd.plain [(0, false), (1, false), (2, false), (3, false), (4, false), (5, false), (6, false), (7, false)] rfl rfl ?_
  have hgood := good_random (s := ⟨As, cs, xs⟩) (show xs.length ≤ 4096 by omega)
  refine Jp.y 20 rfl (want_all rfl) rfl rfl Kp.true (Y.move rfl rfl) ?_
  refine Jp.y 21 rfl (want_all rfl) rfl rfl Kp.true (Y.struct [(3, _)] [_, _, _, _, _, _] rfl rfl places35 Try.zeroValue35 rfl) ?_
  refine Jp.call [] [1] (f17_spec (FeedG.ofRandom ⟨As, cs, xs⟩)) 22 rfl (want_all rfl) rfl rfl (Runs.fn rfl Try.call17 rfl) (by decide) (by decide) rfl (RdFeed.ofRandom hrs) ?_
  rintro v3 ρ3 L3 ⟨b, u, rfl, rfl, hu, hp⟩
  refine ⟨rfl, fun hle3 => ⟨Kp.true, ?_⟩⟩
  have hrs := RdB.up _ _ _ hle3 hrs
  have hrl := RdI.up _ _ _ _ hle3 hrl
  have hp : u.p = ⟨[], xs, [], 0, 0, 0⟩ := by rw [hp, beginP, hgood]; rfl
  refine Jp.y 23 rfl (want_all rfl) rfl rfl Kp.true (Y.move rfl rfl) ?_
  refine Jp.y 24 rfl (want_all rfl) rfl rfl Kp.true (Y.struct [(3, _)] [_, _, _, _, _, _] rfl rfl places35 Try.zeroValue35 rfl) ?_
  refine Jp.call [] [2] (f17_spec (FeedG.ofRandom ⟨As, cs, xs⟩)) 25 rfl (want_all rfl) rfl rfl (Runs.fn rfl Try.call17 rfl) (by decide) (by decide) rfl (RdFeed.ofRandom hrs) ?_
  rintro v4 ρ4 L4 ⟨b2, u2, rfl, rfl, hu2, hp2⟩
  refine ⟨rfl, fun hle4 => ⟨Kp.true, ?_⟩⟩
  have hrs := RdB.up _ _ _ hle4 hrs
  have hrl := RdI.up _ _ _ _ hle4 hrl
  have hu := RdUse.up _ _ _ hle4 hu
  have hp2 : u2.p = ⟨[], xs, [], 0, 0, 0⟩ := by rw [hp2, beginP, hgood]; rfl
  have hl1 : xs.length ≤ 300 := by omega
  have hl2 : xl.length ≤ 30 := by omega
  refine Jp.y 5 rfl (want_all rfl) rfl rfl Kp.true (Y.assign rfl rfl) ?_
  refine Jp.y 6 rfl (want_all rfl) rfl rfl Kp.true (Y.assign rfl rfl) ?_
  refine Jp.done hK8 ?_
  refine Cd.seq fun K9 hK9 => ?_
  refine Cd.plain [(0, false)] rfl rfl ?_
  refine Jp.y 7 rfl (want_all rfl) rfl rfl Kp.true (Y.assign rfl rfl) ?_
  refine Jp.done hK9 ?_
  refine Cd.seq fun K10 hK10 => ?_
  refine Cd.seq fun K11 hK11 => ?_
  refine Cd.plain [(0, false)] rfl rfl ?_
  refine Jp.y 8 rfl (want_all rfl) rfl rfl Kp.true (Y.assign rfl rfl) ?_
  refine Jp.done hK11 ?_
  refine Cd.block ?_
  rw [show (⟨#[]⟩ : ByteArray) = mkS (pad xs 0) by rw [pad_short (Nat.zero_le _)]; rfl]
  refine Cd.loop (G := Nat × Nat × UseG) (fun g => g.1 ≤ xl.length ∧ RdUse g.2.2 ρ4 ∧ g.2.2.p = ⟨[], xs, [], 0, min g.2.1 xs.length, 0⟩ ∧ g.2.1 ≤ g.1 * 100) (fun g => xl.length - g.1) (fun _ => ρ4) (fun g => [(0, .slice As xs.length cs), (1, .slice Al xl.length cl), (5, .pointer (some ⟨b, 0, none⟩)), (6, .pointer (some ⟨b2, 0, none⟩)), (7, .string (mkS (pad xs g.2.1))), (8, .int .i64 g.1)]) (fun g => [(1, UsePt b g.2.2), (2, UsePt b2 u2)]) (0, 0, u) ⟨Nat.zero_le _, hu, by rw [hp, Nat.zero_min], Nat.zero_le _⟩ rfl ⟨rfl, rfl, rfl, rfl, rfl, rfl, trivial⟩ ⟨rfl, rfl, trivial⟩ (fun g KLa hok hLa => ?_)
  obtain ⟨k, T, u⟩ := g
  obtain ⟨ok1, ok2, ok3, ok4⟩ := hok
  dsimp only at ok1 ok2 ok3 ok4 ⊢
  refine Cd.seq fun K12 hK12 => ?_
  refine Cd.seq fun K13 hK13 => ?_
  refine Cd.plain [(0, false), (1, false), (2, false), (3, false)] rfl rfl ?_
  refine Jp.y 26 rfl (want_all rfl) rfl rfl Kp.true (Y.move rfl rfl) ?_
  refine Jp.y 27 rfl (want_all rfl) rfl rfl Kp.true (Y.move rfl rfl) ?_
  refine Jp.y 28 rfl (want_all rfl) rfl rfl Kp.true (Y.lenslice rfl Try.underlying22 rfl) ?_
  refine Jp.y 29 rfl (want_all rfl) rfl rfl Kp.true (Y.lss rfl rfl rfl) ?_
  refine Jp.done hK13 ?_
  refine Cd.cond rfl (fun ga => ?_) (fun ga => ?_)
  · simp only [decide_eq_true_eq] at ga
    have hk : k < xl.length := by omega
    obtain ⟨al, rfl⟩ := hrl.some (show 0 < xl.length * 1 by omega)
    have hcl : cellH ρ4 (al.add k) = some (.int .i64 xl[k]) := hrl.cell (by simp [intsV, hk])
    refine Cd.skip hK12 ?_
    refine Cd.seq fun K14 hK14 => ?_
    refine Cd.block ?_
    refine Cd.seq fun K15 hK15 => ?_
    refine Cd.seq fun K16 hK16 => ?_
    refine Cd.plain [(0, false), (1, false), (2, false), (3, false), (4, false), (5, false), (6, false), (7, false), (8, false), (9, false), (10, false), (11, false)] rfl rfl ?_
    refine Jp.y 32 rfl (want_all rfl) rfl rfl Kp.true (Y.move rfl rfl) ?_
    refine Jp.y 33 rfl (want_all rfl) rfl rfl Kp.true (Y.move rfl rfl) ?_
    refine Jp.y 34 rfl (want_all rfl) rfl rfl Kp.true (Y.indexAddr (q := k) rfl rfl rfl Try.underlying22 Try.sizeOf3 (by omega) (by omega) (by omega)) ?_
    refine Jp.y 35 rfl (want_all rfl) rfl rfl Kp.true (Y.loadR rfl Try.isAgg3 rfl hcl) ?_
    refine Jp.y 36 rfl (want_all rfl) rfl rfl Kp.true (Y.lss rfl rfl rfl) ?_
    refine Jp.y 37 rfl (want_all rfl) rfl rfl Kp.true (Y.move rfl rfl) ?_
    refine Jp.split 37 rfl (fun g37 => ?_) (fun g37 => ?_)
    · skip
      refine Jp.skip 38 rfl (want_as rfl rfl rfl rfl) rfl rfl Kp.true ?_
      refine Jp.skip 39 rfl (want_as rfl rfl rfl rfl) rfl rfl Kp.true ?_
      refine Jp.skip 40 rfl (want_as rfl rfl rfl rfl) rfl rfl Kp.true ?_
      refine Jp.skip 41 rfl (want_as rfl rfl rfl rfl) rfl rfl Kp.true ?_
      refine Jp.skip 42 rfl (want_as rfl rfl rfl rfl) rfl rfl Kp.true ?_
      refine Jp.y 43 rfl (want_all rfl) rfl rfl Kp.true (Y.pickT rfl rfl rfl) ?_
      refine Jp.done hK16 ?_
      refine Cd.condT rfl ?_
      refine Cd.seq fun K17 hK17 => ?_
      refine Cd.plain [(0, false)] rfl rfl ?_
      refine Jp.y 4 rfl (want_all rfl) rfl rfl Kp.true (Y.assign rfl rfl) ?_
      refine Jp.done hK17 ?_
      refine Cd.ret [] rfl (res1 rfl rfl) trivial ⟨rfl, rfl⟩
    try simp only [decide_eq_false_iff_not, decide_eq_true_eq, Int.not_lt, Int.not_le, Bool.not_eq_false, Bool.not_eq_true, Bool.not_true, Bool.not_false, Bool.not_eq_true', Bool.not_eq_false', beq_eq_false_iff_ne, ne_eq, beq_iff_eq, bne_iff_ne, bne_eq_false_iff_eq, Classical.not_not] at g37
    refine Jp.y 38 rfl (want_as rfl rfl rfl rfl) rfl rfl Kp.true (Y.move rfl rfl) ?_
    refine Jp.y 39 rfl (want_as rfl rfl rfl rfl) rfl rfl Kp.true (Y.move rfl rfl) ?_
    refine Jp.y 40 rfl (want_as rfl rfl rfl rfl) rfl rfl Kp.true (Y.indexAddr (q := k) rfl rfl rfl Try.underlying22 Try.sizeOf3 (by omega) (by omega) (by omega)) ?_
    refine Jp.y 41 rfl (want_as rfl rfl rfl rfl) rfl rfl Kp.true (Y.loadR rfl Try.isAgg3 rfl hcl) ?_
    refine Jp.y 42 rfl (want_as rfl rfl rfl rfl) rfl rfl Kp.true (Y.gtr rfl rfl rfl) ?_
    refine Jp.y 43 rfl (want_all rfl) rfl rfl Kp.true (Y.pickF rfl rfl rfl) ?_
    refine Jp.done hK16 ?_
    refine Cd.cond rfl (fun g43 => ?_) (fun g43 => ?_)
    · skip
      refine Cd.seq fun K18 hK18 => ?_
      refine Cd.plain [(0, false)] rfl rfl ?_
      refine Jp.y 4 rfl (want_all rfl) rfl rfl Kp.true (Y.assign rfl rfl) ?_
      refine Jp.done hK18 ?_
      refine Cd.ret [] rfl (res1 rfl rfl) trivial ⟨rfl, rfl⟩
    try simp only [decide_eq_false_iff_not, decide_eq_true_eq, Int.not_lt, Int.not_le, Bool.not_eq_false, Bool.not_eq_true, Bool.not_true, Bool.not_false, Bool.not_eq_true', Bool.not_eq_false', beq_eq_false_iff_ne, ne_eq, beq_iff_eq, bne_iff_ne, bne_eq_false_iff_eq, Classical.not_not] at g43
    refine Cd.skip hK15 ?_
    refine Cd.seq fun K19 hK19 => ?_
    refine Cd.plain [(0, false), (1, false), (2, false), (3, false), (4, false), (5, false), (6, false)] rfl rfl ?_
    refine Jp.y 44 rfl (want_all rfl) rfl rfl Kp.true (Y.move rfl rfl) ?_
    refine Jp.y 45 rfl (want_all rfl) rfl rfl Kp.true (Y.move rfl rfl) ?_
    refine Jp.y 46 rfl (want_all rfl) rfl rfl Kp.true (Y.move rfl rfl) ?_
    refine Jp.y 47 rfl (want_all rfl) rfl rfl Kp.true (Y.indexAddr (q := k) rfl rfl rfl Try.underlying22 Try.sizeOf3 (by omega) (by omega) (by omega)) ?_
    refine Jp.y 48 rfl (want_all rfl) rfl rfl Kp.true (Y.loadR rfl Try.isAgg3 rfl hcl) ?_
    refine Jp.call [1] [1, 3] (f20_spec b u xl[k]) 49 rfl (want_all rfl) rfl rfl (Runs.fn rfl Try.call20 rfl) (by decide) (by decide) rfl ok2 ?_
    rintro v5 ρ5 L5 ⟨rfl, A2, A3, c3, rfl, rfl, u3, rfl, hu3, hp3⟩
    refine ⟨rfl, fun hle5 => ⟨Kp.true, ?_⟩⟩
    rw [ok3] at hp3
    rw [use_step _ _ (by omega) (by omega)] at hp3
    have hlen := bytes_len u.p (show 0 ≤ xl[k] by omega) (by omega)
    refine Jp.y 9 rfl (want_all rfl) rfl rfl Kp.true (Y.assign rfl rfl) ?_
    refine Jp.done hK19 ?_
    refine Cd.seq fun K20 hK20 => ?_
    refine Cd.seq fun K21 hK21 => ?_
    refine Cd.plain [(0, false), (1, false), (2, false), (3, false), (4, false), (5, false), (6, false)] rfl rfl ?_
    refine Jp.y 50 rfl (want_all rfl) rfl rfl Kp.true (Y.move rfl rfl) ?_
    refine Jp.y 51 rfl (want_all rfl) rfl rfl Kp.true (Y.lenslice rfl Try.underlying26 rfl) ?_
    refine Jp.y 52 rfl (want_all rfl) rfl rfl Kp.true (Y.move rfl rfl) ?_
    refine Jp.y 53 rfl (want_all rfl) rfl rfl Kp.true (Y.move rfl rfl) ?_
    refine Jp.y 54 rfl (want_all rfl) rfl rfl Kp.true (Y.indexAddr (q := k) rfl rfl rfl Try.underlying22 Try.sizeOf3 (by omega) (by omega) (by omega)) ?_
    refine Jp.y 55 rfl (want_all rfl) rfl rfl Kp.true (Y.loadR rfl Try.isAgg3 rfl hcl) ?_
    refine Jp.y 56 rfl (want_all rfl) rfl rfl Kp.true (Y.neq rfl rfl rfl) ?_
    refine Jp.done hK21 ?_
    refine Cd.cond rfl (fun gb => ?_) (fun gb => ?_)
    · exact absurd gb (by rw [hlen]; simp)
    · skip
      have hpl := pad_length xs T
      refine Cd.skip hK20 ?_
      refine Cd.plain [(0, false), (1, false), (2, false), (3, false), (4, false)] rfl rfl ?_
      refine Jp.y 57 rfl (want_all rfl) rfl rfl Kp.true (Y.move rfl rfl) ?_
      refine Jp.y 58 rfl (want_all rfl) rfl rfl Kp.true (Y.move rfl rfl) ?_
      refine Jp.y 59 rfl (want_all rfl) rfl rfl Kp.true (Y.toStr _ rfl rfl Try.underlying26 Try.underlying9 Try.underlying5 ⟨_, _, rfl⟩ (Src.own 3 rfl)) ?_
      refine Jp.y 60 rfl (want_all rfl) rfl rfl Kp.true (Y.stradd' rfl rfl rfl (by simp only [str_mkS, List.length_append, List.length_nil, List.length_cons]; omega)) ?_
      refine Jp.y 7 rfl (want_all rfl) rfl rfl Kp.true (Y.assign rfl rfl) ?_
      refine Jp.over rfl hK14 ?_
      refine Cd.plain [(0, false), (1, false), (2, false)] rfl rfl ?_
      refine Jp.y 30 rfl (want_all rfl) rfl rfl Kp.true (Y.move rfl rfl) ?_
      refine Jp.y 31 rfl (want_all rfl) rfl rfl Kp.true (Y.add_ rfl rfl rfl (by first | exact wrap_i64 (by omega) (by omega) | rfl)) ?_
      refine Jp.y 8 rfl (want_all rfl) rfl rfl Kp.true (Y.assign rfl rfl) ?_
      rw [str_mkS, str_mkS, ok3, pad_step _ _ (by omega) (by omega)]
      refine Jp.again hLa (k + 1, T + (xl[k]).toNat, u3) ⟨by dsimp only; omega, hu3, hp3, by dsimp only; omega⟩ (by dsimp only; omega) rfl ⟨rfl, rfl, rfl, rfl, rfl, rfl, trivial⟩ ⟨rfl, rfl, trivial⟩
  · simp only [decide_eq_false_iff_not] at ga
    have hpl := pad_length xs T
    have hT : T ≤ 3000 := by omega
    refine Cd.exit rfl hK10 ?_
    refine Cd.seq fun K22 hK22 => ?_
    refine Cd.drawn [] trivial [(0, true), (1, true), (2, true), (5, true), (3, false), (4, false), (6, true), (7, true), (8, true), (9, true), (10, true), (11, true), (12, true), (13, true), (14, true), (15, true), (16, true), (17, true), (18, true), (19, true), (20, true), (21, true), (22, true), (23, true), (24, true), (25, true), (26, true), (27, true), (28, true), (29, true), (30, true), (31, true), (32, true), (33, true), (34, true), (35, true), (36, true), (37, true), (38, true), (39, true)] follows (by kernel_rfl) (fun hrl => ?_)
    refine Jp.q 61 rfl (want_all rfl) rfl rfl (Y.move rfl rfl) ?_
    refine Jp.q 62 rfl (want_all rfl) rfl rfl (Y.move rfl rfl) ?_
    refine Jp.q 63 rfl (want_all rfl) rfl rfl (Y.lenstr rfl Try.underlying9 rfl) ?_
    refine Jp.q 66 rfl (want_all rfl) rfl rfl (Y.move rfl rfl) ?_
    refine Jp.call [2] [2, 3] (f20_spec b2 u2 (pad xs T).length) 64 rfl (want_all rfl) rfl rfl (Runs.fn rfl Try.call20 rfl) (by decide) (by decide) rfl (RdUse.up _ _ _ (Hp.le_refl _) hu2) ?_
    rintro v5 ρ5 L5 ⟨rfl, A2, A3, c3, rfl, rfl, u3, rfl, hu3, hp3⟩
    refine ⟨rfl, fun hle5 => ⟨(Kp.st trivial), ?_⟩⟩
    have hb : (bytesP u2.p (pad xs T).length).1 = pad xs T := by
      have := pad_step xs 0 (m := T) (by omega) (by omega)
      rw [Nat.zero_min, Int.toNat_natCast, Nat.zero_add, pad_short (Nat.zero_le _), List.take_zero, List.nil_append] at this
      rw [hp2, pad_length, this]
    rw [hb]
    refine Jp.y 65 rfl (want_all rfl) rfl rfl (Kp.st trivial) (Y.toStr _ rfl rfl Try.underlying26 Try.underlying9 Try.underlying5 ⟨_, _, rfl⟩ (Src.own 3 rfl)) ?_
    refine Jp.q 67 rfl (want_all rfl) rfl rfl (Y.streql rfl rfl rfl) ?_
    rw [beq_self_eq_true]
    have hsz : (mkS (pad xs T)).size = T := by rw [mkS_size, hpl]
    have hcap : xs.length ≤ cs := hrs.2.1.1
    by_cases hTl : T ≤ xs.length
    · skip
      have hrd : RdS 1 As T cs (bytesV (xs.take T)) ρ5 := by
        have := hrs.take (k := xs.length) (l := T) hTl
        rw [Nat.mul_one] at this
        rw [bytesV, List.map_take]; exact this
      refine Jp.q 68 rfl (want_all rfl) rfl rfl (Y.move rfl rfl) ?_
      refine Jp.splitF 68 rfl (fun g68 => ?_) (fun g68 => ?_)
      · skip
        exact absurd g68 (by first | (simp; done) | (rw [hsz]; simp; omega))
      try simp only [decide_eq_false_iff_not, decide_eq_true_eq, Int.not_lt, Int.not_le, Bool.not_eq_false, Bool.not_eq_true, Bool.not_true, Bool.not_false, Bool.not_eq_true', Bool.not_eq_false', beq_eq_false_iff_ne, ne_eq, beq_iff_eq, bne_iff_ne, bne_eq_false_iff_eq, Classical.not_not] at g68
      refine Jp.q 69 rfl (want_as rfl rfl rfl rfl) rfl rfl (Y.move rfl rfl) ?_
      refine Jp.q 70 rfl (want_as rfl rfl rfl rfl) rfl rfl (Y.lenstr rfl Try.underlying9 rfl) ?_
      refine Jp.q 71 rfl (want_as rfl rfl rfl rfl) rfl rfl (Y.move rfl rfl) ?_
      refine Jp.q 72 rfl (want_as rfl rfl rfl rfl) rfl rfl (Y.lenslice rfl Try.underlying26 rfl) ?_
      refine Jp.q 73 rfl (want_as rfl rfl rfl rfl) rfl rfl (Y.leq rfl rfl rfl) ?_
      refine Jp.q 74 rfl (want_as rfl rfl rfl rfl) rfl rfl (Y.move rfl rfl) ?_
      refine Jp.splitF 74 rfl (fun g74 => ?_) (fun g74 => ?_)
      · skip
        exact absurd g74 (by first | (simp; done) | (rw [hsz]; simp; omega))
      try simp only [decide_eq_false_iff_not, decide_eq_true_eq, Int.not_lt, Int.not_le, Bool.not_eq_false, Bool.not_eq_true, Bool.not_true, Bool.not_false, Bool.not_eq_true', Bool.not_eq_false', beq_eq_false_iff_ne, ne_eq, beq_iff_eq, bne_iff_ne, bne_eq_false_iff_eq, Classical.not_not] at g74
      refine Jp.q 75 rfl (want_as rfl rfl rfl rfl) rfl rfl (Y.move rfl rfl) ?_
      refine Jp.q 76 rfl (want_as rfl rfl rfl rfl) rfl rfl (Y.move rfl rfl) ?_
      refine Jp.q 77 rfl (want_as rfl rfl rfl rfl) rfl rfl (Y.move rfl rfl) ?_
      refine Jp.q 78 rfl (want_as rfl rfl rfl rfl) rfl rfl (Y.lenstr rfl Try.underlying9 rfl) ?_
      refine Jp.q 79 rfl (want_as rfl rfl rfl rfl) rfl rfl (Y.sliceTo (hi := T) rfl rfl rfl Try.underlying26 Try.sizeOf5 (by omega) (by omega)) ?_
      refine Jp.q 80 rfl (want_as rfl rfl rfl rfl) rfl rfl (Y.toStr _ rfl rfl Try.underlying26 Try.underlying9 Try.underlying5 ⟨_, _, rfl⟩ (Src.rd hrd)) ?_
      refine Jp.q 81 rfl (want_as rfl rfl rfl rfl) rfl rfl (Y.streql rfl rfl rfl) ?_
      rw [str_mkS, str_mkS, pad_short hTl, beq_self_eq_true]
      refine Jp.q 82 rfl (want_as rfl rfl rfl rfl) rfl rfl (Y.pickT rfl rfl rfl) ?_
      refine Jp.q 83 rfl (want_as rfl rfl rfl rfl) rfl rfl (Y.move rfl rfl) ?_
      refine Jp.splitF 83 rfl (fun g83 => ?_) (fun g83 => ?_)
      · skip
        exact absurd g83 (by first | (simp; done) | (rw [hsz]; simp; omega))
      try simp only [decide_eq_false_iff_not, decide_eq_true_eq, Int.not_lt, Int.not_le, Bool.not_eq_false, Bool.not_eq_true, Bool.not_true, Bool.not_false, Bool.not_eq_true', Bool.not_eq_false', beq_eq_false_iff_ne, ne_eq, beq_iff_eq, bne_iff_ne, bne_eq_false_iff_eq, Classical.not_not] at g83
      refine Jp.qskip 84 rfl (want_as rfl rfl rfl rfl) rfl rfl ?_
      refine Jp.qskip 85 rfl (want_as rfl rfl rfl rfl) rfl rfl ?_
      refine Jp.qskip 86 rfl (want_as rfl rfl rfl rfl) rfl rfl ?_
      refine Jp.qskip 87 rfl (want_as rfl rfl rfl rfl) rfl rfl ?_
      refine Jp.qskip 88 rfl (want_as rfl rfl rfl rfl) rfl rfl ?_
      refine Jp.qskip 89 rfl (want_as rfl rfl rfl rfl) rfl rfl ?_
      refine Jp.qskip 90 rfl (want_un rfl rfl rfl) rfl rfl ?_
      refine Jp.qskip 91 rfl (want_un rfl rfl rfl) rfl rfl ?_
      refine Jp.qskip 92 rfl (want_un rfl rfl rfl) rfl rfl ?_
      refine Jp.qskip 93 rfl (want_un rfl rfl rfl) rfl rfl ?_
      refine Jp.qskip 94 rfl (want_un rfl rfl rfl) rfl rfl ?_
      refine Jp.qskip 95 rfl (want_un rfl rfl rfl) rfl rfl ?_
      refine Jp.qskip 96 rfl (want_un rfl rfl rfl) rfl rfl ?_
      refine Jp.qskip 97 rfl (want_as rfl rfl rfl rfl) rfl rfl ?_
      refine Jp.q 98 rfl (want_as rfl rfl rfl rfl) rfl rfl (Y.pickT rfl rfl rfl) ?_
      refine Jp.q 99 rfl (want_all rfl) rfl rfl (Y.pickT rfl rfl rfl) ?_
      refine Jp.q 4 rfl (want_all rfl) rfl rfl (Y.assign rfl rfl) ?_
      refine Jp.done hK22 ?_
      refine Cd.ret [] rfl (res1 rfl rfl) trivial ⟨rfl, rfl⟩
    · skip
      have hrd : RdS 1 As xs.length cs (bytesV xs) ρ5 := hrs
      refine Jp.q 68 rfl (want_all rfl) rfl rfl (Y.move rfl rfl) ?_
      refine Jp.splitF 68 rfl (fun g68 => ?_) (fun g68 => ?_)
      · skip
        exact absurd g68 (by first | (simp; done) | (rw [hsz]; simp; omega))
      try simp only [decide_eq_false_iff_not, decide_eq_true_eq, Int.not_lt, Int.not_le, Bool.not_eq_false, Bool.not_eq_true, Bool.not_true, Bool.not_false, Bool.not_eq_true', Bool.not_eq_false', beq_eq_false_iff_ne, ne_eq, beq_iff_eq, bne_iff_ne, bne_eq_false_iff_eq, Classical.not_not] at g68
      refine Jp.q 69 rfl (want_as rfl rfl rfl rfl) rfl rfl (Y.move rfl rfl) ?_
      refine Jp.q 70 rfl (want_as rfl rfl rfl rfl) rfl rfl (Y.lenstr rfl Try.underlying9 rfl) ?_
      refine Jp.q 71 rfl (want_as rfl rfl rfl rfl) rfl rfl (Y.move rfl rfl) ?_
      refine Jp.q 72 rfl (want_as rfl rfl rfl rfl) rfl rfl (Y.lenslice rfl Try.underlying26 rfl) ?_
      refine Jp.q 73 rfl (want_as rfl rfl rfl rfl) rfl rfl (Y.leq rfl rfl rfl) ?_
      refine Jp.q 74 rfl (want_as rfl rfl rfl rfl) rfl rfl (Y.move rfl rfl) ?_
      refine Jp.split 74 rfl (fun g74 => ?_) (fun g74 => ?_)
      · skip
        exact absurd g74 (by first | (simp; done) | (rw [hsz]; simp; omega))
      try simp only [decide_eq_false_iff_not, decide_eq_true_eq, Int.not_lt, Int.not_le, Bool.not_eq_false, Bool.not_eq_true, Bool.not_true, Bool.not_false, Bool.not_eq_true', Bool.not_eq_false', beq_eq_false_iff_ne, ne_eq, beq_iff_eq, bne_iff_ne, bne_eq_false_iff_eq, Classical.not_not] at g74
      refine Jp.qskip 75 rfl (want_as rfl rfl rfl rfl) rfl rfl ?_
      refine Jp.qskip 76 rfl (want_as rfl rfl rfl rfl) rfl rfl ?_
      refine Jp.qskip 77 rfl (want_as rfl rfl rfl rfl) rfl rfl ?_
      refine Jp.qskip 78 rfl (want_as rfl rfl rfl rfl) rfl rfl ?_
      refine Jp.qskip 79 rfl (want_as rfl rfl rfl rfl) rfl rfl ?_
      refine Jp.qskip 80 rfl (want_as rfl rfl rfl rfl) rfl rfl ?_
      refine Jp.qskip 81 rfl (want_as rfl rfl rfl rfl) rfl rfl ?_
      refine Jp.q 82 rfl (want_as rfl rfl rfl rfl) rfl rfl (Y.pickF rfl rfl rfl) ?_
      refine Jp.q 83 rfl (want_as rfl rfl rfl rfl) rfl rfl (Y.move rfl rfl) ?_
      refine Jp.q 84 rfl (want_as rfl rfl rfl rfl) rfl rfl (Y.move rfl rfl) ?_
      refine Jp.q 85 rfl (want_as rfl rfl rfl rfl) rfl rfl (Y.lenstr rfl Try.underlying9 rfl) ?_
      refine Jp.q 86 rfl (want_as rfl rfl rfl rfl) rfl rfl (Y.move rfl rfl) ?_
      refine Jp.q 87 rfl (want_as rfl rfl rfl rfl) rfl rfl (Y.lenslice rfl Try.underlying26 rfl) ?_
      refine Jp.q 88 rfl (want_as rfl rfl rfl rfl) rfl rfl (Y.gtr rfl rfl rfl) ?_
      refine Jp.q 89 rfl (want_as rfl rfl rfl rfl) rfl rfl (Y.move rfl rfl) ?_
      refine Jp.splitF 89 rfl (fun g89 => ?_) (fun g89 => ?_)
      · skip
        exact absurd g89 (by first | (simp; done) | (rw [hsz]; simp; omega))
      try simp only [decide_eq_false_iff_not, decide_eq_true_eq, Int.not_lt, Int.not_le, Bool.not_eq_false, Bool.not_eq_true, Bool.not_true, Bool.not_false, Bool.not_eq_true', Bool.not_eq_false', beq_eq_false_iff_ne, ne_eq, beq_iff_eq, bne_iff_ne, bne_eq_false_iff_eq, Classical.not_not] at g89
      refine Jp.q 90 rfl (want_as rfl rfl rfl rfl) rfl rfl (Y.move rfl rfl) ?_
      refine Jp.q 91 rfl (want_as rfl rfl rfl rfl) rfl rfl (Y.move rfl rfl) ?_
      refine Jp.q 92 rfl (want_as rfl rfl rfl rfl) rfl rfl (Y.lenslice rfl Try.underlying26 rfl) ?_
      refine Jp.q 93 rfl (want_as rfl rfl rfl rfl) rfl rfl (Y.strTo (hi := xs.length) rfl rfl rfl Try.underlying9 (by omega) (by first | omega | (simp only [mkS_size]; omega))) ?_
      refine Jp.q 94 rfl (want_as rfl rfl rfl rfl) rfl rfl (Y.move rfl rfl) ?_
      refine Jp.q 95 rfl (want_as rfl rfl rfl rfl) rfl rfl (Y.toStr _ rfl rfl Try.underlying26 Try.underlying9 Try.underlying5 ⟨_, _, rfl⟩ (Src.rd hrd)) ?_
      refine Jp.q 96 rfl (want_as rfl rfl rfl rfl) rfl rfl (Y.streql rfl rfl rfl) ?_
      simp only [str_mkS]
      rw [pad_take (by omega), beq_self_eq_true]
      refine Jp.q 97 rfl (want_as rfl rfl rfl rfl) rfl rfl (Y.pickT rfl rfl rfl) ?_
      refine Jp.q 98 rfl (want_as rfl rfl rfl rfl) rfl rfl (Y.pickF rfl rfl rfl) ?_
      refine Jp.q 99 rfl (want_all rfl) rfl rfl (Y.pickT rfl rfl rfl) ?_
      refine Jp.q 4 rfl (want_all rfl) rfl rfl (Y.assign rfl rfl) ?_
      refine Jp.done hK22 ?_
      refine Cd.ret [] rfl (res1 rfl rfl) trivial ⟨rfl, rfl⟩
end Go.Proofs.Ytjjhihlmoecmlaa
