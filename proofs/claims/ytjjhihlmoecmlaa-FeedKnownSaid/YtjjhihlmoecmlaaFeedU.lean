/- Contracts: the reader of a feed's bytes: num, count, text. -/
import Derived.Test.YtjjhihlmoecmlaaFeedT
import Derived.Test.YtjjhihlmoecmlaaFeedE
set_option linter.unusedVariables false
set_option linter.unusedSimpArgs false
set_option maxRecDepth 100000
namespace Go.Proofs.Ytjjhihlmoecmlaa
open Go
def RdrPt (b : Nat) (s : Sl UInt8) (bad : Bool) : HProp := Pt b (.cells #[s.v, .bool bad] 112)
theorem RdB.dropS {A : Option Addr} {c : Nat} {xs : Bytes} {h : Hp} (r : RdB ⟨A, c, xs⟩ h) {k : Nat} (hl : k ≤ xs.length) : RdB ⟨cutA A c k 1, c - k, xs.drop k⟩ h := by
  have := RdS.drop r hl
  show RdS 1 (cutA A c k 1) (xs.drop k).length (c - k) (bytesV (xs.drop k)) h
  rw [List.length_drop, bytesV, List.map_drop]
  rw [Nat.mul_one] at this; exact this
theorem RdB.takeS {A : Option Addr} {c : Nat} {xs : Bytes} {h : Hp} (r : RdB ⟨A, c, xs⟩ h) {k : Nat} (hl : k ≤ xs.length) : RdB ⟨A, c, xs.take k⟩ h := by
  have := RdS.take r hl
  show RdS 1 A (xs.take k).length c (bytesV (xs.take k)) h
  rw [List.length_take, Nat.min_eq_left hl, bytesV, List.map_take]
  rw [Nat.mul_one] at this; exact this
theorem four_of {xs : Bytes} (h : ¬ xs.length < 4) : ∃ b0 b1 b2 b3 r, xs = b0 :: b1 :: b2 :: b3 :: r := by
  match xs, h with
  | b0 :: b1 :: b2 :: b3 :: r, _ => exact ⟨b0, b1, b2, b3, r, rfl⟩
  | [], h => exact absurd (by simp) h
  | [_], h => exact absurd (by simp) h
  | [_, _], h => exact absurd (by simp) h
  | [_, _, _], h => exact absurd (by simp) h
theorem or_four (b0 b1 b2 b3 : UInt8) : bitsB .or .u32 (bitsB .or .u32 (bitsB .or .u32 (b0.toNat : Int) (IntKind.u32.wrap ((b1.toNat : Int) * 2 ^ (min (8 : Int).toNat IntKind.u32.bits)))) (IntKind.u32.wrap ((b2.toNat : Int) * 2 ^ (min (16 : Int).toNat IntKind.u32.bits)))) (IntKind.u32.wrap ((b3.toNat : Int) * 2 ^ (min (24 : Int).toNat IntKind.u32.bits))) = (leN [b0, b1, b2, b3] : Int) := by
  have h1 := le_or2 (l := [b0]) (x := b1) (i := 1) rfl (by omega)
  have h2 := le_or2 (l := [b0, b1]) (x := b2) (i := 2) rfl (by omega)
  have h3 := le_or2 (l := [b0, b1, b2]) (x := b3) (i := 3) rfl (by omega)
  have h0 : (leN [b0] : Int) = (b0.toNat : Int) := by simp [leN]
  rw [h0] at h1
  rw [show (8 * ((1 : Nat) : Int)) = 8 from rfl] at h1
  rw [show (8 * ((2 : Nat) : Int)) = 16 from rfl] at h2
  rw [show (8 * ((3 : Nat) : Int)) = 24 from rfl] at h3
  rw [h1]
  rw [show [b0] ++ [b1] = [b0, b1] from rfl, h2]
  rw [show [b0, b1] ++ [b2] = [b0, b1, b2] from rfl, h3]
  rfl
theorem numP_lt (s : PS) : (numP s).1 < 4294967296 := by
  unfold numP
  split
  · decide
  · have := leN_lt (s.1.take 4)
    rw [List.length_take, Nat.min_eq_left (by omega)] at this
    exact this
theorem rnum_spec (b : Nat) (s : Sl UInt8) (bad : Bool) : Spec Try.prog 63 #[.pointer (some ⟨b, 0, none⟩)] (RdB s) [(0, RdrPt b s bad)]
    (fun ρ ρ' v L => ρ' = ρ ∧ ∃ n s' bad', numP (s.xs, bad) = (n, (s'.xs, bad')) ∧ v = .int .u32 ((n : Nat) : Int) ∧ RdB s' ρ ∧ L = [(0, RdrPt b s' bad')]) := by
  obtain ⟨A, c, xs⟩ := s
  dsimp only [RdrPt, Sl.v]
  refine Spec.of 59 Try.func63 rfl Try.ntmps63 [(0, _)] rfl rfl ?_
  intro cx ρ hr h0
  refine Cd.seq fun K1 hK1 => ?_
  refine Cd.plain [(0, false)] rfl rfl ?_
  refine Jp.y 2 rfl (want_all rfl) rfl rfl Kp.true (Y.assign rfl rfl) ?_
  refine Jp.done hK1 ?_
  refine Cd.seq fun K2 hK2 => ?_
  refine Cd.seq fun K3 hK3 => ?_
  refine Cd.plain [(0, false), (1, false), (2, false), (3, false), (4, false), (5, false)] rfl rfl ?_
  refine Jp.y 4 rfl (want_all rfl) rfl rfl Kp.true (Y.move rfl rfl) ?_
  refine Jp.y 5 rfl (want_all rfl) rfl rfl Kp.true (Y.nilCheck rfl rfl) ?_
  refine Jp.y 6 rfl (want_all rfl) rfl rfl Kp.true (by first | exact Y.fieldAddrP rfl rfl Try.underlying112 rfl Try.sizeOf26 (by decide) (show _ + 0 = _ from rfl) | exact Y.fieldAddr rfl rfl Try.underlying112 rfl Try.sizeOf26 (by decide)) ?_
  refine Jp.y 7 rfl (want_all rfl) rfl rfl Kp.true (Y.loadO 0 rfl Try.isAgg26 rfl rfl rfl) ?_
  refine Jp.y 8 rfl (want_all rfl) rfl rfl Kp.true (Y.lenslice rfl Try.underlying26 rfl) ?_
  refine Jp.y 9 rfl (want_all rfl) rfl rfl Kp.true (Y.lss rfl rfl rfl) ?_
  refine Jp.done hK3 ?_
  refine Cd.cond rfl (fun h1 => ?_) (fun h1 => ?_)
  · have e : numP (xs, bad) = (0, ([], true)) := by rw [numP, if_pos (by simp only [decide_eq_true_eq] at h1; show xs.length < 4; omega)]
    refine Cd.seq fun K4 hK4 => ?_
    refine Cd.plain [(0, false), (1, false), (2, false), (3, false), (4, false), (5, false), (6, false), (7, false)] rfl rfl ?_
    refine Jp.y 10 rfl (want_all rfl) rfl rfl Kp.true (Y.move rfl rfl) ?_
    refine Jp.y 11 rfl (want_all rfl) rfl rfl Kp.true (Y.move rfl rfl) ?_
    refine Jp.y 12 rfl (want_all rfl) rfl rfl Kp.true (Y.nilCheck rfl rfl) ?_
    refine Jp.y 13 rfl (want_all rfl) rfl rfl Kp.true (by first | exact Y.fieldAddrP rfl rfl Try.underlying112 rfl Try.sizeOf26 (by decide) (show _ + 0 = _ from rfl) | exact Y.fieldAddr rfl rfl Try.underlying112 rfl Try.sizeOf26 (by decide)) ?_
    refine Jp.store 0 rfl (want_all rfl) rfl rfl Try.sizeOf26 rfl rfl rfl rfl rfl rfl Kp.true ?_
    refine Jp.y 14 rfl (want_all rfl) rfl rfl Kp.true (Y.nilCheck rfl rfl) ?_
    refine Jp.y 15 rfl (want_all rfl) rfl rfl Kp.true (by first | exact Y.fieldAddrP rfl rfl Try.underlying112 rfl Try.sizeOf4 (by decide) (show _ + 1 = _ from rfl) | exact Y.fieldAddr rfl rfl Try.underlying112 rfl Try.sizeOf4 (by decide)) ?_
    refine Jp.store 0 rfl (want_all rfl) rfl rfl Try.sizeOf4 rfl rfl rfl rfl rfl rfl Kp.true ?_
    refine Jp.done hK4 ?_
    refine Cd.seq fun K5 hK5 => ?_
    refine Cd.plain [(0, false)] rfl rfl ?_
    refine Jp.y 2 rfl (want_all rfl) rfl rfl Kp.true (Y.assign rfl rfl) ?_
    refine Jp.done hK5 ?_
    refine Cd.ret [(0, _)] rfl (res1 rfl rfl) ⟨rfl, trivial⟩ ⟨rfl, 0, ⟨none, 0, []⟩, true, e, rfl, RdS.nil 1 _, rfl⟩
  · obtain ⟨b0, b1, b2, b3, r, rfl⟩ := four_of (xs := xs) (by simp only [decide_eq_false_iff_not] at h1; omega)
    have e : numP (b0 :: b1 :: b2 :: b3 :: r, bad) = (leN [b0, b1, b2, b3], (r, bad)) := by rw [numP, if_neg (by simp)]; rfl
    have hlen : (b0 :: b1 :: b2 :: b3 :: r).length = r.length + 4 := rfl
    have ls : (b0 :: b1 :: b2 :: b3 :: r).length ≤ 281474976710656 := hr.2.1.2
    have lc : (b0 :: b1 :: b2 :: b3 :: r).length ≤ c := hr.2.1.1
    obtain ⟨ad, rfl⟩ := hr.some (show 0 < (b0 :: b1 :: b2 :: b3 :: r).length * 1 by omega)
    have c0 : cellH ρ (ad.add 0) = some (.int .u8 (b0.toNat : Int)) := hr.cell rfl
    have c1 : cellH ρ (ad.add 1) = some (.int .u8 (b1.toNat : Int)) := hr.cell rfl
    have c2 : cellH ρ (ad.add 2) = some (.int .u8 (b2.toNat : Int)) := hr.cell rfl
    have c3 : cellH ρ (ad.add 3) = some (.int .u8 (b3.toNat : Int)) := hr.cell rfl
    have t0 := b0.toNat_lt
    have t1 := b1.toNat_lt
    have t2 := b2.toNat_lt
    have t3 := b3.toNat_lt
    have hd := RdB.dropS (k := 4) hr (by omega)
    refine Cd.skip hK2 ?_
    refine Cd.seq fun K6 hK6 => ?_
    refine Cd.drawn [(0, _)] ⟨rfl, trivial⟩ [(0, true), (1, true), (2, true), (3, true), (4, true), (5, true), (6, true), (7, true), (8, true), (9, true), (10, true), (11, true), (12, true), (13, true), (14, true), (15, true), (16, true), (17, true), (18, true), (19, true), (20, true), (21, true), (22, true), (23, true), (24, true), (25, true), (26, true), (27, true), (28, true), (29, true), (30, true), (31, true), (32, true), (33, true), (34, true)] follows (by kernel_rfl) (fun hrl => ?_)
    refine Jp.q 16 rfl (want_all rfl) rfl rfl (Y.move rfl rfl) ?_
    refine Jp.q 17 rfl (want_all rfl) rfl rfl (Y.nilCheck rfl rfl) ?_
    refine Jp.q 18 rfl (want_all rfl) rfl rfl (by first | exact Y.fieldAddrP rfl rfl Try.underlying112 rfl Try.sizeOf26 (by decide) (show _ + 0 = _ from rfl) | exact Y.fieldAddr rfl rfl Try.underlying112 rfl Try.sizeOf26 (by decide)) ?_
    refine Jp.q 19 rfl (want_all rfl) rfl rfl (by first | exact Y.loadO 0 rfl Try.isAgg26 rfl rfl rfl | exact Y.loadR rfl Try.isAgg26 rfl c0 | exact Y.loadR rfl Try.isAgg26 rfl c1 | exact Y.loadR rfl Try.isAgg26 rfl c2 | exact Y.loadR rfl Try.isAgg26 rfl c3) ?_
    refine Jp.q 20 rfl (want_all rfl) rfl rfl (Y.indexAddr (q := 0) rfl rfl rfl Try.underlying26 Try.sizeOf5 (by omega) (by omega) (by omega)) ?_
    refine Jp.q 21 rfl (want_all rfl) rfl rfl (by first | exact Y.loadO 0 rfl Try.isAgg5 rfl rfl rfl | exact Y.loadR rfl Try.isAgg5 rfl c0 | exact Y.loadR rfl Try.isAgg5 rfl c1 | exact Y.loadR rfl Try.isAgg5 rfl c2 | exact Y.loadR rfl Try.isAgg5 rfl c3) ?_
    refine Jp.q 22 rfl (want_all rfl) rfl rfl (Y.conv_ rfl rfl Try.underlying5 Try.underlying49 (by first | exact wrap_u32 (by omega) (by omega) | rfl)) ?_
    refine Jp.q 23 rfl (want_all rfl) rfl rfl (Y.move rfl rfl) ?_
    refine Jp.q 24 rfl (want_all rfl) rfl rfl (Y.nilCheck rfl rfl) ?_
    refine Jp.q 25 rfl (want_all rfl) rfl rfl (by first | exact Y.fieldAddrP rfl rfl Try.underlying112 rfl Try.sizeOf26 (by decide) (show _ + 0 = _ from rfl) | exact Y.fieldAddr rfl rfl Try.underlying112 rfl Try.sizeOf26 (by decide)) ?_
    refine Jp.q 26 rfl (want_all rfl) rfl rfl (by first | exact Y.loadO 0 rfl Try.isAgg26 rfl rfl rfl | exact Y.loadR rfl Try.isAgg26 rfl c0 | exact Y.loadR rfl Try.isAgg26 rfl c1 | exact Y.loadR rfl Try.isAgg26 rfl c2 | exact Y.loadR rfl Try.isAgg26 rfl c3) ?_
    refine Jp.q 27 rfl (want_all rfl) rfl rfl (Y.indexAddr (q := 1) rfl rfl rfl Try.underlying26 Try.sizeOf5 (by omega) (by omega) (by omega)) ?_
    refine Jp.q 28 rfl (want_all rfl) rfl rfl (by first | exact Y.loadO 0 rfl Try.isAgg5 rfl rfl rfl | exact Y.loadR rfl Try.isAgg5 rfl c0 | exact Y.loadR rfl Try.isAgg5 rfl c1 | exact Y.loadR rfl Try.isAgg5 rfl c2 | exact Y.loadR rfl Try.isAgg5 rfl c3) ?_
    refine Jp.q 29 rfl (want_all rfl) rfl rfl (Y.conv_ rfl rfl Try.underlying5 Try.underlying49 (by first | exact wrap_u32 (by omega) (by omega) | rfl)) ?_
    refine Jp.q 30 rfl (want_all rfl) rfl rfl (Y.shl rfl rfl rfl (by first | decide | omega)) ?_
    refine Jp.q 31 rfl (want_all rfl) rfl rfl (Y.bits rfl rfl rfl rfl) ?_
    refine Jp.q 32 rfl (want_all rfl) rfl rfl (Y.move rfl rfl) ?_
    refine Jp.q 33 rfl (want_all rfl) rfl rfl (Y.nilCheck rfl rfl) ?_
    refine Jp.q 34 rfl (want_all rfl) rfl rfl (by first | exact Y.fieldAddrP rfl rfl Try.underlying112 rfl Try.sizeOf26 (by decide) (show _ + 0 = _ from rfl) | exact Y.fieldAddr rfl rfl Try.underlying112 rfl Try.sizeOf26 (by decide)) ?_
    refine Jp.q 35 rfl (want_all rfl) rfl rfl (by first | exact Y.loadO 0 rfl Try.isAgg26 rfl rfl rfl | exact Y.loadR rfl Try.isAgg26 rfl c0 | exact Y.loadR rfl Try.isAgg26 rfl c1 | exact Y.loadR rfl Try.isAgg26 rfl c2 | exact Y.loadR rfl Try.isAgg26 rfl c3) ?_
    refine Jp.q 36 rfl (want_all rfl) rfl rfl (Y.indexAddr (q := 2) rfl rfl rfl Try.underlying26 Try.sizeOf5 (by omega) (by omega) (by omega)) ?_
    refine Jp.q 37 rfl (want_all rfl) rfl rfl (by first | exact Y.loadO 0 rfl Try.isAgg5 rfl rfl rfl | exact Y.loadR rfl Try.isAgg5 rfl c0 | exact Y.loadR rfl Try.isAgg5 rfl c1 | exact Y.loadR rfl Try.isAgg5 rfl c2 | exact Y.loadR rfl Try.isAgg5 rfl c3) ?_
    refine Jp.q 38 rfl (want_all rfl) rfl rfl (Y.conv_ rfl rfl Try.underlying5 Try.underlying49 (by first | exact wrap_u32 (by omega) (by omega) | rfl)) ?_
    refine Jp.q 39 rfl (want_all rfl) rfl rfl (Y.shl rfl rfl rfl (by first | decide | omega)) ?_
    refine Jp.q 40 rfl (want_all rfl) rfl rfl (Y.bits rfl rfl rfl rfl) ?_
    refine Jp.q 41 rfl (want_all rfl) rfl rfl (Y.move rfl rfl) ?_
    refine Jp.q 42 rfl (want_all rfl) rfl rfl (Y.nilCheck rfl rfl) ?_
    refine Jp.q 43 rfl (want_all rfl) rfl rfl (by first | exact Y.fieldAddrP rfl rfl Try.underlying112 rfl Try.sizeOf26 (by decide) (show _ + 0 = _ from rfl) | exact Y.fieldAddr rfl rfl Try.underlying112 rfl Try.sizeOf26 (by decide)) ?_
    refine Jp.q 44 rfl (want_all rfl) rfl rfl (by first | exact Y.loadO 0 rfl Try.isAgg26 rfl rfl rfl | exact Y.loadR rfl Try.isAgg26 rfl c0 | exact Y.loadR rfl Try.isAgg26 rfl c1 | exact Y.loadR rfl Try.isAgg26 rfl c2 | exact Y.loadR rfl Try.isAgg26 rfl c3) ?_
    refine Jp.q 45 rfl (want_all rfl) rfl rfl (Y.indexAddr (q := 3) rfl rfl rfl Try.underlying26 Try.sizeOf5 (by omega) (by omega) (by omega)) ?_
    refine Jp.q 46 rfl (want_all rfl) rfl rfl (by first | exact Y.loadO 0 rfl Try.isAgg5 rfl rfl rfl | exact Y.loadR rfl Try.isAgg5 rfl c0 | exact Y.loadR rfl Try.isAgg5 rfl c1 | exact Y.loadR rfl Try.isAgg5 rfl c2 | exact Y.loadR rfl Try.isAgg5 rfl c3) ?_
    refine Jp.q 47 rfl (want_all rfl) rfl rfl (Y.conv_ rfl rfl Try.underlying5 Try.underlying49 (by first | exact wrap_u32 (by omega) (by omega) | rfl)) ?_
    refine Jp.q 48 rfl (want_all rfl) rfl rfl (Y.shl rfl rfl rfl (by first | decide | omega)) ?_
    refine Jp.q 49 rfl (want_all rfl) rfl rfl (Y.bits rfl rfl rfl rfl) ?_
    refine Jp.q 3 rfl (want_all rfl) rfl rfl (Y.assign rfl rfl) ?_
    refine Jp.done hK6 ?_
    refine Cd.seq fun K8 hK8 => ?_
    refine Cd.plain [(0, false), (1, false), (2, false), (3, false), (4, false), (5, false), (6, false), (7, false), (8, false)] rfl rfl ?_
    refine Jp.slot 3 rfl (congrArg (Value.int .u32) (or_four b0 b1 b2 b3)) ?_
    refine Jp.y 50 rfl (want_all rfl) rfl rfl Kp.true (Y.move rfl rfl) ?_
    refine Jp.y 51 rfl (want_all rfl) rfl rfl Kp.true (Y.move rfl rfl) ?_
    refine Jp.y 52 rfl (want_all rfl) rfl rfl Kp.true (Y.nilCheck rfl rfl) ?_
    refine Jp.y 53 rfl (want_all rfl) rfl rfl Kp.true (by first | exact Y.fieldAddrP rfl rfl Try.underlying112 rfl Try.sizeOf26 (by decide) (show _ + 0 = _ from rfl) | exact Y.fieldAddr rfl rfl Try.underlying112 rfl Try.sizeOf26 (by decide)) ?_
    refine Jp.y 54 rfl (want_all rfl) rfl rfl Kp.true (by first | exact Y.loadO 0 rfl Try.isAgg26 rfl rfl rfl | exact Y.loadR rfl Try.isAgg26 rfl c0 | exact Y.loadR rfl Try.isAgg26 rfl c1 | exact Y.loadR rfl Try.isAgg26 rfl c2 | exact Y.loadR rfl Try.isAgg26 rfl c3) ?_
    refine Jp.y 55 rfl (want_all rfl) rfl rfl Kp.true (Y.sliceFrom (lo := 4) rfl rfl rfl Try.underlying26 Try.sizeOf5 (by omega) (by omega)) ?_
    refine Jp.y 56 rfl (want_all rfl) rfl rfl Kp.true (Y.nilCheck rfl rfl) ?_
    refine Jp.y 57 rfl (want_all rfl) rfl rfl Kp.true (by first | exact Y.fieldAddrP rfl rfl Try.underlying112 rfl Try.sizeOf26 (by decide) (show _ + 0 = _ from rfl) | exact Y.fieldAddr rfl rfl Try.underlying112 rfl Try.sizeOf26 (by decide)) ?_
    refine Jp.store 0 rfl (want_all rfl) rfl rfl Try.sizeOf26 rfl rfl rfl rfl rfl rfl Kp.true ?_
    refine Jp.done hK8 ?_
    refine Cd.seq fun K9 hK9 => ?_
    refine Cd.plain [(0, false), (1, false)] rfl rfl ?_
    refine Jp.y 58 rfl (want_all rfl) rfl rfl Kp.true (Y.move rfl rfl) ?_
    refine Jp.y 2 rfl (want_all rfl) rfl rfl Kp.true (Y.assign rfl rfl) ?_
    refine Jp.done hK9 ?_
    refine Cd.ret [(0, _)] rfl (res1 rfl rfl) ⟨rfl, trivial⟩ ⟨rfl, _, ⟨_, c - 4, r⟩, bad, e, rfl, hd, rfl⟩
theorem rcount_spec (b : Nat) (s : Sl UInt8) (bad : Bool) (most : Nat) (hm : most < 4294967296) : Spec Try.prog 61 #[.pointer (some ⟨b, 0, none⟩), .int .i64 most] (RdB s) [(0, RdrPt b s bad)]
    (fun ρ ρ' v L => ρ' = ρ ∧ ∃ n s' bad', countP most (s.xs, bad) = (n, (s'.xs, bad')) ∧ v = .int .i64 ((n : Nat) : Int) ∧ RdB s' ρ ∧ L = [(0, RdrPt b s' bad')]) := by
  refine Spec.of 20 Try.func61 rfl Try.ntmps61 [(0, _), (1, _)] rfl rfl ?_
  intro cx ρ hr h0
  refine Cd.seq fun K10 hK10 => ?_
  refine Cd.plain [(0, false)] rfl rfl ?_
  refine Jp.y 4 rfl (want_all rfl) rfl rfl Kp.true (Y.assign rfl rfl) ?_
  refine Jp.done hK10 ?_
  refine Cd.seq fun K11 hK11 => ?_
  refine Cd.plain [(0, false), (1, false), (2, false)] rfl rfl ?_
  refine Jp.y 6 rfl (want_all rfl) rfl rfl Kp.true (Y.move rfl rfl) ?_
  refine Jp.call [0] [0] (rnum_spec b s bad) 7 rfl (want_all rfl) rfl rfl (Runs.fn rfl Try.call63 rfl) (by decide) (by decide) rfl hr ?_
  rintro v1 ρ1 L1 ⟨rfl, n, s', bad', e, rfl, hr', rfl⟩
  refine ⟨rfl, fun hle1 => ⟨Kp.true, ?_⟩⟩
  have hn : n < 4294967296 := by have := numP_lt (s.xs, bad); rw [e] at this; exact this
  dsimp only [RdrPt]
  refine Jp.y 5 rfl (want_all rfl) rfl rfl Kp.true (Y.assign rfl rfl) ?_
  refine Jp.done hK11 ?_
  refine Cd.seq fun K12 hK12 => ?_
  refine Cd.seq fun K13 hK13 => ?_
  refine Cd.plain [(0, false), (1, false), (2, false), (3, false)] rfl rfl ?_
  refine Jp.y 8 rfl (want_all rfl) rfl rfl Kp.true (Y.move rfl rfl) ?_
  refine Jp.y 9 rfl (want_all rfl) rfl rfl Kp.true (Y.move rfl rfl) ?_
  refine Jp.y 10 rfl (want_all rfl) rfl rfl Kp.true (Y.conv_ rfl rfl Try.underlying3 Try.underlying49 (by first | exact wrap_u32 (by omega) (by omega) | rfl)) ?_
  refine Jp.y 11 rfl (want_all rfl) rfl rfl Kp.true (Y.gtr rfl rfl rfl) ?_
  refine Jp.done hK13 ?_
  refine Cd.cond rfl (fun h1 => ?_) (fun h1 => ?_)
  · have e2 : countP most (s.xs, bad) = (0, ([], true)) := by rw [countP, e, if_pos (by simpa using h1)]
    refine Cd.seq fun K14 hK14 => ?_
    refine Cd.plain [(0, false), (1, false), (2, false), (3, false), (4, false), (5, false), (6, false), (7, false)] rfl rfl ?_
    refine Jp.y 12 rfl (want_all rfl) rfl rfl Kp.true (Y.move rfl rfl) ?_
    refine Jp.y 13 rfl (want_all rfl) rfl rfl Kp.true (Y.move rfl rfl) ?_
    refine Jp.y 14 rfl (want_all rfl) rfl rfl Kp.true (Y.nilCheck rfl rfl) ?_
    refine Jp.y 15 rfl (want_all rfl) rfl rfl Kp.true (by first | exact Y.fieldAddrP rfl rfl Try.underlying112 rfl Try.sizeOf26 (by decide) (show _ + 0 = _ from rfl) | exact Y.fieldAddr rfl rfl Try.underlying112 rfl Try.sizeOf26 (by decide)) ?_
    refine Jp.store 0 rfl (want_all rfl) rfl rfl Try.sizeOf26 rfl rfl rfl rfl rfl rfl Kp.true ?_
    refine Jp.y 16 rfl (want_all rfl) rfl rfl Kp.true (Y.nilCheck rfl rfl) ?_
    refine Jp.y 17 rfl (want_all rfl) rfl rfl Kp.true (by first | exact Y.fieldAddrP rfl rfl Try.underlying112 rfl Try.sizeOf4 (by decide) (show _ + 1 = _ from rfl) | exact Y.fieldAddr rfl rfl Try.underlying112 rfl Try.sizeOf4 (by decide)) ?_
    refine Jp.store 0 rfl (want_all rfl) rfl rfl Try.sizeOf4 rfl rfl rfl rfl rfl rfl Kp.true ?_
    refine Jp.done hK14 ?_
    refine Cd.seq fun K15 hK15 => ?_
    refine Cd.plain [(0, false)] rfl rfl ?_
    refine Jp.y 4 rfl (want_all rfl) rfl rfl Kp.true (Y.assign rfl rfl) ?_
    refine Jp.done hK15 ?_
    refine Cd.ret [(0, _)] rfl (res1 rfl rfl) ⟨rfl, trivial⟩ ⟨rfl, 0, ⟨none, 0, []⟩, true, e2, rfl, RdS.nil 1 _, rfl⟩
  · have e2 : countP most (s.xs, bad) = (n, (s'.xs, bad')) := by rw [countP, e, if_neg (by simpa using h1)]
    refine Cd.skip hK12 ?_
    refine Cd.seq fun K16 hK16 => ?_
    refine Cd.plain [(0, false), (1, false), (2, false)] rfl rfl ?_
    refine Jp.y 18 rfl (want_all rfl) rfl rfl Kp.true (Y.move rfl rfl) ?_
    refine Jp.y 19 rfl (want_all rfl) rfl rfl Kp.true (Y.conv_ rfl rfl Try.underlying49 Try.underlying3 (by first | exact wrap_i64 (by omega) (by omega) | rfl)) ?_
    refine Jp.y 4 rfl (want_all rfl) rfl rfl Kp.true (Y.assign rfl rfl) ?_
    refine Jp.done hK16 ?_
    refine Cd.ret [(0, _)] rfl (res1 rfl rfl) ⟨rfl, trivial⟩ ⟨rfl, n, s', bad', e2, rfl, hr', rfl⟩
theorem countP_le {most : Nat} {s : PS} : (countP most s).1 ≤ most := by
  unfold countP
  split
  · exact Nat.zero_le _
  · omega
theorem rtext_spec (b : Nat) (s : Sl UInt8) (bad : Bool) (most : Nat) (hm : most ≤ 1000000) : Spec Try.prog 62 #[.pointer (some ⟨b, 0, none⟩), .int .i64 most] (RdB s) [(0, RdrPt b s bad)]
    (fun ρ ρ' v L => ρ' = ρ ∧ ∃ t s' bad' A c, textRdP most (s.xs, bad) = (t, (s'.xs, bad')) ∧ v = .slice A t.length c ∧ RdB s' ρ ∧ L = [(0, RdrPt b s' bad'), (1, OwnS 5 1 A t.length c (bytesV t))]) := by
  refine Spec.of 40 Try.func62 rfl Try.ntmps62 [(0, _), (1, _)] rfl rfl ?_
  intro cx ρ hr h0
  refine Cd.seq fun K17 hK17 => ?_
  refine Cd.plain [(0, false)] rfl rfl ?_
  refine Jp.y 4 rfl (want_all rfl) rfl rfl Kp.true (Y.assign rfl rfl) ?_
  refine Jp.done hK17 ?_
  refine Cd.seq fun K18 hK18 => ?_
  refine Cd.plain [(0, false), (1, false), (2, false), (3, false)] rfl rfl ?_
  refine Jp.y 7 rfl (want_all rfl) rfl rfl Kp.true (Y.move rfl rfl) ?_
  refine Jp.y 8 rfl (want_all rfl) rfl rfl Kp.true (Y.move rfl rfl) ?_
  refine Jp.call [0] [0] (rcount_spec b s bad most (by omega)) 9 rfl (want_all rfl) rfl rfl (Runs.fn rfl Try.call61 rfl) (by decide) (by decide) rfl hr ?_
  rintro v1 ρ1 L1 ⟨rfl, n, s', bad', e, rfl, hr', rfl⟩
  refine ⟨rfl, fun hle1 => ⟨Kp.true, ?_⟩⟩
  have hn : n ≤ most := by have := countP_le (most := most) (s := (s.xs, bad)); rw [e] at this; exact this
  obtain ⟨A, c, xs⟩ := s'
  dsimp only [RdrPt, Sl.v] at hr' e ⊢
  refine Jp.y 5 rfl (want_all rfl) rfl rfl Kp.true (Y.assign rfl rfl) ?_
  refine Jp.done hK18 ?_
  refine Cd.seq fun K19 hK19 => ?_
  refine Cd.seq fun K20 hK20 => ?_
  refine Cd.plain [(0, false), (1, false), (2, false), (3, false), (4, false), (5, false), (6, false)] rfl rfl ?_
  refine Jp.y 10 rfl (want_all rfl) rfl rfl Kp.true (Y.move rfl rfl) ?_
  refine Jp.y 11 rfl (want_all rfl) rfl rfl Kp.true (Y.move rfl rfl) ?_
  refine Jp.y 12 rfl (want_all rfl) rfl rfl Kp.true (Y.nilCheck rfl rfl) ?_
  refine Jp.y 13 rfl (want_all rfl) rfl rfl Kp.true (by first | exact Y.fieldAddrP rfl rfl Try.underlying112 rfl Try.sizeOf26 (by decide) (show _ + 0 = _ from rfl) | exact Y.fieldAddr rfl rfl Try.underlying112 rfl Try.sizeOf26 (by decide)) ?_
  refine Jp.y 14 rfl (want_all rfl) rfl rfl Kp.true (Y.loadO 0 rfl Try.isAgg26 rfl rfl rfl) ?_
  refine Jp.y 15 rfl (want_all rfl) rfl rfl Kp.true (Y.lenslice rfl Try.underlying26 rfl) ?_
  refine Jp.y 16 rfl (want_all rfl) rfl rfl Kp.true (Y.gtr rfl rfl rfl) ?_
  refine Jp.done hK20 ?_
  refine Cd.cond rfl (fun h1 => ?_) (fun h1 => ?_)
  · have e2 : textRdP most (s.xs, bad) = ([], ([], true)) := by rw [textRdP, e, if_pos (by simpa using h1)]
    refine Cd.seq fun K21 hK21 => ?_
    refine Cd.plain [(0, false), (1, false), (2, false), (3, false), (4, false), (5, false), (6, false), (7, false)] rfl rfl ?_
    refine Jp.y 17 rfl (want_all rfl) rfl rfl Kp.true (Y.move rfl rfl) ?_
    refine Jp.y 18 rfl (want_all rfl) rfl rfl Kp.true (Y.move rfl rfl) ?_
    refine Jp.y 19 rfl (want_all rfl) rfl rfl Kp.true (Y.nilCheck rfl rfl) ?_
    refine Jp.y 20 rfl (want_all rfl) rfl rfl Kp.true (by first | exact Y.fieldAddrP rfl rfl Try.underlying112 rfl Try.sizeOf26 (by decide) (show _ + 0 = _ from rfl) | exact Y.fieldAddr rfl rfl Try.underlying112 rfl Try.sizeOf26 (by decide)) ?_
    refine Jp.store 0 rfl (want_all rfl) rfl rfl Try.sizeOf26 rfl rfl rfl rfl rfl rfl Kp.true ?_
    refine Jp.y 21 rfl (want_all rfl) rfl rfl Kp.true (Y.nilCheck rfl rfl) ?_
    refine Jp.y 22 rfl (want_all rfl) rfl rfl Kp.true (by first | exact Y.fieldAddrP rfl rfl Try.underlying112 rfl Try.sizeOf4 (by decide) (show _ + 1 = _ from rfl) | exact Y.fieldAddr rfl rfl Try.underlying112 rfl Try.sizeOf4 (by decide)) ?_
    refine Jp.store 0 rfl (want_all rfl) rfl rfl Try.sizeOf4 rfl rfl rfl rfl rfl rfl Kp.true ?_
    refine Jp.done hK21 ?_
    refine Cd.seq fun K22 hK22 => ?_
    refine Cd.plain [(0, false)] rfl rfl ?_
    refine Jp.y 4 rfl (want_all rfl) rfl rfl Kp.true (Y.assign rfl rfl) ?_
    refine Jp.done hK22 ?_
    refine Cd.make 1 (A := OwnS 5 1 none 0 0 (bytesV [])) (OwnS.nil _ _ _) ?_
    refine Cd.ret [(0, _), (1, _)] rfl (res1 rfl rfl) ⟨rfl, rfl, trivial⟩ ⟨rfl, [], ⟨none, 0, []⟩, true, none, 0, e2, rfl, RdS.nil 1 _, rfl⟩
  · have h2 : n ≤ xs.length := by simpa using h1
    have e2 : textRdP most (s.xs, bad) = (xs.take n, (xs.drop n, bad')) := by rw [textRdP, e, if_neg (by simpa using h1)]
    have lc : xs.length ≤ c := hr'.2.1.1
    have hl : (xs.take n).length = n := by rw [List.length_take]; omega
    have hd := RdB.dropS (k := n) hr' h2
    have ht := RdB.takeS (k := n) hr' h2
    refine Cd.skip hK19 ?_
    refine Cd.seq fun K23 hK23 => ?_
    refine Cd.plain [(0, false), (1, false), (2, false), (3, false), (4, false), (5, false), (6, false), (7, false)] rfl rfl ?_
    refine Jp.y 23 rfl (want_all rfl) rfl rfl Kp.true (Y.move rfl rfl) ?_
    refine Jp.y 24 rfl (want_all rfl) rfl rfl Kp.true (Y.nilCheck rfl rfl) ?_
    refine Jp.y 25 rfl (want_all rfl) rfl rfl Kp.true (by first | exact Y.fieldAddrP rfl rfl Try.underlying112 rfl Try.sizeOf26 (by decide) (show _ + 0 = _ from rfl) | exact Y.fieldAddr rfl rfl Try.underlying112 rfl Try.sizeOf26 (by decide)) ?_
    refine Jp.y 26 rfl (want_all rfl) rfl rfl Kp.true (Y.loadO 0 rfl Try.isAgg26 rfl rfl rfl) ?_
    refine Jp.y 27 rfl (want_all rfl) rfl rfl Kp.true (Y.move rfl rfl) ?_
    refine Jp.y 28 rfl (want_all rfl) rfl rfl Kp.true (Y.sliceTo (hi := n) rfl rfl rfl Try.underlying26 Try.sizeOf5 (by omega) (by omega)) ?_
    refine Jp.slot 28 rfl (congrArg (fun k => Value.slice A k c) hl.symm) ?_
    refine Jp.call [] [1] (f56_spec ⟨A, c, xs.take n⟩ (by dsimp only; omega)) 29 rfl (want_all rfl) rfl rfl (Runs.fn rfl Try.call56 rfl) (by decide) (by decide) rfl ht ?_
    rintro v2 ρ2 L2 ⟨rfl, A2, c2, rfl, rfl⟩
    refine ⟨rfl, fun hle2 => ⟨Kp.true, ?_⟩⟩
    refine Jp.y 6 rfl (want_all rfl) rfl rfl Kp.true (Y.assign rfl rfl) ?_
    refine Jp.done hK23 ?_
    refine Cd.seq fun K24 hK24 => ?_
    refine Cd.plain [(0, false), (1, false), (2, false), (3, false), (4, false), (5, false), (6, false), (7, false), (8, false), (9, false)] rfl rfl ?_
    refine Jp.y 30 rfl (want_all rfl) rfl rfl Kp.true (Y.move rfl rfl) ?_
    refine Jp.y 31 rfl (want_all rfl) rfl rfl Kp.true (Y.move rfl rfl) ?_
    refine Jp.y 32 rfl (want_all rfl) rfl rfl Kp.true (Y.nilCheck rfl rfl) ?_
    refine Jp.y 33 rfl (want_all rfl) rfl rfl Kp.true (by first | exact Y.fieldAddrP rfl rfl Try.underlying112 rfl Try.sizeOf26 (by decide) (show _ + 0 = _ from rfl) | exact Y.fieldAddr rfl rfl Try.underlying112 rfl Try.sizeOf26 (by decide)) ?_
    refine Jp.y 34 rfl (want_all rfl) rfl rfl Kp.true (Y.loadO 0 rfl Try.isAgg26 rfl rfl rfl) ?_
    refine Jp.y 35 rfl (want_all rfl) rfl rfl Kp.true (Y.move rfl rfl) ?_
    refine Jp.y 36 rfl (want_all rfl) rfl rfl Kp.true (Y.sliceFrom (lo := n) rfl rfl rfl Try.underlying26 Try.sizeOf5 (by omega) (by omega)) ?_
    refine Jp.y 37 rfl (want_all rfl) rfl rfl Kp.true (Y.nilCheck rfl rfl) ?_
    refine Jp.y 38 rfl (want_all rfl) rfl rfl Kp.true (by first | exact Y.fieldAddrP rfl rfl Try.underlying112 rfl Try.sizeOf26 (by decide) (show _ + 0 = _ from rfl) | exact Y.fieldAddr rfl rfl Try.underlying112 rfl Try.sizeOf26 (by decide)) ?_
    refine Jp.store 0 rfl (want_all rfl) rfl rfl Try.sizeOf26 rfl rfl rfl rfl rfl rfl Kp.true ?_
    refine Jp.done hK24 ?_
    refine Cd.seq fun K25 hK25 => ?_
    refine Cd.plain [(0, false), (1, false)] rfl rfl ?_
    refine Jp.y 39 rfl (want_all rfl) rfl rfl Kp.true (Y.move rfl rfl) ?_
    refine Jp.y 4 rfl (want_all rfl) rfl rfl Kp.true (Y.assign rfl rfl) ?_
    refine Jp.done hK25 ?_
    refine Cd.ret [(0, _), (1, _)] rfl (res1 rfl rfl) ⟨rfl, rfl, trivial⟩ ⟨rfl, _, ⟨_, c - n, xs.drop n⟩, bad', A2, c2, e2, rfl, hd, by dsimp only [RdrPt, Sl.v]; rw [List.length_drop]; rfl⟩
end Go.Proofs.Ytjjhihlmoecmlaa
