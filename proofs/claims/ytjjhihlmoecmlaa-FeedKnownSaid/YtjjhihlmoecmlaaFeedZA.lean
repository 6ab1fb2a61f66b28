/- Contracts: the reference's Reader: Num, Bytes. -/
import Derived.Test.YtjjhihlmoecmlaaFeedU
set_option linter.unusedVariables false
set_option linter.unusedSimpArgs false
set_option maxRecDepth 100000
namespace Go.Proofs.Ytjjhihlmoecmlaa
open Go
def RdrR (b : Nat) (s : Sl UInt8) (p : Nat) (bad : Bool) : HProp := Pt b (.cells #[s.v, .int .i64 (p : Int), .bool bad] 115)
theorem be_or {l : List UInt8} {x : UInt8} (h : l.length ≤ 3) : bitsB .or .u32 (IntKind.u32.wrap ((leN l : Int) * 2 ^ (min (8 : Int).toNat IntKind.u32.bits))) (x.toNat : Int) = (leN (x :: l) : Int) := by
  have hl := leN_lt l
  have hp : 256 ^ l.length ≤ 256 ^ 3 := Nat.pow_le_pow_right (by decide) h
  have hlt : leN l < 16777216 := by omega
  have hx := x.toNat_lt
  have e1 : IntKind.u32.wrap ((leN l : Int) * 2 ^ (min ((8 : Nat) : Int).toNat IntKind.u32.bits)) = ((leN l * 2 ^ 8 : Nat) : Int) := shl32 (by omega) (by omega)
  rw [show ((8 : Nat) : Int) = 8 from rfl] at e1
  rw [e1, bits_or32 (by omega) (by omega), Nat.or_comm, or_shift (by omega)]
  simp only [leN]; congr 1; omega
theorem rnumR_spec (b : Nat) (s : Sl UInt8) (p : Nat) (bad : Bool) (hp : p ≤ s.xs.length) : Spec Try.prog 64 #[.pointer (some ⟨b, 0, none⟩), .int .i64 4] (RdB s) [(0, RdrR b s p bad)]
    (fun ρ ρ' v L => ρ' = ρ ∧ ∃ n p' bad', numR (s.xs.drop p, bad) = (n, (s.xs.drop p', bad')) ∧ p' ≤ s.xs.length ∧ v = .int .u32 ((n : Nat) : Int) ∧ L = [(0, RdrR b s p' bad')]) := by
  obtain ⟨A, c, xs⟩ := s
  have hp : p ≤ xs.length := hp
  dsimp only [RdrR, Sl.v]
  refine Spec.of 60 Try.func64 rfl Try.ntmps64 [(0, _), (1, _)] rfl rfl ?_
  intro cx ρ hr h0
  have ls : xs.length ≤ 281474976710656 := hr.2.1.2
  refine Cd.seq fun K1 hK1 => ?_
  refine Cd.plain [(0, false)] rfl rfl ?_
  refine Jp.y 4 rfl (want_all rfl) rfl rfl Kp.true (Y.assign rfl rfl) ?_
  refine Jp.done hK1 ?_
  refine Cd.seq fun K2 hK2 => ?_
  refine Cd.seq fun K3 hK3 => ?_
  refine Cd.drawn [(0, _)] ⟨rfl, trivial⟩ [(0, true), (1, true), (2, true), (3, true), (4, true), (5, true), (6, true), (7, true), (8, true), (9, true), (10, true), (11, true), (12, true), (13, true), (14, true), (15, true), (16, true), (17, true)] follows (by kernel_rfl) (fun hrl => ?_)
  refine Jp.q 7 rfl (want_all rfl) rfl rfl (Y.move rfl rfl) ?_
  refine Jp.q 8 rfl (want_all rfl) rfl rfl (Y.nilCheck rfl rfl) ?_
  refine Jp.q 9 rfl (want_all rfl) rfl rfl (by first | exact Y.fieldAddrP rfl rfl Try.underlying115 rfl Try.sizeOf4 (by decide) (show _ + 2 = _ from rfl) | exact Y.fieldAddr rfl rfl Try.underlying115 rfl Try.sizeOf4 (by decide)) ?_
  refine Jp.q 10 rfl (want_all rfl) rfl rfl (Y.loadO 0 rfl Try.isAgg4 rfl rfl rfl) ?_
  refine Jp.q 11 rfl (want_all rfl) rfl rfl (Y.move rfl rfl) ?_
  refine Jp.split 11 rfl (fun g11 => ?_) (fun g11 => ?_)
  · skip
    have e : numR (xs.drop p, bad) = (0, (xs.drop p, true)) := by rw [numR, if_pos (.inl g11)]
    refine Jp.qskip 12 rfl (want_as rfl rfl rfl rfl) rfl rfl ?_
    refine Jp.qskip 13 rfl (want_as rfl rfl rfl rfl) rfl rfl ?_
    refine Jp.qskip 14 rfl (want_as rfl rfl rfl rfl) rfl rfl ?_
    refine Jp.qskip 15 rfl (want_as rfl rfl rfl rfl) rfl rfl ?_
    refine Jp.qskip 16 rfl (want_as rfl rfl rfl rfl) rfl rfl ?_
    refine Jp.qskip 17 rfl (want_as rfl rfl rfl rfl) rfl rfl ?_
    refine Jp.qskip 18 rfl (want_as rfl rfl rfl rfl) rfl rfl ?_
    refine Jp.qskip 19 rfl (want_as rfl rfl rfl rfl) rfl rfl ?_
    refine Jp.qskip 20 rfl (want_as rfl rfl rfl rfl) rfl rfl ?_
    refine Jp.qskip 21 rfl (want_as rfl rfl rfl rfl) rfl rfl ?_
    refine Jp.qskip 22 rfl (want_as rfl rfl rfl rfl) rfl rfl ?_
    refine Jp.qskip 23 rfl (want_as rfl rfl rfl rfl) rfl rfl ?_
    refine Jp.q 24 rfl (want_all rfl) rfl rfl (Y.pickT rfl rfl rfl) ?_
    refine Jp.done hK3 ?_
    refine Cd.condT rfl ?_
    refine Cd.seq fun K5 hK5 => ?_
    refine Cd.plain [(0, false), (1, false), (2, false), (3, false)] rfl rfl ?_
    refine Jp.y 25 rfl (want_all rfl) rfl rfl Kp.true (Y.move rfl rfl) ?_
    refine Jp.y 26 rfl (want_all rfl) rfl rfl Kp.true (Y.nilCheck rfl rfl) ?_
    refine Jp.y 27 rfl (want_all rfl) rfl rfl Kp.true (by first | exact Y.fieldAddrP rfl rfl Try.underlying115 rfl Try.sizeOf4 (by decide) (show _ + 2 = _ from rfl) | exact Y.fieldAddr rfl rfl Try.underlying115 rfl Try.sizeOf4 (by decide)) ?_
    refine Jp.store 0 rfl (want_all rfl) rfl rfl Try.sizeOf4 rfl rfl rfl rfl rfl rfl Kp.true ?_
    refine Jp.done hK5 ?_
    refine Cd.seq fun K6 hK6 => ?_
    refine Cd.plain [(0, false)] rfl rfl ?_
    refine Jp.y 4 rfl (want_all rfl) rfl rfl Kp.true (Y.assign rfl rfl) ?_
    refine Jp.done hK6 ?_
    refine Cd.ret [(0, _)] rfl (res1 rfl rfl) ⟨rfl, trivial⟩ ⟨rfl, 0, p, true, e, hp, rfl, rfl⟩
  try simp only [decide_eq_false_iff_not, decide_eq_true_eq, Int.not_lt, Int.not_le, Bool.not_eq_false, Bool.not_eq_true, Bool.not_true, Bool.not_false, Bool.not_eq_true', Bool.not_eq_false', beq_eq_false_iff_ne, ne_eq, beq_iff_eq, bne_iff_ne, bne_eq_false_iff_eq, Classical.not_not] at g11
  refine Jp.q 12 rfl (want_as rfl rfl rfl rfl) rfl rfl (Y.move rfl rfl) ?_
  refine Jp.q 13 rfl (want_as rfl rfl rfl rfl) rfl rfl (Y.nilCheck rfl rfl) ?_
  refine Jp.q 14 rfl (want_as rfl rfl rfl rfl) rfl rfl (by first | exact Y.fieldAddrP rfl rfl Try.underlying115 rfl Try.sizeOf26 (by decide) (show _ + 0 = _ from rfl) | exact Y.fieldAddr rfl rfl Try.underlying115 rfl Try.sizeOf26 (by decide)) ?_
  refine Jp.q 15 rfl (want_as rfl rfl rfl rfl) rfl rfl (Y.loadO 0 rfl Try.isAgg26 rfl rfl rfl) ?_
  have g11 : bad = false := by simpa using g11
  subst g11
  refine Jp.q 16 rfl (want_as rfl rfl rfl rfl) rfl rfl (Y.lenslice rfl Try.underlying26 rfl) ?_
  refine Jp.q 17 rfl (want_as rfl rfl rfl rfl) rfl rfl (Y.move rfl rfl) ?_
  refine Jp.q 18 rfl (want_as rfl rfl rfl rfl) rfl rfl (Y.nilCheck rfl rfl) ?_
  refine Jp.q 19 rfl (want_as rfl rfl rfl rfl) rfl rfl (by first | exact Y.fieldAddrP rfl rfl Try.underlying115 rfl Try.sizeOf3 (by decide) (show _ + 1 = _ from rfl) | exact Y.fieldAddr rfl rfl Try.underlying115 rfl Try.sizeOf3 (by decide)) ?_
  refine Jp.q 20 rfl (want_as rfl rfl rfl rfl) rfl rfl (Y.loadO 0 rfl Try.isAgg3 rfl rfl rfl) ?_
  refine Jp.q 21 rfl (want_as rfl rfl rfl rfl) rfl rfl (Y.sub_ rfl rfl rfl (by first | exact wrap_i64 (by omega) (by omega) | rfl)) ?_
  refine Jp.q 22 rfl (want_as rfl rfl rfl rfl) rfl rfl (Y.move rfl rfl) ?_
  refine Jp.q 23 rfl (want_as rfl rfl rfl rfl) rfl rfl (Y.lss rfl rfl rfl) ?_
  refine Jp.q 24 rfl (want_all rfl) rfl rfl (Y.pickF rfl rfl rfl) ?_
  refine Jp.done hK3 ?_
  refine Cd.cond rfl (fun h1 => ?_) (fun h1 => ?_)
  · have h2 : (xs.drop p).length < 4 := by rw [List.length_drop]; simp only [decide_eq_true_eq] at h1; omega
    have e : numR (xs.drop p, false) = (0, (xs.drop p, true)) := by rw [numR, if_pos (.inr h2)]
    refine Cd.seq fun K7 hK7 => ?_
    refine Cd.plain [(0, false), (1, false), (2, false), (3, false)] rfl rfl ?_
    refine Jp.y 25 rfl (want_all rfl) rfl rfl Kp.true (Y.move rfl rfl) ?_
    refine Jp.y 26 rfl (want_all rfl) rfl rfl Kp.true (Y.nilCheck rfl rfl) ?_
    refine Jp.y 27 rfl (want_all rfl) rfl rfl Kp.true (by first | exact Y.fieldAddrP rfl rfl Try.underlying115 rfl Try.sizeOf4 (by decide) (show _ + 2 = _ from rfl) | exact Y.fieldAddr rfl rfl Try.underlying115 rfl Try.sizeOf4 (by decide)) ?_
    refine Jp.store 0 rfl (want_all rfl) rfl rfl Try.sizeOf4 rfl rfl rfl rfl rfl rfl Kp.true ?_
    refine Jp.done hK7 ?_
    refine Cd.seq fun K8 hK8 => ?_
    refine Cd.plain [(0, false)] rfl rfl ?_
    refine Jp.y 4 rfl (want_all rfl) rfl rfl Kp.true (Y.assign rfl rfl) ?_
    refine Jp.done hK8 ?_
    refine Cd.ret [(0, _)] rfl (res1 rfl rfl) ⟨rfl, trivial⟩ ⟨rfl, 0, p, true, e, hp, rfl, rfl⟩
  · have h2 : ¬ (xs.drop p).length < 4 := by rw [List.length_drop]; simp only [decide_eq_false_iff_not] at h1; omega
    rw [List.length_drop] at h2
    have e : numR (xs.drop p, false) = (leN ((xs.drop p).take 4), (xs.drop (p + 4), false)) := by rw [numR, if_neg (by rw [List.length_drop]; simp; omega), List.drop_drop]
    obtain ⟨ad, rfl⟩ := hr.some (show 0 < xs.length * 1 by omega)
    have hz : ((xs.drop p).take 4).drop (4 - 0) = [] := List.drop_of_length_le (by rw [List.length_take]; omega)
    refine Cd.skip hK2 ?_
    refine Cd.seq fun K9 hK9 => ?_
    refine Cd.plain [(0, false)] rfl rfl ?_
    refine Jp.y 5 rfl (want_all rfl) rfl rfl Kp.true (Y.assign rfl rfl) ?_
    refine Jp.done hK9 ?_
    refine Cd.seq fun K10 hK10 => ?_
    refine Cd.seq fun K11 hK11 => ?_
    refine Cd.plain [(0, false), (1, false), (2, false)] rfl rfl ?_
    refine Jp.y 28 rfl (want_all rfl) rfl rfl Kp.true (Y.move rfl rfl) ?_
    refine Jp.y 29 rfl (want_all rfl) rfl rfl Kp.true (Y.sub_ rfl rfl rfl (by first | exact wrap_i64 (by omega) (by omega) | rfl)) ?_
    refine Jp.y 6 rfl (want_all rfl) rfl rfl Kp.true (Y.assign rfl rfl) ?_
    refine Jp.done hK11 ?_
    refine Cd.block ?_
    refine Cd.slot 5 rfl (show _ = Value.int .u32 (leN (((xs.drop p).take 4).drop (4 - 0)) : Int) by rw [hz]; rfl) ?_
    refine Cd.loopK (G := Nat) (fun k => k ≤ 4) (fun k => 4 - k) (fun _ => _) (fun k => [(5, .int .u32 (leN (((xs.drop p).take 4).drop (4 - k)) : Int)), (6, .int .i64 (3 - (k : Int)))]) [(0, _), (1, _)] (fun _ => []) [(0, _)] 0 (Nat.zero_le _) rfl ⟨rfl, rfl, trivial⟩ ⟨rfl, rfl, trivial⟩ trivial ⟨rfl, trivial⟩ (fun g KLa hok hLa => ?_)
    have hg : g ≤ 4 := hok
    refine Cd.seq fun K12 hK12 => ?_
    refine Cd.seq fun K13 hK13 => ?_
    refine Cd.plain [(0, false), (1, false)] rfl rfl ?_
    refine Jp.y 30 rfl (want_all rfl) rfl rfl Kp.true (Y.move rfl rfl) ?_
    refine Jp.y 31 rfl (want_all rfl) rfl rfl Kp.true (Y.geq rfl rfl rfl) ?_
    refine Jp.done hK13 ?_
    refine Cd.cond rfl (fun ga => ?_) (fun ga => ?_)
    · simp only [decide_eq_true_eq] at ga
      have hg3 : g ≤ 3 := by omega
      have hcell : cellH ρ (ad.add (p + (3 - g))) = some (.int .u8 ((xs[p + (3 - g)]'(by omega)).toNat : Int)) := hr.cell (by simp [bytesV, show p + (3 - g) < xs.length by omega])
      have t0 := (xs[p + (3 - g)]'(by omega)).toNat_lt
      have hll : (((xs.drop p).take 4).drop (4 - g)).length = g := by simp only [List.length_drop, List.length_take]; omega
      have hd : ((xs.drop p).take 4).drop (4 - (g + 1)) = (xs[p + (3 - g)]'(by omega)) :: ((xs.drop p).take 4).drop (4 - g) := by
        rw [List.drop_eq_getElem_cons (by simp only [List.length_drop, List.length_take]; omega)]
        congr 1
        · rw [List.getElem_take, List.getElem_drop]; congr 1; omega
        · congr 1; omega
      refine Cd.skip hK12 ?_
      refine Cd.seq fun K14 hK14 => ?_
      refine Cd.block ?_
      refine Cd.drawn [(0, _)] ⟨rfl, trivial⟩ [(0, true), (1, true), (2, true), (3, true), (4, true), (5, true), (6, true), (7, true), (8, true), (9, true), (10, true), (11, true), (12, true), (13, true), (14, true), (15, true), (16, true)] follows (by kernel_rfl) (fun hrl => ?_)
      refine Jp.q 34 rfl (want_all rfl) rfl rfl (Y.move rfl rfl) ?_
      refine Jp.q 35 rfl (want_all rfl) rfl rfl (Y.shl rfl rfl rfl (by first | decide | omega)) ?_
      refine Jp.q 36 rfl (want_all rfl) rfl rfl (Y.move rfl rfl) ?_
      refine Jp.q 37 rfl (want_all rfl) rfl rfl (Y.nilCheck rfl rfl) ?_
      refine Jp.q 38 rfl (want_all rfl) rfl rfl (by first | exact Y.fieldAddrP rfl rfl Try.underlying115 rfl Try.sizeOf26 (by decide) (show _ + 0 = _ from rfl) | exact Y.fieldAddr rfl rfl Try.underlying115 rfl Try.sizeOf26 (by decide)) ?_
      refine Jp.q 39 rfl (want_all rfl) rfl rfl (by first | exact Y.loadO 0 rfl Try.isAgg26 rfl rfl rfl | exact Y.loadR rfl Try.isAgg26 rfl hcell) ?_
      refine Jp.q 40 rfl (want_all rfl) rfl rfl (Y.move rfl rfl) ?_
      refine Jp.q 41 rfl (want_all rfl) rfl rfl (Y.nilCheck rfl rfl) ?_
      refine Jp.q 42 rfl (want_all rfl) rfl rfl (by first | exact Y.fieldAddrP rfl rfl Try.underlying115 rfl Try.sizeOf3 (by decide) (show _ + 1 = _ from rfl) | exact Y.fieldAddr rfl rfl Try.underlying115 rfl Try.sizeOf3 (by decide)) ?_
      refine Jp.q 43 rfl (want_all rfl) rfl rfl (by first | exact Y.loadO 0 rfl Try.isAgg3 rfl rfl rfl | exact Y.loadR rfl Try.isAgg3 rfl hcell) ?_
      refine Jp.q 44 rfl (want_all rfl) rfl rfl (Y.move rfl rfl) ?_
      refine Jp.q 45 rfl (want_all rfl) rfl rfl (Y.add_ rfl rfl rfl (by first | exact wrap_i64 (by omega) (by omega) | rfl)) ?_
      refine Jp.q 46 rfl (want_all rfl) rfl rfl (Y.indexAddr (q := p + (3 - g)) rfl rfl rfl Try.underlying26 Try.sizeOf5 (by omega) (by omega) (by omega)) ?_
      refine Jp.q 47 rfl (want_all rfl) rfl rfl (by first | exact Y.loadO 0 rfl Try.isAgg5 rfl rfl rfl | exact Y.loadR rfl Try.isAgg5 rfl hcell) ?_
      refine Jp.q 48 rfl (want_all rfl) rfl rfl (Y.conv_ rfl rfl Try.underlying5 Try.underlying49 (by first | exact wrap_u32 (by omega) (by omega) | rfl)) ?_
      refine Jp.q 49 rfl (want_all rfl) rfl rfl (Y.bits rfl rfl rfl rfl) ?_
      refine Jp.q 5 rfl (want_all rfl) rfl rfl (Y.assign rfl rfl) ?_
      refine Jp.over rfl hK14 ?_
      refine Cd.plain [(0, false), (1, false), (2, false)] rfl rfl ?_
      refine Jp.slot 5 rfl (congrArg (Value.int .u32) (be_or (by omega))) ?_
      rw [← hd]
      refine Jp.y 32 rfl (want_all rfl) rfl rfl Kp.true (Y.move rfl rfl) ?_
      refine Jp.y 33 rfl (want_all rfl) rfl rfl Kp.true (Y.sub_ rfl rfl rfl (by first | exact wrap_i64 (by omega) (by omega) | rfl)) ?_
      refine Jp.y 6 rfl (want_all rfl) rfl rfl Kp.true (Y.assign rfl rfl) ?_
      rw [show 3 - (g : Int) - 1 = 3 - ((g + 1 : Nat) : Int) by omega]
      refine Jp.again hLa (g + 1) (show g + 1 ≤ 4 by omega) (show 4 - (g + 1) < 4 - g by omega) rfl ⟨rfl, rfl, rfl, rfl, trivial⟩ ⟨rfl, trivial⟩
    · simp only [decide_eq_false_iff_not] at ga
      obtain rfl : g = 4 := by omega
      refine Cd.exit rfl hK10 ?_
      refine Cd.seq fun K16 hK16 => ?_
      refine Cd.plain [(0, false), (1, false), (2, false), (3, false), (4, false), (5, false), (6, false), (7, false), (8, false), (9, false)] rfl rfl ?_
      refine Jp.y 50 rfl (want_all rfl) rfl rfl Kp.true (Y.move rfl rfl) ?_
      refine Jp.y 51 rfl (want_all rfl) rfl rfl Kp.true (Y.move rfl rfl) ?_
      refine Jp.y 52 rfl (want_all rfl) rfl rfl Kp.true (Y.nilCheck rfl rfl) ?_
      refine Jp.y 53 rfl (want_all rfl) rfl rfl Kp.true (by first | exact Y.fieldAddrP rfl rfl Try.underlying115 rfl Try.sizeOf3 (by decide) (show _ + 1 = _ from rfl) | exact Y.fieldAddr rfl rfl Try.underlying115 rfl Try.sizeOf3 (by decide)) ?_
      refine Jp.y 54 rfl (want_all rfl) rfl rfl Kp.true (by first | exact Y.loadO 0 rfl Try.isAgg3 rfl rfl rfl | exact Y.loadR rfl Try.isAgg3 rfl hcell) ?_
      refine Jp.y 55 rfl (want_all rfl) rfl rfl Kp.true (Y.move rfl rfl) ?_
      refine Jp.y 56 rfl (want_all rfl) rfl rfl Kp.true (Y.add_ rfl rfl rfl (by first | exact wrap_i64 (by omega) (by omega) | rfl)) ?_
      refine Jp.y 57 rfl (want_all rfl) rfl rfl Kp.true (Y.nilCheck rfl rfl) ?_
      refine Jp.y 58 rfl (want_all rfl) rfl rfl Kp.true (by first | exact Y.fieldAddrP rfl rfl Try.underlying115 rfl Try.sizeOf3 (by decide) (show _ + 1 = _ from rfl) | exact Y.fieldAddr rfl rfl Try.underlying115 rfl Try.sizeOf3 (by decide)) ?_
      refine Jp.store 0 rfl (want_all rfl) rfl rfl Try.sizeOf3 rfl rfl rfl rfl rfl rfl Kp.true ?_
      refine Jp.done hK16 ?_
      refine Cd.seq fun K17 hK17 => ?_
      refine Cd.plain [(0, false), (1, false)] rfl rfl ?_
      refine Jp.y 59 rfl (want_all rfl) rfl rfl Kp.true (Y.move rfl rfl) ?_
      refine Jp.y 4 rfl (want_all rfl) rfl rfl Kp.true (Y.assign rfl rfl) ?_
      refine Jp.done hK17 ?_
      refine Cd.ret [(0, _)] rfl (res1 rfl rfl) ⟨rfl, trivial⟩ ⟨rfl, leN ((xs.drop p).take 4), p + 4, false, e, (by show p + 4 ≤ xs.length; omega), rfl, by rfl⟩
theorem rbytesR_spec (b : Nat) (s : Sl UInt8) (p : Nat) (bad : Bool) (n : Nat) (hp : p ≤ s.xs.length) (hs : s.xs.length ≤ 1000000) (hn : n < 4294967296) : Spec Try.prog 65 #[.pointer (some ⟨b, 0, none⟩), .int .u32 n] (RdB s) [(0, RdrR b s p bad)]
    (fun ρ ρ' v L => ρ' = ρ ∧ ∃ t p' bad' A c, bytesR n (s.xs.drop p, bad) = (t, (s.xs.drop p', bad')) ∧ p' ≤ s.xs.length ∧ t.length ≤ s.xs.length ∧ v = .slice A t.length c ∧ L = [(0, RdrR b s p' bad'), (1, OwnS 5 1 A t.length c (bytesV t))]) := by
  obtain ⟨A, c, xs⟩ := s
  have hp : p ≤ xs.length := hp
  have hs : xs.length ≤ 1000000 := hs
  dsimp only [RdrR, Sl.v]
  refine Spec.of 57 Try.func65 rfl Try.ntmps65 [(0, _), (1, _)] rfl rfl ?_
  intro cx ρ hr h0
  refine Cd.seq fun K18 hK18 => ?_
  refine Cd.plain [(0, false)] rfl rfl ?_
  refine Jp.y 4 rfl (want_all rfl) rfl rfl Kp.true (Y.assign rfl rfl) ?_
  refine Jp.done hK18 ?_
  refine Cd.seq fun K19 hK19 => ?_
  refine Cd.seq fun K20 hK20 => ?_
  refine Cd.drawn [(0, _)] ⟨rfl, trivial⟩ [(0, true), (1, true), (2, true), (3, true), (4, true), (5, true), (6, true), (7, true), (8, true), (9, true), (10, true), (11, true), (12, true), (13, true), (14, true), (15, true), (16, true), (17, true), (18, true)] follows (by kernel_rfl) (fun hrl => ?_)
  refine Jp.q 6 rfl (want_all rfl) rfl rfl (Y.move rfl rfl) ?_
  refine Jp.q 7 rfl (want_all rfl) rfl rfl (Y.nilCheck rfl rfl) ?_
  refine Jp.q 8 rfl (want_all rfl) rfl rfl (by first | exact Y.fieldAddrP rfl rfl Try.underlying115 rfl Try.sizeOf4 (by decide) (show _ + 2 = _ from rfl) | exact Y.fieldAddr rfl rfl Try.underlying115 rfl Try.sizeOf4 (by decide)) ?_
  refine Jp.q 9 rfl (want_all rfl) rfl rfl (Y.loadO 0 rfl Try.isAgg4 rfl rfl rfl) ?_
  refine Jp.q 10 rfl (want_all rfl) rfl rfl (Y.move rfl rfl) ?_
  refine Jp.split 10 rfl (fun g10 => ?_) (fun g10 => ?_)
  · skip
    have e : bytesR n (xs.drop p, bad) = ([], (xs.drop p, true)) := by rw [bytesR, if_pos (.inl g10)]
    refine Jp.qskip 11 rfl (want_as rfl rfl rfl rfl) rfl rfl ?_
    refine Jp.qskip 12 rfl (want_as rfl rfl rfl rfl) rfl rfl ?_
    refine Jp.qskip 13 rfl (want_as rfl rfl rfl rfl) rfl rfl ?_
    refine Jp.qskip 14 rfl (want_as rfl rfl rfl rfl) rfl rfl ?_
    refine Jp.qskip 15 rfl (want_as rfl rfl rfl rfl) rfl rfl ?_
    refine Jp.qskip 16 rfl (want_as rfl rfl rfl rfl) rfl rfl ?_
    refine Jp.qskip 17 rfl (want_as rfl rfl rfl rfl) rfl rfl ?_
    refine Jp.qskip 18 rfl (want_as rfl rfl rfl rfl) rfl rfl ?_
    refine Jp.qskip 19 rfl (want_as rfl rfl rfl rfl) rfl rfl ?_
    refine Jp.qskip 20 rfl (want_as rfl rfl rfl rfl) rfl rfl ?_
    refine Jp.qskip 21 rfl (want_as rfl rfl rfl rfl) rfl rfl ?_
    refine Jp.qskip 22 rfl (want_as rfl rfl rfl rfl) rfl rfl ?_
    refine Jp.qskip 23 rfl (want_as rfl rfl rfl rfl) rfl rfl ?_
    refine Jp.q 24 rfl (want_all rfl) rfl rfl (Y.pickT rfl rfl rfl) ?_
    refine Jp.done hK20 ?_
    refine Cd.condT rfl ?_
    refine Cd.seq fun K22 hK22 => ?_
    refine Cd.plain [(0, false), (1, false), (2, false), (3, false)] rfl rfl ?_
    refine Jp.y 25 rfl (want_all rfl) rfl rfl Kp.true (Y.move rfl rfl) ?_
    refine Jp.y 26 rfl (want_all rfl) rfl rfl Kp.true (Y.nilCheck rfl rfl) ?_
    refine Jp.y 27 rfl (want_all rfl) rfl rfl Kp.true (by first | exact Y.fieldAddrP rfl rfl Try.underlying115 rfl Try.sizeOf4 (by decide) (show _ + 2 = _ from rfl) | exact Y.fieldAddr rfl rfl Try.underlying115 rfl Try.sizeOf4 (by decide)) ?_
    refine Jp.store 0 rfl (want_all rfl) rfl rfl Try.sizeOf4 rfl rfl rfl rfl rfl rfl Kp.true ?_
    refine Jp.done hK22 ?_
    refine Cd.seq fun K23 hK23 => ?_
    refine Cd.plain [(0, false)] rfl rfl ?_
    refine Jp.y 4 rfl (want_all rfl) rfl rfl Kp.true (Y.assign rfl rfl) ?_
    refine Jp.done hK23 ?_
    refine Cd.make 1 (A := OwnS 5 1 none 0 0 (bytesV [])) (OwnS.nil _ _ _) ?_
    refine Cd.ret [(0, _), (1, _)] rfl (res1 rfl rfl) ⟨rfl, rfl, trivial⟩ ⟨rfl, [], p, true, none, 0, e, hp, Nat.zero_le _, rfl, rfl⟩
  try simp only [decide_eq_false_iff_not, decide_eq_true_eq, Int.not_lt, Int.not_le, Bool.not_eq_false, Bool.not_eq_true, Bool.not_true, Bool.not_false, Bool.not_eq_true', Bool.not_eq_false', beq_eq_false_iff_ne, ne_eq, beq_iff_eq, bne_iff_ne, bne_eq_false_iff_eq, Classical.not_not] at g10
  refine Jp.q 11 rfl (want_as rfl rfl rfl rfl) rfl rfl (Y.move rfl rfl) ?_
  refine Jp.q 12 rfl (want_as rfl rfl rfl rfl) rfl rfl (Y.nilCheck rfl rfl) ?_
  refine Jp.q 13 rfl (want_as rfl rfl rfl rfl) rfl rfl (by first | exact Y.fieldAddrP rfl rfl Try.underlying115 rfl Try.sizeOf26 (by decide) (show _ + 0 = _ from rfl) | exact Y.fieldAddr rfl rfl Try.underlying115 rfl Try.sizeOf26 (by decide)) ?_
  refine Jp.q 14 rfl (want_as rfl rfl rfl rfl) rfl rfl (Y.loadO 0 rfl Try.isAgg26 rfl rfl rfl) ?_
  have g10 : bad = false := by simpa using g10
  subst g10
  refine Jp.q 15 rfl (want_as rfl rfl rfl rfl) rfl rfl (Y.lenslice rfl Try.underlying26 rfl) ?_
  refine Jp.q 16 rfl (want_as rfl rfl rfl rfl) rfl rfl (Y.move rfl rfl) ?_
  refine Jp.q 17 rfl (want_as rfl rfl rfl rfl) rfl rfl (Y.nilCheck rfl rfl) ?_
  refine Jp.q 18 rfl (want_as rfl rfl rfl rfl) rfl rfl (by first | exact Y.fieldAddrP rfl rfl Try.underlying115 rfl Try.sizeOf3 (by decide) (show _ + 1 = _ from rfl) | exact Y.fieldAddr rfl rfl Try.underlying115 rfl Try.sizeOf3 (by decide)) ?_
  refine Jp.q 19 rfl (want_as rfl rfl rfl rfl) rfl rfl (Y.loadO 0 rfl Try.isAgg3 rfl rfl rfl) ?_
  refine Jp.q 20 rfl (want_as rfl rfl rfl rfl) rfl rfl (Y.sub_ rfl rfl rfl (by first | exact wrap_i64 (by omega) (by omega) | rfl)) ?_
  refine Jp.q 21 rfl (want_as rfl rfl rfl rfl) rfl rfl (Y.move rfl rfl) ?_
  refine Jp.q 22 rfl (want_as rfl rfl rfl rfl) rfl rfl (Y.conv_ rfl rfl Try.underlying49 Try.underlying2 (by first | exact wrap_i64 (by omega) (by omega) | rfl)) ?_
  refine Jp.q 23 rfl (want_as rfl rfl rfl rfl) rfl rfl (Y.lss rfl rfl rfl) ?_
  refine Jp.q 24 rfl (want_all rfl) rfl rfl (Y.pickF rfl rfl rfl) ?_
  refine Jp.done hK20 ?_
  refine Cd.cond rfl (fun h1 => ?_) (fun h1 => ?_)
  · have h2 : (xs.drop p).length < n := by rw [List.length_drop]; simp only [decide_eq_true_eq] at h1; omega
    have e : bytesR n (xs.drop p, false) = ([], (xs.drop p, true)) := by rw [bytesR, if_pos (.inr h2)]
    refine Cd.seq fun K24 hK24 => ?_
    refine Cd.plain [(0, false), (1, false), (2, false), (3, false)] rfl rfl ?_
    refine Jp.y 25 rfl (want_all rfl) rfl rfl Kp.true (Y.move rfl rfl) ?_
    refine Jp.y 26 rfl (want_all rfl) rfl rfl Kp.true (Y.nilCheck rfl rfl) ?_
    refine Jp.y 27 rfl (want_all rfl) rfl rfl Kp.true (by first | exact Y.fieldAddrP rfl rfl Try.underlying115 rfl Try.sizeOf4 (by decide) (show _ + 2 = _ from rfl) | exact Y.fieldAddr rfl rfl Try.underlying115 rfl Try.sizeOf4 (by decide)) ?_
    refine Jp.store 0 rfl (want_all rfl) rfl rfl Try.sizeOf4 rfl rfl rfl rfl rfl rfl Kp.true ?_
    refine Jp.done hK24 ?_
    refine Cd.seq fun K25 hK25 => ?_
    refine Cd.plain [(0, false)] rfl rfl ?_
    refine Jp.y 4 rfl (want_all rfl) rfl rfl Kp.true (Y.assign rfl rfl) ?_
    refine Jp.done hK25 ?_
    refine Cd.make 1 (A := OwnS 5 1 none 0 0 (bytesV [])) (OwnS.nil _ _ _) ?_
    refine Cd.ret [(0, _), (1, _)] rfl (res1 rfl rfl) ⟨rfl, rfl, trivial⟩ ⟨rfl, [], p, true, none, 0, e, hp, Nat.zero_le _, rfl, rfl⟩
  · have h2 : ¬ (xs.drop p).length < n := by rw [List.length_drop]; simp only [decide_eq_false_iff_not] at h1; omega
    rw [List.length_drop] at h2
    have e : bytesR n (xs.drop p, false) = ((xs.drop p).take n, (xs.drop (p + n), false)) := by rw [bytesR, if_neg (by rw [List.length_drop]; simp; omega), List.drop_drop]
    have lc : xs.length ≤ c := hr.2.1.1
    have hd := RdB.dropS (k := p) hr hp
    have ht := RdB.takeS (k := n) hd (by rw [List.length_drop]; omega)
    have hlen : ((xs.drop p).take n).length = n := by rw [List.length_take, List.length_drop]; omega
    obtain ⟨pn, hpn⟩ : ∃ pn, pn = p + n := ⟨_, rfl⟩
    refine Cd.skip hK19 ?_
    refine Cd.seq fun K26 hK26 => ?_
    refine Cd.drawn [(0, _)] ⟨rfl, trivial⟩ [(1, true), (2, true), (3, true), (4, true), (5, true), (6, true), (7, true), (8, true), (9, true), (10, true), (11, true), (12, true), (13, true), (14, true), (15, true), (16, true), (0, false), (17, false), (18, true)] follows (by kernel_rfl) (fun hrl => ?_)
    refine Jp.q 29 rfl (want_all rfl) rfl rfl (Y.move rfl rfl) ?_
    refine Jp.q 30 rfl (want_all rfl) rfl rfl (Y.nilCheck rfl rfl) ?_
    refine Jp.q 31 rfl (want_all rfl) rfl rfl (by first | exact Y.fieldAddrP rfl rfl Try.underlying115 rfl Try.sizeOf26 (by decide) (show _ + 0 = _ from rfl) | exact Y.fieldAddr rfl rfl Try.underlying115 rfl Try.sizeOf26 (by decide)) ?_
    refine Jp.q 32 rfl (want_all rfl) rfl rfl (Y.loadO 0 rfl Try.isAgg26 rfl rfl rfl) ?_
    refine Jp.q 33 rfl (want_all rfl) rfl rfl (Y.move rfl rfl) ?_
    refine Jp.q 34 rfl (want_all rfl) rfl rfl (Y.nilCheck rfl rfl) ?_
    refine Jp.q 35 rfl (want_all rfl) rfl rfl (by first | exact Y.fieldAddrP rfl rfl Try.underlying115 rfl Try.sizeOf3 (by decide) (show _ + 1 = _ from rfl) | exact Y.fieldAddr rfl rfl Try.underlying115 rfl Try.sizeOf3 (by decide)) ?_
    refine Jp.q 36 rfl (want_all rfl) rfl rfl (Y.loadO 0 rfl Try.isAgg3 rfl rfl rfl) ?_
    refine Jp.q 37 rfl (want_all rfl) rfl rfl (Y.move rfl rfl) ?_
    refine Jp.q 38 rfl (want_all rfl) rfl rfl (Y.nilCheck rfl rfl) ?_
    refine Jp.q 39 rfl (want_all rfl) rfl rfl (by first | exact Y.fieldAddrP rfl rfl Try.underlying115 rfl Try.sizeOf3 (by decide) (show _ + 1 = _ from rfl) | exact Y.fieldAddr rfl rfl Try.underlying115 rfl Try.sizeOf3 (by decide)) ?_
    refine Jp.q 40 rfl (want_all rfl) rfl rfl (Y.loadO 0 rfl Try.isAgg3 rfl rfl rfl) ?_
    refine Jp.q 41 rfl (want_all rfl) rfl rfl (Y.move rfl rfl) ?_
    refine Jp.q 42 rfl (want_all rfl) rfl rfl (Y.conv_ rfl rfl Try.underlying49 Try.underlying3 (by first | exact wrap_i64 (by omega) (by omega) | rfl)) ?_
    refine Jp.q 43 rfl (want_all rfl) rfl rfl (Y.add_ rfl rfl rfl (by first | exact wrap_i64 (by omega) (by omega) | rfl)) ?_
    refine Jp.q 44 rfl (want_all rfl) rfl rfl (Y.sliceBoth (lo := p) (hi := pn) rfl rfl rfl rfl Try.underlying26 Try.sizeOf5 (by omega) (by omega) (by omega) (by omega)) ?_
    refine Jp.lit 28 1 [] [] rfl (want_all rfl) rfl rfl rfl rfl Try.underlying26 Try.sizeOf5 Try.zeroValue5 rfl rfl rfl rfl rfl fun b1 => ⟨(Kp.st ⟨rfl, trivial⟩), ?_⟩
    have hsrc : RdS 1 (cutA A c p 1) (pn - p) (c - p) (bytesV ((xs.drop p).take n)) ρ := by
      rw [hpn, Nat.add_sub_cancel_left]
      have h5 : RdS 1 (cutA A c p 1) ((xs.drop p).take n).length (c - p) (bytesV ((xs.drop p).take n)) ρ := ht
      rw [hlen] at h5; exact h5
    refine Jp.append 45 1 rfl (want_all rfl) rfl rfl rfl Try.underlying26 Try.underlying26 (.inl ⟨_, rfl⟩) Try.sizeOf5 Try.typeInfo5 Try.zeroValue5 rfl (by decide) rfl rfl rfl (Src.rd hsrc) (bytesV_one _) (((xs.drop p).take n).length) (bytesV ((xs.drop p).take n)) (by first | omega | simp) (List.nil_append _) (by simp only [Try.t5]; omega) fun A3 c3 => ⟨(Kp.st ⟨rfl, trivial⟩), ?_⟩
    refine Jp.q 5 rfl (want_all rfl) rfl rfl (Y.assign rfl rfl) ?_
    refine Jp.done hK26 ?_
    refine Cd.seq fun K28 hK28 => ?_
    refine Cd.plain [(0, false), (1, false), (2, false), (3, false), (4, false), (5, false), (6, false), (7, false), (8, false), (9, false), (10, false)] rfl rfl ?_
    refine Jp.y 46 rfl (want_all rfl) rfl rfl Kp.true (Y.move rfl rfl) ?_
    refine Jp.y 47 rfl (want_all rfl) rfl rfl Kp.true (Y.move rfl rfl) ?_
    refine Jp.y 48 rfl (want_all rfl) rfl rfl Kp.true (Y.nilCheck rfl rfl) ?_
    refine Jp.y 49 rfl (want_all rfl) rfl rfl Kp.true (by first | exact Y.fieldAddrP rfl rfl Try.underlying115 rfl Try.sizeOf3 (by decide) (show _ + 1 = _ from rfl) | exact Y.fieldAddr rfl rfl Try.underlying115 rfl Try.sizeOf3 (by decide)) ?_
    refine Jp.y 50 rfl (want_all rfl) rfl rfl Kp.true (by first | exact Y.loadO 0 rfl Try.isAgg3 rfl rfl rfl | exact Y.loadO 1 rfl Try.isAgg3 rfl rfl rfl) ?_
    refine Jp.y 51 rfl (want_all rfl) rfl rfl Kp.true (Y.move rfl rfl) ?_
    refine Jp.y 52 rfl (want_all rfl) rfl rfl Kp.true (Y.conv_ rfl rfl Try.underlying49 Try.underlying3 (by first | exact wrap_i64 (by omega) (by omega) | rfl)) ?_
    refine Jp.y 53 rfl (want_all rfl) rfl rfl Kp.true (Y.add_ rfl rfl rfl (by first | exact wrap_i64 (by omega) (by omega) | rfl)) ?_
    refine Jp.y 54 rfl (want_all rfl) rfl rfl Kp.true (Y.nilCheck rfl rfl) ?_
    refine Jp.y 55 rfl (want_all rfl) rfl rfl Kp.true (by first | exact Y.fieldAddrP rfl rfl Try.underlying115 rfl Try.sizeOf3 (by decide) (show _ + 1 = _ from rfl) | exact Y.fieldAddr rfl rfl Try.underlying115 rfl Try.sizeOf3 (by decide)) ?_
    first | refine Jp.store 0 rfl (want_all rfl) rfl rfl Try.sizeOf3 rfl rfl rfl rfl rfl rfl Kp.true ?_ | refine Jp.store 1 rfl (want_all rfl) rfl rfl Try.sizeOf3 rfl rfl rfl rfl rfl rfl Kp.true ?_
    refine Jp.done hK28 ?_
    refine Cd.seq fun K29 hK29 => ?_
    refine Cd.plain [(0, false), (1, false)] rfl rfl ?_
    refine Jp.y 56 rfl (want_all rfl) rfl rfl Kp.true (Y.move rfl rfl) ?_
    refine Jp.y 4 rfl (want_all rfl) rfl rfl Kp.true (Y.assign rfl rfl) ?_
    refine Jp.done hK29 ?_
    rw [show (p : Int) + (n : Int) = ((p + n : Nat) : Int) by omega]
    refine Cd.ret [(0, _), (1, _)] rfl (res1 rfl rfl) ⟨rfl, rfl, trivial⟩ ⟨rfl, (xs.drop p).take n, p + n, false, A3, c3, e, (by show p + n ≤ xs.length; omega), (by show ((xs.drop p).take n).length ≤ xs.length; omega), rfl, rfl⟩
end Go.Proofs.Ytjjhihlmoecmlaa
