/- Contracts: the reference's Bytes and Begin. -/
import Derived.Test.YtjjhihlmoecmlaaFeedN
import Derived.Test.YtjjhihlmoecmlaaFeedL
set_option linter.unusedVariables false
set_option linter.unusedSimpArgs false
set_option maxRecDepth 100000
namespace Go.Proofs.Ytjjhihlmoecmlaa
open Go
theorem pad_snoc (r : Bytes) (i : Nat) : pad r (i + 1) = pad r i ++ [r.getD i 0] := by
  by_cases h : i < r.length
  · rw [pad_short (by omega), pad_short (by omega), List.take_add_one, List.getD_eq_getElem?_getD]
    simp [h]
  · have e : i + 1 - r.length = (i - r.length) + 1 := by omega
    rw [pad, pad, List.take_of_length_le (by omega), List.take_of_length_le (by omega), e, List.replicate_succ', List.append_assoc, List.getD_eq_getElem?_getD]
    simp [Nat.not_lt.1 h]
theorem bytesP_pad (s : List Int) (xs : Bytes) (c : List Int) (k kb kc m : Nat) (hm : m ≤ 4096) (hk : kb ≤ xs.length) : bytesP ⟨s, xs, c, k, kb, kc⟩ m = (pad (xs.drop kb) m, ⟨s, xs, c, k, kb + min m (xs.length - kb), kc⟩) := by
  rw [bytesP, if_neg (by omega)]
  dsimp only
  rw [Int.toNat_natCast]
  congr 1
  · rw [pad]
    congr 1
    · rw [List.take_eq_take_iff, List.length_drop]; omega
    · rw [List.length_drop]; congr 1; omega
  · congr 1; omega
theorem bytesV_snoc (r : Bytes) (i : Nat) : bytesV (pad r i) ++ [.int .u8 ((r.getD i 0).toNat : Int)] = bytesV (pad r (i + 1)) := by
  rw [pad_snoc, bytesV, bytesV, List.map_append]; rfl
theorem bytesV_snoc0 {r : Bytes} {i : Nat} (h : r.length ≤ i) : bytesV (pad r i) ++ [.int .u8 0] = bytesV (pad r (i + 1)) := by
  rw [← bytesV_snoc]
  have : r.getD i 0 = 0 := by rw [List.getD_eq_getElem?_getD, List.getElem?_eq_none_iff.2 h]; rfl
  rw [this]; rfl
theorem f25_spec (b : Nat) (u : RefG) (n : Int) : Spec Try.prog 25 #[.pointer (some ⟨b, 0, none⟩), .int .i64 n] (RdRef u) [(0, RefPt b u)]
    (fun ρ ρ' v L => ρ' = ρ ∧ ∃ A A' c, v = .slice A' (bytesP u.p n).1.length c ∧ L = [(0, A), (1, OwnS 5 1 A' (bytesP u.p n).1.length c (bytesV (bytesP u.p n).1))] ∧ RefEnd b (bytesP u.p n).2 ρ A) := by
  obtain ⟨⟨args, input, short, ⟨A, c, xs⟩, clock, files⟩, k, kb, kc⟩ := u
  dsimp only [RefPt, RefG.cells, Sl.v]
  refine Spec.of 54 Try.func25 rfl Try.ntmps25 [(0, _), (1, _)] rfl rfl ?_
  intro cx ρ hr h0
  have hn2 : xs.length ≤ 4096 := hr.n2
  have hk2 : kb ≤ xs.length := hr.l2
  refine Cd.seq fun K1 hK1 => ?_
  refine Cd.plain [(0, false)] rfl rfl ?_
  refine Jp.y 4 rfl (want_all rfl) rfl rfl Kp.true (Y.assign rfl rfl) ?_
  refine Jp.done hK1 ?_
  refine Cd.seq fun K2 hK2 => ?_
  refine Cd.seq fun K3 hK3 => ?_
  refine Cd.plain [(0, false), (1, false), (2, false), (3, false), (4, false), (5, false)] rfl rfl ?_
  refine Jp.y 7 rfl (want_all rfl) rfl rfl Kp.true (Y.move rfl rfl) ?_
  refine Jp.y 8 rfl (want_all rfl) rfl rfl Kp.true (Y.lss rfl rfl rfl) ?_
  refine Jp.y 9 rfl (want_all rfl) rfl rfl Kp.true (Y.move rfl rfl) ?_
  refine Jp.split 9 rfl (fun g9 => ?_) (fun g9 => ?_)
  · skip
    have e : bytesP (RefG.p ⟨⟨args, input, short, ⟨A, c, xs⟩, clock, files⟩, k, kb, kc⟩) n = ([], RefG.p ⟨⟨args, input, short, ⟨A, c, xs⟩, clock, files⟩, k, kb, kc⟩) := by
      simp only [decide_eq_true_eq] at g9
      rw [bytesP, if_pos (by omega)]
    refine Jp.skip 10 rfl (want_as rfl rfl rfl rfl) rfl rfl Kp.true ?_
    refine Jp.skip 11 rfl (want_as rfl rfl rfl rfl) rfl rfl Kp.true ?_
    refine Jp.y 12 rfl (want_all rfl) rfl rfl Kp.true (Y.pickT rfl rfl rfl) ?_
    refine Jp.done hK3 ?_
    refine Cd.condT rfl ?_
    refine Cd.seq fun K4 hK4 => ?_
    refine Cd.plain [(0, false)] rfl rfl ?_
    refine Jp.y 4 rfl (want_all rfl) rfl rfl Kp.true (Y.assign rfl rfl) ?_
    refine Jp.done hK4 ?_
    refine Cd.make 1 (OwnS.nil 5 1 Hp.emp) ?_
    refine Cd.ret [(0, _), (1, _)] rfl (res1 rfl rfl) ⟨rfl, rfl, trivial⟩ ⟨rfl, by rw [e]; exact ⟨_, none, 0, rfl, rfl, ⟨⟨args, input, short, ⟨A, c, xs⟩, clock, files⟩, k, kb, kc⟩, rfl, hr, rfl⟩⟩
  try simp only [decide_eq_false_iff_not, decide_eq_true_eq, Int.not_lt, Int.not_le, Bool.not_eq_false, Bool.not_eq_true, Bool.not_true, Bool.not_false, Bool.not_eq_true', Bool.not_eq_false', beq_eq_false_iff_ne, ne_eq, beq_iff_eq, bne_iff_ne, bne_eq_false_iff_eq, Classical.not_not] at g9
  refine Jp.y 10 rfl (want_as rfl rfl rfl rfl) rfl rfl Kp.true (Y.move rfl rfl) ?_
  refine Jp.y 11 rfl (want_as rfl rfl rfl rfl) rfl rfl Kp.true (Y.gtr rfl rfl rfl) ?_
  refine Jp.y 12 rfl (want_all rfl) rfl rfl Kp.true (Y.pickF rfl rfl rfl) ?_
  refine Jp.done hK3 ?_
  refine Cd.cond rfl (fun g12 => ?_) (fun g12 => ?_)
  · skip
    have e : bytesP (RefG.p ⟨⟨args, input, short, ⟨A, c, xs⟩, clock, files⟩, k, kb, kc⟩) n = ([], RefG.p ⟨⟨args, input, short, ⟨A, c, xs⟩, clock, files⟩, k, kb, kc⟩) := by
      simp only [decide_eq_true_eq] at g12
      rw [bytesP, if_pos (by omega)]
    refine Cd.seq fun K5 hK5 => ?_
    refine Cd.plain [(0, false)] rfl rfl ?_
    refine Jp.y 4 rfl (want_all rfl) rfl rfl Kp.true (Y.assign rfl rfl) ?_
    refine Jp.done hK5 ?_
    refine Cd.make 1 (OwnS.nil 5 1 Hp.emp) ?_
    refine Cd.ret [(0, _), (1, _)] rfl (res1 rfl rfl) ⟨rfl, rfl, trivial⟩ ⟨rfl, by rw [e]; exact ⟨_, none, 0, rfl, rfl, ⟨⟨args, input, short, ⟨A, c, xs⟩, clock, files⟩, k, kb, kc⟩, rfl, hr, rfl⟩⟩
  try simp only [decide_eq_false_iff_not, decide_eq_true_eq, Int.not_lt, Int.not_le, Bool.not_eq_false, Bool.not_eq_true, Bool.not_true, Bool.not_false, Bool.not_eq_true', Bool.not_eq_false', beq_eq_false_iff_ne, ne_eq, beq_iff_eq, bne_iff_ne, bne_eq_false_iff_eq, Classical.not_not] at g12
  refine Cd.skip hK2 ?_
  refine Cd.seq fun K6 hK6 => ?_
  refine Cd.plain [(0, false)] rfl rfl ?_
  refine Jp.y 5 rfl (want_all rfl) rfl rfl Kp.true (Y.assign rfl rfl) ?_
  refine Jp.done hK6 ?_
  refine Cd.seq fun K7 hK7 => ?_
  refine Cd.seq fun K8 hK8 => ?_
  refine Cd.plain [(0, false)] rfl rfl ?_
  refine Jp.y 6 rfl (want_all rfl) rfl rfl Kp.true (Y.assign rfl rfl) ?_
  refine Jp.done hK8 ?_
  refine Cd.block ?_
  have hn0 : 0 ≤ n := by omega
  obtain ⟨m, rfl⟩ := Int.eq_ofNat_of_zero_le hn0
  have hm : m ≤ 4096 := by omega
  have hR : RdS 1 A xs.length c (bytesV xs) ρ := hr.random
  refine Cd.make 1 (show OwnS 5 1 none 0 0 (bytesV (pad (xs.drop kb) 0)) Hp.emp by rw [pad_short (Nat.zero_le _)]; exact OwnS.nil 5 1 Hp.emp) ?_
  refine Cd.loop (G := Nat × Nat × Option Addr × Nat) (fun g => g.1 ≤ m ∧ g.2.1 = min g.1 (xs.length - kb)) (fun g => m - g.1) (fun _ => ρ) (fun g => [(0, .pointer (some ⟨b, 0, none⟩)), (1, .int .i64 m), (5, .slice g.2.2.1 g.1 g.2.2.2), (6, .int .i64 g.1)]) (fun g => [(0, RefPt b ⟨⟨args, input, short, ⟨A, c, xs⟩, clock, files⟩, k, kb + g.2.1, kc⟩), (1, OwnS 5 1 g.2.2.1 g.1 g.2.2.2 (bytesV (pad (xs.drop kb) g.1)))]) (0, 0, none, 0) ⟨Nat.zero_le _, by simp⟩ rfl ⟨rfl, rfl, rfl, rfl, trivial⟩ ⟨rfl, rfl, trivial⟩ (fun g KLa hok hLa => ?_)
  obtain ⟨i, j, A', c'⟩ := g
  dsimp only [RefPt, RefG.cells, Sl.v] at hok ⊢
  obtain ⟨ok1, ok2⟩ := hok
  refine Cd.seq fun K9 hK9 => ?_
  refine Cd.seq fun K10 hK10 => ?_
  refine Cd.plain [(0, false), (1, false), (2, false)] rfl rfl ?_
  refine Jp.y 13 rfl (want_all rfl) rfl rfl Kp.true (Y.move rfl rfl) ?_
  refine Jp.y 14 rfl (want_all rfl) rfl rfl Kp.true (Y.move rfl rfl) ?_
  refine Jp.y 15 rfl (want_all rfl) rfl rfl Kp.true (Y.lss rfl rfl rfl) ?_
  refine Jp.done hK10 ?_
  refine Cd.cond rfl (fun ga => ?_) (fun ga => ?_)
  · simp only [decide_eq_true_eq] at ga
    refine Cd.skip hK9 ?_
    refine Cd.seq fun K11 hK11 => ?_
    refine Cd.block ?_
    refine Cd.seq fun K12 hK12 => ?_
    refine Cd.drawn [(0, _)] ⟨rfl, trivial⟩ [(0, true), (1, true), (2, true), (3, true), (4, true), (5, true), (6, true), (7, true), (8, true), (9, true), (10, true)] follows (by kernel_rfl) (fun hrl => ?_)
    refine Jp.q 18 rfl (want_all rfl) rfl rfl (Y.move rfl rfl) ?_
    refine Jp.q 19 rfl (want_all rfl) rfl rfl (Y.nilCheck rfl rfl) ?_
    refine Jp.q 20 rfl (want_all rfl) rfl rfl (by first | exact Y.fieldAddrP rfl rfl Try.underlying53 rfl Try.sizeOf3 (by decide) (show _ + 7 = _ from rfl) | exact Y.fieldAddr rfl rfl Try.underlying53 rfl Try.sizeOf3 (by decide)) ?_
    refine Jp.q 21 rfl (want_all rfl) rfl rfl (Y.loadO 0 rfl Try.isAgg3 rfl rfl rfl) ?_
    refine Jp.q 22 rfl (want_all rfl) rfl rfl (Y.move rfl rfl) ?_
    refine Jp.q 23 rfl (want_all rfl) rfl rfl (Y.nilCheck rfl rfl) ?_
    refine Jp.q 24 rfl (want_all rfl) rfl rfl (by first | exact Y.fieldAddrP rfl rfl Try.underlying53 rfl Try.sizeOf30 (by decide) (show _ + 0 = _ from rfl) | exact Y.fieldAddr rfl rfl Try.underlying53 rfl Try.sizeOf30 (by decide)) ?_
    refine Jp.q 25 rfl (want_all rfl) rfl rfl (by first | exact Y.fieldAddrP rfl rfl Try.underlying30 rfl Try.sizeOf26 (by decide) (show _ + 3 = _ from rfl) | exact Y.fieldAddr rfl rfl Try.underlying30 rfl Try.sizeOf26 (by decide)) ?_
    refine Jp.q 26 rfl (want_all rfl) rfl rfl (Y.loadO 0 rfl Try.isAgg26 rfl rfl rfl) ?_
    refine Jp.q 27 rfl (want_all rfl) rfl rfl (Y.lenslice rfl Try.underlying26 rfl) ?_
    refine Jp.q 28 rfl (want_all rfl) rfl rfl (Y.lss rfl rfl rfl) ?_
    refine Jp.done hK12 ?_
    refine Cd.cond rfl (fun gb => ?_) (fun gb => ?_)
    · simp only [decide_eq_true_eq] at gb
      obtain rfl : j = i := by omega
      obtain ⟨ad, rfl⟩ := hR.some (show 0 < xs.length * 1 by omega)
      have hlt : kb + j < xs.length := by omega
      have hcell : cellH ρ (ad.add (kb + j)) = some (.int .u8 (((xs.drop kb).getD j 0).toNat : Int)) := hR.cell (by simp [bytesV, hlt])
      refine Cd.seq fun K14 hK14 => ?_
      refine Cd.drawn [(0, _)] ⟨rfl, trivial⟩ [(0, true), (1, true), (2, true), (3, true), (4, true), (5, true), (6, true), (7, true), (8, true), (9, true), (10, true), (11, true), (12, false), (13, false), (14, true)] follows (by kernel_rfl) (fun hrl => ?_)
      refine Jp.q 29 rfl (want_all rfl) rfl rfl (Y.move rfl rfl) ?_
      refine Jp.q 30 rfl (want_all rfl) rfl rfl (Y.move rfl rfl) ?_
      refine Jp.q 31 rfl (want_all rfl) rfl rfl (Y.nilCheck rfl rfl) ?_
      refine Jp.q 32 rfl (want_all rfl) rfl rfl (by first | exact Y.fieldAddrP rfl rfl Try.underlying53 rfl Try.sizeOf30 (by decide) (show _ + 0 = _ from rfl) | exact Y.fieldAddr rfl rfl Try.underlying53 rfl Try.sizeOf30 (by decide)) ?_
      refine Jp.q 33 rfl (want_all rfl) rfl rfl (by first | exact Y.fieldAddrP rfl rfl Try.underlying30 rfl Try.sizeOf26 (by decide) (show _ + 3 = _ from rfl) | exact Y.fieldAddr rfl rfl Try.underlying30 rfl Try.sizeOf26 (by decide)) ?_
      refine Jp.q 34 rfl (want_all rfl) rfl rfl (by first | exact Y.loadO 0 rfl Try.isAgg26 rfl rfl rfl | exact Y.loadR rfl Try.isAgg26 rfl hcell) ?_
      refine Jp.q 35 rfl (want_all rfl) rfl rfl (Y.move rfl rfl) ?_
      refine Jp.q 36 rfl (want_all rfl) rfl rfl (Y.nilCheck rfl rfl) ?_
      refine Jp.q 37 rfl (want_all rfl) rfl rfl (by first | exact Y.fieldAddrP rfl rfl Try.underlying53 rfl Try.sizeOf3 (by decide) (show _ + 7 = _ from rfl) | exact Y.fieldAddr rfl rfl Try.underlying53 rfl Try.sizeOf3 (by decide)) ?_
      refine Jp.q 38 rfl (want_all rfl) rfl rfl (by first | exact Y.loadO 0 rfl Try.isAgg3 rfl rfl rfl | exact Y.loadR rfl Try.isAgg3 rfl hcell) ?_
      refine Jp.q 39 rfl (want_all rfl) rfl rfl (Y.indexAddr (q := kb + j) rfl rfl rfl Try.underlying26 Try.sizeOf5 (by omega) (by omega) (by omega)) ?_
      refine Jp.q 40 rfl (want_all rfl) rfl rfl (by first | exact Y.loadO 0 rfl Try.isAgg5 rfl rfl rfl | exact Y.loadR rfl Try.isAgg5 rfl hcell) ?_
      refine Jp.lit 41 2 [(0, _)] [_] rfl (want_all rfl) rfl rfl rfl rfl Try.underlying26 Try.sizeOf5 Try.zeroValue5 rfl rfl rfl rfl rfl fun b2 => ⟨(Kp.st ⟨rfl, trivial⟩), ?_⟩
      refine Jp.append 42 1 rfl (want_all rfl) rfl rfl rfl Try.underlying26 Try.underlying26 (.inl ⟨_, rfl⟩) Try.sizeOf5 Try.typeInfo5 Try.zeroValue5 rfl (by decide) rfl rfl rfl (Src.own 2 rfl) rfl (j + 1) (_) (by first | omega | simp) (by first | rfl | simp) (by simp only [Try.t5]; omega) fun A1 c1 => ⟨(Kp.st ⟨rfl, trivial⟩), ?_⟩
      rw [bytesV_snoc]
      refine Jp.q 5 rfl (want_all rfl) rfl rfl (Y.assign rfl rfl) ?_
      refine Jp.done hK14 ?_
      refine Cd.plain [(0, false), (1, false), (2, false), (3, false), (4, false), (5, false), (6, false), (7, false)] rfl rfl ?_
      refine Jp.y 43 rfl (want_all rfl) rfl rfl Kp.true (Y.move rfl rfl) ?_
      refine Jp.y 44 rfl (want_all rfl) rfl rfl Kp.true (Y.nilCheck rfl rfl) ?_
      refine Jp.y 45 rfl (want_all rfl) rfl rfl Kp.true (by first | exact Y.fieldAddrP rfl rfl Try.underlying53 rfl Try.sizeOf3 (by decide) (show _ + 7 = _ from rfl) | exact Y.fieldAddr rfl rfl Try.underlying53 rfl Try.sizeOf3 (by decide)) ?_
      refine Jp.y 46 rfl (want_all rfl) rfl rfl Kp.true (by first | exact Y.loadO 0 rfl Try.isAgg3 rfl rfl rfl | exact Y.loadO 2 rfl Try.isAgg3 rfl rfl rfl | exact Y.loadR rfl Try.isAgg3 rfl hcell) ?_
      refine Jp.y 47 rfl (want_all rfl) rfl rfl Kp.true (Y.add_ rfl rfl rfl (by first | exact wrap_i64 (by omega) (by omega) | rfl)) ?_
      refine Jp.y 48 rfl (want_all rfl) rfl rfl Kp.true (Y.nilCheck rfl rfl) ?_
      refine Jp.y 49 rfl (want_all rfl) rfl rfl Kp.true (by first | exact Y.fieldAddrP rfl rfl Try.underlying53 rfl Try.sizeOf3 (by decide) (show _ + 7 = _ from rfl) | exact Y.fieldAddr rfl rfl Try.underlying53 rfl Try.sizeOf3 (by decide)) ?_
      first | refine Jp.store 0 rfl (want_all rfl) rfl rfl Try.sizeOf3 rfl rfl rfl rfl rfl rfl Kp.true ?_ | refine Jp.store 2 rfl (want_all rfl) rfl rfl Try.sizeOf3 rfl rfl rfl rfl rfl rfl Kp.true ?_
      refine Jp.over rfl hK11 ?_
      refine Cd.plain [(0, false), (1, false), (2, false)] rfl rfl ?_
      refine Jp.y 16 rfl (want_all rfl) rfl rfl Kp.true (Y.move rfl rfl) ?_
      refine Jp.y 17 rfl (want_all rfl) rfl rfl Kp.true (Y.add_ rfl rfl rfl (by first | exact wrap_i64 (by omega) (by omega) | rfl)) ?_
      refine Jp.y 6 rfl (want_all rfl) rfl rfl Kp.true (Y.assign rfl rfl) ?_
      refine Jp.again hLa (j + 1, j + 1, A1, c1) ⟨by dsimp only; omega, by dsimp only; omega⟩ (by dsimp only; omega) rfl ⟨rfl, rfl, rfl, rfl, trivial⟩ ⟨rfl, rfl, trivial⟩
    · simp only [decide_eq_false_iff_not] at gb
      refine Cd.plain [(0, false), (1, false), (2, false), (3, false)] rfl rfl ?_
      refine Jp.y 50 rfl (want_all rfl) rfl rfl Kp.true (Y.move rfl rfl) ?_
      refine Jp.lit 51 2 [(0, _)] [_] rfl (want_all rfl) rfl rfl rfl rfl Try.underlying26 Try.sizeOf5 Try.zeroValue5 rfl rfl rfl rfl rfl fun b2 => ⟨Kp.true, ?_⟩
      refine Jp.append 52 1 rfl (want_all rfl) rfl rfl rfl Try.underlying26 Try.underlying26 (.inl ⟨_, rfl⟩) Try.sizeOf5 Try.typeInfo5 Try.zeroValue5 rfl (by decide) rfl rfl rfl (Src.own 2 rfl) rfl (i + 1) (_) (by first | omega | simp) (by first | rfl | simp) (by simp only [Try.t5]; omega) fun A1 c1 => ⟨Kp.true, ?_⟩
      rw [bytesV_snoc0 (by rw [List.length_drop]; omega)]
      refine Jp.y 5 rfl (want_all rfl) rfl rfl Kp.true (Y.assign rfl rfl) ?_
      refine Jp.over rfl hK11 ?_
      refine Cd.plain [(0, false), (1, false), (2, false)] rfl rfl ?_
      refine Jp.y 16 rfl (want_all rfl) rfl rfl Kp.true (Y.move rfl rfl) ?_
      refine Jp.y 17 rfl (want_all rfl) rfl rfl Kp.true (Y.add_ rfl rfl rfl (by first | exact wrap_i64 (by omega) (by omega) | rfl)) ?_
      refine Jp.y 6 rfl (want_all rfl) rfl rfl Kp.true (Y.assign rfl rfl) ?_
      refine Jp.again hLa (i + 1, j, A1, c1) ⟨by dsimp only; omega, by dsimp only; omega⟩ (by dsimp only; omega) rfl ⟨rfl, rfl, rfl, rfl, trivial⟩ ⟨rfl, rfl, trivial⟩
  · simp only [decide_eq_false_iff_not] at ga
    obtain rfl : m = i := by omega
    refine Cd.exit rfl hK7 ?_
    refine Cd.seq fun K16 hK16 => ?_
    refine Cd.plain [(0, false), (1, false)] rfl rfl ?_
    refine Jp.y 53 rfl (want_all rfl) rfl rfl Kp.true (Y.move rfl rfl) ?_
    refine Jp.y 4 rfl (want_all rfl) rfl rfl Kp.true (Y.assign rfl rfl) ?_
    refine Jp.done hK16 ?_
    refine Cd.ret [(0, _), (1, _)] rfl (res1 rfl rfl) ⟨rfl, rfl, trivial⟩ ?_
    have e := bytesP_pad short.xs xs clock.xs k kb kc m hm hk2
    refine ⟨rfl, RefPt b ⟨⟨args, input, short, ⟨A, c, xs⟩, clock, files⟩, k, kb + j, kc⟩, A', c', ?_, ?_, ⟨⟨args, input, short, ⟨A, c, xs⟩, clock, files⟩, k, kb + j, kc⟩, rfl, { hr with l2 := ?_ }, ?_⟩
    · show _ = Value.slice A' (bytesP ⟨short.xs, xs, clock.xs, k, kb, kc⟩ m).1.length c'
      rw [e, pad_length]
    · show _ = [(0, _), (1, OwnS 5 1 A' (bytesP ⟨short.xs, xs, clock.xs, k, kb, kc⟩ m).1.length c' (bytesV (bytesP ⟨short.xs, xs, clock.xs, k, kb, kc⟩ m).1))]
      rw [e, pad_length]; rfl
    · show kb + j ≤ xs.length
      omega
    · show _ = (bytesP ⟨short.xs, xs, clock.xs, k, kb, kc⟩ m).2
      rw [e, ok2]; rfl
end Go.Proofs.Ytjjhihlmoecmlaa
