/- Contract: Get. -/
import Derived.Test.YtjjhihlmoecmlaaFeedU
import Derived.Test.YtjjhihlmoecmlaaFeedD
import Derived.Test.YtjjhihlmoecmlaaEngU
set_option linter.unusedVariables false
set_option linter.unusedSimpArgs false
set_option maxRecDepth 100000
namespace Go.Proofs.Ytjjhihlmoecmlaa
open Go
theorem many_step {α : Type} {f : PS → α × PS} {n i : Nat} {s0 cur t : PS} {acc : List α} {x : α} (h : manyP f n s0 = (acc ++ (manyP f (n - i) cur).1, (manyP f (n - i) cur).2)) (hi : i < n) (hx : f cur = (x, t)) : manyP f n s0 = ((acc ++ [x]) ++ (manyP f (n - (i + 1)) t).1, (manyP f (n - (i + 1)) t).2) := by
  obtain ⟨k, hk⟩ : ∃ k, n - i = k + 1 := ⟨n - i - 1, by omega⟩
  have hk2 : n - (i + 1) = k := by omega
  rw [hk] at h
  rw [hk2, h]
  have e : manyP f (k + 1) cur = (x :: (manyP f k t).1, (manyP f k t).2) := by
    show bindP f (fun x => bindP (manyP f k) fun l => pureP (x :: l)) cur = _
    unfold bindP pureP
    rw [hx]
  rw [e]
  simp
theorem many_end {α : Type} {f : PS → α × PS} {n i : Nat} {s0 cur : PS} {acc : List α} (h : manyP f n s0 = (acc ++ (manyP f (n - i) cur).1, (manyP f (n - i) cur).2)) (hi : n ≤ i) : manyP f n s0 = (acc, cur) := by
  rw [show n - i = 0 by omega] at h
  rw [h]; simp [manyP, pureP]
theorem natsI_length (l : List Nat) : (natsI l).length = l.length := List.length_map ..
theorem natsI_snoc (k : IntKind) (l : List Nat) (x : Nat) : intsV k (natsI l) ++ [.int k (x : Int)] = intsV k (natsI (l ++ [x])) := by simp [intsV, natsI]
theorem strsV_snoc (l : List ByteArray) (s : ByteArray) : strsV l ++ [.string s] = strsV (l ++ [s]) := by simp [strsV]
theorem filesV_snocG (l : List FileG) (x : FileG) : filesV l ++ [.string x.name, x.data.v] = filesV (l ++ [x]) := by simp [filesV, FileG.cells]
def feedP0 : FeedP := { args := [], input := [], short := [], random := [], clock := [], files := [] }
def feedG0 : FeedG := ⟨⟨none, 0, []⟩, ⟨none, 0, []⟩, ⟨none, 0, []⟩, ⟨none, 0, []⟩, ⟨none, 0, []⟩, ⟨none, 0, []⟩⟩
theorem RdFeed.none (h : Hp) : RdFeed feedG0 h := ⟨RdS.nil 1 h, RdS.nil 1 h, RdS.nil 1 h, RdS.nil 1 h, RdS.nil 1 h, RdS.nil 2 h, by simp [feedG0]⟩
def getErr (b : Bytes) : Int := match getP b with | some _ => 0 | none => 3
theorem getErr_none {b : Bytes} (h : getP b = none) : getErr b = 3 := by
  unfold getErr; rw [h]
theorem getErr_some {b : Bytes} {f : FeedP} (h : getP b = some f) : getErr b = 0 := by
  unfold getErr; rw [h]
theorem get_spec (s : Sl UInt8) : Spec Try.prog 38 #[s.v] (RdB s) []
    (fun ρ ρ' v L => ∃ f : FeedG, v = .tuple #[.agg f.cells.toArray, .int .i64 (getErr s.xs)] ∧ L = [] ∧ RdFeed f ρ' ∧ f.p = (getP s.xs).getD feedP0 ∧ (∀ x ∈ f.clock.xs, 0 ≤ x ∧ x < 4294967296)) := by
  obtain ⟨A, c, xs⟩ := s
  dsimp only [Sl.v]
  refine Spec.of 91 Try.func38 rfl Try.ntmps38 [(0, _)] rfl rfl ?_
  intro cx ρ hr h0
  refine Cd.seq fun K1 hK1 => ?_
  refine Cd.plain [(0, false), (1, false)] rfl rfl ?_
  refine Jp.alloc 10 2 rfl (want_all rfl) rfl rfl rfl Try.zeroValue35 fun b10 => ⟨Kp.true, ?_⟩
  refine Jp.y 3 rfl (want_all rfl) rfl rfl Kp.true (Y.assign rfl rfl) ?_
  refine Jp.done hK1 ?_
  refine Cd.seq fun K2 hK2 => ?_
  refine Cd.plain [(0, false), (1, false), (2, false), (3, false)] rfl rfl ?_
  refine Jp.y 7 rfl (want_all rfl) rfl rfl Kp.true (Y.move rfl rfl) ?_
  refine Jp.y 8 rfl (want_all rfl) rfl rfl Kp.true (Y.struct [(0, _)] [_, _] rfl rfl places112 Try.zeroValue112 rfl) ?_
  refine Jp.box 11 9 rfl (want_all rfl) rfl rfl rfl rfl fun b11 => ⟨Kp.true, ?_⟩
  refine Jp.y 4 rfl (want_all rfl) rfl rfl Kp.true (Y.assign rfl rfl) ?_
  refine Jp.done hK2 ?_
  refine Cd.seq fun K3 hK3 => ?_
  refine Cd.plain [(0, false)] rfl rfl ?_
  refine Jp.alloc 12 5 rfl (want_all rfl) rfl rfl rfl Try.zeroValue35 fun b12 => ⟨Kp.true, ?_⟩
  refine Jp.done hK3 ?_
  refine Cd.seq fun K4 hK4 => ?_
  refine Cd.seq fun K5 hK5 => ?_
  refine Cd.plain [(0, false), (1, false), (2, false)] rfl rfl ?_
  refine Jp.imp (j := 11) (A' := RdrPt b11 ⟨A, c, xs⟩ false) rfl (fun _ h => h) ?_
  refine Jp.y 10 rfl (want_all rfl) rfl rfl Kp.true (Y.move rfl rfl) ?_
  refine Jp.call [11] [11] (rcount_spec b11 ⟨A, c, xs⟩ false 16 (by omega)) 11 rfl (want_all rfl) rfl rfl (Runs.fn rfl Try.call61 rfl) (by decide) (by decide) rfl hr ?_
  rintro v1 ρ1 L1 ⟨rfl, n1, s1, bad1, e1, rfl, hr1, rfl⟩
  refine ⟨rfl, fun hle1 => ⟨Kp.true, ?_⟩⟩
  have hn1 : n1 ≤ 16 := by have := countP_le (most := 16) (s := (xs, false)); rw [e1] at this; exact this
  refine Jp.y 12 rfl (want_all rfl) rfl rfl Kp.true (Y.move rfl rfl) ?_
  refine Jp.done hK5 ?_
  refine Cd.block ?_
  refine Cd.make 13 (show OwnS 9 1 none 0 0 (strsV []) Hp.emp from OwnS.nil _ 1 Hp.emp) ?_
  refine Cd.loopK (G := List ByteArray × Option Addr × Nat × Sl UInt8 × Bool) (fun g => g.1.length ≤ n1 ∧ manyP (textRdP 200) n1 (s1.xs, bad1) = (g.1.map str ++ (manyP (textRdP 200) (n1 - g.1.length) (g.2.2.2.1.xs, g.2.2.2.2)).1, (manyP (textRdP 200) (n1 - g.1.length) (g.2.2.2.1.xs, g.2.2.2.2)).2) ∧ RdB g.2.2.2.1 ρ1) (fun g => n1 - g.1.length) (fun _ => _) (fun g => [(12, .int .i64 (g.1.length : Int))]) [(2, _), (4, _), (5, _), (11, _)] (fun g => [(11, RdrPt b11 g.2.2.2.1 g.2.2.2.2), (12, Pt b12 (.cells #[.slice g.2.1 g.1.length g.2.2.1, .slice none 0 0, .slice none 0 0, .slice none 0 0, .slice none 0 0, .slice none 0 0] 35)), (13, OwnS 9 1 g.2.1 g.1.length g.2.2.1 (strsV g.1))]) [(10, _)] ⟨[], none, 0, s1, bad1⟩ ⟨Nat.zero_le _, rfl, hr1⟩ rfl ⟨rfl, trivial⟩ ⟨rfl, rfl, rfl, rfl, trivial⟩ ⟨rfl, rfl, rfl, trivial⟩ ⟨rfl, trivial⟩ (fun g KLa hok hLa => ?_)
  obtain ⟨acc1, A1, c1, sa, bada⟩ := g
  obtain ⟨ok1, ok2, ok3⟩ := hok
  dsimp only at ok1 ok2 ok3 ⊢
  refine Cd.seq fun K6 hK6 => ?_
  refine Cd.plain [(0, false)] rfl rfl ?_
  refine Jp.y 13 rfl (want_all rfl) rfl rfl Kp.true (Y.lss rfl rfl rfl) ?_
  refine Jp.done hK6 ?_
  refine Cd.seq fun K7 hK7 => ?_
  refine Cd.cond rfl (fun ga => ?_) (fun ga => ?_)
  · simp only [decide_eq_true_eq] at ga
    refine Cd.skip hK7 ?_
    refine Cd.seq fun K8 hK8 => ?_
    refine Cd.block ?_
    refine Cd.drawn [(12, _)] ⟨rfl, trivial⟩ [(0, true), (1, true), (2, true), (3, false), (4, true), (5, false), (6, false), (7, true), (8, false)] follows (by kernel_rfl) (fun hrl => ?_)
    refine Jp.q 14 rfl (want_all rfl) rfl rfl (by first | exact Y.fieldAddrP rfl rfl Try.underlying35 rfl Try.sizeOf25 (by decide) (show _ + 0 = _ from rfl) | exact Y.fieldAddr rfl rfl Try.underlying35 rfl Try.sizeOf25 (by decide)) ?_
    refine Jp.q 15 rfl (want_all rfl) rfl rfl (by first | exact Y.loadO 12 rfl Try.isAgg25 rfl rfl rfl | exact Y.loadO 11 rfl Try.isAgg25 rfl rfl rfl) ?_
    refine Jp.q 16 rfl (want_all rfl) rfl rfl (Y.move rfl rfl) ?_
    refine Jp.call [11] [11, 14] (rtext_spec b11 sa bada 200 (by omega)) 17 rfl (want_all rfl) rfl rfl (Runs.fn rfl Try.call62 rfl) (by decide) (by decide) rfl ok3 ?_
    rintro v2 ρ2 L2 ⟨rfl, t, sb, badb, At, ct, et, rfl, hrb, rfl⟩
    refine ⟨rfl, fun hle2 => ⟨(Kp.st ⟨rfl, trivial⟩), ?_⟩⟩
    refine Jp.strong [(12, _), (14, _)] ⟨rfl, rfl, trivial⟩ ⟨rfl, trivial⟩ (Hp.le_refl _) hrl ?_
    have hrl := Hp.le_trans hrl (Hp.le_refl _)
    refine Jp.q 18 rfl (want_all rfl) rfl rfl (Y.toStr _ rfl rfl Try.underlying26 Try.underlying9 Try.underlying5 ⟨_, _, rfl⟩ (Src.own 14 rfl)) ?_
    have hlen : (acc1 ++ [mkS t]).length = acc1.length + 1 := by simp
    refine Jp.lit 19 15 [(0, _)] [_] rfl (want_all rfl) rfl rfl rfl rfl Try.underlying25 Try.sizeOf9 Try.zeroValue9 rfl rfl rfl rfl rfl fun b15 => ⟨(Kp.st ⟨rfl, rfl, trivial⟩), ?_⟩
    refine Jp.append 20 13 rfl (want_all rfl) rfl rfl rfl Try.underlying25 Try.underlying25 (.inl ⟨_, rfl⟩) Try.sizeOf9 Try.typeInfo9 Try.zeroValue9 rfl (by decide) rfl rfl rfl (Src.own 15 rfl) rfl ((acc1 ++ [mkS t]).length) (strsV (acc1 ++ [mkS t])) (by first | omega | simp) (strsV_snoc acc1 (mkS t)) (by simp only [Try.t9]; omega) fun A3 c3 => ⟨(Kp.st ⟨rfl, rfl, trivial⟩), ?_⟩
    refine Jp.q 21 rfl (want_all rfl) rfl rfl (by first | exact Y.fieldAddrP rfl rfl Try.underlying35 rfl Try.sizeOf25 (by decide) (show _ + 0 = _ from rfl) | exact Y.fieldAddr rfl rfl Try.underlying35 rfl Try.sizeOf25 (by decide)) ?_
    first | refine Jp.store 12 rfl (want_all rfl) rfl rfl Try.sizeOf25 rfl rfl rfl rfl rfl rfl Kp.last ?_ | refine Jp.store 11 rfl (want_all rfl) rfl rfl Try.sizeOf25 rfl rfl rfl rfl rfl rfl Kp.last ?_ | refine Jp.store 15 rfl (want_all rfl) rfl rfl Try.sizeOf25 rfl rfl rfl rfl rfl rfl Kp.last ?_
    refine Jp.over rfl hK8 ?_
    refine Cd.plain [(0, false), (1, false)] rfl rfl ?_
    refine Jp.y 22 rfl (want_all rfl) rfl rfl Kp.true (Y.add_ rfl rfl rfl (by first | exact wrap_i64 (by omega) (by omega) | rfl)) ?_
    refine Jp.y 12 rfl (want_all rfl) rfl rfl Kp.true (Y.move rfl rfl) ?_
    rw [show (acc1.length : Int) + 1 = ((acc1 ++ [mkS t]).length : Int) by simp]
    refine Jp.again hLa ⟨acc1 ++ [mkS t], A3, c3, sb, badb⟩ ⟨by show (acc1 ++ [mkS t]).length ≤ n1; simp; omega, by simpa [str_mkS] using many_step ok2 (by omega) et, hrb⟩ (by show n1 - (acc1 ++ [mkS t]).length < n1 - acc1.length; simp; omega) rfl ⟨rfl, rfl, rfl, rfl, rfl, trivial⟩ ⟨rfl, rfl, rfl, rfl, trivial⟩
  · simp only [decide_eq_false_iff_not] at ga
    have f1 := many_end ok2 (by omega)
    refine Cd.exit rfl hK4 ?_
    refine Cd.seq fun K10 hK10 => ?_
    refine Cd.plain [(0, false), (1, false), (2, false), (3, false)] rfl rfl ?_
    refine Jp.y 23 rfl (want_all rfl) rfl rfl Kp.true (Y.move rfl rfl) ?_
    refine Jp.call [11] [11, 17] (rtext_spec b11 sa bada 4096 (by omega)) 24 rfl (want_all rfl) rfl rfl (Runs.fn rfl Try.call62 rfl) (by decide) (by decide) rfl ok3 ?_
    rintro v4 ρ4 L4 ⟨rfl, inp, s2, bad2, A2, c2, e2, rfl, hr2, rfl⟩
    refine ⟨rfl, fun hle4 => ⟨Kp.true, ?_⟩⟩
    dsimp only [RdrPt]
    refine Jp.y 25 rfl (want_all rfl) rfl rfl Kp.true (by first | exact Y.fieldAddrP rfl rfl Try.underlying35 rfl Try.sizeOf26 (by decide) (show _ + 1 = _ from rfl) | exact Y.fieldAddr rfl rfl Try.underlying35 rfl Try.sizeOf26 (by decide)) ?_
    first | refine Jp.store 12 rfl (want_all rfl) rfl rfl Try.sizeOf26 rfl rfl rfl rfl rfl rfl Kp.true ?_ | refine Jp.store 11 rfl (want_all rfl) rfl rfl Try.sizeOf26 rfl rfl rfl rfl rfl rfl Kp.true ?_
    refine Jp.done hK10 ?_
    refine Cd.seq fun K11 hK11 => ?_
    refine Cd.seq fun K12 hK12 => ?_
    refine Cd.plain [(0, false), (1, false), (2, false)] rfl rfl ?_
    refine Jp.y 26 rfl (want_all rfl) rfl rfl Kp.true (Y.move rfl rfl) ?_
    refine Jp.call [11] [11] (rcount_spec b11 s2 bad2 64 (by omega)) 27 rfl (want_all rfl) rfl rfl (Runs.fn rfl Try.call61 rfl) (by decide) (by decide) rfl hr2 ?_
    rintro v5 ρ5 L5 ⟨rfl, n3, s3, bad3, e3, rfl, hr3, rfl⟩
    refine ⟨rfl, fun hle5 => ⟨Kp.true, ?_⟩⟩
    have hn3 : n3 ≤ 64 := by have := countP_le (most := 64) (s := (s2.xs, bad2)); rw [e3] at this; exact this
    refine Jp.y 28 rfl (want_all rfl) rfl rfl Kp.true (Y.move rfl rfl) ?_
    refine Jp.done hK12 ?_
    refine Cd.block ?_
    refine Cd.make 18 (show OwnS 3 1 none 0 0 (intsV .i64 (natsI [])) Hp.emp from OwnS.nil _ 1 Hp.emp) ?_
    refine Cd.loopK (G := List Nat × Option Addr × Nat × Sl UInt8 × Bool) (fun g => g.1.length ≤ n3 ∧ manyP numP n3 (s3.xs, bad3) = (g.1 ++ (manyP numP (n3 - g.1.length) (g.2.2.2.1.xs, g.2.2.2.2)).1, (manyP numP (n3 - g.1.length) (g.2.2.2.1.xs, g.2.2.2.2)).2) ∧ RdB g.2.2.2.1 ρ5) (fun g => n3 - g.1.length) (fun _ => _) (fun g => [(28, .int .i64 (g.1.length : Int))]) [(2, _), (4, _), (5, _), (27, _)] (fun g => [(11, RdrPt b11 g.2.2.2.1 g.2.2.2.2), (12, Pt b12 (.cells #[.slice A1 acc1.length c1, .slice A2 inp.length c2, .slice g.2.1 g.1.length g.2.2.1, .slice none 0 0, .slice none 0 0, .slice none 0 0] 35)), (18, OwnS 3 1 g.2.1 g.1.length g.2.2.1 (intsV .i64 (natsI g.1)))]) [(10, _), (13, _), (17, _)] ⟨[], none, 0, s3, bad3⟩ ⟨Nat.zero_le _, rfl, hr3⟩ rfl ⟨rfl, trivial⟩ ⟨rfl, rfl, rfl, rfl, trivial⟩ ⟨rfl, rfl, rfl, trivial⟩ ⟨rfl, rfl, rfl, trivial⟩ (fun g KLb hok hLb => ?_)
    obtain ⟨acc3, A3, c3, sc, badc⟩ := g
    obtain ⟨ok4, ok5, ok6⟩ := hok
    dsimp only at ok4 ok5 ok6 ⊢
    refine Cd.seq fun K13 hK13 => ?_
    refine Cd.plain [(0, false)] rfl rfl ?_
    refine Jp.y 29 rfl (want_all rfl) rfl rfl Kp.true (Y.lss rfl rfl rfl) ?_
    refine Jp.done hK13 ?_
    refine Cd.seq fun K14 hK14 => ?_
    refine Cd.cond rfl (fun gb => ?_) (fun gb => ?_)
    · simp only [decide_eq_true_eq] at gb
      refine Cd.skip hK14 ?_
      refine Cd.seq fun K15 hK15 => ?_
      refine Cd.block ?_
      refine Cd.drawn [(12, _)] ⟨rfl, trivial⟩ [(0, true), (1, true), (2, true), (3, false), (4, true), (5, false), (6, false), (7, true), (8, false)] follows (by kernel_rfl) (fun hrl => ?_)
      refine Jp.q 30 rfl (want_all rfl) rfl rfl (by first | exact Y.fieldAddrP rfl rfl Try.underlying35 rfl Try.sizeOf22 (by decide) (show _ + 2 = _ from rfl) | exact Y.fieldAddr rfl rfl Try.underlying35 rfl Try.sizeOf22 (by decide)) ?_
      refine Jp.q 31 rfl (want_all rfl) rfl rfl (by first | exact Y.loadO 12 rfl Try.isAgg22 rfl rfl rfl | exact Y.loadO 11 rfl Try.isAgg22 rfl rfl rfl) ?_
      refine Jp.q 32 rfl (want_all rfl) rfl rfl (Y.move rfl rfl) ?_
      refine Jp.call [11] [11] (rnum_spec b11 sc badc) 33 rfl (want_all rfl) rfl rfl (Runs.fn rfl Try.call63 rfl) (by decide) (by decide) rfl ok6 ?_
      rintro v6 ρ6 L6 ⟨rfl, x, sd, badd, et, rfl, hrd, rfl⟩
      refine ⟨rfl, fun hle6 => ⟨(Kp.st ⟨rfl, trivial⟩), ?_⟩⟩
      have hx : x < 4294967296 := by have := numP_lt (sc.xs, badc); rw [et] at this; exact this
      refine Jp.q 34 rfl (want_all rfl) rfl rfl (Y.conv_ rfl rfl Try.underlying49 Try.underlying3 (by first | exact wrap_i64 (by omega) (by omega) | rfl)) ?_
      have hlen : (acc3 ++ [x]).length = acc3.length + 1 := by simp
      refine Jp.lit 35 15 [(0, _)] [_] rfl (want_all rfl) rfl rfl rfl rfl Try.underlying22 Try.sizeOf3 Try.zeroValue3 rfl rfl rfl rfl rfl fun b15 => ⟨(Kp.st ⟨rfl, trivial⟩), ?_⟩
      refine Jp.append 36 18 rfl (want_all rfl) rfl rfl rfl Try.underlying22 Try.underlying22 (.inl ⟨_, rfl⟩) Try.sizeOf3 Try.typeInfo3 Try.zeroValue3 rfl (by decide) rfl rfl rfl (Src.own 15 rfl) rfl ((acc3 ++ [x]).length) (intsV .i64 (natsI (acc3 ++ [x]))) (by first | omega | simp) (natsI_snoc .i64 acc3 x) (by simp only [Try.t3]; omega) fun A7 c7 => ⟨(Kp.st ⟨rfl, trivial⟩), ?_⟩
      refine Jp.q 37 rfl (want_all rfl) rfl rfl (by first | exact Y.fieldAddrP rfl rfl Try.underlying35 rfl Try.sizeOf22 (by decide) (show _ + 2 = _ from rfl) | exact Y.fieldAddr rfl rfl Try.underlying35 rfl Try.sizeOf22 (by decide)) ?_
      first | refine Jp.store 12 rfl (want_all rfl) rfl rfl Try.sizeOf22 rfl rfl rfl rfl rfl rfl Kp.last ?_ | refine Jp.store 11 rfl (want_all rfl) rfl rfl Try.sizeOf22 rfl rfl rfl rfl rfl rfl Kp.last ?_ | refine Jp.store 15 rfl (want_all rfl) rfl rfl Try.sizeOf22 rfl rfl rfl rfl rfl rfl Kp.last ?_
      refine Jp.over rfl hK15 ?_
      refine Cd.plain [(0, false), (1, false)] rfl rfl ?_
      refine Jp.y 38 rfl (want_all rfl) rfl rfl Kp.true (Y.add_ rfl rfl rfl (by first | exact wrap_i64 (by omega) (by omega) | rfl)) ?_
      refine Jp.y 28 rfl (want_all rfl) rfl rfl Kp.true (Y.move rfl rfl) ?_
      rw [show (acc3.length : Int) + 1 = ((acc3 ++ [x]).length : Int) by simp]
      refine Jp.again hLb ⟨acc3 ++ [x], A7, c7, sd, badd⟩ ⟨by show (acc3 ++ [x]).length ≤ n3; simp; omega, by simpa using many_step ok5 (by omega) et, hrd⟩ (by show n3 - (acc3 ++ [x]).length < n3 - acc3.length; simp; omega) rfl ⟨rfl, rfl, rfl, rfl, rfl, trivial⟩ ⟨rfl, rfl, rfl, rfl, rfl, rfl, trivial⟩
    · simp only [decide_eq_false_iff_not] at gb
      have f3 := many_end ok5 (by omega)
      refine Cd.exit rfl hK11 ?_
      refine Cd.seq fun K17 hK17 => ?_
      refine Cd.plain [(0, false), (1, false), (2, false), (3, false)] rfl rfl ?_
      refine Jp.y 39 rfl (want_all rfl) rfl rfl Kp.true (Y.move rfl rfl) ?_
      refine Jp.call [11] [11, 19] (rtext_spec b11 sc badc 4096 (by omega)) 40 rfl (want_all rfl) rfl rfl (Runs.fn rfl Try.call62 rfl) (by decide) (by decide) rfl ok6 ?_
      rintro v8 ρ8 L8 ⟨rfl, rnd, s4, bad4, A4, c4, e4, rfl, hr4, rfl⟩
      refine ⟨rfl, fun hle8 => ⟨Kp.true, ?_⟩⟩
      dsimp only [RdrPt]
      refine Jp.y 41 rfl (want_all rfl) rfl rfl Kp.true (by first | exact Y.fieldAddrP rfl rfl Try.underlying35 rfl Try.sizeOf26 (by decide) (show _ + 3 = _ from rfl) | exact Y.fieldAddr rfl rfl Try.underlying35 rfl Try.sizeOf26 (by decide)) ?_
      first | refine Jp.store 12 rfl (want_all rfl) rfl rfl Try.sizeOf26 rfl rfl rfl rfl rfl rfl Kp.true ?_ | refine Jp.store 11 rfl (want_all rfl) rfl rfl Try.sizeOf26 rfl rfl rfl rfl rfl rfl Kp.true ?_
      refine Jp.done hK17 ?_
      refine Cd.seq fun K18 hK18 => ?_
      refine Cd.seq fun K19 hK19 => ?_
      refine Cd.plain [(0, false), (1, false), (2, false)] rfl rfl ?_
      refine Jp.y 42 rfl (want_all rfl) rfl rfl Kp.true (Y.move rfl rfl) ?_
      refine Jp.call [11] [11] (rcount_spec b11 s4 bad4 64 (by omega)) 43 rfl (want_all rfl) rfl rfl (Runs.fn rfl Try.call61 rfl) (by decide) (by decide) rfl hr4 ?_
      rintro v9 ρ9 L9 ⟨rfl, n5, s5, bad5, e5, rfl, hr5, rfl⟩
      refine ⟨rfl, fun hle9 => ⟨Kp.true, ?_⟩⟩
      have hn5 : n5 ≤ 64 := by have := countP_le (most := 64) (s := (s4.xs, bad4)); rw [e5] at this; exact this
      refine Jp.y 44 rfl (want_all rfl) rfl rfl Kp.true (Y.move rfl rfl) ?_
      refine Jp.done hK19 ?_
      refine Cd.block ?_
      refine Cd.make 20 (show OwnS 49 1 none 0 0 (intsV .u32 (natsI [])) Hp.emp from OwnS.nil _ 1 Hp.emp) ?_
      refine Cd.loopK (G := List Nat × Option Addr × Nat × Sl UInt8 × Bool) (fun g => g.1.length ≤ n5 ∧ manyP numP n5 (s5.xs, bad5) = (g.1 ++ (manyP numP (n5 - g.1.length) (g.2.2.2.1.xs, g.2.2.2.2)).1, (manyP numP (n5 - g.1.length) (g.2.2.2.1.xs, g.2.2.2.2)).2) ∧ RdB g.2.2.2.1 ρ9 ∧ ∀ x ∈ g.1, x < 4294967296) (fun g => n5 - g.1.length) (fun _ => _) (fun g => [(44, .int .i64 (g.1.length : Int))]) [(2, _), (4, _), (5, _), (43, _)] (fun g => [(11, RdrPt b11 g.2.2.2.1 g.2.2.2.2), (12, Pt b12 (.cells #[.slice A1 acc1.length c1, .slice A2 inp.length c2, .slice A3 acc3.length c3, .slice A4 rnd.length c4, .slice g.2.1 g.1.length g.2.2.1, .slice none 0 0] 35)), (20, OwnS 49 1 g.2.1 g.1.length g.2.2.1 (intsV .u32 (natsI g.1)))]) [(10, _), (13, _), (17, _), (18, _), (19, _)] ⟨[], none, 0, s5, bad5⟩ ⟨Nat.zero_le _, rfl, hr5, by simp⟩ rfl ⟨rfl, trivial⟩ ⟨rfl, rfl, rfl, rfl, trivial⟩ ⟨rfl, rfl, rfl, trivial⟩ ⟨rfl, rfl, rfl, rfl, rfl, trivial⟩ (fun g KLc hok hLc => ?_)
      obtain ⟨acc5, A5, c5, se, bade⟩ := g
      obtain ⟨ok7, ok8, ok9, ok9b⟩ := hok
      dsimp only at ok7 ok8 ok9 ok9b ⊢
      refine Cd.seq fun K20 hK20 => ?_
      refine Cd.plain [(0, false)] rfl rfl ?_
      refine Jp.y 45 rfl (want_all rfl) rfl rfl Kp.true (Y.lss rfl rfl rfl) ?_
      refine Jp.done hK20 ?_
      refine Cd.seq fun K21 hK21 => ?_
      refine Cd.cond rfl (fun gc => ?_) (fun gc => ?_)
      · simp only [decide_eq_true_eq] at gc
        refine Cd.skip hK21 ?_
        refine Cd.seq fun K22 hK22 => ?_
        refine Cd.block ?_
        refine Cd.drawn [(12, _)] ⟨rfl, trivial⟩ [(0, true), (1, true), (2, true), (3, false), (4, false), (5, false), (6, true), (7, false)] follows (by kernel_rfl) (fun hrl => ?_)
        refine Jp.q 46 rfl (want_all rfl) rfl rfl (by first | exact Y.fieldAddrP rfl rfl Try.underlying35 rfl Try.sizeOf27 (by decide) (show _ + 4 = _ from rfl) | exact Y.fieldAddr rfl rfl Try.underlying35 rfl Try.sizeOf27 (by decide)) ?_
        refine Jp.q 47 rfl (want_all rfl) rfl rfl (by first | exact Y.loadO 12 rfl Try.isAgg27 rfl rfl rfl | exact Y.loadO 11 rfl Try.isAgg27 rfl rfl rfl) ?_
        refine Jp.q 48 rfl (want_all rfl) rfl rfl (Y.move rfl rfl) ?_
        refine Jp.call [11] [11] (rnum_spec b11 se bade) 49 rfl (want_all rfl) rfl rfl (Runs.fn rfl Try.call63 rfl) (by decide) (by decide) rfl ok9 ?_
        rintro v10 ρ10 L10 ⟨rfl, x, sd, badd, et, rfl, hrd, rfl⟩
        refine ⟨rfl, fun hle10 => ⟨(Kp.st ⟨rfl, trivial⟩), ?_⟩⟩
        have hx : x < 4294967296 := by have := numP_lt (se.xs, bade); rw [et] at this; exact this
        refine Jp.lit 50 15 [(0, _)] [_] rfl (want_all rfl) rfl rfl rfl rfl Try.underlying27 Try.sizeOf49 Try.zeroValue49 rfl rfl rfl rfl rfl fun b15 => ⟨(Kp.st ⟨rfl, trivial⟩), ?_⟩
        have hlen : (acc5 ++ [x]).length = acc5.length + 1 := by simp
        refine Jp.append 51 20 rfl (want_all rfl) rfl rfl rfl Try.underlying27 Try.underlying27 (.inl ⟨_, rfl⟩) Try.sizeOf49 Try.typeInfo49 Try.zeroValue49 rfl (by decide) rfl rfl rfl (Src.own 15 rfl) rfl ((acc5 ++ [x]).length) (intsV .u32 (natsI (acc5 ++ [x]))) (by first | omega | simp) (natsI_snoc .u32 acc5 x) (by simp only [Try.t49]; omega) fun A11 c11 => ⟨(Kp.st ⟨rfl, trivial⟩), ?_⟩
        refine Jp.q 52 rfl (want_all rfl) rfl rfl (by first | exact Y.fieldAddrP rfl rfl Try.underlying35 rfl Try.sizeOf27 (by decide) (show _ + 4 = _ from rfl) | exact Y.fieldAddr rfl rfl Try.underlying35 rfl Try.sizeOf27 (by decide)) ?_
        first | refine Jp.store 12 rfl (want_all rfl) rfl rfl Try.sizeOf27 rfl rfl rfl rfl rfl rfl Kp.last ?_ | refine Jp.store 11 rfl (want_all rfl) rfl rfl Try.sizeOf27 rfl rfl rfl rfl rfl rfl Kp.last ?_ | refine Jp.store 15 rfl (want_all rfl) rfl rfl Try.sizeOf27 rfl rfl rfl rfl rfl rfl Kp.last ?_
        refine Jp.over rfl hK22 ?_
        refine Cd.plain [(0, false), (1, false)] rfl rfl ?_
        refine Jp.y 53 rfl (want_all rfl) rfl rfl Kp.true (Y.add_ rfl rfl rfl (by first | exact wrap_i64 (by omega) (by omega) | rfl)) ?_
        refine Jp.y 44 rfl (want_all rfl) rfl rfl Kp.true (Y.move rfl rfl) ?_
        rw [show (acc5.length : Int) + 1 = ((acc5 ++ [x]).length : Int) by simp]
        refine Jp.again hLc ⟨acc5 ++ [x], A11, c11, sd, badd⟩ ⟨by show (acc5 ++ [x]).length ≤ n5; simp; omega, by simpa using many_step ok8 (by omega) et, hrd, ?_⟩ (by show n5 - (acc5 ++ [x]).length < n5 - acc5.length; simp; omega) rfl ⟨rfl, rfl, rfl, rfl, rfl, trivial⟩ ⟨rfl, rfl, rfl, rfl, rfl, rfl, rfl, rfl, trivial⟩
        intro y hy
        rcases List.mem_append.1 hy with hy | hy
        · exact ok9b y hy
        · rw [List.mem_singleton] at hy; subst hy; exact hx
      · simp only [decide_eq_false_iff_not] at gc
        have f5 := many_end ok8 (by omega)
        refine Cd.exit rfl hK18 ?_
        refine Cd.seq fun K24 hK24 => ?_
        refine Cd.seq fun K25 hK25 => ?_
        refine Cd.plain [(0, false), (1, false), (2, false)] rfl rfl ?_
        refine Jp.y 54 rfl (want_all rfl) rfl rfl Kp.true (Y.move rfl rfl) ?_
        refine Jp.call [11] [11] (rcount_spec b11 se bade 8 (by omega)) 55 rfl (want_all rfl) rfl rfl (Runs.fn rfl Try.call61 rfl) (by decide) (by decide) rfl ok9 ?_
        rintro v12 ρ12 L12 ⟨rfl, n6, s6, bad6, e6, rfl, hr6, rfl⟩
        refine ⟨rfl, fun hle12 => ⟨Kp.true, ?_⟩⟩
        have hn6 : n6 ≤ 8 := by have := countP_le (most := 8) (s := (se.xs, bade)); rw [e6] at this; exact this
        refine Jp.y 56 rfl (want_all rfl) rfl rfl Kp.true (Y.move rfl rfl) ?_
        refine Jp.done hK25 ?_
        refine Cd.block ?_
        refine Cd.make 21 (show OwnS 63 2 none 0 0 (filesV []) Hp.emp from OwnS.nil _ 2 Hp.emp) ?_
        refine Cd.loopK (G := List FileG × Option Addr × Nat × Sl UInt8 × Bool × Hp) (fun g => g.1.length ≤ n6 ∧ manyP fileP n6 (s6.xs, bad6) = (g.1.map FileG.p ++ (manyP fileP (n6 - g.1.length) (g.2.2.2.1.xs, g.2.2.2.2.1)).1, (manyP fileP (n6 - g.1.length) (g.2.2.2.1.xs, g.2.2.2.2.1)).2) ∧ RdB g.2.2.2.1 g.2.2.2.2.2 ∧ (∀ x ∈ g.1, RdB x.data g.2.2.2.2.2) ∧ ρ12.le g.2.2.2.2.2) (fun g => n6 - g.1.length) (fun g => g.2.2.2.2.2) (fun g => [(56, .int .i64 (g.1.length : Int))]) [(2, _), (4, _), (5, _), (55, _)] (fun g => [(11, RdrPt b11 g.2.2.2.1 g.2.2.2.2.1), (12, Pt b12 (.cells #[.slice A1 acc1.length c1, .slice A2 inp.length c2, .slice A3 acc3.length c3, .slice A4 rnd.length c4, .slice A5 acc5.length c5, .slice g.2.1 g.1.length g.2.2.1] 35)), (21, OwnS 63 2 g.2.1 g.1.length g.2.2.1 (filesV g.1))]) [(10, _), (13, _), (17, _), (18, _), (19, _), (20, _)] ⟨[], none, 0, s6, bad6, ρ12⟩ ⟨Nat.zero_le _, rfl, hr6, by simp, Hp.le_refl _⟩ rfl ⟨rfl, trivial⟩ ⟨rfl, rfl, rfl, rfl, trivial⟩ ⟨rfl, rfl, rfl, trivial⟩ ⟨rfl, rfl, rfl, rfl, rfl, rfl, trivial⟩ (fun g KLd hok hLd => ?_)
        obtain ⟨acc6, A6, c6, sf, badf, ρf⟩ := g
        obtain ⟨ok10, ok11, ok12, ok13, ok14⟩ := hok
        dsimp only at ok10 ok11 ok12 ok13 ok14 ⊢
        refine Cd.seq fun K26 hK26 => ?_
        refine Cd.plain [(0, false)] rfl rfl ?_
        refine Jp.y 57 rfl (want_all rfl) rfl rfl Kp.true (Y.lss rfl rfl rfl) ?_
        refine Jp.done hK26 ?_
        refine Cd.seq fun K27 hK27 => ?_
        refine Cd.cond rfl (fun gd => ?_) (fun gd => ?_)
        · simp only [decide_eq_true_eq] at gd
          refine Cd.skip hK27 ?_
          refine Cd.seq fun K28 hK28 => ?_
          refine Cd.block ?_
          refine Cd.seq fun K29 hK29 => ?_
          refine Cd.plain [(0, false), (1, false), (2, false), (3, false), (4, false), (5, false)] rfl rfl ?_
          refine Jp.y 58 rfl (want_all rfl) rfl rfl Kp.true (Y.move rfl rfl) ?_
          refine Jp.call [11] [11, 14] (rtext_spec b11 sf badf 40 (by omega)) 59 rfl (want_all rfl) rfl rfl (Runs.fn rfl Try.call62 rfl) (by decide) (by decide) rfl ok12 ?_
          rintro v13 ρ13 L13 ⟨rfl, t1, sg, badg, Ag, cg, eg, rfl, hrg, rfl⟩
          refine ⟨rfl, fun hle13 => ⟨Kp.true, ?_⟩⟩
          refine Jp.y 60 rfl (want_all rfl) rfl rfl Kp.true (Y.toStr _ rfl rfl Try.underlying26 Try.underlying9 Try.underlying5 ⟨_, _, rfl⟩ (Src.own 14 rfl)) ?_
          refine Jp.y 61 rfl (want_all rfl) rfl rfl Kp.true (Y.struct [(0, _)] [_, _] rfl rfl places63 Try.zeroValue63 rfl) ?_
          refine Jp.alloc 22 6 rfl (want_all rfl) rfl rfl rfl Try.zeroValue63 fun b22 => ⟨Kp.true, ?_⟩
          first | refine Jp.storeAgg 22 rfl (want_all rfl) rfl rfl Try.sizeOf63 rfl rfl rfl rfl rfl rfl (fun k _ _ => noFr0 k) Kp.true ?_ | refine Jp.storeAgg 12 rfl (want_all rfl) rfl rfl Try.sizeOf63 rfl rfl rfl rfl rfl rfl (fun k _ _ => noFr0 k) Kp.true ?_ | refine Jp.storeAgg 11 rfl (want_all rfl) rfl rfl Try.sizeOf63 rfl rfl rfl rfl rfl rfl (fun k _ _ => noFr0 k) Kp.true ?_ | refine Jp.storeAgg 22 rfl (want_all rfl) rfl rfl Try.sizeOf63 rfl rfl rfl rfl rfl rfl (fun k _ _ => noFr0 k) Kp.true ?_
          refine Jp.done hK29 ?_
          refine Cd.seq fun K30 hK30 => ?_
          refine Cd.plain [(0, false), (1, false), (2, false), (3, false)] rfl rfl ?_
          refine Jp.y 62 rfl (want_all rfl) rfl rfl Kp.true (Y.move rfl rfl) ?_
          refine Jp.call [11] [11, 15] (rtext_spec b11 sg badg 4096 (by omega)) 63 rfl (want_all rfl) rfl rfl (Runs.fn rfl Try.call62 rfl) (by decide) (by decide) rfl hrg ?_
          rintro v14 ρ14 L14 ⟨rfl, t2, sh, badh, Ah, ch, eh, rfl, hrh, rfl⟩
          refine ⟨rfl, fun hle14 => ⟨Kp.true, ?_⟩⟩
          have ef : fileP (sf.xs, badf) = ((t1, t2), (sh.xs, badh)) := by
            unfold fileP bindP pureP
            rw [eg]; dsimp only; rw [eh]
          refine Jp.y 64 rfl (want_all rfl) rfl rfl Kp.true (by first | exact Y.fieldAddrP rfl rfl Try.underlying63 rfl Try.sizeOf26 (by decide) (show _ + 1 = _ from rfl) | exact Y.fieldAddr rfl rfl Try.underlying63 rfl Try.sizeOf26 (by decide)) ?_
          first | refine Jp.store 22 rfl (want_all rfl) rfl rfl Try.sizeOf26 rfl rfl rfl rfl rfl rfl Kp.true ?_ | refine Jp.store 12 rfl (want_all rfl) rfl rfl Try.sizeOf26 rfl rfl rfl rfl rfl rfl Kp.true ?_ | refine Jp.store 11 rfl (want_all rfl) rfl rfl Try.sizeOf26 rfl rfl rfl rfl rfl rfl Kp.true ?_
          refine Jp.done hK30 ?_
          refine Cd.plain [(0, false), (1, false), (2, false), (3, false), (4, false), (5, false), (6, false)] rfl rfl ?_
          refine Jp.y 65 rfl (want_all rfl) rfl rfl Kp.true (by first | exact Y.fieldAddrP rfl rfl Try.underlying35 rfl Try.sizeOf33 (by decide) (show _ + 5 = _ from rfl) | exact Y.fieldAddr rfl rfl Try.underlying35 rfl Try.sizeOf33 (by decide)) ?_
          refine Jp.y 66 rfl (want_all rfl) rfl rfl Kp.true (by first | exact Y.loadO 22 rfl Try.isAgg33 rfl rfl rfl | exact Y.loadO 12 rfl Try.isAgg33 rfl rfl rfl | exact Y.loadO 11 rfl Try.isAgg33 rfl rfl rfl) ?_
          refine Jp.y 67 rfl (want_all rfl) rfl rfl Kp.true (by first | exact Y.loadAggO 22 rfl Try.isAgg63 Try.sizeOf63 rfl rfl rfl | exact Y.loadAggO 12 rfl Try.isAgg63 Try.sizeOf63 rfl rfl rfl | exact Y.loadAggO 11 rfl Try.isAgg63 Try.sizeOf63 rfl rfl rfl) ?_
          refine Jp.lit 68 16 [(0, _)] [_, _] rfl (want_all rfl) rfl rfl rfl rfl Try.underlying33 Try.sizeOf63 Try.zeroValue63 rfl rfl rfl rfl rfl fun b16 => ⟨Kp.true, ?_⟩
          obtain ⟨nf, hnf⟩ : ∃ nf : FileG, nf = ⟨mkS t1, ⟨Ah, ch, t2⟩⟩ := ⟨_, rfl⟩
          have hlen : (acc6 ++ [nf]).length = acc6.length + 1 := by simp
          have hsn : filesV acc6 ++ [.string (mkS t1), .slice Ah t2.length ch] = filesV (acc6 ++ [nf]) := by rw [hnf]; exact filesV_snocG acc6 ⟨mkS t1, ⟨Ah, ch, t2⟩⟩
          have hnp : nf.p = (t1, t2) := by rw [hnf]; simp [FileG.p, str_mkS]
          refine Jp.append 69 21 rfl (want_all rfl) rfl rfl rfl Try.underlying33 Try.underlying33 (.inl ⟨_, rfl⟩) Try.sizeOf63 Try.typeInfo63 Try.zeroValue63 rfl (by decide) rfl rfl rfl (Src.own 16 rfl) rfl ((acc6 ++ [nf]).length) ((filesV (acc6 ++ [nf]))) (by first | omega | simp) hsn (by simp only [Try.t63]; omega) fun A15 c15 => ⟨Kp.true, ?_⟩
          refine Jp.freeze (i := 15) rfl (OwnS.up _ _ _ _ _ _) fun ρ8 l8 q8 => ?_
          refine Jp.y 70 rfl (want_all rfl) rfl rfl Kp.true (by first | exact Y.fieldAddrP rfl rfl Try.underlying35 rfl Try.sizeOf33 (by decide) (show _ + 5 = _ from rfl) | exact Y.fieldAddr rfl rfl Try.underlying35 rfl Try.sizeOf33 (by decide)) ?_
          first | refine Jp.store 12 rfl (want_all rfl) rfl rfl Try.sizeOf33 rfl rfl rfl rfl rfl rfl Kp.true ?_ | refine Jp.store 11 rfl (want_all rfl) rfl rfl Try.sizeOf33 rfl rfl rfl rfl rfl rfl Kp.true ?_
          refine Jp.over rfl hK28 ?_
          refine Cd.plain [(0, false), (1, false)] rfl rfl ?_
          refine Jp.y 71 rfl (want_all rfl) rfl rfl Kp.true (Y.add_ rfl rfl rfl (by first | exact wrap_i64 (by omega) (by omega) | rfl)) ?_
          refine Jp.y 56 rfl (want_all rfl) rfl rfl Kp.true (Y.move rfl rfl) ?_
          rw [show (acc6.length : Int) + 1 = ((acc6 ++ [nf]).length : Int) by simp]
          refine Jp.again hLd ⟨acc6 ++ [nf], A15, c15, sh, badh, ρ8⟩ ⟨by show (acc6 ++ [nf]).length ≤ n6; omega, by rw [List.map_append, List.map_singleton, hnp, hlen]; exact many_step ok11 (by omega) ef, RdB.up _ _ _ l8 hrh, ?_, Hp.le_trans ok14 l8⟩ (by show n6 - (acc6 ++ [nf]).length < n6 - acc6.length; omega) rfl ⟨rfl, rfl, rfl, rfl, rfl, trivial⟩ ⟨rfl, rfl, rfl, rfl, rfl, rfl, rfl, rfl, rfl, trivial⟩
          intro y hy
          rcases List.mem_append.1 hy with hy | hy
          · exact RdB.up _ _ _ l8 (ok13 y hy)
          · rw [List.mem_singleton] at hy; subst hy; rw [hnf]; exact q8.rd
        · simp only [decide_eq_false_iff_not] at gd
          have f6 := many_end ok11 (by omega)
          obtain ⟨F, hF⟩ : ∃ F : FeedP, F = { args := acc1.map str, input := inp, short := natsI acc3, random := rnd, clock := natsI acc5, files := acc6.map FileG.p } := ⟨_, rfl⟩
          have hall : feedRdP (xs, false) = (F, (sf.xs, badf)) := by
            unfold feedRdP bindP pureP
            rw [e1]; dsimp only; rw [f1]; dsimp only; rw [e2]; dsimp only; rw [e3]; dsimp only; rw [f3]; dsimp only; rw [e4]; dsimp only; rw [e5]; dsimp only; rw [f5]; dsimp only; rw [e6]; dsimp only; rw [f6, hF]
          have hget : getP xs = if badf = true ∨ sf.xs ≠ [] ∨ good F = false then none else some F := by rw [getP, hall]
          refine Cd.freeze (i := 13) rfl (OwnS.up _ _ _ _ _ _) fun ρa la qa => ?_
          refine Cd.freeze (i := 17) rfl (OwnS.up _ _ _ _ _ _) fun ρb lb qb => ?_
          refine Cd.freeze (i := 18) rfl (OwnS.up _ _ _ _ _ _) fun ρc lc qc => ?_
          refine Cd.freeze (i := 19) rfl (OwnS.up _ _ _ _ _ _) fun ρd ld qd => ?_
          refine Cd.freeze (i := 20) rfl (OwnS.up _ _ _ _ _ _) fun ρe le qe => ?_
          refine Cd.freeze (i := 21) rfl (OwnS.up _ _ _ _ _ _) fun ρg lg qg => ?_
          have m1 : acc1.length = (⟨A1, c1, acc1⟩ : Sl ByteArray).xs.length := rfl
          have hfeed : RdFeed ⟨⟨A1, c1, acc1⟩, ⟨A2, c2, inp⟩, ⟨A3, c3, natsI acc3⟩, ⟨A4, c4, rnd⟩, ⟨A5, c5, natsI acc5⟩, ⟨A6, c6, acc6⟩⟩ ρg := by
            have k5 := lg
            have k4 := Hp.le_trans le k5
            have k3 := Hp.le_trans ld k4
            have k2 := Hp.le_trans lc k3
            have k1 := Hp.le_trans lb k2
            refine ⟨RdS.up _ _ _ _ _ _ _ k1 qa.rd, RdS.up _ _ _ _ _ _ _ k2 qb.rd, ?_, RdS.up _ _ _ _ _ _ _ k4 qd.rd, ?_, ⟨qg.rd, fun x hx => RdB.up _ _ _ (Hp.le_trans la k1) (ok13 x hx)⟩⟩
            · show RdS 1 A3 (natsI acc3).length c3 _ _
              rw [natsI_length]; exact RdS.up _ _ _ _ _ _ _ k3 qc.rd
            · show RdS 1 A5 (natsI acc5).length c5 _ _
              rw [natsI_length]; exact RdS.up _ _ _ _ _ _ _ k5 qe.rd
          have hcl : ∀ x ∈ natsI acc5, 0 ≤ x ∧ x < 4294967296 := fun x hx => by
            obtain ⟨y, hy, rfl⟩ := List.mem_map.1 hx
            have := ok9b y hy; omega
          have hp : FeedG.p ⟨⟨A1, c1, acc1⟩, ⟨A2, c2, inp⟩, ⟨A3, c3, natsI acc3⟩, ⟨A4, c4, rnd⟩, ⟨A5, c5, natsI acc5⟩, ⟨A6, c6, acc6⟩⟩ = F := hF.symm
          have hcells : FeedG.cells ⟨⟨A1, c1, acc1⟩, ⟨A2, c2, inp⟩, ⟨A3, c3, natsI acc3⟩, ⟨A4, c4, rnd⟩, ⟨A5, c5, natsI acc5⟩, ⟨A6, c6, acc6⟩⟩ = [.slice A1 acc1.length c1, .slice A2 inp.length c2, .slice A3 acc3.length c3, .slice A4 rnd.length c4, .slice A5 acc5.length c5, .slice A6 acc6.length c6] := by
            simp only [FeedG.cells, Sl.v, natsI_length]
          dsimp only [RdrPt]
          refine Cd.exit rfl hK24 ?_
          refine Cd.seq fun K31 hK31 => ?_
          refine Cd.seq fun K32 hK32 => ?_
          refine Cd.plain [(0, false), (1, false), (2, false), (3, false), (4, false), (5, false), (6, false), (7, false), (8, false), (9, false), (10, false), (11, false), (12, false), (13, false), (14, false), (15, false), (16, false)] rfl rfl ?_
          refine Jp.y 72 rfl (want_all rfl) rfl rfl Kp.true (Y.move rfl rfl) ?_
          refine Jp.y 73 rfl (want_all rfl) rfl rfl Kp.true (Y.nilCheck rfl rfl) ?_
          refine Jp.y 74 rfl (want_all rfl) rfl rfl Kp.true (by first | exact Y.fieldAddrP rfl rfl Try.underlying112 rfl Try.sizeOf4 (by decide) (show _ + 1 = _ from rfl) | exact Y.fieldAddr rfl rfl Try.underlying112 rfl Try.sizeOf4 (by decide)) ?_
          refine Jp.y 75 rfl (want_all rfl) rfl rfl Kp.true (by first | exact Y.loadO 12 rfl Try.isAgg4 rfl rfl rfl | exact Y.loadO 11 rfl Try.isAgg4 rfl rfl rfl | exact Y.loadO 10 rfl Try.isAgg4 rfl rfl rfl) ?_
          refine Jp.y 76 rfl (want_all rfl) rfl rfl Kp.true (Y.move rfl rfl) ?_
          refine Jp.split 76 rfl (fun g76 => ?_) (fun g76 => ?_)
          · skip
            have hnone : getP xs = none := by rw [hget, if_pos (.inl g76)]
            refine Jp.skip 77 rfl (want_as rfl rfl rfl rfl) rfl rfl Kp.true ?_
            refine Jp.skip 78 rfl (want_as rfl rfl rfl rfl) rfl rfl Kp.true ?_
            refine Jp.skip 79 rfl (want_as rfl rfl rfl rfl) rfl rfl Kp.true ?_
            refine Jp.skip 80 rfl (want_as rfl rfl rfl rfl) rfl rfl Kp.true ?_
            refine Jp.skip 81 rfl (want_as rfl rfl rfl rfl) rfl rfl Kp.true ?_
            refine Jp.skip 82 rfl (want_as rfl rfl rfl rfl) rfl rfl Kp.true ?_
            refine Jp.y 83 rfl (want_all rfl) rfl rfl Kp.true (Y.pickT rfl rfl rfl) ?_
            refine Jp.y 84 rfl (want_all rfl) rfl rfl Kp.true (Y.move rfl rfl) ?_
            refine Jp.skip 85 rfl (want_as rfl rfl rfl rfl) rfl rfl Kp.true ?_
            refine Jp.skip 86 rfl (want_as rfl rfl rfl rfl) rfl rfl Kp.true ?_
            refine Jp.skip 87 rfl (want_as rfl rfl rfl rfl) rfl rfl Kp.true ?_
            refine Jp.y 88 rfl (want_all rfl) rfl rfl Kp.true (Y.pickT rfl rfl rfl) ?_
            refine Jp.done hK32 ?_
            refine Cd.condT rfl ?_
            refine Cd.seq fun K33 hK33 => ?_
            refine Cd.plain [(0, false), (1, false), (2, false)] rfl rfl ?_
            refine Jp.y 89 rfl (want_all rfl) rfl rfl Kp.true (Y.struct [] [_, _, _, _, _, _] rfl rfl places35 Try.zeroValue35 rfl) ?_
            first | refine Jp.storeAgg 12 rfl (want_all rfl) rfl rfl Try.sizeOf35 rfl rfl rfl rfl rfl rfl (fun k _ _ => noFr0 k) Kp.true ?_ | refine Jp.storeAgg 11 rfl (want_all rfl) rfl rfl Try.sizeOf35 rfl rfl rfl rfl rfl rfl (fun k _ _ => noFr0 k) Kp.true ?_ | refine Jp.storeAgg 10 rfl (want_all rfl) rfl rfl Try.sizeOf35 rfl rfl rfl rfl rfl rfl (fun k _ _ => noFr0 k) Kp.true ?_
            refine Jp.y 3 rfl (want_all rfl) rfl rfl Kp.true (Y.assign rfl rfl) ?_
            refine Jp.done hK33 ?_
            refine Cd.imp (i := 10) rfl (fun _ h => (show Pt b10 (.cells (feedG0.cells).toArray 35) _ from h)) ?_
            refine Cd.ret [] rfl (by first | exact resC2 10 rfl rfl Try.isAgg35 Try.sizeOf35 rfl rfl rfl) trivial ?_
            have herr : getErr xs = 3 := getErr_none hnone
            exact ⟨feedG0, congrArg (fun e => Value.tuple #[.agg feedG0.cells.toArray, .int .i64 e]) herr.symm, rfl, RdFeed.none _, (by show feedG0.p = (getP xs).getD feedP0; rw [hnone]; rfl), by simp [feedG0]⟩
          try simp only [decide_eq_false_iff_not, decide_eq_true_eq, Int.not_lt, Int.not_le, Bool.not_eq_false, Bool.not_eq_true, Bool.not_true, Bool.not_false, Bool.not_eq_true', Bool.not_eq_false', beq_eq_false_iff_ne, ne_eq, beq_iff_eq, bne_iff_ne, bne_eq_false_iff_eq, Classical.not_not] at g76
          refine Jp.y 77 rfl (want_as rfl rfl rfl rfl) rfl rfl Kp.true (Y.move rfl rfl) ?_
          refine Jp.y 78 rfl (want_as rfl rfl rfl rfl) rfl rfl Kp.true (Y.nilCheck rfl rfl) ?_
          refine Jp.y 79 rfl (want_as rfl rfl rfl rfl) rfl rfl Kp.true (by first | exact Y.fieldAddrP rfl rfl Try.underlying112 rfl Try.sizeOf26 (by decide) (show _ + 0 = _ from rfl) | exact Y.fieldAddr rfl rfl Try.underlying112 rfl Try.sizeOf26 (by decide)) ?_
          refine Jp.y 80 rfl (want_as rfl rfl rfl rfl) rfl rfl Kp.true (by first | exact Y.loadO 12 rfl Try.isAgg26 rfl rfl rfl | exact Y.loadO 11 rfl Try.isAgg26 rfl rfl rfl | exact Y.loadO 10 rfl Try.isAgg26 rfl rfl rfl) ?_
          refine Jp.y 81 rfl (want_as rfl rfl rfl rfl) rfl rfl Kp.true (Y.lenslice rfl Try.underlying26 rfl) ?_
          refine Jp.y 82 rfl (want_as rfl rfl rfl rfl) rfl rfl Kp.true (Y.gtr rfl rfl rfl) ?_
          refine Jp.y 83 rfl (want_all rfl) rfl rfl Kp.true (Y.pickF rfl rfl rfl) ?_
          refine Jp.y 84 rfl (want_all rfl) rfl rfl Kp.true (Y.move rfl rfl) ?_
          refine Jp.split 84 rfl (fun g84 => ?_) (fun g84 => ?_)
          · skip
            have hnone : getP xs = none := by
              rw [hget, if_pos (.inr (.inl (fun h0 => by rw [h0] at g84; exact absurd g84 (by decide))))]
            refine Jp.skip 85 rfl (want_as rfl rfl rfl rfl) rfl rfl Kp.true ?_
            refine Jp.skip 86 rfl (want_as rfl rfl rfl rfl) rfl rfl Kp.true ?_
            refine Jp.skip 87 rfl (want_as rfl rfl rfl rfl) rfl rfl Kp.true ?_
            refine Jp.y 88 rfl (want_all rfl) rfl rfl Kp.true (Y.pickT rfl rfl rfl) ?_
            refine Jp.done hK32 ?_
            refine Cd.condT rfl ?_
            refine Cd.seq fun K34 hK34 => ?_
            refine Cd.plain [(0, false), (1, false), (2, false)] rfl rfl ?_
            refine Jp.y 89 rfl (want_all rfl) rfl rfl Kp.true (Y.struct [] [_, _, _, _, _, _] rfl rfl places35 Try.zeroValue35 rfl) ?_
            first | refine Jp.storeAgg 12 rfl (want_all rfl) rfl rfl Try.sizeOf35 rfl rfl rfl rfl rfl rfl (fun k _ _ => noFr0 k) Kp.true ?_ | refine Jp.storeAgg 11 rfl (want_all rfl) rfl rfl Try.sizeOf35 rfl rfl rfl rfl rfl rfl (fun k _ _ => noFr0 k) Kp.true ?_ | refine Jp.storeAgg 10 rfl (want_all rfl) rfl rfl Try.sizeOf35 rfl rfl rfl rfl rfl rfl (fun k _ _ => noFr0 k) Kp.true ?_
            refine Jp.y 3 rfl (want_all rfl) rfl rfl Kp.true (Y.assign rfl rfl) ?_
            refine Jp.done hK34 ?_
            refine Cd.imp (i := 10) rfl (fun _ h => (show Pt b10 (.cells (feedG0.cells).toArray 35) _ from h)) ?_
            refine Cd.ret [] rfl (by first | exact resC2 10 rfl rfl Try.isAgg35 Try.sizeOf35 rfl rfl rfl) trivial ?_
            have herr : getErr xs = 3 := getErr_none hnone
            exact ⟨feedG0, congrArg (fun e => Value.tuple #[.agg feedG0.cells.toArray, .int .i64 e]) herr.symm, rfl, RdFeed.none _, (by show feedG0.p = (getP xs).getD feedP0; rw [hnone]; rfl), by simp [feedG0]⟩
          try simp only [decide_eq_false_iff_not, decide_eq_true_eq, Int.not_lt, Int.not_le, Bool.not_eq_false, Bool.not_eq_true, Bool.not_true, Bool.not_false, Bool.not_eq_true', Bool.not_eq_false', beq_eq_false_iff_ne, ne_eq, beq_iff_eq, bne_iff_ne, bne_eq_false_iff_eq, Classical.not_not] at g84
          refine Jp.y 85 rfl (want_as rfl rfl rfl rfl) rfl rfl Kp.true (by first | exact Y.loadAggO 12 rfl Try.isAgg35 Try.sizeOf35 rfl rfl rfl | exact Y.loadAggO 11 rfl Try.isAgg35 Try.sizeOf35 rfl rfl rfl | exact Y.loadAggO 10 rfl Try.isAgg35 Try.sizeOf35 rfl rfl rfl) ?_
          have h2 : sf.xs = [] := List.length_eq_zero_iff.1 (by omega)
          refine Jp.slot 85 rfl (show _ = Value.agg (FeedG.cells ⟨⟨A1, c1, acc1⟩, ⟨A2, c2, inp⟩, ⟨A3, c3, natsI acc3⟩, ⟨A4, c4, rnd⟩, ⟨A5, c5, natsI acc5⟩, ⟨A6, c6, acc6⟩⟩).toArray by rw [hcells]) ?_
          refine Jp.call [] [] (f43_spec ⟨⟨A1, c1, acc1⟩, ⟨A2, c2, inp⟩, ⟨A3, c3, natsI acc3⟩, ⟨A4, c4, rnd⟩, ⟨A5, c5, natsI acc5⟩, ⟨A6, c6, acc6⟩⟩) 86 rfl (want_as rfl rfl rfl rfl) rfl rfl (Runs.fn rfl Try.call43 rfl) (by decide) (by decide) rfl hfeed ?_
          rintro v16 ρ16 L16 ⟨rfl, rfl, rfl⟩
          refine ⟨rfl, fun hle16 => ⟨Kp.true, ?_⟩⟩
          rw [hp]
          refine Jp.y 87 rfl (want_as rfl rfl rfl rfl) rfl rfl Kp.true (Y.not rfl rfl) ?_
          refine Jp.y 88 rfl (want_all rfl) rfl rfl Kp.true (Y.pickF rfl rfl rfl) ?_
          refine Jp.done hK32 ?_
          refine Cd.cond rfl (fun ge => ?_) (fun ge => ?_)
          · have hg : good F = false := by simpa using ge
            have hnone : getP xs = none := by rw [hget, if_pos (.inr (.inr hg))]
            refine Cd.seq fun K35 hK35 => ?_
            refine Cd.plain [(0, false), (1, false), (2, false)] rfl rfl ?_
            refine Jp.y 89 rfl (want_all rfl) rfl rfl Kp.true (Y.struct [] [_, _, _, _, _, _] rfl rfl places35 Try.zeroValue35 rfl) ?_
            first | refine Jp.storeAgg 12 rfl (want_all rfl) rfl rfl Try.sizeOf35 rfl rfl rfl rfl rfl rfl (fun k _ _ => noFr0 k) Kp.true ?_ | refine Jp.storeAgg 11 rfl (want_all rfl) rfl rfl Try.sizeOf35 rfl rfl rfl rfl rfl rfl (fun k _ _ => noFr0 k) Kp.true ?_ | refine Jp.storeAgg 10 rfl (want_all rfl) rfl rfl Try.sizeOf35 rfl rfl rfl rfl rfl rfl (fun k _ _ => noFr0 k) Kp.true ?_
            refine Jp.y 3 rfl (want_all rfl) rfl rfl Kp.true (Y.assign rfl rfl) ?_
            refine Jp.done hK35 ?_
            refine Cd.imp (i := 10) rfl (fun _ h => (show Pt b10 (.cells (feedG0.cells).toArray 35) _ from h)) ?_
            refine Cd.ret [] rfl (by first | exact resC2 10 rfl rfl Try.isAgg35 Try.sizeOf35 rfl rfl rfl) trivial ?_
            have herr : getErr xs = 3 := getErr_none hnone
            exact ⟨feedG0, congrArg (fun e => Value.tuple #[.agg feedG0.cells.toArray, .int .i64 e]) herr.symm, rfl, RdFeed.none _, (by show feedG0.p = (getP xs).getD feedP0; rw [hnone]; rfl), by simp [feedG0]⟩
          · have hg : good F = true := by simpa using ge
            have hsome : getP xs = some F := by rw [hget, if_neg (by simp only [not_or, Bool.not_eq_true, Bool.not_eq_false, ne_eq, Classical.not_not]; exact ⟨g76, h2, hg⟩)]
            refine Cd.skip hK31 ?_
            refine Cd.seq fun K36 hK36 => ?_
            refine Cd.plain [(0, false), (1, false), (2, false)] rfl rfl ?_
            refine Jp.y 90 rfl (want_all rfl) rfl rfl Kp.true (by first | exact Y.loadAggO 12 rfl Try.isAgg35 Try.sizeOf35 rfl rfl rfl | exact Y.loadAggO 11 rfl Try.isAgg35 Try.sizeOf35 rfl rfl rfl | exact Y.loadAggO 10 rfl Try.isAgg35 Try.sizeOf35 rfl rfl rfl) ?_
            first | refine Jp.storeAgg 12 rfl (want_all rfl) rfl rfl Try.sizeOf35 rfl rfl rfl rfl rfl rfl (fun k _ _ => noFr0 k) Kp.true ?_ | refine Jp.storeAgg 11 rfl (want_all rfl) rfl rfl Try.sizeOf35 rfl rfl rfl rfl rfl rfl (fun k _ _ => noFr0 k) Kp.true ?_ | refine Jp.storeAgg 10 rfl (want_all rfl) rfl rfl Try.sizeOf35 rfl rfl rfl rfl rfl rfl (fun k _ _ => noFr0 k) Kp.true ?_
            refine Jp.y 3 rfl (want_all rfl) rfl rfl Kp.true (Y.assign rfl rfl) ?_
            refine Jp.done hK36 ?_
            refine Cd.imp (i := 10) rfl (fun _ h => (show Pt b10 (.cells [.slice A1 acc1.length c1, .slice A2 inp.length c2, .slice A3 acc3.length c3, .slice A4 rnd.length c4, .slice A5 acc5.length c5, .slice A6 acc6.length c6].toArray 35) _ from h)) ?_
            have herr : getErr xs = 0 := getErr_some hsome
            refine Cd.ret [] rfl (by first | exact resC2 10 rfl rfl Try.isAgg35 Try.sizeOf35 rfl rfl rfl) trivial ?_
            refine ⟨_, ?_, rfl, hfeed, (by show _ = (getP xs).getD feedP0; rw [hsome, hp]; rfl), hcl⟩
            rw [hcells]
            exact congrArg (fun e => Value.tuple #[.agg (Array.mk _), .int .i64 e]) herr.symm
end Go.Proofs.Ytjjhihlmoecmlaa
