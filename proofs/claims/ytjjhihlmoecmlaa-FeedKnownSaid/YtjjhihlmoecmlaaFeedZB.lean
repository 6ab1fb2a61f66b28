/- Contract: the reference's GetFeed. -/
import Derived.Test.YtjjhihlmoecmlaaFeedZA
import Derived.Test.YtjjhihlmoecmlaaFeedV
import Derived.Test.YtjjhihlmoecmlaaFeedI
set_option linter.unusedVariables false
set_option linter.unusedSimpArgs false
set_option maxRecDepth 100000
namespace Go.Proofs.Ytjjhihlmoecmlaa
open Go
theorem manyR_step {α : Type} {f : PS → α × PS} {m i : Nat} {s0 cur t : PS} {acc : List α} {x : α} (h : manyR f m s0 = (acc ++ (manyR f (m - i) cur).1, (manyR f (m - i) cur).2)) (hi : i < m) (hb : cur.2 = false) (hx : f cur = (x, t)) : manyR f m s0 = ((acc ++ [x]) ++ (manyR f (m - (i + 1)) t).1, (manyR f (m - (i + 1)) t).2) := by
  obtain ⟨k, hk⟩ : ∃ k, m - i = k + 1 := ⟨m - i - 1, by omega⟩
  have hk2 : m - (i + 1) = k := by omega
  rw [hk] at h
  rw [hk2, h]
  have e : manyR f (k + 1) cur = (x :: (manyR f k t).1, (manyR f k t).2) := by
    show (if cur.2 then (([] : List α), cur) else bindP f (fun x => bindP (manyR f k) fun l => pureP (x :: l)) cur) = _
    rw [hb, if_neg (by simp)]
    unfold bindP pureP
    rw [hx]
  rw [e]
  simp
theorem manyR_end {α : Type} {f : PS → α × PS} {m i : Nat} {s0 cur : PS} {acc : List α} (h : manyR f m s0 = (acc ++ (manyR f (m - i) cur).1, (manyR f (m - i) cur).2)) (hi : m ≤ i ∨ cur.2 = true) : manyR f m s0 = (acc, cur) := by
  rcases hi with hi | hi
  · rw [show m - i = 0 by omega] at h
    rw [h]; simp [manyR, pureP]
  · have e : ∀ k, manyR f k cur = ([], cur) := fun k => by
      cases k with
      | zero => rfl
      | succ k =>
        show (if cur.2 then (([] : List α), cur) else _) = _
        rw [hi, if_pos rfl]
    rw [e] at h
    rw [h]; simp
theorem numR_lt (s : PS) : (numR s).1 < 4294967296 := by
  unfold numR
  split
  · show 0 < 4294967296; decide
  · have := leN_lt (s.1.take 4)
    rename_i h
    rw [List.length_take, Nat.min_eq_left (by simp at h; omega)] at this
    exact this
theorem textR_of {s t u : PS} {n : Nat} {x : Bytes} (h1 : numR s = (n, t)) (h2 : bytesR n t = (x, u)) : textR s = (x, u) := by
  unfold textR; rw [h1]; exact h2
theorem getR_none {b : Bytes} (h : getR b = none) : (getR b).isSome = false := by rw [h]; rfl
theorem getR_isSome {b : Bytes} {f : FeedP} (h : getR b = some f) : (getR b).isSome = true := by rw [h]; rfl
theorem getR_spec (s : Sl UInt8) (hs : s.xs.length ≤ 1000000) : Spec Try.prog 39 #[s.v] (RdB s) []
    (fun ρ ρ' v L => ∃ f : FeedG, v = .tuple #[.agg f.cells.toArray, .bool (getR s.xs).isSome] ∧ L = [] ∧ RdFeed f ρ' ∧ f.p = (getR s.xs).getD feedP0 ∧ (∀ x ∈ f.clock.xs, 0 ≤ x ∧ x < 4294967296)) := by
  obtain ⟨A, c, xs⟩ := s
  have hs : xs.length ≤ 1000000 := hs
  dsimp only [Sl.v]
  refine Spec.of 179 Try.func39 rfl Try.ntmps39 [(0, _)] rfl rfl ?_
  intro cx ρ hr h0
  refine Cd.seq fun K1 hK1 => ?_
  refine Cd.plain [(0, false), (1, false)] rfl rfl ?_
  refine Jp.alloc 10 2 rfl (want_all rfl) rfl rfl rfl Try.zeroValue30 fun b10 => ⟨Kp.true, ?_⟩
  refine Jp.y 3 rfl (want_all rfl) rfl rfl Kp.true (Y.assign rfl rfl) ?_
  refine Jp.done hK1 ?_
  refine Cd.seq fun K2 hK2 => ?_
  refine Cd.plain [(0, false), (1, false), (2, false), (3, false)] rfl rfl ?_
  refine Jp.y 15 rfl (want_all rfl) rfl rfl Kp.true (Y.move rfl rfl) ?_
  refine Jp.y 16 rfl (want_all rfl) rfl rfl Kp.true (Y.struct [(0, _)] [_, _, _] rfl rfl places115 Try.zeroValue115 rfl) ?_
  refine Jp.box 11 17 rfl (want_all rfl) rfl rfl rfl rfl fun b11 => ⟨Kp.true, ?_⟩
  refine Jp.y 4 rfl (want_all rfl) rfl rfl Kp.true (Y.assign rfl rfl) ?_
  refine Jp.done hK2 ?_
  refine Cd.seq fun K3 hK3 => ?_
  refine Cd.plain [(0, false), (1, false), (2, false)] rfl rfl ?_
  refine Jp.y 18 rfl (want_all rfl) rfl rfl Kp.true (Y.struct [] [_, _, _, _, _, _] rfl rfl places30 Try.zeroValue30 rfl) ?_
  refine Jp.alloc 12 5 rfl (want_all rfl) rfl rfl rfl Try.zeroValue30 fun b12 => ⟨Kp.true, ?_⟩
  first | refine Jp.storeAgg 12 rfl (want_all rfl) rfl rfl Try.sizeOf30 rfl rfl rfl rfl rfl rfl (fun k _ _ => noFr0 k) Kp.true ?_ | refine Jp.storeAgg 11 rfl (want_all rfl) rfl rfl Try.sizeOf30 rfl rfl rfl rfl rfl rfl (fun k _ _ => noFr0 k) Kp.true ?_ | refine Jp.storeAgg 10 rfl (want_all rfl) rfl rfl Try.sizeOf30 rfl rfl rfl rfl rfl rfl (fun k _ _ => noFr0 k) Kp.true ?_ | refine Jp.storeAgg 10 rfl (want_all rfl) rfl rfl Try.sizeOf30 rfl rfl rfl rfl rfl rfl (fun k _ _ => noFr0 k) Kp.true ?_ | refine Jp.storeAgg 11 rfl (want_all rfl) rfl rfl Try.sizeOf30 rfl rfl rfl rfl rfl rfl (fun k _ _ => noFr0 k) Kp.true ?_ | refine Jp.storeAgg 12 rfl (want_all rfl) rfl rfl Try.sizeOf30 rfl rfl rfl rfl rfl rfl (fun k _ _ => noFr0 k) Kp.true ?_
  refine Jp.done hK3 ?_
  refine Cd.seq fun K4 hK4 => ?_
  refine Cd.plain [(0, false), (1, false), (2, false)] rfl rfl ?_
  refine Jp.imp (j := 11) (A' := RdrR b11 ⟨A, c, xs⟩ 0 false) rfl (fun _ h => h) ?_
  refine Jp.y 19 rfl (want_all rfl) rfl rfl Kp.true (Y.move rfl rfl) ?_
  refine Jp.call [11] [11] (rnumR_spec b11 ⟨A, c, xs⟩ 0 false (Nat.zero_le _)) 20 rfl (want_all rfl) rfl rfl (Runs.fn rfl Try.call64 rfl) (by decide) (by decide) rfl hr ?_
  rintro v1 ρ1 L1 ⟨rfl, n1, p1, bad1, e1, hp1, rfl, rfl⟩
  refine ⟨rfl, fun hle1 => ⟨Kp.true, ?_⟩⟩
  have hn1 : n1 < 4294967296 := by have := numR_lt (xs.drop 0, false); rw [e1] at this; exact this
  dsimp only at hp1 e1
  refine Jp.y 6 rfl (want_all rfl) rfl rfl Kp.true (Y.assign rfl rfl) ?_
  refine Jp.done hK4 ?_
  refine Cd.seq fun K5 hK5 => ?_
  refine Cd.seq fun K6 hK6 => ?_
  refine Cd.plain [(0, false)] rfl rfl ?_
  refine Jp.y 7 rfl (want_all rfl) rfl rfl Kp.true (Y.assign rfl rfl) ?_
  refine Jp.done hK6 ?_
  refine Cd.block ?_
  refine Cd.make 13 (show OwnS 9 1 none 0 0 (strsV []) Hp.emp from OwnS.nil _ 1 Hp.emp) ?_
  refine Cd.joinG (G := List ByteArray × Option Addr × Nat × Nat × Bool) (fun g => manyR textR (min n1 20) (xs.drop p1, bad1) = (g.1.map str, (xs.drop g.2.2.2.1, g.2.2.2.2)) ∧ g.2.2.2.1 ≤ xs.length ∧ g.1.length ≤ 70) (fun g => []) [(0, _), (2, _), (4, _), (5, _), (6, _)] ⟨rfl, rfl, rfl, rfl, rfl, trivial⟩ (fun g => [(11, RdrR b11 ⟨A, c, xs⟩ g.2.2.2.1 g.2.2.2.2), (12, Pt b12 (.cells #[.slice g.2.1 g.1.length g.2.2.1, .slice none 0 0, .slice none 0 0, .slice none 0 0, .slice none 0 0, .slice none 0 0] 30)), (13, OwnS 9 1 g.2.1 g.1.length g.2.2.1 (strsV g.1))]) [(10, _)] ⟨rfl, trivial⟩ hK5 (fun g hφ => ?_) (fun hj1 => ?_)
  · obtain ⟨acc1, A1, c1, pa, bada⟩ := g
    obtain ⟨f1, ha1, hz1⟩ := hφ
    dsimp only at f1 ha1 hz1 ⊢
    refine Cd.seq fun K7 hK7 => ?_
    refine Cd.plain [(0, false), (1, false), (2, false), (3, false), (4, false), (5, false)] rfl rfl ?_
    refine Jp.y 47 rfl (want_all rfl) rfl rfl Kp.true (Y.move rfl rfl) ?_
    refine Jp.y 48 rfl (want_all rfl) rfl rfl Kp.true (Y.move rfl rfl) ?_
    refine Jp.call [11] [11] (rnumR_spec b11 ⟨A, c, xs⟩ pa bada ha1) 49 rfl (want_all rfl) rfl rfl (Runs.fn rfl Try.call64 rfl) (by decide) (by decide) rfl hr ?_
    rintro v2 ρ2 L2 ⟨rfl, m2, pb, badb, e2a, hpb, rfl, rfl⟩
    refine ⟨rfl, fun hle2 => ⟨Kp.true, ?_⟩⟩
    have hm2 : m2 < 4294967296 := by have := numR_lt (xs.drop pa, bada); rw [e2a] at this; exact this
    refine Jp.call [11] [11, 17] (rbytesR_spec b11 ⟨A, c, xs⟩ pb badb m2 hpb hs hm2) 50 rfl (want_all rfl) rfl rfl (Runs.fn rfl Try.call65 rfl) (by decide) (by decide) rfl hr ?_
    rintro v3 ρ3 L3 ⟨rfl, inp, p2, bad2, A2, c2, e2b, hp2, hin, rfl, rfl⟩
    refine ⟨rfl, fun hle3 => ⟨Kp.true, ?_⟩⟩
    have e2 := textR_of e2a e2b
    dsimp only at e2 hp2 hin
    refine Jp.y 51 rfl (want_all rfl) rfl rfl Kp.true (by first | exact Y.fieldAddrP rfl rfl Try.underlying30 rfl Try.sizeOf26 (by decide) (show _ + 1 = _ from rfl) | exact Y.fieldAddr rfl rfl Try.underlying30 rfl Try.sizeOf26 (by decide)) ?_
    first | refine Jp.store 12 rfl (want_all rfl) rfl rfl Try.sizeOf26 rfl rfl rfl rfl rfl rfl Kp.true ?_ | refine Jp.store 11 rfl (want_all rfl) rfl rfl Try.sizeOf26 rfl rfl rfl rfl rfl rfl Kp.true ?_
    refine Jp.done hK7 ?_
    refine Cd.seq fun K8 hK8 => ?_
    refine Cd.plain [(0, false), (1, false), (2, false)] rfl rfl ?_
    refine Jp.y 52 rfl (want_all rfl) rfl rfl Kp.true (Y.move rfl rfl) ?_
    refine Jp.call [11] [11] (rnumR_spec b11 ⟨A, c, xs⟩ p2 bad2 hp2) 53 rfl (want_all rfl) rfl rfl (Runs.fn rfl Try.call64 rfl) (by decide) (by decide) rfl hr ?_
    rintro v4 ρ4 L4 ⟨rfl, n3, p3, bad3, e3, hp3, rfl, rfl⟩
    refine ⟨rfl, fun hle4 => ⟨Kp.true, ?_⟩⟩
    have hn3 : n3 < 4294967296 := by have := numR_lt (xs.drop p2, bad2); rw [e3] at this; exact this
    dsimp only at e3 hp3
    refine Jp.y 8 rfl (want_all rfl) rfl rfl Kp.true (Y.assign rfl rfl) ?_
    refine Jp.done hK8 ?_
    refine Cd.seq fun K9 hK9 => ?_
    refine Cd.seq fun K10 hK10 => ?_
    refine Cd.plain [(0, false)] rfl rfl ?_
    refine Jp.y 9 rfl (want_all rfl) rfl rfl Kp.true (Y.assign rfl rfl) ?_
    refine Jp.done hK10 ?_
    refine Cd.block ?_
    refine Cd.make 18 (show OwnS 3 1 none 0 0 (intsV .i64 (natsI [])) Hp.emp from OwnS.nil _ 1 Hp.emp) ?_
    refine Cd.joinG (G := List Nat × Option Addr × Nat × Nat × Bool) (fun g => manyR numR (min n3 70) (xs.drop p3, bad3) = (g.1, (xs.drop g.2.2.2.1, g.2.2.2.2)) ∧ g.2.2.2.1 ≤ xs.length ∧ g.1.length ≤ 70) (fun g => []) [(0, _), (2, _), (4, _), (5, _), (6, _), (8, _)] ⟨rfl, rfl, rfl, rfl, rfl, rfl, trivial⟩ (fun g => [(11, RdrR b11 ⟨A, c, xs⟩ g.2.2.2.1 g.2.2.2.2), (12, Pt b12 (.cells #[.slice A1 acc1.length c1, .slice A2 inp.length c2, .slice g.2.1 g.1.length g.2.2.1, .slice none 0 0, .slice none 0 0, .slice none 0 0] 30)), (18, OwnS 3 1 g.2.1 g.1.length g.2.2.1 (intsV .i64 (natsI g.1)))]) [(10, _), (13, _), (17, _)] ⟨rfl, rfl, rfl, trivial⟩ hK9 (fun g hφ => ?_) (fun hj2 => ?_)
    · obtain ⟨acc3, A3, c3, pc, badc⟩ := g
      obtain ⟨f3, ha3, hz3⟩ := hφ
      dsimp only at f3 ha3 hz3 ⊢
      refine Cd.seq fun K11 hK11 => ?_
      refine Cd.plain [(0, false), (1, false), (2, false), (3, false), (4, false), (5, false)] rfl rfl ?_
      refine Jp.y 78 rfl (want_all rfl) rfl rfl Kp.true (Y.move rfl rfl) ?_
      refine Jp.y 79 rfl (want_all rfl) rfl rfl Kp.true (Y.move rfl rfl) ?_
      refine Jp.call [11] [11] (rnumR_spec b11 ⟨A, c, xs⟩ pc badc ha3) 80 rfl (want_all rfl) rfl rfl (Runs.fn rfl Try.call64 rfl) (by decide) (by decide) rfl hr ?_
      rintro v5 ρ5 L5 ⟨rfl, m4, pd, badd, e4a, hpd, rfl, rfl⟩
      refine ⟨rfl, fun hle5 => ⟨Kp.true, ?_⟩⟩
      have hm4 : m4 < 4294967296 := by have := numR_lt (xs.drop pc, badc); rw [e4a] at this; exact this
      refine Jp.call [11] [11, 19] (rbytesR_spec b11 ⟨A, c, xs⟩ pd badd m4 hpd hs hm4) 81 rfl (want_all rfl) rfl rfl (Runs.fn rfl Try.call65 rfl) (by decide) (by decide) rfl hr ?_
      rintro v6 ρ6 L6 ⟨rfl, rnd, p4, bad4, A4, c4, e4b, hp4, hrn, rfl, rfl⟩
      refine ⟨rfl, fun hle6 => ⟨Kp.true, ?_⟩⟩
      have e4 := textR_of e4a e4b
      dsimp only at e4 hp4 hrn
      refine Jp.y 82 rfl (want_all rfl) rfl rfl Kp.true (by first | exact Y.fieldAddrP rfl rfl Try.underlying30 rfl Try.sizeOf26 (by decide) (show _ + 3 = _ from rfl) | exact Y.fieldAddr rfl rfl Try.underlying30 rfl Try.sizeOf26 (by decide)) ?_
      first | refine Jp.store 12 rfl (want_all rfl) rfl rfl Try.sizeOf26 rfl rfl rfl rfl rfl rfl Kp.true ?_ | refine Jp.store 11 rfl (want_all rfl) rfl rfl Try.sizeOf26 rfl rfl rfl rfl rfl rfl Kp.true ?_
      refine Jp.done hK11 ?_
      refine Cd.seq fun K12 hK12 => ?_
      refine Cd.plain [(0, false), (1, false), (2, false)] rfl rfl ?_
      refine Jp.y 83 rfl (want_all rfl) rfl rfl Kp.true (Y.move rfl rfl) ?_
      refine Jp.call [11] [11] (rnumR_spec b11 ⟨A, c, xs⟩ p4 bad4 hp4) 84 rfl (want_all rfl) rfl rfl (Runs.fn rfl Try.call64 rfl) (by decide) (by decide) rfl hr ?_
      rintro v7 ρ7 L7 ⟨rfl, n5, p5, bad5, e5, hp5, rfl, rfl⟩
      refine ⟨rfl, fun hle7 => ⟨Kp.true, ?_⟩⟩
      have hn5 : n5 < 4294967296 := by have := numR_lt (xs.drop p4, bad4); rw [e5] at this; exact this
      dsimp only at e5 hp5
      refine Jp.y 10 rfl (want_all rfl) rfl rfl Kp.true (Y.assign rfl rfl) ?_
      refine Jp.done hK12 ?_
      refine Cd.seq fun K13 hK13 => ?_
      refine Cd.seq fun K14 hK14 => ?_
      refine Cd.plain [(0, false)] rfl rfl ?_
      refine Jp.y 11 rfl (want_all rfl) rfl rfl Kp.true (Y.assign rfl rfl) ?_
      refine Jp.done hK14 ?_
      refine Cd.block ?_
      refine Cd.make 20 (show OwnS 49 1 none 0 0 (intsV .u32 (natsI [])) Hp.emp from OwnS.nil _ 1 Hp.emp) ?_
      refine Cd.joinG (G := List Nat × Option Addr × Nat × Nat × Bool) (fun g => manyR numR (min n5 70) (xs.drop p5, bad5) = (g.1, (xs.drop g.2.2.2.1, g.2.2.2.2)) ∧ g.2.2.2.1 ≤ xs.length ∧ g.1.length ≤ 70 ∧ ∀ x ∈ g.1, x < 4294967296) (fun g => []) [(0, _), (2, _), (4, _), (5, _), (6, _), (8, _), (10, _)] ⟨rfl, rfl, rfl, rfl, rfl, rfl, rfl, trivial⟩ (fun g => [(11, RdrR b11 ⟨A, c, xs⟩ g.2.2.2.1 g.2.2.2.2), (12, Pt b12 (.cells #[.slice A1 acc1.length c1, .slice A2 inp.length c2, .slice A3 acc3.length c3, .slice A4 rnd.length c4, .slice g.2.1 g.1.length g.2.2.1, .slice none 0 0] 30)), (20, OwnS 49 1 g.2.1 g.1.length g.2.2.1 (intsV .u32 (natsI g.1)))]) [(10, _), (13, _), (17, _), (18, _), (19, _)] ⟨rfl, rfl, rfl, rfl, rfl, trivial⟩ hK13 (fun g hφ => ?_) (fun hj3 => ?_)
      · obtain ⟨acc5, A5, c5, pe, bade⟩ := g
        obtain ⟨f5, ha5, hz5, hw5⟩ := hφ
        dsimp only at f5 ha5 hz5 hw5 ⊢
        refine Cd.seq fun K15 hK15 => ?_
        refine Cd.plain [(0, false), (1, false), (2, false)] rfl rfl ?_
        refine Jp.y 108 rfl (want_all rfl) rfl rfl Kp.true (Y.move rfl rfl) ?_
        refine Jp.call [11] [11] (rnumR_spec b11 ⟨A, c, xs⟩ pe bade ha5) 109 rfl (want_all rfl) rfl rfl (Runs.fn rfl Try.call64 rfl) (by decide) (by decide) rfl hr ?_
        rintro v8 ρ8 L8 ⟨rfl, n6, p6, bad6, e6, hp6, rfl, rfl⟩
        refine ⟨rfl, fun hle8 => ⟨Kp.true, ?_⟩⟩
        have hn6 : n6 < 4294967296 := by have := numR_lt (xs.drop pe, bade); rw [e6] at this; exact this
        dsimp only at e6 hp6
        refine Jp.y 12 rfl (want_all rfl) rfl rfl Kp.true (Y.assign rfl rfl) ?_
        refine Jp.done hK15 ?_
        refine Cd.seq fun K16 hK16 => ?_
        refine Cd.seq fun K17 hK17 => ?_
        refine Cd.plain [(0, false)] rfl rfl ?_
        refine Jp.y 13 rfl (want_all rfl) rfl rfl Kp.true (Y.assign rfl rfl) ?_
        refine Jp.done hK17 ?_
        refine Cd.block ?_
        refine Cd.make 21 (show OwnS 93 2 none 0 0 (filesV []) Hp.emp from OwnS.nil _ 2 Hp.emp) ?_
        refine Cd.loopK (G := List FileG × Option Addr × Nat × Nat × Bool × Hp) (fun g => g.1.length ≤ min n6 20 ∧ manyR fileR (min n6 20) (xs.drop p6, bad6) = (g.1.map FileG.p ++ (manyR fileR (min n6 20 - g.1.length) (xs.drop g.2.2.2.1, g.2.2.2.2.1)).1, (manyR fileR (min n6 20 - g.1.length) (xs.drop g.2.2.2.1, g.2.2.2.2.1)).2) ∧ g.2.2.2.1 ≤ xs.length ∧ (∀ x ∈ g.1, RdB x.data g.2.2.2.2.2) ∧ ρ8.le g.2.2.2.2.2) (fun g => min n6 20 - g.1.length) (fun g => g.2.2.2.2.2) (fun g => [(13, .int .u32 (g.1.length : Int))]) [(0, _), (2, _), (4, _), (5, _), (6, _), (8, _), (10, _), (12, _)] (fun g => [(11, RdrR b11 ⟨A, c, xs⟩ g.2.2.2.1 g.2.2.2.2.1), (12, Pt b12 (.cells #[.slice A1 acc1.length c1, .slice A2 inp.length c2, .slice A3 acc3.length c3, .slice A4 rnd.length c4, .slice A5 acc5.length c5, .slice g.2.1 g.1.length g.2.2.1] 30)), (21, OwnS 93 2 g.2.1 g.1.length g.2.2.1 (filesV g.1))]) [(10, _), (13, _), (17, _), (18, _), (19, _), (20, _)] ⟨[], none, 0, p6, bad6, ρ8⟩ ⟨Nat.zero_le _, rfl, hp6, by simp, Hp.le_refl _⟩ rfl ⟨rfl, trivial⟩ ⟨rfl, rfl, rfl, rfl, rfl, rfl, rfl, rfl, trivial⟩ ⟨rfl, rfl, rfl, trivial⟩ ⟨rfl, rfl, rfl, rfl, rfl, rfl, trivial⟩ (fun g KLd hok hLd => ?_)
        obtain ⟨acc6, A6, c6, pf, badf, ρf⟩ := g
        obtain ⟨ok10, ok11, ok12, ok13, ok14⟩ := hok
        dsimp only at ok10 ok11 ok12 ok13 ok14 ⊢
        refine Cd.seq fun K18 hK18 => ?_
        refine Cd.seq fun K19 hK19 => ?_
        refine Cd.plain [(0, false), (1, false), (2, false), (3, false), (4, false), (5, false), (6, false), (7, false), (8, false), (9, false), (10, false), (11, false), (12, false), (13, false)] rfl rfl ?_
        refine Jp.y 110 rfl (want_all rfl) rfl rfl Kp.true (Y.move rfl rfl) ?_
        refine Jp.y 111 rfl (want_all rfl) rfl rfl Kp.true (Y.move rfl rfl) ?_
        refine Jp.y 112 rfl (want_all rfl) rfl rfl Kp.true (Y.lss rfl rfl rfl) ?_
        refine Jp.y 113 rfl (want_all rfl) rfl rfl Kp.true (Y.move rfl rfl) ?_
        refine Jp.splitF 113 rfl (fun g113 => ?_) (fun g113 => ?_)
        · skip
          have f6 := manyR_end ok11 (.inl (by simp only [decide_eq_false_iff_not] at g113; omega))
          refine Jp.skip 114 rfl (want_as rfl rfl rfl rfl) rfl rfl Kp.true ?_
          refine Jp.skip 115 rfl (want_as rfl rfl rfl rfl) rfl rfl Kp.true ?_
          refine Jp.y 116 rfl (want_all rfl) rfl rfl Kp.true (Y.pickF rfl rfl rfl) ?_
          refine Jp.y 117 rfl (want_all rfl) rfl rfl Kp.true (Y.move rfl rfl) ?_
          refine Jp.skip 118 rfl (want_as rfl rfl rfl rfl) rfl rfl Kp.true ?_
          refine Jp.skip 119 rfl (want_as rfl rfl rfl rfl) rfl rfl Kp.true ?_
          refine Jp.skip 120 rfl (want_as rfl rfl rfl rfl) rfl rfl Kp.true ?_
          refine Jp.skip 121 rfl (want_as rfl rfl rfl rfl) rfl rfl Kp.true ?_
          refine Jp.skip 122 rfl (want_as rfl rfl rfl rfl) rfl rfl Kp.true ?_
          refine Jp.y 123 rfl (want_all rfl) rfl rfl Kp.true (Y.pickF rfl rfl rfl) ?_
          refine Jp.done hK19 ?_
          refine Cd.condF rfl ?_
          refine Cd.exit rfl hK16 ?_
          refine Cd.seq fun K20 hK20 => ?_
          refine Cd.seq fun K21 hK21 => ?_
          refine Cd.plain [(0, false), (1, false), (2, false), (3, false), (4, false), (5, false), (6, false), (7, false), (8, false), (9, false), (10, false), (11, false), (12, false), (13, false), (14, false), (15, false), (16, false), (17, false), (18, false), (19, false), (20, false), (21, false), (22, false), (23, false), (24, false), (25, false), (26, false), (27, false), (28, false), (29, false), (30, false), (31, false), (32, false), (33, false)] rfl rfl ?_
          obtain ⟨F, hF⟩ : ∃ F : FeedP, F = { args := acc1.map str, input := inp, short := natsI acc3, random := rnd, clock := natsI acc5, files := acc6.map FileG.p } := ⟨_, rfl⟩
          have hall : feedRdR (xs, false) = (⟨F, n1, n3, n5, n6⟩, (xs.drop pf, badf)) := by
            unfold feedRdR bindP pureP
            rw [show (xs, false) = (xs.drop 0, false) from rfl, e1]; dsimp only; rw [f1]; dsimp only; rw [e2]; dsimp only; rw [e3]; dsimp only; rw [f3]; dsimp only; rw [e4]; dsimp only; rw [e5]; dsimp only; rw [f5]; dsimp only; rw [e6]; dsimp only; rw [f6, hF]
          have hget : getR xs = if badf = true ∨ xs.drop pf ≠ [] ∨ 16 < n1 ∨ 64 < n3 ∨ 64 < n5 ∨ 8 < n6 ∨ good F = false then none else some F := by rw [getR, hall]
          refine Jp.freeze (i := 13) rfl (OwnS.up _ _ _ _ _ _) fun ρa la qa => ?_
          refine Jp.freeze (i := 17) rfl (OwnS.up _ _ _ _ _ _) fun ρb lb qb => ?_
          refine Jp.freeze (i := 18) rfl (OwnS.up _ _ _ _ _ _) fun ρc lc qc => ?_
          refine Jp.freeze (i := 19) rfl (OwnS.up _ _ _ _ _ _) fun ρd ld qd => ?_
          refine Jp.freeze (i := 20) rfl (OwnS.up _ _ _ _ _ _) fun ρe le qe => ?_
          refine Jp.freeze (i := 21) rfl (OwnS.up _ _ _ _ _ _) fun ρg lg qg => ?_
          have hfeed : RdFeed ⟨⟨A1, c1, acc1⟩, ⟨A2, c2, inp⟩, ⟨A3, c3, natsI acc3⟩, ⟨A4, c4, rnd⟩, ⟨A5, c5, natsI acc5⟩, ⟨A6, c6, acc6⟩⟩ ρg := by
            have k5 := lg
            have k4 := Hp.le_trans le k5
            have k3 := Hp.le_trans ld k4
            have k2 := Hp.le_trans lc k3
            have k1 := Hp.le_trans lb k2
            refine ⟨RdS.up _ _ _ _ _ _ _ k1 qa.rd, RdS.up _ _ _ _ _ _ _ k2 qb.rd, ?_, RdS.up _ _ _ _ _ _ _ k4 qd.rd, ?_, ⟨qg.rd, fun x hx => RdB.up _ _ _ (Hp.le_trans la k1) (ok13 x hx)⟩⟩
            · show RdS 1 A3 (natsI acc3).length c3 _ _
              rw [natsI_length]; exact RdS.up _ _ _ _ _ _ _ k3 qc.rd
            · show RdS 1 A5 (natsI acc5).length c5 _ _
              rw [natsI_length]; exact RdS.up _ _ _ _ _ _ _ k5 qe.rd
          have hcl : ∀ x ∈ natsI acc5, 0 ≤ x ∧ x < 4294967296 := fun x hx => by
            obtain ⟨y, hy, rfl⟩ := List.mem_map.1 hx
            have := hw5 y hy; omega
          have hp : FeedG.p ⟨⟨A1, c1, acc1⟩, ⟨A2, c2, inp⟩, ⟨A3, c3, natsI acc3⟩, ⟨A4, c4, rnd⟩, ⟨A5, c5, natsI acc5⟩, ⟨A6, c6, acc6⟩⟩ = F := hF.symm
          have hcells : FeedG.cells ⟨⟨A1, c1, acc1⟩, ⟨A2, c2, inp⟩, ⟨A3, c3, natsI acc3⟩, ⟨A4, c4, rnd⟩, ⟨A5, c5, natsI acc5⟩, ⟨A6, c6, acc6⟩⟩ = [.slice A1 acc1.length c1, .slice A2 inp.length c2, .slice A3 acc3.length c3, .slice A4 rnd.length c4, .slice A5 acc5.length c5, .slice A6 acc6.length c6] := by
            simp only [FeedG.cells, Sl.v, natsI_length]
          dsimp only [RdrR]
          refine Jp.y 143 rfl (want_all rfl) rfl rfl Kp.true (Y.move rfl rfl) ?_
          refine Jp.y 144 rfl (want_all rfl) rfl rfl Kp.true (Y.nilCheck rfl rfl) ?_
          refine Jp.y 145 rfl (want_all rfl) rfl rfl Kp.true (by first | exact Y.fieldAddrP rfl rfl Try.underlying115 rfl Try.sizeOf4 (by decide) (show _ + 2 = _ from rfl) | exact Y.fieldAddr rfl rfl Try.underlying115 rfl Try.sizeOf4 (by decide)) ?_
          refine Jp.y 146 rfl (want_all rfl) rfl rfl Kp.true (by first | exact Y.loadO 12 rfl Try.isAgg4 rfl rfl rfl | exact Y.loadO 11 rfl Try.isAgg4 rfl rfl rfl | exact Y.loadO 10 rfl Try.isAgg4 rfl rfl rfl) ?_
          refine Jp.y 147 rfl (want_all rfl) rfl rfl Kp.true (Y.move rfl rfl) ?_
          refine Jp.split 147 rfl (fun g147 => ?_) (fun g147 => ?_)
          · skip
            have hnone : getR xs = none := by rw [hget, if_pos (.inl g147)]
            refine Jp.skip 148 rfl (want_as rfl rfl rfl rfl) rfl rfl Kp.true ?_
            refine Jp.skip 149 rfl (want_as rfl rfl rfl rfl) rfl rfl Kp.true ?_
            refine Jp.skip 150 rfl (want_as rfl rfl rfl rfl) rfl rfl Kp.true ?_
            refine Jp.skip 151 rfl (want_as rfl rfl rfl rfl) rfl rfl Kp.true ?_
            refine Jp.skip 152 rfl (want_as rfl rfl rfl rfl) rfl rfl Kp.true ?_
            refine Jp.skip 153 rfl (want_as rfl rfl rfl rfl) rfl rfl Kp.true ?_
            refine Jp.skip 154 rfl (want_as rfl rfl rfl rfl) rfl rfl Kp.true ?_
            refine Jp.y 155 rfl (want_all rfl) rfl rfl Kp.true (Y.pickT rfl rfl rfl) ?_
            refine Jp.y 156 rfl (want_all rfl) rfl rfl Kp.true (Y.move rfl rfl) ?_
            refine Jp.skip 157 rfl (want_as rfl rfl rfl rfl) rfl rfl Kp.true ?_
            refine Jp.skip 158 rfl (want_as rfl rfl rfl rfl) rfl rfl Kp.true ?_
            refine Jp.y 159 rfl (want_all rfl) rfl rfl Kp.true (Y.pickT rfl rfl rfl) ?_
            refine Jp.y 160 rfl (want_all rfl) rfl rfl Kp.true (Y.move rfl rfl) ?_
            refine Jp.skip 161 rfl (want_as rfl rfl rfl rfl) rfl rfl Kp.true ?_
            refine Jp.skip 162 rfl (want_as rfl rfl rfl rfl) rfl rfl Kp.true ?_
            refine Jp.y 163 rfl (want_all rfl) rfl rfl Kp.true (Y.pickT rfl rfl rfl) ?_
            refine Jp.y 164 rfl (want_all rfl) rfl rfl Kp.true (Y.move rfl rfl) ?_
            refine Jp.skip 165 rfl (want_as rfl rfl rfl rfl) rfl rfl Kp.true ?_
            refine Jp.skip 166 rfl (want_as rfl rfl rfl rfl) rfl rfl Kp.true ?_
            refine Jp.y 167 rfl (want_all rfl) rfl rfl Kp.true (Y.pickT rfl rfl rfl) ?_
            refine Jp.y 168 rfl (want_all rfl) rfl rfl Kp.true (Y.move rfl rfl) ?_
            refine Jp.skip 169 rfl (want_as rfl rfl rfl rfl) rfl rfl Kp.true ?_
            refine Jp.skip 170 rfl (want_as rfl rfl rfl rfl) rfl rfl Kp.true ?_
            refine Jp.y 171 rfl (want_all rfl) rfl rfl Kp.true (Y.pickT rfl rfl rfl) ?_
            refine Jp.y 172 rfl (want_all rfl) rfl rfl Kp.true (Y.move rfl rfl) ?_
            refine Jp.skip 173 rfl (want_as rfl rfl rfl rfl) rfl rfl Kp.true ?_
            refine Jp.skip 174 rfl (want_as rfl rfl rfl rfl) rfl rfl Kp.true ?_
            refine Jp.skip 175 rfl (want_as rfl rfl rfl rfl) rfl rfl Kp.true ?_
            refine Jp.y 176 rfl (want_all rfl) rfl rfl Kp.true (Y.pickT rfl rfl rfl) ?_
            refine Jp.done hK21 ?_
            refine Cd.condT rfl ?_
            refine Cd.seq fun K22 hK22 => ?_
            refine Cd.plain [(0, false), (1, false), (2, false)] rfl rfl ?_
            refine Jp.y 177 rfl (want_all rfl) rfl rfl Kp.true (Y.struct [] [_, _, _, _, _, _] rfl rfl places30 Try.zeroValue30 rfl) ?_
            first | refine Jp.storeAgg 12 rfl (want_all rfl) rfl rfl Try.sizeOf30 rfl rfl rfl rfl rfl rfl (fun k _ _ => noFr0 k) Kp.true ?_ | refine Jp.storeAgg 11 rfl (want_all rfl) rfl rfl Try.sizeOf30 rfl rfl rfl rfl rfl rfl (fun k _ _ => noFr0 k) Kp.true ?_ | refine Jp.storeAgg 10 rfl (want_all rfl) rfl rfl Try.sizeOf30 rfl rfl rfl rfl rfl rfl (fun k _ _ => noFr0 k) Kp.true ?_
            refine Jp.y 3 rfl (want_all rfl) rfl rfl Kp.true (Y.assign rfl rfl) ?_
            refine Jp.done hK22 ?_
            refine Cd.imp (i := 10) rfl (fun _ h => (show Pt b10 (.cells (feedG0.cells).toArray 30) _ from h)) ?_
            refine Cd.ret [] rfl (by first | exact resC2 10 rfl rfl Try.isAgg30 Try.sizeOf30 rfl rfl rfl) trivial ?_
            exact ⟨feedG0, congrArg (fun e => Value.tuple #[.agg feedG0.cells.toArray, .bool e]) (getR_none hnone).symm, rfl, RdFeed.none _, (by show feedG0.p = (getR xs).getD feedP0; rw [hnone]; rfl), by simp [feedG0]⟩
          try simp only [decide_eq_false_iff_not, decide_eq_true_eq, Int.not_lt, Int.not_le, Bool.not_eq_false, Bool.not_eq_true, Bool.not_true, Bool.not_false, Bool.not_eq_true', Bool.not_eq_false', beq_eq_false_iff_ne, ne_eq, beq_iff_eq, bne_iff_ne, bne_eq_false_iff_eq, Classical.not_not] at g147
          refine Jp.y 148 rfl (want_as rfl rfl rfl rfl) rfl rfl Kp.true (Y.move rfl rfl) ?_
          refine Jp.y 149 rfl (want_as rfl rfl rfl rfl) rfl rfl Kp.true (Y.nilCheck rfl rfl) ?_
          refine Jp.y 150 rfl (want_as rfl rfl rfl rfl) rfl rfl Kp.true (by first | exact Y.fieldAddrP rfl rfl Try.underlying115 rfl Try.sizeOf3 (by decide) (show _ + 1 = _ from rfl) | exact Y.fieldAddr rfl rfl Try.underlying115 rfl Try.sizeOf3 (by decide)) ?_
          refine Jp.y 151 rfl (want_as rfl rfl rfl rfl) rfl rfl Kp.true (by first | exact Y.loadO 12 rfl Try.isAgg3 rfl rfl rfl | exact Y.loadO 11 rfl Try.isAgg3 rfl rfl rfl | exact Y.loadO 10 rfl Try.isAgg3 rfl rfl rfl) ?_
          refine Jp.y 152 rfl (want_as rfl rfl rfl rfl) rfl rfl Kp.true (Y.move rfl rfl) ?_
          refine Jp.y 153 rfl (want_as rfl rfl rfl rfl) rfl rfl Kp.true (Y.lenslice rfl Try.underlying26 rfl) ?_
          refine Jp.y 154 rfl (want_as rfl rfl rfl rfl) rfl rfl Kp.true (Y.neq rfl rfl rfl) ?_
          refine Jp.y 155 rfl (want_all rfl) rfl rfl Kp.true (Y.pickF rfl rfl rfl) ?_
          refine Jp.y 156 rfl (want_all rfl) rfl rfl Kp.true (Y.move rfl rfl) ?_
          refine Jp.split 156 rfl (fun g156 => ?_) (fun g156 => ?_)
          · skip
            have hne : xs.drop pf ≠ [] := by
              intro h0
              have h5 := congrArg List.length h0
              rw [List.length_drop, List.length_nil] at h5
              have h6 : (pf : Int) ≠ (xs.length : Int) := by simpa using g156
              omega
            have hnone : getR xs = none := by rw [hget, if_pos (.inr (.inl hne))]
            refine Jp.skip 157 rfl (want_as rfl rfl rfl rfl) rfl rfl Kp.true ?_
            refine Jp.skip 158 rfl (want_as rfl rfl rfl rfl) rfl rfl Kp.true ?_
            refine Jp.y 159 rfl (want_all rfl) rfl rfl Kp.true (Y.pickT rfl rfl rfl) ?_
            refine Jp.y 160 rfl (want_all rfl) rfl rfl Kp.true (Y.move rfl rfl) ?_
            refine Jp.skip 161 rfl (want_as rfl rfl rfl rfl) rfl rfl Kp.true ?_
            refine Jp.skip 162 rfl (want_as rfl rfl rfl rfl) rfl rfl Kp.true ?_
            refine Jp.y 163 rfl (want_all rfl) rfl rfl Kp.true (Y.pickT rfl rfl rfl) ?_
            refine Jp.y 164 rfl (want_all rfl) rfl rfl Kp.true (Y.move rfl rfl) ?_
            refine Jp.skip 165 rfl (want_as rfl rfl rfl rfl) rfl rfl Kp.true ?_
            refine Jp.skip 166 rfl (want_as rfl rfl rfl rfl) rfl rfl Kp.true ?_
            refine Jp.y 167 rfl (want_all rfl) rfl rfl Kp.true (Y.pickT rfl rfl rfl) ?_
            refine Jp.y 168 rfl (want_all rfl) rfl rfl Kp.true (Y.move rfl rfl) ?_
            refine Jp.skip 169 rfl (want_as rfl rfl rfl rfl) rfl rfl Kp.true ?_
            refine Jp.skip 170 rfl (want_as rfl rfl rfl rfl) rfl rfl Kp.true ?_
            refine Jp.y 171 rfl (want_all rfl) rfl rfl Kp.true (Y.pickT rfl rfl rfl) ?_
            refine Jp.y 172 rfl (want_all rfl) rfl rfl Kp.true (Y.move rfl rfl) ?_
            refine Jp.skip 173 rfl (want_as rfl rfl rfl rfl) rfl rfl Kp.true ?_
            refine Jp.skip 174 rfl (want_as rfl rfl rfl rfl) rfl rfl Kp.true ?_
            refine Jp.skip 175 rfl (want_as rfl rfl rfl rfl) rfl rfl Kp.true ?_
            refine Jp.y 176 rfl (want_all rfl) rfl rfl Kp.true (Y.pickT rfl rfl rfl) ?_
            refine Jp.done hK21 ?_
            refine Cd.condT rfl ?_
            refine Cd.seq fun K23 hK23 => ?_
            refine Cd.plain [(0, false), (1, false), (2, false)] rfl rfl ?_
            refine Jp.y 177 rfl (want_all rfl) rfl rfl Kp.true (Y.struct [] [_, _, _, _, _, _] rfl rfl places30 Try.zeroValue30 rfl) ?_
            first | refine Jp.storeAgg 12 rfl (want_all rfl) rfl rfl Try.sizeOf30 rfl rfl rfl rfl rfl rfl (fun k _ _ => noFr0 k) Kp.true ?_ | refine Jp.storeAgg 11 rfl (want_all rfl) rfl rfl Try.sizeOf30 rfl rfl rfl rfl rfl rfl (fun k _ _ => noFr0 k) Kp.true ?_ | refine Jp.storeAgg 10 rfl (want_all rfl) rfl rfl Try.sizeOf30 rfl rfl rfl rfl rfl rfl (fun k _ _ => noFr0 k) Kp.true ?_
            refine Jp.y 3 rfl (want_all rfl) rfl rfl Kp.true (Y.assign rfl rfl) ?_
            refine Jp.done hK23 ?_
            refine Cd.imp (i := 10) rfl (fun _ h => (show Pt b10 (.cells (feedG0.cells).toArray 30) _ from h)) ?_
            refine Cd.ret [] rfl (by first | exact resC2 10 rfl rfl Try.isAgg30 Try.sizeOf30 rfl rfl rfl) trivial ?_
            exact ⟨feedG0, congrArg (fun e => Value.tuple #[.agg feedG0.cells.toArray, .bool e]) (getR_none hnone).symm, rfl, RdFeed.none _, (by show feedG0.p = (getR xs).getD feedP0; rw [hnone]; rfl), by simp [feedG0]⟩
          try simp only [decide_eq_false_iff_not, decide_eq_true_eq, Int.not_lt, Int.not_le, Bool.not_eq_false, Bool.not_eq_true, Bool.not_true, Bool.not_false, Bool.not_eq_true', Bool.not_eq_false', beq_eq_false_iff_ne, ne_eq, beq_iff_eq, bne_iff_ne, bne_eq_false_iff_eq, Classical.not_not] at g156
          refine Jp.y 157 rfl (want_as rfl rfl rfl rfl) rfl rfl Kp.true (Y.move rfl rfl) ?_
          refine Jp.y 158 rfl (want_as rfl rfl rfl rfl) rfl rfl Kp.true (Y.gtr rfl rfl rfl) ?_
          refine Jp.y 159 rfl (want_all rfl) rfl rfl Kp.true (Y.pickF rfl rfl rfl) ?_
          refine Jp.y 160 rfl (want_all rfl) rfl rfl Kp.true (Y.move rfl rfl) ?_
          refine Jp.split 160 rfl (fun g160 => ?_) (fun g160 => ?_)
          · skip
            have hnone : getR xs = none := by rw [hget, if_pos (.inr (.inr (.inl (by simp only [decide_eq_true_eq] at g160; omega))))]
            refine Jp.skip 161 rfl (want_as rfl rfl rfl rfl) rfl rfl Kp.true ?_
            refine Jp.skip 162 rfl (want_as rfl rfl rfl rfl) rfl rfl Kp.true ?_
            refine Jp.y 163 rfl (want_all rfl) rfl rfl Kp.true (Y.pickT rfl rfl rfl) ?_
            refine Jp.y 164 rfl (want_all rfl) rfl rfl Kp.true (Y.move rfl rfl) ?_
            refine Jp.skip 165 rfl (want_as rfl rfl rfl rfl) rfl rfl Kp.true ?_
            refine Jp.skip 166 rfl (want_as rfl rfl rfl rfl) rfl rfl Kp.true ?_
            refine Jp.y 167 rfl (want_all rfl) rfl rfl Kp.true (Y.pickT rfl rfl rfl) ?_
            refine Jp.y 168 rfl (want_all rfl) rfl rfl Kp.true (Y.move rfl rfl) ?_
            refine Jp.skip 169 rfl (want_as rfl rfl rfl rfl) rfl rfl Kp.true ?_
            refine Jp.skip 170 rfl (want_as rfl rfl rfl rfl) rfl rfl Kp.true ?_
            refine Jp.y 171 rfl (want_all rfl) rfl rfl Kp.true (Y.pickT rfl rfl rfl) ?_
            refine Jp.y 172 rfl (want_all rfl) rfl rfl Kp.true (Y.move rfl rfl) ?_
            refine Jp.skip 173 rfl (want_as rfl rfl rfl rfl) rfl rfl Kp.true ?_
            refine Jp.skip 174 rfl (want_as rfl rfl rfl rfl) rfl rfl Kp.true ?_
            refine Jp.skip 175 rfl (want_as rfl rfl rfl rfl) rfl rfl Kp.true ?_
            refine Jp.y 176 rfl (want_all rfl) rfl rfl Kp.true (Y.pickT rfl rfl rfl) ?_
            refine Jp.done hK21 ?_
            refine Cd.condT rfl ?_
            refine Cd.seq fun K24 hK24 => ?_
            refine Cd.plain [(0, false), (1, false), (2, false)] rfl rfl ?_
            refine Jp.y 177 rfl (want_all rfl) rfl rfl Kp.true (Y.struct [] [_, _, _, _, _, _] rfl rfl places30 Try.zeroValue30 rfl) ?_
            first | refine Jp.storeAgg 12 rfl (want_all rfl) rfl rfl Try.sizeOf30 rfl rfl rfl rfl rfl rfl (fun k _ _ => noFr0 k) Kp.true ?_ | refine Jp.storeAgg 11 rfl (want_all rfl) rfl rfl Try.sizeOf30 rfl rfl rfl rfl rfl rfl (fun k _ _ => noFr0 k) Kp.true ?_ | refine Jp.storeAgg 10 rfl (want_all rfl) rfl rfl Try.sizeOf30 rfl rfl rfl rfl rfl rfl (fun k _ _ => noFr0 k) Kp.true ?_
            refine Jp.y 3 rfl (want_all rfl) rfl rfl Kp.true (Y.assign rfl rfl) ?_
            refine Jp.done hK24 ?_
            refine Cd.imp (i := 10) rfl (fun _ h => (show Pt b10 (.cells (feedG0.cells).toArray 30) _ from h)) ?_
            refine Cd.ret [] rfl (by first | exact resC2 10 rfl rfl Try.isAgg30 Try.sizeOf30 rfl rfl rfl) trivial ?_
            exact ⟨feedG0, congrArg (fun e => Value.tuple #[.agg feedG0.cells.toArray, .bool e]) (getR_none hnone).symm, rfl, RdFeed.none _, (by show feedG0.p = (getR xs).getD feedP0; rw [hnone]; rfl), by simp [feedG0]⟩
          try simp only [decide_eq_false_iff_not, decide_eq_true_eq, Int.not_lt, Int.not_le, Bool.not_eq_false, Bool.not_eq_true, Bool.not_true, Bool.not_false, Bool.not_eq_true', Bool.not_eq_false', beq_eq_false_iff_ne, ne_eq, beq_iff_eq, bne_iff_ne, bne_eq_false_iff_eq, Classical.not_not] at g160
          refine Jp.y 161 rfl (want_as rfl rfl rfl rfl) rfl rfl Kp.true (Y.move rfl rfl) ?_
          refine Jp.y 162 rfl (want_as rfl rfl rfl rfl) rfl rfl Kp.true (Y.gtr rfl rfl rfl) ?_
          refine Jp.y 163 rfl (want_all rfl) rfl rfl Kp.true (Y.pickF rfl rfl rfl) ?_
          refine Jp.y 164 rfl (want_all rfl) rfl rfl Kp.true (Y.move rfl rfl) ?_
          refine Jp.split 164 rfl (fun g164 => ?_) (fun g164 => ?_)
          · skip
            have hnone : getR xs = none := by rw [hget, if_pos (.inr (.inr (.inr (.inl (by simp only [decide_eq_true_eq] at g164; omega)))))]
            refine Jp.skip 165 rfl (want_as rfl rfl rfl rfl) rfl rfl Kp.true ?_
            refine Jp.skip 166 rfl (want_as rfl rfl rfl rfl) rfl rfl Kp.true ?_
            refine Jp.y 167 rfl (want_all rfl) rfl rfl Kp.true (Y.pickT rfl rfl rfl) ?_
            refine Jp.y 168 rfl (want_all rfl) rfl rfl Kp.true (Y.move rfl rfl) ?_
            refine Jp.skip 169 rfl (want_as rfl rfl rfl rfl) rfl rfl Kp.true ?_
            refine Jp.skip 170 rfl (want_as rfl rfl rfl rfl) rfl rfl Kp.true ?_
            refine Jp.y 171 rfl (want_all rfl) rfl rfl Kp.true (Y.pickT rfl rfl rfl) ?_
            refine Jp.y 172 rfl (want_all rfl) rfl rfl Kp.true (Y.move rfl rfl) ?_
            refine Jp.skip 173 rfl (want_as rfl rfl rfl rfl) rfl rfl Kp.true ?_
            refine Jp.skip 174 rfl (want_as rfl rfl rfl rfl) rfl rfl Kp.true ?_
            refine Jp.skip 175 rfl (want_as rfl rfl rfl rfl) rfl rfl Kp.true ?_
            refine Jp.y 176 rfl (want_all rfl) rfl rfl Kp.true (Y.pickT rfl rfl rfl) ?_
            refine Jp.done hK21 ?_
            refine Cd.condT rfl ?_
            refine Cd.seq fun K25 hK25 => ?_
            refine Cd.plain [(0, false), (1, false), (2, false)] rfl rfl ?_
            refine Jp.y 177 rfl (want_all rfl) rfl rfl Kp.true (Y.struct [] [_, _, _, _, _, _] rfl rfl places30 Try.zeroValue30 rfl) ?_
            first | refine Jp.storeAgg 12 rfl (want_all rfl) rfl rfl Try.sizeOf30 rfl rfl rfl rfl rfl rfl (fun k _ _ => noFr0 k) Kp.true ?_ | refine Jp.storeAgg 11 rfl (want_all rfl) rfl rfl Try.sizeOf30 rfl rfl rfl rfl rfl rfl (fun k _ _ => noFr0 k) Kp.true ?_ | refine Jp.storeAgg 10 rfl (want_all rfl) rfl rfl Try.sizeOf30 rfl rfl rfl rfl rfl rfl (fun k _ _ => noFr0 k) Kp.true ?_
            refine Jp.y 3 rfl (want_all rfl) rfl rfl Kp.true (Y.assign rfl rfl) ?_
            refine Jp.done hK25 ?_
            refine Cd.imp (i := 10) rfl (fun _ h => (show Pt b10 (.cells (feedG0.cells).toArray 30) _ from h)) ?_
            refine Cd.ret [] rfl (by first | exact resC2 10 rfl rfl Try.isAgg30 Try.sizeOf30 rfl rfl rfl) trivial ?_
            exact ⟨feedG0, congrArg (fun e => Value.tuple #[.agg feedG0.cells.toArray, .bool e]) (getR_none hnone).symm, rfl, RdFeed.none _, (by show feedG0.p = (getR xs).getD feedP0; rw [hnone]; rfl), by simp [feedG0]⟩
          try simp only [decide_eq_false_iff_not, decide_eq_true_eq, Int.not_lt, Int.not_le, Bool.not_eq_false, Bool.not_eq_true, Bool.not_true, Bool.not_false, Bool.not_eq_true', Bool.not_eq_false', beq_eq_false_iff_ne, ne_eq, beq_iff_eq, bne_iff_ne, bne_eq_false_iff_eq, Classical.not_not] at g164
          refine Jp.y 165 rfl (want_as rfl rfl rfl rfl) rfl rfl Kp.true (Y.move rfl rfl) ?_
          refine Jp.y 166 rfl (want_as rfl rfl rfl rfl) rfl rfl Kp.true (Y.gtr rfl rfl rfl) ?_
          refine Jp.y 167 rfl (want_all rfl) rfl rfl Kp.true (Y.pickF rfl rfl rfl) ?_
          refine Jp.y 168 rfl (want_all rfl) rfl rfl Kp.true (Y.move rfl rfl) ?_
          refine Jp.split 168 rfl (fun g168 => ?_) (fun g168 => ?_)
          · skip
            have hnone : getR xs = none := by rw [hget, if_pos (.inr (.inr (.inr (.inr (.inl (by simp only [decide_eq_true_eq] at g168; omega))))))]
            refine Jp.skip 169 rfl (want_as rfl rfl rfl rfl) rfl rfl Kp.true ?_
            refine Jp.skip 170 rfl (want_as rfl rfl rfl rfl) rfl rfl Kp.true ?_
            refine Jp.y 171 rfl (want_all rfl) rfl rfl Kp.true (Y.pickT rfl rfl rfl) ?_
            refine Jp.y 172 rfl (want_all rfl) rfl rfl Kp.true (Y.move rfl rfl) ?_
            refine Jp.skip 173 rfl (want_as rfl rfl rfl rfl) rfl rfl Kp.true ?_
            refine Jp.skip 174 rfl (want_as rfl rfl rfl rfl) rfl rfl Kp.true ?_
            refine Jp.skip 175 rfl (want_as rfl rfl rfl rfl) rfl rfl Kp.true ?_
            refine Jp.y 176 rfl (want_all rfl) rfl rfl Kp.true (Y.pickT rfl rfl rfl) ?_
            refine Jp.done hK21 ?_
            refine Cd.condT rfl ?_
            refine Cd.seq fun K26 hK26 => ?_
            refine Cd.plain [(0, false), (1, false), (2, false)] rfl rfl ?_
            refine Jp.y 177 rfl (want_all rfl) rfl rfl Kp.true (Y.struct [] [_, _, _, _, _, _] rfl rfl places30 Try.zeroValue30 rfl) ?_
            first | refine Jp.storeAgg 12 rfl (want_all rfl) rfl rfl Try.sizeOf30 rfl rfl rfl rfl rfl rfl (fun k _ _ => noFr0 k) Kp.true ?_ | refine Jp.storeAgg 11 rfl (want_all rfl) rfl rfl Try.sizeOf30 rfl rfl rfl rfl rfl rfl (fun k _ _ => noFr0 k) Kp.true ?_ | refine Jp.storeAgg 10 rfl (want_all rfl) rfl rfl Try.sizeOf30 rfl rfl rfl rfl rfl rfl (fun k _ _ => noFr0 k) Kp.true ?_
            refine Jp.y 3 rfl (want_all rfl) rfl rfl Kp.true (Y.assign rfl rfl) ?_
            refine Jp.done hK26 ?_
            refine Cd.imp (i := 10) rfl (fun _ h => (show Pt b10 (.cells (feedG0.cells).toArray 30) _ from h)) ?_
            refine Cd.ret [] rfl (by first | exact resC2 10 rfl rfl Try.isAgg30 Try.sizeOf30 rfl rfl rfl) trivial ?_
            exact ⟨feedG0, congrArg (fun e => Value.tuple #[.agg feedG0.cells.toArray, .bool e]) (getR_none hnone).symm, rfl, RdFeed.none _, (by show feedG0.p = (getR xs).getD feedP0; rw [hnone]; rfl), by simp [feedG0]⟩
          try simp only [decide_eq_false_iff_not, decide_eq_true_eq, Int.not_lt, Int.not_le, Bool.not_eq_false, Bool.not_eq_true, Bool.not_true, Bool.not_false, Bool.not_eq_true', Bool.not_eq_false', beq_eq_false_iff_ne, ne_eq, beq_iff_eq, bne_iff_ne, bne_eq_false_iff_eq, Classical.not_not] at g168
          refine Jp.y 169 rfl (want_as rfl rfl rfl rfl) rfl rfl Kp.true (Y.move rfl rfl) ?_
          refine Jp.y 170 rfl (want_as rfl rfl rfl rfl) rfl rfl Kp.true (Y.gtr rfl rfl rfl) ?_
          refine Jp.y 171 rfl (want_all rfl) rfl rfl Kp.true (Y.pickF rfl rfl rfl) ?_
          refine Jp.y 172 rfl (want_all rfl) rfl rfl Kp.true (Y.move rfl rfl) ?_
          refine Jp.split 172 rfl (fun g172 => ?_) (fun g172 => ?_)
          · skip
            have hnone : getR xs = none := by rw [hget, if_pos (.inr (.inr (.inr (.inr (.inr (.inl (by simp only [decide_eq_true_eq] at g172; omega)))))))]
            refine Jp.skip 173 rfl (want_as rfl rfl rfl rfl) rfl rfl Kp.true ?_
            refine Jp.skip 174 rfl (want_as rfl rfl rfl rfl) rfl rfl Kp.true ?_
            refine Jp.skip 175 rfl (want_as rfl rfl rfl rfl) rfl rfl Kp.true ?_
            refine Jp.y 176 rfl (want_all rfl) rfl rfl Kp.true (Y.pickT rfl rfl rfl) ?_
            refine Jp.done hK21 ?_
            refine Cd.condT rfl ?_
            refine Cd.seq fun K27 hK27 => ?_
            refine Cd.plain [(0, false), (1, false), (2, false)] rfl rfl ?_
            refine Jp.y 177 rfl (want_all rfl) rfl rfl Kp.true (Y.struct [] [_, _, _, _, _, _] rfl rfl places30 Try.zeroValue30 rfl) ?_
            first | refine Jp.storeAgg 12 rfl (want_all rfl) rfl rfl Try.sizeOf30 rfl rfl rfl rfl rfl rfl (fun k _ _ => noFr0 k) Kp.true ?_ | refine Jp.storeAgg 11 rfl (want_all rfl) rfl rfl Try.sizeOf30 rfl rfl rfl rfl rfl rfl (fun k _ _ => noFr0 k) Kp.true ?_ | refine Jp.storeAgg 10 rfl (want_all rfl) rfl rfl Try.sizeOf30 rfl rfl rfl rfl rfl rfl (fun k _ _ => noFr0 k) Kp.true ?_
            refine Jp.y 3 rfl (want_all rfl) rfl rfl Kp.true (Y.assign rfl rfl) ?_
            refine Jp.done hK27 ?_
            refine Cd.imp (i := 10) rfl (fun _ h => (show Pt b10 (.cells (feedG0.cells).toArray 30) _ from h)) ?_
            refine Cd.ret [] rfl (by first | exact resC2 10 rfl rfl Try.isAgg30 Try.sizeOf30 rfl rfl rfl) trivial ?_
            exact ⟨feedG0, congrArg (fun e => Value.tuple #[.agg feedG0.cells.toArray, .bool e]) (getR_none hnone).symm, rfl, RdFeed.none _, (by show feedG0.p = (getR xs).getD feedP0; rw [hnone]; rfl), by simp [feedG0]⟩
          try simp only [decide_eq_false_iff_not, decide_eq_true_eq, Int.not_lt, Int.not_le, Bool.not_eq_false, Bool.not_eq_true, Bool.not_true, Bool.not_false, Bool.not_eq_true', Bool.not_eq_false', beq_eq_false_iff_ne, ne_eq, beq_iff_eq, bne_iff_ne, bne_eq_false_iff_eq, Classical.not_not] at g172
          refine Jp.y 173 rfl (want_as rfl rfl rfl rfl) rfl rfl Kp.true (by first | exact Y.loadAggO 12 rfl Try.isAgg30 Try.sizeOf30 rfl rfl rfl | exact Y.loadAggO 11 rfl Try.isAgg30 Try.sizeOf30 rfl rfl rfl | exact Y.loadAggO 10 rfl Try.isAgg30 Try.sizeOf30 rfl rfl rfl) ?_
          have h2 : xs.drop pf = [] := by
            have : pf = xs.length := by have h7 : (pf : Int) = (xs.length : Int) := by simpa using g156
                                        omega
            rw [this]; exact List.drop_of_length_le (Nat.le_refl _)
          refine Jp.slot 173 rfl (show _ = Value.agg (FeedG.cells ⟨⟨A1, c1, acc1⟩, ⟨A2, c2, inp⟩, ⟨A3, c3, natsI acc3⟩, ⟨A4, c4, rnd⟩, ⟨A5, c5, natsI acc5⟩, ⟨A6, c6, acc6⟩⟩).toArray by rw [hcells]) ?_
          refine Jp.call [] [] (f16_spec ⟨⟨A1, c1, acc1⟩, ⟨A2, c2, inp⟩, ⟨A3, c3, natsI acc3⟩, ⟨A4, c4, rnd⟩, ⟨A5, c5, natsI acc5⟩, ⟨A6, c6, acc6⟩⟩) 174 rfl (want_as rfl rfl rfl rfl) rfl rfl (Runs.fn rfl Try.call16 rfl) (by decide) (by decide) rfl hfeed ?_
          rintro v16 ρ16 L16 ⟨rfl, rfl, rfl⟩
          refine ⟨rfl, fun hle16 => ⟨Kp.true, ?_⟩⟩
          rw [hp]
          refine Jp.y 175 rfl (want_as rfl rfl rfl rfl) rfl rfl Kp.true (Y.not rfl rfl) ?_
          refine Jp.y 176 rfl (want_all rfl) rfl rfl Kp.true (Y.pickF rfl rfl rfl) ?_
          refine Jp.done hK21 ?_
          refine Cd.cond rfl (fun ge => ?_) (fun ge => ?_)
          · have hg : good F = false := by simpa using ge
            have hnone : getR xs = none := by rw [hget, if_pos (.inr (.inr (.inr (.inr (.inr (.inr hg))))))]
            refine Cd.seq fun K28 hK28 => ?_
            refine Cd.plain [(0, false), (1, false), (2, false)] rfl rfl ?_
            refine Jp.y 177 rfl (want_all rfl) rfl rfl Kp.true (Y.struct [] [_, _, _, _, _, _] rfl rfl places30 Try.zeroValue30 rfl) ?_
            first | refine Jp.storeAgg 12 rfl (want_all rfl) rfl rfl Try.sizeOf30 rfl rfl rfl rfl rfl rfl (fun k _ _ => noFr0 k) Kp.true ?_ | refine Jp.storeAgg 11 rfl (want_all rfl) rfl rfl Try.sizeOf30 rfl rfl rfl rfl rfl rfl (fun k _ _ => noFr0 k) Kp.true ?_ | refine Jp.storeAgg 10 rfl (want_all rfl) rfl rfl Try.sizeOf30 rfl rfl rfl rfl rfl rfl (fun k _ _ => noFr0 k) Kp.true ?_
            refine Jp.y 3 rfl (want_all rfl) rfl rfl Kp.true (Y.assign rfl rfl) ?_
            refine Jp.done hK28 ?_
            refine Cd.imp (i := 10) rfl (fun _ h => (show Pt b10 (.cells (feedG0.cells).toArray 30) _ from h)) ?_
            refine Cd.ret [] rfl (by first | exact resC2 10 rfl rfl Try.isAgg30 Try.sizeOf30 rfl rfl rfl) trivial ?_
            exact ⟨feedG0, congrArg (fun e => Value.tuple #[.agg feedG0.cells.toArray, .bool e]) (getR_none hnone).symm, rfl, RdFeed.none _, (by show feedG0.p = (getR xs).getD feedP0; rw [hnone]; rfl), by simp [feedG0]⟩
          · have hg : good F = true := by simpa using ge
            have hsome : getR xs = some F := by
              rw [hget, if_neg]
              simp only [not_or, Bool.not_eq_true, Bool.not_eq_false, ne_eq, Classical.not_not]
              exact ⟨g147, h2, by omega, by omega, by omega, by omega, hg⟩
            refine Cd.skip hK20 ?_
            refine Cd.seq fun K29 hK29 => ?_
            refine Cd.plain [(0, false), (1, false), (2, false)] rfl rfl ?_
            refine Jp.y 178 rfl (want_all rfl) rfl rfl Kp.true (by first | exact Y.loadAggO 12 rfl Try.isAgg30 Try.sizeOf30 rfl rfl rfl | exact Y.loadAggO 11 rfl Try.isAgg30 Try.sizeOf30 rfl rfl rfl | exact Y.loadAggO 10 rfl Try.isAgg30 Try.sizeOf30 rfl rfl rfl) ?_
            first | refine Jp.storeAgg 12 rfl (want_all rfl) rfl rfl Try.sizeOf30 rfl rfl rfl rfl rfl rfl (fun k _ _ => noFr0 k) Kp.true ?_ | refine Jp.storeAgg 11 rfl (want_all rfl) rfl rfl Try.sizeOf30 rfl rfl rfl rfl rfl rfl (fun k _ _ => noFr0 k) Kp.true ?_ | refine Jp.storeAgg 10 rfl (want_all rfl) rfl rfl Try.sizeOf30 rfl rfl rfl rfl rfl rfl (fun k _ _ => noFr0 k) Kp.true ?_
            refine Jp.y 3 rfl (want_all rfl) rfl rfl Kp.true (Y.assign rfl rfl) ?_
            refine Jp.done hK29 ?_
            refine Cd.imp (i := 10) rfl (fun _ h => (show Pt b10 (.cells [.slice A1 acc1.length c1, .slice A2 inp.length c2, .slice A3 acc3.length c3, .slice A4 rnd.length c4, .slice A5 acc5.length c5, .slice A6 acc6.length c6].toArray 30) _ from h)) ?_
            refine Cd.ret [] rfl (by first | exact resC2 10 rfl rfl Try.isAgg30 Try.sizeOf30 rfl rfl rfl) trivial ?_
            refine ⟨_, ?_, rfl, hfeed, (by show _ = (getR xs).getD feedP0; rw [hsome, hp]; rfl), hcl⟩
            rw [hcells]
            exact congrArg (fun e => Value.tuple #[.agg (Array.mk _), .bool e]) (getR_isSome hsome).symm
        try simp only [decide_eq_false_iff_not, decide_eq_true_eq, Int.not_lt, Int.not_le, Bool.not_eq_false, Bool.not_eq_true, Bool.not_true, Bool.not_false, Bool.not_eq_true', Bool.not_eq_false', beq_eq_false_iff_ne, ne_eq, beq_iff_eq, bne_iff_ne, bne_eq_false_iff_eq, Classical.not_not] at g113
        refine Jp.y 114 rfl (want_as rfl rfl rfl rfl) rfl rfl Kp.true (Y.move rfl rfl) ?_
        refine Jp.y 115 rfl (want_as rfl rfl rfl rfl) rfl rfl Kp.true (Y.lss rfl rfl rfl) ?_
        refine Jp.y 116 rfl (want_all rfl) rfl rfl Kp.true (Y.pickT rfl rfl rfl) ?_
        refine Jp.y 117 rfl (want_all rfl) rfl rfl Kp.true (Y.move rfl rfl) ?_
        refine Jp.splitF 117 rfl (fun g117 => ?_) (fun g117 => ?_)
        · skip
          have f6 := manyR_end ok11 (.inl (by simp only [decide_eq_false_iff_not] at g117; omega))
          refine Jp.skip 118 rfl (want_as rfl rfl rfl rfl) rfl rfl Kp.true ?_
          refine Jp.skip 119 rfl (want_as rfl rfl rfl rfl) rfl rfl Kp.true ?_
          refine Jp.skip 120 rfl (want_as rfl rfl rfl rfl) rfl rfl Kp.true ?_
          refine Jp.skip 121 rfl (want_as rfl rfl rfl rfl) rfl rfl Kp.true ?_
          refine Jp.skip 122 rfl (want_as rfl rfl rfl rfl) rfl rfl Kp.true ?_
          refine Jp.y 123 rfl (want_all rfl) rfl rfl Kp.true (Y.pickF rfl rfl rfl) ?_
          refine Jp.done hK19 ?_
          refine Cd.condF rfl ?_
          refine Cd.exit rfl hK16 ?_
          refine Cd.seq fun K30 hK30 => ?_
          refine Cd.seq fun K31 hK31 => ?_
          refine Cd.plain [(0, false), (1, false), (2, false), (3, false), (4, false), (5, false), (6, false), (7, false), (8, false), (9, false), (10, false), (11, false), (12, false), (13, false), (14, false), (15, false), (16, false), (17, false), (18, false), (19, false), (20, false), (21, false), (22, false), (23, false), (24, false), (25, false), (26, false), (27, false), (28, false), (29, false), (30, false), (31, false), (32, false), (33, false)] rfl rfl ?_
          obtain ⟨F, hF⟩ : ∃ F : FeedP, F = { args := acc1.map str, input := inp, short := natsI acc3, random := rnd, clock := natsI acc5, files := acc6.map FileG.p } := ⟨_, rfl⟩
          have hall : feedRdR (xs, false) = (⟨F, n1, n3, n5, n6⟩, (xs.drop pf, badf)) := by
            unfold feedRdR bindP pureP
            rw [show (xs, false) = (xs.drop 0, false) from rfl, e1]; dsimp only; rw [f1]; dsimp only; rw [e2]; dsimp only; rw [e3]; dsimp only; rw [f3]; dsimp only; rw [e4]; dsimp only; rw [e5]; dsimp only; rw [f5]; dsimp only; rw [e6]; dsimp only; rw [f6, hF]
          have hget : getR xs = if badf = true ∨ xs.drop pf ≠ [] ∨ 16 < n1 ∨ 64 < n3 ∨ 64 < n5 ∨ 8 < n6 ∨ good F = false then none else some F := by rw [getR, hall]
          refine Jp.freeze (i := 13) rfl (OwnS.up _ _ _ _ _ _) fun ρa la qa => ?_
          refine Jp.freeze (i := 17) rfl (OwnS.up _ _ _ _ _ _) fun ρb lb qb => ?_
          refine Jp.freeze (i := 18) rfl (OwnS.up _ _ _ _ _ _) fun ρc lc qc => ?_
          refine Jp.freeze (i := 19) rfl (OwnS.up _ _ _ _ _ _) fun ρd ld qd => ?_
          refine Jp.freeze (i := 20) rfl (OwnS.up _ _ _ _ _ _) fun ρe le qe => ?_
          refine Jp.freeze (i := 21) rfl (OwnS.up _ _ _ _ _ _) fun ρg lg qg => ?_
          have hfeed : RdFeed ⟨⟨A1, c1, acc1⟩, ⟨A2, c2, inp⟩, ⟨A3, c3, natsI acc3⟩, ⟨A4, c4, rnd⟩, ⟨A5, c5, natsI acc5⟩, ⟨A6, c6, acc6⟩⟩ ρg := by
            have k5 := lg
            have k4 := Hp.le_trans le k5
            have k3 := Hp.le_trans ld k4
            have k2 := Hp.le_trans lc k3
            have k1 := Hp.le_trans lb k2
            refine ⟨RdS.up _ _ _ _ _ _ _ k1 qa.rd, RdS.up _ _ _ _ _ _ _ k2 qb.rd, ?_, RdS.up _ _ _ _ _ _ _ k4 qd.rd, ?_, ⟨qg.rd, fun x hx => RdB.up _ _ _ (Hp.le_trans la k1) (ok13 x hx)⟩⟩
            · show RdS 1 A3 (natsI acc3).length c3 _ _
              rw [natsI_length]; exact RdS.up _ _ _ _ _ _ _ k3 qc.rd
            · show RdS 1 A5 (natsI acc5).length c5 _ _
              rw [natsI_length]; exact RdS.up _ _ _ _ _ _ _ k5 qe.rd
          have hcl : ∀ x ∈ natsI acc5, 0 ≤ x ∧ x < 4294967296 := fun x hx => by
            obtain ⟨y, hy, rfl⟩ := List.mem_map.1 hx
            have := hw5 y hy; omega
          have hp : FeedG.p ⟨⟨A1, c1, acc1⟩, ⟨A2, c2, inp⟩, ⟨A3, c3, natsI acc3⟩, ⟨A4, c4, rnd⟩, ⟨A5, c5, natsI acc5⟩, ⟨A6, c6, acc6⟩⟩ = F := hF.symm
          have hcells : FeedG.cells ⟨⟨A1, c1, acc1⟩, ⟨A2, c2, inp⟩, ⟨A3, c3, natsI acc3⟩, ⟨A4, c4, rnd⟩, ⟨A5, c5, natsI acc5⟩, ⟨A6, c6, acc6⟩⟩ = [.slice A1 acc1.length c1, .slice A2 inp.length c2, .slice A3 acc3.length c3, .slice A4 rnd.length c4, .slice A5 acc5.length c5, .slice A6 acc6.length c6] := by
            simp only [FeedG.cells, Sl.v, natsI_length]
          dsimp only [RdrR]
          refine Jp.y 143 rfl (want_all rfl) rfl rfl Kp.true (Y.move rfl rfl) ?_
          refine Jp.y 144 rfl (want_all rfl) rfl rfl Kp.true (Y.nilCheck rfl rfl) ?_
          refine Jp.y 145 rfl (want_all rfl) rfl rfl Kp.true (by first | exact Y.fieldAddrP rfl rfl Try.underlying115 rfl Try.sizeOf4 (by decide) (show _ + 2 = _ from rfl) | exact Y.fieldAddr rfl rfl Try.underlying115 rfl Try.sizeOf4 (by decide)) ?_
          refine Jp.y 146 rfl (want_all rfl) rfl rfl Kp.true (by first | exact Y.loadO 12 rfl Try.isAgg4 rfl rfl rfl | exact Y.loadO 11 rfl Try.isAgg4 rfl rfl rfl | exact Y.loadO 10 rfl Try.isAgg4 rfl rfl rfl) ?_
          refine Jp.y 147 rfl (want_all rfl) rfl rfl Kp.true (Y.move rfl rfl) ?_
          refine Jp.split 147 rfl (fun g147 => ?_) (fun g147 => ?_)
          · skip
            have hnone : getR xs = none := by rw [hget, if_pos (.inl g147)]
            refine Jp.skip 148 rfl (want_as rfl rfl rfl rfl) rfl rfl Kp.true ?_
            refine Jp.skip 149 rfl (want_as rfl rfl rfl rfl) rfl rfl Kp.true ?_
            refine Jp.skip 150 rfl (want_as rfl rfl rfl rfl) rfl rfl Kp.true ?_
            refine Jp.skip 151 rfl (want_as rfl rfl rfl rfl) rfl rfl Kp.true ?_
            refine Jp.skip 152 rfl (want_as rfl rfl rfl rfl) rfl rfl Kp.true ?_
            refine Jp.skip 153 rfl (want_as rfl rfl rfl rfl) rfl rfl Kp.true ?_
            refine Jp.skip 154 rfl (want_as rfl rfl rfl rfl) rfl rfl Kp.true ?_
            refine Jp.y 155 rfl (want_all rfl) rfl rfl Kp.true (Y.pickT rfl rfl rfl) ?_
            refine Jp.y 156 rfl (want_all rfl) rfl rfl Kp.true (Y.move rfl rfl) ?_
            refine Jp.skip 157 rfl (want_as rfl rfl rfl rfl) rfl rfl Kp.true ?_
            refine Jp.skip 158 rfl (want_as rfl rfl rfl rfl) rfl rfl Kp.true ?_
            refine Jp.y 159 rfl (want_all rfl) rfl rfl Kp.true (Y.pickT rfl rfl rfl) ?_
            refine Jp.y 160 rfl (want_all rfl) rfl rfl Kp.true (Y.move rfl rfl) ?_
            refine Jp.skip 161 rfl (want_as rfl rfl rfl rfl) rfl rfl Kp.true ?_
            refine Jp.skip 162 rfl (want_as rfl rfl rfl rfl) rfl rfl Kp.true ?_
            refine Jp.y 163 rfl (want_all rfl) rfl rfl Kp.true (Y.pickT rfl rfl rfl) ?_
            refine Jp.y 164 rfl (want_all rfl) rfl rfl Kp.true (Y.move rfl rfl) ?_
            refine Jp.skip 165 rfl (want_as rfl rfl rfl rfl) rfl rfl Kp.true ?_
            refine Jp.skip 166 rfl (want_as rfl rfl rfl rfl) rfl rfl Kp.true ?_
            refine Jp.y 167 rfl (want_all rfl) rfl rfl Kp.true (Y.pickT rfl rfl rfl) ?_
            refine Jp.y 168 rfl (want_all rfl) rfl rfl Kp.true (Y.move rfl rfl) ?_
            refine Jp.skip 169 rfl (want_as rfl rfl rfl rfl) rfl rfl Kp.true ?_
            refine Jp.skip 170 rfl (want_as rfl rfl rfl rfl) rfl rfl Kp.true ?_
            refine Jp.y 171 rfl (want_all rfl) rfl rfl Kp.true (Y.pickT rfl rfl rfl) ?_
            refine Jp.y 172 rfl (want_all rfl) rfl rfl Kp.true (Y.move rfl rfl) ?_
            refine Jp.skip 173 rfl (want_as rfl rfl rfl rfl) rfl rfl Kp.true ?_
            refine Jp.skip 174 rfl (want_as rfl rfl rfl rfl) rfl rfl Kp.true ?_
            refine Jp.skip 175 rfl (want_as rfl rfl rfl rfl) rfl rfl Kp.true ?_
            refine Jp.y 176 rfl (want_all rfl) rfl rfl Kp.true (Y.pickT rfl rfl rfl) ?_
            refine Jp.done hK31 ?_
            refine Cd.condT rfl ?_
            refine Cd.seq fun K32 hK32 => ?_
            refine Cd.plain [(0, false), (1, false), (2, false)] rfl rfl ?_
            refine Jp.y 177 rfl (want_all rfl) rfl rfl Kp.true (Y.struct [] [_, _, _, _, _, _] rfl rfl places30 Try.zeroValue30 rfl) ?_
            first | refine Jp.storeAgg 12 rfl (want_all rfl) rfl rfl Try.sizeOf30 rfl rfl rfl rfl rfl rfl (fun k _ _ => noFr0 k) Kp.true ?_ | refine Jp.storeAgg 11 rfl (want_all rfl) rfl rfl Try.sizeOf30 rfl rfl rfl rfl rfl rfl (fun k _ _ => noFr0 k) Kp.true ?_ | refine Jp.storeAgg 10 rfl (want_all rfl) rfl rfl Try.sizeOf30 rfl rfl rfl rfl rfl rfl (fun k _ _ => noFr0 k) Kp.true ?_
            refine Jp.y 3 rfl (want_all rfl) rfl rfl Kp.true (Y.assign rfl rfl) ?_
            refine Jp.done hK32 ?_
            refine Cd.imp (i := 10) rfl (fun _ h => (show Pt b10 (.cells (feedG0.cells).toArray 30) _ from h)) ?_
            refine Cd.ret [] rfl (by first | exact resC2 10 rfl rfl Try.isAgg30 Try.sizeOf30 rfl rfl rfl) trivial ?_
            exact ⟨feedG0, congrArg (fun e => Value.tuple #[.agg feedG0.cells.toArray, .bool e]) (getR_none hnone).symm, rfl, RdFeed.none _, (by show feedG0.p = (getR xs).getD feedP0; rw [hnone]; rfl), by simp [feedG0]⟩
          try simp only [decide_eq_false_iff_not, decide_eq_true_eq, Int.not_lt, Int.not_le, Bool.not_eq_false, Bool.not_eq_true, Bool.not_true, Bool.not_false, Bool.not_eq_true', Bool.not_eq_false', beq_eq_false_iff_ne, ne_eq, beq_iff_eq, bne_iff_ne, bne_eq_false_iff_eq, Classical.not_not] at g147
          refine Jp.y 148 rfl (want_as rfl rfl rfl rfl) rfl rfl Kp.true (Y.move rfl rfl) ?_
          refine Jp.y 149 rfl (want_as rfl rfl rfl rfl) rfl rfl Kp.true (Y.nilCheck rfl rfl) ?_
          refine Jp.y 150 rfl (want_as rfl rfl rfl rfl) rfl rfl Kp.true (by first | exact Y.fieldAddrP rfl rfl Try.underlying115 rfl Try.sizeOf3 (by decide) (show _ + 1 = _ from rfl) | exact Y.fieldAddr rfl rfl Try.underlying115 rfl Try.sizeOf3 (by decide)) ?_
          refine Jp.y 151 rfl (want_as rfl rfl rfl rfl) rfl rfl Kp.true (by first | exact Y.loadO 12 rfl Try.isAgg3 rfl rfl rfl | exact Y.loadO 11 rfl Try.isAgg3 rfl rfl rfl | exact Y.loadO 10 rfl Try.isAgg3 rfl rfl rfl) ?_
          refine Jp.y 152 rfl (want_as rfl rfl rfl rfl) rfl rfl Kp.true (Y.move rfl rfl) ?_
          refine Jp.y 153 rfl (want_as rfl rfl rfl rfl) rfl rfl Kp.true (Y.lenslice rfl Try.underlying26 rfl) ?_
          refine Jp.y 154 rfl (want_as rfl rfl rfl rfl) rfl rfl Kp.true (Y.neq rfl rfl rfl) ?_
          refine Jp.y 155 rfl (want_all rfl) rfl rfl Kp.true (Y.pickF rfl rfl rfl) ?_
          refine Jp.y 156 rfl (want_all rfl) rfl rfl Kp.true (Y.move rfl rfl) ?_
          refine Jp.split 156 rfl (fun g156 => ?_) (fun g156 => ?_)
          · skip
            have hne : xs.drop pf ≠ [] := by
              intro h0
              have h5 := congrArg List.length h0
              rw [List.length_drop, List.length_nil] at h5
              have h6 : (pf : Int) ≠ (xs.length : Int) := by simpa using g156
              omega
            have hnone : getR xs = none := by rw [hget, if_pos (.inr (.inl hne))]
            refine Jp.skip 157 rfl (want_as rfl rfl rfl rfl) rfl rfl Kp.true ?_
            refine Jp.skip 158 rfl (want_as rfl rfl rfl rfl) rfl rfl Kp.true ?_
            refine Jp.y 159 rfl (want_all rfl) rfl rfl Kp.true (Y.pickT rfl rfl rfl) ?_
            refine Jp.y 160 rfl (want_all rfl) rfl rfl Kp.true (Y.move rfl rfl) ?_
            refine Jp.skip 161 rfl (want_as rfl rfl rfl rfl) rfl rfl Kp.true ?_
            refine Jp.skip 162 rfl (want_as rfl rfl rfl rfl) rfl rfl Kp.true ?_
            refine Jp.y 163 rfl (want_all rfl) rfl rfl Kp.true (Y.pickT rfl rfl rfl) ?_
            refine Jp.y 164 rfl (want_all rfl) rfl rfl Kp.true (Y.move rfl rfl) ?_
            refine Jp.skip 165 rfl (want_as rfl rfl rfl rfl) rfl rfl Kp.true ?_
            refine Jp.skip 166 rfl (want_as rfl rfl rfl rfl) rfl rfl Kp.true ?_
            refine Jp.y 167 rfl (want_all rfl) rfl rfl Kp.true (Y.pickT rfl rfl rfl) ?_
            refine Jp.y 168 rfl (want_all rfl) rfl rfl Kp.true (Y.move rfl rfl) ?_
            refine Jp.skip 169 rfl (want_as rfl rfl rfl rfl) rfl rfl Kp.true ?_
            refine Jp.skip 170 rfl (want_as rfl rfl rfl rfl) rfl rfl Kp.true ?_
            refine Jp.y 171 rfl (want_all rfl) rfl rfl Kp.true (Y.pickT rfl rfl rfl) ?_
            refine Jp.y 172 rfl (want_all rfl) rfl rfl Kp.true (Y.move rfl rfl) ?_
            refine Jp.skip 173 rfl (want_as rfl rfl rfl rfl) rfl rfl Kp.true ?_
            refine Jp.skip 174 rfl (want_as rfl rfl rfl rfl) rfl rfl Kp.true ?_
            refine Jp.skip 175 rfl (want_as rfl rfl rfl rfl) rfl rfl Kp.true ?_
            refine Jp.y 176 rfl (want_all rfl) rfl rfl Kp.true (Y.pickT rfl rfl rfl) ?_
            refine Jp.done hK31 ?_
            refine Cd.condT rfl ?_
            refine Cd.seq fun K33 hK33 => ?_
            refine Cd.plain [(0, false), (1, false), (2, false)] rfl rfl ?_
            refine Jp.y 177 rfl (want_all rfl) rfl rfl Kp.true (Y.struct [] [_, _, _, _, _, _] rfl rfl places30 Try.zeroValue30 rfl) ?_
            first | refine Jp.storeAgg 12 rfl (want_all rfl) rfl rfl Try.sizeOf30 rfl rfl rfl rfl rfl rfl (fun k _ _ => noFr0 k) Kp.true ?_ | refine Jp.storeAgg 11 rfl (want_all rfl) rfl rfl Try.sizeOf30 rfl rfl rfl rfl rfl rfl (fun k _ _ => noFr0 k) Kp.true ?_ | refine Jp.storeAgg 10 rfl (want_all rfl) rfl rfl Try.sizeOf30 rfl rfl rfl rfl rfl rfl (fun k _ _ => noFr0 k) Kp.true ?_
            refine Jp.y 3 rfl (want_all rfl) rfl rfl Kp.true (Y.assign rfl rfl) ?_
            refine Jp.done hK33 ?_
            refine Cd.imp (i := 10) rfl (fun _ h => (show Pt b10 (.cells (feedG0.cells).toArray 30) _ from h)) ?_
            refine Cd.ret [] rfl (by first | exact resC2 10 rfl rfl Try.isAgg30 Try.sizeOf30 rfl rfl rfl) trivial ?_
            exact ⟨feedG0, congrArg (fun e => Value.tuple #[.agg feedG0.cells.toArray, .bool e]) (getR_none hnone).symm, rfl, RdFeed.none _, (by show feedG0.p = (getR xs).getD feedP0; rw [hnone]; rfl), by simp [feedG0]⟩
          try simp only [decide_eq_false_iff_not, decide_eq_true_eq, Int.not_lt, Int.not_le, Bool.not_eq_false, Bool.not_eq_true, Bool.not_true, Bool.not_false, Bool.not_eq_true', Bool.not_eq_false', beq_eq_false_iff_ne, ne_eq, beq_iff_eq, bne_iff_ne, bne_eq_false_iff_eq, Classical.not_not] at g156
          refine Jp.y 157 rfl (want_as rfl rfl rfl rfl) rfl rfl Kp.true (Y.move rfl rfl) ?_
          refine Jp.y 158 rfl (want_as rfl rfl rfl rfl) rfl rfl Kp.true (Y.gtr rfl rfl rfl) ?_
          refine Jp.y 159 rfl (want_all rfl) rfl rfl Kp.true (Y.pickF rfl rfl rfl) ?_
          refine Jp.y 160 rfl (want_all rfl) rfl rfl Kp.true (Y.move rfl rfl) ?_
          refine Jp.split 160 rfl (fun g160 => ?_) (fun g160 => ?_)
          · skip
            have hnone : getR xs = none := by rw [hget, if_pos (.inr (.inr (.inl (by simp only [decide_eq_true_eq] at g160; omega))))]
            refine Jp.skip 161 rfl (want_as rfl rfl rfl rfl) rfl rfl Kp.true ?_
            refine Jp.skip 162 rfl (want_as rfl rfl rfl rfl) rfl rfl Kp.true ?_
            refine Jp.y 163 rfl (want_all rfl) rfl rfl Kp.true (Y.pickT rfl rfl rfl) ?_
            refine Jp.y 164 rfl (want_all rfl) rfl rfl Kp.true (Y.move rfl rfl) ?_
            refine Jp.skip 165 rfl (want_as rfl rfl rfl rfl) rfl rfl Kp.true ?_
            refine Jp.skip 166 rfl (want_as rfl rfl rfl rfl) rfl rfl Kp.true ?_
            refine Jp.y 167 rfl (want_all rfl) rfl rfl Kp.true (Y.pickT rfl rfl rfl) ?_
            refine Jp.y 168 rfl (want_all rfl) rfl rfl Kp.true (Y.move rfl rfl) ?_
            refine Jp.skip 169 rfl (want_as rfl rfl rfl rfl) rfl rfl Kp.true ?_
            refine Jp.skip 170 rfl (want_as rfl rfl rfl rfl) rfl rfl Kp.true ?_
            refine Jp.y 171 rfl (want_all rfl) rfl rfl Kp.true (Y.pickT rfl rfl rfl) ?_
            refine Jp.y 172 rfl (want_all rfl) rfl rfl Kp.true (Y.move rfl rfl) ?_
            refine Jp.skip 173 rfl (want_as rfl rfl rfl rfl) rfl rfl Kp.true ?_
            refine Jp.skip 174 rfl (want_as rfl rfl rfl rfl) rfl rfl Kp.true ?_
            refine Jp.skip 175 rfl (want_as rfl rfl rfl rfl) rfl rfl Kp.true ?_
            refine Jp.y 176 rfl (want_all rfl) rfl rfl Kp.true (Y.pickT rfl rfl rfl) ?_
            refine Jp.done hK31 ?_
            refine Cd.condT rfl ?_
            refine Cd.seq fun K34 hK34 => ?_
            refine Cd.plain [(0, false), (1, false), (2, false)] rfl rfl ?_
            refine Jp.y 177 rfl (want_all rfl) rfl rfl Kp.true (Y.struct [] [_, _, _, _, _, _] rfl rfl places30 Try.zeroValue30 rfl) ?_
            first | refine Jp.storeAgg 12 rfl (want_all rfl) rfl rfl Try.sizeOf30 rfl rfl rfl rfl rfl rfl (fun k _ _ => noFr0 k) Kp.true ?_ | refine Jp.storeAgg 11 rfl (want_all rfl) rfl rfl Try.sizeOf30 rfl rfl rfl rfl rfl rfl (fun k _ _ => noFr0 k) Kp.true ?_ | refine Jp.storeAgg 10 rfl (want_all rfl) rfl rfl Try.sizeOf30 rfl rfl rfl rfl rfl rfl (fun k _ _ => noFr0 k) Kp.true ?_
            refine Jp.y 3 rfl (want_all rfl) rfl rfl Kp.true (Y.assign rfl rfl) ?_
            refine Jp.done hK34 ?_
            refine Cd.imp (i := 10) rfl (fun _ h => (show Pt b10 (.cells (feedG0.cells).toArray 30) _ from h)) ?_
            refine Cd.ret [] rfl (by first | exact resC2 10 rfl rfl Try.isAgg30 Try.sizeOf30 rfl rfl rfl) trivial ?_
            exact ⟨feedG0, congrArg (fun e => Value.tuple #[.agg feedG0.cells.toArray, .bool e]) (getR_none hnone).symm, rfl, RdFeed.none _, (by show feedG0.p = (getR xs).getD feedP0; rw [hnone]; rfl), by simp [feedG0]⟩
          try simp only [decide_eq_false_iff_not, decide_eq_true_eq, Int.not_lt, Int.not_le, Bool.not_eq_false, Bool.not_eq_true, Bool.not_true, Bool.not_false, Bool.not_eq_true', Bool.not_eq_false', beq_eq_false_iff_ne, ne_eq, beq_iff_eq, bne_iff_ne, bne_eq_false_iff_eq, Classical.not_not] at g160
          refine Jp.y 161 rfl (want_as rfl rfl rfl rfl) rfl rfl Kp.true (Y.move rfl rfl) ?_
          refine Jp.y 162 rfl (want_as rfl rfl rfl rfl) rfl rfl Kp.true (Y.gtr rfl rfl rfl) ?_
          refine Jp.y 163 rfl (want_all rfl) rfl rfl Kp.true (Y.pickF rfl rfl rfl) ?_
          refine Jp.y 164 rfl (want_all rfl) rfl rfl Kp.true (Y.move rfl rfl) ?_
          refine Jp.split 164 rfl (fun g164 => ?_) (fun g164 => ?_)
          · skip
            have hnone : getR xs = none := by rw [hget, if_pos (.inr (.inr (.inr (.inl (by simp only [decide_eq_true_eq] at g164; omega)))))]
            refine Jp.skip 165 rfl (want_as rfl rfl rfl rfl) rfl rfl Kp.true ?_
            refine Jp.skip 166 rfl (want_as rfl rfl rfl rfl) rfl rfl Kp.true ?_
            refine Jp.y 167 rfl (want_all rfl) rfl rfl Kp.true (Y.pickT rfl rfl rfl) ?_
            refine Jp.y 168 rfl (want_all rfl) rfl rfl Kp.true (Y.move rfl rfl) ?_
            refine Jp.skip 169 rfl (want_as rfl rfl rfl rfl) rfl rfl Kp.true ?_
            refine Jp.skip 170 rfl (want_as rfl rfl rfl rfl) rfl rfl Kp.true ?_
            refine Jp.y 171 rfl (want_all rfl) rfl rfl Kp.true (Y.pickT rfl rfl rfl) ?_
            refine Jp.y 172 rfl (want_all rfl) rfl rfl Kp.true (Y.move rfl rfl) ?_
            refine Jp.skip 173 rfl (want_as rfl rfl rfl rfl) rfl rfl Kp.true ?_
            refine Jp.skip 174 rfl (want_as rfl rfl rfl rfl) rfl rfl Kp.true ?_
            refine Jp.skip 175 rfl (want_as rfl rfl rfl rfl) rfl rfl Kp.true ?_
            refine Jp.y 176 rfl (want_all rfl) rfl rfl Kp.true (Y.pickT rfl rfl rfl) ?_
            refine Jp.done hK31 ?_
            refine Cd.condT rfl ?_
            refine Cd.seq fun K35 hK35 => ?_
            refine Cd.plain [(0, false), (1, false), (2, false)] rfl rfl ?_
            refine Jp.y 177 rfl (want_all rfl) rfl rfl Kp.true (Y.struct [] [_, _, _, _, _, _] rfl rfl places30 Try.zeroValue30 rfl) ?_
            first | refine Jp.storeAgg 12 rfl (want_all rfl) rfl rfl Try.sizeOf30 rfl rfl rfl rfl rfl rfl (fun k _ _ => noFr0 k) Kp.true ?_ | refine Jp.storeAgg 11 rfl (want_all rfl) rfl rfl Try.sizeOf30 rfl rfl rfl rfl rfl rfl (fun k _ _ => noFr0 k) Kp.true ?_ | refine Jp.storeAgg 10 rfl (want_all rfl) rfl rfl Try.sizeOf30 rfl rfl rfl rfl rfl rfl (fun k _ _ => noFr0 k) Kp.true ?_
            refine Jp.y 3 rfl (want_all rfl) rfl rfl Kp.true (Y.assign rfl rfl) ?_
            refine Jp.done hK35 ?_
            refine Cd.imp (i := 10) rfl (fun _ h => (show Pt b10 (.cells (feedG0.cells).toArray 30) _ from h)) ?_
            refine Cd.ret [] rfl (by first | exact resC2 10 rfl rfl Try.isAgg30 Try.sizeOf30 rfl rfl rfl) trivial ?_
            exact ⟨feedG0, congrArg (fun e => Value.tuple #[.agg feedG0.cells.toArray, .bool e]) (getR_none hnone).symm, rfl, RdFeed.none _, (by show feedG0.p = (getR xs).getD feedP0; rw [hnone]; rfl), by simp [feedG0]⟩
          try simp only [decide_eq_false_iff_not, decide_eq_true_eq, Int.not_lt, Int.not_le, Bool.not_eq_false, Bool.not_eq_true, Bool.not_true, Bool.not_false, Bool.not_eq_true', Bool.not_eq_false', beq_eq_false_iff_ne, ne_eq, beq_iff_eq, bne_iff_ne, bne_eq_false_iff_eq, Classical.not_not] at g164
          refine Jp.y 165 rfl (want_as rfl rfl rfl rfl) rfl rfl Kp.true (Y.move rfl rfl) ?_
          refine Jp.y 166 rfl (want_as rfl rfl rfl rfl) rfl rfl Kp.true (Y.gtr rfl rfl rfl) ?_
          refine Jp.y 167 rfl (want_all rfl) rfl rfl Kp.true (Y.pickF rfl rfl rfl) ?_
          refine Jp.y 168 rfl (want_all rfl) rfl rfl Kp.true (Y.move rfl rfl) ?_
          refine Jp.split 168 rfl (fun g168 => ?_) (fun g168 => ?_)
          · skip
            have hnone : getR xs = none := by rw [hget, if_pos (.inr (.inr (.inr (.inr (.inl (by simp only [decide_eq_true_eq] at g168; omega))))))]
            refine Jp.skip 169 rfl (want_as rfl rfl rfl rfl) rfl rfl Kp.true ?_
            refine Jp.skip 170 rfl (want_as rfl rfl rfl rfl) rfl rfl Kp.true ?_
            refine Jp.y 171 rfl (want_all rfl) rfl rfl Kp.true (Y.pickT rfl rfl rfl) ?_
            refine Jp.y 172 rfl (want_all rfl) rfl rfl Kp.true (Y.move rfl rfl) ?_
            refine Jp.skip 173 rfl (want_as rfl rfl rfl rfl) rfl rfl Kp.true ?_
            refine Jp.skip 174 rfl (want_as rfl rfl rfl rfl) rfl rfl Kp.true ?_
            refine Jp.skip 175 rfl (want_as rfl rfl rfl rfl) rfl rfl Kp.true ?_
            refine Jp.y 176 rfl (want_all rfl) rfl rfl Kp.true (Y.pickT rfl rfl rfl) ?_
            refine Jp.done hK31 ?_
            refine Cd.condT rfl ?_
            refine Cd.seq fun K36 hK36 => ?_
            refine Cd.plain [(0, false), (1, false), (2, false)] rfl rfl ?_
            refine Jp.y 177 rfl (want_all rfl) rfl rfl Kp.true (Y.struct [] [_, _, _, _, _, _] rfl rfl places30 Try.zeroValue30 rfl) ?_
            first | refine Jp.storeAgg 12 rfl (want_all rfl) rfl rfl Try.sizeOf30 rfl rfl rfl rfl rfl rfl (fun k _ _ => noFr0 k) Kp.true ?_ | refine Jp.storeAgg 11 rfl (want_all rfl) rfl rfl Try.sizeOf30 rfl rfl rfl rfl rfl rfl (fun k _ _ => noFr0 k) Kp.true ?_ | refine Jp.storeAgg 10 rfl (want_all rfl) rfl rfl Try.sizeOf30 rfl rfl rfl rfl rfl rfl (fun k _ _ => noFr0 k) Kp.true ?_
            refine Jp.y 3 rfl (want_all rfl) rfl rfl Kp.true (Y.assign rfl rfl) ?_
            refine Jp.done hK36 ?_
            refine Cd.imp (i := 10) rfl (fun _ h => (show Pt b10 (.cells (feedG0.cells).toArray 30) _ from h)) ?_
            refine Cd.ret [] rfl (by first | exact resC2 10 rfl rfl Try.isAgg30 Try.sizeOf30 rfl rfl rfl) trivial ?_
            exact ⟨feedG0, congrArg (fun e => Value.tuple #[.agg feedG0.cells.toArray, .bool e]) (getR_none hnone).symm, rfl, RdFeed.none _, (by show feedG0.p = (getR xs).getD feedP0; rw [hnone]; rfl), by simp [feedG0]⟩
          try simp only [decide_eq_false_iff_not, decide_eq_true_eq, Int.not_lt, Int.not_le, Bool.not_eq_false, Bool.not_eq_true, Bool.not_true, Bool.not_false, Bool.not_eq_true', Bool.not_eq_false', beq_eq_false_iff_ne, ne_eq, beq_iff_eq, bne_iff_ne, bne_eq_false_iff_eq, Classical.not_not] at g168
          refine Jp.y 169 rfl (want_as rfl rfl rfl rfl) rfl rfl Kp.true (Y.move rfl rfl) ?_
          refine Jp.y 170 rfl (want_as rfl rfl rfl rfl) rfl rfl Kp.true (Y.gtr rfl rfl rfl) ?_
          refine Jp.y 171 rfl (want_all rfl) rfl rfl Kp.true (Y.pickF rfl rfl rfl) ?_
          refine Jp.y 172 rfl (want_all rfl) rfl rfl Kp.true (Y.move rfl rfl) ?_
          refine Jp.split 172 rfl (fun g172 => ?_) (fun g172 => ?_)
          · skip
            have hnone : getR xs = none := by rw [hget, if_pos (.inr (.inr (.inr (.inr (.inr (.inl (by simp only [decide_eq_true_eq] at g172; omega)))))))]
            refine Jp.skip 173 rfl (want_as rfl rfl rfl rfl) rfl rfl Kp.true ?_
            refine Jp.skip 174 rfl (want_as rfl rfl rfl rfl) rfl rfl Kp.true ?_
            refine Jp.skip 175 rfl (want_as rfl rfl rfl rfl) rfl rfl Kp.true ?_
            refine Jp.y 176 rfl (want_all rfl) rfl rfl Kp.true (Y.pickT rfl rfl rfl) ?_
            refine Jp.done hK31 ?_
            refine Cd.condT rfl ?_
            refine Cd.seq fun K37 hK37 => ?_
            refine Cd.plain [(0, false), (1, false), (2, false)] rfl rfl ?_
            refine Jp.y 177 rfl (want_all rfl) rfl rfl Kp.true (Y.struct [] [_, _, _, _, _, _] rfl rfl places30 Try.zeroValue30 rfl) ?_
            first | refine Jp.storeAgg 12 rfl (want_all rfl) rfl rfl Try.sizeOf30 rfl rfl rfl rfl rfl rfl (fun k _ _ => noFr0 k) Kp.true ?_ | refine Jp.storeAgg 11 rfl (want_all rfl) rfl rfl Try.sizeOf30 rfl rfl rfl rfl rfl rfl (fun k _ _ => noFr0 k) Kp.true ?_ | refine Jp.storeAgg 10 rfl (want_all rfl) rfl rfl Try.sizeOf30 rfl rfl rfl rfl rfl rfl (fun k _ _ => noFr0 k) Kp.true ?_
            refine Jp.y 3 rfl (want_all rfl) rfl rfl Kp.true (Y.assign rfl rfl) ?_
            refine Jp.done hK37 ?_
            refine Cd.imp (i := 10) rfl (fun _ h => (show Pt b10 (.cells (feedG0.cells).toArray 30) _ from h)) ?_
            refine Cd.ret [] rfl (by first | exact resC2 10 rfl rfl Try.isAgg30 Try.sizeOf30 rfl rfl rfl) trivial ?_
            exact ⟨feedG0, congrArg (fun e => Value.tuple #[.agg feedG0.cells.toArray, .bool e]) (getR_none hnone).symm, rfl, RdFeed.none _, (by show feedG0.p = (getR xs).getD feedP0; rw [hnone]; rfl), by simp [feedG0]⟩
          try simp only [decide_eq_false_iff_not, decide_eq_true_eq, Int.not_lt, Int.not_le, Bool.not_eq_false, Bool.not_eq_true, Bool.not_true, Bool.not_false, Bool.not_eq_true', Bool.not_eq_false', beq_eq_false_iff_ne, ne_eq, beq_iff_eq, bne_iff_ne, bne_eq_false_iff_eq, Classical.not_not] at g172
          refine Jp.y 173 rfl (want_as rfl rfl rfl rfl) rfl rfl Kp.true (by first | exact Y.loadAggO 12 rfl Try.isAgg30 Try.sizeOf30 rfl rfl rfl | exact Y.loadAggO 11 rfl Try.isAgg30 Try.sizeOf30 rfl rfl rfl | exact Y.loadAggO 10 rfl Try.isAgg30 Try.sizeOf30 rfl rfl rfl) ?_
          have h2 : xs.drop pf = [] := by
            have : pf = xs.length := by have h7 : (pf : Int) = (xs.length : Int) := by simpa using g156
                                        omega
            rw [this]; exact List.drop_of_length_le (Nat.le_refl _)
          refine Jp.slot 173 rfl (show _ = Value.agg (FeedG.cells ⟨⟨A1, c1, acc1⟩, ⟨A2, c2, inp⟩, ⟨A3, c3, natsI acc3⟩, ⟨A4, c4, rnd⟩, ⟨A5, c5, natsI acc5⟩, ⟨A6, c6, acc6⟩⟩).toArray by rw [hcells]) ?_
          refine Jp.call [] [] (f16_spec ⟨⟨A1, c1, acc1⟩, ⟨A2, c2, inp⟩, ⟨A3, c3, natsI acc3⟩, ⟨A4, c4, rnd⟩, ⟨A5, c5, natsI acc5⟩, ⟨A6, c6, acc6⟩⟩) 174 rfl (want_as rfl rfl rfl rfl) rfl rfl (Runs.fn rfl Try.call16 rfl) (by decide) (by decide) rfl hfeed ?_
          rintro v16 ρ16 L16 ⟨rfl, rfl, rfl⟩
          refine ⟨rfl, fun hle16 => ⟨Kp.true, ?_⟩⟩
          rw [hp]
          refine Jp.y 175 rfl (want_as rfl rfl rfl rfl) rfl rfl Kp.true (Y.not rfl rfl) ?_
          refine Jp.y 176 rfl (want_all rfl) rfl rfl Kp.true (Y.pickF rfl rfl rfl) ?_
          refine Jp.done hK31 ?_
          refine Cd.cond rfl (fun ge => ?_) (fun ge => ?_)
          · have hg : good F = false := by simpa using ge
            have hnone : getR xs = none := by rw [hget, if_pos (.inr (.inr (.inr (.inr (.inr (.inr hg))))))]
            refine Cd.seq fun K38 hK38 => ?_
            refine Cd.plain [(0, false), (1, false), (2, false)] rfl rfl ?_
            refine Jp.y 177 rfl (want_all rfl) rfl rfl Kp.true (Y.struct [] [_, _, _, _, _, _] rfl rfl places30 Try.zeroValue30 rfl) ?_
            first | refine Jp.storeAgg 12 rfl (want_all rfl) rfl rfl Try.sizeOf30 rfl rfl rfl rfl rfl rfl (fun k _ _ => noFr0 k) Kp.true ?_ | refine Jp.storeAgg 11 rfl (want_all rfl) rfl rfl Try.sizeOf30 rfl rfl rfl rfl rfl rfl (fun k _ _ => noFr0 k) Kp.true ?_ | refine Jp.storeAgg 10 rfl (want_all rfl) rfl rfl Try.sizeOf30 rfl rfl rfl rfl rfl rfl (fun k _ _ => noFr0 k) Kp.true ?_
            refine Jp.y 3 rfl (want_all rfl) rfl rfl Kp.true (Y.assign rfl rfl) ?_
            refine Jp.done hK38 ?_
            refine Cd.imp (i := 10) rfl (fun _ h => (show Pt b10 (.cells (feedG0.cells).toArray 30) _ from h)) ?_
            refine Cd.ret [] rfl (by first | exact resC2 10 rfl rfl Try.isAgg30 Try.sizeOf30 rfl rfl rfl) trivial ?_
            exact ⟨feedG0, congrArg (fun e => Value.tuple #[.agg feedG0.cells.toArray, .bool e]) (getR_none hnone).symm, rfl, RdFeed.none _, (by show feedG0.p = (getR xs).getD feedP0; rw [hnone]; rfl), by simp [feedG0]⟩
          · have hg : good F = true := by simpa using ge
            have hsome : getR xs = some F := by
              rw [hget, if_neg]
              simp only [not_or, Bool.not_eq_true, Bool.not_eq_false, ne_eq, Classical.not_not]
              exact ⟨g147, h2, by omega, by omega, by omega, by omega, hg⟩
            refine Cd.skip hK30 ?_
            refine Cd.seq fun K39 hK39 => ?_
            refine Cd.plain [(0, false), (1, false), (2, false)] rfl rfl ?_
            refine Jp.y 178 rfl (want_all rfl) rfl rfl Kp.true (by first | exact Y.loadAggO 12 rfl Try.isAgg30 Try.sizeOf30 rfl rfl rfl | exact Y.loadAggO 11 rfl Try.isAgg30 Try.sizeOf30 rfl rfl rfl | exact Y.loadAggO 10 rfl Try.isAgg30 Try.sizeOf30 rfl rfl rfl) ?_
            first | refine Jp.storeAgg 12 rfl (want_all rfl) rfl rfl Try.sizeOf30 rfl rfl rfl rfl rfl rfl (fun k _ _ => noFr0 k) Kp.true ?_ | refine Jp.storeAgg 11 rfl (want_all rfl) rfl rfl Try.sizeOf30 rfl rfl rfl rfl rfl rfl (fun k _ _ => noFr0 k) Kp.true ?_ | refine Jp.storeAgg 10 rfl (want_all rfl) rfl rfl Try.sizeOf30 rfl rfl rfl rfl rfl rfl (fun k _ _ => noFr0 k) Kp.true ?_
            refine Jp.y 3 rfl (want_all rfl) rfl rfl Kp.true (Y.assign rfl rfl) ?_
            refine Jp.done hK39 ?_
            refine Cd.imp (i := 10) rfl (fun _ h => (show Pt b10 (.cells [.slice A1 acc1.length c1, .slice A2 inp.length c2, .slice A3 acc3.length c3, .slice A4 rnd.length c4, .slice A5 acc5.length c5, .slice A6 acc6.length c6].toArray 30) _ from h)) ?_
            refine Cd.ret [] rfl (by first | exact resC2 10 rfl rfl Try.isAgg30 Try.sizeOf30 rfl rfl rfl) trivial ?_
            refine ⟨_, ?_, rfl, hfeed, (by show _ = (getR xs).getD feedP0; rw [hsome, hp]; rfl), hcl⟩
            rw [hcells]
            exact congrArg (fun e => Value.tuple #[.agg (Array.mk _), .bool e]) (getR_isSome hsome).symm
        try simp only [decide_eq_false_iff_not, decide_eq_true_eq, Int.not_lt, Int.not_le, Bool.not_eq_false, Bool.not_eq_true, Bool.not_true, Bool.not_false, Bool.not_eq_true', Bool.not_eq_false', beq_eq_false_iff_ne, ne_eq, beq_iff_eq, bne_iff_ne, bne_eq_false_iff_eq, Classical.not_not] at g117
        refine Jp.y 118 rfl (want_as rfl rfl rfl rfl) rfl rfl Kp.true (Y.move rfl rfl) ?_
        refine Jp.y 119 rfl (want_as rfl rfl rfl rfl) rfl rfl Kp.true (Y.nilCheck rfl rfl) ?_
        refine Jp.y 120 rfl (want_as rfl rfl rfl rfl) rfl rfl Kp.true (by first | exact Y.fieldAddrP rfl rfl Try.underlying115 rfl Try.sizeOf4 (by decide) (show _ + 2 = _ from rfl) | exact Y.fieldAddr rfl rfl Try.underlying115 rfl Try.sizeOf4 (by decide)) ?_
        refine Jp.y 121 rfl (want_as rfl rfl rfl rfl) rfl rfl Kp.true (by first | exact Y.loadO 12 rfl Try.isAgg4 rfl rfl rfl | exact Y.loadO 11 rfl Try.isAgg4 rfl rfl rfl) ?_
        refine Jp.y 122 rfl (want_as rfl rfl rfl rfl) rfl rfl Kp.true (Y.not rfl rfl) ?_
        refine Jp.y 123 rfl (want_all rfl) rfl rfl Kp.true (Y.pickT rfl rfl rfl) ?_
        refine Jp.done hK19 ?_
        refine Cd.condF' rfl (fun g123 => ?_) (fun g123 => ?_)
        · skip
          have hb : badf = true := by simpa using g123
          have f6 := manyR_end ok11 (.inr hb)
          refine Cd.exit rfl hK16 ?_
          refine Cd.seq fun K40 hK40 => ?_
          refine Cd.seq fun K41 hK41 => ?_
          refine Cd.plain [(0, false), (1, false), (2, false), (3, false), (4, false), (5, false), (6, false), (7, false), (8, false), (9, false), (10, false), (11, false), (12, false), (13, false), (14, false), (15, false), (16, false), (17, false), (18, false), (19, false), (20, false), (21, false), (22, false), (23, false), (24, false), (25, false), (26, false), (27, false), (28, false), (29, false), (30, false), (31, false), (32, false), (33, false)] rfl rfl ?_
          obtain ⟨F, hF⟩ : ∃ F : FeedP, F = { args := acc1.map str, input := inp, short := natsI acc3, random := rnd, clock := natsI acc5, files := acc6.map FileG.p } := ⟨_, rfl⟩
          have hall : feedRdR (xs, false) = (⟨F, n1, n3, n5, n6⟩, (xs.drop pf, badf)) := by
            unfold feedRdR bindP pureP
            rw [show (xs, false) = (xs.drop 0, false) from rfl, e1]; dsimp only; rw [f1]; dsimp only; rw [e2]; dsimp only; rw [e3]; dsimp only; rw [f3]; dsimp only; rw [e4]; dsimp only; rw [e5]; dsimp only; rw [f5]; dsimp only; rw [e6]; dsimp only; rw [f6, hF]
          have hget : getR xs = if badf = true ∨ xs.drop pf ≠ [] ∨ 16 < n1 ∨ 64 < n3 ∨ 64 < n5 ∨ 8 < n6 ∨ good F = false then none else some F := by rw [getR, hall]
          refine Jp.freeze (i := 13) rfl (OwnS.up _ _ _ _ _ _) fun ρa la qa => ?_
          refine Jp.freeze (i := 17) rfl (OwnS.up _ _ _ _ _ _) fun ρb lb qb => ?_
          refine Jp.freeze (i := 18) rfl (OwnS.up _ _ _ _ _ _) fun ρc lc qc => ?_
          refine Jp.freeze (i := 19) rfl (OwnS.up _ _ _ _ _ _) fun ρd ld qd => ?_
          refine Jp.freeze (i := 20) rfl (OwnS.up _ _ _ _ _ _) fun ρe le qe => ?_
          refine Jp.freeze (i := 21) rfl (OwnS.up _ _ _ _ _ _) fun ρg lg qg => ?_
          have hfeed : RdFeed ⟨⟨A1, c1, acc1⟩, ⟨A2, c2, inp⟩, ⟨A3, c3, natsI acc3⟩, ⟨A4, c4, rnd⟩, ⟨A5, c5, natsI acc5⟩, ⟨A6, c6, acc6⟩⟩ ρg := by
            have k5 := lg
            have k4 := Hp.le_trans le k5
            have k3 := Hp.le_trans ld k4
            have k2 := Hp.le_trans lc k3
            have k1 := Hp.le_trans lb k2
            refine ⟨RdS.up _ _ _ _ _ _ _ k1 qa.rd, RdS.up _ _ _ _ _ _ _ k2 qb.rd, ?_, RdS.up _ _ _ _ _ _ _ k4 qd.rd, ?_, ⟨qg.rd, fun x hx => RdB.up _ _ _ (Hp.le_trans la k1) (ok13 x hx)⟩⟩
            · show RdS 1 A3 (natsI acc3).length c3 _ _
              rw [natsI_length]; exact RdS.up _ _ _ _ _ _ _ k3 qc.rd
            · show RdS 1 A5 (natsI acc5).length c5 _ _
              rw [natsI_length]; exact RdS.up _ _ _ _ _ _ _ k5 qe.rd
          have hcl : ∀ x ∈ natsI acc5, 0 ≤ x ∧ x < 4294967296 := fun x hx => by
            obtain ⟨y, hy, rfl⟩ := List.mem_map.1 hx
            have := hw5 y hy; omega
          have hp : FeedG.p ⟨⟨A1, c1, acc1⟩, ⟨A2, c2, inp⟩, ⟨A3, c3, natsI acc3⟩, ⟨A4, c4, rnd⟩, ⟨A5, c5, natsI acc5⟩, ⟨A6, c6, acc6⟩⟩ = F := hF.symm
          have hcells : FeedG.cells ⟨⟨A1, c1, acc1⟩, ⟨A2, c2, inp⟩, ⟨A3, c3, natsI acc3⟩, ⟨A4, c4, rnd⟩, ⟨A5, c5, natsI acc5⟩, ⟨A6, c6, acc6⟩⟩ = [.slice A1 acc1.length c1, .slice A2 inp.length c2, .slice A3 acc3.length c3, .slice A4 rnd.length c4, .slice A5 acc5.length c5, .slice A6 acc6.length c6] := by
            simp only [FeedG.cells, Sl.v, natsI_length]
          dsimp only [RdrR]
          refine Jp.y 143 rfl (want_all rfl) rfl rfl Kp.true (Y.move rfl rfl) ?_
          refine Jp.y 144 rfl (want_all rfl) rfl rfl Kp.true (Y.nilCheck rfl rfl) ?_
          refine Jp.y 145 rfl (want_all rfl) rfl rfl Kp.true (by first | exact Y.fieldAddrP rfl rfl Try.underlying115 rfl Try.sizeOf4 (by decide) (show _ + 2 = _ from rfl) | exact Y.fieldAddr rfl rfl Try.underlying115 rfl Try.sizeOf4 (by decide)) ?_
          refine Jp.y 146 rfl (want_all rfl) rfl rfl Kp.true (by first | exact Y.loadO 12 rfl Try.isAgg4 rfl rfl rfl | exact Y.loadO 11 rfl Try.isAgg4 rfl rfl rfl | exact Y.loadO 10 rfl Try.isAgg4 rfl rfl rfl) ?_
          refine Jp.y 147 rfl (want_all rfl) rfl rfl Kp.true (Y.move rfl rfl) ?_
          refine Jp.split 147 rfl (fun g147 => ?_) (fun g147 => ?_)
          · skip
            have hnone : getR xs = none := by rw [hget, if_pos (.inl g147)]
            refine Jp.skip 148 rfl (want_as rfl rfl rfl rfl) rfl rfl Kp.true ?_
            refine Jp.skip 149 rfl (want_as rfl rfl rfl rfl) rfl rfl Kp.true ?_
            refine Jp.skip 150 rfl (want_as rfl rfl rfl rfl) rfl rfl Kp.true ?_
            refine Jp.skip 151 rfl (want_as rfl rfl rfl rfl) rfl rfl Kp.true ?_
            refine Jp.skip 152 rfl (want_as rfl rfl rfl rfl) rfl rfl Kp.true ?_
            refine Jp.skip 153 rfl (want_as rfl rfl rfl rfl) rfl rfl Kp.true ?_
            refine Jp.skip 154 rfl (want_as rfl rfl rfl rfl) rfl rfl Kp.true ?_
            refine Jp.y 155 rfl (want_all rfl) rfl rfl Kp.true (Y.pickT rfl rfl rfl) ?_
            refine Jp.y 156 rfl (want_all rfl) rfl rfl Kp.true (Y.move rfl rfl) ?_
            refine Jp.skip 157 rfl (want_as rfl rfl rfl rfl) rfl rfl Kp.true ?_
            refine Jp.skip 158 rfl (want_as rfl rfl rfl rfl) rfl rfl Kp.true ?_
            refine Jp.y 159 rfl (want_all rfl) rfl rfl Kp.true (Y.pickT rfl rfl rfl) ?_
            refine Jp.y 160 rfl (want_all rfl) rfl rfl Kp.true (Y.move rfl rfl) ?_
            refine Jp.skip 161 rfl (want_as rfl rfl rfl rfl) rfl rfl Kp.true ?_
            refine Jp.skip 162 rfl (want_as rfl rfl rfl rfl) rfl rfl Kp.true ?_
            refine Jp.y 163 rfl (want_all rfl) rfl rfl Kp.true (Y.pickT rfl rfl rfl) ?_
            refine Jp.y 164 rfl (want_all rfl) rfl rfl Kp.true (Y.move rfl rfl) ?_
            refine Jp.skip 165 rfl (want_as rfl rfl rfl rfl) rfl rfl Kp.true ?_
            refine Jp.skip 166 rfl (want_as rfl rfl rfl rfl) rfl rfl Kp.true ?_
            refine Jp.y 167 rfl (want_all rfl) rfl rfl Kp.true (Y.pickT rfl rfl rfl) ?_
            refine Jp.y 168 rfl (want_all rfl) rfl rfl Kp.true (Y.move rfl rfl) ?_
            refine Jp.skip 169 rfl (want_as rfl rfl rfl rfl) rfl rfl Kp.true ?_
            refine Jp.skip 170 rfl (want_as rfl rfl rfl rfl) rfl rfl Kp.true ?_
            refine Jp.y 171 rfl (want_all rfl) rfl rfl Kp.true (Y.pickT rfl rfl rfl) ?_
            refine Jp.y 172 rfl (want_all rfl) rfl rfl Kp.true (Y.move rfl rfl) ?_
            refine Jp.skip 173 rfl (want_as rfl rfl rfl rfl) rfl rfl Kp.true ?_
            refine Jp.skip 174 rfl (want_as rfl rfl rfl rfl) rfl rfl Kp.true ?_
            refine Jp.skip 175 rfl (want_as rfl rfl rfl rfl) rfl rfl Kp.true ?_
            refine Jp.y 176 rfl (want_all rfl) rfl rfl Kp.true (Y.pickT rfl rfl rfl) ?_
            refine Jp.done hK41 ?_
            refine Cd.condT rfl ?_
            refine Cd.seq fun K42 hK42 => ?_
            refine Cd.plain [(0, false), (1, false), (2, false)] rfl rfl ?_
            refine Jp.y 177 rfl (want_all rfl) rfl rfl Kp.true (Y.struct [] [_, _, _, _, _, _] rfl rfl places30 Try.zeroValue30 rfl) ?_
            first | refine Jp.storeAgg 12 rfl (want_all rfl) rfl rfl Try.sizeOf30 rfl rfl rfl rfl rfl rfl (fun k _ _ => noFr0 k) Kp.true ?_ | refine Jp.storeAgg 11 rfl (want_all rfl) rfl rfl Try.sizeOf30 rfl rfl rfl rfl rfl rfl (fun k _ _ => noFr0 k) Kp.true ?_ | refine Jp.storeAgg 10 rfl (want_all rfl) rfl rfl Try.sizeOf30 rfl rfl rfl rfl rfl rfl (fun k _ _ => noFr0 k) Kp.true ?_
            refine Jp.y 3 rfl (want_all rfl) rfl rfl Kp.true (Y.assign rfl rfl) ?_
            refine Jp.done hK42 ?_
            refine Cd.imp (i := 10) rfl (fun _ h => (show Pt b10 (.cells (feedG0.cells).toArray 30) _ from h)) ?_
            refine Cd.ret [] rfl (by first | exact resC2 10 rfl rfl Try.isAgg30 Try.sizeOf30 rfl rfl rfl) trivial ?_
            exact ⟨feedG0, congrArg (fun e => Value.tuple #[.agg feedG0.cells.toArray, .bool e]) (getR_none hnone).symm, rfl, RdFeed.none _, (by show feedG0.p = (getR xs).getD feedP0; rw [hnone]; rfl), by simp [feedG0]⟩
          try simp only [decide_eq_false_iff_not, decide_eq_true_eq, Int.not_lt, Int.not_le, Bool.not_eq_false, Bool.not_eq_true, Bool.not_true, Bool.not_false, Bool.not_eq_true', Bool.not_eq_false', beq_eq_false_iff_ne, ne_eq, beq_iff_eq, bne_iff_ne, bne_eq_false_iff_eq, Classical.not_not] at g147
          refine Jp.y 148 rfl (want_as rfl rfl rfl rfl) rfl rfl Kp.true (Y.move rfl rfl) ?_
          refine Jp.y 149 rfl (want_as rfl rfl rfl rfl) rfl rfl Kp.true (Y.nilCheck rfl rfl) ?_
          refine Jp.y 150 rfl (want_as rfl rfl rfl rfl) rfl rfl Kp.true (by first | exact Y.fieldAddrP rfl rfl Try.underlying115 rfl Try.sizeOf3 (by decide) (show _ + 1 = _ from rfl) | exact Y.fieldAddr rfl rfl Try.underlying115 rfl Try.sizeOf3 (by decide)) ?_
          refine Jp.y 151 rfl (want_as rfl rfl rfl rfl) rfl rfl Kp.true (by first | exact Y.loadO 12 rfl Try.isAgg3 rfl rfl rfl | exact Y.loadO 11 rfl Try.isAgg3 rfl rfl rfl | exact Y.loadO 10 rfl Try.isAgg3 rfl rfl rfl) ?_
          refine Jp.y 152 rfl (want_as rfl rfl rfl rfl) rfl rfl Kp.true (Y.move rfl rfl) ?_
          refine Jp.y 153 rfl (want_as rfl rfl rfl rfl) rfl rfl Kp.true (Y.lenslice rfl Try.underlying26 rfl) ?_
          refine Jp.y 154 rfl (want_as rfl rfl rfl rfl) rfl rfl Kp.true (Y.neq rfl rfl rfl) ?_
          refine Jp.y 155 rfl (want_all rfl) rfl rfl Kp.true (Y.pickF rfl rfl rfl) ?_
          refine Jp.y 156 rfl (want_all rfl) rfl rfl Kp.true (Y.move rfl rfl) ?_
          refine Jp.split 156 rfl (fun g156 => ?_) (fun g156 => ?_)
          · skip
            have hne : xs.drop pf ≠ [] := by
              intro h0
              have h5 := congrArg List.length h0
              rw [List.length_drop, List.length_nil] at h5
              have h6 : (pf : Int) ≠ (xs.length : Int) := by simpa using g156
              omega
            have hnone : getR xs = none := by rw [hget, if_pos (.inr (.inl hne))]
            refine Jp.skip 157 rfl (want_as rfl rfl rfl rfl) rfl rfl Kp.true ?_
            refine Jp.skip 158 rfl (want_as rfl rfl rfl rfl) rfl rfl Kp.true ?_
            refine Jp.y 159 rfl (want_all rfl) rfl rfl Kp.true (Y.pickT rfl rfl rfl) ?_
            refine Jp.y 160 rfl (want_all rfl) rfl rfl Kp.true (Y.move rfl rfl) ?_
            refine Jp.skip 161 rfl (want_as rfl rfl rfl rfl) rfl rfl Kp.true ?_
            refine Jp.skip 162 rfl (want_as rfl rfl rfl rfl) rfl rfl Kp.true ?_
            refine Jp.y 163 rfl (want_all rfl) rfl rfl Kp.true (Y.pickT rfl rfl rfl) ?_
            refine Jp.y 164 rfl (want_all rfl) rfl rfl Kp.true (Y.move rfl rfl) ?_
            refine Jp.skip 165 rfl (want_as rfl rfl rfl rfl) rfl rfl Kp.true ?_
            refine Jp.skip 166 rfl (want_as rfl rfl rfl rfl) rfl rfl Kp.true ?_
            refine Jp.y 167 rfl (want_all rfl) rfl rfl Kp.true (Y.pickT rfl rfl rfl) ?_
            refine Jp.y 168 rfl (want_all rfl) rfl rfl Kp.true (Y.move rfl rfl) ?_
            refine Jp.skip 169 rfl (want_as rfl rfl rfl rfl) rfl rfl Kp.true ?_
            refine Jp.skip 170 rfl (want_as rfl rfl rfl rfl) rfl rfl Kp.true ?_
            refine Jp.y 171 rfl (want_all rfl) rfl rfl Kp.true (Y.pickT rfl rfl rfl) ?_
            refine Jp.y 172 rfl (want_all rfl) rfl rfl Kp.true (Y.move rfl rfl) ?_
            refine Jp.skip 173 rfl (want_as rfl rfl rfl rfl) rfl rfl Kp.true ?_
            refine Jp.skip 174 rfl (want_as rfl rfl rfl rfl) rfl rfl Kp.true ?_
            refine Jp.skip 175 rfl (want_as rfl rfl rfl rfl) rfl rfl Kp.true ?_
            refine Jp.y 176 rfl (want_all rfl) rfl rfl Kp.true (Y.pickT rfl rfl rfl) ?_
            refine Jp.done hK41 ?_
            refine Cd.condT rfl ?_
            refine Cd.seq fun K43 hK43 => ?_
            refine Cd.plain [(0, false), (1, false), (2, false)] rfl rfl ?_
            refine Jp.y 177 rfl (want_all rfl) rfl rfl Kp.true (Y.struct [] [_, _, _, _, _, _] rfl rfl places30 Try.zeroValue30 rfl) ?_
            first | refine Jp.storeAgg 12 rfl (want_all rfl) rfl rfl Try.sizeOf30 rfl rfl rfl rfl rfl rfl (fun k _ _ => noFr0 k) Kp.true ?_ | refine Jp.storeAgg 11 rfl (want_all rfl) rfl rfl Try.sizeOf30 rfl rfl rfl rfl rfl rfl (fun k _ _ => noFr0 k) Kp.true ?_ | refine Jp.storeAgg 10 rfl (want_all rfl) rfl rfl Try.sizeOf30 rfl rfl rfl rfl rfl rfl (fun k _ _ => noFr0 k) Kp.true ?_
            refine Jp.y 3 rfl (want_all rfl) rfl rfl Kp.true (Y.assign rfl rfl) ?_
            refine Jp.done hK43 ?_
            refine Cd.imp (i := 10) rfl (fun _ h => (show Pt b10 (.cells (feedG0.cells).toArray 30) _ from h)) ?_
            refine Cd.ret [] rfl (by first | exact resC2 10 rfl rfl Try.isAgg30 Try.sizeOf30 rfl rfl rfl) trivial ?_
            exact ⟨feedG0, congrArg (fun e => Value.tuple #[.agg feedG0.cells.toArray, .bool e]) (getR_none hnone).symm, rfl, RdFeed.none _, (by show feedG0.p = (getR xs).getD feedP0; rw [hnone]; rfl), by simp [feedG0]⟩
          try simp only [decide_eq_false_iff_not, decide_eq_true_eq, Int.not_lt, Int.not_le, Bool.not_eq_false, Bool.not_eq_true, Bool.not_true, Bool.not_false, Bool.not_eq_true', Bool.not_eq_false', beq_eq_false_iff_ne, ne_eq, beq_iff_eq, bne_iff_ne, bne_eq_false_iff_eq, Classical.not_not] at g156
          refine Jp.y 157 rfl (want_as rfl rfl rfl rfl) rfl rfl Kp.true (Y.move rfl rfl) ?_
          refine Jp.y 158 rfl (want_as rfl rfl rfl rfl) rfl rfl Kp.true (Y.gtr rfl rfl rfl) ?_
          refine Jp.y 159 rfl (want_all rfl) rfl rfl Kp.true (Y.pickF rfl rfl rfl) ?_
          refine Jp.y 160 rfl (want_all rfl) rfl rfl Kp.true (Y.move rfl rfl) ?_
          refine Jp.split 160 rfl (fun g160 => ?_) (fun g160 => ?_)
          · skip
            have hnone : getR xs = none := by rw [hget, if_pos (.inr (.inr (.inl (by simp only [decide_eq_true_eq] at g160; omega))))]
            refine Jp.skip 161 rfl (want_as rfl rfl rfl rfl) rfl rfl Kp.true ?_
            refine Jp.skip 162 rfl (want_as rfl rfl rfl rfl) rfl rfl Kp.true ?_
            refine Jp.y 163 rfl (want_all rfl) rfl rfl Kp.true (Y.pickT rfl rfl rfl) ?_
            refine Jp.y 164 rfl (want_all rfl) rfl rfl Kp.true (Y.move rfl rfl) ?_
            refine Jp.skip 165 rfl (want_as rfl rfl rfl rfl) rfl rfl Kp.true ?_
            refine Jp.skip 166 rfl (want_as rfl rfl rfl rfl) rfl rfl Kp.true ?_
            refine Jp.y 167 rfl (want_all rfl) rfl rfl Kp.true (Y.pickT rfl rfl rfl) ?_
            refine Jp.y 168 rfl (want_all rfl) rfl rfl Kp.true (Y.move rfl rfl) ?_
            refine Jp.skip 169 rfl (want_as rfl rfl rfl rfl) rfl rfl Kp.true ?_
            refine Jp.skip 170 rfl (want_as rfl rfl rfl rfl) rfl rfl Kp.true ?_
            refine Jp.y 171 rfl (want_all rfl) rfl rfl Kp.true (Y.pickT rfl rfl rfl) ?_
            refine Jp.y 172 rfl (want_all rfl) rfl rfl Kp.true (Y.move rfl rfl) ?_
            refine Jp.skip 173 rfl (want_as rfl rfl rfl rfl) rfl rfl Kp.true ?_
            refine Jp.skip 174 rfl (want_as rfl rfl rfl rfl) rfl rfl Kp.true ?_
            refine Jp.skip 175 rfl (want_as rfl rfl rfl rfl) rfl rfl Kp.true ?_
            refine Jp.y 176 rfl (want_all rfl) rfl rfl Kp.true (Y.pickT rfl rfl rfl) ?_
            refine Jp.done hK41 ?_
            refine Cd.condT rfl ?_
            refine Cd.seq fun K44 hK44 => ?_
            refine Cd.plain [(0, false), (1, false), (2, false)] rfl rfl ?_
            refine Jp.y 177 rfl (want_all rfl) rfl rfl Kp.true (Y.struct [] [_, _, _, _, _, _] rfl rfl places30 Try.zeroValue30 rfl) ?_
            first | refine Jp.storeAgg 12 rfl (want_all rfl) rfl rfl Try.sizeOf30 rfl rfl rfl rfl rfl rfl (fun k _ _ => noFr0 k) Kp.true ?_ | refine Jp.storeAgg 11 rfl (want_all rfl) rfl rfl Try.sizeOf30 rfl rfl rfl rfl rfl rfl (fun k _ _ => noFr0 k) Kp.true ?_ | refine Jp.storeAgg 10 rfl (want_all rfl) rfl rfl Try.sizeOf30 rfl rfl rfl rfl rfl rfl (fun k _ _ => noFr0 k) Kp.true ?_
            refine Jp.y 3 rfl (want_all rfl) rfl rfl Kp.true (Y.assign rfl rfl) ?_
            refine Jp.done hK44 ?_
            refine Cd.imp (i := 10) rfl (fun _ h => (show Pt b10 (.cells (feedG0.cells).toArray 30) _ from h)) ?_
            refine Cd.ret [] rfl (by first | exact resC2 10 rfl rfl Try.isAgg30 Try.sizeOf30 rfl rfl rfl) trivial ?_
            exact ⟨feedG0, congrArg (fun e => Value.tuple #[.agg feedG0.cells.toArray, .bool e]) (getR_none hnone).symm, rfl, RdFeed.none _, (by show feedG0.p = (getR xs).getD feedP0; rw [hnone]; rfl), by simp [feedG0]⟩
          try simp only [decide_eq_false_iff_not, decide_eq_true_eq, Int.not_lt, Int.not_le, Bool.not_eq_false, Bool.not_eq_true, Bool.not_true, Bool.not_false, Bool.not_eq_true', Bool.not_eq_false', beq_eq_false_iff_ne, ne_eq, beq_iff_eq, bne_iff_ne, bne_eq_false_iff_eq, Classical.not_not] at g160
          refine Jp.y 161 rfl (want_as rfl rfl rfl rfl) rfl rfl Kp.true (Y.move rfl rfl) ?_
          refine Jp.y 162 rfl (want_as rfl rfl rfl rfl) rfl rfl Kp.true (Y.gtr rfl rfl rfl) ?_
          refine Jp.y 163 rfl (want_all rfl) rfl rfl Kp.true (Y.pickF rfl rfl rfl) ?_
          refine Jp.y 164 rfl (want_all rfl) rfl rfl Kp.true (Y.move rfl rfl) ?_
          refine Jp.split 164 rfl (fun g164 => ?_) (fun g164 => ?_)
          · skip
            have hnone : getR xs = none := by rw [hget, if_pos (.inr (.inr (.inr (.inl (by simp only [decide_eq_true_eq] at g164; omega)))))]
            refine Jp.skip 165 rfl (want_as rfl rfl rfl rfl) rfl rfl Kp.true ?_
            refine Jp.skip 166 rfl (want_as rfl rfl rfl rfl) rfl rfl Kp.true ?_
            refine Jp.y 167 rfl (want_all rfl) rfl rfl Kp.true (Y.pickT rfl rfl rfl) ?_
            refine Jp.y 168 rfl (want_all rfl) rfl rfl Kp.true (Y.move rfl rfl) ?_
            refine Jp.skip 169 rfl (want_as rfl rfl rfl rfl) rfl rfl Kp.true ?_
            refine Jp.skip 170 rfl (want_as rfl rfl rfl rfl) rfl rfl Kp.true ?_
            refine Jp.y 171 rfl (want_all rfl) rfl rfl Kp.true (Y.pickT rfl rfl rfl) ?_
            refine Jp.y 172 rfl (want_all rfl) rfl rfl Kp.true (Y.move rfl rfl) ?_
            refine Jp.skip 173 rfl (want_as rfl rfl rfl rfl) rfl rfl Kp.true ?_
            refine Jp.skip 174 rfl (want_as rfl rfl rfl rfl) rfl rfl Kp.true ?_
            refine Jp.skip 175 rfl (want_as rfl rfl rfl rfl) rfl rfl Kp.true ?_
            refine Jp.y 176 rfl (want_all rfl) rfl rfl Kp.true (Y.pickT rfl rfl rfl) ?_
            refine Jp.done hK41 ?_
            refine Cd.condT rfl ?_
            refine Cd.seq fun K45 hK45 => ?_
            refine Cd.plain [(0, false), (1, false), (2, false)] rfl rfl ?_
            refine Jp.y 177 rfl (want_all rfl) rfl rfl Kp.true (Y.struct [] [_, _, _, _, _, _] rfl rfl places30 Try.zeroValue30 rfl) ?_
            first | refine Jp.storeAgg 12 rfl (want_all rfl) rfl rfl Try.sizeOf30 rfl rfl rfl rfl rfl rfl (fun k _ _ => noFr0 k) Kp.true ?_ | refine Jp.storeAgg 11 rfl (want_all rfl) rfl rfl Try.sizeOf30 rfl rfl rfl rfl rfl rfl (fun k _ _ => noFr0 k) Kp.true ?_ | refine Jp.storeAgg 10 rfl (want_all rfl) rfl rfl Try.sizeOf30 rfl rfl rfl rfl rfl rfl (fun k _ _ => noFr0 k) Kp.true ?_
            refine Jp.y 3 rfl (want_all rfl) rfl rfl Kp.true (Y.assign rfl rfl) ?_
            refine Jp.done hK45 ?_
            refine Cd.imp (i := 10) rfl (fun _ h => (show Pt b10 (.cells (feedG0.cells).toArray 30) _ from h)) ?_
            refine Cd.ret [] rfl (by first | exact resC2 10 rfl rfl Try.isAgg30 Try.sizeOf30 rfl rfl rfl) trivial ?_
            exact ⟨feedG0, congrArg (fun e => Value.tuple #[.agg feedG0.cells.toArray, .bool e]) (getR_none hnone).symm, rfl, RdFeed.none _, (by show feedG0.p = (getR xs).getD feedP0; rw [hnone]; rfl), by simp [feedG0]⟩
          try simp only [decide_eq_false_iff_not, decide_eq_true_eq, Int.not_lt, Int.not_le, Bool.not_eq_false, Bool.not_eq_true, Bool.not_true, Bool.not_false, Bool.not_eq_true', Bool.not_eq_false', beq_eq_false_iff_ne, ne_eq, beq_iff_eq, bne_iff_ne, bne_eq_false_iff_eq, Classical.not_not] at g164
          refine Jp.y 165 rfl (want_as rfl rfl rfl rfl) rfl rfl Kp.true (Y.move rfl rfl) ?_
          refine Jp.y 166 rfl (want_as rfl rfl rfl rfl) rfl rfl Kp.true (Y.gtr rfl rfl rfl) ?_
          refine Jp.y 167 rfl (want_all rfl) rfl rfl Kp.true (Y.pickF rfl rfl rfl) ?_
          refine Jp.y 168 rfl (want_all rfl) rfl rfl Kp.true (Y.move rfl rfl) ?_
          refine Jp.split 168 rfl (fun g168 => ?_) (fun g168 => ?_)
          · skip
            have hnone : getR xs = none := by rw [hget, if_pos (.inr (.inr (.inr (.inr (.inl (by simp only [decide_eq_true_eq] at g168; omega))))))]
            refine Jp.skip 169 rfl (want_as rfl rfl rfl rfl) rfl rfl Kp.true ?_
            refine Jp.skip 170 rfl (want_as rfl rfl rfl rfl) rfl rfl Kp.true ?_
            refine Jp.y 171 rfl (want_all rfl) rfl rfl Kp.true (Y.pickT rfl rfl rfl) ?_
            refine Jp.y 172 rfl (want_all rfl) rfl rfl Kp.true (Y.move rfl rfl) ?_
            refine Jp.skip 173 rfl (want_as rfl rfl rfl rfl) rfl rfl Kp.true ?_
            refine Jp.skip 174 rfl (want_as rfl rfl rfl rfl) rfl rfl Kp.true ?_
            refine Jp.skip 175 rfl (want_as rfl rfl rfl rfl) rfl rfl Kp.true ?_
            refine Jp.y 176 rfl (want_all rfl) rfl rfl Kp.true (Y.pickT rfl rfl rfl) ?_
            refine Jp.done hK41 ?_
            refine Cd.condT rfl ?_
            refine Cd.seq fun K46 hK46 => ?_
            refine Cd.plain [(0, false), (1, false), (2, false)] rfl rfl ?_
            refine Jp.y 177 rfl (want_all rfl) rfl rfl Kp.true (Y.struct [] [_, _, _, _, _, _] rfl rfl places30 Try.zeroValue30 rfl) ?_
            first | refine Jp.storeAgg 12 rfl (want_all rfl) rfl rfl Try.sizeOf30 rfl rfl rfl rfl rfl rfl (fun k _ _ => noFr0 k) Kp.true ?_ | refine Jp.storeAgg 11 rfl (want_all rfl) rfl rfl Try.sizeOf30 rfl rfl rfl rfl rfl rfl (fun k _ _ => noFr0 k) Kp.true ?_ | refine Jp.storeAgg 10 rfl (want_all rfl) rfl rfl Try.sizeOf30 rfl rfl rfl rfl rfl rfl (fun k _ _ => noFr0 k) Kp.true ?_
            refine Jp.y 3 rfl (want_all rfl) rfl rfl Kp.true (Y.assign rfl rfl) ?_
            refine Jp.done hK46 ?_
            refine Cd.imp (i := 10) rfl (fun _ h => (show Pt b10 (.cells (feedG0.cells).toArray 30) _ from h)) ?_
            refine Cd.ret [] rfl (by first | exact resC2 10 rfl rfl Try.isAgg30 Try.sizeOf30 rfl rfl rfl) trivial ?_
            exact ⟨feedG0, congrArg (fun e => Value.tuple #[.agg feedG0.cells.toArray, .bool e]) (getR_none hnone).symm, rfl, RdFeed.none _, (by show feedG0.p = (getR xs).getD feedP0; rw [hnone]; rfl), by simp [feedG0]⟩
          try simp only [decide_eq_false_iff_not, decide_eq_true_eq, Int.not_lt, Int.not_le, Bool.not_eq_false, Bool.not_eq_true, Bool.not_true, Bool.not_false, Bool.not_eq_true', Bool.not_eq_false', beq_eq_false_iff_ne, ne_eq, beq_iff_eq, bne_iff_ne, bne_eq_false_iff_eq, Classical.not_not] at g168
          refine Jp.y 169 rfl (want_as rfl rfl rfl rfl) rfl rfl Kp.true (Y.move rfl rfl) ?_
          refine Jp.y 170 rfl (want_as rfl rfl rfl rfl) rfl rfl Kp.true (Y.gtr rfl rfl rfl) ?_
          refine Jp.y 171 rfl (want_all rfl) rfl rfl Kp.true (Y.pickF rfl rfl rfl) ?_
          refine Jp.y 172 rfl (want_all rfl) rfl rfl Kp.true (Y.move rfl rfl) ?_
          refine Jp.split 172 rfl (fun g172 => ?_) (fun g172 => ?_)
          · skip
            have hnone : getR xs = none := by rw [hget, if_pos (.inr (.inr (.inr (.inr (.inr (.inl (by simp only [decide_eq_true_eq] at g172; omega)))))))]
            refine Jp.skip 173 rfl (want_as rfl rfl rfl rfl) rfl rfl Kp.true ?_
            refine Jp.skip 174 rfl (want_as rfl rfl rfl rfl) rfl rfl Kp.true ?_
            refine Jp.skip 175 rfl (want_as rfl rfl rfl rfl) rfl rfl Kp.true ?_
            refine Jp.y 176 rfl (want_all rfl) rfl rfl Kp.true (Y.pickT rfl rfl rfl) ?_
            refine Jp.done hK41 ?_
            refine Cd.condT rfl ?_
            refine Cd.seq fun K47 hK47 => ?_
            refine Cd.plain [(0, false), (1, false), (2, false)] rfl rfl ?_
            refine Jp.y 177 rfl (want_all rfl) rfl rfl Kp.true (Y.struct [] [_, _, _, _, _, _] rfl rfl places30 Try.zeroValue30 rfl) ?_
            first | refine Jp.storeAgg 12 rfl (want_all rfl) rfl rfl Try.sizeOf30 rfl rfl rfl rfl rfl rfl (fun k _ _ => noFr0 k) Kp.true ?_ | refine Jp.storeAgg 11 rfl (want_all rfl) rfl rfl Try.sizeOf30 rfl rfl rfl rfl rfl rfl (fun k _ _ => noFr0 k) Kp.true ?_ | refine Jp.storeAgg 10 rfl (want_all rfl) rfl rfl Try.sizeOf30 rfl rfl rfl rfl rfl rfl (fun k _ _ => noFr0 k) Kp.true ?_
            refine Jp.y 3 rfl (want_all rfl) rfl rfl Kp.true (Y.assign rfl rfl) ?_
            refine Jp.done hK47 ?_
            refine Cd.imp (i := 10) rfl (fun _ h => (show Pt b10 (.cells (feedG0.cells).toArray 30) _ from h)) ?_
            refine Cd.ret [] rfl (by first | exact resC2 10 rfl rfl Try.isAgg30 Try.sizeOf30 rfl rfl rfl) trivial ?_
            exact ⟨feedG0, congrArg (fun e => Value.tuple #[.agg feedG0.cells.toArray, .bool e]) (getR_none hnone).symm, rfl, RdFeed.none _, (by show feedG0.p = (getR xs).getD feedP0; rw [hnone]; rfl), by simp [feedG0]⟩
          try simp only [decide_eq_false_iff_not, decide_eq_true_eq, Int.not_lt, Int.not_le, Bool.not_eq_false, Bool.not_eq_true, Bool.not_true, Bool.not_false, Bool.not_eq_true', Bool.not_eq_false', beq_eq_false_iff_ne, ne_eq, beq_iff_eq, bne_iff_ne, bne_eq_false_iff_eq, Classical.not_not] at g172
          refine Jp.y 173 rfl (want_as rfl rfl rfl rfl) rfl rfl Kp.true (by first | exact Y.loadAggO 12 rfl Try.isAgg30 Try.sizeOf30 rfl rfl rfl | exact Y.loadAggO 11 rfl Try.isAgg30 Try.sizeOf30 rfl rfl rfl | exact Y.loadAggO 10 rfl Try.isAgg30 Try.sizeOf30 rfl rfl rfl) ?_
          have h2 : xs.drop pf = [] := by
            have : pf = xs.length := by have h7 : (pf : Int) = (xs.length : Int) := by simpa using g156
                                        omega
            rw [this]; exact List.drop_of_length_le (Nat.le_refl _)
          refine Jp.slot 173 rfl (show _ = Value.agg (FeedG.cells ⟨⟨A1, c1, acc1⟩, ⟨A2, c2, inp⟩, ⟨A3, c3, natsI acc3⟩, ⟨A4, c4, rnd⟩, ⟨A5, c5, natsI acc5⟩, ⟨A6, c6, acc6⟩⟩).toArray by rw [hcells]) ?_
          refine Jp.call [] [] (f16_spec ⟨⟨A1, c1, acc1⟩, ⟨A2, c2, inp⟩, ⟨A3, c3, natsI acc3⟩, ⟨A4, c4, rnd⟩, ⟨A5, c5, natsI acc5⟩, ⟨A6, c6, acc6⟩⟩) 174 rfl (want_as rfl rfl rfl rfl) rfl rfl (Runs.fn rfl Try.call16 rfl) (by decide) (by decide) rfl hfeed ?_
          rintro v16 ρ16 L16 ⟨rfl, rfl, rfl⟩
          refine ⟨rfl, fun hle16 => ⟨Kp.true, ?_⟩⟩
          rw [hp]
          refine Jp.y 175 rfl (want_as rfl rfl rfl rfl) rfl rfl Kp.true (Y.not rfl rfl) ?_
          refine Jp.y 176 rfl (want_all rfl) rfl rfl Kp.true (Y.pickF rfl rfl rfl) ?_
          refine Jp.done hK41 ?_
          refine Cd.cond rfl (fun ge => ?_) (fun ge => ?_)
          · have hg : good F = false := by simpa using ge
            have hnone : getR xs = none := by rw [hget, if_pos (.inr (.inr (.inr (.inr (.inr (.inr hg))))))]
            refine Cd.seq fun K48 hK48 => ?_
            refine Cd.plain [(0, false), (1, false), (2, false)] rfl rfl ?_
            refine Jp.y 177 rfl (want_all rfl) rfl rfl Kp.true (Y.struct [] [_, _, _, _, _, _] rfl rfl places30 Try.zeroValue30 rfl) ?_
            first | refine Jp.storeAgg 12 rfl (want_all rfl) rfl rfl Try.sizeOf30 rfl rfl rfl rfl rfl rfl (fun k _ _ => noFr0 k) Kp.true ?_ | refine Jp.storeAgg 11 rfl (want_all rfl) rfl rfl Try.sizeOf30 rfl rfl rfl rfl rfl rfl (fun k _ _ => noFr0 k) Kp.true ?_ | refine Jp.storeAgg 10 rfl (want_all rfl) rfl rfl Try.sizeOf30 rfl rfl rfl rfl rfl rfl (fun k _ _ => noFr0 k) Kp.true ?_
            refine Jp.y 3 rfl (want_all rfl) rfl rfl Kp.true (Y.assign rfl rfl) ?_
            refine Jp.done hK48 ?_
            refine Cd.imp (i := 10) rfl (fun _ h => (show Pt b10 (.cells (feedG0.cells).toArray 30) _ from h)) ?_
            refine Cd.ret [] rfl (by first | exact resC2 10 rfl rfl Try.isAgg30 Try.sizeOf30 rfl rfl rfl) trivial ?_
            exact ⟨feedG0, congrArg (fun e => Value.tuple #[.agg feedG0.cells.toArray, .bool e]) (getR_none hnone).symm, rfl, RdFeed.none _, (by show feedG0.p = (getR xs).getD feedP0; rw [hnone]; rfl), by simp [feedG0]⟩
          · have hg : good F = true := by simpa using ge
            have hsome : getR xs = some F := by
              rw [hget, if_neg]
              simp only [not_or, Bool.not_eq_true, Bool.not_eq_false, ne_eq, Classical.not_not]
              exact ⟨g147, h2, by omega, by omega, by omega, by omega, hg⟩
            refine Cd.skip hK40 ?_
            refine Cd.seq fun K49 hK49 => ?_
            refine Cd.plain [(0, false), (1, false), (2, false)] rfl rfl ?_
            refine Jp.y 178 rfl (want_all rfl) rfl rfl Kp.true (by first | exact Y.loadAggO 12 rfl Try.isAgg30 Try.sizeOf30 rfl rfl rfl | exact Y.loadAggO 11 rfl Try.isAgg30 Try.sizeOf30 rfl rfl rfl | exact Y.loadAggO 10 rfl Try.isAgg30 Try.sizeOf30 rfl rfl rfl) ?_
            first | refine Jp.storeAgg 12 rfl (want_all rfl) rfl rfl Try.sizeOf30 rfl rfl rfl rfl rfl rfl (fun k _ _ => noFr0 k) Kp.true ?_ | refine Jp.storeAgg 11 rfl (want_all rfl) rfl rfl Try.sizeOf30 rfl rfl rfl rfl rfl rfl (fun k _ _ => noFr0 k) Kp.true ?_ | refine Jp.storeAgg 10 rfl (want_all rfl) rfl rfl Try.sizeOf30 rfl rfl rfl rfl rfl rfl (fun k _ _ => noFr0 k) Kp.true ?_
            refine Jp.y 3 rfl (want_all rfl) rfl rfl Kp.true (Y.assign rfl rfl) ?_
            refine Jp.done hK49 ?_
            refine Cd.imp (i := 10) rfl (fun _ h => (show Pt b10 (.cells [.slice A1 acc1.length c1, .slice A2 inp.length c2, .slice A3 acc3.length c3, .slice A4 rnd.length c4, .slice A5 acc5.length c5, .slice A6 acc6.length c6].toArray 30) _ from h)) ?_
            refine Cd.ret [] rfl (by first | exact resC2 10 rfl rfl Try.isAgg30 Try.sizeOf30 rfl rfl rfl) trivial ?_
            refine ⟨_, ?_, rfl, hfeed, (by show _ = (getR xs).getD feedP0; rw [hsome, hp]; rfl), hcl⟩
            rw [hcells]
            exact congrArg (fun e => Value.tuple #[.agg (Array.mk _), .bool e]) (getR_isSome hsome).symm
        try simp only [decide_eq_false_iff_not, decide_eq_true_eq, Int.not_lt, Int.not_le, Bool.not_eq_false, Bool.not_eq_true, Bool.not_true, Bool.not_false, Bool.not_eq_true', Bool.not_eq_false', beq_eq_false_iff_ne, ne_eq, beq_iff_eq, bne_iff_ne, bne_eq_false_iff_eq, Classical.not_not] at g123
        refine Cd.skip hK18 ?_
        refine Cd.seq fun K50 hK50 => ?_
        refine Cd.block ?_
        refine Cd.seq fun K51 hK51 => ?_
        refine Cd.plain [(0, false), (1, false), (2, false), (3, false), (4, false), (5, false), (6, false), (7, false)] rfl rfl ?_
        refine Jp.y 126 rfl (want_all rfl) rfl rfl Kp.true (Y.move rfl rfl) ?_
        refine Jp.y 127 rfl (want_all rfl) rfl rfl Kp.true (Y.move rfl rfl) ?_
        refine Jp.call [11] [11] (rnumR_spec b11 ⟨A, c, xs⟩ pf badf ok12) 128 rfl (want_all rfl) rfl rfl (Runs.fn rfl Try.call64 rfl) (by decide) (by decide) rfl (RdB.up _ _ _ ok14 hr) ?_
        rintro v13 ρ13 L13 ⟨rfl, m1, q1, bq1, x1, hq1, rfl, rfl⟩
        refine ⟨rfl, fun hle13 => ⟨Kp.true, ?_⟩⟩
        have hm1 : m1 < 4294967296 := by have := numR_lt (xs.drop pf, badf); rw [x1] at this; exact this
        refine Jp.call [11] [11, 14] (rbytesR_spec b11 ⟨A, c, xs⟩ q1 bq1 m1 hq1 hs hm1) 129 rfl (want_all rfl) rfl rfl (Runs.fn rfl Try.call65 rfl) (by decide) (by decide) rfl (RdB.up _ _ _ ok14 hr) ?_
        rintro v14 ρ14 L14 ⟨rfl, t1, q2, bq2, At1, ct1, x2, hq2, ht1, rfl, rfl⟩
        refine ⟨rfl, fun hle14 => ⟨Kp.true, ?_⟩⟩
        have y1 := textR_of x1 x2
        dsimp only at y1 hq2 ht1
        refine Jp.y 130 rfl (want_all rfl) rfl rfl Kp.true (Y.toStr _ rfl rfl Try.underlying26 Try.underlying9 Try.underlying5 ⟨_, _, rfl⟩ (Src.own 14 rfl)) ?_
        refine Jp.y 131 rfl (want_all rfl) rfl rfl Kp.true (Y.struct [(0, _)] [_, _] rfl rfl places93 Try.zeroValue93 rfl) ?_
        refine Jp.alloc 22 14 rfl (want_all rfl) rfl rfl rfl Try.zeroValue93 fun b22 => ⟨Kp.true, ?_⟩
        first | refine Jp.storeAgg 22 rfl (want_all rfl) rfl rfl Try.sizeOf93 rfl rfl rfl rfl rfl rfl (fun k _ _ => noFr0 k) Kp.true ?_ | refine Jp.storeAgg 12 rfl (want_all rfl) rfl rfl Try.sizeOf93 rfl rfl rfl rfl rfl rfl (fun k _ _ => noFr0 k) Kp.true ?_ | refine Jp.storeAgg 11 rfl (want_all rfl) rfl rfl Try.sizeOf93 rfl rfl rfl rfl rfl rfl (fun k _ _ => noFr0 k) Kp.true ?_ | refine Jp.storeAgg 22 rfl (want_all rfl) rfl rfl Try.sizeOf93 rfl rfl rfl rfl rfl rfl (fun k _ _ => noFr0 k) Kp.true ?_
        refine Jp.done hK51 ?_
        refine Cd.seq fun K52 hK52 => ?_
        refine Cd.plain [(0, false), (1, false), (2, false), (3, false), (4, false), (5, false)] rfl rfl ?_
        refine Jp.y 132 rfl (want_all rfl) rfl rfl Kp.true (Y.move rfl rfl) ?_
        refine Jp.y 133 rfl (want_all rfl) rfl rfl Kp.true (Y.move rfl rfl) ?_
        refine Jp.call [11] [11] (rnumR_spec b11 ⟨A, c, xs⟩ q2 bq2 hq2) 134 rfl (want_all rfl) rfl rfl (Runs.fn rfl Try.call64 rfl) (by decide) (by decide) rfl (RdB.up _ _ _ ok14 hr) ?_
        rintro v15 ρ15 L15 ⟨rfl, m2', q3, bq3, x3, hq3, rfl, rfl⟩
        refine ⟨rfl, fun hle15 => ⟨Kp.true, ?_⟩⟩
        have hm2' : m2' < 4294967296 := by have := numR_lt (xs.drop q2, bq2); rw [x3] at this; exact this
        refine Jp.call [11] [11, 15] (rbytesR_spec b11 ⟨A, c, xs⟩ q3 bq3 m2' hq3 hs hm2') 135 rfl (want_all rfl) rfl rfl (Runs.fn rfl Try.call65 rfl) (by decide) (by decide) rfl (RdB.up _ _ _ ok14 hr) ?_
        rintro v16 ρ16 L16 ⟨rfl, t2, q4, bq4, Ah, ch, x4, hq4, ht2, rfl, rfl⟩
        refine ⟨rfl, fun hle16 => ⟨Kp.true, ?_⟩⟩
        have y2 := textR_of x3 x4
        dsimp only at y2 hq4 ht2
        have ef : fileR (xs.drop pf, badf) = ((t1, t2), (xs.drop q4, bq4)) := by
          unfold fileR bindP pureP
          rw [y1]; dsimp only; rw [y2]
        refine Jp.y 136 rfl (want_all rfl) rfl rfl Kp.true (by first | exact Y.fieldAddrP rfl rfl Try.underlying93 rfl Try.sizeOf26 (by decide) (show _ + 1 = _ from rfl) | exact Y.fieldAddr rfl rfl Try.underlying93 rfl Try.sizeOf26 (by decide)) ?_
        first | refine Jp.store 22 rfl (want_all rfl) rfl rfl Try.sizeOf26 rfl rfl rfl rfl rfl rfl Kp.true ?_ | refine Jp.store 12 rfl (want_all rfl) rfl rfl Try.sizeOf26 rfl rfl rfl rfl rfl rfl Kp.true ?_ | refine Jp.store 11 rfl (want_all rfl) rfl rfl Try.sizeOf26 rfl rfl rfl rfl rfl rfl Kp.true ?_
        refine Jp.done hK52 ?_
        refine Cd.plain [(0, false), (1, false), (2, false), (3, false), (4, false), (5, false), (6, false)] rfl rfl ?_
        refine Jp.y 137 rfl (want_all rfl) rfl rfl Kp.true (by first | exact Y.fieldAddrP rfl rfl Try.underlying30 rfl Try.sizeOf28 (by decide) (show _ + 5 = _ from rfl) | exact Y.fieldAddr rfl rfl Try.underlying30 rfl Try.sizeOf28 (by decide)) ?_
        refine Jp.y 138 rfl (want_all rfl) rfl rfl Kp.true (by first | exact Y.loadO 22 rfl Try.isAgg28 rfl rfl rfl | exact Y.loadO 12 rfl Try.isAgg28 rfl rfl rfl | exact Y.loadO 11 rfl Try.isAgg28 rfl rfl rfl) ?_
        refine Jp.y 139 rfl (want_all rfl) rfl rfl Kp.true (by first | exact Y.loadAggO 22 rfl Try.isAgg93 Try.sizeOf93 rfl rfl rfl | exact Y.loadAggO 12 rfl Try.isAgg93 Try.sizeOf93 rfl rfl rfl | exact Y.loadAggO 11 rfl Try.isAgg93 Try.sizeOf93 rfl rfl rfl) ?_
        refine Jp.lit 140 16 [(0, _)] [_, _] rfl (want_all rfl) rfl rfl rfl rfl Try.underlying28 Try.sizeOf93 Try.zeroValue93 rfl rfl rfl rfl rfl fun b16 => ⟨Kp.true, ?_⟩
        obtain ⟨nf, hnf⟩ : ∃ nf : FileG, nf = ⟨mkS t1, ⟨Ah, ch, t2⟩⟩ := ⟨_, rfl⟩
        have hlen : (acc6 ++ [nf]).length = acc6.length + 1 := by simp
        have hsn : filesV acc6 ++ [.string (mkS t1), .slice Ah t2.length ch] = filesV (acc6 ++ [nf]) := by rw [hnf]; exact filesV_snocG acc6 ⟨mkS t1, ⟨Ah, ch, t2⟩⟩
        have hnp : nf.p = (t1, t2) := by rw [hnf]; simp [FileG.p, str_mkS]
        refine Jp.append 141 21 rfl (want_all rfl) rfl rfl rfl Try.underlying28 Try.underlying28 (.inl ⟨_, rfl⟩) Try.sizeOf93 Try.typeInfo93 Try.zeroValue93 rfl (by decide) rfl rfl rfl (Src.own 16 rfl) rfl ((acc6 ++ [nf]).length) ((filesV (acc6 ++ [nf]))) (by first | omega | simp) hsn (by simp only [Try.t93]; omega) fun A17 c17 => ⟨Kp.true, ?_⟩
        refine Jp.freeze (i := 15) rfl (OwnS.up _ _ _ _ _ _) fun ρ9 l9 q9 => ?_
        refine Jp.y 142 rfl (want_all rfl) rfl rfl Kp.true (by first | exact Y.fieldAddrP rfl rfl Try.underlying30 rfl Try.sizeOf28 (by decide) (show _ + 5 = _ from rfl) | exact Y.fieldAddr rfl rfl Try.underlying30 rfl Try.sizeOf28 (by decide)) ?_
        first | refine Jp.store 12 rfl (want_all rfl) rfl rfl Try.sizeOf28 rfl rfl rfl rfl rfl rfl Kp.true ?_ | refine Jp.store 11 rfl (want_all rfl) rfl rfl Try.sizeOf28 rfl rfl rfl rfl rfl rfl Kp.true ?_
        refine Jp.over rfl hK50 ?_
        refine Cd.plain [(0, false), (1, false), (2, false)] rfl rfl ?_
        refine Jp.y 124 rfl (want_all rfl) rfl rfl Kp.true (Y.move rfl rfl) ?_
        refine Jp.y 125 rfl (want_all rfl) rfl rfl Kp.true (Y.add_ rfl rfl rfl (by first | exact wrap_u32 (by omega) (by omega) | rfl)) ?_
        refine Jp.y 13 rfl (want_all rfl) rfl rfl Kp.true (Y.assign rfl rfl) ?_
        rw [show (acc6.length : Int) + 1 = ((acc6 ++ [nf]).length : Int) by simp]
        refine Jp.again hLd ⟨acc6 ++ [nf], A17, c17, q4, bq4, ρ9⟩ ⟨by show (acc6 ++ [nf]).length ≤ min n6 20; omega, by rw [List.map_append, List.map_singleton, hnp, hlen]; exact manyR_step ok11 (by omega) (by simpa using g123) ef, hq4, ?_, Hp.le_trans ok14 l9⟩ (by show min n6 20 - (acc6 ++ [nf]).length < min n6 20 - acc6.length; omega) rfl ⟨rfl, rfl, rfl, rfl, rfl, rfl, rfl, rfl, rfl, trivial⟩ ⟨rfl, rfl, rfl, rfl, rfl, rfl, rfl, rfl, rfl, trivial⟩
        intro y hy
        rcases List.mem_append.1 hy with hy | hy
        · exact RdB.up _ _ _ l9 (ok13 y hy)
        · rw [List.mem_singleton] at hy; subst hy; rw [hnf]; exact q9.rd
      · skip
        refine Cd.loopK (G := List Nat × Option Addr × Nat × Nat × Bool) (fun g => g.1.length ≤ (min n5 70) ∧ manyR numR (min n5 70) (xs.drop p5, bad5) = (g.1 ++ (manyR numR ((min n5 70) - g.1.length) (xs.drop g.2.2.2.1, g.2.2.2.2)).1, (manyR numR ((min n5 70) - g.1.length) (xs.drop g.2.2.2.1, g.2.2.2.2)).2) ∧ g.2.2.2.1 ≤ xs.length ∧ ∀ x ∈ g.1, x < 4294967296) (fun g => (min n5 70) - g.1.length) (fun _ => _) (fun g => [(11, .int .u32 (g.1.length : Int))]) [(0, _), (2, _), (4, _), (5, _), (6, _), (8, _), (10, _)] (fun g => [(11, RdrR b11 ⟨A, c, xs⟩ g.2.2.2.1 g.2.2.2.2), (12, Pt b12 (.cells #[.slice A1 acc1.length c1, .slice A2 inp.length c2, .slice A3 acc3.length c3, .slice A4 rnd.length c4, .slice g.2.1 g.1.length g.2.2.1, .slice none 0 0] 30)), (20, OwnS 49 1 g.2.1 g.1.length g.2.2.1 (intsV .u32 (natsI g.1)))]) [(10, _), (13, _), (17, _), (18, _), (19, _)] ⟨[], none, 0, p5, bad5⟩ ⟨Nat.zero_le _, rfl, hp5, by simp⟩ rfl ⟨rfl, trivial⟩ ⟨rfl, rfl, rfl, rfl, rfl, rfl, rfl, trivial⟩ ⟨rfl, rfl, rfl, trivial⟩ ⟨rfl, rfl, rfl, rfl, rfl, trivial⟩ (fun g KLc hok hLc => ?_)
        obtain ⟨acc, B, d, p, bad⟩ := g
        obtain ⟨ok1, ok2, ok3, ok4⟩ := hok
        dsimp only at ok1 ok2 ok3 ⊢
        refine Cd.seq fun K53 hK53 => ?_
        refine Cd.seq fun K54 hK54 => ?_
        refine Cd.plain [(0, false), (1, false), (2, false), (3, false), (4, false), (5, false), (6, false), (7, false), (8, false), (9, false), (10, false), (11, false), (12, false), (13, false)] rfl rfl ?_
        refine Jp.y 85 rfl (want_all rfl) rfl rfl Kp.true (Y.move rfl rfl) ?_
        refine Jp.y 86 rfl (want_all rfl) rfl rfl Kp.true (Y.move rfl rfl) ?_
        refine Jp.y 87 rfl (want_all rfl) rfl rfl Kp.true (Y.lss rfl rfl rfl) ?_
        refine Jp.y 88 rfl (want_all rfl) rfl rfl Kp.true (Y.move rfl rfl) ?_
        refine Jp.splitF 88 rfl (fun g88 => ?_) (fun g88 => ?_)
        · skip
          simp only [decide_eq_false_iff_not] at g88
          refine Jp.skip 89 rfl (want_as rfl rfl rfl rfl) rfl rfl Kp.true ?_
          refine Jp.skip 90 rfl (want_as rfl rfl rfl rfl) rfl rfl Kp.true ?_
          refine Jp.y 91 rfl (want_all rfl) rfl rfl Kp.true (Y.pickF rfl rfl rfl) ?_
          refine Jp.y 92 rfl (want_all rfl) rfl rfl Kp.true (Y.move rfl rfl) ?_
          refine Jp.skip 93 rfl (want_as rfl rfl rfl rfl) rfl rfl Kp.true ?_
          refine Jp.skip 94 rfl (want_as rfl rfl rfl rfl) rfl rfl Kp.true ?_
          refine Jp.skip 95 rfl (want_as rfl rfl rfl rfl) rfl rfl Kp.true ?_
          refine Jp.skip 96 rfl (want_as rfl rfl rfl rfl) rfl rfl Kp.true ?_
          refine Jp.skip 97 rfl (want_as rfl rfl rfl rfl) rfl rfl Kp.true ?_
          refine Jp.y 98 rfl (want_all rfl) rfl rfl Kp.true (Y.pickF rfl rfl rfl) ?_
          refine Jp.done hK54 ?_
          refine Cd.condF rfl ?_
          refine Cd.exit rfl hK13 ?_
          exact Cd.meet (hj3 ⟨acc, B, d, p, bad⟩ ⟨manyR_end ok2 (.inl (by omega)), ok3, (show acc.length ≤ 70 by omega), ok4⟩) ⟨rfl, rfl, rfl, rfl, rfl, rfl, rfl, trivial⟩ ⟨rfl, rfl, rfl, rfl, rfl, rfl, rfl, rfl, trivial⟩
        try simp only [decide_eq_false_iff_not, decide_eq_true_eq, Int.not_lt, Int.not_le, Bool.not_eq_false, Bool.not_eq_true, Bool.not_true, Bool.not_false, Bool.not_eq_true', Bool.not_eq_false', beq_eq_false_iff_ne, ne_eq, beq_iff_eq, bne_iff_ne, bne_eq_false_iff_eq, Classical.not_not] at g88
        refine Jp.y 89 rfl (want_as rfl rfl rfl rfl) rfl rfl Kp.true (Y.move rfl rfl) ?_
        refine Jp.y 90 rfl (want_as rfl rfl rfl rfl) rfl rfl Kp.true (Y.lss rfl rfl rfl) ?_
        refine Jp.y 91 rfl (want_all rfl) rfl rfl Kp.true (Y.pickT rfl rfl rfl) ?_
        refine Jp.y 92 rfl (want_all rfl) rfl rfl Kp.true (Y.move rfl rfl) ?_
        refine Jp.splitF 92 rfl (fun g92 => ?_) (fun g92 => ?_)
        · skip
          simp only [decide_eq_false_iff_not] at g92
          refine Jp.skip 93 rfl (want_as rfl rfl rfl rfl) rfl rfl Kp.true ?_
          refine Jp.skip 94 rfl (want_as rfl rfl rfl rfl) rfl rfl Kp.true ?_
          refine Jp.skip 95 rfl (want_as rfl rfl rfl rfl) rfl rfl Kp.true ?_
          refine Jp.skip 96 rfl (want_as rfl rfl rfl rfl) rfl rfl Kp.true ?_
          refine Jp.skip 97 rfl (want_as rfl rfl rfl rfl) rfl rfl Kp.true ?_
          refine Jp.y 98 rfl (want_all rfl) rfl rfl Kp.true (Y.pickF rfl rfl rfl) ?_
          refine Jp.done hK54 ?_
          refine Cd.condF rfl ?_
          refine Cd.exit rfl hK13 ?_
          exact Cd.meet (hj3 ⟨acc, B, d, p, bad⟩ ⟨manyR_end ok2 (.inl (by omega)), ok3, (show acc.length ≤ 70 by omega), ok4⟩) ⟨rfl, rfl, rfl, rfl, rfl, rfl, rfl, trivial⟩ ⟨rfl, rfl, rfl, rfl, rfl, rfl, rfl, rfl, trivial⟩
        try simp only [decide_eq_false_iff_not, decide_eq_true_eq, Int.not_lt, Int.not_le, Bool.not_eq_false, Bool.not_eq_true, Bool.not_true, Bool.not_false, Bool.not_eq_true', Bool.not_eq_false', beq_eq_false_iff_ne, ne_eq, beq_iff_eq, bne_iff_ne, bne_eq_false_iff_eq, Classical.not_not] at g92
        refine Jp.y 93 rfl (want_as rfl rfl rfl rfl) rfl rfl Kp.true (Y.move rfl rfl) ?_
        refine Jp.y 94 rfl (want_as rfl rfl rfl rfl) rfl rfl Kp.true (Y.nilCheck rfl rfl) ?_
        refine Jp.y 95 rfl (want_as rfl rfl rfl rfl) rfl rfl Kp.true (by first | exact Y.fieldAddrP rfl rfl Try.underlying115 rfl Try.sizeOf4 (by decide) (show _ + 2 = _ from rfl) | exact Y.fieldAddr rfl rfl Try.underlying115 rfl Try.sizeOf4 (by decide)) ?_
        refine Jp.y 96 rfl (want_as rfl rfl rfl rfl) rfl rfl Kp.true (by first | exact Y.loadO 12 rfl Try.isAgg4 rfl rfl rfl | exact Y.loadO 11 rfl Try.isAgg4 rfl rfl rfl) ?_
        refine Jp.y 97 rfl (want_as rfl rfl rfl rfl) rfl rfl Kp.true (Y.not rfl rfl) ?_
        refine Jp.y 98 rfl (want_all rfl) rfl rfl Kp.true (Y.pickT rfl rfl rfl) ?_
        refine Jp.done hK54 ?_
        refine Cd.condF' rfl (fun g98 => ?_) (fun g98 => ?_)
        · skip
          have hb : bad = true := by simpa using g98
          refine Cd.exit rfl hK13 ?_
          exact Cd.meet (hj3 ⟨acc, B, d, p, bad⟩ ⟨manyR_end ok2 (.inr hb), ok3, (show acc.length ≤ 70 by omega), ok4⟩) ⟨rfl, rfl, rfl, rfl, rfl, rfl, rfl, trivial⟩ ⟨rfl, rfl, rfl, rfl, rfl, rfl, rfl, rfl, trivial⟩
        try simp only [decide_eq_false_iff_not, decide_eq_true_eq, Int.not_lt, Int.not_le, Bool.not_eq_false, Bool.not_eq_true, Bool.not_true, Bool.not_false, Bool.not_eq_true', Bool.not_eq_false', beq_eq_false_iff_ne, ne_eq, beq_iff_eq, bne_iff_ne, bne_eq_false_iff_eq, Classical.not_not] at g98
        refine Cd.skip hK53 ?_
        refine Cd.seq fun K55 hK55 => ?_
        refine Cd.block ?_
        refine Cd.drawn [(12, _)] ⟨rfl, trivial⟩ [(0, true), (1, true), (2, true), (3, false), (4, false), (5, false), (6, true), (7, false)] follows (by kernel_rfl) (fun hrl => ?_)
        refine Jp.q 101 rfl (want_all rfl) rfl rfl (by first | exact Y.fieldAddrP rfl rfl Try.underlying30 rfl Try.sizeOf27 (by decide) (show _ + 4 = _ from rfl) | exact Y.fieldAddr rfl rfl Try.underlying30 rfl Try.sizeOf27 (by decide)) ?_
        refine Jp.q 102 rfl (want_all rfl) rfl rfl (by first | exact Y.loadO 12 rfl Try.isAgg27 rfl rfl rfl | exact Y.loadO 11 rfl Try.isAgg27 rfl rfl rfl) ?_
        refine Jp.q 103 rfl (want_all rfl) rfl rfl (Y.move rfl rfl) ?_
        refine Jp.call [11] [11] (rnumR_spec b11 ⟨A, c, xs⟩ p bad ok3) 104 rfl (want_all rfl) rfl rfl (Runs.fn rfl Try.call64 rfl) (by decide) (by decide) rfl hr ?_
        rintro v17 ρ17 L17 ⟨rfl, x, q, bq, et, hq, rfl, rfl⟩
        refine ⟨rfl, fun hle17 => ⟨(Kp.st ⟨rfl, trivial⟩), ?_⟩⟩
        have hx : x < 4294967296 := by have := numR_lt (xs.drop p, bad); rw [et] at this; exact this
        dsimp only at et hq
        refine Jp.lit 105 15 [(0, _)] [_] rfl (want_all rfl) rfl rfl rfl rfl Try.underlying27 Try.sizeOf49 Try.zeroValue49 rfl rfl rfl rfl rfl fun b15 => ⟨(Kp.st ⟨rfl, trivial⟩), ?_⟩
        have hlen : (acc ++ [x]).length = acc.length + 1 := by simp
        refine Jp.append 106 20 rfl (want_all rfl) rfl rfl rfl Try.underlying27 Try.underlying27 (.inl ⟨_, rfl⟩) Try.sizeOf49 Try.typeInfo49 Try.zeroValue49 rfl (by decide) rfl rfl rfl (Src.own 15 rfl) rfl ((acc ++ [x]).length) (intsV .u32 (natsI (acc ++ [x]))) (by first | omega | simp) (natsI_snoc .u32 acc x) (by simp only [Try.t49]; omega) fun A18 c18 => ⟨(Kp.st ⟨rfl, trivial⟩), ?_⟩
        refine Jp.q 107 rfl (want_all rfl) rfl rfl (by first | exact Y.fieldAddrP rfl rfl Try.underlying30 rfl Try.sizeOf27 (by decide) (show _ + 4 = _ from rfl) | exact Y.fieldAddr rfl rfl Try.underlying30 rfl Try.sizeOf27 (by decide)) ?_
        first | refine Jp.store 12 rfl (want_all rfl) rfl rfl Try.sizeOf27 rfl rfl rfl rfl rfl rfl Kp.last ?_ | refine Jp.store 11 rfl (want_all rfl) rfl rfl Try.sizeOf27 rfl rfl rfl rfl rfl rfl Kp.last ?_ | refine Jp.store 15 rfl (want_all rfl) rfl rfl Try.sizeOf27 rfl rfl rfl rfl rfl rfl Kp.last ?_
        refine Jp.over rfl hK55 ?_
        refine Cd.plain [(0, false), (1, false), (2, false)] rfl rfl ?_
        refine Jp.y 99 rfl (want_all rfl) rfl rfl Kp.true (Y.move rfl rfl) ?_
        refine Jp.y 100 rfl (want_all rfl) rfl rfl Kp.true (Y.add_ rfl rfl rfl (by first | exact wrap_u32 (by omega) (by omega) | rfl)) ?_
        refine Jp.y 11 rfl (want_all rfl) rfl rfl Kp.true (Y.assign rfl rfl) ?_
        rw [show (acc.length : Int) + 1 = ((acc ++ [x]).length : Int) by simp]
        refine Jp.again hLc ⟨acc ++ [x], A18, c18, q, bq⟩ ⟨by show (acc ++ [x]).length ≤ min n5 70; omega, by rw [hlen]; exact manyR_step ok2 (by omega) (by simpa using g98) et, hq, ?_⟩ (by show min n5 70 - (acc ++ [x]).length < min n5 70 - acc.length; omega) rfl ⟨rfl, rfl, rfl, rfl, rfl, rfl, rfl, rfl, trivial⟩ ⟨rfl, rfl, rfl, rfl, rfl, rfl, rfl, rfl, trivial⟩
        intro y hy
        rcases List.mem_append.1 hy with hy | hy
        · exact ok4 y hy
        · rw [List.mem_singleton] at hy; subst hy; exact hx
    · skip
      refine Cd.loopK (G := List Nat × Option Addr × Nat × Nat × Bool) (fun g => g.1.length ≤ (min n3 70) ∧ manyR numR (min n3 70) (xs.drop p3, bad3) = (g.1 ++ (manyR numR ((min n3 70) - g.1.length) (xs.drop g.2.2.2.1, g.2.2.2.2)).1, (manyR numR ((min n3 70) - g.1.length) (xs.drop g.2.2.2.1, g.2.2.2.2)).2) ∧ g.2.2.2.1 ≤ xs.length) (fun g => (min n3 70) - g.1.length) (fun _ => _) (fun g => [(9, .int .u32 (g.1.length : Int))]) [(0, _), (2, _), (4, _), (5, _), (6, _), (8, _)] (fun g => [(11, RdrR b11 ⟨A, c, xs⟩ g.2.2.2.1 g.2.2.2.2), (12, Pt b12 (.cells #[.slice A1 acc1.length c1, .slice A2 inp.length c2, .slice g.2.1 g.1.length g.2.2.1, .slice none 0 0, .slice none 0 0, .slice none 0 0] 30)), (18, OwnS 3 1 g.2.1 g.1.length g.2.2.1 (intsV .i64 (natsI g.1)))]) [(10, _), (13, _), (17, _)] ⟨[], none, 0, p3, bad3⟩ ⟨Nat.zero_le _, rfl, hp3⟩ rfl ⟨rfl, trivial⟩ ⟨rfl, rfl, rfl, rfl, rfl, rfl, trivial⟩ ⟨rfl, rfl, rfl, trivial⟩ ⟨rfl, rfl, rfl, trivial⟩ (fun g KLb hok hLb => ?_)
      obtain ⟨acc, B, d, p, bad⟩ := g
      obtain ⟨ok1, ok2, ok3⟩ := hok
      dsimp only at ok1 ok2 ok3 ⊢
      refine Cd.seq fun K57 hK57 => ?_
      refine Cd.seq fun K58 hK58 => ?_
      refine Cd.plain [(0, false), (1, false), (2, false), (3, false), (4, false), (5, false), (6, false), (7, false), (8, false), (9, false), (10, false), (11, false), (12, false), (13, false)] rfl rfl ?_
      refine Jp.y 54 rfl (want_all rfl) rfl rfl Kp.true (Y.move rfl rfl) ?_
      refine Jp.y 55 rfl (want_all rfl) rfl rfl Kp.true (Y.move rfl rfl) ?_
      refine Jp.y 56 rfl (want_all rfl) rfl rfl Kp.true (Y.lss rfl rfl rfl) ?_
      refine Jp.y 57 rfl (want_all rfl) rfl rfl Kp.true (Y.move rfl rfl) ?_
      refine Jp.splitF 57 rfl (fun g57 => ?_) (fun g57 => ?_)
      · skip
        simp only [decide_eq_false_iff_not] at g57
        refine Jp.skip 58 rfl (want_as rfl rfl rfl rfl) rfl rfl Kp.true ?_
        refine Jp.skip 59 rfl (want_as rfl rfl rfl rfl) rfl rfl Kp.true ?_
        refine Jp.y 60 rfl (want_all rfl) rfl rfl Kp.true (Y.pickF rfl rfl rfl) ?_
        refine Jp.y 61 rfl (want_all rfl) rfl rfl Kp.true (Y.move rfl rfl) ?_
        refine Jp.skip 62 rfl (want_as rfl rfl rfl rfl) rfl rfl Kp.true ?_
        refine Jp.skip 63 rfl (want_as rfl rfl rfl rfl) rfl rfl Kp.true ?_
        refine Jp.skip 64 rfl (want_as rfl rfl rfl rfl) rfl rfl Kp.true ?_
        refine Jp.skip 65 rfl (want_as rfl rfl rfl rfl) rfl rfl Kp.true ?_
        refine Jp.skip 66 rfl (want_as rfl rfl rfl rfl) rfl rfl Kp.true ?_
        refine Jp.y 67 rfl (want_all rfl) rfl rfl Kp.true (Y.pickF rfl rfl rfl) ?_
        refine Jp.done hK58 ?_
        refine Cd.condF rfl ?_
        refine Cd.exit rfl hK9 ?_
        exact Cd.meet (hj2 ⟨acc, B, d, p, bad⟩ ⟨manyR_end ok2 (.inl (by omega)), ok3, (show acc.length ≤ 70 by omega)⟩) ⟨rfl, rfl, rfl, rfl, rfl, rfl, trivial⟩ ⟨rfl, rfl, rfl, rfl, rfl, rfl, trivial⟩
      try simp only [decide_eq_false_iff_not, decide_eq_true_eq, Int.not_lt, Int.not_le, Bool.not_eq_false, Bool.not_eq_true, Bool.not_true, Bool.not_false, Bool.not_eq_true', Bool.not_eq_false', beq_eq_false_iff_ne, ne_eq, beq_iff_eq, bne_iff_ne, bne_eq_false_iff_eq, Classical.not_not] at g57
      refine Jp.y 58 rfl (want_as rfl rfl rfl rfl) rfl rfl Kp.true (Y.move rfl rfl) ?_
      refine Jp.y 59 rfl (want_as rfl rfl rfl rfl) rfl rfl Kp.true (Y.lss rfl rfl rfl) ?_
      refine Jp.y 60 rfl (want_all rfl) rfl rfl Kp.true (Y.pickT rfl rfl rfl) ?_
      refine Jp.y 61 rfl (want_all rfl) rfl rfl Kp.true (Y.move rfl rfl) ?_
      refine Jp.splitF 61 rfl (fun g61 => ?_) (fun g61 => ?_)
      · skip
        simp only [decide_eq_false_iff_not] at g61
        refine Jp.skip 62 rfl (want_as rfl rfl rfl rfl) rfl rfl Kp.true ?_
        refine Jp.skip 63 rfl (want_as rfl rfl rfl rfl) rfl rfl Kp.true ?_
        refine Jp.skip 64 rfl (want_as rfl rfl rfl rfl) rfl rfl Kp.true ?_
        refine Jp.skip 65 rfl (want_as rfl rfl rfl rfl) rfl rfl Kp.true ?_
        refine Jp.skip 66 rfl (want_as rfl rfl rfl rfl) rfl rfl Kp.true ?_
        refine Jp.y 67 rfl (want_all rfl) rfl rfl Kp.true (Y.pickF rfl rfl rfl) ?_
        refine Jp.done hK58 ?_
        refine Cd.condF rfl ?_
        refine Cd.exit rfl hK9 ?_
        exact Cd.meet (hj2 ⟨acc, B, d, p, bad⟩ ⟨manyR_end ok2 (.inl (by omega)), ok3, (show acc.length ≤ 70 by omega)⟩) ⟨rfl, rfl, rfl, rfl, rfl, rfl, trivial⟩ ⟨rfl, rfl, rfl, rfl, rfl, rfl, trivial⟩
      try simp only [decide_eq_false_iff_not, decide_eq_true_eq, Int.not_lt, Int.not_le, Bool.not_eq_false, Bool.not_eq_true, Bool.not_true, Bool.not_false, Bool.not_eq_true', Bool.not_eq_false', beq_eq_false_iff_ne, ne_eq, beq_iff_eq, bne_iff_ne, bne_eq_false_iff_eq, Classical.not_not] at g61
      refine Jp.y 62 rfl (want_as rfl rfl rfl rfl) rfl rfl Kp.true (Y.move rfl rfl) ?_
      refine Jp.y 63 rfl (want_as rfl rfl rfl rfl) rfl rfl Kp.true (Y.nilCheck rfl rfl) ?_
      refine Jp.y 64 rfl (want_as rfl rfl rfl rfl) rfl rfl Kp.true (by first | exact Y.fieldAddrP rfl rfl Try.underlying115 rfl Try.sizeOf4 (by decide) (show _ + 2 = _ from rfl) | exact Y.fieldAddr rfl rfl Try.underlying115 rfl Try.sizeOf4 (by decide)) ?_
      refine Jp.y 65 rfl (want_as rfl rfl rfl rfl) rfl rfl Kp.true (by first | exact Y.loadO 12 rfl Try.isAgg4 rfl rfl rfl | exact Y.loadO 11 rfl Try.isAgg4 rfl rfl rfl) ?_
      refine Jp.y 66 rfl (want_as rfl rfl rfl rfl) rfl rfl Kp.true (Y.not rfl rfl) ?_
      refine Jp.y 67 rfl (want_all rfl) rfl rfl Kp.true (Y.pickT rfl rfl rfl) ?_
      refine Jp.done hK58 ?_
      refine Cd.condF' rfl (fun g67 => ?_) (fun g67 => ?_)
      · skip
        have hb : bad = true := by simpa using g67
        refine Cd.exit rfl hK9 ?_
        exact Cd.meet (hj2 ⟨acc, B, d, p, bad⟩ ⟨manyR_end ok2 (.inr hb), ok3, (show acc.length ≤ 70 by omega)⟩) ⟨rfl, rfl, rfl, rfl, rfl, rfl, trivial⟩ ⟨rfl, rfl, rfl, rfl, rfl, rfl, trivial⟩
      try simp only [decide_eq_false_iff_not, decide_eq_true_eq, Int.not_lt, Int.not_le, Bool.not_eq_false, Bool.not_eq_true, Bool.not_true, Bool.not_false, Bool.not_eq_true', Bool.not_eq_false', beq_eq_false_iff_ne, ne_eq, beq_iff_eq, bne_iff_ne, bne_eq_false_iff_eq, Classical.not_not] at g67
      refine Cd.skip hK57 ?_
      refine Cd.seq fun K59 hK59 => ?_
      refine Cd.block ?_
      refine Cd.drawn [(12, _)] ⟨rfl, trivial⟩ [(0, true), (1, true), (2, true), (3, false), (4, true), (5, false), (6, false), (7, true), (8, false)] follows (by kernel_rfl) (fun hrl => ?_)
      refine Jp.q 70 rfl (want_all rfl) rfl rfl (by first | exact Y.fieldAddrP rfl rfl Try.underlying30 rfl Try.sizeOf22 (by decide) (show _ + 2 = _ from rfl) | exact Y.fieldAddr rfl rfl Try.underlying30 rfl Try.sizeOf22 (by decide)) ?_
      refine Jp.q 71 rfl (want_all rfl) rfl rfl (by first | exact Y.loadO 12 rfl Try.isAgg22 rfl rfl rfl | exact Y.loadO 11 rfl Try.isAgg22 rfl rfl rfl) ?_
      refine Jp.q 72 rfl (want_all rfl) rfl rfl (Y.move rfl rfl) ?_
      refine Jp.call [11] [11] (rnumR_spec b11 ⟨A, c, xs⟩ p bad ok3) 73 rfl (want_all rfl) rfl rfl (Runs.fn rfl Try.call64 rfl) (by decide) (by decide) rfl hr ?_
      rintro v19 ρ19 L19 ⟨rfl, x, q, bq, et, hq, rfl, rfl⟩
      refine ⟨rfl, fun hle19 => ⟨(Kp.st ⟨rfl, trivial⟩), ?_⟩⟩
      have hx : x < 4294967296 := by have := numR_lt (xs.drop p, bad); rw [et] at this; exact this
      dsimp only at et hq
      refine Jp.q 74 rfl (want_all rfl) rfl rfl (Y.conv_ rfl rfl Try.underlying49 Try.underlying3 (by first | exact wrap_i64 (by omega) (by omega) | rfl)) ?_
      have hlen : (acc ++ [x]).length = acc.length + 1 := by simp
      refine Jp.lit 75 15 [(0, _)] [_] rfl (want_all rfl) rfl rfl rfl rfl Try.underlying22 Try.sizeOf3 Try.zeroValue3 rfl rfl rfl rfl rfl fun b15 => ⟨(Kp.st ⟨rfl, trivial⟩), ?_⟩
      refine Jp.append 76 18 rfl (want_all rfl) rfl rfl rfl Try.underlying22 Try.underlying22 (.inl ⟨_, rfl⟩) Try.sizeOf3 Try.typeInfo3 Try.zeroValue3 rfl (by decide) rfl rfl rfl (Src.own 15 rfl) rfl ((acc ++ [x]).length) (intsV .i64 (natsI (acc ++ [x]))) (by first | omega | simp) (natsI_snoc .i64 acc x) (by simp only [Try.t3]; omega) fun A20 c20 => ⟨(Kp.st ⟨rfl, trivial⟩), ?_⟩
      refine Jp.q 77 rfl (want_all rfl) rfl rfl (by first | exact Y.fieldAddrP rfl rfl Try.underlying30 rfl Try.sizeOf22 (by decide) (show _ + 2 = _ from rfl) | exact Y.fieldAddr rfl rfl Try.underlying30 rfl Try.sizeOf22 (by decide)) ?_
      first | refine Jp.store 12 rfl (want_all rfl) rfl rfl Try.sizeOf22 rfl rfl rfl rfl rfl rfl Kp.last ?_ | refine Jp.store 11 rfl (want_all rfl) rfl rfl Try.sizeOf22 rfl rfl rfl rfl rfl rfl Kp.last ?_ | refine Jp.store 15 rfl (want_all rfl) rfl rfl Try.sizeOf22 rfl rfl rfl rfl rfl rfl Kp.last ?_
      refine Jp.over rfl hK59 ?_
      refine Cd.plain [(0, false), (1, false), (2, false)] rfl rfl ?_
      refine Jp.y 68 rfl (want_all rfl) rfl rfl Kp.true (Y.move rfl rfl) ?_
      refine Jp.y 69 rfl (want_all rfl) rfl rfl Kp.true (Y.add_ rfl rfl rfl (by first | exact wrap_u32 (by omega) (by omega) | rfl)) ?_
      refine Jp.y 9 rfl (want_all rfl) rfl rfl Kp.true (Y.assign rfl rfl) ?_
      rw [show (acc.length : Int) + 1 = ((acc ++ [x]).length : Int) by simp]
      refine Jp.again hLb ⟨acc ++ [x], A20, c20, q, bq⟩ ⟨by show (acc ++ [x]).length ≤ min n3 70; omega, by rw [hlen]; exact manyR_step ok2 (by omega) (by simpa using g67) et, hq⟩ (by show min n3 70 - (acc ++ [x]).length < min n3 70 - acc.length; omega) rfl ⟨rfl, rfl, rfl, rfl, rfl, rfl, rfl, trivial⟩ ⟨rfl, rfl, rfl, rfl, rfl, rfl, trivial⟩
  · skip
    refine Cd.loopK (G := List ByteArray × Option Addr × Nat × Nat × Bool) (fun g => g.1.length ≤ (min n1 20) ∧ manyR textR (min n1 20) (xs.drop p1, bad1) = (g.1.map str ++ (manyR textR ((min n1 20) - g.1.length) (xs.drop g.2.2.2.1, g.2.2.2.2)).1, (manyR textR ((min n1 20) - g.1.length) (xs.drop g.2.2.2.1, g.2.2.2.2)).2) ∧ g.2.2.2.1 ≤ xs.length) (fun g => (min n1 20) - g.1.length) (fun _ => _) (fun g => [(7, .int .u32 (g.1.length : Int))]) [(0, _), (2, _), (4, _), (5, _), (6, _)] (fun g => [(11, RdrR b11 ⟨A, c, xs⟩ g.2.2.2.1 g.2.2.2.2), (12, Pt b12 (.cells #[.slice g.2.1 g.1.length g.2.2.1, .slice none 0 0, .slice none 0 0, .slice none 0 0, .slice none 0 0, .slice none 0 0] 30)), (13, OwnS 9 1 g.2.1 g.1.length g.2.2.1 (strsV g.1))]) [(10, _)] ⟨[], none, 0, p1, bad1⟩ ⟨Nat.zero_le _, rfl, hp1⟩ rfl ⟨rfl, trivial⟩ ⟨rfl, rfl, rfl, rfl, rfl, trivial⟩ ⟨rfl, rfl, rfl, trivial⟩ ⟨rfl, trivial⟩ (fun g KLa hok hLa => ?_)
    obtain ⟨acc, B, d, p, bad⟩ := g
    obtain ⟨ok1, ok2, ok3⟩ := hok
    dsimp only at ok1 ok2 ok3 ⊢
    refine Cd.seq fun K61 hK61 => ?_
    refine Cd.seq fun K62 hK62 => ?_
    refine Cd.plain [(0, false), (1, false), (2, false), (3, false), (4, false), (5, false), (6, false), (7, false), (8, false), (9, false), (10, false), (11, false), (12, false), (13, false)] rfl rfl ?_
    refine Jp.y 21 rfl (want_all rfl) rfl rfl Kp.true (Y.move rfl rfl) ?_
    refine Jp.y 22 rfl (want_all rfl) rfl rfl Kp.true (Y.move rfl rfl) ?_
    refine Jp.y 23 rfl (want_all rfl) rfl rfl Kp.true (Y.lss rfl rfl rfl) ?_
    refine Jp.y 24 rfl (want_all rfl) rfl rfl Kp.true (Y.move rfl rfl) ?_
    refine Jp.splitF 24 rfl (fun g24 => ?_) (fun g24 => ?_)
    · skip
      simp only [decide_eq_false_iff_not] at g24
      refine Jp.skip 25 rfl (want_as rfl rfl rfl rfl) rfl rfl Kp.true ?_
      refine Jp.skip 26 rfl (want_as rfl rfl rfl rfl) rfl rfl Kp.true ?_
      refine Jp.y 27 rfl (want_all rfl) rfl rfl Kp.true (Y.pickF rfl rfl rfl) ?_
      refine Jp.y 28 rfl (want_all rfl) rfl rfl Kp.true (Y.move rfl rfl) ?_
      refine Jp.skip 29 rfl (want_as rfl rfl rfl rfl) rfl rfl Kp.true ?_
      refine Jp.skip 30 rfl (want_as rfl rfl rfl rfl) rfl rfl Kp.true ?_
      refine Jp.skip 31 rfl (want_as rfl rfl rfl rfl) rfl rfl Kp.true ?_
      refine Jp.skip 32 rfl (want_as rfl rfl rfl rfl) rfl rfl Kp.true ?_
      refine Jp.skip 33 rfl (want_as rfl rfl rfl rfl) rfl rfl Kp.true ?_
      refine Jp.y 34 rfl (want_all rfl) rfl rfl Kp.true (Y.pickF rfl rfl rfl) ?_
      refine Jp.done hK62 ?_
      refine Cd.condF rfl ?_
      refine Cd.exit rfl hK5 ?_
      exact Cd.meet (hj1 ⟨acc, B, d, p, bad⟩ ⟨manyR_end ok2 (.inl (by omega)), ok3, (show acc.length ≤ 70 by omega)⟩) ⟨rfl, rfl, rfl, rfl, rfl, trivial⟩ ⟨rfl, rfl, rfl, rfl, trivial⟩
    try simp only [decide_eq_false_iff_not, decide_eq_true_eq, Int.not_lt, Int.not_le, Bool.not_eq_false, Bool.not_eq_true, Bool.not_true, Bool.not_false, Bool.not_eq_true', Bool.not_eq_false', beq_eq_false_iff_ne, ne_eq, beq_iff_eq, bne_iff_ne, bne_eq_false_iff_eq, Classical.not_not] at g24
    refine Jp.y 25 rfl (want_as rfl rfl rfl rfl) rfl rfl Kp.true (Y.move rfl rfl) ?_
    refine Jp.y 26 rfl (want_as rfl rfl rfl rfl) rfl rfl Kp.true (Y.lss rfl rfl rfl) ?_
    refine Jp.y 27 rfl (want_all rfl) rfl rfl Kp.true (Y.pickT rfl rfl rfl) ?_
    refine Jp.y 28 rfl (want_all rfl) rfl rfl Kp.true (Y.move rfl rfl) ?_
    refine Jp.splitF 28 rfl (fun g28 => ?_) (fun g28 => ?_)
    · skip
      simp only [decide_eq_false_iff_not] at g28
      refine Jp.skip 29 rfl (want_as rfl rfl rfl rfl) rfl rfl Kp.true ?_
      refine Jp.skip 30 rfl (want_as rfl rfl rfl rfl) rfl rfl Kp.true ?_
      refine Jp.skip 31 rfl (want_as rfl rfl rfl rfl) rfl rfl Kp.true ?_
      refine Jp.skip 32 rfl (want_as rfl rfl rfl rfl) rfl rfl Kp.true ?_
      refine Jp.skip 33 rfl (want_as rfl rfl rfl rfl) rfl rfl Kp.true ?_
      refine Jp.y 34 rfl (want_all rfl) rfl rfl Kp.true (Y.pickF rfl rfl rfl) ?_
      refine Jp.done hK62 ?_
      refine Cd.condF rfl ?_
      refine Cd.exit rfl hK5 ?_
      exact Cd.meet (hj1 ⟨acc, B, d, p, bad⟩ ⟨manyR_end ok2 (.inl (by omega)), ok3, (show acc.length ≤ 70 by omega)⟩) ⟨rfl, rfl, rfl, rfl, rfl, trivial⟩ ⟨rfl, rfl, rfl, rfl, trivial⟩
    try simp only [decide_eq_false_iff_not, decide_eq_true_eq, Int.not_lt, Int.not_le, Bool.not_eq_false, Bool.not_eq_true, Bool.not_true, Bool.not_false, Bool.not_eq_true', Bool.not_eq_false', beq_eq_false_iff_ne, ne_eq, beq_iff_eq, bne_iff_ne, bne_eq_false_iff_eq, Classical.not_not] at g28
    refine Jp.y 29 rfl (want_as rfl rfl rfl rfl) rfl rfl Kp.true (Y.move rfl rfl) ?_
    refine Jp.y 30 rfl (want_as rfl rfl rfl rfl) rfl rfl Kp.true (Y.nilCheck rfl rfl) ?_
    refine Jp.y 31 rfl (want_as rfl rfl rfl rfl) rfl rfl Kp.true (by first | exact Y.fieldAddrP rfl rfl Try.underlying115 rfl Try.sizeOf4 (by decide) (show _ + 2 = _ from rfl) | exact Y.fieldAddr rfl rfl Try.underlying115 rfl Try.sizeOf4 (by decide)) ?_
    refine Jp.y 32 rfl (want_as rfl rfl rfl rfl) rfl rfl Kp.true (by first | exact Y.loadO 12 rfl Try.isAgg4 rfl rfl rfl | exact Y.loadO 11 rfl Try.isAgg4 rfl rfl rfl) ?_
    refine Jp.y 33 rfl (want_as rfl rfl rfl rfl) rfl rfl Kp.true (Y.not rfl rfl) ?_
    refine Jp.y 34 rfl (want_all rfl) rfl rfl Kp.true (Y.pickT rfl rfl rfl) ?_
    refine Jp.done hK62 ?_
    refine Cd.condF' rfl (fun g34 => ?_) (fun g34 => ?_)
    · skip
      have hb : bad = true := by simpa using g34
      refine Cd.exit rfl hK5 ?_
      exact Cd.meet (hj1 ⟨acc, B, d, p, bad⟩ ⟨manyR_end ok2 (.inr hb), ok3, (show acc.length ≤ 70 by omega)⟩) ⟨rfl, rfl, rfl, rfl, rfl, trivial⟩ ⟨rfl, rfl, rfl, rfl, trivial⟩
    try simp only [decide_eq_false_iff_not, decide_eq_true_eq, Int.not_lt, Int.not_le, Bool.not_eq_false, Bool.not_eq_true, Bool.not_true, Bool.not_false, Bool.not_eq_true', Bool.not_eq_false', beq_eq_false_iff_ne, ne_eq, beq_iff_eq, bne_iff_ne, bne_eq_false_iff_eq, Classical.not_not] at g34
    refine Cd.skip hK61 ?_
    refine Cd.seq fun K63 hK63 => ?_
    refine Cd.block ?_
    refine Cd.drawn [(12, _)] ⟨rfl, trivial⟩ [(0, true), (1, true), (2, true), (3, true), (4, false), (5, false), (6, true), (7, false), (8, false), (9, true), (10, false)] follows (by kernel_rfl) (fun hrl => ?_)
    refine Jp.q 37 rfl (want_all rfl) rfl rfl (by first | exact Y.fieldAddrP rfl rfl Try.underlying30 rfl Try.sizeOf25 (by decide) (show _ + 0 = _ from rfl) | exact Y.fieldAddr rfl rfl Try.underlying30 rfl Try.sizeOf25 (by decide)) ?_
    refine Jp.q 38 rfl (want_all rfl) rfl rfl (by first | exact Y.loadO 12 rfl Try.isAgg25 rfl rfl rfl | exact Y.loadO 11 rfl Try.isAgg25 rfl rfl rfl) ?_
    refine Jp.q 39 rfl (want_all rfl) rfl rfl (Y.move rfl rfl) ?_
    refine Jp.q 40 rfl (want_all rfl) rfl rfl (Y.move rfl rfl) ?_
    refine Jp.call [11] [11] (rnumR_spec b11 ⟨A, c, xs⟩ p bad ok3) 41 rfl (want_all rfl) rfl rfl (Runs.fn rfl Try.call64 rfl) (by decide) (by decide) rfl hr ?_
    rintro v21 ρ21 L21 ⟨rfl, m, q, bq, x1, hq, rfl, rfl⟩
    refine ⟨rfl, fun hle21 => ⟨(Kp.st ⟨rfl, trivial⟩), ?_⟩⟩
    have hm : m < 4294967296 := by have := numR_lt (xs.drop p, bad); rw [x1] at this; exact this
    refine Jp.call [11] [11, 14] (rbytesR_spec b11 ⟨A, c, xs⟩ q bq m hq hs hm) 42 rfl (want_all rfl) rfl rfl (Runs.fn rfl Try.call65 rfl) (by decide) (by decide) rfl hr ?_
    rintro v22 ρ22 L22 ⟨rfl, t, q2, bq2, At, ct, x2, hq2, htl, rfl, rfl⟩
    refine ⟨rfl, fun hle22 => ⟨(Kp.st ⟨rfl, trivial⟩), ?_⟩⟩
    have et := textR_of x1 x2
    dsimp only at et hq2 htl
    refine Jp.strong [(12, _), (14, _)] ⟨rfl, rfl, trivial⟩ ⟨rfl, trivial⟩ (Hp.le_refl _) hrl ?_
    have hrl := Hp.le_trans hrl (Hp.le_refl _)
    refine Jp.q 43 rfl (want_all rfl) rfl rfl (Y.toStr _ rfl rfl Try.underlying26 Try.underlying9 Try.underlying5 ⟨_, _, rfl⟩ (Src.own 14 rfl)) ?_
    have hlen : (acc ++ [mkS t]).length = acc.length + 1 := by simp
    refine Jp.lit 44 15 [(0, _)] [_] rfl (want_all rfl) rfl rfl rfl rfl Try.underlying25 Try.sizeOf9 Try.zeroValue9 rfl rfl rfl rfl rfl fun b15 => ⟨(Kp.st ⟨rfl, rfl, trivial⟩), ?_⟩
    refine Jp.append 45 13 rfl (want_all rfl) rfl rfl rfl Try.underlying25 Try.underlying25 (.inl ⟨_, rfl⟩) Try.sizeOf9 Try.typeInfo9 Try.zeroValue9 rfl (by decide) rfl rfl rfl (Src.own 15 rfl) rfl ((acc ++ [mkS t]).length) (strsV (acc ++ [mkS t])) (by first | omega | simp) (strsV_snoc acc (mkS t)) (by simp only [Try.t9]; omega) fun A23 c23 => ⟨(Kp.st ⟨rfl, rfl, trivial⟩), ?_⟩
    refine Jp.q 46 rfl (want_all rfl) rfl rfl (by first | exact Y.fieldAddrP rfl rfl Try.underlying30 rfl Try.sizeOf25 (by decide) (show _ + 0 = _ from rfl) | exact Y.fieldAddr rfl rfl Try.underlying30 rfl Try.sizeOf25 (by decide)) ?_
    first | refine Jp.store 12 rfl (want_all rfl) rfl rfl Try.sizeOf25 rfl rfl rfl rfl rfl rfl Kp.last ?_ | refine Jp.store 11 rfl (want_all rfl) rfl rfl Try.sizeOf25 rfl rfl rfl rfl rfl rfl Kp.last ?_ | refine Jp.store 15 rfl (want_all rfl) rfl rfl Try.sizeOf25 rfl rfl rfl rfl rfl rfl Kp.last ?_
    refine Jp.over rfl hK63 ?_
    refine Cd.plain [(0, false), (1, false), (2, false)] rfl rfl ?_
    refine Jp.y 35 rfl (want_all rfl) rfl rfl Kp.true (Y.move rfl rfl) ?_
    refine Jp.y 36 rfl (want_all rfl) rfl rfl Kp.true (Y.add_ rfl rfl rfl (by first | exact wrap_u32 (by omega) (by omega) | rfl)) ?_
    refine Jp.y 7 rfl (want_all rfl) rfl rfl Kp.true (Y.assign rfl rfl) ?_
    rw [show (acc.length : Int) + 1 = ((acc ++ [mkS t]).length : Int) by simp]
    refine Jp.again hLa ⟨acc ++ [mkS t], A23, c23, q2, bq2⟩ ⟨by show (acc ++ [mkS t]).length ≤ min n1 20; omega, by rw [List.map_append, List.map_singleton, str_mkS, hlen]; exact manyR_step ok2 (by omega) (by simpa using g34) et, hq2⟩ (by show min n1 20 - (acc ++ [mkS t]).length < min n1 20 - acc.length; omega) rfl ⟨rfl, rfl, rfl, rfl, rfl, rfl, trivial⟩ ⟨rfl, rfl, rfl, rfl, trivial⟩
end Go.Proofs.Ytjjhihlmoecmlaa
