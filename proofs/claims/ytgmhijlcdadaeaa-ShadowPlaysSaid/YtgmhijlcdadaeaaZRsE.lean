import Derived.Test.YtgmhijlcdadaeaaZRsD
import Derived.Test.YtgmhijlcdadaeaaZShG
set_option linter.unusedVariables false
set_option linter.unusedSimpArgs false
set_option maxRecDepth 100000
namespace Go.Proofs.Ytgmhijlcdadaeaa
open Go
theorem lay_snoc : ∀ (bs : Bytes) (l : List (Nat × Pg)) (a : Nat) (v : UInt8), layP l a (bs ++ [v]) = oneP (layP l a bs) (a + bs.length) v
  | [], l, a, v => rfl
  | w :: bs, l, a, v => by
    rw [List.cons_append, layP, lay_snoc bs (oneP l a w) (a + 1) v, List.length_cons, layP, show a + 1 + bs.length = a + (bs.length + 1) by omega]
def setR (B : Int) (l : List (Nat × Pg)) (a : Nat) (bs : Bytes) : Int × List (Nat × Pg) := if B < ((layP l a (bs.take (4294967296 - a))).length : Int) then (6, l) else (0, layP l a (bs.take (4294967296 - a)))
def fillR (B : Int) (l : List (Nat × Pg)) (a : Nat) (n : Int) (v : UInt8) : Int × List (Nat × Pg) := if 1048576 < n then (1, l) else setR B l a (List.replicate n.toNat v)
def putR (B : Int) (l : List (Nat × Pg)) (a : Nat) (size : Int) (t : Bytes) : Int × List (Nat × Pg) := setR B l a (t.take (sizedP size))
theorem rsSet_spec (b : Nat) (B : Int) (l : List (Nat × Pg)) (hok : ShOk l) (a : Nat) (s : Sl UInt8) (ha : a < 4294967296) (hs : s.xs.length ≤ 281474976710656) : Spec Try.prog 35 #[.pointer (some ⟨b, 0, none⟩), .int .u32 a, s.v] (RdB s) [(0, RsO b B l)]
    (fun ρ ρ' r L => r = .int .i64 (setR B l a s.xs).1 ∧ L = [(0, RsO b B (setR B l a s.xs).2)]) := by
  obtain ⟨A, c, xs⟩ := s
  dsimp only [Sl.v] at hs ⊢
  refine Spec.of 51 Try.func35 rfl Try.ntmps35 [(0, _), (1, _), (2, _)] rfl rfl ?_
  intro cx ρ hr h0
  have hsh := hok
  obtain ⟨N, hN⟩ : ∃ N, min xs.length (4294967296 - a) = N := ⟨_, rfl⟩
  have hNx : xs.take (4294967296 - a) = xs.take N := by
    rw [← hN]
    rcases Nat.le_total xs.length (4294967296 - a) with h | h
    · rw [Nat.min_eq_left h, List.take_of_length_le h, List.take_of_length_le (Nat.le_refl _)]
    · rw [Nat.min_eq_right h]
  refine Cd.seq fun K1 hK1 => ?_
  refine Cd.plain [(0, false)] rfl rfl ?_
  refine Jp.y 6 rfl (want_all rfl) rfl rfl Kp.true (Y.assign rfl rfl) ?_
  refine Jp.done hK1 ?_
  refine Cd.seq fun K2 hK2 => ?_
  refine Cd.plain [(0, false), (1, false), (2, false)] rfl rfl ?_
  refine Jp.y 9 rfl (want_all rfl) rfl rfl Kp.true (Y.move rfl rfl) ?_
  refine Jp.call [0] [0, 1] (rsCopy_spec b B l) 10 rfl (want_all rfl) rfl rfl (Runs.fn rfl Try.call83 rfl) (by decide) (by decide) rfl trivial ?_
  rintro v1 ρ1 L1 ⟨rfl, b', rfl, rfl⟩
  refine ⟨rfl, fun hle1 => ⟨Kp.true, ?_⟩⟩
  refine Jp.y 7 rfl (want_all rfl) rfl rfl Kp.true (Y.assign rfl rfl) ?_
  refine Jp.done hK2 ?_
  refine Cd.seq fun K3 hK3 => ?_
  refine Cd.seq fun K4 hK4 => ?_
  refine Cd.plain [(0, false)] rfl rfl ?_
  refine Jp.y 8 rfl (want_all rfl) rfl rfl Kp.true (Y.assign rfl rfl) ?_
  refine Jp.done hK4 ?_
  refine Cd.block ?_
  refine Cd.joinG (G := Unit) (fun _ => True) (fun _ => []) [(0, _), (7, _)] ⟨rfl, rfl, trivial⟩ (fun _ => [(1, RsO b' B (layP l a (xs.take N)))]) [(0, _)] ⟨rfl, trivial⟩ hK3 (fun g hφ => ?_) (fun hj1 => ?_)
  · clear hφ
    obtain ⟨l2, hl2⟩ : ∃ l2, layP l a (xs.take N) = l2 := ⟨_, rfl⟩
    have hset : setR B l a xs = if B < (l2.length : Int) then (6, l) else (0, l2) := by unfold setR; rw [hNx, hl2]
    rw [hl2]
    refine Cd.rsOpen 1 3 (by decide) rfl fun x hf => ?_
    obtain ⟨A2, c2⟩ := x
    refine Cd.rsOpen 0 2 (by decide) rfl fun x hf0 => ?_
    obtain ⟨A1, c1'⟩ := x
    dsimp only
    refine Cd.seq fun K5 hK5 => ?_
    refine Cd.seq fun K6 hK6 => ?_
    refine Cd.drawn [(0, _), (1, _)] ⟨rfl, rfl, trivial⟩ [(0, true), (1, true), (2, true), (3, true), (4, true), (5, true), (6, true), (7, true), (8, true), (9, true)] follows (by kernel_rfl) (fun hrl => ?_)
    refine Jp.q 34 rfl (want_all rfl) rfl rfl (Y.move rfl rfl) ?_
    refine Jp.q 35 rfl (want_all rfl) rfl rfl (Y.nilCheck rfl rfl) ?_
    refine Jp.q 36 rfl (want_all rfl) rfl rfl (by first | exact Y.fieldAddrP rfl rfl Try.underlying78 rfl Try.sizeOf76 (by decide) (show _ + 1 = _ from rfl) | exact Y.fieldAddr rfl rfl Try.underlying78 rfl Try.sizeOf76 (by decide)) ?_
    refine Jp.q 37 rfl (want_all rfl) rfl rfl (by first | exact Y.loadO 0 rfl Try.isAgg76 rfl rfl rfl | exact Y.loadO 1 rfl Try.isAgg76 rfl rfl rfl) ?_
    refine Jp.q 38 rfl (want_all rfl) rfl rfl (Y.lenslice rfl Try.underlying76 rfl) ?_
    refine Jp.q 39 rfl (want_all rfl) rfl rfl (Y.move rfl rfl) ?_
    refine Jp.q 40 rfl (want_all rfl) rfl rfl (Y.nilCheck rfl rfl) ?_
    refine Jp.q 41 rfl (want_all rfl) rfl rfl (by first | exact Y.fieldAddrP rfl rfl Try.underlying78 rfl Try.sizeOf3 (by decide) (show _ + 0 = _ from rfl) | exact Y.fieldAddr rfl rfl Try.underlying78 rfl Try.sizeOf3 (by decide)) ?_
    refine Jp.q 42 rfl (want_all rfl) rfl rfl (by first | exact Y.loadO 0 rfl Try.isAgg3 rfl rfl rfl | exact Y.loadO 1 rfl Try.isAgg3 rfl rfl rfl) ?_
    refine Jp.q 43 rfl (want_all rfl) rfl rfl (Y.gtr rfl rfl rfl) ?_
    refine Jp.done hK6 ?_
    refine Cd.cond rfl (fun gb => ?_) (fun gb => ?_)
    · have hb : B < (l2.length : Int) := by simpa using gb
      rw [if_pos hb] at hset
      refine Cd.seq fun K8 hK8 => ?_
      refine Cd.plain [(0, false)] rfl rfl ?_
      refine Jp.y 6 rfl (want_all rfl) rfl rfl Kp.true (Y.assign rfl rfl) ?_
      refine Jp.done hK8 ?_
      refine Cd.rsClose (b := b) (l := l) 0 2 (by decide) hf0 rfl rfl ?_
      refine Cd.ret [(0, _)] rfl (res1 rfl rfl) ⟨rfl, trivial⟩ ⟨by rw [hset], by rw [hset]⟩
    · have hb : ¬ B < (l2.length : Int) := by simpa using gb
      rw [if_neg hb] at hset
      refine Cd.skip hK5 ?_
      refine Cd.seq fun K9 hK9 => ?_
      refine Cd.plain [(0, false), (1, false), (2, false), (3, false), (4, false), (5, false), (6, false), (7, false)] rfl rfl ?_
      refine Jp.y 44 rfl (want_all rfl) rfl rfl Kp.true (Y.move rfl rfl) ?_
      refine Jp.y 45 rfl (want_all rfl) rfl rfl Kp.true (Y.move rfl rfl) ?_
      refine Jp.y 46 rfl (want_all rfl) rfl rfl Kp.true (Y.nilCheck rfl rfl) ?_
      refine Jp.y 47 rfl (want_all rfl) rfl rfl Kp.true (by first | exact Y.fieldAddrP rfl rfl Try.underlying78 rfl Try.sizeOf76 (by decide) (show _ + 1 = _ from rfl) | exact Y.fieldAddr rfl rfl Try.underlying78 rfl Try.sizeOf76 (by decide)) ?_
      refine Jp.y 48 rfl (want_all rfl) rfl rfl Kp.true (by first | exact Y.loadO 0 rfl Try.isAgg76 rfl rfl rfl | exact Y.loadO 1 rfl Try.isAgg76 rfl rfl rfl) ?_
      refine Jp.y 49 rfl (want_all rfl) rfl rfl Kp.true (Y.nilCheck rfl rfl) ?_
      refine Jp.y 50 rfl (want_all rfl) rfl rfl Kp.true (by first | exact Y.fieldAddrP rfl rfl Try.underlying78 rfl Try.sizeOf76 (by decide) (show _ + 1 = _ from rfl) | exact Y.fieldAddr rfl rfl Try.underlying78 rfl Try.sizeOf76 (by decide)) ?_
      first | refine Jp.store 0 rfl (want_all rfl) rfl rfl Try.sizeOf76 rfl rfl rfl rfl rfl rfl Kp.true ?_ | refine Jp.store 1 rfl (want_all rfl) rfl rfl Try.sizeOf76 rfl rfl rfl rfl rfl rfl Kp.true ?_
      refine Jp.done hK9 ?_
      refine Cd.seq fun K10 hK10 => ?_
      refine Cd.plain [(0, false)] rfl rfl ?_
      refine Jp.y 6 rfl (want_all rfl) rfl rfl Kp.true (Y.assign rfl rfl) ?_
      refine Jp.done hK10 ?_
      refine Cd.rsClose (b := b) (l := l2) 0 3 (by decide) hf rfl rfl ?_
      refine Cd.ret [(0, _)] rfl (res1 rfl rfl) ⟨rfl, trivial⟩ ⟨by rw [hset], by rw [hset]⟩
  · skip
    refine Cd.loopK (G := Nat × Hp) (fun g => g.1 ≤ N ∧ Hp.le ρ1 g.2) (fun g => N - g.1) (fun g => g.2) (fun g => [(8, .int .i64 (g.1 : Int))]) [(0, _), (1, _), (2, _), (7, _)] (fun g => [(1, RsO b' B (layP l a (xs.take g.1)))]) [(0, _)] ⟨0, ρ1⟩ ⟨Nat.zero_le _, Hp.le_refl _⟩ rfl ⟨rfl, trivial⟩ ⟨rfl, rfl, rfl, rfl, trivial⟩ ⟨rfl, trivial⟩ ⟨rfl, trivial⟩ (fun g KLa hok hLa => ?_)
    obtain ⟨i, ρg⟩ := g
    obtain ⟨ok1, ok2⟩ := hok
    dsimp only at ok1 ok2 ⊢
    have hlok : ShOk (layP l a (xs.take i)) := lay_ok hsh (by rw [List.length_take]; omega)
    refine Cd.seq fun K11 hK11 => ?_
    refine Cd.seq fun K12 hK12 => ?_
    refine Cd.plain [(0, false), (1, false), (2, false), (3, false), (4, false), (5, false), (6, false), (7, false), (8, false), (9, false), (10, false)] rfl rfl ?_
    refine Jp.y 11 rfl (want_all rfl) rfl rfl Kp.true (Y.move rfl rfl) ?_
    refine Jp.y 12 rfl (want_all rfl) rfl rfl Kp.true (Y.move rfl rfl) ?_
    refine Jp.y 13 rfl (want_all rfl) rfl rfl Kp.true (Y.lenslice rfl Try.underlying38 rfl) ?_
    refine Jp.y 14 rfl (want_all rfl) rfl rfl Kp.true (Y.lss rfl rfl rfl) ?_
    refine Jp.y 15 rfl (want_all rfl) rfl rfl Kp.true (Y.move rfl rfl) ?_
    refine Jp.splitF 15 rfl (fun g15 => ?_) (fun g15 => ?_)
    · skip
      try simp only [decide_eq_false_iff_not, decide_eq_true_eq, Int.not_lt, Int.not_le, Bool.not_eq_false, Bool.not_eq_true, Bool.not_true, Bool.not_false, Bool.not_eq_true', Bool.not_eq_false', beq_eq_false_iff_ne, ne_eq, beq_iff_eq, bne_iff_ne, bne_eq_false_iff_eq, Classical.not_not] at g15
      have hiN : i = N := by omega
      rw [hiN]
      refine Jp.skip 16 rfl (want_as rfl rfl rfl rfl) rfl rfl Kp.true ?_
      refine Jp.skip 17 rfl (want_as rfl rfl rfl rfl) rfl rfl Kp.true ?_
      refine Jp.skip 18 rfl (want_as rfl rfl rfl rfl) rfl rfl Kp.true ?_
      refine Jp.skip 19 rfl (want_as rfl rfl rfl rfl) rfl rfl Kp.true ?_
      refine Jp.skip 20 rfl (want_as rfl rfl rfl rfl) rfl rfl Kp.true ?_
      refine Jp.y 21 rfl (want_all rfl) rfl rfl Kp.true (Y.pickF rfl rfl rfl) ?_
      refine Jp.done hK12 ?_
      refine Cd.condF rfl ?_
      refine Cd.exit rfl hK3 ?_
      exact Cd.meet' (hj1 () trivial) ok2 (by rw [h0]; exact Hp.le_refl _) ⟨rfl, rfl, trivial⟩ ⟨rfl, rfl, trivial⟩
    try simp only [decide_eq_false_iff_not, decide_eq_true_eq, Int.not_lt, Int.not_le, Bool.not_eq_false, Bool.not_eq_true, Bool.not_true, Bool.not_false, Bool.not_eq_true', Bool.not_eq_false', beq_eq_false_iff_ne, ne_eq, beq_iff_eq, bne_iff_ne, bne_eq_false_iff_eq, Classical.not_not] at g15
    refine Jp.y 16 rfl (want_as rfl rfl rfl rfl) rfl rfl Kp.true (Y.move rfl rfl) ?_
    refine Jp.y 17 rfl (want_as rfl rfl rfl rfl) rfl rfl Kp.true (Y.conv_ rfl rfl Try.underlying25 Try.underlying2 (by first | exact wrap_i64 (by omega) (by omega) | rfl)) ?_
    refine Jp.y 18 rfl (want_as rfl rfl rfl rfl) rfl rfl Kp.true (Y.move rfl rfl) ?_
    refine Jp.y 19 rfl (want_as rfl rfl rfl rfl) rfl rfl Kp.true (Y.add_ rfl rfl rfl (by first | exact wrap_i64 (by omega) (by omega) | rfl)) ?_
    refine Jp.y 20 rfl (want_as rfl rfl rfl rfl) rfl rfl Kp.true (Y.lss rfl rfl rfl) ?_
    refine Jp.y 21 rfl (want_all rfl) rfl rfl Kp.true (Y.pickT rfl rfl rfl) ?_
    refine Jp.done hK12 ?_
    refine Cd.condF' rfl (fun g21 => ?_) (fun g21 => ?_)
    · skip
      try simp only [decide_eq_false_iff_not, decide_eq_true_eq, Int.not_lt, Int.not_le, Bool.not_eq_false, Bool.not_eq_true, Bool.not_true, Bool.not_false, Bool.not_eq_true', Bool.not_eq_false', beq_eq_false_iff_ne, ne_eq, beq_iff_eq, bne_iff_ne, bne_eq_false_iff_eq, Classical.not_not] at g21
      have hiN : i = N := by omega
      rw [hiN]
      refine Cd.exit rfl hK3 ?_
      exact Cd.meet' (hj1 () trivial) ok2 (by rw [h0]; exact Hp.le_refl _) ⟨rfl, rfl, trivial⟩ ⟨rfl, rfl, trivial⟩
    try simp only [decide_eq_false_iff_not, decide_eq_true_eq, Int.not_lt, Int.not_le, Bool.not_eq_false, Bool.not_eq_true, Bool.not_true, Bool.not_false, Bool.not_eq_true', Bool.not_eq_false', beq_eq_false_iff_ne, ne_eq, beq_iff_eq, bne_iff_ne, bne_eq_false_iff_eq, Classical.not_not] at g21
    refine Cd.skip hK11 ?_
    refine Cd.seq fun K13 hK13 => ?_
    refine Cd.block ?_
    refine Cd.plain [(0, false), (1, false), (2, false), (3, false), (4, false), (5, false), (6, false), (7, false), (8, false), (9, false)] rfl rfl ?_
    have hi : i < N := by omega
    have hix : i < xs.length := by omega
    have hv : xs[i]? = some xs[i] := List.getElem?_eq_getElem hix
    obtain ⟨v, hve⟩ : ∃ v, v = xs[i] := ⟨_, rfl⟩
    rw [← hve] at hv
    obtain ⟨ad, hA, hc⟩ := RdB.cell (RdB.up _ _ _ ok2 hr) hv
    have hA : A = some ad := hA
    subst hA
    refine Jp.y 24 rfl (want_all rfl) rfl rfl Kp.true (Y.move rfl rfl) ?_
    refine Jp.y 25 rfl (want_all rfl) rfl rfl Kp.true (Y.move rfl rfl) ?_
    refine Jp.y 26 rfl (want_all rfl) rfl rfl Kp.true (Y.move rfl rfl) ?_
    refine Jp.y 27 rfl (want_all rfl) rfl rfl Kp.true (Y.conv_ rfl rfl Try.underlying3 Try.underlying25 (by first | exact wrap_u32 (by omega) (by omega) | rfl)) ?_
    refine Jp.y 28 rfl (want_all rfl) rfl rfl Kp.true (Y.add_ rfl rfl rfl (by first | exact wrap_u32 (by omega) (by omega) | rfl)) ?_
    refine Jp.y 29 rfl (want_all rfl) rfl rfl Kp.true (Y.move rfl rfl) ?_
    refine Jp.y 30 rfl (want_all rfl) rfl rfl Kp.true (Y.move rfl rfl) ?_
    refine Jp.y 31 rfl (want_all rfl) rfl rfl Kp.true (Y.indexAddr (q := i) rfl rfl rfl Try.underlying38 Try.sizeOf5 (by omega) (by omega) (by omega)) ?_
    refine Jp.y 32 rfl (want_all rfl) rfl rfl Kp.true (by first | exact Y.loadO 0 rfl Try.isAgg5 rfl rfl rfl | exact Y.loadO 1 rfl Try.isAgg5 rfl rfl rfl | exact Y.loadR rfl Try.isAgg5 rfl hc) ?_
    refine Jp.slot 28 rfl (show _ = Value.int .u32 ((a + i : Nat) : Int) from congrArg (Value.int .u32) (by omega)) ?_
    have hsn : layP l a (xs.take (i + 1)) = oneP (layP l a (xs.take i)) (a + i) v := by
      rw [← List.take_append_getElem hix, lay_snoc, List.length_take, Nat.min_eq_left (by omega), ← hve]
    refine Jp.call [1] [1] (rsOne_spec b' B (layP l a (xs.take i)) hlok (a + i) v (by omega)) 33 rfl (want_all rfl) rfl rfl (Runs.fn rfl Try.call84 rfl) (by decide) (by decide) rfl trivial ?_
    rintro v2 ρ2 L2 ⟨rfl, rfl⟩
    refine ⟨rfl, fun hle2 => ⟨Kp.true, ?_⟩⟩
    rw [← hsn]
    refine Jp.over rfl hK13 ?_
    refine Cd.plain [(0, false), (1, false), (2, false)] rfl rfl ?_
    refine Jp.y 22 rfl (want_all rfl) rfl rfl Kp.true (Y.move rfl rfl) ?_
    refine Jp.y 23 rfl (want_all rfl) rfl rfl Kp.true (Y.add_ rfl rfl rfl (by first | exact wrap_i64 (by omega) (by omega) | rfl)) ?_
    refine Jp.y 8 rfl (want_all rfl) rfl rfl Kp.true (Y.assign rfl rfl) ?_
    rw [show (i : Int) + 1 = ((i + 1 : Nat) : Int) by omega]
    refine Jp.again hLa ⟨i + 1, _⟩ ⟨hi, Hp.le_trans ok2 hle2⟩ (by show N - (i + 1) < N - i; omega) rfl ⟨rfl, rfl, rfl, rfl, rfl, trivial⟩ ⟨rfl, rfl, trivial⟩
theorem rsSize_spec (size : Int) : Spec Try.prog 85 #[.int .i64 size] (fun _ => True) [] (fun ρ ρ' v L => ρ' = ρ ∧ v = .int .i64 (sizedP size : Int) ∧ L = []) := by
  refine Spec.of 10 Try.func85 rfl Try.ntmps85 [(0, _)] rfl rfl ?_
  intro cx ρ hr h0
  refine Cd.seq fun K14 hK14 => ?_
  refine Cd.plain [(0, false)] rfl rfl ?_
  refine Jp.y 2 rfl (want_all rfl) rfl rfl Kp.true (Y.assign rfl rfl) ?_
  refine Jp.done hK14 ?_
  refine Cd.seq fun K15 hK15 => ?_
  refine Cd.seq fun K16 hK16 => ?_
  refine Cd.plain [(0, false), (1, false), (2, false), (3, false), (4, false), (5, false)] rfl rfl ?_
  refine Jp.y 3 rfl (want_all rfl) rfl rfl Kp.true (Y.move rfl rfl) ?_
  refine Jp.y 4 rfl (want_all rfl) rfl rfl Kp.true (Y.lss rfl rfl rfl) ?_
  refine Jp.y 5 rfl (want_all rfl) rfl rfl Kp.true (Y.move rfl rfl) ?_
  refine Jp.split 5 rfl (fun g5 => ?_) (fun g5 => ?_)
  · skip
    try simp only [decide_eq_false_iff_not, decide_eq_true_eq, Int.not_lt, Int.not_le, Bool.not_eq_false, Bool.not_eq_true, Bool.not_true, Bool.not_false, Bool.not_eq_true', Bool.not_eq_false', beq_eq_false_iff_ne, ne_eq, beq_iff_eq, bne_iff_ne, bne_eq_false_iff_eq, Classical.not_not] at g5
    refine Jp.skip 6 rfl (want_as rfl rfl rfl rfl) rfl rfl Kp.true ?_
    refine Jp.skip 7 rfl (want_as rfl rfl rfl rfl) rfl rfl Kp.true ?_
    refine Jp.y 8 rfl (want_all rfl) rfl rfl Kp.true (Y.pickT rfl rfl rfl) ?_
    refine Jp.done hK16 ?_
    refine Cd.condT rfl ?_
    refine Cd.seq fun K17 hK17 => ?_
    refine Cd.plain [(0, false)] rfl rfl ?_
    refine Jp.y 2 rfl (want_all rfl) rfl rfl Kp.true (Y.assign rfl rfl) ?_
    refine Jp.done hK17 ?_
    refine Cd.ret [] rfl (res1 rfl rfl) trivial ⟨rfl, congrArg (Value.int .i64) (by unfold sizedP; first | (rw [if_pos (by omega)]; done) | (rw [if_pos (by omega)]; rfl) | (rw [if_neg (by omega)]; omega)), rfl⟩
  · skip
    try simp only [decide_eq_false_iff_not, decide_eq_true_eq, Int.not_lt, Int.not_le, Bool.not_eq_false, Bool.not_eq_true, Bool.not_true, Bool.not_false, Bool.not_eq_true', Bool.not_eq_false', beq_eq_false_iff_ne, ne_eq, beq_iff_eq, bne_iff_ne, bne_eq_false_iff_eq, Classical.not_not] at g5
    refine Jp.y 6 rfl (want_as rfl rfl rfl rfl) rfl rfl Kp.true (Y.move rfl rfl) ?_
    refine Jp.y 7 rfl (want_as rfl rfl rfl rfl) rfl rfl Kp.true (Y.gtr rfl rfl rfl) ?_
    refine Jp.y 8 rfl (want_all rfl) rfl rfl Kp.true (Y.pickF rfl rfl rfl) ?_
    refine Jp.done hK16 ?_
    refine Cd.cond rfl (fun g8 => ?_) (fun g8 => ?_)
    · skip
      try simp only [decide_eq_false_iff_not, decide_eq_true_eq, Int.not_lt, Int.not_le, Bool.not_eq_false, Bool.not_eq_true, Bool.not_true, Bool.not_false, Bool.not_eq_true', Bool.not_eq_false', beq_eq_false_iff_ne, ne_eq, beq_iff_eq, bne_iff_ne, bne_eq_false_iff_eq, Classical.not_not] at g8
      refine Cd.seq fun K18 hK18 => ?_
      refine Cd.plain [(0, false)] rfl rfl ?_
      refine Jp.y 2 rfl (want_all rfl) rfl rfl Kp.true (Y.assign rfl rfl) ?_
      refine Jp.done hK18 ?_
      refine Cd.ret [] rfl (res1 rfl rfl) trivial ⟨rfl, congrArg (Value.int .i64) (by unfold sizedP; first | (rw [if_pos (by omega)]; done) | (rw [if_pos (by omega)]; rfl) | (rw [if_neg (by omega)]; omega)), rfl⟩
    · skip
      try simp only [decide_eq_false_iff_not, decide_eq_true_eq, Int.not_lt, Int.not_le, Bool.not_eq_false, Bool.not_eq_true, Bool.not_true, Bool.not_false, Bool.not_eq_true', Bool.not_eq_false', beq_eq_false_iff_ne, ne_eq, beq_iff_eq, bne_iff_ne, bne_eq_false_iff_eq, Classical.not_not] at g8
      refine Cd.skip hK15 ?_
      refine Cd.seq fun K19 hK19 => ?_
      refine Cd.plain [(0, false), (1, false)] rfl rfl ?_
      refine Jp.y 9 rfl (want_all rfl) rfl rfl Kp.true (Y.move rfl rfl) ?_
      refine Jp.y 2 rfl (want_all rfl) rfl rfl Kp.true (Y.assign rfl rfl) ?_
      refine Jp.done hK19 ?_
      refine Cd.ret [] rfl (res1 rfl rfl) trivial ⟨rfl, congrArg (Value.int .i64) (by unfold sizedP; first | (rw [if_pos (by omega)]; done) | (rw [if_pos (by omega)]; rfl) | (rw [if_neg (by omega)]; omega)), rfl⟩
theorem rsPut_spec (b : Nat) (B : Int) (l : List (Nat × Pg)) (hok : ShOk l) (a : Nat) (size : Int) (t : Bytes) (ha : a < 4294967296) (ht : t.length = 4) : Spec Try.prog 37 #[.pointer (some ⟨b, 0, none⟩), .int .u32 a, .int .i64 size, .agg (bytesV t).toArray] (fun _ => True) [(0, RsO b B l)]
    (fun ρ ρ' r L => r = .int .i64 (putR B l a size t).1 ∧ L = [(0, RsO b B (putR B l a size t).2)]) := by
  refine Spec.of 15 Try.func37 rfl Try.ntmps37 [(0, _), (1, _), (2, _), (3, _)] rfl rfl ?_
  intro cx ρ hr h0
  have hsz : sizedP size ≤ 4 := by unfold sizedP; split <;> omega
  refine Cd.seq fun K20 hK20 => ?_
  refine Cd.plain [(0, false), (1, false)] rfl rfl ?_
  refine Jp.box 5 7 rfl (want_all rfl) rfl rfl rfl rfl fun b5 => ⟨Kp.true, ?_⟩
  refine Jp.y 8 rfl (want_all rfl) rfl rfl Kp.true (Y.assign rfl rfl) ?_
  refine Jp.done hK20 ?_
  refine Cd.seq fun K21 hK21 => ?_
  refine Cd.plain [(0, false), (1, false), (2, false), (3, false), (4, false), (5, false), (6, false)] rfl rfl ?_
  refine Jp.y 9 rfl (want_all rfl) rfl rfl Kp.true (Y.move rfl rfl) ?_
  refine Jp.y 10 rfl (want_all rfl) rfl rfl Kp.true (Y.move rfl rfl) ?_
  refine Jp.y 11 rfl (want_all rfl) rfl rfl Kp.true (Y.move rfl rfl) ?_
  refine Jp.call [] [] (rsSize_spec size) 12 rfl (want_all rfl) rfl rfl (Runs.fn rfl Try.call85 rfl) (by decide) (by decide) rfl trivial ?_
  rintro v1 ρ1 L1 ⟨rfl, rfl, rfl⟩
  refine ⟨rfl, fun hle1 => ⟨Kp.true, ?_⟩⟩
  obtain ⟨z, hz⟩ : ∃ z, sizedP size = z := ⟨_, rfl⟩
  have hpm : putR B l a size t = setR B l a (t.take z) := by rw [putR, hz]
  rw [hz] at hsz ⊢
  refine Jp.y 13 rfl (want_all rfl) rfl rfl Kp.true (Y.sliceArrTo (hi := z) rfl rfl rfl Try.underlying64 Try.sizeOf5 (by omega) (by omega)) ?_
  refine Jp.freeze (i := 5) (A := Pt b5 (.cells (bytesV t).toArray 64)) rfl (Pt.up _ _) fun ρ5 hle5 hA5 => ?_
  have hlt : (t.take z).length = z := by rw [List.length_take]; omega
  have hrd : RdB ⟨some ⟨b5, 0, none⟩, 4, t.take z⟩ ρ5 := by
    refine ⟨by simp [bytesV], ⟨by show (t.take z).length ≤ 4; omega, by show (t.take z).length ≤ _; omega⟩, fun j v hj => ⟨_, rfl, ?_⟩⟩
    rw [add_mk]
    have hA5 : ρ5 b5 = some (.cells (bytesV t).toArray 64) := hA5
    have hj2 : (bytesV t)[j]? = some v := by
      have h1 : (bytesV (t.take z))[j]? = some v := hj
      unfold bytesV at h1 ⊢
      rw [List.map_take, List.getElem?_take] at h1
      split at h1
      · exact h1
      · cases h1
    simp [cellH, hA5, hj2]
  have hS := rsSet_spec b B l hok a ⟨some ⟨b5, 0, none⟩, 4, t.take z⟩ ha (by show (t.take z).length ≤ _; omega)
  unfold Sl.v at hS
  dsimp only at hS
  rw [hlt] at hS
  refine Jp.call [0] [0] hS 14 rfl (want_all rfl) rfl rfl (Runs.fn rfl Try.call35 rfl) (by decide) (by decide) rfl hrd ?_
  rintro v2 ρ2 L2 ⟨rfl, rfl⟩
  refine ⟨rfl, fun hle2 => ⟨Kp.true, ?_⟩⟩
  refine Jp.y 8 rfl (want_all rfl) rfl rfl Kp.true (Y.assign rfl rfl) ?_
  refine Jp.done hK21 ?_
  refine Cd.ret [(0, _)] rfl (res1 rfl rfl) ⟨rfl, trivial⟩ ⟨by rw [hpm], by rw [hpm]⟩
theorem rsTag_spec (b : Nat) (B : Int) (l : List (Nat × Pg)) (hlt : ∀ y ∈ l, y.1 < 4294967296) (a : Nat) (size : Int) (ha : a < 4294967296) : Spec Try.prog 42 #[.pointer (some ⟨b, 0, none⟩), .int .u32 a, .int .i64 size] (fun _ => True) [(0, RsO b B l)]
    (fun ρ ρ' v L => ρ' = ρ ∧ v = .agg (bytesV (tagM ⟨0, l⟩ a size)).toArray ∧ L = [(0, RsO b B l)]) := by
  refine Spec.of 32 Try.func42 rfl Try.ntmps42 [(0, _), (1, _), (2, _)] rfl rfl ?_
  intro cx ρ hr h0
  have hsz : sizedP size ≤ 4 := by unfold sizedP; split <;> omega
  obtain ⟨m, hm⟩ : ∃ m, min (sizedP size) (4294967296 - a) = m := ⟨_, rfl⟩
  obtain ⟨S, hS⟩ : ∃ S : ShG, S = ⟨0, l⟩ := ⟨_, rfl⟩
  have hSp : S.pages = l := by rw [hS]
  rw [← hS]
  refine Cd.seq fun K22 hK22 => ?_
  refine Cd.plain [(0, false)] rfl rfl ?_
  refine Jp.alloc 6 6 rfl (want_all rfl) rfl rfl rfl Try.zeroValue64 fun b6 => ⟨Kp.true, ?_⟩
  refine Jp.done hK22 ?_
  refine Cd.seq fun K23 hK23 => ?_
  refine Cd.plain [(0, false), (1, false), (2, false)] rfl rfl ?_
  refine Jp.y 9 rfl (want_all rfl) rfl rfl Kp.true (Y.array [] [_, _, _, _] rfl rfl Try.underlying64 Try.sizeOf5 Try.zeroValue64 rfl) ?_
  refine Jp.alloc 7 7 rfl (want_all rfl) rfl rfl rfl Try.zeroValue64 fun b7 => ⟨Kp.true, ?_⟩
  first | refine Jp.storeAgg 6 rfl (want_all rfl) rfl rfl Try.sizeOf64 rfl rfl rfl rfl rfl rfl (fun k _ _ => noFr0 k) Kp.true ?_ | refine Jp.storeAgg 7 rfl (want_all rfl) rfl rfl Try.sizeOf64 rfl rfl rfl rfl rfl rfl (fun k _ _ => noFr0 k) Kp.true ?_ | refine Jp.storeAgg 6 rfl (want_all rfl) rfl rfl Try.sizeOf64 rfl rfl rfl rfl rfl rfl (fun k _ _ => noFr0 k) Kp.true ?_ | refine Jp.storeAgg 7 rfl (want_all rfl) rfl rfl Try.sizeOf64 rfl rfl rfl rfl rfl rfl (fun k _ _ => noFr0 k) Kp.true ?_
  refine Jp.done hK23 ?_
  refine Cd.seq fun K24 hK24 => ?_
  refine Cd.seq fun K25 hK25 => ?_
  refine Cd.plain [(0, false)] rfl rfl ?_
  refine Jp.y 8 rfl (want_all rfl) rfl rfl Kp.true (Y.assign rfl rfl) ?_
  refine Jp.done hK25 ?_
  refine Cd.block ?_
  refine Cd.imp (i := 7) rfl (fun h hh => (show Pt b7 (.cells (bytesV (tagTo S a 0)).toArray 64) h from hh)) ?_
  refine Cd.loopK (G := Nat) (fun i => i ≤ m) (fun i => m - i) (fun _ => _) (fun i => [(8, .int .i64 (i : Int))]) [(0, _), (1, _), (2, _), (6, _), (7, _)] (fun i => [(7, Pt b7 (.cells (bytesV (tagTo S a i)).toArray 64))]) [(0, _), (6, _)] 0 (Nat.zero_le _) rfl ⟨rfl, trivial⟩ ⟨rfl, rfl, rfl, rfl, rfl, trivial⟩ ⟨rfl, trivial⟩ ⟨rfl, rfl, trivial⟩ (fun g KLa hok hLa => ?_)
  obtain ⟨i, hi⟩ : ∃ i, i = g := ⟨_, rfl⟩
  rw [← hi] at hok ⊢
  refine Cd.seq fun K26 hK26 => ?_
  refine Cd.seq fun K27 hK27 => ?_
  refine Cd.plain [(0, false), (1, false), (2, false), (3, false), (4, false), (5, false), (6, false), (7, false), (8, false), (9, false), (10, false)] rfl rfl ?_
  refine Jp.y 10 rfl (want_all rfl) rfl rfl Kp.true (Y.move rfl rfl) ?_
  refine Jp.y 11 rfl (want_all rfl) rfl rfl Kp.true (Y.move rfl rfl) ?_
  refine Jp.call [] [] (rsSize_spec size) 12 rfl (want_all rfl) rfl rfl (Runs.fn rfl Try.call85 rfl) (by decide) (by decide) rfl trivial ?_
  rintro v1 ρ1 L1 ⟨rfl, rfl, rfl⟩
  refine ⟨rfl, fun hle1 => ⟨Kp.true, ?_⟩⟩
  refine Jp.y 13 rfl (want_all rfl) rfl rfl Kp.true (Y.lss rfl rfl rfl) ?_
  refine Jp.y 14 rfl (want_all rfl) rfl rfl Kp.true (Y.move rfl rfl) ?_
  refine Jp.splitF 14 rfl (fun g14 => ?_) (fun g14 => ?_)
  · skip
    try simp only [decide_eq_false_iff_not, decide_eq_true_eq, Int.not_lt, Int.not_le, Bool.not_eq_false, Bool.not_eq_true, Bool.not_true, Bool.not_false, Bool.not_eq_true', Bool.not_eq_false', beq_eq_false_iff_ne, ne_eq, beq_iff_eq, bne_iff_ne, bne_eq_false_iff_eq, Classical.not_not] at g14
    have him : i = m := by omega
    have he : tagTo S a i = tagM S a size := by
      unfold tagTo tagM
      refine List.map_congr_left fun j hj => ?_
      have := List.mem_range.1 hj
      by_cases h1 : j < i
      · rw [if_pos h1, if_pos (by omega)]
      · rw [if_neg h1, if_neg (by omega)]
    refine Jp.skip 15 rfl (want_as rfl rfl rfl rfl) rfl rfl Kp.true ?_
    refine Jp.skip 16 rfl (want_as rfl rfl rfl rfl) rfl rfl Kp.true ?_
    refine Jp.skip 17 rfl (want_as rfl rfl rfl rfl) rfl rfl Kp.true ?_
    refine Jp.skip 18 rfl (want_as rfl rfl rfl rfl) rfl rfl Kp.true ?_
    refine Jp.skip 19 rfl (want_as rfl rfl rfl rfl) rfl rfl Kp.true ?_
    refine Jp.y 20 rfl (want_all rfl) rfl rfl Kp.true (Y.pickF rfl rfl rfl) ?_
    refine Jp.done hK27 ?_
    refine Cd.condF rfl ?_
    refine Cd.exit rfl hK24 ?_
    refine Cd.seq fun K28 hK28 => ?_
    refine Cd.plain [(0, false), (1, false)] rfl rfl ?_
    refine Jp.y 31 rfl (want_all rfl) rfl rfl Kp.true (by first | exact Y.loadAggO 6 rfl Try.isAgg64 Try.sizeOf64 rfl rfl rfl | exact Y.loadAggO 7 rfl Try.isAgg64 Try.sizeOf64 rfl rfl rfl) ?_
    first | refine Jp.storeAgg 6 rfl (want_all rfl) rfl rfl Try.sizeOf64 rfl rfl rfl rfl rfl rfl (fun k _ _ => noFr0 k) Kp.true ?_ | refine Jp.storeAgg 7 rfl (want_all rfl) rfl rfl Try.sizeOf64 rfl rfl rfl rfl rfl rfl (fun k _ _ => noFr0 k) Kp.true ?_
    refine Jp.done hK28 ?_
    refine Cd.ret [(0, _)] rfl (by first | exact resC1 6 rfl rfl Try.isAgg64 Try.sizeOf64 rfl rfl | exact resC1 7 rfl rfl Try.isAgg64 Try.sizeOf64 rfl rfl) ⟨rfl, trivial⟩ ⟨rfl, by rw [← he]; rfl, rfl⟩
  try simp only [decide_eq_false_iff_not, decide_eq_true_eq, Int.not_lt, Int.not_le, Bool.not_eq_false, Bool.not_eq_true, Bool.not_true, Bool.not_false, Bool.not_eq_true', Bool.not_eq_false', beq_eq_false_iff_ne, ne_eq, beq_iff_eq, bne_iff_ne, bne_eq_false_iff_eq, Classical.not_not] at g14
  refine Jp.y 15 rfl (want_as rfl rfl rfl rfl) rfl rfl Kp.true (Y.move rfl rfl) ?_
  refine Jp.y 16 rfl (want_as rfl rfl rfl rfl) rfl rfl Kp.true (Y.conv_ rfl rfl Try.underlying25 Try.underlying2 (by first | exact wrap_i64 (by omega) (by omega) | rfl)) ?_
  refine Jp.y 17 rfl (want_as rfl rfl rfl rfl) rfl rfl Kp.true (Y.move rfl rfl) ?_
  refine Jp.y 18 rfl (want_as rfl rfl rfl rfl) rfl rfl Kp.true (Y.add_ rfl rfl rfl (by first | exact wrap_i64 (by omega) (by omega) | rfl)) ?_
  refine Jp.y 19 rfl (want_as rfl rfl rfl rfl) rfl rfl Kp.true (Y.lss rfl rfl rfl) ?_
  refine Jp.y 20 rfl (want_all rfl) rfl rfl Kp.true (Y.pickT rfl rfl rfl) ?_
  refine Jp.done hK27 ?_
  refine Cd.condF' rfl (fun g20 => ?_) (fun g20 => ?_)
  · skip
    try simp only [decide_eq_false_iff_not, decide_eq_true_eq, Int.not_lt, Int.not_le, Bool.not_eq_false, Bool.not_eq_true, Bool.not_true, Bool.not_false, Bool.not_eq_true', Bool.not_eq_false', beq_eq_false_iff_ne, ne_eq, beq_iff_eq, bne_iff_ne, bne_eq_false_iff_eq, Classical.not_not] at g20
    have him : i = m := by omega
    have he : tagTo S a i = tagM S a size := by
      unfold tagTo tagM
      refine List.map_congr_left fun j hj => ?_
      have := List.mem_range.1 hj
      by_cases h1 : j < i
      · rw [if_pos h1, if_pos (by omega)]
      · rw [if_neg h1, if_neg (by omega)]
    refine Cd.exit rfl hK24 ?_
    refine Cd.seq fun K29 hK29 => ?_
    refine Cd.plain [(0, false), (1, false)] rfl rfl ?_
    refine Jp.y 31 rfl (want_all rfl) rfl rfl Kp.true (by first | exact Y.loadAggO 6 rfl Try.isAgg64 Try.sizeOf64 rfl rfl rfl | exact Y.loadAggO 7 rfl Try.isAgg64 Try.sizeOf64 rfl rfl rfl) ?_
    first | refine Jp.storeAgg 6 rfl (want_all rfl) rfl rfl Try.sizeOf64 rfl rfl rfl rfl rfl rfl (fun k _ _ => noFr0 k) Kp.true ?_ | refine Jp.storeAgg 7 rfl (want_all rfl) rfl rfl Try.sizeOf64 rfl rfl rfl rfl rfl rfl (fun k _ _ => noFr0 k) Kp.true ?_
    refine Jp.done hK29 ?_
    refine Cd.ret [(0, _)] rfl (by first | exact resC1 6 rfl rfl Try.isAgg64 Try.sizeOf64 rfl rfl | exact resC1 7 rfl rfl Try.isAgg64 Try.sizeOf64 rfl rfl) ⟨rfl, trivial⟩ ⟨rfl, by rw [← he]; rfl, rfl⟩
  try simp only [decide_eq_false_iff_not, decide_eq_true_eq, Int.not_lt, Int.not_le, Bool.not_eq_false, Bool.not_eq_true, Bool.not_true, Bool.not_false, Bool.not_eq_true', Bool.not_eq_false', beq_eq_false_iff_ne, ne_eq, beq_iff_eq, bne_iff_ne, bne_eq_false_iff_eq, Classical.not_not] at g20
  refine Cd.skip hK26 ?_
  refine Cd.seq fun K30 hK30 => ?_
  refine Cd.block ?_
  refine Cd.plain [(0, false), (1, false), (2, false), (3, false), (4, false), (5, false), (6, false), (7, false), (8, false)] rfl rfl ?_
  refine Jp.y 23 rfl (want_all rfl) rfl rfl Kp.true (Y.move rfl rfl) ?_
  refine Jp.y 24 rfl (want_all rfl) rfl rfl Kp.true (Y.move rfl rfl) ?_
  refine Jp.y 25 rfl (want_all rfl) rfl rfl Kp.true (Y.move rfl rfl) ?_
  refine Jp.y 26 rfl (want_all rfl) rfl rfl Kp.true (Y.move rfl rfl) ?_
  refine Jp.y 27 rfl (want_all rfl) rfl rfl Kp.true (Y.conv_ rfl rfl Try.underlying3 Try.underlying25 (by first | exact wrap_u32 (by omega) (by omega) | rfl)) ?_
  refine Jp.y 28 rfl (want_all rfl) rfl rfl Kp.true (Y.add_ rfl rfl rfl (by first | exact wrap_u32 (by omega) (by omega) | rfl)) ?_
  have him : i < m := by omega
  refine Jp.slot 28 rfl (show _ = Value.int .u32 ((a + i : Nat) : Int) from congrArg (Value.int .u32) (by omega)) ?_
  refine Jp.call [0] [0] (rsAt_spec b B l (a + i) (by omega) hlt) 29 rfl (want_all rfl) rfl rfl (Runs.fn rfl Try.call40 rfl) (by decide) (by decide) rfl trivial ?_
  rintro v2 ρ2 L2 ⟨rfl, rfl, rfl⟩
  refine ⟨rfl, fun hle2 => ⟨Kp.true, ?_⟩⟩
  refine Jp.y 30 rfl (want_all rfl) rfl rfl Kp.true (Y.indexArrP (q := i) rfl rfl rfl Try.underlying64 Try.sizeOf5 (by omega) (by omega) (by omega)) ?_
  rw [show labL l (a + i) = labL S.pages (a + i) by rw [hSp]]
  refine Jp.storeC 7 (Pt b7 (.cells (bytesV (tagTo S a (i + 1))).toArray 64)) rfl (want_all rfl) rfl rfl Try.sizeOf5 rfl rfl rfl rfl rfl (SetC.pt (by simp [bytesV, tagTo]; omega) (noFr0 _) (tagTo_set S a i (by omega))) Kp.true ?_
  refine Jp.over rfl hK30 ?_
  refine Cd.plain [(0, false), (1, false), (2, false)] rfl rfl ?_
  refine Jp.y 21 rfl (want_all rfl) rfl rfl Kp.true (Y.move rfl rfl) ?_
  refine Jp.y 22 rfl (want_all rfl) rfl rfl Kp.true (Y.add_ rfl rfl rfl (by first | exact wrap_i64 (by omega) (by omega) | rfl)) ?_
  refine Jp.y 8 rfl (want_all rfl) rfl rfl Kp.true (Y.assign rfl rfl) ?_
  rw [show (i : Int) + 1 = ((i + 1 : Nat) : Int) by omega]
  refine Jp.again hLa (i + 1) (by omega) (by omega) rfl ⟨rfl, rfl, rfl, rfl, rfl, rfl, trivial⟩ ⟨rfl, rfl, rfl, trivial⟩
end Go.Proofs.Ytgmhijlcdadaeaa
