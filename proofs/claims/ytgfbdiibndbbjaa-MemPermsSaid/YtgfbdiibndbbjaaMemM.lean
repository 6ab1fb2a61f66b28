/- MemPerms. -/
import Derived.Test.YtgfbdiibndbbjaaMemL
import Derived.Test.YtgfbdiibndbbjaaMemH
set_option linter.unusedVariables false
set_option linter.unusedSimpArgs false
set_option maxRecDepth 100000
namespace Go.Proofs.Ytgfbdiibndbbjaa
open Go
/-- A memory of one page. -/
def pgM (bud k : Nat) (p : Pg) (g : Nat → Nat) : MemG := ⟨bud, [(k, p)], g⟩
theorem pgM_get (bud k : Nat) (p : Pg) (g : Nat → Nat) : getPg (pgM bud k p g).pages k = some p := by simp [pgM, getPg]
theorem pgM_look {bud k a : Nat} {p : Pg} {g : Nat → Nat} {size need : Int} (hb : baseN a = k) (hs : sizeOk a size = true) : lookM (pgM bud k p g) a size need = if may p.perm need then 0 else 2 := by
  rw [lookM, if_neg (by rw [hs]; simp), hb, pgM_get]
theorem pgM_all {bud k a n : Nat} {p : Pg} {g : Nat → Nat} {need : Int} (hb : baseN a = k) (hn : 0 < n) (hl : a % 256 + n ≤ 256) (h : a + n ≤ 4294967296) : allM (pgM bud k p g) a n need = may p.perm need := by
  have hc : allCnt a n = 1 := by unfold allCnt; omega
  have h1 : decide (n = 0) = false := decide_eq_false (by omega)
  have h2 : decide (a + n ≤ 4294967296) = true := decide_eq_true h
  rw [allM, hc, h1, h2, Bool.false_or, Bool.true_and]
  simp [List.range_succ, hb, pgOk, pgM_get]
theorem memPerms_spec (perm need size : Int) : Spec Try.prog 5 #[.int .i64 perm, .int .i64 need, .int .i64 size] (fun _ => True) [] (fun ρ ρ' v L => v = .bool true ∧ L = []) := by
  refine Spec.of 116 Try.func5 rfl Try.ntmps5 [(0, _), (1, _), (2, _)] rfl rfl ?_
  intro cx ρ hr h0
  refine Cd.seq fun K1 hK1 => ?_
  refine Cd.plain [(0, false)] rfl rfl ?_
  refine Jp.y 6 rfl (want_all rfl) rfl rfl Kp.true (Y.assign rfl rfl) ?_
  refine Jp.done hK1 ?_
  refine Cd.seq fun K2 hK2 => ?_
  refine Cd.seq fun K3 hK3 => ?_
  refine Cd.plain [(0, false), (1, false)] rfl rfl ?_
  refine Jp.call [] [] awake3_spec 15 rfl (want_all rfl) rfl rfl (Runs.fn rfl Try.call18 rfl) (by decide) (by decide) rfl trivial ?_
  rintro v1 ρ1 L1 ⟨rfl, rfl⟩
  refine ⟨rfl, fun hle1 => ⟨Kp.true, ?_⟩⟩
  refine Jp.y 16 rfl (want_all rfl) rfl rfl Kp.true (Y.not rfl rfl) ?_
  refine Jp.done hK3 ?_
  refine Cd.cond rfl (fun g16 => ?_) (fun g16 => ?_)
  · skip
    exact absurd g16 (by simp)
  try simp only [decide_eq_false_iff_not, decide_eq_true_eq, Int.not_lt, Int.not_le, Bool.not_eq_false, Bool.not_eq_true, Bool.not_true, Bool.not_false, Bool.not_eq_true', Bool.not_eq_false', beq_eq_false_iff_ne, ne_eq, beq_iff_eq, bne_iff_ne, bne_eq_false_iff_eq, Classical.not_not] at g16
  refine Cd.skip hK2 ?_
  refine Cd.seq fun K4 hK4 => ?_
  refine Cd.seq fun K5 hK5 => ?_
  refine Cd.plain [(0, false), (1, false), (2, false), (3, false), (4, false), (5, false), (6, false), (7, false), (8, false), (9, false), (10, false), (11, false), (12, false), (13, false), (14, false), (15, false), (16, false), (17, false), (18, false), (19, false), (20, false), (21, false), (22, false), (23, false), (24, false), (25, false)] rfl rfl ?_
  refine Jp.joinK (φ := 0 ≤ perm ∧ perm ≤ 7 ∧ 0 ≤ need ∧ need ≤ 7 ∧ (size = 1 ∨ size = 2 ∨ size = 4)) hK4 [(0, _), (1, _), (2, _)] ⟨rfl, rfl, rfl, trivial⟩ [] trivial (fun hφ => ?_) (fun hj1 => ?_)
  · obtain ⟨h1, h2, h3, h4, hs⟩ := hφ
    obtain ⟨p, rfl⟩ := Int.eq_ofNat_of_zero_le h1
    have hso : sizeOk 256 size = true := by rcases hs with rfl | rfl | rfl <;> decide
    obtain ⟨q0, hq0⟩ : ∃ q : Pg, q = ⟨List.replicate 256 0, p⟩ := ⟨_, rfl⟩
    have hq0p : q0.perm = p := by rw [hq0]
    have hM1 : mapM (newM 1) 256 256 p = (0, pgM 1 256 q0 (bump (fun _ => 0) 256)) := by
      have e1 : stretch 256 256 = some 1 := by decide
      rw [mapM, e1, hq0]
      dsimp only
      rw [if_neg (by omega), if_neg (by simp [withinP, newM]), if_neg (by simp [newM])]
      rfl
    obtain ⟨g1, hg1⟩ : ∃ g, g = bump (fun _ => 0) 256 := ⟨_, rfl⟩
    rw [← hg1] at hM1
    have hb : baseN 256 = 256 := by decide
    obtain ⟨av, fa, hA, hfa, hfa2⟩ : ∃ v f, loadM (pgM 1 256 q0 g1) 256 size need = (v, f) ∧ (f == 0) = (bitsB .and .i64 p need == need) ∧ (f = 0 ∨ f = 2) := by
      rw [loadM, pgM_look hb hso, hq0p]
      cases hm : may p need <;> simp only [hm, Bool.false_eq_true, if_false, if_true] <;> refine ⟨_, _, rfl, ?_, ?_⟩ <;> simp [may] at hm ⊢ <;> simp [hm]
    obtain ⟨q1, g2, fb, hB1, hB2, hfb, hfb2, hq1⟩ : ∃ q1 g2 f, (storeM (pgM 1 256 q0 g1) 256 size 1).1 = f ∧ (storeM (pgM 1 256 q0 g1) 256 size 1).2 = pgM 1 256 q1 g2 ∧ (f == 0) = (bitsB .and .i64 p 2 == 2) ∧ (f = 0 ∨ f = 2) ∧ q1.perm = p := by
      rw [storeM, pgM_look hb hso, hq0p]
      cases hm : may p 2 <;> simp only [hm, Bool.false_eq_true, if_false, if_true]
      · refine ⟨q0, g1, 2, rfl, rfl, ?_, by omega, hq0p⟩
        simp [may] at hm; simp [hm]
      · refine ⟨stPg q0 0 size.toNat 1, bump g1 256, 0, rfl, ?_, ?_, by omega, hq0p⟩
        · rw [hb, pgM_get]; simp [pgM, setPg]
        · simp [may] at hm; simp [hm]
    obtain ⟨fc, hC, hfc⟩ : ∃ f, (readM (pgM 1 256 q1 g2) 256 1).2 = f ∧ (f == 0) = (bitsB .and .i64 p 1 == 1) := by
      rw [readM, if_neg (by omega), pgM_all hb (by decide) (by decide) (by decide), hq1]
      refine ⟨_, rfl, ?_⟩
      cases hm : may p 1 <;> simp [may] at hm ⊢ <;> simp [hm]
    obtain ⟨fd, hD, hfd⟩ : ∃ f, (writeM (pgM 1 256 q1 g2) 256 [1] 4096 2).1 = f ∧ (f == 0) = (bitsB .and .i64 p 2 == 2) := by
      rw [writeM, if_neg (by decide), pgM_all hb (by decide) (by decide) (by decide), hq1]
      refine ⟨_, rfl, ?_⟩
      cases hm : may p 2 <;> simp [may] at hm ⊢ <;> simp [hm]
    refine Cd.seq fun K6 hK6 => ?_
    refine Cd.plain [(0, false), (1, false), (2, false), (3, false), (4, false), (5, false)] rfl rfl ?_
    refine Jp.call [] [0] (new_yes 1 (by omega)) 44 rfl (want_all rfl) rfl rfl (Runs.fn rfl Try.call19 rfl) (by decide) (by decide) rfl trivial ?_
    rintro v2 ρ2 L2 ⟨rfl, b, rfl, rfl⟩
    refine ⟨rfl, fun hle2 => ⟨Kp.true, ?_⟩⟩
    refine Jp.y 43 rfl (want_all rfl) rfl rfl Kp.true (Y.move rfl rfl) ?_
    refine Jp.y 45 rfl (want_all rfl) rfl rfl Kp.true (Y.extract rfl rfl rfl) ?_
    refine Jp.y 46 rfl (want_all rfl) rfl rfl Kp.true (Y.extract rfl rfl rfl) ?_
    refine Jp.y 7 rfl (want_all rfl) rfl rfl Kp.true (Y.assign rfl rfl) ?_
    refine Jp.y 8 rfl (want_all rfl) rfl rfl Kp.true (Y.assign rfl rfl) ?_
    refine Jp.done hK6 ?_
    refine Cd.seq fun K7 hK7 => ?_
    refine Cd.plain [(0, false), (1, false), (2, false)] rfl rfl ?_
    refine Jp.y 47 rfl (want_all rfl) rfl rfl Kp.true (Y.move rfl rfl) ?_
    refine Jp.y 48 rfl (want_all rfl) rfl rfl Kp.true (Y.move rfl rfl) ?_
    refine Jp.call [0] [0] (map_eq (a := 256) (n := 256) (perm := p) (e := 0) (by omega) (by omega) (by rw [hM1]) (by rw [hM1])) 49 rfl (want_all rfl) rfl rfl (Runs.fn rfl Try.call20 rfl) (by decide) (by decide) rfl trivial ?_
    rintro v3 ρ3 L3 ⟨rfl, rfl, rfl⟩
    refine ⟨rfl, fun hle3 => ⟨Kp.true, ?_⟩⟩
    refine Jp.done hK7 ?_
    refine Cd.seq fun K8 hK8 => ?_
    refine Cd.plain [(0, false), (1, false), (2, false), (3, false), (4, false), (5, false), (6, false), (7, false), (8, false)] rfl rfl ?_
    refine Jp.y 51 rfl (want_all rfl) rfl rfl Kp.true (Y.move rfl rfl) ?_
    refine Jp.y 52 rfl (want_all rfl) rfl rfl Kp.true (Y.move rfl rfl) ?_
    refine Jp.y 53 rfl (want_all rfl) rfl rfl Kp.true (Y.move rfl rfl) ?_
    refine Jp.call [0] [0] (load_eq (a := 256) (by omega) hA) 54 rfl (want_all rfl) rfl rfl (Runs.fn rfl Try.call22 rfl) (by decide) (by decide) rfl trivial ?_
    rintro v4 ρ4 L4 ⟨rfl, rfl, rfl⟩
    refine ⟨rfl, fun hle4 => ⟨Kp.true, ?_⟩⟩
    refine Jp.y 50 rfl (want_all rfl) rfl rfl Kp.true (Y.move rfl rfl) ?_
    refine Jp.y 55 rfl (want_all rfl) rfl rfl Kp.true (Y.extract rfl rfl rfl) ?_
    refine Jp.y 56 rfl (want_all rfl) rfl rfl Kp.true (Y.extract rfl rfl rfl) ?_
    refine Jp.y 9 rfl (want_all rfl) rfl rfl Kp.true (Y.assign rfl rfl) ?_
    refine Jp.y 10 rfl (want_all rfl) rfl rfl Kp.true (Y.assign rfl rfl) ?_
    refine Jp.done hK8 ?_
    refine Cd.seq fun K9 hK9 => ?_
    refine Cd.plain [(0, false), (1, false), (2, false), (3, false)] rfl rfl ?_
    refine Jp.y 57 rfl (want_all rfl) rfl rfl Kp.true (Y.move rfl rfl) ?_
    refine Jp.y 58 rfl (want_all rfl) rfl rfl Kp.true (Y.move rfl rfl) ?_
    refine Jp.call [0] [0] (store_eq (a := 256) (v := 1) (by omega) (by omega) hB1 hB2) 59 rfl (want_all rfl) rfl rfl (Runs.fn rfl Try.call21 rfl) (by decide) (by decide) rfl trivial ?_
    rintro v5 ρ5 L5 ⟨rfl, rfl, rfl⟩
    refine ⟨rfl, fun hle5 => ⟨Kp.true, ?_⟩⟩
    refine Jp.y 11 rfl (want_all rfl) rfl rfl Kp.true (Y.assign rfl rfl) ?_
    refine Jp.done hK9 ?_
    refine Cd.seq fun K10 hK10 => ?_
    refine Cd.plain [(0, false), (1, false), (2, false), (3, false), (4, false), (5, false), (6, false)] rfl rfl ?_
    refine Jp.y 61 rfl (want_all rfl) rfl rfl Kp.true (Y.move rfl rfl) ?_
    refine Jp.call [0] [0, 8] (read_spec b (pgM 1 256 q1 g2) 256 1 (by omega)) 62 rfl (want_all rfl) rfl rfl (Runs.fn rfl Try.call23 rfl) (by decide) (by decide) rfl trivial ?_
    rintro v6 ρ6 L6 ⟨rfl, Ar, cr, rfl, rfl⟩
    refine ⟨rfl, fun hle6 => ⟨Kp.true, ?_⟩⟩
    rw [hC]
    refine Jp.y 60 rfl (want_all rfl) rfl rfl Kp.true (Y.move rfl rfl) ?_
    refine Jp.y 63 rfl (want_all rfl) rfl rfl Kp.true (Y.extract rfl rfl rfl) ?_
    refine Jp.y 64 rfl (want_all rfl) rfl rfl Kp.true (Y.extract rfl rfl rfl) ?_
    refine Jp.y 12 rfl (want_all rfl) rfl rfl Kp.true (Y.assign rfl rfl) ?_
    refine Jp.y 13 rfl (want_all rfl) rfl rfl Kp.true (Y.assign rfl rfl) ?_
    refine Jp.done hK10 ?_
    refine Cd.seq fun K11 hK11 => ?_
    refine Cd.plain [(0, false), (1, false), (2, false), (3, false)] rfl rfl ?_
    refine Jp.y 65 rfl (want_all rfl) rfl rfl Kp.true (Y.move rfl rfl) ?_
    refine Jp.lit 66 9 [(0, _)] [_] rfl (want_all rfl) rfl rfl rfl rfl Try.underlying25 Try.sizeOf5 Try.zeroValue5 rfl rfl rfl rfl rfl fun b9 => ⟨Kp.true, ?_⟩
    refine Jp.freeze (i := 9) rfl (OwnS.up _ _ _ _ _ _) fun ρ7 hle7 hA7 => ?_
    refine Jp.call [0] [0] (Write_spec b (pgM 1 256 q1 g2) 256 ⟨some ⟨b9, 0, none⟩, 1, [1]⟩ (by omega)) 67 rfl (want_all rfl) rfl rfl (Runs.fn rfl Try.call24 rfl) (by decide) (by decide) rfl hA7.rd ?_
    rintro v8 ρ8 L8 ⟨rfl, rfl, rfl⟩
    refine ⟨rfl, fun hle8 => ⟨Kp.true, ?_⟩⟩
    rw [hD]
    refine Jp.y 14 rfl (want_all rfl) rfl rfl Kp.true (Y.assign rfl rfl) ?_
    refine Jp.done hK11 ?_
    refine Cd.seq fun K12 hK12 => ?_
    refine Cd.plain [(0, false), (1, false), (2, false), (3, false), (4, false), (5, false), (6, false), (7, false), (8, false), (9, false), (10, false), (11, false), (12, false), (13, false), (14, false), (15, false), (16, false), (17, false), (18, false), (19, false), (20, false), (21, false), (22, false), (23, false), (24, false), (25, false), (26, false), (27, false), (28, false), (29, false), (30, false), (31, false), (32, false), (33, false), (34, false), (35, false), (36, false), (37, false), (38, false), (39, false), (40, false), (41, false), (42, false), (43, false), (44, false), (45, false), (46, false), (47, false), (48, false)] rfl rfl ?_
    refine Jp.y 68 rfl (want_all rfl) rfl rfl Kp.true (Y.move rfl rfl) ?_
    refine Jp.y 69 rfl (want_all rfl) rfl rfl Kp.true (Y.eql rfl rfl rfl) ?_
    refine Jp.y 70 rfl (want_all rfl) rfl rfl Kp.true (Y.move rfl rfl) ?_
    refine Jp.y 71 rfl (want_all rfl) rfl rfl Kp.true (Y.move rfl rfl) ?_
    refine Jp.y 72 rfl (want_all rfl) rfl rfl Kp.true (Y.bits rfl rfl rfl rfl) ?_
    refine Jp.y 73 rfl (want_all rfl) rfl rfl Kp.true (Y.move rfl rfl) ?_
    refine Jp.y 74 rfl (want_all rfl) rfl rfl Kp.true (Y.eql rfl rfl rfl) ?_
    refine Jp.y 75 rfl (want_all rfl) rfl rfl Kp.true (Y.beql rfl Try.underlying4 rfl rfl) ?_
    refine Jp.y 76 rfl (want_all rfl) rfl rfl Kp.true (Y.move rfl rfl) ?_
    refine Jp.split 76 rfl (fun g76 => ?_) (fun g76 => ?_)
    · skip
      try simp only [decide_eq_false_iff_not, decide_eq_true_eq, Int.not_lt, Int.not_le, Bool.not_eq_false, Bool.not_eq_true, Bool.not_true, Bool.not_false, Bool.not_eq_true', Bool.not_eq_false', beq_eq_false_iff_ne, ne_eq, beq_iff_eq, bne_iff_ne, bne_eq_false_iff_eq, Classical.not_not] at g76
      first
      | done
      | (first
         | omega
         | exact absurd hfa g76
         | exact absurd hfb g76
         | exact absurd hfc g76
         | exact absurd hfd g76
         | (simp at g76; done))
      | skip
        refine Jp.y 77 rfl (want_as rfl rfl rfl rfl) rfl rfl Kp.true (Y.move rfl rfl) ?_
        refine Jp.y 78 rfl (want_as rfl rfl rfl rfl) rfl rfl Kp.true (Y.eql rfl rfl rfl) ?_
        refine Jp.y 79 rfl (want_as rfl rfl rfl rfl) rfl rfl Kp.true (Y.move rfl rfl) ?_
        refine Jp.y 80 rfl (want_as rfl rfl rfl rfl) rfl rfl Kp.true (Y.bits rfl rfl rfl rfl) ?_
        refine Jp.y 81 rfl (want_as rfl rfl rfl rfl) rfl rfl Kp.true (Y.eql rfl rfl rfl) ?_
        refine Jp.y 82 rfl (want_as rfl rfl rfl rfl) rfl rfl Kp.true (Y.beql rfl Try.underlying4 rfl rfl) ?_
        refine Jp.y 83 rfl (want_all rfl) rfl rfl Kp.true (Y.pickT rfl rfl rfl) ?_
        refine Jp.y 84 rfl (want_all rfl) rfl rfl Kp.true (Y.move rfl rfl) ?_
        refine Jp.split 84 rfl (fun g84 => ?_) (fun g84 => ?_)
        · skip
          try simp only [decide_eq_false_iff_not, decide_eq_true_eq, Int.not_lt, Int.not_le, Bool.not_eq_false, Bool.not_eq_true, Bool.not_true, Bool.not_false, Bool.not_eq_true', Bool.not_eq_false', beq_eq_false_iff_ne, ne_eq, beq_iff_eq, bne_iff_ne, bne_eq_false_iff_eq, Classical.not_not] at g84
          first
          | done
          | (first
             | omega
             | exact absurd hfa g84
             | exact absurd hfb g84
             | exact absurd hfc g84
             | exact absurd hfd g84
             | (simp at g84; done))
          | skip
            refine Jp.y 85 rfl (want_as rfl rfl rfl rfl) rfl rfl Kp.true (Y.move rfl rfl) ?_
            refine Jp.y 86 rfl (want_as rfl rfl rfl rfl) rfl rfl Kp.true (Y.eql rfl rfl rfl) ?_
            refine Jp.y 87 rfl (want_as rfl rfl rfl rfl) rfl rfl Kp.true (Y.move rfl rfl) ?_
            refine Jp.y 88 rfl (want_as rfl rfl rfl rfl) rfl rfl Kp.true (Y.bits rfl rfl rfl rfl) ?_
            refine Jp.y 89 rfl (want_as rfl rfl rfl rfl) rfl rfl Kp.true (Y.eql rfl rfl rfl) ?_
            refine Jp.y 90 rfl (want_as rfl rfl rfl rfl) rfl rfl Kp.true (Y.beql rfl Try.underlying4 rfl rfl) ?_
            refine Jp.y 91 rfl (want_all rfl) rfl rfl Kp.true (Y.pickT rfl rfl rfl) ?_
            refine Jp.y 92 rfl (want_all rfl) rfl rfl Kp.true (Y.move rfl rfl) ?_
            refine Jp.split 92 rfl (fun g92 => ?_) (fun g92 => ?_)
            · skip
              try simp only [decide_eq_false_iff_not, decide_eq_true_eq, Int.not_lt, Int.not_le, Bool.not_eq_false, Bool.not_eq_true, Bool.not_true, Bool.not_false, Bool.not_eq_true', Bool.not_eq_false', beq_eq_false_iff_ne, ne_eq, beq_iff_eq, bne_iff_ne, bne_eq_false_iff_eq, Classical.not_not] at g92
              first
              | done
              | (first
                 | omega
                 | exact absurd hfa g92
                 | exact absurd hfb g92
                 | exact absurd hfc g92
                 | exact absurd hfd g92
                 | (simp at g92; done))
              | skip
                refine Jp.y 93 rfl (want_as rfl rfl rfl rfl) rfl rfl Kp.true (Y.move rfl rfl) ?_
                refine Jp.y 94 rfl (want_as rfl rfl rfl rfl) rfl rfl Kp.true (Y.eql rfl rfl rfl) ?_
                refine Jp.y 95 rfl (want_as rfl rfl rfl rfl) rfl rfl Kp.true (Y.move rfl rfl) ?_
                refine Jp.y 96 rfl (want_as rfl rfl rfl rfl) rfl rfl Kp.true (Y.bits rfl rfl rfl rfl) ?_
                refine Jp.y 97 rfl (want_as rfl rfl rfl rfl) rfl rfl Kp.true (Y.eql rfl rfl rfl) ?_
                refine Jp.y 98 rfl (want_as rfl rfl rfl rfl) rfl rfl Kp.true (Y.beql rfl Try.underlying4 rfl rfl) ?_
                refine Jp.y 99 rfl (want_all rfl) rfl rfl Kp.true (Y.pickT rfl rfl rfl) ?_
                refine Jp.y 100 rfl (want_all rfl) rfl rfl Kp.true (Y.move rfl rfl) ?_
                refine Jp.split 100 rfl (fun g100 => ?_) (fun g100 => ?_)
                · skip
                  try simp only [decide_eq_false_iff_not, decide_eq_true_eq, Int.not_lt, Int.not_le, Bool.not_eq_false, Bool.not_eq_true, Bool.not_true, Bool.not_false, Bool.not_eq_true', Bool.not_eq_false', beq_eq_false_iff_ne, ne_eq, beq_iff_eq, bne_iff_ne, bne_eq_false_iff_eq, Classical.not_not] at g100
                  first
                  | done
                  | (first
                     | omega
                     | exact absurd hfa g100
                     | exact absurd hfb g100
                     | exact absurd hfc g100
                     | exact absurd hfd g100
                     | (simp at g100; done))
                  | skip
                    refine Jp.y 101 rfl (want_as rfl rfl rfl rfl) rfl rfl Kp.true (Y.move rfl rfl) ?_
                    refine Jp.y 102 rfl (want_as rfl rfl rfl rfl) rfl rfl Kp.true (Y.eql rfl rfl rfl) ?_
                    refine Jp.y 103 rfl (want_as rfl rfl rfl rfl) rfl rfl Kp.true (Y.move rfl rfl) ?_
                    refine Jp.split 103 rfl (fun g103 => ?_) (fun g103 => ?_)
                    · skip
                      try simp only [decide_eq_false_iff_not, decide_eq_true_eq, Int.not_lt, Int.not_le, Bool.not_eq_false, Bool.not_eq_true, Bool.not_true, Bool.not_false, Bool.not_eq_true', Bool.not_eq_false', beq_eq_false_iff_ne, ne_eq, beq_iff_eq, bne_iff_ne, bne_eq_false_iff_eq, Classical.not_not] at g103
                      first
                      | done
                      | (first
                         | omega
                         | exact absurd hfa g103
                         | exact absurd hfb g103
                         | exact absurd hfc g103
                         | exact absurd hfd g103
                         | (simp at g103; done))
                      | skip
                        refine Jp.skip 104 rfl (want_as rfl rfl rfl rfl) rfl rfl Kp.true ?_
                        refine Jp.skip 105 rfl (want_as rfl rfl rfl rfl) rfl rfl Kp.true ?_
                        refine Jp.y 106 rfl (want_as rfl rfl rfl rfl) rfl rfl Kp.true (Y.pickT rfl rfl rfl) ?_
                        refine Jp.y 107 rfl (want_all rfl) rfl rfl Kp.true (Y.pickT rfl rfl rfl) ?_
                        refine Jp.y 108 rfl (want_all rfl) rfl rfl Kp.true (Y.move rfl rfl) ?_
                        refine Jp.y 109 rfl (want_as rfl rfl rfl rfl) rfl rfl Kp.true (Y.move rfl rfl) ?_
                        refine Jp.y 110 rfl (want_as rfl rfl rfl rfl) rfl rfl Kp.true (Y.eql rfl rfl rfl) ?_
                        refine Jp.y 111 rfl (want_as rfl rfl rfl rfl) rfl rfl Kp.true (Y.move rfl rfl) ?_
                        refine Jp.split 111 rfl (fun g111 => ?_) (fun g111 => ?_)
                        · skip
                          try simp only [decide_eq_false_iff_not, decide_eq_true_eq, Int.not_lt, Int.not_le, Bool.not_eq_false, Bool.not_eq_true, Bool.not_true, Bool.not_false, Bool.not_eq_true', Bool.not_eq_false', beq_eq_false_iff_ne, ne_eq, beq_iff_eq, bne_iff_ne, bne_eq_false_iff_eq, Classical.not_not] at g111
                          first
                          | done
                          | (first
                             | omega
                             | exact absurd hfa g111
                             | exact absurd hfb g111
                             | exact absurd hfc g111
                             | exact absurd hfd g111
                             | (simp at g111; done))
                          | skip
                            refine Jp.skip 112 rfl (want_as rfl rfl rfl rfl) rfl rfl Kp.true ?_
                            refine Jp.skip 113 rfl (want_as rfl rfl rfl rfl) rfl rfl Kp.true ?_
                            refine Jp.y 114 rfl (want_as rfl rfl rfl rfl) rfl rfl Kp.true (Y.pickT rfl rfl rfl) ?_
                            refine Jp.y 115 rfl (want_all rfl) rfl rfl Kp.true (Y.pickT rfl rfl rfl) ?_
                            refine Jp.y 6 rfl (want_all rfl) rfl rfl Kp.true (Y.assign rfl rfl) ?_
                            refine Jp.done hK12 ?_
                            refine Cd.ret [] rfl (res1 rfl rfl) trivial ⟨by first | rfl | (simp; done) | (simp; omega), rfl⟩
                        · skip
                          try simp only [decide_eq_false_iff_not, decide_eq_true_eq, Int.not_lt, Int.not_le, Bool.not_eq_false, Bool.not_eq_true, Bool.not_true, Bool.not_false, Bool.not_eq_true', Bool.not_eq_false', beq_eq_false_iff_ne, ne_eq, beq_iff_eq, bne_iff_ne, bne_eq_false_iff_eq, Classical.not_not] at g111
                          first
                          | done
                          | (first
                             | omega
                             | exact absurd hfa g111
                             | exact absurd hfb g111
                             | exact absurd hfc g111
                             | exact absurd hfd g111
                             | (simp at g111; done))
                          | skip
                            refine Jp.y 112 rfl (want_as rfl rfl rfl rfl) rfl rfl Kp.true (Y.move rfl rfl) ?_
                            refine Jp.y 113 rfl (want_as rfl rfl rfl rfl) rfl rfl Kp.true (Y.eql rfl rfl rfl) ?_
                            refine Jp.y 114 rfl (want_as rfl rfl rfl rfl) rfl rfl Kp.true (Y.pickF rfl rfl rfl) ?_
                            refine Jp.y 115 rfl (want_all rfl) rfl rfl Kp.true (Y.pickT rfl rfl rfl) ?_
                            refine Jp.y 6 rfl (want_all rfl) rfl rfl Kp.true (Y.assign rfl rfl) ?_
                            refine Jp.done hK12 ?_
                            refine Cd.ret [] rfl (res1 rfl rfl) trivial ⟨by first | rfl | (simp; done) | (simp; omega), rfl⟩
                    · skip
                      try simp only [decide_eq_false_iff_not, decide_eq_true_eq, Int.not_lt, Int.not_le, Bool.not_eq_false, Bool.not_eq_true, Bool.not_true, Bool.not_false, Bool.not_eq_true', Bool.not_eq_false', beq_eq_false_iff_ne, ne_eq, beq_iff_eq, bne_iff_ne, bne_eq_false_iff_eq, Classical.not_not] at g103
                      first
                      | done
                      | (first
                         | omega
                         | exact absurd hfa g103
                         | exact absurd hfb g103
                         | exact absurd hfc g103
                         | exact absurd hfd g103
                         | (simp at g103; done))
                      | skip
                        refine Jp.y 104 rfl (want_as rfl rfl rfl rfl) rfl rfl Kp.true (Y.move rfl rfl) ?_
                        refine Jp.y 105 rfl (want_as rfl rfl rfl rfl) rfl rfl Kp.true (Y.eql rfl rfl rfl) ?_
                        refine Jp.y 106 rfl (want_as rfl rfl rfl rfl) rfl rfl Kp.true (Y.pickF rfl rfl rfl) ?_
                        refine Jp.y 107 rfl (want_all rfl) rfl rfl Kp.true (Y.pickT rfl rfl rfl) ?_
                        refine Jp.y 108 rfl (want_all rfl) rfl rfl Kp.true (Y.move rfl rfl) ?_
                        refine Jp.split 108 rfl (fun g108 => ?_) (fun g108 => ?_)
                        · skip
                          try simp only [decide_eq_false_iff_not, decide_eq_true_eq, Int.not_lt, Int.not_le, Bool.not_eq_false, Bool.not_eq_true, Bool.not_true, Bool.not_false, Bool.not_eq_true', Bool.not_eq_false', beq_eq_false_iff_ne, ne_eq, beq_iff_eq, bne_iff_ne, bne_eq_false_iff_eq, Classical.not_not] at g108
                          first
                          | done
                          | (first
                             | omega
                             | exact absurd hfa g108
                             | exact absurd hfb g108
                             | exact absurd hfc g108
                             | exact absurd hfd g108
                             | (simp at g108; done))
                          | skip
                            refine Jp.y 109 rfl (want_as rfl rfl rfl rfl) rfl rfl Kp.true (Y.move rfl rfl) ?_
                            refine Jp.y 110 rfl (want_as rfl rfl rfl rfl) rfl rfl Kp.true (Y.eql rfl rfl rfl) ?_
                            refine Jp.y 111 rfl (want_as rfl rfl rfl rfl) rfl rfl Kp.true (Y.move rfl rfl) ?_
                            refine Jp.split 111 rfl (fun g111 => ?_) (fun g111 => ?_)
                            · skip
                              try simp only [decide_eq_false_iff_not, decide_eq_true_eq, Int.not_lt, Int.not_le, Bool.not_eq_false, Bool.not_eq_true, Bool.not_true, Bool.not_false, Bool.not_eq_true', Bool.not_eq_false', beq_eq_false_iff_ne, ne_eq, beq_iff_eq, bne_iff_ne, bne_eq_false_iff_eq, Classical.not_not] at g111
                              first
                              | done
                              | (first
                                 | omega
                                 | exact absurd hfa g111
                                 | exact absurd hfb g111
                                 | exact absurd hfc g111
                                 | exact absurd hfd g111
                                 | (simp at g111; done))
                              | skip
                                refine Jp.skip 112 rfl (want_as rfl rfl rfl rfl) rfl rfl Kp.true ?_
                                refine Jp.skip 113 rfl (want_as rfl rfl rfl rfl) rfl rfl Kp.true ?_
                                refine Jp.y 114 rfl (want_as rfl rfl rfl rfl) rfl rfl Kp.true (Y.pickT rfl rfl rfl) ?_
                                refine Jp.y 115 rfl (want_all rfl) rfl rfl Kp.true (Y.pickT rfl rfl rfl) ?_
                                refine Jp.y 6 rfl (want_all rfl) rfl rfl Kp.true (Y.assign rfl rfl) ?_
                                refine Jp.done hK12 ?_
                                refine Cd.ret [] rfl (res1 rfl rfl) trivial ⟨by first | rfl | (simp; done) | (simp; omega), rfl⟩
                            · skip
                              try simp only [decide_eq_false_iff_not, decide_eq_true_eq, Int.not_lt, Int.not_le, Bool.not_eq_false, Bool.not_eq_true, Bool.not_true, Bool.not_false, Bool.not_eq_true', Bool.not_eq_false', beq_eq_false_iff_ne, ne_eq, beq_iff_eq, bne_iff_ne, bne_eq_false_iff_eq, Classical.not_not] at g111
                              first
                              | done
                              | (first
                                 | omega
                                 | exact absurd hfa g111
                                 | exact absurd hfb g111
                                 | exact absurd hfc g111
                                 | exact absurd hfd g111
                                 | (simp at g111; done))
                              | skip
                                refine Jp.y 112 rfl (want_as rfl rfl rfl rfl) rfl rfl Kp.true (Y.move rfl rfl) ?_
                                refine Jp.y 113 rfl (want_as rfl rfl rfl rfl) rfl rfl Kp.true (Y.eql rfl rfl rfl) ?_
                                refine Jp.y 114 rfl (want_as rfl rfl rfl rfl) rfl rfl Kp.true (Y.pickF rfl rfl rfl) ?_
                                refine Jp.y 115 rfl (want_all rfl) rfl rfl Kp.true (Y.pickT rfl rfl rfl) ?_
                                refine Jp.y 6 rfl (want_all rfl) rfl rfl Kp.true (Y.assign rfl rfl) ?_
                                refine Jp.done hK12 ?_
                                refine Cd.ret [] rfl (res1 rfl rfl) trivial ⟨by first | rfl | (simp; done) | (simp; omega), rfl⟩
                        · skip
                          try simp only [decide_eq_false_iff_not, decide_eq_true_eq, Int.not_lt, Int.not_le, Bool.not_eq_false, Bool.not_eq_true, Bool.not_true, Bool.not_false, Bool.not_eq_true', Bool.not_eq_false', beq_eq_false_iff_ne, ne_eq, beq_iff_eq, bne_iff_ne, bne_eq_false_iff_eq, Classical.not_not] at g108
                          first
                          | done
                          | (first
                             | omega
                             | exact absurd hfa g108
                             | exact absurd hfb g108
                             | exact absurd hfc g108
                             | exact absurd hfd g108
                             | (simp at g108; done))
                          | skip
                            refine Jp.skip 109 rfl (want_as rfl rfl rfl rfl) rfl rfl Kp.true ?_
                            refine Jp.skip 110 rfl (want_as rfl rfl rfl rfl) rfl rfl Kp.true ?_
                            refine Jp.skip 111 rfl (want_as rfl rfl rfl rfl) rfl rfl Kp.true ?_
                            refine Jp.skip 112 rfl (want_un rfl rfl rfl) rfl rfl Kp.true ?_
                            refine Jp.skip 113 rfl (want_un rfl rfl rfl) rfl rfl Kp.true ?_
                            refine Jp.skip 114 rfl (want_as rfl rfl rfl rfl) rfl rfl Kp.true ?_
                            refine Jp.y 115 rfl (want_all rfl) rfl rfl Kp.true (Y.pickF rfl rfl rfl) ?_
                            refine Jp.y 6 rfl (want_all rfl) rfl rfl Kp.true (Y.assign rfl rfl) ?_
                            refine Jp.done hK12 ?_
                            refine Cd.ret [] rfl (res1 rfl rfl) trivial ⟨by first | rfl | (simp; done) | (simp; omega), rfl⟩
                · skip
                  try simp only [decide_eq_false_iff_not, decide_eq_true_eq, Int.not_lt, Int.not_le, Bool.not_eq_false, Bool.not_eq_true, Bool.not_true, Bool.not_false, Bool.not_eq_true', Bool.not_eq_false', beq_eq_false_iff_ne, ne_eq, beq_iff_eq, bne_iff_ne, bne_eq_false_iff_eq, Classical.not_not] at g100
                  first
                  | done
                  | (first
                     | omega
                     | exact absurd hfa g100
                     | exact absurd hfb g100
                     | exact absurd hfc g100
                     | exact absurd hfd g100
                     | (simp at g100; done))
                  | skip
                    refine Jp.skip 101 rfl (want_as rfl rfl rfl rfl) rfl rfl Kp.true ?_
                    refine Jp.skip 102 rfl (want_as rfl rfl rfl rfl) rfl rfl Kp.true ?_
                    refine Jp.skip 103 rfl (want_as rfl rfl rfl rfl) rfl rfl Kp.true ?_
                    refine Jp.skip 104 rfl (want_un rfl rfl rfl) rfl rfl Kp.true ?_
                    refine Jp.skip 105 rfl (want_un rfl rfl rfl) rfl rfl Kp.true ?_
                    refine Jp.skip 106 rfl (want_as rfl rfl rfl rfl) rfl rfl Kp.true ?_
                    refine Jp.y 107 rfl (want_all rfl) rfl rfl Kp.true (Y.pickF rfl rfl rfl) ?_
                    refine Jp.y 108 rfl (want_all rfl) rfl rfl Kp.true (Y.move rfl rfl) ?_
                    refine Jp.skip 109 rfl (want_as rfl rfl rfl rfl) rfl rfl Kp.true ?_
                    refine Jp.skip 110 rfl (want_as rfl rfl rfl rfl) rfl rfl Kp.true ?_
                    refine Jp.skip 111 rfl (want_as rfl rfl rfl rfl) rfl rfl Kp.true ?_
                    refine Jp.skip 112 rfl (want_un rfl rfl rfl) rfl rfl Kp.true ?_
                    refine Jp.skip 113 rfl (want_un rfl rfl rfl) rfl rfl Kp.true ?_
                    refine Jp.skip 114 rfl (want_as rfl rfl rfl rfl) rfl rfl Kp.true ?_
                    refine Jp.y 115 rfl (want_all rfl) rfl rfl Kp.true (Y.pickF rfl rfl rfl) ?_
                    refine Jp.y 6 rfl (want_all rfl) rfl rfl Kp.true (Y.assign rfl rfl) ?_
                    refine Jp.done hK12 ?_
                    refine Cd.ret [] rfl (res1 rfl rfl) trivial ⟨by first | rfl | (simp; done) | (simp; omega), rfl⟩
            · skip
              try simp only [decide_eq_false_iff_not, decide_eq_true_eq, Int.not_lt, Int.not_le, Bool.not_eq_false, Bool.not_eq_true, Bool.not_true, Bool.not_false, Bool.not_eq_true', Bool.not_eq_false', beq_eq_false_iff_ne, ne_eq, beq_iff_eq, bne_iff_ne, bne_eq_false_iff_eq, Classical.not_not] at g92
              first
              | done
              | (first
                 | omega
                 | exact absurd hfa g92
                 | exact absurd hfb g92
                 | exact absurd hfc g92
                 | exact absurd hfd g92
                 | (simp at g92; done))
              | skip
                refine Jp.skip 93 rfl (want_as rfl rfl rfl rfl) rfl rfl Kp.true ?_
                refine Jp.skip 94 rfl (want_as rfl rfl rfl rfl) rfl rfl Kp.true ?_
                refine Jp.skip 95 rfl (want_as rfl rfl rfl rfl) rfl rfl Kp.true ?_
                refine Jp.skip 96 rfl (want_as rfl rfl rfl rfl) rfl rfl Kp.true ?_
                refine Jp.skip 97 rfl (want_as rfl rfl rfl rfl) rfl rfl Kp.true ?_
                refine Jp.skip 98 rfl (want_as rfl rfl rfl rfl) rfl rfl Kp.true ?_
                refine Jp.y 99 rfl (want_all rfl) rfl rfl Kp.true (Y.pickF rfl rfl rfl) ?_
                refine Jp.y 100 rfl (want_all rfl) rfl rfl Kp.true (Y.move rfl rfl) ?_
                refine Jp.skip 101 rfl (want_as rfl rfl rfl rfl) rfl rfl Kp.true ?_
                refine Jp.skip 102 rfl (want_as rfl rfl rfl rfl) rfl rfl Kp.true ?_
                refine Jp.skip 103 rfl (want_as rfl rfl rfl rfl) rfl rfl Kp.true ?_
                refine Jp.skip 104 rfl (want_un rfl rfl rfl) rfl rfl Kp.true ?_
                refine Jp.skip 105 rfl (want_un rfl rfl rfl) rfl rfl Kp.true ?_
                refine Jp.skip 106 rfl (want_as rfl rfl rfl rfl) rfl rfl Kp.true ?_
                refine Jp.y 107 rfl (want_all rfl) rfl rfl Kp.true (Y.pickF rfl rfl rfl) ?_
                refine Jp.y 108 rfl (want_all rfl) rfl rfl Kp.true (Y.move rfl rfl) ?_
                refine Jp.skip 109 rfl (want_as rfl rfl rfl rfl) rfl rfl Kp.true ?_
                refine Jp.skip 110 rfl (want_as rfl rfl rfl rfl) rfl rfl Kp.true ?_
                refine Jp.skip 111 rfl (want_as rfl rfl rfl rfl) rfl rfl Kp.true ?_
                refine Jp.skip 112 rfl (want_un rfl rfl rfl) rfl rfl Kp.true ?_
                refine Jp.skip 113 rfl (want_un rfl rfl rfl) rfl rfl Kp.true ?_
                refine Jp.skip 114 rfl (want_as rfl rfl rfl rfl) rfl rfl Kp.true ?_
                refine Jp.y 115 rfl (want_all rfl) rfl rfl Kp.true (Y.pickF rfl rfl rfl) ?_
                refine Jp.y 6 rfl (want_all rfl) rfl rfl Kp.true (Y.assign rfl rfl) ?_
                refine Jp.done hK12 ?_
                refine Cd.ret [] rfl (res1 rfl rfl) trivial ⟨by first | rfl | (simp; done) | (simp; omega), rfl⟩
        · skip
          try simp only [decide_eq_false_iff_not, decide_eq_true_eq, Int.not_lt, Int.not_le, Bool.not_eq_false, Bool.not_eq_true, Bool.not_true, Bool.not_false, Bool.not_eq_true', Bool.not_eq_false', beq_eq_false_iff_ne, ne_eq, beq_iff_eq, bne_iff_ne, bne_eq_false_iff_eq, Classical.not_not] at g84
          first
          | done
          | (first
             | omega
             | exact absurd hfa g84
             | exact absurd hfb g84
             | exact absurd hfc g84
             | exact absurd hfd g84
             | (simp at g84; done))
          | skip
            refine Jp.skip 85 rfl (want_as rfl rfl rfl rfl) rfl rfl Kp.true ?_
            refine Jp.skip 86 rfl (want_as rfl rfl rfl rfl) rfl rfl Kp.true ?_
            refine Jp.skip 87 rfl (want_as rfl rfl rfl rfl) rfl rfl Kp.true ?_
            refine Jp.skip 88 rfl (want_as rfl rfl rfl rfl) rfl rfl Kp.true ?_
            refine Jp.skip 89 rfl (want_as rfl rfl rfl rfl) rfl rfl Kp.true ?_
            refine Jp.skip 90 rfl (want_as rfl rfl rfl rfl) rfl rfl Kp.true ?_
            refine Jp.y 91 rfl (want_all rfl) rfl rfl Kp.true (Y.pickF rfl rfl rfl) ?_
            refine Jp.y 92 rfl (want_all rfl) rfl rfl Kp.true (Y.move rfl rfl) ?_
            refine Jp.skip 93 rfl (want_as rfl rfl rfl rfl) rfl rfl Kp.true ?_
            refine Jp.skip 94 rfl (want_as rfl rfl rfl rfl) rfl rfl Kp.true ?_
            refine Jp.skip 95 rfl (want_as rfl rfl rfl rfl) rfl rfl Kp.true ?_
            refine Jp.skip 96 rfl (want_as rfl rfl rfl rfl) rfl rfl Kp.true ?_
            refine Jp.skip 97 rfl (want_as rfl rfl rfl rfl) rfl rfl Kp.true ?_
            refine Jp.skip 98 rfl (want_as rfl rfl rfl rfl) rfl rfl Kp.true ?_
            refine Jp.y 99 rfl (want_all rfl) rfl rfl Kp.true (Y.pickF rfl rfl rfl) ?_
            refine Jp.y 100 rfl (want_all rfl) rfl rfl Kp.true (Y.move rfl rfl) ?_
            refine Jp.skip 101 rfl (want_as rfl rfl rfl rfl) rfl rfl Kp.true ?_
            refine Jp.skip 102 rfl (want_as rfl rfl rfl rfl) rfl rfl Kp.true ?_
            refine Jp.skip 103 rfl (want_as rfl rfl rfl rfl) rfl rfl Kp.true ?_
            refine Jp.skip 104 rfl (want_un rfl rfl rfl) rfl rfl Kp.true ?_
            refine Jp.skip 105 rfl (want_un rfl rfl rfl) rfl rfl Kp.true ?_
            refine Jp.skip 106 rfl (want_as rfl rfl rfl rfl) rfl rfl Kp.true ?_
            refine Jp.y 107 rfl (want_all rfl) rfl rfl Kp.true (Y.pickF rfl rfl rfl) ?_
            refine Jp.y 108 rfl (want_all rfl) rfl rfl Kp.true (Y.move rfl rfl) ?_
            refine Jp.skip 109 rfl (want_as rfl rfl rfl rfl) rfl rfl Kp.true ?_
            refine Jp.skip 110 rfl (want_as rfl rfl rfl rfl) rfl rfl Kp.true ?_
            refine Jp.skip 111 rfl (want_as rfl rfl rfl rfl) rfl rfl Kp.true ?_
            refine Jp.skip 112 rfl (want_un rfl rfl rfl) rfl rfl Kp.true ?_
            refine Jp.skip 113 rfl (want_un rfl rfl rfl) rfl rfl Kp.true ?_
            refine Jp.skip 114 rfl (want_as rfl rfl rfl rfl) rfl rfl Kp.true ?_
            refine Jp.y 115 rfl (want_all rfl) rfl rfl Kp.true (Y.pickF rfl rfl rfl) ?_
            refine Jp.y 6 rfl (want_all rfl) rfl rfl Kp.true (Y.assign rfl rfl) ?_
            refine Jp.done hK12 ?_
            refine Cd.ret [] rfl (res1 rfl rfl) trivial ⟨by first | rfl | (simp; done) | (simp; omega), rfl⟩
    · skip
      try simp only [decide_eq_false_iff_not, decide_eq_true_eq, Int.not_lt, Int.not_le, Bool.not_eq_false, Bool.not_eq_true, Bool.not_true, Bool.not_false, Bool.not_eq_true', Bool.not_eq_false', beq_eq_false_iff_ne, ne_eq, beq_iff_eq, bne_iff_ne, bne_eq_false_iff_eq, Classical.not_not] at g76
      first
      | done
      | (first
         | omega
         | exact absurd hfa g76
         | exact absurd hfb g76
         | exact absurd hfc g76
         | exact absurd hfd g76
         | (simp at g76; done))
      | skip
        refine Jp.skip 77 rfl (want_as rfl rfl rfl rfl) rfl rfl Kp.true ?_
        refine Jp.skip 78 rfl (want_as rfl rfl rfl rfl) rfl rfl Kp.true ?_
        refine Jp.skip 79 rfl (want_as rfl rfl rfl rfl) rfl rfl Kp.true ?_
        refine Jp.skip 80 rfl (want_as rfl rfl rfl rfl) rfl rfl Kp.true ?_
        refine Jp.skip 81 rfl (want_as rfl rfl rfl rfl) rfl rfl Kp.true ?_
        refine Jp.skip 82 rfl (want_as rfl rfl rfl rfl) rfl rfl Kp.true ?_
        refine Jp.y 83 rfl (want_all rfl) rfl rfl Kp.true (Y.pickF rfl rfl rfl) ?_
        refine Jp.y 84 rfl (want_all rfl) rfl rfl Kp.true (Y.move rfl rfl) ?_
        refine Jp.skip 85 rfl (want_as rfl rfl rfl rfl) rfl rfl Kp.true ?_
        refine Jp.skip 86 rfl (want_as rfl rfl rfl rfl) rfl rfl Kp.true ?_
        refine Jp.skip 87 rfl (want_as rfl rfl rfl rfl) rfl rfl Kp.true ?_
        refine Jp.skip 88 rfl (want_as rfl rfl rfl rfl) rfl rfl Kp.true ?_
        refine Jp.skip 89 rfl (want_as rfl rfl rfl rfl) rfl rfl Kp.true ?_
        refine Jp.skip 90 rfl (want_as rfl rfl rfl rfl) rfl rfl Kp.true ?_
        refine Jp.y 91 rfl (want_all rfl) rfl rfl Kp.true (Y.pickF rfl rfl rfl) ?_
        refine Jp.y 92 rfl (want_all rfl) rfl rfl Kp.true (Y.move rfl rfl) ?_
        refine Jp.skip 93 rfl (want_as rfl rfl rfl rfl) rfl rfl Kp.true ?_
        refine Jp.skip 94 rfl (want_as rfl rfl rfl rfl) rfl rfl Kp.true ?_
        refine Jp.skip 95 rfl (want_as rfl rfl rfl rfl) rfl rfl Kp.true ?_
        refine Jp.skip 96 rfl (want_as rfl rfl rfl rfl) rfl rfl Kp.true ?_
        refine Jp.skip 97 rfl (want_as rfl rfl rfl rfl) rfl rfl Kp.true ?_
        refine Jp.skip 98 rfl (want_as rfl rfl rfl rfl) rfl rfl Kp.true ?_
        refine Jp.y 99 rfl (want_all rfl) rfl rfl Kp.true (Y.pickF rfl rfl rfl) ?_
        refine Jp.y 100 rfl (want_all rfl) rfl rfl Kp.true (Y.move rfl rfl) ?_
        refine Jp.skip 101 rfl (want_as rfl rfl rfl rfl) rfl rfl Kp.true ?_
        refine Jp.skip 102 rfl (want_as rfl rfl rfl rfl) rfl rfl Kp.true ?_
        refine Jp.skip 103 rfl (want_as rfl rfl rfl rfl) rfl rfl Kp.true ?_
        refine Jp.skip 104 rfl (want_un rfl rfl rfl) rfl rfl Kp.true ?_
        refine Jp.skip 105 rfl (want_un rfl rfl rfl) rfl rfl Kp.true ?_
        refine Jp.skip 106 rfl (want_as rfl rfl rfl rfl) rfl rfl Kp.true ?_
        refine Jp.y 107 rfl (want_all rfl) rfl rfl Kp.true (Y.pickF rfl rfl rfl) ?_
        refine Jp.y 108 rfl (want_all rfl) rfl rfl Kp.true (Y.move rfl rfl) ?_
        refine Jp.skip 109 rfl (want_as rfl rfl rfl rfl) rfl rfl Kp.true ?_
        refine Jp.skip 110 rfl (want_as rfl rfl rfl rfl) rfl rfl Kp.true ?_
        refine Jp.skip 111 rfl (want_as rfl rfl rfl rfl) rfl rfl Kp.true ?_
        refine Jp.skip 112 rfl (want_un rfl rfl rfl) rfl rfl Kp.true ?_
        refine Jp.skip 113 rfl (want_un rfl rfl rfl) rfl rfl Kp.true ?_
        refine Jp.skip 114 rfl (want_as rfl rfl rfl rfl) rfl rfl Kp.true ?_
        refine Jp.y 115 rfl (want_all rfl) rfl rfl Kp.true (Y.pickF rfl rfl rfl) ?_
        refine Jp.y 6 rfl (want_all rfl) rfl rfl Kp.true (Y.assign rfl rfl) ?_
        refine Jp.done hK12 ?_
        refine Cd.ret [] rfl (res1 rfl rfl) trivial ⟨by first | rfl | (simp; done) | (simp; omega), rfl⟩
  · skip
    refine Jp.y 17 rfl (want_all rfl) rfl rfl Kp.true (Y.move rfl rfl) ?_
    refine Jp.y 18 rfl (want_all rfl) rfl rfl Kp.true (Y.lss rfl rfl rfl) ?_
    refine Jp.y 19 rfl (want_all rfl) rfl rfl Kp.true (Y.move rfl rfl) ?_
    refine Jp.split 19 rfl (fun g19 => ?_) (fun g19 => ?_)
    · skip
      try simp only [decide_eq_false_iff_not, decide_eq_true_eq, Int.not_lt, Int.not_le, Bool.not_eq_false, Bool.not_eq_true, Bool.not_true, Bool.not_false, Bool.not_eq_true', Bool.not_eq_false', beq_eq_false_iff_ne, ne_eq, beq_iff_eq, bne_iff_ne, bne_eq_false_iff_eq, Classical.not_not] at g19
      refine Jp.skip 20 rfl (want_as rfl rfl rfl rfl) rfl rfl Kp.true ?_
      refine Jp.skip 21 rfl (want_as rfl rfl rfl rfl) rfl rfl Kp.true ?_
      refine Jp.y 22 rfl (want_all rfl) rfl rfl Kp.true (Y.pickT rfl rfl rfl) ?_
      refine Jp.y 23 rfl (want_all rfl) rfl rfl Kp.true (Y.move rfl rfl) ?_
      refine Jp.skip 24 rfl (want_as rfl rfl rfl rfl) rfl rfl Kp.true ?_
      refine Jp.skip 25 rfl (want_as rfl rfl rfl rfl) rfl rfl Kp.true ?_
      refine Jp.y 26 rfl (want_all rfl) rfl rfl Kp.true (Y.pickT rfl rfl rfl) ?_
      refine Jp.y 27 rfl (want_all rfl) rfl rfl Kp.true (Y.move rfl rfl) ?_
      refine Jp.skip 28 rfl (want_as rfl rfl rfl rfl) rfl rfl Kp.true ?_
      refine Jp.skip 29 rfl (want_as rfl rfl rfl rfl) rfl rfl Kp.true ?_
      refine Jp.y 30 rfl (want_all rfl) rfl rfl Kp.true (Y.pickT rfl rfl rfl) ?_
      refine Jp.y 31 rfl (want_all rfl) rfl rfl Kp.true (Y.move rfl rfl) ?_
      refine Jp.skip 32 rfl (want_as rfl rfl rfl rfl) rfl rfl Kp.true ?_
      refine Jp.skip 33 rfl (want_as rfl rfl rfl rfl) rfl rfl Kp.true ?_
      refine Jp.skip 34 rfl (want_as rfl rfl rfl rfl) rfl rfl Kp.true ?_
      refine Jp.skip 35 rfl (want_un rfl rfl rfl) rfl rfl Kp.true ?_
      refine Jp.skip 36 rfl (want_un rfl rfl rfl) rfl rfl Kp.true ?_
      refine Jp.skip 37 rfl (want_as rfl rfl rfl rfl) rfl rfl Kp.true ?_
      refine Jp.skip 38 rfl (want_as rfl rfl rfl rfl) rfl rfl Kp.true ?_
      refine Jp.skip 39 rfl (want_un rfl rfl rfl) rfl rfl Kp.true ?_
      refine Jp.skip 40 rfl (want_un rfl rfl rfl) rfl rfl Kp.true ?_
      refine Jp.skip 41 rfl (want_as rfl rfl rfl rfl) rfl rfl Kp.true ?_
      refine Jp.y 42 rfl (want_all rfl) rfl rfl Kp.true (Y.pickT rfl rfl rfl) ?_
      refine Jp.done hK5 ?_
      refine Cd.condT rfl ?_
      refine Cd.seq fun K13 hK13 => ?_
      refine Cd.plain [(0, false)] rfl rfl ?_
      refine Jp.y 6 rfl (want_all rfl) rfl rfl Kp.true (Y.assign rfl rfl) ?_
      refine Jp.done hK13 ?_
      refine Cd.ret [] rfl (res1 rfl rfl) trivial ⟨by first | rfl | (simp; done) | (simp; omega), rfl⟩
    · skip
      try simp only [decide_eq_false_iff_not, decide_eq_true_eq, Int.not_lt, Int.not_le, Bool.not_eq_false, Bool.not_eq_true, Bool.not_true, Bool.not_false, Bool.not_eq_true', Bool.not_eq_false', beq_eq_false_iff_ne, ne_eq, beq_iff_eq, bne_iff_ne, bne_eq_false_iff_eq, Classical.not_not] at g19
      refine Jp.y 20 rfl (want_as rfl rfl rfl rfl) rfl rfl Kp.true (Y.move rfl rfl) ?_
      refine Jp.y 21 rfl (want_as rfl rfl rfl rfl) rfl rfl Kp.true (Y.gtr rfl rfl rfl) ?_
      refine Jp.y 22 rfl (want_all rfl) rfl rfl Kp.true (Y.pickF rfl rfl rfl) ?_
      refine Jp.y 23 rfl (want_all rfl) rfl rfl Kp.true (Y.move rfl rfl) ?_
      refine Jp.split 23 rfl (fun g23 => ?_) (fun g23 => ?_)
      · skip
        try simp only [decide_eq_false_iff_not, decide_eq_true_eq, Int.not_lt, Int.not_le, Bool.not_eq_false, Bool.not_eq_true, Bool.not_true, Bool.not_false, Bool.not_eq_true', Bool.not_eq_false', beq_eq_false_iff_ne, ne_eq, beq_iff_eq, bne_iff_ne, bne_eq_false_iff_eq, Classical.not_not] at g23
        refine Jp.skip 24 rfl (want_as rfl rfl rfl rfl) rfl rfl Kp.true ?_
        refine Jp.skip 25 rfl (want_as rfl rfl rfl rfl) rfl rfl Kp.true ?_
        refine Jp.y 26 rfl (want_all rfl) rfl rfl Kp.true (Y.pickT rfl rfl rfl) ?_
        refine Jp.y 27 rfl (want_all rfl) rfl rfl Kp.true (Y.move rfl rfl) ?_
        refine Jp.skip 28 rfl (want_as rfl rfl rfl rfl) rfl rfl Kp.true ?_
        refine Jp.skip 29 rfl (want_as rfl rfl rfl rfl) rfl rfl Kp.true ?_
        refine Jp.y 30 rfl (want_all rfl) rfl rfl Kp.true (Y.pickT rfl rfl rfl) ?_
        refine Jp.y 31 rfl (want_all rfl) rfl rfl Kp.true (Y.move rfl rfl) ?_
        refine Jp.skip 32 rfl (want_as rfl rfl rfl rfl) rfl rfl Kp.true ?_
        refine Jp.skip 33 rfl (want_as rfl rfl rfl rfl) rfl rfl Kp.true ?_
        refine Jp.skip 34 rfl (want_as rfl rfl rfl rfl) rfl rfl Kp.true ?_
        refine Jp.skip 35 rfl (want_un rfl rfl rfl) rfl rfl Kp.true ?_
        refine Jp.skip 36 rfl (want_un rfl rfl rfl) rfl rfl Kp.true ?_
        refine Jp.skip 37 rfl (want_as rfl rfl rfl rfl) rfl rfl Kp.true ?_
        refine Jp.skip 38 rfl (want_as rfl rfl rfl rfl) rfl rfl Kp.true ?_
        refine Jp.skip 39 rfl (want_un rfl rfl rfl) rfl rfl Kp.true ?_
        refine Jp.skip 40 rfl (want_un rfl rfl rfl) rfl rfl Kp.true ?_
        refine Jp.skip 41 rfl (want_as rfl rfl rfl rfl) rfl rfl Kp.true ?_
        refine Jp.y 42 rfl (want_all rfl) rfl rfl Kp.true (Y.pickT rfl rfl rfl) ?_
        refine Jp.done hK5 ?_
        refine Cd.condT rfl ?_
        refine Cd.seq fun K14 hK14 => ?_
        refine Cd.plain [(0, false)] rfl rfl ?_
        refine Jp.y 6 rfl (want_all rfl) rfl rfl Kp.true (Y.assign rfl rfl) ?_
        refine Jp.done hK14 ?_
        refine Cd.ret [] rfl (res1 rfl rfl) trivial ⟨by first | rfl | (simp; done) | (simp; omega), rfl⟩
      · skip
        try simp only [decide_eq_false_iff_not, decide_eq_true_eq, Int.not_lt, Int.not_le, Bool.not_eq_false, Bool.not_eq_true, Bool.not_true, Bool.not_false, Bool.not_eq_true', Bool.not_eq_false', beq_eq_false_iff_ne, ne_eq, beq_iff_eq, bne_iff_ne, bne_eq_false_iff_eq, Classical.not_not] at g23
        refine Jp.y 24 rfl (want_as rfl rfl rfl rfl) rfl rfl Kp.true (Y.move rfl rfl) ?_
        refine Jp.y 25 rfl (want_as rfl rfl rfl rfl) rfl rfl Kp.true (Y.lss rfl rfl rfl) ?_
        refine Jp.y 26 rfl (want_all rfl) rfl rfl Kp.true (Y.pickF rfl rfl rfl) ?_
        refine Jp.y 27 rfl (want_all rfl) rfl rfl Kp.true (Y.move rfl rfl) ?_
        refine Jp.split 27 rfl (fun g27 => ?_) (fun g27 => ?_)
        · skip
          try simp only [decide_eq_false_iff_not, decide_eq_true_eq, Int.not_lt, Int.not_le, Bool.not_eq_false, Bool.not_eq_true, Bool.not_true, Bool.not_false, Bool.not_eq_true', Bool.not_eq_false', beq_eq_false_iff_ne, ne_eq, beq_iff_eq, bne_iff_ne, bne_eq_false_iff_eq, Classical.not_not] at g27
          refine Jp.skip 28 rfl (want_as rfl rfl rfl rfl) rfl rfl Kp.true ?_
          refine Jp.skip 29 rfl (want_as rfl rfl rfl rfl) rfl rfl Kp.true ?_
          refine Jp.y 30 rfl (want_all rfl) rfl rfl Kp.true (Y.pickT rfl rfl rfl) ?_
          refine Jp.y 31 rfl (want_all rfl) rfl rfl Kp.true (Y.move rfl rfl) ?_
          refine Jp.skip 32 rfl (want_as rfl rfl rfl rfl) rfl rfl Kp.true ?_
          refine Jp.skip 33 rfl (want_as rfl rfl rfl rfl) rfl rfl Kp.true ?_
          refine Jp.skip 34 rfl (want_as rfl rfl rfl rfl) rfl rfl Kp.true ?_
          refine Jp.skip 35 rfl (want_un rfl rfl rfl) rfl rfl Kp.true ?_
          refine Jp.skip 36 rfl (want_un rfl rfl rfl) rfl rfl Kp.true ?_
          refine Jp.skip 37 rfl (want_as rfl rfl rfl rfl) rfl rfl Kp.true ?_
          refine Jp.skip 38 rfl (want_as rfl rfl rfl rfl) rfl rfl Kp.true ?_
          refine Jp.skip 39 rfl (want_un rfl rfl rfl) rfl rfl Kp.true ?_
          refine Jp.skip 40 rfl (want_un rfl rfl rfl) rfl rfl Kp.true ?_
          refine Jp.skip 41 rfl (want_as rfl rfl rfl rfl) rfl rfl Kp.true ?_
          refine Jp.y 42 rfl (want_all rfl) rfl rfl Kp.true (Y.pickT rfl rfl rfl) ?_
          refine Jp.done hK5 ?_
          refine Cd.condT rfl ?_
          refine Cd.seq fun K15 hK15 => ?_
          refine Cd.plain [(0, false)] rfl rfl ?_
          refine Jp.y 6 rfl (want_all rfl) rfl rfl Kp.true (Y.assign rfl rfl) ?_
          refine Jp.done hK15 ?_
          refine Cd.ret [] rfl (res1 rfl rfl) trivial ⟨by first | rfl | (simp; done) | (simp; omega), rfl⟩
        · skip
          try simp only [decide_eq_false_iff_not, decide_eq_true_eq, Int.not_lt, Int.not_le, Bool.not_eq_false, Bool.not_eq_true, Bool.not_true, Bool.not_false, Bool.not_eq_true', Bool.not_eq_false', beq_eq_false_iff_ne, ne_eq, beq_iff_eq, bne_iff_ne, bne_eq_false_iff_eq, Classical.not_not] at g27
          refine Jp.y 28 rfl (want_as rfl rfl rfl rfl) rfl rfl Kp.true (Y.move rfl rfl) ?_
          refine Jp.y 29 rfl (want_as rfl rfl rfl rfl) rfl rfl Kp.true (Y.gtr rfl rfl rfl) ?_
          refine Jp.y 30 rfl (want_all rfl) rfl rfl Kp.true (Y.pickF rfl rfl rfl) ?_
          refine Jp.y 31 rfl (want_all rfl) rfl rfl Kp.true (Y.move rfl rfl) ?_
          refine Jp.split 31 rfl (fun g31 => ?_) (fun g31 => ?_)
          · skip
            try simp only [decide_eq_false_iff_not, decide_eq_true_eq, Int.not_lt, Int.not_le, Bool.not_eq_false, Bool.not_eq_true, Bool.not_true, Bool.not_false, Bool.not_eq_true', Bool.not_eq_false', beq_eq_false_iff_ne, ne_eq, beq_iff_eq, bne_iff_ne, bne_eq_false_iff_eq, Classical.not_not] at g31
            refine Jp.skip 32 rfl (want_as rfl rfl rfl rfl) rfl rfl Kp.true ?_
            refine Jp.skip 33 rfl (want_as rfl rfl rfl rfl) rfl rfl Kp.true ?_
            refine Jp.skip 34 rfl (want_as rfl rfl rfl rfl) rfl rfl Kp.true ?_
            refine Jp.skip 35 rfl (want_un rfl rfl rfl) rfl rfl Kp.true ?_
            refine Jp.skip 36 rfl (want_un rfl rfl rfl) rfl rfl Kp.true ?_
            refine Jp.skip 37 rfl (want_as rfl rfl rfl rfl) rfl rfl Kp.true ?_
            refine Jp.skip 38 rfl (want_as rfl rfl rfl rfl) rfl rfl Kp.true ?_
            refine Jp.skip 39 rfl (want_un rfl rfl rfl) rfl rfl Kp.true ?_
            refine Jp.skip 40 rfl (want_un rfl rfl rfl) rfl rfl Kp.true ?_
            refine Jp.skip 41 rfl (want_as rfl rfl rfl rfl) rfl rfl Kp.true ?_
            refine Jp.y 42 rfl (want_all rfl) rfl rfl Kp.true (Y.pickT rfl rfl rfl) ?_
            refine Jp.done hK5 ?_
            refine Cd.condT rfl ?_
            refine Cd.seq fun K16 hK16 => ?_
            refine Cd.plain [(0, false)] rfl rfl ?_
            refine Jp.y 6 rfl (want_all rfl) rfl rfl Kp.true (Y.assign rfl rfl) ?_
            refine Jp.done hK16 ?_
            refine Cd.ret [] rfl (res1 rfl rfl) trivial ⟨by first | rfl | (simp; done) | (simp; omega), rfl⟩
          · skip
            try simp only [decide_eq_false_iff_not, decide_eq_true_eq, Int.not_lt, Int.not_le, Bool.not_eq_false, Bool.not_eq_true, Bool.not_true, Bool.not_false, Bool.not_eq_true', Bool.not_eq_false', beq_eq_false_iff_ne, ne_eq, beq_iff_eq, bne_iff_ne, bne_eq_false_iff_eq, Classical.not_not] at g31
            refine Jp.y 32 rfl (want_as rfl rfl rfl rfl) rfl rfl Kp.true (Y.move rfl rfl) ?_
            refine Jp.y 33 rfl (want_as rfl rfl rfl rfl) rfl rfl Kp.true (Y.neq rfl rfl rfl) ?_
            refine Jp.y 34 rfl (want_as rfl rfl rfl rfl) rfl rfl Kp.true (Y.move rfl rfl) ?_
            refine Jp.split 34 rfl (fun g34 => ?_) (fun g34 => ?_)
            · skip
              try simp only [decide_eq_false_iff_not, decide_eq_true_eq, Int.not_lt, Int.not_le, Bool.not_eq_false, Bool.not_eq_true, Bool.not_true, Bool.not_false, Bool.not_eq_true', Bool.not_eq_false', beq_eq_false_iff_ne, ne_eq, beq_iff_eq, bne_iff_ne, bne_eq_false_iff_eq, Classical.not_not] at g34
              refine Jp.y 35 rfl (want_as rfl rfl rfl rfl) rfl rfl Kp.true (Y.move rfl rfl) ?_
              refine Jp.y 36 rfl (want_as rfl rfl rfl rfl) rfl rfl Kp.true (Y.neq rfl rfl rfl) ?_
              refine Jp.y 37 rfl (want_as rfl rfl rfl rfl) rfl rfl Kp.true (Y.pickT rfl rfl rfl) ?_
              refine Jp.y 38 rfl (want_as rfl rfl rfl rfl) rfl rfl Kp.true (Y.move rfl rfl) ?_
              refine Jp.split 38 rfl (fun g38 => ?_) (fun g38 => ?_)
              · skip
                try simp only [decide_eq_false_iff_not, decide_eq_true_eq, Int.not_lt, Int.not_le, Bool.not_eq_false, Bool.not_eq_true, Bool.not_true, Bool.not_false, Bool.not_eq_true', Bool.not_eq_false', beq_eq_false_iff_ne, ne_eq, beq_iff_eq, bne_iff_ne, bne_eq_false_iff_eq, Classical.not_not] at g38
                refine Jp.y 39 rfl (want_as rfl rfl rfl rfl) rfl rfl Kp.true (Y.move rfl rfl) ?_
                refine Jp.y 40 rfl (want_as rfl rfl rfl rfl) rfl rfl Kp.true (Y.neq rfl rfl rfl) ?_
                refine Jp.y 41 rfl (want_as rfl rfl rfl rfl) rfl rfl Kp.true (Y.pickT rfl rfl rfl) ?_
                refine Jp.y 42 rfl (want_all rfl) rfl rfl Kp.true (Y.pickF rfl rfl rfl) ?_
                refine Jp.done hK5 ?_
                refine Cd.cond rfl (fun g42 => ?_) (fun g42 => ?_)
                · skip
                  try simp only [decide_eq_false_iff_not, decide_eq_true_eq, Int.not_lt, Int.not_le, Bool.not_eq_false, Bool.not_eq_true, Bool.not_true, Bool.not_false, Bool.not_eq_true', Bool.not_eq_false', beq_eq_false_iff_ne, ne_eq, beq_iff_eq, bne_iff_ne, bne_eq_false_iff_eq, Classical.not_not] at g42
                  refine Cd.seq fun K17 hK17 => ?_
                  refine Cd.plain [(0, false)] rfl rfl ?_
                  refine Jp.y 6 rfl (want_all rfl) rfl rfl Kp.true (Y.assign rfl rfl) ?_
                  refine Jp.done hK17 ?_
                  refine Cd.ret [] rfl (res1 rfl rfl) trivial ⟨by first | rfl | (simp; done) | (simp; omega), rfl⟩
                · skip
                  try simp only [decide_eq_false_iff_not, decide_eq_true_eq, Int.not_lt, Int.not_le, Bool.not_eq_false, Bool.not_eq_true, Bool.not_true, Bool.not_false, Bool.not_eq_true', Bool.not_eq_false', beq_eq_false_iff_ne, ne_eq, beq_iff_eq, bne_iff_ne, bne_eq_false_iff_eq, Classical.not_not] at g42
                  refine Cd.skip hK4 ?_
                  exact Cd.meet (hj1 (by omega)) ⟨rfl, rfl, rfl, trivial⟩ trivial
              · skip
                try simp only [decide_eq_false_iff_not, decide_eq_true_eq, Int.not_lt, Int.not_le, Bool.not_eq_false, Bool.not_eq_true, Bool.not_true, Bool.not_false, Bool.not_eq_true', Bool.not_eq_false', beq_eq_false_iff_ne, ne_eq, beq_iff_eq, bne_iff_ne, bne_eq_false_iff_eq, Classical.not_not] at g38
                refine Jp.skip 39 rfl (want_as rfl rfl rfl rfl) rfl rfl Kp.true ?_
                refine Jp.skip 40 rfl (want_as rfl rfl rfl rfl) rfl rfl Kp.true ?_
                refine Jp.y 41 rfl (want_as rfl rfl rfl rfl) rfl rfl Kp.true (Y.pickF rfl rfl rfl) ?_
                refine Jp.y 42 rfl (want_all rfl) rfl rfl Kp.true (Y.pickF rfl rfl rfl) ?_
                refine Jp.done hK5 ?_
                refine Cd.condF rfl ?_
                refine Cd.skip hK4 ?_
                exact Cd.meet (hj1 (by omega)) ⟨rfl, rfl, rfl, trivial⟩ trivial
            · skip
              try simp only [decide_eq_false_iff_not, decide_eq_true_eq, Int.not_lt, Int.not_le, Bool.not_eq_false, Bool.not_eq_true, Bool.not_true, Bool.not_false, Bool.not_eq_true', Bool.not_eq_false', beq_eq_false_iff_ne, ne_eq, beq_iff_eq, bne_iff_ne, bne_eq_false_iff_eq, Classical.not_not] at g34
              refine Jp.skip 35 rfl (want_as rfl rfl rfl rfl) rfl rfl Kp.true ?_
              refine Jp.skip 36 rfl (want_as rfl rfl rfl rfl) rfl rfl Kp.true ?_
              refine Jp.y 37 rfl (want_as rfl rfl rfl rfl) rfl rfl Kp.true (Y.pickF rfl rfl rfl) ?_
              refine Jp.y 38 rfl (want_as rfl rfl rfl rfl) rfl rfl Kp.true (Y.move rfl rfl) ?_
              refine Jp.skip 39 rfl (want_as rfl rfl rfl rfl) rfl rfl Kp.true ?_
              refine Jp.skip 40 rfl (want_as rfl rfl rfl rfl) rfl rfl Kp.true ?_
              refine Jp.y 41 rfl (want_as rfl rfl rfl rfl) rfl rfl Kp.true (Y.pickF rfl rfl rfl) ?_
              refine Jp.y 42 rfl (want_all rfl) rfl rfl Kp.true (Y.pickF rfl rfl rfl) ?_
              refine Jp.done hK5 ?_
              refine Cd.condF rfl ?_
              refine Cd.skip hK4 ?_
              exact Cd.meet (hj1 (by omega)) ⟨rfl, rfl, rfl, trivial⟩ trivial
end Go.Proofs.Ytgfbdiibndbbjaa
