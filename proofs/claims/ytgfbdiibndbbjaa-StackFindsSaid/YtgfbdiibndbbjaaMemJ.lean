/- Contracts: all, Read. -/
import Derived.Test.YtgfbdiibndbbjaaMemG
set_option linter.unusedVariables false
set_option linter.unusedSimpArgs false
set_option maxRecDepth 100000
namespace Go.Proofs.Ytgfbdiibndbbjaa
open Go
def pgOk (M : MemG) (k : Nat) (need : Int) : Bool := match getPg M.pages k with
  | some p => may p.perm need
  | none => false
def allCnt (a n : Nat) : Nat := (a % 256 + n + 255) / 256
def allM (M : MemG) (a n : Nat) (need : Int) : Bool := decide (n = 0) || (decide (a + n ≤ 4294967296) && (List.range (allCnt a n)).all fun j => pgOk M (baseN a + 256 * j) need)
theorem pgOk_some {M : MemG} {k : Nat} {need : Int} {p : Pg} (h : getPg M.pages k = some p) : pgOk M k need = may p.perm need := by rw [pgOk, h]
theorem pgOk_none {M : MemG} {k : Nat} {need : Int} (h : getPg M.pages k = none) : pgOk M k need = false := by rw [pgOk, h]
theorem allM_yes {M : MemG} {a n : Nat} {need : Int} (h : a + n ≤ 4294967296) (h2 : ∀ j, j < allCnt a n → pgOk M (baseN a + 256 * j) need = true) : allM M a n need = true := by
  simp only [allM, h, decide_true, Bool.true_and, Bool.or_eq_true]
  exact .inr (List.all_eq_true.2 fun j hj => h2 j (List.mem_range.1 hj))
theorem allM_no {M : MemG} {a n j : Nat} {need : Int} (hn : n ≠ 0) (hj : j < allCnt a n) (h2 : pgOk M (baseN a + 256 * j) need = false) : allM M a n need = false := by
  simp only [allM, hn, decide_false, Bool.false_or, Bool.and_eq_false_iff]
  refine .inr (Bool.eq_false_iff.2 fun h => ?_)
  have := List.all_eq_true.1 h j (List.mem_range.2 hj)
  rw [h2] at this; cases this
theorem allM_big {M : MemG} {a n : Nat} {need : Int} (hn : n ≠ 0) (h : 4294967296 < a + n) : allM M a n need = false := by
  simp only [allM, hn, decide_false, Bool.false_or, Bool.and_eq_false_iff, decide_eq_false_iff_not]
  exact .inl (by omega)
theorem allM_page {M : MemG} {a n i : Nat} {need : Int} (h : allM M a n need = true) (hi : i < n) : a + n ≤ 4294967296 ∧ ∃ p, getPg M.pages (baseN (a + i)) = some p ∧ may p.perm need = true := by
  simp only [allM, Bool.or_eq_true, Bool.and_eq_true, decide_eq_true_eq] at h
  rcases h with h | ⟨h1, h2⟩
  · omega
  refine ⟨h1, ?_⟩
  have hb : baseN (a + i) = baseN a + 256 * ((a % 256 + i) / 256) := by unfold baseN; omega
  have := List.all_eq_true.1 h2 ((a % 256 + i) / 256) (List.mem_range.2 (by unfold allCnt; omega))
  rw [← hb, pgOk] at this
  split at this
  · rename_i p hp; exact ⟨p, hp, this⟩
  · cases this
theorem all_spec (b : Nat) (M : MemG) (x : MemX) (hf : MemF M x) (a n : Nat) (need : Int) (ha : a < 4294967296) (hn : n ≤ 65536) : Spec Try.prog 53 #[.pointer (some ⟨b, 0, none⟩), .int .u32 a, .int .i64 n, .int .i64 need] (fun _ => True) [(0, Pt b (memObj M x)), (1, MapO .u32 x.pb x.pm), (2, Blks (blksOf M x))]
    (fun ρ ρ' v L => ρ' = ρ ∧ v = .bool (allM M a n need) ∧ L = [(0, Pt b (memObj M x)), (1, MapO .u32 x.pb x.pm), (2, Blks (blksOf M x))]) := by
  refine Spec.of 51 Try.func53 rfl Try.ntmps53 [(0, _), (1, _), (2, _), (3, _)] rfl rfl ?_
  intro cx ρ hr h0
  refine Cd.seq fun K1 hK1 => ?_
  refine Cd.plain [(0, false)] rfl rfl ?_
  refine Jp.y 8 rfl (want_all rfl) rfl rfl Kp.true (Y.assign rfl rfl) ?_
  refine Jp.done hK1 ?_
  refine Cd.seq fun K2 hK2 => ?_
  refine Cd.seq fun K3 hK3 => ?_
  refine Cd.plain [(0, false), (1, false)] rfl rfl ?_
  refine Jp.y 12 rfl (want_all rfl) rfl rfl Kp.true (Y.move rfl rfl) ?_
  refine Jp.y 13 rfl (want_all rfl) rfl rfl Kp.true (Y.eql rfl rfl rfl) ?_
  refine Jp.done hK3 ?_
  refine Cd.cond rfl (fun g13 => ?_) (fun g13 => ?_)
  · skip
    try simp only [decide_eq_false_iff_not, decide_eq_true_eq, Int.not_lt, Int.not_le, Bool.not_eq_false, Bool.not_eq_true, Bool.not_true, Bool.not_false, Bool.not_eq_true', Bool.not_eq_false', beq_eq_false_iff_ne, ne_eq, beq_iff_eq, bne_iff_ne, bne_eq_false_iff_eq, Classical.not_not] at g13
    refine Cd.seq fun K4 hK4 => ?_
    refine Cd.plain [(0, false)] rfl rfl ?_
    refine Jp.y 8 rfl (want_all rfl) rfl rfl Kp.true (Y.assign rfl rfl) ?_
    refine Jp.done hK4 ?_
    refine Cd.ret [(0, _), (1, _), (2, _)] rfl (res1 rfl rfl) ⟨rfl, rfl, rfl, trivial⟩ ⟨rfl, congrArg Value.bool ?_, rfl⟩
    have : n = 0 := by omega
    subst this; rfl
  try simp only [decide_eq_false_iff_not, decide_eq_true_eq, Int.not_lt, Int.not_le, Bool.not_eq_false, Bool.not_eq_true, Bool.not_true, Bool.not_false, Bool.not_eq_true', Bool.not_eq_false', beq_eq_false_iff_ne, ne_eq, beq_iff_eq, bne_iff_ne, bne_eq_false_iff_eq, Classical.not_not] at g13
  refine Cd.skip hK2 ?_
  refine Cd.seq fun K5 hK5 => ?_
  refine Cd.seq fun K6 hK6 => ?_
  refine Cd.plain [(0, false), (1, false), (2, false), (3, false), (4, false), (5, false)] rfl rfl ?_
  refine Jp.y 14 rfl (want_all rfl) rfl rfl Kp.true (Y.move rfl rfl) ?_
  refine Jp.y 15 rfl (want_all rfl) rfl rfl Kp.true (Y.conv_ rfl rfl Try.underlying26 Try.underlying80 (by first | exact wrap_u64 (by omega) (by omega) | rfl)) ?_
  refine Jp.y 16 rfl (want_all rfl) rfl rfl Kp.true (Y.move rfl rfl) ?_
  refine Jp.y 17 rfl (want_all rfl) rfl rfl Kp.true (Y.conv_ rfl rfl Try.underlying3 Try.underlying80 (by first | exact wrap_u64 (by omega) (by omega) | rfl)) ?_
  refine Jp.y 18 rfl (want_all rfl) rfl rfl Kp.true (Y.add_ rfl rfl rfl (by first | exact wrap_u64 (by omega) (by omega) | rfl)) ?_
  refine Jp.y 19 rfl (want_all rfl) rfl rfl Kp.true (Y.gtr rfl rfl rfl) ?_
  refine Jp.done hK6 ?_
  refine Cd.cond rfl (fun g19 => ?_) (fun g19 => ?_)
  · skip
    try simp only [decide_eq_false_iff_not, decide_eq_true_eq, Int.not_lt, Int.not_le, Bool.not_eq_false, Bool.not_eq_true, Bool.not_true, Bool.not_false, Bool.not_eq_true', Bool.not_eq_false', beq_eq_false_iff_ne, ne_eq, beq_iff_eq, bne_iff_ne, bne_eq_false_iff_eq, Classical.not_not] at g19
    refine Cd.seq fun K7 hK7 => ?_
    refine Cd.plain [(0, false)] rfl rfl ?_
    refine Jp.y 8 rfl (want_all rfl) rfl rfl Kp.true (Y.assign rfl rfl) ?_
    refine Jp.done hK7 ?_
    refine Cd.ret [(0, _), (1, _), (2, _)] rfl (res1 rfl rfl) ⟨rfl, rfl, rfl, trivial⟩ ⟨rfl, congrArg Value.bool (allM_big (by omega) (by omega)).symm, rfl⟩
  try simp only [decide_eq_false_iff_not, decide_eq_true_eq, Int.not_lt, Int.not_le, Bool.not_eq_false, Bool.not_eq_true, Bool.not_true, Bool.not_false, Bool.not_eq_true', Bool.not_eq_false', beq_eq_false_iff_ne, ne_eq, beq_iff_eq, bne_iff_ne, bne_eq_false_iff_eq, Classical.not_not] at g19
  refine Cd.skip hK5 ?_
  refine Cd.seq fun K8 hK8 => ?_
  refine Cd.plain [(0, false), (1, false), (2, false), (3, false), (4, false), (5, false), (6, false)] rfl rfl ?_
  refine Jp.y 20 rfl (want_all rfl) rfl rfl Kp.true (Y.move rfl rfl) ?_
  refine Jp.y 21 rfl (want_all rfl) rfl rfl Kp.true (Y.move rfl rfl) ?_
  refine Jp.y 22 rfl (want_all rfl) rfl rfl Kp.true (Y.sub_ rfl rfl rfl (by first | exact wrap_i64 (by omega) (by omega) | rfl)) ?_
  refine Jp.y 23 rfl (want_all rfl) rfl rfl Kp.true (Y.conv_ rfl rfl Try.underlying3 Try.underlying26 (by first | exact wrap_u32 (by omega) (by omega) | rfl)) ?_
  refine Jp.y 24 rfl (want_all rfl) rfl rfl Kp.true (Y.add_ rfl rfl rfl (by first | exact wrap_u32 (by omega) (by omega) | rfl)) ?_
  refine Jp.slot 24 rfl (congrArg (Value.int .u32) (show (a : Int) + (n - 1) = ((a + n - 1 : Nat) : Int) by omega)) ?_
  refine Jp.call [] [] (base_spec (a + n - 1) (by omega)) 25 rfl (want_all rfl) rfl rfl (Runs.fn rfl Try.call52 rfl) (by decide) (by decide) rfl trivial ?_
  rintro v1 ρ1 L1 ⟨rfl, rfl, rfl⟩
  refine ⟨rfl, fun hle1 => ⟨Kp.true, ?_⟩⟩
  refine Jp.y 9 rfl (want_all rfl) rfl rfl Kp.true (Y.assign rfl rfl) ?_
  refine Jp.done hK8 ?_
  refine Cd.seq fun K9 hK9 => ?_
  refine Cd.plain [(0, false), (1, false), (2, false)] rfl rfl ?_
  refine Jp.y 26 rfl (want_all rfl) rfl rfl Kp.true (Y.move rfl rfl) ?_
  refine Jp.call [] [] (base_spec a ha) 27 rfl (want_all rfl) rfl rfl (Runs.fn rfl Try.call52 rfl) (by decide) (by decide) rfl trivial ?_
  rintro v2 ρ2 L2 ⟨rfl, rfl, rfl⟩
  refine ⟨rfl, fun hle2 => ⟨Kp.true, ?_⟩⟩
  refine Jp.y 10 rfl (want_all rfl) rfl rfl Kp.true (Y.assign rfl rfl) ?_
  refine Jp.done hK9 ?_
  refine Cd.block ?_
  have hc1 : 1 ≤ allCnt a n := by unfold allCnt; omega
  have hlast : baseN (a + n - 1) = baseN a + 256 * (allCnt a n - 1) := by unfold baseN allCnt; omega
  have hb0 : baseN a ≤ a := by unfold baseN; omega
  have hb1 : baseN a + 256 * (allCnt a n - 1) < 4294967296 := by rw [← hlast]; unfold baseN; omega
  rw [hlast]
  refine Cd.loopK (G := Nat) (fun j => j < allCnt a n ∧ ∀ i, i < j → pgOk M (baseN a + 256 * i) need = true) (fun j => allCnt a n - j) (fun _ => _) (fun j => [(10, .int .u32 ((baseN a + 256 * j : Nat) : Int))]) [(0, _), (3, _), (9, _)] (fun _ => []) [(0, _), (1, _), (2, _)] 0 ⟨hc1, fun i h => by omega⟩ rfl ⟨rfl, trivial⟩ ⟨rfl, rfl, rfl, trivial⟩ trivial ⟨rfl, rfl, rfl, trivial⟩ (fun g KLa hok hLa => ?_)
  obtain ⟨ok1, ok2⟩ := hok
  have hget := hf.get (baseN a + 256 * g)
  refine Cd.seq fun K10 hK10 => ?_
  refine Cd.block ?_
  refine Cd.seq fun K11 hK11 => ?_
  refine Cd.plain [(0, false), (1, false), (2, false), (3, false), (4, false), (5, false), (6, false)] rfl rfl ?_
  refine Jp.y 30 rfl (want_all rfl) rfl rfl Kp.true (Y.move rfl rfl) ?_
  refine Jp.y 31 rfl (want_all rfl) rfl rfl Kp.true (Y.nilCheck rfl rfl) ?_
  refine Jp.y 32 rfl (want_all rfl) rfl rfl Kp.true (by first | exact Y.fieldAddrP rfl rfl Try.underlying79 rfl Try.sizeOf76 (by decide) (show _ + 1 = _ from rfl) | exact Y.fieldAddr rfl rfl Try.underlying79 rfl Try.sizeOf76 (by decide)) ?_
  refine Jp.y 33 rfl (want_all rfl) rfl rfl Kp.true (Y.loadO 0 rfl Try.isAgg76 rfl rfl rfl) ?_
  refine Jp.y 34 rfl (want_all rfl) rfl rfl Kp.true (Y.move rfl rfl) ?_
  refine Jp.y 35 rfl (want_all rfl) rfl rfl Kp.true (by first | exact Y.lookup 1 rfl rfl rfl Try.underlying76 Try.underlying26 Try.zeroValue84 rfl) ?_
  refine Jp.y 11 rfl (want_all rfl) rfl rfl Kp.true (Y.assign rfl rfl) ?_
  refine Jp.done hK11 ?_
  refine Cd.seq fun K12 hK12 => ?_
  refine Cd.seq fun K13 hK13 => ?_
  refine Cd.plain [(0, false), (1, false), (2, false), (3, false), (4, false), (5, false), (6, false), (7, false), (8, false), (9, false), (10, false), (11, false)] rfl rfl ?_
  rcases hg : getPg M.pages (baseN a + 256 * g) with _ | p
  · rw [hg] at hget
    refine Jp.slot 11 rfl (show _ = Value.pointer none by rw [hget]; rfl) ?_
    refine Jp.y 36 rfl (want_all rfl) rfl rfl Kp.true (Y.move rfl rfl) ?_
    refine Jp.y 37 rfl (want_all rfl) rfl rfl Kp.true (Y.ptrNil rfl Try.underlying84 rfl rfl) ?_
    refine Jp.y 38 rfl (want_all rfl) rfl rfl Kp.true (Y.move rfl rfl) ?_
    refine Jp.split 38 rfl (fun g38 => ?_) (fun g38 => ?_)
    · skip
      try simp only [decide_eq_false_iff_not, decide_eq_true_eq, Int.not_lt, Int.not_le, Bool.not_eq_false, Bool.not_eq_true, Bool.not_true, Bool.not_false, Bool.not_eq_true', Bool.not_eq_false', beq_eq_false_iff_ne, ne_eq, beq_iff_eq, bne_iff_ne, bne_eq_false_iff_eq, Classical.not_not] at g38
      first
      | done
      | (first
         | (simp at g38; done)
         | omega)
      | skip
        refine Jp.skip 39 rfl (want_as rfl rfl rfl rfl) rfl rfl Kp.true ?_
        refine Jp.skip 40 rfl (want_as rfl rfl rfl rfl) rfl rfl Kp.true ?_
        refine Jp.skip 41 rfl (want_as rfl rfl rfl rfl) rfl rfl Kp.true ?_
        refine Jp.skip 42 rfl (want_as rfl rfl rfl rfl) rfl rfl Kp.true ?_
        refine Jp.skip 43 rfl (want_as rfl rfl rfl rfl) rfl rfl Kp.true ?_
        refine Jp.skip 44 rfl (want_as rfl rfl rfl rfl) rfl rfl Kp.true ?_
        refine Jp.skip 45 rfl (want_as rfl rfl rfl rfl) rfl rfl Kp.true ?_
        refine Jp.skip 46 rfl (want_as rfl rfl rfl rfl) rfl rfl Kp.true ?_
        refine Jp.y 47 rfl (want_all rfl) rfl rfl Kp.true (Y.pickT rfl rfl rfl) ?_
        refine Jp.done hK13 ?_
        refine Cd.condT rfl ?_
        refine Cd.seq fun K14 hK14 => ?_
        refine Cd.plain [(0, false)] rfl rfl ?_
        refine Jp.y 8 rfl (want_all rfl) rfl rfl Kp.true (Y.assign rfl rfl) ?_
        refine Jp.done hK14 ?_
        refine Cd.ret [(0, _), (1, _), (2, _)] rfl (res1 rfl rfl) ⟨rfl, rfl, rfl, trivial⟩ ⟨rfl, congrArg Value.bool ?_, rfl⟩
        first
        | exact (allM_no (M := M) (a := a) (n := n) (by omega) ok1 (pgOk_none hg)).symm
        | exact (allM_no (M := M) (a := a) (n := n) (by omega) ok1 (by rw [pgOk_some hg]; simpa [may] using g47)).symm
        | exact (allM_yes (M := M) (a := a) (n := n) (by omega) (fun i hi => by
            by_cases hij : i < g
            · exact ok2 i hij
            · have : i = g := by omega
              subst this; rw [pgOk_some hg]; simpa [may] using g47)).symm
    · skip
      try simp only [decide_eq_false_iff_not, decide_eq_true_eq, Int.not_lt, Int.not_le, Bool.not_eq_false, Bool.not_eq_true, Bool.not_true, Bool.not_false, Bool.not_eq_true', Bool.not_eq_false', beq_eq_false_iff_ne, ne_eq, beq_iff_eq, bne_iff_ne, bne_eq_false_iff_eq, Classical.not_not] at g38
      first
      | done
      | (first
         | (simp at g38; done)
         | omega)
      | skip
        refine Jp.y 39 rfl (want_as rfl rfl rfl rfl) rfl rfl Kp.true (Y.move rfl rfl) ?_
        refine Jp.y 40 rfl (want_as rfl rfl rfl rfl) rfl rfl Kp.true (Y.nilCheck rfl rfl) ?_
        refine Jp.y 41 rfl (want_as rfl rfl rfl rfl) rfl rfl Kp.true (by first | exact Y.fieldAddrP rfl rfl Try.underlying87 rfl Try.sizeOf3 (by decide) (show _ + 256 = _ from rfl) | exact Y.fieldAddr rfl rfl Try.underlying87 rfl Try.sizeOf3 (by decide)) ?_
        refine Jp.y 42 rfl (want_as rfl rfl rfl rfl) rfl rfl Kp.true (Y.loadO 0 rfl Try.isAgg3 rfl rfl rfl) ?_
        refine Jp.y 43 rfl (want_as rfl rfl rfl rfl) rfl rfl Kp.true (Y.move rfl rfl) ?_
        refine Jp.y 44 rfl (want_as rfl rfl rfl rfl) rfl rfl Kp.true (Y.bits rfl rfl rfl rfl) ?_
        refine Jp.y 45 rfl (want_as rfl rfl rfl rfl) rfl rfl Kp.true (Y.move rfl rfl) ?_
        refine Jp.y 46 rfl (want_as rfl rfl rfl rfl) rfl rfl Kp.true (Y.neq rfl rfl rfl) ?_
        refine Jp.y 47 rfl (want_all rfl) rfl rfl Kp.true (Y.pickF rfl rfl rfl) ?_
        refine Jp.done hK13 ?_
        refine Cd.cond rfl (fun g47 => ?_) (fun g47 => ?_)
        · skip
          try simp only [decide_eq_false_iff_not, decide_eq_true_eq, Int.not_lt, Int.not_le, Bool.not_eq_false, Bool.not_eq_true, Bool.not_true, Bool.not_false, Bool.not_eq_true', Bool.not_eq_false', beq_eq_false_iff_ne, ne_eq, beq_iff_eq, bne_iff_ne, bne_eq_false_iff_eq, Classical.not_not] at g47
          first
          | done
          | (first
             | (simp at g47; done)
             | omega)
          | skip
            refine Cd.seq fun K15 hK15 => ?_
            refine Cd.plain [(0, false)] rfl rfl ?_
            refine Jp.y 8 rfl (want_all rfl) rfl rfl Kp.true (Y.assign rfl rfl) ?_
            refine Jp.done hK15 ?_
            refine Cd.ret [(0, _), (1, _), (2, _)] rfl (res1 rfl rfl) ⟨rfl, rfl, rfl, trivial⟩ ⟨rfl, congrArg Value.bool ?_, rfl⟩
            first
            | exact (allM_no (M := M) (a := a) (n := n) (by omega) ok1 (pgOk_none hg)).symm
            | exact (allM_no (M := M) (a := a) (n := n) (by omega) ok1 (by rw [pgOk_some hg]; simpa [may] using g47)).symm
            | exact (allM_yes (M := M) (a := a) (n := n) (by omega) (fun i hi => by
                by_cases hij : i < g
                · exact ok2 i hij
                · have : i = g := by omega
                  subst this; rw [pgOk_some hg]; simpa [may] using g47)).symm
        · skip
          try simp only [decide_eq_false_iff_not, decide_eq_true_eq, Int.not_lt, Int.not_le, Bool.not_eq_false, Bool.not_eq_true, Bool.not_true, Bool.not_false, Bool.not_eq_true', Bool.not_eq_false', beq_eq_false_iff_ne, ne_eq, beq_iff_eq, bne_iff_ne, bne_eq_false_iff_eq, Classical.not_not] at g47
          first
          | done
          | (first
             | (simp at g47; done)
             | omega)
          | skip
            refine Cd.skip hK12 ?_
            refine Cd.seq fun K16 hK16 => ?_
            refine Cd.plain [(0, false), (1, false), (2, false)] rfl rfl ?_
            refine Jp.y 48 rfl (want_all rfl) rfl rfl Kp.true (Y.move rfl rfl) ?_
            refine Jp.y 49 rfl (want_all rfl) rfl rfl Kp.true (Y.move rfl rfl) ?_
            refine Jp.y 50 rfl (want_all rfl) rfl rfl Kp.true (Y.eql rfl rfl rfl) ?_
            refine Jp.done hK16 ?_
            refine Cd.cond rfl (fun g50 => ?_) (fun g50 => ?_)
            · skip
              try simp only [decide_eq_false_iff_not, decide_eq_true_eq, Int.not_lt, Int.not_le, Bool.not_eq_false, Bool.not_eq_true, Bool.not_true, Bool.not_false, Bool.not_eq_true', Bool.not_eq_false', beq_eq_false_iff_ne, ne_eq, beq_iff_eq, bne_iff_ne, bne_eq_false_iff_eq, Classical.not_not] at g50
              first
              | done
              | (first
                 | (simp at g50; done)
                 | omega)
              | skip
                refine Cd.seq fun K17 hK17 => ?_
                refine Cd.plain [(0, false)] rfl rfl ?_
                refine Jp.y 8 rfl (want_all rfl) rfl rfl Kp.true (Y.assign rfl rfl) ?_
                refine Jp.done hK17 ?_
                refine Cd.ret [(0, _), (1, _), (2, _)] rfl (res1 rfl rfl) ⟨rfl, rfl, rfl, trivial⟩ ⟨rfl, congrArg Value.bool ?_, rfl⟩
                first
                | exact (allM_no (M := M) (a := a) (n := n) (by omega) ok1 (pgOk_none hg)).symm
                | exact (allM_no (M := M) (a := a) (n := n) (by omega) ok1 (by rw [pgOk_some hg]; simpa [may] using g47)).symm
                | exact (allM_yes (M := M) (a := a) (n := n) (by omega) (fun i hi => by
                    by_cases hij : i < g
                    · exact ok2 i hij
                    · have : i = g := by omega
                      subst this; rw [pgOk_some hg]; simpa [may] using g47)).symm
            · skip
              try simp only [decide_eq_false_iff_not, decide_eq_true_eq, Int.not_lt, Int.not_le, Bool.not_eq_false, Bool.not_eq_true, Bool.not_true, Bool.not_false, Bool.not_eq_true', Bool.not_eq_false', beq_eq_false_iff_ne, ne_eq, beq_iff_eq, bne_iff_ne, bne_eq_false_iff_eq, Classical.not_not] at g50
              first
              | done
              | (first
                 | (simp at g50; done)
                 | omega)
              | skip
                refine Cd.over rfl hK10 ?_
                refine Cd.plain [(0, false), (1, false), (2, false)] rfl rfl ?_
                refine Jp.y 28 rfl (want_all rfl) rfl rfl Kp.true (Y.move rfl rfl) ?_
                refine Jp.y 29 rfl (want_all rfl) rfl rfl Kp.true (Y.add_ rfl rfl rfl (by first | exact wrap_u32 (by omega) (by omega) | rfl)) ?_
                refine Jp.y 10 rfl (want_all rfl) rfl rfl Kp.true (Y.assign rfl rfl) ?_
                done
  · rw [hg] at hget
    refine Jp.slot 11 rfl (show _ = Value.pointer (some ⟨x.blk (baseN a + 256 * g), 0, none⟩) by rw [hget]; rfl) ?_
    have hpo := hf.ok.page _ (getPg_mem hg)
    have hcell := Blks.cell (MemF.blk (x := x) hg) (pageCells_perm p hpo.len)
    refine Jp.y 36 rfl (want_all rfl) rfl rfl Kp.true (Y.move rfl rfl) ?_
    refine Jp.y 37 rfl (want_all rfl) rfl rfl Kp.true (Y.ptrNil rfl Try.underlying84 rfl rfl) ?_
    refine Jp.y 38 rfl (want_all rfl) rfl rfl Kp.true (Y.move rfl rfl) ?_
    refine Jp.split 38 rfl (fun g38 => ?_) (fun g38 => ?_)
    · skip
      try simp only [decide_eq_false_iff_not, decide_eq_true_eq, Int.not_lt, Int.not_le, Bool.not_eq_false, Bool.not_eq_true, Bool.not_true, Bool.not_false, Bool.not_eq_true', Bool.not_eq_false', beq_eq_false_iff_ne, ne_eq, beq_iff_eq, bne_iff_ne, bne_eq_false_iff_eq, Classical.not_not] at g38
      first
      | done
      | (first
         | (simp at g38; done)
         | omega)
      | skip
        refine Jp.skip 39 rfl (want_as rfl rfl rfl rfl) rfl rfl Kp.true ?_
        refine Jp.skip 40 rfl (want_as rfl rfl rfl rfl) rfl rfl Kp.true ?_
        refine Jp.skip 41 rfl (want_as rfl rfl rfl rfl) rfl rfl Kp.true ?_
        refine Jp.skip 42 rfl (want_as rfl rfl rfl rfl) rfl rfl Kp.true ?_
        refine Jp.skip 43 rfl (want_as rfl rfl rfl rfl) rfl rfl Kp.true ?_
        refine Jp.skip 44 rfl (want_as rfl rfl rfl rfl) rfl rfl Kp.true ?_
        refine Jp.skip 45 rfl (want_as rfl rfl rfl rfl) rfl rfl Kp.true ?_
        refine Jp.skip 46 rfl (want_as rfl rfl rfl rfl) rfl rfl Kp.true ?_
        refine Jp.y 47 rfl (want_all rfl) rfl rfl Kp.true (Y.pickT rfl rfl rfl) ?_
        refine Jp.done hK13 ?_
        refine Cd.condT rfl ?_
        refine Cd.seq fun K18 hK18 => ?_
        refine Cd.plain [(0, false)] rfl rfl ?_
        refine Jp.y 8 rfl (want_all rfl) rfl rfl Kp.true (Y.assign rfl rfl) ?_
        refine Jp.done hK18 ?_
        refine Cd.ret [(0, _), (1, _), (2, _)] rfl (res1 rfl rfl) ⟨rfl, rfl, rfl, trivial⟩ ⟨rfl, congrArg Value.bool ?_, rfl⟩
        first
        | exact (allM_no (M := M) (a := a) (n := n) (by omega) ok1 (pgOk_none hg)).symm
        | exact (allM_no (M := M) (a := a) (n := n) (by omega) ok1 (by rw [pgOk_some hg]; simpa [may] using g47)).symm
        | exact (allM_yes (M := M) (a := a) (n := n) (by omega) (fun i hi => by
            by_cases hij : i < g
            · exact ok2 i hij
            · have : i = g := by omega
              subst this; rw [pgOk_some hg]; simpa [may] using g47)).symm
    · skip
      try simp only [decide_eq_false_iff_not, decide_eq_true_eq, Int.not_lt, Int.not_le, Bool.not_eq_false, Bool.not_eq_true, Bool.not_true, Bool.not_false, Bool.not_eq_true', Bool.not_eq_false', beq_eq_false_iff_ne, ne_eq, beq_iff_eq, bne_iff_ne, bne_eq_false_iff_eq, Classical.not_not] at g38
      first
      | done
      | (first
         | (simp at g38; done)
         | omega)
      | skip
        refine Jp.y 39 rfl (want_as rfl rfl rfl rfl) rfl rfl Kp.true (Y.move rfl rfl) ?_
        refine Jp.y 40 rfl (want_as rfl rfl rfl rfl) rfl rfl Kp.true (Y.nilCheck rfl rfl) ?_
        refine Jp.y 41 rfl (want_as rfl rfl rfl rfl) rfl rfl Kp.true (by first | exact Y.fieldAddrP rfl rfl Try.underlying87 rfl Try.sizeOf3 (by decide) (show _ + 256 = _ from rfl) | exact Y.fieldAddr rfl rfl Try.underlying87 rfl Try.sizeOf3 (by decide)) ?_
        refine Jp.y 42 rfl (want_as rfl rfl rfl rfl) rfl rfl Kp.true (by first | exact Y.loadO 0 rfl Try.isAgg3 rfl rfl rfl | exact Y.loadC 2 rfl Try.isAgg3 rfl rfl hcell) ?_
        refine Jp.y 43 rfl (want_as rfl rfl rfl rfl) rfl rfl Kp.true (Y.move rfl rfl) ?_
        refine Jp.y 44 rfl (want_as rfl rfl rfl rfl) rfl rfl Kp.true (Y.bits rfl rfl rfl rfl) ?_
        refine Jp.y 45 rfl (want_as rfl rfl rfl rfl) rfl rfl Kp.true (Y.move rfl rfl) ?_
        refine Jp.y 46 rfl (want_as rfl rfl rfl rfl) rfl rfl Kp.true (Y.neq rfl rfl rfl) ?_
        refine Jp.y 47 rfl (want_all rfl) rfl rfl Kp.true (Y.pickF rfl rfl rfl) ?_
        refine Jp.done hK13 ?_
        refine Cd.cond rfl (fun g47 => ?_) (fun g47 => ?_)
        · skip
          try simp only [decide_eq_false_iff_not, decide_eq_true_eq, Int.not_lt, Int.not_le, Bool.not_eq_false, Bool.not_eq_true, Bool.not_true, Bool.not_false, Bool.not_eq_true', Bool.not_eq_false', beq_eq_false_iff_ne, ne_eq, beq_iff_eq, bne_iff_ne, bne_eq_false_iff_eq, Classical.not_not] at g47
          first
          | done
          | (first
             | (simp at g47; done)
             | omega)
          | skip
            refine Cd.seq fun K19 hK19 => ?_
            refine Cd.plain [(0, false)] rfl rfl ?_
            refine Jp.y 8 rfl (want_all rfl) rfl rfl Kp.true (Y.assign rfl rfl) ?_
            refine Jp.done hK19 ?_
            refine Cd.ret [(0, _), (1, _), (2, _)] rfl (res1 rfl rfl) ⟨rfl, rfl, rfl, trivial⟩ ⟨rfl, congrArg Value.bool ?_, rfl⟩
            first
            | exact (allM_no (M := M) (a := a) (n := n) (by omega) ok1 (pgOk_none hg)).symm
            | exact (allM_no (M := M) (a := a) (n := n) (by omega) ok1 (by rw [pgOk_some hg]; simpa [may] using g47)).symm
            | exact (allM_yes (M := M) (a := a) (n := n) (by omega) (fun i hi => by
                by_cases hij : i < g
                · exact ok2 i hij
                · have : i = g := by omega
                  subst this; rw [pgOk_some hg]; simpa [may] using g47)).symm
        · skip
          try simp only [decide_eq_false_iff_not, decide_eq_true_eq, Int.not_lt, Int.not_le, Bool.not_eq_false, Bool.not_eq_true, Bool.not_true, Bool.not_false, Bool.not_eq_true', Bool.not_eq_false', beq_eq_false_iff_ne, ne_eq, beq_iff_eq, bne_iff_ne, bne_eq_false_iff_eq, Classical.not_not] at g47
          first
          | done
          | (first
             | (simp at g47; done)
             | omega)
          | skip
            refine Cd.skip hK12 ?_
            refine Cd.seq fun K20 hK20 => ?_
            refine Cd.plain [(0, false), (1, false), (2, false)] rfl rfl ?_
            refine Jp.y 48 rfl (want_all rfl) rfl rfl Kp.true (Y.move rfl rfl) ?_
            refine Jp.y 49 rfl (want_all rfl) rfl rfl Kp.true (Y.move rfl rfl) ?_
            refine Jp.y 50 rfl (want_all rfl) rfl rfl Kp.true (Y.eql rfl rfl rfl) ?_
            refine Jp.done hK20 ?_
            refine Cd.cond rfl (fun g50 => ?_) (fun g50 => ?_)
            · skip
              try simp only [decide_eq_false_iff_not, decide_eq_true_eq, Int.not_lt, Int.not_le, Bool.not_eq_false, Bool.not_eq_true, Bool.not_true, Bool.not_false, Bool.not_eq_true', Bool.not_eq_false', beq_eq_false_iff_ne, ne_eq, beq_iff_eq, bne_iff_ne, bne_eq_false_iff_eq, Classical.not_not] at g50
              first
              | done
              | (first
                 | (simp at g50; done)
                 | omega)
              | skip
                refine Cd.seq fun K21 hK21 => ?_
                refine Cd.plain [(0, false)] rfl rfl ?_
                refine Jp.y 8 rfl (want_all rfl) rfl rfl Kp.true (Y.assign rfl rfl) ?_
                refine Jp.done hK21 ?_
                refine Cd.ret [(0, _), (1, _), (2, _)] rfl (res1 rfl rfl) ⟨rfl, rfl, rfl, trivial⟩ ⟨rfl, congrArg Value.bool ?_, rfl⟩
                first
                | exact (allM_no (M := M) (a := a) (n := n) (by omega) ok1 (pgOk_none hg)).symm
                | exact (allM_no (M := M) (a := a) (n := n) (by omega) ok1 (by rw [pgOk_some hg]; simpa [may] using g47)).symm
                | exact (allM_yes (M := M) (a := a) (n := n) (by omega) (fun i hi => by
                    by_cases hij : i < g
                    · exact ok2 i hij
                    · have : i = g := by omega
                      subst this; rw [pgOk_some hg]; simpa [may] using g47)).symm
            · skip
              try simp only [decide_eq_false_iff_not, decide_eq_true_eq, Int.not_lt, Int.not_le, Bool.not_eq_false, Bool.not_eq_true, Bool.not_true, Bool.not_false, Bool.not_eq_true', Bool.not_eq_false', beq_eq_false_iff_ne, ne_eq, beq_iff_eq, bne_iff_ne, bne_eq_false_iff_eq, Classical.not_not] at g50
              first
              | done
              | (first
                 | (simp at g50; done)
                 | omega)
              | skip
                refine Cd.over rfl hK10 ?_
                refine Cd.plain [(0, false), (1, false), (2, false)] rfl rfl ?_
                refine Jp.y 28 rfl (want_all rfl) rfl rfl Kp.true (Y.move rfl rfl) ?_
                refine Jp.y 29 rfl (want_all rfl) rfl rfl Kp.true (Y.add_ rfl rfl rfl (by first | exact wrap_u32 (by omega) (by omega) | rfl)) ?_
                refine Jp.y 10 rfl (want_all rfl) rfl rfl Kp.true (Y.assign rfl rfl) ?_
                have hyes : pgOk M (baseN a + 256 * g) need = true := by rw [pgOk_some hg]; simpa [may] using g47
                refine Jp.slot 10 rfl (congrArg (Value.int .u32) (show ((baseN a + 256 * g : Nat) : Int) + 256 = ((baseN a + 256 * (g + 1) : Nat) : Int) by omega)) ?_
                refine Jp.again hLa (g + 1) ⟨by omega, fun i hi => ?_⟩ (by omega) rfl ⟨rfl, rfl, rfl, rfl, trivial⟩ ⟨rfl, rfl, rfl, trivial⟩
                by_cases hij : i < g
                · exact ok2 i hij
                · have : i = g := by omega
                  subst this; exact hyes
def byteM (M : MemG) (a : Nat) : UInt8 := match getPg M.pages (baseN a) with
  | some p => p.b.getD (a % 256) 0
  | none => 0
def readL (M : MemG) (a n : Nat) : Bytes := (List.range n).map fun i => byteM M (a + i)
def readM (M : MemG) (a : Nat) (n : Int) : Bytes × Int := if n < 0 ∨ 4096 < n then ([], 1) else if allM M a n.toNat 1 = false then ([], 8) else (readL M a n.toNat, 0)
theorem readL_length (M : MemG) (a n : Nat) : (readL M a n).length = n := by simp [readL]
theorem readL_succ (M : MemG) (a n : Nat) : readL M a (n + 1) = readL M a n ++ [byteM M (a + n)] := by simp [readL, List.range_succ]
theorem read_spec (b : Nat) (M : MemG) (a : Nat) (n : Int) (ha : a < 4294967296) : Spec Try.prog 23 #[.pointer (some ⟨b, 0, none⟩), .int .u32 a, .int .i64 n] (fun _ => True) [(0, MemO b M)]
    (fun ρ ρ' v L => ρ' = ρ ∧ ∃ A c, v = .tuple #[.slice A (readM M a n).1.length c, .int .i64 (readM M a n).2] ∧ L = [(0, MemO b M), (1, OwnS 5 1 A (readM M a n).1.length c (bytesV (readM M a n).1))]) := by
  refine Spec.of 50 Try.func23 rfl Try.ntmps23 [(0, _), (1, _), (2, _)] rfl rfl ?_
  intro cx ρ hr h0
  refine Cd.memOpen 0 5 6 7 (by decide) rfl fun x hf => ?_
  refine Cd.make 1 (A := OwnS 5 1 none 0 0 []) (OwnS.nil _ _ _) ?_
  refine Cd.seq fun K22 hK22 => ?_
  refine Cd.plain [(0, false), (1, false)] rfl rfl ?_
  refine Jp.y 6 rfl (want_all rfl) rfl rfl Kp.true (Y.assign rfl rfl) ?_
  refine Jp.y 7 rfl (want_all rfl) rfl rfl Kp.true (Y.assign rfl rfl) ?_
  refine Jp.done hK22 ?_
  refine Cd.seq fun K23 hK23 => ?_
  refine Cd.block ?_
  refine Cd.seq fun K24 hK24 => ?_
  refine Cd.plain [(0, false), (1, false), (2, false), (3, false), (4, false), (5, false), (6, false)] rfl rfl ?_
  refine Jp.y 11 rfl (want_all rfl) rfl rfl Kp.true (Y.move rfl rfl) ?_
  refine Jp.y 12 rfl (want_all rfl) rfl rfl Kp.true (Y.lss rfl rfl rfl) ?_
  refine Jp.y 13 rfl (want_all rfl) rfl rfl Kp.true (Y.move rfl rfl) ?_
  refine Jp.split 13 rfl (fun g13 => ?_) (fun g13 => ?_)
  · skip
    try simp only [decide_eq_false_iff_not, decide_eq_true_eq, Int.not_lt, Int.not_le, Bool.not_eq_false, Bool.not_eq_true, Bool.not_true, Bool.not_false, Bool.not_eq_true', Bool.not_eq_false', beq_eq_false_iff_ne, ne_eq, beq_iff_eq, bne_iff_ne, bne_eq_false_iff_eq, Classical.not_not] at g13
    refine Jp.skip 14 rfl (want_as rfl rfl rfl rfl) rfl rfl Kp.true ?_
    refine Jp.skip 15 rfl (want_as rfl rfl rfl rfl) rfl rfl Kp.true ?_
    refine Jp.y 16 rfl (want_all rfl) rfl rfl Kp.true (Y.pickT rfl rfl rfl) ?_
    refine Jp.y 10 rfl (want_all rfl) rfl rfl Kp.true (Y.assign rfl rfl) ?_
    refine Jp.done hK24 ?_
    refine Cd.condT rfl ?_
    refine Cd.seq fun K25 hK25 => ?_
    refine Cd.plain [(0, false), (1, false)] rfl rfl ?_
    refine Jp.y 6 rfl (want_all rfl) rfl rfl Kp.true (Y.assign rfl rfl) ?_
    refine Jp.y 7 rfl (want_all rfl) rfl rfl Kp.true (Y.assign rfl rfl) ?_
    refine Jp.done hK25 ?_
    have hV : readM M a n = ([], 1) := by rw [readM, if_pos (by omega)]
    refine Cd.memClose 0 5 6 7 (by decide) hf rfl rfl rfl rfl ?_
    rw [hV]
    refine Cd.ret [(0, _), (1, _)] rfl (res2 rfl rfl rfl) ⟨rfl, rfl, trivial⟩ ⟨rfl, none, 0, rfl, rfl⟩
  try simp only [decide_eq_false_iff_not, decide_eq_true_eq, Int.not_lt, Int.not_le, Bool.not_eq_false, Bool.not_eq_true, Bool.not_true, Bool.not_false, Bool.not_eq_true', Bool.not_eq_false', beq_eq_false_iff_ne, ne_eq, beq_iff_eq, bne_iff_ne, bne_eq_false_iff_eq, Classical.not_not] at g13
  refine Jp.y 14 rfl (want_as rfl rfl rfl rfl) rfl rfl Kp.true (Y.move rfl rfl) ?_
  refine Jp.y 15 rfl (want_as rfl rfl rfl rfl) rfl rfl Kp.true (Y.gtr rfl rfl rfl) ?_
  refine Jp.y 16 rfl (want_all rfl) rfl rfl Kp.true (Y.pickF rfl rfl rfl) ?_
  refine Jp.y 10 rfl (want_all rfl) rfl rfl Kp.true (Y.assign rfl rfl) ?_
  refine Jp.done hK24 ?_
  refine Cd.cond rfl (fun g10 => ?_) (fun g10 => ?_)
  · skip
    try simp only [decide_eq_false_iff_not, decide_eq_true_eq, Int.not_lt, Int.not_le, Bool.not_eq_false, Bool.not_eq_true, Bool.not_true, Bool.not_false, Bool.not_eq_true', Bool.not_eq_false', beq_eq_false_iff_ne, ne_eq, beq_iff_eq, bne_iff_ne, bne_eq_false_iff_eq, Classical.not_not] at g10
    refine Cd.seq fun K26 hK26 => ?_
    refine Cd.plain [(0, false), (1, false)] rfl rfl ?_
    refine Jp.y 6 rfl (want_all rfl) rfl rfl Kp.true (Y.assign rfl rfl) ?_
    refine Jp.y 7 rfl (want_all rfl) rfl rfl Kp.true (Y.assign rfl rfl) ?_
    refine Jp.done hK26 ?_
    have hV : readM M a n = ([], 1) := by rw [readM, if_pos (by omega)]
    refine Cd.memClose 0 5 6 7 (by decide) hf rfl rfl rfl rfl ?_
    rw [hV]
    refine Cd.ret [(0, _), (1, _)] rfl (res2 rfl rfl rfl) ⟨rfl, rfl, trivial⟩ ⟨rfl, none, 0, rfl, rfl⟩
  try simp only [decide_eq_false_iff_not, decide_eq_true_eq, Int.not_lt, Int.not_le, Bool.not_eq_false, Bool.not_eq_true, Bool.not_true, Bool.not_false, Bool.not_eq_true', Bool.not_eq_false', beq_eq_false_iff_ne, ne_eq, beq_iff_eq, bne_iff_ne, bne_eq_false_iff_eq, Classical.not_not] at g10
  refine Cd.seq fun K27 hK27 => ?_
  refine Cd.plain [(0, false), (1, false), (2, false), (3, false), (4, false), (5, false)] rfl rfl ?_
  obtain ⟨m, rfl⟩ := Int.eq_ofNat_of_zero_le (show 0 ≤ n by omega)
  refine Jp.y 18 rfl (want_all rfl) rfl rfl Kp.true (Y.move rfl rfl) ?_
  refine Jp.y 19 rfl (want_all rfl) rfl rfl Kp.true (Y.move rfl rfl) ?_
  refine Jp.y 20 rfl (want_all rfl) rfl rfl Kp.true (Y.move rfl rfl) ?_
  refine Jp.call [0, 5, 7] [0, 5, 7] (all_spec b M x hf a m 1 ha (by omega)) 21 rfl (want_all rfl) rfl rfl (Runs.fn rfl Try.call53 rfl) (by decide) (by decide) rfl trivial ?_
  rintro v1 ρ1 L1 ⟨rfl, rfl, rfl⟩
  refine ⟨rfl, fun hle1 => ⟨Kp.true, ?_⟩⟩
  refine Jp.y 22 rfl (want_all rfl) rfl rfl Kp.true (Y.not rfl rfl) ?_
  refine Jp.y 17 rfl (want_all rfl) rfl rfl Kp.true (Y.assign rfl rfl) ?_
  refine Jp.done hK27 ?_
  refine Cd.cond rfl (fun g17 => ?_) (fun g17 => ?_)
  · skip
    try simp only [decide_eq_false_iff_not, decide_eq_true_eq, Int.not_lt, Int.not_le, Bool.not_eq_false, Bool.not_eq_true, Bool.not_true, Bool.not_false, Bool.not_eq_true', Bool.not_eq_false', beq_eq_false_iff_ne, ne_eq, beq_iff_eq, bne_iff_ne, bne_eq_false_iff_eq, Classical.not_not] at g17
    refine Cd.seq fun K28 hK28 => ?_
    refine Cd.plain [(0, false), (1, false)] rfl rfl ?_
    refine Jp.y 6 rfl (want_all rfl) rfl rfl Kp.true (Y.assign rfl rfl) ?_
    refine Jp.y 7 rfl (want_all rfl) rfl rfl Kp.true (Y.assign rfl rfl) ?_
    refine Jp.done hK28 ?_
    have hV : readM M a m = ([], 8) := by rw [readM, if_neg (by omega), if_pos (show allM M a (m : Int).toNat 1 = false from g17)]
    refine Cd.memClose 0 5 6 7 (by decide) hf rfl rfl rfl rfl ?_
    rw [hV]
    refine Cd.ret [(0, _), (1, _)] rfl (res2 rfl rfl rfl) ⟨rfl, rfl, trivial⟩ ⟨rfl, none, 0, rfl, rfl⟩
  try simp only [decide_eq_false_iff_not, decide_eq_true_eq, Int.not_lt, Int.not_le, Bool.not_eq_false, Bool.not_eq_true, Bool.not_true, Bool.not_false, Bool.not_eq_true', Bool.not_eq_false', beq_eq_false_iff_ne, ne_eq, beq_iff_eq, bne_iff_ne, bne_eq_false_iff_eq, Classical.not_not] at g17
  refine Cd.over rfl hK23 ?_
  refine Cd.seq fun K29 hK29 => ?_
  refine Cd.plain [(0, false)] rfl rfl ?_
  refine Jp.y 8 rfl (want_all rfl) rfl rfl Kp.true (Y.assign rfl rfl) ?_
  refine Jp.done hK29 ?_
  refine Cd.seq fun K30 hK30 => ?_
  refine Cd.seq fun K31 hK31 => ?_
  refine Cd.plain [(0, false), (1, false), (2, false)] rfl rfl ?_
  refine Jp.y 23 rfl (want_all rfl) rfl rfl Kp.true (Y.move rfl rfl) ?_
  refine Jp.y 24 rfl (want_all rfl) rfl rfl Kp.true (Y.conv_ rfl rfl Try.underlying3 Try.underlying26 (by first | exact wrap_u32 (by omega) (by omega) | rfl)) ?_
  refine Jp.y 25 rfl (want_all rfl) rfl rfl Kp.true (Y.move rfl rfl) ?_
  refine Jp.done hK31 ?_
  refine Cd.block ?_
  have hV : readM M a m = (readL M a m, 0) := by rw [readM, if_neg (by omega), if_neg (by show ¬ allM M a m 1 = false; rw [g17]; simp)]; rfl
  refine Cd.loopK (G := Nat × Option Addr × Nat) (fun g => g.1 ≤ m) (fun g => m - g.1) (fun _ => _) (fun g => [(8, .slice g.2.1 g.1 g.2.2), (25, .int .u32 g.1)]) [(0, _), (1, _), (24, _)] (fun g => [(1, OwnS 5 1 g.2.1 g.1 g.2.2 (bytesV (readL M a g.1)))]) [(0, _), (5, _), (6, _), (7, _)] ⟨0, none, 0⟩ (Nat.zero_le _) rfl ⟨rfl, rfl, trivial⟩ ⟨rfl, rfl, rfl, trivial⟩ ⟨rfl, trivial⟩ ⟨rfl, rfl, rfl, rfl, trivial⟩ (fun g KLa hok hLa => ?_)
  obtain ⟨k, A, c⟩ := g
  dsimp only at hok ⊢
  refine Cd.seq fun K32 hK32 => ?_
  refine Cd.plain [(0, false)] rfl rfl ?_
  refine Jp.y 26 rfl (want_all rfl) rfl rfl Kp.true (Y.lss rfl rfl rfl) ?_
  refine Jp.done hK32 ?_
  refine Cd.seq fun K33 hK33 => ?_
  refine Cd.cond rfl (fun ga => ?_) (fun ga => ?_)
  · simp only [decide_eq_true_eq] at ga
    have hk : k < m := by omega
    obtain ⟨hle, p, hg, hm⟩ := allM_page g17 hk
    have hpo := hf.ok.page _ (getPg_mem hg)
    have hlen : p.b.length = 256 := hpo.len
    have hget := hf.get (baseN (a + k))
    rw [hg] at hget
    have hj : (a + k) % 256 < 256 := Nat.mod_lt _ (by omega)
    have hcell := Blks.cell (MemF.blk (x := x) hg) (pageCells_byte p hlen hj)
    have hbyte : p.b[(a + k) % 256]'(by omega) = byteM M (a + k) := by rw [byteM, hg]; simp [List.getD_eq_getElem?_getD, List.getElem?_eq_getElem (show (a + k) % 256 < p.b.length by omega)]
    rw [hbyte] at hcell
    refine Cd.skip hK33 ?_
    refine Cd.seq fun K34 hK34 => ?_
    refine Cd.block ?_
    refine Cd.seq fun K35 hK35 => ?_
    refine Cd.plain [(0, false), (1, false)] rfl rfl ?_
    refine Jp.y 27 rfl (want_all rfl) rfl rfl Kp.true (Y.move rfl rfl) ?_
    refine Jp.y 9 rfl (want_all rfl) rfl rfl Kp.true (Y.assign rfl rfl) ?_
    refine Jp.done hK35 ?_
    refine Cd.drawn [(0, _), (5, _), (7, _)] ⟨rfl, rfl, rfl, trivial⟩ [(0, true), (1, true), (2, true), (3, true), (4, true), (5, true), (6, true), (7, true), (10, true), (11, true), (12, true), (13, true), (8, false), (9, true), (14, true), (15, true), (16, true), (17, true), (18, false), (19, false), (20, true)] follows (by kernel_rfl) (fun hrl => ?_)
    refine Jp.q 28 rfl (want_all rfl) rfl rfl (Y.move rfl rfl) ?_
    refine Jp.q 29 rfl (want_all rfl) rfl rfl (Y.move rfl rfl) ?_
    refine Jp.q 30 rfl (want_all rfl) rfl rfl (Y.nilCheck rfl rfl) ?_
    refine Jp.q 31 rfl (want_all rfl) rfl rfl (by first | exact Y.fieldAddrP rfl rfl Try.underlying79 rfl Try.sizeOf76 (by decide) (show _ + 1 = _ from rfl) | exact Y.fieldAddr rfl rfl Try.underlying79 rfl Try.sizeOf76 (by decide)) ?_
    refine Jp.q 32 rfl (want_all rfl) rfl rfl (Y.loadO 0 rfl Try.isAgg76 rfl rfl rfl) ?_
    refine Jp.q 33 rfl (want_all rfl) rfl rfl (Y.move rfl rfl) ?_
    refine Jp.q 34 rfl (want_all rfl) rfl rfl (Y.move rfl rfl) ?_
    refine Jp.q 35 rfl (want_all rfl) rfl rfl (Y.add_ rfl rfl rfl (by first | exact wrap_u32 (by omega) (by omega) | rfl)) ?_
    refine Jp.q 38 rfl (want_all rfl) rfl rfl (Y.move rfl rfl) ?_
    refine Jp.q 39 rfl (want_all rfl) rfl rfl (Y.move rfl rfl) ?_
    refine Jp.q 40 rfl (want_all rfl) rfl rfl (Y.add_ rfl rfl rfl (by first | exact wrap_u32 (by omega) (by omega) | rfl)) ?_
    refine Jp.q 41 rfl (want_all rfl) rfl rfl (by first | exact Y.remN rfl rfl rfl (by omega) (by omega) | exact Y.rem rfl rfl rfl (by first | decide | omega)) ?_
    refine Jp.slot 35 rfl (congrArg (Value.int .u32) (show (a : Int) + k = ((a + k : Nat) : Int) by omega)) ?_
    refine Jp.call [] [] (base_spec (a + k) (by omega)) 36 rfl (want_all rfl) rfl rfl (Runs.fn rfl Try.call52 rfl) (by decide) (by decide) rfl trivial ?_
    rintro v3 ρ3 L3 ⟨rfl, rfl, rfl⟩
    refine ⟨rfl, fun hle3 => ⟨(Kp.st ⟨rfl, rfl, rfl, trivial⟩), ?_⟩⟩
    refine Jp.q 37 rfl (want_all rfl) rfl rfl (by first | exact Y.lookup 5 rfl rfl rfl Try.underlying76 Try.underlying26 Try.zeroValue84 rfl) ?_
    refine Jp.slot 37 rfl (show _ = Value.pointer (some ⟨x.blk (baseN (a + k)), 0, none⟩) by rw [hget]; rfl) ?_
    refine Jp.q 42 rfl (want_all rfl) rfl rfl (Y.nilCheck rfl rfl) ?_
    refine Jp.q 43 rfl (want_all rfl) rfl rfl (by first | exact Y.fieldAddrP rfl rfl Try.underlying87 rfl Try.sizeOf85 (by decide) (show _ + 0 = _ from rfl) | exact Y.fieldAddr rfl rfl Try.underlying87 rfl Try.sizeOf85 (by decide)) ?_
    refine Jp.q 44 rfl (want_all rfl) rfl rfl (Y.indexArrP (q := (a + k) % 256) rfl rfl rfl Try.underlying85 Try.sizeOf5 (by omega) (by omega) (by omega)) ?_
    refine Jp.q 45 rfl (want_all rfl) rfl rfl (by first | exact Y.loadO 0 rfl Try.isAgg5 rfl rfl rfl | exact Y.loadC 7 rfl Try.isAgg5 rfl rfl hcell) ?_
    refine Jp.lit 46 50 [(0, _)] [_] rfl (want_all rfl) rfl rfl rfl rfl Try.underlying25 Try.sizeOf5 Try.zeroValue5 rfl rfl rfl rfl rfl fun b50 => ⟨(Kp.st ⟨rfl, rfl, rfl, trivial⟩), ?_⟩
    refine Jp.append 47 1 rfl (want_all rfl) rfl rfl rfl Try.underlying25 Try.underlying25 (.inl ⟨_, rfl⟩) Try.sizeOf5 Try.typeInfo5 Try.zeroValue5 rfl (by decide) rfl rfl rfl (Src.own 50 rfl) rfl ((k + 1)) ((bytesV (readL M a (k + 1)))) (by first | omega | simp) (by rw [readL_succ]; simp [bytesV]) (by simp only [Try.t5]; omega) fun AN cN => ⟨(Kp.st ⟨rfl, rfl, rfl, trivial⟩), ?_⟩
    refine Jp.q 8 rfl (want_all rfl) rfl rfl (Y.assign rfl rfl) ?_
    refine Jp.over rfl hK34 ?_
    refine Cd.plain [(0, false), (1, false)] rfl rfl ?_
    refine Jp.y 48 rfl (want_all rfl) rfl rfl Kp.true (Y.add_ rfl rfl rfl (by first | exact wrap_u32 (by omega) (by omega) | rfl)) ?_
    refine Jp.y 25 rfl (want_all rfl) rfl rfl Kp.true (Y.move rfl rfl) ?_
    refine Jp.again hLa ⟨k + 1, AN, cN⟩ (by show k + 1 ≤ m; omega) (by show m - (k + 1) < m - k; omega) rfl ⟨rfl, rfl, rfl, rfl, rfl, trivial⟩ ⟨rfl, rfl, rfl, rfl, rfl, trivial⟩
  · simp only [decide_eq_false_iff_not] at ga
    obtain rfl : k = m := by omega
    refine Cd.exit rfl hK30 ?_
    refine Cd.seq fun K37 hK37 => ?_
    refine Cd.plain [(0, false), (1, false), (2, false)] rfl rfl ?_
    refine Jp.y 49 rfl (want_all rfl) rfl rfl Kp.true (Y.move rfl rfl) ?_
    refine Jp.y 6 rfl (want_all rfl) rfl rfl Kp.true (Y.assign rfl rfl) ?_
    refine Jp.y 7 rfl (want_all rfl) rfl rfl Kp.true (Y.assign rfl rfl) ?_
    refine Jp.done hK37 ?_
    refine Cd.memClose 0 5 6 7 (by decide) hf rfl rfl rfl rfl ?_
    have hl : (readL M a k).length = k := readL_length ..
    rw [hV]
    refine Cd.ret [(0, _), (1, _)] rfl (res2 rfl rfl rfl) ⟨rfl, rfl, trivial⟩ ⟨rfl, A, c, by rw [hl], by rw [hl]⟩
end Go.Proofs.Ytgfbdiibndbbjaa
