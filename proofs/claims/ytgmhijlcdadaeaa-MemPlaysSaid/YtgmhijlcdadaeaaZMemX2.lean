import Derived.Test.YtgmhijlcdadaeaaZMemX1
set_option linter.unusedVariables false
set_option linter.unusedSimpArgs false
set_option maxRecDepth 100000
namespace Go.Proofs.Ytgmhijlcdadaeaa
open Go
def pgOk (M : MemG) (k : Nat) (need : Int) : Bool := match getPg M.pages k with
  | some p => may p.perm need
  | none => false
def allCnt (a n : Nat) : Nat := (a % 256 + n + 255) / 256
def allM (M : MemG) (a n : Nat) (need : Int) : Bool := decide (n = 0) || (decide (a + n ≤ 4294967296) && (List.range (allCnt a n)).all fun j => pgOk M (baseN a + 256 * j) need)
theorem pgOk_some {M : MemG} {k : Nat} {need : Int} {p : Pg} (h : getPg M.pages k = some p) : pgOk M k need = may p.perm need := by rw [pgOk, h]
theorem pgOk_none {M : MemG} {k : Nat} {need : Int} (h : getPg M.pages k = none) : pgOk M k need = false := by rw [pgOk, h]
theorem allM_yes {M : MemG} {a n : Nat} {need : Int} (h : a + n ≤ 4294967296) (h2 : ∀ j, j < allCnt a n → pgOk M (baseN a + 256 * j) need = true) : allM M a n need = true := by
  simp only [allM, h, decide_true, Bool.true_and, Bool.or_eq_true]
  exact .inr (List.all_eq_true.2 fun j hj => h2 j (List.mem_range.1 hj))
theorem allM_no {M : MemG} {a n j : Nat} {need : Int} (hn : n ≠ 0) (hj : j < allCnt a n) (h2 : pgOk M (baseN a + 256 * j) need = false) : allM M a n need = false := by
  simp only [allM, hn, decide_false, Bool.false_or, Bool.and_eq_false_iff]
  refine .inr (Bool.eq_false_iff.2 fun h => ?_)
  have := List.all_eq_true.1 h j (List.mem_range.2 hj)
  rw [h2] at this; cases this
theorem allM_big {M : MemG} {a n : Nat} {need : Int} (hn : n ≠ 0) (h : 4294967296 < a + n) : allM M a n need = false := by
  simp only [allM, hn, decide_false, Bool.false_or, Bool.and_eq_false_iff, decide_eq_false_iff_not]
  exact .inl (by omega)
theorem allM_page {M : MemG} {a n i : Nat} {need : Int} (h : allM M a n need = true) (hi : i < n) : a + n ≤ 4294967296 ∧ ∃ p, getPg M.pages (baseN (a + i)) = some p ∧ may p.perm need = true := by
  simp only [allM, Bool.or_eq_true, Bool.and_eq_true, decide_eq_true_eq] at h
  rcases h with h | ⟨h1, h2⟩
  · omega
  refine ⟨h1, ?_⟩
  have hb : baseN (a + i) = baseN a + 256 * ((a % 256 + i) / 256) := by unfold baseN; omega
  have := List.all_eq_true.1 h2 ((a % 256 + i) / 256) (List.mem_range.2 (by unfold allCnt; omega))
  rw [← hb, pgOk] at this
  split at this
  · rename_i p hp; exact ⟨p, hp, this⟩
  · cases this
theorem all_spec (b : Nat) (M : MemG) (x : MemX) (hf : MemF M x) (a n : Nat) (need : Int) (ha : a < 4294967296) (hn : n ≤ 65536) : Spec Try.prog 99 #[.pointer (some ⟨b, 0, none⟩), .int .u32 a, .int .i64 n, .int .i64 need] (fun _ => True) [(0, Pt b (memObj M x)), (1, MapO .u32 x.pb x.pm), (2, Blks (blksOf M x))]
    (fun ρ ρ' v L => ρ' = ρ ∧ v = .bool (allM M a n need) ∧ L = [(0, Pt b (memObj M x)), (1, MapO .u32 x.pb x.pm), (2, Blks (blksOf M x))]) := by
  refine Spec.of 51 Try.func99 rfl Try.ntmps99 [(0, _), (1, _), (2, _), (3, _)] rfl rfl ?_
  intro cx ρ hr h0
  refine Cd.seq fun K1 hK1 => ?_
  refine Cd.plain [(0, false)] rfl rfl ?_
  refine Jp.y 8 rfl (want_all rfl) rfl rfl Kp.true (Y.assign rfl rfl) ?_
  refine Jp.done hK1 ?_
  refine Cd.seq fun K2 hK2 => ?_
  refine Cd.seq fun K3 hK3 => ?_
  refine Cd.plain [(0, false), (1, false)] rfl rfl ?_
  refine Jp.y 12 rfl (want_all rfl) rfl rfl Kp.true (Y.move rfl rfl) ?_
  refine Jp.y 13 rfl (want_all rfl) rfl rfl Kp.true (Y.eql rfl rfl rfl) ?_
  refine Jp.done hK3 ?_
  refine Cd.cond rfl (fun g13 => ?_) (fun g13 => ?_)
  · skip
    try simp only [decide_eq_false_iff_not, decide_eq_true_eq, Int.not_lt, Int.not_le, Bool.not_eq_false, Bool.not_eq_true, Bool.not_true, Bool.not_false, Bool.not_eq_true', Bool.not_eq_false', beq_eq_false_iff_ne, ne_eq, beq_iff_eq, bne_iff_ne, bne_eq_false_iff_eq, Classical.not_not] at g13
    refine Cd.seq fun K4 hK4 => ?_
    refine Cd.plain [(0, false)] rfl rfl ?_
    refine Jp.y 8 rfl (want_all rfl) rfl rfl Kp.true (Y.assign rfl rfl) ?_
    refine Jp.done hK4 ?_
    refine Cd.ret [(0, _), (1, _), (2, _)] rfl (res1 rfl rfl) ⟨rfl, rfl, rfl, trivial⟩ ⟨rfl, congrArg Value.bool ?_, rfl⟩
    have : n = 0 := by omega
    subst this; rfl
  try simp only [decide_eq_false_iff_not, decide_eq_true_eq, Int.not_lt, Int.not_le, Bool.not_eq_false, Bool.not_eq_true, Bool.not_true, Bool.not_false, Bool.not_eq_true', Bool.not_eq_false', beq_eq_false_iff_ne, ne_eq, beq_iff_eq, bne_iff_ne, bne_eq_false_iff_eq, Classical.not_not] at g13
  refine Cd.skip hK2 ?_
  refine Cd.seq fun K5 hK5 => ?_
  refine Cd.seq fun K6 hK6 => ?_
  refine Cd.plain [(0, false), (1, false), (2, false), (3, false), (4, false), (5, false)] rfl rfl ?_
  refine Jp.y 14 rfl (want_all rfl) rfl rfl Kp.true (Y.move rfl rfl) ?_
  refine Jp.y 15 rfl (want_all rfl) rfl rfl Kp.true (Y.conv_ rfl rfl Try.underlying25 Try.underlying129 (by first | exact wrap_u64 (by omega) (by omega) | rfl)) ?_
  refine Jp.y 16 rfl (want_all rfl) rfl rfl Kp.true (Y.move rfl rfl) ?_
  refine Jp.y 17 rfl (want_all rfl) rfl rfl Kp.true (Y.conv_ rfl rfl Try.underlying3 Try.underlying129 (by first | exact wrap_u64 (by omega) (by omega) | rfl)) ?_
  refine Jp.y 18 rfl (want_all rfl) rfl rfl Kp.true (Y.add_ rfl rfl rfl (by first | exact wrap_u64 (by omega) (by omega) | rfl)) ?_
  refine Jp.y 19 rfl (want_all rfl) rfl rfl Kp.true (Y.gtr rfl rfl rfl) ?_
  refine Jp.done hK6 ?_
  refine Cd.cond rfl (fun g19 => ?_) (fun g19 => ?_)
  · skip
    try simp only [decide_eq_false_iff_not, decide_eq_true_eq, Int.not_lt, Int.not_le, Bool.not_eq_false, Bool.not_eq_true, Bool.not_true, Bool.not_false, Bool.not_eq_true', Bool.not_eq_false', beq_eq_false_iff_ne, ne_eq, beq_iff_eq, bne_iff_ne, bne_eq_false_iff_eq, Classical.not_not] at g19
    refine Cd.seq fun K7 hK7 => ?_
    refine Cd.plain [(0, false)] rfl rfl ?_
    refine Jp.y 8 rfl (want_all rfl) rfl rfl Kp.true (Y.assign rfl rfl) ?_
    refine Jp.done hK7 ?_
    refine Cd.ret [(0, _), (1, _), (2, _)] rfl (res1 rfl rfl) ⟨rfl, rfl, rfl, trivial⟩ ⟨rfl, congrArg Value.bool (allM_big (by omega) (by omega)).symm, rfl⟩
  try simp only [decide_eq_false_iff_not, decide_eq_true_eq, Int.not_lt, Int.not_le, Bool.not_eq_false, Bool.not_eq_true, Bool.not_true, Bool.not_false, Bool.not_eq_true', Bool.not_eq_false', beq_eq_false_iff_ne, ne_eq, beq_iff_eq, bne_iff_ne, bne_eq_false_iff_eq, Classical.not_not] at g19
  refine Cd.skip hK5 ?_
  refine Cd.seq fun K8 hK8 => ?_
  refine Cd.plain [(0, false), (1, false), (2, false), (3, false), (4, false), (5, false), (6, false)] rfl rfl ?_
  refine Jp.y 20 rfl (want_all rfl) rfl rfl Kp.true (Y.move rfl rfl) ?_
  refine Jp.y 21 rfl (want_all rfl) rfl rfl Kp.true (Y.move rfl rfl) ?_
  refine Jp.y 22 rfl (want_all rfl) rfl rfl Kp.true (Y.sub_ rfl rfl rfl (by first | exact wrap_i64 (by omega) (by omega) | rfl)) ?_
  refine Jp.y 23 rfl (want_all rfl) rfl rfl Kp.true (Y.conv_ rfl rfl Try.underlying3 Try.underlying25 (by first | exact wrap_u32 (by omega) (by omega) | rfl)) ?_
  refine Jp.y 24 rfl (want_all rfl) rfl rfl Kp.true (Y.add_ rfl rfl rfl (by first | exact wrap_u32 (by omega) (by omega) | rfl)) ?_
  refine Jp.slot 24 rfl (congrArg (Value.int .u32) (show (a : Int) + (n - 1) = ((a + n - 1 : Nat) : Int) by omega)) ?_
  refine Jp.call [] [] (base_spec (a + n - 1) (by omega)) 25 rfl (want_all rfl) rfl rfl (Runs.fn rfl Try.call72 rfl) (by decide) (by decide) rfl trivial ?_
  rintro v1 ρ1 L1 ⟨rfl, rfl, rfl⟩
  refine ⟨rfl, fun hle1 => ⟨Kp.true, ?_⟩⟩
  refine Jp.y 9 rfl (want_all rfl) rfl rfl Kp.true (Y.assign rfl rfl) ?_
  refine Jp.done hK8 ?_
  refine Cd.seq fun K9 hK9 => ?_
  refine Cd.plain [(0, false), (1, false), (2, false)] rfl rfl ?_
  refine Jp.y 26 rfl (want_all rfl) rfl rfl Kp.true (Y.move rfl rfl) ?_
  refine Jp.call [] [] (base_spec a ha) 27 rfl (want_all rfl) rfl rfl (Runs.fn rfl Try.call72 rfl) (by decide) (by decide) rfl trivial ?_
  rintro v2 ρ2 L2 ⟨rfl, rfl, rfl⟩
  refine ⟨rfl, fun hle2 => ⟨Kp.true, ?_⟩⟩
  refine Jp.y 10 rfl (want_all rfl) rfl rfl Kp.true (Y.assign rfl rfl) ?_
  refine Jp.done hK9 ?_
  refine Cd.block ?_
  have hc1 : 1 ≤ allCnt a n := by unfold allCnt; omega
  have hlast : baseN (a + n - 1) = baseN a + 256 * (allCnt a n - 1) := by unfold baseN allCnt; omega
  have hb0 : baseN a ≤ a := by unfold baseN; omega
  have hb1 : baseN a + 256 * (allCnt a n - 1) < 4294967296 := by rw [← hlast]; unfold baseN; omega
  rw [hlast]
  refine Cd.loopK (G := Nat) (fun j => j < allCnt a n ∧ ∀ i, i < j → pgOk M (baseN a + 256 * i) need = true) (fun j => allCnt a n - j) (fun _ => _) (fun j => [(10, .int .u32 ((baseN a + 256 * j : Nat) : Int))]) [(0, _), (3, _), (9, _)] (fun _ => []) [(0, _), (1, _), (2, _)] 0 ⟨hc1, fun i h => by omega⟩ rfl ⟨rfl, trivial⟩ ⟨rfl, rfl, rfl, trivial⟩ trivial ⟨rfl, rfl, rfl, trivial⟩ (fun g KLa hok hLa => ?_)
  obtain ⟨ok1, ok2⟩ := hok
  have hget := hf.get (baseN a + 256 * g)
  refine Cd.seq fun K10 hK10 => ?_
  refine Cd.block ?_
  refine Cd.seq fun K11 hK11 => ?_
  refine Cd.plain [(0, false), (1, false), (2, false), (3, false), (4, false), (5, false), (6, false)] rfl rfl ?_
  refine Jp.y 30 rfl (want_all rfl) rfl rfl Kp.true (Y.move rfl rfl) ?_
  refine Jp.y 31 rfl (want_all rfl) rfl rfl Kp.true (Y.nilCheck rfl rfl) ?_
  refine Jp.y 32 rfl (want_all rfl) rfl rfl Kp.true (by first | exact Y.fieldAddrP rfl rfl Try.underlying115 rfl Try.sizeOf112 (by decide) (show _ + 1 = _ from rfl) | exact Y.fieldAddr rfl rfl Try.underlying115 rfl Try.sizeOf112 (by decide)) ?_
  refine Jp.y 33 rfl (want_all rfl) rfl rfl Kp.true (Y.loadO 0 rfl Try.isAgg112 rfl rfl rfl) ?_
  refine Jp.y 34 rfl (want_all rfl) rfl rfl Kp.true (Y.move rfl rfl) ?_
  refine Jp.y 35 rfl (want_all rfl) rfl rfl Kp.true (by first | exact Y.lookup 1 rfl rfl rfl Try.underlying112 Try.underlying25 Try.zeroValue143 rfl) ?_
  refine Jp.y 11 rfl (want_all rfl) rfl rfl Kp.true (Y.assign rfl rfl) ?_
  refine Jp.done hK11 ?_
  refine Cd.seq fun K12 hK12 => ?_
  refine Cd.seq fun K13 hK13 => ?_
  refine Cd.plain [(0, false), (1, false), (2, false), (3, false), (4, false), (5, false), (6, false), (7, false), (8, false), (9, false), (10, false), (11, false)] rfl rfl ?_
  rcases hg : getPg M.pages (baseN a + 256 * g) with _ | p
  · rw [hg] at hget
    refine Jp.slot 11 rfl (show _ = Value.pointer none by rw [hget]; rfl) ?_
    refine Jp.y 36 rfl (want_all rfl) rfl rfl Kp.true (Y.move rfl rfl) ?_
    refine Jp.y 37 rfl (want_all rfl) rfl rfl Kp.true (Y.ptrNil rfl Try.underlying143 rfl rfl) ?_
    refine Jp.y 38 rfl (want_all rfl) rfl rfl Kp.true (Y.move rfl rfl) ?_
    refine Jp.split 38 rfl (fun g38 => ?_) (fun g38 => ?_)
    · skip
      try simp only [decide_eq_false_iff_not, decide_eq_true_eq, Int.not_lt, Int.not_le, Bool.not_eq_false, Bool.not_eq_true, Bool.not_true, Bool.not_false, Bool.not_eq_true', Bool.not_eq_false', beq_eq_false_iff_ne, ne_eq, beq_iff_eq, bne_iff_ne, bne_eq_false_iff_eq, Classical.not_not] at g38
      first
      | done
      | (first
         | (simp at g38; done)
         | omega)
      | skip
        refine Jp.skip 39 rfl (want_as rfl rfl rfl rfl) rfl rfl Kp.true ?_
        refine Jp.skip 40 rfl (want_as rfl rfl rfl rfl) rfl rfl Kp.true ?_
        refine Jp.skip 41 rfl (want_as rfl rfl rfl rfl) rfl rfl Kp.true ?_
        refine Jp.skip 42 rfl (want_as rfl rfl rfl rfl) rfl rfl Kp.true ?_
        refine Jp.skip 43 rfl (want_as rfl rfl rfl rfl) rfl rfl Kp.true ?_
        refine Jp.skip 44 rfl (want_as rfl rfl rfl rfl) rfl rfl Kp.true ?_
        refine Jp.skip 45 rfl (want_as rfl rfl rfl rfl) rfl rfl Kp.true ?_
        refine Jp.skip 46 rfl (want_as rfl rfl rfl rfl) rfl rfl Kp.true ?_
        refine Jp.y 47 rfl (want_all rfl) rfl rfl Kp.true (Y.pickT rfl rfl rfl) ?_
        refine Jp.done hK13 ?_
        refine Cd.condT rfl ?_
        refine Cd.seq fun K14 hK14 => ?_
        refine Cd.plain [(0, false)] rfl rfl ?_
        refine Jp.y 8 rfl (want_all rfl) rfl rfl Kp.true (Y.assign rfl rfl) ?_
        refine Jp.done hK14 ?_
        refine Cd.ret [(0, _), (1, _), (2, _)] rfl (res1 rfl rfl) ⟨rfl, rfl, rfl, trivial⟩ ⟨rfl, congrArg Value.bool ?_, rfl⟩
        first
        | exact (allM_no (M := M) (a := a) (n := n) (by omega) ok1 (pgOk_none hg)).symm
        | exact (allM_no (M := M) (a := a) (n := n) (by omega) ok1 (by rw [pgOk_some hg]; simpa [may] using g47)).symm
        | exact (allM_yes (M := M) (a := a) (n := n) (by omega) (fun i hi => by
            by_cases hij : i < g
            · exact ok2 i hij
            · have : i = g := by omega
              subst this; rw [pgOk_some hg]; simpa [may] using g47)).symm
    · skip
      try simp only [decide_eq_false_iff_not, decide_eq_true_eq, Int.not_lt, Int.not_le, Bool.not_eq_false, Bool.not_eq_true, Bool.not_true, Bool.not_false, Bool.not_eq_true', Bool.not_eq_false', beq_eq_false_iff_ne, ne_eq, beq_iff_eq, bne_iff_ne, bne_eq_false_iff_eq, Classical.not_not] at g38
      first
      | done
      | (first
         | (simp at g38; done)
         | omega)
      | skip
        refine Jp.y 39 rfl (want_as rfl rfl rfl rfl) rfl rfl Kp.true (Y.move rfl rfl) ?_
        refine Jp.y 40 rfl (want_as rfl rfl rfl rfl) rfl rfl Kp.true (Y.nilCheck rfl rfl) ?_
        refine Jp.y 41 rfl (want_as rfl rfl rfl rfl) rfl rfl Kp.true (by first | exact Y.fieldAddrP rfl rfl Try.underlying145 rfl Try.sizeOf3 (by decide) (show _ + 256 = _ from rfl) | exact Y.fieldAddr rfl rfl Try.underlying145 rfl Try.sizeOf3 (by decide)) ?_
        refine Jp.y 42 rfl (want_as rfl rfl rfl rfl) rfl rfl Kp.true (Y.loadO 0 rfl Try.isAgg3 rfl rfl rfl) ?_
        refine Jp.y 43 rfl (want_as rfl rfl rfl rfl) rfl rfl Kp.true (Y.move rfl rfl) ?_
        refine Jp.y 44 rfl (want_as rfl rfl rfl rfl) rfl rfl Kp.true (Y.bits rfl rfl rfl rfl) ?_
        refine Jp.y 45 rfl (want_as rfl rfl rfl rfl) rfl rfl Kp.true (Y.move rfl rfl) ?_
        refine Jp.y 46 rfl (want_as rfl rfl rfl rfl) rfl rfl Kp.true (Y.neq rfl rfl rfl) ?_
        refine Jp.y 47 rfl (want_all rfl) rfl rfl Kp.true (Y.pickF rfl rfl rfl) ?_
        refine Jp.done hK13 ?_
        refine Cd.cond rfl (fun g47 => ?_) (fun g47 => ?_)
        · skip
          try simp only [decide_eq_false_iff_not, decide_eq_true_eq, Int.not_lt, Int.not_le, Bool.not_eq_false, Bool.not_eq_true, Bool.not_true, Bool.not_false, Bool.not_eq_true', Bool.not_eq_false', beq_eq_false_iff_ne, ne_eq, beq_iff_eq, bne_iff_ne, bne_eq_false_iff_eq, Classical.not_not] at g47
          first
          | done
          | (first
             | (simp at g47; done)
             | omega)
          | skip
            refine Cd.seq fun K15 hK15 => ?_
            refine Cd.plain [(0, false)] rfl rfl ?_
            refine Jp.y 8 rfl (want_all rfl) rfl rfl Kp.true (Y.assign rfl rfl) ?_
            refine Jp.done hK15 ?_
            refine Cd.ret [(0, _), (1, _), (2, _)] rfl (res1 rfl rfl) ⟨rfl, rfl, rfl, trivial⟩ ⟨rfl, congrArg Value.bool ?_, rfl⟩
            first
            | exact (allM_no (M := M) (a := a) (n := n) (by omega) ok1 (pgOk_none hg)).symm
            | exact (allM_no (M := M) (a := a) (n := n) (by omega) ok1 (by rw [pgOk_some hg]; simpa [may] using g47)).symm
            | exact (allM_yes (M := M) (a := a) (n := n) (by omega) (fun i hi => by
                by_cases hij : i < g
                · exact ok2 i hij
                · have : i = g := by omega
                  subst this; rw [pgOk_some hg]; simpa [may] using g47)).symm
        · skip
          try simp only [decide_eq_false_iff_not, decide_eq_true_eq, Int.not_lt, Int.not_le, Bool.not_eq_false, Bool.not_eq_true, Bool.not_true, Bool.not_false, Bool.not_eq_true', Bool.not_eq_false', beq_eq_false_iff_ne, ne_eq, beq_iff_eq, bne_iff_ne, bne_eq_false_iff_eq, Classical.not_not] at g47
          first
          | done
          | (first
             | (simp at g47; done)
             | omega)
          | skip
            refine Cd.skip hK12 ?_
            refine Cd.seq fun K16 hK16 => ?_
            refine Cd.plain [(0, false), (1, false), (2, false)] rfl rfl ?_
            refine Jp.y 48 rfl (want_all rfl) rfl rfl Kp.true (Y.move rfl rfl) ?_
            refine Jp.y 49 rfl (want_all rfl) rfl rfl Kp.true (Y.move rfl rfl) ?_
            refine Jp.y 50 rfl (want_all rfl) rfl rfl Kp.true (Y.eql rfl rfl rfl) ?_
            refine Jp.done hK16 ?_
            refine Cd.cond rfl (fun g50 => ?_) (fun g50 => ?_)
            · skip
              try simp only [decide_eq_false_iff_not, decide_eq_true_eq, Int.not_lt, Int.not_le, Bool.not_eq_false, Bool.not_eq_true, Bool.not_true, Bool.not_false, Bool.not_eq_true', Bool.not_eq_false', beq_eq_false_iff_ne, ne_eq, beq_iff_eq, bne_iff_ne, bne_eq_false_iff_eq, Classical.not_not] at g50
              first
              | done
              | (first
                 | (simp at g50; done)
                 | omega)
              | skip
                refine Cd.seq fun K17 hK17 => ?_
                refine Cd.plain [(0, false)] rfl rfl ?_
                refine Jp.y 8 rfl (want_all rfl) rfl rfl Kp.true (Y.assign rfl rfl) ?_
                refine Jp.done hK17 ?_
                refine Cd.ret [(0, _), (1, _), (2, _)] rfl (res1 rfl rfl) ⟨rfl, rfl, rfl, trivial⟩ ⟨rfl, congrArg Value.bool ?_, rfl⟩
                first
                | exact (allM_no (M := M) (a := a) (n := n) (by omega) ok1 (pgOk_none hg)).symm
                | exact (allM_no (M := M) (a := a) (n := n) (by omega) ok1 (by rw [pgOk_some hg]; simpa [may] using g47)).symm
                | exact (allM_yes (M := M) (a := a) (n := n) (by omega) (fun i hi => by
                    by_cases hij : i < g
                    · exact ok2 i hij
                    · have : i = g := by omega
                      subst this; rw [pgOk_some hg]; simpa [may] using g47)).symm
            · skip
              try simp only [decide_eq_false_iff_not, decide_eq_true_eq, Int.not_lt, Int.not_le, Bool.not_eq_false, Bool.not_eq_true, Bool.not_true, Bool.not_false, Bool.not_eq_true', Bool.not_eq_false', beq_eq_false_iff_ne, ne_eq, beq_iff_eq, bne_iff_ne, bne_eq_false_iff_eq, Classical.not_not] at g50
              first
              | done
              | (first
                 | (simp at g50; done)
                 | omega)
              | skip
                refine Cd.over rfl hK10 ?_
                refine Cd.plain [(0, false), (1, false), (2, false)] rfl rfl ?_
                refine Jp.y 28 rfl (want_all rfl) rfl rfl Kp.true (Y.move rfl rfl) ?_
                refine Jp.y 29 rfl (want_all rfl) rfl rfl Kp.true (Y.add_ rfl rfl rfl (by first | exact wrap_u32 (by omega) (by omega) | rfl)) ?_
                refine Jp.y 10 rfl (want_all rfl) rfl rfl Kp.true (Y.assign rfl rfl) ?_
                done
  · rw [hg] at hget
    refine Jp.slot 11 rfl (show _ = Value.pointer (some ⟨x.blk (baseN a + 256 * g), 0, none⟩) by rw [hget]; rfl) ?_
    have hpo := hf.ok.page _ (getPg_mem hg)
    have hcell := Blks.cell (MemF.blk (x := x) hg) (pageCells_perm p hpo.len)
    refine Jp.y 36 rfl (want_all rfl) rfl rfl Kp.true (Y.move rfl rfl) ?_
    refine Jp.y 37 rfl (want_all rfl) rfl rfl Kp.true (Y.ptrNil rfl Try.underlying143 rfl rfl) ?_
    refine Jp.y 38 rfl (want_all rfl) rfl rfl Kp.true (Y.move rfl rfl) ?_
    refine Jp.split 38 rfl (fun g38 => ?_) (fun g38 => ?_)
    · skip
      try simp only [decide_eq_false_iff_not, decide_eq_true_eq, Int.not_lt, Int.not_le, Bool.not_eq_false, Bool.not_eq_true, Bool.not_true, Bool.not_false, Bool.not_eq_true', Bool.not_eq_false', beq_eq_false_iff_ne, ne_eq, beq_iff_eq, bne_iff_ne, bne_eq_false_iff_eq, Classical.not_not] at g38
      first
      | done
      | (first
         | (simp at g38; done)
         | omega)
      | skip
        refine Jp.skip 39 rfl (want_as rfl rfl rfl rfl) rfl rfl Kp.true ?_
        refine Jp.skip 40 rfl (want_as rfl rfl rfl rfl) rfl rfl Kp.true ?_
        refine Jp.skip 41 rfl (want_as rfl rfl rfl rfl) rfl rfl Kp.true ?_
        refine Jp.skip 42 rfl (want_as rfl rfl rfl rfl) rfl rfl Kp.true ?_
        refine Jp.skip 43 rfl (want_as rfl rfl rfl rfl) rfl rfl Kp.true ?_
        refine Jp.skip 44 rfl (want_as rfl rfl rfl rfl) rfl rfl Kp.true ?_
        refine Jp.skip 45 rfl (want_as rfl rfl rfl rfl) rfl rfl Kp.true ?_
        refine Jp.skip 46 rfl (want_as rfl rfl rfl rfl) rfl rfl Kp.true ?_
        refine Jp.y 47 rfl (want_all rfl) rfl rfl Kp.true (Y.pickT rfl rfl rfl) ?_
        refine Jp.done hK13 ?_
        refine Cd.condT rfl ?_
        refine Cd.seq fun K18 hK18 => ?_
        refine Cd.plain [(0, false)] rfl rfl ?_
        refine Jp.y 8 rfl (want_all rfl) rfl rfl Kp.true (Y.assign rfl rfl) ?_
        refine Jp.done hK18 ?_
        refine Cd.ret [(0, _), (1, _), (2, _)] rfl (res1 rfl rfl) ⟨rfl, rfl, rfl, trivial⟩ ⟨rfl, congrArg Value.bool ?_, rfl⟩
        first
        | exact (allM_no (M := M) (a := a) (n := n) (by omega) ok1 (pgOk_none hg)).symm
        | exact (allM_no (M := M) (a := a) (n := n) (by omega) ok1 (by rw [pgOk_some hg]; simpa [may] using g47)).symm
        | exact (allM_yes (M := M) (a := a) (n := n) (by omega) (fun i hi => by
            by_cases hij : i < g
            · exact ok2 i hij
            · have : i = g := by omega
              subst this; rw [pgOk_some hg]; simpa [may] using g47)).symm
    · skip
      try simp only [decide_eq_false_iff_not, decide_eq_true_eq, Int.not_lt, Int.not_le, Bool.not_eq_false, Bool.not_eq_true, Bool.not_true, Bool.not_false, Bool.not_eq_true', Bool.not_eq_false', beq_eq_false_iff_ne, ne_eq, beq_iff_eq, bne_iff_ne, bne_eq_false_iff_eq, Classical.not_not] at g38
      first
      | done
      | (first
         | (simp at g38; done)
         | omega)
      | skip
        refine Jp.y 39 rfl (want_as rfl rfl rfl rfl) rfl rfl Kp.true (Y.move rfl rfl) ?_
        refine Jp.y 40 rfl (want_as rfl rfl rfl rfl) rfl rfl Kp.true (Y.nilCheck rfl rfl) ?_
        refine Jp.y 41 rfl (want_as rfl rfl rfl rfl) rfl rfl Kp.true (by first | exact Y.fieldAddrP rfl rfl Try.underlying145 rfl Try.sizeOf3 (by decide) (show _ + 256 = _ from rfl) | exact Y.fieldAddr rfl rfl Try.underlying145 rfl Try.sizeOf3 (by decide)) ?_
        refine Jp.y 42 rfl (want_as rfl rfl rfl rfl) rfl rfl Kp.true (by first | exact Y.loadO 0 rfl Try.isAgg3 rfl rfl rfl | exact Y.loadC 2 rfl Try.isAgg3 rfl rfl hcell) ?_
        refine Jp.y 43 rfl (want_as rfl rfl rfl rfl) rfl rfl Kp.true (Y.move rfl rfl) ?_
        refine Jp.y 44 rfl (want_as rfl rfl rfl rfl) rfl rfl Kp.true (Y.bits rfl rfl rfl rfl) ?_
        refine Jp.y 45 rfl (want_as rfl rfl rfl rfl) rfl rfl Kp.true (Y.move rfl rfl) ?_
        refine Jp.y 46 rfl (want_as rfl rfl rfl rfl) rfl rfl Kp.true (Y.neq rfl rfl rfl) ?_
        refine Jp.y 47 rfl (want_all rfl) rfl rfl Kp.true (Y.pickF rfl rfl rfl) ?_
        refine Jp.done hK13 ?_
        refine Cd.cond rfl (fun g47 => ?_) (fun g47 => ?_)
        · skip
          try simp only [decide_eq_false_iff_not, decide_eq_true_eq, Int.not_lt, Int.not_le, Bool.not_eq_false, Bool.not_eq_true, Bool.not_true, Bool.not_false, Bool.not_eq_true', Bool.not_eq_false', beq_eq_false_iff_ne, ne_eq, beq_iff_eq, bne_iff_ne, bne_eq_false_iff_eq, Classical.not_not] at g47
          first
          | done
          | (first
             | (simp at g47; done)
             | omega)
          | skip
            refine Cd.seq fun K19 hK19 => ?_
            refine Cd.plain [(0, false)] rfl rfl ?_
            refine Jp.y 8 rfl (want_all rfl) rfl rfl Kp.true (Y.assign rfl rfl) ?_
            refine Jp.done hK19 ?_
            refine Cd.ret [(0, _), (1, _), (2, _)] rfl (res1 rfl rfl) ⟨rfl, rfl, rfl, trivial⟩ ⟨rfl, congrArg Value.bool ?_, rfl⟩
            first
            | exact (allM_no (M := M) (a := a) (n := n) (by omega) ok1 (pgOk_none hg)).symm
            | exact (allM_no (M := M) (a := a) (n := n) (by omega) ok1 (by rw [pgOk_some hg]; simpa [may] using g47)).symm
            | exact (allM_yes (M := M) (a := a) (n := n) (by omega) (fun i hi => by
                by_cases hij : i < g
                · exact ok2 i hij
                · have : i = g := by omega
                  subst this; rw [pgOk_some hg]; simpa [may] using g47)).symm
        · skip
          try simp only [decide_eq_false_iff_not, decide_eq_true_eq, Int.not_lt, Int.not_le, Bool.not_eq_false, Bool.not_eq_true, Bool.not_true, Bool.not_false, Bool.not_eq_true', Bool.not_eq_false', beq_eq_false_iff_ne, ne_eq, beq_iff_eq, bne_iff_ne, bne_eq_false_iff_eq, Classical.not_not] at g47
          first
          | done
          | (first
             | (simp at g47; done)
             | omega)
          | skip
            refine Cd.skip hK12 ?_
            refine Cd.seq fun K20 hK20 => ?_
            refine Cd.plain [(0, false), (1, false), (2, false)] rfl rfl ?_
            refine Jp.y 48 rfl (want_all rfl) rfl rfl Kp.true (Y.move rfl rfl) ?_
            refine Jp.y 49 rfl (want_all rfl) rfl rfl Kp.true (Y.move rfl rfl) ?_
            refine Jp.y 50 rfl (want_all rfl) rfl rfl Kp.true (Y.eql rfl rfl rfl) ?_
            refine Jp.done hK20 ?_
            refine Cd.cond rfl (fun g50 => ?_) (fun g50 => ?_)
            · skip
              try simp only [decide_eq_false_iff_not, decide_eq_true_eq, Int.not_lt, Int.not_le, Bool.not_eq_false, Bool.not_eq_true, Bool.not_true, Bool.not_false, Bool.not_eq_true', Bool.not_eq_false', beq_eq_false_iff_ne, ne_eq, beq_iff_eq, bne_iff_ne, bne_eq_false_iff_eq, Classical.not_not] at g50
              first
              | done
              | (first
                 | (simp at g50; done)
                 | omega)
              | skip
                refine Cd.seq fun K21 hK21 => ?_
                refine Cd.plain [(0, false)] rfl rfl ?_
                refine Jp.y 8 rfl (want_all rfl) rfl rfl Kp.true (Y.assign rfl rfl) ?_
                refine Jp.done hK21 ?_
                refine Cd.ret [(0, _), (1, _), (2, _)] rfl (res1 rfl rfl) ⟨rfl, rfl, rfl, trivial⟩ ⟨rfl, congrArg Value.bool ?_, rfl⟩
                first
                | exact (allM_no (M := M) (a := a) (n := n) (by omega) ok1 (pgOk_none hg)).symm
                | exact (allM_no (M := M) (a := a) (n := n) (by omega) ok1 (by rw [pgOk_some hg]; simpa [may] using g47)).symm
                | exact (allM_yes (M := M) (a := a) (n := n) (by omega) (fun i hi => by
                    by_cases hij : i < g
                    · exact ok2 i hij
                    · have : i = g := by omega
                      subst this; rw [pgOk_some hg]; simpa [may] using g47)).symm
            · skip
              try simp only [decide_eq_false_iff_not, decide_eq_true_eq, Int.not_lt, Int.not_le, Bool.not_eq_false, Bool.not_eq_true, Bool.not_true, Bool.not_false, Bool.not_eq_true', Bool.not_eq_false', beq_eq_false_iff_ne, ne_eq, beq_iff_eq, bne_iff_ne, bne_eq_false_iff_eq, Classical.not_not] at g50
              first
              | done
              | (first
                 | (simp at g50; done)
                 | omega)
              | skip
                refine Cd.over rfl hK10 ?_
                refine Cd.plain [(0, false), (1, false), (2, false)] rfl rfl ?_
                refine Jp.y 28 rfl (want_all rfl) rfl rfl Kp.true (Y.move rfl rfl) ?_
                refine Jp.y 29 rfl (want_all rfl) rfl rfl Kp.true (Y.add_ rfl rfl rfl (by first | exact wrap_u32 (by omega) (by omega) | rfl)) ?_
                refine Jp.y 10 rfl (want_all rfl) rfl rfl Kp.true (Y.assign rfl rfl) ?_
                have hyes : pgOk M (baseN a + 256 * g) need = true := by rw [pgOk_some hg]; simpa [may] using g47
                refine Jp.slot 10 rfl (congrArg (Value.int .u32) (show ((baseN a + 256 * g : Nat) : Int) + 256 = ((baseN a + 256 * (g + 1) : Nat) : Int) by omega)) ?_
                refine Jp.again hLa (g + 1) ⟨by omega, fun i hi => ?_⟩ (by omega) rfl ⟨rfl, rfl, rfl, rfl, trivial⟩ ⟨rfl, rfl, rfl, trivial⟩
                by_cases hij : i < g
                · exact ok2 i hij
                · have : i = g := by omega
                  subst this; exact hyes
def byteM (M : MemG) (a : Nat) : UInt8 := match getPg M.pages (baseN a) with
  | some p => p.b.getD (a % 256) 0
  | none => 0
def readL (M : MemG) (a n : Nat) : Bytes := (List.range n).map fun i => byteM M (a + i)
def readM (M : MemG) (a : Nat) (n : Int) : Bytes × Int := if n < 0 ∨ 4096 < n then ([], 1) else if allM M a n.toNat 1 = false then ([], 8) else (readL M a n.toNat, 0)
theorem readL_length (M : MemG) (a n : Nat) : (readL M a n).length = n := by simp [readL]
theorem readL_succ (M : MemG) (a n : Nat) : readL M a (n + 1) = readL M a n ++ [byteM M (a + n)] := by simp [readL, List.range_succ]
theorem read_spec (b : Nat) (M : MemG) (a : Nat) (n : Int) (ha : a < 4294967296) : Spec Try.prog 59 #[.pointer (some ⟨b, 0, none⟩), .int .u32 a, .int .i64 n] (fun _ => True) [(0, MemO b M)]
    (fun ρ ρ' v L => ρ' = ρ ∧ ∃ A c, v = .tuple #[.slice A (readM M a n).1.length c, .int .i64 (readM M a n).2] ∧ L = [(0, MemO b M), (1, OwnS 5 1 A (readM M a n).1.length c (bytesV (readM M a n).1))]) := by
  refine Spec.of 50 Try.func59 rfl Try.ntmps59 [(0, _), (1, _), (2, _)] rfl rfl ?_
  intro cx ρ hr h0
  refine Cd.memOpen 0 5 6 7 (by decide) rfl fun x hf => ?_
  refine Cd.make 1 (A := OwnS 5 1 none 0 0 []) (OwnS.nil _ _ _) ?_
  refine Cd.seq fun K22 hK22 => ?_
  refine Cd.plain [(0, false), (1, false)] rfl rfl ?_
  refine Jp.y 6 rfl (want_all rfl) rfl rfl Kp.true (Y.assign rfl rfl) ?_
  refine Jp.y 7 rfl (want_all rfl) rfl rfl Kp.true (Y.assign rfl rfl) ?_
  refine Jp.done hK22 ?_
  refine Cd.seq fun K23 hK23 => ?_
  refine Cd.block ?_
  refine Cd.seq fun K24 hK24 => ?_
  refine Cd.plain [(0, false), (1, false), (2, false), (3, false), (4, false), (5, false), (6, false)] rfl rfl ?_
  refine Jp.y 11 rfl (want_all rfl) rfl rfl Kp.true (Y.move rfl rfl) ?_
  refine Jp.y 12 rfl (want_all rfl) rfl rfl Kp.true (Y.lss rfl rfl rfl) ?_
  refine Jp.y 13 rfl (want_all rfl) rfl rfl Kp.true (Y.move rfl rfl) ?_
  refine Jp.split 13 rfl (fun g13 => ?_) (fun g13 => ?_)
  · skip
    try simp only [decide_eq_false_iff_not, decide_eq_true_eq, Int.not_lt, Int.not_le, Bool.not_eq_false, Bool.not_eq_true, Bool.not_true, Bool.not_false, Bool.not_eq_true', Bool.not_eq_false', beq_eq_false_iff_ne, ne_eq, beq_iff_eq, bne_iff_ne, bne_eq_false_iff_eq, Classical.not_not] at g13
    refine Jp.skip 14 rfl (want_as rfl rfl rfl rfl) rfl rfl Kp.true ?_
    refine Jp.skip 15 rfl (want_as rfl rfl rfl rfl) rfl rfl Kp.true ?_
    refine Jp.y 16 rfl (want_all rfl) rfl rfl Kp.true (Y.pickT rfl rfl rfl) ?_
    refine Jp.y 10 rfl (want_all rfl) rfl rfl Kp.true (Y.assign rfl rfl) ?_
    refine Jp.done hK24 ?_
    refine Cd.condT rfl ?_
    refine Cd.seq fun K25 hK25 => ?_
    refine Cd.plain [(0, false), (1, false)] rfl rfl ?_
    refine Jp.y 6 rfl (want_all rfl) rfl rfl Kp.true (Y.assign rfl rfl) ?_
    refine Jp.y 7 rfl (want_all rfl) rfl rfl Kp.true (Y.assign rfl rfl) ?_
    refine Jp.done hK25 ?_
    have hV : readM M a n = ([], 1) := by rw [readM, if_pos (by omega)]
    refine Cd.memClose 0 5 6 7 (by decide) hf rfl rfl rfl rfl ?_
    rw [hV]
    refine Cd.ret [(0, _), (1, _)] rfl (res2 rfl rfl rfl) ⟨rfl, rfl, trivial⟩ ⟨rfl, none, 0, rfl, rfl⟩
  try simp only [decide_eq_false_iff_not, decide_eq_true_eq, Int.not_lt, Int.not_le, Bool.not_eq_false, Bool.not_eq_true, Bool.not_true, Bool.not_false, Bool.not_eq_true', Bool.not_eq_false', beq_eq_false_iff_ne, ne_eq, beq_iff_eq, bne_iff_ne, bne_eq_false_iff_eq, Classical.not_not] at g13
  refine Jp.y 14 rfl (want_as rfl rfl rfl rfl) rfl rfl Kp.true (Y.move rfl rfl) ?_
  refine Jp.y 15 rfl (want_as rfl rfl rfl rfl) rfl rfl Kp.true (Y.gtr rfl rfl rfl) ?_
  refine Jp.y 16 rfl (want_all rfl) rfl rfl Kp.true (Y.pickF rfl rfl rfl) ?_
  refine Jp.y 10 rfl (want_all rfl) rfl rfl Kp.true (Y.assign rfl rfl) ?_
  refine Jp.done hK24 ?_
  refine Cd.cond rfl (fun g10 => ?_) (fun g10 => ?_)
  · skip
    try simp only [decide_eq_false_iff_not, decide_eq_true_eq, Int.not_lt, Int.not_le, Bool.not_eq_false, Bool.not_eq_true, Bool.not_true, Bool.not_false, Bool.not_eq_true', Bool.not_eq_false', beq_eq_false_iff_ne, ne_eq, beq_iff_eq, bne_iff_ne, bne_eq_false_iff_eq, Classical.not_not] at g10
    refine Cd.seq fun K26 hK26 => ?_
    refine Cd.plain [(0, false), (1, false)] rfl rfl ?_
    refine Jp.y 6 rfl (want_all rfl) rfl rfl Kp.true (Y.assign rfl rfl) ?_
    refine Jp.y 7 rfl (want_all rfl) rfl rfl Kp.true (Y.assign rfl rfl) ?_
    refine Jp.done hK26 ?_
    have hV : readM M a n = ([], 1) := by rw [readM, if_pos (by omega)]
    refine Cd.memClose 0 5 6 7 (by decide) hf rfl rfl rfl rfl ?_
    rw [hV]
    refine Cd.ret [(0, _), (1, _)] rfl (res2 rfl rfl rfl) ⟨rfl, rfl, trivial⟩ ⟨rfl, none, 0, rfl, rfl⟩
  try simp only [decide_eq_false_iff_not, decide_eq_true_eq, Int.not_lt, Int.not_le, Bool.not_eq_false, Bool.not_eq_true, Bool.not_true, Bool.not_false, Bool.not_eq_true', Bool.not_eq_false', beq_eq_false_iff_ne, ne_eq, beq_iff_eq, bne_iff_ne, bne_eq_false_iff_eq, Classical.not_not] at g10
  refine Cd.seq fun K27 hK27 => ?_
  refine Cd.plain [(0, false), (1, false), (2, false), (3, false), (4, false), (5, false)] rfl rfl ?_
  obtain ⟨m, rfl⟩ := Int.eq_ofNat_of_zero_le (show 0 ≤ n by omega)
  refine Jp.y 18 rfl (want_all rfl) rfl rfl Kp.true (Y.move rfl rfl) ?_
  refine Jp.y 19 rfl (want_all rfl) rfl rfl Kp.true (Y.move rfl rfl) ?_
  refine Jp.y 20 rfl (want_all rfl) rfl rfl Kp.true (Y.move rfl rfl) ?_
  refine Jp.call [0, 5, 7] [0, 5, 7] (all_spec b M x hf a m 1 ha (by omega)) 21 rfl (want_all rfl) rfl rfl (Runs.fn rfl Try.call99 rfl) (by decide) (by decide) rfl trivial ?_
  rintro v1 ρ1 L1 ⟨rfl, rfl, rfl⟩
  refine ⟨rfl, fun hle1 => ⟨Kp.true, ?_⟩⟩
  refine Jp.y 22 rfl (want_all rfl) rfl rfl Kp.true (Y.not rfl rfl) ?_
  refine Jp.y 17 rfl (want_all rfl) rfl rfl Kp.true (Y.assign rfl rfl) ?_
  refine Jp.done hK27 ?_
  refine Cd.cond rfl (fun g17 => ?_) (fun g17 => ?_)
  · skip
    try simp only [decide_eq_false_iff_not, decide_eq_true_eq, Int.not_lt, Int.not_le, Bool.not_eq_false, Bool.not_eq_true, Bool.not_true, Bool.not_false, Bool.not_eq_true', Bool.not_eq_false', beq_eq_false_iff_ne, ne_eq, beq_iff_eq, bne_iff_ne, bne_eq_false_iff_eq, Classical.not_not] at g17
    refine Cd.seq fun K28 hK28 => ?_
    refine Cd.plain [(0, false), (1, false)] rfl rfl ?_
    refine Jp.y 6 rfl (want_all rfl) rfl rfl Kp.true (Y.assign rfl rfl) ?_
    refine Jp.y 7 rfl (want_all rfl) rfl rfl Kp.true (Y.assign rfl rfl) ?_
    refine Jp.done hK28 ?_
    have hV : readM M a m = ([], 8) := by rw [readM, if_neg (by omega), if_pos (show allM M a (m : Int).toNat 1 = false from g17)]
    refine Cd.memClose 0 5 6 7 (by decide) hf rfl rfl rfl rfl ?_
    rw [hV]
    refine Cd.ret [(0, _), (1, _)] rfl (res2 rfl rfl rfl) ⟨rfl, rfl, trivial⟩ ⟨rfl, none, 0, rfl, rfl⟩
  try simp only [decide_eq_false_iff_not, decide_eq_true_eq, Int.not_lt, Int.not_le, Bool.not_eq_false, Bool.not_eq_true, Bool.not_true, Bool.not_false, Bool.not_eq_true', Bool.not_eq_false', beq_eq_false_iff_ne, ne_eq, beq_iff_eq, bne_iff_ne, bne_eq_false_iff_eq, Classical.not_not] at g17
  refine Cd.over rfl hK23 ?_
  refine Cd.seq fun K29 hK29 => ?_
  refine Cd.plain [(0, false)] rfl rfl ?_
  refine Jp.y 8 rfl (want_all rfl) rfl rfl Kp.true (Y.assign rfl rfl) ?_
  refine Jp.done hK29 ?_
  refine Cd.seq fun K30 hK30 => ?_
  refine Cd.seq fun K31 hK31 => ?_
  refine Cd.plain [(0, false), (1, false), (2, false)] rfl rfl ?_
  refine Jp.y 23 rfl (want_all rfl) rfl rfl Kp.true (Y.move rfl rfl) ?_
  refine Jp.y 24 rfl (want_all rfl) rfl rfl Kp.true (Y.conv_ rfl rfl Try.underlying3 Try.underlying25 (by first | exact wrap_u32 (by omega) (by omega) | rfl)) ?_
  refine Jp.y 25 rfl (want_all rfl) rfl rfl Kp.true (Y.move rfl rfl) ?_
  refine Jp.done hK31 ?_
  refine Cd.block ?_
  have hV : readM M a m = (readL M a m, 0) := by rw [readM, if_neg (by omega), if_neg (by show ¬ allM M a m 1 = false; rw [g17]; simp)]; rfl
  refine Cd.loopK (G := Nat × Option Addr × Nat) (fun g => g.1 ≤ m) (fun g => m - g.1) (fun _ => _) (fun g => [(8, .slice g.2.1 g.1 g.2.2), (25, .int .u32 g.1)]) [(0, _), (1, _), (24, _)] (fun g => [(1, OwnS 5 1 g.2.1 g.1 g.2.2 (bytesV (readL M a g.1)))]) [(0, _), (5, _), (6, _), (7, _)] ⟨0, none, 0⟩ (Nat.zero_le _) rfl ⟨rfl, rfl, trivial⟩ ⟨rfl, rfl, rfl, trivial⟩ ⟨rfl, trivial⟩ ⟨rfl, rfl, rfl, rfl, trivial⟩ (fun g KLa hok hLa => ?_)
  obtain ⟨k, A, c⟩ := g
  dsimp only at hok ⊢
  refine Cd.seq fun K32 hK32 => ?_
  refine Cd.plain [(0, false)] rfl rfl ?_
  refine Jp.y 26 rfl (want_all rfl) rfl rfl Kp.true (Y.lss rfl rfl rfl) ?_
  refine Jp.done hK32 ?_
  refine Cd.seq fun K33 hK33 => ?_
  refine Cd.cond rfl (fun ga => ?_) (fun ga => ?_)
  · simp only [decide_eq_true_eq] at ga
    have hk : k < m := by omega
    obtain ⟨hle, p, hg, hm⟩ := allM_page g17 hk
    have hpo := hf.ok.page _ (getPg_mem hg)
    have hlen : p.b.length = 256 := hpo.len
    have hget := hf.get (baseN (a + k))
    rw [hg] at hget
    have hj : (a + k) % 256 < 256 := Nat.mod_lt _ (by omega)
    have hcell := Blks.cell (MemF.blk (x := x) hg) (pageCells_byte p hlen hj)
    have hbyte : p.b[(a + k) % 256]'(by omega) = byteM M (a + k) := by rw [byteM, hg]; simp [List.getD_eq_getElem?_getD, List.getElem?_eq_getElem (show (a + k) % 256 < p.b.length by omega)]
    rw [hbyte] at hcell
    refine Cd.skip hK33 ?_
    refine Cd.seq fun K34 hK34 => ?_
    refine Cd.block ?_
    refine Cd.seq fun K35 hK35 => ?_
    refine Cd.plain [(0, false), (1, false)] rfl rfl ?_
    refine Jp.y 27 rfl (want_all rfl) rfl rfl Kp.true (Y.move rfl rfl) ?_
    refine Jp.y 9 rfl (want_all rfl) rfl rfl Kp.true (Y.assign rfl rfl) ?_
    refine Jp.done hK35 ?_
    refine Cd.drawn [(0, _), (5, _), (7, _)] ⟨rfl, rfl, rfl, trivial⟩ [(0, true), (1, true), (2, true), (3, true), (4, true), (5, true), (6, true), (7, true), (10, true), (11, true), (12, true), (13, true), (8, false), (9, true), (14, true), (15, true), (16, true), (17, true), (18, false), (19, false), (20, true)] follows (by kernel_rfl) (fun hrl => ?_)
    refine Jp.q 28 rfl (want_all rfl) rfl rfl (Y.move rfl rfl) ?_
    refine Jp.q 29 rfl (want_all rfl) rfl rfl (Y.move rfl rfl) ?_
    refine Jp.q 30 rfl (want_all rfl) rfl rfl (Y.nilCheck rfl rfl) ?_
    refine Jp.q 31 rfl (want_all rfl) rfl rfl (by first | exact Y.fieldAddrP rfl rfl Try.underlying115 rfl Try.sizeOf112 (by decide) (show _ + 1 = _ from rfl) | exact Y.fieldAddr rfl rfl Try.underlying115 rfl Try.sizeOf112 (by decide)) ?_
    refine Jp.q 32 rfl (want_all rfl) rfl rfl (Y.loadO 0 rfl Try.isAgg112 rfl rfl rfl) ?_
    refine Jp.q 33 rfl (want_all rfl) rfl rfl (Y.move rfl rfl) ?_
    refine Jp.q 34 rfl (want_all rfl) rfl rfl (Y.move rfl rfl) ?_
    refine Jp.q 35 rfl (want_all rfl) rfl rfl (Y.add_ rfl rfl rfl (by first | exact wrap_u32 (by omega) (by omega) | rfl)) ?_
    refine Jp.q 38 rfl (want_all rfl) rfl rfl (Y.move rfl rfl) ?_
    refine Jp.q 39 rfl (want_all rfl) rfl rfl (Y.move rfl rfl) ?_
    refine Jp.q 40 rfl (want_all rfl) rfl rfl (Y.add_ rfl rfl rfl (by first | exact wrap_u32 (by omega) (by omega) | rfl)) ?_
    refine Jp.q 41 rfl (want_all rfl) rfl rfl (by first | exact Y.remN rfl rfl rfl (by omega) (by omega) | exact Y.rem rfl rfl rfl (by first | decide | omega)) ?_
    refine Jp.slot 35 rfl (congrArg (Value.int .u32) (show (a : Int) + k = ((a + k : Nat) : Int) by omega)) ?_
    refine Jp.call [] [] (base_spec (a + k) (by omega)) 36 rfl (want_all rfl) rfl rfl (Runs.fn rfl Try.call72 rfl) (by decide) (by decide) rfl trivial ?_
    rintro v3 ρ3 L3 ⟨rfl, rfl, rfl⟩
    refine ⟨rfl, fun hle3 => ⟨(Kp.st ⟨rfl, rfl, rfl, trivial⟩), ?_⟩⟩
    refine Jp.q 37 rfl (want_all rfl) rfl rfl (by first | exact Y.lookup 5 rfl rfl rfl Try.underlying112 Try.underlying25 Try.zeroValue143 rfl) ?_
    refine Jp.slot 37 rfl (show _ = Value.pointer (some ⟨x.blk (baseN (a + k)), 0, none⟩) by rw [hget]; rfl) ?_
    refine Jp.q 42 rfl (want_all rfl) rfl rfl (Y.nilCheck rfl rfl) ?_
    refine Jp.q 43 rfl (want_all rfl) rfl rfl (by first | exact Y.fieldAddrP rfl rfl Try.underlying145 rfl Try.sizeOf106 (by decide) (show _ + 0 = _ from rfl) | exact Y.fieldAddr rfl rfl Try.underlying145 rfl Try.sizeOf106 (by decide)) ?_
    refine Jp.q 44 rfl (want_all rfl) rfl rfl (Y.indexArrP (q := (a + k) % 256) rfl rfl rfl Try.underlying106 Try.sizeOf5 (by omega) (by omega) (by omega)) ?_
    refine Jp.q 45 rfl (want_all rfl) rfl rfl (by first | exact Y.loadO 0 rfl Try.isAgg5 rfl rfl rfl | exact Y.loadC 7 rfl Try.isAgg5 rfl rfl hcell) ?_
    refine Jp.lit 46 50 [(0, _)] [_] rfl (want_all rfl) rfl rfl rfl rfl Try.underlying38 Try.sizeOf5 Try.zeroValue5 rfl rfl rfl rfl rfl fun b50 => ⟨(Kp.st ⟨rfl, rfl, rfl, trivial⟩), ?_⟩
    refine Jp.append 47 1 rfl (want_all rfl) rfl rfl rfl Try.underlying38 Try.underlying38 (.inl ⟨_, rfl⟩) Try.sizeOf5 Try.typeInfo5 Try.zeroValue5 rfl (by decide) rfl rfl rfl (Src.own 50 rfl) rfl ((k + 1)) ((bytesV (readL M a (k + 1)))) (by first | omega | simp) (by rw [readL_succ]; simp [bytesV]) (by simp only [Try.t5]; omega) fun AN cN => ⟨(Kp.st ⟨rfl, rfl, rfl, trivial⟩), ?_⟩
    refine Jp.q 8 rfl (want_all rfl) rfl rfl (Y.assign rfl rfl) ?_
    refine Jp.over rfl hK34 ?_
    refine Cd.plain [(0, false), (1, false)] rfl rfl ?_
    refine Jp.y 48 rfl (want_all rfl) rfl rfl Kp.true (Y.add_ rfl rfl rfl (by first | exact wrap_u32 (by omega) (by omega) | rfl)) ?_
    refine Jp.y 25 rfl (want_all rfl) rfl rfl Kp.true (Y.move rfl rfl) ?_
    refine Jp.again hLa ⟨k + 1, AN, cN⟩ (by show k + 1 ≤ m; omega) (by show m - (k + 1) < m - k; omega) rfl ⟨rfl, rfl, rfl, rfl, rfl, trivial⟩ ⟨rfl, rfl, rfl, rfl, rfl, trivial⟩
  · simp only [decide_eq_false_iff_not] at ga
    obtain rfl : k = m := by omega
    refine Cd.exit rfl hK30 ?_
    refine Cd.seq fun K37 hK37 => ?_
    refine Cd.plain [(0, false), (1, false), (2, false)] rfl rfl ?_
    refine Jp.y 49 rfl (want_all rfl) rfl rfl Kp.true (Y.move rfl rfl) ?_
    refine Jp.y 6 rfl (want_all rfl) rfl rfl Kp.true (Y.assign rfl rfl) ?_
    refine Jp.y 7 rfl (want_all rfl) rfl rfl Kp.true (Y.assign rfl rfl) ?_
    refine Jp.done hK37 ?_
    refine Cd.memClose 0 5 6 7 (by decide) hf rfl rfl rfl rfl ?_
    have hl : (readL M a k).length = k := readL_length ..
    rw [hV]
    refine Cd.ret [(0, _), (1, _)] rfl (res2 rfl rfl rfl) ⟨rfl, rfl, trivial⟩ ⟨rfl, A, c, by rw [hl], by rw [hl]⟩
end Go.Proofs.Ytgmhijlcdadaeaa
set_option linter.unusedVariables false
set_option linter.unusedSimpArgs false
set_option maxRecDepth 100000
namespace Go.Proofs.Ytgmhijlcdadaeaa
open Go
def setByte (l : List (Nat × Pg)) (at' : Nat) (x : UInt8) : List (Nat × Pg) := match getPg l (baseN at') with
  | some p => setPg l (baseN at') ⟨p.b.set (at' % 256) x, p.perm⟩
  | none => l
def wrM (M : MemG) (a : Nat) (l : Bytes) : Nat → MemG
  | 0 => M
  | i + 1 => { wrM M a l i with pages := setByte (wrM M a l i).pages (a + i) (l.getD i 0), gens := if i = 0 ∨ (a + i) % 256 = 0 then bump (wrM M a l i).gens (baseN (a + i)) else (wrM M a l i).gens }
def writeM (M : MemG) (a : Nat) (l : Bytes) (most need : Int) : Int × MemG := if most < l.length then (1, M) else if allM M a l.length need = false then (8, M) else (0, wrM M a l l.length)
theorem getPg_setByte (l : List (Nat × Pg)) (at' : Nat) (x : UInt8) (k : Nat) : getPg (setByte l at' x) k = if k = baseN at' then (getPg l k).map fun p => ⟨p.b.set (at' % 256) x, p.perm⟩ else getPg l k := by
  unfold setByte
  split
  · rename_i p hp
    rw [getPg_set]
    by_cases h : k = baseN at'
    · subst h; simp [hp]
    · simp [h]
  · rename_i hp
    by_cases h : k = baseN at'
    · subst h; simp [hp]
    · simp [h]
theorem wrM_page {M : MemG} (a : Nat) (l : Bytes) {k : Nat} {p : Pg} (h : getPg M.pages k = some p) (i : Nat) : ∃ q, getPg (wrM M a l i).pages k = some q ∧ q.perm = p.perm ∧ q.b.length = p.b.length := by
  induction i with
  | zero => exact ⟨p, h, rfl, rfl⟩
  | succ i ih =>
    obtain ⟨q, h1, h2, h3⟩ := ih
    show ∃ q, getPg (setByte _ _ _) k = some q ∧ _
    rw [getPg_setByte, h1]
    by_cases hk : k = baseN (a + i)
    · rw [if_pos hk]; exact ⟨_, rfl, h2, by simpa using h3⟩
    · rw [if_neg hk]; exact ⟨q, rfl, h2, h3⟩
theorem wrM_ok {M : MemG} (h : MemOk M) (a : Nat) (l : Bytes) (i : Nat) : MemOk (wrM M a l i) := by
  induction i with
  | zero => exact h
  | succ i ih =>
    have h1 : MemOk { wrM M a l i with pages := setByte (wrM M a l i).pages (a + i) (l.getD i 0) } := by
      unfold setByte
      split
      · rename_i p hp
        have hpo := ih.page _ (getPg_mem hp)
        exact ih.set hp (by simpa using hpo.len) hpo.perm
      · exact ih
    show MemOk { pages := _, gens := _, budget := _ }
    split
    · exact h1.bump (baseN (a + i))
    · exact h1
theorem wrM_budget (M : MemG) (a : Nat) (l : Bytes) (i : Nat) : (wrM M a l i).budget = M.budget := by
  induction i with
  | zero => rfl
  | succ i ih => exact ih
theorem wrM_bump {M : MemG} {a i : Nat} {l : Bytes} {q : Pg} {x : UInt8} (hx : l[i]? = some x) (hq : getPg (wrM M a l i).pages (baseN (a + i)) = some q) (h : i = 0 ∨ (a + i) % 256 = 0) :
    wrM M a l (i + 1) = { wrM M a l i with pages := setPg (wrM M a l i).pages (baseN (a + i)) ⟨q.b.set ((a + i) % 256) x, q.perm⟩, gens := bump (wrM M a l i).gens (baseN (a + i)) } := by
  rw [wrM, if_pos h, setByte, hq, List.getD_eq_getElem?_getD, hx]; rfl
theorem wrM_still {M : MemG} {a i : Nat} {l : Bytes} {q : Pg} {x : UInt8} (hx : l[i]? = some x) (hq : getPg (wrM M a l i).pages (baseN (a + i)) = some q) (h : ¬ (i = 0 ∨ (a + i) % 256 = 0)) :
    wrM M a l (i + 1) = { wrM M a l i with pages := setPg (wrM M a l i).pages (baseN (a + i)) ⟨q.b.set ((a + i) % 256) x, q.perm⟩ } := by
  rw [wrM, if_neg h, setByte, hq, List.getD_eq_getElem?_getD, hx]; rfl
theorem pageCells_set (p : Pg) {j : Nat} (h : p.b.length = 256) (hj : j < 256) (x : UInt8) : (pageCells p).toArray.setIfInBounds j (.int .u8 (x.toNat : Int)) = (pageCells ⟨p.b.set j x, p.perm⟩).toArray := by
  rw [List.setIfInBounds_toArray]
  congr 1
  rw [pageCells, List.set_append_left _ _ (by rw [bytesV, List.length_map]; omega), bytesV_set]; rfl
theorem RdB.cell {s : Sl UInt8} {ρ : Hp} (hr : RdB s ρ) {i : Nat} {x : UInt8} (h : s.xs[i]? = some x) : ∃ ad, s.A = some ad ∧ cellH ρ (ad.add i) = some (.int .u8 (x.toNat : Int)) :=
  hr.2.2 i _ (by rw [bytesV, List.getElem?_map, h]; rfl)
theorem write_spec (b : Nat) (M : MemG) (a : Nat) (s : Sl UInt8) (most need : Int) (ha : a < 4294967296) (hmost : most ≤ 65536) : Spec Try.prog 67 #[.pointer (some ⟨b, 0, none⟩), .int .u32 a, s.v, .int .i64 most, .int .i64 need] (RdB s) [(0, MemO b M)]
    (fun ρ ρ' v L => ρ' = ρ ∧ v = .int .i64 (writeM M a s.xs most need).1 ∧ L = [(0, MemO b (writeM M a s.xs most need).2)]) := by
  obtain ⟨A, c, xs⟩ := s
  dsimp only [Sl.v]
  refine Spec.of 67 Try.func67 rfl Try.ntmps67 [(0, _), (1, _), (2, _), (3, _), (4, _)] rfl rfl ?_
  intro cx ρ hr h0
  have lx : xs.length ≤ 281474976710656 := hr.2.1.2
  refine Cd.memOpen 0 1 2 3 (by decide) rfl fun x hf => ?_
  refine Cd.seq fun K1 hK1 => ?_
  refine Cd.plain [(0, false)] rfl rfl ?_
  refine Jp.y 10 rfl (want_all rfl) rfl rfl Kp.true (Y.assign rfl rfl) ?_
  refine Jp.done hK1 ?_
  refine Cd.seq fun K2 hK2 => ?_
  refine Cd.block ?_
  refine Cd.seq fun K3 hK3 => ?_
  refine Cd.plain [(0, false), (1, false), (2, false), (3, false), (4, false)] rfl rfl ?_
  refine Jp.y 15 rfl (want_all rfl) rfl rfl Kp.true (Y.move rfl rfl) ?_
  refine Jp.y 16 rfl (want_all rfl) rfl rfl Kp.true (Y.lenslice rfl Try.underlying38 rfl) ?_
  refine Jp.y 17 rfl (want_all rfl) rfl rfl Kp.true (Y.move rfl rfl) ?_
  refine Jp.y 18 rfl (want_all rfl) rfl rfl Kp.true (Y.gtr rfl rfl rfl) ?_
  refine Jp.y 14 rfl (want_all rfl) rfl rfl Kp.true (Y.assign rfl rfl) ?_
  refine Jp.done hK3 ?_
  refine Cd.cond rfl (fun g14 => ?_) (fun g14 => ?_)
  · skip
    try simp only [decide_eq_false_iff_not, decide_eq_true_eq, Int.not_lt, Int.not_le, Bool.not_eq_false, Bool.not_eq_true, Bool.not_true, Bool.not_false, Bool.not_eq_true', Bool.not_eq_false', beq_eq_false_iff_ne, ne_eq, beq_iff_eq, bne_iff_ne, bne_eq_false_iff_eq, Classical.not_not] at g14
    refine Cd.seq fun K4 hK4 => ?_
    refine Cd.plain [(0, false)] rfl rfl ?_
    refine Jp.y 10 rfl (want_all rfl) rfl rfl Kp.true (Y.assign rfl rfl) ?_
    refine Jp.done hK4 ?_
    have hV : writeM M a xs most need = (1, M) := by rw [writeM, if_pos (by omega)]
    refine Cd.memClose 0 1 2 3 (by decide) hf rfl rfl rfl rfl ?_
    refine Cd.ret [(0, _)] rfl (res1 rfl rfl) ⟨rfl, trivial⟩ ⟨rfl, by rw [hV], by rw [hV]⟩
  try simp only [decide_eq_false_iff_not, decide_eq_true_eq, Int.not_lt, Int.not_le, Bool.not_eq_false, Bool.not_eq_true, Bool.not_true, Bool.not_false, Bool.not_eq_true', Bool.not_eq_false', beq_eq_false_iff_ne, ne_eq, beq_iff_eq, bne_iff_ne, bne_eq_false_iff_eq, Classical.not_not] at g14
  refine Cd.seq fun K5 hK5 => ?_
  refine Cd.plain [(0, false), (1, false), (2, false), (3, false), (4, false), (5, false), (6, false), (7, false)] rfl rfl ?_
  refine Jp.y 20 rfl (want_all rfl) rfl rfl Kp.true (Y.move rfl rfl) ?_
  refine Jp.y 21 rfl (want_all rfl) rfl rfl Kp.true (Y.move rfl rfl) ?_
  refine Jp.y 22 rfl (want_all rfl) rfl rfl Kp.true (Y.move rfl rfl) ?_
  refine Jp.y 23 rfl (want_all rfl) rfl rfl Kp.true (Y.lenslice rfl Try.underlying38 rfl) ?_
  refine Jp.y 24 rfl (want_all rfl) rfl rfl Kp.true (Y.move rfl rfl) ?_
  refine Jp.call [0, 1, 3] [0, 1, 3] (all_spec b M x hf a xs.length need ha (by omega)) 25 rfl (want_all rfl) rfl rfl (Runs.fn rfl Try.call99 rfl) (by decide) (by decide) rfl trivial ?_
  rintro v1 ρ1 L1 ⟨rfl, rfl, rfl⟩
  refine ⟨rfl, fun hle1 => ⟨Kp.true, ?_⟩⟩
  refine Jp.y 26 rfl (want_all rfl) rfl rfl Kp.true (Y.not rfl rfl) ?_
  refine Jp.y 19 rfl (want_all rfl) rfl rfl Kp.true (Y.assign rfl rfl) ?_
  refine Jp.done hK5 ?_
  refine Cd.cond rfl (fun g19 => ?_) (fun g19 => ?_)
  · skip
    try simp only [decide_eq_false_iff_not, decide_eq_true_eq, Int.not_lt, Int.not_le, Bool.not_eq_false, Bool.not_eq_true, Bool.not_true, Bool.not_false, Bool.not_eq_true', Bool.not_eq_false', beq_eq_false_iff_ne, ne_eq, beq_iff_eq, bne_iff_ne, bne_eq_false_iff_eq, Classical.not_not] at g19
    refine Cd.seq fun K6 hK6 => ?_
    refine Cd.plain [(0, false)] rfl rfl ?_
    refine Jp.y 10 rfl (want_all rfl) rfl rfl Kp.true (Y.assign rfl rfl) ?_
    refine Jp.done hK6 ?_
    have hV : writeM M a xs most need = (8, M) := by rw [writeM, if_neg (by omega), if_pos g19]
    refine Cd.memClose 0 1 2 3 (by decide) hf rfl rfl rfl rfl ?_
    refine Cd.ret [(0, _)] rfl (res1 rfl rfl) ⟨rfl, trivial⟩ ⟨rfl, by rw [hV], by rw [hV]⟩
  try simp only [decide_eq_false_iff_not, decide_eq_true_eq, Int.not_lt, Int.not_le, Bool.not_eq_false, Bool.not_eq_true, Bool.not_true, Bool.not_false, Bool.not_eq_true', Bool.not_eq_false', beq_eq_false_iff_ne, ne_eq, beq_iff_eq, bne_iff_ne, bne_eq_false_iff_eq, Classical.not_not] at g19
  refine Cd.over rfl hK2 ?_
  refine Cd.seq fun K7 hK7 => ?_
  refine Cd.seq fun K8 hK8 => ?_
  refine Cd.plain [(0, false), (1, false), (2, false)] rfl rfl ?_
  refine Jp.y 27 rfl (want_all rfl) rfl rfl Kp.true (Y.move rfl rfl) ?_
  refine Jp.y 28 rfl (want_all rfl) rfl rfl Kp.true (Y.lenslice rfl Try.underlying38 rfl) ?_
  refine Jp.y 29 rfl (want_all rfl) rfl rfl Kp.true (Y.move rfl rfl) ?_
  refine Jp.done hK8 ?_
  refine Cd.block ?_
  have hV : writeM M a xs most need = (0, wrM M a xs xs.length) := by rw [writeM, if_neg (by omega), if_neg (by rw [g19]; simp)]
  refine Cd.loopK (G := Nat × MemX) (fun g => g.1 ≤ xs.length ∧ MemF (wrM M a xs g.1) g.2 ∧ g.2.pb = x.pb ∧ g.2.gb = x.gb) (fun g => xs.length - g.1) (fun _ => _) (fun g => [(29, .int .i64 g.1)]) [(0, _), (1, _), (27, _), (28, _)] (fun g => [(1, MapO .u32 x.pb g.2.pm), (2, MapO .u32 x.gb g.2.gm), (3, Blks (blksOf (wrM M a xs g.1) g.2))]) [(0, _)] ⟨0, x⟩ ⟨Nat.zero_le _, hf, rfl, rfl⟩ rfl ⟨rfl, trivial⟩ ⟨rfl, rfl, rfl, rfl, trivial⟩ ⟨rfl, rfl, rfl, trivial⟩ ⟨rfl, trivial⟩ (fun g KLa hok hLa => ?_)
  obtain ⟨i, y⟩ := g
  obtain ⟨ok1, ok2, ok3, ok4⟩ := hok
  dsimp only at ok1 ok2 ok3 ok4 ⊢
  refine Cd.seq fun K9 hK9 => ?_
  refine Cd.plain [(0, false)] rfl rfl ?_
  refine Jp.y 30 rfl (want_all rfl) rfl rfl Kp.true (Y.lss rfl rfl rfl) ?_
  refine Jp.done hK9 ?_
  refine Cd.seq fun K10 hK10 => ?_
  refine Cd.cond rfl (fun ga => ?_) (fun ga => ?_)
  · simp only [decide_eq_true_eq] at ga
    have hi : i < xs.length := by omega
    have hx : xs[i]? = some xs[i] := by simp [hi]
    obtain ⟨hle, p, hg, hm⟩ := allM_page g19 hi
    obtain ⟨ad, hA, hc⟩ := RdB.cell hr hx
    dsimp only at hA
    subst hA
    have hpo := hf.ok.page _ (getPg_mem hg)
    obtain ⟨q, hq, hq1, hq2⟩ := wrM_page a xs hg i
    have hql : q.b.length = 256 := by rw [hq2]; exact hpo.len
    have hget := ok2.get (baseN (a + i))
    rw [hq] at hget
    have hj : (a + i) % 256 < 256 := Nat.mod_lt _ (by omega)
    have hf2 : MemF { wrM M a xs i with pages := setPg (wrM M a xs i).pages (baseN (a + i)) ⟨q.b.set ((a + i) % 256) xs[i], q.perm⟩ } y := ok2.set hq (by simpa using hql) (by rw [hq1]; exact hpo.perm)
    refine Cd.skip hK10 ?_
    refine Cd.seq fun K11 hK11 => ?_
    refine Cd.block ?_
    refine Cd.seq fun K12 hK12 => ?_
    refine Cd.plain [(0, false), (1, false), (2, false), (3, false), (4, false)] rfl rfl ?_
    refine Jp.y 31 rfl (want_all rfl) rfl rfl Kp.true (Y.move rfl rfl) ?_
    refine Jp.y 32 rfl (want_all rfl) rfl rfl Kp.true (Y.indexAddr (q := i) rfl rfl rfl Try.underlying38 Try.sizeOf5 (by omega) (by omega) (by omega)) ?_
    refine Jp.y 33 rfl (want_all rfl) rfl rfl Kp.true (by first | exact Y.loadO 0 rfl Try.isAgg5 rfl rfl rfl | exact Y.loadR rfl Try.isAgg5 rfl hc) ?_
    refine Jp.y 11 rfl (want_all rfl) rfl rfl Kp.true (Y.assign rfl rfl) ?_
    refine Jp.y 12 rfl (want_all rfl) rfl rfl Kp.true (Y.assign rfl rfl) ?_
    refine Jp.done hK12 ?_
    refine Cd.seq fun K13 hK13 => ?_
    refine Cd.plain [(0, false), (1, false), (2, false), (3, false), (4, false)] rfl rfl ?_
    refine Jp.y 34 rfl (want_all rfl) rfl rfl Kp.true (Y.move rfl rfl) ?_
    refine Jp.y 35 rfl (want_all rfl) rfl rfl Kp.true (Y.move rfl rfl) ?_
    refine Jp.y 36 rfl (want_all rfl) rfl rfl Kp.true (Y.conv_ rfl rfl Try.underlying3 Try.underlying25 (by first | exact wrap_u32 (by omega) (by omega) | rfl)) ?_
    refine Jp.y 37 rfl (want_all rfl) rfl rfl Kp.true (Y.add_ rfl rfl rfl (by first | exact wrap_u32 (by omega) (by omega) | rfl)) ?_
    refine Jp.slot 37 rfl (congrArg (Value.int .u32) (show (a : Int) + i = ((a + i : Nat) : Int) by omega)) ?_
    refine Jp.y 13 rfl (want_all rfl) rfl rfl Kp.true (Y.assign rfl rfl) ?_
    refine Jp.done hK13 ?_
    refine Cd.seq fun K14 hK14 => ?_
    refine Cd.drawn [(0, _), (1, _)] ⟨rfl, rfl, trivial⟩ [(0, true), (1, true), (2, true), (3, true), (4, true), (7, true), (8, true), (9, true), (5, false), (6, true), (10, true), (11, true), (12, true), (13, false)] follows (by kernel_rfl) (fun hrl => ?_)
    refine Jp.q 38 rfl (want_all rfl) rfl rfl (Y.move rfl rfl) ?_
    refine Jp.q 39 rfl (want_all rfl) rfl rfl (Y.nilCheck rfl rfl) ?_
    refine Jp.q 40 rfl (want_all rfl) rfl rfl (by first | exact Y.fieldAddrP rfl rfl Try.underlying115 rfl Try.sizeOf112 (by decide) (show _ + 1 = _ from rfl) | exact Y.fieldAddr rfl rfl Try.underlying115 rfl Try.sizeOf112 (by decide)) ?_
    refine Jp.q 41 rfl (want_all rfl) rfl rfl (by first | exact Y.loadO 0 rfl Try.isAgg112 rfl rfl rfl | exact Y.loadR rfl Try.isAgg112 rfl hc) ?_
    refine Jp.q 42 rfl (want_all rfl) rfl rfl (Y.move rfl rfl) ?_
    refine Jp.q 45 rfl (want_all rfl) rfl rfl (Y.move rfl rfl) ?_
    refine Jp.q 46 rfl (want_all rfl) rfl rfl (by first | exact Y.remN rfl rfl rfl (by omega) (by omega) | exact Y.rem rfl rfl rfl (by first | decide | omega)) ?_
    refine Jp.q 47 rfl (want_all rfl) rfl rfl (Y.move rfl rfl) ?_
    refine Jp.call [] [] (base_spec (a + i) (by omega)) 43 rfl (want_all rfl) rfl rfl (Runs.fn rfl Try.call72 rfl) (by decide) (by decide) rfl trivial ?_
    rintro v3 ρ3 L3 ⟨rfl, rfl, rfl⟩
    refine ⟨rfl, fun hle3 => ⟨(Kp.st ⟨rfl, rfl, trivial⟩), ?_⟩⟩
    refine Jp.q 44 rfl (want_all rfl) rfl rfl (by first | exact Y.lookup 1 rfl rfl rfl Try.underlying112 Try.underlying25 Try.zeroValue143 rfl) ?_
    refine Jp.slot 44 rfl (show _ = Value.pointer (some ⟨y.blk (baseN (a + i)), 0, none⟩) by rw [hget]; rfl) ?_
    refine Jp.know (φ := ((blksOf (wrM M a xs i) y).map (·.1)).Nodup) (A := Blks (blksOf (wrM M a xs i) y)) 3 rfl (fun _ h => h.1) fun hnd => ?_
    refine Jp.q 48 rfl (want_all rfl) rfl rfl (Y.nilCheck rfl rfl) ?_
    refine Jp.q 49 rfl (want_all rfl) rfl rfl (by first | exact Y.fieldAddrP rfl rfl Try.underlying145 rfl Try.sizeOf106 (by decide) (show _ + 0 = _ from rfl) | exact Y.fieldAddr rfl rfl Try.underlying145 rfl Try.sizeOf106 (by decide)) ?_
    refine Jp.q 50 rfl (want_all rfl) rfl rfl (Y.indexArrP (q := (a + i) % 256) rfl rfl rfl Try.underlying106 Try.sizeOf5 (by omega) (by omega) (by omega)) ?_
    refine Jp.storeC 3 (Blks (blksOf { wrM M a xs i with pages := setPg (wrM M a xs i).pages (baseN (a + i)) ⟨q.b.set ((a + i) % 256) xs[i], q.perm⟩ } y)) rfl (want_all rfl) rfl rfl Try.sizeOf5 rfl rfl rfl rfl rfl (Blks.set (MemF.blk hq) (by simp [pageCells, bytesV, hql]; omega) (noFr0 _) (by rw [pageCells_set q hql hj]; exact updB_blks hnd hq)) Kp.last ?_
    refine Jp.done hK14 ?_
    refine Cd.seq fun K16 hK16 => ?_
    refine Cd.plain [(0, false), (1, false), (2, false), (3, false), (4, false), (5, false), (6, false)] rfl rfl ?_
    refine Jp.y 51 rfl (want_all rfl) rfl rfl Kp.true (Y.move rfl rfl) ?_
    refine Jp.y 52 rfl (want_all rfl) rfl rfl Kp.true (Y.eql rfl rfl rfl) ?_
    refine Jp.y 53 rfl (want_all rfl) rfl rfl Kp.true (Y.move rfl rfl) ?_
    refine Jp.split 53 rfl (fun g53 => ?_) (fun g53 => ?_)
    · skip
      try simp only [decide_eq_false_iff_not, decide_eq_true_eq, Int.not_lt, Int.not_le, Bool.not_eq_false, Bool.not_eq_true, Bool.not_true, Bool.not_false, Bool.not_eq_true', Bool.not_eq_false', beq_eq_false_iff_ne, ne_eq, beq_iff_eq, bne_iff_ne, bne_eq_false_iff_eq, Classical.not_not] at g53
      refine Jp.skip 54 rfl (want_as rfl rfl rfl rfl) rfl rfl Kp.true ?_
      refine Jp.skip 55 rfl (want_as rfl rfl rfl rfl) rfl rfl Kp.true ?_
      refine Jp.skip 56 rfl (want_as rfl rfl rfl rfl) rfl rfl Kp.true ?_
      refine Jp.y 57 rfl (want_all rfl) rfl rfl Kp.true (Y.pickT rfl rfl rfl) ?_
      refine Jp.done hK16 ?_
      refine Cd.condT rfl ?_
      refine Cd.drawn [(0, _), (2, _)] ⟨rfl, rfl, trivial⟩ [(0, true), (1, true), (2, true), (3, true), (4, true), (5, false), (6, true), (7, true), (8, false)] follows (by kernel_rfl) (fun hrl => ?_)
      have hc : i = 0 ∨ (a + i) % 256 = 0 := by omega
      have e := wrM_bump hx hq hc
      refine Jp.q 58 rfl (want_all rfl) rfl rfl (Y.move rfl rfl) ?_
      refine Jp.q 59 rfl (want_all rfl) rfl rfl (Y.nilCheck rfl rfl) ?_
      refine Jp.q 60 rfl (want_all rfl) rfl rfl (by first | exact Y.fieldAddrP rfl rfl Try.underlying115 rfl Try.sizeOf113 (by decide) (show _ + 2 = _ from rfl) | exact Y.fieldAddr rfl rfl Try.underlying115 rfl Try.sizeOf113 (by decide)) ?_
      refine Jp.q 61 rfl (want_all rfl) rfl rfl (by first | exact Y.loadO 0 rfl Try.isAgg113 rfl rfl rfl | exact Y.loadR rfl Try.isAgg113 rfl hc) ?_
      refine Jp.q 62 rfl (want_all rfl) rfl rfl (Y.move rfl rfl) ?_
      refine Jp.call [] [] (base_spec (a + i) (by omega)) 63 rfl (want_all rfl) rfl rfl (Runs.fn rfl Try.call72 rfl) (by decide) (by decide) rfl trivial ?_
      rintro v101 ρ101 L101 ⟨rfl, rfl, rfl⟩
      refine ⟨rfl, fun hle101 => ⟨(Kp.st ⟨rfl, rfl, trivial⟩), ?_⟩⟩
      refine Jp.q 64 rfl (want_all rfl) rfl rfl (by first | exact Y.lookup 2 rfl rfl rfl Try.underlying113 Try.underlying25 Try.zeroValue25 rfl) ?_
      refine Jp.slot 64 rfl ((ok2.gens _)) ?_
      refine Jp.q 65 rfl (want_all rfl) rfl rfl (Y.add_ rfl rfl rfl (wrap_u32m ((wrM M a xs i).gens (baseN (a + i)) + 1))) ?_
      first | refine Jp.mapUpdate 2 rfl (want_all rfl) rfl rfl rfl rfl rfl Try.underlying113 Try.underlying25 rfl Kp.last ?_
      refine Jp.over rfl hK11 ?_
      refine Cd.plain [(0, false), (1, false)] rfl rfl ?_
      refine Jp.y 66 rfl (want_all rfl) rfl rfl Kp.true (Y.add_ rfl rfl rfl (by first | exact wrap_i64 (by omega) (by omega) | rfl)) ?_
      refine Jp.y 29 rfl (want_all rfl) rfl rfl Kp.true (Y.move rfl rfl) ?_
      refine Jp.imp (j := 3) rfl (fun h hh => (show Blks (blksOf (wrM M a xs (i + 1)) y) h by rw [e]; exact hh)) ?_
      refine Jp.again hLa ⟨i + 1, { y with gm := mset y.gm (baseN (a + i)) (.int .u32 ((((wrM M a xs i).gens (baseN (a + i)) + 1) % 4294967296 : Nat) : Int)) }⟩ ⟨hi, by rw [e]; exact hf2.bump (baseN (a + i)), ok3, ok4⟩ (by show xs.length - (i + 1) < xs.length - i; omega) rfl ⟨rfl, rfl, rfl, rfl, rfl, trivial⟩ ⟨rfl, rfl, rfl, rfl, trivial⟩
    · skip
      try simp only [decide_eq_false_iff_not, decide_eq_true_eq, Int.not_lt, Int.not_le, Bool.not_eq_false, Bool.not_eq_true, Bool.not_true, Bool.not_false, Bool.not_eq_true', Bool.not_eq_false', beq_eq_false_iff_ne, ne_eq, beq_iff_eq, bne_iff_ne, bne_eq_false_iff_eq, Classical.not_not] at g53
      refine Jp.y 54 rfl (want_as rfl rfl rfl rfl) rfl rfl Kp.true (Y.move rfl rfl) ?_
      refine Jp.y 55 rfl (want_as rfl rfl rfl rfl) rfl rfl Kp.true (by first | exact Y.remN rfl rfl rfl (by omega) (by omega) | exact Y.rem rfl rfl rfl (by first | decide | omega)) ?_
      refine Jp.y 56 rfl (want_as rfl rfl rfl rfl) rfl rfl Kp.true (Y.eql rfl rfl rfl) ?_
      refine Jp.y 57 rfl (want_all rfl) rfl rfl Kp.true (Y.pickF rfl rfl rfl) ?_
      refine Jp.done hK16 ?_
      refine Cd.cond rfl (fun g57 => ?_) (fun g57 => ?_)
      · skip
        try simp only [decide_eq_false_iff_not, decide_eq_true_eq, Int.not_lt, Int.not_le, Bool.not_eq_false, Bool.not_eq_true, Bool.not_true, Bool.not_false, Bool.not_eq_true', Bool.not_eq_false', beq_eq_false_iff_ne, ne_eq, beq_iff_eq, bne_iff_ne, bne_eq_false_iff_eq, Classical.not_not] at g57
        refine Cd.drawn [(0, _), (2, _)] ⟨rfl, rfl, trivial⟩ [(0, true), (1, true), (2, true), (3, true), (4, true), (5, false), (6, true), (7, true), (8, false)] follows (by kernel_rfl) (fun hrl => ?_)
        have hc : i = 0 ∨ (a + i) % 256 = 0 := by omega
        have e := wrM_bump hx hq hc
        refine Jp.q 58 rfl (want_all rfl) rfl rfl (Y.move rfl rfl) ?_
        refine Jp.q 59 rfl (want_all rfl) rfl rfl (Y.nilCheck rfl rfl) ?_
        refine Jp.q 60 rfl (want_all rfl) rfl rfl (by first | exact Y.fieldAddrP rfl rfl Try.underlying115 rfl Try.sizeOf113 (by decide) (show _ + 2 = _ from rfl) | exact Y.fieldAddr rfl rfl Try.underlying115 rfl Try.sizeOf113 (by decide)) ?_
        refine Jp.q 61 rfl (want_all rfl) rfl rfl (by first | exact Y.loadO 0 rfl Try.isAgg113 rfl rfl rfl | exact Y.loadR rfl Try.isAgg113 rfl hc) ?_
        refine Jp.q 62 rfl (want_all rfl) rfl rfl (Y.move rfl rfl) ?_
        refine Jp.call [] [] (base_spec (a + i) (by omega)) 63 rfl (want_all rfl) rfl rfl (Runs.fn rfl Try.call72 rfl) (by decide) (by decide) rfl trivial ?_
        rintro v102 ρ102 L102 ⟨rfl, rfl, rfl⟩
        refine ⟨rfl, fun hle102 => ⟨(Kp.st ⟨rfl, rfl, trivial⟩), ?_⟩⟩
        refine Jp.q 64 rfl (want_all rfl) rfl rfl (by first | exact Y.lookup 2 rfl rfl rfl Try.underlying113 Try.underlying25 Try.zeroValue25 rfl) ?_
        refine Jp.slot 64 rfl ((ok2.gens _)) ?_
        refine Jp.q 65 rfl (want_all rfl) rfl rfl (Y.add_ rfl rfl rfl (wrap_u32m ((wrM M a xs i).gens (baseN (a + i)) + 1))) ?_
        first | refine Jp.mapUpdate 2 rfl (want_all rfl) rfl rfl rfl rfl rfl Try.underlying113 Try.underlying25 rfl Kp.last ?_
        refine Jp.over rfl hK11 ?_
        refine Cd.plain [(0, false), (1, false)] rfl rfl ?_
        refine Jp.y 66 rfl (want_all rfl) rfl rfl Kp.true (Y.add_ rfl rfl rfl (by first | exact wrap_i64 (by omega) (by omega) | rfl)) ?_
        refine Jp.y 29 rfl (want_all rfl) rfl rfl Kp.true (Y.move rfl rfl) ?_
        refine Jp.imp (j := 3) rfl (fun h hh => (show Blks (blksOf (wrM M a xs (i + 1)) y) h by rw [e]; exact hh)) ?_
        refine Jp.again hLa ⟨i + 1, { y with gm := mset y.gm (baseN (a + i)) (.int .u32 ((((wrM M a xs i).gens (baseN (a + i)) + 1) % 4294967296 : Nat) : Int)) }⟩ ⟨hi, by rw [e]; exact hf2.bump (baseN (a + i)), ok3, ok4⟩ (by show xs.length - (i + 1) < xs.length - i; omega) rfl ⟨rfl, rfl, rfl, rfl, rfl, trivial⟩ ⟨rfl, rfl, rfl, rfl, trivial⟩
      · skip
        try simp only [decide_eq_false_iff_not, decide_eq_true_eq, Int.not_lt, Int.not_le, Bool.not_eq_false, Bool.not_eq_true, Bool.not_true, Bool.not_false, Bool.not_eq_true', Bool.not_eq_false', beq_eq_false_iff_ne, ne_eq, beq_iff_eq, bne_iff_ne, bne_eq_false_iff_eq, Classical.not_not] at g57
        refine Cd.over rfl hK11 ?_
        refine Cd.plain [(0, false), (1, false)] rfl rfl ?_
        refine Jp.y 66 rfl (want_all rfl) rfl rfl Kp.true (Y.add_ rfl rfl rfl (by first | exact wrap_i64 (by omega) (by omega) | rfl)) ?_
        refine Jp.y 29 rfl (want_all rfl) rfl rfl Kp.true (Y.move rfl rfl) ?_
        have hc : ¬ (i = 0 ∨ (a + i) % 256 = 0) := by omega
        have e := wrM_still hx hq hc
        refine Jp.imp (j := 3) rfl (fun h hh => (show Blks (blksOf (wrM M a xs (i + 1)) y) h by rw [e]; exact hh)) ?_
        refine Jp.again hLa ⟨i + 1, y⟩ ⟨hi, by rw [e]; exact hf2, ok3, ok4⟩ (by show xs.length - (i + 1) < xs.length - i; omega) rfl ⟨rfl, rfl, rfl, rfl, rfl, trivial⟩ ⟨rfl, rfl, rfl, rfl, trivial⟩
  · simp only [decide_eq_false_iff_not] at ga
    obtain rfl : i = xs.length := by omega
    refine Cd.exit rfl hK7 ?_
    refine Cd.seq fun K19 hK19 => ?_
    refine Cd.plain [(0, false)] rfl rfl ?_
    refine Jp.y 10 rfl (want_all rfl) rfl rfl Kp.true (Y.assign rfl rfl) ?_
    refine Jp.done hK19 ?_
    have e : memObj (wrM M a xs xs.length) y = memObj M x := by rw [memObj, memObj, ok3, ok4, wrM_budget]
    refine Cd.memClose (b := b) (x := y) 0 1 2 3 (by decide) ok2 (by rw [e]; rfl) (by rw [ok3]; rfl) (by rw [ok4]; rfl) rfl ?_
    refine Cd.ret [(0, _)] rfl (res1 rfl rfl) ⟨rfl, trivial⟩ ⟨rfl, by rw [hV], by rw [hV]⟩
theorem Write_spec (b : Nat) (M : MemG) (a : Nat) (s : Sl UInt8) (ha : a < 4294967296) : Spec Try.prog 54 #[.pointer (some ⟨b, 0, none⟩), .int .u32 a, s.v] (RdB s) [(0, MemO b M)]
    (fun ρ ρ' v L => ρ' = ρ ∧ v = .int .i64 (writeM M a s.xs 4096 2).1 ∧ L = [(0, MemO b (writeM M a s.xs 4096 2).2)]) := by
  refine Spec.of 11 Try.func54 rfl Try.ntmps54 [(0, _), (1, _), (2, _)] rfl rfl ?_
  intro cx ρ hr h0
  refine Cd.seq fun K20 hK20 => ?_
  refine Cd.plain [(0, false)] rfl rfl ?_
  refine Jp.y 6 rfl (want_all rfl) rfl rfl Kp.true (Y.assign rfl rfl) ?_
  refine Jp.done hK20 ?_
  refine Cd.seq fun K21 hK21 => ?_
  refine Cd.plain [(0, false), (1, false), (2, false), (3, false), (4, false)] rfl rfl ?_
  refine Jp.y 7 rfl (want_all rfl) rfl rfl Kp.true (Y.move rfl rfl) ?_
  refine Jp.y 8 rfl (want_all rfl) rfl rfl Kp.true (Y.move rfl rfl) ?_
  refine Jp.y 9 rfl (want_all rfl) rfl rfl Kp.true (Y.move rfl rfl) ?_
  refine Jp.call [0] [0] (write_spec b M a s 4096 2 ha (by omega)) 10 rfl (want_all rfl) rfl rfl (Runs.fn rfl Try.call67 rfl) (by decide) (by decide) rfl hr ?_
  rintro v1 ρ1 L1 ⟨rfl, rfl, rfl⟩
  refine ⟨rfl, fun hle1 => ⟨Kp.true, ?_⟩⟩
  refine Jp.y 6 rfl (want_all rfl) rfl rfl Kp.true (Y.assign rfl rfl) ?_
  refine Jp.done hK21 ?_
  refine Cd.ret [(0, _)] rfl (res1 rfl rfl) ⟨rfl, trivial⟩ ⟨rfl, rfl, rfl⟩
theorem Poke_spec (b : Nat) (M : MemG) (a : Nat) (s : Sl UInt8) (ha : a < 4294967296) : Spec Try.prog 19 #[.pointer (some ⟨b, 0, none⟩), .int .u32 a, s.v] (RdB s) [(0, MemO b M)]
    (fun ρ ρ' v L => ρ' = ρ ∧ v = .int .i64 (writeM M a s.xs 65536 0).1 ∧ L = [(0, MemO b (writeM M a s.xs 65536 0).2)]) := by
  refine Spec.of 11 Try.func19 rfl Try.ntmps19 [(0, _), (1, _), (2, _)] rfl rfl ?_
  intro cx ρ hr h0
  refine Cd.seq fun K22 hK22 => ?_
  refine Cd.plain [(0, false)] rfl rfl ?_
  refine Jp.y 6 rfl (want_all rfl) rfl rfl Kp.true (Y.assign rfl rfl) ?_
  refine Jp.done hK22 ?_
  refine Cd.seq fun K23 hK23 => ?_
  refine Cd.plain [(0, false), (1, false), (2, false), (3, false), (4, false)] rfl rfl ?_
  refine Jp.y 7 rfl (want_all rfl) rfl rfl Kp.true (Y.move rfl rfl) ?_
  refine Jp.y 8 rfl (want_all rfl) rfl rfl Kp.true (Y.move rfl rfl) ?_
  refine Jp.y 9 rfl (want_all rfl) rfl rfl Kp.true (Y.move rfl rfl) ?_
  refine Jp.call [0] [0] (write_spec b M a s 65536 0 ha (by omega)) 10 rfl (want_all rfl) rfl rfl (Runs.fn rfl Try.call67 rfl) (by decide) (by decide) rfl hr ?_
  rintro v1 ρ1 L1 ⟨rfl, rfl, rfl⟩
  refine ⟨rfl, fun hle1 => ⟨Kp.true, ?_⟩⟩
  refine Jp.y 6 rfl (want_all rfl) rfl rfl Kp.true (Y.assign rfl rfl) ?_
  refine Jp.done hK23 ?_
  refine Cd.ret [(0, _)] rfl (res1 rfl rfl) ⟨rfl, trivial⟩ ⟨rfl, rfl, rfl⟩
end Go.Proofs.Ytgmhijlcdadaeaa
set_option linter.unusedVariables false
set_option linter.unusedSimpArgs false
set_option maxRecDepth 100000
namespace Go.Proofs.Ytgmhijlcdadaeaa
open Go
def setPerm (l : List (Nat × Pg)) (k perm : Nat) : List (Nat × Pg) := match getPg l k with
  | some p => setPg l k ⟨p.b, perm⟩
  | none => l
def prot1 (perm : Nat) (M : MemG) (k : Nat) : MemG := { M with pages := setPerm M.pages k perm, gens := bump M.gens k }
def protL (M : MemG) (perm : Nat) (l : List Nat) : MemG := l.foldl (prot1 perm) M
def bumpS (M : MemG) (f : Nat → Bool) : Nat → Nat := fun k => if f k && (getPg M.pages k).isSome then (M.gens k + 1) % 4294967296 else M.gens k
def protectM (M : MemG) (a n : Nat) (perm : Int) : Int × MemG := match stretch a n with
  | none => (1, M)
  | some many => if perm < 0 ∨ 7 < perm then (1, M) else if (withinP M a many).length ≠ many then (4, M) else
    (0, { M with pages := M.pages.map fun y => if inS a many y.1 then (y.1, ⟨y.2.b, perm.toNat⟩) else y, gens := bumpS M (inS a many) })
theorem setPerm_eq {l : List (Nat × Pg)} (hn : (l.map (·.1)).Nodup) (k perm : Nat) : setPerm l k perm = l.map fun y => (y.1, if y.1 = k then ⟨y.2.b, perm⟩ else y.2) := by
  unfold setPerm
  split
  · rename_i p hp
    apply List.map_congr_left
    intro y hy
    by_cases h : y.1 = k
    · have h2 := getPg_of_mem hn (show (y.1, y.2) ∈ l from hy)
      rw [h, hp] at h2
      injection h2 with h2
      rw [if_pos h, if_pos h, h2, h]
    · rw [if_neg h, if_neg h]
  · rename_i hp
    have e : l.map (fun y => (y.1, if y.1 = k then (⟨y.2.b, perm⟩ : Pg) else y.2)) = l.map id := List.map_congr_left fun y hy => by
      rw [if_neg]; rfl
      intro h
      exact (getPg_none.1 hp) (h ▸ List.mem_map.2 ⟨y, hy, rfl⟩)
    rw [e, List.map_id]
theorem protL_eq {perm : Nat} : ∀ {l : List Nat} {M : MemG}, (M.pages.map (·.1)).Nodup → l.Nodup → protL M perm l = { M with pages := M.pages.map fun y => (y.1, if y.1 ∈ l then ⟨y.2.b, perm⟩ else y.2), gens := fun k => if k ∈ l then (M.gens k + 1) % 4294967296 else M.gens k } := by
  intro l
  induction l with
  | nil => intro M _ _; simp [protL]
  | cons k l ih =>
    intro M hn hl
    have hl2 := List.nodup_cons.1 hl
    have hn2 : ((prot1 perm M k).pages.map (·.1)).Nodup := by
      show ((setPerm M.pages k perm).map (·.1)).Nodup
      rw [setPerm_eq hn, List.map_map]; exact hn
    show protL (prot1 perm M k) perm l = _
    rw [ih hn2 hl2.2]
    show (MemG.mk M.budget _ _) = MemG.mk M.budget _ _
    congr 1
    · show (setPerm M.pages k perm).map _ = _
      rw [setPerm_eq hn, List.map_map]
      apply List.map_congr_left
      intro y hy
      simp only [Function.comp, List.mem_cons]
      by_cases h1 : y.1 ∈ l <;> by_cases h2 : y.1 = k <;> simp [h1, h2]
    · funext j
      show (if j ∈ l then (bump M.gens k j + 1) % 4294967296 else bump M.gens k j) = _
      simp only [bump, List.mem_cons]
      by_cases h2 : j = k
      · subst h2; simp [hl2.1]
      · by_cases h1 : j ∈ l <;> simp [h1, h2]
theorem within_nodup {M : MemG} (h : MemOk M) (a many : Nat) : (withinP M a many).Nodup := h.rising.nodup.sublist (List.filter_sublist.map _)
theorem within_mem {M : MemG} {a many k : Nat} : k ∈ withinP M a many ↔ inS a many k = true ∧ k ∈ M.pages.map (·.1) := by
  rw [withinP, List.mem_map]
  constructor
  · rintro ⟨x, hx, rfl⟩
    have := List.mem_filter.1 hx
    exact ⟨this.2, List.mem_map.2 ⟨x, this.1, rfl⟩⟩
  · rintro ⟨h, hm⟩
    obtain ⟨x, hx, rfl⟩ := List.mem_map.1 hm
    exact ⟨x, List.mem_filter.2 ⟨hx, h⟩, rfl⟩
theorem getPg_isSome {l : List (Nat × Pg)} {k : Nat} : (getPg l k).isSome = true ↔ k ∈ l.map (·.1) := by
  cases h : getPg l k with
  | none => simp [getPg_none.1 h]
  | some p => simp only [Option.isSome_some, true_iff]; exact List.mem_map.2 ⟨_, getPg_mem h, rfl⟩
theorem protL_within {M : MemG} (h : MemOk M) {a many perm : Nat} {l : List Nat} (hl : l.Perm (withinP M a many)) : protL M perm l = { M with pages := M.pages.map fun y => if inS a many y.1 then (y.1, ⟨y.2.b, perm⟩) else y, gens := bumpS M (inS a many) } := by
  rw [protL_eq h.rising.nodup (hl.nodup_iff.2 (within_nodup h a many))]
  show MemG.mk M.budget _ _ = MemG.mk M.budget _ _
  congr 1
  · apply List.map_congr_left
    intro y hy
    have hm : y.1 ∈ l ↔ inS a many y.1 = true := by
      rw [hl.mem_iff, within_mem]
      exact ⟨fun h => h.1, fun h => ⟨h, List.mem_map.2 ⟨y, hy, rfl⟩⟩⟩
    by_cases h1 : y.1 ∈ l
    · rw [if_pos h1, if_pos (hm.1 h1)]
    · rw [if_neg h1, if_neg (fun h => h1 (hm.2 h))]
  · funext k
    have hm : k ∈ l ↔ (inS a many k && (getPg M.pages k).isSome) = true := by
      rw [hl.mem_iff, within_mem, Bool.and_eq_true, getPg_isSome]
    unfold bumpS
    by_cases h1 : k ∈ l
    · rw [if_pos h1, if_pos (hm.1 h1)]
    · rw [if_neg h1, if_neg (fun h => h1 (hm.2 h))]
theorem prot1_ok {M : MemG} (h : MemOk M) {perm : Nat} (hp : perm ≤ 7) (k : Nat) : MemOk { M with pages := setPerm M.pages k perm } := by
  unfold setPerm
  split
  · rename_i p hg
    exact h.set hg (h.page _ (getPg_mem hg)).len hp
  · exact h
theorem protL_page {M : MemG} (perm : Nat) {k : Nat} : ∀ (l : List Nat) {M : MemG}, (getPg (protL M perm l).pages k).isSome = (getPg M.pages k).isSome := by
  intro l
  induction l with
  | nil => intro M; rfl
  | cons j l ih =>
    intro M
    show (getPg (protL (prot1 perm M j) perm l).pages k).isSome = _
    rw [ih]
    show (getPg (setPerm M.pages j perm) k).isSome = _
    unfold setPerm
    split
    · rename_i p hp
      rw [getPg_set]
      by_cases h : k = j
      · subst h; simp [hp]
      · simp [h]
    · rfl
theorem protL_snoc (M : MemG) (perm : Nat) (l : List Nat) (k : Nat) : protL M perm (l ++ [k]) = prot1 perm (protL M perm l) k := by simp [protL]
theorem protL_budget (perm : Nat) : ∀ (l : List Nat) (M : MemG), (protL M perm l).budget = M.budget := by
  intro l
  induction l with
  | nil => intro M; rfl
  | cons j l ih => intro M; exact ih _
theorem pageCells_perm2 (p : Pg) (h : p.b.length = 256) (perm : Nat) : (pageCells p).toArray.setIfInBounds 256 (.int .i64 perm) = (pageCells ⟨p.b, perm⟩).toArray := by
  rw [List.setIfInBounds_toArray]
  congr 1
  rw [pageCells, List.set_append_right _ _ (by rw [bytesV, List.length_map]; omega)]
  simp [bytesV, h, pageCells]
theorem protect_spec (b : Nat) (M : MemG) (a n : Nat) (perm : Int) (ha : a < 4294967296) (hn : n < 4294967296) : Spec Try.prog 50 #[.pointer (some ⟨b, 0, none⟩), .int .u32 a, .int .u32 n, .int .i64 perm] (fun _ => True) [(0, MemO b M)]
    (fun ρ ρ' r L => ρ' = ρ ∧ r = .int .i64 (protectM M a n perm).1 ∧ L = [(0, MemO b (protectM M a n perm).2)]) := by
  refine Spec.of 62 Try.func50 rfl Try.ntmps50 [(0, _), (1, _), (2, _), (3, _)] rfl rfl ?_
  intro cx ρ hr h0
  refine Cd.memOpen 0 1 2 3 (by decide) rfl fun x hf => ?_
  have hroom := hf.ok.room
  have hbud := hf.ok.budget
  refine Cd.seq fun K1 hK1 => ?_
  refine Cd.plain [(0, false)] rfl rfl ?_
  refine Jp.y 8 rfl (want_all rfl) rfl rfl Kp.true (Y.assign rfl rfl) ?_
  refine Jp.done hK1 ?_
  refine Cd.seq fun K2 hK2 => ?_
  refine Cd.plain [(0, false), (1, false), (2, false), (3, false), (4, false), (5, false), (6, false), (7, false)] rfl rfl ?_
  refine Jp.y 15 rfl (want_all rfl) rfl rfl Kp.true (Y.move rfl rfl) ?_
  refine Jp.y 16 rfl (want_all rfl) rfl rfl Kp.true (Y.move rfl rfl) ?_
  refine Jp.call [] [] (stretch_spec a n ha hn) 17 rfl (want_all rfl) rfl rfl (Runs.fn rfl Try.call88 rfl) (by decide) (by decide) rfl trivial ?_
  rintro v1 ρ1 L1 ⟨rfl, rfl, rfl⟩
  refine ⟨rfl, fun hle1 => ⟨Kp.true, ?_⟩⟩
  refine Jp.y 14 rfl (want_all rfl) rfl rfl Kp.true (Y.move rfl rfl) ?_
  refine Jp.y 18 rfl (want_all rfl) rfl rfl Kp.true (Y.extract rfl rfl rfl) ?_
  refine Jp.y 19 rfl (want_all rfl) rfl rfl Kp.true (Y.extract rfl rfl rfl) ?_
  refine Jp.y 9 rfl (want_all rfl) rfl rfl Kp.true (Y.assign rfl rfl) ?_
  refine Jp.y 10 rfl (want_all rfl) rfl rfl Kp.true (Y.assign rfl rfl) ?_
  refine Jp.done hK2 ?_
  refine Cd.seq fun K3 hK3 => ?_
  refine Cd.seq fun K4 hK4 => ?_
  refine Cd.plain [(0, false), (1, false), (2, false), (3, false), (4, false), (5, false), (6, false), (7, false), (8, false), (9, false)] rfl rfl ?_
  refine Jp.y 20 rfl (want_all rfl) rfl rfl Kp.true (Y.move rfl rfl) ?_
  refine Jp.y 21 rfl (want_all rfl) rfl rfl Kp.true (Y.not rfl rfl) ?_
  refine Jp.y 22 rfl (want_all rfl) rfl rfl Kp.true (Y.move rfl rfl) ?_
  refine Jp.split 22 rfl (fun g22 => ?_) (fun g22 => ?_)
  · skip
    try simp only [decide_eq_false_iff_not, decide_eq_true_eq, Int.not_lt, Int.not_le, Bool.not_eq_false, Bool.not_eq_true, Bool.not_true, Bool.not_false, Bool.not_eq_true', Bool.not_eq_false', beq_eq_false_iff_ne, ne_eq, beq_iff_eq, bne_iff_ne, bne_eq_false_iff_eq, Classical.not_not] at g22
    refine Jp.skip 23 rfl (want_as rfl rfl rfl rfl) rfl rfl Kp.true ?_
    refine Jp.skip 24 rfl (want_as rfl rfl rfl rfl) rfl rfl Kp.true ?_
    refine Jp.y 25 rfl (want_all rfl) rfl rfl Kp.true (Y.pickT rfl rfl rfl) ?_
    refine Jp.y 26 rfl (want_all rfl) rfl rfl Kp.true (Y.move rfl rfl) ?_
    refine Jp.skip 27 rfl (want_as rfl rfl rfl rfl) rfl rfl Kp.true ?_
    refine Jp.skip 28 rfl (want_as rfl rfl rfl rfl) rfl rfl Kp.true ?_
    refine Jp.y 29 rfl (want_all rfl) rfl rfl Kp.true (Y.pickT rfl rfl rfl) ?_
    refine Jp.done hK4 ?_
    refine Cd.condT rfl ?_
    refine Cd.seq fun K5 hK5 => ?_
    refine Cd.plain [(0, false)] rfl rfl ?_
    refine Jp.y 8 rfl (want_all rfl) rfl rfl Kp.true (Y.assign rfl rfl) ?_
    refine Jp.done hK5 ?_
    refine Cd.memClose 0 1 2 3 (by decide) hf rfl rfl rfl rfl ?_
    have hV : protectM M a n perm = (1, M) := by
      rw [protectM]
      split
      · rfl
      · rename_i many hm
        rw [if_pos (by first | (rw [hm] at g22; cases g22; done) | omega)]
    refine Cd.ret [(0, _)] rfl (res1 rfl rfl) ⟨rfl, trivial⟩ ⟨rfl, by rw [hV], by rw [hV]⟩
  try simp only [decide_eq_false_iff_not, decide_eq_true_eq, Int.not_lt, Int.not_le, Bool.not_eq_false, Bool.not_eq_true, Bool.not_true, Bool.not_false, Bool.not_eq_true', Bool.not_eq_false', beq_eq_false_iff_ne, ne_eq, beq_iff_eq, bne_iff_ne, bne_eq_false_iff_eq, Classical.not_not] at g22
  refine Jp.y 23 rfl (want_as rfl rfl rfl rfl) rfl rfl Kp.true (Y.move rfl rfl) ?_
  refine Jp.y 24 rfl (want_as rfl rfl rfl rfl) rfl rfl Kp.true (Y.lss rfl rfl rfl) ?_
  refine Jp.y 25 rfl (want_all rfl) rfl rfl Kp.true (Y.pickF rfl rfl rfl) ?_
  refine Jp.y 26 rfl (want_all rfl) rfl rfl Kp.true (Y.move rfl rfl) ?_
  refine Jp.split 26 rfl (fun g26 => ?_) (fun g26 => ?_)
  · skip
    try simp only [decide_eq_false_iff_not, decide_eq_true_eq, Int.not_lt, Int.not_le, Bool.not_eq_false, Bool.not_eq_true, Bool.not_true, Bool.not_false, Bool.not_eq_true', Bool.not_eq_false', beq_eq_false_iff_ne, ne_eq, beq_iff_eq, bne_iff_ne, bne_eq_false_iff_eq, Classical.not_not] at g26
    refine Jp.skip 27 rfl (want_as rfl rfl rfl rfl) rfl rfl Kp.true ?_
    refine Jp.skip 28 rfl (want_as rfl rfl rfl rfl) rfl rfl Kp.true ?_
    refine Jp.y 29 rfl (want_all rfl) rfl rfl Kp.true (Y.pickT rfl rfl rfl) ?_
    refine Jp.done hK4 ?_
    refine Cd.condT rfl ?_
    refine Cd.seq fun K6 hK6 => ?_
    refine Cd.plain [(0, false)] rfl rfl ?_
    refine Jp.y 8 rfl (want_all rfl) rfl rfl Kp.true (Y.assign rfl rfl) ?_
    refine Jp.done hK6 ?_
    refine Cd.memClose 0 1 2 3 (by decide) hf rfl rfl rfl rfl ?_
    have hV : protectM M a n perm = (1, M) := by
      rw [protectM]
      split
      · rfl
      · rename_i many hm
        rw [if_pos (by first | (rw [hm] at g26; cases g26; done) | omega)]
    refine Cd.ret [(0, _)] rfl (res1 rfl rfl) ⟨rfl, trivial⟩ ⟨rfl, by rw [hV], by rw [hV]⟩
  try simp only [decide_eq_false_iff_not, decide_eq_true_eq, Int.not_lt, Int.not_le, Bool.not_eq_false, Bool.not_eq_true, Bool.not_true, Bool.not_false, Bool.not_eq_true', Bool.not_eq_false', beq_eq_false_iff_ne, ne_eq, beq_iff_eq, bne_iff_ne, bne_eq_false_iff_eq, Classical.not_not] at g26
  refine Jp.y 27 rfl (want_as rfl rfl rfl rfl) rfl rfl Kp.true (Y.move rfl rfl) ?_
  refine Jp.y 28 rfl (want_as rfl rfl rfl rfl) rfl rfl Kp.true (Y.gtr rfl rfl rfl) ?_
  refine Jp.y 29 rfl (want_all rfl) rfl rfl Kp.true (Y.pickF rfl rfl rfl) ?_
  refine Jp.done hK4 ?_
  refine Cd.cond rfl (fun g29 => ?_) (fun g29 => ?_)
  · skip
    try simp only [decide_eq_false_iff_not, decide_eq_true_eq, Int.not_lt, Int.not_le, Bool.not_eq_false, Bool.not_eq_true, Bool.not_true, Bool.not_false, Bool.not_eq_true', Bool.not_eq_false', beq_eq_false_iff_ne, ne_eq, beq_iff_eq, bne_iff_ne, bne_eq_false_iff_eq, Classical.not_not] at g29
    refine Cd.seq fun K7 hK7 => ?_
    refine Cd.plain [(0, false)] rfl rfl ?_
    refine Jp.y 8 rfl (want_all rfl) rfl rfl Kp.true (Y.assign rfl rfl) ?_
    refine Jp.done hK7 ?_
    refine Cd.memClose 0 1 2 3 (by decide) hf rfl rfl rfl rfl ?_
    have hV : protectM M a n perm = (1, M) := by
      rw [protectM]
      split
      · rfl
      · rename_i many hm
        rw [if_pos (by first | (rw [hm] at g29; cases g29; done) | omega)]
    refine Cd.ret [(0, _)] rfl (res1 rfl rfl) ⟨rfl, trivial⟩ ⟨rfl, by rw [hV], by rw [hV]⟩
  try simp only [decide_eq_false_iff_not, decide_eq_true_eq, Int.not_lt, Int.not_le, Bool.not_eq_false, Bool.not_eq_true, Bool.not_true, Bool.not_false, Bool.not_eq_true', Bool.not_eq_false', beq_eq_false_iff_ne, ne_eq, beq_iff_eq, bne_iff_ne, bne_eq_false_iff_eq, Classical.not_not] at g29
  refine Cd.skip hK3 ?_
  refine Cd.seq fun K8 hK8 => ?_
  refine Cd.plain [(0, false), (1, false), (2, false), (3, false), (4, false)] rfl rfl ?_
  obtain ⟨many, hm⟩ := Option.isSome_iff_exists.1 g22
  have hmany : (n + 255) / 256 = many := by
    rw [stretch] at hm
    split at hm
    · injection hm
    · cases hm
  rw [hmany]
  have hst : a % 256 = 0 ∧ a + many * 256 ≤ 4294967296 ∧ 0 < many := by
    rw [stretch] at hm
    split at hm
    · rename_i h; injection hm with hm; omega
    · cases hm
  refine Jp.y 30 rfl (want_all rfl) rfl rfl Kp.true (Y.move rfl rfl) ?_
  refine Jp.y 31 rfl (want_all rfl) rfl rfl Kp.true (Y.move rfl rfl) ?_
  refine Jp.y 32 rfl (want_all rfl) rfl rfl Kp.true (Y.move rfl rfl) ?_
  refine Jp.call [0, 1] [0, 1, 9] (within_spec b M x hf a many ha (by omega)) 33 rfl (want_all rfl) rfl rfl (Runs.fn rfl Try.call89 rfl) (by decide) (by decide) rfl trivial ?_
  rintro v2 ρ2 L2 ⟨rfl, l, Al, cl, hl, rfl, rfl⟩
  refine ⟨rfl, fun hle2 => ⟨Kp.true, ?_⟩⟩
  have hll := hl.length_eq
  have hwl : (withinP M a many).length ≤ 4096 := by
    rw [withinP, List.length_map]
    exact Nat.le_trans (List.length_filter_le _ _) (by omega)
  refine Jp.y 11 rfl (want_all rfl) rfl rfl Kp.true (Y.assign rfl rfl) ?_
  refine Jp.done hK8 ?_
  refine Cd.seq fun K9 hK9 => ?_
  refine Cd.seq fun K10 hK10 => ?_
  refine Cd.plain [(0, false), (1, false), (2, false), (3, false), (4, false)] rfl rfl ?_
  refine Jp.y 34 rfl (want_all rfl) rfl rfl Kp.true (Y.move rfl rfl) ?_
  refine Jp.y 35 rfl (want_all rfl) rfl rfl Kp.true (Y.lenslice rfl Try.underlying26 rfl) ?_
  refine Jp.y 36 rfl (want_all rfl) rfl rfl Kp.true (Y.conv_ rfl rfl Try.underlying3 Try.underlying129 (by first | exact wrap_u64 (by omega) (by omega) | rfl)) ?_
  refine Jp.y 37 rfl (want_all rfl) rfl rfl Kp.true (Y.move rfl rfl) ?_
  refine Jp.y 38 rfl (want_all rfl) rfl rfl Kp.true (Y.neq rfl rfl rfl) ?_
  refine Jp.done hK10 ?_
  refine Cd.cond rfl (fun g38 => ?_) (fun g38 => ?_)
  · skip
    try simp only [decide_eq_false_iff_not, decide_eq_true_eq, Int.not_lt, Int.not_le, Bool.not_eq_false, Bool.not_eq_true, Bool.not_true, Bool.not_false, Bool.not_eq_true', Bool.not_eq_false', beq_eq_false_iff_ne, ne_eq, beq_iff_eq, bne_iff_ne, bne_eq_false_iff_eq, Classical.not_not] at g38
    refine Cd.seq fun K11 hK11 => ?_
    refine Cd.plain [(0, false)] rfl rfl ?_
    refine Jp.y 8 rfl (want_all rfl) rfl rfl Kp.true (Y.assign rfl rfl) ?_
    refine Jp.done hK11 ?_
    refine Cd.memClose 0 1 2 3 (by decide) hf rfl rfl rfl rfl ?_
    have hV : protectM M a n perm = (4, M) := by rw [protectM, hm]; dsimp only; rw [if_neg (by omega), if_pos (by omega)]
    refine Cd.ret [(0, _)] rfl (res1 rfl rfl) ⟨rfl, trivial⟩ ⟨rfl, by rw [hV], by rw [hV]⟩
  try simp only [decide_eq_false_iff_not, decide_eq_true_eq, Int.not_lt, Int.not_le, Bool.not_eq_false, Bool.not_eq_true, Bool.not_true, Bool.not_false, Bool.not_eq_true', Bool.not_eq_false', beq_eq_false_iff_ne, ne_eq, beq_iff_eq, bne_iff_ne, bne_eq_false_iff_eq, Classical.not_not] at g38
  refine Cd.skip hK9 ?_
  refine Cd.seq fun K12 hK12 => ?_
  refine Cd.seq fun K13 hK13 => ?_
  refine Cd.plain [(0, false), (1, false), (2, false)] rfl rfl ?_
  refine Jp.y 39 rfl (want_all rfl) rfl rfl Kp.true (Y.move rfl rfl) ?_
  refine Jp.y 40 rfl (want_all rfl) rfl rfl Kp.true (Y.lenslice rfl Try.underlying26 rfl) ?_
  refine Jp.y 41 rfl (want_all rfl) rfl rfl Kp.true (Y.move rfl rfl) ?_
  refine Jp.done hK13 ?_
  refine Cd.block ?_
  obtain ⟨pn, rfl⟩ := Int.eq_ofNat_of_zero_le (show 0 ≤ perm by omega)
  have hV : protectM M a n pn = (0, protL M pn l) := by rw [protectM, hm, protL_within hf.ok hl]; dsimp only; rw [if_neg (by omega), if_neg (by omega)]; rfl
  refine Cd.loopK (G := Nat × MemX) (fun g => g.1 ≤ l.length ∧ MemF (protL M pn (l.take g.1)) g.2 ∧ g.2.pb = x.pb ∧ g.2.gb = x.gb) (fun g => l.length - g.1) (fun _ => _) (fun g => [(41, .int .i64 g.1)]) [(0, _), (3, _), (39, _), (40, _)] (fun g => [(1, MapO .u32 x.pb g.2.pm), (2, MapO .u32 x.gb g.2.gm), (3, Blks (blksOf (protL M pn (l.take g.1)) g.2))]) [(0, _), (9, _)] ⟨0, x⟩ ⟨Nat.zero_le _, hf, rfl, rfl⟩ rfl ⟨rfl, trivial⟩ ⟨rfl, rfl, rfl, rfl, trivial⟩ ⟨rfl, rfl, rfl, trivial⟩ ⟨rfl, rfl, trivial⟩ (fun g KLa hok hLa => ?_)
  obtain ⟨i, y⟩ := g
  obtain ⟨ok1, ok2, ok3, ok4⟩ := hok
  dsimp only at ok1 ok2 ok3 ok4 ⊢
  refine Cd.seq fun K14 hK14 => ?_
  refine Cd.plain [(0, false)] rfl rfl ?_
  refine Jp.y 42 rfl (want_all rfl) rfl rfl Kp.true (Y.lss rfl rfl rfl) ?_
  refine Jp.done hK14 ?_
  refine Cd.seq fun K15 hK15 => ?_
  refine Cd.cond rfl (fun ga => ?_) (fun ga => ?_)
  · simp only [decide_eq_true_eq] at ga
    have hi : i < l.length := by omega
    refine Cd.ownAt 9 rfl (by omega) ?_
    rintro b9 rfl
    have hlv : (natsV .u32 l)[i]? = some (.int .u32 (l[i] : Int)) := by rw [natsV, List.getElem?_map, List.getElem?_eq_getElem hi]; rfl
    have hmem : l[i] ∈ withinP M a many := hl.mem_iff.1 (List.getElem_mem hi)
    have hsome : (getPg (protL M pn (l.take i)).pages l[i]).isSome = true := by rw [protL_page (M := M), getPg_isSome]; exact (within_mem.1 hmem).2
    obtain ⟨q, hq⟩ := Option.isSome_iff_exists.1 hsome
    have hpo := ok2.ok.page _ (getPg_mem hq)
    have hql : q.b.length = 256 := hpo.len
    have hget := ok2.get l[i]
    rw [hq] at hget
    have htake : l.take (i + 1) = l.take i ++ [l[i]] := List.take_succ_eq_append_getElem hi
    have hsp : setPerm (protL M pn (l.take i)).pages l[i] pn = setPg (protL M pn (l.take i)).pages l[i] ⟨q.b, pn⟩ := by rw [setPerm, hq]
    have hf2 : MemF { protL M pn (l.take i) with pages := setPg (protL M pn (l.take i)).pages l[i] ⟨q.b, pn⟩ } y := ok2.set hq hql (by show pn ≤ 7; omega)
    have hf3 := hf2.bump l[i]
    have e : protL M pn (l.take (i + 1)) = { protL M pn (l.take i) with pages := setPg (protL M pn (l.take i)).pages l[i] ⟨q.b, pn⟩, gens := bump (protL M pn (l.take i)).gens l[i] } := by
      rw [htake, protL_snoc, prot1, hsp]
    refine Cd.skip hK15 ?_
    refine Cd.seq fun K16 hK16 => ?_
    refine Cd.block ?_
    refine Cd.seq fun K17 hK17 => ?_
    refine Cd.plain [(0, false), (1, false), (2, false)] rfl rfl ?_
    refine Jp.y 43 rfl (want_all rfl) rfl rfl Kp.true (Y.indexAddr (q := i) rfl rfl rfl Try.underlying26 Try.sizeOf25 (by omega) (by omega) (by omega)) ?_
    refine Jp.y 44 rfl (want_all rfl) rfl rfl Kp.true (Y.loadS 9 (q := i) rfl Try.isAgg25 rfl rfl rfl hlv) ?_
    refine Jp.y 13 rfl (want_all rfl) rfl rfl Kp.true (Y.assign rfl rfl) ?_
    refine Jp.done hK17 ?_
    refine Cd.seq fun K18 hK18 => ?_
    refine Cd.plain [(0, false), (1, false), (2, false), (3, false), (4, false), (5, false), (6, false), (7, false), (8, false), (9, false)] rfl rfl ?_
    refine Jp.y 45 rfl (want_all rfl) rfl rfl Kp.true (Y.move rfl rfl) ?_
    refine Jp.y 46 rfl (want_all rfl) rfl rfl Kp.true (Y.nilCheck rfl rfl) ?_
    refine Jp.y 47 rfl (want_all rfl) rfl rfl Kp.true (by first | exact Y.fieldAddrP rfl rfl Try.underlying115 rfl Try.sizeOf112 (by decide) (show _ + 1 = _ from rfl) | exact Y.fieldAddr rfl rfl Try.underlying115 rfl Try.sizeOf112 (by decide)) ?_
    refine Jp.y 48 rfl (want_all rfl) rfl rfl Kp.true (Y.loadO 0 rfl Try.isAgg112 rfl rfl rfl) ?_
    refine Jp.y 49 rfl (want_all rfl) rfl rfl Kp.true (Y.move rfl rfl) ?_
    refine Jp.y 50 rfl (want_all rfl) rfl rfl Kp.true (by first | exact Y.lookup 1 rfl rfl rfl Try.underlying112 Try.underlying25 Try.zeroValue143 rfl) ?_
    refine Jp.y 51 rfl (want_all rfl) rfl rfl Kp.true (Y.move rfl rfl) ?_
    refine Jp.slot 50 rfl (show _ = Value.pointer (some ⟨y.blk l[i], 0, none⟩) by rw [hget]; rfl) ?_
    refine Jp.know (φ := ((blksOf (protL M pn (l.take i)) y).map (·.1)).Nodup) (A := Blks (blksOf (protL M pn (l.take i)) y)) 3 rfl (fun _ h => h.1) fun hnd => ?_
    refine Jp.y 52 rfl (want_all rfl) rfl rfl Kp.true (Y.nilCheck rfl rfl) ?_
    refine Jp.y 53 rfl (want_all rfl) rfl rfl Kp.true (by first | exact Y.fieldAddrP rfl rfl Try.underlying145 rfl Try.sizeOf3 (by decide) (show _ + 256 = _ from rfl) | exact Y.fieldAddr rfl rfl Try.underlying145 rfl Try.sizeOf3 (by decide)) ?_
    refine Jp.storeC 3 (Blks (blksOf { protL M pn (l.take i) with pages := setPg (protL M pn (l.take i)).pages l[i] ⟨q.b, pn⟩ } y)) rfl (want_all rfl) rfl rfl Try.sizeOf3 rfl rfl rfl rfl rfl (Blks.set (MemF.blk hq) (by simp [pageCells, bytesV, hql]) (noFr0 _) (by rw [pageCells_perm2 q hql]; exact updB_blks hnd hq)) Kp.true ?_
    refine Jp.done hK18 ?_
    refine Cd.plain [(0, false), (1, false), (2, false), (3, false), (4, false), (5, false), (6, false), (7, false)] rfl rfl ?_
    refine Jp.y 54 rfl (want_all rfl) rfl rfl Kp.true (Y.move rfl rfl) ?_
    refine Jp.y 55 rfl (want_all rfl) rfl rfl Kp.true (Y.nilCheck rfl rfl) ?_
    refine Jp.y 56 rfl (want_all rfl) rfl rfl Kp.true (by first | exact Y.fieldAddrP rfl rfl Try.underlying115 rfl Try.sizeOf113 (by decide) (show _ + 2 = _ from rfl) | exact Y.fieldAddr rfl rfl Try.underlying115 rfl Try.sizeOf113 (by decide)) ?_
    refine Jp.y 57 rfl (want_all rfl) rfl rfl Kp.true (Y.loadO 0 rfl Try.isAgg113 rfl rfl rfl) ?_
    refine Jp.y 58 rfl (want_all rfl) rfl rfl Kp.true (Y.move rfl rfl) ?_
    refine Jp.y 59 rfl (want_all rfl) rfl rfl Kp.true (by first | exact Y.lookup 2 rfl rfl rfl Try.underlying113 Try.underlying25 Try.zeroValue25 rfl) ?_
    refine Jp.slot 59 rfl ((ok2.gens _)) ?_
    refine Jp.y 60 rfl (want_all rfl) rfl rfl Kp.true (Y.add_ rfl rfl rfl (wrap_u32m ((protL M pn (l.take i)).gens l[i] + 1))) ?_
    first | refine Jp.mapUpdate 2 rfl (want_all rfl) rfl rfl rfl rfl rfl Try.underlying113 Try.underlying25 rfl Kp.true ?_
    refine Jp.over rfl hK16 ?_
    refine Cd.plain [(0, false), (1, false)] rfl rfl ?_
    refine Jp.y 61 rfl (want_all rfl) rfl rfl Kp.true (Y.add_ rfl rfl rfl (by first | exact wrap_i64 (by omega) (by omega) | rfl)) ?_
    refine Jp.y 41 rfl (want_all rfl) rfl rfl Kp.true (Y.move rfl rfl) ?_
    refine Jp.imp (j := 3) rfl (fun h hh => (show Blks (blksOf (protL M pn (l.take (i + 1))) y) h by rw [e]; exact hh)) ?_
    refine Jp.again hLa ⟨i + 1, { y with gm := mset y.gm l[i] (.int .u32 ((((protL M pn (l.take i)).gens l[i] + 1) % 4294967296 : Nat) : Int)) }⟩ ⟨hi, by rw [e]; exact hf3, ok3, ok4⟩ (by show l.length - (i + 1) < l.length - i; omega) rfl ⟨rfl, rfl, rfl, rfl, rfl, trivial⟩ ⟨rfl, rfl, rfl, rfl, rfl, trivial⟩
  · simp only [decide_eq_false_iff_not] at ga
    obtain rfl : i = l.length := by omega
    rw [List.take_length] at ok2 ⊢
    refine Cd.exit rfl hK12 ?_
    refine Cd.seq fun K19 hK19 => ?_
    refine Cd.plain [(0, false)] rfl rfl ?_
    refine Jp.y 8 rfl (want_all rfl) rfl rfl Kp.true (Y.assign rfl rfl) ?_
    refine Jp.done hK19 ?_
    have e : memObj (protL M pn l) y = memObj M x := by rw [memObj, memObj, ok3, ok4, protL_budget]
    refine Cd.memClose (b := b) (x := y) 0 1 2 3 (by decide) ok2 (by rw [e]; rfl) (by rw [ok3]; rfl) (by rw [ok4]; rfl) rfl ?_
    refine Cd.ret [(0, _)] rfl (res1 rfl rfl) ⟨rfl, trivial⟩ ⟨rfl, by rw [hV], by rw [hV]⟩
def del1 (M : MemG) (k : Nat) : MemG := { M with pages := M.pages.filter fun y => y.1 != k, gens := bump M.gens k }
def delL (M : MemG) (l : List Nat) : MemG := l.foldl del1 M
def unmapM (M : MemG) (a n : Nat) : Int × MemG := match stretch a n with
  | none => (1, M)
  | some many => (0, { M with pages := M.pages.filter fun y => !inS a many y.1, gens := bumpS M (inS a many) })
theorem delL_eq : ∀ {l : List Nat} {M : MemG}, l.Nodup → delL M l = { M with pages := M.pages.filter fun y => decide (y.1 ∉ l), gens := fun k => if k ∈ l then (M.gens k + 1) % 4294967296 else M.gens k } := by
  intro l
  induction l with
  | nil => intro M _; simp [delL]; rw [List.filter_eq_self.2 (fun _ _ => rfl)]
  | cons k l ih =>
    intro M hl
    have hl2 := List.nodup_cons.1 hl
    show delL (del1 M k) l = _
    rw [ih hl2.2]
    show (MemG.mk M.budget _ _) = MemG.mk M.budget _ _
    congr 1
    · show (M.pages.filter _).filter _ = _
      rw [List.filter_filter]
      apply List.filter_congr
      intro y hy
      by_cases h1 : y.1 ∈ l <;> by_cases h2 : y.1 = k <;> simp [h1, h2]
    · funext j
      show (if j ∈ l then (bump M.gens k j + 1) % 4294967296 else bump M.gens k j) = _
      simp only [bump, List.mem_cons]
      by_cases h2 : j = k
      · subst h2; simp [hl2.1]
      · by_cases h1 : j ∈ l <;> simp [h1, h2]
theorem delL_within {M : MemG} (h : MemOk M) {a many : Nat} {l : List Nat} (hl : l.Perm (withinP M a many)) : delL M l = { M with pages := M.pages.filter fun y => !inS a many y.1, gens := bumpS M (inS a many) } := by
  rw [delL_eq (hl.nodup_iff.2 (within_nodup h a many))]
  show MemG.mk M.budget _ _ = MemG.mk M.budget _ _
  congr 1
  · apply List.filter_congr
    intro y hy
    have hm : y.1 ∈ l ↔ inS a many y.1 = true := by
      rw [hl.mem_iff, within_mem]
      exact ⟨fun h => h.1, fun h => ⟨h, List.mem_map.2 ⟨y, hy, rfl⟩⟩⟩
    cases h1 : inS a many y.1 with
    | true => simp [hm.2 h1]
    | false => simp [show ¬ y.1 ∈ l from fun h => by rw [hm.1 h] at h1; cases h1]
  · funext k
    have hm : k ∈ l ↔ (inS a many k && (getPg M.pages k).isSome) = true := by
      rw [hl.mem_iff, within_mem, Bool.and_eq_true, getPg_isSome]
    unfold bumpS
    by_cases h1 : k ∈ l
    · rw [if_pos h1, if_pos (hm.1 h1)]
    · rw [if_neg h1, if_neg (fun h => h1 (hm.2 h))]
theorem delL_snoc (M : MemG) (l : List Nat) (k : Nat) : delL M (l ++ [k]) = del1 (delL M l) k := by simp [delL]
theorem delL_budget : ∀ (l : List Nat) (M : MemG), (delL M l).budget = M.budget := by
  intro l
  induction l with
  | nil => intro M; rfl
  | cons j l ih => intro M; exact ih _
theorem MemOk.del {M : MemG} (h : MemOk M) (k : Nat) : MemOk { M with pages := M.pages.filter fun y => y.1 != k } :=
  ⟨h.rising.sublist List.filter_sublist, fun x hx => h.page x (List.mem_filter.1 hx).1, h.gens, Nat.le_trans (List.length_filter_le _ _) h.room, h.budget⟩
theorem MemF.del {M : MemG} {x : MemX} (f : MemF M x) (k : Nat) : MemF { M with pages := M.pages.filter fun y => y.1 != k } { x with pm := mdel x.pm k } := by
  refine ⟨f.ok.del k, ?_, f.gens⟩
  have hn : ((M.pages.map fun p => ((p.1 : Int), pgPtr x p.1)).map (·.1)).Nodup := by
    rw [List.map_map]
    have e : ((fun x => x.1) ∘ fun p : Nat × Pg => ((p.1 : Int), pgPtr x p.1)) = (fun k : Nat => (k : Int)) ∘ fun p => p.1 := rfl
    rw [e, ← List.map_map, List.Nodup, List.pairwise_map]
    exact f.ok.rising.nodup.imp fun h => by omega
  refine (mdel_perm f.pages hn k).trans (List.Perm.of_eq ?_)
  rw [List.filter_map]
  congr 1
  apply List.filter_congr
  intro y hy
  simp only [Function.comp]
  by_cases h : y.1 = k
  · rw [h]; simp
  · have h1 : ((y.1 : Int) != (k : Int)) = true := by rw [bne_iff_ne]; omega
    have h2 : (y.1 != k) = true := by rw [bne_iff_ne]; exact h
    rw [h1, h2]
theorem blks_del {M : MemG} {x : MemX} (pm : MapL) (k : Nat) : (blksOf { M with pages := M.pages.filter fun y => y.1 != k } { x with pm := pm }).Sublist (blksOf M x) := List.filter_sublist.map _
theorem unmap_spec (b : Nat) (M : MemG) (a n : Nat) (ha : a < 4294967296) (hn : n < 4294967296) : Spec Try.prog 48 #[.pointer (some ⟨b, 0, none⟩), .int .u32 a, .int .u32 n] (fun _ => True) [(0, MemO b M)]
    (fun ρ ρ' r L => ρ' = ρ ∧ r = .int .i64 (unmapM M a n).1 ∧ L = [(0, MemO b (unmapM M a n).2)]) := by
  refine Spec.of 41 Try.func48 rfl Try.ntmps48 [(0, _), (1, _), (2, _)] rfl rfl ?_
  intro cx ρ hr h0
  refine Cd.memOpen 0 1 2 3 (by decide) rfl fun x hf => ?_
  have hroom := hf.ok.room
  have hbud := hf.ok.budget
  refine Cd.seq fun K20 hK20 => ?_
  refine Cd.plain [(0, false)] rfl rfl ?_
  refine Jp.y 6 rfl (want_all rfl) rfl rfl Kp.true (Y.assign rfl rfl) ?_
  refine Jp.done hK20 ?_
  refine Cd.seq fun K21 hK21 => ?_
  refine Cd.plain [(0, false), (1, false), (2, false), (3, false), (4, false), (5, false), (6, false), (7, false)] rfl rfl ?_
  refine Jp.y 12 rfl (want_all rfl) rfl rfl Kp.true (Y.move rfl rfl) ?_
  refine Jp.y 13 rfl (want_all rfl) rfl rfl Kp.true (Y.move rfl rfl) ?_
  refine Jp.call [] [] (stretch_spec a n ha hn) 14 rfl (want_all rfl) rfl rfl (Runs.fn rfl Try.call88 rfl) (by decide) (by decide) rfl trivial ?_
  rintro v1 ρ1 L1 ⟨rfl, rfl, rfl⟩
  refine ⟨rfl, fun hle1 => ⟨Kp.true, ?_⟩⟩
  refine Jp.y 11 rfl (want_all rfl) rfl rfl Kp.true (Y.move rfl rfl) ?_
  refine Jp.y 15 rfl (want_all rfl) rfl rfl Kp.true (Y.extract rfl rfl rfl) ?_
  refine Jp.y 16 rfl (want_all rfl) rfl rfl Kp.true (Y.extract rfl rfl rfl) ?_
  refine Jp.y 7 rfl (want_all rfl) rfl rfl Kp.true (Y.assign rfl rfl) ?_
  refine Jp.y 8 rfl (want_all rfl) rfl rfl Kp.true (Y.assign rfl rfl) ?_
  refine Jp.done hK21 ?_
  refine Cd.seq fun K22 hK22 => ?_
  refine Cd.seq fun K23 hK23 => ?_
  refine Cd.plain [(0, false), (1, false)] rfl rfl ?_
  refine Jp.y 17 rfl (want_all rfl) rfl rfl Kp.true (Y.move rfl rfl) ?_
  refine Jp.y 18 rfl (want_all rfl) rfl rfl Kp.true (Y.not rfl rfl) ?_
  refine Jp.done hK23 ?_
  refine Cd.cond rfl (fun g18 => ?_) (fun g18 => ?_)
  · skip
    try simp only [decide_eq_false_iff_not, decide_eq_true_eq, Int.not_lt, Int.not_le, Bool.not_eq_false, Bool.not_eq_true, Bool.not_true, Bool.not_false, Bool.not_eq_true', Bool.not_eq_false', beq_eq_false_iff_ne, ne_eq, beq_iff_eq, bne_iff_ne, bne_eq_false_iff_eq, Classical.not_not] at g18
    refine Cd.seq fun K24 hK24 => ?_
    refine Cd.plain [(0, false)] rfl rfl ?_
    refine Jp.y 6 rfl (want_all rfl) rfl rfl Kp.true (Y.assign rfl rfl) ?_
    refine Jp.done hK24 ?_
    refine Cd.memClose 0 1 2 3 (by decide) hf rfl rfl rfl rfl ?_
    have hV : unmapM M a n = (1, M) := by
      rw [unmapM]
      split
      · rfl
      · rename_i many hm
        rw [hm] at g18; cases g18
    refine Cd.ret [(0, _)] rfl (res1 rfl rfl) ⟨rfl, trivial⟩ ⟨rfl, by rw [hV], by rw [hV]⟩
  try simp only [decide_eq_false_iff_not, decide_eq_true_eq, Int.not_lt, Int.not_le, Bool.not_eq_false, Bool.not_eq_true, Bool.not_true, Bool.not_false, Bool.not_eq_true', Bool.not_eq_false', beq_eq_false_iff_ne, ne_eq, beq_iff_eq, bne_iff_ne, bne_eq_false_iff_eq, Classical.not_not] at g18
  refine Cd.skip hK22 ?_
  refine Cd.seq fun K25 hK25 => ?_
  refine Cd.seq fun K26 hK26 => ?_
  refine Cd.plain [(0, false), (1, false), (2, false), (3, false), (4, false), (5, false)] rfl rfl ?_
  obtain ⟨many, hm⟩ := Option.isSome_iff_exists.1 g18
  have hmany : (n + 255) / 256 = many := by
    rw [stretch] at hm
    split at hm
    · injection hm
    · cases hm
  rw [hmany]
  have hst : a % 256 = 0 ∧ a + many * 256 ≤ 4294967296 ∧ 0 < many := by
    rw [stretch] at hm
    split at hm
    · rename_i h; injection hm with hm; omega
    · cases hm
  refine Jp.y 19 rfl (want_all rfl) rfl rfl Kp.true (Y.move rfl rfl) ?_
  refine Jp.y 20 rfl (want_all rfl) rfl rfl Kp.true (Y.move rfl rfl) ?_
  refine Jp.y 21 rfl (want_all rfl) rfl rfl Kp.true (Y.move rfl rfl) ?_
  refine Jp.call [0, 1] [0, 1, 9] (within_spec b M x hf a many ha (by omega)) 22 rfl (want_all rfl) rfl rfl (Runs.fn rfl Try.call89 rfl) (by decide) (by decide) rfl trivial ?_
  rintro v2 ρ2 L2 ⟨rfl, l, Al, cl, hl, rfl, rfl⟩
  refine ⟨rfl, fun hle2 => ⟨Kp.true, ?_⟩⟩
  have hll := hl.length_eq
  have hwl : (withinP M a many).length ≤ 4096 := by
    rw [withinP, List.length_map]
    exact Nat.le_trans (List.length_filter_le _ _) (by omega)
  refine Jp.y 23 rfl (want_all rfl) rfl rfl Kp.true (Y.lenslice rfl Try.underlying26 rfl) ?_
  refine Jp.y 24 rfl (want_all rfl) rfl rfl Kp.true (Y.move rfl rfl) ?_
  refine Jp.done hK26 ?_
  refine Cd.block ?_
  have hV : unmapM M a n = (0, delL M l) := by rw [unmapM, hm, delL_within hf.ok hl]
  refine Cd.loopK (G := Nat × MemX) (fun g => g.1 ≤ l.length ∧ MemF (delL M (l.take g.1)) g.2 ∧ g.2.pb = x.pb ∧ g.2.gb = x.gb) (fun g => l.length - g.1) (fun _ => _) (fun g => [(24, .int .i64 g.1)]) [(0, _), (22, _), (23, _)] (fun g => [(1, MapO .u32 x.pb g.2.pm), (2, MapO .u32 x.gb g.2.gm), (3, Blks (blksOf (delL M (l.take g.1)) g.2))]) [(0, _), (9, _)] ⟨0, x⟩ ⟨Nat.zero_le _, hf, rfl, rfl⟩ rfl ⟨rfl, trivial⟩ ⟨rfl, rfl, rfl, trivial⟩ ⟨rfl, rfl, rfl, trivial⟩ ⟨rfl, rfl, trivial⟩ (fun g KLa hok hLa => ?_)
  obtain ⟨i, y⟩ := g
  obtain ⟨ok1, ok2, ok3, ok4⟩ := hok
  dsimp only at ok1 ok2 ok3 ok4 ⊢
  refine Cd.seq fun K27 hK27 => ?_
  refine Cd.plain [(0, false)] rfl rfl ?_
  refine Jp.y 25 rfl (want_all rfl) rfl rfl Kp.true (Y.lss rfl rfl rfl) ?_
  refine Jp.done hK27 ?_
  refine Cd.seq fun K28 hK28 => ?_
  refine Cd.cond rfl (fun ga => ?_) (fun ga => ?_)
  · simp only [decide_eq_true_eq] at ga
    have hi : i < l.length := by omega
    refine Cd.ownAt 9 rfl (by omega) ?_
    rintro b9 rfl
    have hlv : (natsV .u32 l)[i]? = some (.int .u32 (l[i] : Int)) := by rw [natsV, List.getElem?_map, List.getElem?_eq_getElem hi]; rfl
    have htake : l.take (i + 1) = l.take i ++ [l[i]] := List.take_succ_eq_append_getElem hi
    have hf2 := ok2.del l[i]
    have hf3 := hf2.bump l[i]
    have e : delL M (l.take (i + 1)) = { delL M (l.take i) with pages := (delL M (l.take i)).pages.filter (fun y => y.1 != l[i]), gens := bump (delL M (l.take i)).gens l[i] } := by
      rw [htake, delL_snoc, del1]
    refine Cd.skip hK28 ?_
    refine Cd.seq fun K29 hK29 => ?_
    refine Cd.block ?_
    refine Cd.seq fun K30 hK30 => ?_
    refine Cd.plain [(0, false), (1, false), (2, false)] rfl rfl ?_
    refine Jp.y 26 rfl (want_all rfl) rfl rfl Kp.true (Y.indexAddr (q := i) rfl rfl rfl Try.underlying26 Try.sizeOf25 (by omega) (by omega) (by omega)) ?_
    refine Jp.y 27 rfl (want_all rfl) rfl rfl Kp.true (Y.loadS 9 (q := i) rfl Try.isAgg25 rfl rfl rfl hlv) ?_
    refine Jp.y 10 rfl (want_all rfl) rfl rfl Kp.true (Y.assign rfl rfl) ?_
    refine Jp.done hK30 ?_
    refine Cd.seq fun K31 hK31 => ?_
    refine Cd.plain [(0, false), (1, false), (2, false), (3, false), (4, false), (5, false)] rfl rfl ?_
    refine Jp.y 28 rfl (want_all rfl) rfl rfl Kp.true (Y.move rfl rfl) ?_
    refine Jp.y 29 rfl (want_all rfl) rfl rfl Kp.true (Y.nilCheck rfl rfl) ?_
    refine Jp.y 30 rfl (want_all rfl) rfl rfl Kp.true (by first | exact Y.fieldAddrP rfl rfl Try.underlying115 rfl Try.sizeOf112 (by decide) (show _ + 1 = _ from rfl) | exact Y.fieldAddr rfl rfl Try.underlying115 rfl Try.sizeOf112 (by decide)) ?_
    refine Jp.y 31 rfl (want_all rfl) rfl rfl Kp.true (Y.loadO 0 rfl Try.isAgg112 rfl rfl rfl) ?_
    refine Jp.y 32 rfl (want_all rfl) rfl rfl Kp.true (Y.move rfl rfl) ?_
    first | refine Jp.delete0 1 rfl (want_all rfl) rfl rfl rfl rfl Try.underlying112 Try.underlying25 rfl Kp.true ?_
    refine Jp.done hK31 ?_
    refine Cd.plain [(0, false), (1, false), (2, false), (3, false), (4, false), (5, false), (6, false), (7, false)] rfl rfl ?_
    refine Jp.y 33 rfl (want_all rfl) rfl rfl Kp.true (Y.move rfl rfl) ?_
    refine Jp.y 34 rfl (want_all rfl) rfl rfl Kp.true (Y.nilCheck rfl rfl) ?_
    refine Jp.y 35 rfl (want_all rfl) rfl rfl Kp.true (by first | exact Y.fieldAddrP rfl rfl Try.underlying115 rfl Try.sizeOf113 (by decide) (show _ + 2 = _ from rfl) | exact Y.fieldAddr rfl rfl Try.underlying115 rfl Try.sizeOf113 (by decide)) ?_
    refine Jp.y 36 rfl (want_all rfl) rfl rfl Kp.true (Y.loadO 0 rfl Try.isAgg113 rfl rfl rfl) ?_
    refine Jp.y 37 rfl (want_all rfl) rfl rfl Kp.true (Y.move rfl rfl) ?_
    refine Jp.y 38 rfl (want_all rfl) rfl rfl Kp.true (by first | exact Y.lookup 2 rfl rfl rfl Try.underlying113 Try.underlying25 Try.zeroValue25 rfl) ?_
    refine Jp.slot 38 rfl ((ok2.gens _)) ?_
    refine Jp.y 39 rfl (want_all rfl) rfl rfl Kp.true (Y.add_ rfl rfl rfl (wrap_u32m ((delL M (l.take i)).gens l[i] + 1))) ?_
    first | refine Jp.mapUpdate 2 rfl (want_all rfl) rfl rfl rfl rfl rfl Try.underlying113 Try.underlying25 rfl Kp.true ?_
    refine Jp.over rfl hK29 ?_
    refine Cd.plain [(0, false), (1, false)] rfl rfl ?_
    refine Jp.y 40 rfl (want_all rfl) rfl rfl Kp.true (Y.add_ rfl rfl rfl (by first | exact wrap_i64 (by omega) (by omega) | rfl)) ?_
    refine Jp.y 24 rfl (want_all rfl) rfl rfl Kp.true (Y.move rfl rfl) ?_
    refine Jp.imp (j := 3) rfl (Blks.sub (blks_del (M := delL M (l.take i)) (x := y) (mdel y.pm l[i]) l[i])) ?_
    refine Jp.imp (j := 3) rfl (fun h hh => (show Blks (blksOf (delL M (l.take (i + 1))) { y with pm := mdel y.pm l[i] }) h by rw [e]; exact hh)) ?_
    refine Jp.again hLa ⟨i + 1, { y with pm := mdel y.pm l[i], gm := mset y.gm l[i] (.int .u32 ((((delL M (l.take i)).gens l[i] + 1) % 4294967296 : Nat) : Int)) }⟩ ⟨hi, by rw [e]; exact hf3, ok3, ok4⟩ (by show l.length - (i + 1) < l.length - i; omega) rfl ⟨rfl, rfl, rfl, rfl, trivial⟩ ⟨rfl, rfl, rfl, rfl, rfl, trivial⟩
  · simp only [decide_eq_false_iff_not] at ga
    obtain rfl : i = l.length := by omega
    rw [List.take_length] at ok2 ⊢
    refine Cd.exit rfl hK25 ?_
    refine Cd.seq fun K32 hK32 => ?_
    refine Cd.plain [(0, false)] rfl rfl ?_
    refine Jp.y 6 rfl (want_all rfl) rfl rfl Kp.true (Y.assign rfl rfl) ?_
    refine Jp.done hK32 ?_
    have e : memObj (delL M l) y = memObj M x := by rw [memObj, memObj, ok3, ok4, delL_budget]
    refine Cd.memClose (b := b) (x := y) 0 1 2 3 (by decide) ok2 (by rw [e]; rfl) (by rw [ok3]; rfl) (by rw [ok4]; rfl) rfl ?_
    refine Cd.ret [(0, _)] rfl (res1 rfl rfl) ⟨rfl, trivial⟩ ⟨rfl, by rw [hV], by rw [hV]⟩
end Go.Proofs.Ytgmhijlcdadaeaa
set_option linter.unusedVariables false
set_option linter.unusedSimpArgs false
set_option maxRecDepth 100000
namespace Go.Proofs.Ytgmhijlcdadaeaa
open Go
def permIn (M : MemG) (a many perm : Nat) : MemG := { M with pages := M.pages.map fun y => if inS a many y.1 then (y.1, ⟨y.2.b, perm⟩) else y, gens := bumpS M (inS a many) }
def dropIn (M : MemG) (a many : Nat) : MemG := { M with pages := M.pages.filter fun y => !inS a many y.1, gens := bumpS M (inS a many) }
theorem getPg_filter (l : List (Nat × Pg)) (f : Nat → Bool) (k : Nat) : getPg (l.filter fun y => f y.1) k = if f k then getPg l k else none := by
  induction l with
  | nil => simp [getPg]
  | cons x l ih =>
    obtain ⟨x, p⟩ := x
    rw [List.filter_cons]
    by_cases hx : f x = true
    · rw [if_pos hx]
      simp only [getPg]
      by_cases h : x = k
      · subst h; simp [hx]
      · rw [if_neg h, if_neg h, ih]
    · rw [if_neg hx, ih]
      simp only [getPg]
      by_cases h : x = k
      · subst h; simp [hx]
      · rw [if_neg h]
end Go.Proofs.Ytgmhijlcdadaeaa
