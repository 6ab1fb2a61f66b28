import Derived.Test.YtkjeidoplonkjaaZMemX1
set_option linter.unusedVariables false
set_option linter.unusedSimpArgs false
set_option maxRecDepth 100000
namespace Go.Proofs.Ytkjeidoplonkjaa
open Go
def pgOk (M : MemG) (k : Nat) (need : Int) : Bool := match getPg M.pages k with
  | some p => may p.perm need
  | none => false
def allCnt (a n : Nat) : Nat := (a % 256 + n + 255) / 256
def allM (M : MemG) (a n : Nat) (need : Int) : Bool := decide (n = 0) || (decide (a + n ≤ 4294967296) && (List.range (allCnt a n)).all fun j => pgOk M (baseN a + 256 * j) need)
theorem pgOk_some {M : MemG} {k : Nat} {need : Int} {p : Pg} (h : getPg M.pages k = some p) : pgOk M k need = may p.perm need := by rw [pgOk, h]
theorem pgOk_none {M : MemG} {k : Nat} {need : Int} (h : getPg M.pages k = none) : pgOk M k need = false := by rw [pgOk, h]
theorem allM_yes {M : MemG} {a n : Nat} {need : Int} (h : a + n ≤ 4294967296) (h2 : ∀ j, j < allCnt a n → pgOk M (baseN a + 256 * j) need = true) : allM M a n need = true := by
  simp only [allM, h, decide_true, Bool.true_and, Bool.or_eq_true]
  exact .inr (List.all_eq_true.2 fun j hj => h2 j (List.mem_range.1 hj))
theorem allM_no {M : MemG} {a n j : Nat} {need : Int} (hn : n ≠ 0) (hj : j < allCnt a n) (h2 : pgOk M (baseN a + 256 * j) need = false) : allM M a n need = false := by
  simp only [allM, hn, decide_false, Bool.false_or, Bool.and_eq_false_iff]
  refine .inr (Bool.eq_false_iff.2 fun h => ?_)
  have := List.all_eq_true.1 h j (List.mem_range.2 hj)
  rw [h2] at this; cases this
theorem allM_big {M : MemG} {a n : Nat} {need : Int} (hn : n ≠ 0) (h : 4294967296 < a + n) : allM M a n need = false := by
  simp only [allM, hn, decide_false, Bool.false_or, Bool.and_eq_false_iff, decide_eq_false_iff_not]
  exact .inl (by omega)
theorem allM_page {M : MemG} {a n i : Nat} {need : Int} (h : allM M a n need = true) (hi : i < n) : a + n ≤ 4294967296 ∧ ∃ p, getPg M.pages (baseN (a + i)) = some p ∧ may p.perm need = true := by
  simp only [allM, Bool.or_eq_true, Bool.and_eq_true, decide_eq_true_eq] at h
  rcases h with h | ⟨h1, h2⟩
  · omega
  refine ⟨h1, ?_⟩
  have hb : baseN (a + i) = baseN a + 256 * ((a % 256 + i) / 256) := by unfold baseN; omega
  have := List.all_eq_true.1 h2 ((a % 256 + i) / 256) (List.mem_range.2 (by unfold allCnt; omega))
  rw [← hb, pgOk] at this
  split at this
  · rename_i p hp; exact ⟨p, hp, this⟩
  · cases this
theorem all_spec (b : Nat) (M : MemG) (x : MemX) (hf : MemF M x) (a n : Nat) (need : Int) (ha : a < 4294967296) (hn : n ≤ 65536) : Spec Try.prog 82 #[.pointer (some ⟨b, 0, none⟩), .int .u32 a, .int .i64 n, .int .i64 need] (fun _ => True) [(0, Pt b (memObj M x)), (1, MapO .u32 x.pb x.pm), (2, Blks (blksOf M x))]
    (fun ρ ρ' v L => ρ' = ρ ∧ v = .bool (allM M a n need) ∧ L = [(0, Pt b (memObj M x)), (1, MapO .u32 x.pb x.pm), (2, Blks (blksOf M x))]) := by
  refine Spec.of 51 Try.func82 rfl Try.ntmps82 [(0, _), (1, _), (2, _), (3, _)] rfl rfl ?_
  intro cx ρ hr h0
  refine Cd.seq fun K1 hK1 => ?_
  refine Cd.plain [(0, false)] rfl rfl ?_
  refine Jp.y 8 rfl (want_all rfl) rfl rfl Kp.true (Y.assign rfl rfl) ?_
  refine Jp.done hK1 ?_
  refine Cd.seq fun K2 hK2 => ?_
  refine Cd.seq fun K3 hK3 => ?_
  refine Cd.plain [(0, false), (1, false)] rfl rfl ?_
  refine Jp.y 12 rfl (want_all rfl) rfl rfl Kp.true (Y.move rfl rfl) ?_
  refine Jp.y 13 rfl (want_all rfl) rfl rfl Kp.true (Y.eql rfl rfl rfl) ?_
  refine Jp.done hK3 ?_
  refine Cd.cond rfl (fun g13 => ?_) (fun g13 => ?_)
  · skip
    try simp only [decide_eq_false_iff_not, decide_eq_true_eq, Int.not_lt, Int.not_le, Bool.not_eq_false, Bool.not_eq_true, Bool.not_true, Bool.not_false, Bool.not_eq_true', Bool.not_eq_false', beq_eq_false_iff_ne, ne_eq, beq_iff_eq, bne_iff_ne, bne_eq_false_iff_eq, Classical.not_not] at g13
    refine Cd.seq fun K4 hK4 => ?_
    refine Cd.plain [(0, false)] rfl rfl ?_
    refine Jp.y 8 rfl (want_all rfl) rfl rfl Kp.true (Y.assign rfl rfl) ?_
    refine Jp.done hK4 ?_
    refine Cd.ret [(0, _), (1, _), (2, _)] rfl (res1 rfl rfl) ⟨rfl, rfl, rfl, trivial⟩ ⟨rfl, congrArg Value.bool ?_, rfl⟩
    have : n = 0 := by omega
    subst this; rfl
  try simp only [decide_eq_false_iff_not, decide_eq_true_eq, Int.not_lt, Int.not_le, Bool.not_eq_false, Bool.not_eq_true, Bool.not_true, Bool.not_false, Bool.not_eq_true', Bool.not_eq_false', beq_eq_false_iff_ne, ne_eq, beq_iff_eq, bne_iff_ne, bne_eq_false_iff_eq, Classical.not_not] at g13
  refine Cd.skip hK2 ?_
  refine Cd.seq fun K5 hK5 => ?_
  refine Cd.seq fun K6 hK6 => ?_
  refine Cd.plain [(0, false), (1, false), (2, false), (3, false), (4, false), (5, false)] rfl rfl ?_
  refine Jp.y 14 rfl (want_all rfl) rfl rfl Kp.true (Y.move rfl rfl) ?_
  refine Jp.y 15 rfl (want_all rfl) rfl rfl Kp.true (Y.conv_ rfl rfl Try.underlying25 Try.underlying105 (by first | exact wrap_u64 (by omega) (by omega) | rfl)) ?_
  refine Jp.y 16 rfl (want_all rfl) rfl rfl Kp.true (Y.move rfl rfl) ?_
  refine Jp.y 17 rfl (want_all rfl) rfl rfl Kp.true (Y.conv_ rfl rfl Try.underlying3 Try.underlying105 (by first | exact wrap_u64 (by omega) (by omega) | rfl)) ?_
  refine Jp.y 18 rfl (want_all rfl) rfl rfl Kp.true (Y.add_ rfl rfl rfl (by first | exact wrap_u64 (by omega) (by omega) | rfl)) ?_
  refine Jp.y 19 rfl (want_all rfl) rfl rfl Kp.true (Y.gtr rfl rfl rfl) ?_
  refine Jp.done hK6 ?_
  refine Cd.cond rfl (fun g19 => ?_) (fun g19 => ?_)
  · skip
    try simp only [decide_eq_false_iff_not, decide_eq_true_eq, Int.not_lt, Int.not_le, Bool.not_eq_false, Bool.not_eq_true, Bool.not_true, Bool.not_false, Bool.not_eq_true', Bool.not_eq_false', beq_eq_false_iff_ne, ne_eq, beq_iff_eq, bne_iff_ne, bne_eq_false_iff_eq, Classical.not_not] at g19
    refine Cd.seq fun K7 hK7 => ?_
    refine Cd.plain [(0, false)] rfl rfl ?_
    refine Jp.y 8 rfl (want_all rfl) rfl rfl Kp.true (Y.assign rfl rfl) ?_
    refine Jp.done hK7 ?_
    refine Cd.ret [(0, _), (1, _), (2, _)] rfl (res1 rfl rfl) ⟨rfl, rfl, rfl, trivial⟩ ⟨rfl, congrArg Value.bool (allM_big (by omega) (by omega)).symm, rfl⟩
  try simp only [decide_eq_false_iff_not, decide_eq_true_eq, Int.not_lt, Int.not_le, Bool.not_eq_false, Bool.not_eq_true, Bool.not_true, Bool.not_false, Bool.not_eq_true', Bool.not_eq_false', beq_eq_false_iff_ne, ne_eq, beq_iff_eq, bne_iff_ne, bne_eq_false_iff_eq, Classical.not_not] at g19
  refine Cd.skip hK5 ?_
  refine Cd.seq fun K8 hK8 => ?_
  refine Cd.plain [(0, false), (1, false), (2, false), (3, false), (4, false), (5, false), (6, false)] rfl rfl ?_
  refine Jp.y 20 rfl (want_all rfl) rfl rfl Kp.true (Y.move rfl rfl) ?_
  refine Jp.y 21 rfl (want_all rfl) rfl rfl Kp.true (Y.move rfl rfl) ?_
  refine Jp.y 22 rfl (want_all rfl) rfl rfl Kp.true (Y.sub_ rfl rfl rfl (by first | exact wrap_i64 (by omega) (by omega) | rfl)) ?_
  refine Jp.y 23 rfl (want_all rfl) rfl rfl Kp.true (Y.conv_ rfl rfl Try.underlying3 Try.underlying25 (by first | exact wrap_u32 (by omega) (by omega) | rfl)) ?_
  refine Jp.y 24 rfl (want_all rfl) rfl rfl Kp.true (Y.add_ rfl rfl rfl (by first | exact wrap_u32 (by omega) (by omega) | rfl)) ?_
  refine Jp.slot 24 rfl (congrArg (Value.int .u32) (show (a : Int) + (n - 1) = ((a + n - 1 : Nat) : Int) by omega)) ?_
  refine Jp.call [] [] (base_spec (a + n - 1) (by omega)) 25 rfl (want_all rfl) rfl rfl (Runs.fn rfl Try.call48 rfl) (by decide) (by decide) rfl trivial ?_
  rintro v1 ρ1 L1 ⟨rfl, rfl, rfl⟩
  refine ⟨rfl, fun hle1 => ⟨Kp.true, ?_⟩⟩
  refine Jp.y 9 rfl (want_all rfl) rfl rfl Kp.true (Y.assign rfl rfl) ?_
  refine Jp.done hK8 ?_
  refine Cd.seq fun K9 hK9 => ?_
  refine Cd.plain [(0, false), (1, false), (2, false)] rfl rfl ?_
  refine Jp.y 26 rfl (want_all rfl) rfl rfl Kp.true (Y.move rfl rfl) ?_
  refine Jp.call [] [] (base_spec a ha) 27 rfl (want_all rfl) rfl rfl (Runs.fn rfl Try.call48 rfl) (by decide) (by decide) rfl trivial ?_
  rintro v2 ρ2 L2 ⟨rfl, rfl, rfl⟩
  refine ⟨rfl, fun hle2 => ⟨Kp.true, ?_⟩⟩
  refine Jp.y 10 rfl (want_all rfl) rfl rfl Kp.true (Y.assign rfl rfl) ?_
  refine Jp.done hK9 ?_
  refine Cd.block ?_
  have hc1 : 1 ≤ allCnt a n := by unfold allCnt; omega
  have hlast : baseN (a + n - 1) = baseN a + 256 * (allCnt a n - 1) := by unfold baseN allCnt; omega
  have hb0 : baseN a ≤ a := by unfold baseN; omega
  have hb1 : baseN a + 256 * (allCnt a n - 1) < 4294967296 := by rw [← hlast]; unfold baseN; omega
  rw [hlast]
  refine Cd.loopK (G := Nat) (fun j => j < allCnt a n ∧ ∀ i, i < j → pgOk M (baseN a + 256 * i) need = true) (fun j => allCnt a n - j) (fun _ => _) (fun j => [(10, .int .u32 ((baseN a + 256 * j : Nat) : Int))]) [(0, _), (3, _), (9, _)] (fun _ => []) [(0, _), (1, _), (2, _)] 0 ⟨hc1, fun i h => by omega⟩ rfl ⟨rfl, trivial⟩ ⟨rfl, rfl, rfl, trivial⟩ trivial ⟨rfl, rfl, rfl, trivial⟩ (fun g KLa hok hLa => ?_)
  obtain ⟨ok1, ok2⟩ := hok
  have hget := hf.get (baseN a + 256 * g)
  refine Cd.seq fun K10 hK10 => ?_
  refine Cd.block ?_
  refine Cd.seq fun K11 hK11 => ?_
  refine Cd.plain [(0, false), (1, false), (2, false), (3, false), (4, false), (5, false), (6, false)] rfl rfl ?_
  refine Jp.y 30 rfl (want_all rfl) rfl rfl Kp.true (Y.move rfl rfl) ?_
  refine Jp.y 31 rfl (want_all rfl) rfl rfl Kp.true (Y.nilCheck rfl rfl) ?_
  refine Jp.y 32 rfl (want_all rfl) rfl rfl Kp.true (by first | exact Y.fieldAddrP rfl rfl Try.underlying142 rfl Try.sizeOf139 (by decide) (show _ + 1 = _ from rfl) | exact Y.fieldAddr rfl rfl Try.underlying142 rfl Try.sizeOf139 (by decide)) ?_
  refine Jp.y 33 rfl (want_all rfl) rfl rfl Kp.true (Y.loadO 0 rfl Try.isAgg139 rfl rfl rfl) ?_
  refine Jp.y 34 rfl (want_all rfl) rfl rfl Kp.true (Y.move rfl rfl) ?_
  refine Jp.y 35 rfl (want_all rfl) rfl rfl Kp.true (by first | exact Y.lookup 1 rfl rfl rfl Try.underlying139 Try.underlying25 Try.zeroValue138 rfl) ?_
  refine Jp.y 11 rfl (want_all rfl) rfl rfl Kp.true (Y.assign rfl rfl) ?_
  refine Jp.done hK11 ?_
  refine Cd.seq fun K12 hK12 => ?_
  refine Cd.seq fun K13 hK13 => ?_
  refine Cd.plain [(0, false), (1, false), (2, false), (3, false), (4, false), (5, false), (6, false), (7, false), (8, false), (9, false), (10, false), (11, false)] rfl rfl ?_
  rcases hg : getPg M.pages (baseN a + 256 * g) with _ | p
  · rw [hg] at hget
    refine Jp.slot 11 rfl (show _ = Value.pointer none by rw [hget]; rfl) ?_
    refine Jp.y 36 rfl (want_all rfl) rfl rfl Kp.true (Y.move rfl rfl) ?_
    refine Jp.y 37 rfl (want_all rfl) rfl rfl Kp.true (Y.ptrNil rfl Try.underlying138 rfl rfl) ?_
    refine Jp.y 38 rfl (want_all rfl) rfl rfl Kp.true (Y.move rfl rfl) ?_
    refine Jp.split 38 rfl (fun g38 => ?_) (fun g38 => ?_)
    · skip
      try simp only [decide_eq_false_iff_not, decide_eq_true_eq, Int.not_lt, Int.not_le, Bool.not_eq_false, Bool.not_eq_true, Bool.not_true, Bool.not_false, Bool.not_eq_true', Bool.not_eq_false', beq_eq_false_iff_ne, ne_eq, beq_iff_eq, bne_iff_ne, bne_eq_false_iff_eq, Classical.not_not] at g38
      first
      | done
      | (first
         | (simp at g38; done)
         | omega)
      | skip
        refine Jp.skip 39 rfl (want_as rfl rfl rfl rfl) rfl rfl Kp.true ?_
        refine Jp.skip 40 rfl (want_as rfl rfl rfl rfl) rfl rfl Kp.true ?_
        refine Jp.skip 41 rfl (want_as rfl rfl rfl rfl) rfl rfl Kp.true ?_
        refine Jp.skip 42 rfl (want_as rfl rfl rfl rfl) rfl rfl Kp.true ?_
        refine Jp.skip 43 rfl (want_as rfl rfl rfl rfl) rfl rfl Kp.true ?_
        refine Jp.skip 44 rfl (want_as rfl rfl rfl rfl) rfl rfl Kp.true ?_
        refine Jp.skip 45 rfl (want_as rfl rfl rfl rfl) rfl rfl Kp.true ?_
        refine Jp.skip 46 rfl (want_as rfl rfl rfl rfl) rfl rfl Kp.true ?_
        refine Jp.y 47 rfl (want_all rfl) rfl rfl Kp.true (Y.pickT rfl rfl rfl) ?_
        refine Jp.done hK13 ?_
        refine Cd.condT rfl ?_
        refine Cd.seq fun K14 hK14 => ?_
        refine Cd.plain [(0, false)] rfl rfl ?_
        refine Jp.y 8 rfl (want_all rfl) rfl rfl Kp.true (Y.assign rfl rfl) ?_
        refine Jp.done hK14 ?_
        refine Cd.ret [(0, _), (1, _), (2, _)] rfl (res1 rfl rfl) ⟨rfl, rfl, rfl, trivial⟩ ⟨rfl, congrArg Value.bool ?_, rfl⟩
        first
        | exact (allM_no (M := M) (a := a) (n := n) (by omega) ok1 (pgOk_none hg)).symm
        | exact (allM_no (M := M) (a := a) (n := n) (by omega) ok1 (by rw [pgOk_some hg]; simpa [may] using g47)).symm
        | exact (allM_yes (M := M) (a := a) (n := n) (by omega) (fun i hi => by
            by_cases hij : i < g
            · exact ok2 i hij
            · have : i = g := by omega
              subst this; rw [pgOk_some hg]; simpa [may] using g47)).symm
    · skip
      try simp only [decide_eq_false_iff_not, decide_eq_true_eq, Int.not_lt, Int.not_le, Bool.not_eq_false, Bool.not_eq_true, Bool.not_true, Bool.not_false, Bool.not_eq_true', Bool.not_eq_false', beq_eq_false_iff_ne, ne_eq, beq_iff_eq, bne_iff_ne, bne_eq_false_iff_eq, Classical.not_not] at g38
      first
      | done
      | (first
         | (simp at g38; done)
         | omega)
      | skip
        refine Jp.y 39 rfl (want_as rfl rfl rfl rfl) rfl rfl Kp.true (Y.move rfl rfl) ?_
        refine Jp.y 40 rfl (want_as rfl rfl rfl rfl) rfl rfl Kp.true (Y.nilCheck rfl rfl) ?_
        refine Jp.y 41 rfl (want_as rfl rfl rfl rfl) rfl rfl Kp.true (by first | exact Y.fieldAddrP rfl rfl Try.underlying144 rfl Try.sizeOf3 (by decide) (show _ + 256 = _ from rfl) | exact Y.fieldAddr rfl rfl Try.underlying144 rfl Try.sizeOf3 (by decide)) ?_
        refine Jp.y 42 rfl (want_as rfl rfl rfl rfl) rfl rfl Kp.true (Y.loadO 0 rfl Try.isAgg3 rfl rfl rfl) ?_
        refine Jp.y 43 rfl (want_as rfl rfl rfl rfl) rfl rfl Kp.true (Y.move rfl rfl) ?_
        refine Jp.y 44 rfl (want_as rfl rfl rfl rfl) rfl rfl Kp.true (Y.bits rfl rfl rfl rfl) ?_
        refine Jp.y 45 rfl (want_as rfl rfl rfl rfl) rfl rfl Kp.true (Y.move rfl rfl) ?_
        refine Jp.y 46 rfl (want_as rfl rfl rfl rfl) rfl rfl Kp.true (Y.neq rfl rfl rfl) ?_
        refine Jp.y 47 rfl (want_all rfl) rfl rfl Kp.true (Y.pickF rfl rfl rfl) ?_
        refine Jp.done hK13 ?_
        refine Cd.cond rfl (fun g47 => ?_) (fun g47 => ?_)
        · skip
          try simp only [decide_eq_false_iff_not, decide_eq_true_eq, Int.not_lt, Int.not_le, Bool.not_eq_false, Bool.not_eq_true, Bool.not_true, Bool.not_false, Bool.not_eq_true', Bool.not_eq_false', beq_eq_false_iff_ne, ne_eq, beq_iff_eq, bne_iff_ne, bne_eq_false_iff_eq, Classical.not_not] at g47
          first
          | done
          | (first
             | (simp at g47; done)
             | omega)
          | skip
            refine Cd.seq fun K15 hK15 => ?_
            refine Cd.plain [(0, false)] rfl rfl ?_
            refine Jp.y 8 rfl (want_all rfl) rfl rfl Kp.true (Y.assign rfl rfl) ?_
            refine Jp.done hK15 ?_
            refine Cd.ret [(0, _), (1, _), (2, _)] rfl (res1 rfl rfl) ⟨rfl, rfl, rfl, trivial⟩ ⟨rfl, congrArg Value.bool ?_, rfl⟩
            first
            | exact (allM_no (M := M) (a := a) (n := n) (by omega) ok1 (pgOk_none hg)).symm
            | exact (allM_no (M := M) (a := a) (n := n) (by omega) ok1 (by rw [pgOk_some hg]; simpa [may] using g47)).symm
            | exact (allM_yes (M := M) (a := a) (n := n) (by omega) (fun i hi => by
                by_cases hij : i < g
                · exact ok2 i hij
                · have : i = g := by omega
                  subst this; rw [pgOk_some hg]; simpa [may] using g47)).symm
        · skip
          try simp only [decide_eq_false_iff_not, decide_eq_true_eq, Int.not_lt, Int.not_le, Bool.not_eq_false, Bool.not_eq_true, Bool.not_true, Bool.not_false, Bool.not_eq_true', Bool.not_eq_false', beq_eq_false_iff_ne, ne_eq, beq_iff_eq, bne_iff_ne, bne_eq_false_iff_eq, Classical.not_not] at g47
          first
          | done
          | (first
             | (simp at g47; done)
             | omega)
          | skip
            refine Cd.skip hK12 ?_
            refine Cd.seq fun K16 hK16 => ?_
            refine Cd.plain [(0, false), (1, false), (2, false)] rfl rfl ?_
            refine Jp.y 48 rfl (want_all rfl) rfl rfl Kp.true (Y.move rfl rfl) ?_
            refine Jp.y 49 rfl (want_all rfl) rfl rfl Kp.true (Y.move rfl rfl) ?_
            refine Jp.y 50 rfl (want_all rfl) rfl rfl Kp.true (Y.eql rfl rfl rfl) ?_
            refine Jp.done hK16 ?_
            refine Cd.cond rfl (fun g50 => ?_) (fun g50 => ?_)
            · skip
              try simp only [decide_eq_false_iff_not, decide_eq_true_eq, Int.not_lt, Int.not_le, Bool.not_eq_false, Bool.not_eq_true, Bool.not_true, Bool.not_false, Bool.not_eq_true', Bool.not_eq_false', beq_eq_false_iff_ne, ne_eq, beq_iff_eq, bne_iff_ne, bne_eq_false_iff_eq, Classical.not_not] at g50
              first
              | done
              | (first
                 | (simp at g50; done)
                 | omega)
              | skip
                refine Cd.seq fun K17 hK17 => ?_
                refine Cd.plain [(0, false)] rfl rfl ?_
                refine Jp.y 8 rfl (want_all rfl) rfl rfl Kp.true (Y.assign rfl rfl) ?_
                refine Jp.done hK17 ?_
                refine Cd.ret [(0, _), (1, _), (2, _)] rfl (res1 rfl rfl) ⟨rfl, rfl, rfl, trivial⟩ ⟨rfl, congrArg Value.bool ?_, rfl⟩
                first
                | exact (allM_no (M := M) (a := a) (n := n) (by omega) ok1 (pgOk_none hg)).symm
                | exact (allM_no (M := M) (a := a) (n := n) (by omega) ok1 (by rw [pgOk_some hg]; simpa [may] using g47)).symm
                | exact (allM_yes (M := M) (a := a) (n := n) (by omega) (fun i hi => by
                    by_cases hij : i < g
                    · exact ok2 i hij
                    · have : i = g := by omega
                      subst this; rw [pgOk_some hg]; simpa [may] using g47)).symm
            · skip
              try simp only [decide_eq_false_iff_not, decide_eq_true_eq, Int.not_lt, Int.not_le, Bool.not_eq_false, Bool.not_eq_true, Bool.not_true, Bool.not_false, Bool.not_eq_true', Bool.not_eq_false', beq_eq_false_iff_ne, ne_eq, beq_iff_eq, bne_iff_ne, bne_eq_false_iff_eq, Classical.not_not] at g50
              first
              | done
              | (first
                 | (simp at g50; done)
                 | omega)
              | skip
                refine Cd.over rfl hK10 ?_
                refine Cd.plain [(0, false), (1, false), (2, false)] rfl rfl ?_
                refine Jp.y 28 rfl (want_all rfl) rfl rfl Kp.true (Y.move rfl rfl) ?_
                refine Jp.y 29 rfl (want_all rfl) rfl rfl Kp.true (Y.add_ rfl rfl rfl (by first | exact wrap_u32 (by omega) (by omega) | rfl)) ?_
                refine Jp.y 10 rfl (want_all rfl) rfl rfl Kp.true (Y.assign rfl rfl) ?_
                done
  · rw [hg] at hget
    refine Jp.slot 11 rfl (show _ = Value.pointer (some ⟨x.blk (baseN a + 256 * g), 0, none⟩) by rw [hget]; rfl) ?_
    have hpo := hf.ok.page _ (getPg_mem hg)
    have hcell := Blks.cell (MemF.blk (x := x) hg) (pageCells_perm p hpo.len)
    refine Jp.y 36 rfl (want_all rfl) rfl rfl Kp.true (Y.move rfl rfl) ?_
    refine Jp.y 37 rfl (want_all rfl) rfl rfl Kp.true (Y.ptrNil rfl Try.underlying138 rfl rfl) ?_
    refine Jp.y 38 rfl (want_all rfl) rfl rfl Kp.true (Y.move rfl rfl) ?_
    refine Jp.split 38 rfl (fun g38 => ?_) (fun g38 => ?_)
    · skip
      try simp only [decide_eq_false_iff_not, decide_eq_true_eq, Int.not_lt, Int.not_le, Bool.not_eq_false, Bool.not_eq_true, Bool.not_true, Bool.not_false, Bool.not_eq_true', Bool.not_eq_false', beq_eq_false_iff_ne, ne_eq, beq_iff_eq, bne_iff_ne, bne_eq_false_iff_eq, Classical.not_not] at g38
      first
      | done
      | (first
         | (simp at g38; done)
         | omega)
      | skip
        refine Jp.skip 39 rfl (want_as rfl rfl rfl rfl) rfl rfl Kp.true ?_
        refine Jp.skip 40 rfl (want_as rfl rfl rfl rfl) rfl rfl Kp.true ?_
        refine Jp.skip 41 rfl (want_as rfl rfl rfl rfl) rfl rfl Kp.true ?_
        refine Jp.skip 42 rfl (want_as rfl rfl rfl rfl) rfl rfl Kp.true ?_
        refine Jp.skip 43 rfl (want_as rfl rfl rfl rfl) rfl rfl Kp.true ?_
        refine Jp.skip 44 rfl (want_as rfl rfl rfl rfl) rfl rfl Kp.true ?_
        refine Jp.skip 45 rfl (want_as rfl rfl rfl rfl) rfl rfl Kp.true ?_
        refine Jp.skip 46 rfl (want_as rfl rfl rfl rfl) rfl rfl Kp.true ?_
        refine Jp.y 47 rfl (want_all rfl) rfl rfl Kp.true (Y.pickT rfl rfl rfl) ?_
        refine Jp.done hK13 ?_
        refine Cd.condT rfl ?_
        refine Cd.seq fun K18 hK18 => ?_
        refine Cd.plain [(0, false)] rfl rfl ?_
        refine Jp.y 8 rfl (want_all rfl) rfl rfl Kp.true (Y.assign rfl rfl) ?_
        refine Jp.done hK18 ?_
        refine Cd.ret [(0, _), (1, _), (2, _)] rfl (res1 rfl rfl) ⟨rfl, rfl, rfl, trivial⟩ ⟨rfl, congrArg Value.bool ?_, rfl⟩
        first
        | exact (allM_no (M := M) (a := a) (n := n) (by omega) ok1 (pgOk_none hg)).symm
        | exact (allM_no (M := M) (a := a) (n := n) (by omega) ok1 (by rw [pgOk_some hg]; simpa [may] using g47)).symm
        | exact (allM_yes (M := M) (a := a) (n := n) (by omega) (fun i hi => by
            by_cases hij : i < g
            · exact ok2 i hij
            · have : i = g := by omega
              subst this; rw [pgOk_some hg]; simpa [may] using g47)).symm
    · skip
      try simp only [decide_eq_false_iff_not, decide_eq_true_eq, Int.not_lt, Int.not_le, Bool.not_eq_false, Bool.not_eq_true, Bool.not_true, Bool.not_false, Bool.not_eq_true', Bool.not_eq_false', beq_eq_false_iff_ne, ne_eq, beq_iff_eq, bne_iff_ne, bne_eq_false_iff_eq, Classical.not_not] at g38
      first
      | done
      | (first
         | (simp at g38; done)
         | omega)
      | skip
        refine Jp.y 39 rfl (want_as rfl rfl rfl rfl) rfl rfl Kp.true (Y.move rfl rfl) ?_
        refine Jp.y 40 rfl (want_as rfl rfl rfl rfl) rfl rfl Kp.true (Y.nilCheck rfl rfl) ?_
        refine Jp.y 41 rfl (want_as rfl rfl rfl rfl) rfl rfl Kp.true (by first | exact Y.fieldAddrP rfl rfl Try.underlying144 rfl Try.sizeOf3 (by decide) (show _ + 256 = _ from rfl) | exact Y.fieldAddr rfl rfl Try.underlying144 rfl Try.sizeOf3 (by decide)) ?_
        refine Jp.y 42 rfl (want_as rfl rfl rfl rfl) rfl rfl Kp.true (by first | exact Y.loadO 0 rfl Try.isAgg3 rfl rfl rfl | exact Y.loadC 2 rfl Try.isAgg3 rfl rfl hcell) ?_
        refine Jp.y 43 rfl (want_as rfl rfl rfl rfl) rfl rfl Kp.true (Y.move rfl rfl) ?_
        refine Jp.y 44 rfl (want_as rfl rfl rfl rfl) rfl rfl Kp.true (Y.bits rfl rfl rfl rfl) ?_
        refine Jp.y 45 rfl (want_as rfl rfl rfl rfl) rfl rfl Kp.true (Y.move rfl rfl) ?_
        refine Jp.y 46 rfl (want_as rfl rfl rfl rfl) rfl rfl Kp.true (Y.neq rfl rfl rfl) ?_
        refine Jp.y 47 rfl (want_all rfl) rfl rfl Kp.true (Y.pickF rfl rfl rfl) ?_
        refine Jp.done hK13 ?_
        refine Cd.cond rfl (fun g47 => ?_) (fun g47 => ?_)
        · skip
          try simp only [decide_eq_false_iff_not, decide_eq_true_eq, Int.not_lt, Int.not_le, Bool.not_eq_false, Bool.not_eq_true, Bool.not_true, Bool.not_false, Bool.not_eq_true', Bool.not_eq_false', beq_eq_false_iff_ne, ne_eq, beq_iff_eq, bne_iff_ne, bne_eq_false_iff_eq, Classical.not_not] at g47
          first
          | done
          | (first
             | (simp at g47; done)
             | omega)
          | skip
            refine Cd.seq fun K19 hK19 => ?_
            refine Cd.plain [(0, false)] rfl rfl ?_
            refine Jp.y 8 rfl (want_all rfl) rfl rfl Kp.true (Y.assign rfl rfl) ?_
            refine Jp.done hK19 ?_
            refine Cd.ret [(0, _), (1, _), (2, _)] rfl (res1 rfl rfl) ⟨rfl, rfl, rfl, trivial⟩ ⟨rfl, congrArg Value.bool ?_, rfl⟩
            first
            | exact (allM_no (M := M) (a := a) (n := n) (by omega) ok1 (pgOk_none hg)).symm
            | exact (allM_no (M := M) (a := a) (n := n) (by omega) ok1 (by rw [pgOk_some hg]; simpa [may] using g47)).symm
            | exact (allM_yes (M := M) (a := a) (n := n) (by omega) (fun i hi => by
                by_cases hij : i < g
                · exact ok2 i hij
                · have : i = g := by omega
                  subst this; rw [pgOk_some hg]; simpa [may] using g47)).symm
        · skip
          try simp only [decide_eq_false_iff_not, decide_eq_true_eq, Int.not_lt, Int.not_le, Bool.not_eq_false, Bool.not_eq_true, Bool.not_true, Bool.not_false, Bool.not_eq_true', Bool.not_eq_false', beq_eq_false_iff_ne, ne_eq, beq_iff_eq, bne_iff_ne, bne_eq_false_iff_eq, Classical.not_not] at g47
          first
          | done
          | (first
             | (simp at g47; done)
             | omega)
          | skip
            refine Cd.skip hK12 ?_
            refine Cd.seq fun K20 hK20 => ?_
            refine Cd.plain [(0, false), (1, false), (2, false)] rfl rfl ?_
            refine Jp.y 48 rfl (want_all rfl) rfl rfl Kp.true (Y.move rfl rfl) ?_
            refine Jp.y 49 rfl (want_all rfl) rfl rfl Kp.true (Y.move rfl rfl) ?_
            refine Jp.y 50 rfl (want_all rfl) rfl rfl Kp.true (Y.eql rfl rfl rfl) ?_
            refine Jp.done hK20 ?_
            refine Cd.cond rfl (fun g50 => ?_) (fun g50 => ?_)
            · skip
              try simp only [decide_eq_false_iff_not, decide_eq_true_eq, Int.not_lt, Int.not_le, Bool.not_eq_false, Bool.not_eq_true, Bool.not_true, Bool.not_false, Bool.not_eq_true', Bool.not_eq_false', beq_eq_false_iff_ne, ne_eq, beq_iff_eq, bne_iff_ne, bne_eq_false_iff_eq, Classical.not_not] at g50
              first
              | done
              | (first
                 | (simp at g50; done)
                 | omega)
              | skip
                refine Cd.seq fun K21 hK21 => ?_
                refine Cd.plain [(0, false)] rfl rfl ?_
                refine Jp.y 8 rfl (want_all rfl) rfl rfl Kp.true (Y.assign rfl rfl) ?_
                refine Jp.done hK21 ?_
                refine Cd.ret [(0, _), (1, _), (2, _)] rfl (res1 rfl rfl) ⟨rfl, rfl, rfl, trivial⟩ ⟨rfl, congrArg Value.bool ?_, rfl⟩
                first
                | exact (allM_no (M := M) (a := a) (n := n) (by omega) ok1 (pgOk_none hg)).symm
                | exact (allM_no (M := M) (a := a) (n := n) (by omega) ok1 (by rw [pgOk_some hg]; simpa [may] using g47)).symm
                | exact (allM_yes (M := M) (a := a) (n := n) (by omega) (fun i hi => by
                    by_cases hij : i < g
                    · exact ok2 i hij
                    · have : i = g := by omega
                      subst this; rw [pgOk_some hg]; simpa [may] using g47)).symm
            · skip
              try simp only [decide_eq_false_iff_not, decide_eq_true_eq, Int.not_lt, Int.not_le, Bool.not_eq_false, Bool.not_eq_true, Bool.not_true, Bool.not_false, Bool.not_eq_true', Bool.not_eq_false', beq_eq_false_iff_ne, ne_eq, beq_iff_eq, bne_iff_ne, bne_eq_false_iff_eq, Classical.not_not] at g50
              first
              | done
              | (first
                 | (simp at g50; done)
                 | omega)
              | skip
                refine Cd.over rfl hK10 ?_
                refine Cd.plain [(0, false), (1, false), (2, false)] rfl rfl ?_
                refine Jp.y 28 rfl (want_all rfl) rfl rfl Kp.true (Y.move rfl rfl) ?_
                refine Jp.y 29 rfl (want_all rfl) rfl rfl Kp.true (Y.add_ rfl rfl rfl (by first | exact wrap_u32 (by omega) (by omega) | rfl)) ?_
                refine Jp.y 10 rfl (want_all rfl) rfl rfl Kp.true (Y.assign rfl rfl) ?_
                have hyes : pgOk M (baseN a + 256 * g) need = true := by rw [pgOk_some hg]; simpa [may] using g47
                refine Jp.slot 10 rfl (congrArg (Value.int .u32) (show ((baseN a + 256 * g : Nat) : Int) + 256 = ((baseN a + 256 * (g + 1) : Nat) : Int) by omega)) ?_
                refine Jp.again hLa (g + 1) ⟨by omega, fun i hi => ?_⟩ (by omega) rfl ⟨rfl, rfl, rfl, rfl, trivial⟩ ⟨rfl, rfl, rfl, trivial⟩
                by_cases hij : i < g
                · exact ok2 i hij
                · have : i = g := by omega
                  subst this; exact hyes
def byteM (M : MemG) (a : Nat) : UInt8 := match getPg M.pages (baseN a) with
  | some p => p.b.getD (a % 256) 0
  | none => 0
def readL (M : MemG) (a n : Nat) : Bytes := (List.range n).map fun i => byteM M (a + i)
def readM (M : MemG) (a : Nat) (n : Int) : Bytes × Int := if n < 0 ∨ 4096 < n then ([], 1) else if allM M a n.toNat 1 = false then ([], 8) else (readL M a n.toNat, 0)
end Go.Proofs.Ytkjeidoplonkjaa
set_option linter.unusedVariables false
set_option linter.unusedSimpArgs false
set_option maxRecDepth 100000
namespace Go.Proofs.Ytkjeidoplonkjaa
open Go
def setByte (l : List (Nat × Pg)) (at' : Nat) (x : UInt8) : List (Nat × Pg) := match getPg l (baseN at') with
  | some p => setPg l (baseN at') ⟨p.b.set (at' % 256) x, p.perm⟩
  | none => l
def wrM (M : MemG) (a : Nat) (l : Bytes) : Nat → MemG
  | 0 => M
  | i + 1 => { wrM M a l i with pages := setByte (wrM M a l i).pages (a + i) (l.getD i 0), gens := if i = 0 ∨ (a + i) % 256 = 0 then bump (wrM M a l i).gens (baseN (a + i)) else (wrM M a l i).gens }
def writeM (M : MemG) (a : Nat) (l : Bytes) (most need : Int) : Int × MemG := if most < l.length then (1, M) else if allM M a l.length need = false then (8, M) else (0, wrM M a l l.length)
theorem getPg_setByte (l : List (Nat × Pg)) (at' : Nat) (x : UInt8) (k : Nat) : getPg (setByte l at' x) k = if k = baseN at' then (getPg l k).map fun p => ⟨p.b.set (at' % 256) x, p.perm⟩ else getPg l k := by
  unfold setByte
  split
  · rename_i p hp
    rw [getPg_set]
    by_cases h : k = baseN at'
    · subst h; simp [hp]
    · simp [h]
  · rename_i hp
    by_cases h : k = baseN at'
    · subst h; simp [hp]
    · simp [h]
theorem wrM_page {M : MemG} (a : Nat) (l : Bytes) {k : Nat} {p : Pg} (h : getPg M.pages k = some p) (i : Nat) : ∃ q, getPg (wrM M a l i).pages k = some q ∧ q.perm = p.perm ∧ q.b.length = p.b.length := by
  induction i with
  | zero => exact ⟨p, h, rfl, rfl⟩
  | succ i ih =>
    obtain ⟨q, h1, h2, h3⟩ := ih
    show ∃ q, getPg (setByte _ _ _) k = some q ∧ _
    rw [getPg_setByte, h1]
    by_cases hk : k = baseN (a + i)
    · rw [if_pos hk]; exact ⟨_, rfl, h2, by simpa using h3⟩
    · rw [if_neg hk]; exact ⟨q, rfl, h2, h3⟩
theorem wrM_budget (M : MemG) (a : Nat) (l : Bytes) (i : Nat) : (wrM M a l i).budget = M.budget := by
  induction i with
  | zero => rfl
  | succ i ih => exact ih
theorem wrM_bump {M : MemG} {a i : Nat} {l : Bytes} {q : Pg} {x : UInt8} (hx : l[i]? = some x) (hq : getPg (wrM M a l i).pages (baseN (a + i)) = some q) (h : i = 0 ∨ (a + i) % 256 = 0) :
    wrM M a l (i + 1) = { wrM M a l i with pages := setPg (wrM M a l i).pages (baseN (a + i)) ⟨q.b.set ((a + i) % 256) x, q.perm⟩, gens := bump (wrM M a l i).gens (baseN (a + i)) } := by
  rw [wrM, if_pos h, setByte, hq, List.getD_eq_getElem?_getD, hx]; rfl
theorem wrM_still {M : MemG} {a i : Nat} {l : Bytes} {q : Pg} {x : UInt8} (hx : l[i]? = some x) (hq : getPg (wrM M a l i).pages (baseN (a + i)) = some q) (h : ¬ (i = 0 ∨ (a + i) % 256 = 0)) :
    wrM M a l (i + 1) = { wrM M a l i with pages := setPg (wrM M a l i).pages (baseN (a + i)) ⟨q.b.set ((a + i) % 256) x, q.perm⟩ } := by
  rw [wrM, if_neg h, setByte, hq, List.getD_eq_getElem?_getD, hx]; rfl
theorem pageCells_set (p : Pg) {j : Nat} (h : p.b.length = 256) (hj : j < 256) (x : UInt8) : (pageCells p).toArray.setIfInBounds j (.int .u8 (x.toNat : Int)) = (pageCells ⟨p.b.set j x, p.perm⟩).toArray := by
  rw [List.setIfInBounds_toArray]
  congr 1
  rw [pageCells, List.set_append_left _ _ (by rw [bytesV, List.length_map]; omega), bytesV_set]; rfl
theorem RdB.cell {s : Sl UInt8} {ρ : Hp} (hr : RdB s ρ) {i : Nat} {x : UInt8} (h : s.xs[i]? = some x) : ∃ ad, s.A = some ad ∧ cellH ρ (ad.add i) = some (.int .u8 (x.toNat : Int)) :=
  hr.2.2 i _ (by rw [bytesV, List.getElem?_map, h]; rfl)
theorem write_spec (b : Nat) (M : MemG) (a : Nat) (s : Sl UInt8) (most need : Int) (ha : a < 4294967296) (hmost : most ≤ 65536) : Spec Try.prog 54 #[.pointer (some ⟨b, 0, none⟩), .int .u32 a, s.v, .int .i64 most, .int .i64 need] (RdB s) [(0, MemO b M)]
    (fun ρ ρ' v L => ρ' = ρ ∧ v = .int .i64 (writeM M a s.xs most need).1 ∧ L = [(0, MemO b (writeM M a s.xs most need).2)]) := by
  obtain ⟨A, c, xs⟩ := s
  dsimp only [Sl.v]
  refine Spec.of 67 Try.func54 rfl Try.ntmps54 [(0, _), (1, _), (2, _), (3, _), (4, _)] rfl rfl ?_
  intro cx ρ hr h0
  have lx : xs.length ≤ 281474976710656 := hr.2.1.2
  refine Cd.memOpen 0 1 2 3 (by decide) rfl fun x hf => ?_
  refine Cd.seq fun K1 hK1 => ?_
  refine Cd.plain [(0, false)] rfl rfl ?_
  refine Jp.y 10 rfl (want_all rfl) rfl rfl Kp.true (Y.assign rfl rfl) ?_
  refine Jp.done hK1 ?_
  refine Cd.seq fun K2 hK2 => ?_
  refine Cd.block ?_
  refine Cd.seq fun K3 hK3 => ?_
  refine Cd.plain [(0, false), (1, false), (2, false), (3, false), (4, false)] rfl rfl ?_
  refine Jp.y 15 rfl (want_all rfl) rfl rfl Kp.true (Y.move rfl rfl) ?_
  refine Jp.y 16 rfl (want_all rfl) rfl rfl Kp.true (Y.lenslice rfl Try.underlying47 rfl) ?_
  refine Jp.y 17 rfl (want_all rfl) rfl rfl Kp.true (Y.move rfl rfl) ?_
  refine Jp.y 18 rfl (want_all rfl) rfl rfl Kp.true (Y.gtr rfl rfl rfl) ?_
  refine Jp.y 14 rfl (want_all rfl) rfl rfl Kp.true (Y.assign rfl rfl) ?_
  refine Jp.done hK3 ?_
  refine Cd.cond rfl (fun g14 => ?_) (fun g14 => ?_)
  · skip
    try simp only [decide_eq_false_iff_not, decide_eq_true_eq, Int.not_lt, Int.not_le, Bool.not_eq_false, Bool.not_eq_true, Bool.not_true, Bool.not_false, Bool.not_eq_true', Bool.not_eq_false', beq_eq_false_iff_ne, ne_eq, beq_iff_eq, bne_iff_ne, bne_eq_false_iff_eq, Classical.not_not] at g14
    refine Cd.seq fun K4 hK4 => ?_
    refine Cd.plain [(0, false)] rfl rfl ?_
    refine Jp.y 10 rfl (want_all rfl) rfl rfl Kp.true (Y.assign rfl rfl) ?_
    refine Jp.done hK4 ?_
    have hV : writeM M a xs most need = (1, M) := by rw [writeM, if_pos (by omega)]
    refine Cd.memClose 0 1 2 3 (by decide) hf rfl rfl rfl rfl ?_
    refine Cd.ret [(0, _)] rfl (res1 rfl rfl) ⟨rfl, trivial⟩ ⟨rfl, by rw [hV], by rw [hV]⟩
  try simp only [decide_eq_false_iff_not, decide_eq_true_eq, Int.not_lt, Int.not_le, Bool.not_eq_false, Bool.not_eq_true, Bool.not_true, Bool.not_false, Bool.not_eq_true', Bool.not_eq_false', beq_eq_false_iff_ne, ne_eq, beq_iff_eq, bne_iff_ne, bne_eq_false_iff_eq, Classical.not_not] at g14
  refine Cd.seq fun K5 hK5 => ?_
  refine Cd.plain [(0, false), (1, false), (2, false), (3, false), (4, false), (5, false), (6, false), (7, false)] rfl rfl ?_
  refine Jp.y 20 rfl (want_all rfl) rfl rfl Kp.true (Y.move rfl rfl) ?_
  refine Jp.y 21 rfl (want_all rfl) rfl rfl Kp.true (Y.move rfl rfl) ?_
  refine Jp.y 22 rfl (want_all rfl) rfl rfl Kp.true (Y.move rfl rfl) ?_
  refine Jp.y 23 rfl (want_all rfl) rfl rfl Kp.true (Y.lenslice rfl Try.underlying47 rfl) ?_
  refine Jp.y 24 rfl (want_all rfl) rfl rfl Kp.true (Y.move rfl rfl) ?_
  refine Jp.call [0, 1, 3] [0, 1, 3] (all_spec b M x hf a xs.length need ha (by omega)) 25 rfl (want_all rfl) rfl rfl (Runs.fn rfl Try.call82 rfl) (by decide) (by decide) rfl trivial ?_
  rintro v1 ρ1 L1 ⟨rfl, rfl, rfl⟩
  refine ⟨rfl, fun hle1 => ⟨Kp.true, ?_⟩⟩
  refine Jp.y 26 rfl (want_all rfl) rfl rfl Kp.true (Y.not rfl rfl) ?_
  refine Jp.y 19 rfl (want_all rfl) rfl rfl Kp.true (Y.assign rfl rfl) ?_
  refine Jp.done hK5 ?_
  refine Cd.cond rfl (fun g19 => ?_) (fun g19 => ?_)
  · skip
    try simp only [decide_eq_false_iff_not, decide_eq_true_eq, Int.not_lt, Int.not_le, Bool.not_eq_false, Bool.not_eq_true, Bool.not_true, Bool.not_false, Bool.not_eq_true', Bool.not_eq_false', beq_eq_false_iff_ne, ne_eq, beq_iff_eq, bne_iff_ne, bne_eq_false_iff_eq, Classical.not_not] at g19
    refine Cd.seq fun K6 hK6 => ?_
    refine Cd.plain [(0, false)] rfl rfl ?_
    refine Jp.y 10 rfl (want_all rfl) rfl rfl Kp.true (Y.assign rfl rfl) ?_
    refine Jp.done hK6 ?_
    have hV : writeM M a xs most need = (8, M) := by rw [writeM, if_neg (by omega), if_pos g19]
    refine Cd.memClose 0 1 2 3 (by decide) hf rfl rfl rfl rfl ?_
    refine Cd.ret [(0, _)] rfl (res1 rfl rfl) ⟨rfl, trivial⟩ ⟨rfl, by rw [hV], by rw [hV]⟩
  try simp only [decide_eq_false_iff_not, decide_eq_true_eq, Int.not_lt, Int.not_le, Bool.not_eq_false, Bool.not_eq_true, Bool.not_true, Bool.not_false, Bool.not_eq_true', Bool.not_eq_false', beq_eq_false_iff_ne, ne_eq, beq_iff_eq, bne_iff_ne, bne_eq_false_iff_eq, Classical.not_not] at g19
  refine Cd.over rfl hK2 ?_
  refine Cd.seq fun K7 hK7 => ?_
  refine Cd.seq fun K8 hK8 => ?_
  refine Cd.plain [(0, false), (1, false), (2, false)] rfl rfl ?_
  refine Jp.y 27 rfl (want_all rfl) rfl rfl Kp.true (Y.move rfl rfl) ?_
  refine Jp.y 28 rfl (want_all rfl) rfl rfl Kp.true (Y.lenslice rfl Try.underlying47 rfl) ?_
  refine Jp.y 29 rfl (want_all rfl) rfl rfl Kp.true (Y.move rfl rfl) ?_
  refine Jp.done hK8 ?_
  refine Cd.block ?_
  have hV : writeM M a xs most need = (0, wrM M a xs xs.length) := by rw [writeM, if_neg (by omega), if_neg (by rw [g19]; simp)]
  refine Cd.loopK (G := Nat × MemX) (fun g => g.1 ≤ xs.length ∧ MemF (wrM M a xs g.1) g.2 ∧ g.2.pb = x.pb ∧ g.2.gb = x.gb) (fun g => xs.length - g.1) (fun _ => _) (fun g => [(29, .int .i64 g.1)]) [(0, _), (1, _), (27, _), (28, _)] (fun g => [(1, MapO .u32 x.pb g.2.pm), (2, MapO .u32 x.gb g.2.gm), (3, Blks (blksOf (wrM M a xs g.1) g.2))]) [(0, _)] ⟨0, x⟩ ⟨Nat.zero_le _, hf, rfl, rfl⟩ rfl ⟨rfl, trivial⟩ ⟨rfl, rfl, rfl, rfl, trivial⟩ ⟨rfl, rfl, rfl, trivial⟩ ⟨rfl, trivial⟩ (fun g KLa hok hLa => ?_)
  obtain ⟨i, y⟩ := g
  obtain ⟨ok1, ok2, ok3, ok4⟩ := hok
  dsimp only at ok1 ok2 ok3 ok4 ⊢
  refine Cd.seq fun K9 hK9 => ?_
  refine Cd.plain [(0, false)] rfl rfl ?_
  refine Jp.y 30 rfl (want_all rfl) rfl rfl Kp.true (Y.lss rfl rfl rfl) ?_
  refine Jp.done hK9 ?_
  refine Cd.seq fun K10 hK10 => ?_
  refine Cd.cond rfl (fun ga => ?_) (fun ga => ?_)
  · simp only [decide_eq_true_eq] at ga
    have hi : i < xs.length := by omega
    have hx : xs[i]? = some xs[i] := by simp [hi]
    obtain ⟨hle, p, hg, hm⟩ := allM_page g19 hi
    obtain ⟨ad, hA, hc⟩ := RdB.cell hr hx
    dsimp only at hA
    subst hA
    have hpo := hf.ok.page _ (getPg_mem hg)
    obtain ⟨q, hq, hq1, hq2⟩ := wrM_page a xs hg i
    have hql : q.b.length = 256 := by rw [hq2]; exact hpo.len
    have hget := ok2.get (baseN (a + i))
    rw [hq] at hget
    have hj : (a + i) % 256 < 256 := Nat.mod_lt _ (by omega)
    have hf2 : MemF { wrM M a xs i with pages := setPg (wrM M a xs i).pages (baseN (a + i)) ⟨q.b.set ((a + i) % 256) xs[i], q.perm⟩ } y := ok2.set hq (by simpa using hql) (by rw [hq1]; exact hpo.perm)
    refine Cd.skip hK10 ?_
    refine Cd.seq fun K11 hK11 => ?_
    refine Cd.block ?_
    refine Cd.seq fun K12 hK12 => ?_
    refine Cd.plain [(0, false), (1, false), (2, false), (3, false), (4, false)] rfl rfl ?_
    refine Jp.y 31 rfl (want_all rfl) rfl rfl Kp.true (Y.move rfl rfl) ?_
    refine Jp.y 32 rfl (want_all rfl) rfl rfl Kp.true (Y.indexAddr (q := i) rfl rfl rfl Try.underlying47 Try.sizeOf5 (by omega) (by omega) (by omega)) ?_
    refine Jp.y 33 rfl (want_all rfl) rfl rfl Kp.true (by first | exact Y.loadO 0 rfl Try.isAgg5 rfl rfl rfl | exact Y.loadR rfl Try.isAgg5 rfl hc) ?_
    refine Jp.y 11 rfl (want_all rfl) rfl rfl Kp.true (Y.assign rfl rfl) ?_
    refine Jp.y 12 rfl (want_all rfl) rfl rfl Kp.true (Y.assign rfl rfl) ?_
    refine Jp.done hK12 ?_
    refine Cd.seq fun K13 hK13 => ?_
    refine Cd.plain [(0, false), (1, false), (2, false), (3, false), (4, false)] rfl rfl ?_
    refine Jp.y 34 rfl (want_all rfl) rfl rfl Kp.true (Y.move rfl rfl) ?_
    refine Jp.y 35 rfl (want_all rfl) rfl rfl Kp.true (Y.move rfl rfl) ?_
    refine Jp.y 36 rfl (want_all rfl) rfl rfl Kp.true (Y.conv_ rfl rfl Try.underlying3 Try.underlying25 (by first | exact wrap_u32 (by omega) (by omega) | rfl)) ?_
    refine Jp.y 37 rfl (want_all rfl) rfl rfl Kp.true (Y.add_ rfl rfl rfl (by first | exact wrap_u32 (by omega) (by omega) | rfl)) ?_
    refine Jp.slot 37 rfl (congrArg (Value.int .u32) (show (a : Int) + i = ((a + i : Nat) : Int) by omega)) ?_
    refine Jp.y 13 rfl (want_all rfl) rfl rfl Kp.true (Y.assign rfl rfl) ?_
    refine Jp.done hK13 ?_
    refine Cd.seq fun K14 hK14 => ?_
    refine Cd.drawn [(0, _), (1, _)] ⟨rfl, rfl, trivial⟩ [(0, true), (1, true), (2, true), (3, true), (4, true), (7, true), (8, true), (9, true), (5, false), (6, true), (10, true), (11, true), (12, true), (13, false)] follows (by kernel_rfl) (fun hrl => ?_)
    refine Jp.q 38 rfl (want_all rfl) rfl rfl (Y.move rfl rfl) ?_
    refine Jp.q 39 rfl (want_all rfl) rfl rfl (Y.nilCheck rfl rfl) ?_
    refine Jp.q 40 rfl (want_all rfl) rfl rfl (by first | exact Y.fieldAddrP rfl rfl Try.underlying142 rfl Try.sizeOf139 (by decide) (show _ + 1 = _ from rfl) | exact Y.fieldAddr rfl rfl Try.underlying142 rfl Try.sizeOf139 (by decide)) ?_
    refine Jp.q 41 rfl (want_all rfl) rfl rfl (by first | exact Y.loadO 0 rfl Try.isAgg139 rfl rfl rfl | exact Y.loadR rfl Try.isAgg139 rfl hc) ?_
    refine Jp.q 42 rfl (want_all rfl) rfl rfl (Y.move rfl rfl) ?_
    refine Jp.q 45 rfl (want_all rfl) rfl rfl (Y.move rfl rfl) ?_
    refine Jp.q 46 rfl (want_all rfl) rfl rfl (by first | exact Y.remN rfl rfl rfl (by omega) (by omega) | exact Y.rem rfl rfl rfl (by first | decide | omega)) ?_
    refine Jp.q 47 rfl (want_all rfl) rfl rfl (Y.move rfl rfl) ?_
    refine Jp.call [] [] (base_spec (a + i) (by omega)) 43 rfl (want_all rfl) rfl rfl (Runs.fn rfl Try.call48 rfl) (by decide) (by decide) rfl trivial ?_
    rintro v3 ρ3 L3 ⟨rfl, rfl, rfl⟩
    refine ⟨rfl, fun hle3 => ⟨(Kp.st ⟨rfl, rfl, trivial⟩), ?_⟩⟩
    refine Jp.q 44 rfl (want_all rfl) rfl rfl (by first | exact Y.lookup 1 rfl rfl rfl Try.underlying139 Try.underlying25 Try.zeroValue138 rfl) ?_
    refine Jp.slot 44 rfl (show _ = Value.pointer (some ⟨y.blk (baseN (a + i)), 0, none⟩) by rw [hget]; rfl) ?_
    refine Jp.know (φ := ((blksOf (wrM M a xs i) y).map (·.1)).Nodup) (A := Blks (blksOf (wrM M a xs i) y)) 3 rfl (fun _ h => h.1) fun hnd => ?_
    refine Jp.q 48 rfl (want_all rfl) rfl rfl (Y.nilCheck rfl rfl) ?_
    refine Jp.q 49 rfl (want_all rfl) rfl rfl (by first | exact Y.fieldAddrP rfl rfl Try.underlying144 rfl Try.sizeOf114 (by decide) (show _ + 0 = _ from rfl) | exact Y.fieldAddr rfl rfl Try.underlying144 rfl Try.sizeOf114 (by decide)) ?_
    refine Jp.q 50 rfl (want_all rfl) rfl rfl (Y.indexArrP (q := (a + i) % 256) rfl rfl rfl Try.underlying114 Try.sizeOf5 (by omega) (by omega) (by omega)) ?_
    refine Jp.storeC 3 (Blks (blksOf { wrM M a xs i with pages := setPg (wrM M a xs i).pages (baseN (a + i)) ⟨q.b.set ((a + i) % 256) xs[i], q.perm⟩ } y)) rfl (want_all rfl) rfl rfl Try.sizeOf5 rfl rfl rfl rfl rfl (Blks.set (MemF.blk hq) (by simp [pageCells, bytesV, hql]; omega) (noFr0 _) (by rw [pageCells_set q hql hj]; exact updB_blks hnd hq)) Kp.last ?_
    refine Jp.done hK14 ?_
    refine Cd.seq fun K16 hK16 => ?_
    refine Cd.plain [(0, false), (1, false), (2, false), (3, false), (4, false), (5, false), (6, false)] rfl rfl ?_
    refine Jp.y 51 rfl (want_all rfl) rfl rfl Kp.true (Y.move rfl rfl) ?_
    refine Jp.y 52 rfl (want_all rfl) rfl rfl Kp.true (Y.eql rfl rfl rfl) ?_
    refine Jp.y 53 rfl (want_all rfl) rfl rfl Kp.true (Y.move rfl rfl) ?_
    refine Jp.split 53 rfl (fun g53 => ?_) (fun g53 => ?_)
    · skip
      try simp only [decide_eq_false_iff_not, decide_eq_true_eq, Int.not_lt, Int.not_le, Bool.not_eq_false, Bool.not_eq_true, Bool.not_true, Bool.not_false, Bool.not_eq_true', Bool.not_eq_false', beq_eq_false_iff_ne, ne_eq, beq_iff_eq, bne_iff_ne, bne_eq_false_iff_eq, Classical.not_not] at g53
      refine Jp.skip 54 rfl (want_as rfl rfl rfl rfl) rfl rfl Kp.true ?_
      refine Jp.skip 55 rfl (want_as rfl rfl rfl rfl) rfl rfl Kp.true ?_
      refine Jp.skip 56 rfl (want_as rfl rfl rfl rfl) rfl rfl Kp.true ?_
      refine Jp.y 57 rfl (want_all rfl) rfl rfl Kp.true (Y.pickT rfl rfl rfl) ?_
      refine Jp.done hK16 ?_
      refine Cd.condT rfl ?_
      refine Cd.drawn [(0, _), (2, _)] ⟨rfl, rfl, trivial⟩ [(0, true), (1, true), (2, true), (3, true), (4, true), (5, false), (6, true), (7, true), (8, false)] follows (by kernel_rfl) (fun hrl => ?_)
      have hc : i = 0 ∨ (a + i) % 256 = 0 := by omega
      have e := wrM_bump hx hq hc
      refine Jp.q 58 rfl (want_all rfl) rfl rfl (Y.move rfl rfl) ?_
      refine Jp.q 59 rfl (want_all rfl) rfl rfl (Y.nilCheck rfl rfl) ?_
      refine Jp.q 60 rfl (want_all rfl) rfl rfl (by first | exact Y.fieldAddrP rfl rfl Try.underlying142 rfl Try.sizeOf140 (by decide) (show _ + 2 = _ from rfl) | exact Y.fieldAddr rfl rfl Try.underlying142 rfl Try.sizeOf140 (by decide)) ?_
      refine Jp.q 61 rfl (want_all rfl) rfl rfl (by first | exact Y.loadO 0 rfl Try.isAgg140 rfl rfl rfl | exact Y.loadR rfl Try.isAgg140 rfl hc) ?_
      refine Jp.q 62 rfl (want_all rfl) rfl rfl (Y.move rfl rfl) ?_
      refine Jp.call [] [] (base_spec (a + i) (by omega)) 63 rfl (want_all rfl) rfl rfl (Runs.fn rfl Try.call48 rfl) (by decide) (by decide) rfl trivial ?_
      rintro v101 ρ101 L101 ⟨rfl, rfl, rfl⟩
      refine ⟨rfl, fun hle101 => ⟨(Kp.st ⟨rfl, rfl, trivial⟩), ?_⟩⟩
      refine Jp.q 64 rfl (want_all rfl) rfl rfl (by first | exact Y.lookup 2 rfl rfl rfl Try.underlying140 Try.underlying25 Try.zeroValue25 rfl) ?_
      refine Jp.slot 64 rfl ((ok2.gens _)) ?_
      refine Jp.q 65 rfl (want_all rfl) rfl rfl (Y.add_ rfl rfl rfl (wrap_u32m ((wrM M a xs i).gens (baseN (a + i)) + 1))) ?_
      first | refine Jp.mapUpdate 2 rfl (want_all rfl) rfl rfl rfl rfl rfl Try.underlying140 Try.underlying25 rfl Kp.last ?_
      refine Jp.over rfl hK11 ?_
      refine Cd.plain [(0, false), (1, false)] rfl rfl ?_
      refine Jp.y 66 rfl (want_all rfl) rfl rfl Kp.true (Y.add_ rfl rfl rfl (by first | exact wrap_i64 (by omega) (by omega) | rfl)) ?_
      refine Jp.y 29 rfl (want_all rfl) rfl rfl Kp.true (Y.move rfl rfl) ?_
      refine Jp.imp (j := 3) rfl (fun h hh => (show Blks (blksOf (wrM M a xs (i + 1)) y) h by rw [e]; exact hh)) ?_
      refine Jp.again hLa ⟨i + 1, { y with gm := mset y.gm (baseN (a + i)) (.int .u32 ((((wrM M a xs i).gens (baseN (a + i)) + 1) % 4294967296 : Nat) : Int)) }⟩ ⟨hi, by rw [e]; exact hf2.bump (baseN (a + i)), ok3, ok4⟩ (by show xs.length - (i + 1) < xs.length - i; omega) rfl ⟨rfl, rfl, rfl, rfl, rfl, trivial⟩ ⟨rfl, rfl, rfl, rfl, trivial⟩
    · skip
      try simp only [decide_eq_false_iff_not, decide_eq_true_eq, Int.not_lt, Int.not_le, Bool.not_eq_false, Bool.not_eq_true, Bool.not_true, Bool.not_false, Bool.not_eq_true', Bool.not_eq_false', beq_eq_false_iff_ne, ne_eq, beq_iff_eq, bne_iff_ne, bne_eq_false_iff_eq, Classical.not_not] at g53
      refine Jp.y 54 rfl (want_as rfl rfl rfl rfl) rfl rfl Kp.true (Y.move rfl rfl) ?_
      refine Jp.y 55 rfl (want_as rfl rfl rfl rfl) rfl rfl Kp.true (by first | exact Y.remN rfl rfl rfl (by omega) (by omega) | exact Y.rem rfl rfl rfl (by first | decide | omega)) ?_
      refine Jp.y 56 rfl (want_as rfl rfl rfl rfl) rfl rfl Kp.true (Y.eql rfl rfl rfl) ?_
      refine Jp.y 57 rfl (want_all rfl) rfl rfl Kp.true (Y.pickF rfl rfl rfl) ?_
      refine Jp.done hK16 ?_
      refine Cd.cond rfl (fun g57 => ?_) (fun g57 => ?_)
      · skip
        try simp only [decide_eq_false_iff_not, decide_eq_true_eq, Int.not_lt, Int.not_le, Bool.not_eq_false, Bool.not_eq_true, Bool.not_true, Bool.not_false, Bool.not_eq_true', Bool.not_eq_false', beq_eq_false_iff_ne, ne_eq, beq_iff_eq, bne_iff_ne, bne_eq_false_iff_eq, Classical.not_not] at g57
        refine Cd.drawn [(0, _), (2, _)] ⟨rfl, rfl, trivial⟩ [(0, true), (1, true), (2, true), (3, true), (4, true), (5, false), (6, true), (7, true), (8, false)] follows (by kernel_rfl) (fun hrl => ?_)
        have hc : i = 0 ∨ (a + i) % 256 = 0 := by omega
        have e := wrM_bump hx hq hc
        refine Jp.q 58 rfl (want_all rfl) rfl rfl (Y.move rfl rfl) ?_
        refine Jp.q 59 rfl (want_all rfl) rfl rfl (Y.nilCheck rfl rfl) ?_
        refine Jp.q 60 rfl (want_all rfl) rfl rfl (by first | exact Y.fieldAddrP rfl rfl Try.underlying142 rfl Try.sizeOf140 (by decide) (show _ + 2 = _ from rfl) | exact Y.fieldAddr rfl rfl Try.underlying142 rfl Try.sizeOf140 (by decide)) ?_
        refine Jp.q 61 rfl (want_all rfl) rfl rfl (by first | exact Y.loadO 0 rfl Try.isAgg140 rfl rfl rfl | exact Y.loadR rfl Try.isAgg140 rfl hc) ?_
        refine Jp.q 62 rfl (want_all rfl) rfl rfl (Y.move rfl rfl) ?_
        refine Jp.call [] [] (base_spec (a + i) (by omega)) 63 rfl (want_all rfl) rfl rfl (Runs.fn rfl Try.call48 rfl) (by decide) (by decide) rfl trivial ?_
        rintro v102 ρ102 L102 ⟨rfl, rfl, rfl⟩
        refine ⟨rfl, fun hle102 => ⟨(Kp.st ⟨rfl, rfl, trivial⟩), ?_⟩⟩
        refine Jp.q 64 rfl (want_all rfl) rfl rfl (by first | exact Y.lookup 2 rfl rfl rfl Try.underlying140 Try.underlying25 Try.zeroValue25 rfl) ?_
        refine Jp.slot 64 rfl ((ok2.gens _)) ?_
        refine Jp.q 65 rfl (want_all rfl) rfl rfl (Y.add_ rfl rfl rfl (wrap_u32m ((wrM M a xs i).gens (baseN (a + i)) + 1))) ?_
        first | refine Jp.mapUpdate 2 rfl (want_all rfl) rfl rfl rfl rfl rfl Try.underlying140 Try.underlying25 rfl Kp.last ?_
        refine Jp.over rfl hK11 ?_
        refine Cd.plain [(0, false), (1, false)] rfl rfl ?_
        refine Jp.y 66 rfl (want_all rfl) rfl rfl Kp.true (Y.add_ rfl rfl rfl (by first | exact wrap_i64 (by omega) (by omega) | rfl)) ?_
        refine Jp.y 29 rfl (want_all rfl) rfl rfl Kp.true (Y.move rfl rfl) ?_
        refine Jp.imp (j := 3) rfl (fun h hh => (show Blks (blksOf (wrM M a xs (i + 1)) y) h by rw [e]; exact hh)) ?_
        refine Jp.again hLa ⟨i + 1, { y with gm := mset y.gm (baseN (a + i)) (.int .u32 ((((wrM M a xs i).gens (baseN (a + i)) + 1) % 4294967296 : Nat) : Int)) }⟩ ⟨hi, by rw [e]; exact hf2.bump (baseN (a + i)), ok3, ok4⟩ (by show xs.length - (i + 1) < xs.length - i; omega) rfl ⟨rfl, rfl, rfl, rfl, rfl, trivial⟩ ⟨rfl, rfl, rfl, rfl, trivial⟩
      · skip
        try simp only [decide_eq_false_iff_not, decide_eq_true_eq, Int.not_lt, Int.not_le, Bool.not_eq_false, Bool.not_eq_true, Bool.not_true, Bool.not_false, Bool.not_eq_true', Bool.not_eq_false', beq_eq_false_iff_ne, ne_eq, beq_iff_eq, bne_iff_ne, bne_eq_false_iff_eq, Classical.not_not] at g57
        refine Cd.over rfl hK11 ?_
        refine Cd.plain [(0, false), (1, false)] rfl rfl ?_
        refine Jp.y 66 rfl (want_all rfl) rfl rfl Kp.true (Y.add_ rfl rfl rfl (by first | exact wrap_i64 (by omega) (by omega) | rfl)) ?_
        refine Jp.y 29 rfl (want_all rfl) rfl rfl Kp.true (Y.move rfl rfl) ?_
        have hc : ¬ (i = 0 ∨ (a + i) % 256 = 0) := by omega
        have e := wrM_still hx hq hc
        refine Jp.imp (j := 3) rfl (fun h hh => (show Blks (blksOf (wrM M a xs (i + 1)) y) h by rw [e]; exact hh)) ?_
        refine Jp.again hLa ⟨i + 1, y⟩ ⟨hi, by rw [e]; exact hf2, ok3, ok4⟩ (by show xs.length - (i + 1) < xs.length - i; omega) rfl ⟨rfl, rfl, rfl, rfl, rfl, trivial⟩ ⟨rfl, rfl, rfl, rfl, trivial⟩
  · simp only [decide_eq_false_iff_not] at ga
    obtain rfl : i = xs.length := by omega
    refine Cd.exit rfl hK7 ?_
    refine Cd.seq fun K19 hK19 => ?_
    refine Cd.plain [(0, false)] rfl rfl ?_
    refine Jp.y 10 rfl (want_all rfl) rfl rfl Kp.true (Y.assign rfl rfl) ?_
    refine Jp.done hK19 ?_
    have e : memObj (wrM M a xs xs.length) y = memObj M x := by rw [memObj, memObj, ok3, ok4, wrM_budget]
    refine Cd.memClose (b := b) (x := y) 0 1 2 3 (by decide) ok2 (by rw [e]; rfl) (by rw [ok3]; rfl) (by rw [ok4]; rfl) rfl ?_
    refine Cd.ret [(0, _)] rfl (res1 rfl rfl) ⟨rfl, trivial⟩ ⟨rfl, by rw [hV], by rw [hV]⟩
theorem Poke_spec (b : Nat) (M : MemG) (a : Nat) (s : Sl UInt8) (ha : a < 4294967296) : Spec Try.prog 31 #[.pointer (some ⟨b, 0, none⟩), .int .u32 a, s.v] (RdB s) [(0, MemO b M)]
    (fun ρ ρ' v L => ρ' = ρ ∧ v = .int .i64 (writeM M a s.xs 65536 0).1 ∧ L = [(0, MemO b (writeM M a s.xs 65536 0).2)]) := by
  refine Spec.of 11 Try.func31 rfl Try.ntmps31 [(0, _), (1, _), (2, _)] rfl rfl ?_
  intro cx ρ hr h0
  refine Cd.seq fun K20 hK20 => ?_
  refine Cd.plain [(0, false)] rfl rfl ?_
  refine Jp.y 6 rfl (want_all rfl) rfl rfl Kp.true (Y.assign rfl rfl) ?_
  refine Jp.done hK20 ?_
  refine Cd.seq fun K21 hK21 => ?_
  refine Cd.plain [(0, false), (1, false), (2, false), (3, false), (4, false)] rfl rfl ?_
  refine Jp.y 7 rfl (want_all rfl) rfl rfl Kp.true (Y.move rfl rfl) ?_
  refine Jp.y 8 rfl (want_all rfl) rfl rfl Kp.true (Y.move rfl rfl) ?_
  refine Jp.y 9 rfl (want_all rfl) rfl rfl Kp.true (Y.move rfl rfl) ?_
  refine Jp.call [0] [0] (write_spec b M a s 65536 0 ha (by omega)) 10 rfl (want_all rfl) rfl rfl (Runs.fn rfl Try.call54 rfl) (by decide) (by decide) rfl hr ?_
  rintro v1 ρ1 L1 ⟨rfl, rfl, rfl⟩
  refine ⟨rfl, fun hle1 => ⟨Kp.true, ?_⟩⟩
  refine Jp.y 6 rfl (want_all rfl) rfl rfl Kp.true (Y.assign rfl rfl) ?_
  refine Jp.done hK21 ?_
  refine Cd.ret [(0, _)] rfl (res1 rfl rfl) ⟨rfl, trivial⟩ ⟨rfl, rfl, rfl⟩
end Go.Proofs.Ytkjeidoplonkjaa
set_option linter.unusedVariables false
set_option linter.unusedSimpArgs false
set_option maxRecDepth 100000
namespace Go.Proofs.Ytkjeidoplonkjaa
open Go
def setPerm (l : List (Nat × Pg)) (k perm : Nat) : List (Nat × Pg) := match getPg l k with
  | some p => setPg l k ⟨p.b, perm⟩
  | none => l
def prot1 (perm : Nat) (M : MemG) (k : Nat) : MemG := { M with pages := setPerm M.pages k perm, gens := bump M.gens k }
def protL (M : MemG) (perm : Nat) (l : List Nat) : MemG := l.foldl (prot1 perm) M
def bumpS (M : MemG) (f : Nat → Bool) : Nat → Nat := fun k => if f k && (getPg M.pages k).isSome then (M.gens k + 1) % 4294967296 else M.gens k
def protectM (M : MemG) (a n : Nat) (perm : Int) : Int × MemG := match stretch a n with
  | none => (1, M)
  | some many => if perm < 0 ∨ 7 < perm then (1, M) else if (withinP M a many).length ≠ many then (4, M) else
    (0, { M with pages := M.pages.map fun y => if inS a many y.1 then (y.1, ⟨y.2.b, perm.toNat⟩) else y, gens := bumpS M (inS a many) })
def del1 (M : MemG) (k : Nat) : MemG := { M with pages := M.pages.filter fun y => y.1 != k, gens := bump M.gens k }
def delL (M : MemG) (l : List Nat) : MemG := l.foldl del1 M
def unmapM (M : MemG) (a n : Nat) : Int × MemG := match stretch a n with
  | none => (1, M)
  | some many => (0, { M with pages := M.pages.filter fun y => !inS a many y.1, gens := bumpS M (inS a many) })
end Go.Proofs.Ytkjeidoplonkjaa
set_option linter.unusedVariables false
set_option linter.unusedSimpArgs false
set_option maxRecDepth 100000
namespace Go.Proofs.Ytkjeidoplonkjaa
open Go
theorem wrM_keys (M : MemG) (a : Nat) (l : Bytes) (i : Nat) : (wrM M a l i).pages.map (·.1) = M.pages.map (·.1) := by
  induction i with
  | zero => rfl
  | succ i ih =>
    rw [← ih]
    show (setByte _ _ _).map (·.1) = _
    unfold setByte
    split
    · exact setPg_keys ..
    · rfl
def permIn (M : MemG) (a many perm : Nat) : MemG := { M with pages := M.pages.map fun y => if inS a many y.1 then (y.1, ⟨y.2.b, perm⟩) else y, gens := bumpS M (inS a many) }
def dropIn (M : MemG) (a many : Nat) : MemG := { M with pages := M.pages.filter fun y => !inS a many y.1, gens := bumpS M (inS a many) }
end Go.Proofs.Ytkjeidoplonkjaa
