import Derived.Test.YtjfgefdcngpplaaZRefE
set_option linter.unusedVariables false
set_option linter.unusedSimpArgs false
set_option maxRecDepth 100000
namespace Go.Proofs.Ytjfgefdcngpplaa
open Go
theorem refAsk_spec (b : Nat) (M : MemG) (a : Nat) (size need : Int) (ha : a < 4294967296) : Spec Try.prog 42 #[.pointer (some ⟨b, 0, none⟩), .int .u32 a, .int .i64 size, .int .i64 need] (fun _ => True) [(0, RefO b M)]
    (fun ρ ρ' v L => ρ' = ρ ∧ v = .tuple #[.int .i64 (if lookM M a size need = 0 then (posA M.pages (baseN a) : Int) else 0), .int .i64 (lookM M a size need)] ∧ L = [(0, RefO b M)]) := by
  refine Spec.of 50 Try.func42 rfl Try.ntmps42 [(0, _), (1, _), (2, _), (3, _)] rfl rfl ?_
  intro cx ρ hr h0
  refine Cd.know (A := RefO b M) 0 rfl RefO.ok fun hmem => ?_
  have hroom := hmem.room
  have hbud := hmem.budget.2
  refine Cd.seq fun K1 hK1 => ?_
  refine Cd.plain [(0, false), (1, false)] rfl rfl ?_
  refine Jp.y 8 rfl (want_all rfl) rfl rfl Kp.true (Y.assign rfl rfl) ?_
  refine Jp.y 9 rfl (want_all rfl) rfl rfl Kp.true (Y.assign rfl rfl) ?_
  refine Jp.done hK1 ?_
  refine Cd.seq fun K2 hK2 => ?_
  refine Cd.seq fun K3 hK3 => ?_
  refine Cd.plain [(0, false), (1, false), (2, false), (3, false), (4, false), (5, false), (6, false), (7, false), (8, false), (9, false), (10, false), (11, false), (12, false), (13, false), (14, false), (15, false), (16, false)] rfl rfl ?_
  refine Jp.y 12 rfl (want_all rfl) rfl rfl Kp.true (Y.move rfl rfl) ?_
  refine Jp.y 13 rfl (want_all rfl) rfl rfl Kp.true (Y.neq rfl rfl rfl) ?_
  refine Jp.y 14 rfl (want_all rfl) rfl rfl Kp.true (Y.move rfl rfl) ?_
  refine Jp.split 14 rfl (fun g14 => ?_) (fun g14 => ?_)
  · skip
    try simp only [decide_eq_false_iff_not, decide_eq_true_eq, Int.not_lt, Int.not_le, Bool.not_eq_false, Bool.not_eq_true, Bool.not_true, Bool.not_false, Bool.not_eq_true', Bool.not_eq_false', beq_eq_false_iff_ne, ne_eq, beq_iff_eq, bne_iff_ne, bne_eq_false_iff_eq, Classical.not_not] at g14
    refine Jp.y 15 rfl (want_as rfl rfl rfl rfl) rfl rfl Kp.true (Y.move rfl rfl) ?_
    refine Jp.y 16 rfl (want_as rfl rfl rfl rfl) rfl rfl Kp.true (Y.neq rfl rfl rfl) ?_
    refine Jp.y 17 rfl (want_all rfl) rfl rfl Kp.true (Y.pickT rfl rfl rfl) ?_
    refine Jp.y 18 rfl (want_all rfl) rfl rfl Kp.true (Y.move rfl rfl) ?_
    refine Jp.split 18 rfl (fun g18 => ?_) (fun g18 => ?_)
    · skip
      try simp only [decide_eq_false_iff_not, decide_eq_true_eq, Int.not_lt, Int.not_le, Bool.not_eq_false, Bool.not_eq_true, Bool.not_true, Bool.not_false, Bool.not_eq_true', Bool.not_eq_false', beq_eq_false_iff_ne, ne_eq, beq_iff_eq, bne_iff_ne, bne_eq_false_iff_eq, Classical.not_not] at g18
      refine Jp.y 19 rfl (want_as rfl rfl rfl rfl) rfl rfl Kp.true (Y.move rfl rfl) ?_
      refine Jp.y 20 rfl (want_as rfl rfl rfl rfl) rfl rfl Kp.true (Y.neq rfl rfl rfl) ?_
      refine Jp.y 21 rfl (want_all rfl) rfl rfl Kp.true (Y.pickT rfl rfl rfl) ?_
      refine Jp.y 22 rfl (want_all rfl) rfl rfl Kp.true (Y.move rfl rfl) ?_
      refine Jp.split 22 rfl (fun g22 => ?_) (fun g22 => ?_)
      · skip
        try simp only [decide_eq_false_iff_not, decide_eq_true_eq, Int.not_lt, Int.not_le, Bool.not_eq_false, Bool.not_eq_true, Bool.not_true, Bool.not_false, Bool.not_eq_true', Bool.not_eq_false', beq_eq_false_iff_ne, ne_eq, beq_iff_eq, bne_iff_ne, bne_eq_false_iff_eq, Classical.not_not] at g22
        refine Jp.skip 23 rfl (want_as rfl rfl rfl rfl) rfl rfl Kp.true ?_
        refine Jp.skip 24 rfl (want_as rfl rfl rfl rfl) rfl rfl Kp.true ?_
        refine Jp.skip 25 rfl (want_as rfl rfl rfl rfl) rfl rfl Kp.true ?_
        refine Jp.skip 26 rfl (want_as rfl rfl rfl rfl) rfl rfl Kp.true ?_
        refine Jp.skip 27 rfl (want_as rfl rfl rfl rfl) rfl rfl Kp.true ?_
        refine Jp.y 28 rfl (want_all rfl) rfl rfl Kp.true (Y.pickT rfl rfl rfl) ?_
        refine Jp.done hK3 ?_
        refine Cd.condT rfl ?_
        refine Cd.seq fun K4 hK4 => ?_
        refine Cd.plain [(0, false), (1, false)] rfl rfl ?_
        refine Jp.y 8 rfl (want_all rfl) rfl rfl Kp.true (Y.assign rfl rfl) ?_
        refine Jp.y 9 rfl (want_all rfl) rfl rfl Kp.true (Y.assign rfl rfl) ?_
        refine Jp.done hK4 ?_
        refine Cd.ret [(0, _)] rfl (res2 rfl rfl rfl) ⟨rfl, trivial⟩ ⟨rfl, ?_, rfl⟩
        have h3 : lookM M a size need = 3 := by
          rw [lookM, if_pos]
          simp only [sizeOk, Bool.and_eq_false_iff, Bool.or_eq_false_iff, beq_eq_false_iff_ne, ne_eq]
          omega
        rw [h3]; rfl
      · skip
        try simp only [decide_eq_false_iff_not, decide_eq_true_eq, Int.not_lt, Int.not_le, Bool.not_eq_false, Bool.not_eq_true, Bool.not_true, Bool.not_false, Bool.not_eq_true', Bool.not_eq_false', beq_eq_false_iff_ne, ne_eq, beq_iff_eq, bne_iff_ne, bne_eq_false_iff_eq, Classical.not_not] at g22
        refine Jp.y 23 rfl (want_as rfl rfl rfl rfl) rfl rfl Kp.true (Y.move rfl rfl) ?_
        refine Jp.y 24 rfl (want_as rfl rfl rfl rfl) rfl rfl Kp.true (Y.move rfl rfl) ?_
        refine Jp.y 25 rfl (want_as rfl rfl rfl rfl) rfl rfl Kp.true (Y.conv_ rfl rfl Try.underlying3 Try.underlying23 (by first | exact wrap_u32 (by omega) (by omega) | rfl)) ?_
        refine Jp.y 26 rfl (want_as rfl rfl rfl rfl) rfl rfl Kp.true (by first | exact Y.remN rfl rfl rfl (by omega) (by omega) | exact Y.rem rfl rfl rfl (by first | decide | omega)) ?_
        refine Jp.y 27 rfl (want_as rfl rfl rfl rfl) rfl rfl Kp.true (Y.neq rfl rfl rfl) ?_
        refine Jp.y 28 rfl (want_all rfl) rfl rfl Kp.true (Y.pickF rfl rfl rfl) ?_
        refine Jp.done hK3 ?_
        refine Cd.cond rfl (fun g28 => ?_) (fun g28 => ?_)
        · skip
          try simp only [decide_eq_false_iff_not, decide_eq_true_eq, Int.not_lt, Int.not_le, Bool.not_eq_false, Bool.not_eq_true, Bool.not_true, Bool.not_false, Bool.not_eq_true', Bool.not_eq_false', beq_eq_false_iff_ne, ne_eq, beq_iff_eq, bne_iff_ne, bne_eq_false_iff_eq, Classical.not_not] at g28
          refine Cd.seq fun K5 hK5 => ?_
          refine Cd.plain [(0, false), (1, false)] rfl rfl ?_
          refine Jp.y 8 rfl (want_all rfl) rfl rfl Kp.true (Y.assign rfl rfl) ?_
          refine Jp.y 9 rfl (want_all rfl) rfl rfl Kp.true (Y.assign rfl rfl) ?_
          refine Jp.done hK5 ?_
          refine Cd.ret [(0, _)] rfl (res2 rfl rfl rfl) ⟨rfl, trivial⟩ ⟨rfl, ?_, rfl⟩
          have h3 : lookM M a size need = 3 := by
            rw [lookM, if_pos]
            simp only [sizeOk, Bool.and_eq_false_iff, Bool.or_eq_false_iff, beq_eq_false_iff_ne, ne_eq]
            omega
          rw [h3]; rfl
        · skip
          try simp only [decide_eq_false_iff_not, decide_eq_true_eq, Int.not_lt, Int.not_le, Bool.not_eq_false, Bool.not_eq_true, Bool.not_true, Bool.not_false, Bool.not_eq_true', Bool.not_eq_false', beq_eq_false_iff_ne, ne_eq, beq_iff_eq, bne_iff_ne, bne_eq_false_iff_eq, Classical.not_not] at g28
          refine Cd.skip hK2 ?_
          refine Cd.seq fun K6 hK6 => ?_
          have hs : sizeOk a size = true := by
            simp only [sizeOk, Bool.and_eq_true, Bool.or_eq_true, beq_iff_eq]
            omega
          refine Cd.plain [(0, false), (1, false), (2, false), (3, false), (4, false), (5, false), (6, false), (7, false)] rfl rfl ?_
          refine Jp.y 30 rfl (want_all rfl) rfl rfl Kp.true (Y.move rfl rfl) ?_
          refine Jp.y 31 rfl (want_all rfl) rfl rfl Kp.true (Y.move rfl rfl) ?_
          refine Jp.call [0] [0] (refAt_spec b M a ha) 32 rfl (want_all rfl) rfl rfl (Runs.fn rfl Try.call54 rfl) (by decide) (by decide) rfl trivial ?_
          rintro v1 ρ1 L1 ⟨rfl, rfl, rfl⟩
          refine ⟨rfl, fun hle1 => ⟨Kp.true, ?_⟩⟩
          rcases hg : getPg M.pages (baseN a) with _ | p
          · have hlk : lookM M a size need = 1 := by rw [lookM, if_neg (by rw [hs]; simp), hg]
            refine Jp.y 29 rfl (want_all rfl) rfl rfl Kp.true (Y.move rfl rfl) ?_
            refine Jp.y 33 rfl (want_all rfl) rfl rfl Kp.true (Y.extract rfl rfl rfl) ?_
            refine Jp.y 34 rfl (want_all rfl) rfl rfl Kp.true (Y.extract rfl rfl rfl) ?_
            refine Jp.y 10 rfl (want_all rfl) rfl rfl Kp.true (Y.assign rfl rfl) ?_
            refine Jp.y 11 rfl (want_all rfl) rfl rfl Kp.true (Y.assign rfl rfl) ?_
            refine Jp.done hK6 ?_
            refine Cd.seq fun K7 hK7 => ?_
            refine Cd.seq fun K8 hK8 => ?_
            refine Cd.plain [(0, false), (1, false)] rfl rfl ?_
            refine Jp.y 35 rfl (want_all rfl) rfl rfl Kp.true (Y.move rfl rfl) ?_
            refine Jp.y 36 rfl (want_all rfl) rfl rfl Kp.true (Y.not rfl rfl) ?_
            refine Jp.done hK8 ?_
            refine Cd.cond rfl (fun gk => ?_) (fun gk => ?_)
            · skip
              refine Cd.seq fun K9 hK9 => ?_
              refine Cd.plain [(0, false), (1, false)] rfl rfl ?_
              refine Jp.y 8 rfl (want_all rfl) rfl rfl Kp.true (Y.assign rfl rfl) ?_
              refine Jp.y 9 rfl (want_all rfl) rfl rfl Kp.true (Y.assign rfl rfl) ?_
              refine Jp.done hK9 ?_
              refine Cd.ret [(0, _)] rfl (res2 rfl rfl rfl) ⟨rfl, trivial⟩ ⟨rfl, by rw [hlk]; rfl, rfl⟩
            · exact absurd gk (by simp)
          · have hlk : lookM M a size need = if may p.perm need then 0 else 2 := by rw [lookM, if_neg (by rw [hs]; simp), hg]
            have hx := pos_some hmem.rising hg
            obtain ⟨f, hfp⟩ : ∃ f, posA M.pages (baseN a) = f := ⟨_, rfl⟩
            rw [hfp] at hx ⊢
            have hfl := (List.getElem?_eq_some_iff.1 hx).1
            refine Jp.y 29 rfl (want_all rfl) rfl rfl Kp.true (Y.move rfl rfl) ?_
            refine Jp.y 33 rfl (want_all rfl) rfl rfl Kp.true (Y.extract rfl rfl rfl) ?_
            refine Jp.y 34 rfl (want_all rfl) rfl rfl Kp.true (Y.extract rfl rfl rfl) ?_
            refine Jp.y 10 rfl (want_all rfl) rfl rfl Kp.true (Y.assign rfl rfl) ?_
            refine Jp.y 11 rfl (want_all rfl) rfl rfl Kp.true (Y.assign rfl rfl) ?_
            refine Jp.done hK6 ?_
            refine Cd.seq fun K10 hK10 => ?_
            refine Cd.seq fun K11 hK11 => ?_
            refine Cd.plain [(0, false), (1, false)] rfl rfl ?_
            refine Jp.y 35 rfl (want_all rfl) rfl rfl Kp.true (Y.move rfl rfl) ?_
            refine Jp.y 36 rfl (want_all rfl) rfl rfl Kp.true (Y.not rfl rfl) ?_
            refine Jp.done hK11 ?_
            refine Cd.cond rfl (fun gk => ?_) (fun gk => ?_)
            · exact absurd gk (by simp)
            · refine Cd.refOpen 0 1 2 (by decide) rfl fun A c B dg gl hf => ?_
              have hrows := hf.rows
              refine Cd.ownAt 1 rfl (show 0 < M.pages.length by omega) ?_
              rintro b1 rfl
              have c1 := (OwnS.hasC (e := 63) (m := 258) (k := M.pages.length) (c := c) (ad := ⟨b1, 0, none⟩) (rs_get hrows hx (refPg_perm _))).two
              refine Cd.skip hK10 ?_
              refine Cd.seq fun K12 hK12 => ?_
              refine Cd.seq fun K13 hK13 => ?_
              refine Cd.plain [(0, false), (1, false), (2, false), (3, false), (4, false), (5, false), (6, false), (7, false), (8, false), (9, false), (10, false), (11, false)] rfl rfl ?_
              refine Jp.y 37 rfl (want_all rfl) rfl rfl Kp.true (Y.move rfl rfl) ?_
              refine Jp.y 38 rfl (want_all rfl) rfl rfl Kp.true (Y.nilCheck rfl rfl) ?_
              refine Jp.y 39 rfl (want_all rfl) rfl rfl Kp.true (by first | exact Y.fieldAddrP rfl rfl Try.underlying59 rfl Try.sizeOf56 (by decide) (show _ + 1 = _ from rfl) | exact Y.fieldAddr rfl rfl Try.underlying59 rfl Try.sizeOf56 (by decide)) ?_
              refine Jp.y 40 rfl (want_all rfl) rfl rfl Kp.true (by first | exact Y.loadO 0 rfl Try.isAgg56 rfl rfl rfl | exact Y.loadC 1 rfl Try.isAgg56 rfl rfl c1) ?_
              refine Jp.y 41 rfl (want_all rfl) rfl rfl Kp.true (Y.move rfl rfl) ?_
              refine Jp.y 42 rfl (want_all rfl) rfl rfl Kp.true (Y.indexAddr (q := f * 258) rfl rfl rfl Try.underlying56 Try.sizeOf63 (by omega) (by omega) (by omega)) ?_
              refine Jp.y 43 rfl (want_all rfl) rfl rfl Kp.true (by first | exact Y.fieldAddrP rfl rfl Try.underlying63 rfl Try.sizeOf3 (by decide) (show _ + 1 = _ from rfl) | exact Y.fieldAddr rfl rfl Try.underlying63 rfl Try.sizeOf3 (by decide)) ?_
              refine Jp.y 44 rfl (want_all rfl) rfl rfl Kp.true (by first | exact Y.loadO 0 rfl Try.isAgg3 rfl rfl rfl | exact Y.loadC 1 rfl Try.isAgg3 rfl rfl c1) ?_
              refine Jp.y 45 rfl (want_all rfl) rfl rfl Kp.true (Y.move rfl rfl) ?_
              refine Jp.y 46 rfl (want_all rfl) rfl rfl Kp.true (Y.bits rfl rfl rfl rfl) ?_
              refine Jp.y 47 rfl (want_all rfl) rfl rfl Kp.true (Y.move rfl rfl) ?_
              refine Jp.y 48 rfl (want_all rfl) rfl rfl Kp.true (Y.neq rfl rfl rfl) ?_
              refine Jp.done hK13 ?_
              refine Cd.cond rfl (fun gm => ?_) (fun gm => ?_)
              · have hm : may p.perm need = false := by simpa [may] using gm
                refine Cd.seq fun K14 hK14 => ?_
                refine Cd.plain [(0, false), (1, false)] rfl rfl ?_
                refine Jp.y 8 rfl (want_all rfl) rfl rfl Kp.true (Y.assign rfl rfl) ?_
                refine Jp.y 9 rfl (want_all rfl) rfl rfl Kp.true (Y.assign rfl rfl) ?_
                refine Jp.done hK14 ?_
                refine Cd.refClose (b := b) (M := M) 0 1 2 (by decide) hf rfl rfl rfl ?_
                refine Cd.ret [(0, _)] rfl (res2 rfl rfl rfl) ⟨rfl, trivial⟩ ⟨rfl, by rw [hlk, hm]; rfl, rfl⟩
              · have hm : may p.perm need = true := by simpa [may] using gm
                refine Cd.skip hK12 ?_
                refine Cd.seq fun K15 hK15 => ?_
                refine Cd.plain [(0, false), (1, false), (2, false)] rfl rfl ?_
                refine Jp.y 49 rfl (want_all rfl) rfl rfl Kp.true (Y.move rfl rfl) ?_
                refine Jp.y 8 rfl (want_all rfl) rfl rfl Kp.true (Y.assign rfl rfl) ?_
                refine Jp.y 9 rfl (want_all rfl) rfl rfl Kp.true (Y.assign rfl rfl) ?_
                refine Jp.done hK15 ?_
                refine Cd.refClose (b := b) (M := M) 0 1 2 (by decide) hf rfl rfl rfl ?_
                refine Cd.ret [(0, _)] rfl (res2 rfl rfl rfl) ⟨rfl, trivial⟩ ⟨rfl, by rw [hlk, hm, hfp]; rfl, rfl⟩
    · skip
      try simp only [decide_eq_false_iff_not, decide_eq_true_eq, Int.not_lt, Int.not_le, Bool.not_eq_false, Bool.not_eq_true, Bool.not_true, Bool.not_false, Bool.not_eq_true', Bool.not_eq_false', beq_eq_false_iff_ne, ne_eq, beq_iff_eq, bne_iff_ne, bne_eq_false_iff_eq, Classical.not_not] at g18
      refine Jp.skip 19 rfl (want_as rfl rfl rfl rfl) rfl rfl Kp.true ?_
      refine Jp.skip 20 rfl (want_as rfl rfl rfl rfl) rfl rfl Kp.true ?_
      refine Jp.y 21 rfl (want_all rfl) rfl rfl Kp.true (Y.pickF rfl rfl rfl) ?_
      refine Jp.y 22 rfl (want_all rfl) rfl rfl Kp.true (Y.move rfl rfl) ?_
      refine Jp.y 23 rfl (want_as rfl rfl rfl rfl) rfl rfl Kp.true (Y.move rfl rfl) ?_
      refine Jp.y 24 rfl (want_as rfl rfl rfl rfl) rfl rfl Kp.true (Y.move rfl rfl) ?_
      refine Jp.y 25 rfl (want_as rfl rfl rfl rfl) rfl rfl Kp.true (Y.conv_ rfl rfl Try.underlying3 Try.underlying23 (by first | exact wrap_u32 (by omega) (by omega) | rfl)) ?_
      refine Jp.y 26 rfl (want_as rfl rfl rfl rfl) rfl rfl Kp.true (by first | exact Y.remN rfl rfl rfl (by omega) (by omega) | exact Y.rem rfl rfl rfl (by first | decide | omega)) ?_
      refine Jp.y 27 rfl (want_as rfl rfl rfl rfl) rfl rfl Kp.true (Y.neq rfl rfl rfl) ?_
      refine Jp.y 28 rfl (want_all rfl) rfl rfl Kp.true (Y.pickF rfl rfl rfl) ?_
      refine Jp.done hK3 ?_
      refine Cd.cond rfl (fun g28 => ?_) (fun g28 => ?_)
      · skip
        try simp only [decide_eq_false_iff_not, decide_eq_true_eq, Int.not_lt, Int.not_le, Bool.not_eq_false, Bool.not_eq_true, Bool.not_true, Bool.not_false, Bool.not_eq_true', Bool.not_eq_false', beq_eq_false_iff_ne, ne_eq, beq_iff_eq, bne_iff_ne, bne_eq_false_iff_eq, Classical.not_not] at g28
        refine Cd.seq fun K16 hK16 => ?_
        refine Cd.plain [(0, false), (1, false)] rfl rfl ?_
        refine Jp.y 8 rfl (want_all rfl) rfl rfl Kp.true (Y.assign rfl rfl) ?_
        refine Jp.y 9 rfl (want_all rfl) rfl rfl Kp.true (Y.assign rfl rfl) ?_
        refine Jp.done hK16 ?_
        refine Cd.ret [(0, _)] rfl (res2 rfl rfl rfl) ⟨rfl, trivial⟩ ⟨rfl, ?_, rfl⟩
        have h3 : lookM M a size need = 3 := by
          rw [lookM, if_pos]
          simp only [sizeOk, Bool.and_eq_false_iff, Bool.or_eq_false_iff, beq_eq_false_iff_ne, ne_eq]
          omega
        rw [h3]; rfl
      · skip
        try simp only [decide_eq_false_iff_not, decide_eq_true_eq, Int.not_lt, Int.not_le, Bool.not_eq_false, Bool.not_eq_true, Bool.not_true, Bool.not_false, Bool.not_eq_true', Bool.not_eq_false', beq_eq_false_iff_ne, ne_eq, beq_iff_eq, bne_iff_ne, bne_eq_false_iff_eq, Classical.not_not] at g28
        refine Cd.skip hK2 ?_
        refine Cd.seq fun K17 hK17 => ?_
        have hs : sizeOk a size = true := by
          simp only [sizeOk, Bool.and_eq_true, Bool.or_eq_true, beq_iff_eq]
          omega
        refine Cd.plain [(0, false), (1, false), (2, false), (3, false), (4, false), (5, false), (6, false), (7, false)] rfl rfl ?_
        refine Jp.y 30 rfl (want_all rfl) rfl rfl Kp.true (Y.move rfl rfl) ?_
        refine Jp.y 31 rfl (want_all rfl) rfl rfl Kp.true (Y.move rfl rfl) ?_
        refine Jp.call [0] [0] (refAt_spec b M a ha) 32 rfl (want_all rfl) rfl rfl (Runs.fn rfl Try.call54 rfl) (by decide) (by decide) rfl trivial ?_
        rintro v1 ρ1 L1 ⟨rfl, rfl, rfl⟩
        refine ⟨rfl, fun hle1 => ⟨Kp.true, ?_⟩⟩
        rcases hg : getPg M.pages (baseN a) with _ | p
        · have hlk : lookM M a size need = 1 := by rw [lookM, if_neg (by rw [hs]; simp), hg]
          refine Jp.y 29 rfl (want_all rfl) rfl rfl Kp.true (Y.move rfl rfl) ?_
          refine Jp.y 33 rfl (want_all rfl) rfl rfl Kp.true (Y.extract rfl rfl rfl) ?_
          refine Jp.y 34 rfl (want_all rfl) rfl rfl Kp.true (Y.extract rfl rfl rfl) ?_
          refine Jp.y 10 rfl (want_all rfl) rfl rfl Kp.true (Y.assign rfl rfl) ?_
          refine Jp.y 11 rfl (want_all rfl) rfl rfl Kp.true (Y.assign rfl rfl) ?_
          refine Jp.done hK17 ?_
          refine Cd.seq fun K18 hK18 => ?_
          refine Cd.seq fun K19 hK19 => ?_
          refine Cd.plain [(0, false), (1, false)] rfl rfl ?_
          refine Jp.y 35 rfl (want_all rfl) rfl rfl Kp.true (Y.move rfl rfl) ?_
          refine Jp.y 36 rfl (want_all rfl) rfl rfl Kp.true (Y.not rfl rfl) ?_
          refine Jp.done hK19 ?_
          refine Cd.cond rfl (fun gk => ?_) (fun gk => ?_)
          · skip
            refine Cd.seq fun K20 hK20 => ?_
            refine Cd.plain [(0, false), (1, false)] rfl rfl ?_
            refine Jp.y 8 rfl (want_all rfl) rfl rfl Kp.true (Y.assign rfl rfl) ?_
            refine Jp.y 9 rfl (want_all rfl) rfl rfl Kp.true (Y.assign rfl rfl) ?_
            refine Jp.done hK20 ?_
            refine Cd.ret [(0, _)] rfl (res2 rfl rfl rfl) ⟨rfl, trivial⟩ ⟨rfl, by rw [hlk]; rfl, rfl⟩
          · exact absurd gk (by simp)
        · have hlk : lookM M a size need = if may p.perm need then 0 else 2 := by rw [lookM, if_neg (by rw [hs]; simp), hg]
          have hx := pos_some hmem.rising hg
          obtain ⟨f, hfp⟩ : ∃ f, posA M.pages (baseN a) = f := ⟨_, rfl⟩
          rw [hfp] at hx ⊢
          have hfl := (List.getElem?_eq_some_iff.1 hx).1
          refine Jp.y 29 rfl (want_all rfl) rfl rfl Kp.true (Y.move rfl rfl) ?_
          refine Jp.y 33 rfl (want_all rfl) rfl rfl Kp.true (Y.extract rfl rfl rfl) ?_
          refine Jp.y 34 rfl (want_all rfl) rfl rfl Kp.true (Y.extract rfl rfl rfl) ?_
          refine Jp.y 10 rfl (want_all rfl) rfl rfl Kp.true (Y.assign rfl rfl) ?_
          refine Jp.y 11 rfl (want_all rfl) rfl rfl Kp.true (Y.assign rfl rfl) ?_
          refine Jp.done hK17 ?_
          refine Cd.seq fun K21 hK21 => ?_
          refine Cd.seq fun K22 hK22 => ?_
          refine Cd.plain [(0, false), (1, false)] rfl rfl ?_
          refine Jp.y 35 rfl (want_all rfl) rfl rfl Kp.true (Y.move rfl rfl) ?_
          refine Jp.y 36 rfl (want_all rfl) rfl rfl Kp.true (Y.not rfl rfl) ?_
          refine Jp.done hK22 ?_
          refine Cd.cond rfl (fun gk => ?_) (fun gk => ?_)
          · exact absurd gk (by simp)
          · refine Cd.refOpen 0 1 2 (by decide) rfl fun A c B dg gl hf => ?_
            have hrows := hf.rows
            refine Cd.ownAt 1 rfl (show 0 < M.pages.length by omega) ?_
            rintro b1 rfl
            have c1 := (OwnS.hasC (e := 63) (m := 258) (k := M.pages.length) (c := c) (ad := ⟨b1, 0, none⟩) (rs_get hrows hx (refPg_perm _))).two
            refine Cd.skip hK21 ?_
            refine Cd.seq fun K23 hK23 => ?_
            refine Cd.seq fun K24 hK24 => ?_
            refine Cd.plain [(0, false), (1, false), (2, false), (3, false), (4, false), (5, false), (6, false), (7, false), (8, false), (9, false), (10, false), (11, false)] rfl rfl ?_
            refine Jp.y 37 rfl (want_all rfl) rfl rfl Kp.true (Y.move rfl rfl) ?_
            refine Jp.y 38 rfl (want_all rfl) rfl rfl Kp.true (Y.nilCheck rfl rfl) ?_
            refine Jp.y 39 rfl (want_all rfl) rfl rfl Kp.true (by first | exact Y.fieldAddrP rfl rfl Try.underlying59 rfl Try.sizeOf56 (by decide) (show _ + 1 = _ from rfl) | exact Y.fieldAddr rfl rfl Try.underlying59 rfl Try.sizeOf56 (by decide)) ?_
            refine Jp.y 40 rfl (want_all rfl) rfl rfl Kp.true (by first | exact Y.loadO 0 rfl Try.isAgg56 rfl rfl rfl | exact Y.loadC 1 rfl Try.isAgg56 rfl rfl c1) ?_
            refine Jp.y 41 rfl (want_all rfl) rfl rfl Kp.true (Y.move rfl rfl) ?_
            refine Jp.y 42 rfl (want_all rfl) rfl rfl Kp.true (Y.indexAddr (q := f * 258) rfl rfl rfl Try.underlying56 Try.sizeOf63 (by omega) (by omega) (by omega)) ?_
            refine Jp.y 43 rfl (want_all rfl) rfl rfl Kp.true (by first | exact Y.fieldAddrP rfl rfl Try.underlying63 rfl Try.sizeOf3 (by decide) (show _ + 1 = _ from rfl) | exact Y.fieldAddr rfl rfl Try.underlying63 rfl Try.sizeOf3 (by decide)) ?_
            refine Jp.y 44 rfl (want_all rfl) rfl rfl Kp.true (by first | exact Y.loadO 0 rfl Try.isAgg3 rfl rfl rfl | exact Y.loadC 1 rfl Try.isAgg3 rfl rfl c1) ?_
            refine Jp.y 45 rfl (want_all rfl) rfl rfl Kp.true (Y.move rfl rfl) ?_
            refine Jp.y 46 rfl (want_all rfl) rfl rfl Kp.true (Y.bits rfl rfl rfl rfl) ?_
            refine Jp.y 47 rfl (want_all rfl) rfl rfl Kp.true (Y.move rfl rfl) ?_
            refine Jp.y 48 rfl (want_all rfl) rfl rfl Kp.true (Y.neq rfl rfl rfl) ?_
            refine Jp.done hK24 ?_
            refine Cd.cond rfl (fun gm => ?_) (fun gm => ?_)
            · have hm : may p.perm need = false := by simpa [may] using gm
              refine Cd.seq fun K25 hK25 => ?_
              refine Cd.plain [(0, false), (1, false)] rfl rfl ?_
              refine Jp.y 8 rfl (want_all rfl) rfl rfl Kp.true (Y.assign rfl rfl) ?_
              refine Jp.y 9 rfl (want_all rfl) rfl rfl Kp.true (Y.assign rfl rfl) ?_
              refine Jp.done hK25 ?_
              refine Cd.refClose (b := b) (M := M) 0 1 2 (by decide) hf rfl rfl rfl ?_
              refine Cd.ret [(0, _)] rfl (res2 rfl rfl rfl) ⟨rfl, trivial⟩ ⟨rfl, by rw [hlk, hm]; rfl, rfl⟩
            · have hm : may p.perm need = true := by simpa [may] using gm
              refine Cd.skip hK23 ?_
              refine Cd.seq fun K26 hK26 => ?_
              refine Cd.plain [(0, false), (1, false), (2, false)] rfl rfl ?_
              refine Jp.y 49 rfl (want_all rfl) rfl rfl Kp.true (Y.move rfl rfl) ?_
              refine Jp.y 8 rfl (want_all rfl) rfl rfl Kp.true (Y.assign rfl rfl) ?_
              refine Jp.y 9 rfl (want_all rfl) rfl rfl Kp.true (Y.assign rfl rfl) ?_
              refine Jp.done hK26 ?_
              refine Cd.refClose (b := b) (M := M) 0 1 2 (by decide) hf rfl rfl rfl ?_
              refine Cd.ret [(0, _)] rfl (res2 rfl rfl rfl) ⟨rfl, trivial⟩ ⟨rfl, by rw [hlk, hm, hfp]; rfl, rfl⟩
  · skip
    try simp only [decide_eq_false_iff_not, decide_eq_true_eq, Int.not_lt, Int.not_le, Bool.not_eq_false, Bool.not_eq_true, Bool.not_true, Bool.not_false, Bool.not_eq_true', Bool.not_eq_false', beq_eq_false_iff_ne, ne_eq, beq_iff_eq, bne_iff_ne, bne_eq_false_iff_eq, Classical.not_not] at g14
    refine Jp.skip 15 rfl (want_as rfl rfl rfl rfl) rfl rfl Kp.true ?_
    refine Jp.skip 16 rfl (want_as rfl rfl rfl rfl) rfl rfl Kp.true ?_
    refine Jp.y 17 rfl (want_all rfl) rfl rfl Kp.true (Y.pickF rfl rfl rfl) ?_
    refine Jp.y 18 rfl (want_all rfl) rfl rfl Kp.true (Y.move rfl rfl) ?_
    refine Jp.skip 19 rfl (want_as rfl rfl rfl rfl) rfl rfl Kp.true ?_
    refine Jp.skip 20 rfl (want_as rfl rfl rfl rfl) rfl rfl Kp.true ?_
    refine Jp.y 21 rfl (want_all rfl) rfl rfl Kp.true (Y.pickF rfl rfl rfl) ?_
    refine Jp.y 22 rfl (want_all rfl) rfl rfl Kp.true (Y.move rfl rfl) ?_
    refine Jp.y 23 rfl (want_as rfl rfl rfl rfl) rfl rfl Kp.true (Y.move rfl rfl) ?_
    refine Jp.y 24 rfl (want_as rfl rfl rfl rfl) rfl rfl Kp.true (Y.move rfl rfl) ?_
    refine Jp.y 25 rfl (want_as rfl rfl rfl rfl) rfl rfl Kp.true (Y.conv_ rfl rfl Try.underlying3 Try.underlying23 (by first | exact wrap_u32 (by omega) (by omega) | rfl)) ?_
    refine Jp.y 26 rfl (want_as rfl rfl rfl rfl) rfl rfl Kp.true (by first | exact Y.remN rfl rfl rfl (by omega) (by omega) | exact Y.rem rfl rfl rfl (by first | decide | omega)) ?_
    refine Jp.y 27 rfl (want_as rfl rfl rfl rfl) rfl rfl Kp.true (Y.neq rfl rfl rfl) ?_
    refine Jp.y 28 rfl (want_all rfl) rfl rfl Kp.true (Y.pickF rfl rfl rfl) ?_
    refine Jp.done hK3 ?_
    refine Cd.cond rfl (fun g28 => ?_) (fun g28 => ?_)
    · skip
      try simp only [decide_eq_false_iff_not, decide_eq_true_eq, Int.not_lt, Int.not_le, Bool.not_eq_false, Bool.not_eq_true, Bool.not_true, Bool.not_false, Bool.not_eq_true', Bool.not_eq_false', beq_eq_false_iff_ne, ne_eq, beq_iff_eq, bne_iff_ne, bne_eq_false_iff_eq, Classical.not_not] at g28
      refine Cd.seq fun K27 hK27 => ?_
      refine Cd.plain [(0, false), (1, false)] rfl rfl ?_
      refine Jp.y 8 rfl (want_all rfl) rfl rfl Kp.true (Y.assign rfl rfl) ?_
      refine Jp.y 9 rfl (want_all rfl) rfl rfl Kp.true (Y.assign rfl rfl) ?_
      refine Jp.done hK27 ?_
      refine Cd.ret [(0, _)] rfl (res2 rfl rfl rfl) ⟨rfl, trivial⟩ ⟨rfl, ?_, rfl⟩
      have h3 : lookM M a size need = 3 := by
        rw [lookM, if_pos]
        simp only [sizeOk, Bool.and_eq_false_iff, Bool.or_eq_false_iff, beq_eq_false_iff_ne, ne_eq]
        omega
      rw [h3]; rfl
    · skip
      try simp only [decide_eq_false_iff_not, decide_eq_true_eq, Int.not_lt, Int.not_le, Bool.not_eq_false, Bool.not_eq_true, Bool.not_true, Bool.not_false, Bool.not_eq_true', Bool.not_eq_false', beq_eq_false_iff_ne, ne_eq, beq_iff_eq, bne_iff_ne, bne_eq_false_iff_eq, Classical.not_not] at g28
      refine Cd.skip hK2 ?_
      refine Cd.seq fun K28 hK28 => ?_
      have hs : sizeOk a size = true := by
        simp only [sizeOk, Bool.and_eq_true, Bool.or_eq_true, beq_iff_eq]
        omega
      refine Cd.plain [(0, false), (1, false), (2, false), (3, false), (4, false), (5, false), (6, false), (7, false)] rfl rfl ?_
      refine Jp.y 30 rfl (want_all rfl) rfl rfl Kp.true (Y.move rfl rfl) ?_
      refine Jp.y 31 rfl (want_all rfl) rfl rfl Kp.true (Y.move rfl rfl) ?_
      refine Jp.call [0] [0] (refAt_spec b M a ha) 32 rfl (want_all rfl) rfl rfl (Runs.fn rfl Try.call54 rfl) (by decide) (by decide) rfl trivial ?_
      rintro v1 ρ1 L1 ⟨rfl, rfl, rfl⟩
      refine ⟨rfl, fun hle1 => ⟨Kp.true, ?_⟩⟩
      rcases hg : getPg M.pages (baseN a) with _ | p
      · have hlk : lookM M a size need = 1 := by rw [lookM, if_neg (by rw [hs]; simp), hg]
        refine Jp.y 29 rfl (want_all rfl) rfl rfl Kp.true (Y.move rfl rfl) ?_
        refine Jp.y 33 rfl (want_all rfl) rfl rfl Kp.true (Y.extract rfl rfl rfl) ?_
        refine Jp.y 34 rfl (want_all rfl) rfl rfl Kp.true (Y.extract rfl rfl rfl) ?_
        refine Jp.y 10 rfl (want_all rfl) rfl rfl Kp.true (Y.assign rfl rfl) ?_
        refine Jp.y 11 rfl (want_all rfl) rfl rfl Kp.true (Y.assign rfl rfl) ?_
        refine Jp.done hK28 ?_
        refine Cd.seq fun K29 hK29 => ?_
        refine Cd.seq fun K30 hK30 => ?_
        refine Cd.plain [(0, false), (1, false)] rfl rfl ?_
        refine Jp.y 35 rfl (want_all rfl) rfl rfl Kp.true (Y.move rfl rfl) ?_
        refine Jp.y 36 rfl (want_all rfl) rfl rfl Kp.true (Y.not rfl rfl) ?_
        refine Jp.done hK30 ?_
        refine Cd.cond rfl (fun gk => ?_) (fun gk => ?_)
        · skip
          refine Cd.seq fun K31 hK31 => ?_
          refine Cd.plain [(0, false), (1, false)] rfl rfl ?_
          refine Jp.y 8 rfl (want_all rfl) rfl rfl Kp.true (Y.assign rfl rfl) ?_
          refine Jp.y 9 rfl (want_all rfl) rfl rfl Kp.true (Y.assign rfl rfl) ?_
          refine Jp.done hK31 ?_
          refine Cd.ret [(0, _)] rfl (res2 rfl rfl rfl) ⟨rfl, trivial⟩ ⟨rfl, by rw [hlk]; rfl, rfl⟩
        · exact absurd gk (by simp)
      · have hlk : lookM M a size need = if may p.perm need then 0 else 2 := by rw [lookM, if_neg (by rw [hs]; simp), hg]
        have hx := pos_some hmem.rising hg
        obtain ⟨f, hfp⟩ : ∃ f, posA M.pages (baseN a) = f := ⟨_, rfl⟩
        rw [hfp] at hx ⊢
        have hfl := (List.getElem?_eq_some_iff.1 hx).1
        refine Jp.y 29 rfl (want_all rfl) rfl rfl Kp.true (Y.move rfl rfl) ?_
        refine Jp.y 33 rfl (want_all rfl) rfl rfl Kp.true (Y.extract rfl rfl rfl) ?_
        refine Jp.y 34 rfl (want_all rfl) rfl rfl Kp.true (Y.extract rfl rfl rfl) ?_
        refine Jp.y 10 rfl (want_all rfl) rfl rfl Kp.true (Y.assign rfl rfl) ?_
        refine Jp.y 11 rfl (want_all rfl) rfl rfl Kp.true (Y.assign rfl rfl) ?_
        refine Jp.done hK28 ?_
        refine Cd.seq fun K32 hK32 => ?_
        refine Cd.seq fun K33 hK33 => ?_
        refine Cd.plain [(0, false), (1, false)] rfl rfl ?_
        refine Jp.y 35 rfl (want_all rfl) rfl rfl Kp.true (Y.move rfl rfl) ?_
        refine Jp.y 36 rfl (want_all rfl) rfl rfl Kp.true (Y.not rfl rfl) ?_
        refine Jp.done hK33 ?_
        refine Cd.cond rfl (fun gk => ?_) (fun gk => ?_)
        · exact absurd gk (by simp)
        · refine Cd.refOpen 0 1 2 (by decide) rfl fun A c B dg gl hf => ?_
          have hrows := hf.rows
          refine Cd.ownAt 1 rfl (show 0 < M.pages.length by omega) ?_
          rintro b1 rfl
          have c1 := (OwnS.hasC (e := 63) (m := 258) (k := M.pages.length) (c := c) (ad := ⟨b1, 0, none⟩) (rs_get hrows hx (refPg_perm _))).two
          refine Cd.skip hK32 ?_
          refine Cd.seq fun K34 hK34 => ?_
          refine Cd.seq fun K35 hK35 => ?_
          refine Cd.plain [(0, false), (1, false), (2, false), (3, false), (4, false), (5, false), (6, false), (7, false), (8, false), (9, false), (10, false), (11, false)] rfl rfl ?_
          refine Jp.y 37 rfl (want_all rfl) rfl rfl Kp.true (Y.move rfl rfl) ?_
          refine Jp.y 38 rfl (want_all rfl) rfl rfl Kp.true (Y.nilCheck rfl rfl) ?_
          refine Jp.y 39 rfl (want_all rfl) rfl rfl Kp.true (by first | exact Y.fieldAddrP rfl rfl Try.underlying59 rfl Try.sizeOf56 (by decide) (show _ + 1 = _ from rfl) | exact Y.fieldAddr rfl rfl Try.underlying59 rfl Try.sizeOf56 (by decide)) ?_
          refine Jp.y 40 rfl (want_all rfl) rfl rfl Kp.true (by first | exact Y.loadO 0 rfl Try.isAgg56 rfl rfl rfl | exact Y.loadC 1 rfl Try.isAgg56 rfl rfl c1) ?_
          refine Jp.y 41 rfl (want_all rfl) rfl rfl Kp.true (Y.move rfl rfl) ?_
          refine Jp.y 42 rfl (want_all rfl) rfl rfl Kp.true (Y.indexAddr (q := f * 258) rfl rfl rfl Try.underlying56 Try.sizeOf63 (by omega) (by omega) (by omega)) ?_
          refine Jp.y 43 rfl (want_all rfl) rfl rfl Kp.true (by first | exact Y.fieldAddrP rfl rfl Try.underlying63 rfl Try.sizeOf3 (by decide) (show _ + 1 = _ from rfl) | exact Y.fieldAddr rfl rfl Try.underlying63 rfl Try.sizeOf3 (by decide)) ?_
          refine Jp.y 44 rfl (want_all rfl) rfl rfl Kp.true (by first | exact Y.loadO 0 rfl Try.isAgg3 rfl rfl rfl | exact Y.loadC 1 rfl Try.isAgg3 rfl rfl c1) ?_
          refine Jp.y 45 rfl (want_all rfl) rfl rfl Kp.true (Y.move rfl rfl) ?_
          refine Jp.y 46 rfl (want_all rfl) rfl rfl Kp.true (Y.bits rfl rfl rfl rfl) ?_
          refine Jp.y 47 rfl (want_all rfl) rfl rfl Kp.true (Y.move rfl rfl) ?_
          refine Jp.y 48 rfl (want_all rfl) rfl rfl Kp.true (Y.neq rfl rfl rfl) ?_
          refine Jp.done hK35 ?_
          refine Cd.cond rfl (fun gm => ?_) (fun gm => ?_)
          · have hm : may p.perm need = false := by simpa [may] using gm
            refine Cd.seq fun K36 hK36 => ?_
            refine Cd.plain [(0, false), (1, false)] rfl rfl ?_
            refine Jp.y 8 rfl (want_all rfl) rfl rfl Kp.true (Y.assign rfl rfl) ?_
            refine Jp.y 9 rfl (want_all rfl) rfl rfl Kp.true (Y.assign rfl rfl) ?_
            refine Jp.done hK36 ?_
            refine Cd.refClose (b := b) (M := M) 0 1 2 (by decide) hf rfl rfl rfl ?_
            refine Cd.ret [(0, _)] rfl (res2 rfl rfl rfl) ⟨rfl, trivial⟩ ⟨rfl, by rw [hlk, hm]; rfl, rfl⟩
          · have hm : may p.perm need = true := by simpa [may] using gm
            refine Cd.skip hK34 ?_
            refine Cd.seq fun K37 hK37 => ?_
            refine Cd.plain [(0, false), (1, false), (2, false)] rfl rfl ?_
            refine Jp.y 49 rfl (want_all rfl) rfl rfl Kp.true (Y.move rfl rfl) ?_
            refine Jp.y 8 rfl (want_all rfl) rfl rfl Kp.true (Y.assign rfl rfl) ?_
            refine Jp.y 9 rfl (want_all rfl) rfl rfl Kp.true (Y.assign rfl rfl) ?_
            refine Jp.done hK37 ?_
            refine Cd.refClose (b := b) (M := M) 0 1 2 (by decide) hf rfl rfl rfl ?_
            refine Cd.ret [(0, _)] rfl (res2 rfl rfl rfl) ⟨rfl, trivial⟩ ⟨rfl, by rw [hlk, hm, hfp]; rfl, rfl⟩
theorem shl_or {l : List UInt8} {x : UInt8} (h : l.length ≤ 3) : bitsB .or .u32 (IntKind.u32.wrap ((leN l : Int) * 2 ^ (min (8 : Int).toNat IntKind.u32.bits))) (x.toNat : Int) = (leN (x :: l) : Int) := by
  have h1 := leN_lt l
  have hx := x.toNat_lt
  have h2 : 256 ^ l.length ≤ 256 ^ 3 := Nat.pow_le_pow_right (by omega) h
  have h3 : leN l * 2 ^ 8 < 4294967296 := by omega
  have h4 := shl32 (a := leN l) (i := 8) (by omega) h3
  rw [show ((8 : Nat) : Int) = 8 from rfl] at h4
  rw [h4, bits_or32 h3 (by omega), Nat.or_comm, or_shift (by omega)]
  show ((x.toNat + leN l * 256 : Nat) : Int) = ((x.toNat + 256 * leN l : Nat) : Int)
  rw [Nat.mul_comm]
theorem refLoad_spec (b : Nat) (M : MemG) (a : Nat) (size need : Int) (ha : a < 4294967296) : Spec Try.prog 31 #[.pointer (some ⟨b, 0, none⟩), .int .u32 a, .int .i64 size, .int .i64 need] (fun _ => True) [(0, RefO b M)]
    (fun ρ ρ' v L => ρ' = ρ ∧ v = .tuple #[.int .u32 (loadM M a size need).1, .int .i64 (loadM M a size need).2] ∧ L = [(0, RefO b M)]) := by
  refine Spec.of 50 Try.func31 rfl Try.ntmps31 [(0, _), (1, _), (2, _), (3, _)] rfl rfl ?_
  intro cx ρ hr h0
  refine Cd.know (A := RefO b M) 0 rfl RefO.ok fun hmem => ?_
  have hroom := hmem.room
  have hbud := hmem.budget.2
  refine Cd.seq fun K38 hK38 => ?_
  refine Cd.plain [(0, false), (1, false)] rfl rfl ?_
  refine Jp.y 8 rfl (want_all rfl) rfl rfl Kp.true (Y.assign rfl rfl) ?_
  refine Jp.y 9 rfl (want_all rfl) rfl rfl Kp.true (Y.assign rfl rfl) ?_
  refine Jp.done hK38 ?_
  refine Cd.seq fun K39 hK39 => ?_
  refine Cd.plain [(0, false), (1, false), (2, false), (3, false), (4, false), (5, false), (6, false), (7, false), (8, false), (9, false)] rfl rfl ?_
  refine Jp.y 15 rfl (want_all rfl) rfl rfl Kp.true (Y.move rfl rfl) ?_
  refine Jp.y 16 rfl (want_all rfl) rfl rfl Kp.true (Y.move rfl rfl) ?_
  refine Jp.y 17 rfl (want_all rfl) rfl rfl Kp.true (Y.move rfl rfl) ?_
  refine Jp.y 18 rfl (want_all rfl) rfl rfl Kp.true (Y.move rfl rfl) ?_
  refine Jp.call [0] [0] (refAsk_spec b M a size need ha) 19 rfl (want_all rfl) rfl rfl (Runs.fn rfl Try.call42 rfl) (by decide) (by decide) rfl trivial ?_
  rintro v1 ρ1 L1 ⟨rfl, rfl, rfl⟩
  refine ⟨rfl, fun hle1 => ⟨Kp.true, ?_⟩⟩
  refine Jp.y 14 rfl (want_all rfl) rfl rfl Kp.true (Y.move rfl rfl) ?_
  refine Jp.y 20 rfl (want_all rfl) rfl rfl Kp.true (Y.extract rfl rfl rfl) ?_
  refine Jp.y 21 rfl (want_all rfl) rfl rfl Kp.true (Y.extract rfl rfl rfl) ?_
  refine Jp.y 10 rfl (want_all rfl) rfl rfl Kp.true (Y.assign rfl rfl) ?_
  refine Jp.y 11 rfl (want_all rfl) rfl rfl Kp.true (Y.assign rfl rfl) ?_
  refine Jp.done hK39 ?_
  refine Cd.seq fun K40 hK40 => ?_
  refine Cd.seq fun K41 hK41 => ?_
  refine Cd.plain [(0, false), (1, false)] rfl rfl ?_
  refine Jp.y 22 rfl (want_all rfl) rfl rfl Kp.true (Y.move rfl rfl) ?_
  refine Jp.y 23 rfl (want_all rfl) rfl rfl Kp.true (Y.neq rfl rfl rfl) ?_
  refine Jp.done hK41 ?_
  refine Cd.cond rfl (fun gf => ?_) (fun gf => ?_)
  · have hne : lookM M a size need ≠ 0 := by simpa using gf
    have hV : loadM M a size need = (0, lookM M a size need) := by rw [loadM, if_neg hne]
    refine Cd.seq fun K42 hK42 => ?_
    refine Cd.plain [(0, false), (1, false), (2, false)] rfl rfl ?_
    refine Jp.y 24 rfl (want_all rfl) rfl rfl Kp.true (Y.move rfl rfl) ?_
    refine Jp.y 8 rfl (want_all rfl) rfl rfl Kp.true (Y.assign rfl rfl) ?_
    refine Jp.y 9 rfl (want_all rfl) rfl rfl Kp.true (Y.assign rfl rfl) ?_
    refine Jp.done hK42 ?_
    refine Cd.ret [(0, _)] rfl (res2 rfl rfl rfl) ⟨rfl, trivial⟩ ⟨rfl, by rw [hV]; rfl, rfl⟩
  · have hz : lookM M a size need = 0 := by simpa using gf
    obtain ⟨hs, p, hg, hm⟩ := lookM_ok hz
    obtain ⟨n, rfl, hn1, hn2⟩ := sizeOk_nat hs
    have hpo := hmem.page _ (getPg_mem hg)
    have hlen : p.b.length = 256 := hpo.len
    have hV : loadM M a n need = (leN ((p.b.drop (a % 256)).take n), 0) := by rw [loadM, if_pos hz, hg]; rfl
    obtain ⟨w, hw⟩ : ∃ w, (p.b.drop (a % 256)).take n = w := ⟨_, rfl⟩
    have hwl : w.length = n := by rw [← hw, List.length_take, List.length_drop]; omega
    rw [hw] at hV
    rw [if_pos hz]
    have hx := pos_some hmem.rising hg
    obtain ⟨f, hfp⟩ : ∃ f, posA M.pages (baseN a) = f := ⟨_, rfl⟩
    rw [hfp] at hx ⊢
    have hfl := (List.getElem?_eq_some_iff.1 hx).1
    refine Cd.refOpen 0 1 2 (by decide) rfl fun A c B dg gl hf => ?_
    have hrows := hf.rows
    refine Cd.ownAt 1 rfl (show 0 < M.pages.length by omega) ?_
    rintro b1 rfl
    refine Cd.skip hK40 ?_
    refine Cd.seq fun K43 hK43 => ?_
    refine Cd.plain [(0, false)] rfl rfl ?_
    refine Jp.y 12 rfl (want_all rfl) rfl rfl Kp.true (Y.assign rfl rfl) ?_
    refine Jp.done hK43 ?_
    refine Cd.seq fun K44 hK44 => ?_
    refine Cd.seq fun K45 hK45 => ?_
    refine Cd.plain [(0, false), (1, false), (2, false)] rfl rfl ?_
    refine Jp.y 25 rfl (want_all rfl) rfl rfl Kp.true (Y.move rfl rfl) ?_
    refine Jp.y 26 rfl (want_all rfl) rfl rfl Kp.true (Y.sub_ rfl rfl rfl (by first | exact wrap_i64 (by omega) (by omega) | rfl)) ?_
    refine Jp.y 13 rfl (want_all rfl) rfl rfl Kp.true (Y.assign rfl rfl) ?_
    refine Jp.done hK45 ?_
    refine Cd.block ?_
    refine Cd.slot 12 rfl (show _ = Value.int .u32 (leN (w.drop n) : Int) from congrArg (Value.int .u32) (by rw [List.drop_of_length_le (by omega)]; rfl)) ?_
    refine Cd.loopK (G := Nat) (fun j => j ≤ n) (fun j => j) (fun _ => _) (fun j => [(12, .int .u32 (leN (w.drop j) : Int)), (13, .int .i64 ((j : Int) - 1))]) [(0, _), (1, _), (10, _)] (fun j => []) [(0, _), (1, _), (2, _)] n (Nat.le_refl _) rfl ⟨rfl, rfl, trivial⟩ ⟨rfl, rfl, rfl, trivial⟩ trivial ⟨rfl, rfl, rfl, trivial⟩ (fun g KLa hok hLa => ?_)
    obtain ⟨j, hj⟩ : ∃ j, j = g := ⟨_, rfl⟩
    rw [← hj] at hok ⊢
    refine Cd.seq fun K46 hK46 => ?_
    refine Cd.seq fun K47 hK47 => ?_
    refine Cd.plain [(0, false), (1, false)] rfl rfl ?_
    refine Jp.y 27 rfl (want_all rfl) rfl rfl Kp.true (Y.move rfl rfl) ?_
    refine Jp.y 28 rfl (want_all rfl) rfl rfl Kp.true (Y.geq rfl rfl rfl) ?_
    refine Jp.done hK47 ?_
    refine Cd.cond rfl (fun ga => ?_) (fun ga => ?_)
    · have hj1 : 1 ≤ j := by simp at ga; omega
      obtain ⟨m, rfl⟩ : ∃ m, j = m + 1 := ⟨j - 1, by omega⟩
      have hmw : m < w.length := by omega
      have hwd : w.drop m = w[m] :: w.drop (m + 1) := List.drop_eq_getElem_cons hmw
      have hbyte : p.b.getD (a % 256 + m) 0 = w[m] := by
        have h1 : w[m]? = some w[m] := List.getElem?_eq_getElem hmw
        rw [List.getD_eq_getElem?_getD]
        have h2 : w[m]? = p.b[a % 256 + m]? := by
          rw [← hw, List.getElem?_take_of_lt (by omega), List.getElem?_drop]
        rw [← h2, h1]; rfl
      have hb256 := (w[m]).toNat_lt
      have hor := shl_or (l := w.drop (m + 1)) (x := w[m]) (by rw [List.length_drop]; omega)
      rw [← hwd] at hor
      have c0 := OwnS.hasC (e := 63) (m := 258) (k := M.pages.length) (c := c) (ad := ⟨b1, 0, none⟩) (rs_get hrows hx (refPg_byte hlen (j := a % 256 + m) (by omega)))
      rw [add_mk, Nat.zero_add, hbyte] at c0
      refine Cd.skip hK46 ?_
      refine Cd.seq fun K48 hK48 => ?_
      refine Cd.block ?_
      refine Cd.plain [(0, false), (1, false), (2, false), (3, false), (4, false), (5, false), (6, false), (7, false), (8, false), (9, false), (10, false), (11, false), (12, false), (13, false), (14, false), (15, false), (16, false), (17, false), (18, false)] rfl rfl ?_
      refine Jp.y 31 rfl (want_all rfl) rfl rfl Kp.true (Y.move rfl rfl) ?_
      refine Jp.y 32 rfl (want_all rfl) rfl rfl Kp.true (Y.shl rfl rfl rfl (by first | decide | omega)) ?_
      refine Jp.y 33 rfl (want_all rfl) rfl rfl Kp.true (Y.move rfl rfl) ?_
      refine Jp.y 34 rfl (want_all rfl) rfl rfl Kp.true (Y.nilCheck rfl rfl) ?_
      refine Jp.y 35 rfl (want_all rfl) rfl rfl Kp.true (by first | exact Y.fieldAddrP rfl rfl Try.underlying59 rfl Try.sizeOf56 (by decide) (show _ + 1 = _ from rfl) | exact Y.fieldAddr rfl rfl Try.underlying59 rfl Try.sizeOf56 (by decide)) ?_
      refine Jp.y 36 rfl (want_all rfl) rfl rfl Kp.true (Y.loadO 0 rfl Try.isAgg56 rfl rfl rfl) ?_
      refine Jp.y 37 rfl (want_all rfl) rfl rfl Kp.true (Y.move rfl rfl) ?_
      refine Jp.y 38 rfl (want_all rfl) rfl rfl Kp.true (Y.move rfl rfl) ?_
      refine Jp.y 39 rfl (want_all rfl) rfl rfl Kp.true (by first | exact Y.remN rfl rfl rfl (by omega) (by omega) | exact Y.rem rfl rfl rfl (by first | decide | omega)) ?_
      refine Jp.y 40 rfl (want_all rfl) rfl rfl Kp.true (Y.conv_ rfl rfl Try.underlying23 Try.underlying3 (by first | exact wrap_i64 (by omega) (by omega) | rfl)) ?_
      refine Jp.y 41 rfl (want_all rfl) rfl rfl Kp.true (Y.move rfl rfl) ?_
      refine Jp.y 42 rfl (want_all rfl) rfl rfl Kp.true (Y.add_ rfl rfl rfl (by first | exact wrap_i64 (by omega) (by omega) | rfl)) ?_
      refine Jp.y 43 rfl (want_all rfl) rfl rfl Kp.true (Y.indexAddr (q := f * 258) rfl rfl rfl Try.underlying56 Try.sizeOf63 (by omega) (by omega) (by omega)) ?_
      refine Jp.slot 43 rfl (show _ = Value.pointer (some ⟨b1, f * 258, none⟩) by rw [add_mk, Nat.zero_add]) ?_
      refine Jp.slot 42 rfl (show _ = Value.int .i64 ((a % 256 + m : Nat) : Int) from congrArg (Value.int .i64) (by omega)) ?_
      refine Jp.y 44 rfl (want_all rfl) rfl rfl Kp.true (by first | exact Y.fieldAddrP rfl rfl Try.underlying63 rfl Try.sizeOf61 (by decide) (show _ + 2 = _ from rfl) | exact Y.fieldAddr rfl rfl Try.underlying63 rfl Try.sizeOf61 (by decide)) ?_
      refine Jp.y 45 rfl (want_all rfl) rfl rfl Kp.true (Y.indexArrP (q := f * 258 + (2 + (a % 256 + m))) rfl rfl rfl Try.underlying61 Try.sizeOf5 (by omega) (by omega) (by omega)) ?_
      refine Jp.y 46 rfl (want_all rfl) rfl rfl Kp.true (by first | exact Y.loadO 0 rfl Try.isAgg5 rfl rfl rfl | exact Y.loadC 1 rfl Try.isAgg5 rfl rfl c0) ?_
      refine Jp.y 47 rfl (want_all rfl) rfl rfl Kp.true (Y.conv_ rfl rfl Try.underlying5 Try.underlying23 (by first | exact wrap_u32 (by omega) (by omega) | rfl)) ?_
      refine Jp.y 48 rfl (want_all rfl) rfl rfl Kp.true (Y.bits rfl rfl rfl rfl) ?_
      refine Jp.slot 48 rfl (show _ = Value.int .u32 (leN (w.drop m) : Int) from congrArg (Value.int .u32) hor) ?_
      refine Jp.y 12 rfl (want_all rfl) rfl rfl Kp.true (Y.assign rfl rfl) ?_
      refine Jp.over rfl hK48 ?_
      refine Cd.plain [(0, false), (1, false), (2, false)] rfl rfl ?_
      refine Jp.y 29 rfl (want_all rfl) rfl rfl Kp.true (Y.move rfl rfl) ?_
      refine Jp.y 30 rfl (want_all rfl) rfl rfl Kp.true (Y.sub_ rfl rfl rfl (by first | exact wrap_i64 (by omega) (by omega) | rfl)) ?_
      refine Jp.y 13 rfl (want_all rfl) rfl rfl Kp.true (Y.assign rfl rfl) ?_
      rw [show ((m + 1 : Nat) : Int) - 1 - 1 = (m : Int) - 1 by omega]
      refine Jp.again hLa m (by omega) (by omega) rfl ⟨rfl, rfl, rfl, rfl, rfl, trivial⟩ ⟨rfl, rfl, rfl, trivial⟩
    · have hj0 : j = 0 := by simp at ga; omega
      rw [hj0]
      refine Cd.exit rfl hK44 ?_
      refine Cd.seq fun K49 hK49 => ?_
      refine Cd.plain [(0, false), (1, false), (2, false)] rfl rfl ?_
      refine Jp.y 49 rfl (want_all rfl) rfl rfl Kp.true (Y.move rfl rfl) ?_
      refine Jp.y 8 rfl (want_all rfl) rfl rfl Kp.true (Y.assign rfl rfl) ?_
      refine Jp.y 9 rfl (want_all rfl) rfl rfl Kp.true (Y.assign rfl rfl) ?_
      refine Jp.done hK49 ?_
      refine Cd.refClose (b := b) (M := M) 0 1 2 (by decide) hf rfl rfl rfl ?_
      refine Cd.ret [(0, _)] rfl (res2 rfl rfl rfl) ⟨rfl, trivial⟩ ⟨rfl, by rw [hV]; rfl, rfl⟩
end Go.Proofs.Ytjfgefdcngpplaa
