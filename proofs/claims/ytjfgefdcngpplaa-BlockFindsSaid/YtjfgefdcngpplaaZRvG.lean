import Derived.Test.YtjfgefdcngpplaaZRvF
set_option linter.unusedVariables false
set_option linter.unusedSimpArgs false
set_option maxRecDepth 100000
namespace Go.Proofs.Ytjfgefdcngpplaa
open Go
theorem find_yes {b : Nat} {M : MemG} {pc : Nat} {most : Int} {T : List InsP} (hpc : pc < 4294967296) (hT : findL M pc (mostP most) 0 = T) (hne : T ≠ []) : Spec Try.prog 8 #[.pointer (some ⟨b, 0, none⟩), .int .u32 pc, .int .i64 most] (fun _ => True) [(0, MemO b M)]
    (fun ρ ρ' v L => ρ' = ρ ∧ ∃ B d, v = .tuple #[.agg (blockC pc B T.length d (M.gens (baseN pc))).toArray, .agg noEv.cells.toArray] ∧ L = [(0, MemO b M), (1, OwnS 47 5 B T.length d (T.flatMap InsP.cells))]) := by
  refine (find_spec b M pc most hpc).mono (fun _ h => h) ?_
  rintro ρ ρ' v L ⟨rfl, ⟨h, _⟩ | ⟨_, B, d, h1, h2⟩⟩
  · exact absurd (hT.symm.trans h) hne
  · rw [hT] at h1 h2; exact ⟨rfl, B, d, h1, h2⟩
theorem awake_find : findL (madeM [115, 115]) 4096 (mostP 8) 0 = [⟨48, 0, 0, 0, 0⟩] := by kernel_rfl
theorem awake18_spec : Spec Try.prog 4 #[] (fun _ => True) [] (fun ρ ρ' v L => v = .bool true ∧ L = []) := by
  refine Spec.of 38 Try.func4 rfl Try.ntmps4 [] rfl rfl ?_
  intro cx ρ hr h0
  refine Cd.seq fun K1 hK1 => ?_
  refine Cd.plain [(0, false)] rfl rfl ?_
  refine Jp.y 0 rfl (want_all rfl) rfl rfl Kp.true (Y.assign rfl rfl) ?_
  refine Jp.done hK1 ?_
  refine Cd.seq fun K2 hK2 => ?_
  refine Cd.plain [(0, false), (1, false), (2, false)] rfl rfl ?_
  refine Jp.lit 4 9 [(0, _), (1, _)] [_, _] rfl (want_all rfl) rfl rfl rfl rfl Try.underlying22 Try.sizeOf23 Try.zeroValue23 rfl rfl rfl rfl rfl fun b9 => ⟨Kp.true, ?_⟩
  refine Jp.freeze (i := 9) rfl (OwnS.up _ _ _ _ _ _) fun ρ7 hle7 hA7 => ?_
  refine Jp.call [] [0] (made_spec (some ⟨b9, 0, none⟩) 2 [115, 115] (by intro x hx; simp at hx; exact ⟨115, hx, by omega⟩)) 5 rfl (want_all rfl) rfl rfl (Runs.fn rfl Try.call5 rfl) (by decide) (by decide) rfl hA7.rd ?_
  rintro v1 ρ1 L1 ⟨b, rfl, rfl⟩
  refine ⟨rfl, fun hle1 => ⟨Kp.true, ?_⟩⟩
  refine Jp.y 1 rfl (want_all rfl) rfl rfl Kp.true (Y.assign rfl rfl) ?_
  refine Jp.done hK2 ?_
  refine Cd.seq fun K3 hK3 => ?_
  refine Cd.plain [(0, false), (1, false), (2, false), (3, false), (4, false), (5, false), (6, false), (7, false), (8, false)] rfl rfl ?_
  refine Jp.y 7 rfl (want_all rfl) rfl rfl Kp.true (Y.move rfl rfl) ?_
  refine Jp.call [0] [0, 1] (find_yes (by omega) awake_find (by simp)) 8 rfl (want_all rfl) rfl rfl (Runs.fn rfl Try.call8 rfl) (by decide) (by decide) rfl trivial ?_
  rintro v2 ρ2 L2 ⟨rfl, B, d, rfl, rfl⟩
  refine ⟨rfl, fun hle2 => ⟨Kp.true, ?_⟩⟩
  obtain ⟨g0, hg0⟩ : ∃ g, (madeM [115, 115]).gens (baseN 4096) = g := ⟨_, rfl⟩
  rw [hg0]
  refine Jp.ownAt 1 rfl (show 0 < 1 by omega) ?_
  rintro b1 rfl
  have c0 := OwnS.hasC (e := 47) (m := 5) (k := 1) (c := d) (ad := ⟨b1, 0, none⟩) (cs := [InsP.mk 48 0 0 0 0].flatMap InsP.cells) (q := 0) rfl
  refine Jp.y 6 rfl (want_all rfl) rfl rfl Kp.true (Y.move rfl rfl) ?_
  refine Jp.y 9 rfl (want_all rfl) rfl rfl Kp.true (Y.extract rfl rfl rfl) ?_
  refine Jp.y 10 rfl (want_all rfl) rfl rfl Kp.true (Y.extract rfl rfl rfl) ?_
  refine Jp.alloc 2 2 rfl (want_all rfl) rfl rfl rfl Try.zeroValue34 fun b2 => ⟨Kp.true, ?_⟩
  refine Jp.alloc 3 3 rfl (want_all rfl) rfl rfl rfl Try.zeroValue37 fun b3 => ⟨Kp.true, ?_⟩
  first | refine Jp.storeAgg 9 rfl (want_all rfl) rfl rfl Try.sizeOf34 rfl rfl rfl rfl rfl rfl (fun k _ _ => noFr0 k) Kp.true ?_ | refine Jp.storeAgg 2 rfl (want_all rfl) rfl rfl Try.sizeOf34 rfl rfl rfl rfl rfl rfl (fun k _ _ => noFr0 k) Kp.true ?_ | refine Jp.storeAgg 3 rfl (want_all rfl) rfl rfl Try.sizeOf34 rfl rfl rfl rfl rfl rfl (fun k _ _ => noFr0 k) Kp.true ?_
  first | refine Jp.storeAgg 9 rfl (want_all rfl) rfl rfl Try.sizeOf37 rfl rfl rfl rfl rfl rfl (fun k _ _ => noFr0 k) Kp.true ?_ | refine Jp.storeAgg 2 rfl (want_all rfl) rfl rfl Try.sizeOf37 rfl rfl rfl rfl rfl rfl (fun k _ _ => noFr0 k) Kp.true ?_ | refine Jp.storeAgg 3 rfl (want_all rfl) rfl rfl Try.sizeOf37 rfl rfl rfl rfl rfl rfl (fun k _ _ => noFr0 k) Kp.true ?_
  refine Jp.done hK3 ?_
  refine Cd.seq fun K4 hK4 => ?_
  refine Cd.plain [(0, false), (1, false), (2, false), (3, false), (4, false), (5, false), (6, false), (7, false), (8, false), (9, false), (10, false), (11, false), (12, false), (13, false), (14, false), (15, false), (16, false), (17, false), (18, false), (19, false), (20, false), (21, false), (22, false), (23, false), (24, false), (25, false), (26, false), (27, false)] rfl rfl ?_
  refine Jp.imp (j := 2) rfl (fun h hh => (show Pt b2 (.cells [Value.int .u32 ((4096 : Nat) : Int), Value.slice (some ⟨b1, 0, none⟩) 1 d, Value.int .u32 (g0 : Int)].toArray 34) h from hh)) ?_
  refine Jp.imp (j := 3) rfl (fun h hh => (show Pt b3 (.cells noEv.cells.toArray 37) h from hh)) ?_
  refine Jp.y 11 rfl (want_all rfl) rfl rfl Kp.true (by first | exact Y.loadAggO 2 rfl Try.isAgg37 Try.sizeOf37 rfl rfl rfl | exact Y.loadAggO 3 rfl Try.isAgg37 Try.sizeOf37 rfl rfl rfl) ?_
  refine Jp.y 12 rfl (want_all rfl) rfl rfl Kp.true (Y.struct [] [_, _, _] rfl rfl places37 Try.zeroValue37 rfl) ?_
  refine Jp.y 13 rfl (want_all rfl) rfl rfl Kp.true (Y.eqlS (xs := noEv.cells.toArray) (ys := noEv.cells.toArray) (r := true) rfl rfl rfl ev_guard ev_fields ev_stood (fun w => ev_eq noEv noEv w)) ?_
  refine Jp.y 14 rfl (want_all rfl) rfl rfl Kp.true (Y.move rfl rfl) ?_
  refine Jp.splitF 14 rfl (fun g14 => ?_) (fun g14 => ?_)
  · skip
    exact absurd g14 (by simp)
  try simp only [decide_eq_false_iff_not, decide_eq_true_eq, Int.not_lt, Int.not_le, Bool.not_eq_false, Bool.not_eq_true, Bool.not_true, Bool.not_false, Bool.not_eq_true', Bool.not_eq_false', beq_eq_false_iff_ne, ne_eq, beq_iff_eq, bne_iff_ne, bne_eq_false_iff_eq, Classical.not_not] at g14
  refine Jp.y 15 rfl (want_as rfl rfl rfl rfl) rfl rfl Kp.true (by first | exact Y.fieldAddrP rfl rfl Try.underlying34 rfl Try.sizeOf32 (by decide) (show _ + 1 = _ from rfl) | exact Y.fieldAddr rfl rfl Try.underlying34 rfl Try.sizeOf32 (by decide)) ?_
  refine Jp.y 16 rfl (want_as rfl rfl rfl rfl) rfl rfl Kp.true (by first | exact Y.loadO 2 rfl Try.isAgg32 rfl rfl rfl | exact Y.loadO 3 rfl Try.isAgg32 rfl rfl rfl | exact Y.loadC 1 rfl Try.isAgg32 rfl rfl c0) ?_
  refine Jp.y 17 rfl (want_as rfl rfl rfl rfl) rfl rfl Kp.true (Y.lenslice rfl Try.underlying32 rfl) ?_
  refine Jp.y 18 rfl (want_as rfl rfl rfl rfl) rfl rfl Kp.true (Y.eql rfl rfl rfl) ?_
  refine Jp.y 19 rfl (want_all rfl) rfl rfl Kp.true (Y.pickT rfl rfl rfl) ?_
  refine Jp.y 20 rfl (want_all rfl) rfl rfl Kp.true (Y.move rfl rfl) ?_
  refine Jp.splitF 20 rfl (fun g20 => ?_) (fun g20 => ?_)
  · skip
    exact absurd g20 (by simp)
  try simp only [decide_eq_false_iff_not, decide_eq_true_eq, Int.not_lt, Int.not_le, Bool.not_eq_false, Bool.not_eq_true, Bool.not_true, Bool.not_false, Bool.not_eq_true', Bool.not_eq_false', beq_eq_false_iff_ne, ne_eq, beq_iff_eq, bne_iff_ne, bne_eq_false_iff_eq, Classical.not_not] at g20
  refine Jp.y 21 rfl (want_as rfl rfl rfl rfl) rfl rfl Kp.true (by first | exact Y.fieldAddrP rfl rfl Try.underlying34 rfl Try.sizeOf32 (by decide) (show _ + 1 = _ from rfl) | exact Y.fieldAddr rfl rfl Try.underlying34 rfl Try.sizeOf32 (by decide)) ?_
  refine Jp.y 22 rfl (want_as rfl rfl rfl rfl) rfl rfl Kp.true (by first | exact Y.loadO 2 rfl Try.isAgg32 rfl rfl rfl | exact Y.loadO 3 rfl Try.isAgg32 rfl rfl rfl | exact Y.loadC 1 rfl Try.isAgg32 rfl rfl c0) ?_
  refine Jp.y 23 rfl (want_as rfl rfl rfl rfl) rfl rfl Kp.true (Y.indexAddr (q := 0) rfl rfl rfl Try.underlying32 Try.sizeOf47 (by omega) (by omega) (by omega)) ?_
  refine Jp.y 24 rfl (want_as rfl rfl rfl rfl) rfl rfl Kp.true (by first | exact Y.fieldAddrP rfl rfl Try.underlying47 rfl Try.sizeOf3 (by decide) (show _ + 0 = _ from rfl) | exact Y.fieldAddr rfl rfl Try.underlying47 rfl Try.sizeOf3 (by decide)) ?_
  refine Jp.y 25 rfl (want_as rfl rfl rfl rfl) rfl rfl Kp.true (by first | exact Y.loadO 2 rfl Try.isAgg3 rfl rfl rfl | exact Y.loadO 3 rfl Try.isAgg3 rfl rfl rfl | exact Y.loadC 1 rfl Try.isAgg3 rfl rfl c0) ?_
  refine Jp.y 26 rfl (want_as rfl rfl rfl rfl) rfl rfl Kp.true (Y.eql rfl rfl rfl) ?_
  refine Jp.y 27 rfl (want_all rfl) rfl rfl Kp.true (Y.pickT rfl rfl rfl) ?_
  refine Jp.y 28 rfl (want_all rfl) rfl rfl Kp.true (Y.move rfl rfl) ?_
  refine Jp.splitF 28 rfl (fun g28 => ?_) (fun g28 => ?_)
  · skip
    exact absurd g28 (by simp)
  try simp only [decide_eq_false_iff_not, decide_eq_true_eq, Int.not_lt, Int.not_le, Bool.not_eq_false, Bool.not_eq_true, Bool.not_true, Bool.not_false, Bool.not_eq_true', Bool.not_eq_false', beq_eq_false_iff_ne, ne_eq, beq_iff_eq, bne_iff_ne, bne_eq_false_iff_eq, Classical.not_not] at g28
  refine Jp.y 29 rfl (want_as rfl rfl rfl rfl) rfl rfl Kp.true (by first | exact Y.fieldAddrP rfl rfl Try.underlying34 rfl Try.sizeOf23 (by decide) (show _ + 0 = _ from rfl) | exact Y.fieldAddr rfl rfl Try.underlying34 rfl Try.sizeOf23 (by decide)) ?_
  refine Jp.y 30 rfl (want_as rfl rfl rfl rfl) rfl rfl Kp.true (by first | exact Y.loadO 2 rfl Try.isAgg23 rfl rfl rfl | exact Y.loadO 3 rfl Try.isAgg23 rfl rfl rfl | exact Y.loadC 1 rfl Try.isAgg23 rfl rfl c0) ?_
  refine Jp.y 31 rfl (want_as rfl rfl rfl rfl) rfl rfl Kp.true (Y.eql rfl rfl rfl) ?_
  refine Jp.y 32 rfl (want_all rfl) rfl rfl Kp.true (Y.pickT rfl rfl rfl) ?_
  refine Jp.y 33 rfl (want_all rfl) rfl rfl Kp.true (Y.move rfl rfl) ?_
  refine Jp.splitF 33 rfl (fun g33 => ?_) (fun g33 => ?_)
  · skip
    exact absurd g33 (by simp)
  try simp only [decide_eq_false_iff_not, decide_eq_true_eq, Int.not_lt, Int.not_le, Bool.not_eq_false, Bool.not_eq_true, Bool.not_true, Bool.not_false, Bool.not_eq_true', Bool.not_eq_false', beq_eq_false_iff_ne, ne_eq, beq_iff_eq, bne_iff_ne, bne_eq_false_iff_eq, Classical.not_not] at g33
  refine Jp.y 34 rfl (want_as rfl rfl rfl rfl) rfl rfl Kp.true (Y.move rfl rfl) ?_
  refine Jp.y 35 rfl (want_as rfl rfl rfl rfl) rfl rfl Kp.true (by first | exact Y.loadAggO 2 rfl Try.isAgg34 Try.sizeOf34 rfl rfl rfl | exact Y.loadAggO 3 rfl Try.isAgg34 Try.sizeOf34 rfl rfl rfl) ?_
  refine Jp.call [0] [0] (fresh_spec b (madeM [115, 115]) 4096 g0 1 d (some ⟨b1, 0, none⟩) (by omega)) 36 rfl (want_as rfl rfl rfl rfl) rfl rfl (Runs.fn rfl Try.call11 rfl) (by decide) (by decide) rfl trivial ?_
  rintro v3 ρ3 L3 ⟨rfl, rfl, rfl⟩
  refine ⟨rfl, fun hle3 => ⟨Kp.true, ?_⟩⟩
  refine Jp.y 37 rfl (want_all rfl) rfl rfl Kp.true (Y.pickT rfl rfl rfl) ?_
  refine Jp.y 0 rfl (want_all rfl) rfl rfl Kp.true (Y.assign rfl rfl) ?_
  refine Jp.done hK4 ?_
  refine Cd.ret [] rfl (res1 rfl rfl) trivial ⟨by rw [hg0]; simp, rfl⟩
end Go.Proofs.Ytjfgefdcngpplaa
