/- Contract: Map. -/
import Derived.Test.YtgfbdiibndbbjaaMemE
set_option linter.unusedVariables false
set_option linter.unusedSimpArgs false
set_option maxRecDepth 100000
namespace Go.Proofs.Ytgfbdiibndbbjaa
open Go
theorem MemF.ins {M : MemG} {x : MemX} (f : MemF M x) {k : Nat} {p : Pg} (b : Nat) (hk : k ∉ M.pages.map (·.1)) (h : MemOk { M with pages := insPg k p M.pages }) :
    MemF { M with pages := insPg k p M.pages } { x with pm := mset x.pm k (.pointer (some ⟨b, 0, none⟩)), blk := fun k' => if k' = k then b else x.blk k' } := by
  refine ⟨h, ?_, f.gens⟩
  have h1 : (k : Int) ∉ (M.pages.map fun p => ((p.1 : Int), pgPtr x p.1)).map (·.1) := by
    rw [List.map_map]
    intro hm
    obtain ⟨y, hy, e⟩ := List.mem_map.1 hm
    have : y.1 = k := Int.ofNat.inj e
    exact hk (this ▸ List.mem_map.2 ⟨y, hy, rfl⟩)
  refine (mset_perm f.pages h1).trans ?_
  refine (List.Perm.trans ?_ ((insPg_perm k p M.pages).map _).symm)
  rw [List.map_cons]
  have e : (M.pages.map fun p => ((p.1 : Int), pgPtr x p.1)) = M.pages.map fun p => ((p.1 : Int), pgPtr { x with pm := mset x.pm k (.pointer (some ⟨b, 0, none⟩)), blk := fun k' => if k' = k then b else x.blk k' } p.1) := by
    apply List.map_congr_left
    intro y hy
    have : ¬ y.1 = k := fun e => hk (e ▸ List.mem_map.2 ⟨y, hy, rfl⟩)
    simp [pgPtr, this]
  rw [e]
  simp [pgPtr]
theorem blks_ins {M : MemG} {x : MemX} {k : Nat} {p : Pg} (b : Nat) (pm : MapL) (hk : k ∉ M.pages.map (·.1)) : ((b, pageO p) :: blksOf M x).Perm (blksOf { M with pages := insPg k p M.pages } { x with pm := pm, blk := fun k' => if k' = k then b else x.blk k' }) := by
  refine (List.Perm.trans ?_ ((insPg_perm k p M.pages).map _).symm)
  rw [List.map_cons]
  have e : blksOf M x = M.pages.map fun q => ((if q.1 = k then b else x.blk q.1), pageO q.2) := by
    apply List.map_congr_left
    intro y hy
    have : ¬ y.1 = k := fun e => hk (e ▸ List.mem_map.2 ⟨y, hy, rfl⟩)
    simp [this]
  rw [e]
  simp
theorem page0 (perm : Nat) : pageO ⟨List.replicate 256 0, perm⟩ = .cells (List.replicate 256 (Value.int .u8 0) ++ [Value.int .i64 perm]).toArray 87 := by
  rw [pageO, pageCells, bytesV, List.map_replicate]; rfl
theorem map_spec (b : Nat) (M : MemG) (a n : Nat) (perm : Int) (ha : a < 4294967296) (hn : n < 4294967296) : Spec Try.prog 20 #[.pointer (some ⟨b, 0, none⟩), .int .u32 a, .int .u32 n, .int .i64 perm] (fun _ => True) [(0, MemO b M)]
    (fun ρ ρ' r L => ρ' = ρ ∧ r = .int .i64 (mapM M a n perm).1 ∧ L = [(0, MemO b (mapM M a n perm).2)]) := by
  refine Spec.of 76 Try.func20 rfl Try.ntmps20 [(0, _), (1, _), (2, _), (3, _)] rfl rfl ?_
  intro cx ρ hr h0
  refine Cd.memOpen 0 1 2 3 (by decide) rfl fun x hf => ?_
  have hroom := hf.ok.room
  have hbud := hf.ok.budget
  have hlen : x.pm.length = M.pages.length := by rw [hf.pages.length_eq, List.length_map]
  refine Cd.seq fun K1 hK1 => ?_
  refine Cd.plain [(0, false)] rfl rfl ?_
  refine Jp.y 8 rfl (want_all rfl) rfl rfl Kp.true (Y.assign rfl rfl) ?_
  refine Jp.done hK1 ?_
  refine Cd.seq fun K2 hK2 => ?_
  refine Cd.plain [(0, false), (1, false), (2, false), (3, false), (4, false), (5, false), (6, false), (7, false)] rfl rfl ?_
  refine Jp.y 14 rfl (want_all rfl) rfl rfl Kp.true (Y.move rfl rfl) ?_
  refine Jp.y 15 rfl (want_all rfl) rfl rfl Kp.true (Y.move rfl rfl) ?_
  refine Jp.call [] [] (stretch_spec a n ha hn) 16 rfl (want_all rfl) rfl rfl (Runs.fn rfl Try.call49 rfl) (by decide) (by decide) rfl trivial ?_
  rintro v1 ρ1 L1 ⟨rfl, rfl, rfl⟩
  refine ⟨rfl, fun hle1 => ⟨Kp.true, ?_⟩⟩
  refine Jp.y 13 rfl (want_all rfl) rfl rfl Kp.true (Y.move rfl rfl) ?_
  refine Jp.y 17 rfl (want_all rfl) rfl rfl Kp.true (Y.extract rfl rfl rfl) ?_
  refine Jp.y 18 rfl (want_all rfl) rfl rfl Kp.true (Y.extract rfl rfl rfl) ?_
  refine Jp.y 9 rfl (want_all rfl) rfl rfl Kp.true (Y.assign rfl rfl) ?_
  refine Jp.y 10 rfl (want_all rfl) rfl rfl Kp.true (Y.assign rfl rfl) ?_
  refine Jp.done hK2 ?_
  refine Cd.seq fun K3 hK3 => ?_
  refine Cd.block ?_
  refine Cd.seq fun K4 hK4 => ?_
  refine Cd.plain [(0, false), (1, false), (2, false), (3, false), (4, false), (5, false), (6, false), (7, false), (8, false), (9, false), (10, false)] rfl rfl ?_
  refine Jp.y 20 rfl (want_all rfl) rfl rfl Kp.true (Y.move rfl rfl) ?_
  refine Jp.y 21 rfl (want_all rfl) rfl rfl Kp.true (Y.not rfl rfl) ?_
  refine Jp.y 22 rfl (want_all rfl) rfl rfl Kp.true (Y.move rfl rfl) ?_
  refine Jp.split 22 rfl (fun g22 => ?_) (fun g22 => ?_)
  · skip
    try simp only [decide_eq_false_iff_not, decide_eq_true_eq, Int.not_lt, Int.not_le, Bool.not_eq_false, Bool.not_eq_true, Bool.not_true, Bool.not_false, Bool.not_eq_true', Bool.not_eq_false', beq_eq_false_iff_ne, ne_eq, beq_iff_eq, bne_iff_ne, bne_eq_false_iff_eq, Classical.not_not] at g22
    refine Jp.skip 23 rfl (want_as rfl rfl rfl rfl) rfl rfl Kp.true ?_
    refine Jp.skip 24 rfl (want_as rfl rfl rfl rfl) rfl rfl Kp.true ?_
    refine Jp.y 25 rfl (want_all rfl) rfl rfl Kp.true (Y.pickT rfl rfl rfl) ?_
    refine Jp.y 26 rfl (want_all rfl) rfl rfl Kp.true (Y.move rfl rfl) ?_
    refine Jp.skip 27 rfl (want_as rfl rfl rfl rfl) rfl rfl Kp.true ?_
    refine Jp.skip 28 rfl (want_as rfl rfl rfl rfl) rfl rfl Kp.true ?_
    refine Jp.y 29 rfl (want_all rfl) rfl rfl Kp.true (Y.pickT rfl rfl rfl) ?_
    refine Jp.y 19 rfl (want_all rfl) rfl rfl Kp.true (Y.assign rfl rfl) ?_
    refine Jp.done hK4 ?_
    refine Cd.condT rfl ?_
    refine Cd.seq fun K5 hK5 => ?_
    refine Cd.plain [(0, false)] rfl rfl ?_
    refine Jp.y 8 rfl (want_all rfl) rfl rfl Kp.true (Y.assign rfl rfl) ?_
    refine Jp.done hK5 ?_
    refine Cd.memClose 0 1 2 3 (by decide) hf rfl rfl rfl rfl ?_
    have hV : mapM M a n perm = (1, M) := by
      rw [mapM]
      split
      · rfl
      · rename_i many hm
        rw [if_pos (by first | (rw [hm] at g22; cases g22; done) | omega)]
    refine Cd.ret [(0, _)] rfl (res1 rfl rfl) ⟨rfl, trivial⟩ ⟨rfl, by rw [hV], by rw [hV]⟩
  try simp only [decide_eq_false_iff_not, decide_eq_true_eq, Int.not_lt, Int.not_le, Bool.not_eq_false, Bool.not_eq_true, Bool.not_true, Bool.not_false, Bool.not_eq_true', Bool.not_eq_false', beq_eq_false_iff_ne, ne_eq, beq_iff_eq, bne_iff_ne, bne_eq_false_iff_eq, Classical.not_not] at g22
  refine Jp.y 23 rfl (want_as rfl rfl rfl rfl) rfl rfl Kp.true (Y.move rfl rfl) ?_
  refine Jp.y 24 rfl (want_as rfl rfl rfl rfl) rfl rfl Kp.true (Y.lss rfl rfl rfl) ?_
  refine Jp.y 25 rfl (want_all rfl) rfl rfl Kp.true (Y.pickF rfl rfl rfl) ?_
  refine Jp.y 26 rfl (want_all rfl) rfl rfl Kp.true (Y.move rfl rfl) ?_
  refine Jp.split 26 rfl (fun g26 => ?_) (fun g26 => ?_)
  · skip
    try simp only [decide_eq_false_iff_not, decide_eq_true_eq, Int.not_lt, Int.not_le, Bool.not_eq_false, Bool.not_eq_true, Bool.not_true, Bool.not_false, Bool.not_eq_true', Bool.not_eq_false', beq_eq_false_iff_ne, ne_eq, beq_iff_eq, bne_iff_ne, bne_eq_false_iff_eq, Classical.not_not] at g26
    refine Jp.skip 27 rfl (want_as rfl rfl rfl rfl) rfl rfl Kp.true ?_
    refine Jp.skip 28 rfl (want_as rfl rfl rfl rfl) rfl rfl Kp.true ?_
    refine Jp.y 29 rfl (want_all rfl) rfl rfl Kp.true (Y.pickT rfl rfl rfl) ?_
    refine Jp.y 19 rfl (want_all rfl) rfl rfl Kp.true (Y.assign rfl rfl) ?_
    refine Jp.done hK4 ?_
    refine Cd.condT rfl ?_
    refine Cd.seq fun K6 hK6 => ?_
    refine Cd.plain [(0, false)] rfl rfl ?_
    refine Jp.y 8 rfl (want_all rfl) rfl rfl Kp.true (Y.assign rfl rfl) ?_
    refine Jp.done hK6 ?_
    refine Cd.memClose 0 1 2 3 (by decide) hf rfl rfl rfl rfl ?_
    have hV : mapM M a n perm = (1, M) := by
      rw [mapM]
      split
      · rfl
      · rename_i many hm
        rw [if_pos (by first | (rw [hm] at g26; cases g26; done) | omega)]
    refine Cd.ret [(0, _)] rfl (res1 rfl rfl) ⟨rfl, trivial⟩ ⟨rfl, by rw [hV], by rw [hV]⟩
  try simp only [decide_eq_false_iff_not, decide_eq_true_eq, Int.not_lt, Int.not_le, Bool.not_eq_false, Bool.not_eq_true, Bool.not_true, Bool.not_false, Bool.not_eq_true', Bool.not_eq_false', beq_eq_false_iff_ne, ne_eq, beq_iff_eq, bne_iff_ne, bne_eq_false_iff_eq, Classical.not_not] at g26
  refine Jp.y 27 rfl (want_as rfl rfl rfl rfl) rfl rfl Kp.true (Y.move rfl rfl) ?_
  refine Jp.y 28 rfl (want_as rfl rfl rfl rfl) rfl rfl Kp.true (Y.gtr rfl rfl rfl) ?_
  refine Jp.y 29 rfl (want_all rfl) rfl rfl Kp.true (Y.pickF rfl rfl rfl) ?_
  refine Jp.y 19 rfl (want_all rfl) rfl rfl Kp.true (Y.assign rfl rfl) ?_
  refine Jp.done hK4 ?_
  refine Cd.cond rfl (fun g19 => ?_) (fun g19 => ?_)
  · skip
    try simp only [decide_eq_false_iff_not, decide_eq_true_eq, Int.not_lt, Int.not_le, Bool.not_eq_false, Bool.not_eq_true, Bool.not_true, Bool.not_false, Bool.not_eq_true', Bool.not_eq_false', beq_eq_false_iff_ne, ne_eq, beq_iff_eq, bne_iff_ne, bne_eq_false_iff_eq, Classical.not_not] at g19
    refine Cd.seq fun K7 hK7 => ?_
    refine Cd.plain [(0, false)] rfl rfl ?_
    refine Jp.y 8 rfl (want_all rfl) rfl rfl Kp.true (Y.assign rfl rfl) ?_
    refine Jp.done hK7 ?_
    refine Cd.memClose 0 1 2 3 (by decide) hf rfl rfl rfl rfl ?_
    have hV : mapM M a n perm = (1, M) := by
      rw [mapM]
      split
      · rfl
      · rename_i many hm
        rw [if_pos (by first | (rw [hm] at g19; cases g19; done) | omega)]
    refine Cd.ret [(0, _)] rfl (res1 rfl rfl) ⟨rfl, trivial⟩ ⟨rfl, by rw [hV], by rw [hV]⟩
  try simp only [decide_eq_false_iff_not, decide_eq_true_eq, Int.not_lt, Int.not_le, Bool.not_eq_false, Bool.not_eq_true, Bool.not_true, Bool.not_false, Bool.not_eq_true', Bool.not_eq_false', beq_eq_false_iff_ne, ne_eq, beq_iff_eq, bne_iff_ne, bne_eq_false_iff_eq, Classical.not_not] at g19
  refine Cd.seq fun K8 hK8 => ?_
  refine Cd.plain [(0, false), (1, false), (2, false), (3, false), (4, false), (5, false), (6, false)] rfl rfl ?_
  obtain ⟨many, hm⟩ := Option.isSome_iff_exists.1 g22
  have hmany : (n + 255) / 256 = many := by
    rw [stretch] at hm
    split at hm
    · injection hm
    · cases hm
  rw [hmany]
  have hst : a % 256 = 0 ∧ a + many * 256 ≤ 4294967296 ∧ 0 < many := by
    rw [stretch] at hm
    split at hm
    · rename_i h; injection hm with hm; omega
    · cases hm
  refine Jp.y 31 rfl (want_all rfl) rfl rfl Kp.true (Y.move rfl rfl) ?_
  refine Jp.y 32 rfl (want_all rfl) rfl rfl Kp.true (Y.move rfl rfl) ?_
  refine Jp.y 33 rfl (want_all rfl) rfl rfl Kp.true (Y.move rfl rfl) ?_
  refine Jp.call [0, 1] [0, 1, 9] (within_spec b M x hf a many ha (by omega)) 34 rfl (want_all rfl) rfl rfl (Runs.fn rfl Try.call50 rfl) (by decide) (by decide) rfl trivial ?_
  rintro v2 ρ2 L2 ⟨rfl, l, Al, cl, hl, rfl, rfl⟩
  refine ⟨rfl, fun hle2 => ⟨Kp.true, ?_⟩⟩
  have hll := hl.length_eq
  refine Jp.y 35 rfl (want_all rfl) rfl rfl Kp.true (Y.lenslice rfl Try.underlying56 rfl) ?_
  refine Jp.y 36 rfl (want_all rfl) rfl rfl Kp.true (Y.gtr rfl rfl rfl) ?_
  refine Jp.y 30 rfl (want_all rfl) rfl rfl Kp.true (Y.assign rfl rfl) ?_
  refine Jp.done hK8 ?_
  refine Cd.cond rfl (fun g30 => ?_) (fun g30 => ?_)
  · skip
    try simp only [decide_eq_false_iff_not, decide_eq_true_eq, Int.not_lt, Int.not_le, Bool.not_eq_false, Bool.not_eq_true, Bool.not_true, Bool.not_false, Bool.not_eq_true', Bool.not_eq_false', beq_eq_false_iff_ne, ne_eq, beq_iff_eq, bne_iff_ne, bne_eq_false_iff_eq, Classical.not_not] at g30
    refine Cd.seq fun K9 hK9 => ?_
    refine Cd.plain [(0, false)] rfl rfl ?_
    refine Jp.y 8 rfl (want_all rfl) rfl rfl Kp.true (Y.assign rfl rfl) ?_
    refine Jp.done hK9 ?_
    refine Cd.memClose 0 1 2 3 (by decide) hf rfl rfl rfl rfl ?_
    have hV : mapM M a n perm = (5, M) := by rw [mapM, hm]; dsimp only; rw [if_neg (by omega), if_pos (by omega)]
    refine Cd.ret [(0, _)] rfl (res1 rfl rfl) ⟨rfl, trivial⟩ ⟨rfl, by rw [hV], by rw [hV]⟩
  try simp only [decide_eq_false_iff_not, decide_eq_true_eq, Int.not_lt, Int.not_le, Bool.not_eq_false, Bool.not_eq_true, Bool.not_true, Bool.not_false, Bool.not_eq_true', Bool.not_eq_false', beq_eq_false_iff_ne, ne_eq, beq_iff_eq, bne_iff_ne, bne_eq_false_iff_eq, Classical.not_not] at g30
  refine Cd.seq fun K10 hK10 => ?_
  refine Cd.drawn [(0, _), (1, _)] ⟨rfl, rfl, trivial⟩ [(0, true), (1, true), (2, true), (3, true), (4, true), (5, true), (6, true), (7, true), (8, true), (9, true), (10, true), (11, true), (12, true), (13, true)] follows (by kernel_rfl) (fun hrl => ?_)
  refine Jp.q 38 rfl (want_all rfl) rfl rfl (Y.move rfl rfl) ?_
  refine Jp.q 39 rfl (want_all rfl) rfl rfl (Y.move rfl rfl) ?_
  refine Jp.q 40 rfl (want_all rfl) rfl rfl (Y.nilCheck rfl rfl) ?_
  refine Jp.q 41 rfl (want_all rfl) rfl rfl (by first | exact Y.fieldAddrP rfl rfl Try.underlying79 rfl Try.sizeOf3 (by decide) (show _ + 0 = _ from rfl) | exact Y.fieldAddr rfl rfl Try.underlying79 rfl Try.sizeOf3 (by decide)) ?_
  refine Jp.q 42 rfl (want_all rfl) rfl rfl (Y.loadO 0 rfl Try.isAgg3 rfl rfl rfl) ?_
  refine Jp.q 43 rfl (want_all rfl) rfl rfl (Y.move rfl rfl) ?_
  refine Jp.q 44 rfl (want_all rfl) rfl rfl (Y.nilCheck rfl rfl) ?_
  refine Jp.q 45 rfl (want_all rfl) rfl rfl (by first | exact Y.fieldAddrP rfl rfl Try.underlying79 rfl Try.sizeOf76 (by decide) (show _ + 1 = _ from rfl) | exact Y.fieldAddr rfl rfl Try.underlying79 rfl Try.sizeOf76 (by decide)) ?_
  refine Jp.q 46 rfl (want_all rfl) rfl rfl (Y.loadO 0 rfl Try.isAgg76 rfl rfl rfl) ?_
  refine Jp.q 47 rfl (want_all rfl) rfl rfl (by first | exact Y.lenmap 1 rfl Try.underlying76 rfl rfl) ?_
  refine Jp.q 48 rfl (want_all rfl) rfl rfl (Y.sub_ rfl rfl rfl (by first | exact wrap_i64 (by omega) (by omega) | rfl)) ?_
  refine Jp.q 49 rfl (want_all rfl) rfl rfl (Y.conv_ rfl rfl Try.underlying3 Try.underlying80 (by first | exact wrap_u64 (by omega) (by omega) | rfl)) ?_
  refine Jp.q 50 rfl (want_all rfl) rfl rfl (Y.gtr rfl rfl rfl) ?_
  refine Jp.q 37 rfl (want_all rfl) rfl rfl (Y.assign rfl rfl) ?_
  refine Jp.done hK10 ?_
  refine Cd.cond rfl (fun g37 => ?_) (fun g37 => ?_)
  · skip
    try simp only [decide_eq_false_iff_not, decide_eq_true_eq, Int.not_lt, Int.not_le, Bool.not_eq_false, Bool.not_eq_true, Bool.not_true, Bool.not_false, Bool.not_eq_true', Bool.not_eq_false', beq_eq_false_iff_ne, ne_eq, beq_iff_eq, bne_iff_ne, bne_eq_false_iff_eq, Classical.not_not] at g37
    refine Cd.seq fun K12 hK12 => ?_
    refine Cd.plain [(0, false)] rfl rfl ?_
    refine Jp.y 8 rfl (want_all rfl) rfl rfl Kp.true (Y.assign rfl rfl) ?_
    refine Jp.done hK12 ?_
    refine Cd.memClose 0 1 2 3 (by decide) hf rfl rfl rfl rfl ?_
    have hV : mapM M a n perm = (6, M) := by rw [mapM, hm]; dsimp only; rw [if_neg (by omega), if_neg (by omega), if_pos (by omega)]
    refine Cd.ret [(0, _)] rfl (res1 rfl rfl) ⟨rfl, trivial⟩ ⟨rfl, by rw [hV], by rw [hV]⟩
  try simp only [decide_eq_false_iff_not, decide_eq_true_eq, Int.not_lt, Int.not_le, Bool.not_eq_false, Bool.not_eq_true, Bool.not_true, Bool.not_false, Bool.not_eq_true', Bool.not_eq_false', beq_eq_false_iff_ne, ne_eq, beq_iff_eq, bne_iff_ne, bne_eq_false_iff_eq, Classical.not_not] at g37
  refine Cd.over rfl hK3 ?_
  refine Cd.seq fun K13 hK13 => ?_
  refine Cd.seq fun K14 hK14 => ?_
  refine Cd.plain [(0, false), (1, false), (2, false)] rfl rfl ?_
  refine Jp.y 51 rfl (want_all rfl) rfl rfl Kp.true (Y.move rfl rfl) ?_
  refine Jp.y 52 rfl (want_all rfl) rfl rfl Kp.true (Y.conv_ rfl rfl Try.underlying80 Try.underlying26 (by first | exact wrap_u32 (by omega) (by omega) | rfl)) ?_
  refine Jp.y 53 rfl (want_all rfl) rfl rfl Kp.true (Y.move rfl rfl) ?_
  refine Jp.done hK14 ?_
  refine Cd.block ?_
  obtain ⟨pn, rfl⟩ := Int.eq_ofNat_of_zero_le g26
  have hV : mapM M a n pn = (0, addPgs M a pn many) := by rw [mapM, hm]; dsimp only; rw [if_neg (by omega), if_neg (by omega), if_neg (by omega)]; rfl
  have hnone : ∀ i, i < many → a + 256 * i ∉ (addPgs M a pn i).pages.map (·.1) := fun i hi h => by
    rcases addPgs_mem h with h | ⟨j, hj, h⟩
    · exact within_none (a := a) (many := many) (by omega) (by simp only [inS, Bool.and_eq_true, decide_eq_true_eq]; omega) h
    · omega
  refine Cd.loopK (G := Nat × MemX) (fun g => g.1 ≤ many ∧ MemF (addPgs M a pn g.1) g.2 ∧ g.2.pb = x.pb ∧ g.2.gb = x.gb) (fun g => many - g.1) (fun _ => _) (fun g => [(53, .int .u32 g.1)]) [(0, _), (1, _), (3, _), (52, _)] (fun g => [(1, MapO .u32 x.pb g.2.pm), (2, MapO .u32 x.gb g.2.gm), (3, Blks (blksOf (addPgs M a pn g.1) g.2))]) [(0, _)] ⟨0, x⟩ ⟨Nat.zero_le _, hf, rfl, rfl⟩ rfl ⟨rfl, trivial⟩ ⟨rfl, rfl, rfl, rfl, trivial⟩ ⟨rfl, rfl, rfl, trivial⟩ ⟨rfl, trivial⟩ (fun g KLa hok hLa => ?_)
  obtain ⟨i, y⟩ := g
  obtain ⟨ok1, ok2, ok3, ok4⟩ := hok
  dsimp only at ok1 ok2 ok3 ok4 ⊢
  refine Cd.seq fun K15 hK15 => ?_
  refine Cd.plain [(0, false)] rfl rfl ?_
  refine Jp.y 54 rfl (want_all rfl) rfl rfl Kp.true (Y.lss rfl rfl rfl) ?_
  refine Jp.done hK15 ?_
  refine Cd.seq fun K16 hK16 => ?_
  refine Cd.cond rfl (fun ga => ?_) (fun ga => ?_)
  · simp only [decide_eq_true_eq] at ga
    have hi : i < many := by omega
    have hno := hnone i hi
    have hmo : MemOk { addPgs M a pn i with pages := insPg (a + 256 * i) ⟨List.replicate 256 0, pn⟩ (addPgs M a pn i).pages } :=
      ok2.ok.ins hno (by omega) (by omega) (by simp) (by show pn ≤ 7; omega) (by rw [addPgs_length, addPgs_budget]; omega)
    refine Cd.skip hK16 ?_
    refine Cd.seq fun K17 hK17 => ?_
    refine Cd.block ?_
    refine Cd.seq fun K18 hK18 => ?_
    refine Cd.plain [(0, false), (1, false)] rfl rfl ?_
    refine Jp.y 55 rfl (want_all rfl) rfl rfl Kp.true (Y.move rfl rfl) ?_
    refine Jp.y 11 rfl (want_all rfl) rfl rfl Kp.true (Y.assign rfl rfl) ?_
    refine Jp.done hK18 ?_
    refine Cd.seq fun K19 hK19 => ?_
    refine Cd.plain [(0, false), (1, false), (2, false), (3, false), (4, false)] rfl rfl ?_
    refine Jp.y 56 rfl (want_all rfl) rfl rfl Kp.true (Y.move rfl rfl) ?_
    refine Jp.y 57 rfl (want_all rfl) rfl rfl Kp.true (Y.move rfl rfl) ?_
    refine Jp.y 58 rfl (want_all rfl) rfl rfl Kp.true (Y.mul_ rfl rfl rfl (by first | exact wrap_u32 (by omega) (by omega) | rfl)) ?_
    refine Jp.y 59 rfl (want_all rfl) rfl rfl Kp.true (Y.add_ rfl rfl rfl (by first | exact wrap_u32 (by omega) (by omega) | rfl)) ?_
    refine Jp.y 12 rfl (want_all rfl) rfl rfl Kp.true (Y.assign rfl rfl) ?_
    refine Jp.done hK19 ?_
    refine Cd.seq fun K20 hK20 => ?_
    refine Cd.plain [(0, false), (1, false), (2, false), (3, false), (4, false), (5, false), (6, false), (7, false), (8, false)] rfl rfl ?_
    refine Jp.slot 12 rfl (congrArg (Value.int .u32) (show ((a : Int) + i * 256) = ((a + 256 * i : Nat) : Int) by omega)) ?_
    refine Jp.y 60 rfl (want_all rfl) rfl rfl Kp.true (Y.move rfl rfl) ?_
    refine Jp.y 61 rfl (want_all rfl) rfl rfl Kp.true (Y.nilCheck rfl rfl) ?_
    refine Jp.y 62 rfl (want_all rfl) rfl rfl Kp.true (by first | exact Y.fieldAddrP rfl rfl Try.underlying79 rfl Try.sizeOf76 (by decide) (show _ + 1 = _ from rfl) | exact Y.fieldAddr rfl rfl Try.underlying79 rfl Try.sizeOf76 (by decide)) ?_
    refine Jp.y 63 rfl (want_all rfl) rfl rfl Kp.true (Y.loadO 0 rfl Try.isAgg76 rfl rfl rfl) ?_
    refine Jp.y 64 rfl (want_all rfl) rfl rfl Kp.true (Y.move rfl rfl) ?_
    refine Jp.y 65 rfl (want_all rfl) rfl rfl Kp.true (Y.move rfl rfl) ?_
    refine Jp.y 66 rfl (want_all rfl) rfl rfl Kp.true (Y.struct [(1, _)] [_, _, _, _, _, _, _, _, _, _, _, _, _, _, _, _, _, _, _, _, _, _, _, _, _, _, _, _, _, _, _, _, _, _, _, _, _, _, _, _, _, _, _, _, _, _, _, _, _, _, _, _, _, _, _, _, _, _, _, _, _, _, _, _, _, _, _, _, _, _, _, _, _, _, _, _, _, _, _, _, _, _, _, _, _, _, _, _, _, _, _, _, _, _, _, _, _, _, _, _, _, _, _, _, _, _, _, _, _, _, _, _, _, _, _, _, _, _, _, _, _, _, _, _, _, _, _, _, _, _, _, _, _, _, _, _, _, _, _, _, _, _, _, _, _, _, _, _, _, _, _, _, _, _, _, _, _, _, _, _, _, _, _, _, _, _, _, _, _, _, _, _, _, _, _, _, _, _, _, _, _, _, _, _, _, _, _, _, _, _, _, _, _, _, _, _, _, _, _, _, _, _, _, _, _, _, _, _, _, _, _, _, _, _, _, _, _, _, _, _, _, _, _, _, _, _, _, _, _, _, _, _, _, _, _, _, _, _, _, _, _, _, _, _, _, _, _, _, _, _, _, _, _, _, _, _, _] rfl rfl places87 Try.zeroValue87 rfl) ?_
    refine Jp.slot 66 rfl (show _ = Value.agg (pageCells ⟨List.replicate 256 0, pn⟩).toArray by rfl) ?_
    refine Jp.box 50 67 rfl (want_all rfl) rfl rfl rfl rfl fun b50 => ⟨Kp.true, ?_⟩
    first | refine Jp.mapUpdate 1 rfl (want_all rfl) rfl rfl rfl rfl rfl Try.underlying76 Try.underlying26 rfl Kp.true ?_
    refine Jp.done hK20 ?_
    refine Cd.plain [(0, false), (1, false), (2, false), (3, false), (4, false), (5, false), (6, false), (7, false)] rfl rfl ?_
    refine Jp.joinB (ob := pageO ⟨List.replicate 256 0, pn⟩) 3 50 (by decide) rfl rfl ?_
    refine Jp.imp (j := 3) rfl (Blks.perm (blks_ins (p := ⟨List.replicate 256 0, pn⟩) b50 (mset y.pm ((a + 256 * i : Nat) : Int) (.pointer (some ⟨b50, 0, none⟩))) hno)) ?_
    have hf2 := ok2.ins (p := ⟨List.replicate 256 0, pn⟩) b50 hno hmo
    have hf3 := hf2.bump (a + 256 * i)
    refine Jp.y 68 rfl (want_all rfl) rfl rfl Kp.true (Y.move rfl rfl) ?_
    refine Jp.y 69 rfl (want_all rfl) rfl rfl Kp.true (Y.nilCheck rfl rfl) ?_
    refine Jp.y 70 rfl (want_all rfl) rfl rfl Kp.true (by first | exact Y.fieldAddrP rfl rfl Try.underlying79 rfl Try.sizeOf77 (by decide) (show _ + 2 = _ from rfl) | exact Y.fieldAddr rfl rfl Try.underlying79 rfl Try.sizeOf77 (by decide)) ?_
    refine Jp.y 71 rfl (want_all rfl) rfl rfl Kp.true (by first | exact Y.loadO 0 rfl Try.isAgg77 rfl rfl rfl | exact Y.loadO 50 rfl Try.isAgg77 rfl rfl rfl) ?_
    refine Jp.y 72 rfl (want_all rfl) rfl rfl Kp.true (Y.move rfl rfl) ?_
    refine Jp.y 73 rfl (want_all rfl) rfl rfl Kp.true (by first | exact Y.lookup 2 rfl rfl rfl Try.underlying77 Try.underlying26 Try.zeroValue26 rfl) ?_
    refine Jp.slot 73 rfl ((ok2.gens _)) ?_
    refine Jp.y 74 rfl (want_all rfl) rfl rfl Kp.true (Y.add_ rfl rfl rfl (wrap_u32m ((addPgs M a pn i).gens (a + 256 * i) + 1))) ?_
    first | refine Jp.mapUpdate 2 rfl (want_all rfl) rfl rfl rfl rfl rfl Try.underlying77 Try.underlying26 rfl Kp.true ?_
    refine Jp.over rfl hK17 ?_
    refine Cd.plain [(0, false), (1, false)] rfl rfl ?_
    refine Jp.y 75 rfl (want_all rfl) rfl rfl Kp.true (Y.add_ rfl rfl rfl (wrap_u32 (by omega) (by omega))) ?_
    refine Jp.y 53 rfl (want_all rfl) rfl rfl Kp.true (Y.move rfl rfl) ?_
    refine Jp.again hLa ⟨i + 1, _⟩ ⟨hi, hf3, ok3, ok4⟩ (by show many - (i + 1) < many - i; omega) rfl ⟨rfl, rfl, rfl, rfl, rfl, trivial⟩ ⟨rfl, rfl, rfl, rfl, trivial⟩
  · simp only [decide_eq_false_iff_not] at ga
    obtain rfl : i = many := by omega
    refine Cd.exit rfl hK13 ?_
    refine Cd.seq fun K21 hK21 => ?_
    refine Cd.plain [(0, false)] rfl rfl ?_
    refine Jp.y 8 rfl (want_all rfl) rfl rfl Kp.true (Y.assign rfl rfl) ?_
    refine Jp.done hK21 ?_
    have e : memObj (addPgs M a pn i) y = memObj M x := by rw [memObj, memObj, addPgs_budget, ok3, ok4]
    refine Cd.memClose (b := b) (x := y) 0 1 2 3 (by decide) ok2 (by rw [e]; rfl) (by rw [ok3]; rfl) (by rw [ok4]; rfl) rfl ?_
    refine Cd.ret [(0, _)] rfl (res1 rfl rfl) ⟨rfl, trivial⟩ ⟨rfl, by rw [hV], by rw [hV]⟩
end Go.Proofs.Ytgfbdiibndbbjaa
