/- Law 4: ShadowNumbers, ShadowAny. -/
import Derived.Test.YtgmhijlcdadaeaaShL
set_option linter.unusedVariables false
set_option linter.unusedSimpArgs false
set_option maxRecDepth 100000
namespace Go.Proofs.Ytgmhijlcdadaeaa
open Go
theorem Pt.hasC {b off : Nat} {cs : Array Value} {T : TypeId} {fr : Nat × Nat} {v : Value} (h : cs[off]? = some v) : HasC (Pt b (.cells cs T fr)) ⟨b, off, none⟩ v := fun k hk => by
  have hk : k b = some (.cells cs T fr) := hk
  simp [cellH, hk, h]
theorem bytesV_get {l : Bytes} {i : Nat} {x : UInt8} (h : l[i]? = some x) : (bytesV l).toArray[i]? = some (.int .u8 (x.toNat : Int)) := by
  simp [bytesV, h]
theorem setM_win {S : ShG} (h : ShOk S.pages) {a : Nat} {bs : Bytes} (ha : a + bs.length ≤ 4294967296) {lo N : Nat} (hlo : lo % 256 = 0) (h1 : ∀ x ∈ S.pages, lo ≤ x.1 ∧ x.1 < lo + 256 * N) (h2 : ∀ j, j < bs.length → lo ≤ baseN (a + j) ∧ baseN (a + j) < lo + 256 * N) (hb : N ≤ S.budget) :
    setM S a bs = (0, ⟨S.budget, layP S.pages a bs⟩) ∧ ∀ x ∈ layP S.pages a bs, lo ≤ x.1 ∧ x.1 < lo + 256 * N := by
  have hk : ∀ x ∈ layP S.pages a bs, lo ≤ x.1 ∧ x.1 < lo + 256 * N := fun x hx => by
    rcases lay_keys x hx with ⟨j, j1, j2⟩ | h
    · rw [j2]; exact h2 j j1
    · obtain ⟨y, hy, e⟩ := List.mem_map.1 h
      rw [← e]; exact h1 y hy
  have := win_len (lay_ok h ha) hlo hk
  refine ⟨?_, hk⟩
  unfold setM
  rw [List.take_of_length_le (by omega), if_neg (by omega)]
theorem shadowNumbers_spec (at' : Nat) (t : Bytes) (size : Int) (hat : at' < 4294967296) (ht : t.length = 4) (hs1 : -9223372036854775808 ≤ size) (hs2 : size ≤ 9223372036854775807) : Spec Try.prog 9 #[.int .u32 at', .agg (bytesV t).toArray, .int .i64 size] (fun _ => True) [] (fun ρ ρ' v L => v = .bool true ∧ L = []) := by
  refine Spec.of 101 Try.func9 rfl Try.ntmps9 [(0, _), (1, _), (2, _)] rfl rfl ?_
  intro cx ρ hr h0
  refine Cd.seq fun K1 hK1 => ?_
  refine Cd.plain [(0, false), (1, false)] rfl rfl ?_
  refine Jp.box 4 4 rfl (want_all rfl) rfl rfl rfl rfl fun b4 => ⟨Kp.true, ?_⟩
  refine Jp.y 6 rfl (want_all rfl) rfl rfl Kp.true (Y.assign rfl rfl) ?_
  refine Jp.done hK1 ?_
  refine Cd.seq fun K2 hK2 => ?_
  refine Cd.seq fun K3 hK3 => ?_
  refine Cd.plain [(0, false), (1, false)] rfl rfl ?_
  refine Jp.imp (j := 4) rfl (fun h hh => (show Pt b4 (.cells (bytesV t).toArray 64) h from hh)) ?_
  refine Jp.call [] [] awake4_spec 11 rfl (want_all rfl) rfl rfl (Runs.fn rfl Try.call25 rfl) (by decide) (by decide) rfl trivial ?_
  rintro v1 ρ1 L1 ⟨rfl, rfl⟩
  refine ⟨rfl, fun hle1 => ⟨Kp.true, ?_⟩⟩
  refine Jp.y 12 rfl (want_all rfl) rfl rfl Kp.true (Y.not rfl rfl) ?_
  refine Jp.done hK3 ?_
  refine Cd.cond rfl (fun g12 => ?_) (fun g12 => ?_)
  · skip
    exact absurd g12 (by simp)
  try simp only [decide_eq_false_iff_not, decide_eq_true_eq, Int.not_lt, Int.not_le, Bool.not_eq_false, Bool.not_eq_true, Bool.not_true, Bool.not_false, Bool.not_eq_true', Bool.not_eq_false', beq_eq_false_iff_ne, ne_eq, beq_iff_eq, bne_iff_ne, bne_eq_false_iff_eq, Classical.not_not] at g12
  refine Cd.skip hK2 ?_
  refine Cd.seq fun K4 hK4 => ?_
  refine Cd.seq fun K5 hK5 => ?_
  refine Cd.plain [(0, false), (1, false), (2, false), (3, false), (4, false), (5, false), (6, false), (7, false), (8, false), (9, false), (10, false), (11, false), (12, false), (13, false)] rfl rfl ?_
  refine Jp.joinK (φ := (size = 1 ∨ size = 2 ∨ size = 4) ∧ at' ≤ 4294967290) hK4 [(0, _), (2, _), (4, _)] ⟨rfl, rfl, rfl, trivial⟩ [(4, _)] ⟨rfl, trivial⟩ (fun hφ => ?_) (fun hj1 => ?_)
  · obtain ⟨hs, hat2⟩ := hφ
    obtain ⟨s, rfl⟩ := Int.eq_ofNat_of_zero_le (show 0 ≤ size by omega)
    have hs : s = 1 ∨ s = 2 ∨ s = 4 := by omega
    have hsz : sizedP (s : Int) = s := by unfold sizedP; rw [if_neg (by omega)]; omega
    have hw0 := setM_win (S := ⟨3, []⟩) (a := at') (bs := List.replicate 5 9) shOk_nil (by rw [List.length_replicate]; omega) (lo := baseN at') (N := 2) (base_mod _) (fun x h => (List.not_mem_nil h).elim) (fun j hj => by rw [List.length_replicate] at hj; unfold baseN; omega) (by show 2 ≤ 3; omega)
    have hok1 : ShOk (layP [] at' (List.replicate 5 9)) := lay_ok shOk_nil (by rw [List.length_replicate]; omega)
    have hl1 := labL_lay (l := []) (a := at') (bs := List.replicate 5 9) shOk_nil (by rw [List.length_replicate]; omega)
    rw [List.length_replicate] at hl1
    obtain ⟨hw1, hw2⟩ := hw0
    dsimp only at hw1 hw2
    obtain ⟨S1, hS1⟩ : ∃ S : ShG, S = ⟨3, layP [] at' (List.replicate 5 9)⟩ := ⟨_, rfl⟩
    rw [← hS1] at hw1
    have hS1b : S1.budget = 3 := by rw [hS1]
    have hS1p : S1.pages = layP [] at' (List.replicate 5 9) := by rw [hS1]
    rw [← hS1p] at hok1 hl1 hw2
    have htl : (t.take s).length = s := by rw [List.length_take]; omega
    have hw3 := setM_win (S := S1) (a := at') (bs := t.take s) hok1 (by omega) (lo := baseN at') (N := 2) (base_mod _) hw2 (fun j hj => by rw [htl] at hj; unfold baseN; omega) (by omega)
    have hl2 := labL_lay (l := S1.pages) (a := at') (bs := t.take s) hok1 (by omega)
    rw [htl] at hl2
    replace hw3 := hw3.1
    obtain ⟨S2, hS2⟩ : ∃ S : ShG, S = ⟨S1.budget, layP S1.pages at' (t.take s)⟩ := ⟨_, rfl⟩
    have hS2p : S2.pages = layP S1.pages at' (t.take s) := by rw [hS2]
    rw [← hS2] at hw3
    rw [← hS2p] at hl2
    have hf1 : fillM ⟨3, []⟩ at' 5 9 = (0, S1) := by unfold fillM; rw [if_neg (by decide)]; exact hw1
    have hp1 : putM S1 at' s t = (0, S2) := by unfold putM; rw [hsz]; exact hw3
    have hlab : ∀ i, i < s → labL S2.pages (at' + i) = t.getD i 0 := fun i hi => by
      rw [hl2, if_pos (by omega), show at' + i - at' = i by omega, List.getD_eq_getElem?_getD, List.getElem?_take, if_pos hi, ← List.getD_eq_getElem?_getD]
    have hlab9 : ∀ i, s ≤ i → i < 5 → labL S2.pages (at' + i) = 9 := fun i hi h5 => by
      rw [hl2, if_neg (by omega), hl1, if_pos (by omega), show at' + i - at' = i by omega, List.getD_eq_getElem?_getD, List.getElem?_replicate, if_pos (by omega)]; rfl
    refine Cd.seq fun K6 hK6 => ?_
    refine Cd.plain [(0, false), (1, false), (2, false), (3, false), (4, false), (5, false)] rfl rfl ?_
    refine Jp.call [] [1] (shNew_yes 3 (by omega)) 28 rfl (want_all rfl) rfl rfl (Runs.fn rfl Try.call26 rfl) (by decide) (by decide) rfl trivial ?_
    rintro v2 ρ2 L2 ⟨rfl, b, rfl, rfl⟩
    refine ⟨rfl, fun hle2 => ⟨Kp.true, ?_⟩⟩
    refine Jp.y 27 rfl (want_all rfl) rfl rfl Kp.true (Y.move rfl rfl) ?_
    refine Jp.y 29 rfl (want_all rfl) rfl rfl Kp.true (Y.extract rfl rfl rfl) ?_
    refine Jp.y 30 rfl (want_all rfl) rfl rfl Kp.true (Y.extract rfl rfl rfl) ?_
    refine Jp.y 7 rfl (want_all rfl) rfl rfl Kp.true (Y.assign rfl rfl) ?_
    refine Jp.y 8 rfl (want_all rfl) rfl rfl Kp.true (Y.assign rfl rfl) ?_
    refine Jp.done hK6 ?_
    refine Cd.seq fun K7 hK7 => ?_
    refine Cd.plain [(0, false), (1, false), (2, false)] rfl rfl ?_
    have hF := shFill_spec b ⟨3, []⟩ at' 5 9 hat
    rw [hf1] at hF
    refine Jp.y 31 rfl (want_all rfl) rfl rfl Kp.true (Y.move rfl rfl) ?_
    refine Jp.y 32 rfl (want_all rfl) rfl rfl Kp.true (Y.move rfl rfl) ?_
    refine Jp.call [1] [1] hF 33 rfl (want_all rfl) rfl rfl (Runs.fn rfl Try.call28 rfl) (by decide) (by decide) rfl trivial ?_
    rintro v3 ρ3 L3 ⟨rfl, rfl, rfl⟩
    refine ⟨rfl, fun hle3 => ⟨Kp.true, ?_⟩⟩
    refine Jp.done hK7 ?_
    refine Cd.seq fun K8 hK8 => ?_
    refine Cd.seq fun K9 hK9 => ?_
    refine Cd.plain [(0, false), (1, false), (2, false), (3, false), (4, false), (5, false)] rfl rfl ?_
    have hbl : (bytesV t).length = 4 := by rw [bytesV, List.length_map]; exact ht
    refine Jp.y 34 rfl (want_all rfl) rfl rfl Kp.true (Y.move rfl rfl) ?_
    refine Jp.y 35 rfl (want_all rfl) rfl rfl Kp.true (Y.move rfl rfl) ?_
    refine Jp.y 36 rfl (want_all rfl) rfl rfl Kp.true (Y.move rfl rfl) ?_
    refine Jp.y 37 rfl (want_all rfl) rfl rfl Kp.true (Y.loadAggO 4 (cs := bytesV t) rfl Try.isAgg64 Try.sizeOf64 rfl rfl hbl) ?_
    have hP := shPutN_spec b S1 at' s t hat ht
    rw [hp1] at hP
    refine Jp.call [1] [1] hP 38 rfl (want_all rfl) rfl rfl (Runs.fn rfl Try.call31 rfl) (by decide) (by decide) rfl trivial ?_
    rintro v4 ρ4 L4 ⟨rfl, rfl⟩
    refine ⟨rfl, fun hle4 => ⟨Kp.true, ?_⟩⟩
    refine Jp.y 39 rfl (want_all rfl) rfl rfl Kp.true (Y.neq rfl rfl rfl) ?_
    refine Jp.slot 39 rfl (show _ = Value.bool false from rfl) ?_
    refine Jp.done hK9 ?_
    refine Cd.condF rfl ?_
    refine Cd.skip hK8 ?_
    refine Cd.seq fun K10 hK10 => ?_
    refine Cd.plain [(0, false), (1, false), (2, false), (3, false), (4, false), (5, false)] rfl rfl ?_
    refine Jp.y 40 rfl (want_all rfl) rfl rfl Kp.true (Y.move rfl rfl) ?_
    refine Jp.y 41 rfl (want_all rfl) rfl rfl Kp.true (Y.move rfl rfl) ?_
    refine Jp.y 42 rfl (want_all rfl) rfl rfl Kp.true (Y.move rfl rfl) ?_
    refine Jp.call [1] [1] (shTag_spec b S2 at' s hat) 43 rfl (want_all rfl) rfl rfl (Runs.fn rfl Try.call32 rfl) (by decide) (by decide) rfl trivial ?_
    rintro v5 ρ5 L5 ⟨rfl, rfl, rfl⟩
    refine ⟨rfl, fun hle5 => ⟨Kp.true, ?_⟩⟩
    obtain ⟨u, hu⟩ : ∃ u, tagM S2 at' s = u := ⟨_, rfl⟩
    have hul : u.length = 4 := by rw [← hu]; exact tagM_len ..
    have hug : ∀ i, i < 4 → u[i]? = some (if i < s then t.getD i 0 else 0) := fun i hi => by
      rw [← hu, tagM, List.getElem?_map, List.getElem?_range hi, hsz]
      simp only [Option.map_some]
      by_cases h : i < s
      · rw [if_pos (by omega), if_pos h, hlab i h]
      · rw [if_neg (by omega), if_neg h]
    rw [hu]
    have hul2 : (bytesV u).length = 4 := by rw [bytesV, List.length_map]; exact hul
    refine Jp.alloc 9 9 rfl (want_all rfl) rfl rfl rfl Try.zeroValue64 fun b9 => ⟨Kp.true, ?_⟩
    refine Jp.storeAgg 9 rfl (want_all rfl) rfl rfl Try.sizeOf64 rfl rfl (bytesV_one u) hul2 rfl rfl (fun k _ _ => noFr0 k) Kp.true ?_
    refine Jp.imp (j := 9) (A := Pt b9 (.cells (spl (bytesV [0, 0, 0, 0]).toArray 0 (bytesV u)) 64)) (A' := Pt b9 (.cells (bytesV u).toArray 64)) rfl (fun h hh => by rw [shSpl_full (by rw [hul2]; rfl)] at hh; exact hh) ?_
    refine Jp.done hK10 ?_
    refine Cd.seq fun K11 hK11 => ?_
    refine Cd.seq fun K12 hK12 => ?_
    refine Cd.plain [(0, false)] rfl rfl ?_
    refine Jp.y 10 rfl (want_all rfl) rfl rfl Kp.true (Y.assign rfl rfl) ?_
    refine Jp.done hK12 ?_
    refine Cd.block ?_
    refine Cd.loopK (G := Nat) (fun i => i ≤ 4) (fun i => 4 - i) (fun _ => _) (fun i => [(10, .int .i64 (i : Int))]) [(0, _), (2, _), (4, _), (7, _), (9, _)] (fun i => []) [(1, _), (4, _), (9, _)] 0 (Nat.zero_le _) rfl ⟨rfl, trivial⟩ ⟨rfl, rfl, rfl, rfl, rfl, trivial⟩ trivial ⟨rfl, rfl, rfl, trivial⟩ (fun g KLa hok hLa => ?_)
    obtain ⟨i, hi⟩ : ∃ i, i = g := ⟨_, rfl⟩
    rw [← hi] at hok ⊢
    refine Cd.seq fun K13 hK13 => ?_
    refine Cd.seq fun K14 hK14 => ?_
    refine Cd.plain [(0, false), (1, false)] rfl rfl ?_
    refine Jp.y 44 rfl (want_all rfl) rfl rfl Kp.true (Y.move rfl rfl) ?_
    refine Jp.y 45 rfl (want_all rfl) rfl rfl Kp.true (Y.lss rfl rfl rfl) ?_
    refine Jp.done hK14 ?_
    refine Cd.cond rfl (fun ga => ?_) (fun ga => ?_)
    · have hi4 : i < 4 := by simp at ga; omega
      have htg : t[i]? = some (t.getD i 0) := by rw [List.getD_eq_getElem?_getD, List.getElem?_eq_getElem (by omega)]; rfl
      have hct := Pt.hasC (b := b4) (T := 64) (fr := (0, 0)) (bytesV_get htg)
      have hcu := Pt.hasC (b := b9) (T := 64) (fr := (0, 0)) (bytesV_get (hug i hi4))
      refine Cd.skip hK13 ?_
      refine Cd.seq fun K15 hK15 => ?_
      refine Cd.block ?_
      refine Cd.seq fun K16 hK16 => ?_
      refine Cd.drawn [(4, _), (9, _)] ⟨rfl, rfl, trivial⟩ [(0, true), (1, true), (2, true), (3, true), (4, true), (5, true), (6, true), (7, true), (8, true), (9, true), (10, true), (11, true), (12, true), (13, true), (14, true), (15, true), (16, true), (18, true), (19, true), (20, true), (17, false), (21, true), (22, true), (23, true), (24, true), (25, true), (26, true), (27, true), (28, true), (29, true), (30, true), (31, true), (32, true), (33, true), (34, true)] follows (by kernel_rfl) (fun hrl => ?_)
      refine Jp.q 48 rfl (want_all rfl) rfl rfl (Y.move rfl rfl) ?_
      refine Jp.q 49 rfl (want_all rfl) rfl rfl (Y.move rfl rfl) ?_
      by_cases his : i < s
      · rw [if_pos his] at hcu
        refine Jp.q 50 rfl (want_all rfl) rfl rfl (Y.lss rfl rfl rfl) ?_
        refine Jp.slot 50 rfl (show _ = Value.bool true from congrArg Value.bool (decide_eq_true (by omega))) ?_
        refine Jp.q 51 rfl (want_all rfl) rfl rfl (Y.move rfl rfl) ?_
        refine Jp.slot 51 rfl (show _ = Value.bool true from rfl) ?_
        refine Jp.q 52 rfl (want_as rfl rfl rfl rfl) rfl rfl (Y.move rfl rfl) ?_
        refine Jp.q 53 rfl (want_as rfl rfl rfl rfl) rfl rfl (Y.indexArrP (q := i) rfl rfl rfl Try.underlying64 Try.sizeOf5 (by omega) (by omega) (by omega)) ?_
        refine Jp.q 54 rfl (want_as rfl rfl rfl rfl) rfl rfl (by first | exact Y.loadC 4 rfl Try.isAgg5 rfl rfl hct | exact Y.loadC 9 rfl Try.isAgg5 rfl rfl hcu) ?_
        refine Jp.q 55 rfl (want_as rfl rfl rfl rfl) rfl rfl (Y.move rfl rfl) ?_
        refine Jp.q 56 rfl (want_as rfl rfl rfl rfl) rfl rfl (Y.indexArrP (q := i) rfl rfl rfl Try.underlying64 Try.sizeOf5 (by omega) (by omega) (by omega)) ?_
        refine Jp.q 57 rfl (want_as rfl rfl rfl rfl) rfl rfl (by first | exact Y.loadC 4 rfl Try.isAgg5 rfl rfl hct | exact Y.loadC 9 rfl Try.isAgg5 rfl rfl hcu) ?_
        refine Jp.q 58 rfl (want_as rfl rfl rfl rfl) rfl rfl (Y.neq rfl rfl rfl) ?_
        refine Jp.slot 58 rfl (show _ = Value.bool false from congrArg Value.bool (by simp)) ?_
        refine Jp.q 59 rfl (want_as rfl rfl rfl rfl) rfl rfl (Y.move rfl rfl) ?_
        refine Jp.slot 59 rfl (show _ = Value.bool false from rfl) ?_
        refine Jp.q 60 rfl (want_as rfl rfl rfl rfl) rfl rfl (Y.move rfl rfl) ?_
        refine Jp.q 61 rfl (want_as rfl rfl rfl rfl) rfl rfl (Y.move rfl rfl) ?_
        refine Jp.q 62 rfl (want_as rfl rfl rfl rfl) rfl rfl (Y.move rfl rfl) ?_
        refine Jp.q 63 rfl (want_as rfl rfl rfl rfl) rfl rfl (Y.conv_ rfl rfl Try.underlying3 Try.underlying25 (by first | exact wrap_u32 (by omega) (by omega) | rfl)) ?_
        refine Jp.q 64 rfl (want_as rfl rfl rfl rfl) rfl rfl (Y.add_ rfl rfl rfl (by first | exact wrap_u32 (by omega) (by omega) | rfl)) ?_
        refine Jp.slot 64 rfl (show _ = Value.int .u32 ((at' + i : Nat) : Int) from congrArg (Value.int .u32) (by omega)) ?_
        refine Jp.q 66 rfl (want_as rfl rfl rfl rfl) rfl rfl (Y.move rfl rfl) ?_
        refine Jp.q 67 rfl (want_as rfl rfl rfl rfl) rfl rfl (Y.indexArrP (q := i) rfl rfl rfl Try.underlying64 Try.sizeOf5 (by omega) (by omega) (by omega)) ?_
        refine Jp.q 68 rfl (want_as rfl rfl rfl rfl) rfl rfl (by first | exact Y.loadC 4 rfl Try.isAgg5 rfl rfl hct | exact Y.loadC 9 rfl Try.isAgg5 rfl rfl hcu) ?_
        refine Jp.call [1] [1] (shAt_spec b S2 (at' + i) (by omega)) 65 rfl (want_as rfl rfl rfl rfl) rfl rfl (Runs.fn rfl Try.call29 rfl) (by decide) (by decide) rfl trivial ?_
        rintro v6 ρ6 L6 ⟨rfl, rfl, rfl⟩
        refine ⟨rfl, fun hle6 => ⟨(Kp.st ⟨rfl, rfl, trivial⟩), ?_⟩⟩
        rw [hlab i his]
        refine Jp.q 69 rfl (want_as rfl rfl rfl rfl) rfl rfl (Y.neq rfl rfl rfl) ?_
        refine Jp.slot 69 rfl (show _ = Value.bool false from congrArg Value.bool (by simp)) ?_
        refine Jp.q 70 rfl (want_as rfl rfl rfl rfl) rfl rfl (Y.pickF rfl rfl rfl) ?_
        refine Jp.slot 70 rfl (show _ = Value.bool false from rfl) ?_
        refine Jp.q 71 rfl (want_all rfl) rfl rfl (Y.pickT rfl rfl rfl) ?_
        refine Jp.slot 71 rfl (show _ = Value.bool false from rfl) ?_
        refine Jp.q 72 rfl (want_all rfl) rfl rfl (Y.move rfl rfl) ?_
        refine Jp.slot 72 rfl (show _ = Value.bool false from rfl) ?_
        refine Jp.q 73 rfl (want_as rfl rfl rfl rfl) rfl rfl (Y.move rfl rfl) ?_
        refine Jp.q 74 rfl (want_as rfl rfl rfl rfl) rfl rfl (Y.move rfl rfl) ?_
        refine Jp.q 75 rfl (want_as rfl rfl rfl rfl) rfl rfl (Y.geq rfl rfl rfl) ?_
        refine Jp.slot 75 rfl (show _ = Value.bool false from congrArg Value.bool (decide_eq_false (by omega))) ?_
        refine Jp.q 76 rfl (want_as rfl rfl rfl rfl) rfl rfl (Y.move rfl rfl) ?_
        refine Jp.slot 76 rfl (show _ = Value.bool false from rfl) ?_
        refine Jp.qskip 77 rfl (want_as rfl rfl rfl rfl) rfl rfl ?_
        refine Jp.qskip 78 rfl (want_as rfl rfl rfl rfl) rfl rfl ?_
        refine Jp.qskip 79 rfl (want_as rfl rfl rfl rfl) rfl rfl ?_
        refine Jp.qskip 80 rfl (want_as rfl rfl rfl rfl) rfl rfl ?_
        refine Jp.q 81 rfl (want_as rfl rfl rfl rfl) rfl rfl (Y.pickF rfl rfl rfl) ?_
        refine Jp.slot 81 rfl (show _ = Value.bool false from rfl) ?_
        refine Jp.q 82 rfl (want_all rfl) rfl rfl (Y.pickF rfl rfl rfl) ?_
        refine Jp.slot 82 rfl (show _ = Value.bool false from rfl) ?_
        refine Jp.done hK16 ?_
        refine Cd.condF rfl ?_
        refine Cd.over rfl hK15 ?_
        refine Cd.plain [(0, false), (1, false), (2, false)] rfl rfl ?_
        refine Jp.y 46 rfl (want_all rfl) rfl rfl Kp.true (Y.move rfl rfl) ?_
        refine Jp.y 47 rfl (want_all rfl) rfl rfl Kp.true (Y.add_ rfl rfl rfl (by first | exact wrap_i64 (by omega) (by omega) | rfl)) ?_
        refine Jp.y 10 rfl (want_all rfl) rfl rfl Kp.true (Y.assign rfl rfl) ?_
        rw [show (i : Int) + 1 = ((i + 1 : Nat) : Int) by omega]
        refine Jp.again hLa (i + 1) (by omega) (by omega) rfl ⟨rfl, rfl, rfl, rfl, rfl, rfl, trivial⟩ ⟨rfl, rfl, rfl, trivial⟩
      · rw [if_neg his] at hcu
        refine Jp.q 50 rfl (want_all rfl) rfl rfl (Y.lss rfl rfl rfl) ?_
        refine Jp.slot 50 rfl (show _ = Value.bool false from congrArg Value.bool (decide_eq_false (by omega))) ?_
        refine Jp.q 51 rfl (want_all rfl) rfl rfl (Y.move rfl rfl) ?_
        refine Jp.slot 51 rfl (show _ = Value.bool false from rfl) ?_
        refine Jp.qskip 52 rfl (want_as rfl rfl rfl rfl) rfl rfl ?_
        refine Jp.qskip 53 rfl (want_as rfl rfl rfl rfl) rfl rfl ?_
        refine Jp.qskip 54 rfl (want_as rfl rfl rfl rfl) rfl rfl ?_
        refine Jp.qskip 55 rfl (want_as rfl rfl rfl rfl) rfl rfl ?_
        refine Jp.qskip 56 rfl (want_as rfl rfl rfl rfl) rfl rfl ?_
        refine Jp.qskip 57 rfl (want_as rfl rfl rfl rfl) rfl rfl ?_
        refine Jp.qskip 58 rfl (want_as rfl rfl rfl rfl) rfl rfl ?_
        refine Jp.qskip 59 rfl (want_as rfl rfl rfl rfl) rfl rfl ?_
        refine Jp.qskip 60 rfl (want_un rfl rfl rfl) rfl rfl ?_
        refine Jp.qskip 61 rfl (want_un rfl rfl rfl) rfl rfl ?_
        refine Jp.qskip 62 rfl (want_un rfl rfl rfl) rfl rfl ?_
        refine Jp.qskip 63 rfl (want_un rfl rfl rfl) rfl rfl ?_
        refine Jp.qskip 64 rfl (want_un rfl rfl rfl) rfl rfl ?_
        refine Jp.qskip 66 rfl (want_un rfl rfl rfl) rfl rfl ?_
        refine Jp.qskip 67 rfl (want_un rfl rfl rfl) rfl rfl ?_
        refine Jp.qskip 68 rfl (want_un rfl rfl rfl) rfl rfl ?_
        refine Jp.skip 65 rfl (want_un rfl rfl rfl) rfl rfl (Kp.st ⟨rfl, rfl, trivial⟩) ?_
        refine Jp.qskip 69 rfl (want_un rfl rfl rfl) rfl rfl ?_
        refine Jp.qskip 70 rfl (want_as rfl rfl rfl rfl) rfl rfl ?_
        refine Jp.q 71 rfl (want_all rfl) rfl rfl (Y.pickF rfl rfl rfl) ?_
        refine Jp.slot 71 rfl (show _ = Value.bool false from rfl) ?_
        refine Jp.q 72 rfl (want_all rfl) rfl rfl (Y.move rfl rfl) ?_
        refine Jp.slot 72 rfl (show _ = Value.bool false from rfl) ?_
        refine Jp.q 73 rfl (want_as rfl rfl rfl rfl) rfl rfl (Y.move rfl rfl) ?_
        refine Jp.q 74 rfl (want_as rfl rfl rfl rfl) rfl rfl (Y.move rfl rfl) ?_
        refine Jp.q 75 rfl (want_as rfl rfl rfl rfl) rfl rfl (Y.geq rfl rfl rfl) ?_
        refine Jp.slot 75 rfl (show _ = Value.bool true from congrArg Value.bool (decide_eq_true (by omega))) ?_
        refine Jp.q 76 rfl (want_as rfl rfl rfl rfl) rfl rfl (Y.move rfl rfl) ?_
        refine Jp.slot 76 rfl (show _ = Value.bool true from rfl) ?_
        refine Jp.q 77 rfl (want_as rfl rfl rfl rfl) rfl rfl (Y.move rfl rfl) ?_
        refine Jp.q 78 rfl (want_as rfl rfl rfl rfl) rfl rfl (Y.indexArrP (q := i) rfl rfl rfl Try.underlying64 Try.sizeOf5 (by omega) (by omega) (by omega)) ?_
        refine Jp.q 79 rfl (want_as rfl rfl rfl rfl) rfl rfl (by first | exact Y.loadC 4 rfl Try.isAgg5 rfl rfl hct | exact Y.loadC 9 rfl Try.isAgg5 rfl rfl hcu) ?_
        refine Jp.q 80 rfl (want_as rfl rfl rfl rfl) rfl rfl (Y.neq rfl rfl rfl) ?_
        refine Jp.slot 80 rfl (show _ = Value.bool false from rfl) ?_
        refine Jp.q 81 rfl (want_as rfl rfl rfl rfl) rfl rfl (Y.pickT rfl rfl rfl) ?_
        refine Jp.slot 81 rfl (show _ = Value.bool false from rfl) ?_
        refine Jp.q 82 rfl (want_all rfl) rfl rfl (Y.pickF rfl rfl rfl) ?_
        refine Jp.slot 82 rfl (show _ = Value.bool false from rfl) ?_
        refine Jp.done hK16 ?_
        refine Cd.condF rfl ?_
        refine Cd.over rfl hK15 ?_
        refine Cd.plain [(0, false), (1, false), (2, false)] rfl rfl ?_
        refine Jp.y 46 rfl (want_all rfl) rfl rfl Kp.true (Y.move rfl rfl) ?_
        refine Jp.y 47 rfl (want_all rfl) rfl rfl Kp.true (Y.add_ rfl rfl rfl (by first | exact wrap_i64 (by omega) (by omega) | rfl)) ?_
        refine Jp.y 10 rfl (want_all rfl) rfl rfl Kp.true (Y.assign rfl rfl) ?_
        rw [show (i : Int) + 1 = ((i + 1 : Nat) : Int) by omega]
        refine Jp.again hLa (i + 1) (by omega) (by omega) rfl ⟨rfl, rfl, rfl, rfl, rfl, rfl, trivial⟩ ⟨rfl, rfl, rfl, trivial⟩
    · skip
      refine Cd.exit rfl hK11 ?_
      refine Cd.seq fun K18 hK18 => ?_
      refine Cd.plain [(0, false), (1, false), (2, false), (3, false), (4, false), (5, false), (6, false), (7, false), (8, false), (9, false), (10, false), (11, false), (12, false), (13, false), (14, false), (15, false), (16, false), (17, false), (18, false)] rfl rfl ?_
      refine Jp.y 83 rfl (want_all rfl) rfl rfl Kp.true (Y.move rfl rfl) ?_
      refine Jp.y 84 rfl (want_all rfl) rfl rfl Kp.true (Y.move rfl rfl) ?_
      refine Jp.y 85 rfl (want_all rfl) rfl rfl Kp.true (Y.add_ rfl rfl rfl (by first | exact wrap_u32 (by omega) (by omega) | rfl)) ?_
      refine Jp.slot 85 rfl (show _ = Value.int .u32 ((at' + 4 : Nat) : Int) from congrArg (Value.int .u32) (by omega)) ?_
      refine Jp.call [1] [1] (shAt_spec b S2 (at' + 4) (by omega)) 86 rfl (want_all rfl) rfl rfl (Runs.fn rfl Try.call29 rfl) (by decide) (by decide) rfl trivial ?_
      rintro v7 ρ7 L7 ⟨rfl, rfl, rfl⟩
      refine ⟨rfl, fun hle7 => ⟨Kp.true, ?_⟩⟩
      rw [hlab9 4 (by omega) (by omega)]
      refine Jp.y 87 rfl (want_all rfl) rfl rfl Kp.true (Y.eql rfl rfl rfl) ?_
      refine Jp.slot 87 rfl (show _ = Value.bool true from rfl) ?_
      refine Jp.y 88 rfl (want_all rfl) rfl rfl Kp.true (Y.move rfl rfl) ?_
      refine Jp.slot 88 rfl (show _ = Value.bool true from rfl) ?_
      refine Jp.y 89 rfl (want_as rfl rfl rfl rfl) rfl rfl Kp.true (Y.move rfl rfl) ?_
      by_cases hs4 : s = 4
      · skip
        refine Jp.y 90 rfl (want_as rfl rfl rfl rfl) rfl rfl Kp.true (Y.eql rfl rfl rfl) ?_
        refine Jp.slot 90 rfl (show _ = Value.bool true from congrArg Value.bool (by rw [hs4]; rfl)) ?_
        refine Jp.y 91 rfl (want_as rfl rfl rfl rfl) rfl rfl Kp.true (Y.move rfl rfl) ?_
        refine Jp.slot 91 rfl (show _ = Value.bool true from rfl) ?_
        refine Jp.skip 92 rfl (want_as rfl rfl rfl rfl) rfl rfl Kp.true ?_
        refine Jp.skip 93 rfl (want_as rfl rfl rfl rfl) rfl rfl Kp.true ?_
        refine Jp.skip 94 rfl (want_as rfl rfl rfl rfl) rfl rfl Kp.true ?_
        refine Jp.skip 95 rfl (want_as rfl rfl rfl rfl) rfl rfl Kp.true ?_
        refine Jp.skip 96 rfl (want_as rfl rfl rfl rfl) rfl rfl Kp.true ?_
        refine Jp.skip 97 rfl (want_as rfl rfl rfl rfl) rfl rfl Kp.true ?_
        refine Jp.skip 98 rfl (want_as rfl rfl rfl rfl) rfl rfl Kp.true ?_
        refine Jp.y 99 rfl (want_as rfl rfl rfl rfl) rfl rfl Kp.true (Y.pickT rfl rfl rfl) ?_
        refine Jp.y 100 rfl (want_all rfl) rfl rfl Kp.true (Y.pickT rfl rfl rfl) ?_
        refine Jp.y 6 rfl (want_all rfl) rfl rfl Kp.true (Y.assign rfl rfl) ?_
        refine Jp.done hK18 ?_
        refine Cd.ret [] rfl (res1 rfl rfl) trivial ⟨rfl, rfl⟩
      · skip
        refine Jp.y 90 rfl (want_as rfl rfl rfl rfl) rfl rfl Kp.true (Y.eql rfl rfl rfl) ?_
        refine Jp.slot 90 rfl (show _ = Value.bool false from congrArg Value.bool (by simp; omega)) ?_
        refine Jp.y 91 rfl (want_as rfl rfl rfl rfl) rfl rfl Kp.true (Y.move rfl rfl) ?_
        refine Jp.slot 91 rfl (show _ = Value.bool false from rfl) ?_
        refine Jp.y 92 rfl (want_as rfl rfl rfl rfl) rfl rfl Kp.true (Y.move rfl rfl) ?_
        refine Jp.y 93 rfl (want_as rfl rfl rfl rfl) rfl rfl Kp.true (Y.move rfl rfl) ?_
        refine Jp.y 94 rfl (want_as rfl rfl rfl rfl) rfl rfl Kp.true (Y.move rfl rfl) ?_
        refine Jp.y 95 rfl (want_as rfl rfl rfl rfl) rfl rfl Kp.true (Y.conv_ rfl rfl Try.underlying3 Try.underlying25 (by first | exact wrap_u32 (by omega) (by omega) | rfl)) ?_
        refine Jp.y 96 rfl (want_as rfl rfl rfl rfl) rfl rfl Kp.true (Y.add_ rfl rfl rfl (by first | exact wrap_u32 (by omega) (by omega) | rfl)) ?_
        refine Jp.slot 96 rfl (show _ = Value.int .u32 ((at' + s : Nat) : Int) from congrArg (Value.int .u32) (by omega)) ?_
        refine Jp.call [1] [1] (shAt_spec b S2 (at' + s) (by omega)) 97 rfl (want_as rfl rfl rfl rfl) rfl rfl (Runs.fn rfl Try.call29 rfl) (by decide) (by decide) rfl trivial ?_
        rintro v8 ρ8 L8 ⟨rfl, rfl, rfl⟩
        refine ⟨rfl, fun hle8 => ⟨Kp.true, ?_⟩⟩
        rw [hlab9 s (by omega) (by omega)]
        refine Jp.y 98 rfl (want_as rfl rfl rfl rfl) rfl rfl Kp.true (Y.eql rfl rfl rfl) ?_
        refine Jp.slot 98 rfl (show _ = Value.bool true from rfl) ?_
        refine Jp.y 99 rfl (want_as rfl rfl rfl rfl) rfl rfl Kp.true (Y.pickF rfl rfl rfl) ?_
        refine Jp.y 100 rfl (want_all rfl) rfl rfl Kp.true (Y.pickT rfl rfl rfl) ?_
        refine Jp.y 6 rfl (want_all rfl) rfl rfl Kp.true (Y.assign rfl rfl) ?_
        refine Jp.done hK18 ?_
        refine Cd.ret [] rfl (res1 rfl rfl) trivial ⟨rfl, rfl⟩
  · skip
    refine Jp.y 13 rfl (want_all rfl) rfl rfl Kp.true (Y.move rfl rfl) ?_
    refine Jp.y 14 rfl (want_all rfl) rfl rfl Kp.true (Y.neq rfl rfl rfl) ?_
    refine Jp.y 15 rfl (want_all rfl) rfl rfl Kp.true (Y.move rfl rfl) ?_
    refine Jp.split 15 rfl (fun g15 => ?_) (fun g15 => ?_)
    · skip
      try simp only [decide_eq_false_iff_not, decide_eq_true_eq, Int.not_lt, Int.not_le, Bool.not_eq_false, Bool.not_eq_true, Bool.not_true, Bool.not_false, Bool.not_eq_true', Bool.not_eq_false', beq_eq_false_iff_ne, ne_eq, beq_iff_eq, bne_iff_ne, bne_eq_false_iff_eq, Classical.not_not] at g15
      refine Jp.y 16 rfl (want_as rfl rfl rfl rfl) rfl rfl Kp.true (Y.move rfl rfl) ?_
      refine Jp.y 17 rfl (want_as rfl rfl rfl rfl) rfl rfl Kp.true (Y.neq rfl rfl rfl) ?_
      refine Jp.y 18 rfl (want_all rfl) rfl rfl Kp.true (Y.pickT rfl rfl rfl) ?_
      refine Jp.y 19 rfl (want_all rfl) rfl rfl Kp.true (Y.move rfl rfl) ?_
      refine Jp.split 19 rfl (fun g19 => ?_) (fun g19 => ?_)
      · skip
        try simp only [decide_eq_false_iff_not, decide_eq_true_eq, Int.not_lt, Int.not_le, Bool.not_eq_false, Bool.not_eq_true, Bool.not_true, Bool.not_false, Bool.not_eq_true', Bool.not_eq_false', beq_eq_false_iff_ne, ne_eq, beq_iff_eq, bne_iff_ne, bne_eq_false_iff_eq, Classical.not_not] at g19
        refine Jp.y 20 rfl (want_as rfl rfl rfl rfl) rfl rfl Kp.true (Y.move rfl rfl) ?_
        refine Jp.y 21 rfl (want_as rfl rfl rfl rfl) rfl rfl Kp.true (Y.neq rfl rfl rfl) ?_
        refine Jp.y 22 rfl (want_all rfl) rfl rfl Kp.true (Y.pickT rfl rfl rfl) ?_
        refine Jp.y 23 rfl (want_all rfl) rfl rfl Kp.true (Y.move rfl rfl) ?_
        refine Jp.split 23 rfl (fun g23 => ?_) (fun g23 => ?_)
        · skip
          try simp only [decide_eq_false_iff_not, decide_eq_true_eq, Int.not_lt, Int.not_le, Bool.not_eq_false, Bool.not_eq_true, Bool.not_true, Bool.not_false, Bool.not_eq_true', Bool.not_eq_false', beq_eq_false_iff_ne, ne_eq, beq_iff_eq, bne_iff_ne, bne_eq_false_iff_eq, Classical.not_not] at g23
          refine Jp.skip 24 rfl (want_as rfl rfl rfl rfl) rfl rfl Kp.true ?_
          refine Jp.skip 25 rfl (want_as rfl rfl rfl rfl) rfl rfl Kp.true ?_
          refine Jp.y 26 rfl (want_all rfl) rfl rfl Kp.true (Y.pickT rfl rfl rfl) ?_
          refine Jp.done hK5 ?_
          refine Cd.condT rfl ?_
          refine Cd.seq fun K19 hK19 => ?_
          refine Cd.plain [(0, false)] rfl rfl ?_
          refine Jp.y 6 rfl (want_all rfl) rfl rfl Kp.true (Y.assign rfl rfl) ?_
          refine Jp.done hK19 ?_
          refine Cd.ret [] rfl (res1 rfl rfl) trivial ⟨by first | rfl | (simp; done), rfl⟩
        · skip
          try simp only [decide_eq_false_iff_not, decide_eq_true_eq, Int.not_lt, Int.not_le, Bool.not_eq_false, Bool.not_eq_true, Bool.not_true, Bool.not_false, Bool.not_eq_true', Bool.not_eq_false', beq_eq_false_iff_ne, ne_eq, beq_iff_eq, bne_iff_ne, bne_eq_false_iff_eq, Classical.not_not] at g23
          refine Jp.y 24 rfl (want_as rfl rfl rfl rfl) rfl rfl Kp.true (Y.move rfl rfl) ?_
          refine Jp.y 25 rfl (want_as rfl rfl rfl rfl) rfl rfl Kp.true (Y.gtr rfl rfl rfl) ?_
          refine Jp.y 26 rfl (want_all rfl) rfl rfl Kp.true (Y.pickF rfl rfl rfl) ?_
          refine Jp.done hK5 ?_
          refine Cd.cond rfl (fun g26 => ?_) (fun g26 => ?_)
          · skip
            try simp only [decide_eq_false_iff_not, decide_eq_true_eq, Int.not_lt, Int.not_le, Bool.not_eq_false, Bool.not_eq_true, Bool.not_true, Bool.not_false, Bool.not_eq_true', Bool.not_eq_false', beq_eq_false_iff_ne, ne_eq, beq_iff_eq, bne_iff_ne, bne_eq_false_iff_eq, Classical.not_not] at g26
            refine Cd.seq fun K20 hK20 => ?_
            refine Cd.plain [(0, false)] rfl rfl ?_
            refine Jp.y 6 rfl (want_all rfl) rfl rfl Kp.true (Y.assign rfl rfl) ?_
            refine Jp.done hK20 ?_
            refine Cd.ret [] rfl (res1 rfl rfl) trivial ⟨by first | rfl | (simp; done), rfl⟩
          · skip
            try simp only [decide_eq_false_iff_not, decide_eq_true_eq, Int.not_lt, Int.not_le, Bool.not_eq_false, Bool.not_eq_true, Bool.not_true, Bool.not_false, Bool.not_eq_true', Bool.not_eq_false', beq_eq_false_iff_ne, ne_eq, beq_iff_eq, bne_iff_ne, bne_eq_false_iff_eq, Classical.not_not] at g26
            refine Cd.skip hK4 ?_
            exact Cd.meet (hj1 (by omega)) ⟨rfl, rfl, rfl, trivial⟩ ⟨rfl, trivial⟩
      · skip
        try simp only [decide_eq_false_iff_not, decide_eq_true_eq, Int.not_lt, Int.not_le, Bool.not_eq_false, Bool.not_eq_true, Bool.not_true, Bool.not_false, Bool.not_eq_true', Bool.not_eq_false', beq_eq_false_iff_ne, ne_eq, beq_iff_eq, bne_iff_ne, bne_eq_false_iff_eq, Classical.not_not] at g19
        refine Jp.skip 20 rfl (want_as rfl rfl rfl rfl) rfl rfl Kp.true ?_
        refine Jp.skip 21 rfl (want_as rfl rfl rfl rfl) rfl rfl Kp.true ?_
        refine Jp.y 22 rfl (want_all rfl) rfl rfl Kp.true (Y.pickF rfl rfl rfl) ?_
        refine Jp.y 23 rfl (want_all rfl) rfl rfl Kp.true (Y.move rfl rfl) ?_
        refine Jp.y 24 rfl (want_as rfl rfl rfl rfl) rfl rfl Kp.true (Y.move rfl rfl) ?_
        refine Jp.y 25 rfl (want_as rfl rfl rfl rfl) rfl rfl Kp.true (Y.gtr rfl rfl rfl) ?_
        refine Jp.y 26 rfl (want_all rfl) rfl rfl Kp.true (Y.pickF rfl rfl rfl) ?_
        refine Jp.done hK5 ?_
        refine Cd.cond rfl (fun g26 => ?_) (fun g26 => ?_)
        · skip
          try simp only [decide_eq_false_iff_not, decide_eq_true_eq, Int.not_lt, Int.not_le, Bool.not_eq_false, Bool.not_eq_true, Bool.not_true, Bool.not_false, Bool.not_eq_true', Bool.not_eq_false', beq_eq_false_iff_ne, ne_eq, beq_iff_eq, bne_iff_ne, bne_eq_false_iff_eq, Classical.not_not] at g26
          refine Cd.seq fun K21 hK21 => ?_
          refine Cd.plain [(0, false)] rfl rfl ?_
          refine Jp.y 6 rfl (want_all rfl) rfl rfl Kp.true (Y.assign rfl rfl) ?_
          refine Jp.done hK21 ?_
          refine Cd.ret [] rfl (res1 rfl rfl) trivial ⟨by first | rfl | (simp; done), rfl⟩
        · skip
          try simp only [decide_eq_false_iff_not, decide_eq_true_eq, Int.not_lt, Int.not_le, Bool.not_eq_false, Bool.not_eq_true, Bool.not_true, Bool.not_false, Bool.not_eq_true', Bool.not_eq_false', beq_eq_false_iff_ne, ne_eq, beq_iff_eq, bne_iff_ne, bne_eq_false_iff_eq, Classical.not_not] at g26
          refine Cd.skip hK4 ?_
          exact Cd.meet (hj1 (by omega)) ⟨rfl, rfl, rfl, trivial⟩ ⟨rfl, trivial⟩
    · skip
      try simp only [decide_eq_false_iff_not, decide_eq_true_eq, Int.not_lt, Int.not_le, Bool.not_eq_false, Bool.not_eq_true, Bool.not_true, Bool.not_false, Bool.not_eq_true', Bool.not_eq_false', beq_eq_false_iff_ne, ne_eq, beq_iff_eq, bne_iff_ne, bne_eq_false_iff_eq, Classical.not_not] at g15
      refine Jp.skip 16 rfl (want_as rfl rfl rfl rfl) rfl rfl Kp.true ?_
      refine Jp.skip 17 rfl (want_as rfl rfl rfl rfl) rfl rfl Kp.true ?_
      refine Jp.y 18 rfl (want_all rfl) rfl rfl Kp.true (Y.pickF rfl rfl rfl) ?_
      refine Jp.y 19 rfl (want_all rfl) rfl rfl Kp.true (Y.move rfl rfl) ?_
      refine Jp.skip 20 rfl (want_as rfl rfl rfl rfl) rfl rfl Kp.true ?_
      refine Jp.skip 21 rfl (want_as rfl rfl rfl rfl) rfl rfl Kp.true ?_
      refine Jp.y 22 rfl (want_all rfl) rfl rfl Kp.true (Y.pickF rfl rfl rfl) ?_
      refine Jp.y 23 rfl (want_all rfl) rfl rfl Kp.true (Y.move rfl rfl) ?_
      refine Jp.y 24 rfl (want_as rfl rfl rfl rfl) rfl rfl Kp.true (Y.move rfl rfl) ?_
      refine Jp.y 25 rfl (want_as rfl rfl rfl rfl) rfl rfl Kp.true (Y.gtr rfl rfl rfl) ?_
      refine Jp.y 26 rfl (want_all rfl) rfl rfl Kp.true (Y.pickF rfl rfl rfl) ?_
      refine Jp.done hK5 ?_
      refine Cd.cond rfl (fun g26 => ?_) (fun g26 => ?_)
      · skip
        try simp only [decide_eq_false_iff_not, decide_eq_true_eq, Int.not_lt, Int.not_le, Bool.not_eq_false, Bool.not_eq_true, Bool.not_true, Bool.not_false, Bool.not_eq_true', Bool.not_eq_false', beq_eq_false_iff_ne, ne_eq, beq_iff_eq, bne_iff_ne, bne_eq_false_iff_eq, Classical.not_not] at g26
        refine Cd.seq fun K22 hK22 => ?_
        refine Cd.plain [(0, false)] rfl rfl ?_
        refine Jp.y 6 rfl (want_all rfl) rfl rfl Kp.true (Y.assign rfl rfl) ?_
        refine Jp.done hK22 ?_
        refine Cd.ret [] rfl (res1 rfl rfl) trivial ⟨by first | rfl | (simp; done), rfl⟩
      · skip
        try simp only [decide_eq_false_iff_not, decide_eq_true_eq, Int.not_lt, Int.not_le, Bool.not_eq_false, Bool.not_eq_true, Bool.not_true, Bool.not_false, Bool.not_eq_true', Bool.not_eq_false', beq_eq_false_iff_ne, ne_eq, beq_iff_eq, bne_iff_ne, bne_eq_false_iff_eq, Classical.not_not] at g26
        refine Cd.skip hK4 ?_
        exact Cd.meet (hj1 (by omega)) ⟨rfl, rfl, rfl, trivial⟩ ⟨rfl, trivial⟩
end Go.Proofs.Ytgmhijlcdadaeaa
