/- MemApart. -/
import Derived.Test.YtgfbdiibndbbjaaIterG
import Derived.Test.YtgfbdiibndbbjaaMemQ
set_option linter.unusedVariables false
set_option linter.unusedSimpArgs false
set_option maxRecDepth 100000
namespace Go.Proofs.Ytgfbdiibndbbjaa
open Go
theorem wr_gens_low {M : MemG} {a : Nat} {l : Bytes} : ∀ {i : Nat}, a + i ≤ 256 → 1 ≤ i → (wrM M a l i).gens 0 = (M.gens 0 + 1) % 4294967296
  | 0, _, h => by omega
  | i + 1, h, _ => by
    have hb : baseN (a + i) = 0 := base_low (by omega)
    by_cases hi : i = 0
    · subst hi
      show (if (0 = 0 ∨ (a + 0) % 256 = 0) then bump (wrM M a l 0).gens (baseN (a + 0)) else (wrM M a l 0).gens) 0 = _
      rw [if_pos (.inl rfl), hb, bump, if_pos rfl]; rfl
    · have h1 := wr_gens_low (M := M) (a := a) (l := l) (i := i) (by omega) (by omega)
      show (if (i = 0 ∨ (a + i) % 256 = 0) then bump (wrM M a l i).gens (baseN (a + i)) else (wrM M a l i).gens) 0 = _
      rw [if_neg (by omega)]; exact h1
theorem memApart_spec (s : Sl UInt8) (a v : Nat) (ha : a < 4294967296) (hv : v < 256) : Spec Try.prog 12 #[s.v, .int .u32 a, .int .u8 v] (RdB s) [] (fun ρ ρ' v L => v = .bool true ∧ L = []) := by
  obtain ⟨A, c, xs⟩ := s
  dsimp only [Sl.v]
  refine Spec.of 92 Try.func12 rfl Try.ntmps12 [(0, _), (1, _), (2, _)] rfl rfl ?_
  intro cx ρ hr h0
  have lx : xs.length ≤ 281474976710656 := hr.2.1.2
  refine Cd.seq fun K1 hK1 => ?_
  refine Cd.plain [(0, false)] rfl rfl ?_
  refine Jp.y 6 rfl (want_all rfl) rfl rfl Kp.true (Y.assign rfl rfl) ?_
  refine Jp.done hK1 ?_
  refine Cd.seq fun K2 hK2 => ?_
  refine Cd.seq fun K3 hK3 => ?_
  refine Cd.plain [(0, false), (1, false)] rfl rfl ?_
  refine Jp.call [] [] awake3_spec 14 rfl (want_all rfl) rfl rfl (Runs.fn rfl Try.call18 rfl) (by decide) (by decide) rfl trivial ?_
  rintro v1 ρ1 L1 ⟨rfl, rfl⟩
  refine ⟨rfl, fun hle1 => ⟨Kp.true, ?_⟩⟩
  have hr := RdB.up _ _ _ hle1 hr
  refine Jp.y 15 rfl (want_all rfl) rfl rfl Kp.true (Y.not rfl rfl) ?_
  refine Jp.done hK3 ?_
  refine Cd.cond rfl (fun g15 => ?_) (fun g15 => ?_)
  · skip
    exact absurd g15 (by first | (simp [str_mkS, mkS_size]; done) | (simp [str, mkS]; done))
  try simp only [decide_eq_false_iff_not, decide_eq_true_eq, Int.not_lt, Int.not_le, Bool.not_eq_false, Bool.not_eq_true, Bool.not_true, Bool.not_false, Bool.not_eq_true', Bool.not_eq_false', beq_eq_false_iff_ne, ne_eq, beq_iff_eq, bne_iff_ne, bne_eq_false_iff_eq, Classical.not_not] at g15
  refine Cd.skip hK2 ?_
  refine Cd.seq fun K4 hK4 => ?_
  refine Cd.seq fun K5 hK5 => ?_
  refine Cd.plain [(0, false), (1, false), (2, false), (3, false), (4, false), (5, false), (6, false), (7, false), (8, false), (9, false), (10, false), (11, false)] rfl rfl ?_
  refine Jp.y 16 rfl (want_all rfl) rfl rfl Kp.true (Y.move rfl rfl) ?_
  refine Jp.y 17 rfl (want_all rfl) rfl rfl Kp.true (Y.lenslice rfl Try.underlying25 rfl) ?_
  refine Jp.y 18 rfl (want_all rfl) rfl rfl Kp.true (Y.lss rfl rfl rfl) ?_
  refine Jp.y 19 rfl (want_all rfl) rfl rfl Kp.true (Y.move rfl rfl) ?_
  refine Jp.split 19 rfl (fun g19 => ?_) (fun g19 => ?_)
  · skip
    refine Jp.skip 20 rfl (want_as rfl rfl rfl rfl) rfl rfl Kp.true ?_
    refine Jp.skip 21 rfl (want_as rfl rfl rfl rfl) rfl rfl Kp.true ?_
    refine Jp.skip 22 rfl (want_as rfl rfl rfl rfl) rfl rfl Kp.true ?_
    refine Jp.y 23 rfl (want_all rfl) rfl rfl Kp.true (Y.pickT rfl rfl rfl) ?_
    refine Jp.y 24 rfl (want_all rfl) rfl rfl Kp.true (Y.move rfl rfl) ?_
    refine Jp.skip 25 rfl (want_as rfl rfl rfl rfl) rfl rfl Kp.true ?_
    refine Jp.skip 26 rfl (want_as rfl rfl rfl rfl) rfl rfl Kp.true ?_
    refine Jp.y 27 rfl (want_all rfl) rfl rfl Kp.true (Y.pickT rfl rfl rfl) ?_
    refine Jp.done hK5 ?_
    refine Cd.condT rfl ?_
    refine Cd.seq fun K6 hK6 => ?_
    refine Cd.plain [(0, false)] rfl rfl ?_
    refine Jp.y 6 rfl (want_all rfl) rfl rfl Kp.true (Y.assign rfl rfl) ?_
    refine Jp.done hK6 ?_
    refine Cd.ret [] rfl (res1 rfl rfl) trivial ⟨rfl, rfl⟩
  try simp only [decide_eq_false_iff_not, decide_eq_true_eq, Int.not_lt, Int.not_le, Bool.not_eq_false, Bool.not_eq_true, Bool.not_true, Bool.not_false, Bool.not_eq_true', Bool.not_eq_false', beq_eq_false_iff_ne, ne_eq, beq_iff_eq, bne_iff_ne, bne_eq_false_iff_eq, Classical.not_not] at g19
  refine Jp.y 20 rfl (want_as rfl rfl rfl rfl) rfl rfl Kp.true (Y.move rfl rfl) ?_
  refine Jp.y 21 rfl (want_as rfl rfl rfl rfl) rfl rfl Kp.true (Y.lenslice rfl Try.underlying25 rfl) ?_
  refine Jp.y 22 rfl (want_as rfl rfl rfl rfl) rfl rfl Kp.true (Y.gtr rfl rfl rfl) ?_
  refine Jp.y 23 rfl (want_all rfl) rfl rfl Kp.true (Y.pickF rfl rfl rfl) ?_
  refine Jp.y 24 rfl (want_all rfl) rfl rfl Kp.true (Y.move rfl rfl) ?_
  refine Jp.split 24 rfl (fun g24 => ?_) (fun g24 => ?_)
  · skip
    refine Jp.skip 25 rfl (want_as rfl rfl rfl rfl) rfl rfl Kp.true ?_
    refine Jp.skip 26 rfl (want_as rfl rfl rfl rfl) rfl rfl Kp.true ?_
    refine Jp.y 27 rfl (want_all rfl) rfl rfl Kp.true (Y.pickT rfl rfl rfl) ?_
    refine Jp.done hK5 ?_
    refine Cd.condT rfl ?_
    refine Cd.seq fun K7 hK7 => ?_
    refine Cd.plain [(0, false)] rfl rfl ?_
    refine Jp.y 6 rfl (want_all rfl) rfl rfl Kp.true (Y.assign rfl rfl) ?_
    refine Jp.done hK7 ?_
    refine Cd.ret [] rfl (res1 rfl rfl) trivial ⟨rfl, rfl⟩
  try simp only [decide_eq_false_iff_not, decide_eq_true_eq, Int.not_lt, Int.not_le, Bool.not_eq_false, Bool.not_eq_true, Bool.not_true, Bool.not_false, Bool.not_eq_true', Bool.not_eq_false', beq_eq_false_iff_ne, ne_eq, beq_iff_eq, bne_iff_ne, bne_eq_false_iff_eq, Classical.not_not] at g24
  refine Jp.y 25 rfl (want_as rfl rfl rfl rfl) rfl rfl Kp.true (Y.move rfl rfl) ?_
  refine Jp.y 26 rfl (want_as rfl rfl rfl rfl) rfl rfl Kp.true (Y.gtr rfl rfl rfl) ?_
  refine Jp.y 27 rfl (want_all rfl) rfl rfl Kp.true (Y.pickF rfl rfl rfl) ?_
  refine Jp.done hK5 ?_
  refine Cd.cond rfl (fun g27 => ?_) (fun g27 => ?_)
  · skip
    refine Cd.seq fun K8 hK8 => ?_
    refine Cd.plain [(0, false)] rfl rfl ?_
    refine Jp.y 6 rfl (want_all rfl) rfl rfl Kp.true (Y.assign rfl rfl) ?_
    refine Jp.done hK8 ?_
    refine Cd.ret [] rfl (res1 rfl rfl) trivial ⟨rfl, rfl⟩
  try simp only [decide_eq_false_iff_not, decide_eq_true_eq, Int.not_lt, Int.not_le, Bool.not_eq_false, Bool.not_eq_true, Bool.not_true, Bool.not_false, Bool.not_eq_true', Bool.not_eq_false', beq_eq_false_iff_ne, ne_eq, beq_iff_eq, bne_iff_ne, bne_eq_false_iff_eq, Classical.not_not] at g27
  refine Cd.skip hK4 ?_
  refine Cd.seq fun K9 hK9 => ?_
  refine Cd.plain [(0, false), (1, false), (2, false), (3, false), (4, false), (5, false)] rfl rfl ?_
  have hx1 : 1 ≤ xs.length := by omega
  have hx2 : xs.length ≤ 200 := by omega
  have ha2 : a ≤ 50 := by omega
  obtain ⟨M1, hM1⟩ : ∃ M, M = (mapM (newM 4) 0 256 3).2 := ⟨_, rfl⟩
  have hk1 : M1.pages.map (·.1) = [0] := by rw [hM1]; decide
  have hp1 : getPg M1.pages 0 = some ⟨List.replicate 256 0, 3⟩ := by rw [hM1]; rfl
  have hg1 : M1.gens 0 = 1 := by rw [hM1]; rfl
  have hb : baseN a = 0 := base_low (by omega)
  have hcnt : allCnt a xs.length = 1 := by unfold allCnt; omega
  have hall : ∀ need, may 3 need = true → allM M1 a xs.length need = true := fun need hm => allM_yes (by omega) fun j hj => by
    have : j = 0 := by omega
    subst this
    rw [hb, pgOk_some hp1]; exact hm
  obtain ⟨M2, hM2⟩ : ∃ M, M = wrM M1 a xs xs.length := ⟨_, rfl⟩
  have hW : writeM M1 a xs 4096 2 = (0, M2) := by rw [writeM, if_neg (by omega), if_neg (by rw [hall 2 (by decide)]; simp), hM2]
  have hL : readL M2 a xs.length = xs := by
    rw [hM2]
    refine readL_wrM fun j hj => ?_
    rw [show baseN (a + j) = 0 from base_low (by omega)]
    exact ⟨_, hp1, List.length_replicate⟩
  have ok2 : ∀ need, allM M2 a xs.length need = allM M1 a xs.length need := fun need => allM_congr _ _ _ fun k => by rw [hM2]; exact pgOk_wrM ..
  have hR : readM M2 a xs.length = (xs, 0) := by
    rw [readM, if_neg (by omega), if_neg (by show ¬ allM M2 a xs.length 1 = false; rw [ok2, hall 1 (by decide)]; simp)]
    show (readL M2 a xs.length, _) = _
    rw [hL]
  have hk2 : M2.pages.map (·.1) = [0] := by rw [hM2, wrM_keys, hk1]
  have hl2 : M2.pages.length = 1 := by have := congrArg List.length hk2; simpa using this
  have hg2 : M2.gens (baseN 0) = 2 := by
    rw [hM2, show baseN 0 = 0 from rfl, wr_gens_low (by omega) (by omega), hg1]
  refine Jp.call [] [0] (new_yes 4 (by omega)) 29 rfl (want_all rfl) rfl rfl (Runs.fn rfl Try.call19 rfl) (by decide) (by decide) rfl trivial ?_
  rintro v2 ρ2 L2 ⟨rfl, b, rfl, rfl⟩
  refine ⟨rfl, fun hle2 => ⟨Kp.true, ?_⟩⟩
  refine Jp.y 28 rfl (want_all rfl) rfl rfl Kp.true (Y.move rfl rfl) ?_
  refine Jp.y 30 rfl (want_all rfl) rfl rfl Kp.true (Y.extract rfl rfl rfl) ?_
  refine Jp.y 31 rfl (want_all rfl) rfl rfl Kp.true (Y.extract rfl rfl rfl) ?_
  refine Jp.y 7 rfl (want_all rfl) rfl rfl Kp.true (Y.assign rfl rfl) ?_
  refine Jp.y 8 rfl (want_all rfl) rfl rfl Kp.true (Y.assign rfl rfl) ?_
  refine Jp.done hK9 ?_
  refine Cd.seq fun K10 hK10 => ?_
  refine Cd.plain [(0, false), (1, false)] rfl rfl ?_
  refine Jp.y 32 rfl (want_all rfl) rfl rfl Kp.true (Y.move rfl rfl) ?_
  refine Jp.call [0] [0] (map_eq (a := 0) (n := 256) (perm := 3) (e := 0) (by omega) (by omega) (by decide) hM1.symm) 33 rfl (want_all rfl) rfl rfl (Runs.fn rfl Try.call20 rfl) (by decide) (by decide) rfl trivial ?_
  rintro v3 ρ3 L3 ⟨rfl, rfl, rfl⟩
  refine ⟨rfl, fun hle3 => ⟨Kp.true, ?_⟩⟩
  refine Jp.done hK10 ?_
  refine Cd.seq fun K11 hK11 => ?_
  refine Cd.plain [(0, false), (1, false), (2, false), (3, false)] rfl rfl ?_
  refine Jp.y 34 rfl (want_all rfl) rfl rfl Kp.true (Y.move rfl rfl) ?_
  refine Jp.y 35 rfl (want_all rfl) rfl rfl Kp.true (Y.move rfl rfl) ?_
  refine Jp.y 36 rfl (want_all rfl) rfl rfl Kp.true (Y.move rfl rfl) ?_
  refine Jp.call [0] [0] (write_eq (a := a) (s := ⟨A, c, xs⟩) (by omega) hW) 37 rfl (want_all rfl) rfl rfl (Runs.fn rfl Try.call24 rfl) (by decide) (by decide) rfl hr ?_
  rintro v4 ρ4 L4 ⟨rfl, rfl, rfl⟩
  refine ⟨rfl, fun hle4 => ⟨Kp.true, ?_⟩⟩
  refine Jp.done hK11 ?_
  refine Cd.seq fun K12 hK12 => ?_
  refine Cd.plain [(0, false), (1, false), (2, false)] rfl rfl ?_
  refine Jp.y 38 rfl (want_all rfl) rfl rfl Kp.true (Y.move rfl rfl) ?_
  refine Jp.call [0] [0, 20] (copy_spec b M2) 39 rfl (want_all rfl) rfl rfl (Runs.fn rfl Try.call33 rfl) (by decide) (by decide) rfl trivial ?_
  rintro v5 ρ5 L5 ⟨rfl, b', rfl, rfl⟩
  refine ⟨rfl, fun hle5 => ⟨Kp.true, ?_⟩⟩
  refine Jp.y 9 rfl (want_all rfl) rfl rfl Kp.true (Y.assign rfl rfl) ?_
  refine Jp.done hK12 ?_
  refine Cd.seq fun K13 hK13 => ?_
  refine Cd.plain [(0, false), (1, false), (2, false), (3, false), (4, false), (5, false)] rfl rfl ?_
  refine Jp.y 40 rfl (want_all rfl) rfl rfl Kp.true (Y.move rfl rfl) ?_
  refine Jp.y 41 rfl (want_all rfl) rfl rfl Kp.true (Y.move rfl rfl) ?_
  refine Jp.y 42 rfl (want_all rfl) rfl rfl Kp.true (Y.move rfl rfl) ?_
  refine Jp.y 43 rfl (want_all rfl) rfl rfl Kp.true (Y.conv_ rfl rfl Try.underlying5 Try.underlying26 (wrap_u32 (by omega) (by omega))) ?_
  refine Jp.y 44 rfl (want_all rfl) rfl rfl Kp.true (Y.add_ rfl rfl rfl (wrap_u32 (by omega) (by omega))) ?_
  rw [show ((v : Int) + 1) = ((v + 1 : Nat) : Int) from rfl]
  refine Jp.call [20] [20] (store_eq (a := a) (size := 1) (v := v + 1) (by omega) (by omega) rfl rfl) 45 rfl (want_all rfl) rfl rfl (Runs.fn rfl Try.call21 rfl) (by decide) (by decide) rfl trivial ?_
  rintro v6 ρ6 L6 ⟨rfl, rfl, rfl⟩
  refine ⟨rfl, fun hle6 => ⟨Kp.true, ?_⟩⟩
  refine Jp.done hK13 ?_
  refine Cd.seq fun K14 hK14 => ?_
  refine Cd.plain [(0, false), (1, false)] rfl rfl ?_
  refine Jp.y 46 rfl (want_all rfl) rfl rfl Kp.true (Y.move rfl rfl) ?_
  refine Jp.call [20] [20] (unmap_eq (a := 0) (n := 1) (by omega) (by omega) rfl) 47 rfl (want_all rfl) rfl rfl (Runs.fn rfl Try.call27 rfl) (by decide) (by decide) rfl trivial ?_
  rintro v7 ρ7 L7 ⟨rfl, rfl, rfl⟩
  refine ⟨rfl, fun hle7 => ⟨Kp.true, ?_⟩⟩
  refine Jp.done hK14 ?_
  refine Cd.seq fun K15 hK15 => ?_
  refine Cd.plain [(0, false), (1, false)] rfl rfl ?_
  refine Jp.y 48 rfl (want_all rfl) rfl rfl Kp.true (Y.move rfl rfl) ?_
  refine Jp.call [20] [20] (map_eq (a := 512) (n := 1) (perm := 7) (by omega) (by omega) rfl rfl) 49 rfl (want_all rfl) rfl rfl (Runs.fn rfl Try.call20 rfl) (by decide) (by decide) rfl trivial ?_
  rintro v8 ρ8 L8 ⟨rfl, rfl, rfl⟩
  refine ⟨rfl, fun hle8 => ⟨Kp.true, ?_⟩⟩
  refine Jp.done hK15 ?_
  refine Cd.seq fun K16 hK16 => ?_
  refine Cd.plain [(0, false), (1, false), (2, false), (3, false), (4, false), (5, false), (6, false), (7, false), (8, false), (9, false)] rfl rfl ?_
  refine Jp.y 51 rfl (want_all rfl) rfl rfl Kp.true (Y.move rfl rfl) ?_
  refine Jp.y 52 rfl (want_all rfl) rfl rfl Kp.true (Y.move rfl rfl) ?_
  refine Jp.y 53 rfl (want_all rfl) rfl rfl Kp.true (Y.move rfl rfl) ?_
  refine Jp.y 54 rfl (want_all rfl) rfl rfl Kp.true (Y.lenslice rfl Try.underlying25 rfl) ?_
  refine Jp.call [0] [0, 1] (read_eq (a := a) (by omega) hR) 55 rfl (want_all rfl) rfl rfl (Runs.fn rfl Try.call23 rfl) (by decide) (by decide) rfl trivial ?_
  rintro v9 ρ9 L9 ⟨rfl, A9, c9, rfl, rfl⟩
  refine ⟨rfl, fun hle9 => ⟨Kp.true, ?_⟩⟩
  refine Jp.know (φ := ∃ q, A9 = some ⟨q, 0, none⟩) 1 rfl (fun k h => by
    rcases h.2 with ⟨_, h2, _⟩ | ⟨q, _, _, h2, _⟩
    · omega
    · exact ⟨q, h2⟩) ?_
  rintro ⟨q9, rfl⟩
  have hx0 : (bytesV xs)[0]? = some (.int .u8 ((xs[0]'(by omega)).toNat : Int)) := by
    rw [bytesV, List.getElem?_map, List.getElem?_eq_getElem (by omega)]; rfl
  refine Jp.y 50 rfl (want_all rfl) rfl rfl Kp.true (Y.move rfl rfl) ?_
  refine Jp.y 56 rfl (want_all rfl) rfl rfl Kp.true (Y.extract rfl rfl rfl) ?_
  refine Jp.y 57 rfl (want_all rfl) rfl rfl Kp.true (Y.extract rfl rfl rfl) ?_
  refine Jp.y 10 rfl (want_all rfl) rfl rfl Kp.true (Y.assign rfl rfl) ?_
  refine Jp.y 11 rfl (want_all rfl) rfl rfl Kp.true (Y.assign rfl rfl) ?_
  refine Jp.done hK16 ?_
  refine Cd.seq fun K17 hK17 => ?_
  refine Cd.plain [(0, false), (1, false), (2, false), (3, false), (4, false), (5, false), (6, false)] rfl rfl ?_
  refine Jp.y 58 rfl (want_all rfl) rfl rfl Kp.true (Y.move rfl rfl) ?_
  refine Jp.y 59 rfl (want_all rfl) rfl rfl Kp.true (Y.move rfl rfl) ?_
  refine Jp.y 60 rfl (want_all rfl) rfl rfl Kp.true (Y.indexAddr (q := 0) rfl rfl rfl Try.underlying25 Try.sizeOf5 (by omega) (by omega) (by omega)) ?_
  refine Jp.y 61 rfl (want_all rfl) rfl rfl Kp.true (Y.loadS 1 (q := 0) rfl Try.isAgg5 rfl rfl rfl hx0) ?_
  refine Jp.y 62 rfl (want_all rfl) rfl rfl Kp.true (Y.add_ rfl rfl rfl rfl) ?_
  refine Jp.y 63 rfl (want_all rfl) rfl rfl Kp.true (Y.indexAddr (q := 0) rfl rfl rfl Try.underlying25 Try.sizeOf5 (by omega) (by omega) (by omega)) ?_
  refine Jp.storeS 1 (q := 0) rfl (want_all rfl) rfl rfl Try.sizeOf5 rfl rfl rfl rfl rfl (by omega) (_) rfl Kp.true ?_
  refine Jp.done hK17 ?_
  refine Cd.seq fun K18 hK18 => ?_
  refine Cd.plain [(0, false), (1, false), (2, false), (3, false), (4, false), (5, false), (6, false), (7, false), (8, false), (9, false)] rfl rfl ?_
  refine Jp.y 65 rfl (want_all rfl) rfl rfl Kp.true (Y.move rfl rfl) ?_
  refine Jp.y 66 rfl (want_all rfl) rfl rfl Kp.true (Y.move rfl rfl) ?_
  refine Jp.y 67 rfl (want_all rfl) rfl rfl Kp.true (Y.move rfl rfl) ?_
  refine Jp.y 68 rfl (want_all rfl) rfl rfl Kp.true (Y.lenslice rfl Try.underlying25 rfl) ?_
  refine Jp.call [0] [0, 2] (read_eq (a := a) (by omega) hR) 69 rfl (want_all rfl) rfl rfl (Runs.fn rfl Try.call23 rfl) (by decide) (by decide) rfl trivial ?_
  rintro v10 ρ10 L10 ⟨rfl, A10, c10, rfl, rfl⟩
  refine ⟨rfl, fun hle10 => ⟨Kp.true, ?_⟩⟩
  refine Jp.y 64 rfl (want_all rfl) rfl rfl Kp.true (Y.move rfl rfl) ?_
  refine Jp.y 70 rfl (want_all rfl) rfl rfl Kp.true (Y.extract rfl rfl rfl) ?_
  refine Jp.y 71 rfl (want_all rfl) rfl rfl Kp.true (Y.extract rfl rfl rfl) ?_
  refine Jp.y 12 rfl (want_all rfl) rfl rfl Kp.true (Y.assign rfl rfl) ?_
  refine Jp.y 13 rfl (want_all rfl) rfl rfl Kp.true (Y.assign rfl rfl) ?_
  refine Jp.done hK18 ?_
  refine Cd.seq fun K19 hK19 => ?_
  refine Cd.plain [(0, false), (1, false), (2, false), (3, false), (4, false), (5, false), (6, false), (7, false), (8, false), (9, false), (10, false), (11, false), (12, false), (13, false), (14, false), (15, false), (16, false), (17, false), (18, false), (19, false), (20, false)] rfl rfl ?_
  refine Jp.y 72 rfl (want_all rfl) rfl rfl Kp.true (Y.move rfl rfl) ?_
  refine Jp.y 73 rfl (want_all rfl) rfl rfl Kp.true (Y.eql rfl rfl rfl) ?_
  refine Jp.y 74 rfl (want_all rfl) rfl rfl Kp.true (Y.move rfl rfl) ?_
  refine Jp.splitF 74 rfl (fun g74 => ?_) (fun g74 => ?_)
  · skip
    exact absurd g74 (by first | (simp [str_mkS, mkS_size]; done) | (simp [str, mkS]; done))
  try simp only [decide_eq_false_iff_not, decide_eq_true_eq, Int.not_lt, Int.not_le, Bool.not_eq_false, Bool.not_eq_true, Bool.not_true, Bool.not_false, Bool.not_eq_true', Bool.not_eq_false', beq_eq_false_iff_ne, ne_eq, beq_iff_eq, bne_iff_ne, bne_eq_false_iff_eq, Classical.not_not] at g74
  refine Jp.y 75 rfl (want_as rfl rfl rfl rfl) rfl rfl Kp.true (Y.move rfl rfl) ?_
  refine Jp.y 76 rfl (want_as rfl rfl rfl rfl) rfl rfl Kp.true (Y.toStr _ rfl rfl Try.underlying25 Try.underlying9 Try.underlying5 ⟨_, _, rfl⟩ (Src.own 2 rfl)) ?_
  refine Jp.y 77 rfl (want_as rfl rfl rfl rfl) rfl rfl Kp.true (Y.move rfl rfl) ?_
  refine Jp.y 78 rfl (want_as rfl rfl rfl rfl) rfl rfl Kp.true (Y.toStr _ rfl rfl Try.underlying25 Try.underlying9 Try.underlying5 ⟨_, _, rfl⟩ (Src.rd hr)) ?_
  refine Jp.y 79 rfl (want_as rfl rfl rfl rfl) rfl rfl Kp.true (Y.streql rfl rfl rfl) ?_
  refine Jp.y 80 rfl (want_all rfl) rfl rfl Kp.true (Y.pickT rfl rfl rfl) ?_
  refine Jp.y 81 rfl (want_all rfl) rfl rfl Kp.true (Y.move rfl rfl) ?_
  refine Jp.splitF 81 rfl (fun g81 => ?_) (fun g81 => ?_)
  · skip
    exact absurd g81 (by first | (simp [str_mkS, mkS_size]; done) | (simp [str, mkS]; done))
  try simp only [decide_eq_false_iff_not, decide_eq_true_eq, Int.not_lt, Int.not_le, Bool.not_eq_false, Bool.not_eq_true, Bool.not_true, Bool.not_false, Bool.not_eq_true', Bool.not_eq_false', beq_eq_false_iff_ne, ne_eq, beq_iff_eq, bne_iff_ne, bne_eq_false_iff_eq, Classical.not_not] at g81
  refine Jp.y 82 rfl (want_as rfl rfl rfl rfl) rfl rfl Kp.true (Y.move rfl rfl) ?_
  refine Jp.call [0] [0, 3] (pages_spec b M2 (sorts12 _ (by omega))) 83 rfl (want_as rfl rfl rfl rfl) rfl rfl (Runs.fn rfl Try.call29 rfl) (by decide) (by decide) rfl trivial ?_
  rintro v11 ρ11 L11 ⟨A11, c11, rfl, rfl⟩
  refine ⟨rfl, fun hle11 => ⟨Kp.true, ?_⟩⟩
  rw [hl2]
  refine Jp.y 84 rfl (want_as rfl rfl rfl rfl) rfl rfl Kp.true (Y.lenslice rfl Try.underlying56 rfl) ?_
  refine Jp.y 85 rfl (want_as rfl rfl rfl rfl) rfl rfl Kp.true (Y.eql rfl rfl rfl) ?_
  refine Jp.y 86 rfl (want_all rfl) rfl rfl Kp.true (Y.pickT rfl rfl rfl) ?_
  refine Jp.y 87 rfl (want_all rfl) rfl rfl Kp.true (Y.move rfl rfl) ?_
  refine Jp.splitF 87 rfl (fun g87 => ?_) (fun g87 => ?_)
  · skip
    exact absurd g87 (by first | (simp [str_mkS, mkS_size]; done) | (simp [str, mkS]; done))
  try simp only [decide_eq_false_iff_not, decide_eq_true_eq, Int.not_lt, Int.not_le, Bool.not_eq_false, Bool.not_eq_true, Bool.not_true, Bool.not_false, Bool.not_eq_true', Bool.not_eq_false', beq_eq_false_iff_ne, ne_eq, beq_iff_eq, bne_iff_ne, bne_eq_false_iff_eq, Classical.not_not] at g87
  refine Jp.y 88 rfl (want_as rfl rfl rfl rfl) rfl rfl Kp.true (Y.move rfl rfl) ?_
  refine Jp.call [0] [0] (gen_eq (a := 0) (by omega) hg2) 89 rfl (want_as rfl rfl rfl rfl) rfl rfl (Runs.fn rfl Try.call25 rfl) (by decide) (by decide) rfl trivial ?_
  rintro v12 ρ12 L12 ⟨rfl, rfl, rfl⟩
  refine ⟨rfl, fun hle12 => ⟨Kp.true, ?_⟩⟩
  refine Jp.y 90 rfl (want_as rfl rfl rfl rfl) rfl rfl Kp.true (Y.eql rfl rfl rfl) ?_
  refine Jp.y 91 rfl (want_all rfl) rfl rfl Kp.true (Y.pickT rfl rfl rfl) ?_
  refine Jp.y 6 rfl (want_all rfl) rfl rfl Kp.true (Y.assign rfl rfl) ?_
  refine Jp.done hK19 ?_
  refine Cd.ret [] rfl (res1 rfl rfl) trivial ⟨rfl, rfl⟩
end Go.Proofs.Ytgfbdiibndbbjaa
