/- Law 4: ShadowKnown. -/
import Derived.Test.YtgmhijlcdadaeaaShP
import Derived.Test.YtgmhijlcdadaeaaEngV3
set_option linter.unusedVariables false
set_option linter.unusedSimpArgs false
set_option maxRecDepth 100000
namespace Go.Proofs.Ytgmhijlcdadaeaa
open Go
theorem tag_guard : Try.prog.eqGuardType Try.prog.depth 64 = false := by kernel_rfl
theorem tag_info : (Try.prog.info? 5).isSome = true := by kernel_rfl
theorem tag_cells : Try.prog.cellsOf 5 = 1 := by kernel_rfl
theorem tag_eq {a b : Bytes} (ha : a.length = 4) (hb : b.length = 4) (w : World) : (Op.equalIn 10000 64 (.agg (bytesV a).toArray) (.agg (bytesV b).toArray)).run Try.prog w = .ok (decide (a = b)) w := by
  rw [bytesV_int, bytesV_int, equal_arr (d := 9998) Try.underlying64 tag_info tag_cells Try.isAgg5 Try.underlying5 (by rw [List.length_map]; exact ha) (by rw [List.length_map]; exact hb), bytes_dec]
def kS1 : ShG := (fillM ⟨2, []⟩ 4294967294 9 3).2
def kS2 : ShG := (setM kS1 254 [1, 2, 0]).2
def kS3 : ShG := clearM kS2 4294967294 1
def kS4 : ShG := (putM kS3 4294967295 4 [0, 0, 0, 0]).2
theorem kn1 : (fillM ⟨2, []⟩ 4294967294 9 3).1 = 0 := by kernel_rfl
theorem kn2 : fillM kS1 0 1048577 0 = (1, kS1) := if_pos (by decide)
theorem kok1 : ShOk kS1.pages := by
  have e : kS1 = (setM ⟨2, []⟩ 4294967294 (List.replicate 9 3)).2 := rfl
  rw [e]; exact setM_ok (S := ⟨2, []⟩) shOk_nil _ (by omega)
theorem klab1 (x : Nat) : labL kS1.pages x = if 4294967294 ≤ x ∧ x < 4294967296 then 3 else 0 := by
  have e : kS1 = (setM ⟨2, []⟩ 4294967294 (List.replicate 9 3)).2 := rfl
  have h : kS1.pages = layP [] 4294967294 [3, 3] := by kernel_rfl
  rw [h, labL_lay shOk_nil (by decide)]
  by_cases hx : 4294967294 ≤ x ∧ x < 4294967296
  · rw [if_pos hx, if_pos (by simpa using hx)]
    rcases (show x = 4294967294 ∨ x = 4294967295 by omega) with rfl | rfl <;> rfl
  · rw [if_neg hx, if_neg (by simpa using hx)]; rfl
theorem kn3 : fillM kS1 0 1048576 0 = (0, kS1) := by
  have e : layP kS1.pages 0 (List.replicate 1048576 0) = kS1.pages := by
    refine lab_ext (lay_ok kok1 (by rw [List.length_replicate]; omega)) kok1 fun x hx => ?_
    rw [labL_lay kok1 (by rw [List.length_replicate]; omega), List.length_replicate]
    split
    · rename_i h
      rw [klab1, if_neg (by omega), List.getD_eq_getElem?_getD, List.getElem?_replicate, if_pos (by omega)]; rfl
    · rfl
  have hl : kS1.pages.length = 1 := by kernel_rfl
  have hb : kS1.budget = 2 := by kernel_rfl
  unfold fillM
  rw [if_neg (by decide)]
  unfold setM
  rw [show ((1048576 : Int).toNat) = 1048576 from rfl, List.take_of_length_le (by rw [List.length_replicate]; omega), e, if_neg (by omega)]
theorem kn4 : (setM kS1 254 [1, 2, 0]).1 = 0 := by kernel_rfl
theorem kn5 : setM kS2 255 [1, 2] = (6, kS2) := by
  have h : (setM kS2 255 [1, 2]).1 = 6 := by kernel_rfl
  unfold setM at h ⊢
  split
  · rfl
  · rename_i h1; rw [if_neg h1] at h; exact absurd h (by decide)
theorem kn6 : tagM kS2 4294967294 4 = [3, 3, 0, 0] := by kernel_rfl
theorem kn7 : anyM kS2 0 (-5) = 0 := by kernel_rfl
theorem kn8 : anyM kS2 4294967295 100 = 3 := by kernel_rfl
theorem kn9 : labL kS3.pages 4294967294 = 0 := by kernel_rfl
theorem kn10 : (putM kS3 4294967295 4 [0, 0, 0, 0]).1 = 0 := by kernel_rfl
theorem kn11 : labL kS4.pages 255 = 2 := by kernel_rfl
theorem kn12 : kS4.pages.length = 1 := by kernel_rfl
theorem shadowKnown_spec : Spec Try.prog 12 #[] (fun _ => True) [] (fun ρ ρ' v L => v = .bool true ∧ L = []) := by
  refine Spec.of 114 Try.func12 rfl Try.ntmps12 [] rfl rfl ?_
  intro cx ρ hr h0
  refine Cd.seq fun K1 hK1 => ?_
  refine Cd.plain [(0, false)] rfl rfl ?_
  refine Jp.y 0 rfl (want_all rfl) rfl rfl Kp.true (Y.assign rfl rfl) ?_
  refine Jp.done hK1 ?_
  refine Cd.seq fun K2 hK2 => ?_
  refine Cd.seq fun K3 hK3 => ?_
  refine Cd.plain [(0, false), (1, false)] rfl rfl ?_
  refine Jp.call [] [] awake4_spec 17 rfl (want_all rfl) rfl rfl (Runs.fn rfl Try.call25 rfl) (by decide) (by decide) rfl trivial ?_
  rintro v1 ρ1 L1 ⟨rfl, rfl⟩
  refine ⟨rfl, fun hle1 => ⟨Kp.true, ?_⟩⟩
  refine Jp.y 18 rfl (want_all rfl) rfl rfl Kp.true (Y.not rfl rfl) ?_
  refine Jp.done hK3 ?_
  refine Cd.cond rfl (fun g18 => ?_) (fun g18 => ?_)
  · skip
    exact absurd g18 (by simp)
  try simp only [decide_eq_false_iff_not, decide_eq_true_eq, Int.not_lt, Int.not_le, Bool.not_eq_false, Bool.not_eq_true, Bool.not_true, Bool.not_false, Bool.not_eq_true', Bool.not_eq_false', beq_eq_false_iff_ne, ne_eq, beq_iff_eq, bne_iff_ne, bne_eq_false_iff_eq, Classical.not_not] at g18
  refine Cd.skip hK2 ?_
  refine Cd.seq fun K4 hK4 => ?_
  refine Cd.plain [(0, false), (1, false), (2, false), (3, false), (4, false), (5, false)] rfl rfl ?_
  refine Jp.call [] [] (shNew_no (-1) (by omega)) 20 rfl (want_all rfl) rfl rfl (Runs.fn rfl Try.call26 rfl) (by decide) (by decide) rfl trivial ?_
  rintro v2 ρ2 L2 ⟨rfl, rfl, rfl⟩
  refine ⟨rfl, fun hle2 => ⟨Kp.true, ?_⟩⟩
  refine Jp.y 19 rfl (want_all rfl) rfl rfl Kp.true (Y.move rfl rfl) ?_
  refine Jp.y 21 rfl (want_all rfl) rfl rfl Kp.true (Y.extract rfl rfl rfl) ?_
  refine Jp.y 22 rfl (want_all rfl) rfl rfl Kp.true (Y.extract rfl rfl rfl) ?_
  refine Jp.y 1 rfl (want_all rfl) rfl rfl Kp.true (Y.assign rfl rfl) ?_
  refine Jp.y 2 rfl (want_all rfl) rfl rfl Kp.true (Y.assign rfl rfl) ?_
  refine Jp.done hK4 ?_
  refine Cd.seq fun K5 hK5 => ?_
  refine Cd.plain [(0, false), (1, false), (2, false), (3, false), (4, false), (5, false)] rfl rfl ?_
  refine Jp.call [] [] (shNew_no 4097 (by omega)) 24 rfl (want_all rfl) rfl rfl (Runs.fn rfl Try.call26 rfl) (by decide) (by decide) rfl trivial ?_
  rintro v3 ρ3 L3 ⟨rfl, rfl, rfl⟩
  refine ⟨rfl, fun hle3 => ⟨Kp.true, ?_⟩⟩
  refine Jp.y 23 rfl (want_all rfl) rfl rfl Kp.true (Y.move rfl rfl) ?_
  refine Jp.y 25 rfl (want_all rfl) rfl rfl Kp.true (Y.extract rfl rfl rfl) ?_
  refine Jp.y 26 rfl (want_all rfl) rfl rfl Kp.true (Y.extract rfl rfl rfl) ?_
  refine Jp.y 3 rfl (want_all rfl) rfl rfl Kp.true (Y.assign rfl rfl) ?_
  refine Jp.y 4 rfl (want_all rfl) rfl rfl Kp.true (Y.assign rfl rfl) ?_
  refine Jp.done hK5 ?_
  refine Cd.seq fun K6 hK6 => ?_
  refine Cd.plain [(0, false), (1, false), (2, false), (3, false), (4, false), (5, false)] rfl rfl ?_
  refine Jp.call [] [1] (shNew_yes 2 (by omega)) 28 rfl (want_all rfl) rfl rfl (Runs.fn rfl Try.call26 rfl) (by decide) (by decide) rfl trivial ?_
  rintro v4 ρ4 L4 ⟨rfl, b, rfl, rfl⟩
  refine ⟨rfl, fun hle4 => ⟨Kp.true, ?_⟩⟩
  refine Jp.y 27 rfl (want_all rfl) rfl rfl Kp.true (Y.move rfl rfl) ?_
  refine Jp.y 29 rfl (want_all rfl) rfl rfl Kp.true (Y.extract rfl rfl rfl) ?_
  refine Jp.y 30 rfl (want_all rfl) rfl rfl Kp.true (Y.extract rfl rfl rfl) ?_
  refine Jp.y 5 rfl (want_all rfl) rfl rfl Kp.true (Y.assign rfl rfl) ?_
  refine Jp.y 6 rfl (want_all rfl) rfl rfl Kp.true (Y.assign rfl rfl) ?_
  refine Jp.done hK6 ?_
  refine Cd.seq fun K7 hK7 => ?_
  refine Cd.plain [(0, false), (1, false), (2, false)] rfl rfl ?_
  refine Jp.y 31 rfl (want_all rfl) rfl rfl Kp.true (Y.move rfl rfl) ?_
  refine Jp.call [1] [1] (shFill_spec b ⟨2, []⟩ 4294967294 9 3 (by omega)) 32 rfl (want_all rfl) rfl rfl (Runs.fn rfl Try.call28 rfl) (by decide) (by decide) rfl trivial ?_
  rintro v5 ρ5 L5 ⟨rfl, rfl, rfl⟩
  refine ⟨rfl, fun hle5 => ⟨Kp.true, ?_⟩⟩
  refine Jp.imp (j := 1) rfl (fun h hh => (show ShO b kS1 h from hh)) ?_
  rw [kn1]
  refine Jp.y 7 rfl (want_all rfl) rfl rfl Kp.true (Y.assign rfl rfl) ?_
  refine Jp.done hK7 ?_
  refine Cd.seq fun K8 hK8 => ?_
  refine Cd.plain [(0, false), (1, false), (2, false)] rfl rfl ?_
  refine Jp.y 33 rfl (want_all rfl) rfl rfl Kp.true (Y.move rfl rfl) ?_
  refine Jp.call [1] [1] (shFill_spec b kS1 0 1048577 0 (by omega)) 34 rfl (want_all rfl) rfl rfl (Runs.fn rfl Try.call28 rfl) (by decide) (by decide) rfl trivial ?_
  rintro v6 ρ6 L6 ⟨rfl, rfl, rfl⟩
  refine ⟨rfl, fun hle6 => ⟨Kp.true, ?_⟩⟩
  rw [kn2]
  refine Jp.y 8 rfl (want_all rfl) rfl rfl Kp.true (Y.assign rfl rfl) ?_
  refine Jp.done hK8 ?_
  refine Cd.seq fun K9 hK9 => ?_
  refine Cd.plain [(0, false), (1, false), (2, false)] rfl rfl ?_
  refine Jp.y 35 rfl (want_all rfl) rfl rfl Kp.true (Y.move rfl rfl) ?_
  refine Jp.call [1] [1] (shFill_spec b kS1 0 1048576 0 (by omega)) 36 rfl (want_all rfl) rfl rfl (Runs.fn rfl Try.call28 rfl) (by decide) (by decide) rfl trivial ?_
  rintro v7 ρ7 L7 ⟨rfl, rfl, rfl⟩
  refine ⟨rfl, fun hle7 => ⟨Kp.true, ?_⟩⟩
  rw [kn3]
  refine Jp.y 9 rfl (want_all rfl) rfl rfl Kp.true (Y.assign rfl rfl) ?_
  refine Jp.done hK9 ?_
  refine Cd.seq fun K10 hK10 => ?_
  refine Cd.plain [(0, false), (1, false), (2, false), (3, false)] rfl rfl ?_
  refine Jp.y 37 rfl (want_all rfl) rfl rfl Kp.true (Y.move rfl rfl) ?_
  refine Jp.lit 38 40 [(0, _), (1, _), (2, _)] [_, _, _] rfl (want_all rfl) rfl rfl rfl rfl Try.underlying38 Try.sizeOf5 Try.zeroValue5 rfl rfl rfl rfl rfl fun b40 => ⟨Kp.true, ?_⟩
  refine Jp.freeze (i := 40) rfl (OwnS.up _ _ _ _ _ _) fun ρa hlea hAa => ?_
  refine Jp.call [1] [1] (shSet_spec b kS1 254 ⟨some ⟨b40, 0, none⟩, 3, [1, 2, 0]⟩ (by omega) (by show 3 ≤ 1048576; omega)) 39 rfl (want_all rfl) rfl rfl (Runs.fn rfl Try.call30 rfl) (by decide) (by decide) rfl hAa.rd ?_
  rintro v8 ρ8 L8 ⟨rfl, rfl, rfl⟩
  refine ⟨rfl, fun hle8 => ⟨Kp.true, ?_⟩⟩
  refine Jp.imp (j := 1) rfl (fun h hh => (show ShO b kS2 h from hh)) ?_
  rw [kn4]
  refine Jp.y 10 rfl (want_all rfl) rfl rfl Kp.true (Y.assign rfl rfl) ?_
  refine Jp.done hK10 ?_
  refine Cd.seq fun K11 hK11 => ?_
  refine Cd.plain [(0, false), (1, false), (2, false), (3, false)] rfl rfl ?_
  refine Jp.y 40 rfl (want_all rfl) rfl rfl Kp.true (Y.move rfl rfl) ?_
  refine Jp.lit 41 41 [(0, _), (1, _)] [_, _] rfl (want_all rfl) rfl rfl rfl rfl Try.underlying38 Try.sizeOf5 Try.zeroValue5 rfl rfl rfl rfl rfl fun b41 => ⟨Kp.true, ?_⟩
  refine Jp.freeze (i := 41) rfl (OwnS.up _ _ _ _ _ _) fun ρb hleb hAb => ?_
  refine Jp.call [1] [1] (shSet_spec b kS2 255 ⟨some ⟨b41, 0, none⟩, 2, [1, 2]⟩ (by omega) (by show 2 ≤ 1048576; omega)) 42 rfl (want_all rfl) rfl rfl (Runs.fn rfl Try.call30 rfl) (by decide) (by decide) rfl hAb.rd ?_
  rintro v9 ρ9 L9 ⟨rfl, rfl, rfl⟩
  refine ⟨rfl, fun hle9 => ⟨Kp.true, ?_⟩⟩
  rw [kn5]
  refine Jp.y 11 rfl (want_all rfl) rfl rfl Kp.true (Y.assign rfl rfl) ?_
  refine Jp.done hK11 ?_
  refine Cd.seq fun K12 hK12 => ?_
  refine Cd.plain [(0, false), (1, false), (2, false), (3, false)] rfl rfl ?_
  refine Jp.y 43 rfl (want_all rfl) rfl rfl Kp.true (Y.move rfl rfl) ?_
  refine Jp.call [1] [1] (shTag_spec b kS2 4294967294 4 (by omega)) 44 rfl (want_all rfl) rfl rfl (Runs.fn rfl Try.call32 rfl) (by decide) (by decide) rfl trivial ?_
  rintro v10 ρ10 L10 ⟨rfl, rfl, rfl⟩
  refine ⟨rfl, fun hle10 => ⟨Kp.true, ?_⟩⟩
  rw [kn6]
  refine Jp.alloc 12 12 rfl (want_all rfl) rfl rfl rfl Try.zeroValue64 fun b12 => ⟨Kp.true, ?_⟩
  first | refine Jp.storeAgg 12 rfl (want_all rfl) rfl rfl Try.sizeOf64 rfl rfl rfl rfl rfl rfl (fun k _ _ => noFr0 k) Kp.true ?_ | refine Jp.storeAgg 12 rfl (want_all rfl) rfl rfl Try.sizeOf64 rfl rfl rfl rfl rfl rfl (fun k _ _ => noFr0 k) Kp.true ?_
  refine Jp.done hK12 ?_
  refine Cd.seq fun K13 hK13 => ?_
  refine Cd.plain [(0, false), (1, false), (2, false)] rfl rfl ?_
  refine Jp.imp (j := 12) rfl (fun h hh => (show Pt b12 (.cells (bytesV [3, 3, 0, 0]).toArray 64) h from hh)) ?_
  refine Jp.y 45 rfl (want_all rfl) rfl rfl Kp.true (Y.move rfl rfl) ?_
  refine Jp.call [1] [1] (shAny_spec b kS2 0 (-5) (by omega) (by omega)) 46 rfl (want_all rfl) rfl rfl (Runs.fn rfl Try.call33 rfl) (by decide) (by decide) rfl trivial ?_
  rintro v11 ρ11 L11 ⟨rfl, rfl, rfl⟩
  refine ⟨rfl, fun hle11 => ⟨Kp.true, ?_⟩⟩
  rw [kn7]
  refine Jp.y 13 rfl (want_all rfl) rfl rfl Kp.true (Y.assign rfl rfl) ?_
  refine Jp.done hK13 ?_
  refine Cd.seq fun K14 hK14 => ?_
  refine Cd.plain [(0, false), (1, false), (2, false)] rfl rfl ?_
  refine Jp.y 47 rfl (want_all rfl) rfl rfl Kp.true (Y.move rfl rfl) ?_
  refine Jp.call [1] [1] (shAny_spec b kS2 4294967295 100 (by omega) (by omega)) 48 rfl (want_all rfl) rfl rfl (Runs.fn rfl Try.call33 rfl) (by decide) (by decide) rfl trivial ?_
  rintro v12 ρ12 L12 ⟨rfl, rfl, rfl⟩
  refine ⟨rfl, fun hle12 => ⟨Kp.true, ?_⟩⟩
  rw [kn8]
  refine Jp.y 14 rfl (want_all rfl) rfl rfl Kp.true (Y.assign rfl rfl) ?_
  refine Jp.done hK14 ?_
  refine Cd.seq fun K15 hK15 => ?_
  refine Cd.plain [(0, false), (1, false)] rfl rfl ?_
  refine Jp.y 49 rfl (want_all rfl) rfl rfl Kp.true (Y.move rfl rfl) ?_
  refine Jp.call [1] [1] (shClear_spec b kS2 4294967294 1 (by omega) (by omega)) 50 rfl (want_all rfl) rfl rfl (Runs.fn rfl Try.call34 rfl) (by decide) (by decide) rfl trivial ?_
  rintro v13 ρ13 L13 ⟨rfl, rfl, rfl⟩
  refine ⟨rfl, fun hle13 => ⟨Kp.true, ?_⟩⟩
  refine Jp.imp (j := 1) rfl (fun h hh => (show ShO b kS3 h from hh)) ?_
  refine Jp.done hK15 ?_
  refine Cd.seq fun K16 hK16 => ?_
  refine Cd.plain [(0, false), (1, false), (2, false)] rfl rfl ?_
  refine Jp.y 51 rfl (want_all rfl) rfl rfl Kp.true (Y.move rfl rfl) ?_
  refine Jp.call [1] [1] (shAt_spec b kS3 4294967294 (by omega)) 52 rfl (want_all rfl) rfl rfl (Runs.fn rfl Try.call29 rfl) (by decide) (by decide) rfl trivial ?_
  rintro v14 ρ14 L14 ⟨rfl, rfl, rfl⟩
  refine ⟨rfl, fun hle14 => ⟨Kp.true, ?_⟩⟩
  rw [kn9]
  refine Jp.y 15 rfl (want_all rfl) rfl rfl Kp.true (Y.assign rfl rfl) ?_
  refine Jp.done hK16 ?_
  refine Cd.seq fun K17 hK17 => ?_
  refine Cd.plain [(0, false), (1, false), (2, false), (3, false)] rfl rfl ?_
  refine Jp.y 53 rfl (want_all rfl) rfl rfl Kp.true (Y.move rfl rfl) ?_
  refine Jp.y 54 rfl (want_all rfl) rfl rfl Kp.true (Y.array [] [_, _, _, _] rfl rfl Try.underlying64 Try.sizeOf5 Try.zeroValue64 rfl) ?_
  refine Jp.call [1] [1] (shPutN_spec b kS3 4294967295 4 [0, 0, 0, 0] (by omega) rfl) 55 rfl (want_all rfl) rfl rfl (Runs.fn rfl Try.call31 rfl) (by decide) (by decide) rfl trivial ?_
  rintro v15 ρ15 L15 ⟨rfl, rfl⟩
  refine ⟨rfl, fun hle15 => ⟨Kp.true, ?_⟩⟩
  refine Jp.imp (j := 1) rfl (fun h hh => (show ShO b kS4 h from hh)) ?_
  rw [kn10]
  refine Jp.y 16 rfl (want_all rfl) rfl rfl Kp.true (Y.assign rfl rfl) ?_
  refine Jp.done hK17 ?_
  refine Cd.seq fun K18 hK18 => ?_
  refine Cd.plain [(0, false), (1, false), (2, false), (3, false), (4, false), (5, false), (6, false), (7, false), (8, false), (9, false), (10, false), (11, false), (12, false), (13, false), (14, false), (15, false), (16, false), (17, false), (18, false), (19, false), (20, false), (21, false), (22, false), (23, false), (24, false), (25, false), (26, false), (27, false), (28, false), (29, false), (30, false), (31, false), (32, false), (33, false), (34, false), (35, false), (36, false), (37, false), (38, false), (39, false), (40, false), (41, false), (42, false), (43, false), (44, false), (45, false), (46, false), (47, false), (48, false), (49, false), (50, false), (51, false), (52, false), (53, false), (54, false), (55, false), (56, false), (57, false), (58, false)] rfl rfl ?_
  refine Jp.y 56 rfl (want_all rfl) rfl rfl Kp.true (Y.move rfl rfl) ?_
  refine Jp.y 57 rfl (want_all rfl) rfl rfl Kp.true (Y.eql rfl rfl rfl) ?_
  refine Jp.slot 57 rfl (show _ = Value.bool true from rfl) ?_
  refine Jp.y 58 rfl (want_all rfl) rfl rfl Kp.true (Y.move rfl rfl) ?_
  refine Jp.slot 58 rfl (show _ = Value.bool true from rfl) ?_
  refine Jp.y 59 rfl (want_as rfl rfl rfl rfl) rfl rfl Kp.true (Y.move rfl rfl) ?_
  refine Jp.y 60 rfl (want_as rfl rfl rfl rfl) rfl rfl Kp.true (Y.eql rfl rfl rfl) ?_
  refine Jp.slot 60 rfl (show _ = Value.bool true from rfl) ?_
  refine Jp.y 61 rfl (want_all rfl) rfl rfl Kp.true (Y.pickT rfl rfl rfl) ?_
  refine Jp.slot 61 rfl (show _ = Value.bool true from rfl) ?_
  refine Jp.y 62 rfl (want_all rfl) rfl rfl Kp.true (Y.move rfl rfl) ?_
  refine Jp.slot 62 rfl (show _ = Value.bool true from rfl) ?_
  refine Jp.y 63 rfl (want_as rfl rfl rfl rfl) rfl rfl Kp.true (Y.move rfl rfl) ?_
  refine Jp.y 64 rfl (want_as rfl rfl rfl rfl) rfl rfl Kp.true (Y.eql rfl rfl rfl) ?_
  refine Jp.slot 64 rfl (show _ = Value.bool true from rfl) ?_
  refine Jp.y 65 rfl (want_all rfl) rfl rfl Kp.true (Y.pickT rfl rfl rfl) ?_
  refine Jp.slot 65 rfl (show _ = Value.bool true from rfl) ?_
  refine Jp.y 66 rfl (want_all rfl) rfl rfl Kp.true (Y.move rfl rfl) ?_
  refine Jp.slot 66 rfl (show _ = Value.bool true from rfl) ?_
  refine Jp.y 67 rfl (want_as rfl rfl rfl rfl) rfl rfl Kp.true (Y.move rfl rfl) ?_
  refine Jp.y 68 rfl (want_as rfl rfl rfl rfl) rfl rfl Kp.true (Y.eql rfl rfl rfl) ?_
  refine Jp.slot 68 rfl (show _ = Value.bool true from rfl) ?_
  refine Jp.y 69 rfl (want_all rfl) rfl rfl Kp.true (Y.pickT rfl rfl rfl) ?_
  refine Jp.slot 69 rfl (show _ = Value.bool true from rfl) ?_
  refine Jp.y 70 rfl (want_all rfl) rfl rfl Kp.true (Y.move rfl rfl) ?_
  refine Jp.slot 70 rfl (show _ = Value.bool true from rfl) ?_
  refine Jp.y 71 rfl (want_as rfl rfl rfl rfl) rfl rfl Kp.true (Y.move rfl rfl) ?_
  refine Jp.y 72 rfl (want_as rfl rfl rfl rfl) rfl rfl Kp.true (Y.eql rfl rfl rfl) ?_
  refine Jp.slot 72 rfl (show _ = Value.bool true from rfl) ?_
  refine Jp.y 73 rfl (want_all rfl) rfl rfl Kp.true (Y.pickT rfl rfl rfl) ?_
  refine Jp.slot 73 rfl (show _ = Value.bool true from rfl) ?_
  refine Jp.y 74 rfl (want_all rfl) rfl rfl Kp.true (Y.move rfl rfl) ?_
  refine Jp.slot 74 rfl (show _ = Value.bool true from rfl) ?_
  refine Jp.y 75 rfl (want_as rfl rfl rfl rfl) rfl rfl Kp.true (Y.move rfl rfl) ?_
  refine Jp.y 76 rfl (want_as rfl rfl rfl rfl) rfl rfl Kp.true (Y.eql rfl rfl rfl) ?_
  refine Jp.slot 76 rfl (show _ = Value.bool true from rfl) ?_
  refine Jp.y 77 rfl (want_all rfl) rfl rfl Kp.true (Y.pickT rfl rfl rfl) ?_
  refine Jp.slot 77 rfl (show _ = Value.bool true from rfl) ?_
  refine Jp.y 78 rfl (want_all rfl) rfl rfl Kp.true (Y.move rfl rfl) ?_
  refine Jp.slot 78 rfl (show _ = Value.bool true from rfl) ?_
  refine Jp.y 79 rfl (want_as rfl rfl rfl rfl) rfl rfl Kp.true (Y.move rfl rfl) ?_
  refine Jp.y 80 rfl (want_as rfl rfl rfl rfl) rfl rfl Kp.true (Y.eql rfl rfl rfl) ?_
  refine Jp.slot 80 rfl (show _ = Value.bool true from rfl) ?_
  refine Jp.y 81 rfl (want_all rfl) rfl rfl Kp.true (Y.pickT rfl rfl rfl) ?_
  refine Jp.slot 81 rfl (show _ = Value.bool true from rfl) ?_
  refine Jp.y 82 rfl (want_all rfl) rfl rfl Kp.true (Y.move rfl rfl) ?_
  refine Jp.slot 82 rfl (show _ = Value.bool true from rfl) ?_
  refine Jp.y 83 rfl (want_as rfl rfl rfl rfl) rfl rfl Kp.true (Y.move rfl rfl) ?_
  refine Jp.call [1] [1] (shAt_spec b kS4 255 (by omega)) 84 rfl (want_as rfl rfl rfl rfl) rfl rfl (Runs.fn rfl Try.call29 rfl) (by decide) (by decide) rfl trivial ?_
  rintro v16 ρ16 L16 ⟨rfl, rfl, rfl⟩
  refine ⟨rfl, fun hle16 => ⟨Kp.true, ?_⟩⟩
  rw [kn11]
  refine Jp.y 85 rfl (want_as rfl rfl rfl rfl) rfl rfl Kp.true (Y.eql rfl rfl rfl) ?_
  refine Jp.slot 85 rfl (show _ = Value.bool true from rfl) ?_
  refine Jp.y 86 rfl (want_all rfl) rfl rfl Kp.true (Y.pickT rfl rfl rfl) ?_
  refine Jp.slot 86 rfl (show _ = Value.bool true from rfl) ?_
  refine Jp.y 87 rfl (want_all rfl) rfl rfl Kp.true (Y.move rfl rfl) ?_
  refine Jp.slot 87 rfl (show _ = Value.bool true from rfl) ?_
  refine Jp.y 88 rfl (want_as rfl rfl rfl rfl) rfl rfl Kp.true (by first | exact Y.loadAggO 12 rfl Try.isAgg64 Try.sizeOf64 rfl rfl rfl | exact Y.loadAggO 12 rfl Try.isAgg64 Try.sizeOf64 rfl rfl rfl) ?_
  refine Jp.y 89 rfl (want_as rfl rfl rfl rfl) rfl rfl Kp.true (Y.array [(0, _), (1, _)] [_, _, _, _] rfl rfl Try.underlying64 Try.sizeOf5 Try.zeroValue64 rfl) ?_
  refine Jp.y 90 rfl (want_as rfl rfl rfl rfl) rfl rfl Kp.true (Y.eqlV (xs := (bytesV [3, 3, 0, 0]).toArray) (ys := (bytesV [3, 3, 0, 0]).toArray) (r := true) rfl rfl rfl tag_guard (tag_eq rfl rfl)) ?_
  refine Jp.y 91 rfl (want_all rfl) rfl rfl Kp.true (Y.pickT rfl rfl rfl) ?_
  refine Jp.slot 91 rfl (show _ = Value.bool true from rfl) ?_
  refine Jp.y 92 rfl (want_all rfl) rfl rfl Kp.true (Y.move rfl rfl) ?_
  refine Jp.slot 92 rfl (show _ = Value.bool true from rfl) ?_
  refine Jp.y 93 rfl (want_as rfl rfl rfl rfl) rfl rfl Kp.true (Y.move rfl rfl) ?_
  refine Jp.y 94 rfl (want_as rfl rfl rfl rfl) rfl rfl Kp.true (Y.eql rfl rfl rfl) ?_
  refine Jp.slot 94 rfl (show _ = Value.bool true from rfl) ?_
  refine Jp.y 95 rfl (want_all rfl) rfl rfl Kp.true (Y.pickT rfl rfl rfl) ?_
  refine Jp.slot 95 rfl (show _ = Value.bool true from rfl) ?_
  refine Jp.y 96 rfl (want_all rfl) rfl rfl Kp.true (Y.move rfl rfl) ?_
  refine Jp.slot 96 rfl (show _ = Value.bool true from rfl) ?_
  refine Jp.y 97 rfl (want_as rfl rfl rfl rfl) rfl rfl Kp.true (Y.move rfl rfl) ?_
  refine Jp.y 98 rfl (want_as rfl rfl rfl rfl) rfl rfl Kp.true (Y.eql rfl rfl rfl) ?_
  refine Jp.slot 98 rfl (show _ = Value.bool true from rfl) ?_
  refine Jp.y 99 rfl (want_all rfl) rfl rfl Kp.true (Y.pickT rfl rfl rfl) ?_
  refine Jp.slot 99 rfl (show _ = Value.bool true from rfl) ?_
  refine Jp.y 100 rfl (want_all rfl) rfl rfl Kp.true (Y.move rfl rfl) ?_
  refine Jp.slot 100 rfl (show _ = Value.bool true from rfl) ?_
  refine Jp.y 101 rfl (want_as rfl rfl rfl rfl) rfl rfl Kp.true (Y.move rfl rfl) ?_
  refine Jp.y 102 rfl (want_as rfl rfl rfl rfl) rfl rfl Kp.true (Y.eql rfl rfl rfl) ?_
  refine Jp.slot 102 rfl (show _ = Value.bool true from rfl) ?_
  refine Jp.y 103 rfl (want_all rfl) rfl rfl Kp.true (Y.pickT rfl rfl rfl) ?_
  refine Jp.slot 103 rfl (show _ = Value.bool true from rfl) ?_
  refine Jp.y 104 rfl (want_all rfl) rfl rfl Kp.true (Y.move rfl rfl) ?_
  refine Jp.slot 104 rfl (show _ = Value.bool true from rfl) ?_
  refine Jp.y 105 rfl (want_as rfl rfl rfl rfl) rfl rfl Kp.true (Y.move rfl rfl) ?_
  refine Jp.y 106 rfl (want_as rfl rfl rfl rfl) rfl rfl Kp.true (Y.eql rfl rfl rfl) ?_
  refine Jp.slot 106 rfl (show _ = Value.bool true from rfl) ?_
  refine Jp.y 107 rfl (want_all rfl) rfl rfl Kp.true (Y.pickT rfl rfl rfl) ?_
  refine Jp.slot 107 rfl (show _ = Value.bool true from rfl) ?_
  refine Jp.y 108 rfl (want_all rfl) rfl rfl Kp.true (Y.move rfl rfl) ?_
  refine Jp.slot 108 rfl (show _ = Value.bool true from rfl) ?_
  refine Jp.y 109 rfl (want_as rfl rfl rfl rfl) rfl rfl Kp.true (Y.move rfl rfl) ?_
  refine Jp.call [1] [1, 2] (shDirty_spec b kS4) 110 rfl (want_as rfl rfl rfl rfl) rfl rfl (Runs.fn rfl Try.call27 rfl) (by decide) (by decide) rfl trivial ?_
  rintro v17 ρ17 L17 ⟨A3, c3, rfl, rfl⟩
  refine ⟨rfl, fun hle17 => ⟨Kp.true, ?_⟩⟩
  rw [kn12]
  refine Jp.y 111 rfl (want_as rfl rfl rfl rfl) rfl rfl Kp.true (Y.lenslice rfl Try.underlying26 rfl) ?_
  refine Jp.y 112 rfl (want_as rfl rfl rfl rfl) rfl rfl Kp.true (Y.eql rfl rfl rfl) ?_
  refine Jp.slot 112 rfl (show _ = Value.bool true from rfl) ?_
  refine Jp.y 113 rfl (want_all rfl) rfl rfl Kp.true (Y.pickT rfl rfl rfl) ?_
  refine Jp.y 0 rfl (want_all rfl) rfl rfl Kp.true (Y.assign rfl rfl) ?_
  refine Jp.done hK18 ?_
  refine Cd.ret [] rfl (res1 rfl rfl) trivial ⟨rfl, rfl⟩
end Go.Proofs.Ytgmhijlcdadaeaa
