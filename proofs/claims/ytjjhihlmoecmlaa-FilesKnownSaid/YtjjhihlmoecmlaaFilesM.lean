/- Law 11: FilesKnown; printed by tools/known11.py. -/
import Derived.Test.YtjjhihlmoecmlaaFilesG
set_option linter.unusedVariables false
set_option linter.unusedSimpArgs false
set_option maxRecDepth 100000
namespace Go.Proofs.Ytjjhihlmoecmlaa
open Go
def k0 : FilesP := oneP [] [97] [49, 50, 51, 52, 53]
def k1 : FilesP := (openFP k0 [98]).2
def k2 : FilesP := (openFP k1 [97]).2
def k3 : FilesP := (seekFP k2 3 (-2) 2).2
def k4 : FilesP := (readFP k3 3 9).2
def k5 : FilesP := (closeFP k4 1).2
def k6 : FilesP := (openFP k5 [97]).2
def k7 : FilesP := (writeFP k6 1 [122]).2
def k8 : FilesP := (readFP k7 1 3).2
def k9 : FilesP := (seekFP k8 3 (-9) 1).2
def k10 : FilesP := (seekFP k9 3 1 3).2
def k11 : FilesP := (seekFP k10 2 0 0).2
def k12 : FilesP := (readFP k11 2 1).2
def k13 : FilesP := (closeFP k12 9).2
def k14 : FilesP := (seekFP k13 3 100 0).2
def k15 : FilesP := (readFP k14 3 5).2
def kL : Nat → FilesP
  | 0 => k15
  | i + 1 => (openFP (kL i) [97]).2
theorem filesKnown_spec : Spec Try.prog 12 #[] (fun _ => True) [] (fun ρ ρ' v L => v = .bool true ∧ L = []) := by
  refine Spec.of 165 Try.func12 rfl Try.ntmps12 [] rfl rfl ?_
  intro cx ρ hr0 h0
  refine Cd.seq fun K1 hK1 => ?_
  refine Cd.plain [(0, false)] rfl rfl ?_
  refine Jp.y 0 rfl (want_all rfl) rfl rfl Kp.true (Y.assign rfl rfl) ?_
  refine Jp.done hK1 ?_
  refine Cd.seq fun K2 hK2 => ?_
  refine Cd.seq fun K3 hK3 => ?_
  refine Cd.plain [(0, false), (1, false)] rfl rfl ?_
  refine Jp.call [] [] f29_spec 22 rfl (want_all rfl) rfl rfl (Runs.fn rfl Try.call29 rfl) (by decide) (by decide) rfl trivial ?_
  rintro v1 ρ1 L1 ⟨rfl, rfl⟩
  refine ⟨rfl, fun hle1 => ⟨Kp.true, ?_⟩⟩
  refine Jp.y 23 rfl (want_all rfl) rfl rfl Kp.true (Y.not rfl rfl) ?_
  refine Jp.done hK3 ?_
  refine Cd.cond rfl (fun g23 => ?_) (fun g23 => ?_)
  · skip
    exact absurd g23 (by first | (simp [str_mkS, mkS_size]; done) | (simp [str, mkS]; done) | (simp [str, mkS, readV]; done))
  try simp only [decide_eq_false_iff_not, decide_eq_true_eq, Int.not_lt, Int.not_le, Bool.not_eq_false, Bool.not_eq_true, Bool.not_true, Bool.not_false, Bool.not_eq_true', Bool.not_eq_false', beq_eq_false_iff_ne, ne_eq, beq_iff_eq, bne_iff_ne, bne_eq_false_iff_eq, Classical.not_not] at g23
  refine Cd.skip hK2 ?_
  refine Cd.seq fun K4 hK4 => ?_
  refine Cd.plain [(0, false), (1, false), (2, false), (3, false), (4, false), (5, false), (6, false)] rfl rfl ?_
  refine Jp.lit 24 9 [(0, _), (1, _), (2, _), (3, _), (4, _)] [_, _, _, _, _] rfl (want_all rfl) rfl rfl rfl rfl Try.underlying26 Try.sizeOf5 Try.zeroValue5 rfl rfl rfl rfl rfl fun b9 => ⟨Kp.true, ?_⟩
  first | refine Jp.mark 25 9 rfl (want_all rfl) rfl rfl rfl Try.underlying26 Try.underlying5 rfl rfl Kp.true ?_
  refine Jp.freeze (i := 9) rfl (RdS.up _ _ _ _ _) fun ρ2 l2 q2 => ?_
  refine Jp.y 26 rfl (want_all rfl) rfl rfl Kp.true (Y.struct [(0, _), (1, _)] [_, _] rfl rfl places63 Try.zeroValue63 rfl) ?_
  refine Jp.lit 27 10 [(0, _)] [_, _] rfl (want_all rfl) rfl rfl rfl rfl Try.underlying33 Try.sizeOf63 Try.zeroValue63 rfl rfl rfl rfl rfl fun b10 => ⟨Kp.true, ?_⟩
  refine Jp.freeze (i := 10) rfl (OwnS.up _ _ _ _ _ _) fun ρ3 l3 q3 => ?_
  have q2 : RdB ⟨some ⟨b9, 0, none⟩, 5, [49, 50, 51, 52, 53]⟩ ρ3 := RdS.up _ _ _ _ _ _ _ l3 q2
  refine Jp.y 28 rfl (want_all rfl) rfl rfl Kp.true (Y.struct [(5, _)] [_, _, _, _, _, _] rfl rfl places35 Try.zeroValue35 rfl) ?_
  refine Jp.call [] [0, 1, 2, 3] (new_files (FeedG.ofFile ⟨none, 0, []⟩ b10 ⟨#[97]⟩ ⟨some ⟨b9, 0, none⟩, 5, [49, 50, 51, 52, 53]⟩)) 29 rfl (want_all rfl) rfl rfl (Runs.fn rfl Try.call30 rfl) (by decide) (by decide) rfl (RdFeed.ofFile (RdS.nil 1 _) q3.rd q2) ?_
  rintro v4 ρ4 L4 ⟨b, ⟨all, bu, use, bo, op, bw, out⟩, rfl, rfl, hg, hp⟩
  refine ⟨rfl, fun hle4 => ⟨Kp.true, ?_⟩⟩
  dsimp only
  have hp : FilesG.p ⟨all, bu, use, bo, op, bw, out⟩ = k0 := by
    rw [hp, k0, ← newP_one (sh := []) (name := [97]) (data := [49, 50, 51, 52, 53]) (by simp) (by simp) (by simp) (by simp) (by decide) (by simp)]; rfl
  refine Jp.y 1 rfl (want_all rfl) rfl rfl Kp.true (Y.assign rfl rfl) ?_
  refine Jp.done hK4 ?_
  refine Cd.seq fun K5 hK5 => ?_
  refine Cd.plain [(0, false), (1, false), (2, false), (3, false), (4, false), (5, false)] rfl rfl ?_
  refine Jp.y 30 rfl (want_all rfl) rfl rfl Kp.true (Y.move rfl rfl) ?_
  refine Jp.call [0, 2] [0, 2] (open_spec b ⟨all, bu, use, bo, op, bw, out⟩ ⟨#[98]⟩) 31 rfl (want_all rfl) rfl rfl (Runs.fn rfl Try.call35 rfl) (by decide) (by decide) rfl hg ?_
  rintro v11 ρ11 L11 ⟨rfl, rfl, op1, hp1, hg1, rfl⟩
  refine ⟨rfl, fun hle11 => ⟨Kp.true, ?_⟩⟩
  dsimp only at hp1 hg1 ⊢
  have hp1 : FilesG.p ⟨all, bu, use, bo, op1, bw, out⟩ = k1 := by rw [hp1, hp]; rfl
  rw [show (openFP (FilesG.p ⟨all, bu, use, bo, op, bw, out⟩) (str ⟨#[98]⟩)).1 = -2 by rw [hp]; show (openFP k0 [98]).1 = -2; decide +kernel]
  refine Jp.y 32 rfl (want_all rfl) rfl rfl Kp.true (Y.move rfl rfl) ?_
  refine Jp.call [0, 2] [0, 2] (open_spec b ⟨all, bu, use, bo, op1, bw, out⟩ ⟨#[97]⟩) 33 rfl (want_all rfl) rfl rfl (Runs.fn rfl Try.call35 rfl) (by decide) (by decide) rfl hg1 ?_
  rintro v12 ρ12 L12 ⟨rfl, rfl, op2, hp2, hg2, rfl⟩
  refine ⟨rfl, fun hle12 => ⟨Kp.true, ?_⟩⟩
  dsimp only at hp2 hg2 ⊢
  have hp2 : FilesG.p ⟨all, bu, use, bo, op2, bw, out⟩ = k2 := by rw [hp2, hp1]; rfl
  rw [show (openFP (FilesG.p ⟨all, bu, use, bo, op1, bw, out⟩) (str ⟨#[97]⟩)).1 = 3 by rw [hp1]; show (openFP k1 [97]).1 = 3; decide +kernel]
  refine Jp.y 2 rfl (want_all rfl) rfl rfl Kp.true (Y.assign rfl rfl) ?_
  refine Jp.y 3 rfl (want_all rfl) rfl rfl Kp.true (Y.assign rfl rfl) ?_
  refine Jp.done hK5 ?_
  refine Cd.seq fun K6 hK6 => ?_
  refine Cd.plain [(0, false), (1, false), (2, false)] rfl rfl ?_
  refine Jp.y 34 rfl (want_all rfl) rfl rfl Kp.true (Y.move rfl rfl) ?_
  refine Jp.call [0, 2] [0, 2] (seek_spec b ⟨all, bu, use, bo, op2, bw, out⟩ 3 (-2) 2 (by omega) (by rw [hp2]; unfold AtOk; decide +kernel)) 35 rfl (want_all rfl) rfl rfl (Runs.fn rfl Try.call37 rfl) (by decide) (by decide) rfl hg2 ?_
  rintro v13 ρ13 L13 ⟨rfl, rfl, op3, hp3, hg3, rfl⟩
  refine ⟨rfl, fun hle13 => ⟨Kp.true, ?_⟩⟩
  dsimp only at hp3 hg3 ⊢
  have hp3 : FilesG.p ⟨all, bu, use, bo, op3, bw, out⟩ = k3 := by rw [hp3, hp2]; rfl
  rw [show (seekFP (FilesG.p ⟨all, bu, use, bo, op2, bw, out⟩) 3 (-2) 2).1 = 3 by rw [hp2]; show (seekFP k2 3 (-2) 2).1 = 3; decide +kernel]
  refine Jp.y 4 rfl (want_all rfl) rfl rfl Kp.true (Y.assign rfl rfl) ?_
  refine Jp.done hK6 ?_
  refine Cd.seq fun K7 hK7 => ?_
  refine Cd.plain [(0, false), (1, false), (2, false), (3, false), (4, false), (5, false), (6, false)] rfl rfl ?_
  refine Jp.y 37 rfl (want_all rfl) rfl rfl Kp.true (Y.move rfl rfl) ?_
  refine Jp.call [0, 1, 2] [0, 1, 2, 30] (read_spec b ⟨all, bu, use, bo, op3, bw, out⟩ 3 9 (by rw [hp3]; unfold AtOk; decide +kernel)) 38 rfl (want_all rfl) rfl rfl (Runs.fn rfl Try.call33 rfl) (by decide) (by decide) rfl hg3 ?_
  rintro v14 ρ14 L14 ⟨rfl, use4, op4, A4, c4, hp4, hg4, rfl, rfl⟩
  refine ⟨rfl, fun hle14 => ⟨Kp.true, ?_⟩⟩
  dsimp only at hp4 hg4 ⊢
  have hp4 : FilesG.p ⟨all, bu, use4, bo, op4, bw, out⟩ = k4 := by rw [hp4, hp3]; rfl
  rw [show (readFP (FilesG.p ⟨all, bu, use, bo, op3, bw, out⟩) 3 9).1 = some [52, 53] by rw [hp3]; show (readFP k3 3 9).1 = some [52, 53]; decide +kernel]
  dsimp only [Option.getD_some, Option.getD_none, readV]
  refine Jp.y 36 rfl (want_all rfl) rfl rfl Kp.true (Y.move rfl rfl) ?_
  refine Jp.y 39 rfl (want_all rfl) rfl rfl Kp.true (Y.extract rfl rfl rfl) ?_
  refine Jp.y 40 rfl (want_all rfl) rfl rfl Kp.true (Y.extract rfl rfl rfl) ?_
  refine Jp.y 5 rfl (want_all rfl) rfl rfl Kp.true (Y.assign rfl rfl) ?_
  refine Jp.y 6 rfl (want_all rfl) rfl rfl Kp.true (Y.assign rfl rfl) ?_
  refine Jp.done hK7 ?_
  refine Cd.seq fun K8 hK8 => ?_
  refine Cd.plain [(0, false), (1, false), (2, false)] rfl rfl ?_
  refine Jp.y 41 rfl (want_all rfl) rfl rfl Kp.true (Y.move rfl rfl) ?_
  refine Jp.call [0, 2] [0, 2] (close_spec b ⟨all, bu, use4, bo, op4, bw, out⟩ 1) 42 rfl (want_all rfl) rfl rfl (Runs.fn rfl Try.call36 rfl) (by decide) (by decide) rfl hg4 ?_
  rintro v15 ρ15 L15 ⟨rfl, rfl, op5, hp5, hg5, rfl⟩
  refine ⟨rfl, fun hle15 => ⟨Kp.true, ?_⟩⟩
  dsimp only at hp5 hg5 ⊢
  have hp5 : FilesG.p ⟨all, bu, use4, bo, op5, bw, out⟩ = k5 := by rw [hp5, hp4]; rfl
  rw [show (closeFP (FilesG.p ⟨all, bu, use4, bo, op4, bw, out⟩) 1).1 = 0 by rw [hp4]; show (closeFP k4 1).1 = 0; decide +kernel]
  refine Jp.y 7 rfl (want_all rfl) rfl rfl Kp.true (Y.assign rfl rfl) ?_
  refine Jp.done hK8 ?_
  refine Cd.seq fun K9 hK9 => ?_
  refine Cd.plain [(0, false), (1, false), (2, false)] rfl rfl ?_
  refine Jp.y 43 rfl (want_all rfl) rfl rfl Kp.true (Y.move rfl rfl) ?_
  refine Jp.call [0, 2] [0, 2] (open_spec b ⟨all, bu, use4, bo, op5, bw, out⟩ ⟨#[97]⟩) 44 rfl (want_all rfl) rfl rfl (Runs.fn rfl Try.call35 rfl) (by decide) (by decide) rfl hg5 ?_
  rintro v16 ρ16 L16 ⟨rfl, rfl, op6, hp6, hg6, rfl⟩
  refine ⟨rfl, fun hle16 => ⟨Kp.true, ?_⟩⟩
  dsimp only at hp6 hg6 ⊢
  have hp6 : FilesG.p ⟨all, bu, use4, bo, op6, bw, out⟩ = k6 := by rw [hp6, hp5]; rfl
  rw [show (openFP (FilesG.p ⟨all, bu, use4, bo, op5, bw, out⟩) (str ⟨#[97]⟩)).1 = 1 by rw [hp5]; show (openFP k5 [97]).1 = 1; decide +kernel]
  refine Jp.y 8 rfl (want_all rfl) rfl rfl Kp.true (Y.assign rfl rfl) ?_
  refine Jp.done hK9 ?_
  refine Cd.seq fun K10 hK10 => ?_
  refine Cd.plain [(0, false), (1, false), (2, false), (3, false), (4, false)] rfl rfl ?_
  refine Jp.y 45 rfl (want_all rfl) rfl rfl Kp.true (Y.move rfl rfl) ?_
  refine Jp.lit 46 11 [(0, _)] [_] rfl (want_all rfl) rfl rfl rfl rfl Try.underlying26 Try.sizeOf5 Try.zeroValue5 rfl rfl rfl rfl rfl fun b11 => ⟨Kp.true, ?_⟩
  first | refine Jp.mark 47 9 rfl (want_all rfl) rfl rfl rfl Try.underlying26 Try.underlying5 rfl rfl Kp.true ?_ | refine Jp.mark 47 10 rfl (want_all rfl) rfl rfl rfl Try.underlying26 Try.underlying5 rfl rfl Kp.true ?_ | refine Jp.mark 47 11 rfl (want_all rfl) rfl rfl rfl Try.underlying26 Try.underlying5 rfl rfl Kp.true ?_
  refine Jp.freeze (i := 11) rfl (RdS.up _ _ _ _ _) fun ρw7 lw7 qw7 => ?_
  refine Jp.call [0, 2, 3] [0, 2, 3] (write_spec b ⟨all, bu, use4, bo, op6, bw, out⟩ 1 ⟨some ⟨b11, 0, none⟩, 1, [122]⟩ (by simp)) 48 rfl (want_all rfl) rfl rfl (Runs.fn rfl Try.call31 rfl) (by decide) (by decide) rfl ⟨RdFs.up _ _ _ lw7 hg6, qw7⟩ ?_
  rintro v17 ρ17 L17 ⟨rfl, out7, hp7, hg7, rfl⟩
  refine ⟨rfl, fun hle17 => ⟨Kp.true, ?_⟩⟩
  dsimp only at hp7 hg7 ⊢
  have hp7 : FilesG.p ⟨all, bu, use4, bo, op6, bw, out7⟩ = k7 := by rw [hp7, hp6]; rfl
  rw [show (writeFP (FilesG.p ⟨all, bu, use4, bo, op6, bw, out⟩) 1 (Sl.xs ⟨some ⟨b11, 0, none⟩, 1, [122]⟩)).1 = -9 by rw [hp6]; show (writeFP k6 1 [122]).1 = -9; decide +kernel]
  refine Jp.y 9 rfl (want_all rfl) rfl rfl Kp.true (Y.assign rfl rfl) ?_
  refine Jp.done hK10 ?_
  refine Cd.seq fun K11 hK11 => ?_
  refine Cd.plain [(0, false), (1, false), (2, false), (3, false), (4, false), (5, false), (6, false)] rfl rfl ?_
  refine Jp.y 50 rfl (want_all rfl) rfl rfl Kp.true (Y.move rfl rfl) ?_
  refine Jp.call [0, 1, 2] [0, 1, 2, 31] (read_spec b ⟨all, bu, use4, bo, op6, bw, out7⟩ 1 3 (by rw [hp7]; unfold AtOk; decide +kernel)) 51 rfl (want_all rfl) rfl rfl (Runs.fn rfl Try.call33 rfl) (by decide) (by decide) rfl hg7 ?_
  rintro v18 ρ18 L18 ⟨rfl, use8, op8, A8, c8, hp8, hg8, rfl, rfl⟩
  refine ⟨rfl, fun hle18 => ⟨Kp.true, ?_⟩⟩
  dsimp only at hp8 hg8 ⊢
  have hp8 : FilesG.p ⟨all, bu, use8, bo, op8, bw, out7⟩ = k8 := by rw [hp8, hp7]; rfl
  rw [show (readFP (FilesG.p ⟨all, bu, use4, bo, op6, bw, out7⟩) 1 3).1 = some [49, 50, 51] by rw [hp7]; show (readFP k7 1 3).1 = some [49, 50, 51]; decide +kernel]
  dsimp only [Option.getD_some, Option.getD_none, readV]
  refine Jp.y 49 rfl (want_all rfl) rfl rfl Kp.true (Y.move rfl rfl) ?_
  refine Jp.y 52 rfl (want_all rfl) rfl rfl Kp.true (Y.extract rfl rfl rfl) ?_
  refine Jp.y 53 rfl (want_all rfl) rfl rfl Kp.true (Y.extract rfl rfl rfl) ?_
  refine Jp.y 10 rfl (want_all rfl) rfl rfl Kp.true (Y.assign rfl rfl) ?_
  refine Jp.y 11 rfl (want_all rfl) rfl rfl Kp.true (Y.assign rfl rfl) ?_
  refine Jp.done hK11 ?_
  refine Cd.seq fun K12 hK12 => ?_
  refine Cd.plain [(0, false), (1, false), (2, false)] rfl rfl ?_
  refine Jp.y 54 rfl (want_all rfl) rfl rfl Kp.true (Y.move rfl rfl) ?_
  refine Jp.call [0, 2] [0, 2] (seek_spec b ⟨all, bu, use8, bo, op8, bw, out7⟩ 3 (-9) 1 (by omega) (by rw [hp8]; unfold AtOk; decide +kernel)) 55 rfl (want_all rfl) rfl rfl (Runs.fn rfl Try.call37 rfl) (by decide) (by decide) rfl hg8 ?_
  rintro v19 ρ19 L19 ⟨rfl, rfl, op9, hp9, hg9, rfl⟩
  refine ⟨rfl, fun hle19 => ⟨Kp.true, ?_⟩⟩
  dsimp only at hp9 hg9 ⊢
  have hp9 : FilesG.p ⟨all, bu, use8, bo, op9, bw, out7⟩ = k9 := by rw [hp9, hp8]; rfl
  rw [show (seekFP (FilesG.p ⟨all, bu, use8, bo, op8, bw, out7⟩) 3 (-9) 1).1 = -22 by rw [hp8]; show (seekFP k8 3 (-9) 1).1 = -22; decide +kernel]
  refine Jp.y 12 rfl (want_all rfl) rfl rfl Kp.true (Y.assign rfl rfl) ?_
  refine Jp.done hK12 ?_
  refine Cd.seq fun K13 hK13 => ?_
  refine Cd.plain [(0, false), (1, false), (2, false)] rfl rfl ?_
  refine Jp.y 56 rfl (want_all rfl) rfl rfl Kp.true (Y.move rfl rfl) ?_
  refine Jp.call [0, 2] [0, 2] (seek_spec b ⟨all, bu, use8, bo, op9, bw, out7⟩ 3 1 3 (by omega) (by rw [hp9]; unfold AtOk; decide +kernel)) 57 rfl (want_all rfl) rfl rfl (Runs.fn rfl Try.call37 rfl) (by decide) (by decide) rfl hg9 ?_
  rintro v20 ρ20 L20 ⟨rfl, rfl, op10, hp10, hg10, rfl⟩
  refine ⟨rfl, fun hle20 => ⟨Kp.true, ?_⟩⟩
  dsimp only at hp10 hg10 ⊢
  have hp10 : FilesG.p ⟨all, bu, use8, bo, op10, bw, out7⟩ = k10 := by rw [hp10, hp9]; rfl
  rw [show (seekFP (FilesG.p ⟨all, bu, use8, bo, op9, bw, out7⟩) 3 1 3).1 = -22 by rw [hp9]; show (seekFP k9 3 1 3).1 = -22; decide +kernel]
  refine Jp.y 13 rfl (want_all rfl) rfl rfl Kp.true (Y.assign rfl rfl) ?_
  refine Jp.done hK13 ?_
  refine Cd.seq fun K14 hK14 => ?_
  refine Cd.plain [(0, false), (1, false), (2, false)] rfl rfl ?_
  refine Jp.y 58 rfl (want_all rfl) rfl rfl Kp.true (Y.move rfl rfl) ?_
  refine Jp.call [0, 2] [0, 2] (seek_spec b ⟨all, bu, use8, bo, op10, bw, out7⟩ 2 0 0 (by omega) (by rw [hp10]; unfold AtOk; decide +kernel)) 59 rfl (want_all rfl) rfl rfl (Runs.fn rfl Try.call37 rfl) (by decide) (by decide) rfl hg10 ?_
  rintro v21 ρ21 L21 ⟨rfl, rfl, op11, hp11, hg11, rfl⟩
  refine ⟨rfl, fun hle21 => ⟨Kp.true, ?_⟩⟩
  dsimp only at hp11 hg11 ⊢
  have hp11 : FilesG.p ⟨all, bu, use8, bo, op11, bw, out7⟩ = k11 := by rw [hp11, hp10]; rfl
  rw [show (seekFP (FilesG.p ⟨all, bu, use8, bo, op10, bw, out7⟩) 2 0 0).1 = -29 by rw [hp10]; show (seekFP k10 2 0 0).1 = -29; decide +kernel]
  refine Jp.y 14 rfl (want_all rfl) rfl rfl Kp.true (Y.assign rfl rfl) ?_
  refine Jp.done hK14 ?_
  refine Cd.seq fun K15 hK15 => ?_
  refine Cd.plain [(0, false), (1, false), (2, false), (3, false), (4, false), (5, false), (6, false)] rfl rfl ?_
  refine Jp.y 61 rfl (want_all rfl) rfl rfl Kp.true (Y.move rfl rfl) ?_
  refine Jp.call [0, 1, 2] [0, 1, 2, 32] (read_spec b ⟨all, bu, use8, bo, op11, bw, out7⟩ 2 1 (by rw [hp11]; unfold AtOk; decide +kernel)) 62 rfl (want_all rfl) rfl rfl (Runs.fn rfl Try.call33 rfl) (by decide) (by decide) rfl hg11 ?_
  rintro v22 ρ22 L22 ⟨rfl, use12, op12, A12, c12, hp12, hg12, rfl, rfl⟩
  refine ⟨rfl, fun hle22 => ⟨Kp.true, ?_⟩⟩
  dsimp only at hp12 hg12 ⊢
  have hp12 : FilesG.p ⟨all, bu, use12, bo, op12, bw, out7⟩ = k12 := by rw [hp12, hp11]; rfl
  rw [show (readFP (FilesG.p ⟨all, bu, use8, bo, op11, bw, out7⟩) 2 1).1 = none by rw [hp11]; show (readFP k11 2 1).1 = none; decide +kernel]
  dsimp only [Option.getD_some, Option.getD_none, readV]
  refine Jp.y 60 rfl (want_all rfl) rfl rfl Kp.true (Y.move rfl rfl) ?_
  refine Jp.y 63 rfl (want_all rfl) rfl rfl Kp.true (Y.extract rfl rfl rfl) ?_
  refine Jp.y 64 rfl (want_all rfl) rfl rfl Kp.true (Y.extract rfl rfl rfl) ?_
  refine Jp.y 15 rfl (want_all rfl) rfl rfl Kp.true (Y.assign rfl rfl) ?_
  refine Jp.y 16 rfl (want_all rfl) rfl rfl Kp.true (Y.assign rfl rfl) ?_
  refine Jp.done hK15 ?_
  refine Cd.seq fun K16 hK16 => ?_
  refine Cd.plain [(0, false), (1, false), (2, false)] rfl rfl ?_
  refine Jp.y 65 rfl (want_all rfl) rfl rfl Kp.true (Y.move rfl rfl) ?_
  refine Jp.call [0, 2] [0, 2] (close_spec b ⟨all, bu, use12, bo, op12, bw, out7⟩ 9) 66 rfl (want_all rfl) rfl rfl (Runs.fn rfl Try.call36 rfl) (by decide) (by decide) rfl hg12 ?_
  rintro v23 ρ23 L23 ⟨rfl, rfl, op13, hp13, hg13, rfl⟩
  refine ⟨rfl, fun hle23 => ⟨Kp.true, ?_⟩⟩
  dsimp only at hp13 hg13 ⊢
  have hp13 : FilesG.p ⟨all, bu, use12, bo, op13, bw, out7⟩ = k13 := by rw [hp13, hp12]; rfl
  rw [show (closeFP (FilesG.p ⟨all, bu, use12, bo, op12, bw, out7⟩) 9).1 = -9 by rw [hp12]; show (closeFP k12 9).1 = -9; decide +kernel]
  refine Jp.y 17 rfl (want_all rfl) rfl rfl Kp.true (Y.assign rfl rfl) ?_
  refine Jp.done hK16 ?_
  refine Cd.seq fun K17 hK17 => ?_
  refine Cd.plain [(0, false), (1, false), (2, false)] rfl rfl ?_
  refine Jp.y 67 rfl (want_all rfl) rfl rfl Kp.true (Y.move rfl rfl) ?_
  refine Jp.call [0, 2] [0, 2] (seek_spec b ⟨all, bu, use12, bo, op13, bw, out7⟩ 3 100 0 (by omega) (by rw [hp13]; unfold AtOk; decide +kernel)) 68 rfl (want_all rfl) rfl rfl (Runs.fn rfl Try.call37 rfl) (by decide) (by decide) rfl hg13 ?_
  rintro v24 ρ24 L24 ⟨rfl, rfl, op14, hp14, hg14, rfl⟩
  refine ⟨rfl, fun hle24 => ⟨Kp.true, ?_⟩⟩
  dsimp only at hp14 hg14 ⊢
  have hp14 : FilesG.p ⟨all, bu, use12, bo, op14, bw, out7⟩ = k14 := by rw [hp14, hp13]; rfl
  rw [show (seekFP (FilesG.p ⟨all, bu, use12, bo, op13, bw, out7⟩) 3 100 0).1 = 100 by rw [hp13]; show (seekFP k13 3 100 0).1 = 100; decide +kernel]
  refine Jp.y 18 rfl (want_all rfl) rfl rfl Kp.true (Y.assign rfl rfl) ?_
  refine Jp.done hK17 ?_
  refine Cd.seq fun K18 hK18 => ?_
  refine Cd.plain [(0, false), (1, false), (2, false), (3, false), (4, false), (5, false), (6, false)] rfl rfl ?_
  refine Jp.y 70 rfl (want_all rfl) rfl rfl Kp.true (Y.move rfl rfl) ?_
  refine Jp.call [0, 1, 2] [0, 1, 2, 33] (read_spec b ⟨all, bu, use12, bo, op14, bw, out7⟩ 3 5 (by rw [hp14]; unfold AtOk; decide +kernel)) 71 rfl (want_all rfl) rfl rfl (Runs.fn rfl Try.call33 rfl) (by decide) (by decide) rfl hg14 ?_
  rintro v25 ρ25 L25 ⟨rfl, use15, op15, A15, c15, hp15, hg15, rfl, rfl⟩
  refine ⟨rfl, fun hle25 => ⟨Kp.true, ?_⟩⟩
  dsimp only at hp15 hg15 ⊢
  have hp15 : FilesG.p ⟨all, bu, use15, bo, op15, bw, out7⟩ = k15 := by rw [hp15, hp14]; rfl
  rw [show (readFP (FilesG.p ⟨all, bu, use12, bo, op14, bw, out7⟩) 3 5).1 = some [] by rw [hp14]; show (readFP k14 3 5).1 = some []; decide +kernel]
  dsimp only [Option.getD_some, Option.getD_none, readV]
  refine Jp.y 69 rfl (want_all rfl) rfl rfl Kp.true (Y.move rfl rfl) ?_
  refine Jp.y 72 rfl (want_all rfl) rfl rfl Kp.true (Y.extract rfl rfl rfl) ?_
  refine Jp.y 73 rfl (want_all rfl) rfl rfl Kp.true (Y.extract rfl rfl rfl) ?_
  refine Jp.y 19 rfl (want_all rfl) rfl rfl Kp.true (Y.assign rfl rfl) ?_
  refine Jp.y 20 rfl (want_all rfl) rfl rfl Kp.true (Y.assign rfl rfl) ?_
  refine Jp.done hK18 ?_
  refine Cd.seq fun K19 hK19 => ?_
  refine Cd.seq fun K20 hK20 => ?_
  refine Cd.plain [(0, false)] rfl rfl ?_
  refine Jp.y 21 rfl (want_all rfl) rfl rfl Kp.true (Y.assign rfl rfl) ?_
  refine Jp.done hK20 ?_
  refine Cd.block ?_
  refine Cd.loopK (G := Nat × List (Int × FilG)) (fun g => g.1 ≤ 20 ∧ FilesG.p ⟨all, bu, use15, bo, g.2, bw, out7⟩ = kL g.1 ∧ RdFs ⟨all, bu, use15, bo, g.2, bw, out7⟩ _) (fun g => 20 - g.1) (fun _ => _) (fun g => [(21, .int .i64 (g.1 : Int))]) [(1, _), (2, _), (3, _), (4, _), (5, _), (6, _), (7, _), (8, _), (9, _), (10, _), (11, _), (12, _), (13, _), (14, _), (16, _), (17, _), (18, _), (20, _)] (fun g => [(2, MapO .i64 bo (gmap FilG.v g.2))]) [(0, _), (1, _), (3, _), (30, _), (31, _)] ⟨0, op15⟩ ⟨Nat.zero_le _, hp15, hg15⟩ rfl ⟨rfl, trivial⟩ ⟨rfl, rfl, rfl, rfl, rfl, rfl, rfl, rfl, rfl, rfl, rfl, rfl, rfl, rfl, rfl, rfl, rfl, rfl, trivial⟩ ⟨rfl, trivial⟩ ⟨rfl, rfl, rfl, rfl, rfl, trivial⟩ (fun g KLa hok hLa => ?_)
  obtain ⟨i, opL⟩ := g
  obtain ⟨ok1, ok2, ok3⟩ := hok
  dsimp only at ok1 ok2 ok3 ⊢
  refine Cd.seq fun K21 hK21 => ?_
  refine Cd.seq fun K22 hK22 => ?_
  refine Cd.plain [(0, false), (1, false)] rfl rfl ?_
  refine Jp.y 74 rfl (want_all rfl) rfl rfl Kp.true (Y.move rfl rfl) ?_
  refine Jp.y 75 rfl (want_all rfl) rfl rfl Kp.true (Y.lss rfl rfl rfl) ?_
  refine Jp.done hK22 ?_
  refine Cd.cond rfl (fun h1 => ?_) (fun h1 => ?_)
  · simp only [decide_eq_true_eq] at h1
    refine Cd.skip hK21 ?_
    refine Cd.seq fun K23 hK23 => ?_
    refine Cd.block ?_
    refine Cd.plain [(0, false), (1, false)] rfl rfl ?_
    refine Jp.y 78 rfl (want_all rfl) rfl rfl Kp.true (Y.move rfl rfl) ?_
    refine Jp.call [0, 2] [0, 2] (open_spec b ⟨all, bu, use15, bo, opL, bw, out7⟩ ⟨#[97]⟩) 79 rfl (want_all rfl) rfl rfl (Runs.fn rfl Try.call35 rfl) (by decide) (by decide) rfl ok3 ?_
    rintro v40 ρ40 L40 ⟨rfl, rfl, opM, hpM, hgM, rfl⟩
    refine ⟨rfl, fun hle40 => ⟨Kp.true, ?_⟩⟩
    dsimp only at hpM hgM ⊢
    have hpM : FilesG.p ⟨all, bu, use15, bo, opM, bw, out7⟩ = kL (i + 1) := by rw [hpM, ok2]; rfl
    refine Jp.over rfl hK23 ?_
    refine Cd.plain [(0, false), (1, false), (2, false)] rfl rfl ?_
    refine Jp.y 76 rfl (want_all rfl) rfl rfl Kp.true (Y.move rfl rfl) ?_
    refine Jp.y 77 rfl (want_all rfl) rfl rfl Kp.true (Y.add_ rfl rfl rfl (wrap_i64 (by omega) (by omega))) ?_
    refine Jp.y 21 rfl (want_all rfl) rfl rfl Kp.true (Y.assign rfl rfl) ?_
    refine Jp.again hLa ⟨i + 1, opM⟩ ⟨by show i + 1 ≤ 20; omega, hpM, hgM⟩ (by show 20 - (i + 1) < 20 - i; omega) rfl ⟨rfl, rfl, rfl, rfl, rfl, rfl, rfl, rfl, rfl, rfl, rfl, rfl, rfl, rfl, rfl, rfl, rfl, rfl, rfl, trivial⟩ ⟨rfl, rfl, rfl, rfl, rfl, rfl, trivial⟩
  · simp only [decide_eq_false_iff_not] at h1
    have hi : i = 20 := by omega
    subst hi
    refine Cd.exit rfl hK19 ?_
    refine Cd.seq fun K24 hK24 => ?_
    refine Cd.plain [(0, false), (1, false), (2, false), (3, false), (4, false), (5, false), (6, false), (7, false), (8, false), (9, false), (10, false), (11, false), (12, false), (13, false), (14, false), (15, false), (16, false), (17, false), (18, false), (19, false), (20, false), (21, false), (22, false), (23, false), (24, false), (25, false), (26, false), (27, false), (28, false), (29, false), (30, false), (31, false), (32, false), (33, false), (34, false), (35, false), (36, false), (37, false), (38, false), (39, false), (40, false), (41, false), (42, false), (43, false), (44, false), (45, false), (46, false), (47, false), (48, false), (49, false), (50, false), (51, false), (52, false), (53, false), (54, false), (55, false), (56, false), (57, false), (58, false), (59, false), (60, false), (61, false), (62, false), (63, false), (64, false), (65, false), (66, false), (67, false), (68, false), (69, false), (70, false), (71, false), (72, false), (73, false), (74, false), (75, false), (76, false), (77, false), (78, false), (79, false), (80, false), (81, false), (82, false), (83, false), (84, false), (85, false)] rfl rfl ?_
    refine Jp.y 80 rfl (want_all rfl) rfl rfl Kp.true (Y.move rfl rfl) ?_
    refine Jp.y 81 rfl (want_all rfl) rfl rfl Kp.true (Y.eql rfl rfl rfl) ?_
    refine Jp.y 82 rfl (want_all rfl) rfl rfl Kp.true (Y.move rfl rfl) ?_
    refine Jp.splitF 82 rfl (fun g82 => ?_) (fun g82 => ?_)
    · skip
      exact absurd g82 (by first | (simp [str_mkS, mkS_size]; done) | (simp [str, mkS]; done) | (simp [str, mkS, readV]; done))
    try simp only [decide_eq_false_iff_not, decide_eq_true_eq, Int.not_lt, Int.not_le, Bool.not_eq_false, Bool.not_eq_true, Bool.not_true, Bool.not_false, Bool.not_eq_true', Bool.not_eq_false', beq_eq_false_iff_ne, ne_eq, beq_iff_eq, bne_iff_ne, bne_eq_false_iff_eq, Classical.not_not] at g82
    refine Jp.y 83 rfl (want_as rfl rfl rfl rfl) rfl rfl Kp.true (Y.move rfl rfl) ?_
    refine Jp.y 84 rfl (want_as rfl rfl rfl rfl) rfl rfl Kp.true (Y.eql rfl rfl rfl) ?_
    refine Jp.y 85 rfl (want_all rfl) rfl rfl Kp.true (Y.pickT rfl rfl rfl) ?_
    refine Jp.y 86 rfl (want_all rfl) rfl rfl Kp.true (Y.move rfl rfl) ?_
    refine Jp.splitF 86 rfl (fun g86 => ?_) (fun g86 => ?_)
    · skip
      exact absurd g86 (by first | (simp [str_mkS, mkS_size]; done) | (simp [str, mkS]; done) | (simp [str, mkS, readV]; done))
    try simp only [decide_eq_false_iff_not, decide_eq_true_eq, Int.not_lt, Int.not_le, Bool.not_eq_false, Bool.not_eq_true, Bool.not_true, Bool.not_false, Bool.not_eq_true', Bool.not_eq_false', beq_eq_false_iff_ne, ne_eq, beq_iff_eq, bne_iff_ne, bne_eq_false_iff_eq, Classical.not_not] at g86
    refine Jp.y 87 rfl (want_as rfl rfl rfl rfl) rfl rfl Kp.true (Y.move rfl rfl) ?_
    refine Jp.y 88 rfl (want_as rfl rfl rfl rfl) rfl rfl Kp.true (Y.eql rfl rfl rfl) ?_
    refine Jp.y 89 rfl (want_all rfl) rfl rfl Kp.true (Y.pickT rfl rfl rfl) ?_
    refine Jp.y 90 rfl (want_all rfl) rfl rfl Kp.true (Y.move rfl rfl) ?_
    refine Jp.splitF 90 rfl (fun g90 => ?_) (fun g90 => ?_)
    · skip
      exact absurd g90 (by first | (simp [str_mkS, mkS_size]; done) | (simp [str, mkS]; done) | (simp [str, mkS, readV]; done))
    try simp only [decide_eq_false_iff_not, decide_eq_true_eq, Int.not_lt, Int.not_le, Bool.not_eq_false, Bool.not_eq_true, Bool.not_true, Bool.not_false, Bool.not_eq_true', Bool.not_eq_false', beq_eq_false_iff_ne, ne_eq, beq_iff_eq, bne_iff_ne, bne_eq_false_iff_eq, Classical.not_not] at g90
    refine Jp.y 91 rfl (want_as rfl rfl rfl rfl) rfl rfl Kp.true (Y.move rfl rfl) ?_
    refine Jp.y 92 rfl (want_as rfl rfl rfl rfl) rfl rfl Kp.true (Y.toStr _ rfl rfl Try.underlying26 Try.underlying9 Try.underlying5 ⟨_, _, rfl⟩ (Src.own 30 rfl)) ?_
    refine Jp.y 93 rfl (want_as rfl rfl rfl rfl) rfl rfl Kp.true (Y.streql rfl rfl rfl) ?_
    refine Jp.y 94 rfl (want_all rfl) rfl rfl Kp.true (Y.pickT rfl rfl rfl) ?_
    refine Jp.y 95 rfl (want_all rfl) rfl rfl Kp.true (Y.move rfl rfl) ?_
    refine Jp.splitF 95 rfl (fun g95 => ?_) (fun g95 => ?_)
    · skip
      exact absurd g95 (by first | (simp [str_mkS, mkS_size]; done) | (simp [str, mkS]; done) | (simp [str, mkS, readV]; done))
    try simp only [decide_eq_false_iff_not, decide_eq_true_eq, Int.not_lt, Int.not_le, Bool.not_eq_false, Bool.not_eq_true, Bool.not_true, Bool.not_false, Bool.not_eq_true', Bool.not_eq_false', beq_eq_false_iff_ne, ne_eq, beq_iff_eq, bne_iff_ne, bne_eq_false_iff_eq, Classical.not_not] at g95
    refine Jp.y 96 rfl (want_as rfl rfl rfl rfl) rfl rfl Kp.true (Y.move rfl rfl) ?_
    refine Jp.y 97 rfl (want_as rfl rfl rfl rfl) rfl rfl Kp.true (Y.eql rfl rfl rfl) ?_
    refine Jp.y 98 rfl (want_all rfl) rfl rfl Kp.true (Y.pickT rfl rfl rfl) ?_
    refine Jp.y 99 rfl (want_all rfl) rfl rfl Kp.true (Y.move rfl rfl) ?_
    refine Jp.splitF 99 rfl (fun g99 => ?_) (fun g99 => ?_)
    · skip
      exact absurd g99 (by first | (simp [str_mkS, mkS_size]; done) | (simp [str, mkS]; done) | (simp [str, mkS, readV]; done))
    try simp only [decide_eq_false_iff_not, decide_eq_true_eq, Int.not_lt, Int.not_le, Bool.not_eq_false, Bool.not_eq_true, Bool.not_true, Bool.not_false, Bool.not_eq_true', Bool.not_eq_false', beq_eq_false_iff_ne, ne_eq, beq_iff_eq, bne_iff_ne, bne_eq_false_iff_eq, Classical.not_not] at g99
    refine Jp.y 100 rfl (want_as rfl rfl rfl rfl) rfl rfl Kp.true (Y.move rfl rfl) ?_
    refine Jp.y 101 rfl (want_as rfl rfl rfl rfl) rfl rfl Kp.true (Y.eql rfl rfl rfl) ?_
    refine Jp.y 102 rfl (want_all rfl) rfl rfl Kp.true (Y.pickT rfl rfl rfl) ?_
    refine Jp.y 103 rfl (want_all rfl) rfl rfl Kp.true (Y.move rfl rfl) ?_
    refine Jp.splitF 103 rfl (fun g103 => ?_) (fun g103 => ?_)
    · skip
      exact absurd g103 (by first | (simp [str_mkS, mkS_size]; done) | (simp [str, mkS]; done) | (simp [str, mkS, readV]; done))
    try simp only [decide_eq_false_iff_not, decide_eq_true_eq, Int.not_lt, Int.not_le, Bool.not_eq_false, Bool.not_eq_true, Bool.not_true, Bool.not_false, Bool.not_eq_true', Bool.not_eq_false', beq_eq_false_iff_ne, ne_eq, beq_iff_eq, bne_iff_ne, bne_eq_false_iff_eq, Classical.not_not] at g103
    refine Jp.y 104 rfl (want_as rfl rfl rfl rfl) rfl rfl Kp.true (Y.move rfl rfl) ?_
    refine Jp.y 105 rfl (want_as rfl rfl rfl rfl) rfl rfl Kp.true (Y.eql rfl rfl rfl) ?_
    refine Jp.y 106 rfl (want_all rfl) rfl rfl Kp.true (Y.pickT rfl rfl rfl) ?_
    refine Jp.y 107 rfl (want_all rfl) rfl rfl Kp.true (Y.move rfl rfl) ?_
    refine Jp.splitF 107 rfl (fun g107 => ?_) (fun g107 => ?_)
    · skip
      exact absurd g107 (by first | (simp [str_mkS, mkS_size]; done) | (simp [str, mkS]; done) | (simp [str, mkS, readV]; done))
    try simp only [decide_eq_false_iff_not, decide_eq_true_eq, Int.not_lt, Int.not_le, Bool.not_eq_false, Bool.not_eq_true, Bool.not_true, Bool.not_false, Bool.not_eq_true', Bool.not_eq_false', beq_eq_false_iff_ne, ne_eq, beq_iff_eq, bne_iff_ne, bne_eq_false_iff_eq, Classical.not_not] at g107
    refine Jp.y 108 rfl (want_as rfl rfl rfl rfl) rfl rfl Kp.true (Y.move rfl rfl) ?_
    refine Jp.y 109 rfl (want_as rfl rfl rfl rfl) rfl rfl Kp.true (Y.eql rfl rfl rfl) ?_
    refine Jp.y 110 rfl (want_all rfl) rfl rfl Kp.true (Y.pickT rfl rfl rfl) ?_
    refine Jp.y 111 rfl (want_all rfl) rfl rfl Kp.true (Y.move rfl rfl) ?_
    refine Jp.splitF 111 rfl (fun g111 => ?_) (fun g111 => ?_)
    · skip
      exact absurd g111 (by first | (simp [str_mkS, mkS_size]; done) | (simp [str, mkS]; done) | (simp [str, mkS, readV]; done))
    try simp only [decide_eq_false_iff_not, decide_eq_true_eq, Int.not_lt, Int.not_le, Bool.not_eq_false, Bool.not_eq_true, Bool.not_true, Bool.not_false, Bool.not_eq_true', Bool.not_eq_false', beq_eq_false_iff_ne, ne_eq, beq_iff_eq, bne_iff_ne, bne_eq_false_iff_eq, Classical.not_not] at g111
    refine Jp.y 112 rfl (want_as rfl rfl rfl rfl) rfl rfl Kp.true (Y.move rfl rfl) ?_
    refine Jp.y 113 rfl (want_as rfl rfl rfl rfl) rfl rfl Kp.true (Y.toStr _ rfl rfl Try.underlying26 Try.underlying9 Try.underlying5 ⟨_, _, rfl⟩ (Src.own 31 rfl)) ?_
    refine Jp.y 114 rfl (want_as rfl rfl rfl rfl) rfl rfl Kp.true (Y.streql rfl rfl rfl) ?_
    refine Jp.y 115 rfl (want_all rfl) rfl rfl Kp.true (Y.pickT rfl rfl rfl) ?_
    refine Jp.y 116 rfl (want_all rfl) rfl rfl Kp.true (Y.move rfl rfl) ?_
    refine Jp.splitF 116 rfl (fun g116 => ?_) (fun g116 => ?_)
    · skip
      exact absurd g116 (by first | (simp [str_mkS, mkS_size]; done) | (simp [str, mkS]; done) | (simp [str, mkS, readV]; done))
    try simp only [decide_eq_false_iff_not, decide_eq_true_eq, Int.not_lt, Int.not_le, Bool.not_eq_false, Bool.not_eq_true, Bool.not_true, Bool.not_false, Bool.not_eq_true', Bool.not_eq_false', beq_eq_false_iff_ne, ne_eq, beq_iff_eq, bne_iff_ne, bne_eq_false_iff_eq, Classical.not_not] at g116
    refine Jp.y 117 rfl (want_as rfl rfl rfl rfl) rfl rfl Kp.true (Y.move rfl rfl) ?_
    refine Jp.y 118 rfl (want_as rfl rfl rfl rfl) rfl rfl Kp.true (Y.eql rfl rfl rfl) ?_
    refine Jp.y 119 rfl (want_all rfl) rfl rfl Kp.true (Y.pickT rfl rfl rfl) ?_
    refine Jp.y 120 rfl (want_all rfl) rfl rfl Kp.true (Y.move rfl rfl) ?_
    refine Jp.splitF 120 rfl (fun g120 => ?_) (fun g120 => ?_)
    · skip
      exact absurd g120 (by first | (simp [str_mkS, mkS_size]; done) | (simp [str, mkS]; done) | (simp [str, mkS, readV]; done))
    try simp only [decide_eq_false_iff_not, decide_eq_true_eq, Int.not_lt, Int.not_le, Bool.not_eq_false, Bool.not_eq_true, Bool.not_true, Bool.not_false, Bool.not_eq_true', Bool.not_eq_false', beq_eq_false_iff_ne, ne_eq, beq_iff_eq, bne_iff_ne, bne_eq_false_iff_eq, Classical.not_not] at g120
    refine Jp.y 121 rfl (want_as rfl rfl rfl rfl) rfl rfl Kp.true (Y.move rfl rfl) ?_
    refine Jp.y 122 rfl (want_as rfl rfl rfl rfl) rfl rfl Kp.true (Y.eql rfl rfl rfl) ?_
    refine Jp.y 123 rfl (want_all rfl) rfl rfl Kp.true (Y.pickT rfl rfl rfl) ?_
    refine Jp.y 124 rfl (want_all rfl) rfl rfl Kp.true (Y.move rfl rfl) ?_
    refine Jp.splitF 124 rfl (fun g124 => ?_) (fun g124 => ?_)
    · skip
      exact absurd g124 (by first | (simp [str_mkS, mkS_size]; done) | (simp [str, mkS]; done) | (simp [str, mkS, readV]; done))
    try simp only [decide_eq_false_iff_not, decide_eq_true_eq, Int.not_lt, Int.not_le, Bool.not_eq_false, Bool.not_eq_true, Bool.not_true, Bool.not_false, Bool.not_eq_true', Bool.not_eq_false', beq_eq_false_iff_ne, ne_eq, beq_iff_eq, bne_iff_ne, bne_eq_false_iff_eq, Classical.not_not] at g124
    refine Jp.y 125 rfl (want_as rfl rfl rfl rfl) rfl rfl Kp.true (Y.move rfl rfl) ?_
    refine Jp.y 126 rfl (want_as rfl rfl rfl rfl) rfl rfl Kp.true (Y.eql rfl rfl rfl) ?_
    refine Jp.y 127 rfl (want_all rfl) rfl rfl Kp.true (Y.pickT rfl rfl rfl) ?_
    refine Jp.y 128 rfl (want_all rfl) rfl rfl Kp.true (Y.move rfl rfl) ?_
    refine Jp.splitF 128 rfl (fun g128 => ?_) (fun g128 => ?_)
    · skip
      exact absurd g128 (by first | (simp [str_mkS, mkS_size]; done) | (simp [str, mkS]; done) | (simp [str, mkS, readV]; done))
    try simp only [decide_eq_false_iff_not, decide_eq_true_eq, Int.not_lt, Int.not_le, Bool.not_eq_false, Bool.not_eq_true, Bool.not_true, Bool.not_false, Bool.not_eq_true', Bool.not_eq_false', beq_eq_false_iff_ne, ne_eq, beq_iff_eq, bne_iff_ne, bne_eq_false_iff_eq, Classical.not_not] at g128
    refine Jp.y 129 rfl (want_as rfl rfl rfl rfl) rfl rfl Kp.true (Y.move rfl rfl) ?_
    refine Jp.y 130 rfl (want_as rfl rfl rfl rfl) rfl rfl Kp.true (Y.eql rfl rfl rfl) ?_
    refine Jp.y 131 rfl (want_all rfl) rfl rfl Kp.true (Y.pickT rfl rfl rfl) ?_
    refine Jp.y 132 rfl (want_all rfl) rfl rfl Kp.true (Y.move rfl rfl) ?_
    refine Jp.splitF 132 rfl (fun g132 => ?_) (fun g132 => ?_)
    · skip
      exact absurd g132 (by first | (simp [str_mkS, mkS_size]; done) | (simp [str, mkS]; done) | (simp [str, mkS, readV]; done))
    try simp only [decide_eq_false_iff_not, decide_eq_true_eq, Int.not_lt, Int.not_le, Bool.not_eq_false, Bool.not_eq_true, Bool.not_true, Bool.not_false, Bool.not_eq_true', Bool.not_eq_false', beq_eq_false_iff_ne, ne_eq, beq_iff_eq, bne_iff_ne, bne_eq_false_iff_eq, Classical.not_not] at g132
    refine Jp.y 133 rfl (want_as rfl rfl rfl rfl) rfl rfl Kp.true (Y.move rfl rfl) ?_
    refine Jp.y 134 rfl (want_as rfl rfl rfl rfl) rfl rfl Kp.true (Y.eql rfl rfl rfl) ?_
    refine Jp.y 135 rfl (want_all rfl) rfl rfl Kp.true (Y.pickT rfl rfl rfl) ?_
    refine Jp.y 136 rfl (want_all rfl) rfl rfl Kp.true (Y.move rfl rfl) ?_
    refine Jp.splitF 136 rfl (fun g136 => ?_) (fun g136 => ?_)
    · skip
      exact absurd g136 (by first | (simp [str_mkS, mkS_size]; done) | (simp [str, mkS]; done) | (simp [str, mkS, readV]; done))
    try simp only [decide_eq_false_iff_not, decide_eq_true_eq, Int.not_lt, Int.not_le, Bool.not_eq_false, Bool.not_eq_true, Bool.not_true, Bool.not_false, Bool.not_eq_true', Bool.not_eq_false', beq_eq_false_iff_ne, ne_eq, beq_iff_eq, bne_iff_ne, bne_eq_false_iff_eq, Classical.not_not] at g136
    refine Jp.y 137 rfl (want_as rfl rfl rfl rfl) rfl rfl Kp.true (Y.move rfl rfl) ?_
    refine Jp.y 138 rfl (want_as rfl rfl rfl rfl) rfl rfl Kp.true (Y.eql rfl rfl rfl) ?_
    refine Jp.y 139 rfl (want_all rfl) rfl rfl Kp.true (Y.pickT rfl rfl rfl) ?_
    refine Jp.y 140 rfl (want_all rfl) rfl rfl Kp.true (Y.move rfl rfl) ?_
    refine Jp.splitF 140 rfl (fun g140 => ?_) (fun g140 => ?_)
    · skip
      exact absurd g140 (by first | (simp [str_mkS, mkS_size]; done) | (simp [str, mkS]; done) | (simp [str, mkS, readV]; done))
    try simp only [decide_eq_false_iff_not, decide_eq_true_eq, Int.not_lt, Int.not_le, Bool.not_eq_false, Bool.not_eq_true, Bool.not_true, Bool.not_false, Bool.not_eq_true', Bool.not_eq_false', beq_eq_false_iff_ne, ne_eq, beq_iff_eq, bne_iff_ne, bne_eq_false_iff_eq, Classical.not_not] at g140
    refine Jp.y 141 rfl (want_as rfl rfl rfl rfl) rfl rfl Kp.true (Y.move rfl rfl) ?_
    refine Jp.y 142 rfl (want_as rfl rfl rfl rfl) rfl rfl Kp.true (Y.eql rfl rfl rfl) ?_
    refine Jp.y 143 rfl (want_all rfl) rfl rfl Kp.true (Y.pickT rfl rfl rfl) ?_
    refine Jp.y 144 rfl (want_all rfl) rfl rfl Kp.true (Y.move rfl rfl) ?_
    refine Jp.splitF 144 rfl (fun g144 => ?_) (fun g144 => ?_)
    · skip
      exact absurd g144 (by first | (simp [str_mkS, mkS_size]; done) | (simp [str, mkS]; done) | (simp [str, mkS, readV]; done))
    try simp only [decide_eq_false_iff_not, decide_eq_true_eq, Int.not_lt, Int.not_le, Bool.not_eq_false, Bool.not_eq_true, Bool.not_true, Bool.not_false, Bool.not_eq_true', Bool.not_eq_false', beq_eq_false_iff_ne, ne_eq, beq_iff_eq, bne_iff_ne, bne_eq_false_iff_eq, Classical.not_not] at g144
    refine Jp.y 145 rfl (want_as rfl rfl rfl rfl) rfl rfl Kp.true (Y.move rfl rfl) ?_
    refine Jp.y 146 rfl (want_as rfl rfl rfl rfl) rfl rfl Kp.true (Y.eql rfl rfl rfl) ?_
    refine Jp.y 147 rfl (want_all rfl) rfl rfl Kp.true (Y.pickT rfl rfl rfl) ?_
    refine Jp.y 148 rfl (want_all rfl) rfl rfl Kp.true (Y.move rfl rfl) ?_
    refine Jp.splitF 148 rfl (fun g148 => ?_) (fun g148 => ?_)
    · skip
      exact absurd g148 (by first | (simp [str_mkS, mkS_size]; done) | (simp [str, mkS]; done) | (simp [str, mkS, readV]; done))
    try simp only [decide_eq_false_iff_not, decide_eq_true_eq, Int.not_lt, Int.not_le, Bool.not_eq_false, Bool.not_eq_true, Bool.not_true, Bool.not_false, Bool.not_eq_true', Bool.not_eq_false', beq_eq_false_iff_ne, ne_eq, beq_iff_eq, bne_iff_ne, bne_eq_false_iff_eq, Classical.not_not] at g148
    refine Jp.y 149 rfl (want_as rfl rfl rfl rfl) rfl rfl Kp.true (Y.move rfl rfl) ?_
    refine Jp.call [0, 2] [0, 2] (open_spec b ⟨all, bu, use15, bo, opL, bw, out7⟩ ⟨#[97]⟩) 150 rfl (want_as rfl rfl rfl rfl) rfl rfl (Runs.fn rfl Try.call35 rfl) (by decide) (by decide) rfl ok3 ?_
    rintro v41 ρ41 L41 ⟨rfl, rfl, opN, hpN, hgN, rfl⟩
    refine ⟨rfl, fun hle41 => ⟨Kp.true, ?_⟩⟩
    dsimp only at hpN hgN ⊢
    have hpN : FilesG.p ⟨all, bu, use15, bo, opN, bw, out7⟩ = (openFP (kL 20) [97]).2 := by rw [hpN, ok2]; rfl
    rw [show (openFP (FilesG.p ⟨all, bu, use15, bo, opL, bw, out7⟩) (str ⟨#[97]⟩)).1 = -24 by rw [ok2]; show (openFP (kL 20) [97]).1 = -24; decide +kernel]
    refine Jp.y 151 rfl (want_as rfl rfl rfl rfl) rfl rfl Kp.true (Y.eql rfl rfl rfl) ?_
    refine Jp.y 152 rfl (want_all rfl) rfl rfl Kp.true (Y.pickT rfl rfl rfl) ?_
    refine Jp.y 153 rfl (want_all rfl) rfl rfl Kp.true (Y.move rfl rfl) ?_
    refine Jp.splitF 153 rfl (fun g153 => ?_) (fun g153 => ?_)
    · skip
      exact absurd g153 (by first | (simp [str_mkS, mkS_size]; done) | (simp [str, mkS]; done) | (simp [str, mkS, readV]; done))
    try simp only [decide_eq_false_iff_not, decide_eq_true_eq, Int.not_lt, Int.not_le, Bool.not_eq_false, Bool.not_eq_true, Bool.not_true, Bool.not_false, Bool.not_eq_true', Bool.not_eq_false', beq_eq_false_iff_ne, ne_eq, beq_iff_eq, bne_iff_ne, bne_eq_false_iff_eq, Classical.not_not] at g153
    refine Jp.y 154 rfl (want_as rfl rfl rfl rfl) rfl rfl Kp.true (Y.move rfl rfl) ?_
    refine Jp.makeSlice (k := 65537) 155 12 rfl (want_as rfl rfl rfl rfl) rfl rfl rfl Try.underlying26 Try.sizeOf5 Try.typeInfo5 Try.zeroValue5 rfl rfl rfl (by first | rfl | omega) (by first | rfl | omega) (by simp only [Try.t5]; omega) (by omega) fun b12 => ⟨Kp.true, ?_⟩
    refine Jp.freeze (i := 12) rfl (OwnS.up _ _ _ _ _ _) fun ρz lz qz => ?_
    have hz : RdB ⟨some ⟨b12, 0, none⟩, 65537, List.replicate 65537 0⟩ ρz := by
      have h5 := qz.rd
      show RdS 1 _ (List.replicate 65537 (0 : UInt8)).length _ (bytesV (List.replicate 65537 0)) ρz
      rw [List.length_replicate, bytesV, List.map_replicate]
      exact h5
    rw [show Value.slice (some ⟨b12, 0, none⟩) 65537 65537 = Sl.v ⟨some ⟨b12, 0, none⟩, 65537, List.replicate 65537 (0 : UInt8)⟩ by rw [Sl.v, List.length_replicate]]
    have hfull : writeFP (FilesG.p ⟨all, bu, use15, bo, opN, bw, out7⟩) 2 (List.replicate 65537 0) = (-28, FilesG.p ⟨all, bu, use15, bo, opN, bw, out7⟩) := by
      rw [hpN]
      exact writeP_full (x := ⟨[], 0, true⟩) rfl rfl (by rw [List.length_replicate]; omega)
    refine Jp.call [0, 2, 3] [0, 2, 3] (write_spec b ⟨all, bu, use15, bo, opN, bw, out7⟩ 2 ⟨some ⟨b12, 0, none⟩, 65537, List.replicate 65537 0⟩ (by show (List.replicate 65537 (0 : UInt8)).length ≤ _; rw [List.length_replicate]; omega)) 156 rfl (want_as rfl rfl rfl rfl) rfl rfl (Runs.fn rfl Try.call31 rfl) (by decide) (by decide) rfl ⟨RdFs.up _ _ _ lz hgN, hz⟩ ?_
    rintro v42 ρ42 L42 ⟨rfl, outZ, hpZ, hgZ, rfl⟩
    refine ⟨rfl, fun hle42 => ⟨Kp.true, ?_⟩⟩
    dsimp only at hpZ hgZ ⊢
    rw [hfull] at hpZ ⊢
    dsimp only at hpZ ⊢
    refine Jp.y 157 rfl (want_as rfl rfl rfl rfl) rfl rfl Kp.true (Y.eql rfl rfl rfl) ?_
    refine Jp.y 158 rfl (want_all rfl) rfl rfl Kp.true (Y.pickT rfl rfl rfl) ?_
    refine Jp.y 159 rfl (want_all rfl) rfl rfl Kp.true (Y.move rfl rfl) ?_
    refine Jp.splitF 159 rfl (fun g159 => ?_) (fun g159 => ?_)
    · skip
      exact absurd g159 (by first | (simp [str_mkS, mkS_size]; done) | (simp [str, mkS]; done) | (simp [str, mkS, readV]; done))
    try simp only [decide_eq_false_iff_not, decide_eq_true_eq, Int.not_lt, Int.not_le, Bool.not_eq_false, Bool.not_eq_true, Bool.not_true, Bool.not_false, Bool.not_eq_true', Bool.not_eq_false', beq_eq_false_iff_ne, ne_eq, beq_iff_eq, bne_iff_ne, bne_eq_false_iff_eq, Classical.not_not] at g159
    refine Jp.y 160 rfl (want_as rfl rfl rfl rfl) rfl rfl Kp.true (Y.move rfl rfl) ?_
    refine Jp.call [0, 3] [0, 3, 13] (out_spec b ⟨all, bu, use15, bo, opN, bw, outZ⟩ 3) 161 rfl (want_as rfl rfl rfl rfl) rfl rfl (Runs.fn rfl Try.call34 rfl) (by decide) (by decide) rfl hgZ ?_
    rintro v43 ρ43 L43 ⟨rfl, A9, c9, rfl, rfl⟩
    refine ⟨rfl, fun hle43 => ⟨Kp.true, ?_⟩⟩
    rw [show outFP (FilesG.p ⟨all, bu, use15, bo, opN, bw, outZ⟩) 3 = [] by rw [hpZ, hpN]; decide +kernel]
    refine Jp.y 162 rfl (want_as rfl rfl rfl rfl) rfl rfl Kp.true (Y.lenslice rfl Try.underlying26 rfl) ?_
    refine Jp.y 163 rfl (want_as rfl rfl rfl rfl) rfl rfl Kp.true (Y.eql rfl rfl rfl) ?_
    refine Jp.y 164 rfl (want_all rfl) rfl rfl Kp.true (Y.pickT rfl rfl rfl) ?_
    refine Jp.y 0 rfl (want_all rfl) rfl rfl Kp.true (Y.assign rfl rfl) ?_
    refine Jp.done hK24 ?_
    refine Cd.ret [] rfl (res1 rfl rfl) trivial ⟨by simp, rfl⟩
end Go.Proofs.Ytjjhihlmoecmlaa
