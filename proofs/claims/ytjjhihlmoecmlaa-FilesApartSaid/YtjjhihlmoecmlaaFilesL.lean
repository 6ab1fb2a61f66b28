/- Law 11: FilesApart. -/
import Derived.Test.YtjjhihlmoecmlaaFilesG
import Derived.Test.YtjjhihlmoecmlaaFilesK
set_option linter.unusedVariables false
set_option linter.unusedSimpArgs false
set_option maxRecDepth 100000
namespace Go.Proofs.Ytjjhihlmoecmlaa
open Go
def inP (data : Bytes) (a : Nat) (out : List (Int × Bytes)) : FilesP := { all := [], use := ⟨[], [], [], 0, 0, 0⟩, op := [(0, ⟨data, a, false⟩), (1, ⟨[], 0, true⟩), (2, ⟨[], 0, true⟩)], out := out }
theorem newP_in {data : Bytes} (hd : data.length ≤ 4096) : newFP ⟨[], data, [], [], [], []⟩ = inP data 0 [] := by
  have hg : good ⟨[], data, [], [], [], []⟩ = true := by simp [good, goodArgs, goodFiles, hd]
  rw [newFP, beginP, hg]; rfl
theorem read_in {data : Bytes} {a : Nat} {out : List (Int × Bytes)} {n : Int} (h0 : 0 ≤ n) (h1 : n ≤ 4096) {b : Bytes} (hb : (data.drop (min a data.length)).take n.toNat = b) : readFP (inP data a out) 0 n = (some b, inP data (a + b.length) out) := by
  have hg : gget (inP data a out).op 0 = some ⟨data, a, false⟩ := rfl
  have ht : takeP (inP data a out).use (clampN n) = (n, ⟨[], [], [], 0, 0, 0⟩) := by rw [clampN_id h0 h1]; exact takeP_all h0
  rw [readP_some hg rfl, ht]
  have hb' : (leftP ⟨data, a, false⟩).take n.toNat = b := hb
  rw [hb']; rfl
theorem atOk_in {data : Bytes} {a : Nat} {out : List (Int × Bytes)} (h : a ≤ 4611686018427387904) : AtOk (inP data a out) := by
  intro x hx
  simp [inP] at hx
  rcases hx with rfl | rfl | rfl <;> simp [h]
theorem filesApart_spec (s : Sl UInt8) (n : Int) : Spec Try.prog 6 #[s.v, .int .i64 n] (RdB s) [] (fun ρ ρ' v L => v = .bool true ∧ L = []) := by
  obtain ⟨As, cs, data⟩ := s
  dsimp only [Sl.v]
  refine Spec.of 74 Try.func6 rfl Try.ntmps6 [(0, _), (1, _)] rfl rfl ?_
  intro cx ρ hr0 h0
  refine Cd.seq fun K1 hK1 => ?_
  refine Cd.plain [(0, false)] rfl rfl ?_
  refine Jp.y 4 rfl (want_all rfl) rfl rfl Kp.true (Y.assign rfl rfl) ?_
  refine Jp.done hK1 ?_
  refine Cd.seq fun K2 hK2 => ?_
  refine Cd.seq fun K3 hK3 => ?_
  refine Cd.plain [(0, false), (1, false)] rfl rfl ?_
  refine Jp.call [] [] f29_spec 10 rfl (want_all rfl) rfl rfl (Runs.fn rfl Try.call29 rfl) (by decide) (by decide) rfl trivial ?_
  rintro v1 ρ1 L1 ⟨rfl, rfl⟩
  refine ⟨rfl, fun hle1 => ⟨Kp.true, ?_⟩⟩
  have hr := RdB.up _ _ _ hle1 hr0
  refine Jp.y 11 rfl (want_all rfl) rfl rfl Kp.true (Y.not rfl rfl) ?_
  refine Jp.done hK3 ?_
  refine Cd.cond rfl (fun g11 => ?_) (fun g11 => ?_)
  · skip
    exact absurd g11 (by first | (simp [str_mkS, mkS_size]; done) | (simp [str, mkS]; done))
  try simp only [decide_eq_false_iff_not, decide_eq_true_eq, Int.not_lt, Int.not_le, Bool.not_eq_false, Bool.not_eq_true, Bool.not_true, Bool.not_false, Bool.not_eq_true', Bool.not_eq_false', beq_eq_false_iff_ne, ne_eq, beq_iff_eq, bne_iff_ne, bne_eq_false_iff_eq, Classical.not_not] at g11
  refine Cd.skip hK2 ?_
  refine Cd.seq fun K4 hK4 => ?_
  refine Cd.seq fun K5 hK5 => ?_
  refine Cd.plain [(0, false), (1, false), (2, false), (3, false), (4, false), (5, false), (6, false), (7, false), (8, false), (9, false), (10, false), (11, false), (12, false), (13, false), (14, false), (15, false), (16, false), (17, false)] rfl rfl ?_
  refine Jp.y 12 rfl (want_all rfl) rfl rfl Kp.true (Y.move rfl rfl) ?_
  refine Jp.y 13 rfl (want_all rfl) rfl rfl Kp.true (Y.lenslice rfl Try.underlying26 rfl) ?_
  refine Jp.y 14 rfl (want_all rfl) rfl rfl Kp.true (Y.lss rfl rfl rfl) ?_
  refine Jp.y 15 rfl (want_all rfl) rfl rfl Kp.true (Y.move rfl rfl) ?_
  refine Jp.split 15 rfl (fun g15 => ?_) (fun g15 => ?_)
  · skip
    refine Jp.skip 16 rfl (want_as rfl rfl rfl rfl) rfl rfl Kp.true ?_
    refine Jp.skip 17 rfl (want_as rfl rfl rfl rfl) rfl rfl Kp.true ?_
    refine Jp.skip 18 rfl (want_as rfl rfl rfl rfl) rfl rfl Kp.true ?_
    refine Jp.y 19 rfl (want_all rfl) rfl rfl Kp.true (Y.pickT rfl rfl rfl) ?_
    refine Jp.y 20 rfl (want_all rfl) rfl rfl Kp.true (Y.move rfl rfl) ?_
    refine Jp.skip 21 rfl (want_as rfl rfl rfl rfl) rfl rfl Kp.true ?_
    refine Jp.skip 22 rfl (want_as rfl rfl rfl rfl) rfl rfl Kp.true ?_
    refine Jp.y 23 rfl (want_all rfl) rfl rfl Kp.true (Y.pickT rfl rfl rfl) ?_
    refine Jp.y 24 rfl (want_all rfl) rfl rfl Kp.true (Y.move rfl rfl) ?_
    refine Jp.skip 25 rfl (want_as rfl rfl rfl rfl) rfl rfl Kp.true ?_
    refine Jp.skip 26 rfl (want_as rfl rfl rfl rfl) rfl rfl Kp.true ?_
    refine Jp.skip 27 rfl (want_as rfl rfl rfl rfl) rfl rfl Kp.true ?_
    refine Jp.skip 28 rfl (want_as rfl rfl rfl rfl) rfl rfl Kp.true ?_
    refine Jp.y 29 rfl (want_all rfl) rfl rfl Kp.true (Y.pickT rfl rfl rfl) ?_
    refine Jp.done hK5 ?_
    refine Cd.condT rfl ?_
    refine Cd.seq fun K6 hK6 => ?_
    refine Cd.plain [(0, false)] rfl rfl ?_
    refine Jp.y 4 rfl (want_all rfl) rfl rfl Kp.true (Y.assign rfl rfl) ?_
    refine Jp.done hK6 ?_
    refine Cd.ret [] rfl (res1 rfl rfl) trivial ⟨rfl, rfl⟩
  try simp only [decide_eq_false_iff_not, decide_eq_true_eq, Int.not_lt, Int.not_le, Bool.not_eq_false, Bool.not_eq_true, Bool.not_true, Bool.not_false, Bool.not_eq_true', Bool.not_eq_false', beq_eq_false_iff_ne, ne_eq, beq_iff_eq, bne_iff_ne, bne_eq_false_iff_eq, Classical.not_not] at g15
  refine Jp.y 16 rfl (want_as rfl rfl rfl rfl) rfl rfl Kp.true (Y.move rfl rfl) ?_
  refine Jp.y 17 rfl (want_as rfl rfl rfl rfl) rfl rfl Kp.true (Y.lenslice rfl Try.underlying26 rfl) ?_
  refine Jp.y 18 rfl (want_as rfl rfl rfl rfl) rfl rfl Kp.true (Y.gtr rfl rfl rfl) ?_
  refine Jp.y 19 rfl (want_all rfl) rfl rfl Kp.true (Y.pickF rfl rfl rfl) ?_
  refine Jp.y 20 rfl (want_all rfl) rfl rfl Kp.true (Y.move rfl rfl) ?_
  refine Jp.split 20 rfl (fun g20 => ?_) (fun g20 => ?_)
  · skip
    refine Jp.skip 21 rfl (want_as rfl rfl rfl rfl) rfl rfl Kp.true ?_
    refine Jp.skip 22 rfl (want_as rfl rfl rfl rfl) rfl rfl Kp.true ?_
    refine Jp.y 23 rfl (want_all rfl) rfl rfl Kp.true (Y.pickT rfl rfl rfl) ?_
    refine Jp.y 24 rfl (want_all rfl) rfl rfl Kp.true (Y.move rfl rfl) ?_
    refine Jp.skip 25 rfl (want_as rfl rfl rfl rfl) rfl rfl Kp.true ?_
    refine Jp.skip 26 rfl (want_as rfl rfl rfl rfl) rfl rfl Kp.true ?_
    refine Jp.skip 27 rfl (want_as rfl rfl rfl rfl) rfl rfl Kp.true ?_
    refine Jp.skip 28 rfl (want_as rfl rfl rfl rfl) rfl rfl Kp.true ?_
    refine Jp.y 29 rfl (want_all rfl) rfl rfl Kp.true (Y.pickT rfl rfl rfl) ?_
    refine Jp.done hK5 ?_
    refine Cd.condT rfl ?_
    refine Cd.seq fun K7 hK7 => ?_
    refine Cd.plain [(0, false)] rfl rfl ?_
    refine Jp.y 4 rfl (want_all rfl) rfl rfl Kp.true (Y.assign rfl rfl) ?_
    refine Jp.done hK7 ?_
    refine Cd.ret [] rfl (res1 rfl rfl) trivial ⟨rfl, rfl⟩
  try simp only [decide_eq_false_iff_not, decide_eq_true_eq, Int.not_lt, Int.not_le, Bool.not_eq_false, Bool.not_eq_true, Bool.not_true, Bool.not_false, Bool.not_eq_true', Bool.not_eq_false', beq_eq_false_iff_ne, ne_eq, beq_iff_eq, bne_iff_ne, bne_eq_false_iff_eq, Classical.not_not] at g20
  refine Jp.y 21 rfl (want_as rfl rfl rfl rfl) rfl rfl Kp.true (Y.move rfl rfl) ?_
  refine Jp.y 22 rfl (want_as rfl rfl rfl rfl) rfl rfl Kp.true (Y.lss rfl rfl rfl) ?_
  refine Jp.y 23 rfl (want_all rfl) rfl rfl Kp.true (Y.pickF rfl rfl rfl) ?_
  refine Jp.y 24 rfl (want_all rfl) rfl rfl Kp.true (Y.move rfl rfl) ?_
  refine Jp.split 24 rfl (fun g24 => ?_) (fun g24 => ?_)
  · skip
    refine Jp.skip 25 rfl (want_as rfl rfl rfl rfl) rfl rfl Kp.true ?_
    refine Jp.skip 26 rfl (want_as rfl rfl rfl rfl) rfl rfl Kp.true ?_
    refine Jp.skip 27 rfl (want_as rfl rfl rfl rfl) rfl rfl Kp.true ?_
    refine Jp.skip 28 rfl (want_as rfl rfl rfl rfl) rfl rfl Kp.true ?_
    refine Jp.y 29 rfl (want_all rfl) rfl rfl Kp.true (Y.pickT rfl rfl rfl) ?_
    refine Jp.done hK5 ?_
    refine Cd.condT rfl ?_
    refine Cd.seq fun K8 hK8 => ?_
    refine Cd.plain [(0, false)] rfl rfl ?_
    refine Jp.y 4 rfl (want_all rfl) rfl rfl Kp.true (Y.assign rfl rfl) ?_
    refine Jp.done hK8 ?_
    refine Cd.ret [] rfl (res1 rfl rfl) trivial ⟨rfl, rfl⟩
  try simp only [decide_eq_false_iff_not, decide_eq_true_eq, Int.not_lt, Int.not_le, Bool.not_eq_false, Bool.not_eq_true, Bool.not_true, Bool.not_false, Bool.not_eq_true', Bool.not_eq_false', beq_eq_false_iff_ne, ne_eq, beq_iff_eq, bne_iff_ne, bne_eq_false_iff_eq, Classical.not_not] at g24
  refine Jp.y 25 rfl (want_as rfl rfl rfl rfl) rfl rfl Kp.true (Y.move rfl rfl) ?_
  refine Jp.y 26 rfl (want_as rfl rfl rfl rfl) rfl rfl Kp.true (Y.move rfl rfl) ?_
  refine Jp.y 27 rfl (want_as rfl rfl rfl rfl) rfl rfl Kp.true (Y.lenslice rfl Try.underlying26 rfl) ?_
  refine Jp.y 28 rfl (want_as rfl rfl rfl rfl) rfl rfl Kp.true (Y.geq rfl rfl rfl) ?_
  refine Jp.y 29 rfl (want_all rfl) rfl rfl Kp.true (Y.pickF rfl rfl rfl) ?_
  refine Jp.done hK5 ?_
  refine Cd.cond rfl (fun g29 => ?_) (fun g29 => ?_)
  · skip
    refine Cd.seq fun K9 hK9 => ?_
    refine Cd.plain [(0, false)] rfl rfl ?_
    refine Jp.y 4 rfl (want_all rfl) rfl rfl Kp.true (Y.assign rfl rfl) ?_
    refine Jp.done hK9 ?_
    refine Cd.ret [] rfl (res1 rfl rfl) trivial ⟨rfl, rfl⟩
  try simp only [decide_eq_false_iff_not, decide_eq_true_eq, Int.not_lt, Int.not_le, Bool.not_eq_false, Bool.not_eq_true, Bool.not_true, Bool.not_false, Bool.not_eq_true', Bool.not_eq_false', beq_eq_false_iff_ne, ne_eq, beq_iff_eq, bne_iff_ne, bne_eq_false_iff_eq, Classical.not_not] at g29
  refine Cd.skip hK4 ?_
  refine Cd.seq fun K10 hK10 => ?_
  refine Cd.plain [(0, false), (1, false), (2, false), (3, false)] rfl rfl ?_
  have hd1 : 2 ≤ data.length := by omega
  have hd2 : data.length ≤ 100 := by omega
  have hn1 : 1 ≤ n := by omega
  have hn2 : n < data.length := by omega
  refine Jp.y 30 rfl (want_all rfl) rfl rfl Kp.true (Y.move rfl rfl) ?_
  refine Jp.y 31 rfl (want_all rfl) rfl rfl Kp.true (Y.struct [(1, _)] [_, _, _, _, _, _] rfl rfl places35 Try.zeroValue35 rfl) ?_
  refine Jp.call [] [0, 1, 2, 3] (new_files (FeedG.ofInput ⟨As, cs, data⟩)) 32 rfl (want_all rfl) rfl rfl (Runs.fn rfl Try.call30 rfl) (by decide) (by decide) rfl (RdFeed.ofInput hr) ?_
  rintro v2 ρ2 L2 ⟨b, ⟨all, bu, use, bo, op, bw, out⟩, rfl, rfl, hg, hp⟩
  refine ⟨rfl, fun hle2 => ⟨Kp.true, ?_⟩⟩
  have hr := RdB.up _ _ _ hle2 hr
  dsimp only
  have hp : FilesG.p ⟨all, bu, use, bo, op, bw, out⟩ = inP data 0 [] := by rw [hp, ← newP_in (by omega)]; rfl
  refine Jp.y 5 rfl (want_all rfl) rfl rfl Kp.true (Y.assign rfl rfl) ?_
  refine Jp.done hK10 ?_
  refine Cd.seq fun K11 hK11 => ?_
  refine Cd.plain [(0, false), (1, false), (2, false), (3, false)] rfl rfl ?_
  refine Jp.y 33 rfl (want_all rfl) rfl rfl Kp.true (Y.move rfl rfl) ?_
  refine Jp.lit 34 10 [(0, _), (1, _)] [_, _] rfl (want_all rfl) rfl rfl rfl rfl Try.underlying26 Try.sizeOf5 Try.zeroValue5 rfl rfl rfl rfl rfl fun b10 => ⟨Kp.true, ?_⟩
  first | refine Jp.mark 35 10 rfl (want_all rfl) rfl rfl rfl Try.underlying26 Try.underlying5 rfl rfl Kp.true ?_
  refine Jp.freeze (i := 10) rfl (RdS.up _ _ _ _ _) fun ρ3 l3 q3 => ?_
  have hr := RdB.up _ _ _ l3 hr
  refine Jp.call [0, 2, 3] [0, 2, 3] (write_spec b ⟨all, bu, use, bo, op, bw, out⟩ 1 ⟨some ⟨b10, 0, none⟩, 2, [97, 98]⟩ (by simp)) 36 rfl (want_all rfl) rfl rfl (Runs.fn rfl Try.call31 rfl) (by decide) (by decide) rfl ⟨RdFs.up _ _ _ l3 hg, q3⟩ ?_
  rintro v4 ρ4 L4 ⟨rfl, out2, hp2, hg2, rfl⟩
  refine ⟨rfl, fun hle4 => ⟨Kp.true, ?_⟩⟩
  have hr := RdB.up _ _ _ hle4 hr
  dsimp only at hp2 hg2 ⊢
  have hp2 : FilesG.p ⟨all, bu, use, bo, op, bw, out2⟩ = inP data 0 [(1, [97, 98])] := by rw [hp2, hp]; rfl
  refine Jp.done hK11 ?_
  refine Cd.seq fun K12 hK12 => ?_
  refine Cd.plain [(0, false), (1, false), (2, false)] rfl rfl ?_
  refine Jp.y 37 rfl (want_all rfl) rfl rfl Kp.true (Y.move rfl rfl) ?_
  refine Jp.call [0, 1, 2, 3] [0, 1, 2, 3, 20, 21, 22, 23] (filesCopy_spec b ⟨all, bu, use, bo, op, bw, out2⟩) 38 rfl (want_all rfl) rfl rfl (Runs.fn rfl Try.call32 rfl) (by decide) (by decide) rfl hg2 ?_
  rintro v5 ρ5 L5 ⟨rfl, b', bu', bo', bw', rfl, rfl⟩
  refine ⟨rfl, fun hle5 => ⟨Kp.true, ?_⟩⟩
  refine Jp.y 6 rfl (want_all rfl) rfl rfl Kp.true (Y.assign rfl rfl) ?_
  refine Jp.done hK12 ?_
  refine Cd.seq fun K13 hK13 => ?_
  refine Cd.plain [(0, false), (1, false), (2, false)] rfl rfl ?_
  refine Jp.y 39 rfl (want_all rfl) rfl rfl Kp.true (Y.move rfl rfl) ?_
  refine Jp.y 40 rfl (want_all rfl) rfl rfl Kp.true (Y.move rfl rfl) ?_
  have hrd := read_in (data := data) (a := 0) (out := [(1, [97, 98])]) (n := n) (by omega) (by omega) rfl
  refine Jp.call [0, 1, 2] [0, 1, 2, 6] (read_spec b ⟨all, bu, use, bo, op, bw, out2⟩ 0 n (by rw [hp2]; exact atOk_in (by omega))) 41 rfl (want_all rfl) rfl rfl (Runs.fn rfl Try.call33 rfl) (by decide) (by decide) rfl hg2 ?_
  rintro v6 ρ6 L6 ⟨rfl, use3, op3, A5, c5, hp3, hg3, rfl, rfl⟩
  refine ⟨rfl, fun hle6 => ⟨Kp.true, ?_⟩⟩
  dsimp only at hp3 hg3 ⊢
  rw [hp2, hrd] at hp3
  refine Jp.done hK13 ?_
  refine Cd.seq fun K14 hK14 => ?_
  refine Cd.plain [(0, false), (1, false), (2, false)] rfl rfl ?_
  refine Jp.y 42 rfl (want_all rfl) rfl rfl Kp.true (Y.move rfl rfl) ?_
  refine Jp.call [0, 3] [0, 3, 7] (out_spec b ⟨all, bu, use3, bo, op3, bw, out2⟩ 1) 43 rfl (want_all rfl) rfl rfl (Runs.fn rfl Try.call34 rfl) (by decide) (by decide) rfl hg3 ?_
  rintro v7 ρ7 L7 ⟨rfl, A6, c6, rfl, rfl⟩
  refine ⟨rfl, fun hle7 => ⟨Kp.true, ?_⟩⟩
  rw [show outFP (FilesG.p ⟨all, bu, use3, bo, op3, bw, out2⟩) 1 = [97, 98] by rw [hp3]; rfl]
  refine Jp.know (φ := ∃ q, A6 = some ⟨q, 0, none⟩) 7 rfl (fun k h => by
    rcases h.2 with ⟨_, h2, _⟩ | ⟨q, _, _, h2, _⟩
    · cases h2
    · exact ⟨q, h2⟩) ?_
  rintro ⟨q7, rfl⟩
  rw [show ([97, 98] : Bytes).length = 2 from rfl]
  refine Jp.y 7 rfl (want_all rfl) rfl rfl Kp.true (Y.assign rfl rfl) ?_
  refine Jp.done hK14 ?_
  refine Cd.seq fun K15 hK15 => ?_
  refine Cd.plain [(0, false), (1, false), (2, false)] rfl rfl ?_
  refine Jp.y 44 rfl (want_all rfl) rfl rfl Kp.true (Y.move rfl rfl) ?_
  refine Jp.y 45 rfl (want_all rfl) rfl rfl Kp.true (Y.indexAddr (q := 0) rfl rfl rfl Try.underlying26 Try.sizeOf5 (by omega) (by omega) (by omega)) ?_
  refine Jp.storeS 7 (q := 0) rfl (want_all rfl) rfl rfl Try.sizeOf5 rfl rfl rfl rfl rfl (by omega) (bytesV [122, 98]) rfl Kp.true ?_
  refine Jp.done hK15 ?_
  refine Cd.seq fun K16 hK16 => ?_
  refine Cd.plain [(0, false), (1, false), (2, false), (3, false)] rfl rfl ?_
  refine Jp.y 46 rfl (want_all rfl) rfl rfl Kp.true (Y.move rfl rfl) ?_
  refine Jp.lit 47 11 [(0, _)] [_] rfl (want_all rfl) rfl rfl rfl rfl Try.underlying26 Try.sizeOf5 Try.zeroValue5 rfl rfl rfl rfl rfl fun b11 => ⟨Kp.true, ?_⟩
  first | refine Jp.mark 48 10 rfl (want_all rfl) rfl rfl rfl Try.underlying26 Try.underlying5 rfl rfl Kp.true ?_ | refine Jp.mark 48 11 rfl (want_all rfl) rfl rfl rfl Try.underlying26 Try.underlying5 rfl rfl Kp.true ?_
  refine Jp.freeze (i := 11) rfl (RdS.up _ _ _ _ _) fun ρ8 l8 q8 => ?_
  have hr := RdB.up _ _ _ l8 hr
  have hg2 := RdFs.up _ _ _ l8 hg2
  refine Jp.call [0, 2, 3] [0, 2, 3] (write_spec b ⟨all, bu, use3, bo, op3, bw, out2⟩ 1 ⟨some ⟨b11, 0, none⟩, 1, [99]⟩ (by simp)) 49 rfl (want_all rfl) rfl rfl (Runs.fn rfl Try.call31 rfl) (by decide) (by decide) rfl ⟨RdFs.up _ _ _ l8 hg3, q8⟩ ?_
  rintro v9 ρ9 L9 ⟨rfl, out4, hp4, hg4, rfl⟩
  refine ⟨rfl, fun hle9 => ⟨Kp.true, ?_⟩⟩
  have hr := RdB.up _ _ _ hle9 hr
  have hg2 := RdFs.up _ _ _ hle9 hg2
  dsimp only at hp4 hg4 ⊢
  have hp4 : FilesG.p ⟨all, bu, use3, bo, op3, bw, out4⟩ = inP data (0 + ((data.drop (min 0 data.length)).take n.toNat).length) [(1, [97, 98, 99])] := by rw [hp4, hp3]; rfl
  have hgc : RdFs ⟨all, bu', use, bo', op, bw', out2⟩ _ := ⟨hg2.all, hg2.use, hg2.op, hg2.out, hg2.ok⟩
  have hpc : FilesG.p ⟨all, bu', use, bo', op, bw', out2⟩ = inP data 0 [(1, [97, 98])] := hp2
  have hrd2 := read_in (data := data) (a := 0) (out := [(1, [97, 98])]) (n := (data.length : Int)) (by omega) (by omega) (b := data) (by rw [Nat.zero_min, List.drop_zero, Int.toNat_natCast, List.take_length])
  refine Jp.done hK16 ?_
  refine Cd.seq fun K17 hK17 => ?_
  refine Cd.plain [(0, false), (1, false), (2, false), (3, false), (4, false), (5, false), (6, false), (7, false), (8, false)] rfl rfl ?_
  refine Jp.y 51 rfl (want_all rfl) rfl rfl Kp.true (Y.move rfl rfl) ?_
  refine Jp.y 52 rfl (want_all rfl) rfl rfl Kp.true (Y.move rfl rfl) ?_
  refine Jp.y 53 rfl (want_all rfl) rfl rfl Kp.true (Y.lenslice rfl Try.underlying26 rfl) ?_
  refine Jp.call [20, 21, 22] [20, 21, 22, 12] (read_spec b' ⟨all, bu', use, bo', op, bw', out2⟩ 0 data.length (by rw [hpc]; exact atOk_in (by omega))) 54 rfl (want_all rfl) rfl rfl (Runs.fn rfl Try.call33 rfl) (by decide) (by decide) rfl hgc ?_
  rintro v10 ρ10 L10 ⟨rfl, use5, op5, A7, c7, hp5, hg5, rfl, rfl⟩
  refine ⟨rfl, fun hle10 => ⟨Kp.true, ?_⟩⟩
  dsimp only at hp5 hg5 ⊢
  rw [hpc, hrd2] at hp5
  rw [show readFP (FilesG.p ⟨all, bu', use, bo', op, bw', out2⟩) 0 data.length = (some data, inP data (0 + data.length) [(1, [97, 98])]) by rw [hpc, hrd2]]
  dsimp only [Option.getD_some, readV] at hp5 ⊢
  refine Jp.y 50 rfl (want_all rfl) rfl rfl Kp.true (Y.move rfl rfl) ?_
  refine Jp.y 55 rfl (want_all rfl) rfl rfl Kp.true (Y.extract rfl rfl rfl) ?_
  refine Jp.y 56 rfl (want_all rfl) rfl rfl Kp.true (Y.extract rfl rfl rfl) ?_
  refine Jp.y 8 rfl (want_all rfl) rfl rfl Kp.true (Y.assign rfl rfl) ?_
  refine Jp.y 9 rfl (want_all rfl) rfl rfl Kp.true (Y.assign rfl rfl) ?_
  refine Jp.done hK17 ?_
  refine Cd.seq fun K18 hK18 => ?_
  refine Cd.plain [(0, false), (1, false), (2, false), (3, false), (4, false), (5, false), (6, false), (7, false), (8, false), (9, false), (10, false), (11, false), (12, false), (13, false), (14, false), (15, false), (16, false), (17, false)] rfl rfl ?_
  refine Jp.y 57 rfl (want_all rfl) rfl rfl Kp.true (Y.move rfl rfl) ?_
  refine Jp.y 58 rfl (want_all rfl) rfl rfl Kp.true (Y.toStr _ rfl rfl Try.underlying26 Try.underlying9 Try.underlying5 ⟨_, _, rfl⟩ (Src.own 12 rfl)) ?_
  refine Jp.y 59 rfl (want_all rfl) rfl rfl Kp.true (Y.move rfl rfl) ?_
  refine Jp.y 60 rfl (want_all rfl) rfl rfl Kp.true (Y.toStr _ rfl rfl Try.underlying26 Try.underlying9 Try.underlying5 ⟨_, _, rfl⟩ (Src.rd hr)) ?_
  refine Jp.y 61 rfl (want_all rfl) rfl rfl Kp.true (Y.streql rfl rfl rfl) ?_
  refine Jp.y 62 rfl (want_all rfl) rfl rfl Kp.true (Y.move rfl rfl) ?_
  refine Jp.splitF 62 rfl (fun g62 => ?_) (fun g62 => ?_)
  · skip
    exact absurd g62 (by first | (simp [str_mkS, mkS_size]; done) | (simp [str, mkS]; done))
  try simp only [decide_eq_false_iff_not, decide_eq_true_eq, Int.not_lt, Int.not_le, Bool.not_eq_false, Bool.not_eq_true, Bool.not_true, Bool.not_false, Bool.not_eq_true', Bool.not_eq_false', beq_eq_false_iff_ne, ne_eq, beq_iff_eq, bne_iff_ne, bne_eq_false_iff_eq, Classical.not_not] at g62
  refine Jp.y 63 rfl (want_as rfl rfl rfl rfl) rfl rfl Kp.true (Y.move rfl rfl) ?_
  refine Jp.call [20, 23] [20, 23, 13] (out_spec b' ⟨all, bu', use5, bo', op5, bw', out2⟩ 1) 64 rfl (want_as rfl rfl rfl rfl) rfl rfl (Runs.fn rfl Try.call34 rfl) (by decide) (by decide) rfl hg5 ?_
  rintro v11 ρ11 L11 ⟨rfl, A8, c8, rfl, rfl⟩
  refine ⟨rfl, fun hle11 => ⟨Kp.true, ?_⟩⟩
  rw [show outFP (FilesG.p ⟨all, bu', use5, bo', op5, bw', out2⟩) 1 = [97, 98] by rw [hp5]; rfl]
  refine Jp.y 65 rfl (want_as rfl rfl rfl rfl) rfl rfl Kp.true (Y.toStr _ rfl rfl Try.underlying26 Try.underlying9 Try.underlying5 ⟨_, _, rfl⟩ (Src.own 13 rfl)) ?_
  refine Jp.y 66 rfl (want_as rfl rfl rfl rfl) rfl rfl Kp.true (Y.streql rfl rfl rfl) ?_
  refine Jp.y 67 rfl (want_all rfl) rfl rfl Kp.true (Y.pickT rfl rfl rfl) ?_
  refine Jp.y 68 rfl (want_all rfl) rfl rfl Kp.true (Y.move rfl rfl) ?_
  refine Jp.splitF 68 rfl (fun g68 => ?_) (fun g68 => ?_)
  · skip
    exact absurd g68 (by first | (simp [str_mkS, mkS_size]; done) | (simp [str, mkS]; done))
  try simp only [decide_eq_false_iff_not, decide_eq_true_eq, Int.not_lt, Int.not_le, Bool.not_eq_false, Bool.not_eq_true, Bool.not_true, Bool.not_false, Bool.not_eq_true', Bool.not_eq_false', beq_eq_false_iff_ne, ne_eq, beq_iff_eq, bne_iff_ne, bne_eq_false_iff_eq, Classical.not_not] at g68
  refine Jp.y 69 rfl (want_as rfl rfl rfl rfl) rfl rfl Kp.true (Y.move rfl rfl) ?_
  refine Jp.call [0, 3] [0, 3, 14] (out_spec b ⟨all, bu, use3, bo, op3, bw, out4⟩ 1) 70 rfl (want_as rfl rfl rfl rfl) rfl rfl (Runs.fn rfl Try.call34 rfl) (by decide) (by decide) rfl hg4 ?_
  rintro v12 ρ12 L12 ⟨rfl, A9, c9, rfl, rfl⟩
  refine ⟨rfl, fun hle12 => ⟨Kp.true, ?_⟩⟩
  rw [show outFP (FilesG.p ⟨all, bu, use3, bo, op3, bw, out4⟩) 1 = [97, 98, 99] by rw [hp4]; rfl]
  refine Jp.y 71 rfl (want_as rfl rfl rfl rfl) rfl rfl Kp.true (Y.toStr _ rfl rfl Try.underlying26 Try.underlying9 Try.underlying5 ⟨_, _, rfl⟩ (Src.own 14 rfl)) ?_
  refine Jp.y 72 rfl (want_as rfl rfl rfl rfl) rfl rfl Kp.true (Y.streql rfl rfl rfl) ?_
  refine Jp.y 73 rfl (want_all rfl) rfl rfl Kp.true (Y.pickT rfl rfl rfl) ?_
  refine Jp.y 4 rfl (want_all rfl) rfl rfl Kp.true (Y.assign rfl rfl) ?_
  refine Jp.done hK18 ?_
  refine Cd.ret [] rfl (res1 rfl rfl) trivial ⟨by simp [str, mkS], rfl⟩
end Go.Proofs.Ytjjhihlmoecmlaa
