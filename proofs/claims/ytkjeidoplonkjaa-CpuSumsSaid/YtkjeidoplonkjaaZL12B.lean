import Derived.Test.YtkjeidoplonkjaaZL12A
set_option linter.unusedVariables false
set_option linter.unusedSimpArgs false
set_option maxRecDepth 100000
namespace Go.Proofs.Ytkjeidoplonkjaa
open Go
structure StRd (s : StP) : Prop where
  len : s.x.length = 32
  lt : ∀ y ∈ s.x, y < 4294967296
  pc : s.pc < 4294967296
  ret : -9223372036854775808 ≤ s.ret ∧ s.ret ≤ 9223372036854775807
theorem StRd.ok {s : StP} (h : StRd s) (h2 : s.ret ≤ 4611686018427387904) : StOk s := ⟨h.len, h.lt, h.pc, h.ret.1, h2⟩
theorem StRd.cRet {s : StP} (h : StRd s) : s.cells.toArray[33]? = some (.int .i64 s.ret) := by simp [StP.cells, natsV, List.getElem?_append, h.len]
theorem StRd.size {s : StP} (h : StRd s) : s.cells.length = 34 := by simp [StP.cells, natsV, h.len]
theorem place_nat {v n : Nat} (hn : n < 32) (h : v * 2 ^ n < 4294967296) : placeP (v : Int) n = v * 2 ^ n := by
  have hv : v < 4294967296 := by
    have : v * 1 ≤ v * 2 ^ n := Nat.mul_le_mul_left _ (Nat.one_le_two_pow)
    omega
  unfold placeP
  rw [u32_id hv, u32_id h]
theorem encW_reg {op d s t : Nat} (h : 28 ≤ op ∧ op ≤ 45) (hd : d < 32) (hs : s < 32) (ht : t < 32) :
    encW ⟨op, d, s, t, 0⟩ = 51 + d * 128 + (codeP op).2.1 * 4096 + s * 32768 + t * 1048576 + (codeP op).2.2 * 33554432 ∧ (codeP op).2.1 < 8 ∧ (codeP op).2.2 < 64 ∧ regKP (codeP op).2.1 (codeP op).2.2 = op := by
  have hc : (codeP op).1 = 51 ∧ (codeP op).2.1 < 8 ∧ (codeP op).2.2 < 64 ∧ regKP (codeP op).2.1 (codeP op).2.2 = op := by
    rcases (show op = 28 ∨ op = 29 ∨ op = 30 ∨ op = 31 ∨ op = 32 ∨ op = 33 ∨ op = 34 ∨ op = 35 ∨ op = 36 ∨ op = 37 ∨ op = 38 ∨ op = 39 ∨ op = 40 ∨ op = 41 ∨ op = 42 ∨ op = 43 ∨ op = 44 ∨ op = 45 by omega) with
      rfl | rfl | rfl | rfl | rfl | rfl | rfl | rfl | rfl | rfl | rfl | rfl | rfl | rfl | rfl | rfl | rfl | rfl <;> decide
  obtain ⟨h1, h2, h3, h4⟩ := hc
  refine ⟨?_, h2, h3, h4⟩
  obtain ⟨f, hf⟩ : ∃ f, (codeP op).2.1 = f := ⟨_, rfl⟩
  obtain ⟨g, hg⟩ : ∃ g, (codeP op).2.2 = g := ⟨_, rfl⟩
  unfold encW
  dsimp only
  rw [hf] at h2
  rw [hg] at h3
  rw [if_neg (by omega), h1, hf, hg, place_nat (by decide) (by decide), place_nat (by decide) (by omega), place_nat (by decide) (by omega), place_nat (by decide) (by omega), place_nat (by decide) (by omega), place_nat (by decide) (by omega)]
  rw [show bitsP op 0 = 0 by (unfold bitsP; rw [if_neg (by omega), if_neg (by omega), if_neg (by omega), if_neg (by omega), if_neg (by omega), if_pos (by omega)])]
  have o1 : 51 ||| d * 2 ^ 7 = 51 + d * 2 ^ 7 := or_shift (by omega)
  have o2 : (51 + d * 2 ^ 7) ||| f * 2 ^ 12 = 51 + d * 2 ^ 7 + f * 2 ^ 12 := or_shift (by omega)
  have o3 : (51 + d * 2 ^ 7 + f * 2 ^ 12) ||| s * 2 ^ 15 = 51 + d * 2 ^ 7 + f * 2 ^ 12 + s * 2 ^ 15 := or_shift (by omega)
  have o4 : (51 + d * 2 ^ 7 + f * 2 ^ 12 + s * 2 ^ 15) ||| t * 2 ^ 20 = 51 + d * 2 ^ 7 + f * 2 ^ 12 + s * 2 ^ 15 + t * 2 ^ 20 := or_shift (by omega)
  have o5 : (51 + d * 2 ^ 7 + f * 2 ^ 12 + s * 2 ^ 15 + t * 2 ^ 20) ||| g * 2 ^ 25 = 51 + d * 2 ^ 7 + f * 2 ^ 12 + s * 2 ^ 15 + t * 2 ^ 20 + g * 2 ^ 25 := or_shift (by omega)
  rw [Nat.or_zero, Nat.pow_zero, Nat.mul_one, o1, o2, o3, o4, o5]
theorem dec_reg {op d s t : Nat} (h : 28 ≤ op ∧ op ≤ 45) (hd : d < 32) (hs : s < 32) (ht : t < 32) : decP (encW ⟨op, d, s, t, 0⟩) = ⟨op, d, s, t, 0⟩ := by
  obtain ⟨hW, h2, h3, h4⟩ := encW_reg h hd hs ht
  rw [hW]
  obtain ⟨f, hf⟩ : ∃ f, (codeP op).2.1 = f := ⟨_, rfl⟩
  obtain ⟨g, hg⟩ : ∃ g, (codeP op).2.2 = g := ⟨_, rfl⟩
  rw [hf, hg] at h4 ⊢
  rw [hf] at h2
  rw [hg] at h3
  obtain ⟨W, hWe⟩ : ∃ W, 51 + d * 128 + f * 4096 + s * 32768 + t * 1048576 + g * 33554432 = W := ⟨_, rfl⟩
  rw [hWe]
  have e0 : W % 128 = 51 := by omega
  have e7 : W / 2 ^ 7 % 2 ^ 5 = d := by omega
  have e12 : W / 2 ^ 12 % 2 ^ 3 = f := by omega
  have e15 : W / 2 ^ 15 % 2 ^ 5 = s := by omega
  have e20 : W / 2 ^ 20 % 2 ^ 5 = t := by omega
  have e25 : W / 2 ^ 25 % 2 ^ 7 = g := by omega
  have hk : kindP W = op := by
    unfold kindP
    rw [e0, e12, e25, if_neg (by decide), if_neg (by decide), if_neg (by decide), if_neg (by decide), if_neg (by decide), if_neg (by decide), if_neg (by decide), if_neg (by decide), if_pos rfl, h4]
  unfold decP
  rw [hk, e7, e15, e20, if_neg (by omega), if_neg (by omega), if_neg (by omega), if_neg (by omega), if_neg (by omega), if_neg (by omega), if_pos (by omega)]
theorem insEq_self (i : InsP) : insEq i i = true := (insEq_iff i i).2 rfl
theorem enc_reg {op d s t : Nat} (h : 28 ≤ op ∧ op ≤ 45) (hd : d < 32) (hs : s < 32) (ht : t < 32) : encP ⟨op, d, s, t, 0⟩ = (encW ⟨op, d, s, t, 0⟩, 0) := by
  unfold encP
  rw [dec_reg h hd hs ht, insEq_self, if_pos rfl]
theorem loadM_one (w : Nat) (hw : w < 4294967296) : loadM (madeD [(w : Int)] []) 4096 4 4 = (w, 0) := by
  have h : loadM (madeD [(w : Int)] []) 4096 4 4 = (leN (leB w 4), 0) := by kernel_rfl
  rw [h, leN_leB, Nat.mod_eq_of_lt hw]
theorem fetch_one {w : Nat} (hw : w < 4294967296) {i : InsP} (hd : decP w = i) (hi : i.op ≠ 0) : fetchP (madeD [(w : Int)] []) 4096 = (i, noEv) := by
  unfold fetchP
  rw [loadM_one w hw]
  dsimp only
  rw [if_pos rfl, hd, if_neg hi]
theorem stepP_of {M : MemG} {s : StP} {i : InsP} (h : fetchP M s.pc = (i, noEv)) : stepP M s = doInsP M i s := by
  unfold stepP
  rw [h]
  rfl
theorem step_sum {op d s t : Nat} (h : 28 ≤ op ∧ op ≤ 45) (hd : 1 ≤ d ∧ d < 32) (hs : 1 ≤ s ∧ s < 32) (ht : 1 ≤ t ∧ t < 32) (x : List Nat) (ret : Int) :
    stepP (madeD [((encW ⟨op, d, s, t, 0⟩ : Nat) : Int)] []) ⟨x, 4096, ret⟩ = (⟨(x.set d (doP (kindA op) (x.getD s 0) (x.getD t 0))).set 0 0, 4100, ret + 1⟩, noEv, madeD [((encW ⟨op, d, s, t, 0⟩ : Nat) : Int)] []) := by
  rw [stepP_of (s := ⟨x, 4096, ret⟩) (fetch_one (encW_lt _) (dec_reg h hd.2 hs.2 ht.2) (by dsimp only; omega))]
  have hg : goesP ⟨op, d, s, t, 0⟩ ⟨x, 4096, ret⟩ = 4100 := by
    unfold goesP
    dsimp only
    rw [if_neg (by omega), if_neg (by omega), if_neg (by omega)]
    rfl
  have hv : valueP (madeD [((encW ⟨op, d, s, t, 0⟩ : Nat) : Int)] []) ⟨op, d, s, t, 0⟩ ⟨x, 4096, ret⟩ = (doP (kindA op) (x.getD s 0) (x.getD t 0), noEv) := by
    unfold valueP opdP regP
    dsimp only
    rw [if_neg (by omega), if_neg (by omega), if_neg (by omega), if_neg (by simp [loadsP]; omega), if_neg (by omega), if_neg (by omega), if_neg (by omega)]
  unfold doInsP
  dsimp only
  rw [hg, hv, if_neg (by omega), if_neg (by omega), if_neg (by decide), if_neg (by simp [storesP]; omega), if_pos (by simp [writesP]; omega)]
  rfl
theorem StP.cX' {s : StP} {r v : Nat} (hr : s.x[r]? = some v) : s.cells.toArray[r]? = some (.int .u32 (v : Int)) := by
  have hl : r < s.x.length := (List.getElem?_eq_some_iff.1 hr).1
  have e : s.x[r] = v := by rw [List.getElem?_eq_getElem hl] at hr; injection hr
  simp [StP.cells, natsV, List.getElem?_append, hl, e]
theorem StP.cPc' {s : StP} (h : s.x.length = 32) : s.cells.toArray[32]? = some (.int .u32 (s.pc : Int)) := by simp [StP.cells, natsV, List.getElem?_append, h]
theorem madeD_state (x : List Nat) (hx : x.length = 32) (hl : ∀ y ∈ x, y < 4294967296) {ret : Int} (h1 : -9223372036854775808 ≤ ret) (h2 : ret ≤ 4611686018427387904) : StOk ⟨x, 4096, ret⟩ := ⟨hx, hl, (by decide : 4096 < 4294967296), h1, h2⟩
theorem getD_get {x : List Nat} {r : Nat} (h : r < x.length) : x[r]? = some (x.getD r 0) := by simp [List.getD_eq_getElem?_getD, h]
theorem cpuSums_spec (op d s t : Int) (c : StP) (hc : StRd c) : Spec Try.prog 4 #[.int .i64 op, .int .i64 d, .int .i64 s, .int .i64 t, .agg c.cells.toArray] (fun _ => True) [] (fun ρ ρ' v L => v = .bool true ∧ L = []) := by
  refine Spec.of 113 Try.func4 rfl Try.ntmps4 [(0, _), (1, _), (2, _), (3, _), (4, _)] rfl rfl ?_
  intro cx ρ hr' h0
  have hcl := hc.size
  have hco := StP.one c
  refine Cd.seq fun K1 hK1 => ?_
  refine Cd.plain [(0, false), (1, false)] rfl rfl ?_
  refine Jp.box 9 9 rfl (want_all rfl) rfl rfl rfl rfl fun b9 => ⟨Kp.true, ?_⟩
  refine Jp.y 10 rfl (want_all rfl) rfl rfl Kp.true (Y.assign rfl rfl) ?_
  refine Jp.done hK1 ?_
  refine Cd.seq fun K2 hK2 => ?_
  refine Cd.seq fun K3 hK3 => ?_
  refine Cd.plain [(0, false), (1, false)] rfl rfl ?_
  refine Jp.call [] [] awake12_spec 18 rfl (want_all rfl) rfl rfl (Runs.fn rfl Try.call12 rfl) (by decide) (by decide) rfl trivial ?_
  rintro v1 ρ1 L1 ⟨rfl, rfl⟩
  refine ⟨rfl, fun hle1 => ⟨Kp.true, ?_⟩⟩
  refine Jp.y 19 rfl (want_all rfl) rfl rfl Kp.true (Y.not rfl rfl) ?_
  refine Jp.done hK3 ?_
  refine Cd.cond rfl (fun g19 => ?_) (fun g19 => ?_)
  · skip
    exact absurd g19 (by simp)
  try simp only [decide_eq_false_iff_not, decide_eq_true_eq, Int.not_lt, Int.not_le, Bool.not_eq_false, Bool.not_eq_true, Bool.not_true, Bool.not_false, Bool.not_eq_true', Bool.not_eq_false', beq_eq_false_iff_ne, ne_eq, beq_iff_eq, bne_iff_ne, bne_eq_false_iff_eq, Classical.not_not] at g19
  refine Cd.skip hK2 ?_
  refine Cd.seq fun K4 hK4 => ?_
  refine Cd.seq fun K5 hK5 => ?_
  refine Cd.plain [(0, false), (1, false), (2, false), (3, false), (4, false), (5, false), (6, false), (7, false), (8, false), (9, false), (10, false), (11, false), (12, false), (13, false), (14, false), (15, false), (16, false), (17, false), (18, false), (19, false), (20, false), (21, false), (22, false), (23, false), (24, false), (25, false), (26, false), (27, false), (28, false), (29, false), (30, false), (31, false), (32, false), (33, false), (34, false), (35, false), (36, false), (37, false), (38, false), (39, false)] rfl rfl ?_
  refine Jp.y 20 rfl (want_all rfl) rfl rfl Kp.true (Y.move rfl rfl) ?_
  refine Jp.y 21 rfl (want_all rfl) rfl rfl Kp.true (Y.lss rfl rfl rfl) ?_
  refine Jp.y 22 rfl (want_all rfl) rfl rfl Kp.true (Y.move rfl rfl) ?_
  refine Jp.split 22 rfl (fun g22 => ?_) (fun g22 => ?_)
  · skip
    refine Jp.skip 23 rfl (want_as rfl rfl rfl rfl) rfl rfl Kp.true ?_
    refine Jp.skip 24 rfl (want_as rfl rfl rfl rfl) rfl rfl Kp.true ?_
    refine Jp.y 25 rfl (want_all rfl) rfl rfl Kp.true (Y.pickT rfl rfl rfl) ?_
    refine Jp.y 26 rfl (want_all rfl) rfl rfl Kp.true (Y.move rfl rfl) ?_
    refine Jp.skip 27 rfl (want_as rfl rfl rfl rfl) rfl rfl Kp.true ?_
    refine Jp.skip 28 rfl (want_as rfl rfl rfl rfl) rfl rfl Kp.true ?_
    refine Jp.y 29 rfl (want_all rfl) rfl rfl Kp.true (Y.pickT rfl rfl rfl) ?_
    refine Jp.y 30 rfl (want_all rfl) rfl rfl Kp.true (Y.move rfl rfl) ?_
    refine Jp.skip 31 rfl (want_as rfl rfl rfl rfl) rfl rfl Kp.true ?_
    refine Jp.skip 32 rfl (want_as rfl rfl rfl rfl) rfl rfl Kp.true ?_
    refine Jp.y 33 rfl (want_all rfl) rfl rfl Kp.true (Y.pickT rfl rfl rfl) ?_
    refine Jp.y 34 rfl (want_all rfl) rfl rfl Kp.true (Y.move rfl rfl) ?_
    refine Jp.skip 35 rfl (want_as rfl rfl rfl rfl) rfl rfl Kp.true ?_
    refine Jp.skip 36 rfl (want_as rfl rfl rfl rfl) rfl rfl Kp.true ?_
    refine Jp.y 37 rfl (want_all rfl) rfl rfl Kp.true (Y.pickT rfl rfl rfl) ?_
    refine Jp.y 38 rfl (want_all rfl) rfl rfl Kp.true (Y.move rfl rfl) ?_
    refine Jp.skip 39 rfl (want_as rfl rfl rfl rfl) rfl rfl Kp.true ?_
    refine Jp.skip 40 rfl (want_as rfl rfl rfl rfl) rfl rfl Kp.true ?_
    refine Jp.y 41 rfl (want_all rfl) rfl rfl Kp.true (Y.pickT rfl rfl rfl) ?_
    refine Jp.y 42 rfl (want_all rfl) rfl rfl Kp.true (Y.move rfl rfl) ?_
    refine Jp.skip 43 rfl (want_as rfl rfl rfl rfl) rfl rfl Kp.true ?_
    refine Jp.skip 44 rfl (want_as rfl rfl rfl rfl) rfl rfl Kp.true ?_
    refine Jp.y 45 rfl (want_all rfl) rfl rfl Kp.true (Y.pickT rfl rfl rfl) ?_
    refine Jp.y 46 rfl (want_all rfl) rfl rfl Kp.true (Y.move rfl rfl) ?_
    refine Jp.skip 47 rfl (want_as rfl rfl rfl rfl) rfl rfl Kp.true ?_
    refine Jp.skip 48 rfl (want_as rfl rfl rfl rfl) rfl rfl Kp.true ?_
    refine Jp.y 49 rfl (want_all rfl) rfl rfl Kp.true (Y.pickT rfl rfl rfl) ?_
    refine Jp.y 50 rfl (want_all rfl) rfl rfl Kp.true (Y.move rfl rfl) ?_
    refine Jp.skip 51 rfl (want_as rfl rfl rfl rfl) rfl rfl Kp.true ?_
    refine Jp.skip 52 rfl (want_as rfl rfl rfl rfl) rfl rfl Kp.true ?_
    refine Jp.skip 53 rfl (want_as rfl rfl rfl rfl) rfl rfl Kp.true ?_
    refine Jp.y 54 rfl (want_all rfl) rfl rfl Kp.true (Y.pickT rfl rfl rfl) ?_
    refine Jp.y 55 rfl (want_all rfl) rfl rfl Kp.true (Y.move rfl rfl) ?_
    refine Jp.skip 56 rfl (want_as rfl rfl rfl rfl) rfl rfl Kp.true ?_
    refine Jp.skip 57 rfl (want_as rfl rfl rfl rfl) rfl rfl Kp.true ?_
    refine Jp.skip 58 rfl (want_as rfl rfl rfl rfl) rfl rfl Kp.true ?_
    refine Jp.y 59 rfl (want_all rfl) rfl rfl Kp.true (Y.pickT rfl rfl rfl) ?_
    refine Jp.done hK5 ?_
    refine Cd.condT rfl ?_
    refine Cd.seq fun K6 hK6 => ?_
    refine Cd.plain [(0, false)] rfl rfl ?_
    refine Jp.y 10 rfl (want_all rfl) rfl rfl Kp.true (Y.assign rfl rfl) ?_
    refine Jp.done hK6 ?_
    refine Cd.ret [] rfl (res1 rfl rfl) trivial ⟨rfl, rfl⟩
  try simp only [decide_eq_false_iff_not, decide_eq_true_eq, Int.not_lt, Int.not_le, Bool.not_eq_false, Bool.not_eq_true, Bool.not_true, Bool.not_false, Bool.not_eq_true', Bool.not_eq_false', beq_eq_false_iff_ne, ne_eq, beq_iff_eq, bne_iff_ne, bne_eq_false_iff_eq, Classical.not_not] at g22
  refine Jp.y 23 rfl (want_as rfl rfl rfl rfl) rfl rfl Kp.true (Y.move rfl rfl) ?_
  refine Jp.y 24 rfl (want_as rfl rfl rfl rfl) rfl rfl Kp.true (Y.gtr rfl rfl rfl) ?_
  refine Jp.y 25 rfl (want_all rfl) rfl rfl Kp.true (Y.pickF rfl rfl rfl) ?_
  refine Jp.y 26 rfl (want_all rfl) rfl rfl Kp.true (Y.move rfl rfl) ?_
  refine Jp.split 26 rfl (fun g26 => ?_) (fun g26 => ?_)
  · skip
    refine Jp.skip 27 rfl (want_as rfl rfl rfl rfl) rfl rfl Kp.true ?_
    refine Jp.skip 28 rfl (want_as rfl rfl rfl rfl) rfl rfl Kp.true ?_
    refine Jp.y 29 rfl (want_all rfl) rfl rfl Kp.true (Y.pickT rfl rfl rfl) ?_
    refine Jp.y 30 rfl (want_all rfl) rfl rfl Kp.true (Y.move rfl rfl) ?_
    refine Jp.skip 31 rfl (want_as rfl rfl rfl rfl) rfl rfl Kp.true ?_
    refine Jp.skip 32 rfl (want_as rfl rfl rfl rfl) rfl rfl Kp.true ?_
    refine Jp.y 33 rfl (want_all rfl) rfl rfl Kp.true (Y.pickT rfl rfl rfl) ?_
    refine Jp.y 34 rfl (want_all rfl) rfl rfl Kp.true (Y.move rfl rfl) ?_
    refine Jp.skip 35 rfl (want_as rfl rfl rfl rfl) rfl rfl Kp.true ?_
    refine Jp.skip 36 rfl (want_as rfl rfl rfl rfl) rfl rfl Kp.true ?_
    refine Jp.y 37 rfl (want_all rfl) rfl rfl Kp.true (Y.pickT rfl rfl rfl) ?_
    refine Jp.y 38 rfl (want_all rfl) rfl rfl Kp.true (Y.move rfl rfl) ?_
    refine Jp.skip 39 rfl (want_as rfl rfl rfl rfl) rfl rfl Kp.true ?_
    refine Jp.skip 40 rfl (want_as rfl rfl rfl rfl) rfl rfl Kp.true ?_
    refine Jp.y 41 rfl (want_all rfl) rfl rfl Kp.true (Y.pickT rfl rfl rfl) ?_
    refine Jp.y 42 rfl (want_all rfl) rfl rfl Kp.true (Y.move rfl rfl) ?_
    refine Jp.skip 43 rfl (want_as rfl rfl rfl rfl) rfl rfl Kp.true ?_
    refine Jp.skip 44 rfl (want_as rfl rfl rfl rfl) rfl rfl Kp.true ?_
    refine Jp.y 45 rfl (want_all rfl) rfl rfl Kp.true (Y.pickT rfl rfl rfl) ?_
    refine Jp.y 46 rfl (want_all rfl) rfl rfl Kp.true (Y.move rfl rfl) ?_
    refine Jp.skip 47 rfl (want_as rfl rfl rfl rfl) rfl rfl Kp.true ?_
    refine Jp.skip 48 rfl (want_as rfl rfl rfl rfl) rfl rfl Kp.true ?_
    refine Jp.y 49 rfl (want_all rfl) rfl rfl Kp.true (Y.pickT rfl rfl rfl) ?_
    refine Jp.y 50 rfl (want_all rfl) rfl rfl Kp.true (Y.move rfl rfl) ?_
    refine Jp.skip 51 rfl (want_as rfl rfl rfl rfl) rfl rfl Kp.true ?_
    refine Jp.skip 52 rfl (want_as rfl rfl rfl rfl) rfl rfl Kp.true ?_
    refine Jp.skip 53 rfl (want_as rfl rfl rfl rfl) rfl rfl Kp.true ?_
    refine Jp.y 54 rfl (want_all rfl) rfl rfl Kp.true (Y.pickT rfl rfl rfl) ?_
    refine Jp.y 55 rfl (want_all rfl) rfl rfl Kp.true (Y.move rfl rfl) ?_
    refine Jp.skip 56 rfl (want_as rfl rfl rfl rfl) rfl rfl Kp.true ?_
    refine Jp.skip 57 rfl (want_as rfl rfl rfl rfl) rfl rfl Kp.true ?_
    refine Jp.skip 58 rfl (want_as rfl rfl rfl rfl) rfl rfl Kp.true ?_
    refine Jp.y 59 rfl (want_all rfl) rfl rfl Kp.true (Y.pickT rfl rfl rfl) ?_
    refine Jp.done hK5 ?_
    refine Cd.condT rfl ?_
    refine Cd.seq fun K7 hK7 => ?_
    refine Cd.plain [(0, false)] rfl rfl ?_
    refine Jp.y 10 rfl (want_all rfl) rfl rfl Kp.true (Y.assign rfl rfl) ?_
    refine Jp.done hK7 ?_
    refine Cd.ret [] rfl (res1 rfl rfl) trivial ⟨rfl, rfl⟩
  try simp only [decide_eq_false_iff_not, decide_eq_true_eq, Int.not_lt, Int.not_le, Bool.not_eq_false, Bool.not_eq_true, Bool.not_true, Bool.not_false, Bool.not_eq_true', Bool.not_eq_false', beq_eq_false_iff_ne, ne_eq, beq_iff_eq, bne_iff_ne, bne_eq_false_iff_eq, Classical.not_not] at g26
  refine Jp.y 27 rfl (want_as rfl rfl rfl rfl) rfl rfl Kp.true (Y.move rfl rfl) ?_
  refine Jp.y 28 rfl (want_as rfl rfl rfl rfl) rfl rfl Kp.true (Y.lss rfl rfl rfl) ?_
  refine Jp.y 29 rfl (want_all rfl) rfl rfl Kp.true (Y.pickF rfl rfl rfl) ?_
  refine Jp.y 30 rfl (want_all rfl) rfl rfl Kp.true (Y.move rfl rfl) ?_
  refine Jp.split 30 rfl (fun g30 => ?_) (fun g30 => ?_)
  · skip
    refine Jp.skip 31 rfl (want_as rfl rfl rfl rfl) rfl rfl Kp.true ?_
    refine Jp.skip 32 rfl (want_as rfl rfl rfl rfl) rfl rfl Kp.true ?_
    refine Jp.y 33 rfl (want_all rfl) rfl rfl Kp.true (Y.pickT rfl rfl rfl) ?_
    refine Jp.y 34 rfl (want_all rfl) rfl rfl Kp.true (Y.move rfl rfl) ?_
    refine Jp.skip 35 rfl (want_as rfl rfl rfl rfl) rfl rfl Kp.true ?_
    refine Jp.skip 36 rfl (want_as rfl rfl rfl rfl) rfl rfl Kp.true ?_
    refine Jp.y 37 rfl (want_all rfl) rfl rfl Kp.true (Y.pickT rfl rfl rfl) ?_
    refine Jp.y 38 rfl (want_all rfl) rfl rfl Kp.true (Y.move rfl rfl) ?_
    refine Jp.skip 39 rfl (want_as rfl rfl rfl rfl) rfl rfl Kp.true ?_
    refine Jp.skip 40 rfl (want_as rfl rfl rfl rfl) rfl rfl Kp.true ?_
    refine Jp.y 41 rfl (want_all rfl) rfl rfl Kp.true (Y.pickT rfl rfl rfl) ?_
    refine Jp.y 42 rfl (want_all rfl) rfl rfl Kp.true (Y.move rfl rfl) ?_
    refine Jp.skip 43 rfl (want_as rfl rfl rfl rfl) rfl rfl Kp.true ?_
    refine Jp.skip 44 rfl (want_as rfl rfl rfl rfl) rfl rfl Kp.true ?_
    refine Jp.y 45 rfl (want_all rfl) rfl rfl Kp.true (Y.pickT rfl rfl rfl) ?_
    refine Jp.y 46 rfl (want_all rfl) rfl rfl Kp.true (Y.move rfl rfl) ?_
    refine Jp.skip 47 rfl (want_as rfl rfl rfl rfl) rfl rfl Kp.true ?_
    refine Jp.skip 48 rfl (want_as rfl rfl rfl rfl) rfl rfl Kp.true ?_
    refine Jp.y 49 rfl (want_all rfl) rfl rfl Kp.true (Y.pickT rfl rfl rfl) ?_
    refine Jp.y 50 rfl (want_all rfl) rfl rfl Kp.true (Y.move rfl rfl) ?_
    refine Jp.skip 51 rfl (want_as rfl rfl rfl rfl) rfl rfl Kp.true ?_
    refine Jp.skip 52 rfl (want_as rfl rfl rfl rfl) rfl rfl Kp.true ?_
    refine Jp.skip 53 rfl (want_as rfl rfl rfl rfl) rfl rfl Kp.true ?_
    refine Jp.y 54 rfl (want_all rfl) rfl rfl Kp.true (Y.pickT rfl rfl rfl) ?_
    refine Jp.y 55 rfl (want_all rfl) rfl rfl Kp.true (Y.move rfl rfl) ?_
    refine Jp.skip 56 rfl (want_as rfl rfl rfl rfl) rfl rfl Kp.true ?_
    refine Jp.skip 57 rfl (want_as rfl rfl rfl rfl) rfl rfl Kp.true ?_
    refine Jp.skip 58 rfl (want_as rfl rfl rfl rfl) rfl rfl Kp.true ?_
    refine Jp.y 59 rfl (want_all rfl) rfl rfl Kp.true (Y.pickT rfl rfl rfl) ?_
    refine Jp.done hK5 ?_
    refine Cd.condT rfl ?_
    refine Cd.seq fun K8 hK8 => ?_
    refine Cd.plain [(0, false)] rfl rfl ?_
    refine Jp.y 10 rfl (want_all rfl) rfl rfl Kp.true (Y.assign rfl rfl) ?_
    refine Jp.done hK8 ?_
    refine Cd.ret [] rfl (res1 rfl rfl) trivial ⟨rfl, rfl⟩
  try simp only [decide_eq_false_iff_not, decide_eq_true_eq, Int.not_lt, Int.not_le, Bool.not_eq_false, Bool.not_eq_true, Bool.not_true, Bool.not_false, Bool.not_eq_true', Bool.not_eq_false', beq_eq_false_iff_ne, ne_eq, beq_iff_eq, bne_iff_ne, bne_eq_false_iff_eq, Classical.not_not] at g30
  refine Jp.y 31 rfl (want_as rfl rfl rfl rfl) rfl rfl Kp.true (Y.move rfl rfl) ?_
  refine Jp.y 32 rfl (want_as rfl rfl rfl rfl) rfl rfl Kp.true (Y.gtr rfl rfl rfl) ?_
  refine Jp.y 33 rfl (want_all rfl) rfl rfl Kp.true (Y.pickF rfl rfl rfl) ?_
  refine Jp.y 34 rfl (want_all rfl) rfl rfl Kp.true (Y.move rfl rfl) ?_
  refine Jp.split 34 rfl (fun g34 => ?_) (fun g34 => ?_)
  · skip
    refine Jp.skip 35 rfl (want_as rfl rfl rfl rfl) rfl rfl Kp.true ?_
    refine Jp.skip 36 rfl (want_as rfl rfl rfl rfl) rfl rfl Kp.true ?_
    refine Jp.y 37 rfl (want_all rfl) rfl rfl Kp.true (Y.pickT rfl rfl rfl) ?_
    refine Jp.y 38 rfl (want_all rfl) rfl rfl Kp.true (Y.move rfl rfl) ?_
    refine Jp.skip 39 rfl (want_as rfl rfl rfl rfl) rfl rfl Kp.true ?_
    refine Jp.skip 40 rfl (want_as rfl rfl rfl rfl) rfl rfl Kp.true ?_
    refine Jp.y 41 rfl (want_all rfl) rfl rfl Kp.true (Y.pickT rfl rfl rfl) ?_
    refine Jp.y 42 rfl (want_all rfl) rfl rfl Kp.true (Y.move rfl rfl) ?_
    refine Jp.skip 43 rfl (want_as rfl rfl rfl rfl) rfl rfl Kp.true ?_
    refine Jp.skip 44 rfl (want_as rfl rfl rfl rfl) rfl rfl Kp.true ?_
    refine Jp.y 45 rfl (want_all rfl) rfl rfl Kp.true (Y.pickT rfl rfl rfl) ?_
    refine Jp.y 46 rfl (want_all rfl) rfl rfl Kp.true (Y.move rfl rfl) ?_
    refine Jp.skip 47 rfl (want_as rfl rfl rfl rfl) rfl rfl Kp.true ?_
    refine Jp.skip 48 rfl (want_as rfl rfl rfl rfl) rfl rfl Kp.true ?_
    refine Jp.y 49 rfl (want_all rfl) rfl rfl Kp.true (Y.pickT rfl rfl rfl) ?_
    refine Jp.y 50 rfl (want_all rfl) rfl rfl Kp.true (Y.move rfl rfl) ?_
    refine Jp.skip 51 rfl (want_as rfl rfl rfl rfl) rfl rfl Kp.true ?_
    refine Jp.skip 52 rfl (want_as rfl rfl rfl rfl) rfl rfl Kp.true ?_
    refine Jp.skip 53 rfl (want_as rfl rfl rfl rfl) rfl rfl Kp.true ?_
    refine Jp.y 54 rfl (want_all rfl) rfl rfl Kp.true (Y.pickT rfl rfl rfl) ?_
    refine Jp.y 55 rfl (want_all rfl) rfl rfl Kp.true (Y.move rfl rfl) ?_
    refine Jp.skip 56 rfl (want_as rfl rfl rfl rfl) rfl rfl Kp.true ?_
    refine Jp.skip 57 rfl (want_as rfl rfl rfl rfl) rfl rfl Kp.true ?_
    refine Jp.skip 58 rfl (want_as rfl rfl rfl rfl) rfl rfl Kp.true ?_
    refine Jp.y 59 rfl (want_all rfl) rfl rfl Kp.true (Y.pickT rfl rfl rfl) ?_
    refine Jp.done hK5 ?_
    refine Cd.condT rfl ?_
    refine Cd.seq fun K9 hK9 => ?_
    refine Cd.plain [(0, false)] rfl rfl ?_
    refine Jp.y 10 rfl (want_all rfl) rfl rfl Kp.true (Y.assign rfl rfl) ?_
    refine Jp.done hK9 ?_
    refine Cd.ret [] rfl (res1 rfl rfl) trivial ⟨rfl, rfl⟩
  try simp only [decide_eq_false_iff_not, decide_eq_true_eq, Int.not_lt, Int.not_le, Bool.not_eq_false, Bool.not_eq_true, Bool.not_true, Bool.not_false, Bool.not_eq_true', Bool.not_eq_false', beq_eq_false_iff_ne, ne_eq, beq_iff_eq, bne_iff_ne, bne_eq_false_iff_eq, Classical.not_not] at g34
  refine Jp.y 35 rfl (want_as rfl rfl rfl rfl) rfl rfl Kp.true (Y.move rfl rfl) ?_
  refine Jp.y 36 rfl (want_as rfl rfl rfl rfl) rfl rfl Kp.true (Y.lss rfl rfl rfl) ?_
  refine Jp.y 37 rfl (want_all rfl) rfl rfl Kp.true (Y.pickF rfl rfl rfl) ?_
  refine Jp.y 38 rfl (want_all rfl) rfl rfl Kp.true (Y.move rfl rfl) ?_
  refine Jp.split 38 rfl (fun g38 => ?_) (fun g38 => ?_)
  · skip
    refine Jp.skip 39 rfl (want_as rfl rfl rfl rfl) rfl rfl Kp.true ?_
    refine Jp.skip 40 rfl (want_as rfl rfl rfl rfl) rfl rfl Kp.true ?_
    refine Jp.y 41 rfl (want_all rfl) rfl rfl Kp.true (Y.pickT rfl rfl rfl) ?_
    refine Jp.y 42 rfl (want_all rfl) rfl rfl Kp.true (Y.move rfl rfl) ?_
    refine Jp.skip 43 rfl (want_as rfl rfl rfl rfl) rfl rfl Kp.true ?_
    refine Jp.skip 44 rfl (want_as rfl rfl rfl rfl) rfl rfl Kp.true ?_
    refine Jp.y 45 rfl (want_all rfl) rfl rfl Kp.true (Y.pickT rfl rfl rfl) ?_
    refine Jp.y 46 rfl (want_all rfl) rfl rfl Kp.true (Y.move rfl rfl) ?_
    refine Jp.skip 47 rfl (want_as rfl rfl rfl rfl) rfl rfl Kp.true ?_
    refine Jp.skip 48 rfl (want_as rfl rfl rfl rfl) rfl rfl Kp.true ?_
    refine Jp.y 49 rfl (want_all rfl) rfl rfl Kp.true (Y.pickT rfl rfl rfl) ?_
    refine Jp.y 50 rfl (want_all rfl) rfl rfl Kp.true (Y.move rfl rfl) ?_
    refine Jp.skip 51 rfl (want_as rfl rfl rfl rfl) rfl rfl Kp.true ?_
    refine Jp.skip 52 rfl (want_as rfl rfl rfl rfl) rfl rfl Kp.true ?_
    refine Jp.skip 53 rfl (want_as rfl rfl rfl rfl) rfl rfl Kp.true ?_
    refine Jp.y 54 rfl (want_all rfl) rfl rfl Kp.true (Y.pickT rfl rfl rfl) ?_
    refine Jp.y 55 rfl (want_all rfl) rfl rfl Kp.true (Y.move rfl rfl) ?_
    refine Jp.skip 56 rfl (want_as rfl rfl rfl rfl) rfl rfl Kp.true ?_
    refine Jp.skip 57 rfl (want_as rfl rfl rfl rfl) rfl rfl Kp.true ?_
    refine Jp.skip 58 rfl (want_as rfl rfl rfl rfl) rfl rfl Kp.true ?_
    refine Jp.y 59 rfl (want_all rfl) rfl rfl Kp.true (Y.pickT rfl rfl rfl) ?_
    refine Jp.done hK5 ?_
    refine Cd.condT rfl ?_
    refine Cd.seq fun K10 hK10 => ?_
    refine Cd.plain [(0, false)] rfl rfl ?_
    refine Jp.y 10 rfl (want_all rfl) rfl rfl Kp.true (Y.assign rfl rfl) ?_
    refine Jp.done hK10 ?_
    refine Cd.ret [] rfl (res1 rfl rfl) trivial ⟨rfl, rfl⟩
  try simp only [decide_eq_false_iff_not, decide_eq_true_eq, Int.not_lt, Int.not_le, Bool.not_eq_false, Bool.not_eq_true, Bool.not_true, Bool.not_false, Bool.not_eq_true', Bool.not_eq_false', beq_eq_false_iff_ne, ne_eq, beq_iff_eq, bne_iff_ne, bne_eq_false_iff_eq, Classical.not_not] at g38
  refine Jp.y 39 rfl (want_as rfl rfl rfl rfl) rfl rfl Kp.true (Y.move rfl rfl) ?_
  refine Jp.y 40 rfl (want_as rfl rfl rfl rfl) rfl rfl Kp.true (Y.gtr rfl rfl rfl) ?_
  refine Jp.y 41 rfl (want_all rfl) rfl rfl Kp.true (Y.pickF rfl rfl rfl) ?_
  refine Jp.y 42 rfl (want_all rfl) rfl rfl Kp.true (Y.move rfl rfl) ?_
  refine Jp.split 42 rfl (fun g42 => ?_) (fun g42 => ?_)
  · skip
    refine Jp.skip 43 rfl (want_as rfl rfl rfl rfl) rfl rfl Kp.true ?_
    refine Jp.skip 44 rfl (want_as rfl rfl rfl rfl) rfl rfl Kp.true ?_
    refine Jp.y 45 rfl (want_all rfl) rfl rfl Kp.true (Y.pickT rfl rfl rfl) ?_
    refine Jp.y 46 rfl (want_all rfl) rfl rfl Kp.true (Y.move rfl rfl) ?_
    refine Jp.skip 47 rfl (want_as rfl rfl rfl rfl) rfl rfl Kp.true ?_
    refine Jp.skip 48 rfl (want_as rfl rfl rfl rfl) rfl rfl Kp.true ?_
    refine Jp.y 49 rfl (want_all rfl) rfl rfl Kp.true (Y.pickT rfl rfl rfl) ?_
    refine Jp.y 50 rfl (want_all rfl) rfl rfl Kp.true (Y.move rfl rfl) ?_
    refine Jp.skip 51 rfl (want_as rfl rfl rfl rfl) rfl rfl Kp.true ?_
    refine Jp.skip 52 rfl (want_as rfl rfl rfl rfl) rfl rfl Kp.true ?_
    refine Jp.skip 53 rfl (want_as rfl rfl rfl rfl) rfl rfl Kp.true ?_
    refine Jp.y 54 rfl (want_all rfl) rfl rfl Kp.true (Y.pickT rfl rfl rfl) ?_
    refine Jp.y 55 rfl (want_all rfl) rfl rfl Kp.true (Y.move rfl rfl) ?_
    refine Jp.skip 56 rfl (want_as rfl rfl rfl rfl) rfl rfl Kp.true ?_
    refine Jp.skip 57 rfl (want_as rfl rfl rfl rfl) rfl rfl Kp.true ?_
    refine Jp.skip 58 rfl (want_as rfl rfl rfl rfl) rfl rfl Kp.true ?_
    refine Jp.y 59 rfl (want_all rfl) rfl rfl Kp.true (Y.pickT rfl rfl rfl) ?_
    refine Jp.done hK5 ?_
    refine Cd.condT rfl ?_
    refine Cd.seq fun K11 hK11 => ?_
    refine Cd.plain [(0, false)] rfl rfl ?_
    refine Jp.y 10 rfl (want_all rfl) rfl rfl Kp.true (Y.assign rfl rfl) ?_
    refine Jp.done hK11 ?_
    refine Cd.ret [] rfl (res1 rfl rfl) trivial ⟨rfl, rfl⟩
  try simp only [decide_eq_false_iff_not, decide_eq_true_eq, Int.not_lt, Int.not_le, Bool.not_eq_false, Bool.not_eq_true, Bool.not_true, Bool.not_false, Bool.not_eq_true', Bool.not_eq_false', beq_eq_false_iff_ne, ne_eq, beq_iff_eq, bne_iff_ne, bne_eq_false_iff_eq, Classical.not_not] at g42
  refine Jp.y 43 rfl (want_as rfl rfl rfl rfl) rfl rfl Kp.true (Y.move rfl rfl) ?_
  refine Jp.y 44 rfl (want_as rfl rfl rfl rfl) rfl rfl Kp.true (Y.lss rfl rfl rfl) ?_
  refine Jp.y 45 rfl (want_all rfl) rfl rfl Kp.true (Y.pickF rfl rfl rfl) ?_
  refine Jp.y 46 rfl (want_all rfl) rfl rfl Kp.true (Y.move rfl rfl) ?_
  refine Jp.split 46 rfl (fun g46 => ?_) (fun g46 => ?_)
  · skip
    refine Jp.skip 47 rfl (want_as rfl rfl rfl rfl) rfl rfl Kp.true ?_
    refine Jp.skip 48 rfl (want_as rfl rfl rfl rfl) rfl rfl Kp.true ?_
    refine Jp.y 49 rfl (want_all rfl) rfl rfl Kp.true (Y.pickT rfl rfl rfl) ?_
    refine Jp.y 50 rfl (want_all rfl) rfl rfl Kp.true (Y.move rfl rfl) ?_
    refine Jp.skip 51 rfl (want_as rfl rfl rfl rfl) rfl rfl Kp.true ?_
    refine Jp.skip 52 rfl (want_as rfl rfl rfl rfl) rfl rfl Kp.true ?_
    refine Jp.skip 53 rfl (want_as rfl rfl rfl rfl) rfl rfl Kp.true ?_
    refine Jp.y 54 rfl (want_all rfl) rfl rfl Kp.true (Y.pickT rfl rfl rfl) ?_
    refine Jp.y 55 rfl (want_all rfl) rfl rfl Kp.true (Y.move rfl rfl) ?_
    refine Jp.skip 56 rfl (want_as rfl rfl rfl rfl) rfl rfl Kp.true ?_
    refine Jp.skip 57 rfl (want_as rfl rfl rfl rfl) rfl rfl Kp.true ?_
    refine Jp.skip 58 rfl (want_as rfl rfl rfl rfl) rfl rfl Kp.true ?_
    refine Jp.y 59 rfl (want_all rfl) rfl rfl Kp.true (Y.pickT rfl rfl rfl) ?_
    refine Jp.done hK5 ?_
    refine Cd.condT rfl ?_
    refine Cd.seq fun K12 hK12 => ?_
    refine Cd.plain [(0, false)] rfl rfl ?_
    refine Jp.y 10 rfl (want_all rfl) rfl rfl Kp.true (Y.assign rfl rfl) ?_
    refine Jp.done hK12 ?_
    refine Cd.ret [] rfl (res1 rfl rfl) trivial ⟨rfl, rfl⟩
  try simp only [decide_eq_false_iff_not, decide_eq_true_eq, Int.not_lt, Int.not_le, Bool.not_eq_false, Bool.not_eq_true, Bool.not_true, Bool.not_false, Bool.not_eq_true', Bool.not_eq_false', beq_eq_false_iff_ne, ne_eq, beq_iff_eq, bne_iff_ne, bne_eq_false_iff_eq, Classical.not_not] at g46
  refine Jp.y 47 rfl (want_as rfl rfl rfl rfl) rfl rfl Kp.true (Y.move rfl rfl) ?_
  refine Jp.y 48 rfl (want_as rfl rfl rfl rfl) rfl rfl Kp.true (Y.gtr rfl rfl rfl) ?_
  refine Jp.y 49 rfl (want_all rfl) rfl rfl Kp.true (Y.pickF rfl rfl rfl) ?_
  refine Jp.y 50 rfl (want_all rfl) rfl rfl Kp.true (Y.move rfl rfl) ?_
  refine Jp.split 50 rfl (fun g50 => ?_) (fun g50 => ?_)
  · skip
    refine Jp.skip 51 rfl (want_as rfl rfl rfl rfl) rfl rfl Kp.true ?_
    refine Jp.skip 52 rfl (want_as rfl rfl rfl rfl) rfl rfl Kp.true ?_
    refine Jp.skip 53 rfl (want_as rfl rfl rfl rfl) rfl rfl Kp.true ?_
    refine Jp.y 54 rfl (want_all rfl) rfl rfl Kp.true (Y.pickT rfl rfl rfl) ?_
    refine Jp.y 55 rfl (want_all rfl) rfl rfl Kp.true (Y.move rfl rfl) ?_
    refine Jp.skip 56 rfl (want_as rfl rfl rfl rfl) rfl rfl Kp.true ?_
    refine Jp.skip 57 rfl (want_as rfl rfl rfl rfl) rfl rfl Kp.true ?_
    refine Jp.skip 58 rfl (want_as rfl rfl rfl rfl) rfl rfl Kp.true ?_
    refine Jp.y 59 rfl (want_all rfl) rfl rfl Kp.true (Y.pickT rfl rfl rfl) ?_
    refine Jp.done hK5 ?_
    refine Cd.condT rfl ?_
    refine Cd.seq fun K13 hK13 => ?_
    refine Cd.plain [(0, false)] rfl rfl ?_
    refine Jp.y 10 rfl (want_all rfl) rfl rfl Kp.true (Y.assign rfl rfl) ?_
    refine Jp.done hK13 ?_
    refine Cd.ret [] rfl (res1 rfl rfl) trivial ⟨rfl, rfl⟩
  try simp only [decide_eq_false_iff_not, decide_eq_true_eq, Int.not_lt, Int.not_le, Bool.not_eq_false, Bool.not_eq_true, Bool.not_true, Bool.not_false, Bool.not_eq_true', Bool.not_eq_false', beq_eq_false_iff_ne, ne_eq, beq_iff_eq, bne_iff_ne, bne_eq_false_iff_eq, Classical.not_not] at g50
  refine Jp.y 51 rfl (want_as rfl rfl rfl rfl) rfl rfl Kp.true (by first | exact Y.fieldAddrP rfl rfl Try.underlying32 rfl Try.sizeOf2 (by decide) (show _ + 33 = _ from rfl) | exact Y.fieldAddr rfl rfl Try.underlying32 rfl Try.sizeOf2 (by decide)) ?_
  refine Jp.y 52 rfl (want_as rfl rfl rfl rfl) rfl rfl Kp.true (by first | exact Y.loadO 9 rfl Try.isAgg2 rfl rfl rfl | exact Y.loadO 9 rfl Try.isAgg2 rfl rfl rfl | exact Y.loadC 9 rfl Try.isAgg2 rfl rfl (HasC.pt hc.cRet)) ?_
  refine Jp.y 53 rfl (want_as rfl rfl rfl rfl) rfl rfl Kp.true (Y.lss rfl rfl rfl) ?_
  refine Jp.y 54 rfl (want_all rfl) rfl rfl Kp.true (Y.pickF rfl rfl rfl) ?_
  refine Jp.y 55 rfl (want_all rfl) rfl rfl Kp.true (Y.move rfl rfl) ?_
  refine Jp.split 55 rfl (fun g55 => ?_) (fun g55 => ?_)
  · skip
    refine Jp.skip 56 rfl (want_as rfl rfl rfl rfl) rfl rfl Kp.true ?_
    refine Jp.skip 57 rfl (want_as rfl rfl rfl rfl) rfl rfl Kp.true ?_
    refine Jp.skip 58 rfl (want_as rfl rfl rfl rfl) rfl rfl Kp.true ?_
    refine Jp.y 59 rfl (want_all rfl) rfl rfl Kp.true (Y.pickT rfl rfl rfl) ?_
    refine Jp.done hK5 ?_
    refine Cd.condT rfl ?_
    refine Cd.seq fun K14 hK14 => ?_
    refine Cd.plain [(0, false)] rfl rfl ?_
    refine Jp.y 10 rfl (want_all rfl) rfl rfl Kp.true (Y.assign rfl rfl) ?_
    refine Jp.done hK14 ?_
    refine Cd.ret [] rfl (res1 rfl rfl) trivial ⟨rfl, rfl⟩
  try simp only [decide_eq_false_iff_not, decide_eq_true_eq, Int.not_lt, Int.not_le, Bool.not_eq_false, Bool.not_eq_true, Bool.not_true, Bool.not_false, Bool.not_eq_true', Bool.not_eq_false', beq_eq_false_iff_ne, ne_eq, beq_iff_eq, bne_iff_ne, bne_eq_false_iff_eq, Classical.not_not] at g55
  refine Jp.y 56 rfl (want_as rfl rfl rfl rfl) rfl rfl Kp.true (by first | exact Y.fieldAddrP rfl rfl Try.underlying32 rfl Try.sizeOf2 (by decide) (show _ + 33 = _ from rfl) | exact Y.fieldAddr rfl rfl Try.underlying32 rfl Try.sizeOf2 (by decide)) ?_
  refine Jp.y 57 rfl (want_as rfl rfl rfl rfl) rfl rfl Kp.true (by first | exact Y.loadO 9 rfl Try.isAgg2 rfl rfl rfl | exact Y.loadO 9 rfl Try.isAgg2 rfl rfl rfl | exact Y.loadC 9 rfl Try.isAgg2 rfl rfl (HasC.pt hc.cRet)) ?_
  refine Jp.y 58 rfl (want_as rfl rfl rfl rfl) rfl rfl Kp.true (Y.gtr rfl rfl rfl) ?_
  refine Jp.y 59 rfl (want_all rfl) rfl rfl Kp.true (Y.pickF rfl rfl rfl) ?_
  refine Jp.done hK5 ?_
  refine Cd.cond rfl (fun g59 => ?_) (fun g59 => ?_)
  · skip
    refine Cd.seq fun K15 hK15 => ?_
    refine Cd.plain [(0, false)] rfl rfl ?_
    refine Jp.y 10 rfl (want_all rfl) rfl rfl Kp.true (Y.assign rfl rfl) ?_
    refine Jp.done hK15 ?_
    refine Cd.ret [] rfl (res1 rfl rfl) trivial ⟨rfl, rfl⟩
  try simp only [decide_eq_false_iff_not, decide_eq_true_eq, Int.not_lt, Int.not_le, Bool.not_eq_false, Bool.not_eq_true, Bool.not_true, Bool.not_false, Bool.not_eq_true', Bool.not_eq_false', beq_eq_false_iff_ne, ne_eq, beq_iff_eq, bne_iff_ne, bne_eq_false_iff_eq, Classical.not_not] at g59
  refine Cd.skip hK4 ?_
  refine Cd.seq fun K16 hK16 => ?_
  refine Cd.plain [(0, false), (1, false), (2, false), (3, false), (4, false), (5, false), (6, false), (7, false), (8, false)] rfl rfl ?_
  obtain ⟨op, rfl⟩ := Int.eq_ofNat_of_zero_le (show 0 ≤ op by omega)
  obtain ⟨d, rfl⟩ := Int.eq_ofNat_of_zero_le (show 0 ≤ d by omega)
  obtain ⟨s, rfl⟩ := Int.eq_ofNat_of_zero_le (show 0 ≤ s by omega)
  obtain ⟨t, rfl⟩ := Int.eq_ofNat_of_zero_le (show 0 ≤ t by omega)
  have hop : 28 ≤ op ∧ op ≤ 45 := by omega
  have hd : 1 ≤ d ∧ d < 32 := by omega
  have hs : 1 ≤ s ∧ s < 32 := by omega
  have ht : 1 ≤ t ∧ t < 32 := by omega
  obtain ⟨x, pc, ret⟩ := c
  have hx : x.length = 32 := hc.len
  have hxl : ∀ y ∈ x, y < 4294967296 := hc.lt
  have hret : -9223372036854775808 ≤ ret ∧ ret ≤ 4611686018427387904 := ⟨hc.ret.1, by (try dsimp only at g59); omega⟩
  have hI : InsOk ⟨op, d, s, t, 0⟩ := ⟨(show op < 50 by omega), hd.2, hs.2, ht.2, (show -2147483648 ≤ (0 : Int) ∧ (0 : Int) ≤ 2147483647 by decide)⟩
  have hW := encW_lt ⟨op, d, s, t, 0⟩
  have hS := step_spec
  have hst := step_sum hop hd hs ht x ret
  have hOk := madeD_state x hx hxl hret.1 hret.2
  have hRs := regP_lt (s := ⟨x, 4096, ret⟩) hOk s
  have hRt := regP_lt (s := ⟨x, 4096, ret⟩) hOk t
  rw [regP, if_neg (by omega)] at hRs hRt
  dsimp only at hRs hRt
  obtain ⟨W, hWe⟩ : ∃ W, encW ⟨op, d, s, t, 0⟩ = W := ⟨_, rfl⟩
  have hEnc := enc_reg hop hd.2 hs.2 ht.2
  rw [hWe] at hW hst hEnc
  refine Jp.y 60 rfl (want_all rfl) rfl rfl Kp.true (Y.move rfl rfl) ?_
  refine Jp.y 61 rfl (want_all rfl) rfl rfl Kp.true (Y.move rfl rfl) ?_
  refine Jp.y 62 rfl (want_all rfl) rfl rfl Kp.true (Y.move rfl rfl) ?_
  refine Jp.y 63 rfl (want_all rfl) rfl rfl Kp.true (Y.move rfl rfl) ?_
  refine Jp.y 64 rfl (want_all rfl) rfl rfl Kp.true (Y.struct [(0, _), (1, _), (2, _), (3, _)] [_, _, _, _, _] rfl rfl places28 Try.zeroValue28 rfl) ?_
  refine Jp.call [] [] (word12_spec ⟨op, d, s, t, 0⟩ hI (show 1 ≤ op by omega)) 65 rfl (want_all rfl) rfl rfl (Runs.fn rfl Try.call14 rfl) (by decide) (by decide) rfl trivial ?_
  rintro v2 ρ2 L2 ⟨rfl, rfl, rfl⟩
  refine ⟨rfl, fun hle2 => ⟨Kp.true, ?_⟩⟩
  rw [hEnc]
  refine Jp.lit 66 50 [(0, _)] [_] rfl (want_all rfl) rfl rfl rfl rfl Try.underlying29 Try.sizeOf25 Try.zeroValue25 rfl rfl rfl rfl rfl fun b50 => ⟨Kp.true, ?_⟩
  refine Jp.freeze (i := 50) rfl (OwnS.up _ _ _ _ _ _) fun ρ7 hle7 hA7 => ?_
  refine Jp.call [] [0] (made12_spec (some ⟨b50, 0, none⟩) 1 [(W : Int)] none 0 [] (by intro y hy; simp at hy; exact ⟨W, hy, hW⟩)) 67 rfl (want_all rfl) rfl rfl (Runs.fn rfl Try.call13 rfl) (by decide) (by decide) rfl ⟨hA7.rd, RdS.nil 1 _⟩ ?_
  rintro v3 ρ3 L3 ⟨b, rfl, rfl⟩
  refine ⟨rfl, fun hle3 => ⟨Kp.true, ?_⟩⟩
  refine Jp.y 11 rfl (want_all rfl) rfl rfl Kp.true (Y.assign rfl rfl) ?_
  refine Jp.done hK16 ?_
  refine Cd.seq fun K17 hK17 => ?_
  refine Cd.plain [(0, false), (1, false)] rfl rfl ?_
  refine Jp.y 68 rfl (want_all rfl) rfl rfl Kp.true (by first | exact Y.fieldAddrP rfl rfl Try.underlying32 rfl Try.sizeOf25 (by decide) (show _ + 32 = _ from rfl) | exact Y.fieldAddr rfl rfl Try.underlying32 rfl Try.sizeOf25 (by decide)) ?_
  refine Jp.storeC 9 (Pt b9 (.cells (StP.cells ⟨x, 4096, ret⟩).toArray 32)) rfl (want_all rfl) rfl rfl Try.sizeOf25 rfl rfl rfl rfl rfl (SetC.stPc hx 4096) Kp.true ?_
  have hl2 := StP.len hOk
  refine Jp.done hK17 ?_
  refine Cd.seq fun K18 hK18 => ?_
  refine Cd.plain [(0, false), (1, false), (2, false), (3, false), (4, false), (5, false), (6, false), (7, false), (8, false), (9, false)] rfl rfl ?_
  refine Jp.y 70 rfl (want_all rfl) rfl rfl Kp.true (Y.move rfl rfl) ?_
  refine Jp.y 71 rfl (want_all rfl) rfl rfl Kp.true (by first | exact Y.loadAggO 9 rfl Try.isAgg32 Try.sizeOf32 rfl rfl (by first | rfl | assumption) | exact Y.loadAggO 9 rfl Try.isAgg32 Try.sizeOf32 rfl rfl (by first | rfl | assumption) | exact Y.loadAggO 50 rfl Try.isAgg32 Try.sizeOf32 rfl rfl (by first | rfl | assumption)) ?_
  have hS := step_spec b (madeD [(W : Int)] []) ⟨x, 4096, ret⟩ hOk
  rw [hst] at hS
  refine Jp.call [0] [0] hS 72 rfl (want_all rfl) rfl rfl (Runs.fn rfl Try.call15 rfl) (by decide) (by decide) rfl trivial ?_
  rintro v4 ρ4 L4 ⟨rfl, rfl, rfl⟩
  refine ⟨rfl, fun hle4 => ⟨Kp.true, ?_⟩⟩
  have hol : ((x.set d (doP (kindA op) (x.getD s 0) (x.getD t 0))).set 0 0).length = 32 := by simp [hx]
  have hl3 : (StP.cells ⟨(x.set d (doP (kindA op) (x.getD s 0) (x.getD t 0))).set 0 0, 4100, ret + 1⟩).length = 34 := by simp [StP.cells, natsV, hx]
  have ho3 := StP.one ⟨(x.set d (doP (kindA op) (x.getD s 0) (x.getD t 0))).set 0 0, 4100, ret + 1⟩
  refine Jp.y 69 rfl (want_all rfl) rfl rfl Kp.true (Y.move rfl rfl) ?_
  refine Jp.y 73 rfl (want_all rfl) rfl rfl Kp.true (Y.extract rfl rfl rfl) ?_
  refine Jp.y 74 rfl (want_all rfl) rfl rfl Kp.true (Y.extract rfl rfl rfl) ?_
  refine Jp.alloc 12 12 rfl (want_all rfl) rfl rfl rfl Try.zeroValue32 fun b12 => ⟨Kp.true, ?_⟩
  refine Jp.alloc 13 13 rfl (want_all rfl) rfl rfl rfl Try.zeroValue35 fun b13 => ⟨Kp.true, ?_⟩
  first | refine Jp.storeAll 12 rfl (want_all rfl) rfl rfl Try.sizeOf32 rfl rfl (by first | rfl | assumption) (by first | rfl | assumption) rfl rfl (fun k _ _ => noFr0 k) Kp.true ?_ | refine Jp.storeAll 13 rfl (want_all rfl) rfl rfl Try.sizeOf32 rfl rfl (by first | rfl | assumption) (by first | rfl | assumption) rfl rfl (fun k _ _ => noFr0 k) Kp.true ?_ | refine Jp.storeAll 9 rfl (want_all rfl) rfl rfl Try.sizeOf32 rfl rfl (by first | rfl | assumption) (by first | rfl | assumption) rfl rfl (fun k _ _ => noFr0 k) Kp.true ?_ | refine Jp.storeAll 13 rfl (want_all rfl) rfl rfl Try.sizeOf32 rfl rfl (by first | rfl | assumption) (by first | rfl | assumption) rfl rfl (fun k _ _ => noFr0 k) Kp.true ?_
  first | refine Jp.storeAll 12 rfl (want_all rfl) rfl rfl Try.sizeOf35 rfl rfl (by first | rfl | assumption) (by first | rfl | assumption) rfl rfl (fun k _ _ => noFr0 k) Kp.true ?_ | refine Jp.storeAll 13 rfl (want_all rfl) rfl rfl Try.sizeOf35 rfl rfl (by first | rfl | assumption) (by first | rfl | assumption) rfl rfl (fun k _ _ => noFr0 k) Kp.true ?_ | refine Jp.storeAll 9 rfl (want_all rfl) rfl rfl Try.sizeOf35 rfl rfl (by first | rfl | assumption) (by first | rfl | assumption) rfl rfl (fun k _ _ => noFr0 k) Kp.true ?_ | refine Jp.storeAll 13 rfl (want_all rfl) rfl rfl Try.sizeOf35 rfl rfl (by first | rfl | assumption) (by first | rfl | assumption) rfl rfl (fun k _ _ => noFr0 k) Kp.true ?_
  refine Jp.done hK18 ?_
  refine Cd.seq fun K19 hK19 => ?_
  refine Cd.plain [(0, false), (1, false), (2, false), (3, false), (4, false), (5, false), (6, false)] rfl rfl ?_
  refine Jp.y 76 rfl (want_all rfl) rfl rfl Kp.true (Y.move rfl rfl) ?_
  refine Jp.call [] [] (kind_spec op) 77 rfl (want_all rfl) rfl rfl (Runs.fn rfl Try.call16 rfl) (by decide) (by decide) rfl trivial ?_
  rintro v5 ρ5 L5 ⟨rfl, rfl, rfl⟩
  refine ⟨rfl, fun hle5 => ⟨Kp.true, ?_⟩⟩
  refine Jp.y 75 rfl (want_all rfl) rfl rfl Kp.true (Y.move rfl rfl) ?_
  refine Jp.y 78 rfl (want_all rfl) rfl rfl Kp.true (Y.extract rfl rfl rfl) ?_
  refine Jp.y 79 rfl (want_all rfl) rfl rfl Kp.true (Y.extract rfl rfl rfl) ?_
  refine Jp.y 14 rfl (want_all rfl) rfl rfl Kp.true (Y.assign rfl rfl) ?_
  refine Jp.y 15 rfl (want_all rfl) rfl rfl Kp.true (Y.assign rfl rfl) ?_
  refine Jp.done hK19 ?_
  refine Cd.seq fun K20 hK20 => ?_
  refine Cd.drawn [(9, _)] ⟨rfl, trivial⟩ [(0, true), (1, true), (2, true), (3, true), (4, true), (5, true), (6, true), (7, true), (8, true), (9, false), (10, true), (11, true), (12, true), (13, true), (14, true)] follows (by kernel_rfl) (fun hrl => ?_)
  have cs : (StP.cells ⟨x, 4096, ret⟩).toArray[s]? = some (.int .u32 ((x.getD s 0 : Nat) : Int)) := StP.cX' (s := ⟨x, 4096, ret⟩) (getD_get (by show _ < x.length; omega))
  have ct : (StP.cells ⟨x, 4096, ret⟩).toArray[t]? = some (.int .u32 ((x.getD t 0 : Nat) : Int)) := StP.cX' (s := ⟨x, 4096, ret⟩) (getD_get (by show _ < x.length; omega))
  refine Jp.q 81 rfl (want_all rfl) rfl rfl (Y.move rfl rfl) ?_
  refine Jp.q 82 rfl (want_all rfl) rfl rfl (Y.move rfl rfl) ?_
  refine Jp.q 83 rfl (want_all rfl) rfl rfl (by first | exact Y.fieldAddrP rfl rfl Try.underlying32 rfl Try.sizeOf30 (by decide) (show _ + 0 = _ from rfl) | exact Y.fieldAddr rfl rfl Try.underlying32 rfl Try.sizeOf30 (by decide)) ?_
  refine Jp.q 84 rfl (want_all rfl) rfl rfl (Y.indexArrP (q := s) rfl rfl rfl Try.underlying30 Try.sizeOf25 (by omega) (by omega) (by omega)) ?_
  refine Jp.q 85 rfl (want_all rfl) rfl rfl (by first | exact Y.loadO 12 rfl Try.isAgg25 rfl rfl rfl | exact Y.loadO 13 rfl Try.isAgg25 rfl rfl rfl | exact Y.loadO 9 rfl Try.isAgg25 rfl rfl rfl | exact Y.loadO 13 rfl Try.isAgg25 rfl rfl rfl | exact Y.loadC 9 rfl Try.isAgg25 rfl rfl (HasC.pt cs) | exact Y.loadC 9 rfl Try.isAgg25 rfl rfl (HasC.pt ct)) ?_
  refine Jp.q 86 rfl (want_all rfl) rfl rfl (Y.move rfl rfl) ?_
  refine Jp.q 87 rfl (want_all rfl) rfl rfl (by first | exact Y.fieldAddrP rfl rfl Try.underlying32 rfl Try.sizeOf30 (by decide) (show _ + 0 = _ from rfl) | exact Y.fieldAddr rfl rfl Try.underlying32 rfl Try.sizeOf30 (by decide)) ?_
  refine Jp.q 88 rfl (want_all rfl) rfl rfl (Y.indexArrP (q := t) rfl rfl rfl Try.underlying30 Try.sizeOf25 (by omega) (by omega) (by omega)) ?_
  refine Jp.q 89 rfl (want_all rfl) rfl rfl (by first | exact Y.loadO 12 rfl Try.isAgg25 rfl rfl rfl | exact Y.loadO 13 rfl Try.isAgg25 rfl rfl rfl | exact Y.loadO 9 rfl Try.isAgg25 rfl rfl rfl | exact Y.loadO 13 rfl Try.isAgg25 rfl rfl rfl | exact Y.loadC 9 rfl Try.isAgg25 rfl rfl (HasC.pt cs) | exact Y.loadC 9 rfl Try.isAgg25 rfl rfl (HasC.pt ct)) ?_
  refine Jp.call [] [] (do_spec (kindA op) (x.getD s 0) (x.getD t 0) (kindA_le op) hRs hRt) 90 rfl (want_all rfl) rfl rfl (Runs.fn rfl Try.call17 rfl) (by decide) (by decide) rfl trivial ?_
  rintro v6 ρ6 L6 ⟨rfl, rfl, rfl⟩
  refine ⟨rfl, fun hle6 => ⟨(Kp.st ⟨rfl, trivial⟩), ?_⟩⟩
  refine Jp.q 80 rfl (want_all rfl) rfl rfl (Y.move rfl rfl) ?_
  refine Jp.q 91 rfl (want_all rfl) rfl rfl (Y.extract rfl rfl rfl) ?_
  refine Jp.q 92 rfl (want_all rfl) rfl rfl (Y.extract rfl rfl rfl) ?_
  refine Jp.q 16 rfl (want_all rfl) rfl rfl (Y.assign rfl rfl) ?_
  refine Jp.q 17 rfl (want_all rfl) rfl rfl (Y.assign rfl rfl) ?_
  refine Jp.done hK20 ?_
  refine Cd.seq fun K22 hK22 => ?_
  refine Cd.plain [(0, false), (1, false), (2, false), (3, false), (4, false), (5, false), (6, false), (7, false), (8, false), (9, false), (10, false), (11, false), (12, false), (13, false), (14, false), (15, false), (16, false), (17, false), (18, false), (19, false), (20, false)] rfl rfl ?_
  have hgd : ((x.set d (doP (kindA op) (x.getD s 0) (x.getD t 0))).set 0 0)[d]? = some (doP (kindA op) (x.getD s 0) (x.getD t 0)) := by
    rw [List.getElem?_set_ne (by omega), List.getElem?_set_self (by omega)]
  refine Jp.y 93 rfl (want_all rfl) rfl rfl Kp.true (by first | exact Y.fieldAddrP rfl rfl Try.underlying35 rfl Try.sizeOf3 (by decide) (show _ + 0 = _ from rfl) | exact Y.fieldAddr rfl rfl Try.underlying35 rfl Try.sizeOf3 (by decide)) ?_
  refine Jp.y 94 rfl (want_all rfl) rfl rfl Kp.true (by first | exact Y.loadO 13 rfl Try.isAgg3 rfl rfl rfl | exact Y.loadC 12 rfl Try.isAgg3 rfl rfl (HasC.pt (StP.cX' hgd)) | exact Y.loadC 12 rfl Try.isAgg3 rfl rfl (HasC.pt (StP.cPc' (s := ⟨(x.set d (doP (kindA op) (x.getD s 0) (x.getD t 0))).set 0 0, 4100, ret + 1⟩) hol))) ?_
  refine Jp.y 95 rfl (want_all rfl) rfl rfl Kp.true (Y.eql rfl rfl rfl) ?_
  refine Jp.y 96 rfl (want_all rfl) rfl rfl Kp.true (Y.move rfl rfl) ?_
  refine Jp.splitF 96 rfl (fun g96 => ?_) (fun g96 => ?_)
  · skip
    exact absurd g96 (by simp [noEv])
  try simp only [decide_eq_false_iff_not, decide_eq_true_eq, Int.not_lt, Int.not_le, Bool.not_eq_false, Bool.not_eq_true, Bool.not_true, Bool.not_false, Bool.not_eq_true', Bool.not_eq_false', beq_eq_false_iff_ne, ne_eq, beq_iff_eq, bne_iff_ne, bne_eq_false_iff_eq, Classical.not_not] at g96
  refine Jp.y 97 rfl (want_as rfl rfl rfl rfl) rfl rfl Kp.true (Y.move rfl rfl) ?_
  refine Jp.y 98 rfl (want_as rfl rfl rfl rfl) rfl rfl Kp.true (Y.eql rfl rfl rfl) ?_
  refine Jp.y 99 rfl (want_all rfl) rfl rfl Kp.true (Y.pickT rfl rfl rfl) ?_
  refine Jp.y 100 rfl (want_all rfl) rfl rfl Kp.true (Y.move rfl rfl) ?_
  refine Jp.splitF 100 rfl (fun g100 => ?_) (fun g100 => ?_)
  · skip
    exact absurd g100 (by simp [noEv])
  try simp only [decide_eq_false_iff_not, decide_eq_true_eq, Int.not_lt, Int.not_le, Bool.not_eq_false, Bool.not_eq_true, Bool.not_true, Bool.not_false, Bool.not_eq_true', Bool.not_eq_false', beq_eq_false_iff_ne, ne_eq, beq_iff_eq, bne_iff_ne, bne_eq_false_iff_eq, Classical.not_not] at g100
  refine Jp.y 101 rfl (want_as rfl rfl rfl rfl) rfl rfl Kp.true (Y.move rfl rfl) ?_
  refine Jp.y 102 rfl (want_as rfl rfl rfl rfl) rfl rfl Kp.true (by first | exact Y.fieldAddrP rfl rfl Try.underlying32 rfl Try.sizeOf30 (by decide) (show _ + 0 = _ from rfl) | exact Y.fieldAddr rfl rfl Try.underlying32 rfl Try.sizeOf30 (by decide)) ?_
  refine Jp.y 103 rfl (want_as rfl rfl rfl rfl) rfl rfl Kp.true (Y.indexArrP (q := d) rfl rfl rfl Try.underlying30 Try.sizeOf25 (by omega) (by omega) (by omega)) ?_
  refine Jp.y 104 rfl (want_as rfl rfl rfl rfl) rfl rfl Kp.true (by first | exact Y.loadO 13 rfl Try.isAgg25 rfl rfl rfl | exact Y.loadC 12 rfl Try.isAgg25 rfl rfl (HasC.pt (StP.cX' hgd)) | exact Y.loadC 12 rfl Try.isAgg25 rfl rfl (HasC.pt (StP.cPc' (s := ⟨(x.set d (doP (kindA op) (x.getD s 0) (x.getD t 0))).set 0 0, 4100, ret + 1⟩) hol))) ?_
  refine Jp.y 105 rfl (want_as rfl rfl rfl rfl) rfl rfl Kp.true (Y.move rfl rfl) ?_
  refine Jp.y 106 rfl (want_as rfl rfl rfl rfl) rfl rfl Kp.true (Y.eql rfl rfl rfl) ?_
  refine Jp.y 107 rfl (want_all rfl) rfl rfl Kp.true (Y.pickT rfl rfl rfl) ?_
  refine Jp.y 108 rfl (want_all rfl) rfl rfl Kp.true (Y.move rfl rfl) ?_
  refine Jp.splitF 108 rfl (fun g108 => ?_) (fun g108 => ?_)
  · skip
    exact absurd g108 (by simp [noEv])
  try simp only [decide_eq_false_iff_not, decide_eq_true_eq, Int.not_lt, Int.not_le, Bool.not_eq_false, Bool.not_eq_true, Bool.not_true, Bool.not_false, Bool.not_eq_true', Bool.not_eq_false', beq_eq_false_iff_ne, ne_eq, beq_iff_eq, bne_iff_ne, bne_eq_false_iff_eq, Classical.not_not] at g108
  refine Jp.y 109 rfl (want_as rfl rfl rfl rfl) rfl rfl Kp.true (by first | exact Y.fieldAddrP rfl rfl Try.underlying32 rfl Try.sizeOf25 (by decide) (show _ + 32 = _ from rfl) | exact Y.fieldAddr rfl rfl Try.underlying32 rfl Try.sizeOf25 (by decide)) ?_
  refine Jp.y 110 rfl (want_as rfl rfl rfl rfl) rfl rfl Kp.true (by first | exact Y.loadO 13 rfl Try.isAgg25 rfl rfl rfl | exact Y.loadC 12 rfl Try.isAgg25 rfl rfl (HasC.pt (StP.cX' hgd)) | exact Y.loadC 12 rfl Try.isAgg25 rfl rfl (HasC.pt (StP.cPc' (s := ⟨(x.set d (doP (kindA op) (x.getD s 0) (x.getD t 0))).set 0 0, 4100, ret + 1⟩) hol))) ?_
  refine Jp.y 111 rfl (want_as rfl rfl rfl rfl) rfl rfl Kp.true (Y.eql rfl rfl rfl) ?_
  refine Jp.y 112 rfl (want_all rfl) rfl rfl Kp.true (Y.pickT rfl rfl rfl) ?_
  refine Jp.y 10 rfl (want_all rfl) rfl rfl Kp.true (Y.assign rfl rfl) ?_
  refine Jp.done hK22 ?_
  refine Cd.ret [] rfl (res1 rfl rfl) trivial ⟨by simp, rfl⟩
end Go.Proofs.Ytkjeidoplonkjaa
