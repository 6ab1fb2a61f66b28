import Derived.Test.YtkjeidoplonkjaaZCpuS
set_option linter.unusedVariables false
set_option linter.unusedSimpArgs false
set_option maxRecDepth 100000
namespace Go.Proofs.Ytkjeidoplonkjaa
open Go
def brI (op : Nat) : InsP := ⟨op, 0, 1, 2, 64⟩
theorem br_enc {op : Nat} (h : 5 ≤ op ∧ op ≤ 10) : encP (brI op) = (encW (brI op), 0) ∧ decP (encW (brI op)) = brI op := by
  rcases (show op = 5 ∨ op = 6 ∨ op = 7 ∨ op = 8 ∨ op = 9 ∨ op = 10 by omega) with rfl | rfl | rfl | rfl | rfl | rfl <;> constructor <;> kernel_rfl
def brTo (op a b : Nat) : Nat := if testP (brK op) a b = true then 4160 else 4100
theorem step_br {op : Nat} (h : 5 ≤ op ∧ op ≤ 10) (x : List Nat) (ret : Int) :
    stepP (madeD [((encW (brI op) : Nat) : Int)] []) ⟨x, 4096, ret⟩ = (⟨x.set 0 0, brTo op (x.getD 1 0) (x.getD 2 0), ret + 1⟩, noEv, madeD [((encW (brI op) : Nat) : Int)] []) := by
  rw [stepP_of (s := ⟨x, 4096, ret⟩) (fetch_one (encW_lt _) (br_enc h).2 (show op ≠ 0 by omega))]
  have hg : goesP (brI op) ⟨x, 4096, ret⟩ = brTo op (x.getD 1 0) (x.getD 2 0) := by
    have r1 : regP ⟨x, 4096, ret⟩ (brI op).r1 = x.getD 1 0 := rfl
    have r2 : regP ⟨x, 4096, ret⟩ (brI op).r2 = x.getD 2 0 := rfl
    unfold goesP
    rw [r1, r2, if_neg (show ¬ (brI op).op = 3 by show ¬ op = 3; omega), if_neg (show ¬ (brI op).op = 4 by show ¬ op = 4; omega)]
    by_cases ht : testP (brK op) (x.getD 1 0) (x.getD 2 0) = true
    · exact (if_pos ⟨h.1, h.2, ht⟩).trans (by rw [brTo, if_pos ht]; rfl)
    · exact (if_neg (fun q => ht q.2.2)).trans (by rw [brTo, if_neg ht]; rfl)
  have hm : brTo op (x.getD 1 0) (x.getD 2 0) % 4 = 0 := by unfold brTo; split <;> rfl
  unfold doInsP
  rw [hg, hm, if_neg (show ¬ (brI op).op = 48 by show ¬ op = 48; omega), if_neg (show ¬ (brI op).op = 49 by show ¬ op = 49; omega), if_neg (fun q => q rfl), if_neg (stores_no (op := (brI op).op) (show ¬ (16 ≤ op ∧ op ≤ 18) by omega)), if_neg (writes_no (op := (brI op).op) (show ¬ (1 ≤ op ∧ op ≤ 4 ∨ 11 ≤ op ∧ op ≤ 15 ∨ 19 ≤ op ∧ op ≤ 45) by omega))]
  rfl
def brOther (op : Nat) : Nat := if (op - 5) % 2 = 1 then op - 1 else op + 1
theorem brOther_ok {op : Nat} (h : 5 ≤ op ∧ op ≤ 10) : 5 ≤ brOther op ∧ brOther op ≤ 10 := by unfold brOther; split <;> omega
theorem brOther_test {op : Nat} (h : 5 ≤ op ∧ op ≤ 10) (a b : Nat) : testP (brK (brOther op)) a b = !testP (brK op) a b := by
  rcases (show op = 5 ∨ op = 6 ∨ op = 7 ∨ op = 8 ∨ op = 9 ∨ op = 10 by omega) with rfl | rfl | rfl | rfl | rfl | rfl
  · show decide (a ≠ b) = !decide (a = b); rw [Bool.eq_iff_iff]; simp only [Bool.not_eq_true', decide_eq_true_eq, decide_eq_false_iff_not]; (try omega)
  · show decide (a = b) = !decide (a ≠ b); rw [Bool.eq_iff_iff]; simp only [Bool.not_eq_true', decide_eq_true_eq, decide_eq_false_iff_not]; (try omega)
  · show decide (s32 b ≤ s32 a) = !decide (s32 a < s32 b); rw [Bool.eq_iff_iff]; simp only [Bool.not_eq_true', decide_eq_true_eq, decide_eq_false_iff_not]; (try omega)
  · show decide (s32 a < s32 b) = !decide (s32 b ≤ s32 a); rw [Bool.eq_iff_iff]; simp only [Bool.not_eq_true', decide_eq_true_eq, decide_eq_false_iff_not]; (try omega)
  · show decide (b ≤ a) = !decide (a < b); rw [Bool.eq_iff_iff]; simp only [Bool.not_eq_true', decide_eq_true_eq, decide_eq_false_iff_not]; (try omega)
  · show decide (a < b) = !decide (b ≤ a); rw [Bool.eq_iff_iff]; simp only [Bool.not_eq_true', decide_eq_true_eq, decide_eq_false_iff_not]; (try omega)
def brX (a b : Nat) : List Nat := ((List.replicate 32 0).set 1 a).set 2 b
theorem brX_0 (a b : Nat) : (brX a b).set 0 0 = brX a b := rfl
theorem brX_ok {a b : Nat} (ha : a < 4294967296) (hb : b < 4294967296) : StOk ⟨brX a b, 4096, 0⟩ := by
  refine ⟨rfl, fun y hy => ?_, (by decide : 4096 < 4294967296), (show -9223372036854775808 ≤ (0 : Int) ∧ (0 : Int) ≤ 4611686018427387904 by decide)⟩
  rcases List.mem_or_eq_of_mem_set hy with h | h
  · rcases List.mem_or_eq_of_mem_set h with h | h
    · rw [List.eq_of_mem_replicate h]; decide
    · rw [h]; exact ha
  · rw [h]; exact hb
theorem cpuBranches_spec (op : Int) (a b : Nat) (ha : a < 4294967296) (hb : b < 4294967296) : Spec Try.prog 5 #[.int .i64 op, .int .u32 a, .int .u32 b] (fun _ => True) [] (fun ρ ρ' v L => v = .bool true ∧ L = []) := by
  refine Spec.of 100 Try.func5 rfl Try.ntmps5 [(0, _), (1, _), (2, _)] rfl rfl ?_
  intro cx ρ hr' h0
  refine Cd.seq fun K1 hK1 => ?_
  refine Cd.plain [(0, false)] rfl rfl ?_
  refine Jp.y 6 rfl (want_all rfl) rfl rfl Kp.true (Y.assign rfl rfl) ?_
  refine Jp.done hK1 ?_
  refine Cd.seq fun K2 hK2 => ?_
  refine Cd.seq fun K3 hK3 => ?_
  refine Cd.plain [(0, false), (1, false)] rfl rfl ?_
  refine Jp.call [] [] awake12_spec 15 rfl (want_all rfl) rfl rfl (Runs.fn rfl Try.call12 rfl) (by decide) (by decide) rfl trivial ?_
  rintro v1 ρ1 L1 ⟨rfl, rfl⟩
  refine ⟨rfl, fun hle1 => ⟨Kp.true, ?_⟩⟩
  refine Jp.y 16 rfl (want_all rfl) rfl rfl Kp.true (Y.not rfl rfl) ?_
  refine Jp.done hK3 ?_
  refine Cd.cond rfl (fun g16 => ?_) (fun g16 => ?_)
  · skip
    exact absurd g16 (by simp)
  try simp only [decide_eq_false_iff_not, decide_eq_true_eq, Int.not_lt, Int.not_le, Bool.not_eq_false, Bool.not_eq_true, Bool.not_true, Bool.not_false, Bool.not_eq_true', Bool.not_eq_false', beq_eq_false_iff_ne, ne_eq, beq_iff_eq, bne_iff_ne, bne_eq_false_iff_eq, Classical.not_not] at g16
  refine Cd.skip hK2 ?_
  refine Cd.seq fun K4 hK4 => ?_
  refine Cd.seq fun K5 hK5 => ?_
  refine Cd.plain [(0, false), (1, false), (2, false), (3, false), (4, false), (5, false)] rfl rfl ?_
  refine Jp.y 17 rfl (want_all rfl) rfl rfl Kp.true (Y.move rfl rfl) ?_
  refine Jp.y 18 rfl (want_all rfl) rfl rfl Kp.true (Y.lss rfl rfl rfl) ?_
  refine Jp.y 19 rfl (want_all rfl) rfl rfl Kp.true (Y.move rfl rfl) ?_
  refine Jp.split 19 rfl (fun g19 => ?_) (fun g19 => ?_)
  · skip
    refine Jp.skip 20 rfl (want_as rfl rfl rfl rfl) rfl rfl Kp.true ?_
    refine Jp.skip 21 rfl (want_as rfl rfl rfl rfl) rfl rfl Kp.true ?_
    refine Jp.y 22 rfl (want_all rfl) rfl rfl Kp.true (Y.pickT rfl rfl rfl) ?_
    refine Jp.done hK5 ?_
    refine Cd.condT rfl ?_
    refine Cd.seq fun K6 hK6 => ?_
    refine Cd.plain [(0, false)] rfl rfl ?_
    refine Jp.y 6 rfl (want_all rfl) rfl rfl Kp.true (Y.assign rfl rfl) ?_
    refine Jp.done hK6 ?_
    refine Cd.ret [] rfl (res1 rfl rfl) trivial ⟨rfl, rfl⟩
  try simp only [decide_eq_false_iff_not, decide_eq_true_eq, Int.not_lt, Int.not_le, Bool.not_eq_false, Bool.not_eq_true, Bool.not_true, Bool.not_false, Bool.not_eq_true', Bool.not_eq_false', beq_eq_false_iff_ne, ne_eq, beq_iff_eq, bne_iff_ne, bne_eq_false_iff_eq, Classical.not_not] at g19
  refine Jp.y 20 rfl (want_as rfl rfl rfl rfl) rfl rfl Kp.true (Y.move rfl rfl) ?_
  refine Jp.y 21 rfl (want_as rfl rfl rfl rfl) rfl rfl Kp.true (Y.gtr rfl rfl rfl) ?_
  refine Jp.y 22 rfl (want_all rfl) rfl rfl Kp.true (Y.pickF rfl rfl rfl) ?_
  refine Jp.done hK5 ?_
  refine Cd.cond rfl (fun g22 => ?_) (fun g22 => ?_)
  · skip
    refine Cd.seq fun K7 hK7 => ?_
    refine Cd.plain [(0, false)] rfl rfl ?_
    refine Jp.y 6 rfl (want_all rfl) rfl rfl Kp.true (Y.assign rfl rfl) ?_
    refine Jp.done hK7 ?_
    refine Cd.ret [] rfl (res1 rfl rfl) trivial ⟨rfl, rfl⟩
  try simp only [decide_eq_false_iff_not, decide_eq_true_eq, Int.not_lt, Int.not_le, Bool.not_eq_false, Bool.not_eq_true, Bool.not_true, Bool.not_false, Bool.not_eq_true', Bool.not_eq_false', beq_eq_false_iff_ne, ne_eq, beq_iff_eq, bne_iff_ne, bne_eq_false_iff_eq, Classical.not_not] at g22
  refine Cd.skip hK4 ?_
  refine Cd.seq fun K8 hK8 => ?_
  refine Cd.plain [(0, false), (1, false), (2, false)] rfl rfl ?_
  obtain ⟨op, rfl⟩ := Int.eq_ofNat_of_zero_le (show 0 ≤ op by omega)
  have hop : 5 ≤ op ∧ op ≤ 10 := by omega
  have hoo := brOther_ok hop
  have hI : ∀ k : Nat, 5 ≤ k ∧ k ≤ 10 → InsOk (brI k) := fun k hk => ⟨(show k < 50 by omega), (by decide : 0 < 32), (by decide : 1 < 32), (by decide : 2 < 32), (show -2147483648 ≤ (64 : Int) ∧ (64 : Int) ≤ 2147483647 by decide)⟩
  refine Jp.y 23 rfl (want_all rfl) rfl rfl Kp.true (Y.move rfl rfl) ?_
  refine Jp.y 24 rfl (want_all rfl) rfl rfl Kp.true (Y.add_ rfl rfl rfl (by first | exact wrap_i64 (by omega) (by omega) | rfl)) ?_
  refine Jp.y 7 rfl (want_all rfl) rfl rfl Kp.true (Y.assign rfl rfl) ?_
  refine Jp.done hK8 ?_
  refine Cd.seq fun K9 hK9 => ?_
  refine Cd.seq fun K10 hK10 => ?_
  refine Cd.plain [(0, false), (1, false), (2, false), (3, false)] rfl rfl ?_
  refine Jp.y 25 rfl (want_all rfl) rfl rfl Kp.true (Y.move rfl rfl) ?_
  refine Jp.y 26 rfl (want_all rfl) rfl rfl Kp.true (Y.sub_ rfl rfl rfl (by first | exact wrap_i64 (by omega) (by omega) | rfl)) ?_
  refine Jp.y 27 rfl (want_all rfl) rfl rfl Kp.true (by first | exact Y.remN rfl rfl rfl (by omega) (by omega) | exact Y.rem rfl rfl rfl (by first | decide | omega)) ?_
  refine Jp.y 28 rfl (want_all rfl) rfl rfl Kp.true (Y.eql rfl rfl rfl) ?_
  refine Jp.done hK10 ?_
  refine Cd.joinG (G := Unit) (fun _ => True) (fun _ => [(7, .int .i64 (brOther op : Int))]) [(0, _), (1, _), (2, _)] ⟨rfl, rfl, rfl, trivial⟩ (fun _ => []) [] trivial hK9 (fun g hφ => ?_) (fun hj1 => ?_)
  · clear hφ
    obtain ⟨W, hWe⟩ : ∃ W, encW (brI op) = W := ⟨_, rfl⟩
    obtain ⟨V, hVe⟩ : ∃ V, encW (brI (brOther op)) = V := ⟨_, rfl⟩
    have hWl := encW_lt (brI op)
    have hVl := encW_lt (brI (brOther op))
    have hW := word12_spec (brI op) (hI op hop) (show 1 ≤ op by omega)
    have hV := word12_spec (brI (brOther op)) (hI _ hoo) (show 1 ≤ brOther op by omega)
    rw [(br_enc hop).1, hWe] at hW
    rw [(br_enc hoo).1, hVe] at hV
    rw [hWe] at hWl
    rw [hVe] at hVl
    have s1 := step_br hop (brX a b) 0
    have s2 := step_br hoo (brX a b) 0
    have x1 : (brX a b).getD 1 0 = a := rfl
    have x2 : (brX a b).getD 2 0 = b := rfl
    rw [hWe, brX_0, x1, x2] at s1
    rw [hVe, brX_0, x1, x2] at s2
    refine Cd.seq fun K11 hK11 => ?_
    refine Cd.plain [(0, false), (1, false), (2, false), (3, false), (4, false), (5, false)] rfl rfl ?_
    refine Jp.y 31 rfl (want_all rfl) rfl rfl Kp.true (Y.move rfl rfl) ?_
    refine Jp.y 32 rfl (want_all rfl) rfl rfl Kp.true (Y.struct [(0, _), (2, _), (3, _), (4, _)] [_, _, _, _, _] rfl rfl places28 Try.zeroValue28 rfl) ?_
    refine Jp.call [] [] hW 33 rfl (want_all rfl) rfl rfl (Runs.fn rfl Try.call14 rfl) (by decide) (by decide) rfl trivial ?_
    rintro v2 ρ2 L2 ⟨rfl, rfl, rfl⟩
    refine ⟨rfl, fun hle2 => ⟨Kp.true, ?_⟩⟩
    refine Jp.lit 34 50 [(0, _)] [_] rfl (want_all rfl) rfl rfl rfl rfl Try.underlying29 Try.sizeOf25 Try.zeroValue25 rfl rfl rfl rfl rfl fun b50 => ⟨Kp.true, ?_⟩
    refine Jp.freeze (i := 50) rfl (OwnS.up _ _ _ _ _ _) fun ρ7 hle7 hA7 => ?_
    refine Jp.call [] [0] (made12_spec (some ⟨b50, 0, none⟩) 1 [(W : Int)] none 0 [] (by intro y hy; simp at hy; exact ⟨W, hy, hWl⟩)) 35 rfl (want_all rfl) rfl rfl (Runs.fn rfl Try.call13 rfl) (by decide) (by decide) rfl ⟨hA7.rd, RdS.nil 1 _⟩ ?_
    rintro v3 ρ3 L3 ⟨bm, rfl, rfl⟩
    refine ⟨rfl, fun hle3 => ⟨Kp.true, ?_⟩⟩
    refine Jp.y 8 rfl (want_all rfl) rfl rfl Kp.true (Y.assign rfl rfl) ?_
    refine Jp.done hK11 ?_
    refine Cd.seq fun K12 hK12 => ?_
    refine Cd.plain [(0, false), (1, false), (2, false), (3, false), (4, false), (5, false)] rfl rfl ?_
    refine Jp.y 36 rfl (want_all rfl) rfl rfl Kp.true (Y.move rfl rfl) ?_
    refine Jp.y 37 rfl (want_all rfl) rfl rfl Kp.true (Y.struct [(0, _), (2, _), (3, _), (4, _)] [_, _, _, _, _] rfl rfl places28 Try.zeroValue28 rfl) ?_
    refine Jp.call [] [] hV 38 rfl (want_all rfl) rfl rfl (Runs.fn rfl Try.call14 rfl) (by decide) (by decide) rfl trivial ?_
    rintro v4 ρ4 L4 ⟨rfl, rfl, rfl⟩
    refine ⟨rfl, fun hle4 => ⟨Kp.true, ?_⟩⟩
    refine Jp.lit 39 51 [(0, _)] [_] rfl (want_all rfl) rfl rfl rfl rfl Try.underlying29 Try.sizeOf25 Try.zeroValue25 rfl rfl rfl rfl rfl fun b51 => ⟨Kp.true, ?_⟩
    refine Jp.freeze (i := 51) rfl (OwnS.up _ _ _ _ _ _) fun ρ8 hle8 hA8 => ?_
    refine Jp.call [] [1] (made12_spec (some ⟨b51, 0, none⟩) 1 [(V : Int)] none 0 [] (by intro y hy; simp at hy; exact ⟨V, hy, hVl⟩)) 40 rfl (want_all rfl) rfl rfl (Runs.fn rfl Try.call13 rfl) (by decide) (by decide) rfl ⟨hA8.rd, RdS.nil 1 _⟩ ?_
    rintro v5 ρ5 L5 ⟨bn, rfl, rfl⟩
    refine ⟨rfl, fun hle5 => ⟨Kp.true, ?_⟩⟩
    refine Jp.y 9 rfl (want_all rfl) rfl rfl Kp.true (Y.assign rfl rfl) ?_
    refine Jp.done hK12 ?_
    refine Cd.seq fun K13 hK13 => ?_
    refine Cd.plain [(0, false), (1, false), (2, false)] rfl rfl ?_
    refine Jp.y 41 rfl (want_all rfl) rfl rfl Kp.true (Y.struct [(1, _)] [_, _, _, _, _, _, _, _, _, _, _, _, _, _, _, _, _, _, _, _, _, _, _, _, _, _, _, _, _, _, _, _, _, _] rfl rfl places32 Try.zeroValue32 rfl) ?_
    refine Jp.alloc 10 10 rfl (want_all rfl) rfl rfl rfl Try.zeroValue32 fun b10 => ⟨Kp.true, ?_⟩
    first | refine Jp.storeAll 10 rfl (want_all rfl) rfl rfl Try.sizeOf32 rfl rfl (by first | rfl | assumption) (by first | rfl | assumption) rfl rfl (fun k _ _ => noFr0 k) Kp.true ?_
    refine Jp.done hK13 ?_
    refine Cd.seq fun K14 hK14 => ?_
    refine Cd.plain [(0, false), (1, false), (2, false), (3, false), (4, false), (5, false), (6, false), (7, false)] rfl rfl ?_
    refine Jp.imp (j := 10) rfl (fun h hh => (show Pt b10 (.cells (StP.cells ⟨List.replicate 32 0, 4096, 0⟩).toArray 32) h from hh)) ?_
    refine Jp.y 42 rfl (want_all rfl) rfl rfl Kp.true (Y.move rfl rfl) ?_
    refine Jp.y 43 rfl (want_all rfl) rfl rfl Kp.true (Y.move rfl rfl) ?_
    refine Jp.y 44 rfl (want_all rfl) rfl rfl Kp.true (by first | exact Y.fieldAddrP rfl rfl Try.underlying32 rfl Try.sizeOf30 (by decide) (show _ + 0 = _ from rfl) | exact Y.fieldAddr rfl rfl Try.underlying32 rfl Try.sizeOf30 (by decide)) ?_
    refine Jp.y 45 rfl (want_all rfl) rfl rfl Kp.true (Y.indexArrP rfl rfl rfl Try.underlying30 Try.sizeOf25 (by first | decide | omega) (by first | decide | omega) rfl) ?_
    refine Jp.storeC 10 (Pt b10 (.cells (StP.cells ⟨(List.replicate 32 0).set 1 a, 4096, 0⟩).toArray 32)) rfl (want_all rfl) rfl rfl Try.sizeOf25 rfl rfl rfl rfl rfl (SetC.st rfl (by decide) a) Kp.true ?_
    refine Jp.y 46 rfl (want_all rfl) rfl rfl Kp.true (by first | exact Y.fieldAddrP rfl rfl Try.underlying32 rfl Try.sizeOf30 (by decide) (show _ + 0 = _ from rfl) | exact Y.fieldAddr rfl rfl Try.underlying32 rfl Try.sizeOf30 (by decide)) ?_
    refine Jp.y 47 rfl (want_all rfl) rfl rfl Kp.true (Y.indexArrP rfl rfl rfl Try.underlying30 Try.sizeOf25 (by first | decide | omega) (by first | decide | omega) rfl) ?_
    refine Jp.storeC 10 (Pt b10 (.cells (StP.cells ⟨brX a b, 4096, 0⟩).toArray 32)) rfl (want_all rfl) rfl rfl Try.sizeOf25 rfl rfl rfl rfl rfl (SetC.st rfl (by decide) b) Kp.true ?_
    have hOk := brX_ok ha hb
    have hl0 := StP.len hOk
    have S1 := step_spec bm (madeD [(W : Int)] []) ⟨brX a b, 4096, 0⟩ hOk
    have S2 := step_spec bn (madeD [(V : Int)] []) ⟨brX a b, 4096, 0⟩ hOk
    rw [s1] at S1
    rw [s2] at S2
    obtain ⟨t1, ht1⟩ : ∃ t, brTo op a b = t := ⟨_, rfl⟩
    obtain ⟨t2, ht2⟩ : ∃ t, brTo (brOther op) a b = t := ⟨_, rfl⟩
    have htt : (t1 = 4160 ∧ t2 = 4100) ∨ (t1 = 4100 ∧ t2 = 4160) := by
      rw [← ht1, ← ht2]
      unfold brTo
      rw [brOther_test hop]
      cases testP (brK op) a b <;> simp
    rw [ht1] at S1
    rw [ht2] at S2
    refine Jp.done hK14 ?_
    refine Cd.seq fun K15 hK15 => ?_
    refine Cd.plain [(0, false), (1, false), (2, false), (3, false), (4, false), (5, false), (6, false), (7, false), (8, false), (9, false)] rfl rfl ?_
    refine Jp.y 49 rfl (want_all rfl) rfl rfl Kp.true (Y.move rfl rfl) ?_
    refine Jp.y 50 rfl (want_all rfl) rfl rfl Kp.true (by first | exact Y.loadAggO 10 rfl Try.isAgg32 Try.sizeOf32 rfl rfl (by first | rfl | assumption)) ?_
    refine Jp.call [0] [0] S1 51 rfl (want_all rfl) rfl rfl (Runs.fn rfl Try.call15 rfl) (by decide) (by decide) rfl trivial ?_
    rintro v6 ρ6 L6 ⟨rfl, rfl, rfl⟩
    refine ⟨rfl, fun hle6 => ⟨Kp.true, ?_⟩⟩
    have hl1 : (StP.cells ⟨brX a b, t1, 0 + 1⟩).length = 34 := rfl
    have hl2 : (StP.cells ⟨brX a b, t2, 0 + 1⟩).length = 34 := rfl
    have ho1 := StP.one ⟨brX a b, t1, 0 + 1⟩
    have ho2 := StP.one ⟨brX a b, t2, 0 + 1⟩
    refine Jp.y 48 rfl (want_all rfl) rfl rfl Kp.true (Y.move rfl rfl) ?_
    refine Jp.y 52 rfl (want_all rfl) rfl rfl Kp.true (Y.extract rfl rfl rfl) ?_
    refine Jp.y 53 rfl (want_all rfl) rfl rfl Kp.true (Y.extract rfl rfl rfl) ?_
    refine Jp.alloc 11 11 rfl (want_all rfl) rfl rfl rfl Try.zeroValue32 fun b11 => ⟨Kp.true, ?_⟩
    refine Jp.alloc 12 12 rfl (want_all rfl) rfl rfl rfl Try.zeroValue35 fun b12 => ⟨Kp.true, ?_⟩
    first | refine Jp.storeAll 11 rfl (want_all rfl) rfl rfl Try.sizeOf32 rfl rfl (by first | rfl | assumption) (by first | rfl | assumption) rfl rfl (fun k _ _ => noFr0 k) Kp.true ?_ | refine Jp.storeAll 12 rfl (want_all rfl) rfl rfl Try.sizeOf32 rfl rfl (by first | rfl | assumption) (by first | rfl | assumption) rfl rfl (fun k _ _ => noFr0 k) Kp.true ?_ | refine Jp.storeAll 10 rfl (want_all rfl) rfl rfl Try.sizeOf32 rfl rfl (by first | rfl | assumption) (by first | rfl | assumption) rfl rfl (fun k _ _ => noFr0 k) Kp.true ?_ | refine Jp.storeAll 12 rfl (want_all rfl) rfl rfl Try.sizeOf32 rfl rfl (by first | rfl | assumption) (by first | rfl | assumption) rfl rfl (fun k _ _ => noFr0 k) Kp.true ?_
    first | refine Jp.storeAll 11 rfl (want_all rfl) rfl rfl Try.sizeOf35 rfl rfl (by first | rfl | assumption) (by first | rfl | assumption) rfl rfl (fun k _ _ => noFr0 k) Kp.true ?_ | refine Jp.storeAll 12 rfl (want_all rfl) rfl rfl Try.sizeOf35 rfl rfl (by first | rfl | assumption) (by first | rfl | assumption) rfl rfl (fun k _ _ => noFr0 k) Kp.true ?_ | refine Jp.storeAll 10 rfl (want_all rfl) rfl rfl Try.sizeOf35 rfl rfl (by first | rfl | assumption) (by first | rfl | assumption) rfl rfl (fun k _ _ => noFr0 k) Kp.true ?_ | refine Jp.storeAll 12 rfl (want_all rfl) rfl rfl Try.sizeOf35 rfl rfl (by first | rfl | assumption) (by first | rfl | assumption) rfl rfl (fun k _ _ => noFr0 k) Kp.true ?_
    refine Jp.done hK15 ?_
    refine Cd.seq fun K16 hK16 => ?_
    refine Cd.plain [(0, false), (1, false), (2, false), (3, false), (4, false), (5, false), (6, false), (7, false), (8, false), (9, false)] rfl rfl ?_
    refine Jp.y 55 rfl (want_all rfl) rfl rfl Kp.true (Y.move rfl rfl) ?_
    refine Jp.y 56 rfl (want_all rfl) rfl rfl Kp.true (by first | exact Y.loadAggO 11 rfl Try.isAgg32 Try.sizeOf32 rfl rfl (by first | rfl | assumption) | exact Y.loadAggO 12 rfl Try.isAgg32 Try.sizeOf32 rfl rfl (by first | rfl | assumption) | exact Y.loadAggO 10 rfl Try.isAgg32 Try.sizeOf32 rfl rfl (by first | rfl | assumption) | exact Y.loadAggO 12 rfl Try.isAgg32 Try.sizeOf32 rfl rfl (by first | rfl | assumption)) ?_
    refine Jp.call [1] [1] S2 57 rfl (want_all rfl) rfl rfl (Runs.fn rfl Try.call15 rfl) (by decide) (by decide) rfl trivial ?_
    rintro v7 ρ7 L7 ⟨rfl, rfl, rfl⟩
    refine ⟨rfl, fun hle7 => ⟨Kp.true, ?_⟩⟩
    refine Jp.y 54 rfl (want_all rfl) rfl rfl Kp.true (Y.move rfl rfl) ?_
    refine Jp.y 58 rfl (want_all rfl) rfl rfl Kp.true (Y.extract rfl rfl rfl) ?_
    refine Jp.y 59 rfl (want_all rfl) rfl rfl Kp.true (Y.extract rfl rfl rfl) ?_
    refine Jp.alloc 13 13 rfl (want_all rfl) rfl rfl rfl Try.zeroValue32 fun b13 => ⟨Kp.true, ?_⟩
    refine Jp.alloc 14 14 rfl (want_all rfl) rfl rfl rfl Try.zeroValue35 fun b14 => ⟨Kp.true, ?_⟩
    first | refine Jp.storeAll 13 rfl (want_all rfl) rfl rfl Try.sizeOf32 rfl rfl (by first | rfl | assumption) (by first | rfl | assumption) rfl rfl (fun k _ _ => noFr0 k) Kp.true ?_ | refine Jp.storeAll 14 rfl (want_all rfl) rfl rfl Try.sizeOf32 rfl rfl (by first | rfl | assumption) (by first | rfl | assumption) rfl rfl (fun k _ _ => noFr0 k) Kp.true ?_ | refine Jp.storeAll 10 rfl (want_all rfl) rfl rfl Try.sizeOf32 rfl rfl (by first | rfl | assumption) (by first | rfl | assumption) rfl rfl (fun k _ _ => noFr0 k) Kp.true ?_ | refine Jp.storeAll 14 rfl (want_all rfl) rfl rfl Try.sizeOf32 rfl rfl (by first | rfl | assumption) (by first | rfl | assumption) rfl rfl (fun k _ _ => noFr0 k) Kp.true ?_
    first | refine Jp.storeAll 13 rfl (want_all rfl) rfl rfl Try.sizeOf35 rfl rfl (by first | rfl | assumption) (by first | rfl | assumption) rfl rfl (fun k _ _ => noFr0 k) Kp.true ?_ | refine Jp.storeAll 14 rfl (want_all rfl) rfl rfl Try.sizeOf35 rfl rfl (by first | rfl | assumption) (by first | rfl | assumption) rfl rfl (fun k _ _ => noFr0 k) Kp.true ?_ | refine Jp.storeAll 10 rfl (want_all rfl) rfl rfl Try.sizeOf35 rfl rfl (by first | rfl | assumption) (by first | rfl | assumption) rfl rfl (fun k _ _ => noFr0 k) Kp.true ?_ | refine Jp.storeAll 14 rfl (want_all rfl) rfl rfl Try.sizeOf35 rfl rfl (by first | rfl | assumption) (by first | rfl | assumption) rfl rfl (fun k _ _ => noFr0 k) Kp.true ?_
    refine Jp.done hK16 ?_
    refine Cd.seq fun K17 hK17 => ?_
    refine Cd.plain [(0, false), (1, false), (2, false), (3, false), (4, false), (5, false), (6, false), (7, false), (8, false), (9, false), (10, false), (11, false), (12, false), (13, false), (14, false), (15, false), (16, false), (17, false), (18, false), (19, false), (20, false), (21, false), (22, false), (23, false), (24, false), (25, false), (26, false), (27, false), (28, false), (29, false), (30, false), (31, false), (32, false), (33, false), (34, false), (35, false), (36, false), (37, false), (38, false), (39, false), (40, false)] rfl rfl ?_
    have hcA := StP.cPc' (s := ⟨brX a b, t1, 0 + 1⟩) rfl
    have hcB := StP.cPc' (s := ⟨brX a b, t2, 0 + 1⟩) rfl
    have hcC := StP.cRet' (s := ⟨brX a b, t1, 0 + 1⟩) rfl
    refine Jp.y 60 rfl (want_all rfl) rfl rfl Kp.true (by first | exact Y.fieldAddrP rfl rfl Try.underlying35 rfl Try.sizeOf3 (by decide) (show _ + 0 = _ from rfl) | exact Y.fieldAddr rfl rfl Try.underlying35 rfl Try.sizeOf3 (by decide)) ?_
    refine Jp.y 61 rfl (want_all rfl) rfl rfl Kp.true (by first | exact Y.loadO 12 rfl Try.isAgg3 rfl rfl rfl | exact Y.loadO 14 rfl Try.isAgg3 rfl rfl rfl | exact Y.loadC 11 rfl Try.isAgg3 rfl rfl (HasC.pt hcA) | exact Y.loadC 13 rfl Try.isAgg3 rfl rfl (HasC.pt hcB) | exact Y.loadC 11 rfl Try.isAgg3 rfl rfl (HasC.pt hcC)) ?_
    refine Jp.y 62 rfl (want_all rfl) rfl rfl Kp.true (Y.eql rfl rfl rfl) ?_
    refine Jp.y 63 rfl (want_all rfl) rfl rfl Kp.true (Y.move rfl rfl) ?_
    refine Jp.splitF 63 rfl (fun g63 => ?_) (fun g63 => ?_)
    · skip
      exact absurd g63 (by simp [noEv])
    try simp only [decide_eq_false_iff_not, decide_eq_true_eq, Int.not_lt, Int.not_le, Bool.not_eq_false, Bool.not_eq_true, Bool.not_true, Bool.not_false, Bool.not_eq_true', Bool.not_eq_false', beq_eq_false_iff_ne, ne_eq, beq_iff_eq, bne_iff_ne, bne_eq_false_iff_eq, Classical.not_not] at g63
    refine Jp.y 64 rfl (want_as rfl rfl rfl rfl) rfl rfl Kp.true (by first | exact Y.fieldAddrP rfl rfl Try.underlying35 rfl Try.sizeOf3 (by decide) (show _ + 0 = _ from rfl) | exact Y.fieldAddr rfl rfl Try.underlying35 rfl Try.sizeOf3 (by decide)) ?_
    refine Jp.y 65 rfl (want_as rfl rfl rfl rfl) rfl rfl Kp.true (by first | exact Y.loadO 12 rfl Try.isAgg3 rfl rfl rfl | exact Y.loadO 14 rfl Try.isAgg3 rfl rfl rfl | exact Y.loadC 11 rfl Try.isAgg3 rfl rfl (HasC.pt hcA) | exact Y.loadC 13 rfl Try.isAgg3 rfl rfl (HasC.pt hcB) | exact Y.loadC 11 rfl Try.isAgg3 rfl rfl (HasC.pt hcC)) ?_
    refine Jp.y 66 rfl (want_as rfl rfl rfl rfl) rfl rfl Kp.true (Y.eql rfl rfl rfl) ?_
    refine Jp.y 67 rfl (want_all rfl) rfl rfl Kp.true (Y.pickT rfl rfl rfl) ?_
    refine Jp.y 68 rfl (want_all rfl) rfl rfl Kp.true (Y.move rfl rfl) ?_
    refine Jp.splitF 68 rfl (fun g68 => ?_) (fun g68 => ?_)
    · skip
      exact absurd g68 (by simp [noEv])
    try simp only [decide_eq_false_iff_not, decide_eq_true_eq, Int.not_lt, Int.not_le, Bool.not_eq_false, Bool.not_eq_true, Bool.not_true, Bool.not_false, Bool.not_eq_true', Bool.not_eq_false', beq_eq_false_iff_ne, ne_eq, beq_iff_eq, bne_iff_ne, bne_eq_false_iff_eq, Classical.not_not] at g68
    refine Jp.y 69 rfl (want_as rfl rfl rfl rfl) rfl rfl Kp.true (by first | exact Y.fieldAddrP rfl rfl Try.underlying32 rfl Try.sizeOf25 (by decide) (show _ + 32 = _ from rfl) | exact Y.fieldAddr rfl rfl Try.underlying32 rfl Try.sizeOf25 (by decide)) ?_
    refine Jp.y 70 rfl (want_as rfl rfl rfl rfl) rfl rfl Kp.true (by first | exact Y.loadO 12 rfl Try.isAgg25 rfl rfl rfl | exact Y.loadO 14 rfl Try.isAgg25 rfl rfl rfl | exact Y.loadC 11 rfl Try.isAgg25 rfl rfl (HasC.pt hcA) | exact Y.loadC 13 rfl Try.isAgg25 rfl rfl (HasC.pt hcB) | exact Y.loadC 11 rfl Try.isAgg25 rfl rfl (HasC.pt hcC)) ?_
    rcases htt with ⟨rfl, rfl⟩ | ⟨rfl, rfl⟩
    · skip
      refine Jp.y 71 rfl (want_as rfl rfl rfl rfl) rfl rfl Kp.true (Y.eql rfl rfl rfl) ?_
      refine Jp.slot 71 rfl (show _ = Value.bool true from rfl) ?_
      refine Jp.y 72 rfl (want_as rfl rfl rfl rfl) rfl rfl Kp.true (Y.move rfl rfl) ?_
      refine Jp.y 73 rfl (want_as rfl rfl rfl rfl) rfl rfl Kp.true (by first | exact Y.fieldAddrP rfl rfl Try.underlying32 rfl Try.sizeOf25 (by decide) (show _ + 32 = _ from rfl) | exact Y.fieldAddr rfl rfl Try.underlying32 rfl Try.sizeOf25 (by decide)) ?_
      refine Jp.y 74 rfl (want_as rfl rfl rfl rfl) rfl rfl Kp.true (by first | exact Y.loadO 12 rfl Try.isAgg25 rfl rfl rfl | exact Y.loadO 14 rfl Try.isAgg25 rfl rfl rfl | exact Y.loadC 11 rfl Try.isAgg25 rfl rfl (HasC.pt hcA) | exact Y.loadC 13 rfl Try.isAgg25 rfl rfl (HasC.pt hcB) | exact Y.loadC 11 rfl Try.isAgg25 rfl rfl (HasC.pt hcC)) ?_
      refine Jp.y 75 rfl (want_as rfl rfl rfl rfl) rfl rfl Kp.true (Y.eql rfl rfl rfl) ?_
      refine Jp.y 76 rfl (want_as rfl rfl rfl rfl) rfl rfl Kp.true (Y.pickT rfl rfl rfl) ?_
      refine Jp.y 77 rfl (want_as rfl rfl rfl rfl) rfl rfl Kp.true (Y.move rfl rfl) ?_
      refine Jp.splitF 77 rfl (fun g77 => ?_) (fun g77 => ?_)
      · skip
        exact absurd g77 (by simp [noEv])
      try simp only [decide_eq_false_iff_not, decide_eq_true_eq, Int.not_lt, Int.not_le, Bool.not_eq_false, Bool.not_eq_true, Bool.not_true, Bool.not_false, Bool.not_eq_true', Bool.not_eq_false', beq_eq_false_iff_ne, ne_eq, beq_iff_eq, bne_iff_ne, bne_eq_false_iff_eq, Classical.not_not] at g77
      refine Jp.skip 78 rfl (want_as rfl rfl rfl rfl) rfl rfl Kp.true ?_
      refine Jp.skip 79 rfl (want_as rfl rfl rfl rfl) rfl rfl Kp.true ?_
      refine Jp.skip 80 rfl (want_as rfl rfl rfl rfl) rfl rfl Kp.true ?_
      refine Jp.skip 81 rfl (want_as rfl rfl rfl rfl) rfl rfl Kp.true ?_
      refine Jp.skip 82 rfl (want_un rfl rfl rfl) rfl rfl Kp.true ?_
      refine Jp.skip 83 rfl (want_un rfl rfl rfl) rfl rfl Kp.true ?_
      refine Jp.skip 84 rfl (want_un rfl rfl rfl) rfl rfl Kp.true ?_
      refine Jp.skip 85 rfl (want_as rfl rfl rfl rfl) rfl rfl Kp.true ?_
      refine Jp.y 86 rfl (want_as rfl rfl rfl rfl) rfl rfl Kp.true (Y.pickT rfl rfl rfl) ?_
      refine Jp.y 87 rfl (want_all rfl) rfl rfl Kp.true (Y.pickT rfl rfl rfl) ?_
      refine Jp.y 88 rfl (want_all rfl) rfl rfl Kp.true (Y.move rfl rfl) ?_
      refine Jp.y 89 rfl (want_as rfl rfl rfl rfl) rfl rfl Kp.true (by first | exact Y.fieldAddrP rfl rfl Try.underlying32 rfl Try.sizeOf30 (by decide) (show _ + 0 = _ from rfl) | exact Y.fieldAddr rfl rfl Try.underlying32 rfl Try.sizeOf30 (by decide)) ?_
      refine Jp.y 90 rfl (want_as rfl rfl rfl rfl) rfl rfl Kp.true (Y.loadAggC 11 (natsV .u32 (brX a b)) rfl Try.isAgg30 Try.sizeOf30 rfl rfl rfl (StP.cellsX rfl)) ?_
      refine Jp.y 91 rfl (want_as rfl rfl rfl rfl) rfl rfl Kp.true (by first | exact Y.fieldAddrP rfl rfl Try.underlying32 rfl Try.sizeOf30 (by decide) (show _ + 0 = _ from rfl) | exact Y.fieldAddr rfl rfl Try.underlying32 rfl Try.sizeOf30 (by decide)) ?_
      refine Jp.y 92 rfl (want_as rfl rfl rfl rfl) rfl rfl Kp.true (Y.loadAggC 10 (natsV .u32 (brX a b)) rfl Try.isAgg30 Try.sizeOf30 rfl rfl rfl (StP.cellsX rfl)) ?_
      refine Jp.y 93 rfl (want_as rfl rfl rfl rfl) rfl rfl Kp.true (Y.eqlV (xs := (natsV .u32 (brX a b)).toArray) (ys := (natsV .u32 (brX a b)).toArray) (r := decide (brX a b = brX a b)) rfl rfl rfl x32_guard (x32_eq rfl rfl)) ?_
      refine Jp.y 94 rfl (want_all rfl) rfl rfl Kp.true (Y.pickT rfl rfl rfl) ?_
      refine Jp.y 95 rfl (want_all rfl) rfl rfl Kp.true (Y.move rfl rfl) ?_
      refine Jp.splitF 95 rfl (fun g95 => ?_) (fun g95 => ?_)
      · skip
        exact absurd g95 (by simp [noEv])
      try simp only [decide_eq_false_iff_not, decide_eq_true_eq, Int.not_lt, Int.not_le, Bool.not_eq_false, Bool.not_eq_true, Bool.not_true, Bool.not_false, Bool.not_eq_true', Bool.not_eq_false', beq_eq_false_iff_ne, ne_eq, beq_iff_eq, bne_iff_ne, bne_eq_false_iff_eq, Classical.not_not] at g95
      refine Jp.y 96 rfl (want_as rfl rfl rfl rfl) rfl rfl Kp.true (by first | exact Y.fieldAddrP rfl rfl Try.underlying32 rfl Try.sizeOf2 (by decide) (show _ + 33 = _ from rfl) | exact Y.fieldAddr rfl rfl Try.underlying32 rfl Try.sizeOf2 (by decide)) ?_
      refine Jp.y 97 rfl (want_as rfl rfl rfl rfl) rfl rfl Kp.true (by first | exact Y.loadO 12 rfl Try.isAgg2 rfl rfl rfl | exact Y.loadO 14 rfl Try.isAgg2 rfl rfl rfl | exact Y.loadC 11 rfl Try.isAgg2 rfl rfl (HasC.pt hcA) | exact Y.loadC 13 rfl Try.isAgg2 rfl rfl (HasC.pt hcB) | exact Y.loadC 11 rfl Try.isAgg2 rfl rfl (HasC.pt hcC)) ?_
      refine Jp.y 98 rfl (want_as rfl rfl rfl rfl) rfl rfl Kp.true (Y.eql rfl rfl rfl) ?_
      refine Jp.y 99 rfl (want_all rfl) rfl rfl Kp.true (Y.pickT rfl rfl rfl) ?_
      refine Jp.y 6 rfl (want_all rfl) rfl rfl Kp.true (Y.assign rfl rfl) ?_
      refine Jp.done hK17 ?_
      refine Cd.ret [] rfl (res1 rfl rfl) trivial ⟨by simp, rfl⟩
    · skip
      refine Jp.y 71 rfl (want_as rfl rfl rfl rfl) rfl rfl Kp.true (Y.eql rfl rfl rfl) ?_
      refine Jp.slot 71 rfl (show _ = Value.bool false from rfl) ?_
      refine Jp.y 72 rfl (want_as rfl rfl rfl rfl) rfl rfl Kp.true (Y.move rfl rfl) ?_
      refine Jp.skip 73 rfl (want_as rfl rfl rfl rfl) rfl rfl Kp.true ?_
      refine Jp.skip 74 rfl (want_as rfl rfl rfl rfl) rfl rfl Kp.true ?_
      refine Jp.skip 75 rfl (want_as rfl rfl rfl rfl) rfl rfl Kp.true ?_
      refine Jp.y 76 rfl (want_as rfl rfl rfl rfl) rfl rfl Kp.true (Y.pickF rfl rfl rfl) ?_
      refine Jp.y 77 rfl (want_as rfl rfl rfl rfl) rfl rfl Kp.true (Y.move rfl rfl) ?_
      refine Jp.y 78 rfl (want_as rfl rfl rfl rfl) rfl rfl Kp.true (by first | exact Y.fieldAddrP rfl rfl Try.underlying32 rfl Try.sizeOf25 (by decide) (show _ + 32 = _ from rfl) | exact Y.fieldAddr rfl rfl Try.underlying32 rfl Try.sizeOf25 (by decide)) ?_
      refine Jp.y 79 rfl (want_as rfl rfl rfl rfl) rfl rfl Kp.true (by first | exact Y.loadO 12 rfl Try.isAgg25 rfl rfl rfl | exact Y.loadO 14 rfl Try.isAgg25 rfl rfl rfl | exact Y.loadC 11 rfl Try.isAgg25 rfl rfl (HasC.pt hcA) | exact Y.loadC 13 rfl Try.isAgg25 rfl rfl (HasC.pt hcB) | exact Y.loadC 11 rfl Try.isAgg25 rfl rfl (HasC.pt hcC)) ?_
      refine Jp.y 80 rfl (want_as rfl rfl rfl rfl) rfl rfl Kp.true (Y.eql rfl rfl rfl) ?_
      refine Jp.y 81 rfl (want_as rfl rfl rfl rfl) rfl rfl Kp.true (Y.move rfl rfl) ?_
      refine Jp.splitF 81 rfl (fun g81 => ?_) (fun g81 => ?_)
      · skip
        exact absurd g81 (by simp [noEv])
      try simp only [decide_eq_false_iff_not, decide_eq_true_eq, Int.not_lt, Int.not_le, Bool.not_eq_false, Bool.not_eq_true, Bool.not_true, Bool.not_false, Bool.not_eq_true', Bool.not_eq_false', beq_eq_false_iff_ne, ne_eq, beq_iff_eq, bne_iff_ne, bne_eq_false_iff_eq, Classical.not_not] at g81
      refine Jp.y 82 rfl (want_as rfl rfl rfl rfl) rfl rfl Kp.true (by first | exact Y.fieldAddrP rfl rfl Try.underlying32 rfl Try.sizeOf25 (by decide) (show _ + 32 = _ from rfl) | exact Y.fieldAddr rfl rfl Try.underlying32 rfl Try.sizeOf25 (by decide)) ?_
      refine Jp.y 83 rfl (want_as rfl rfl rfl rfl) rfl rfl Kp.true (by first | exact Y.loadO 12 rfl Try.isAgg25 rfl rfl rfl | exact Y.loadO 14 rfl Try.isAgg25 rfl rfl rfl | exact Y.loadC 11 rfl Try.isAgg25 rfl rfl (HasC.pt hcA) | exact Y.loadC 13 rfl Try.isAgg25 rfl rfl (HasC.pt hcB) | exact Y.loadC 11 rfl Try.isAgg25 rfl rfl (HasC.pt hcC)) ?_
      refine Jp.y 84 rfl (want_as rfl rfl rfl rfl) rfl rfl Kp.true (Y.eql rfl rfl rfl) ?_
      refine Jp.y 85 rfl (want_as rfl rfl rfl rfl) rfl rfl Kp.true (Y.pickT rfl rfl rfl) ?_
      refine Jp.y 86 rfl (want_as rfl rfl rfl rfl) rfl rfl Kp.true (Y.pickF rfl rfl rfl) ?_
      refine Jp.y 87 rfl (want_all rfl) rfl rfl Kp.true (Y.pickT rfl rfl rfl) ?_
      refine Jp.y 88 rfl (want_all rfl) rfl rfl Kp.true (Y.move rfl rfl) ?_
      refine Jp.splitF 88 rfl (fun g88 => ?_) (fun g88 => ?_)
      · skip
        exact absurd g88 (by simp [noEv])
      try simp only [decide_eq_false_iff_not, decide_eq_true_eq, Int.not_lt, Int.not_le, Bool.not_eq_false, Bool.not_eq_true, Bool.not_true, Bool.not_false, Bool.not_eq_true', Bool.not_eq_false', beq_eq_false_iff_ne, ne_eq, beq_iff_eq, bne_iff_ne, bne_eq_false_iff_eq, Classical.not_not] at g88
      refine Jp.y 89 rfl (want_as rfl rfl rfl rfl) rfl rfl Kp.true (by first | exact Y.fieldAddrP rfl rfl Try.underlying32 rfl Try.sizeOf30 (by decide) (show _ + 0 = _ from rfl) | exact Y.fieldAddr rfl rfl Try.underlying32 rfl Try.sizeOf30 (by decide)) ?_
      refine Jp.y 90 rfl (want_as rfl rfl rfl rfl) rfl rfl Kp.true (Y.loadAggC 11 (natsV .u32 (brX a b)) rfl Try.isAgg30 Try.sizeOf30 rfl rfl rfl (StP.cellsX rfl)) ?_
      refine Jp.y 91 rfl (want_as rfl rfl rfl rfl) rfl rfl Kp.true (by first | exact Y.fieldAddrP rfl rfl Try.underlying32 rfl Try.sizeOf30 (by decide) (show _ + 0 = _ from rfl) | exact Y.fieldAddr rfl rfl Try.underlying32 rfl Try.sizeOf30 (by decide)) ?_
      refine Jp.y 92 rfl (want_as rfl rfl rfl rfl) rfl rfl Kp.true (Y.loadAggC 10 (natsV .u32 (brX a b)) rfl Try.isAgg30 Try.sizeOf30 rfl rfl rfl (StP.cellsX rfl)) ?_
      refine Jp.y 93 rfl (want_as rfl rfl rfl rfl) rfl rfl Kp.true (Y.eqlV (xs := (natsV .u32 (brX a b)).toArray) (ys := (natsV .u32 (brX a b)).toArray) (r := decide (brX a b = brX a b)) rfl rfl rfl x32_guard (x32_eq rfl rfl)) ?_
      refine Jp.y 94 rfl (want_all rfl) rfl rfl Kp.true (Y.pickT rfl rfl rfl) ?_
      refine Jp.y 95 rfl (want_all rfl) rfl rfl Kp.true (Y.move rfl rfl) ?_
      refine Jp.splitF 95 rfl (fun g95 => ?_) (fun g95 => ?_)
      · skip
        exact absurd g95 (by simp [noEv])
      try simp only [decide_eq_false_iff_not, decide_eq_true_eq, Int.not_lt, Int.not_le, Bool.not_eq_false, Bool.not_eq_true, Bool.not_true, Bool.not_false, Bool.not_eq_true', Bool.not_eq_false', beq_eq_false_iff_ne, ne_eq, beq_iff_eq, bne_iff_ne, bne_eq_false_iff_eq, Classical.not_not] at g95
      refine Jp.y 96 rfl (want_as rfl rfl rfl rfl) rfl rfl Kp.true (by first | exact Y.fieldAddrP rfl rfl Try.underlying32 rfl Try.sizeOf2 (by decide) (show _ + 33 = _ from rfl) | exact Y.fieldAddr rfl rfl Try.underlying32 rfl Try.sizeOf2 (by decide)) ?_
      refine Jp.y 97 rfl (want_as rfl rfl rfl rfl) rfl rfl Kp.true (by first | exact Y.loadO 12 rfl Try.isAgg2 rfl rfl rfl | exact Y.loadO 14 rfl Try.isAgg2 rfl rfl rfl | exact Y.loadC 11 rfl Try.isAgg2 rfl rfl (HasC.pt hcA) | exact Y.loadC 13 rfl Try.isAgg2 rfl rfl (HasC.pt hcB) | exact Y.loadC 11 rfl Try.isAgg2 rfl rfl (HasC.pt hcC)) ?_
      refine Jp.y 98 rfl (want_as rfl rfl rfl rfl) rfl rfl Kp.true (Y.eql rfl rfl rfl) ?_
      refine Jp.y 99 rfl (want_all rfl) rfl rfl Kp.true (Y.pickT rfl rfl rfl) ?_
      refine Jp.y 6 rfl (want_all rfl) rfl rfl Kp.true (Y.assign rfl rfl) ?_
      refine Jp.done hK17 ?_
      refine Cd.ret [] rfl (res1 rfl rfl) trivial ⟨by simp, rfl⟩
  · skip
    refine Cd.cond rfl (fun ga => ?_) (fun ga => ?_)
    · have hod : (op - 5) % 2 = 1 := by simp at ga; omega
      refine Cd.plain [(0, false), (1, false), (2, false)] rfl rfl ?_
      refine Jp.y 29 rfl (want_all rfl) rfl rfl Kp.true (Y.move rfl rfl) ?_
      refine Jp.y 30 rfl (want_all rfl) rfl rfl Kp.true (Y.sub_ rfl rfl rfl (by first | exact wrap_i64 (by omega) (by omega) | rfl)) ?_
      refine Jp.y 7 rfl (want_all rfl) rfl rfl Kp.true (Y.assign rfl rfl) ?_
      refine Jp.done hK9 ?_
      refine Cd.slot 7 rfl (show _ = Value.int .i64 (brOther op : Int) from congrArg (Value.int .i64) (by unfold brOther; rw [if_pos hod]; omega)) ?_
      exact Cd.meet (hj1 () trivial) ⟨rfl, rfl, rfl, rfl, trivial⟩ trivial
    · have hod : ¬ (op - 5) % 2 = 1 := by simp at ga; omega
      refine Cd.skip hK9 ?_
      refine Cd.slot 7 rfl (show _ = Value.int .i64 (brOther op : Int) from congrArg (Value.int .i64) (by unfold brOther; rw [if_neg hod]; omega)) ?_
      exact Cd.meet (hj1 () trivial) ⟨rfl, rfl, rfl, rfl, trivial⟩ trivial
end Go.Proofs.Ytkjeidoplonkjaa
