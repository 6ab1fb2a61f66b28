/- Contracts of law10: awake. -/
import Derived.Test.YtgfbdiibndbbjaaStackC
set_option linter.unusedVariables false
set_option linter.unusedSimpArgs false
set_option maxRecDepth 100000
namespace Go.Proofs.Ytgfbdiibndbbjaa
open Go
theorem lay_getS {p : Bytes} {k i : Nat} {b : Bytes} (h : k + b.length ≤ p.length) : (lay p k b)[i]? = if k ≤ i ∧ i < k + b.length then b[i - k]? else p[i]? := by
  have h1 : (p.take k).length = k := by rw [List.length_take]; omega
  rw [lay]
  by_cases hi : i < k
  · rw [if_neg (by omega), List.append_assoc, List.getElem?_append_left (by omega), List.getElem?_take_of_lt hi]
  · by_cases hj : i < k + b.length
    · rw [if_pos (by omega), List.getElem?_append_left (by rw [List.length_append]; omega), List.getElem?_append_right (by omega), h1]
    · rw [if_neg (by omega), List.getElem?_append_right (by rw [List.length_append]; omega), List.length_append, h1, List.getElem?_drop]
      congr 1; omega
theorem build_nil : ∃ pg : Bytes, pg.length = 4096 ∧ buildP [] = ⟨pg, 2147479536, [], 0⟩ := by
  refine ⟨pageP [] 0, ?_, rfl⟩
  rw [pageP, lay_length, lay_length] <;> simp only [lay_length, noughts_length, vecP_len, at0P, textP, spP, List.flatMap_nil, List.length_nil] <;> decide
theorem build_a : ∃ pg : Bytes, pg.length = 4096 ∧ pg[4094]? = some 97 ∧ buildP [[97]] = ⟨pg, 2147479520, [(2147479550, 1)], 0⟩ := by
  have e1 : textP [[97]] = [97, 0] := rfl
  have e2 : at0P [[97]] = 4094 := rfl
  have e3 : spP [[97]] = 4064 := rfl
  have h1 : (lay noughts 4094 [97, 0]).length = 4096 := by rw [lay_length] <;> rw [noughts_length] <;> decide
  refine ⟨pageP [[97]] 1, ?_, ?_, rfl⟩
  · rw [pageP, e1, e2, e3, lay_length, h1]; rw [h1, vecP_len]; decide
  · rw [pageP, e1, e2, e3, lay_getS (by rw [h1, vecP_len]; decide), if_neg (by rw [vecP_len]; decide), lay_getS (by rw [noughts_length]; decide), if_pos (by decide)]; rfl
theorem Y.aggeql {P : Program} {n : Nat} {cx : Cx} {ρ : Hp} {E : Env} {L : Own} {o : Oper} {x y : Operand} {t u : TypeId} {a b : Value} {r : Bool} (hop : o.op = .binOp .eql t x y u) (hx : evE E x = some a) (hy : evE E y = some b)
    (hg : ∀ w, (eqGuard .eql t x y a b).run P w = .ok () w) (hr : ∀ w, (Op.equal t a b).run P w = .ok r w) (hne : ∃ cs ds, a = .agg cs ∧ b = .agg ds) : Y P n cx ρ E L o (.bool r) := fun ac w ha _ => by
  obtain ⟨cs, ds, rfl, rfl⟩ := hne
  simp only [execOp, hop, ha.ev hx, ha.ev hy, Sem.run_bind, hg, Result.andThen_ok, binOp, hr, Sem.run_pure]
theorem eq32 : ∀ w, (Op.equal 32 (.agg #[.int .u32 2147479550, .int .i64 1]) (.agg #[.int .u32 2147479550, .int .i64 1])).run Try.prog w = .ok true w := fun w => by kernel_rfl
theorem f15_spec : Spec Try.prog 15 #[] (fun _ => True) [] (fun ρ ρ' v L => v = .bool true ∧ L = []) := by
  refine Spec.of 73 Try.func15 rfl Try.ntmps15 [] rfl rfl ?_
  intro cx ρ hr h0
  refine Cd.seq fun K1 hK1 => ?_
  refine Cd.plain [(0, false)] rfl rfl ?_
  refine Jp.y 0 rfl (want_all rfl) rfl rfl Kp.true (Y.assign rfl rfl) ?_
  refine Jp.done hK1 ?_
  refine Cd.seq fun K2 hK2 => ?_
  refine Cd.plain [(0, false), (1, false), (2, false), (3, false), (4, false), (5, false), (6, false), (7, false), (8, false), (9, false)] rfl rfl ?_
  refine Jp.call [] [0, 1] (f17_spec ⟨none, 0, []⟩ (by simp) (by simp)) 10 rfl (want_all rfl) rfl rfl (Runs.fn rfl Try.call17 rfl) (by decide) (by decide) rfl (RdS.nil 1 _) ?_
  rintro v1 ρ1 L1 ⟨rfl, A1, c1, B1, d1, q1, e1, rfl, rfl⟩
  refine ⟨rfl, fun hle1 => ⟨Kp.true, ?_⟩⟩
  obtain ⟨pg1, hl1, e1'⟩ := build_nil
  obtain rfl := e1.symm.trans e1'
  dsimp only
  rw [hl1]
  refine Jp.y 9 rfl (want_all rfl) rfl rfl Kp.true (Y.move rfl rfl) ?_
  refine Jp.y 11 rfl (want_all rfl) rfl rfl Kp.true (Y.extract rfl rfl rfl) ?_
  refine Jp.y 12 rfl (want_all rfl) rfl rfl Kp.true (Y.extract rfl rfl rfl) ?_
  refine Jp.y 13 rfl (want_all rfl) rfl rfl Kp.true (Y.extract rfl rfl rfl) ?_
  refine Jp.y 14 rfl (want_all rfl) rfl rfl Kp.true (Y.extract rfl rfl rfl) ?_
  refine Jp.y 1 rfl (want_all rfl) rfl rfl Kp.true (Y.assign rfl rfl) ?_
  refine Jp.y 2 rfl (want_all rfl) rfl rfl Kp.true (Y.assign rfl rfl) ?_
  refine Jp.y 3 rfl (want_all rfl) rfl rfl Kp.true (Y.assign rfl rfl) ?_
  refine Jp.y 4 rfl (want_all rfl) rfl rfl Kp.true (Y.assign rfl rfl) ?_
  refine Jp.done hK2 ?_
  refine Cd.seq fun K3 hK3 => ?_
  refine Cd.plain [(0, false), (1, false), (2, false), (3, false), (4, false), (5, false), (6, false), (7, false), (8, false), (9, false), (10, false)] rfl rfl ?_
  refine Jp.lit 16 2 [(0, _)] [_] rfl (want_all rfl) rfl rfl rfl rfl Try.underlying22 Try.sizeOf9 Try.zeroValue9 rfl rfl rfl rfl rfl fun b2 => ⟨Kp.true, ?_⟩
  refine Jp.freeze (i := 2) rfl (OwnS.up _ _ _ _ _ _) fun ρ3 l3 q3 => ?_
  refine Jp.call [] [3, 4] (f17_spec ⟨some ⟨b2, 0, none⟩, 1, [⟨#[97]⟩]⟩ (by simp) (by intro a ha; simp at ha; subst ha; decide)) 17 rfl (want_all rfl) rfl rfl (Runs.fn rfl Try.call17 rfl) (by decide) (by decide) rfl q3.rd ?_
  rintro v4 ρ4 L4 ⟨rfl, A4, c4, B4, d4, q4, e4, rfl, rfl⟩
  refine ⟨rfl, fun hle4 => ⟨Kp.true, ?_⟩⟩
  obtain ⟨pg4, hl4, hx4, e4'⟩ := build_a
  obtain rfl := e4.symm.trans e4'
  dsimp only
  rw [hl4]
  refine Jp.ownAt 3 rfl (by decide) ?_
  rintro b3 rfl
  refine Jp.ownAt 4 rfl (by decide) ?_
  rintro b4 rfl
  have hx5 : (bytesV pg4)[4094]? = some (.int .u8 97) := by rw [bytesV, List.getElem?_map, hx4]; rfl
  refine Jp.y 15 rfl (want_all rfl) rfl rfl Kp.true (Y.move rfl rfl) ?_
  refine Jp.y 18 rfl (want_all rfl) rfl rfl Kp.true (Y.extract rfl rfl rfl) ?_
  refine Jp.y 19 rfl (want_all rfl) rfl rfl Kp.true (Y.extract rfl rfl rfl) ?_
  refine Jp.y 20 rfl (want_all rfl) rfl rfl Kp.true (Y.extract rfl rfl rfl) ?_
  refine Jp.y 21 rfl (want_all rfl) rfl rfl Kp.true (Y.extract rfl rfl rfl) ?_
  refine Jp.y 5 rfl (want_all rfl) rfl rfl Kp.true (Y.assign rfl rfl) ?_
  refine Jp.y 6 rfl (want_all rfl) rfl rfl Kp.true (Y.assign rfl rfl) ?_
  refine Jp.y 7 rfl (want_all rfl) rfl rfl Kp.true (Y.assign rfl rfl) ?_
  refine Jp.y 8 rfl (want_all rfl) rfl rfl Kp.true (Y.assign rfl rfl) ?_
  refine Jp.done hK3 ?_
  refine Cd.seq fun K4 hK4 => ?_
  refine Cd.plain [(0, false), (1, false), (2, false), (3, false), (4, false), (5, false), (6, false), (7, false), (8, false), (9, false), (10, false), (11, false), (12, false), (13, false), (14, false), (15, false), (16, false), (17, false), (18, false), (19, false), (20, false), (21, false), (22, false), (23, false), (24, false), (25, false), (26, false), (27, false), (28, false), (29, false), (30, false), (31, false), (32, false), (33, false), (34, false), (35, false), (36, false), (37, false), (38, false), (39, false), (40, false), (41, false), (42, false), (43, false), (44, false), (45, false), (46, false), (47, false), (48, false), (49, false), (50, false), (51, false)] rfl rfl ?_
  refine Jp.y 22 rfl (want_all rfl) rfl rfl Kp.true (Y.move rfl rfl) ?_
  refine Jp.y 23 rfl (want_all rfl) rfl rfl Kp.true (Y.eql rfl rfl rfl) ?_
  refine Jp.y 24 rfl (want_all rfl) rfl rfl Kp.true (Y.move rfl rfl) ?_
  refine Jp.splitF 24 rfl (fun g24 => ?_) (fun g24 => ?_)
  · skip
    exact absurd g24 (by simp)
  try simp only [decide_eq_false_iff_not, decide_eq_true_eq, Int.not_lt, Int.not_le, Bool.not_eq_false, Bool.not_eq_true, Bool.not_true, Bool.not_false, Bool.not_eq_true', Bool.not_eq_false', beq_eq_false_iff_ne, ne_eq, beq_iff_eq, bne_iff_ne, bne_eq_false_iff_eq, Classical.not_not] at g24
  refine Jp.y 25 rfl (want_as rfl rfl rfl rfl) rfl rfl Kp.true (Y.move rfl rfl) ?_
  refine Jp.y 26 rfl (want_as rfl rfl rfl rfl) rfl rfl Kp.true (Y.lenslice rfl Try.underlying25 rfl) ?_
  refine Jp.y 27 rfl (want_as rfl rfl rfl rfl) rfl rfl Kp.true (Y.eql rfl rfl rfl) ?_
  refine Jp.y 28 rfl (want_all rfl) rfl rfl Kp.true (Y.pickT rfl rfl rfl) ?_
  refine Jp.y 29 rfl (want_all rfl) rfl rfl Kp.true (Y.move rfl rfl) ?_
  refine Jp.splitF 29 rfl (fun g29 => ?_) (fun g29 => ?_)
  · skip
    exact absurd g29 (by simp)
  try simp only [decide_eq_false_iff_not, decide_eq_true_eq, Int.not_lt, Int.not_le, Bool.not_eq_false, Bool.not_eq_true, Bool.not_true, Bool.not_false, Bool.not_eq_true', Bool.not_eq_false', beq_eq_false_iff_ne, ne_eq, beq_iff_eq, bne_iff_ne, bne_eq_false_iff_eq, Classical.not_not] at g29
  refine Jp.y 30 rfl (want_as rfl rfl rfl rfl) rfl rfl Kp.true (Y.move rfl rfl) ?_
  refine Jp.y 31 rfl (want_as rfl rfl rfl rfl) rfl rfl Kp.true (Y.eql rfl rfl rfl) ?_
  refine Jp.y 32 rfl (want_all rfl) rfl rfl Kp.true (Y.pickT rfl rfl rfl) ?_
  refine Jp.y 33 rfl (want_all rfl) rfl rfl Kp.true (Y.move rfl rfl) ?_
  refine Jp.splitF 33 rfl (fun g33 => ?_) (fun g33 => ?_)
  · skip
    exact absurd g33 (by simp)
  try simp only [decide_eq_false_iff_not, decide_eq_true_eq, Int.not_lt, Int.not_le, Bool.not_eq_false, Bool.not_eq_true, Bool.not_true, Bool.not_false, Bool.not_eq_true', Bool.not_eq_false', beq_eq_false_iff_ne, ne_eq, beq_iff_eq, bne_iff_ne, bne_eq_false_iff_eq, Classical.not_not] at g33
  refine Jp.y 34 rfl (want_as rfl rfl rfl rfl) rfl rfl Kp.true (Y.move rfl rfl) ?_
  refine Jp.y 35 rfl (want_as rfl rfl rfl rfl) rfl rfl Kp.true (Y.lenslice rfl Try.underlying27 rfl) ?_
  refine Jp.y 36 rfl (want_as rfl rfl rfl rfl) rfl rfl Kp.true (Y.eql rfl rfl rfl) ?_
  refine Jp.y 37 rfl (want_all rfl) rfl rfl Kp.true (Y.pickT rfl rfl rfl) ?_
  refine Jp.y 38 rfl (want_all rfl) rfl rfl Kp.true (Y.move rfl rfl) ?_
  refine Jp.splitF 38 rfl (fun g38 => ?_) (fun g38 => ?_)
  · skip
    exact absurd g38 (by simp)
  try simp only [decide_eq_false_iff_not, decide_eq_true_eq, Int.not_lt, Int.not_le, Bool.not_eq_false, Bool.not_eq_true, Bool.not_true, Bool.not_false, Bool.not_eq_true', Bool.not_eq_false', beq_eq_false_iff_ne, ne_eq, beq_iff_eq, bne_iff_ne, bne_eq_false_iff_eq, Classical.not_not] at g38
  refine Jp.y 39 rfl (want_as rfl rfl rfl rfl) rfl rfl Kp.true (Y.move rfl rfl) ?_
  refine Jp.y 40 rfl (want_as rfl rfl rfl rfl) rfl rfl Kp.true (Y.eql rfl rfl rfl) ?_
  refine Jp.y 41 rfl (want_all rfl) rfl rfl Kp.true (Y.pickT rfl rfl rfl) ?_
  refine Jp.y 42 rfl (want_all rfl) rfl rfl Kp.true (Y.move rfl rfl) ?_
  refine Jp.splitF 42 rfl (fun g42 => ?_) (fun g42 => ?_)
  · skip
    exact absurd g42 (by simp)
  try simp only [decide_eq_false_iff_not, decide_eq_true_eq, Int.not_lt, Int.not_le, Bool.not_eq_false, Bool.not_eq_true, Bool.not_true, Bool.not_false, Bool.not_eq_true', Bool.not_eq_false', beq_eq_false_iff_ne, ne_eq, beq_iff_eq, bne_iff_ne, bne_eq_false_iff_eq, Classical.not_not] at g42
  refine Jp.y 43 rfl (want_as rfl rfl rfl rfl) rfl rfl Kp.true (Y.move rfl rfl) ?_
  refine Jp.y 44 rfl (want_as rfl rfl rfl rfl) rfl rfl Kp.true (Y.eql rfl rfl rfl) ?_
  refine Jp.y 45 rfl (want_all rfl) rfl rfl Kp.true (Y.pickT rfl rfl rfl) ?_
  refine Jp.y 46 rfl (want_all rfl) rfl rfl Kp.true (Y.move rfl rfl) ?_
  refine Jp.splitF 46 rfl (fun g46 => ?_) (fun g46 => ?_)
  · skip
    exact absurd g46 (by simp)
  try simp only [decide_eq_false_iff_not, decide_eq_true_eq, Int.not_lt, Int.not_le, Bool.not_eq_false, Bool.not_eq_true, Bool.not_true, Bool.not_false, Bool.not_eq_true', Bool.not_eq_false', beq_eq_false_iff_ne, ne_eq, beq_iff_eq, bne_iff_ne, bne_eq_false_iff_eq, Classical.not_not] at g46
  refine Jp.y 47 rfl (want_as rfl rfl rfl rfl) rfl rfl Kp.true (Y.move rfl rfl) ?_
  refine Jp.y 48 rfl (want_as rfl rfl rfl rfl) rfl rfl Kp.true (Y.lenslice rfl Try.underlying27 rfl) ?_
  refine Jp.y 49 rfl (want_as rfl rfl rfl rfl) rfl rfl Kp.true (Y.eql rfl rfl rfl) ?_
  refine Jp.y 50 rfl (want_all rfl) rfl rfl Kp.true (Y.pickT rfl rfl rfl) ?_
  refine Jp.y 51 rfl (want_all rfl) rfl rfl Kp.true (Y.move rfl rfl) ?_
  refine Jp.splitF 51 rfl (fun g51 => ?_) (fun g51 => ?_)
  · skip
    exact absurd g51 (by simp)
  try simp only [decide_eq_false_iff_not, decide_eq_true_eq, Int.not_lt, Int.not_le, Bool.not_eq_false, Bool.not_eq_true, Bool.not_true, Bool.not_false, Bool.not_eq_true', Bool.not_eq_false', beq_eq_false_iff_ne, ne_eq, beq_iff_eq, bne_iff_ne, bne_eq_false_iff_eq, Classical.not_not] at g51
  refine Jp.y 52 rfl (want_as rfl rfl rfl rfl) rfl rfl Kp.true (Y.move rfl rfl) ?_
  refine Jp.y 53 rfl (want_as rfl rfl rfl rfl) rfl rfl Kp.true (Y.indexAddr (q := 0) rfl rfl rfl Try.underlying27 Try.sizeOf32 (by omega) (by omega) (by omega)) ?_
  refine Jp.y 54 rfl (want_as rfl rfl rfl rfl) rfl rfl Kp.true (Y.loadSAgg 4 (q := 0) [.int .u32 2147479550, .int .i64 1] rfl Try.isAgg32 Try.sizeOf32 rfl rfl rfl rfl (fun p v h => by rw [Nat.zero_add]; exact h)) ?_
  refine Jp.y 55 rfl (want_as rfl rfl rfl rfl) rfl rfl Kp.true (Y.struct [(0, _), (1, _)] [_, _] rfl rfl places32 Try.zeroValue32 rfl) ?_
  refine Jp.y 56 rfl (want_as rfl rfl rfl rfl) rfl rfl Kp.true (Y.aggeql rfl rfl rfl (fun w => by kernel_rfl) eq32 ⟨_, _, rfl, rfl⟩) ?_
  refine Jp.y 57 rfl (want_all rfl) rfl rfl Kp.true (Y.pickT rfl rfl rfl) ?_
  refine Jp.y 58 rfl (want_all rfl) rfl rfl Kp.true (Y.move rfl rfl) ?_
  refine Jp.splitF 58 rfl (fun g58 => ?_) (fun g58 => ?_)
  · skip
    exact absurd g58 (by simp)
  try simp only [decide_eq_false_iff_not, decide_eq_true_eq, Int.not_lt, Int.not_le, Bool.not_eq_false, Bool.not_eq_true, Bool.not_true, Bool.not_false, Bool.not_eq_true', Bool.not_eq_false', beq_eq_false_iff_ne, ne_eq, beq_iff_eq, bne_iff_ne, bne_eq_false_iff_eq, Classical.not_not] at g58
  refine Jp.y 59 rfl (want_as rfl rfl rfl rfl) rfl rfl Kp.true (Y.move rfl rfl) ?_
  refine Jp.y 60 rfl (want_as rfl rfl rfl rfl) rfl rfl Kp.true (Y.lenslice rfl Try.underlying25 rfl) ?_
  refine Jp.y 61 rfl (want_as rfl rfl rfl rfl) rfl rfl Kp.true (Y.eql rfl rfl rfl) ?_
  refine Jp.y 62 rfl (want_all rfl) rfl rfl Kp.true (Y.pickT rfl rfl rfl) ?_
  refine Jp.y 63 rfl (want_all rfl) rfl rfl Kp.true (Y.move rfl rfl) ?_
  refine Jp.splitF 63 rfl (fun g63 => ?_) (fun g63 => ?_)
  · skip
    exact absurd g63 (by simp)
  try simp only [decide_eq_false_iff_not, decide_eq_true_eq, Int.not_lt, Int.not_le, Bool.not_eq_false, Bool.not_eq_true, Bool.not_true, Bool.not_false, Bool.not_eq_true', Bool.not_eq_false', beq_eq_false_iff_ne, ne_eq, beq_iff_eq, bne_iff_ne, bne_eq_false_iff_eq, Classical.not_not] at g63
  refine Jp.y 64 rfl (want_as rfl rfl rfl rfl) rfl rfl Kp.true (Y.move rfl rfl) ?_
  refine Jp.y 65 rfl (want_as rfl rfl rfl rfl) rfl rfl Kp.true (Y.indexAddr (q := 4094) rfl rfl rfl Try.underlying25 Try.sizeOf5 (by omega) (by omega) (by omega)) ?_
  refine Jp.y 66 rfl (want_as rfl rfl rfl rfl) rfl rfl Kp.true (Y.loadS 3 (q := 4094) rfl Try.isAgg5 rfl rfl rfl hx5) ?_
  refine Jp.y 67 rfl (want_as rfl rfl rfl rfl) rfl rfl Kp.true (Y.eql rfl rfl rfl) ?_
  refine Jp.y 68 rfl (want_all rfl) rfl rfl Kp.true (Y.pickT rfl rfl rfl) ?_
  refine Jp.y 69 rfl (want_all rfl) rfl rfl Kp.true (Y.move rfl rfl) ?_
  refine Jp.splitF 69 rfl (fun g69 => ?_) (fun g69 => ?_)
  · skip
    exact absurd g69 (by simp)
  try simp only [decide_eq_false_iff_not, decide_eq_true_eq, Int.not_lt, Int.not_le, Bool.not_eq_false, Bool.not_eq_true, Bool.not_true, Bool.not_false, Bool.not_eq_true', Bool.not_eq_false', beq_eq_false_iff_ne, ne_eq, beq_iff_eq, bne_iff_ne, bne_eq_false_iff_eq, Classical.not_not] at g69
  refine Jp.y 70 rfl (want_all rfl) rfl rfl Kp.true (Y.pickT rfl rfl rfl) ?_
  refine Jp.y 71 rfl (want_all rfl) rfl rfl Kp.true (Y.move rfl rfl) ?_
  refine Jp.y 72 rfl (want_all rfl) rfl rfl Kp.true (Y.pickT rfl rfl rfl) ?_
  refine Jp.y 0 rfl (want_all rfl) rfl rfl Kp.true (Y.assign rfl rfl) ?_
  refine Jp.done hK4 ?_
  refine Cd.ret [] rfl (res1 rfl rfl) trivial ⟨rfl, rfl⟩
end Go.Proofs.Ytgfbdiibndbbjaa
