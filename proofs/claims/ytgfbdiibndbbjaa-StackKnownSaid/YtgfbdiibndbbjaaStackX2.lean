/- Several texts of ours in one file. -/
import Derived.Test.YtgfbdiibndbbjaaStackX1
import Derived.Test.YtgfbdiibndbbjaaMemX2
import Derived.Test.YtgfbdiibndbbjaaMemX1
/- Contract: great of law10. -/
set_option linter.unusedVariables false
set_option linter.unusedSimpArgs false
set_option maxRecDepth 100000
namespace Go.Proofs.Ytgfbdiibndbbjaa
open Go
theorem f16_spec (s : Sl ByteArray) : Spec Try.prog 16 #[s.v] (RdStr s) [] (fun ρ ρ' v L => ρ' = ρ ∧ (∃ g, v = .bool g ∧ (g = false → s.xs.length ≤ 20 ∧ ∀ a ∈ s.xs, a.size ≤ 400)) ∧ L = []) := by
  obtain ⟨A, c, xs⟩ := s
  dsimp only [Sl.v]
  refine Spec.of 19 Try.func16 rfl Try.ntmps16 [(0, _)] rfl rfl ?_
  intro cx ρ hr h0
  have ls : xs.length ≤ 281474976710656 := hr.2.1.2
  refine Cd.seq fun K1 hK1 => ?_
  refine Cd.plain [(0, false)] rfl rfl ?_
  refine Jp.y 2 rfl (want_all rfl) rfl rfl Kp.true (Y.assign rfl rfl) ?_
  refine Jp.done hK1 ?_
  refine Cd.seq fun K2 hK2 => ?_
  refine Cd.seq fun K3 hK3 => ?_
  refine Cd.plain [(0, false), (1, false), (2, false)] rfl rfl ?_
  refine Jp.y 4 rfl (want_all rfl) rfl rfl Kp.true (Y.move rfl rfl) ?_
  refine Jp.y 5 rfl (want_all rfl) rfl rfl Kp.true (Y.lenslice rfl Try.underlying22 rfl) ?_
  refine Jp.y 6 rfl (want_all rfl) rfl rfl Kp.true (Y.gtr rfl rfl rfl) ?_
  refine Jp.done hK3 ?_
  refine Cd.cond rfl (fun g6 => ?_) (fun g6 => ?_)
  · skip
    refine Cd.seq fun K4 hK4 => ?_
    refine Cd.plain [(0, false)] rfl rfl ?_
    refine Jp.y 2 rfl (want_all rfl) rfl rfl Kp.true (Y.assign rfl rfl) ?_
    refine Jp.done hK4 ?_
    refine Cd.ret [] rfl (res1 rfl rfl) trivial ⟨rfl, ⟨true, rfl, fun h => by cases h⟩, rfl⟩
  try simp only [decide_eq_false_iff_not, decide_eq_true_eq, Int.not_lt, Int.not_le, Bool.not_eq_false, Bool.not_eq_true, Bool.not_true, Bool.not_false, Bool.not_eq_true', Bool.not_eq_false', beq_eq_false_iff_ne, ne_eq, beq_iff_eq, bne_iff_ne, bne_eq_false_iff_eq, Classical.not_not] at g6
  refine Cd.skip hK2 ?_
  refine Cd.seq fun K5 hK5 => ?_
  refine Cd.seq fun K6 hK6 => ?_
  refine Cd.plain [(0, false)] rfl rfl ?_
  refine Jp.y 3 rfl (want_all rfl) rfl rfl Kp.true (Y.assign rfl rfl) ?_
  refine Jp.done hK6 ?_
  refine Cd.block ?_
  refine Cd.loop (G := Nat) (fun k => k ≤ xs.length ∧ ∀ j x, j < k → xs[j]? = some x → x.size ≤ 400) (fun k => xs.length - k) (fun _ => ρ) (fun k => [(0, .slice A xs.length c), (3, .int .i64 k)]) (fun _ => []) 0 ⟨Nat.zero_le _, fun j x h => by omega⟩ rfl ⟨rfl, rfl, trivial⟩ trivial (fun g KLa hok hLa => ?_)
  obtain ⟨ok1, ok2⟩ := hok
  refine Cd.seq fun K7 hK7 => ?_
  refine Cd.seq fun K8 hK8 => ?_
  refine Cd.plain [(0, false), (1, false), (2, false), (3, false)] rfl rfl ?_
  refine Jp.y 7 rfl (want_all rfl) rfl rfl Kp.true (Y.move rfl rfl) ?_
  refine Jp.y 8 rfl (want_all rfl) rfl rfl Kp.true (Y.move rfl rfl) ?_
  refine Jp.y 9 rfl (want_all rfl) rfl rfl Kp.true (Y.lenslice rfl Try.underlying22 rfl) ?_
  refine Jp.y 10 rfl (want_all rfl) rfl rfl Kp.true (Y.lss rfl rfl rfl) ?_
  refine Jp.done hK8 ?_
  refine Cd.cond rfl (fun ga => ?_) (fun ga => ?_)
  · simp only [decide_eq_true_eq] at ga
    have hg : g < xs.length := by omega
    have hgx : xs[g]? = some xs[g] := by simp [hg]
    obtain ⟨ad, rfl⟩ := hr.some (show 0 < xs.length * 1 by omega)
    have hcell : cellH ρ (ad.add g) = some (.string xs[g]) := hr.cell (by simp [strsV, hg])
    refine Cd.skip hK7 ?_
    refine Cd.seq fun K9 hK9 => ?_
    refine Cd.block ?_
    refine Cd.seq fun K10 hK10 => ?_
    refine Cd.plain [(0, false), (1, false), (2, false), (3, false), (4, false), (5, false)] rfl rfl ?_
    refine Jp.y 13 rfl (want_all rfl) rfl rfl Kp.true (Y.move rfl rfl) ?_
    refine Jp.y 14 rfl (want_all rfl) rfl rfl Kp.true (Y.move rfl rfl) ?_
    refine Jp.y 15 rfl (want_all rfl) rfl rfl Kp.true (Y.indexAddr (q := g) rfl rfl rfl Try.underlying22 Try.sizeOf9 (by omega) (by omega) (by omega)) ?_
    refine Jp.y 16 rfl (want_all rfl) rfl rfl Kp.true (Y.loadR rfl Try.isAgg9 rfl hcell) ?_
    refine Jp.y 17 rfl (want_all rfl) rfl rfl Kp.true (Y.lenstr rfl Try.underlying9 rfl) ?_
    refine Jp.y 18 rfl (want_all rfl) rfl rfl Kp.true (Y.gtr rfl rfl rfl) ?_
    refine Jp.done hK10 ?_
    refine Cd.cond rfl (fun g18 => ?_) (fun g18 => ?_)
    · skip
      refine Cd.seq fun K11 hK11 => ?_
      refine Cd.plain [(0, false)] rfl rfl ?_
      refine Jp.y 2 rfl (want_all rfl) rfl rfl Kp.true (Y.assign rfl rfl) ?_
      refine Jp.done hK11 ?_
      refine Cd.ret [] rfl (res1 rfl rfl) trivial ⟨rfl, ⟨true, rfl, fun h => by cases h⟩, rfl⟩
    try simp only [decide_eq_false_iff_not, decide_eq_true_eq, Int.not_lt, Int.not_le, Bool.not_eq_false, Bool.not_eq_true, Bool.not_true, Bool.not_false, Bool.not_eq_true', Bool.not_eq_false', beq_eq_false_iff_ne, ne_eq, beq_iff_eq, bne_iff_ne, bne_eq_false_iff_eq, Classical.not_not] at g18
    refine Cd.over rfl hK9 ?_
    refine Cd.plain [(0, false), (1, false), (2, false)] rfl rfl ?_
    refine Jp.y 11 rfl (want_all rfl) rfl rfl Kp.true (Y.move rfl rfl) ?_
    refine Jp.y 12 rfl (want_all rfl) rfl rfl Kp.true (Y.add_ rfl rfl rfl (by first | exact wrap_i64 (by omega) (by omega) | rfl)) ?_
    refine Jp.y 3 rfl (want_all rfl) rfl rfl Kp.true (Y.assign rfl rfl) ?_
    refine Jp.again hLa (g + 1) ⟨by omega, fun j x hj hx => ?_⟩ (by omega) rfl ⟨rfl, rfl, trivial⟩ trivial
    by_cases hjg : j < g
    · exact ok2 j x hjg hx
    · have : j = g := by omega
      subst this
      rw [hgx] at hx
      injection hx with hx
      subst hx
      omega
  · simp only [decide_eq_false_iff_not] at ga
    refine Cd.exit rfl hK5 ?_
    refine Cd.seq fun K12 hK12 => ?_
    refine Cd.plain [(0, false)] rfl rfl ?_
    refine Jp.y 2 rfl (want_all rfl) rfl rfl Kp.true (Y.assign rfl rfl) ?_
    refine Jp.done hK12 ?_
    refine Cd.ret [] rfl (res1 rfl rfl) trivial ⟨rfl, ⟨false, rfl, fun _ => ⟨by show xs.length ≤ 20; omega, fun a ha => ?_⟩⟩, rfl⟩
    obtain ⟨j, hj⟩ := List.mem_iff_getElem?.1 ha
    have := (List.getElem?_eq_some_iff.1 hj).1
    have hj' : xs[j]? = some a := hj
    exact ok2 j a (by have : j < xs.length := this; omega) hj'
end Go.Proofs.Ytgfbdiibndbbjaa

/- Contracts of law10: awake. -/
set_option linter.unusedVariables false
set_option linter.unusedSimpArgs false
set_option maxRecDepth 100000
namespace Go.Proofs.Ytgfbdiibndbbjaa
open Go
theorem lay_getS {p : Bytes} {k i : Nat} {b : Bytes} (h : k + b.length ≤ p.length) : (lay p k b)[i]? = if k ≤ i ∧ i < k + b.length then b[i - k]? else p[i]? := by
  have h1 : (p.take k).length = k := by rw [List.length_take]; omega
  rw [lay]
  by_cases hi : i < k
  · rw [if_neg (by omega), List.append_assoc, List.getElem?_append_left (by omega), List.getElem?_take_of_lt hi]
  · by_cases hj : i < k + b.length
    · rw [if_pos (by omega), List.getElem?_append_left (by rw [List.length_append]; omega), List.getElem?_append_right (by omega), h1]
    · rw [if_neg (by omega), List.getElem?_append_right (by rw [List.length_append]; omega), List.length_append, h1, List.getElem?_drop]
      congr 1; omega
theorem build_nil : ∃ pg : Bytes, pg.length = 4096 ∧ buildP [] = ⟨pg, 2147479536, [], 0⟩ := by
  refine ⟨pageP [] 0, ?_, rfl⟩
  rw [pageP, lay_length, lay_length] <;> simp only [lay_length, noughts_length, vecP_len, at0P, textP, spP, List.flatMap_nil, List.length_nil] <;> decide
theorem build_a : ∃ pg : Bytes, pg.length = 4096 ∧ pg[4094]? = some 97 ∧ buildP [[97]] = ⟨pg, 2147479520, [(2147479550, 1)], 0⟩ := by
  have e1 : textP [[97]] = [97, 0] := rfl
  have e2 : at0P [[97]] = 4094 := rfl
  have e3 : spP [[97]] = 4064 := rfl
  have h1 : (lay noughts 4094 [97, 0]).length = 4096 := by rw [lay_length] <;> rw [noughts_length] <;> decide
  refine ⟨pageP [[97]] 1, ?_, ?_, rfl⟩
  · rw [pageP, e1, e2, e3, lay_length, h1]; rw [h1, vecP_len]; decide
  · rw [pageP, e1, e2, e3, lay_getS (by rw [h1, vecP_len]; decide), if_neg (by rw [vecP_len]; decide), lay_getS (by rw [noughts_length]; decide), if_pos (by decide)]; rfl
theorem Y.aggeql {P : Program} {n : Nat} {cx : Cx} {ρ : Hp} {E : Env} {L : Own} {o : Oper} {x y : Operand} {t u : TypeId} {a b : Value} {r : Bool} (hop : o.op = .binOp .eql t x y u) (hx : evE E x = some a) (hy : evE E y = some b)
    (hg : ∀ w, (eqGuard .eql t x y a b).run P w = .ok () w) (hr : ∀ w, (Op.equal t a b).run P w = .ok r w) (hne : ∃ cs ds, a = .agg cs ∧ b = .agg ds) : Y P n cx ρ E L o (.bool r) := fun ac w ha _ => by
  obtain ⟨cs, ds, rfl, rfl⟩ := hne
  simp only [execOp, hop, ha.ev hx, ha.ev hy, Sem.run_bind, hg, Result.andThen_ok, binOp, hr, Sem.run_pure]
theorem eq32 : ∀ w, (Op.equal 32 (.agg #[.int .u32 2147479550, .int .i64 1]) (.agg #[.int .u32 2147479550, .int .i64 1])).run Try.prog w = .ok true w := fun w => by kernel_rfl
theorem f15_spec : Spec Try.prog 15 #[] (fun _ => True) [] (fun ρ ρ' v L => v = .bool true ∧ L = []) := by
  refine Spec.of 73 Try.func15 rfl Try.ntmps15 [] rfl rfl ?_
  intro cx ρ hr h0
  refine Cd.seq fun K1 hK1 => ?_
  refine Cd.plain [(0, false)] rfl rfl ?_
  refine Jp.y 0 rfl (want_all rfl) rfl rfl Kp.true (Y.assign rfl rfl) ?_
  refine Jp.done hK1 ?_
  refine Cd.seq fun K2 hK2 => ?_
  refine Cd.plain [(0, false), (1, false), (2, false), (3, false), (4, false), (5, false), (6, false), (7, false), (8, false), (9, false)] rfl rfl ?_
  refine Jp.call [] [0, 1] (f17_spec ⟨none, 0, []⟩ (by simp) (by simp)) 10 rfl (want_all rfl) rfl rfl (Runs.fn rfl Try.call17 rfl) (by decide) (by decide) rfl (RdS.nil 1 _) ?_
  rintro v1 ρ1 L1 ⟨rfl, A1, c1, B1, d1, q1, e1, rfl, rfl⟩
  refine ⟨rfl, fun hle1 => ⟨Kp.true, ?_⟩⟩
  obtain ⟨pg1, hl1, e1'⟩ := build_nil
  obtain rfl := e1.symm.trans e1'
  dsimp only
  rw [hl1]
  refine Jp.y 9 rfl (want_all rfl) rfl rfl Kp.true (Y.move rfl rfl) ?_
  refine Jp.y 11 rfl (want_all rfl) rfl rfl Kp.true (Y.extract rfl rfl rfl) ?_
  refine Jp.y 12 rfl (want_all rfl) rfl rfl Kp.true (Y.extract rfl rfl rfl) ?_
  refine Jp.y 13 rfl (want_all rfl) rfl rfl Kp.true (Y.extract rfl rfl rfl) ?_
  refine Jp.y 14 rfl (want_all rfl) rfl rfl Kp.true (Y.extract rfl rfl rfl) ?_
  refine Jp.y 1 rfl (want_all rfl) rfl rfl Kp.true (Y.assign rfl rfl) ?_
  refine Jp.y 2 rfl (want_all rfl) rfl rfl Kp.true (Y.assign rfl rfl) ?_
  refine Jp.y 3 rfl (want_all rfl) rfl rfl Kp.true (Y.assign rfl rfl) ?_
  refine Jp.y 4 rfl (want_all rfl) rfl rfl Kp.true (Y.assign rfl rfl) ?_
  refine Jp.done hK2 ?_
  refine Cd.seq fun K3 hK3 => ?_
  refine Cd.plain [(0, false), (1, false), (2, false), (3, false), (4, false), (5, false), (6, false), (7, false), (8, false), (9, false), (10, false)] rfl rfl ?_
  refine Jp.lit 16 2 [(0, _)] [_] rfl (want_all rfl) rfl rfl rfl rfl Try.underlying22 Try.sizeOf9 Try.zeroValue9 rfl rfl rfl rfl rfl fun b2 => ⟨Kp.true, ?_⟩
  refine Jp.freeze (i := 2) rfl (OwnS.up _ _ _ _ _ _) fun ρ3 l3 q3 => ?_
  refine Jp.call [] [3, 4] (f17_spec ⟨some ⟨b2, 0, none⟩, 1, [⟨#[97]⟩]⟩ (by simp) (by intro a ha; simp at ha; subst ha; decide)) 17 rfl (want_all rfl) rfl rfl (Runs.fn rfl Try.call17 rfl) (by decide) (by decide) rfl q3.rd ?_
  rintro v4 ρ4 L4 ⟨rfl, A4, c4, B4, d4, q4, e4, rfl, rfl⟩
  refine ⟨rfl, fun hle4 => ⟨Kp.true, ?_⟩⟩
  obtain ⟨pg4, hl4, hx4, e4'⟩ := build_a
  obtain rfl := e4.symm.trans e4'
  dsimp only
  rw [hl4]
  refine Jp.ownAt 3 rfl (by decide) ?_
  rintro b3 rfl
  refine Jp.ownAt 4 rfl (by decide) ?_
  rintro b4 rfl
  have hx5 : (bytesV pg4)[4094]? = some (.int .u8 97) := by rw [bytesV, List.getElem?_map, hx4]; rfl
  refine Jp.y 15 rfl (want_all rfl) rfl rfl Kp.true (Y.move rfl rfl) ?_
  refine Jp.y 18 rfl (want_all rfl) rfl rfl Kp.true (Y.extract rfl rfl rfl) ?_
  refine Jp.y 19 rfl (want_all rfl) rfl rfl Kp.true (Y.extract rfl rfl rfl) ?_
  refine Jp.y 20 rfl (want_all rfl) rfl rfl Kp.true (Y.extract rfl rfl rfl) ?_
  refine Jp.y 21 rfl (want_all rfl) rfl rfl Kp.true (Y.extract rfl rfl rfl) ?_
  refine Jp.y 5 rfl (want_all rfl) rfl rfl Kp.true (Y.assign rfl rfl) ?_
  refine Jp.y 6 rfl (want_all rfl) rfl rfl Kp.true (Y.assign rfl rfl) ?_
  refine Jp.y 7 rfl (want_all rfl) rfl rfl Kp.true (Y.assign rfl rfl) ?_
  refine Jp.y 8 rfl (want_all rfl) rfl rfl Kp.true (Y.assign rfl rfl) ?_
  refine Jp.done hK3 ?_
  refine Cd.seq fun K4 hK4 => ?_
  refine Cd.plain [(0, false), (1, false), (2, false), (3, false), (4, false), (5, false), (6, false), (7, false), (8, false), (9, false), (10, false), (11, false), (12, false), (13, false), (14, false), (15, false), (16, false), (17, false), (18, false), (19, false), (20, false), (21, false), (22, false), (23, false), (24, false), (25, false), (26, false), (27, false), (28, false), (29, false), (30, false), (31, false), (32, false), (33, false), (34, false), (35, false), (36, false), (37, false), (38, false), (39, false), (40, false), (41, false), (42, false), (43, false), (44, false), (45, false), (46, false), (47, false), (48, false), (49, false), (50, false), (51, false)] rfl rfl ?_
  refine Jp.y 22 rfl (want_all rfl) rfl rfl Kp.true (Y.move rfl rfl) ?_
  refine Jp.y 23 rfl (want_all rfl) rfl rfl Kp.true (Y.eql rfl rfl rfl) ?_
  refine Jp.y 24 rfl (want_all rfl) rfl rfl Kp.true (Y.move rfl rfl) ?_
  refine Jp.splitF 24 rfl (fun g24 => ?_) (fun g24 => ?_)
  · skip
    exact absurd g24 (by simp)
  try simp only [decide_eq_false_iff_not, decide_eq_true_eq, Int.not_lt, Int.not_le, Bool.not_eq_false, Bool.not_eq_true, Bool.not_true, Bool.not_false, Bool.not_eq_true', Bool.not_eq_false', beq_eq_false_iff_ne, ne_eq, beq_iff_eq, bne_iff_ne, bne_eq_false_iff_eq, Classical.not_not] at g24
  refine Jp.y 25 rfl (want_as rfl rfl rfl rfl) rfl rfl Kp.true (Y.move rfl rfl) ?_
  refine Jp.y 26 rfl (want_as rfl rfl rfl rfl) rfl rfl Kp.true (Y.lenslice rfl Try.underlying25 rfl) ?_
  refine Jp.y 27 rfl (want_as rfl rfl rfl rfl) rfl rfl Kp.true (Y.eql rfl rfl rfl) ?_
  refine Jp.y 28 rfl (want_all rfl) rfl rfl Kp.true (Y.pickT rfl rfl rfl) ?_
  refine Jp.y 29 rfl (want_all rfl) rfl rfl Kp.true (Y.move rfl rfl) ?_
  refine Jp.splitF 29 rfl (fun g29 => ?_) (fun g29 => ?_)
  · skip
    exact absurd g29 (by simp)
  try simp only [decide_eq_false_iff_not, decide_eq_true_eq, Int.not_lt, Int.not_le, Bool.not_eq_false, Bool.not_eq_true, Bool.not_true, Bool.not_false, Bool.not_eq_true', Bool.not_eq_false', beq_eq_false_iff_ne, ne_eq, beq_iff_eq, bne_iff_ne, bne_eq_false_iff_eq, Classical.not_not] at g29
  refine Jp.y 30 rfl (want_as rfl rfl rfl rfl) rfl rfl Kp.true (Y.move rfl rfl) ?_
  refine Jp.y 31 rfl (want_as rfl rfl rfl rfl) rfl rfl Kp.true (Y.eql rfl rfl rfl) ?_
  refine Jp.y 32 rfl (want_all rfl) rfl rfl Kp.true (Y.pickT rfl rfl rfl) ?_
  refine Jp.y 33 rfl (want_all rfl) rfl rfl Kp.true (Y.move rfl rfl) ?_
  refine Jp.splitF 33 rfl (fun g33 => ?_) (fun g33 => ?_)
  · skip
    exact absurd g33 (by simp)
  try simp only [decide_eq_false_iff_not, decide_eq_true_eq, Int.not_lt, Int.not_le, Bool.not_eq_false, Bool.not_eq_true, Bool.not_true, Bool.not_false, Bool.not_eq_true', Bool.not_eq_false', beq_eq_false_iff_ne, ne_eq, beq_iff_eq, bne_iff_ne, bne_eq_false_iff_eq, Classical.not_not] at g33
  refine Jp.y 34 rfl (want_as rfl rfl rfl rfl) rfl rfl Kp.true (Y.move rfl rfl) ?_
  refine Jp.y 35 rfl (want_as rfl rfl rfl rfl) rfl rfl Kp.true (Y.lenslice rfl Try.underlying27 rfl) ?_
  refine Jp.y 36 rfl (want_as rfl rfl rfl rfl) rfl rfl Kp.true (Y.eql rfl rfl rfl) ?_
  refine Jp.y 37 rfl (want_all rfl) rfl rfl Kp.true (Y.pickT rfl rfl rfl) ?_
  refine Jp.y 38 rfl (want_all rfl) rfl rfl Kp.true (Y.move rfl rfl) ?_
  refine Jp.splitF 38 rfl (fun g38 => ?_) (fun g38 => ?_)
  · skip
    exact absurd g38 (by simp)
  try simp only [decide_eq_false_iff_not, decide_eq_true_eq, Int.not_lt, Int.not_le, Bool.not_eq_false, Bool.not_eq_true, Bool.not_true, Bool.not_false, Bool.not_eq_true', Bool.not_eq_false', beq_eq_false_iff_ne, ne_eq, beq_iff_eq, bne_iff_ne, bne_eq_false_iff_eq, Classical.not_not] at g38
  refine Jp.y 39 rfl (want_as rfl rfl rfl rfl) rfl rfl Kp.true (Y.move rfl rfl) ?_
  refine Jp.y 40 rfl (want_as rfl rfl rfl rfl) rfl rfl Kp.true (Y.eql rfl rfl rfl) ?_
  refine Jp.y 41 rfl (want_all rfl) rfl rfl Kp.true (Y.pickT rfl rfl rfl) ?_
  refine Jp.y 42 rfl (want_all rfl) rfl rfl Kp.true (Y.move rfl rfl) ?_
  refine Jp.splitF 42 rfl (fun g42 => ?_) (fun g42 => ?_)
  · skip
    exact absurd g42 (by simp)
  try simp only [decide_eq_false_iff_not, decide_eq_true_eq, Int.not_lt, Int.not_le, Bool.not_eq_false, Bool.not_eq_true, Bool.not_true, Bool.not_false, Bool.not_eq_true', Bool.not_eq_false', beq_eq_false_iff_ne, ne_eq, beq_iff_eq, bne_iff_ne, bne_eq_false_iff_eq, Classical.not_not] at g42
  refine Jp.y 43 rfl (want_as rfl rfl rfl rfl) rfl rfl Kp.true (Y.move rfl rfl) ?_
  refine Jp.y 44 rfl (want_as rfl rfl rfl rfl) rfl rfl Kp.true (Y.eql rfl rfl rfl) ?_
  refine Jp.y 45 rfl (want_all rfl) rfl rfl Kp.true (Y.pickT rfl rfl rfl) ?_
  refine Jp.y 46 rfl (want_all rfl) rfl rfl Kp.true (Y.move rfl rfl) ?_
  refine Jp.splitF 46 rfl (fun g46 => ?_) (fun g46 => ?_)
  · skip
    exact absurd g46 (by simp)
  try simp only [decide_eq_false_iff_not, decide_eq_true_eq, Int.not_lt, Int.not_le, Bool.not_eq_false, Bool.not_eq_true, Bool.not_true, Bool.not_false, Bool.not_eq_true', Bool.not_eq_false', beq_eq_false_iff_ne, ne_eq, beq_iff_eq, bne_iff_ne, bne_eq_false_iff_eq, Classical.not_not] at g46
  refine Jp.y 47 rfl (want_as rfl rfl rfl rfl) rfl rfl Kp.true (Y.move rfl rfl) ?_
  refine Jp.y 48 rfl (want_as rfl rfl rfl rfl) rfl rfl Kp.true (Y.lenslice rfl Try.underlying27 rfl) ?_
  refine Jp.y 49 rfl (want_as rfl rfl rfl rfl) rfl rfl Kp.true (Y.eql rfl rfl rfl) ?_
  refine Jp.y 50 rfl (want_all rfl) rfl rfl Kp.true (Y.pickT rfl rfl rfl) ?_
  refine Jp.y 51 rfl (want_all rfl) rfl rfl Kp.true (Y.move rfl rfl) ?_
  refine Jp.splitF 51 rfl (fun g51 => ?_) (fun g51 => ?_)
  · skip
    exact absurd g51 (by simp)
  try simp only [decide_eq_false_iff_not, decide_eq_true_eq, Int.not_lt, Int.not_le, Bool.not_eq_false, Bool.not_eq_true, Bool.not_true, Bool.not_false, Bool.not_eq_true', Bool.not_eq_false', beq_eq_false_iff_ne, ne_eq, beq_iff_eq, bne_iff_ne, bne_eq_false_iff_eq, Classical.not_not] at g51
  refine Jp.y 52 rfl (want_as rfl rfl rfl rfl) rfl rfl Kp.true (Y.move rfl rfl) ?_
  refine Jp.y 53 rfl (want_as rfl rfl rfl rfl) rfl rfl Kp.true (Y.indexAddr (q := 0) rfl rfl rfl Try.underlying27 Try.sizeOf32 (by omega) (by omega) (by omega)) ?_
  refine Jp.y 54 rfl (want_as rfl rfl rfl rfl) rfl rfl Kp.true (Y.loadSAgg 4 (q := 0) [.int .u32 2147479550, .int .i64 1] rfl Try.isAgg32 Try.sizeOf32 rfl rfl rfl rfl (fun p v h => by rw [Nat.zero_add]; exact h)) ?_
  refine Jp.y 55 rfl (want_as rfl rfl rfl rfl) rfl rfl Kp.true (Y.struct [(0, _), (1, _)] [_, _] rfl rfl places32 Try.zeroValue32 rfl) ?_
  refine Jp.y 56 rfl (want_as rfl rfl rfl rfl) rfl rfl Kp.true (Y.aggeql rfl rfl rfl (fun w => by kernel_rfl) eq32 ⟨_, _, rfl, rfl⟩) ?_
  refine Jp.y 57 rfl (want_all rfl) rfl rfl Kp.true (Y.pickT rfl rfl rfl) ?_
  refine Jp.y 58 rfl (want_all rfl) rfl rfl Kp.true (Y.move rfl rfl) ?_
  refine Jp.splitF 58 rfl (fun g58 => ?_) (fun g58 => ?_)
  · skip
    exact absurd g58 (by simp)
  try simp only [decide_eq_false_iff_not, decide_eq_true_eq, Int.not_lt, Int.not_le, Bool.not_eq_false, Bool.not_eq_true, Bool.not_true, Bool.not_false, Bool.not_eq_true', Bool.not_eq_false', beq_eq_false_iff_ne, ne_eq, beq_iff_eq, bne_iff_ne, bne_eq_false_iff_eq, Classical.not_not] at g58
  refine Jp.y 59 rfl (want_as rfl rfl rfl rfl) rfl rfl Kp.true (Y.move rfl rfl) ?_
  refine Jp.y 60 rfl (want_as rfl rfl rfl rfl) rfl rfl Kp.true (Y.lenslice rfl Try.underlying25 rfl) ?_
  refine Jp.y 61 rfl (want_as rfl rfl rfl rfl) rfl rfl Kp.true (Y.eql rfl rfl rfl) ?_
  refine Jp.y 62 rfl (want_all rfl) rfl rfl Kp.true (Y.pickT rfl rfl rfl) ?_
  refine Jp.y 63 rfl (want_all rfl) rfl rfl Kp.true (Y.move rfl rfl) ?_
  refine Jp.splitF 63 rfl (fun g63 => ?_) (fun g63 => ?_)
  · skip
    exact absurd g63 (by simp)
  try simp only [decide_eq_false_iff_not, decide_eq_true_eq, Int.not_lt, Int.not_le, Bool.not_eq_false, Bool.not_eq_true, Bool.not_true, Bool.not_false, Bool.not_eq_true', Bool.not_eq_false', beq_eq_false_iff_ne, ne_eq, beq_iff_eq, bne_iff_ne, bne_eq_false_iff_eq, Classical.not_not] at g63
  refine Jp.y 64 rfl (want_as rfl rfl rfl rfl) rfl rfl Kp.true (Y.move rfl rfl) ?_
  refine Jp.y 65 rfl (want_as rfl rfl rfl rfl) rfl rfl Kp.true (Y.indexAddr (q := 4094) rfl rfl rfl Try.underlying25 Try.sizeOf5 (by omega) (by omega) (by omega)) ?_
  refine Jp.y 66 rfl (want_as rfl rfl rfl rfl) rfl rfl Kp.true (Y.loadS 3 (q := 4094) rfl Try.isAgg5 rfl rfl rfl hx5) ?_
  refine Jp.y 67 rfl (want_as rfl rfl rfl rfl) rfl rfl Kp.true (Y.eql rfl rfl rfl) ?_
  refine Jp.y 68 rfl (want_all rfl) rfl rfl Kp.true (Y.pickT rfl rfl rfl) ?_
  refine Jp.y 69 rfl (want_all rfl) rfl rfl Kp.true (Y.move rfl rfl) ?_
  refine Jp.splitF 69 rfl (fun g69 => ?_) (fun g69 => ?_)
  · skip
    exact absurd g69 (by simp)
  try simp only [decide_eq_false_iff_not, decide_eq_true_eq, Int.not_lt, Int.not_le, Bool.not_eq_false, Bool.not_eq_true, Bool.not_true, Bool.not_false, Bool.not_eq_true', Bool.not_eq_false', beq_eq_false_iff_ne, ne_eq, beq_iff_eq, bne_iff_ne, bne_eq_false_iff_eq, Classical.not_not] at g69
  refine Jp.y 70 rfl (want_all rfl) rfl rfl Kp.true (Y.pickT rfl rfl rfl) ?_
  refine Jp.y 71 rfl (want_all rfl) rfl rfl Kp.true (Y.move rfl rfl) ?_
  refine Jp.y 72 rfl (want_all rfl) rfl rfl Kp.true (Y.pickT rfl rfl rfl) ?_
  refine Jp.y 0 rfl (want_all rfl) rfl rfl Kp.true (Y.assign rfl rfl) ?_
  refine Jp.done hK4 ?_
  refine Cd.ret [] rfl (res1 rfl rfl) trivial ⟨rfl, rfl⟩
end Go.Proofs.Ytgfbdiibndbbjaa

/- Contract of law10: StackPlaces. -/
set_option linter.unusedVariables false
set_option linter.unusedSimpArgs false
set_option maxRecDepth 100000
namespace Go.Proofs.Ytgfbdiibndbbjaa
open Go
theorem placesV_get (l : List (Nat × Nat)) : ∀ (k : Nat) (x : Nat × Nat), l[k]? = some x → (placesV l)[k * 2 + 0]? = some (.int .u32 (x.1 : Int)) ∧ (placesV l)[k * 2 + 1]? = some (.int .i64 (x.2 : Int)) := by
  induction l with
  | nil => intro k f h; simp at h
  | cons g l ih =>
    intro k f h
    have e : placesV (g :: l) = .int .u32 (g.1 : Int) :: .int .i64 (g.2 : Int) :: placesV l := rfl
    cases k with
    | zero => simp at h; subst h; exact ⟨rfl, rfl⟩
    | succ k =>
      have := ih k f (by simpa using h)
      rw [e, Nat.succ_mul]
      simpa [Nat.add_assoc] using this
theorem placesP_get (l : List Bytes) {n k : Nat} (hk : k < n) : (placesP l n)[k]? = some (addrP l k, (l.getD k []).length) := by
  rw [placesP, List.getElem?_map, List.getElem?_range hk]; rfl
theorem f3_spec (s : Sl ByteArray) : Spec Try.prog 3 #[s.v] (RdStr s) [] (fun ρ ρ' v L => v = .bool true ∧ L = []) := by
  obtain ⟨A, c, xs⟩ := s
  dsimp only [Sl.v]
  refine Spec.of 90 Try.func3 rfl Try.ntmps3 [(0, _)] rfl rfl ?_
  intro cx ρ hr h0
  refine Cd.seq fun K1 hK1 => ?_
  refine Cd.plain [(0, false)] rfl rfl ?_
  refine Jp.y 2 rfl (want_all rfl) rfl rfl Kp.true (Y.assign rfl rfl) ?_
  refine Jp.done hK1 ?_
  refine Cd.seq fun K2 hK2 => ?_
  refine Cd.seq fun K3 hK3 => ?_
  refine Cd.plain [(0, false), (1, false)] rfl rfl ?_
  refine Jp.call [] [] f15_spec 9 rfl (want_all rfl) rfl rfl (Runs.fn rfl Try.call15 rfl) (by decide) (by decide) rfl trivial ?_
  rintro v1 ρ1 L1 ⟨rfl, rfl⟩
  refine ⟨rfl, fun hle1 => ⟨Kp.true, ?_⟩⟩
  have hr := RdStr.up _ _ _ hle1 hr
  refine Jp.y 10 rfl (want_all rfl) rfl rfl Kp.true (Y.not rfl rfl) ?_
  refine Jp.done hK3 ?_
  refine Cd.cond rfl (fun g10 => ?_) (fun g10 => ?_)
  · skip
    exact absurd g10 (by simp)
  try simp only [decide_eq_false_iff_not, decide_eq_true_eq, Int.not_lt, Int.not_le, Bool.not_eq_false, Bool.not_eq_true, Bool.not_true, Bool.not_false, Bool.not_eq_true', Bool.not_eq_false', beq_eq_false_iff_ne, ne_eq, beq_iff_eq, bne_iff_ne, bne_eq_false_iff_eq, Classical.not_not] at g10
  refine Cd.skip hK2 ?_
  refine Cd.seq fun K4 hK4 => ?_
  refine Cd.seq fun K5 hK5 => ?_
  refine Cd.plain [(0, false), (1, false)] rfl rfl ?_
  refine Jp.y 11 rfl (want_all rfl) rfl rfl Kp.true (Y.move rfl rfl) ?_
  refine Jp.call [] [] (f16_spec ⟨A, c, xs⟩) 12 rfl (want_all rfl) rfl rfl (Runs.fn rfl Try.call16 rfl) (by decide) (by decide) rfl hr ?_
  rintro v2 ρ2 L2 ⟨rfl, ⟨gr, rfl, hgr⟩, rfl⟩
  refine ⟨rfl, fun hle2 => ⟨Kp.true, ?_⟩⟩
  refine Jp.done hK5 ?_
  refine Cd.cond rfl (fun g12 => ?_) (fun g12 => ?_)
  · skip
    refine Cd.seq fun K6 hK6 => ?_
    refine Cd.plain [(0, false)] rfl rfl ?_
    refine Jp.y 2 rfl (want_all rfl) rfl rfl Kp.true (Y.assign rfl rfl) ?_
    refine Jp.done hK6 ?_
    refine Cd.ret [] rfl (res1 rfl rfl) trivial ⟨rfl, rfl⟩
  try simp only [decide_eq_false_iff_not, decide_eq_true_eq, Int.not_lt, Int.not_le, Bool.not_eq_false, Bool.not_eq_true, Bool.not_true, Bool.not_false, Bool.not_eq_true', Bool.not_eq_false', beq_eq_false_iff_ne, ne_eq, beq_iff_eq, bne_iff_ne, bne_eq_false_iff_eq, Classical.not_not] at g12
  refine Cd.skip hK4 ?_
  refine Cd.seq fun K7 hK7 => ?_
  refine Cd.plain [(0, false), (1, false), (2, false), (3, false), (4, false), (5, false), (6, false), (7, false), (8, false), (9, false), (10, false)] rfl rfl ?_
  obtain ⟨hn, hs⟩ := hgr g12
  have hn : xs.length ≤ 20 := hn
  have hs : ∀ a ∈ xs, a.size ≤ 400 := hs
  have hml : (xs.map str).length = xs.length := List.length_map ..
  have hsl : ∀ a ∈ xs.map str, a.length ≤ 400 := fun a ha => by
    obtain ⟨x, hx, rfl⟩ := List.mem_map.1 ha
    rw [← str_size]; exact hs x hx
  have htl := textP_len hsl
  refine Jp.y 14 rfl (want_all rfl) rfl rfl Kp.true (Y.move rfl rfl) ?_
  refine Jp.call [] [0, 1] (f17_spec ⟨A, c, xs⟩ hn (fun a ha => Nat.le_trans (hs a ha) (by omega))) 15 rfl (want_all rfl) rfl rfl (Runs.fn rfl Try.call17 rfl) (by decide) (by decide) rfl hr ?_
  rintro v3 ρ3 L3 ⟨rfl, A3, c3, B3, d3, q, hq, rfl, rfl⟩
  refine ⟨rfl, fun hle3 => ⟨Kp.true, ?_⟩⟩
  have hq : buildP (xs.map str) = q := hq
  by_cases hgood : goodS (xs.map str) = true ∧ (textP (xs.map str)).length ≤ 3000
  · obtain ⟨hg, hT⟩ := hgood
    have hq2 : q = ⟨pageP (xs.map str) xs.length, 2147475456 + spP (xs.map str), placesP (xs.map str) xs.length, 0⟩ := by rw [← hq, buildP, hg, if_pos rfl, if_pos hT, hml]
    subst hq2
    dsimp only
    have hn16 : xs.length ≤ 16 := by
      simp only [goodS, Bool.and_eq_true, decide_eq_true_eq, List.length_map] at hg
      exact hg.2
    have hat : at0P (xs.map str) + (textP (xs.map str)).length = 4096 := by rw [at0P]; omega
    have hadrn : addrP (xs.map str) xs.length = 2147479552 := by
      rw [addrP, List.take_of_length_le (by omega)]; omega
    rw [placesP_length]
    refine Jp.y 13 rfl (want_all rfl) rfl rfl Kp.true (Y.move rfl rfl) ?_
    refine Jp.y 16 rfl (want_all rfl) rfl rfl Kp.true (Y.extract rfl rfl rfl) ?_
    refine Jp.y 17 rfl (want_all rfl) rfl rfl Kp.true (Y.extract rfl rfl rfl) ?_
    refine Jp.y 18 rfl (want_all rfl) rfl rfl Kp.true (Y.extract rfl rfl rfl) ?_
    refine Jp.y 19 rfl (want_all rfl) rfl rfl Kp.true (Y.extract rfl rfl rfl) ?_
    refine Jp.y 3 rfl (want_all rfl) rfl rfl Kp.true (Y.assign rfl rfl) ?_
    refine Jp.y 4 rfl (want_all rfl) rfl rfl Kp.true (Y.assign rfl rfl) ?_
    refine Jp.y 5 rfl (want_all rfl) rfl rfl Kp.true (Y.assign rfl rfl) ?_
    refine Jp.y 6 rfl (want_all rfl) rfl rfl Kp.true (Y.assign rfl rfl) ?_
    refine Jp.done hK7 ?_
    refine Cd.seq fun K8 hK8 => ?_
    refine Cd.seq fun K9 hK9 => ?_
    refine Cd.plain [(0, false), (1, false)] rfl rfl ?_
    refine Jp.y 20 rfl (want_all rfl) rfl rfl Kp.true (Y.move rfl rfl) ?_
    refine Jp.y 21 rfl (want_all rfl) rfl rfl Kp.true (Y.neq rfl rfl rfl) ?_
    refine Jp.done hK9 ?_
    refine Cd.cond rfl (fun g21 => ?_) (fun g21 => ?_)
    · skip
      exact absurd g21 (by simp)
    try simp only [decide_eq_false_iff_not, decide_eq_true_eq, Int.not_lt, Int.not_le, Bool.not_eq_false, Bool.not_eq_true, Bool.not_true, Bool.not_false, Bool.not_eq_true', Bool.not_eq_false', beq_eq_false_iff_ne, ne_eq, beq_iff_eq, bne_iff_ne, bne_eq_false_iff_eq, Classical.not_not] at g21
    refine Cd.skip hK8 ?_
    refine Cd.seq fun K10 hK10 => ?_
    refine Cd.plain [(0, false)] rfl rfl ?_
    refine Jp.y 7 rfl (want_all rfl) rfl rfl Kp.true (Y.assign rfl rfl) ?_
    refine Jp.done hK10 ?_
    refine Cd.seq fun K11 hK11 => ?_
    refine Cd.seq fun K12 hK12 => ?_
    refine Cd.plain [(0, false), (1, false), (2, false), (3, false)] rfl rfl ?_
    refine Jp.y 34 rfl (want_all rfl) rfl rfl Kp.true (Y.move rfl rfl) ?_
    refine Jp.y 35 rfl (want_all rfl) rfl rfl Kp.true (Y.lenslice rfl Try.underlying27 rfl) ?_
    refine Jp.y 36 rfl (want_all rfl) rfl rfl Kp.true (Y.sub_ rfl rfl rfl (by first | exact wrap_i64 (by omega) (by omega) | rfl)) ?_
    refine Jp.y 8 rfl (want_all rfl) rfl rfl Kp.true (Y.assign rfl rfl) ?_
    refine Jp.done hK12 ?_
    refine Cd.block ?_
    rw [show (2147479552 : Int) = (addrP (xs.map str) xs.length : Int) by rw [hadrn]; rfl]
    refine Cd.loop (G := Nat) (fun k => k ≤ xs.length) (fun k => k) (fun _ => ρ3) (fun k => [(0, .slice A xs.length c), (4, .int .u32 ((2147475456 + spP (xs.map str) : Nat) : Int)), (5, .slice B3 xs.length d3), (7, .int .u32 (addrP (xs.map str) k : Int)), (8, .int .i64 ((k : Int) - 1))]) (fun k => [(1, OwnS 32 2 B3 xs.length d3 (placesV (placesP (xs.map str) xs.length)))]) xs.length (Nat.le_refl _) rfl ⟨rfl, rfl, rfl, rfl, rfl, trivial⟩ ⟨rfl, trivial⟩ (fun g KLa hok hLa => ?_)
    refine Cd.seq fun K13 hK13 => ?_
    refine Cd.seq fun K14 hK14 => ?_
    refine Cd.plain [(0, false), (1, false)] rfl rfl ?_
    refine Jp.y 37 rfl (want_all rfl) rfl rfl Kp.true (Y.move rfl rfl) ?_
    refine Jp.y 38 rfl (want_all rfl) rfl rfl Kp.true (Y.geq rfl rfl rfl) ?_
    refine Jp.done hK14 ?_
    refine Cd.cond rfl (fun ga => ?_) (fun ga => ?_)
    · simp only [decide_eq_true_eq] at ga
      obtain ⟨i, rfl⟩ : ∃ i, g = i + 1 := ⟨g - 1, by omega⟩
      have hi : i < xs.length := by omega
      obtain ⟨ad, rfl⟩ := hr.some (show 0 < xs.length * 1 by omega)
      have hcell : cellH ρ3 (ad.add i) = some (.string xs[i]) := hr.cell (by simp [strsV, hi])
      have hz := hs xs[i] (List.getElem_mem hi)
      have hz2 := str_size xs[i]
      have hsn := textP_snoc (l := xs.map str) (k := i) (by rw [hml]; exact hi)
      have hsn2 : (textP ((xs.map str).take (i + 1))).length = (textP ((xs.map str).take i)).length + (xs[i].size + 1) := by rw [hsn, List.getElem_map, hz2]; simp
      have hle : (textP ((xs.map str).take (i + 1))).length ≤ (textP (xs.map str)).length := by
        have := congrArg (fun l => (textP l).length) (List.take_append_drop (i + 1) (xs.map str))
        simp only [textP, List.flatMap_append, List.length_append] at this
        simp only [textP]; omega
      have had : addrP (xs.map str) (i + 1) = addrP (xs.map str) i + (xs[i].size + 1) := by rw [addrP, addrP, hsn2]; omega
      have hb1 : 2147475456 ≤ addrP (xs.map str) i := by rw [addrP]; omega
      have hb2 : addrP (xs.map str) (i + 1) ≤ 2147479552 := by rw [addrP]; omega
      obtain ⟨hp0, hp1⟩ := placesV_get _ i _ (placesP_get (xs.map str) (n := xs.length) hi)
      have hlen : ((xs.map str).getD i []).length = xs[i].size := by rw [List.getD_eq_getElem?_getD, List.getElem?_map, List.getElem?_eq_getElem hi, Option.map_some, Option.getD_some, ← str_size]
      refine Cd.skip hK13 ?_
      refine Cd.seq fun K15 hK15 => ?_
      refine Cd.block ?_
      refine Cd.seq fun K16 hK16 => ?_
      refine Cd.plain [(0, false), (1, false), (2, false), (3, false), (4, false), (5, false), (6, false), (7, false), (8, false), (9, false)] rfl rfl ?_
      refine Jp.y 41 rfl (want_all rfl) rfl rfl Kp.true (Y.move rfl rfl) ?_
      refine Jp.y 42 rfl (want_all rfl) rfl rfl Kp.true (Y.move rfl rfl) ?_
      refine Jp.y 43 rfl (want_all rfl) rfl rfl Kp.true (Y.move rfl rfl) ?_
      refine Jp.y 44 rfl (want_all rfl) rfl rfl Kp.true (Y.indexAddr (q := i) rfl rfl rfl Try.underlying22 Try.sizeOf9 (by omega) (by omega) (by omega)) ?_
      refine Jp.y 45 rfl (want_all rfl) rfl rfl Kp.true (Y.loadR rfl Try.isAgg9 rfl hcell) ?_
      refine Jp.y 46 rfl (want_all rfl) rfl rfl Kp.true (Y.lenstr rfl Try.underlying9 rfl) ?_
      refine Jp.y 47 rfl (want_all rfl) rfl rfl Kp.true (Y.conv_ rfl rfl Try.underlying3 Try.underlying26 (by first | exact wrap_u32 (by omega) (by omega) | rfl)) ?_
      refine Jp.y 48 rfl (want_all rfl) rfl rfl Kp.true (Y.sub_ rfl rfl rfl (by first | exact wrap_u32 (by omega) (by omega) | rfl)) ?_
      refine Jp.y 49 rfl (want_all rfl) rfl rfl Kp.true (Y.sub_ rfl rfl rfl (by first | exact wrap_u32 (by omega) (by omega) | rfl)) ?_
      rw [show (addrP (xs.map str) (i + 1) : Int) - (xs[i].size : Int) - 1 = (addrP (xs.map str) i : Int) by rw [had]; omega]
      refine Jp.y 7 rfl (want_all rfl) rfl rfl Kp.true (Y.assign rfl rfl) ?_
      refine Jp.done hK16 ?_
      refine Cd.seq fun K17 hK17 => ?_
      refine Cd.drawn [(1, _)] ⟨rfl, trivial⟩ [(0, true), (1, true), (2, true), (3, true), (4, true), (5, true), (6, true), (7, true), (8, true), (9, true), (10, true), (11, true), (12, true), (13, true), (14, true), (15, true), (16, true), (17, true), (18, true), (19, true)] follows (by kernel_rfl) (fun hrl => ?_)
      refine Jp.ownAt 1 rfl (by omega) ?_
      rintro b1 rfl
      rw [hlen] at hp1
      refine Jp.q 50 rfl (want_all rfl) rfl rfl (Y.move rfl rfl) ?_
      refine Jp.q 51 rfl (want_all rfl) rfl rfl (Y.move rfl rfl) ?_
      refine Jp.q 52 rfl (want_all rfl) rfl rfl (Y.indexAddr (q := i * 2) rfl rfl rfl Try.underlying27 Try.sizeOf32 (by omega) (by omega) (by omega)) ?_
      refine Jp.q 53 rfl (want_all rfl) rfl rfl (by first | exact Y.fieldAddrP rfl rfl Try.underlying32 rfl Try.sizeOf26 (by decide) (show _ + 0 = _ from rfl) | exact Y.fieldAddr rfl rfl Try.underlying32 rfl Try.sizeOf26 (by decide)) ?_
      refine Jp.q 54 rfl (want_all rfl) rfl rfl (Y.loadS 1 (q := i * 2 + 0) rfl Try.isAgg26 rfl rfl rfl hp0) ?_
      refine Jp.q 55 rfl (want_all rfl) rfl rfl (Y.move rfl rfl) ?_
      refine Jp.q 56 rfl (want_all rfl) rfl rfl (Y.neq rfl rfl rfl) ?_
      refine Jp.q 57 rfl (want_all rfl) rfl rfl (Y.move rfl rfl) ?_
      refine Jp.split 57 rfl (fun g57 => ?_) (fun g57 => ?_)
      · skip
        exact absurd g57 (by simp)
      try simp only [decide_eq_false_iff_not, decide_eq_true_eq, Int.not_lt, Int.not_le, Bool.not_eq_false, Bool.not_eq_true, Bool.not_true, Bool.not_false, Bool.not_eq_true', Bool.not_eq_false', beq_eq_false_iff_ne, ne_eq, beq_iff_eq, bne_iff_ne, bne_eq_false_iff_eq, Classical.not_not] at g57
      refine Jp.q 58 rfl (want_as rfl rfl rfl rfl) rfl rfl (Y.move rfl rfl) ?_
      refine Jp.q 59 rfl (want_as rfl rfl rfl rfl) rfl rfl (Y.move rfl rfl) ?_
      refine Jp.q 60 rfl (want_as rfl rfl rfl rfl) rfl rfl (Y.indexAddr (q := i * 2) rfl rfl rfl Try.underlying27 Try.sizeOf32 (by omega) (by omega) (by omega)) ?_
      refine Jp.q 61 rfl (want_as rfl rfl rfl rfl) rfl rfl (by first | exact Y.fieldAddrP rfl rfl Try.underlying32 rfl Try.sizeOf3 (by decide) (show _ + 1 = _ from rfl) | exact Y.fieldAddr rfl rfl Try.underlying32 rfl Try.sizeOf3 (by decide)) ?_
      refine Jp.q 62 rfl (want_as rfl rfl rfl rfl) rfl rfl (Y.loadS 1 (q := i * 2 + 1) rfl Try.isAgg3 rfl rfl (Addr.add_add _ _ _).symm hp1) ?_
      refine Jp.q 63 rfl (want_as rfl rfl rfl rfl) rfl rfl (Y.move rfl rfl) ?_
      refine Jp.q 64 rfl (want_as rfl rfl rfl rfl) rfl rfl (Y.move rfl rfl) ?_
      refine Jp.q 65 rfl (want_as rfl rfl rfl rfl) rfl rfl (Y.indexAddr (q := i) rfl rfl rfl Try.underlying22 Try.sizeOf9 (by omega) (by omega) (by omega)) ?_
      refine Jp.q 66 rfl (want_as rfl rfl rfl rfl) rfl rfl (Y.loadR rfl Try.isAgg9 rfl hcell) ?_
      refine Jp.q 67 rfl (want_as rfl rfl rfl rfl) rfl rfl (Y.lenstr rfl Try.underlying9 rfl) ?_
      refine Jp.q 68 rfl (want_as rfl rfl rfl rfl) rfl rfl (Y.neq rfl rfl rfl) ?_
      refine Jp.q 69 rfl (want_all rfl) rfl rfl (Y.pickF rfl rfl rfl) ?_
      refine Jp.done hK17 ?_
      refine Cd.cond rfl (fun g69 => ?_) (fun g69 => ?_)
      · skip
        exact absurd g69 (by simp)
      try simp only [decide_eq_false_iff_not, decide_eq_true_eq, Int.not_lt, Int.not_le, Bool.not_eq_false, Bool.not_eq_true, Bool.not_true, Bool.not_false, Bool.not_eq_true', Bool.not_eq_false', beq_eq_false_iff_ne, ne_eq, beq_iff_eq, bne_iff_ne, bne_eq_false_iff_eq, Classical.not_not] at g69
      refine Cd.over rfl hK15 ?_
      refine Cd.plain [(0, false), (1, false), (2, false)] rfl rfl ?_
      refine Jp.y 39 rfl (want_all rfl) rfl rfl Kp.true (Y.move rfl rfl) ?_
      refine Jp.y 40 rfl (want_all rfl) rfl rfl Kp.true (Y.sub_ rfl rfl rfl (by first | exact wrap_i64 (by omega) (by omega) | rfl)) ?_
      refine Jp.y 8 rfl (want_all rfl) rfl rfl Kp.true (Y.assign rfl rfl) ?_
      rw [show (((i + 1 : Nat) : Int) - 1 - 1) = (i : Int) - 1 by omega]
      refine Jp.again hLa i (by omega) (by omega) rfl ⟨rfl, rfl, rfl, rfl, rfl, trivial⟩ ⟨rfl, trivial⟩
    · simp only [decide_eq_false_iff_not] at ga
      obtain rfl : g = 0 := by omega
      have had0 : addrP (xs.map str) 0 = 2147475456 + at0P (xs.map str) := by rw [addrP]; rfl
      have hsp : spP (xs.map str) = (at0P (xs.map str) - 4 * (xs.length + 3)) / 16 * 16 := by rw [spP, hml]
      refine Cd.exit rfl hK11 ?_
      refine Cd.seq fun K19 hK19 => ?_
      refine Cd.plain [(0, false), (1, false), (2, false), (3, false), (4, false), (5, false), (6, false), (7, false), (8, false), (9, false), (10, false), (11, false), (12, false), (13, false), (14, false), (15, false), (16, false), (17, false), (18, false), (19, false), (20, false)] rfl rfl ?_
      refine Jp.y 70 rfl (want_all rfl) rfl rfl Kp.true (Y.move rfl rfl) ?_
      refine Jp.y 71 rfl (want_all rfl) rfl rfl Kp.true (Y.lenslice rfl Try.underlying27 rfl) ?_
      refine Jp.y 72 rfl (want_all rfl) rfl rfl Kp.true (Y.move rfl rfl) ?_
      refine Jp.y 73 rfl (want_all rfl) rfl rfl Kp.true (Y.lenslice rfl Try.underlying22 rfl) ?_
      refine Jp.y 74 rfl (want_all rfl) rfl rfl Kp.true (Y.eql rfl rfl rfl) ?_
      refine Jp.y 75 rfl (want_all rfl) rfl rfl Kp.true (Y.move rfl rfl) ?_
      refine Jp.splitF 75 rfl (fun g75 => ?_) (fun g75 => ?_)
      · skip
        exact absurd g75 (by first | (simp; done) | (simp; omega))
      try simp only [decide_eq_false_iff_not, decide_eq_true_eq, Int.not_lt, Int.not_le, Bool.not_eq_false, Bool.not_eq_true, Bool.not_true, Bool.not_false, Bool.not_eq_true', Bool.not_eq_false', beq_eq_false_iff_ne, ne_eq, beq_iff_eq, bne_iff_ne, bne_eq_false_iff_eq, Classical.not_not] at g75
      refine Jp.y 76 rfl (want_as rfl rfl rfl rfl) rfl rfl Kp.true (Y.move rfl rfl) ?_
      refine Jp.y 77 rfl (want_as rfl rfl rfl rfl) rfl rfl Kp.true (Y.geq rfl rfl rfl) ?_
      refine Jp.y 78 rfl (want_all rfl) rfl rfl Kp.true (Y.pickT rfl rfl rfl) ?_
      refine Jp.y 79 rfl (want_all rfl) rfl rfl Kp.true (Y.move rfl rfl) ?_
      refine Jp.splitF 79 rfl (fun g79 => ?_) (fun g79 => ?_)
      · skip
        exact absurd g79 (by first | (simp; done) | (simp; omega))
      try simp only [decide_eq_false_iff_not, decide_eq_true_eq, Int.not_lt, Int.not_le, Bool.not_eq_false, Bool.not_eq_true, Bool.not_true, Bool.not_false, Bool.not_eq_true', Bool.not_eq_false', beq_eq_false_iff_ne, ne_eq, beq_iff_eq, bne_iff_ne, bne_eq_false_iff_eq, Classical.not_not] at g79
      refine Jp.y 80 rfl (want_as rfl rfl rfl rfl) rfl rfl Kp.true (Y.move rfl rfl) ?_
      refine Jp.y 81 rfl (want_as rfl rfl rfl rfl) rfl rfl Kp.true (Y.move rfl rfl) ?_
      refine Jp.y 82 rfl (want_as rfl rfl rfl rfl) rfl rfl Kp.true (Y.lenslice rfl Try.underlying22 rfl) ?_
      refine Jp.y 83 rfl (want_as rfl rfl rfl rfl) rfl rfl Kp.true (Y.mul_ rfl rfl rfl (by first | exact wrap_i64 (by omega) (by omega) | rfl)) ?_
      refine Jp.y 84 rfl (want_as rfl rfl rfl rfl) rfl rfl Kp.true (Y.conv_ rfl rfl Try.underlying3 Try.underlying26 (by first | exact wrap_u32 (by omega) (by omega) | rfl)) ?_
      refine Jp.y 85 rfl (want_as rfl rfl rfl rfl) rfl rfl Kp.true (Y.add_ rfl rfl rfl (by first | exact wrap_u32 (by omega) (by omega) | rfl)) ?_
      refine Jp.y 86 rfl (want_as rfl rfl rfl rfl) rfl rfl Kp.true (Y.add_ rfl rfl rfl (by first | exact wrap_u32 (by omega) (by omega) | rfl)) ?_
      refine Jp.y 87 rfl (want_as rfl rfl rfl rfl) rfl rfl Kp.true (Y.move rfl rfl) ?_
      refine Jp.y 88 rfl (want_as rfl rfl rfl rfl) rfl rfl Kp.true (Y.leq rfl rfl rfl) ?_
      refine Jp.y 89 rfl (want_all rfl) rfl rfl Kp.true (Y.pickT rfl rfl rfl) ?_
      refine Jp.y 2 rfl (want_all rfl) rfl rfl Kp.true (Y.assign rfl rfl) ?_
      refine Jp.done hK19 ?_
      refine Cd.ret [] rfl (res1 rfl rfl) trivial ⟨congrArg Value.bool (decide_eq_true (by omega)), rfl⟩
  · have hq2 : q.page = [] ∧ q.sp = 0 ∧ q.places = [] ∧ q.err ≠ 0 := by
      rw [← hq, buildP]
      by_cases hg : goodS (xs.map str) = true
      · rw [if_pos hg, if_neg (fun h => hgood ⟨hg, h⟩)]; exact ⟨rfl, rfl, rfl, by simp⟩
      · rw [if_neg hg]; exact ⟨rfl, rfl, rfl, by simp⟩
    obtain ⟨h1, h2, h3, h4⟩ := hq2
    refine Jp.y 13 rfl (want_all rfl) rfl rfl Kp.true (Y.move rfl rfl) ?_
    refine Jp.y 16 rfl (want_all rfl) rfl rfl Kp.true (Y.extract rfl rfl rfl) ?_
    refine Jp.y 17 rfl (want_all rfl) rfl rfl Kp.true (Y.extract rfl rfl rfl) ?_
    refine Jp.y 18 rfl (want_all rfl) rfl rfl Kp.true (Y.extract rfl rfl rfl) ?_
    refine Jp.y 19 rfl (want_all rfl) rfl rfl Kp.true (Y.extract rfl rfl rfl) ?_
    refine Jp.y 3 rfl (want_all rfl) rfl rfl Kp.true (Y.assign rfl rfl) ?_
    refine Jp.y 4 rfl (want_all rfl) rfl rfl Kp.true (Y.assign rfl rfl) ?_
    refine Jp.y 5 rfl (want_all rfl) rfl rfl Kp.true (Y.assign rfl rfl) ?_
    refine Jp.y 6 rfl (want_all rfl) rfl rfl Kp.true (Y.assign rfl rfl) ?_
    refine Jp.done hK7 ?_
    refine Cd.seq fun K20 hK20 => ?_
    refine Cd.seq fun K21 hK21 => ?_
    refine Cd.plain [(0, false), (1, false)] rfl rfl ?_
    refine Jp.y 20 rfl (want_all rfl) rfl rfl Kp.true (Y.move rfl rfl) ?_
    refine Jp.y 21 rfl (want_all rfl) rfl rfl Kp.true (Y.neq rfl rfl rfl) ?_
    refine Jp.done hK21 ?_
    refine Cd.cond rfl (fun ge => ?_) (fun ge => ?_)
    · rw [h1, h2, h3]
      refine Cd.seq fun K22 hK22 => ?_
      refine Cd.plain [(0, false), (1, false), (2, false), (3, false), (4, false), (5, false), (6, false), (7, false), (8, false), (9, false), (10, false), (11, false), (12, false)] rfl rfl ?_
      refine Jp.y 22 rfl (want_all rfl) rfl rfl Kp.true (Y.move rfl rfl) ?_
      refine Jp.y 23 rfl (want_all rfl) rfl rfl Kp.true (Y.lenslice rfl Try.underlying25 rfl) ?_
      refine Jp.y 24 rfl (want_all rfl) rfl rfl Kp.true (Y.eql rfl rfl rfl) ?_
      refine Jp.y 25 rfl (want_all rfl) rfl rfl Kp.true (Y.move rfl rfl) ?_
      refine Jp.splitF 25 rfl (fun g25 => ?_) (fun g25 => ?_)
      · skip
        exact absurd g25 (by simp)
      try simp only [decide_eq_false_iff_not, decide_eq_true_eq, Int.not_lt, Int.not_le, Bool.not_eq_false, Bool.not_eq_true, Bool.not_true, Bool.not_false, Bool.not_eq_true', Bool.not_eq_false', beq_eq_false_iff_ne, ne_eq, beq_iff_eq, bne_iff_ne, bne_eq_false_iff_eq, Classical.not_not] at g25
      refine Jp.y 26 rfl (want_as rfl rfl rfl rfl) rfl rfl Kp.true (Y.move rfl rfl) ?_
      refine Jp.y 27 rfl (want_as rfl rfl rfl rfl) rfl rfl Kp.true (Y.eql rfl rfl rfl) ?_
      refine Jp.y 28 rfl (want_all rfl) rfl rfl Kp.true (Y.pickT rfl rfl rfl) ?_
      refine Jp.y 29 rfl (want_all rfl) rfl rfl Kp.true (Y.move rfl rfl) ?_
      refine Jp.splitF 29 rfl (fun g29 => ?_) (fun g29 => ?_)
      · skip
        exact absurd g29 (by simp)
      try simp only [decide_eq_false_iff_not, decide_eq_true_eq, Int.not_lt, Int.not_le, Bool.not_eq_false, Bool.not_eq_true, Bool.not_true, Bool.not_false, Bool.not_eq_true', Bool.not_eq_false', beq_eq_false_iff_ne, ne_eq, beq_iff_eq, bne_iff_ne, bne_eq_false_iff_eq, Classical.not_not] at g29
      refine Jp.y 30 rfl (want_as rfl rfl rfl rfl) rfl rfl Kp.true (Y.move rfl rfl) ?_
      refine Jp.y 31 rfl (want_as rfl rfl rfl rfl) rfl rfl Kp.true (Y.lenslice rfl Try.underlying27 rfl) ?_
      refine Jp.y 32 rfl (want_as rfl rfl rfl rfl) rfl rfl Kp.true (Y.eql rfl rfl rfl) ?_
      refine Jp.y 33 rfl (want_all rfl) rfl rfl Kp.true (Y.pickT rfl rfl rfl) ?_
      refine Jp.y 2 rfl (want_all rfl) rfl rfl Kp.true (Y.assign rfl rfl) ?_
      refine Jp.done hK22 ?_
      refine Cd.ret [] rfl (res1 rfl rfl) trivial ⟨rfl, rfl⟩
    · exact absurd ge (by simp; omega)
end Go.Proofs.Ytgfbdiibndbbjaa

/- The laid stack in memory: plain laws. -/
set_option linter.unusedVariables false
set_option linter.unusedSimpArgs false
set_option maxRecDepth 100000
namespace Go.Proofs.Ytgfbdiibndbbjaa
open Go
theorem load_word {M : MemG} {a : Nat} {p : Pg} (hp : getPg M.pages (baseN a) = some p) (hl : p.b.length = 256) (hm : may p.perm 1 = true) (h4 : a % 4 = 0) : loadM M a 4 1 = (leN [byteM M a, byteM M (a + 1), byteM M (a + 2), byteM M (a + 3)], 0) := by
  have hs : sizeOk a 4 = true := by simp [sizeOk]; omega
  have hk : lookM M a 4 1 = 0 := by rw [lookM, hs, hp]; simp [hm]
  have hb : ∀ i, i < 4 → byteM M (a + i) = p.b.getD (a % 256 + i) 0 := fun i hi => by
    have h1 : baseN (a + i) = baseN a := by unfold baseN; omega
    have h2 : (a + i) % 256 = a % 256 + i := by omega
    rw [byteM, h1, hp]; dsimp only; rw [h2]
  have hlist : (p.b.drop (a % 256)).take 4 = [byteM M a, byteM M (a + 1), byteM M (a + 2), byteM M (a + 3)] := by
    have hh : a % 256 + 4 ≤ p.b.length := by omega
    apply List.ext_getElem?
    intro j
    rw [List.getElem?_take]
    by_cases hj : j < 4
    · rw [if_pos hj, List.getElem?_drop, List.getElem?_eq_getElem (by omega)]
      have h5 := hb j hj
      rw [List.getD_eq_getElem?_getD, List.getElem?_eq_getElem (by omega), Option.getD_some] at h5
      have : j = 0 ∨ j = 1 ∨ j = 2 ∨ j = 3 := by omega
      rcases this with rfl | rfl | rfl | rfl <;> simp [h5]
      exact h5.symm
    · rw [if_neg hj]
      have : ([byteM M a, byteM M (a + 1), byteM M (a + 2), byteM M (a + 3)] : Bytes)[j]? = none := by rw [List.getElem?_eq_none_iff]; simp; omega
      rw [this]
  rw [loadM, if_pos hk, hp]
  dsimp only
  rw [show ((4 : Int).toNat) = 4 from rfl, hlist]
end Go.Proofs.Ytgfbdiibndbbjaa

/- The bytes of the laid page. -/
set_option linter.unusedVariables false
set_option linter.unusedSimpArgs false
set_option maxRecDepth 100000
namespace Go.Proofs.Ytgfbdiibndbbjaa
open Go
theorem lay_getD {p : Bytes} {k : Nat} {b : Bytes} (h : k + b.length ≤ p.length) (j : Nat) : (lay p k b).getD j 0 = if k ≤ j ∧ j < k + b.length then b.getD (j - k) 0 else p.getD j 0 := by
  have hk : (p.take k).length = k := by rw [List.length_take]; omega
  simp only [List.getD_eq_getElem?_getD, lay]
  by_cases h1 : j < k
  · rw [if_neg (by omega), List.append_assoc, List.getElem?_append_left (by omega), List.getElem?_take, if_pos h1]
  · by_cases h2 : j < k + b.length
    · rw [if_pos ⟨by omega, h2⟩, List.append_assoc, List.getElem?_append_right (by omega), List.getElem?_append_left (by omega), hk]
    · rw [if_neg (by omega), List.getElem?_append_right (by rw [List.length_append]; omega), List.length_append, hk, List.getElem?_drop]
      rw [show k + b.length + (j - (k + b.length)) = j by omega]
theorem leN_le32 {x : Nat} (h : x < 4294967296) (b0 b1 b2 b3 : UInt8) (e : [b0, b1, b2, b3] = le32 (x : Int)) : leN [b0, b1, b2, b3] = x := by
  have e2 : le32 (x : Int) = leB x 4 := by
    have h8 : ∀ y : Nat, UInt8.ofNat (y % 256) = UInt8.ofNat y := fun y => UInt8.toNat_inj.1 (by simp [UInt8.toNat_ofNat'])
    simp only [le32, leB, byteAt, List.range, List.range.loop, List.map_cons, List.map_nil, Int.toNat_natCast, h8]
  rw [e, e2, leN_leB]; omega
theorem flatMap_at {α β : Type} {m : Nat} {c : α → List β} (hm : ∀ x, (c x).length = m) : ∀ (l : List α) (k j : Nat) (x : α), l[k]? = some x → j < m → (l.flatMap c)[k * m + j]? = (c x)[j]?
  | [], k, j, x, h, _ => by simp at h
  | y :: l, 0, j, x, h, hj => by
    simp at h; subst h
    rw [List.flatMap_cons, Nat.zero_mul, Nat.zero_add, List.getElem?_append_left (by rw [hm]; exact hj)]
  | y :: l, k + 1, j, x, h, hj => by
    rw [List.flatMap_cons, List.getElem?_append_right (by rw [hm, Nat.succ_mul]; omega), hm, show (k + 1) * m + j - m = k * m + j by rw [Nat.succ_mul]; omega]
    exact flatMap_at hm l k j x (by simpa using h) hj
/-- The words of the page. -/
def wordP (l : List Bytes) (i : Nat) : Nat := if i = 0 then l.length else if i ≤ l.length then addrP l (i - 1) else 0
theorem vecP_at (l : List Bytes) {i r : Nat} (hi : i ≤ l.length) (hr : r < 4) : (vecP l l.length)[4 * i + r]? = (le32 (wordP l i : Int))[r]? := by
  have hle : ∀ x : Int, (le32 x).length = 4 := fun _ => rfl
  rw [vecP]
  by_cases h0 : i = 0
  · subst h0
    rw [Nat.mul_zero, Nat.zero_add, List.getElem?_append_left (by rw [hle]; exact hr)]; rfl
  · rw [List.getElem?_append_right (by rw [hle]; omega), hle, show 4 * i + r - 4 = (i - 1) * 4 + r by omega]
    rw [flatMap_at (m := 4) (fun _ => rfl) (List.range l.length) (i - 1) r (i - 1) (by rw [List.getElem?_range (by omega)]) hr]
    rw [wordP, if_neg h0, if_pos hi]
theorem page_fit {l : List Bytes} (hT : (textP l).length ≤ 3000) (hn : l.length ≤ 20) : at0P l + (textP l).length = 4096 ∧ spP l + 4 * (l.length + 3) ≤ at0P l ∧ spP l % 16 = 0 := by
  have h1 : at0P l = 4096 - (textP l).length := rfl
  have h2 : spP l = (at0P l - 4 * (l.length + 3)) / 16 * 16 := rfl
  omega
theorem page_word {l : List Bytes} (hT : (textP l).length ≤ 3000) (hn : l.length ≤ 20) {i r : Nat} (hi : i < l.length + 3) (hr : r < 4) : (pageP l l.length).getD (spP l + 4 * i + r) 0 = (le32 (wordP l i : Int)).getD r 0 := by
  obtain ⟨f1, f2, f3⟩ := page_fit hT hn
  have hv := vecP_len l l.length
  have hl1 : (lay noughts (at0P l) (textP l)).length = 4096 := by rw [lay_length (by rw [noughts_length]; omega), noughts_length]
  rw [pageP, lay_getD (by rw [hl1]; omega)]
  by_cases h : i ≤ l.length
  · rw [if_pos (by omega), show spP l + 4 * i + r - spP l = 4 * i + r by omega, List.getD_eq_getElem?_getD, vecP_at l h hr, List.getD_eq_getElem?_getD]
  · rw [if_neg (by omega), lay_getD (by rw [noughts_length]; omega), if_neg (by omega)]
    have hw : wordP l i = 0 := by rw [wordP, if_neg (by omega), if_neg h]
    rw [hw]
    have h1 : noughts.getD (spP l + 4 * i + r) 0 = 0 := by
      rw [noughts, List.getD_eq_getElem?_getD, List.getElem?_replicate]; split <;> rfl
    rw [h1]
    have : r = 0 ∨ r = 1 ∨ r = 2 ∨ r = 3 := by omega
    rcases this with rfl | rfl | rfl | rfl <;> rfl
theorem page_text {l : List Bytes} (hT : (textP l).length ≤ 3000) (hn : l.length ≤ 20) {j : Nat} (hj : j < (textP l).length) : (pageP l l.length).getD (at0P l + j) 0 = (textP l).getD j 0 := by
  obtain ⟨f1, f2, f3⟩ := page_fit hT hn
  have hv := vecP_len l l.length
  have hl1 : (lay noughts (at0P l) (textP l)).length = 4096 := by rw [lay_length (by rw [noughts_length]; omega), noughts_length]
  rw [pageP, lay_getD (by rw [hl1]; omega), if_neg (by omega), lay_getD (by rw [noughts_length]; omega), if_pos (by omega), show at0P l + j - at0P l = j by omega]
end Go.Proofs.Ytgfbdiibndbbjaa

/- A laid page in memory: words are loaded, texts are read. -/
set_option linter.unusedVariables false
set_option linter.unusedSimpArgs false
set_option maxRecDepth 100000
namespace Go.Proofs.Ytgfbdiibndbbjaa
open Go
structure LaidM (M : MemG) (page : Bytes) : Prop where
  pg : ∀ k, k % 256 = 0 → 2147475456 ≤ k → k < 2147479552 → ∃ p, getPg M.pages k = some p ∧ p.b.length = 256 ∧ p.perm = 3
  byte : ∀ j, j < 4096 → byteM M (2147475456 + j) = page.getD j 0
theorem LaidM.load {M : MemG} {page : Bytes} (h : LaidM M page) {o x : Nat} (ho : o + 4 ≤ 4096) (h4 : o % 4 = 0) (hx : x < 4294967296) (hw : ∀ r, r < 4 → page.getD (o + r) 0 = (le32 (x : Int)).getD r 0) : loadM M (2147475456 + o) 4 1 = (x, 0) := by
  obtain ⟨p, h1, h2, h3⟩ := h.pg (baseN (2147475456 + o)) (by unfold baseN; omega) (by unfold baseN; omega) (by unfold baseN; omega)
  rw [load_word h1 h2 (by rw [h3]; decide) (by omega)]
  have hb : ∀ r, r < 4 → byteM M (2147475456 + o + r) = (le32 (x : Int)).getD r 0 := fun r hr => by
    rw [Nat.add_assoc, h.byte (o + r) (by omega), hw r hr]
  have h0 := hb 0 (by omega)
  rw [Nat.add_zero] at h0
  rw [h0, hb 1 (by omega), hb 2 (by omega), hb 3 (by omega)]
  exact congrArg (fun y => (y, (0 : Int))) (leN_le32 hx _ _ _ _ rfl)
theorem textP_split {l : List Bytes} {i : Nat} (hi : i < l.length) : textP l = textP (l.take i) ++ ((l[i] ++ [0]) ++ textP (l.drop (i + 1))) := by
  have h : l = l.take i ++ (l[i] :: l.drop (i + 1)) := by rw [← List.drop_eq_getElem_cons hi, List.take_append_drop]
  conv => lhs; rw [h]
  rw [textP, List.flatMap_append, List.flatMap_cons]; rfl
theorem textP_at {l : List Bytes} {i j : Nat} (hi : i < l.length) (hj : j < l[i].length + 1) : (textP l).getD ((textP (l.take i)).length + j) 0 = (l[i] ++ [0]).getD j 0 ∧ (textP (l.take i)).length + j < (textP l).length := by
  have hlen : (l[i] ++ [0]).length = l[i].length + 1 := by simp
  have h := textP_split hi
  refine ⟨?_, ?_⟩
  · rw [h, List.getD_eq_getElem?_getD, List.getElem?_append_right (by omega), Nat.add_sub_cancel_left, List.getElem?_append_left (by omega), List.getD_eq_getElem?_getD]
  · rw [h, List.length_append, List.length_append, hlen]; omega
theorem LaidM.read {M : MemG} {l : List Bytes} (h : LaidM M (pageP l l.length)) (hT : (textP l).length ≤ 3000) (hn : l.length ≤ 20) {i : Nat} (hi : i < l.length) : readM M (addrP l i) ((l[i].length : Int) + 1) = (l[i] ++ [0], 0) := by
  obtain ⟨f1, f2, f3⟩ := page_fit hT hn
  have hend := (textP_at (j := l[i].length) hi (by omega)).2
  have ha : addrP l i = 2147475456 + (at0P l + (textP (l.take i)).length) := by rw [addrP]; omega
  have hnat : ((l[i].length : Int) + 1).toNat = l[i].length + 1 := by omega
  have hall : allM M (addrP l i) (l[i].length + 1) 1 = true := allM_yes (by rw [ha]; omega) fun j hj => by
    rw [allCnt] at hj
    obtain ⟨p, h1, h2, h3⟩ := h.pg (baseN (addrP l i) + 256 * j) (by unfold baseN; omega) (by rw [ha] at hj ⊢; unfold baseN; omega) (by rw [ha] at hj ⊢; unfold baseN; omega)
    rw [pgOk_some h1, h3]; decide
  have hL : readL M (addrP l i) (l[i].length + 1) = l[i] ++ [0] := by
    apply List.ext_getElem?
    intro j
    by_cases hj : j < l[i].length + 1
    · have h5 := (textP_at hi hj)
      rw [readL, List.getElem?_map, List.getElem?_range hj, Option.map_some, ha, Nat.add_assoc, h.byte _ (by omega), Nat.add_assoc, page_text hT hn h5.2, h5.1, List.getD_eq_getElem?_getD, List.getElem?_eq_getElem (by simp; omega)]
      rfl
    · rw [List.getElem?_eq_none_iff.2 (by rw [readL_length]; omega), List.getElem?_eq_none_iff.2 (by simp; omega)]
  rw [readM, if_neg (by omega), hnat, if_neg (by rw [hall]; simp), hL]
end Go.Proofs.Ytgfbdiibndbbjaa

/- StackFinds. -/
set_option linter.unusedVariables false
set_option linter.unusedSimpArgs false
set_option maxRecDepth 100000
namespace Go.Proofs.Ytgfbdiibndbbjaa
open Go
def baseL (N : Nat) : MemG := (mapM (newM N) 2147475456 4096 3).2
/-- The pages of the stack are there, all noughts. -/
structure BaseOk (N : Nat) : Prop where
  pg : ∀ k, k % 256 = 0 → 2147475456 ≤ k → k < 2147479552 → getPg (baseL N).pages k = some ⟨List.replicate 256 0, 3⟩
  all : allM (baseL N) 2147475456 4096 0 = true
  map : (mapM (newM N) 2147475456 4096 3).1 = 0
theorem base20 : BaseOk 20 := ⟨fun k h1 h2 h3 => by
  obtain ⟨j, hj, rfl⟩ : ∃ j, j < 16 ∧ k = 2147475456 + 256 * j := ⟨(k - 2147475456) / 256, by omega, by omega⟩
  have : j = 0 ∨ j = 1 ∨ j = 2 ∨ j = 3 ∨ j = 4 ∨ j = 5 ∨ j = 6 ∨ j = 7 ∨ j = 8 ∨ j = 9 ∨ j = 10 ∨ j = 11 ∨ j = 12 ∨ j = 13 ∨ j = 14 ∨ j = 15 := by omega
  rcases this with rfl | rfl | rfl | rfl | rfl | rfl | rfl | rfl | rfl | rfl | rfl | rfl | rfl | rfl | rfl | rfl <;> rfl, by decide +kernel, by decide +kernel⟩
theorem base16 : BaseOk 16 := ⟨fun k h1 h2 h3 => by
  obtain ⟨j, hj, rfl⟩ : ∃ j, j < 16 ∧ k = 2147475456 + 256 * j := ⟨(k - 2147475456) / 256, by omega, by omega⟩
  have : j = 0 ∨ j = 1 ∨ j = 2 ∨ j = 3 ∨ j = 4 ∨ j = 5 ∨ j = 6 ∨ j = 7 ∨ j = 8 ∨ j = 9 ∨ j = 10 ∨ j = 11 ∨ j = 12 ∨ j = 13 ∨ j = 14 ∨ j = 15 := by omega
  rcases this with rfl | rfl | rfl | rfl | rfl | rfl | rfl | rfl | rfl | rfl | rfl | rfl | rfl | rfl | rfl | rfl <;> rfl, by decide +kernel, by decide +kernel⟩
theorem laidN {N : Nat} (hB : BaseOk N) {l : List Bytes} (hb : (buildP l).err = 0) (hn : l.length ≤ 20) : (textP l).length ≤ 3000 ∧ ∃ M2, layM (newM N) l = ⟨2147475456 + spP l, placesP l l.length, 0, M2⟩ ∧ LaidM M2 (pageP l l.length) ∧ M2.pages.map (·.1) = (baseL N).pages.map (·.1) := by
  have hT : (textP l).length ≤ 3000 ∧ buildP l = ⟨pageP l l.length, 2147475456 + spP l, placesP l l.length, 0⟩ := by
    rw [buildP] at hb ⊢
    split at hb
    · rename_i hg
      split at hb
      · rename_i hT
        rw [if_pos hg, if_pos hT]; exact ⟨hT, rfl⟩
      · cases hb
    · cases hb
  obtain ⟨hT, hq⟩ := hT
  obtain ⟨f1, f2, f3⟩ := page_fit hT hn
  have hv := vecP_len l l.length
  have hl1 : (lay noughts (at0P l) (textP l)).length = 4096 := by rw [lay_length (by rw [noughts_length]; omega), noughts_length]
  have hl : (pageP l l.length).length = 4096 := by rw [pageP, lay_length (by rw [hl1]; omega), hl1]
  have hA := hB.all
  have hM := hB.map
  have hM2 : (mapM (newM N) 2147475456 4096 3).2 = (baseL N) := rfl
  have hW : writeM (baseL N) 2147475456 (pageP l l.length) 65536 0 = (0, wrM (baseL N) 2147475456 (pageP l l.length) 4096) := by
    rw [writeM, if_neg (by rw [hl]; omega), hl, if_neg (by rw [hA]; simp)]
  refine ⟨hT, wrM (baseL N) 2147475456 (pageP l l.length) 4096, ?_, ?_, wrM_keys _ _ _ _⟩
  · rw [layM, hq, hM, hM2]
    dsimp only
    rw [if_pos rfl, if_pos rfl, hW]; rfl
  · refine ⟨fun k h1 h2 h3 => ?_, fun j hj => ?_⟩
    · obtain ⟨q, q1, q2, q3⟩ := wrM_page 2147475456 (pageP l l.length) (hB.pg k h1 h2 h3) 4096
      exact ⟨q, q1, by rw [q3]; exact List.length_replicate, q2⟩
    · rw [byte_wrM (fun i hi => ⟨_, hB.pg _ (by unfold baseN; omega) (by unfold baseN; omega) (by unfold baseN; omega), List.length_replicate⟩), if_pos (by omega), Nat.add_sub_cancel_left]
theorem stackFinds_spec (s : Sl ByteArray) : Spec Try.prog 8 #[s.v] (RdStr s) [] (fun ρ ρ' v L => v = .bool true ∧ L = []) := by
  obtain ⟨A, c, xs⟩ := s
  dsimp only [Sl.v]
  refine Spec.of 131 Try.func8 rfl Try.ntmps8 [(0, _)] rfl rfl ?_
  intro cx ρ hr h0
  refine Cd.seq fun K1 hK1 => ?_
  refine Cd.plain [(0, false)] rfl rfl ?_
  refine Jp.y 2 rfl (want_all rfl) rfl rfl Kp.true (Y.assign rfl rfl) ?_
  refine Jp.done hK1 ?_
  refine Cd.seq fun K2 hK2 => ?_
  refine Cd.seq fun K3 hK3 => ?_
  refine Cd.plain [(0, false), (1, false)] rfl rfl ?_
  refine Jp.call [] [] f15_spec 19 rfl (want_all rfl) rfl rfl (Runs.fn rfl Try.call15 rfl) (by decide) (by decide) rfl trivial ?_
  rintro v1 ρ1 L1 ⟨rfl, rfl⟩
  refine ⟨rfl, fun hle1 => ⟨Kp.true, ?_⟩⟩
  have hr := RdStr.up _ _ _ hle1 hr
  refine Jp.y 20 rfl (want_all rfl) rfl rfl Kp.true (Y.not rfl rfl) ?_
  refine Jp.done hK3 ?_
  refine Cd.cond rfl (fun g20 => ?_) (fun g20 => ?_)
  · skip
    exact absurd g20 (by simp)
  try simp only [decide_eq_false_iff_not, decide_eq_true_eq, Int.not_lt, Int.not_le, Bool.not_eq_false, Bool.not_eq_true, Bool.not_true, Bool.not_false, Bool.not_eq_true', Bool.not_eq_false', beq_eq_false_iff_ne, ne_eq, beq_iff_eq, bne_iff_ne, bne_eq_false_iff_eq, Classical.not_not] at g20
  refine Cd.skip hK2 ?_
  refine Cd.seq fun K4 hK4 => ?_
  refine Cd.plain [(0, false), (1, false), (2, false), (3, false), (4, false), (5, false)] rfl rfl ?_
  refine Jp.call [] [0] (new_yes 20 (by omega)) 22 rfl (want_all rfl) rfl rfl (Runs.fn rfl Try.call19 rfl) (by decide) (by decide) rfl trivial ?_
  rintro v2 ρ2 L2 ⟨rfl, b, rfl, rfl⟩
  refine ⟨rfl, fun hle2 => ⟨Kp.true, ?_⟩⟩
  refine Jp.y 21 rfl (want_all rfl) rfl rfl Kp.true (Y.move rfl rfl) ?_
  refine Jp.y 23 rfl (want_all rfl) rfl rfl Kp.true (Y.extract rfl rfl rfl) ?_
  refine Jp.y 24 rfl (want_all rfl) rfl rfl Kp.true (Y.extract rfl rfl rfl) ?_
  refine Jp.y 3 rfl (want_all rfl) rfl rfl Kp.true (Y.assign rfl rfl) ?_
  refine Jp.y 4 rfl (want_all rfl) rfl rfl Kp.true (Y.assign rfl rfl) ?_
  refine Jp.done hK4 ?_
  refine Cd.seq fun K5 hK5 => ?_
  refine Cd.seq fun K6 hK6 => ?_
  refine Cd.plain [(0, false), (1, false)] rfl rfl ?_
  refine Jp.y 25 rfl (want_all rfl) rfl rfl Kp.true (Y.move rfl rfl) ?_
  refine Jp.call [] [] (f16_spec ⟨A, c, xs⟩) 26 rfl (want_all rfl) rfl rfl (Runs.fn rfl Try.call16 rfl) (by decide) (by decide) rfl hr ?_
  rintro v3 ρ3 L3 ⟨rfl, ⟨gr, rfl, hgr⟩, rfl⟩
  refine ⟨rfl, fun hle3 => ⟨Kp.true, ?_⟩⟩
  refine Jp.done hK6 ?_
  refine Cd.cond rfl (fun g26 => ?_) (fun g26 => ?_)
  · skip
    refine Cd.seq fun K7 hK7 => ?_
    refine Cd.plain [(0, false)] rfl rfl ?_
    refine Jp.y 2 rfl (want_all rfl) rfl rfl Kp.true (Y.assign rfl rfl) ?_
    refine Jp.done hK7 ?_
    refine Cd.ret [] rfl (res1 rfl rfl) trivial ⟨rfl, rfl⟩
  try simp only [decide_eq_false_iff_not, decide_eq_true_eq, Int.not_lt, Int.not_le, Bool.not_eq_false, Bool.not_eq_true, Bool.not_true, Bool.not_false, Bool.not_eq_true', Bool.not_eq_false', beq_eq_false_iff_ne, ne_eq, beq_iff_eq, bne_iff_ne, bne_eq_false_iff_eq, Classical.not_not] at g26
  refine Cd.skip hK5 ?_
  refine Cd.seq fun K8 hK8 => ?_
  refine Cd.plain [(0, false), (1, false), (2, false), (3, false), (4, false), (5, false), (6, false), (7, false), (8, false), (9, false)] rfl rfl ?_
  obtain ⟨hn, hs⟩ := hgr g26
  have hn : xs.length ≤ 20 := hn
  have hs : ∀ a ∈ xs, a.size ≤ 400 := hs
  have hml : (xs.map str).length = xs.length := List.length_map ..
  refine Jp.y 28 rfl (want_all rfl) rfl rfl Kp.true (Y.move rfl rfl) ?_
  refine Jp.y 29 rfl (want_all rfl) rfl rfl Kp.true (Y.move rfl rfl) ?_
  refine Jp.call [0] [0, 1] (lay_spec b (newM 20) ⟨A, c, xs⟩ hn (fun a ha => Nat.le_trans (hs a ha) (by omega))) 30 rfl (want_all rfl) rfl rfl (Runs.fn rfl Try.call28 rfl) (by decide) (by decide) rfl hr ?_
  rintro v4 ρ4 L4 ⟨A4, c4, rfl, rfl⟩
  refine ⟨rfl, fun hle4 => ⟨Kp.true, ?_⟩⟩
  have hr := RdStr.up _ _ _ hle4 hr
  by_cases hb : (buildP (xs.map str)).err = 0
  · obtain ⟨hT, M2, hL, hM, _⟩ := laidN base20 hb (by omega)
    have hL : layM (newM 20) ((⟨A, c, xs⟩ : Sl ByteArray).xs.map str) = _ := hL
    rw [hL]
    dsimp only
    obtain ⟨f1, f2, f3⟩ := page_fit hT (by omega)
    have hwd : ∀ i, i < xs.length + 3 → loadM M2 (2147475456 + (spP (xs.map str) + 4 * i)) 4 1 = (wordP (xs.map str) i, 0) := fun i hi => by
      refine hM.load (by omega) (by omega) ?_ (fun r hr => page_word hT (by omega) (by omega) hr)
      unfold wordP
      split
      · omega
      · split
        · have h2 : (textP ((xs.map str).take (i - 1))).length ≤ (textP (xs.map str)).length := by
            have := congrArg (fun l => (textP l).length) (List.take_append_drop (i - 1) (xs.map str))
            simp only [textP, List.flatMap_append, List.length_append] at this
            simp only [textP]; omega
          rw [addrP]; omega
        · omega
    have hw0 := hwd 0 (by omega)
    rw [show 2147475456 + (spP (xs.map str) + 4 * 0) = 2147475456 + spP (xs.map str) by omega, show wordP (xs.map str) 0 = xs.length by rw [wordP, if_pos rfl, hml]] at hw0
    refine Jp.y 27 rfl (want_all rfl) rfl rfl Kp.true (Y.move rfl rfl) ?_
    refine Jp.y 31 rfl (want_all rfl) rfl rfl Kp.true (Y.extract rfl rfl rfl) ?_
    refine Jp.y 32 rfl (want_all rfl) rfl rfl Kp.true (Y.extract rfl rfl rfl) ?_
    refine Jp.y 33 rfl (want_all rfl) rfl rfl Kp.true (Y.extract rfl rfl rfl) ?_
    refine Jp.y 5 rfl (want_all rfl) rfl rfl Kp.true (Y.assign rfl rfl) ?_
    refine Jp.y 6 rfl (want_all rfl) rfl rfl Kp.true (Y.assign rfl rfl) ?_
    refine Jp.y 7 rfl (want_all rfl) rfl rfl Kp.true (Y.assign rfl rfl) ?_
    refine Jp.done hK8 ?_
    refine Cd.seq fun K9 hK9 => ?_
    refine Cd.seq fun K10 hK10 => ?_
    refine Cd.plain [(0, false), (1, false)] rfl rfl ?_
    refine Jp.y 34 rfl (want_all rfl) rfl rfl Kp.true (Y.move rfl rfl) ?_
    refine Jp.y 35 rfl (want_all rfl) rfl rfl Kp.true (Y.neq rfl rfl rfl) ?_
    refine Jp.done hK10 ?_
    refine Cd.cond rfl (fun g35 => ?_) (fun g35 => ?_)
    · skip
      exact absurd g35 (by simp)
    try simp only [decide_eq_false_iff_not, decide_eq_true_eq, Int.not_lt, Int.not_le, Bool.not_eq_false, Bool.not_eq_true, Bool.not_true, Bool.not_false, Bool.not_eq_true', Bool.not_eq_false', beq_eq_false_iff_ne, ne_eq, beq_iff_eq, bne_iff_ne, bne_eq_false_iff_eq, Classical.not_not] at g35
    refine Cd.skip hK9 ?_
    refine Cd.seq fun K11 hK11 => ?_
    refine Cd.plain [(0, false), (1, false), (2, false), (3, false), (4, false), (5, false), (6, false), (7, false)] rfl rfl ?_
    refine Jp.y 37 rfl (want_all rfl) rfl rfl Kp.true (Y.move rfl rfl) ?_
    refine Jp.y 38 rfl (want_all rfl) rfl rfl Kp.true (Y.move rfl rfl) ?_
    refine Jp.call [0] [0] (load_eq (by omega) hw0) 39 rfl (want_all rfl) rfl rfl (Runs.fn rfl Try.call22 rfl) (by decide) (by decide) rfl trivial ?_
    rintro v5 ρ5 L5 ⟨rfl, rfl, rfl⟩
    refine ⟨rfl, fun hle5 => ⟨Kp.true, ?_⟩⟩
    refine Jp.y 36 rfl (want_all rfl) rfl rfl Kp.true (Y.move rfl rfl) ?_
    refine Jp.y 40 rfl (want_all rfl) rfl rfl Kp.true (Y.extract rfl rfl rfl) ?_
    refine Jp.y 41 rfl (want_all rfl) rfl rfl Kp.true (Y.extract rfl rfl rfl) ?_
    refine Jp.y 8 rfl (want_all rfl) rfl rfl Kp.true (Y.assign rfl rfl) ?_
    refine Jp.y 9 rfl (want_all rfl) rfl rfl Kp.true (Y.assign rfl rfl) ?_
    refine Jp.done hK11 ?_
    refine Cd.seq fun K12 hK12 => ?_
    refine Cd.seq fun K13 hK13 => ?_
    refine Cd.plain [(0, false), (1, false), (2, false), (3, false), (4, false), (5, false), (6, false), (7, false), (8, false), (9, false), (10, false), (11, false), (12, false), (13, false)] rfl rfl ?_
    refine Jp.y 42 rfl (want_all rfl) rfl rfl Kp.true (Y.move rfl rfl) ?_
    refine Jp.y 43 rfl (want_all rfl) rfl rfl Kp.true (Y.neq rfl rfl rfl) ?_
    refine Jp.y 44 rfl (want_all rfl) rfl rfl Kp.true (Y.move rfl rfl) ?_
    refine Jp.split 44 rfl (fun g44 => ?_) (fun g44 => ?_)
    · skip
      exact absurd g44 (by first | (simp; done) | (simp; omega))
    try simp only [decide_eq_false_iff_not, decide_eq_true_eq, Int.not_lt, Int.not_le, Bool.not_eq_false, Bool.not_eq_true, Bool.not_true, Bool.not_false, Bool.not_eq_true', Bool.not_eq_false', beq_eq_false_iff_ne, ne_eq, beq_iff_eq, bne_iff_ne, bne_eq_false_iff_eq, Classical.not_not] at g44
    refine Jp.y 45 rfl (want_as rfl rfl rfl rfl) rfl rfl Kp.true (Y.move rfl rfl) ?_
    refine Jp.y 46 rfl (want_as rfl rfl rfl rfl) rfl rfl Kp.true (Y.conv_ rfl rfl Try.underlying26 Try.underlying3 (by first | exact wrap_i64 (by omega) (by omega) | rfl)) ?_
    refine Jp.y 47 rfl (want_as rfl rfl rfl rfl) rfl rfl Kp.true (Y.move rfl rfl) ?_
    refine Jp.y 48 rfl (want_as rfl rfl rfl rfl) rfl rfl Kp.true (Y.lenslice rfl Try.underlying22 rfl) ?_
    refine Jp.y 49 rfl (want_as rfl rfl rfl rfl) rfl rfl Kp.true (Y.neq rfl rfl rfl) ?_
    refine Jp.y 50 rfl (want_all rfl) rfl rfl Kp.true (Y.pickF rfl rfl rfl) ?_
    refine Jp.y 51 rfl (want_all rfl) rfl rfl Kp.true (Y.move rfl rfl) ?_
    refine Jp.split 51 rfl (fun g51 => ?_) (fun g51 => ?_)
    · skip
      exact absurd g51 (by first | (simp; done) | (simp; omega))
    try simp only [decide_eq_false_iff_not, decide_eq_true_eq, Int.not_lt, Int.not_le, Bool.not_eq_false, Bool.not_eq_true, Bool.not_true, Bool.not_false, Bool.not_eq_true', Bool.not_eq_false', beq_eq_false_iff_ne, ne_eq, beq_iff_eq, bne_iff_ne, bne_eq_false_iff_eq, Classical.not_not] at g51
    refine Jp.y 52 rfl (want_as rfl rfl rfl rfl) rfl rfl Kp.true (Y.move rfl rfl) ?_
    refine Jp.y 53 rfl (want_as rfl rfl rfl rfl) rfl rfl Kp.true (by first | exact Y.remN rfl rfl rfl (by omega) (by omega) | exact Y.rem rfl rfl rfl (by first | decide | omega)) ?_
    refine Jp.y 54 rfl (want_as rfl rfl rfl rfl) rfl rfl Kp.true (Y.neq rfl rfl rfl) ?_
    refine Jp.y 55 rfl (want_all rfl) rfl rfl Kp.true (Y.pickF rfl rfl rfl) ?_
    refine Jp.done hK13 ?_
    refine Cd.cond rfl (fun g55 => ?_) (fun g55 => ?_)
    · skip
      exact absurd g55 (by first | (simp; done) | (simp; omega))
    try simp only [decide_eq_false_iff_not, decide_eq_true_eq, Int.not_lt, Int.not_le, Bool.not_eq_false, Bool.not_eq_true, Bool.not_true, Bool.not_false, Bool.not_eq_true', Bool.not_eq_false', beq_eq_false_iff_ne, ne_eq, beq_iff_eq, bne_iff_ne, bne_eq_false_iff_eq, Classical.not_not] at g55
    refine Cd.skip hK12 ?_
    refine Cd.seq fun K14 hK14 => ?_
    refine Cd.seq fun K15 hK15 => ?_
    refine Cd.plain [(0, false)] rfl rfl ?_
    refine Jp.y 10 rfl (want_all rfl) rfl rfl Kp.true (Y.assign rfl rfl) ?_
    refine Jp.done hK15 ?_
    refine Cd.block ?_
    refine Cd.loopK (G := Nat) (fun k => k ≤ xs.length) (fun k => xs.length - k) (fun _ => _) (fun k => [(10, .int .i64 (k : Int))]) [(0, _), (3, _), (5, _)] (fun _ => []) [(0, _)] 0 (Nat.zero_le _) rfl ⟨rfl, trivial⟩ ⟨rfl, rfl, rfl, trivial⟩ trivial ⟨rfl, trivial⟩ (fun g KLa hok hLa => ?_)
    have hg : g ≤ xs.length := hok
    refine Cd.seq fun K16 hK16 => ?_
    refine Cd.seq fun K17 hK17 => ?_
    refine Cd.plain [(0, false), (1, false), (2, false), (3, false)] rfl rfl ?_
    refine Jp.y 56 rfl (want_all rfl) rfl rfl Kp.true (Y.move rfl rfl) ?_
    refine Jp.y 57 rfl (want_all rfl) rfl rfl Kp.true (Y.move rfl rfl) ?_
    refine Jp.y 58 rfl (want_all rfl) rfl rfl Kp.true (Y.lenslice rfl Try.underlying22 rfl) ?_
    refine Jp.y 59 rfl (want_all rfl) rfl rfl Kp.true (Y.lss rfl rfl rfl) ?_
    refine Jp.done hK17 ?_
    refine Cd.cond rfl (fun ga => ?_) (fun ga => ?_)
    · simp only [decide_eq_true_eq] at ga
      have hi : g < xs.length := by omega
      obtain ⟨ad, rfl⟩ := hr.some (show 0 < xs.length * 1 by omega)
      have hcell : cellH ρ5 (ad.add g) = some (.string xs[g]) := hr.cell (by simp [strsV, hi])
      have hz := hs xs[g] (List.getElem_mem hi)
      have hz2 := str_size xs[g]
      have hwg := hwd (g + 1) (by omega)
      have hwe : wordP (xs.map str) (g + 1) = addrP (xs.map str) g := by rw [wordP, if_neg (by omega), if_pos (by omega)]; rfl
      rw [hwe] at hwg
      have hrd : readM M2 (addrP (xs.map str) g) ((xs[g].size : Int) + 1) = (str xs[g] ++ [0], 0) := by
        have := hM.read hT (by omega) (i := g) (by omega)
        rw [List.getElem_map, ← hz2] at this; exact this
      have hab : addrP (xs.map str) g < 4294967296 := by
        have h2 : (textP ((xs.map str).take g)).length ≤ (textP (xs.map str)).length := by
          have := congrArg (fun l => (textP l).length) (List.take_append_drop g (xs.map str))
          simp only [textP, List.flatMap_append, List.length_append] at this
          simp only [textP]; omega
        rw [addrP]; omega
      refine Cd.skip hK16 ?_
      refine Cd.seq fun K18 hK18 => ?_
      refine Cd.block ?_
      refine Cd.seq fun K19 hK19 => ?_
      refine Cd.plain [(0, false), (1, false), (2, false), (3, false), (4, false), (5, false), (6, false), (7, false), (8, false), (9, false), (10, false), (11, false), (12, false)] rfl rfl ?_
      refine Jp.y 63 rfl (want_all rfl) rfl rfl Kp.true (Y.move rfl rfl) ?_
      refine Jp.y 64 rfl (want_all rfl) rfl rfl Kp.true (Y.move rfl rfl) ?_
      refine Jp.y 65 rfl (want_all rfl) rfl rfl Kp.true (Y.move rfl rfl) ?_
      refine Jp.y 66 rfl (want_all rfl) rfl rfl Kp.true (Y.mul_ rfl rfl rfl (by first | exact wrap_i64 (by omega) (by omega) | rfl)) ?_
      refine Jp.y 67 rfl (want_all rfl) rfl rfl Kp.true (Y.add_ rfl rfl rfl (by first | exact wrap_i64 (by omega) (by omega) | rfl)) ?_
      refine Jp.y 68 rfl (want_all rfl) rfl rfl Kp.true (Y.conv_ rfl rfl Try.underlying3 Try.underlying26 (by first | exact wrap_u32 (by omega) (by omega) | rfl)) ?_
      refine Jp.y 69 rfl (want_all rfl) rfl rfl Kp.true (Y.add_ rfl rfl rfl (by first | exact wrap_u32 (by omega) (by omega) | rfl)) ?_
      refine Jp.slot 69 rfl (show _ = Value.int .u32 ((2147475456 + (spP (xs.map str) + 4 * (g + 1)) : Nat) : Int) from congrArg (Value.int .u32) (by omega)) ?_
      refine Jp.call [0] [0] (load_eq (by omega) hwg) 70 rfl (want_all rfl) rfl rfl (Runs.fn rfl Try.call22 rfl) (by decide) (by decide) rfl trivial ?_
      rintro v6 ρ6 L6 ⟨rfl, rfl, rfl⟩
      refine ⟨rfl, fun hle6 => ⟨Kp.true, ?_⟩⟩
      refine Jp.y 62 rfl (want_all rfl) rfl rfl Kp.true (Y.move rfl rfl) ?_
      refine Jp.y 71 rfl (want_all rfl) rfl rfl Kp.true (Y.extract rfl rfl rfl) ?_
      refine Jp.y 72 rfl (want_all rfl) rfl rfl Kp.true (Y.extract rfl rfl rfl) ?_
      refine Jp.y 11 rfl (want_all rfl) rfl rfl Kp.true (Y.assign rfl rfl) ?_
      refine Jp.y 12 rfl (want_all rfl) rfl rfl Kp.true (Y.assign rfl rfl) ?_
      refine Jp.done hK19 ?_
      refine Cd.seq fun K20 hK20 => ?_
      refine Cd.plain [(0, false), (1, false), (2, false), (3, false), (4, false), (5, false), (6, false), (7, false), (8, false), (9, false), (10, false), (11, false), (12, false), (13, false)] rfl rfl ?_
      refine Jp.y 74 rfl (want_all rfl) rfl rfl Kp.true (Y.move rfl rfl) ?_
      refine Jp.y 75 rfl (want_all rfl) rfl rfl Kp.true (Y.move rfl rfl) ?_
      refine Jp.y 76 rfl (want_all rfl) rfl rfl Kp.true (Y.move rfl rfl) ?_
      refine Jp.y 77 rfl (want_all rfl) rfl rfl Kp.true (Y.move rfl rfl) ?_
      refine Jp.y 78 rfl (want_all rfl) rfl rfl Kp.true (Y.indexAddr (q := g) rfl rfl rfl Try.underlying22 Try.sizeOf9 (by omega) (by omega) (by omega)) ?_
      refine Jp.y 79 rfl (want_all rfl) rfl rfl Kp.true (Y.loadR rfl Try.isAgg9 rfl hcell) ?_
      refine Jp.y 80 rfl (want_all rfl) rfl rfl Kp.true (Y.lenstr rfl Try.underlying9 rfl) ?_
      refine Jp.y 81 rfl (want_all rfl) rfl rfl Kp.true (Y.add_ rfl rfl rfl (by first | exact wrap_i64 (by omega) (by omega) | rfl)) ?_
      refine Jp.call [0] [0, 5] (read_eq hab hrd) 82 rfl (want_all rfl) rfl rfl (Runs.fn rfl Try.call23 rfl) (by decide) (by decide) rfl trivial ?_
      rintro v7 ρ7 L7 ⟨rfl, A7, c7, rfl, rfl⟩
      refine ⟨rfl, fun hle7 => ⟨Kp.true, ?_⟩⟩
      refine Jp.y 73 rfl (want_all rfl) rfl rfl Kp.true (Y.move rfl rfl) ?_
      refine Jp.y 83 rfl (want_all rfl) rfl rfl Kp.true (Y.extract rfl rfl rfl) ?_
      refine Jp.y 84 rfl (want_all rfl) rfl rfl Kp.true (Y.extract rfl rfl rfl) ?_
      refine Jp.y 13 rfl (want_all rfl) rfl rfl Kp.true (Y.assign rfl rfl) ?_
      refine Jp.y 14 rfl (want_all rfl) rfl rfl Kp.true (Y.assign rfl rfl) ?_
      refine Jp.done hK20 ?_
      refine Cd.seq fun K21 hK21 => ?_
      refine Cd.drawn [(0, _), (5, _)] ⟨rfl, rfl, trivial⟩ [(0, true), (1, true), (2, true), (3, true), (4, true), (5, true), (6, true), (7, true), (8, true), (9, true), (10, true), (11, true), (12, true), (13, true), (14, true), (15, true)] follows (by kernel_rfl) (fun hrl => ?_)
      refine Jp.q 85 rfl (want_all rfl) rfl rfl (Y.move rfl rfl) ?_
      refine Jp.q 86 rfl (want_all rfl) rfl rfl (Y.neq rfl rfl rfl) ?_
      refine Jp.q 87 rfl (want_all rfl) rfl rfl (Y.move rfl rfl) ?_
      refine Jp.split 87 rfl (fun g87 => ?_) (fun g87 => ?_)
      · skip
        exact absurd g87 (by simp)
      try simp only [decide_eq_false_iff_not, decide_eq_true_eq, Int.not_lt, Int.not_le, Bool.not_eq_false, Bool.not_eq_true, Bool.not_true, Bool.not_false, Bool.not_eq_true', Bool.not_eq_false', beq_eq_false_iff_ne, ne_eq, beq_iff_eq, bne_iff_ne, bne_eq_false_iff_eq, Classical.not_not] at g87
      refine Jp.q 88 rfl (want_as rfl rfl rfl rfl) rfl rfl (Y.move rfl rfl) ?_
      refine Jp.q 89 rfl (want_as rfl rfl rfl rfl) rfl rfl (Y.neq rfl rfl rfl) ?_
      refine Jp.q 90 rfl (want_all rfl) rfl rfl (Y.pickF rfl rfl rfl) ?_
      refine Jp.q 91 rfl (want_all rfl) rfl rfl (Y.move rfl rfl) ?_
      refine Jp.split 91 rfl (fun g91 => ?_) (fun g91 => ?_)
      · skip
        exact absurd g91 (by simp)
      try simp only [decide_eq_false_iff_not, decide_eq_true_eq, Int.not_lt, Int.not_le, Bool.not_eq_false, Bool.not_eq_true, Bool.not_true, Bool.not_false, Bool.not_eq_true', Bool.not_eq_false', beq_eq_false_iff_ne, ne_eq, beq_iff_eq, bne_iff_ne, bne_eq_false_iff_eq, Classical.not_not] at g91
      refine Jp.q 92 rfl (want_as rfl rfl rfl rfl) rfl rfl (Y.move rfl rfl) ?_
      refine Jp.q 93 rfl (want_as rfl rfl rfl rfl) rfl rfl (Y.toStr _ rfl rfl Try.underlying25 Try.underlying9 Try.underlying5 ⟨_, _, rfl⟩ (Src.own 5 rfl)) ?_
      refine Jp.q 94 rfl (want_as rfl rfl rfl rfl) rfl rfl (Y.move rfl rfl) ?_
      refine Jp.q 95 rfl (want_as rfl rfl rfl rfl) rfl rfl (Y.move rfl rfl) ?_
      refine Jp.q 96 rfl (want_as rfl rfl rfl rfl) rfl rfl (Y.indexAddr (q := g) rfl rfl rfl Try.underlying22 Try.sizeOf9 (by omega) (by omega) (by omega)) ?_
      refine Jp.q 97 rfl (want_as rfl rfl rfl rfl) rfl rfl (Y.loadR rfl Try.isAgg9 rfl hcell) ?_
      refine Jp.q 98 rfl (want_as rfl rfl rfl rfl) rfl rfl (Y.stradd' rfl rfl rfl (show (str xs[g]).length + 1 ≤ 9223372036854775807 by omega)) ?_
      refine Jp.q 99 rfl (want_as rfl rfl rfl rfl) rfl rfl (Y.strneq rfl rfl rfl) ?_
      refine Jp.q 100 rfl (want_all rfl) rfl rfl (Y.pickF rfl rfl rfl) ?_
      refine Jp.done hK21 ?_
      refine Cd.cond rfl (fun g100 => ?_) (fun g100 => ?_)
      · skip
        exact absurd g100 (by rw [str_mkS, str_mkS, show str ⟨#[0]⟩ = [0] from rfl]; simp)
      try simp only [decide_eq_false_iff_not, decide_eq_true_eq, Int.not_lt, Int.not_le, Bool.not_eq_false, Bool.not_eq_true, Bool.not_true, Bool.not_false, Bool.not_eq_true', Bool.not_eq_false', beq_eq_false_iff_ne, ne_eq, beq_iff_eq, bne_iff_ne, bne_eq_false_iff_eq, Classical.not_not] at g100
      refine Cd.over rfl hK18 ?_
      refine Cd.plain [(0, false), (1, false), (2, false)] rfl rfl ?_
      refine Jp.y 60 rfl (want_all rfl) rfl rfl Kp.true (Y.move rfl rfl) ?_
      refine Jp.y 61 rfl (want_all rfl) rfl rfl Kp.true (Y.add_ rfl rfl rfl (by first | exact wrap_i64 (by omega) (by omega) | rfl)) ?_
      refine Jp.y 10 rfl (want_all rfl) rfl rfl Kp.true (Y.assign rfl rfl) ?_
      rw [show (g : Int) + 1 = ((g + 1 : Nat) : Int) by omega]
      refine Jp.again hLa (g + 1) (show g + 1 ≤ xs.length by omega) (show xs.length - (g + 1) < xs.length - g by omega) rfl ⟨rfl, rfl, rfl, rfl, trivial⟩ ⟨rfl, trivial⟩
    · simp only [decide_eq_false_iff_not] at ga
      obtain rfl : g = xs.length := by omega
      have hw1 := hwd (xs.length + 1) (by omega)
      have hw2 := hwd (xs.length + 2) (by omega)
      rw [show wordP (xs.map str) (xs.length + 1) = 0 by rw [wordP, if_neg (by omega), if_neg (by omega)]] at hw1
      rw [show wordP (xs.map str) (xs.length + 2) = 0 by rw [wordP, if_neg (by omega), if_neg (by omega)]] at hw2
      refine Cd.exit rfl hK14 ?_
      refine Cd.seq fun K23 hK23 => ?_
      refine Cd.plain [(0, false), (1, false), (2, false), (3, false), (4, false), (5, false), (6, false), (7, false), (8, false), (9, false), (10, false), (11, false), (12, false), (13, false)] rfl rfl ?_
      refine Jp.y 102 rfl (want_all rfl) rfl rfl Kp.true (Y.move rfl rfl) ?_
      refine Jp.y 103 rfl (want_all rfl) rfl rfl Kp.true (Y.move rfl rfl) ?_
      refine Jp.y 104 rfl (want_all rfl) rfl rfl Kp.true (Y.move rfl rfl) ?_
      refine Jp.y 105 rfl (want_all rfl) rfl rfl Kp.true (Y.lenslice rfl Try.underlying22 rfl) ?_
      refine Jp.y 106 rfl (want_all rfl) rfl rfl Kp.true (Y.mul_ rfl rfl rfl (by first | exact wrap_i64 (by omega) (by omega) | rfl)) ?_
      refine Jp.y 107 rfl (want_all rfl) rfl rfl Kp.true (Y.add_ rfl rfl rfl (by first | exact wrap_i64 (by omega) (by omega) | rfl)) ?_
      refine Jp.y 108 rfl (want_all rfl) rfl rfl Kp.true (Y.conv_ rfl rfl Try.underlying3 Try.underlying26 (by first | exact wrap_u32 (by omega) (by omega) | rfl)) ?_
      refine Jp.y 109 rfl (want_all rfl) rfl rfl Kp.true (Y.add_ rfl rfl rfl (by first | exact wrap_u32 (by omega) (by omega) | rfl)) ?_
      refine Jp.slot 109 rfl (show _ = Value.int .u32 ((2147475456 + (spP (xs.map str) + 4 * (xs.length + 1)) : Nat) : Int) from congrArg (Value.int .u32) (by omega)) ?_
      refine Jp.call [0] [0] (load_eq (by omega) hw1) 110 rfl (want_all rfl) rfl rfl (Runs.fn rfl Try.call22 rfl) (by decide) (by decide) rfl trivial ?_
      rintro v8 ρ8 L8 ⟨rfl, rfl, rfl⟩
      refine ⟨rfl, fun hle8 => ⟨Kp.true, ?_⟩⟩
      refine Jp.y 101 rfl (want_all rfl) rfl rfl Kp.true (Y.move rfl rfl) ?_
      refine Jp.y 111 rfl (want_all rfl) rfl rfl Kp.true (Y.extract rfl rfl rfl) ?_
      refine Jp.y 112 rfl (want_all rfl) rfl rfl Kp.true (Y.extract rfl rfl rfl) ?_
      refine Jp.y 15 rfl (want_all rfl) rfl rfl Kp.true (Y.assign rfl rfl) ?_
      refine Jp.y 16 rfl (want_all rfl) rfl rfl Kp.true (Y.assign rfl rfl) ?_
      refine Jp.done hK23 ?_
      refine Cd.seq fun K24 hK24 => ?_
      refine Cd.plain [(0, false), (1, false), (2, false), (3, false), (4, false), (5, false), (6, false), (7, false), (8, false), (9, false), (10, false), (11, false), (12, false), (13, false)] rfl rfl ?_
      refine Jp.y 114 rfl (want_all rfl) rfl rfl Kp.true (Y.move rfl rfl) ?_
      refine Jp.y 115 rfl (want_all rfl) rfl rfl Kp.true (Y.move rfl rfl) ?_
      refine Jp.y 116 rfl (want_all rfl) rfl rfl Kp.true (Y.move rfl rfl) ?_
      refine Jp.y 117 rfl (want_all rfl) rfl rfl Kp.true (Y.lenslice rfl Try.underlying22 rfl) ?_
      refine Jp.y 118 rfl (want_all rfl) rfl rfl Kp.true (Y.mul_ rfl rfl rfl (by first | exact wrap_i64 (by omega) (by omega) | rfl)) ?_
      refine Jp.y 119 rfl (want_all rfl) rfl rfl Kp.true (Y.add_ rfl rfl rfl (by first | exact wrap_i64 (by omega) (by omega) | rfl)) ?_
      refine Jp.y 120 rfl (want_all rfl) rfl rfl Kp.true (Y.conv_ rfl rfl Try.underlying3 Try.underlying26 (by first | exact wrap_u32 (by omega) (by omega) | rfl)) ?_
      refine Jp.y 121 rfl (want_all rfl) rfl rfl Kp.true (Y.add_ rfl rfl rfl (by first | exact wrap_u32 (by omega) (by omega) | rfl)) ?_
      refine Jp.slot 121 rfl (show _ = Value.int .u32 ((2147475456 + (spP (xs.map str) + 4 * (xs.length + 2)) : Nat) : Int) from congrArg (Value.int .u32) (by omega)) ?_
      refine Jp.call [0] [0] (load_eq (by omega) hw2) 122 rfl (want_all rfl) rfl rfl (Runs.fn rfl Try.call22 rfl) (by decide) (by decide) rfl trivial ?_
      rintro v9 ρ9 L9 ⟨rfl, rfl, rfl⟩
      refine ⟨rfl, fun hle9 => ⟨Kp.true, ?_⟩⟩
      refine Jp.y 113 rfl (want_all rfl) rfl rfl Kp.true (Y.move rfl rfl) ?_
      refine Jp.y 123 rfl (want_all rfl) rfl rfl Kp.true (Y.extract rfl rfl rfl) ?_
      refine Jp.y 124 rfl (want_all rfl) rfl rfl Kp.true (Y.extract rfl rfl rfl) ?_
      refine Jp.y 17 rfl (want_all rfl) rfl rfl Kp.true (Y.assign rfl rfl) ?_
      refine Jp.y 18 rfl (want_all rfl) rfl rfl Kp.true (Y.assign rfl rfl) ?_
      refine Jp.done hK24 ?_
      refine Cd.seq fun K25 hK25 => ?_
      refine Cd.plain [(0, false), (1, false), (2, false), (3, false), (4, false), (5, false), (6, false)] rfl rfl ?_
      refine Jp.y 125 rfl (want_all rfl) rfl rfl Kp.true (Y.move rfl rfl) ?_
      refine Jp.y 126 rfl (want_all rfl) rfl rfl Kp.true (Y.eql rfl rfl rfl) ?_
      refine Jp.y 127 rfl (want_all rfl) rfl rfl Kp.true (Y.move rfl rfl) ?_
      refine Jp.splitF 127 rfl (fun g127 => ?_) (fun g127 => ?_)
      · skip
        exact absurd g127 (by simp)
      try simp only [decide_eq_false_iff_not, decide_eq_true_eq, Int.not_lt, Int.not_le, Bool.not_eq_false, Bool.not_eq_true, Bool.not_true, Bool.not_false, Bool.not_eq_true', Bool.not_eq_false', beq_eq_false_iff_ne, ne_eq, beq_iff_eq, bne_iff_ne, bne_eq_false_iff_eq, Classical.not_not] at g127
      refine Jp.y 128 rfl (want_as rfl rfl rfl rfl) rfl rfl Kp.true (Y.move rfl rfl) ?_
      refine Jp.y 129 rfl (want_as rfl rfl rfl rfl) rfl rfl Kp.true (Y.eql rfl rfl rfl) ?_
      refine Jp.y 130 rfl (want_all rfl) rfl rfl Kp.true (Y.pickT rfl rfl rfl) ?_
      refine Jp.y 2 rfl (want_all rfl) rfl rfl Kp.true (Y.assign rfl rfl) ?_
      refine Jp.done hK25 ?_
      refine Cd.ret [] rfl (res1 rfl rfl) trivial ⟨rfl, rfl⟩
  · obtain ⟨q, hq⟩ : ∃ q, buildP (xs.map str) = q := ⟨_, rfl⟩
    have hL : layM (newM 20) ((⟨A, c, xs⟩ : Sl ByteArray).xs.map str) = ⟨0, [], q.err, newM 20⟩ := by
      show layM (newM 20) (xs.map str) = _
      rw [layM, if_neg hb, hq]
    rw [hq] at hb
    rw [hL]
    dsimp only
    refine Jp.y 27 rfl (want_all rfl) rfl rfl Kp.true (Y.move rfl rfl) ?_
    refine Jp.y 31 rfl (want_all rfl) rfl rfl Kp.true (Y.extract rfl rfl rfl) ?_
    refine Jp.y 32 rfl (want_all rfl) rfl rfl Kp.true (Y.extract rfl rfl rfl) ?_
    refine Jp.y 33 rfl (want_all rfl) rfl rfl Kp.true (Y.extract rfl rfl rfl) ?_
    refine Jp.y 5 rfl (want_all rfl) rfl rfl Kp.true (Y.assign rfl rfl) ?_
    refine Jp.y 6 rfl (want_all rfl) rfl rfl Kp.true (Y.assign rfl rfl) ?_
    refine Jp.y 7 rfl (want_all rfl) rfl rfl Kp.true (Y.assign rfl rfl) ?_
    refine Jp.done hK8 ?_
    refine Cd.seq fun K26 hK26 => ?_
    refine Cd.seq fun K27 hK27 => ?_
    refine Cd.plain [(0, false), (1, false)] rfl rfl ?_
    refine Jp.y 34 rfl (want_all rfl) rfl rfl Kp.true (Y.move rfl rfl) ?_
    refine Jp.y 35 rfl (want_all rfl) rfl rfl Kp.true (Y.neq rfl rfl rfl) ?_
    refine Jp.done hK27 ?_
    refine Cd.cond rfl (fun ge => ?_) (fun ge => ?_)
    · skip
      refine Cd.seq fun K28 hK28 => ?_
      refine Cd.plain [(0, false)] rfl rfl ?_
      refine Jp.y 2 rfl (want_all rfl) rfl rfl Kp.true (Y.assign rfl rfl) ?_
      refine Jp.done hK28 ?_
      refine Cd.ret [] rfl (res1 rfl rfl) trivial ⟨rfl, rfl⟩
    · exact absurd ge (by simp; omega)
end Go.Proofs.Ytgfbdiibndbbjaa

