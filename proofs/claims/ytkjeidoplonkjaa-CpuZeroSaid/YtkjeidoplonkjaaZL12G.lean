import Derived.Test.YtkjeidoplonkjaaZL12F
set_option linter.unusedVariables false
set_option linter.unusedSimpArgs false
set_option maxRecDepth 100000
namespace Go.Proofs.Ytkjeidoplonkjaa
open Go
theorem regP_zero (x : List Nat) (a b pc pc' : Nat) (r r' : Int) (k : Nat) : regP ⟨x.set 0 a, pc, r⟩ k = regP ⟨x.set 0 b, pc', r'⟩ k := by
  unfold regP
  by_cases h : k = 0
  · rw [if_pos h, if_pos h]
  · rw [if_neg h, if_neg h]
    simp only [List.getD_eq_getElem?_getD]
    rw [List.getElem?_set_ne (by omega), List.getElem?_set_ne (by omega)]
theorem set_zero (x : List Nat) (a b rd w : Nat) : ((x.set 0 a).set rd w).set 0 0 = ((x.set 0 b).set rd w).set 0 0 := by
  by_cases h : rd = 0
  · subst h; rw [List.set_set, List.set_set, List.set_set, List.set_set]
  · rw [List.set_comm _ _ (by omega : rd ≠ 0), List.set_set, List.set_comm _ _ (by omega : rd ≠ 0), List.set_set]
theorem outP_zero (x : List Nat) (a b pc : Nat) (r : Int) (rd w to : Nat) : outP ⟨x.set 0 a, pc, r⟩ ((x.set 0 a).set rd w) to = outP ⟨x.set 0 b, pc, r⟩ ((x.set 0 b).set rd w) to := by
  unfold outP
  rw [set_zero x a b rd w]
theorem outP_zero0 (x : List Nat) (a b pc : Nat) (r : Int) (to : Nat) : outP ⟨x.set 0 a, pc, r⟩ (x.set 0 a) to = outP ⟨x.set 0 b, pc, r⟩ (x.set 0 b) to := by
  unfold outP
  rw [List.set_set, List.set_set]
theorem step_zero (M : MemG) (x : List Nat) (a b pc : Nat) (r : Int) : (stepP M ⟨x.set 0 a, pc, r⟩).2 = (stepP M ⟨x.set 0 b, pc, r⟩).2 ∧ (((stepP M ⟨x.set 0 a, pc, r⟩).2.1.kind ≠ 0 ∧ (stepP M ⟨x.set 0 a, pc, r⟩).1 = ⟨x.set 0 a, pc, r⟩ ∧ (stepP M ⟨x.set 0 b, pc, r⟩).1 = ⟨x.set 0 b, pc, r⟩) ∨ ((stepP M ⟨x.set 0 a, pc, r⟩).2.1.kind = 0 ∧ (stepP M ⟨x.set 0 a, pc, r⟩).1 = (stepP M ⟨x.set 0 b, pc, r⟩).1)) := by
  unfold stepP
  dsimp only
  by_cases hk : (fetchP M pc).2.kind = 0
  · rw [if_pos hk, if_pos hk]
    obtain ⟨i, hi⟩ : ∃ i, (fetchP M pc).1 = i := ⟨_, rfl⟩
    rw [hi]
    have hr := fun k => regP_zero x a b pc pc r r k
    have ha : addrP i ⟨x.set 0 a, pc, r⟩ = addrP i ⟨x.set 0 b, pc, r⟩ := by unfold addrP; rw [hr]
    have hg : goesP i ⟨x.set 0 a, pc, r⟩ = goesP i ⟨x.set 0 b, pc, r⟩ := by unfold goesP; rw [ha, hr i.r1, hr i.r2]
    have ho : opdP i ⟨x.set 0 a, pc, r⟩ = opdP i ⟨x.set 0 b, pc, r⟩ := by unfold opdP; rw [hr]
    have hv : valueP M i ⟨x.set 0 a, pc, r⟩ = valueP M i ⟨x.set 0 b, pc, r⟩ := by unfold valueP; rw [ha, ho, hr]
    have e1 := outP_zero x a b pc r
    have e0 := outP_zero0 x a b pc r
    unfold doInsP
    rw [ha, hg, hv, hr i.r2]
    dsimp only
    by_cases h1 : i.op = 48
    · rw [if_pos h1, if_pos h1]; exact ⟨rfl, .inl ⟨(by decide : 5 ≠ 0), rfl, rfl⟩⟩
    rw [if_neg h1, if_neg h1]
    by_cases h2 : i.op = 49
    · rw [if_pos h2, if_pos h2]; exact ⟨rfl, .inl ⟨(by decide : 6 ≠ 0), rfl, rfl⟩⟩
    rw [if_neg h2, if_neg h2]
    by_cases h3 : ¬ goesP i ⟨x.set 0 b, pc, r⟩ % 4 = 0
    · rw [if_pos h3, if_pos h3]; exact ⟨rfl, .inl ⟨(by decide : 7 ≠ 0), rfl, rfl⟩⟩
    rw [if_neg h3, if_neg h3]
    by_cases h4 : storesP i.op = true
    · rw [if_pos h4, if_pos h4]
      by_cases h5 : (storeM M (addrP i ⟨x.set 0 b, pc, r⟩) (sizeP i.op).1 (regP ⟨x.set 0 b, pc, r⟩ i.r2)).1 = 0
      · rw [if_pos h5, if_pos h5]; exact ⟨rfl, .inr ⟨rfl, e0 _⟩⟩
      · rw [if_neg h5, if_neg h5]; exact ⟨rfl, .inl ⟨(by decide : 4 ≠ 0), rfl, rfl⟩⟩
    rw [if_neg h4, if_neg h4]
    by_cases h5 : writesP i.op = true
    · rw [if_pos h5, if_pos h5]
      by_cases h6 : (valueP M i ⟨x.set 0 b, pc, r⟩).2.kind = 0
      · rw [if_pos h6, if_pos h6]; exact ⟨rfl, .inr ⟨rfl, e1 _ _ _⟩⟩
      · rw [if_neg h6, if_neg h6]; exact ⟨rfl, .inl ⟨h6, rfl, rfl⟩⟩
    rw [if_neg h5, if_neg h5]
    exact ⟨rfl, .inr ⟨rfl, e0 _⟩⟩
  · rw [if_neg hk, if_neg hk]
    exact ⟨rfl, .inl ⟨hk, rfl, rfl⟩⟩
theorem zero_ok {x : List Nat} {pc : Nat} {r : Int} (h : StOk ⟨x, pc, r⟩) {a : Nat} (ha : a < 4294967296) : StOk ⟨x.set 0 a, pc, r⟩ := by
  refine ⟨by rw [List.length_set]; exact h.len, fun y hy => ?_, h.pc, h.ret⟩
  rcases List.mem_or_eq_of_mem_set hy with q | q
  · exact h.lt y q
  · rw [q]; exact ha
theorem cpuZero_spec (s0 : Sl Int) (d0 : Sl UInt8) (s : StP) (v : Nat) (hs : ∀ x ∈ s0.xs, ∃ m : Nat, x = m ∧ m < 4294967296) (hc : StRd s) (hv : v < 4294967296) : Spec Try.prog 8 #[s0.v, d0.v, .agg s.cells.toArray, .int .u32 v] (fun h => RdI .u32 s0 h ∧ RdB d0 h) [] (fun ρ ρ' v L => v = .bool true ∧ L = []) := by
  obtain ⟨A, c, xs⟩ := s0
  obtain ⟨dA, dc, bs⟩ := d0
  dsimp only [Sl.v]
  refine Spec.of 79 Try.func8 rfl Try.ntmps8 [(0, _), (1, _), (2, _), (3, _)] rfl rfl ?_
  intro cx ρ hr0 h0
  obtain ⟨hr, hrd⟩ := hr0
  have lx : xs.length ≤ 281474976710656 := hr.2.1.2
  have lb : bs.length ≤ 281474976710656 := hrd.2.1.2
  have hcl := hc.size
  have hco := StP.one s
  refine Cd.seq fun K1 hK1 => ?_
  refine Cd.plain [(0, false), (1, false)] rfl rfl ?_
  refine Jp.box 6 6 rfl (want_all rfl) rfl rfl rfl rfl fun b6 => ⟨Kp.true, ?_⟩
  refine Jp.y 8 rfl (want_all rfl) rfl rfl Kp.true (Y.assign rfl rfl) ?_
  refine Jp.done hK1 ?_
  refine Cd.seq fun K2 hK2 => ?_
  refine Cd.seq fun K3 hK3 => ?_
  refine Cd.plain [(0, false), (1, false)] rfl rfl ?_
  refine Jp.call [] [] awake12_spec 16 rfl (want_all rfl) rfl rfl (Runs.fn rfl Try.call12 rfl) (by decide) (by decide) rfl trivial ?_
  rintro v1 ρ1 L1 ⟨rfl, rfl⟩
  refine ⟨rfl, fun hle1 => ⟨Kp.true, ?_⟩⟩
  have hr := RdI.up _ _ _ _ hle1 hr
  have hrd := RdB.up _ _ _ hle1 hrd
  refine Jp.y 17 rfl (want_all rfl) rfl rfl Kp.true (Y.not rfl rfl) ?_
  refine Jp.done hK3 ?_
  refine Cd.cond rfl (fun g17 => ?_) (fun g17 => ?_)
  · skip
    exact absurd g17 (by simp)
  try simp only [decide_eq_false_iff_not, decide_eq_true_eq, Int.not_lt, Int.not_le, Bool.not_eq_false, Bool.not_eq_true, Bool.not_true, Bool.not_false, Bool.not_eq_true', Bool.not_eq_false', beq_eq_false_iff_ne, ne_eq, beq_iff_eq, bne_iff_ne, bne_eq_false_iff_eq, Classical.not_not] at g17
  refine Cd.skip hK2 ?_
  refine Cd.seq fun K4 hK4 => ?_
  refine Cd.seq fun K5 hK5 => ?_
  refine Cd.plain [(0, false), (1, false), (2, false), (3, false), (4, false), (5, false), (6, false), (7, false), (8, false), (9, false), (10, false), (11, false), (12, false), (13, false), (14, false), (15, false), (16, false), (17, false)] rfl rfl ?_
  refine Jp.y 18 rfl (want_all rfl) rfl rfl Kp.true (Y.move rfl rfl) ?_
  refine Jp.y 19 rfl (want_all rfl) rfl rfl Kp.true (Y.lenslice rfl Try.underlying29 rfl) ?_
  refine Jp.y 20 rfl (want_all rfl) rfl rfl Kp.true (Y.gtr rfl rfl rfl) ?_
  refine Jp.y 21 rfl (want_all rfl) rfl rfl Kp.true (Y.move rfl rfl) ?_
  refine Jp.split 21 rfl (fun g21 => ?_) (fun g21 => ?_)
  · skip
    refine Jp.skip 22 rfl (want_as rfl rfl rfl rfl) rfl rfl Kp.true ?_
    refine Jp.skip 23 rfl (want_as rfl rfl rfl rfl) rfl rfl Kp.true ?_
    refine Jp.skip 24 rfl (want_as rfl rfl rfl rfl) rfl rfl Kp.true ?_
    refine Jp.y 25 rfl (want_all rfl) rfl rfl Kp.true (Y.pickT rfl rfl rfl) ?_
    refine Jp.y 26 rfl (want_all rfl) rfl rfl Kp.true (Y.move rfl rfl) ?_
    refine Jp.skip 27 rfl (want_as rfl rfl rfl rfl) rfl rfl Kp.true ?_
    refine Jp.skip 28 rfl (want_as rfl rfl rfl rfl) rfl rfl Kp.true ?_
    refine Jp.skip 29 rfl (want_as rfl rfl rfl rfl) rfl rfl Kp.true ?_
    refine Jp.y 30 rfl (want_all rfl) rfl rfl Kp.true (Y.pickT rfl rfl rfl) ?_
    refine Jp.y 31 rfl (want_all rfl) rfl rfl Kp.true (Y.move rfl rfl) ?_
    refine Jp.skip 32 rfl (want_as rfl rfl rfl rfl) rfl rfl Kp.true ?_
    refine Jp.skip 33 rfl (want_as rfl rfl rfl rfl) rfl rfl Kp.true ?_
    refine Jp.skip 34 rfl (want_as rfl rfl rfl rfl) rfl rfl Kp.true ?_
    refine Jp.y 35 rfl (want_all rfl) rfl rfl Kp.true (Y.pickT rfl rfl rfl) ?_
    refine Jp.done hK5 ?_
    refine Cd.condT rfl ?_
    refine Cd.seq fun K6 hK6 => ?_
    refine Cd.plain [(0, false)] rfl rfl ?_
    refine Jp.y 8 rfl (want_all rfl) rfl rfl Kp.true (Y.assign rfl rfl) ?_
    refine Jp.done hK6 ?_
    refine Cd.ret [] rfl (res1 rfl rfl) trivial ⟨rfl, rfl⟩
  try simp only [decide_eq_false_iff_not, decide_eq_true_eq, Int.not_lt, Int.not_le, Bool.not_eq_false, Bool.not_eq_true, Bool.not_true, Bool.not_false, Bool.not_eq_true', Bool.not_eq_false', beq_eq_false_iff_ne, ne_eq, beq_iff_eq, bne_iff_ne, bne_eq_false_iff_eq, Classical.not_not] at g21
  refine Jp.y 22 rfl (want_as rfl rfl rfl rfl) rfl rfl Kp.true (Y.move rfl rfl) ?_
  refine Jp.y 23 rfl (want_as rfl rfl rfl rfl) rfl rfl Kp.true (Y.lenslice rfl Try.underlying47 rfl) ?_
  refine Jp.y 24 rfl (want_as rfl rfl rfl rfl) rfl rfl Kp.true (Y.gtr rfl rfl rfl) ?_
  refine Jp.y 25 rfl (want_all rfl) rfl rfl Kp.true (Y.pickF rfl rfl rfl) ?_
  refine Jp.y 26 rfl (want_all rfl) rfl rfl Kp.true (Y.move rfl rfl) ?_
  refine Jp.split 26 rfl (fun g26 => ?_) (fun g26 => ?_)
  · skip
    refine Jp.skip 27 rfl (want_as rfl rfl rfl rfl) rfl rfl Kp.true ?_
    refine Jp.skip 28 rfl (want_as rfl rfl rfl rfl) rfl rfl Kp.true ?_
    refine Jp.skip 29 rfl (want_as rfl rfl rfl rfl) rfl rfl Kp.true ?_
    refine Jp.y 30 rfl (want_all rfl) rfl rfl Kp.true (Y.pickT rfl rfl rfl) ?_
    refine Jp.y 31 rfl (want_all rfl) rfl rfl Kp.true (Y.move rfl rfl) ?_
    refine Jp.skip 32 rfl (want_as rfl rfl rfl rfl) rfl rfl Kp.true ?_
    refine Jp.skip 33 rfl (want_as rfl rfl rfl rfl) rfl rfl Kp.true ?_
    refine Jp.skip 34 rfl (want_as rfl rfl rfl rfl) rfl rfl Kp.true ?_
    refine Jp.y 35 rfl (want_all rfl) rfl rfl Kp.true (Y.pickT rfl rfl rfl) ?_
    refine Jp.done hK5 ?_
    refine Cd.condT rfl ?_
    refine Cd.seq fun K7 hK7 => ?_
    refine Cd.plain [(0, false)] rfl rfl ?_
    refine Jp.y 8 rfl (want_all rfl) rfl rfl Kp.true (Y.assign rfl rfl) ?_
    refine Jp.done hK7 ?_
    refine Cd.ret [] rfl (res1 rfl rfl) trivial ⟨rfl, rfl⟩
  try simp only [decide_eq_false_iff_not, decide_eq_true_eq, Int.not_lt, Int.not_le, Bool.not_eq_false, Bool.not_eq_true, Bool.not_true, Bool.not_false, Bool.not_eq_true', Bool.not_eq_false', beq_eq_false_iff_ne, ne_eq, beq_iff_eq, bne_iff_ne, bne_eq_false_iff_eq, Classical.not_not] at g26
  refine Jp.y 27 rfl (want_as rfl rfl rfl rfl) rfl rfl Kp.true (by first | exact Y.fieldAddrP rfl rfl Try.underlying32 rfl Try.sizeOf2 (by decide) (show _ + 33 = _ from rfl) | exact Y.fieldAddr rfl rfl Try.underlying32 rfl Try.sizeOf2 (by decide)) ?_
  refine Jp.y 28 rfl (want_as rfl rfl rfl rfl) rfl rfl Kp.true (by first | exact Y.loadO 6 rfl Try.isAgg2 rfl rfl rfl | exact Y.loadO 6 rfl Try.isAgg2 rfl rfl rfl | exact Y.loadC 6 rfl Try.isAgg2 rfl rfl (HasC.pt hc.cRet)) ?_
  refine Jp.y 29 rfl (want_as rfl rfl rfl rfl) rfl rfl Kp.true (Y.lss rfl rfl rfl) ?_
  refine Jp.y 30 rfl (want_all rfl) rfl rfl Kp.true (Y.pickF rfl rfl rfl) ?_
  refine Jp.y 31 rfl (want_all rfl) rfl rfl Kp.true (Y.move rfl rfl) ?_
  refine Jp.split 31 rfl (fun g31 => ?_) (fun g31 => ?_)
  · skip
    refine Jp.skip 32 rfl (want_as rfl rfl rfl rfl) rfl rfl Kp.true ?_
    refine Jp.skip 33 rfl (want_as rfl rfl rfl rfl) rfl rfl Kp.true ?_
    refine Jp.skip 34 rfl (want_as rfl rfl rfl rfl) rfl rfl Kp.true ?_
    refine Jp.y 35 rfl (want_all rfl) rfl rfl Kp.true (Y.pickT rfl rfl rfl) ?_
    refine Jp.done hK5 ?_
    refine Cd.condT rfl ?_
    refine Cd.seq fun K8 hK8 => ?_
    refine Cd.plain [(0, false)] rfl rfl ?_
    refine Jp.y 8 rfl (want_all rfl) rfl rfl Kp.true (Y.assign rfl rfl) ?_
    refine Jp.done hK8 ?_
    refine Cd.ret [] rfl (res1 rfl rfl) trivial ⟨rfl, rfl⟩
  try simp only [decide_eq_false_iff_not, decide_eq_true_eq, Int.not_lt, Int.not_le, Bool.not_eq_false, Bool.not_eq_true, Bool.not_true, Bool.not_false, Bool.not_eq_true', Bool.not_eq_false', beq_eq_false_iff_ne, ne_eq, beq_iff_eq, bne_iff_ne, bne_eq_false_iff_eq, Classical.not_not] at g31
  refine Jp.y 32 rfl (want_as rfl rfl rfl rfl) rfl rfl Kp.true (by first | exact Y.fieldAddrP rfl rfl Try.underlying32 rfl Try.sizeOf2 (by decide) (show _ + 33 = _ from rfl) | exact Y.fieldAddr rfl rfl Try.underlying32 rfl Try.sizeOf2 (by decide)) ?_
  refine Jp.y 33 rfl (want_as rfl rfl rfl rfl) rfl rfl Kp.true (by first | exact Y.loadO 6 rfl Try.isAgg2 rfl rfl rfl | exact Y.loadO 6 rfl Try.isAgg2 rfl rfl rfl | exact Y.loadC 6 rfl Try.isAgg2 rfl rfl (HasC.pt hc.cRet)) ?_
  refine Jp.y 34 rfl (want_as rfl rfl rfl rfl) rfl rfl Kp.true (Y.gtr rfl rfl rfl) ?_
  refine Jp.y 35 rfl (want_all rfl) rfl rfl Kp.true (Y.pickF rfl rfl rfl) ?_
  refine Jp.done hK5 ?_
  refine Cd.cond rfl (fun g35 => ?_) (fun g35 => ?_)
  · skip
    refine Cd.seq fun K9 hK9 => ?_
    refine Cd.plain [(0, false)] rfl rfl ?_
    refine Jp.y 8 rfl (want_all rfl) rfl rfl Kp.true (Y.assign rfl rfl) ?_
    refine Jp.done hK9 ?_
    refine Cd.ret [] rfl (res1 rfl rfl) trivial ⟨rfl, rfl⟩
  try simp only [decide_eq_false_iff_not, decide_eq_true_eq, Int.not_lt, Int.not_le, Bool.not_eq_false, Bool.not_eq_true, Bool.not_true, Bool.not_false, Bool.not_eq_true', Bool.not_eq_false', beq_eq_false_iff_ne, ne_eq, beq_iff_eq, bne_iff_ne, bne_eq_false_iff_eq, Classical.not_not] at g35
  refine Cd.skip hK4 ?_
  refine Cd.seq fun K10 hK10 => ?_
  refine Cd.plain [(0, false), (1, false), (2, false), (3, false), (4, false), (5, false), (6, false), (7, false)] rfl rfl ?_
  have hOk : StOk s := hc.ok (by omega)
  refine Jp.y 36 rfl (want_all rfl) rfl rfl Kp.true (Y.move rfl rfl) ?_
  refine Jp.y 37 rfl (want_all rfl) rfl rfl Kp.true (Y.move rfl rfl) ?_
  refine Jp.call [] [0] (made12_spec A c xs dA dc bs hs) 38 rfl (want_all rfl) rfl rfl (Runs.fn rfl Try.call13 rfl) (by decide) (by decide) rfl ⟨hr, hrd⟩ ?_
  rintro v2 ρ2 L2 ⟨b, rfl, rfl⟩
  refine ⟨rfl, fun hle2 => ⟨Kp.true, ?_⟩⟩
  have hr := RdI.up _ _ _ _ hle2 hr
  have hrd := RdB.up _ _ _ hle2 hrd
  refine Jp.y 39 rfl (want_all rfl) rfl rfl Kp.true (Y.move rfl rfl) ?_
  refine Jp.y 40 rfl (want_all rfl) rfl rfl Kp.true (Y.move rfl rfl) ?_
  refine Jp.call [] [1] (made12_spec A c xs dA dc bs hs) 41 rfl (want_all rfl) rfl rfl (Runs.fn rfl Try.call13 rfl) (by decide) (by decide) rfl ⟨hr, hrd⟩ ?_
  rintro v3 ρ3 L3 ⟨b', rfl, rfl⟩
  refine ⟨rfl, fun hle3 => ⟨Kp.true, ?_⟩⟩
  have hml := madeD_len xs bs
  obtain ⟨M, hM⟩ : ∃ M, madeD xs bs = M := ⟨_, rfl⟩
  rw [hM] at hml ⊢
  clear hM
  obtain ⟨x, pc, r⟩ := s
  have hxl : x.length = 32 := hc.len
  have hA := zero_ok hOk (show 0 < 4294967296 by decide)
  have hB := zero_ok hOk hv
  have hZ := step_zero M x 0 v pc r
  have hPl := stepP_pages M ⟨x.set 0 0, pc, r⟩
  have S1 := step_spec b M ⟨x.set 0 0, pc, r⟩ hA
  have S2 := step_spec b' M ⟨x.set 0 v, pc, r⟩ hB
  have hlA := StP.len hA
  have hlB := StP.len hB
  have sz := StP.size (pc := pc) (ret := r) hxl
  refine Jp.y 9 rfl (want_all rfl) rfl rfl Kp.true (Y.assign rfl rfl) ?_
  refine Jp.y 10 rfl (want_all rfl) rfl rfl Kp.true (Y.assign rfl rfl) ?_
  refine Jp.done hK10 ?_
  refine Cd.seq fun K11 hK11 => ?_
  refine Cd.plain [(0, false), (1, false), (2, false)] rfl rfl ?_
  refine Jp.y 42 rfl (want_all rfl) rfl rfl Kp.true (by first | exact Y.loadAggO 6 rfl Try.isAgg32 Try.sizeOf32 rfl rfl (by first | rfl | assumption) | exact Y.loadAggO 6 rfl Try.isAgg32 Try.sizeOf32 rfl rfl (by first | rfl | assumption)) ?_
  refine Jp.alloc 11 11 rfl (want_all rfl) rfl rfl rfl Try.zeroValue32 fun b11 => ⟨Kp.true, ?_⟩
  first | refine Jp.storeAll 6 rfl (want_all rfl) rfl rfl Try.sizeOf32 rfl rfl (by first | rfl | assumption) (by first | rfl | assumption) rfl (by first | rfl | assumption) (fun k _ _ => noFr0 k) Kp.true ?_ | refine Jp.storeAll 11 rfl (want_all rfl) rfl rfl Try.sizeOf32 rfl rfl (by first | rfl | assumption) (by first | rfl | assumption) rfl (by first | rfl | assumption) (fun k _ _ => noFr0 k) Kp.true ?_
  refine Jp.done hK11 ?_
  refine Cd.seq fun K12 hK12 => ?_
  refine Cd.plain [(0, false), (1, false), (2, false), (3, false), (4, false), (5, false), (6, false)] rfl rfl ?_
  refine Jp.y 43 rfl (want_all rfl) rfl rfl Kp.true (Y.move rfl rfl) ?_
  refine Jp.y 44 rfl (want_all rfl) rfl rfl Kp.true (by first | exact Y.fieldAddrP rfl rfl Try.underlying32 rfl Try.sizeOf30 (by decide) (show _ + 0 = _ from rfl) | exact Y.fieldAddr rfl rfl Try.underlying32 rfl Try.sizeOf30 (by decide)) ?_
  refine Jp.y 45 rfl (want_all rfl) rfl rfl Kp.true (Y.indexArrP rfl rfl rfl Try.underlying30 Try.sizeOf25 (by first | decide | omega) (by first | decide | omega) rfl) ?_
  refine Jp.storeC 6 (Pt b6 (.cells (StP.cells ⟨x.set 0 0, pc, r⟩).toArray 32)) rfl (want_all rfl) rfl rfl Try.sizeOf25 rfl rfl rfl rfl rfl (SetC.st hxl (by decide) 0) Kp.true ?_
  refine Jp.y 46 rfl (want_all rfl) rfl rfl Kp.true (by first | exact Y.fieldAddrP rfl rfl Try.underlying32 rfl Try.sizeOf30 (by decide) (show _ + 0 = _ from rfl) | exact Y.fieldAddr rfl rfl Try.underlying32 rfl Try.sizeOf30 (by decide)) ?_
  refine Jp.y 47 rfl (want_all rfl) rfl rfl Kp.true (Y.indexArrP rfl rfl rfl Try.underlying30 Try.sizeOf25 (by first | decide | omega) (by first | decide | omega) rfl) ?_
  refine Jp.storeC 11 (Pt b11 (.cells (StP.cells ⟨x.set 0 v, pc, r⟩).toArray 32)) rfl (want_all rfl) rfl rfl Try.sizeOf25 rfl rfl rfl rfl rfl (SetC.st hxl (by decide) v) Kp.true ?_
  have hu1 : ∀ {a : Nat} {D : StP × EvP × MemG}, stepP M ⟨x.set 0 a, pc, r⟩ = D → D.1.x.length = 32 := fun {a D} h => by
    rcases step_shape M ⟨x.set 0 a, pc, r⟩ with q | q
    · rw [← h, q.2.1]; simp [hxl]
    · obtain ⟨rd, w, _, hx⟩ := q.st
      rw [← h, hx]; simp [hxl]
  obtain ⟨D, hD⟩ : ∃ D, stepP M ⟨x.set 0 0, pc, r⟩ = D := ⟨_, rfl⟩
  obtain ⟨F, hF⟩ : ∃ F, stepP M ⟨x.set 0 v, pc, r⟩ = F := ⟨_, rfl⟩
  have hDx := hu1 hD
  have hFx := hu1 hF
  rw [hD] at S1 hZ hPl
  rw [hF] at S2 hZ
  clear hD hF hu1
  obtain ⟨u, ev, M1⟩ := D
  obtain ⟨w, ev2, M2⟩ := F
  dsimp only at S1 S2 hZ hPl hDx hFx
  obtain ⟨hZ1, hZ2⟩ := hZ
  obtain ⟨rfl, rfl⟩ := Prod.mk.inj hZ1
  have hul : u.cells.length = 34 := by simp [StP.cells, natsV, hDx]
  have hwl : w.cells.length = 34 := by simp [StP.cells, natsV, hFx]
  have huo := StP.one u
  have hwo := StP.one w
  have hel : ev.cells.length = 3 := rfl
  have heo : ev.cells.all one = true := by unfold EvP.cells; simp [one]
  refine Jp.done hK12 ?_
  refine Cd.seq fun K13 hK13 => ?_
  refine Cd.plain [(0, false), (1, false), (2, false), (3, false), (4, false), (5, false), (6, false), (7, false), (8, false), (9, false)] rfl rfl ?_
  refine Jp.y 49 rfl (want_all rfl) rfl rfl Kp.true (Y.move rfl rfl) ?_
  refine Jp.y 50 rfl (want_all rfl) rfl rfl Kp.true (by first | exact Y.loadAggO 6 rfl Try.isAgg32 Try.sizeOf32 rfl rfl (by first | rfl | assumption) | exact Y.loadAggO 11 rfl Try.isAgg32 Try.sizeOf32 rfl rfl (by first | rfl | assumption)) ?_
  refine Jp.call [0] [0] S1 51 rfl (want_all rfl) rfl rfl (Runs.fn rfl Try.call15 rfl) (by decide) (by decide) rfl trivial ?_
  rintro v4 ρ4 L4 ⟨rfl, rfl, rfl⟩
  refine ⟨rfl, fun hle4 => ⟨Kp.true, ?_⟩⟩
  refine Jp.y 48 rfl (want_all rfl) rfl rfl Kp.true (Y.move rfl rfl) ?_
  refine Jp.y 52 rfl (want_all rfl) rfl rfl Kp.true (Y.extract rfl rfl rfl) ?_
  refine Jp.y 53 rfl (want_all rfl) rfl rfl Kp.true (Y.extract rfl rfl rfl) ?_
  refine Jp.alloc 12 12 rfl (want_all rfl) rfl rfl rfl Try.zeroValue32 fun b12 => ⟨Kp.true, ?_⟩
  refine Jp.alloc 13 13 rfl (want_all rfl) rfl rfl rfl Try.zeroValue35 fun b13 => ⟨Kp.true, ?_⟩
  first | refine Jp.storeAll 12 rfl (want_all rfl) rfl rfl Try.sizeOf32 rfl rfl (by first | rfl | assumption) (by first | rfl | assumption) rfl (by first | rfl | assumption) (fun k _ _ => noFr0 k) Kp.true ?_ | refine Jp.storeAll 13 rfl (want_all rfl) rfl rfl Try.sizeOf32 rfl rfl (by first | rfl | assumption) (by first | rfl | assumption) rfl (by first | rfl | assumption) (fun k _ _ => noFr0 k) Kp.true ?_ | refine Jp.storeAll 11 rfl (want_all rfl) rfl rfl Try.sizeOf32 rfl rfl (by first | rfl | assumption) (by first | rfl | assumption) rfl (by first | rfl | assumption) (fun k _ _ => noFr0 k) Kp.true ?_ | refine Jp.storeAll 6 rfl (want_all rfl) rfl rfl Try.sizeOf32 rfl rfl (by first | rfl | assumption) (by first | rfl | assumption) rfl (by first | rfl | assumption) (fun k _ _ => noFr0 k) Kp.true ?_
  first | refine Jp.storeAll 12 rfl (want_all rfl) rfl rfl Try.sizeOf35 rfl rfl (by first | rfl | assumption) (by first | rfl | assumption) rfl (by first | rfl | assumption) (fun k _ _ => noFr0 k) Kp.true ?_ | refine Jp.storeAll 13 rfl (want_all rfl) rfl rfl Try.sizeOf35 rfl rfl (by first | rfl | assumption) (by first | rfl | assumption) rfl (by first | rfl | assumption) (fun k _ _ => noFr0 k) Kp.true ?_ | refine Jp.storeAll 11 rfl (want_all rfl) rfl rfl Try.sizeOf35 rfl rfl (by first | rfl | assumption) (by first | rfl | assumption) rfl (by first | rfl | assumption) (fun k _ _ => noFr0 k) Kp.true ?_ | refine Jp.storeAll 6 rfl (want_all rfl) rfl rfl Try.sizeOf35 rfl rfl (by first | rfl | assumption) (by first | rfl | assumption) rfl (by first | rfl | assumption) (fun k _ _ => noFr0 k) Kp.true ?_
  refine Jp.done hK13 ?_
  refine Cd.seq fun K14 hK14 => ?_
  refine Cd.plain [(0, false), (1, false), (2, false), (3, false), (4, false), (5, false), (6, false), (7, false), (8, false), (9, false)] rfl rfl ?_
  refine Jp.y 55 rfl (want_all rfl) rfl rfl Kp.true (Y.move rfl rfl) ?_
  refine Jp.y 56 rfl (want_all rfl) rfl rfl Kp.true (by first | exact Y.loadAggO 12 rfl Try.isAgg32 Try.sizeOf32 rfl rfl (by first | rfl | assumption) | exact Y.loadAggO 13 rfl Try.isAgg32 Try.sizeOf32 rfl rfl (by first | rfl | assumption) | exact Y.loadAggO 11 rfl Try.isAgg32 Try.sizeOf32 rfl rfl (by first | rfl | assumption) | exact Y.loadAggO 6 rfl Try.isAgg32 Try.sizeOf32 rfl rfl (by first | rfl | assumption)) ?_
  refine Jp.call [1] [1] S2 57 rfl (want_all rfl) rfl rfl (Runs.fn rfl Try.call15 rfl) (by decide) (by decide) rfl trivial ?_
  rintro v5 ρ5 L5 ⟨rfl, rfl, rfl⟩
  refine ⟨rfl, fun hle5 => ⟨Kp.true, ?_⟩⟩
  refine Jp.y 54 rfl (want_all rfl) rfl rfl Kp.true (Y.move rfl rfl) ?_
  refine Jp.y 58 rfl (want_all rfl) rfl rfl Kp.true (Y.extract rfl rfl rfl) ?_
  refine Jp.y 59 rfl (want_all rfl) rfl rfl Kp.true (Y.extract rfl rfl rfl) ?_
  refine Jp.alloc 14 14 rfl (want_all rfl) rfl rfl rfl Try.zeroValue32 fun b14 => ⟨Kp.true, ?_⟩
  refine Jp.alloc 15 15 rfl (want_all rfl) rfl rfl rfl Try.zeroValue35 fun b15 => ⟨Kp.true, ?_⟩
  first | refine Jp.storeAll 14 rfl (want_all rfl) rfl rfl Try.sizeOf32 rfl rfl (by first | rfl | assumption) (by first | rfl | assumption) rfl (by first | rfl | assumption) (fun k _ _ => noFr0 k) Kp.true ?_ | refine Jp.storeAll 15 rfl (want_all rfl) rfl rfl Try.sizeOf32 rfl rfl (by first | rfl | assumption) (by first | rfl | assumption) rfl (by first | rfl | assumption) (fun k _ _ => noFr0 k) Kp.true ?_ | refine Jp.storeAll 13 rfl (want_all rfl) rfl rfl Try.sizeOf32 rfl rfl (by first | rfl | assumption) (by first | rfl | assumption) rfl (by first | rfl | assumption) (fun k _ _ => noFr0 k) Kp.true ?_ | refine Jp.storeAll 12 rfl (want_all rfl) rfl rfl Try.sizeOf32 rfl rfl (by first | rfl | assumption) (by first | rfl | assumption) rfl (by first | rfl | assumption) (fun k _ _ => noFr0 k) Kp.true ?_ | refine Jp.storeAll 11 rfl (want_all rfl) rfl rfl Try.sizeOf32 rfl rfl (by first | rfl | assumption) (by first | rfl | assumption) rfl (by first | rfl | assumption) (fun k _ _ => noFr0 k) Kp.true ?_ | refine Jp.storeAll 6 rfl (want_all rfl) rfl rfl Try.sizeOf32 rfl rfl (by first | rfl | assumption) (by first | rfl | assumption) rfl (by first | rfl | assumption) (fun k _ _ => noFr0 k) Kp.true ?_
  first | refine Jp.storeAll 14 rfl (want_all rfl) rfl rfl Try.sizeOf35 rfl rfl (by first | rfl | assumption) (by first | rfl | assumption) rfl (by first | rfl | assumption) (fun k _ _ => noFr0 k) Kp.true ?_ | refine Jp.storeAll 15 rfl (want_all rfl) rfl rfl Try.sizeOf35 rfl rfl (by first | rfl | assumption) (by first | rfl | assumption) rfl (by first | rfl | assumption) (fun k _ _ => noFr0 k) Kp.true ?_ | refine Jp.storeAll 13 rfl (want_all rfl) rfl rfl Try.sizeOf35 rfl rfl (by first | rfl | assumption) (by first | rfl | assumption) rfl (by first | rfl | assumption) (fun k _ _ => noFr0 k) Kp.true ?_ | refine Jp.storeAll 12 rfl (want_all rfl) rfl rfl Try.sizeOf35 rfl rfl (by first | rfl | assumption) (by first | rfl | assumption) rfl (by first | rfl | assumption) (fun k _ _ => noFr0 k) Kp.true ?_ | refine Jp.storeAll 11 rfl (want_all rfl) rfl rfl Try.sizeOf35 rfl rfl (by first | rfl | assumption) (by first | rfl | assumption) rfl (by first | rfl | assumption) (fun k _ _ => noFr0 k) Kp.true ?_ | refine Jp.storeAll 6 rfl (want_all rfl) rfl rfl Try.sizeOf35 rfl rfl (by first | rfl | assumption) (by first | rfl | assumption) rfl (by first | rfl | assumption) (fun k _ _ => noFr0 k) Kp.true ?_
  refine Jp.done hK14 ?_
  refine Cd.seq fun K15 hK15 => ?_
  refine Cd.seq fun K16 hK16 => ?_
  refine Cd.plain [(0, false), (1, false), (2, false)] rfl rfl ?_
  refine Jp.y 60 rfl (want_all rfl) rfl rfl Kp.true (by first | exact Y.loadAggO 14 rfl Try.isAgg35 Try.sizeOf35 rfl rfl (by first | rfl | assumption) | exact Y.loadAggO 15 rfl Try.isAgg35 Try.sizeOf35 rfl rfl (by first | rfl | assumption) | exact Y.loadAggO 13 rfl Try.isAgg35 Try.sizeOf35 rfl rfl (by first | rfl | assumption) | exact Y.loadAggO 12 rfl Try.isAgg35 Try.sizeOf35 rfl rfl (by first | rfl | assumption) | exact Y.loadAggO 11 rfl Try.isAgg35 Try.sizeOf35 rfl rfl (by first | rfl | assumption) | exact Y.loadAggO 6 rfl Try.isAgg35 Try.sizeOf35 rfl rfl (by first | rfl | assumption)) ?_
  refine Jp.y 61 rfl (want_all rfl) rfl rfl Kp.true (by first | exact Y.loadAggO 14 rfl Try.isAgg35 Try.sizeOf35 rfl rfl (by first | rfl | assumption) | exact Y.loadAggO 15 rfl Try.isAgg35 Try.sizeOf35 rfl rfl (by first | rfl | assumption) | exact Y.loadAggO 13 rfl Try.isAgg35 Try.sizeOf35 rfl rfl (by first | rfl | assumption) | exact Y.loadAggO 12 rfl Try.isAgg35 Try.sizeOf35 rfl rfl (by first | rfl | assumption) | exact Y.loadAggO 11 rfl Try.isAgg35 Try.sizeOf35 rfl rfl (by first | rfl | assumption) | exact Y.loadAggO 6 rfl Try.isAgg35 Try.sizeOf35 rfl rfl (by first | rfl | assumption)) ?_
  refine Jp.y 62 rfl (want_all rfl) rfl rfl Kp.true (Y.neqS (xs := ev.cells.toArray) (ys := ev.cells.toArray) (r := true) rfl rfl rfl ev_guard ev_fields ev_stood (fun w => by rw [ev_eq, (evEq_iff _ _).2 rfl])) ?_
  refine Jp.done hK16 ?_
  refine Cd.cond rfl (fun ga => ?_) (fun ga => ?_)
  · exact absurd ga (by simp)
  · skip
    refine Cd.skip hK15 ?_
    refine Cd.seq fun K17 hK17 => ?_
    refine Cd.seq fun K18 hK18 => ?_
    refine Cd.plain [(0, false), (1, false), (2, false)] rfl rfl ?_
    refine Jp.y 63 rfl (want_all rfl) rfl rfl Kp.true (by first | exact Y.fieldAddrP rfl rfl Try.underlying35 rfl Try.sizeOf3 (by decide) (show _ + 0 = _ from rfl) | exact Y.fieldAddr rfl rfl Try.underlying35 rfl Try.sizeOf3 (by decide)) ?_
    refine Jp.y 64 rfl (want_all rfl) rfl rfl Kp.true (by first | exact Y.loadO 14 rfl Try.isAgg3 rfl rfl rfl | exact Y.loadO 15 rfl Try.isAgg3 rfl rfl rfl | exact Y.loadO 13 rfl Try.isAgg3 rfl rfl rfl | exact Y.loadO 12 rfl Try.isAgg3 rfl rfl rfl | exact Y.loadO 11 rfl Try.isAgg3 rfl rfl rfl | exact Y.loadO 6 rfl Try.isAgg3 rfl rfl rfl | exact Y.loadC 6 rfl Try.isAgg3 rfl rfl (HasC.pt hc.cRet)) ?_
    refine Jp.y 65 rfl (want_all rfl) rfl rfl Kp.true (Y.neq rfl rfl rfl) ?_
    refine Jp.done hK18 ?_
    rcases hZ2 with ⟨hk, h1, h2⟩ | ⟨hk, h1⟩
    · subst h1 h2
      refine Cd.cond rfl (fun gb => ?_) (fun gb => ?_)
      · skip
        refine Cd.seq fun K19 hK19 => ?_
        refine Cd.plain [(0, false), (1, false), (2, false), (3, false)] rfl rfl ?_
        refine Jp.y 66 rfl (want_all rfl) rfl rfl Kp.true (by first | exact Y.loadAggO 14 rfl Try.isAgg32 Try.sizeOf32 rfl rfl (by first | rfl | assumption) | exact Y.loadAggO 15 rfl Try.isAgg32 Try.sizeOf32 rfl rfl (by first | rfl | assumption) | exact Y.loadAggO 13 rfl Try.isAgg32 Try.sizeOf32 rfl rfl (by first | rfl | assumption) | exact Y.loadAggO 12 rfl Try.isAgg32 Try.sizeOf32 rfl rfl (by first | rfl | assumption) | exact Y.loadAggO 11 rfl Try.isAgg32 Try.sizeOf32 rfl rfl (by first | rfl | assumption) | exact Y.loadAggO 6 rfl Try.isAgg32 Try.sizeOf32 rfl rfl (by first | rfl | assumption)) ?_
        refine Jp.y 67 rfl (want_all rfl) rfl rfl Kp.true (by first | exact Y.loadAggO 14 rfl Try.isAgg32 Try.sizeOf32 rfl rfl (by first | rfl | assumption) | exact Y.loadAggO 15 rfl Try.isAgg32 Try.sizeOf32 rfl rfl (by first | rfl | assumption) | exact Y.loadAggO 13 rfl Try.isAgg32 Try.sizeOf32 rfl rfl (by first | rfl | assumption) | exact Y.loadAggO 12 rfl Try.isAgg32 Try.sizeOf32 rfl rfl (by first | rfl | assumption) | exact Y.loadAggO 11 rfl Try.isAgg32 Try.sizeOf32 rfl rfl (by first | rfl | assumption) | exact Y.loadAggO 6 rfl Try.isAgg32 Try.sizeOf32 rfl rfl (by first | rfl | assumption)) ?_
        refine Jp.y 68 rfl (want_all rfl) rfl rfl Kp.true (Y.eqlS (xs := (StP.cells ⟨x.set 0 v, pc, r⟩).toArray) (ys := (StP.cells ⟨x.set 0 v, pc, r⟩).toArray) (r := true) rfl rfl rfl st_guard st_fields st_stood (fun w => by rw [st_eq _ _ hFx hFx w, (stEq_iff _ _).2 rfl])) ?_
        refine Jp.y 8 rfl (want_all rfl) rfl rfl Kp.true (Y.assign rfl rfl) ?_
        refine Jp.done hK19 ?_
        refine Cd.ret [] rfl (res1 rfl rfl) trivial ⟨rfl, rfl⟩
      · exact absurd gb (by simp; omega)
    · subst h1
      refine Cd.cond rfl (fun gb => ?_) (fun gb => ?_)
      · exact absurd gb (by simp; omega)
      · skip
        refine Cd.skip hK17 ?_
        refine Cd.seq fun K20 hK20 => ?_
        refine Cd.plain [(0, false), (1, false), (2, false), (3, false), (4, false), (5, false), (6, false), (7, false), (8, false), (9, false), (10, false)] rfl rfl ?_
        refine Jp.y 69 rfl (want_all rfl) rfl rfl Kp.true (by first | exact Y.loadAggO 14 rfl Try.isAgg32 Try.sizeOf32 rfl rfl (by first | rfl | assumption) | exact Y.loadAggO 15 rfl Try.isAgg32 Try.sizeOf32 rfl rfl (by first | rfl | assumption) | exact Y.loadAggO 13 rfl Try.isAgg32 Try.sizeOf32 rfl rfl (by first | rfl | assumption) | exact Y.loadAggO 12 rfl Try.isAgg32 Try.sizeOf32 rfl rfl (by first | rfl | assumption) | exact Y.loadAggO 11 rfl Try.isAgg32 Try.sizeOf32 rfl rfl (by first | rfl | assumption) | exact Y.loadAggO 6 rfl Try.isAgg32 Try.sizeOf32 rfl rfl (by first | rfl | assumption)) ?_
        refine Jp.y 70 rfl (want_all rfl) rfl rfl Kp.true (by first | exact Y.loadAggO 14 rfl Try.isAgg32 Try.sizeOf32 rfl rfl (by first | rfl | assumption) | exact Y.loadAggO 15 rfl Try.isAgg32 Try.sizeOf32 rfl rfl (by first | rfl | assumption) | exact Y.loadAggO 13 rfl Try.isAgg32 Try.sizeOf32 rfl rfl (by first | rfl | assumption) | exact Y.loadAggO 12 rfl Try.isAgg32 Try.sizeOf32 rfl rfl (by first | rfl | assumption) | exact Y.loadAggO 11 rfl Try.isAgg32 Try.sizeOf32 rfl rfl (by first | rfl | assumption) | exact Y.loadAggO 6 rfl Try.isAgg32 Try.sizeOf32 rfl rfl (by first | rfl | assumption)) ?_
        refine Jp.y 71 rfl (want_all rfl) rfl rfl Kp.true (Y.eqlS (xs := u.cells.toArray) (ys := u.cells.toArray) (r := true) rfl rfl rfl st_guard st_fields st_stood (fun w => by rw [st_eq _ _ hFx hFx w, (stEq_iff _ _).2 rfl])) ?_
        refine Jp.slot 71 rfl (show _ = Value.bool true from rfl) ?_
        refine Jp.y 72 rfl (want_all rfl) rfl rfl Kp.true (Y.move rfl rfl) ?_
        refine Jp.slot 72 rfl (show _ = Value.bool true from rfl) ?_
        refine Jp.y 73 rfl (want_as rfl rfl rfl rfl) rfl rfl Kp.true (Y.move rfl rfl) ?_
        refine Jp.know (A := MemO b M1) 0 rfl memO_okM fun hmem => ?_
        have hpl : ∀ y ∈ M1.pages, y.2.b.length = 256 := fun y hy => (hmem.page y hy).len
        refine Jp.call [0] [0, 20, 21] (mem2_spec b M1 50 (sorts12 _ (by omega))) 74 rfl (want_as rfl rfl rfl rfl) rfl rfl (Runs.fn rfl Try.call19 rfl) (by decide) (by decide) rfl trivial ?_
        rintro v6 ρ6 L6 ⟨b2, PA, pcap, rfl, rfl⟩
        refine ⟨rfl, fun hle6 => ⟨Kp.true, ?_⟩⟩
        refine Jp.y 75 rfl (want_as rfl rfl rfl rfl) rfl rfl Kp.true (Y.move rfl rfl) ?_
        refine Jp.call [1] [1, 22, 23] (mem2_spec b' M1 50 (sorts12 _ (by omega))) 76 rfl (want_as rfl rfl rfl rfl) rfl rfl (Runs.fn rfl Try.call19 rfl) (by decide) (by decide) rfl trivial ?_
        rintro v7 ρ7 L7 ⟨b3, PB, pcb, rfl, rfl⟩
        refine ⟨rfl, fun hle7 => ⟨Kp.true, ?_⟩⟩
        refine Jp.call [20, 21, 22, 23] [] (sameMem_spec b2 b3 M1.pages hpl (by omega) 50 50 PA PB none none pcap pcb 0 0 0 0) 77 rfl (want_as rfl rfl rfl rfl) rfl rfl (Runs.fn rfl Try.call20 rfl) (by decide) (by decide) rfl trivial ?_
        rintro v8 ρ8 L8 ⟨rfl, rfl, rfl⟩
        refine ⟨rfl, fun hle8 => ⟨Kp.true, ?_⟩⟩
        refine Jp.y 78 rfl (want_all rfl) rfl rfl Kp.true (Y.pickT rfl rfl rfl) ?_
        refine Jp.y 8 rfl (want_all rfl) rfl rfl Kp.true (Y.assign rfl rfl) ?_
        refine Jp.done hK20 ?_
        refine Cd.ret [] rfl (res1 rfl rfl) trivial ⟨rfl, rfl⟩
end Go.Proofs.Ytkjeidoplonkjaa
