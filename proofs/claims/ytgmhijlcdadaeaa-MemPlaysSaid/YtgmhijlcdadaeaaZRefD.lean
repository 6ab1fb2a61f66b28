import Derived.Test.YtgmhijlcdadaeaaZRefC
set_option linter.unusedVariables false
set_option linter.unusedSimpArgs false
set_option maxRecDepth 100000
namespace Go.Proofs.Ytgmhijlcdadaeaa
open Go
theorem stretchI_cases {a n : Nat} {s : Int} (h : stretchI a n = s) : (s < 0 ∧ stretch a n = none) ∨ (∃ m : Nat, s = m ∧ stretch a n = some m ∧ a % 256 = 0 ∧ a + m * 256 ≤ 4294967296 ∧ 0 < m) := by
  rw [stretchI] at h
  cases e : stretch a n with
  | none => rw [e] at h; exact .inl ⟨by rw [← h]; decide, rfl⟩
  | some m =>
    rw [e] at h
    refine .inr ⟨m, h.symm, rfl, ?_⟩
    rw [stretch] at e
    split at e
    · rename_i g
      injection e with e
      omega
    · cases e
theorem base_al {a : Nat} (h : a % 256 = 0) : baseN a = a := by unfold baseN; omega
theorem refMap_spec (b : Nat) (M : MemG) (a n : Nat) (perm : Int) (ha : a < 4294967296) (hn : n < 4294967296) : Spec Try.prog 47 #[.pointer (some ⟨b, 0, none⟩), .int .u32 a, .int .u32 n, .int .i64 perm] (fun _ => True) [(0, RefO b M)]
    (fun ρ ρ' v L => ρ' = ρ ∧ v = .int .i64 (mapM M a n perm).1 ∧ L = [(0, RefO b (mapM M a n perm).2)]) := by
  refine Spec.of 86 Try.func47 rfl Try.ntmps47 [(0, _), (1, _), (2, _), (3, _)] rfl rfl ?_
  intro cx ρ hr h0
  refine Cd.know (A := RefO b M) 0 rfl RefO.ok fun hmem => ?_
  have hroom := hmem.room
  have hbud := hmem.budget.2
  obtain ⟨s, hs⟩ : ∃ s, stretchI a n = s := ⟨_, rfl⟩
  have hcs := stretchI_cases hs
  have hbadV : s < 0 ∨ perm < 0 ∨ 7 < perm → mapM M a n perm = (1, M) := fun h => by
    rw [mapM]
    rcases hcs with ⟨_, e⟩ | ⟨m, e1, e2, _⟩
    · rw [e]
    · rw [e2]; dsimp only; rw [if_pos (by omega)]
  have hsm : s ≤ 16777217 := by rcases hcs with h | ⟨m, h⟩ <;> omega
  refine Cd.seq fun K1 hK1 => ?_
  refine Cd.plain [(0, false)] rfl rfl ?_
  refine Jp.y 8 rfl (want_all rfl) rfl rfl Kp.true (Y.assign rfl rfl) ?_
  refine Jp.done hK1 ?_
  refine Cd.seq fun K2 hK2 => ?_
  refine Cd.plain [(0, false), (1, false), (2, false), (3, false)] rfl rfl ?_
  refine Jp.y 14 rfl (want_all rfl) rfl rfl Kp.true (Y.move rfl rfl) ?_
  refine Jp.y 15 rfl (want_all rfl) rfl rfl Kp.true (Y.move rfl rfl) ?_
  refine Jp.call [] [] (refStretch_spec a n ha hn) 16 rfl (want_all rfl) rfl rfl (Runs.fn rfl Try.call90 rfl) (by decide) (by decide) rfl trivial ?_
  rintro v1 ρ1 L1 ⟨rfl, rfl, rfl⟩
  refine ⟨rfl, fun hle1 => ⟨Kp.true, ?_⟩⟩
  rw [hs]
  refine Jp.y 9 rfl (want_all rfl) rfl rfl Kp.true (Y.assign rfl rfl) ?_
  refine Jp.done hK2 ?_
  refine Cd.seq fun K3 hK3 => ?_
  refine Cd.seq fun K4 hK4 => ?_
  refine Cd.plain [(0, false), (1, false), (2, false), (3, false), (4, false), (5, false), (6, false), (7, false), (8, false), (9, false)] rfl rfl ?_
  refine Jp.y 17 rfl (want_all rfl) rfl rfl Kp.true (Y.move rfl rfl) ?_
  refine Jp.y 18 rfl (want_all rfl) rfl rfl Kp.true (Y.lss rfl rfl rfl) ?_
  refine Jp.y 19 rfl (want_all rfl) rfl rfl Kp.true (Y.move rfl rfl) ?_
  refine Jp.split 19 rfl (fun g19 => ?_) (fun g19 => ?_)
  · skip
    try simp only [decide_eq_false_iff_not, decide_eq_true_eq, Int.not_lt, Int.not_le, Bool.not_eq_false, Bool.not_eq_true, Bool.not_true, Bool.not_false, Bool.not_eq_true', Bool.not_eq_false', beq_eq_false_iff_ne, ne_eq, beq_iff_eq, bne_iff_ne, bne_eq_false_iff_eq, Classical.not_not] at g19
    refine Jp.skip 20 rfl (want_as rfl rfl rfl rfl) rfl rfl Kp.true ?_
    refine Jp.skip 21 rfl (want_as rfl rfl rfl rfl) rfl rfl Kp.true ?_
    refine Jp.y 22 rfl (want_all rfl) rfl rfl Kp.true (Y.pickT rfl rfl rfl) ?_
    refine Jp.y 23 rfl (want_all rfl) rfl rfl Kp.true (Y.move rfl rfl) ?_
    refine Jp.skip 24 rfl (want_as rfl rfl rfl rfl) rfl rfl Kp.true ?_
    refine Jp.skip 25 rfl (want_as rfl rfl rfl rfl) rfl rfl Kp.true ?_
    refine Jp.y 26 rfl (want_all rfl) rfl rfl Kp.true (Y.pickT rfl rfl rfl) ?_
    refine Jp.done hK4 ?_
    refine Cd.condT rfl ?_
    refine Cd.seq fun K5 hK5 => ?_
    refine Cd.plain [(0, false)] rfl rfl ?_
    refine Jp.y 8 rfl (want_all rfl) rfl rfl Kp.true (Y.assign rfl rfl) ?_
    refine Jp.done hK5 ?_
    refine Cd.ret [(0, _)] rfl (res1 rfl rfl) ⟨rfl, trivial⟩ ⟨rfl, by rw [hbadV (by omega)], by rw [hbadV (by omega)]⟩
  try simp only [decide_eq_false_iff_not, decide_eq_true_eq, Int.not_lt, Int.not_le, Bool.not_eq_false, Bool.not_eq_true, Bool.not_true, Bool.not_false, Bool.not_eq_true', Bool.not_eq_false', beq_eq_false_iff_ne, ne_eq, beq_iff_eq, bne_iff_ne, bne_eq_false_iff_eq, Classical.not_not] at g19
  refine Jp.y 20 rfl (want_as rfl rfl rfl rfl) rfl rfl Kp.true (Y.move rfl rfl) ?_
  refine Jp.y 21 rfl (want_as rfl rfl rfl rfl) rfl rfl Kp.true (Y.lss rfl rfl rfl) ?_
  refine Jp.y 22 rfl (want_all rfl) rfl rfl Kp.true (Y.pickF rfl rfl rfl) ?_
  refine Jp.y 23 rfl (want_all rfl) rfl rfl Kp.true (Y.move rfl rfl) ?_
  refine Jp.split 23 rfl (fun g23 => ?_) (fun g23 => ?_)
  · skip
    try simp only [decide_eq_false_iff_not, decide_eq_true_eq, Int.not_lt, Int.not_le, Bool.not_eq_false, Bool.not_eq_true, Bool.not_true, Bool.not_false, Bool.not_eq_true', Bool.not_eq_false', beq_eq_false_iff_ne, ne_eq, beq_iff_eq, bne_iff_ne, bne_eq_false_iff_eq, Classical.not_not] at g23
    refine Jp.skip 24 rfl (want_as rfl rfl rfl rfl) rfl rfl Kp.true ?_
    refine Jp.skip 25 rfl (want_as rfl rfl rfl rfl) rfl rfl Kp.true ?_
    refine Jp.y 26 rfl (want_all rfl) rfl rfl Kp.true (Y.pickT rfl rfl rfl) ?_
    refine Jp.done hK4 ?_
    refine Cd.condT rfl ?_
    refine Cd.seq fun K6 hK6 => ?_
    refine Cd.plain [(0, false)] rfl rfl ?_
    refine Jp.y 8 rfl (want_all rfl) rfl rfl Kp.true (Y.assign rfl rfl) ?_
    refine Jp.done hK6 ?_
    refine Cd.ret [(0, _)] rfl (res1 rfl rfl) ⟨rfl, trivial⟩ ⟨rfl, by rw [hbadV (by omega)], by rw [hbadV (by omega)]⟩
  try simp only [decide_eq_false_iff_not, decide_eq_true_eq, Int.not_lt, Int.not_le, Bool.not_eq_false, Bool.not_eq_true, Bool.not_true, Bool.not_false, Bool.not_eq_true', Bool.not_eq_false', beq_eq_false_iff_ne, ne_eq, beq_iff_eq, bne_iff_ne, bne_eq_false_iff_eq, Classical.not_not] at g23
  refine Jp.y 24 rfl (want_as rfl rfl rfl rfl) rfl rfl Kp.true (Y.move rfl rfl) ?_
  refine Jp.y 25 rfl (want_as rfl rfl rfl rfl) rfl rfl Kp.true (Y.gtr rfl rfl rfl) ?_
  refine Jp.y 26 rfl (want_all rfl) rfl rfl Kp.true (Y.pickF rfl rfl rfl) ?_
  refine Jp.done hK4 ?_
  refine Cd.cond rfl (fun g26 => ?_) (fun g26 => ?_)
  · skip
    try simp only [decide_eq_false_iff_not, decide_eq_true_eq, Int.not_lt, Int.not_le, Bool.not_eq_false, Bool.not_eq_true, Bool.not_true, Bool.not_false, Bool.not_eq_true', Bool.not_eq_false', beq_eq_false_iff_ne, ne_eq, beq_iff_eq, bne_iff_ne, bne_eq_false_iff_eq, Classical.not_not] at g26
    refine Cd.seq fun K7 hK7 => ?_
    refine Cd.plain [(0, false)] rfl rfl ?_
    refine Jp.y 8 rfl (want_all rfl) rfl rfl Kp.true (Y.assign rfl rfl) ?_
    refine Jp.done hK7 ?_
    refine Cd.ret [(0, _)] rfl (res1 rfl rfl) ⟨rfl, trivial⟩ ⟨rfl, by rw [hbadV (by omega)], by rw [hbadV (by omega)]⟩
  try simp only [decide_eq_false_iff_not, decide_eq_true_eq, Int.not_lt, Int.not_le, Bool.not_eq_false, Bool.not_eq_true, Bool.not_true, Bool.not_false, Bool.not_eq_true', Bool.not_eq_false', beq_eq_false_iff_ne, ne_eq, beq_iff_eq, bne_iff_ne, bne_eq_false_iff_eq, Classical.not_not] at g26
  refine Cd.skip hK3 ?_
  refine Cd.seq fun K8 hK8 => ?_
  refine Cd.seq fun K9 hK9 => ?_
  refine Cd.plain [(0, false), (1, false), (2, false), (3, false), (4, false)] rfl rfl ?_
  obtain ⟨many, e1, hm, hst⟩ : ∃ m : Nat, s = m ∧ stretch a n = some m ∧ a % 256 = 0 ∧ a + m * 256 ≤ 4294967296 ∧ 0 < m := by
    rcases hcs with h | h
    · omega
    · exact h
  obtain ⟨pn, rfl⟩ := Int.eq_ofNat_of_zero_le (show 0 ≤ perm by omega)
  rw [e1]
  refine Jp.y 27 rfl (want_all rfl) rfl rfl Kp.true (Y.move rfl rfl) ?_
  refine Jp.y 28 rfl (want_all rfl) rfl rfl Kp.true (Y.move rfl rfl) ?_
  refine Jp.y 29 rfl (want_all rfl) rfl rfl Kp.true (Y.move rfl rfl) ?_
  refine Jp.call [0] [0] (refThere_spec b M a many ha (by omega)) 30 rfl (want_all rfl) rfl rfl (Runs.fn rfl Try.call91 rfl) (by decide) (by decide) rfl trivial ?_
  rintro v1 ρ1 L1 ⟨rfl, rfl, rfl⟩
  refine ⟨rfl, fun hle1 => ⟨Kp.true, ?_⟩⟩
  refine Jp.y 31 rfl (want_all rfl) rfl rfl Kp.true (Y.gtr rfl rfl rfl) ?_
  refine Jp.done hK9 ?_
  refine Cd.cond rfl (fun ge => ?_) (fun ge => ?_)
  · have hV : mapM M a n pn = (5, M) := by
        have ge2 : 0 < (withinP M a many).length := by simp only [decide_eq_true_eq] at ge; omega
        rw [mapM, hm]
        dsimp only
        rw [if_neg (by omega), if_pos ge2]
    refine Cd.seq fun K10 hK10 => ?_
    refine Cd.plain [(0, false)] rfl rfl ?_
    refine Jp.y 8 rfl (want_all rfl) rfl rfl Kp.true (Y.assign rfl rfl) ?_
    refine Jp.done hK10 ?_
    refine Cd.ret [(0, _)] rfl (res1 rfl rfl) ⟨rfl, trivial⟩ ⟨rfl, by rw [hV], by rw [hV]⟩
  · have hno : (withinP M a many).length = 0 := by simp only [decide_eq_false_iff_not] at ge; omega
    refine Cd.refOpen 0 1 2 (by decide) rfl fun A c B d gl hf => ?_
    refine Cd.skip hK8 ?_
    refine Cd.seq fun K11 hK11 => ?_
    refine Cd.seq fun K12 hK12 => ?_
    refine Cd.drawn [(0, _), (1, _), (2, _)] ⟨rfl, rfl, rfl, trivial⟩ [(0, true), (1, true), (2, true), (3, true), (4, true), (5, true), (6, true), (7, true), (8, true), (9, true), (10, true), (11, true)] follows (by kernel_rfl) (fun hrl => ?_)
    refine Jp.q 32 rfl (want_all rfl) rfl rfl (Y.move rfl rfl) ?_
    refine Jp.q 33 rfl (want_all rfl) rfl rfl (Y.move rfl rfl) ?_
    refine Jp.q 34 rfl (want_all rfl) rfl rfl (Y.nilCheck rfl rfl) ?_
    refine Jp.q 35 rfl (want_all rfl) rfl rfl (by first | exact Y.fieldAddrP rfl rfl Try.underlying88 rfl Try.sizeOf3 (by decide) (show _ + 0 = _ from rfl) | exact Y.fieldAddr rfl rfl Try.underlying88 rfl Try.sizeOf3 (by decide)) ?_
    refine Jp.q 36 rfl (want_all rfl) rfl rfl (Y.loadO 0 rfl Try.isAgg3 rfl rfl rfl) ?_
    refine Jp.q 37 rfl (want_all rfl) rfl rfl (Y.move rfl rfl) ?_
    refine Jp.q 38 rfl (want_all rfl) rfl rfl (Y.nilCheck rfl rfl) ?_
    refine Jp.q 39 rfl (want_all rfl) rfl rfl (by first | exact Y.fieldAddrP rfl rfl Try.underlying88 rfl Try.sizeOf85 (by decide) (show _ + 1 = _ from rfl) | exact Y.fieldAddr rfl rfl Try.underlying88 rfl Try.sizeOf85 (by decide)) ?_
    refine Jp.q 40 rfl (want_all rfl) rfl rfl (Y.loadO 0 rfl Try.isAgg85 rfl rfl rfl) ?_
    refine Jp.q 41 rfl (want_all rfl) rfl rfl (Y.lenslice rfl Try.underlying85 rfl) ?_
    refine Jp.q 42 rfl (want_all rfl) rfl rfl (Y.sub_ rfl rfl rfl (by first | exact wrap_i64 (by omega) (by omega) | rfl)) ?_
    refine Jp.q 43 rfl (want_all rfl) rfl rfl (Y.gtr rfl rfl rfl) ?_
    refine Jp.done hK12 ?_
    refine Cd.cond rfl (fun gf => ?_) (fun gf => ?_)
    · have hV : mapM M a n pn = (6, M) := by rw [mapM, hm]; dsimp only; rw [if_neg (by omega), if_neg (by omega), if_pos (by simp at gf; omega)]
      refine Cd.seq fun K14 hK14 => ?_
      refine Cd.plain [(0, false)] rfl rfl ?_
      refine Jp.y 8 rfl (want_all rfl) rfl rfl Kp.true (Y.assign rfl rfl) ?_
      refine Jp.done hK14 ?_
      refine Cd.refClose (b := b) (M := M) 0 1 2 (by decide) hf rfl rfl rfl ?_
      refine Cd.ret [(0, _)] rfl (res1 rfl rfl) ⟨rfl, trivial⟩ ⟨rfl, by rw [hV], by rw [hV]⟩
    · have hfit : many ≤ M.budget - M.pages.length := by simp at gf; omega
      have hV : mapM M a n pn = (0, addPgs M a pn many) := by rw [mapM, hm]; dsimp only; rw [if_neg (by omega), if_neg (by omega), if_neg (by omega)]; rfl
      have hnone : ∀ i, i < many → a + 256 * i ∉ (addPgs M a pn i).pages.map (·.1) := fun i hi h => by
        rcases addPgs_mem h with h | ⟨j, hj, h⟩
        · exact within_none (a := a) (many := many) (by omega) (by simp only [inS, Bool.and_eq_true, decide_eq_true_eq]; omega) h
        · omega
      refine Cd.refClose (b := b) (M := addPgs M a pn 0) 0 1 2 (by decide) hf rfl rfl rfl ?_
      refine Cd.skip hK11 ?_
      refine Cd.seq fun K15 hK15 => ?_
      refine Cd.seq fun K16 hK16 => ?_
      refine Cd.plain [(0, false)] rfl rfl ?_
      refine Jp.y 10 rfl (want_all rfl) rfl rfl Kp.true (Y.assign rfl rfl) ?_
      refine Jp.done hK16 ?_
      refine Cd.block ?_
      refine Cd.loopK (G := Nat) (fun i => i ≤ many) (fun i => many - i) (fun _ => _) (fun i => [(10, .int .i64 (i : Int))]) [(0, _), (1, _), (3, _), (9, _)] (fun i => [(0, RefO b (addPgs M a pn i))]) [] 0 (Nat.zero_le _) rfl ⟨rfl, trivial⟩ ⟨rfl, rfl, rfl, rfl, trivial⟩ ⟨rfl, trivial⟩ trivial (fun g KLa hok hLa => ?_)
      obtain ⟨i, hi⟩ : ∃ i, i = g := ⟨_, rfl⟩
      rw [← hi] at hok ⊢
      refine Cd.seq fun K17 hK17 => ?_
      refine Cd.seq fun K18 hK18 => ?_
      refine Cd.plain [(0, false), (1, false), (2, false)] rfl rfl ?_
      refine Jp.y 44 rfl (want_all rfl) rfl rfl Kp.true (Y.move rfl rfl) ?_
      refine Jp.y 45 rfl (want_all rfl) rfl rfl Kp.true (Y.move rfl rfl) ?_
      refine Jp.y 46 rfl (want_all rfl) rfl rfl Kp.true (Y.lss rfl rfl rfl) ?_
      refine Jp.done hK18 ?_
      refine Cd.cond rfl (fun ga => ?_) (fun ga => ?_)
      · have hil : i < many := by simp at ga; omega
        have hni := hnone i hil
        have hli := addPgs_length M a pn i
        have hbi := addPgs_budget M a pn i
        obtain ⟨k, hk⟩ : ∃ k, a + 256 * i = k := ⟨_, rfl⟩
        have hka : k % 256 = 0 := by omega
        have hadd : addPgs M a pn (i + 1) = { addPgs M a pn i with pages := insPg k ⟨List.replicate 256 0, pn⟩ (addPgs M a pn i).pages, gens := Ytgmhijlcdadaeaa.bump (addPgs M a pn i).gens k } := by rw [← hk]; rfl
        rw [hk] at hni
        obtain ⟨M1, hM1⟩ : ∃ M1, addPgs M a pn i = M1 := ⟨_, rfl⟩
        rw [hM1] at hni hli hbi hadd ⊢
        refine Cd.know (A := RefO b M1) 0 rfl RefO.ok fun hok1 => ?_
        refine Cd.skip hK17 ?_
        refine Cd.seq fun K19 hK19 => ?_
        refine Cd.block ?_
        refine Cd.seq fun K20 hK20 => ?_
        refine Cd.plain [(0, false), (1, false), (2, false), (3, false), (4, false), (5, false)] rfl rfl ?_
        refine Jp.y 49 rfl (want_all rfl) rfl rfl Kp.true (Y.move rfl rfl) ?_
        refine Jp.y 50 rfl (want_all rfl) rfl rfl Kp.true (Y.move rfl rfl) ?_
        refine Jp.y 51 rfl (want_all rfl) rfl rfl Kp.true (Y.mul_ rfl rfl rfl (by first | exact wrap_i64 (by omega) (by omega) | rfl)) ?_
        refine Jp.y 52 rfl (want_all rfl) rfl rfl Kp.true (Y.conv_ rfl rfl Try.underlying2 Try.underlying25 (by first | exact wrap_u32 (by omega) (by omega) | rfl)) ?_
        refine Jp.y 53 rfl (want_all rfl) rfl rfl Kp.true (Y.add_ rfl rfl rfl (by first | exact wrap_u32 (by omega) (by omega) | rfl)) ?_
        refine Jp.slot 53 rfl (show _ = Value.int .u32 (k : Int) from congrArg (Value.int .u32) (by omega)) ?_
        refine Jp.y 11 rfl (want_all rfl) rfl rfl Kp.true (Y.assign rfl rfl) ?_
        refine Jp.done hK20 ?_
        refine Cd.seq fun K21 hK21 => ?_
        refine Cd.plain [(0, false), (1, false), (2, false), (3, false), (4, false), (5, false), (6, false), (7, false)] rfl rfl ?_
        have hmo : MemOk { M1 with pages := insPg k ⟨List.replicate 256 0, pn⟩ M1.pages } := hok1.ins hni hka (by omega) (by simp) (by show pn ≤ 7; omega) (by omega)
        refine Jp.y 55 rfl (want_all rfl) rfl rfl Kp.true (Y.move rfl rfl) ?_
        refine Jp.y 56 rfl (want_all rfl) rfl rfl Kp.true (Y.move rfl rfl) ?_
        refine Jp.call [0] [0] (refAt_spec b M1 k (by omega)) 57 rfl (want_all rfl) rfl rfl (Runs.fn rfl Try.call92 rfl) (by decide) (by decide) rfl trivial ?_
        rintro v1 ρ1 L1 ⟨rfl, rfl, rfl⟩
        refine ⟨rfl, fun hle1 => ⟨Kp.true, ?_⟩⟩
        rw [base_al hka]
        refine Jp.y 54 rfl (want_all rfl) rfl rfl Kp.true (Y.move rfl rfl) ?_
        refine Jp.y 58 rfl (want_all rfl) rfl rfl Kp.true (Y.extract rfl rfl rfl) ?_
        refine Jp.y 59 rfl (want_all rfl) rfl rfl Kp.true (Y.extract rfl rfl rfl) ?_
        refine Jp.y 12 rfl (want_all rfl) rfl rfl Kp.true (Y.assign rfl rfl) ?_
        refine Jp.y 13 rfl (want_all rfl) rfl rfl Kp.true (Y.assign rfl rfl) ?_
        refine Jp.done hK21 ?_
        refine Cd.seq fun K22 hK22 => ?_
        refine Cd.joinG (G := Unit) (fun _ => True) (fun _ => []) [(0, _), (1, _), (3, _), (9, _), (10, _), (11, _)] ⟨rfl, rfl, rfl, rfl, rfl, rfl, trivial⟩ (fun _ => [(0, RefO b { M1 with pages := insPg k ⟨List.replicate 256 0, pn⟩ M1.pages })]) [] trivial hK22 (fun g hφ => ?_) (fun hj1 => ?_)
        · clear hφ
          refine Cd.plain [(0, false), (1, false), (2, false)] rfl rfl ?_
          refine Jp.y 83 rfl (want_all rfl) rfl rfl Kp.true (Y.move rfl rfl) ?_
          refine Jp.y 84 rfl (want_all rfl) rfl rfl Kp.true (Y.move rfl rfl) ?_
          refine Jp.call [0] [0] (refBump_spec b { M1 with pages := insPg k ⟨List.replicate 256 0, pn⟩ M1.pages } k (by omega)) 85 rfl (want_all rfl) rfl rfl (Runs.fn rfl Try.call93 rfl) (by decide) (by decide) rfl trivial ?_
          rintro v1 ρ1 L1 ⟨rfl, rfl, rfl⟩
          refine ⟨rfl, fun hle1 => ⟨Kp.true, ?_⟩⟩
          rw [base_al hka, ← hadd]
          refine Jp.over rfl hK19 ?_
          refine Cd.plain [(0, false), (1, false), (2, false)] rfl rfl ?_
          refine Jp.y 47 rfl (want_all rfl) rfl rfl Kp.true (Y.move rfl rfl) ?_
          refine Jp.y 48 rfl (want_all rfl) rfl rfl Kp.true (Y.add_ rfl rfl rfl (by first | exact wrap_i64 (by omega) (by omega) | rfl)) ?_
          refine Jp.y 10 rfl (want_all rfl) rfl rfl Kp.true (Y.assign rfl rfl) ?_
          rw [show (i : Int) + 1 = ((i + 1 : Nat) : Int) by omega]
          refine Jp.again hLa (i + 1) (by omega) (by omega) rfl ⟨rfl, rfl, rfl, rfl, rfl, trivial⟩ ⟨rfl, trivial⟩
        · skip
          refine Cd.refOpen 0 1 2 (by decide) rfl fun A1 c1 B1 d1 gl1 hf1 => ?_
          have hrows := hf1.rows
          have hins := ins_at (⟨List.replicate 256 0, pn⟩ : Pg) hok1.rising hni
          obtain ⟨p, hp⟩ : ∃ p, posA M1.pages k = p := ⟨_, rfl⟩
          have hpl := posA_le M1.pages k
          rw [show (M1.pages.takeWhile fun x => decide (x.1 < k)).length = p from hp] at hins
          rw [hp] at hpl ⊢
          obtain ⟨z, hz⟩ : ∃ z : Pg, (⟨List.replicate 256 0, pn⟩ : Pg) = z := ⟨_, rfl⟩
          rw [hz] at hins hmo
          have hzl : (refPg (k, z)).length = 258 := refPg_len (by rw [← hz]; simp)
          refine Cd.freeze (i := 1) rfl (OwnS.up _ _ _ _ _ _) fun ρ7 hle7 hA7 => ?_
          have hR1 := hA7.rd.take (l := p) hpl
          have hR2 := hA7.rd.drop (lo := p) hpl
          rw [rs_take p hrows] at hR1
          rw [rs_drop p hrows] at hR2
          have hroomc := hA7.rd.2.1.1
          obtain ⟨l1, hl1⟩ : ∃ l1, insPg k z M1.pages = l1 := ⟨_, rfl⟩
          rw [hl1] at hins hmo
          have hl1l : l1.length = p + 1 + (M1.pages.length - p) := by
            rw [hins, List.length_append, List.length_cons, List.length_take, List.length_drop]; omega
          have hm1 : (M1.pages.take p).flatMap refPg ++ refPg (k, z) = (M1.pages.take p ++ [(k, z)]).flatMap refPg := by
            rw [List.flatMap_append]; simp
          have hm2 : (M1.pages.take p ++ [(k, z)]).flatMap refPg ++ (M1.pages.drop p).flatMap refPg = l1.flatMap refPg := by
            rw [hins, ← List.flatMap_append, List.append_assoc]; rfl
          have hone1 : (refPg (k, z)).all one = true := by
            have := pgs_one (l := [(k, z)])
            simpa using this
          refine Cd.drawnT [(0, _), (2, _)] ⟨rfl, rfl, trivial⟩ 23 (.q 0 (.q 2 (.q 3 (.q 4 (.q 5 (.q 6 (.q 7 (.q 9 (.q 10 (.q 11 (.q 14 (.q 15 (.q 16 (.q 17 (.q 18 (.q 19 (.f 1 (.f 8 (.l 12 (.l 13 (.l 20 (.q 21 (.q 22 (.l 23 .nil)))))) 12 (.l 8 (.l 13 (.l 20 (.q 21 (.q 22 (.l 23 .nil))))))) 12 (.l 1 (.l 8 (.l 13 (.l 20 (.q 21 (.q 22 (.l 23 .nil)))))))))))))))))))))))) follows (by kernel_rfl) (fun hrl => ?_)
          refine JT.q 60 rfl (want_all rfl) rfl rfl (Y.move rfl rfl) ?_
          refine JT.q 62 rfl (want_all rfl) rfl rfl (Y.move rfl rfl) ?_
          refine JT.q 63 rfl (want_all rfl) rfl rfl (Y.nilCheck rfl rfl) ?_
          refine JT.q 64 rfl (want_all rfl) rfl rfl (by first | exact Y.fieldAddrP rfl rfl Try.underlying88 rfl Try.sizeOf85 (by decide) (show _ + 1 = _ from rfl) | exact Y.fieldAddr rfl rfl Try.underlying88 rfl Try.sizeOf85 (by decide)) ?_
          refine JT.q 65 rfl (want_all rfl) rfl rfl (Y.loadO 0 rfl Try.isAgg85 rfl rfl rfl) ?_
          refine JT.q 66 rfl (want_all rfl) rfl rfl (Y.move rfl rfl) ?_
          refine JT.q 67 rfl (want_all rfl) rfl rfl (Y.sliceTo (hi := p) rfl rfl rfl Try.underlying85 Try.sizeOf108 (by omega) (by omega)) ?_
          refine JT.q 69 rfl (want_all rfl) rfl rfl (Y.move rfl rfl) ?_
          refine JT.q 70 rfl (want_all rfl) rfl rfl (Y.move rfl rfl) ?_
          refine JT.q 71 rfl (want_all rfl) rfl rfl (Y.struct [(0, _), (1, _)] (refPg (k, z)) rfl rfl places108 Try.zeroValue108 (by rw [← hz]; rfl)) ?_
          refine JT.q 74 rfl (want_all rfl) rfl rfl (Y.move rfl rfl) ?_
          refine JT.q 75 rfl (want_all rfl) rfl rfl (Y.nilCheck rfl rfl) ?_
          refine JT.q 76 rfl (want_all rfl) rfl rfl (by first | exact Y.fieldAddrP rfl rfl Try.underlying88 rfl Try.sizeOf85 (by decide) (show _ + 1 = _ from rfl) | exact Y.fieldAddr rfl rfl Try.underlying88 rfl Try.sizeOf85 (by decide)) ?_
          refine JT.q 77 rfl (want_all rfl) rfl rfl (Y.loadO 0 rfl Try.isAgg85 rfl rfl rfl) ?_
          refine JT.q 78 rfl (want_all rfl) rfl rfl (Y.move rfl rfl) ?_
          refine JT.q 79 rfl (want_all rfl) rfl rfl (Y.sliceFrom (lo := p) rfl rfl rfl Try.underlying85 Try.sizeOf108 (by omega) (by omega)) ?_
          refine JT.fork ?_ ?_
          · skip
            refine JT.loud ?_
            refine Jp.lit 61 3 [] [] rfl (want_all rfl) rfl rfl rfl rfl Try.underlying85 Try.sizeOf108 Try.zeroValue108 rfl rfl rfl rfl rfl fun b2 => ⟨Kp.true, ?_⟩
            refine JT.tail (KT.st ⟨rfl, rfl, trivial⟩) ?_
            refine JT.fork ?_ ?_
            · skip
              refine JT.loud ?_
              refine Jp.append 68 3 rfl (want_all rfl) rfl rfl rfl Try.underlying85 Try.underlying85 (.inl ⟨_, rfl⟩) Try.sizeOf108 Try.typeInfo108 Try.zeroValue108 rfl (by decide) rfl rfl rfl (Src.rd hR1) pgs_one (p) (((M1.pages.take p).flatMap refPg)) (by first | omega | simp) (by simp) (by simp only [Try.t108]; omega) fun A8 c8 => ⟨Kp.true, ?_⟩
              refine JT.tail (KT.st ⟨rfl, rfl, trivial⟩) ?_
              refine JT.loud ?_
              refine Jp.lit 72 4 [(0, _)] (refPg (k, z)) rfl (want_all rfl) rfl rfl rfl rfl Try.underlying85 Try.sizeOf108 Try.zeroValue108 rfl rfl (fill_one hzl) hzl rfl fun b3 => ⟨Kp.true, ?_⟩
              refine JT.tail (KT.st ⟨rfl, rfl, trivial⟩) ?_
              refine JT.loud ?_
              refine Jp.append 73 3 rfl (want_all rfl) rfl rfl rfl Try.underlying85 Try.underlying85 (.inl ⟨_, rfl⟩) Try.sizeOf108 Try.typeInfo108 Try.zeroValue108 rfl (by decide) rfl rfl rfl (Src.own 4 rfl) hone1 ((p + 1)) (((M1.pages.take p ++ [(k, z)]).flatMap refPg)) (by first | omega | simp) hm1 (by simp only [Try.t108]; omega) fun A9 c9 => ⟨Kp.true, ?_⟩
              refine JT.tail (KT.st ⟨rfl, rfl, trivial⟩) ?_
              refine JT.loud ?_
              refine Jp.append 80 3 rfl (want_all rfl) rfl rfl rfl Try.underlying85 Try.underlying85 (.inl ⟨_, rfl⟩) Try.sizeOf108 Try.typeInfo108 Try.zeroValue108 rfl (by decide) rfl rfl rfl (Src.rd hR2) pgs_one (l1.length) ((l1.flatMap refPg)) (by first | omega | simp) hm2 (by simp only [Try.t108]; omega) fun A10 c10 => ⟨Kp.true, ?_⟩
              refine JT.tail (KT.st ⟨rfl, rfl, trivial⟩) ?_
              refine JT.q 81 rfl (want_all rfl) rfl rfl (Y.nilCheck rfl rfl) ?_
              refine JT.q 82 rfl (want_all rfl) rfl rfl (by first | exact Y.fieldAddrP rfl rfl Try.underlying88 rfl Try.sizeOf85 (by decide) (show _ + 1 = _ from rfl) | exact Y.fieldAddr rfl rfl Try.underlying88 rfl Try.sizeOf85 (by decide)) ?_
              refine JT.loud ?_
              refine Jp.store 0 rfl (want_all rfl) rfl rfl Try.sizeOf85 rfl rfl rfl rfl rfl rfl Kp.true ?_
              refine JT.tail KT.last ?_
              refine JT.nil ?_
              refine Jp.done hK22 ?_
              refine Cd.refClose (b := b) (M := { M1 with pages := l1 }) (A := A10) (c := c10) 0 3 2 (by decide) ⟨hmo, hf1.gen⟩ rfl rfl rfl ?_
              rw [← hl1, ← hz]
              exact Cd.meet' (hj1 () trivial) hle7 (by rw [h0]; exact Hp.le_refl _) ⟨rfl, rfl, rfl, rfl, rfl, rfl, trivial⟩ ⟨rfl, trivial⟩
            · skip
              refine JT.loud ?_
              refine Jp.lit 72 4 [(0, _)] (refPg (k, z)) rfl (want_all rfl) rfl rfl rfl rfl Try.underlying85 Try.sizeOf108 Try.zeroValue108 rfl rfl (fill_one hzl) hzl rfl fun b3 => ⟨Kp.true, ?_⟩
              refine JT.tail (KT.st ⟨rfl, rfl, trivial⟩) ?_
              refine JT.loud ?_
              refine Jp.append 68 3 rfl (want_all rfl) rfl rfl rfl Try.underlying85 Try.underlying85 (.inl ⟨_, rfl⟩) Try.sizeOf108 Try.typeInfo108 Try.zeroValue108 rfl (by decide) rfl rfl rfl (Src.rd hR1) pgs_one (p) (((M1.pages.take p).flatMap refPg)) (by first | omega | simp) (by simp) (by simp only [Try.t108]; omega) fun A8 c8 => ⟨Kp.true, ?_⟩
              refine JT.tail (KT.st ⟨rfl, rfl, trivial⟩) ?_
              refine JT.loud ?_
              refine Jp.append 73 3 rfl (want_all rfl) rfl rfl rfl Try.underlying85 Try.underlying85 (.inl ⟨_, rfl⟩) Try.sizeOf108 Try.typeInfo108 Try.zeroValue108 rfl (by decide) rfl rfl rfl (Src.own 4 rfl) hone1 ((p + 1)) (((M1.pages.take p ++ [(k, z)]).flatMap refPg)) (by first | omega | simp) hm1 (by simp only [Try.t108]; omega) fun A9 c9 => ⟨Kp.true, ?_⟩
              refine JT.tail (KT.st ⟨rfl, rfl, trivial⟩) ?_
              refine JT.loud ?_
              refine Jp.append 80 3 rfl (want_all rfl) rfl rfl rfl Try.underlying85 Try.underlying85 (.inl ⟨_, rfl⟩) Try.sizeOf108 Try.typeInfo108 Try.zeroValue108 rfl (by decide) rfl rfl rfl (Src.rd hR2) pgs_one (l1.length) ((l1.flatMap refPg)) (by first | omega | simp) hm2 (by simp only [Try.t108]; omega) fun A10 c10 => ⟨Kp.true, ?_⟩
              refine JT.tail (KT.st ⟨rfl, rfl, trivial⟩) ?_
              refine JT.q 81 rfl (want_all rfl) rfl rfl (Y.nilCheck rfl rfl) ?_
              refine JT.q 82 rfl (want_all rfl) rfl rfl (by first | exact Y.fieldAddrP rfl rfl Try.underlying88 rfl Try.sizeOf85 (by decide) (show _ + 1 = _ from rfl) | exact Y.fieldAddr rfl rfl Try.underlying88 rfl Try.sizeOf85 (by decide)) ?_
              refine JT.loud ?_
              refine Jp.store 0 rfl (want_all rfl) rfl rfl Try.sizeOf85 rfl rfl rfl rfl rfl rfl Kp.true ?_
              refine JT.tail KT.last ?_
              refine JT.nil ?_
              refine Jp.done hK22 ?_
              refine Cd.refClose (b := b) (M := { M1 with pages := l1 }) (A := A10) (c := c10) 0 3 2 (by decide) ⟨hmo, hf1.gen⟩ rfl rfl rfl ?_
              rw [← hl1, ← hz]
              exact Cd.meet' (hj1 () trivial) hle7 (by rw [h0]; exact Hp.le_refl _) ⟨rfl, rfl, rfl, rfl, rfl, rfl, trivial⟩ ⟨rfl, trivial⟩
          · skip
            refine JT.loud ?_
            refine Jp.lit 72 4 [(0, _)] (refPg (k, z)) rfl (want_all rfl) rfl rfl rfl rfl Try.underlying85 Try.sizeOf108 Try.zeroValue108 rfl rfl (fill_one hzl) hzl rfl fun b3 => ⟨Kp.true, ?_⟩
            refine JT.tail (KT.st ⟨rfl, rfl, trivial⟩) ?_
            refine JT.loud ?_
            refine Jp.lit 61 3 [] [] rfl (want_all rfl) rfl rfl rfl rfl Try.underlying85 Try.sizeOf108 Try.zeroValue108 rfl rfl rfl rfl rfl fun b2 => ⟨Kp.true, ?_⟩
            refine JT.tail (KT.st ⟨rfl, rfl, trivial⟩) ?_
            refine JT.loud ?_
            refine Jp.append 68 3 rfl (want_all rfl) rfl rfl rfl Try.underlying85 Try.underlying85 (.inl ⟨_, rfl⟩) Try.sizeOf108 Try.typeInfo108 Try.zeroValue108 rfl (by decide) rfl rfl rfl (Src.rd hR1) pgs_one (p) (((M1.pages.take p).flatMap refPg)) (by first | omega | simp) (by simp) (by simp only [Try.t108]; omega) fun A8 c8 => ⟨Kp.true, ?_⟩
            refine JT.tail (KT.st ⟨rfl, rfl, trivial⟩) ?_
            refine JT.loud ?_
            refine Jp.append 73 3 rfl (want_all rfl) rfl rfl rfl Try.underlying85 Try.underlying85 (.inl ⟨_, rfl⟩) Try.sizeOf108 Try.typeInfo108 Try.zeroValue108 rfl (by decide) rfl rfl rfl (Src.own 4 rfl) hone1 ((p + 1)) (((M1.pages.take p ++ [(k, z)]).flatMap refPg)) (by first | omega | simp) hm1 (by simp only [Try.t108]; omega) fun A9 c9 => ⟨Kp.true, ?_⟩
            refine JT.tail (KT.st ⟨rfl, rfl, trivial⟩) ?_
            refine JT.loud ?_
            refine Jp.append 80 3 rfl (want_all rfl) rfl rfl rfl Try.underlying85 Try.underlying85 (.inl ⟨_, rfl⟩) Try.sizeOf108 Try.typeInfo108 Try.zeroValue108 rfl (by decide) rfl rfl rfl (Src.rd hR2) pgs_one (l1.length) ((l1.flatMap refPg)) (by first | omega | simp) hm2 (by simp only [Try.t108]; omega) fun A10 c10 => ⟨Kp.true, ?_⟩
            refine JT.tail (KT.st ⟨rfl, rfl, trivial⟩) ?_
            refine JT.q 81 rfl (want_all rfl) rfl rfl (Y.nilCheck rfl rfl) ?_
            refine JT.q 82 rfl (want_all rfl) rfl rfl (by first | exact Y.fieldAddrP rfl rfl Try.underlying88 rfl Try.sizeOf85 (by decide) (show _ + 1 = _ from rfl) | exact Y.fieldAddr rfl rfl Try.underlying88 rfl Try.sizeOf85 (by decide)) ?_
            refine JT.loud ?_
            refine Jp.store 0 rfl (want_all rfl) rfl rfl Try.sizeOf85 rfl rfl rfl rfl rfl rfl Kp.true ?_
            refine JT.tail KT.last ?_
            refine JT.nil ?_
            refine Jp.done hK22 ?_
            refine Cd.refClose (b := b) (M := { M1 with pages := l1 }) (A := A10) (c := c10) 0 3 2 (by decide) ⟨hmo, hf1.gen⟩ rfl rfl rfl ?_
            rw [← hl1, ← hz]
            exact Cd.meet' (hj1 () trivial) hle7 (by rw [h0]; exact Hp.le_refl _) ⟨rfl, rfl, rfl, rfl, rfl, rfl, trivial⟩ ⟨rfl, trivial⟩
      · have hil : i = many := by simp at ga; omega
        rw [hil]
        refine Cd.exit rfl hK15 ?_
        refine Cd.seq fun K23 hK23 => ?_
        refine Cd.plain [(0, false)] rfl rfl ?_
        refine Jp.y 8 rfl (want_all rfl) rfl rfl Kp.true (Y.assign rfl rfl) ?_
        refine Jp.done hK23 ?_
        refine Cd.ret [(0, _)] rfl (res1 rfl rfl) ⟨rfl, trivial⟩ ⟨rfl, by rw [hV], by rw [hV]⟩
end Go.Proofs.Ytgmhijlcdadaeaa
