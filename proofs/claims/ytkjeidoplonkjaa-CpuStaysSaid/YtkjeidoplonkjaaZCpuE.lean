import Derived.Test.YtkjeidoplonkjaaZCpuD
set_option linter.unusedVariables false
set_option linter.unusedSimpArgs false
set_option maxRecDepth 100000
namespace Go.Proofs.Ytkjeidoplonkjaa
open Go
theorem kindP_lt (w : Nat) (hw : w < 4294967296) : kindP w < 50 := by
  have hg : ∀ (l : List Nat) (f : Nat), (∀ x ∈ l, x < 50) → l.getD f 0 < 50 := fun l f h => by
    rw [List.getD_eq_getElem?_getD]
    cases hx : l[f]? with
    | none => decide
    | some v => exact h v (List.mem_of_getElem? hx)
  have h1 : ∀ f, branchP f < 50 := fun f => hg _ f (by decide)
  have h2 : ∀ f, loadP f < 50 := fun f => hg _ f (by decide)
  have h3 : ∀ f, storeP f < 50 := fun f => hg _ f (by decide)
  have h4 : ∀ f t, immKP f t < 50 := fun f t => by
    unfold immKP
    repeat' split
    all_goals first | omega | exact hg _ f (by decide)
  have h5 : ∀ f t, f < 8 → regKP f t < 50 := fun f t hf => by
    unfold regKP
    repeat' split
    all_goals first | omega | exact hg _ f (by decide)
  have h6 : ∀ w, systemP w < 50 := fun w => by
    unfold systemP
    repeat' split
    all_goals omega
  have h7 : w / 2 ^ 12 % 2 ^ 3 < 8 := Nat.mod_lt _ (by decide)
  unfold kindP
  repeat' split
  all_goals first | omega | exact h1 _ | exact h2 _ | exact h3 _ | exact h4 _ _ | exact h5 _ _ h7 | exact h6 _
theorem i32_rng (x : Int) : -2147483648 ≤ IntKind.i32.wrap x ∧ IntKind.i32.wrap x ≤ 2147483647 := by
  simp only [IntKind.wrap, IntKind.bits, IntKind.signed]
  simp
  split <;> omega
theorem bitsB_i32 (x y : Int) : -2147483648 ≤ bitsB .or .i32 x y ∧ bitsB .or .i32 x y ≤ 2147483647 := i32_rng _
theorem immI_rng (w : Nat) : -2147483648 ≤ immIP w ∧ immIP w ≤ 2147483647 := by
  have h := i32_rng (w : Int)
  unfold immIP s32
  rw [Int.fdiv_eq_ediv_of_nonneg _ (by decide)]
  omega
theorem decP_ok (w : Nat) (hw : w < 4294967296) : InsOk (decP w) := by
  have h0 := kindP_lt w hw
  have hz : (0 : Nat) < 32 := by decide
  have hi : -2147483648 ≤ (0 : Int) ∧ (0 : Int) ≤ 2147483647 := by decide
  have h7 : w / 2 ^ 7 % 2 ^ 5 < 32 := Nat.mod_lt _ (by decide)
  have h15 : w / 2 ^ 15 % 2 ^ 5 < 32 := Nat.mod_lt _ (by decide)
  have h20 : w / 2 ^ 20 % 2 ^ 5 < 32 := Nat.mod_lt _ (by decide)
  unfold decP
  repeat' split
  · exact ⟨h0, hz, hz, hz, hi⟩
  · exact ⟨h0, h7, hz, hz, i32_rng _⟩
  · exact ⟨h0, h7, hz, hz, bitsB_i32 _ _⟩
  · exact ⟨h0, hz, h15, h20, bitsB_i32 _ _⟩
  · exact ⟨h0, hz, h15, h20, bitsB_i32 _ _⟩
  · exact ⟨h0, h7, h15, hz, by dsimp only; omega⟩
  · exact ⟨h0, h7, h15, h20, hi⟩
  · exact ⟨h0, h7, h15, hz, immI_rng w⟩
theorem noIns_ok : InsOk noIns := ⟨by decide, by decide, by decide, by decide, by decide⟩
theorem fetchP_ok (M : MemG) (pc : Nat) : InsOk (fetchP M pc).1 := by
  have hl : (loadM M pc 4 4).1 < 4294967296 := loadM_u32 M pc 4 (by omega) 4
  unfold fetchP
  split
  · split
    · exact noIns_ok
    · exact decP_ok _ hl
  · exact noIns_ok
def stepP (M : MemG) (s : StP) : StP × EvP × MemG := if (fetchP M s.pc).2.kind = 0 then doInsP M (fetchP M s.pc).1 s else (s, (fetchP M s.pc).2, M)
theorem step_spec (b : Nat) (M : MemG) (s : StP) (hs : StOk s) : Spec Try.prog 15 #[.pointer (some ⟨b, 0, none⟩), .agg s.cells.toArray] (fun _ => True) [(0, MemO b M)]
    (fun ρ ρ' v L => ρ' = ρ ∧ v = .tuple #[.agg (stepP M s).1.cells.toArray, .agg (stepP M s).2.1.cells.toArray] ∧ L = [(0, MemO b (stepP M s).2.2)]) := by
  obtain ⟨D, hD⟩ : ∃ D, stepP M s = D := ⟨_, rfl⟩
  rw [hD]
  unfold stepP at hD
  have hF := fetch_spec b M s.pc hs.pc (loadM_u32 M s.pc 4 (by omega) 4)
  have hI := do_ins_spec b M (fetchP M s.pc).1 s hs (fetchP_ok M s.pc)
  have hil : (fetchP M s.pc).1.cells.length = 5 := rfl
  have hio : (fetchP M s.pc).1.cells.all one = true := by unfold InsP.cells; simp [one]
  obtain ⟨F, hFe⟩ : ∃ F, fetchP M s.pc = F := ⟨_, rfl⟩
  rw [hFe] at hF hI hil hio hD
  obtain ⟨fi, fe⟩ := F
  obtain ⟨kd, ead, wy⟩ := fe
  dsimp only at hF hI hil hio hD
  by_cases hk : kd = 0
  · rw [if_pos hk] at hD
    rw [hD] at hI
    have hok : StOk D.1 ∨ True := .inr trivial
    subst hk
    have hDl : D.1.cells.length = 34 := by
      rw [← hD]
      unfold doInsP
      have := hs.len
      repeat' split
      all_goals simp [outP, StP.cells, natsV, this]
    have hDo := StP.one D.1
    have hEl : D.2.1.cells.length = 3 := rfl
    have hEo : D.2.1.cells.all one = true := by unfold EvP.cells; simp [one]
    refine Spec.of 26 Try.func15 rfl Try.ntmps15 [(0, _), (1, _)] rfl rfl ?_
    intro cx ρ hr' h0
    have hsl := StP.len hs
    have hso := StP.one s
    refine Cd.seq fun K1 hK1 => ?_
    refine Cd.plain [(0, false), (1, false), (2, false)] rfl rfl ?_
    refine Jp.box 3 3 rfl (want_all rfl) rfl rfl rfl rfl fun b3 => ⟨Kp.true, ?_⟩
    refine Jp.alloc 4 4 rfl (want_all rfl) rfl rfl rfl Try.zeroValue32 fun b4 => ⟨Kp.true, ?_⟩
    refine Jp.alloc 5 5 rfl (want_all rfl) rfl rfl rfl Try.zeroValue35 fun b5 => ⟨Kp.true, ?_⟩
    refine Jp.done hK1 ?_
    refine Cd.seq fun K2 hK2 => ?_
    refine Cd.plain [(0, false), (1, false), (2, false), (3, false), (4, false), (5, false), (6, false), (7, false), (8, false), (9, false), (10, false)] rfl rfl ?_
    refine Jp.y 9 rfl (want_all rfl) rfl rfl Kp.true (Y.move rfl rfl) ?_
    refine Jp.y 10 rfl (want_all rfl) rfl rfl Kp.true (by first | exact Y.fieldAddrP rfl rfl Try.underlying32 rfl Try.sizeOf25 (by decide) (show _ + 32 = _ from rfl) | exact Y.fieldAddr rfl rfl Try.underlying32 rfl Try.sizeOf25 (by decide)) ?_
    refine Jp.y 11 rfl (want_all rfl) rfl rfl Kp.true (by first | exact Y.loadO 3 rfl Try.isAgg25 rfl rfl rfl | exact Y.loadO 4 rfl Try.isAgg25 rfl rfl rfl | exact Y.loadO 5 rfl Try.isAgg25 rfl rfl rfl | exact Y.loadO 3 rfl Try.isAgg25 rfl rfl rfl | exact Y.loadO 4 rfl Try.isAgg25 rfl rfl rfl | exact Y.loadO 5 rfl Try.isAgg25 rfl rfl rfl | exact Y.loadC 3 rfl Try.isAgg25 rfl rfl (HasC.pt (StP.cPc hs))) ?_
    refine Jp.call [0] [0] hF 12 rfl (want_all rfl) rfl rfl (Runs.fn rfl Try.call33 rfl) (by decide) (by decide) rfl trivial ?_
    rintro v1 ρ1 L1 ⟨rfl, rfl, rfl⟩
    refine ⟨rfl, fun hle1 => ⟨Kp.true, ?_⟩⟩
    refine Jp.y 8 rfl (want_all rfl) rfl rfl Kp.true (Y.move rfl rfl) ?_
    refine Jp.y 13 rfl (want_all rfl) rfl rfl Kp.true (Y.extract rfl rfl rfl) ?_
    refine Jp.y 14 rfl (want_all rfl) rfl rfl Kp.true (Y.extract rfl rfl rfl) ?_
    refine Jp.alloc 6 6 rfl (want_all rfl) rfl rfl rfl Try.zeroValue28 fun b6 => ⟨Kp.true, ?_⟩
    refine Jp.alloc 7 7 rfl (want_all rfl) rfl rfl rfl Try.zeroValue35 fun b7 => ⟨Kp.true, ?_⟩
    first | refine Jp.storeAll 6 rfl (want_all rfl) rfl rfl Try.sizeOf28 rfl rfl (by first | rfl | assumption) (by first | rfl | assumption) rfl (by first | rfl | assumption) (fun k _ _ => noFr0 k) Kp.true ?_ | refine Jp.storeAll 7 rfl (want_all rfl) rfl rfl Try.sizeOf28 rfl rfl (by first | rfl | assumption) (by first | rfl | assumption) rfl (by first | rfl | assumption) (fun k _ _ => noFr0 k) Kp.true ?_ | refine Jp.storeAll 3 rfl (want_all rfl) rfl rfl Try.sizeOf28 rfl rfl (by first | rfl | assumption) (by first | rfl | assumption) rfl (by first | rfl | assumption) (fun k _ _ => noFr0 k) Kp.true ?_ | refine Jp.storeAll 4 rfl (want_all rfl) rfl rfl Try.sizeOf28 rfl rfl (by first | rfl | assumption) (by first | rfl | assumption) rfl (by first | rfl | assumption) (fun k _ _ => noFr0 k) Kp.true ?_ | refine Jp.storeAll 5 rfl (want_all rfl) rfl rfl Try.sizeOf28 rfl rfl (by first | rfl | assumption) (by first | rfl | assumption) rfl (by first | rfl | assumption) (fun k _ _ => noFr0 k) Kp.true ?_
    first | refine Jp.storeAll 6 rfl (want_all rfl) rfl rfl Try.sizeOf35 rfl rfl (by first | rfl | assumption) (by first | rfl | assumption) rfl (by first | rfl | assumption) (fun k _ _ => noFr0 k) Kp.true ?_ | refine Jp.storeAll 7 rfl (want_all rfl) rfl rfl Try.sizeOf35 rfl rfl (by first | rfl | assumption) (by first | rfl | assumption) rfl (by first | rfl | assumption) (fun k _ _ => noFr0 k) Kp.true ?_ | refine Jp.storeAll 3 rfl (want_all rfl) rfl rfl Try.sizeOf35 rfl rfl (by first | rfl | assumption) (by first | rfl | assumption) rfl (by first | rfl | assumption) (fun k _ _ => noFr0 k) Kp.true ?_ | refine Jp.storeAll 4 rfl (want_all rfl) rfl rfl Try.sizeOf35 rfl rfl (by first | rfl | assumption) (by first | rfl | assumption) rfl (by first | rfl | assumption) (fun k _ _ => noFr0 k) Kp.true ?_ | refine Jp.storeAll 5 rfl (want_all rfl) rfl rfl Try.sizeOf35 rfl rfl (by first | rfl | assumption) (by first | rfl | assumption) rfl (by first | rfl | assumption) (fun k _ _ => noFr0 k) Kp.true ?_
    refine Jp.done hK2 ?_
    refine Cd.seq fun K3 hK3 => ?_
    refine Cd.seq fun K4 hK4 => ?_
    refine Cd.plain [(0, false), (1, false), (2, false)] rfl rfl ?_
    refine Jp.y 15 rfl (want_all rfl) rfl rfl Kp.true (by first | exact Y.fieldAddrP rfl rfl Try.underlying35 rfl Try.sizeOf3 (by decide) (show _ + 0 = _ from rfl) | exact Y.fieldAddr rfl rfl Try.underlying35 rfl Try.sizeOf3 (by decide)) ?_
    refine Jp.y 16 rfl (want_all rfl) rfl rfl Kp.true (by first | exact Y.loadO 6 rfl Try.isAgg3 rfl rfl rfl | exact Y.loadO 7 rfl Try.isAgg3 rfl rfl rfl | exact Y.loadO 3 rfl Try.isAgg3 rfl rfl rfl | exact Y.loadO 4 rfl Try.isAgg3 rfl rfl rfl | exact Y.loadO 5 rfl Try.isAgg3 rfl rfl rfl | exact Y.loadC 3 rfl Try.isAgg3 rfl rfl (HasC.pt (StP.cPc hs))) ?_
    refine Jp.y 17 rfl (want_all rfl) rfl rfl Kp.true (Y.neq rfl rfl rfl) ?_
    refine Jp.done hK4 ?_
    refine Cd.cond rfl (fun ga => ?_) (fun ga => ?_)
    · exact absurd ga (by simp)
    · skip
      refine Cd.skip hK3 ?_
      refine Cd.seq fun K5 hK5 => ?_
      refine Cd.plain [(0, false), (1, false), (2, false), (3, false), (4, false), (5, false), (6, false), (7, false)] rfl rfl ?_
      refine Jp.y 20 rfl (want_all rfl) rfl rfl Kp.true (Y.move rfl rfl) ?_
      refine Jp.y 21 rfl (want_all rfl) rfl rfl Kp.true (by first | exact Y.loadAggO 6 rfl Try.isAgg28 Try.sizeOf28 rfl rfl (by first | rfl | assumption) | exact Y.loadAggO 7 rfl Try.isAgg28 Try.sizeOf28 rfl rfl (by first | rfl | assumption) | exact Y.loadAggO 3 rfl Try.isAgg28 Try.sizeOf28 rfl rfl (by first | rfl | assumption) | exact Y.loadAggO 4 rfl Try.isAgg28 Try.sizeOf28 rfl rfl (by first | rfl | assumption) | exact Y.loadAggO 5 rfl Try.isAgg28 Try.sizeOf28 rfl rfl (by first | rfl | assumption)) ?_
      refine Jp.y 22 rfl (want_all rfl) rfl rfl Kp.true (by first | exact Y.loadAggO 6 rfl Try.isAgg32 Try.sizeOf32 rfl rfl (by first | rfl | assumption) | exact Y.loadAggO 7 rfl Try.isAgg32 Try.sizeOf32 rfl rfl (by first | rfl | assumption) | exact Y.loadAggO 3 rfl Try.isAgg32 Try.sizeOf32 rfl rfl (by first | rfl | assumption) | exact Y.loadAggO 4 rfl Try.isAgg32 Try.sizeOf32 rfl rfl (by first | rfl | assumption) | exact Y.loadAggO 5 rfl Try.isAgg32 Try.sizeOf32 rfl rfl (by first | rfl | assumption)) ?_
      refine Jp.call [0] [0] hI 23 rfl (want_all rfl) rfl rfl (Runs.fn rfl Try.call34 rfl) (by decide) (by decide) rfl trivial ?_
      rintro v2 ρ2 L2 ⟨rfl, rfl, rfl⟩
      refine ⟨rfl, fun hle2 => ⟨Kp.true, ?_⟩⟩
      refine Jp.y 24 rfl (want_all rfl) rfl rfl Kp.true (Y.extract rfl rfl rfl) ?_
      refine Jp.y 25 rfl (want_all rfl) rfl rfl Kp.true (Y.extract rfl rfl rfl) ?_
      first | refine Jp.storeAll 6 rfl (want_all rfl) rfl rfl Try.sizeOf32 rfl rfl (by first | rfl | assumption) (by first | rfl | assumption) rfl (by first | rfl | assumption) (fun k _ _ => noFr0 k) Kp.true ?_ | refine Jp.storeAll 7 rfl (want_all rfl) rfl rfl Try.sizeOf32 rfl rfl (by first | rfl | assumption) (by first | rfl | assumption) rfl (by first | rfl | assumption) (fun k _ _ => noFr0 k) Kp.true ?_ | refine Jp.storeAll 3 rfl (want_all rfl) rfl rfl Try.sizeOf32 rfl rfl (by first | rfl | assumption) (by first | rfl | assumption) rfl (by first | rfl | assumption) (fun k _ _ => noFr0 k) Kp.true ?_ | refine Jp.storeAll 4 rfl (want_all rfl) rfl rfl Try.sizeOf32 rfl rfl (by first | rfl | assumption) (by first | rfl | assumption) rfl (by first | rfl | assumption) (fun k _ _ => noFr0 k) Kp.true ?_ | refine Jp.storeAll 5 rfl (want_all rfl) rfl rfl Try.sizeOf32 rfl rfl (by first | rfl | assumption) (by first | rfl | assumption) rfl (by first | rfl | assumption) (fun k _ _ => noFr0 k) Kp.true ?_
      first | refine Jp.storeAll 6 rfl (want_all rfl) rfl rfl Try.sizeOf35 rfl rfl (by first | rfl | assumption) (by first | rfl | assumption) rfl (by first | rfl | assumption) (fun k _ _ => noFr0 k) Kp.true ?_ | refine Jp.storeAll 7 rfl (want_all rfl) rfl rfl Try.sizeOf35 rfl rfl (by first | rfl | assumption) (by first | rfl | assumption) rfl (by first | rfl | assumption) (fun k _ _ => noFr0 k) Kp.true ?_ | refine Jp.storeAll 3 rfl (want_all rfl) rfl rfl Try.sizeOf35 rfl rfl (by first | rfl | assumption) (by first | rfl | assumption) rfl (by first | rfl | assumption) (fun k _ _ => noFr0 k) Kp.true ?_ | refine Jp.storeAll 4 rfl (want_all rfl) rfl rfl Try.sizeOf35 rfl rfl (by first | rfl | assumption) (by first | rfl | assumption) rfl (by first | rfl | assumption) (fun k _ _ => noFr0 k) Kp.true ?_ | refine Jp.storeAll 5 rfl (want_all rfl) rfl rfl Try.sizeOf35 rfl rfl (by first | rfl | assumption) (by first | rfl | assumption) rfl (by first | rfl | assumption) (fun k _ _ => noFr0 k) Kp.true ?_
      refine Jp.done hK5 ?_
      refine Cd.ret [(0, _)] rfl (by first | exact resCC 6 7 rfl rfl rfl Try.isAgg32 Try.sizeOf32 Try.isAgg35 Try.sizeOf35 rfl (by first | rfl | assumption) rfl (by first | rfl | assumption) | exact resCC 6 3 rfl rfl rfl Try.isAgg32 Try.sizeOf32 Try.isAgg35 Try.sizeOf35 rfl (by first | rfl | assumption) rfl (by first | rfl | assumption) | exact resCC 6 4 rfl rfl rfl Try.isAgg32 Try.sizeOf32 Try.isAgg35 Try.sizeOf35 rfl (by first | rfl | assumption) rfl (by first | rfl | assumption) | exact resCC 6 5 rfl rfl rfl Try.isAgg32 Try.sizeOf32 Try.isAgg35 Try.sizeOf35 rfl (by first | rfl | assumption) rfl (by first | rfl | assumption) | exact resCC 7 6 rfl rfl rfl Try.isAgg32 Try.sizeOf32 Try.isAgg35 Try.sizeOf35 rfl (by first | rfl | assumption) rfl (by first | rfl | assumption) | exact resCC 7 3 rfl rfl rfl Try.isAgg32 Try.sizeOf32 Try.isAgg35 Try.sizeOf35 rfl (by first | rfl | assumption) rfl (by first | rfl | assumption) | exact resCC 7 4 rfl rfl rfl Try.isAgg32 Try.sizeOf32 Try.isAgg35 Try.sizeOf35 rfl (by first | rfl | assumption) rfl (by first | rfl | assumption) | exact resCC 7 5 rfl rfl rfl Try.isAgg32 Try.sizeOf32 Try.isAgg35 Try.sizeOf35 rfl (by first | rfl | assumption) rfl (by first | rfl | assumption) | exact resCC 3 6 rfl rfl rfl Try.isAgg32 Try.sizeOf32 Try.isAgg35 Try.sizeOf35 rfl (by first | rfl | assumption) rfl (by first | rfl | assumption) | exact resCC 3 7 rfl rfl rfl Try.isAgg32 Try.sizeOf32 Try.isAgg35 Try.sizeOf35 rfl (by first | rfl | assumption) rfl (by first | rfl | assumption) | exact resCC 3 4 rfl rfl rfl Try.isAgg32 Try.sizeOf32 Try.isAgg35 Try.sizeOf35 rfl (by first | rfl | assumption) rfl (by first | rfl | assumption) | exact resCC 3 5 rfl rfl rfl Try.isAgg32 Try.sizeOf32 Try.isAgg35 Try.sizeOf35 rfl (by first | rfl | assumption) rfl (by first | rfl | assumption) | exact resCC 4 6 rfl rfl rfl Try.isAgg32 Try.sizeOf32 Try.isAgg35 Try.sizeOf35 rfl (by first | rfl | assumption) rfl (by first | rfl | assumption) | exact resCC 4 7 rfl rfl rfl Try.isAgg32 Try.sizeOf32 Try.isAgg35 Try.sizeOf35 rfl (by first | rfl | assumption) rfl (by first | rfl | assumption) | exact resCC 4 3 rfl rfl rfl Try.isAgg32 Try.sizeOf32 Try.isAgg35 Try.sizeOf35 rfl (by first | rfl | assumption) rfl (by first | rfl | assumption) | exact resCC 4 5 rfl rfl rfl Try.isAgg32 Try.sizeOf32 Try.isAgg35 Try.sizeOf35 rfl (by first | rfl | assumption) rfl (by first | rfl | assumption) | exact resCC 5 6 rfl rfl rfl Try.isAgg32 Try.sizeOf32 Try.isAgg35 Try.sizeOf35 rfl (by first | rfl | assumption) rfl (by first | rfl | assumption) | exact resCC 5 7 rfl rfl rfl Try.isAgg32 Try.sizeOf32 Try.isAgg35 Try.sizeOf35 rfl (by first | rfl | assumption) rfl (by first | rfl | assumption) | exact resCC 5 3 rfl rfl rfl Try.isAgg32 Try.sizeOf32 Try.isAgg35 Try.sizeOf35 rfl (by first | rfl | assumption) rfl (by first | rfl | assumption) | exact resCC 5 4 rfl rfl rfl Try.isAgg32 Try.sizeOf32 Try.isAgg35 Try.sizeOf35 rfl (by first | rfl | assumption) rfl (by first | rfl | assumption)) ⟨rfl, trivial⟩ ⟨rfl, rfl, rfl⟩
  · rw [if_neg hk] at hD
    subst hD
    have hEl : (EvP.mk kd ead wy).cells.length = 3 := rfl
    have hEo : (EvP.mk kd ead wy).cells.all one = true := by unfold EvP.cells; simp [one]
    refine Spec.of 26 Try.func15 rfl Try.ntmps15 [(0, _), (1, _)] rfl rfl ?_
    intro cx ρ hr' h0
    have hsl := StP.len hs
    have hso := StP.one s
    refine Cd.seq fun K6 hK6 => ?_
    refine Cd.plain [(0, false), (1, false), (2, false)] rfl rfl ?_
    refine Jp.box 3 3 rfl (want_all rfl) rfl rfl rfl rfl fun b3 => ⟨Kp.true, ?_⟩
    refine Jp.alloc 4 4 rfl (want_all rfl) rfl rfl rfl Try.zeroValue32 fun b4 => ⟨Kp.true, ?_⟩
    refine Jp.alloc 5 5 rfl (want_all rfl) rfl rfl rfl Try.zeroValue35 fun b5 => ⟨Kp.true, ?_⟩
    refine Jp.done hK6 ?_
    refine Cd.seq fun K7 hK7 => ?_
    refine Cd.plain [(0, false), (1, false), (2, false), (3, false), (4, false), (5, false), (6, false), (7, false), (8, false), (9, false), (10, false)] rfl rfl ?_
    refine Jp.y 9 rfl (want_all rfl) rfl rfl Kp.true (Y.move rfl rfl) ?_
    refine Jp.y 10 rfl (want_all rfl) rfl rfl Kp.true (by first | exact Y.fieldAddrP rfl rfl Try.underlying32 rfl Try.sizeOf25 (by decide) (show _ + 32 = _ from rfl) | exact Y.fieldAddr rfl rfl Try.underlying32 rfl Try.sizeOf25 (by decide)) ?_
    refine Jp.y 11 rfl (want_all rfl) rfl rfl Kp.true (by first | exact Y.loadO 3 rfl Try.isAgg25 rfl rfl rfl | exact Y.loadO 4 rfl Try.isAgg25 rfl rfl rfl | exact Y.loadO 5 rfl Try.isAgg25 rfl rfl rfl | exact Y.loadO 3 rfl Try.isAgg25 rfl rfl rfl | exact Y.loadO 4 rfl Try.isAgg25 rfl rfl rfl | exact Y.loadO 5 rfl Try.isAgg25 rfl rfl rfl | exact Y.loadC 3 rfl Try.isAgg25 rfl rfl (HasC.pt (StP.cPc hs))) ?_
    refine Jp.call [0] [0] hF 12 rfl (want_all rfl) rfl rfl (Runs.fn rfl Try.call33 rfl) (by decide) (by decide) rfl trivial ?_
    rintro v1 ρ1 L1 ⟨rfl, rfl, rfl⟩
    refine ⟨rfl, fun hle1 => ⟨Kp.true, ?_⟩⟩
    refine Jp.y 8 rfl (want_all rfl) rfl rfl Kp.true (Y.move rfl rfl) ?_
    refine Jp.y 13 rfl (want_all rfl) rfl rfl Kp.true (Y.extract rfl rfl rfl) ?_
    refine Jp.y 14 rfl (want_all rfl) rfl rfl Kp.true (Y.extract rfl rfl rfl) ?_
    refine Jp.alloc 6 6 rfl (want_all rfl) rfl rfl rfl Try.zeroValue28 fun b6 => ⟨Kp.true, ?_⟩
    refine Jp.alloc 7 7 rfl (want_all rfl) rfl rfl rfl Try.zeroValue35 fun b7 => ⟨Kp.true, ?_⟩
    first | refine Jp.storeAll 6 rfl (want_all rfl) rfl rfl Try.sizeOf28 rfl rfl (by first | rfl | assumption) (by first | rfl | assumption) rfl (by first | rfl | assumption) (fun k _ _ => noFr0 k) Kp.true ?_ | refine Jp.storeAll 7 rfl (want_all rfl) rfl rfl Try.sizeOf28 rfl rfl (by first | rfl | assumption) (by first | rfl | assumption) rfl (by first | rfl | assumption) (fun k _ _ => noFr0 k) Kp.true ?_ | refine Jp.storeAll 3 rfl (want_all rfl) rfl rfl Try.sizeOf28 rfl rfl (by first | rfl | assumption) (by first | rfl | assumption) rfl (by first | rfl | assumption) (fun k _ _ => noFr0 k) Kp.true ?_ | refine Jp.storeAll 4 rfl (want_all rfl) rfl rfl Try.sizeOf28 rfl rfl (by first | rfl | assumption) (by first | rfl | assumption) rfl (by first | rfl | assumption) (fun k _ _ => noFr0 k) Kp.true ?_ | refine Jp.storeAll 5 rfl (want_all rfl) rfl rfl Try.sizeOf28 rfl rfl (by first | rfl | assumption) (by first | rfl | assumption) rfl (by first | rfl | assumption) (fun k _ _ => noFr0 k) Kp.true ?_
    first | refine Jp.storeAll 6 rfl (want_all rfl) rfl rfl Try.sizeOf35 rfl rfl (by first | rfl | assumption) (by first | rfl | assumption) rfl (by first | rfl | assumption) (fun k _ _ => noFr0 k) Kp.true ?_ | refine Jp.storeAll 7 rfl (want_all rfl) rfl rfl Try.sizeOf35 rfl rfl (by first | rfl | assumption) (by first | rfl | assumption) rfl (by first | rfl | assumption) (fun k _ _ => noFr0 k) Kp.true ?_ | refine Jp.storeAll 3 rfl (want_all rfl) rfl rfl Try.sizeOf35 rfl rfl (by first | rfl | assumption) (by first | rfl | assumption) rfl (by first | rfl | assumption) (fun k _ _ => noFr0 k) Kp.true ?_ | refine Jp.storeAll 4 rfl (want_all rfl) rfl rfl Try.sizeOf35 rfl rfl (by first | rfl | assumption) (by first | rfl | assumption) rfl (by first | rfl | assumption) (fun k _ _ => noFr0 k) Kp.true ?_ | refine Jp.storeAll 5 rfl (want_all rfl) rfl rfl Try.sizeOf35 rfl rfl (by first | rfl | assumption) (by first | rfl | assumption) rfl (by first | rfl | assumption) (fun k _ _ => noFr0 k) Kp.true ?_
    refine Jp.done hK7 ?_
    refine Cd.seq fun K8 hK8 => ?_
    refine Cd.seq fun K9 hK9 => ?_
    refine Cd.plain [(0, false), (1, false), (2, false)] rfl rfl ?_
    refine Jp.y 15 rfl (want_all rfl) rfl rfl Kp.true (by first | exact Y.fieldAddrP rfl rfl Try.underlying35 rfl Try.sizeOf3 (by decide) (show _ + 0 = _ from rfl) | exact Y.fieldAddr rfl rfl Try.underlying35 rfl Try.sizeOf3 (by decide)) ?_
    refine Jp.y 16 rfl (want_all rfl) rfl rfl Kp.true (by first | exact Y.loadO 6 rfl Try.isAgg3 rfl rfl rfl | exact Y.loadO 7 rfl Try.isAgg3 rfl rfl rfl | exact Y.loadO 3 rfl Try.isAgg3 rfl rfl rfl | exact Y.loadO 4 rfl Try.isAgg3 rfl rfl rfl | exact Y.loadO 5 rfl Try.isAgg3 rfl rfl rfl | exact Y.loadC 3 rfl Try.isAgg3 rfl rfl (HasC.pt (StP.cPc hs))) ?_
    refine Jp.y 17 rfl (want_all rfl) rfl rfl Kp.true (Y.neq rfl rfl rfl) ?_
    refine Jp.done hK9 ?_
    refine Cd.cond rfl (fun ga => ?_) (fun ga => ?_)
    · skip
      refine Cd.seq fun K10 hK10 => ?_
      refine Cd.drawn [(3, _), (7, _)] ⟨rfl, rfl, trivial⟩ [(0, true), (1, true), (2, false), (3, false)] follows (by kernel_rfl) (fun hrl => ?_)
      refine Jp.q 18 rfl (want_all rfl) rfl rfl (by first | exact Y.loadAggO 6 rfl Try.isAgg32 Try.sizeOf32 rfl rfl (by first | rfl | assumption) | exact Y.loadAggO 7 rfl Try.isAgg32 Try.sizeOf32 rfl rfl (by first | rfl | assumption) | exact Y.loadAggO 3 rfl Try.isAgg32 Try.sizeOf32 rfl rfl (by first | rfl | assumption) | exact Y.loadAggO 4 rfl Try.isAgg32 Try.sizeOf32 rfl rfl (by first | rfl | assumption) | exact Y.loadAggO 5 rfl Try.isAgg32 Try.sizeOf32 rfl rfl (by first | rfl | assumption)) ?_
      refine Jp.q 19 rfl (want_all rfl) rfl rfl (by first | exact Y.loadAggO 6 rfl Try.isAgg35 Try.sizeOf35 rfl rfl (by first | rfl | assumption) | exact Y.loadAggO 7 rfl Try.isAgg35 Try.sizeOf35 rfl rfl (by first | rfl | assumption) | exact Y.loadAggO 3 rfl Try.isAgg35 Try.sizeOf35 rfl rfl (by first | rfl | assumption) | exact Y.loadAggO 4 rfl Try.isAgg35 Try.sizeOf35 rfl rfl (by first | rfl | assumption) | exact Y.loadAggO 5 rfl Try.isAgg35 Try.sizeOf35 rfl rfl (by first | rfl | assumption)) ?_
      first | refine Jp.storeAll 6 rfl (want_all rfl) rfl rfl Try.sizeOf32 rfl rfl (by first | rfl | assumption) (by first | rfl | assumption) rfl (by first | rfl | assumption) (fun k _ _ => noFr0 k) (Kp.st ⟨rfl, rfl, trivial⟩) ?_ | refine Jp.storeAll 7 rfl (want_all rfl) rfl rfl Try.sizeOf32 rfl rfl (by first | rfl | assumption) (by first | rfl | assumption) rfl (by first | rfl | assumption) (fun k _ _ => noFr0 k) (Kp.st ⟨rfl, rfl, trivial⟩) ?_ | refine Jp.storeAll 3 rfl (want_all rfl) rfl rfl Try.sizeOf32 rfl rfl (by first | rfl | assumption) (by first | rfl | assumption) rfl (by first | rfl | assumption) (fun k _ _ => noFr0 k) (Kp.st ⟨rfl, rfl, trivial⟩) ?_ | refine Jp.storeAll 4 rfl (want_all rfl) rfl rfl Try.sizeOf32 rfl rfl (by first | rfl | assumption) (by first | rfl | assumption) rfl (by first | rfl | assumption) (fun k _ _ => noFr0 k) (Kp.st ⟨rfl, rfl, trivial⟩) ?_ | refine Jp.storeAll 5 rfl (want_all rfl) rfl rfl Try.sizeOf32 rfl rfl (by first | rfl | assumption) (by first | rfl | assumption) rfl (by first | rfl | assumption) (fun k _ _ => noFr0 k) (Kp.st ⟨rfl, rfl, trivial⟩) ?_
      first | refine Jp.storeAll 6 rfl (want_all rfl) rfl rfl Try.sizeOf35 rfl rfl (by first | rfl | assumption) (by first | rfl | assumption) rfl (by first | rfl | assumption) (fun k _ _ => noFr0 k) Kp.last ?_ | refine Jp.storeAll 7 rfl (want_all rfl) rfl rfl Try.sizeOf35 rfl rfl (by first | rfl | assumption) (by first | rfl | assumption) rfl (by first | rfl | assumption) (fun k _ _ => noFr0 k) Kp.last ?_ | refine Jp.storeAll 3 rfl (want_all rfl) rfl rfl Try.sizeOf35 rfl rfl (by first | rfl | assumption) (by first | rfl | assumption) rfl (by first | rfl | assumption) (fun k _ _ => noFr0 k) Kp.last ?_ | refine Jp.storeAll 4 rfl (want_all rfl) rfl rfl Try.sizeOf35 rfl rfl (by first | rfl | assumption) (by first | rfl | assumption) rfl (by first | rfl | assumption) (fun k _ _ => noFr0 k) Kp.last ?_ | refine Jp.storeAll 5 rfl (want_all rfl) rfl rfl Try.sizeOf35 rfl rfl (by first | rfl | assumption) (by first | rfl | assumption) rfl (by first | rfl | assumption) (fun k _ _ => noFr0 k) Kp.last ?_
      refine Jp.done hK10 ?_
      refine Cd.ret [(0, _)] rfl (by first | exact resCC 6 7 rfl rfl rfl Try.isAgg32 Try.sizeOf32 Try.isAgg35 Try.sizeOf35 rfl (by first | rfl | assumption) rfl (by first | rfl | assumption) | exact resCC 6 3 rfl rfl rfl Try.isAgg32 Try.sizeOf32 Try.isAgg35 Try.sizeOf35 rfl (by first | rfl | assumption) rfl (by first | rfl | assumption) | exact resCC 6 4 rfl rfl rfl Try.isAgg32 Try.sizeOf32 Try.isAgg35 Try.sizeOf35 rfl (by first | rfl | assumption) rfl (by first | rfl | assumption) | exact resCC 6 5 rfl rfl rfl Try.isAgg32 Try.sizeOf32 Try.isAgg35 Try.sizeOf35 rfl (by first | rfl | assumption) rfl (by first | rfl | assumption) | exact resCC 7 6 rfl rfl rfl Try.isAgg32 Try.sizeOf32 Try.isAgg35 Try.sizeOf35 rfl (by first | rfl | assumption) rfl (by first | rfl | assumption) | exact resCC 7 3 rfl rfl rfl Try.isAgg32 Try.sizeOf32 Try.isAgg35 Try.sizeOf35 rfl (by first | rfl | assumption) rfl (by first | rfl | assumption) | exact resCC 7 4 rfl rfl rfl Try.isAgg32 Try.sizeOf32 Try.isAgg35 Try.sizeOf35 rfl (by first | rfl | assumption) rfl (by first | rfl | assumption) | exact resCC 7 5 rfl rfl rfl Try.isAgg32 Try.sizeOf32 Try.isAgg35 Try.sizeOf35 rfl (by first | rfl | assumption) rfl (by first | rfl | assumption) | exact resCC 3 6 rfl rfl rfl Try.isAgg32 Try.sizeOf32 Try.isAgg35 Try.sizeOf35 rfl (by first | rfl | assumption) rfl (by first | rfl | assumption) | exact resCC 3 7 rfl rfl rfl Try.isAgg32 Try.sizeOf32 Try.isAgg35 Try.sizeOf35 rfl (by first | rfl | assumption) rfl (by first | rfl | assumption) | exact resCC 3 4 rfl rfl rfl Try.isAgg32 Try.sizeOf32 Try.isAgg35 Try.sizeOf35 rfl (by first | rfl | assumption) rfl (by first | rfl | assumption) | exact resCC 3 5 rfl rfl rfl Try.isAgg32 Try.sizeOf32 Try.isAgg35 Try.sizeOf35 rfl (by first | rfl | assumption) rfl (by first | rfl | assumption) | exact resCC 4 6 rfl rfl rfl Try.isAgg32 Try.sizeOf32 Try.isAgg35 Try.sizeOf35 rfl (by first | rfl | assumption) rfl (by first | rfl | assumption) | exact resCC 4 7 rfl rfl rfl Try.isAgg32 Try.sizeOf32 Try.isAgg35 Try.sizeOf35 rfl (by first | rfl | assumption) rfl (by first | rfl | assumption) | exact resCC 4 3 rfl rfl rfl Try.isAgg32 Try.sizeOf32 Try.isAgg35 Try.sizeOf35 rfl (by first | rfl | assumption) rfl (by first | rfl | assumption) | exact resCC 4 5 rfl rfl rfl Try.isAgg32 Try.sizeOf32 Try.isAgg35 Try.sizeOf35 rfl (by first | rfl | assumption) rfl (by first | rfl | assumption) | exact resCC 5 6 rfl rfl rfl Try.isAgg32 Try.sizeOf32 Try.isAgg35 Try.sizeOf35 rfl (by first | rfl | assumption) rfl (by first | rfl | assumption) | exact resCC 5 7 rfl rfl rfl Try.isAgg32 Try.sizeOf32 Try.isAgg35 Try.sizeOf35 rfl (by first | rfl | assumption) rfl (by first | rfl | assumption) | exact resCC 5 3 rfl rfl rfl Try.isAgg32 Try.sizeOf32 Try.isAgg35 Try.sizeOf35 rfl (by first | rfl | assumption) rfl (by first | rfl | assumption) | exact resCC 5 4 rfl rfl rfl Try.isAgg32 Try.sizeOf32 Try.isAgg35 Try.sizeOf35 rfl (by first | rfl | assumption) rfl (by first | rfl | assumption)) ⟨rfl, trivial⟩ ⟨rfl, rfl, rfl⟩
    · exact absurd ga (by simp; omega)
end Go.Proofs.Ytkjeidoplonkjaa
