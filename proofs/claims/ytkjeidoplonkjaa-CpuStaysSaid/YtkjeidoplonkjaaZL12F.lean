import Derived.Test.YtkjeidoplonkjaaZSamee
set_option linter.unusedVariables false
set_option linter.unusedSimpArgs false
set_option maxRecDepth 100000
namespace Go.Proofs.Ytkjeidoplonkjaa
open Go
theorem storeM_no {M : MemG} {a : Nat} {n : Int} {v : Nat} (h : (storeM M a n v).1 ≠ 0) : (storeM M a n v).2 = M := by
  unfold storeM at h ⊢
  split
  · rename_i q; rw [if_pos q] at h; exact absurd rfl h
  · rfl
structure StepYes (M : MemG) (s : StP) (D : StP × EvP × MemG) : Prop where
  ev : D.2.1 = noEv
  st : ∃ rd v, rd < 32 ∧ D.1.x = (s.x.set rd v).set 0 0
  pc : D.1.pc % 4 = 0
  ret : D.1.ret = s.ret + 1
theorem step_shape (M : MemG) (s : StP) : ((stepP M s).2.1.kind ≠ 0 ∧ (stepP M s).1 = s ∧ (stepP M s).2.2 = M) ∨ StepYes M s (stepP M s) := by
  unfold stepP
  split
  · have hi := fetchP_ok M s.pc
    obtain ⟨i, hie⟩ : ∃ i, (fetchP M s.pc).1 = i := ⟨_, rfl⟩
    rw [hie] at hi ⊢
    have hplain : s.x.set 0 0 = (s.x.set 0 0).set 0 0 := by rw [List.set_set]
    unfold doInsP
    split
    · exact .inl ⟨(by decide : 5 ≠ 0), rfl, rfl⟩
    · split
      · exact .inl ⟨(by decide : 6 ≠ 0), rfl, rfl⟩
      · split
        · exact .inl ⟨(by decide : 7 ≠ 0), rfl, rfl⟩
        · rename_i h4
          have h4 : goesP i s % 4 = 0 := by omega
          split
          · split
            · exact .inr ⟨rfl, ⟨0, 0, by decide, hplain⟩, h4, rfl⟩
            · rename_i h5
              exact .inl ⟨(by decide : 4 ≠ 0), rfl, storeM_no h5⟩
          · split
            · split
              · exact .inr ⟨rfl, ⟨i.rd, _, hi.rd, rfl⟩, h4, rfl⟩
              · rename_i h6
                exact .inl ⟨h6, rfl, rfl⟩
            · exact .inr ⟨rfl, ⟨0, 0, by decide, hplain⟩, h4, rfl⟩
  · rename_i h
    exact .inl ⟨h, rfl, rfl⟩
theorem writeM_len (M : MemG) (a : Nat) (l : Bytes) (most need : Int) : (writeM M a l most need).2.pages.length = M.pages.length := by
  unfold writeM
  split
  · rfl
  · split
    · rfl
    · rw [← List.length_map (f := (·.1)), wrM_keys, List.length_map]
theorem madeD_len (xs : List Int) (bs : Bytes) : (madeD xs bs).pages.length ≤ 12 := by
  unfold madeD
  rw [writeM_len, writeM_len]
  decide +kernel
theorem stays_get {x : List Nat} {rd v i : Nat} (hx : x.length = 32) (h1 : 1 ≤ i) (h2 : i < 32) : ((x.set rd v).set 0 0)[i]? = if i = rd then some v else x[i]? := by
  rw [List.getElem?_set_ne (by omega)]
  by_cases h : i = rd
  · subst h; rw [if_pos rfl, List.getElem?_set_self (by omega)]
  · rw [if_neg h, List.getElem?_set_ne (by omega)]
theorem cpuStays_spec (s0 : Sl Int) (d0 : Sl UInt8) (s : StP) (hs : ∀ x ∈ s0.xs, ∃ m : Nat, x = m ∧ m < 4294967296) (hc : StRd s) : Spec Try.prog 7 #[s0.v, d0.v, .agg s.cells.toArray] (fun h => RdI .u32 s0 h ∧ RdB d0 h) [] (fun ρ ρ' v L => v = .bool true ∧ L = []) := by
  obtain ⟨A, c, xs⟩ := s0
  obtain ⟨dA, dc, bs⟩ := d0
  dsimp only [Sl.v]
  refine Spec.of 93 Try.func7 rfl Try.ntmps7 [(0, _), (1, _), (2, _)] rfl rfl ?_
  intro cx ρ hr0 h0
  obtain ⟨hr, hrd⟩ := hr0
  have lx : xs.length ≤ 281474976710656 := hr.2.1.2
  have lb : bs.length ≤ 281474976710656 := hrd.2.1.2
  have hcl := hc.size
  have hco := StP.one s
  refine Cd.seq fun K1 hK1 => ?_
  refine Cd.plain [(0, false), (1, false)] rfl rfl ?_
  refine Jp.box 5 5 rfl (want_all rfl) rfl rfl rfl rfl fun b5 => ⟨Kp.true, ?_⟩
  refine Jp.y 6 rfl (want_all rfl) rfl rfl Kp.true (Y.assign rfl rfl) ?_
  refine Jp.done hK1 ?_
  refine Cd.seq fun K2 hK2 => ?_
  refine Cd.seq fun K3 hK3 => ?_
  refine Cd.plain [(0, false), (1, false)] rfl rfl ?_
  refine Jp.call [] [] awake12_spec 13 rfl (want_all rfl) rfl rfl (Runs.fn rfl Try.call12 rfl) (by decide) (by decide) rfl trivial ?_
  rintro v1 ρ1 L1 ⟨rfl, rfl⟩
  refine ⟨rfl, fun hle1 => ⟨Kp.true, ?_⟩⟩
  have hr := RdI.up _ _ _ _ hle1 hr
  have hrd := RdB.up _ _ _ hle1 hrd
  refine Jp.y 14 rfl (want_all rfl) rfl rfl Kp.true (Y.not rfl rfl) ?_
  refine Jp.done hK3 ?_
  refine Cd.cond rfl (fun g14 => ?_) (fun g14 => ?_)
  · skip
    exact absurd g14 (by simp)
  try simp only [decide_eq_false_iff_not, decide_eq_true_eq, Int.not_lt, Int.not_le, Bool.not_eq_false, Bool.not_eq_true, Bool.not_true, Bool.not_false, Bool.not_eq_true', Bool.not_eq_false', beq_eq_false_iff_ne, ne_eq, beq_iff_eq, bne_iff_ne, bne_eq_false_iff_eq, Classical.not_not] at g14
  refine Cd.skip hK2 ?_
  refine Cd.seq fun K4 hK4 => ?_
  refine Cd.seq fun K5 hK5 => ?_
  refine Cd.plain [(0, false), (1, false), (2, false), (3, false), (4, false), (5, false), (6, false), (7, false), (8, false), (9, false), (10, false), (11, false), (12, false), (13, false), (14, false), (15, false), (16, false), (17, false)] rfl rfl ?_
  refine Jp.y 15 rfl (want_all rfl) rfl rfl Kp.true (Y.move rfl rfl) ?_
  refine Jp.y 16 rfl (want_all rfl) rfl rfl Kp.true (Y.lenslice rfl Try.underlying29 rfl) ?_
  refine Jp.y 17 rfl (want_all rfl) rfl rfl Kp.true (Y.gtr rfl rfl rfl) ?_
  refine Jp.y 18 rfl (want_all rfl) rfl rfl Kp.true (Y.move rfl rfl) ?_
  refine Jp.split 18 rfl (fun g18 => ?_) (fun g18 => ?_)
  · skip
    refine Jp.skip 19 rfl (want_as rfl rfl rfl rfl) rfl rfl Kp.true ?_
    refine Jp.skip 20 rfl (want_as rfl rfl rfl rfl) rfl rfl Kp.true ?_
    refine Jp.skip 21 rfl (want_as rfl rfl rfl rfl) rfl rfl Kp.true ?_
    refine Jp.y 22 rfl (want_all rfl) rfl rfl Kp.true (Y.pickT rfl rfl rfl) ?_
    refine Jp.y 23 rfl (want_all rfl) rfl rfl Kp.true (Y.move rfl rfl) ?_
    refine Jp.skip 24 rfl (want_as rfl rfl rfl rfl) rfl rfl Kp.true ?_
    refine Jp.skip 25 rfl (want_as rfl rfl rfl rfl) rfl rfl Kp.true ?_
    refine Jp.skip 26 rfl (want_as rfl rfl rfl rfl) rfl rfl Kp.true ?_
    refine Jp.y 27 rfl (want_all rfl) rfl rfl Kp.true (Y.pickT rfl rfl rfl) ?_
    refine Jp.y 28 rfl (want_all rfl) rfl rfl Kp.true (Y.move rfl rfl) ?_
    refine Jp.skip 29 rfl (want_as rfl rfl rfl rfl) rfl rfl Kp.true ?_
    refine Jp.skip 30 rfl (want_as rfl rfl rfl rfl) rfl rfl Kp.true ?_
    refine Jp.skip 31 rfl (want_as rfl rfl rfl rfl) rfl rfl Kp.true ?_
    refine Jp.y 32 rfl (want_all rfl) rfl rfl Kp.true (Y.pickT rfl rfl rfl) ?_
    refine Jp.done hK5 ?_
    refine Cd.condT rfl ?_
    refine Cd.seq fun K6 hK6 => ?_
    refine Cd.plain [(0, false)] rfl rfl ?_
    refine Jp.y 6 rfl (want_all rfl) rfl rfl Kp.true (Y.assign rfl rfl) ?_
    refine Jp.done hK6 ?_
    refine Cd.ret [] rfl (res1 rfl rfl) trivial ⟨rfl, rfl⟩
  try simp only [decide_eq_false_iff_not, decide_eq_true_eq, Int.not_lt, Int.not_le, Bool.not_eq_false, Bool.not_eq_true, Bool.not_true, Bool.not_false, Bool.not_eq_true', Bool.not_eq_false', beq_eq_false_iff_ne, ne_eq, beq_iff_eq, bne_iff_ne, bne_eq_false_iff_eq, Classical.not_not] at g18
  refine Jp.y 19 rfl (want_as rfl rfl rfl rfl) rfl rfl Kp.true (Y.move rfl rfl) ?_
  refine Jp.y 20 rfl (want_as rfl rfl rfl rfl) rfl rfl Kp.true (Y.lenslice rfl Try.underlying47 rfl) ?_
  refine Jp.y 21 rfl (want_as rfl rfl rfl rfl) rfl rfl Kp.true (Y.gtr rfl rfl rfl) ?_
  refine Jp.y 22 rfl (want_all rfl) rfl rfl Kp.true (Y.pickF rfl rfl rfl) ?_
  refine Jp.y 23 rfl (want_all rfl) rfl rfl Kp.true (Y.move rfl rfl) ?_
  refine Jp.split 23 rfl (fun g23 => ?_) (fun g23 => ?_)
  · skip
    refine Jp.skip 24 rfl (want_as rfl rfl rfl rfl) rfl rfl Kp.true ?_
    refine Jp.skip 25 rfl (want_as rfl rfl rfl rfl) rfl rfl Kp.true ?_
    refine Jp.skip 26 rfl (want_as rfl rfl rfl rfl) rfl rfl Kp.true ?_
    refine Jp.y 27 rfl (want_all rfl) rfl rfl Kp.true (Y.pickT rfl rfl rfl) ?_
    refine Jp.y 28 rfl (want_all rfl) rfl rfl Kp.true (Y.move rfl rfl) ?_
    refine Jp.skip 29 rfl (want_as rfl rfl rfl rfl) rfl rfl Kp.true ?_
    refine Jp.skip 30 rfl (want_as rfl rfl rfl rfl) rfl rfl Kp.true ?_
    refine Jp.skip 31 rfl (want_as rfl rfl rfl rfl) rfl rfl Kp.true ?_
    refine Jp.y 32 rfl (want_all rfl) rfl rfl Kp.true (Y.pickT rfl rfl rfl) ?_
    refine Jp.done hK5 ?_
    refine Cd.condT rfl ?_
    refine Cd.seq fun K7 hK7 => ?_
    refine Cd.plain [(0, false)] rfl rfl ?_
    refine Jp.y 6 rfl (want_all rfl) rfl rfl Kp.true (Y.assign rfl rfl) ?_
    refine Jp.done hK7 ?_
    refine Cd.ret [] rfl (res1 rfl rfl) trivial ⟨rfl, rfl⟩
  try simp only [decide_eq_false_iff_not, decide_eq_true_eq, Int.not_lt, Int.not_le, Bool.not_eq_false, Bool.not_eq_true, Bool.not_true, Bool.not_false, Bool.not_eq_true', Bool.not_eq_false', beq_eq_false_iff_ne, ne_eq, beq_iff_eq, bne_iff_ne, bne_eq_false_iff_eq, Classical.not_not] at g23
  refine Jp.y 24 rfl (want_as rfl rfl rfl rfl) rfl rfl Kp.true (by first | exact Y.fieldAddrP rfl rfl Try.underlying32 rfl Try.sizeOf2 (by decide) (show _ + 33 = _ from rfl) | exact Y.fieldAddr rfl rfl Try.underlying32 rfl Try.sizeOf2 (by decide)) ?_
  refine Jp.y 25 rfl (want_as rfl rfl rfl rfl) rfl rfl Kp.true (by first | exact Y.loadO 5 rfl Try.isAgg2 rfl rfl rfl | exact Y.loadO 5 rfl Try.isAgg2 rfl rfl rfl | exact Y.loadC 5 rfl Try.isAgg2 rfl rfl (HasC.pt hc.cRet)) ?_
  refine Jp.y 26 rfl (want_as rfl rfl rfl rfl) rfl rfl Kp.true (Y.lss rfl rfl rfl) ?_
  refine Jp.y 27 rfl (want_all rfl) rfl rfl Kp.true (Y.pickF rfl rfl rfl) ?_
  refine Jp.y 28 rfl (want_all rfl) rfl rfl Kp.true (Y.move rfl rfl) ?_
  refine Jp.split 28 rfl (fun g28 => ?_) (fun g28 => ?_)
  · skip
    refine Jp.skip 29 rfl (want_as rfl rfl rfl rfl) rfl rfl Kp.true ?_
    refine Jp.skip 30 rfl (want_as rfl rfl rfl rfl) rfl rfl Kp.true ?_
    refine Jp.skip 31 rfl (want_as rfl rfl rfl rfl) rfl rfl Kp.true ?_
    refine Jp.y 32 rfl (want_all rfl) rfl rfl Kp.true (Y.pickT rfl rfl rfl) ?_
    refine Jp.done hK5 ?_
    refine Cd.condT rfl ?_
    refine Cd.seq fun K8 hK8 => ?_
    refine Cd.plain [(0, false)] rfl rfl ?_
    refine Jp.y 6 rfl (want_all rfl) rfl rfl Kp.true (Y.assign rfl rfl) ?_
    refine Jp.done hK8 ?_
    refine Cd.ret [] rfl (res1 rfl rfl) trivial ⟨rfl, rfl⟩
  try simp only [decide_eq_false_iff_not, decide_eq_true_eq, Int.not_lt, Int.not_le, Bool.not_eq_false, Bool.not_eq_true, Bool.not_true, Bool.not_false, Bool.not_eq_true', Bool.not_eq_false', beq_eq_false_iff_ne, ne_eq, beq_iff_eq, bne_iff_ne, bne_eq_false_iff_eq, Classical.not_not] at g28
  refine Jp.y 29 rfl (want_as rfl rfl rfl rfl) rfl rfl Kp.true (by first | exact Y.fieldAddrP rfl rfl Try.underlying32 rfl Try.sizeOf2 (by decide) (show _ + 33 = _ from rfl) | exact Y.fieldAddr rfl rfl Try.underlying32 rfl Try.sizeOf2 (by decide)) ?_
  refine Jp.y 30 rfl (want_as rfl rfl rfl rfl) rfl rfl Kp.true (by first | exact Y.loadO 5 rfl Try.isAgg2 rfl rfl rfl | exact Y.loadO 5 rfl Try.isAgg2 rfl rfl rfl | exact Y.loadC 5 rfl Try.isAgg2 rfl rfl (HasC.pt hc.cRet)) ?_
  refine Jp.y 31 rfl (want_as rfl rfl rfl rfl) rfl rfl Kp.true (Y.gtr rfl rfl rfl) ?_
  refine Jp.y 32 rfl (want_all rfl) rfl rfl Kp.true (Y.pickF rfl rfl rfl) ?_
  refine Jp.done hK5 ?_
  refine Cd.cond rfl (fun g32 => ?_) (fun g32 => ?_)
  · skip
    refine Cd.seq fun K9 hK9 => ?_
    refine Cd.plain [(0, false)] rfl rfl ?_
    refine Jp.y 6 rfl (want_all rfl) rfl rfl Kp.true (Y.assign rfl rfl) ?_
    refine Jp.done hK9 ?_
    refine Cd.ret [] rfl (res1 rfl rfl) trivial ⟨rfl, rfl⟩
  try simp only [decide_eq_false_iff_not, decide_eq_true_eq, Int.not_lt, Int.not_le, Bool.not_eq_false, Bool.not_eq_true, Bool.not_true, Bool.not_false, Bool.not_eq_true', Bool.not_eq_false', beq_eq_false_iff_ne, ne_eq, beq_iff_eq, bne_iff_ne, bne_eq_false_iff_eq, Classical.not_not] at g32
  refine Cd.skip hK4 ?_
  refine Cd.seq fun K10 hK10 => ?_
  refine Cd.plain [(0, false), (1, false), (2, false), (3, false)] rfl rfl ?_
  have hOk : StOk s := hc.ok (by omega)
  refine Jp.y 33 rfl (want_all rfl) rfl rfl Kp.true (Y.move rfl rfl) ?_
  refine Jp.y 34 rfl (want_all rfl) rfl rfl Kp.true (Y.move rfl rfl) ?_
  refine Jp.call [] [0] (made12_spec A c xs dA dc bs hs) 35 rfl (want_all rfl) rfl rfl (Runs.fn rfl Try.call13 rfl) (by decide) (by decide) rfl ⟨hr, hrd⟩ ?_
  rintro v2 ρ2 L2 ⟨b, rfl, rfl⟩
  refine ⟨rfl, fun hle2 => ⟨Kp.true, ?_⟩⟩
  have hml := madeD_len xs bs
  obtain ⟨M, hM⟩ : ∃ M, madeD xs bs = M := ⟨_, rfl⟩
  rw [hM] at hml ⊢
  clear hM
  refine Jp.know (A := MemO b M) 0 rfl memO_okM fun hmem => ?_
  have hpl : ∀ y ∈ M.pages, y.2.b.length = 256 := fun y hy => (hmem.page y hy).len
  refine Jp.y 7 rfl (want_all rfl) rfl rfl Kp.true (Y.assign rfl rfl) ?_
  refine Jp.done hK10 ?_
  refine Cd.seq fun K11 hK11 => ?_
  refine Cd.plain [(0, false), (1, false), (2, false)] rfl rfl ?_
  refine Jp.y 36 rfl (want_all rfl) rfl rfl Kp.true (Y.move rfl rfl) ?_
  refine Jp.call [0] [0, 20, 21] (mem2_spec b M 50 (sorts12 _ hml)) 37 rfl (want_all rfl) rfl rfl (Runs.fn rfl Try.call19 rfl) (by decide) (by decide) rfl trivial ?_
  rintro v3 ρ3 L3 ⟨b2, PA, pcap, rfl, rfl⟩
  refine ⟨rfl, fun hle3 => ⟨Kp.true, ?_⟩⟩
  have hS := step_spec b M s hOk
  have hsh := step_shape M s
  obtain ⟨D, hD⟩ : ∃ D, stepP M s = D := ⟨_, rfl⟩
  rw [hD] at hS hsh
  clear hD
  obtain ⟨u, ev, M'⟩ := D
  dsimp only at hS hsh
  have hul : u.cells.length = 34 := by
    rcases hsh with h | h
    · have h2 : u = s := h.2.1
      rw [h2]; exact hcl
    · obtain ⟨rd, v, _, hx⟩ := h.st
      have hx : u.x = (s.x.set rd v).set 0 0 := hx
      simp [StP.cells, natsV, hx, hc.len]
  have huo := StP.one u
  have hel : ev.cells.length = 3 := rfl
  have heo : ev.cells.all one = true := by unfold EvP.cells; simp [one]
  refine Jp.y 8 rfl (want_all rfl) rfl rfl Kp.true (Y.assign rfl rfl) ?_
  refine Jp.done hK11 ?_
  refine Cd.seq fun K12 hK12 => ?_
  refine Cd.plain [(0, false), (1, false), (2, false), (3, false), (4, false), (5, false), (6, false), (7, false), (8, false), (9, false)] rfl rfl ?_
  refine Jp.y 39 rfl (want_all rfl) rfl rfl Kp.true (Y.move rfl rfl) ?_
  refine Jp.y 40 rfl (want_all rfl) rfl rfl Kp.true (by first | exact Y.loadAggO 5 rfl Try.isAgg32 Try.sizeOf32 rfl rfl (by first | rfl | assumption) | exact Y.loadAggO 5 rfl Try.isAgg32 Try.sizeOf32 rfl rfl (by first | rfl | assumption)) ?_
  refine Jp.call [0] [0] hS 41 rfl (want_all rfl) rfl rfl (Runs.fn rfl Try.call15 rfl) (by decide) (by decide) rfl trivial ?_
  rintro v4 ρ4 L4 ⟨rfl, rfl, rfl⟩
  refine ⟨rfl, fun hle4 => ⟨Kp.true, ?_⟩⟩
  refine Jp.y 38 rfl (want_all rfl) rfl rfl Kp.true (Y.move rfl rfl) ?_
  refine Jp.y 42 rfl (want_all rfl) rfl rfl Kp.true (Y.extract rfl rfl rfl) ?_
  refine Jp.y 43 rfl (want_all rfl) rfl rfl Kp.true (Y.extract rfl rfl rfl) ?_
  refine Jp.alloc 9 9 rfl (want_all rfl) rfl rfl rfl Try.zeroValue32 fun b9 => ⟨Kp.true, ?_⟩
  refine Jp.alloc 10 10 rfl (want_all rfl) rfl rfl rfl Try.zeroValue35 fun b10 => ⟨Kp.true, ?_⟩
  first | refine Jp.storeAll 9 rfl (want_all rfl) rfl rfl Try.sizeOf32 rfl rfl (by first | rfl | assumption) (by first | rfl | assumption) rfl (by first | rfl | assumption) (fun k _ _ => noFr0 k) Kp.true ?_ | refine Jp.storeAll 10 rfl (want_all rfl) rfl rfl Try.sizeOf32 rfl rfl (by first | rfl | assumption) (by first | rfl | assumption) rfl (by first | rfl | assumption) (fun k _ _ => noFr0 k) Kp.true ?_ | refine Jp.storeAll 5 rfl (want_all rfl) rfl rfl Try.sizeOf32 rfl rfl (by first | rfl | assumption) (by first | rfl | assumption) rfl (by first | rfl | assumption) (fun k _ _ => noFr0 k) Kp.true ?_
  first | refine Jp.storeAll 9 rfl (want_all rfl) rfl rfl Try.sizeOf35 rfl rfl (by first | rfl | assumption) (by first | rfl | assumption) rfl (by first | rfl | assumption) (fun k _ _ => noFr0 k) Kp.true ?_ | refine Jp.storeAll 10 rfl (want_all rfl) rfl rfl Try.sizeOf35 rfl rfl (by first | rfl | assumption) (by first | rfl | assumption) rfl (by first | rfl | assumption) (fun k _ _ => noFr0 k) Kp.true ?_ | refine Jp.storeAll 5 rfl (want_all rfl) rfl rfl Try.sizeOf35 rfl rfl (by first | rfl | assumption) (by first | rfl | assumption) rfl (by first | rfl | assumption) (fun k _ _ => noFr0 k) Kp.true ?_
  refine Jp.done hK12 ?_
  refine Cd.seq fun K13 hK13 => ?_
  refine Cd.seq fun K14 hK14 => ?_
  refine Cd.plain [(0, false), (1, false), (2, false)] rfl rfl ?_
  refine Jp.y 44 rfl (want_all rfl) rfl rfl Kp.true (by first | exact Y.fieldAddrP rfl rfl Try.underlying35 rfl Try.sizeOf3 (by decide) (show _ + 0 = _ from rfl) | exact Y.fieldAddr rfl rfl Try.underlying35 rfl Try.sizeOf3 (by decide)) ?_
  refine Jp.y 45 rfl (want_all rfl) rfl rfl Kp.true (by first | exact Y.loadO 9 rfl Try.isAgg3 rfl rfl rfl | exact Y.loadO 10 rfl Try.isAgg3 rfl rfl rfl | exact Y.loadO 5 rfl Try.isAgg3 rfl rfl rfl | exact Y.loadC 5 rfl Try.isAgg3 rfl rfl (HasC.pt hc.cRet)) ?_
  refine Jp.y 46 rfl (want_all rfl) rfl rfl Kp.true (Y.neq rfl rfl rfl) ?_
  refine Jp.done hK14 ?_
  rcases hsh with ⟨hk, hu, hM'⟩ | hy
  · have hu : u = s := hu
    have hM' : M' = M := hM'
    subst hu hM'
    refine Cd.cond rfl (fun ga => ?_) (fun ga => ?_)
    · skip
      refine Cd.seq fun K15 hK15 => ?_
      refine Cd.plain [(0, false), (1, false), (2, false), (3, false), (4, false), (5, false), (6, false), (7, false), (8, false), (9, false)] rfl rfl ?_
      refine Jp.y 47 rfl (want_all rfl) rfl rfl Kp.true (by first | exact Y.loadAggO 9 rfl Try.isAgg32 Try.sizeOf32 rfl rfl (by first | rfl | assumption) | exact Y.loadAggO 10 rfl Try.isAgg32 Try.sizeOf32 rfl rfl (by first | rfl | assumption) | exact Y.loadAggO 5 rfl Try.isAgg32 Try.sizeOf32 rfl rfl (by first | rfl | assumption)) ?_
      refine Jp.y 48 rfl (want_all rfl) rfl rfl Kp.true (by first | exact Y.loadAggO 9 rfl Try.isAgg32 Try.sizeOf32 rfl rfl (by first | rfl | assumption) | exact Y.loadAggO 10 rfl Try.isAgg32 Try.sizeOf32 rfl rfl (by first | rfl | assumption) | exact Y.loadAggO 5 rfl Try.isAgg32 Try.sizeOf32 rfl rfl (by first | rfl | assumption)) ?_
      refine Jp.y 49 rfl (want_all rfl) rfl rfl Kp.true (Y.eqlS (xs := u.cells.toArray) (ys := u.cells.toArray) (r := true) rfl rfl rfl st_guard st_fields st_stood (fun w => by rw [st_eq u u hc.len hc.len w, (stEq_iff _ _).2 rfl])) ?_
      refine Jp.slot 49 rfl (show _ = Value.bool true from rfl) ?_
      refine Jp.y 50 rfl (want_all rfl) rfl rfl Kp.true (Y.move rfl rfl) ?_
      refine Jp.slot 50 rfl (show _ = Value.bool true from rfl) ?_
      refine Jp.y 51 rfl (want_as rfl rfl rfl rfl) rfl rfl Kp.true (Y.move rfl rfl) ?_
      refine Jp.call [0] [0, 22, 23] (mem2_spec b M' 50 (sorts12 _ hml)) 52 rfl (want_as rfl rfl rfl rfl) rfl rfl (Runs.fn rfl Try.call19 rfl) (by decide) (by decide) rfl trivial ?_
      rintro v5 ρ5 L5 ⟨b3, PB, pcb, rfl, rfl⟩
      refine ⟨rfl, fun hle5 => ⟨Kp.true, ?_⟩⟩
      refine Jp.y 53 rfl (want_as rfl rfl rfl rfl) rfl rfl Kp.true (Y.move rfl rfl) ?_
      refine Jp.call [22, 23, 20, 21] [] (sameMem_spec b3 b2 M'.pages hpl (by omega) 50 50 PB PA none none pcb pcap 0 0 0 0) 54 rfl (want_as rfl rfl rfl rfl) rfl rfl (Runs.fn rfl Try.call20 rfl) (by decide) (by decide) rfl trivial ?_
      rintro v6 ρ6 L6 ⟨rfl, rfl, rfl⟩
      refine ⟨rfl, fun hle6 => ⟨Kp.true, ?_⟩⟩
      refine Jp.y 55 rfl (want_all rfl) rfl rfl Kp.true (Y.pickT rfl rfl rfl) ?_
      refine Jp.y 6 rfl (want_all rfl) rfl rfl Kp.true (Y.assign rfl rfl) ?_
      refine Jp.done hK15 ?_
      refine Cd.ret [] rfl (res1 rfl rfl) trivial ⟨rfl, rfl⟩
    · exact absurd ga (by simp; omega)
  · have he : ev = noEv := hy.ev
    obtain ⟨rd, v, hrd32, hx⟩ := hy.st
    have hx : u.x = (s.x.set rd v).set 0 0 := hx
    have hpc : u.pc % 4 = 0 := hy.pc
    have hret : u.ret = s.ret + 1 := hy.ret
    have hxl : u.x.length = 32 := by rw [hx]; simp [hc.len]
    subst he
    refine Cd.cond rfl (fun ga => ?_) (fun ga => ?_)
    · exact absurd ga (by simp [noEv])
    · skip
      refine Cd.skip hK13 ?_
      refine Cd.seq fun K16 hK16 => ?_
      refine Cd.plain [(0, false)] rfl rfl ?_
      refine Jp.y 11 rfl (want_all rfl) rfl rfl Kp.true (Y.assign rfl rfl) ?_
      refine Jp.done hK16 ?_
      refine Cd.seq fun K17 hK17 => ?_
      refine Cd.seq fun K18 hK18 => ?_
      refine Cd.plain [(0, false)] rfl rfl ?_
      refine Jp.y 12 rfl (want_all rfl) rfl rfl Kp.true (Y.assign rfl rfl) ?_
      refine Jp.done hK18 ?_
      refine Cd.block ?_
      refine Cd.loopK (G := Nat × Nat) (fun g => (1 ≤ g.1 ∧ g.1 ≤ 32) ∧ (g.2 ≤ if rd < g.1 then 1 else 0)) (fun g => 32 - g.1) (fun _ => _) (fun g => [(12, .int .i64 (g.1 : Int)), (11, .int .i64 (g.2 : Int))]) [(5, _), (9, _)] (fun _ => []) [(5, _), (9, _)] ⟨1, 0⟩ ⟨⟨by decide, by decide⟩, Nat.zero_le _⟩ rfl ⟨rfl, rfl, trivial⟩ ⟨rfl, rfl, trivial⟩ trivial ⟨rfl, rfl, trivial⟩ (fun g KLa hok hLa => ?_)
      obtain ⟨i, ch⟩ := g
      obtain ⟨⟨ok1, ok2⟩, ok3⟩ := hok
      dsimp only at ok1 ok2 ok3 ⊢
      refine Cd.seq fun K19 hK19 => ?_
      refine Cd.seq fun K20 hK20 => ?_
      refine Cd.plain [(0, false), (1, false)] rfl rfl ?_
      refine Jp.y 56 rfl (want_all rfl) rfl rfl Kp.true (Y.move rfl rfl) ?_
      refine Jp.y 57 rfl (want_all rfl) rfl rfl Kp.true (Y.lss rfl rfl rfl) ?_
      refine Jp.done hK20 ?_
      refine Cd.cond rfl (fun gb => ?_) (fun gb => ?_)
      · have hi : i < 32 := by simp at gb; omega
        obtain ⟨w1, hw1⟩ : ∃ w, s.x[i]? = some w := ⟨_, List.getElem?_eq_getElem (by rw [hc.len]; exact hi)⟩
        have hg := stays_get (rd := rd) (v := v) hc.len ok1 hi
        obtain ⟨w2, hw2, hww⟩ : ∃ w, u.x[i]? = some w ∧ (i ≠ rd → w = w1) := by
          rw [hx, hg]
          by_cases h : i = rd
          · exact ⟨v, by rw [if_pos h], fun q => absurd h q⟩
          · exact ⟨w1, by rw [if_neg h, hw1], fun _ => rfl⟩
        refine Cd.skip hK19 ?_
        refine Cd.seq fun K21 hK21 => ?_
        refine Cd.block ?_
        refine Cd.seq fun K22 hK22 => ?_
        refine Cd.drawn [(5, _), (9, _)] ⟨rfl, rfl, trivial⟩ [(0, true), (1, true), (2, true), (3, true), (4, true), (5, true), (6, true), (7, true), (8, true)] follows (by kernel_rfl) (fun hrl => ?_)
        refine Jp.q 60 rfl (want_all rfl) rfl rfl (Y.move rfl rfl) ?_
        refine Jp.q 61 rfl (want_all rfl) rfl rfl (by first | exact Y.fieldAddrP rfl rfl Try.underlying32 rfl Try.sizeOf30 (by decide) (show _ + 0 = _ from rfl) | exact Y.fieldAddr rfl rfl Try.underlying32 rfl Try.sizeOf30 (by decide)) ?_
        refine Jp.q 62 rfl (want_all rfl) rfl rfl (Y.indexArrP (q := i) rfl rfl rfl Try.underlying30 Try.sizeOf25 (by omega) (by omega) (by omega)) ?_
        refine Jp.q 63 rfl (want_all rfl) rfl rfl (by first | exact Y.loadO 9 rfl Try.isAgg25 rfl rfl rfl | exact Y.loadO 10 rfl Try.isAgg25 rfl rfl rfl | exact Y.loadO 5 rfl Try.isAgg25 rfl rfl rfl | exact Y.loadC 9 rfl Try.isAgg25 rfl rfl (HasC.pt (StP.cX' hw2)) | exact Y.loadC 5 rfl Try.isAgg25 rfl rfl (HasC.pt (StP.cX' hw1))) ?_
        refine Jp.q 64 rfl (want_all rfl) rfl rfl (Y.move rfl rfl) ?_
        refine Jp.q 65 rfl (want_all rfl) rfl rfl (by first | exact Y.fieldAddrP rfl rfl Try.underlying32 rfl Try.sizeOf30 (by decide) (show _ + 0 = _ from rfl) | exact Y.fieldAddr rfl rfl Try.underlying32 rfl Try.sizeOf30 (by decide)) ?_
        refine Jp.q 66 rfl (want_all rfl) rfl rfl (Y.indexArrP (q := i) rfl rfl rfl Try.underlying30 Try.sizeOf25 (by omega) (by omega) (by omega)) ?_
        refine Jp.q 67 rfl (want_all rfl) rfl rfl (by first | exact Y.loadO 9 rfl Try.isAgg25 rfl rfl rfl | exact Y.loadO 10 rfl Try.isAgg25 rfl rfl rfl | exact Y.loadO 5 rfl Try.isAgg25 rfl rfl rfl | exact Y.loadC 9 rfl Try.isAgg25 rfl rfl (HasC.pt (StP.cX' hw2)) | exact Y.loadC 5 rfl Try.isAgg25 rfl rfl (HasC.pt (StP.cX' hw1))) ?_
        refine Jp.q 68 rfl (want_all rfl) rfl rfl (Y.neq rfl rfl rfl) ?_
        refine Jp.done hK22 ?_
        refine Cd.cond rfl (fun gc => ?_) (fun gc => ?_)
        · have hir : i = rd := by
            by_cases h : i = rd
            · exact h
            · rw [hww h] at gc; simp at gc
          have hch : ch = 0 := by rw [if_neg (by omega)] at ok3; omega
          subst hch
          refine Cd.plain [(0, false), (1, false), (2, false)] rfl rfl ?_
          refine Jp.y 69 rfl (want_all rfl) rfl rfl Kp.true (Y.move rfl rfl) ?_
          refine Jp.y 70 rfl (want_all rfl) rfl rfl Kp.true (Y.add_ rfl rfl rfl (by first | exact wrap_i64 (by omega) (by omega) | rfl)) ?_
          refine Jp.y 11 rfl (want_all rfl) rfl rfl Kp.true (Y.assign rfl rfl) ?_
          refine Jp.over rfl hK21 ?_
          refine Cd.plain [(0, false), (1, false), (2, false)] rfl rfl ?_
          refine Jp.y 58 rfl (want_all rfl) rfl rfl Kp.true (Y.move rfl rfl) ?_
          refine Jp.y 59 rfl (want_all rfl) rfl rfl Kp.true (Y.add_ rfl rfl rfl (by first | exact wrap_i64 (by omega) (by omega) | rfl)) ?_
          refine Jp.y 12 rfl (want_all rfl) rfl rfl Kp.true (Y.assign rfl rfl) ?_
          rw [show (i : Int) + 1 = ((i + 1 : Nat) : Int) by omega, show ((0 : Nat) : Int) + 1 = ((1 : Nat) : Int) by omega]
          refine Jp.again hLa ⟨i + 1, 1⟩ ⟨⟨by omega, hi⟩, by rw [if_pos (show rd < i + 1 by omega)]; exact Nat.le_refl _⟩ (by show 32 - (i + 1) < 32 - i; omega) rfl ⟨rfl, rfl, rfl, rfl, trivial⟩ ⟨rfl, rfl, trivial⟩
        · skip
          refine Cd.over rfl hK21 ?_
          refine Cd.plain [(0, false), (1, false), (2, false)] rfl rfl ?_
          refine Jp.y 58 rfl (want_all rfl) rfl rfl Kp.true (Y.move rfl rfl) ?_
          refine Jp.y 59 rfl (want_all rfl) rfl rfl Kp.true (Y.add_ rfl rfl rfl (by first | exact wrap_i64 (by omega) (by omega) | rfl)) ?_
          refine Jp.y 12 rfl (want_all rfl) rfl rfl Kp.true (Y.assign rfl rfl) ?_
          rw [show (i : Int) + 1 = ((i + 1 : Nat) : Int) by omega]
          refine Jp.again hLa ⟨i + 1, ch⟩ ⟨⟨by omega, hi⟩, by (dsimp only; split at ok3 <;> split <;> omega)⟩ (by show 32 - (i + 1) < 32 - i; omega) rfl ⟨rfl, rfl, rfl, rfl, trivial⟩ ⟨rfl, rfl, trivial⟩
      · have hch : ch ≤ 1 := by split at ok3 <;> omega
        have hx0 : u.x[0]? = some 0 := by rw [hx, List.getElem?_set_self (by simp [hc.len])]
        refine Cd.exit rfl hK17 ?_
        refine Cd.seq fun K24 hK24 => ?_
        refine Cd.plain [(0, false), (1, false), (2, false), (3, false), (4, false), (5, false), (6, false), (7, false), (8, false), (9, false), (10, false), (11, false), (12, false), (13, false), (14, false), (15, false), (16, false), (17, false), (18, false), (19, false), (20, false), (21, false), (22, false)] rfl rfl ?_
        refine Jp.y 71 rfl (want_all rfl) rfl rfl Kp.true (Y.move rfl rfl) ?_
        refine Jp.y 72 rfl (want_all rfl) rfl rfl Kp.true (Y.leq rfl rfl rfl) ?_
        refine Jp.y 73 rfl (want_all rfl) rfl rfl Kp.true (Y.move rfl rfl) ?_
        refine Jp.splitF 73 rfl (fun g73 => ?_) (fun g73 => ?_)
        · skip
          exact absurd g73 (by first | (simp; done) | (simp; omega))
        try simp only [decide_eq_false_iff_not, decide_eq_true_eq, Int.not_lt, Int.not_le, Bool.not_eq_false, Bool.not_eq_true, Bool.not_true, Bool.not_false, Bool.not_eq_true', Bool.not_eq_false', beq_eq_false_iff_ne, ne_eq, beq_iff_eq, bne_iff_ne, bne_eq_false_iff_eq, Classical.not_not] at g73
        refine Jp.y 74 rfl (want_as rfl rfl rfl rfl) rfl rfl Kp.true (by first | exact Y.fieldAddrP rfl rfl Try.underlying32 rfl Try.sizeOf30 (by decide) (show _ + 0 = _ from rfl) | exact Y.fieldAddr rfl rfl Try.underlying32 rfl Try.sizeOf30 (by decide)) ?_
        refine Jp.y 75 rfl (want_as rfl rfl rfl rfl) rfl rfl Kp.true (Y.indexArrP rfl rfl rfl Try.underlying30 Try.sizeOf25 (by first | decide | omega) (by first | decide | omega) rfl) ?_
        refine Jp.y 76 rfl (want_as rfl rfl rfl rfl) rfl rfl Kp.true (by first | exact Y.loadO 9 rfl Try.isAgg25 rfl rfl rfl | exact Y.loadO 10 rfl Try.isAgg25 rfl rfl rfl | exact Y.loadO 5 rfl Try.isAgg25 rfl rfl rfl | exact Y.loadC 9 rfl Try.isAgg25 rfl rfl (HasC.pt (StP.cX' hx0)) | exact Y.loadC 9 rfl Try.isAgg25 rfl rfl (HasC.pt (StP.cRet' hxl)) | exact Y.loadC 9 rfl Try.isAgg25 rfl rfl (HasC.pt (StP.cPc' hxl)) | exact Y.loadC 5 rfl Try.isAgg25 rfl rfl (HasC.pt hc.cRet)) ?_
        refine Jp.y 77 rfl (want_as rfl rfl rfl rfl) rfl rfl Kp.true (Y.eql rfl rfl rfl) ?_
        refine Jp.y 78 rfl (want_all rfl) rfl rfl Kp.true (Y.pickT rfl rfl rfl) ?_
        refine Jp.y 79 rfl (want_all rfl) rfl rfl Kp.true (Y.move rfl rfl) ?_
        refine Jp.splitF 79 rfl (fun g79 => ?_) (fun g79 => ?_)
        · skip
          exact absurd g79 (by first | (simp; done) | (simp; omega))
        try simp only [decide_eq_false_iff_not, decide_eq_true_eq, Int.not_lt, Int.not_le, Bool.not_eq_false, Bool.not_eq_true, Bool.not_true, Bool.not_false, Bool.not_eq_true', Bool.not_eq_false', beq_eq_false_iff_ne, ne_eq, beq_iff_eq, bne_iff_ne, bne_eq_false_iff_eq, Classical.not_not] at g79
        refine Jp.y 80 rfl (want_as rfl rfl rfl rfl) rfl rfl Kp.true (by first | exact Y.fieldAddrP rfl rfl Try.underlying32 rfl Try.sizeOf2 (by decide) (show _ + 33 = _ from rfl) | exact Y.fieldAddr rfl rfl Try.underlying32 rfl Try.sizeOf2 (by decide)) ?_
        refine Jp.y 81 rfl (want_as rfl rfl rfl rfl) rfl rfl Kp.true (by first | exact Y.loadO 9 rfl Try.isAgg2 rfl rfl rfl | exact Y.loadO 10 rfl Try.isAgg2 rfl rfl rfl | exact Y.loadO 5 rfl Try.isAgg2 rfl rfl rfl | exact Y.loadC 9 rfl Try.isAgg2 rfl rfl (HasC.pt (StP.cX' hx0)) | exact Y.loadC 9 rfl Try.isAgg2 rfl rfl (HasC.pt (StP.cRet' hxl)) | exact Y.loadC 9 rfl Try.isAgg2 rfl rfl (HasC.pt (StP.cPc' hxl)) | exact Y.loadC 5 rfl Try.isAgg2 rfl rfl (HasC.pt hc.cRet)) ?_
        refine Jp.y 82 rfl (want_as rfl rfl rfl rfl) rfl rfl Kp.true (by first | exact Y.fieldAddrP rfl rfl Try.underlying32 rfl Try.sizeOf2 (by decide) (show _ + 33 = _ from rfl) | exact Y.fieldAddr rfl rfl Try.underlying32 rfl Try.sizeOf2 (by decide)) ?_
        refine Jp.y 83 rfl (want_as rfl rfl rfl rfl) rfl rfl Kp.true (by first | exact Y.loadO 9 rfl Try.isAgg2 rfl rfl rfl | exact Y.loadO 10 rfl Try.isAgg2 rfl rfl rfl | exact Y.loadO 5 rfl Try.isAgg2 rfl rfl rfl | exact Y.loadC 9 rfl Try.isAgg2 rfl rfl (HasC.pt (StP.cX' hx0)) | exact Y.loadC 9 rfl Try.isAgg2 rfl rfl (HasC.pt (StP.cRet' hxl)) | exact Y.loadC 9 rfl Try.isAgg2 rfl rfl (HasC.pt (StP.cPc' hxl)) | exact Y.loadC 5 rfl Try.isAgg2 rfl rfl (HasC.pt hc.cRet)) ?_
        refine Jp.y 84 rfl (want_as rfl rfl rfl rfl) rfl rfl Kp.true (Y.add_ rfl rfl rfl (by first | exact wrap_i64 (by omega) (by omega) | rfl)) ?_
        refine Jp.y 85 rfl (want_as rfl rfl rfl rfl) rfl rfl Kp.true (Y.eql rfl rfl rfl) ?_
        refine Jp.y 86 rfl (want_all rfl) rfl rfl Kp.true (Y.pickT rfl rfl rfl) ?_
        refine Jp.y 87 rfl (want_all rfl) rfl rfl Kp.true (Y.move rfl rfl) ?_
        refine Jp.splitF 87 rfl (fun g87 => ?_) (fun g87 => ?_)
        · skip
          exact absurd g87 (by first | (simp; done) | (simp; omega))
        try simp only [decide_eq_false_iff_not, decide_eq_true_eq, Int.not_lt, Int.not_le, Bool.not_eq_false, Bool.not_eq_true, Bool.not_true, Bool.not_false, Bool.not_eq_true', Bool.not_eq_false', beq_eq_false_iff_ne, ne_eq, beq_iff_eq, bne_iff_ne, bne_eq_false_iff_eq, Classical.not_not] at g87
        refine Jp.y 88 rfl (want_as rfl rfl rfl rfl) rfl rfl Kp.true (by first | exact Y.fieldAddrP rfl rfl Try.underlying32 rfl Try.sizeOf25 (by decide) (show _ + 32 = _ from rfl) | exact Y.fieldAddr rfl rfl Try.underlying32 rfl Try.sizeOf25 (by decide)) ?_
        refine Jp.y 89 rfl (want_as rfl rfl rfl rfl) rfl rfl Kp.true (by first | exact Y.loadO 9 rfl Try.isAgg25 rfl rfl rfl | exact Y.loadO 10 rfl Try.isAgg25 rfl rfl rfl | exact Y.loadO 5 rfl Try.isAgg25 rfl rfl rfl | exact Y.loadC 9 rfl Try.isAgg25 rfl rfl (HasC.pt (StP.cX' hx0)) | exact Y.loadC 9 rfl Try.isAgg25 rfl rfl (HasC.pt (StP.cRet' hxl)) | exact Y.loadC 9 rfl Try.isAgg25 rfl rfl (HasC.pt (StP.cPc' hxl)) | exact Y.loadC 5 rfl Try.isAgg25 rfl rfl (HasC.pt hc.cRet)) ?_
        refine Jp.y 90 rfl (want_as rfl rfl rfl rfl) rfl rfl Kp.true (by first | exact Y.remN rfl rfl rfl (by omega) (by omega) | exact Y.rem rfl rfl rfl (by first | decide | omega)) ?_
        refine Jp.y 91 rfl (want_as rfl rfl rfl rfl) rfl rfl Kp.true (Y.eql rfl rfl rfl) ?_
        refine Jp.y 92 rfl (want_all rfl) rfl rfl Kp.true (Y.pickT rfl rfl rfl) ?_
        refine Jp.y 6 rfl (want_all rfl) rfl rfl Kp.true (Y.assign rfl rfl) ?_
        refine Jp.done hK24 ?_
        refine Cd.ret [] rfl (res1 rfl rfl) trivial ⟨congrArg Value.bool (by first | (simp; done) | (simp; omega)), rfl⟩
end Go.Proofs.Ytkjeidoplonkjaa
