/- MemGens. -/
import Derived.Test.YtgfbdiibndbbjaaMemS
set_option linter.unusedVariables false
set_option linter.unusedSimpArgs false
set_option maxRecDepth 100000
namespace Go.Proofs.Ytgfbdiibndbbjaa
open Go
/-- Two pages, 0 and 256, to be read and written; page 0 has been changed n times. -/
structure GInv (M : MemG) (n : Nat) : Prop where
  keys : M.pages.map (·.1) = [0, 256]
  pg0 : ∃ p, getPg M.pages 0 = some p ∧ p.perm = 3 ∧ p.b.length = 256
  g0 : M.gens 0 = n
  g1 : M.gens 256 = 1
  g2 : M.gens 512 = 0
theorem GInv.set {M : MemG} {n : Nat} (h : GInv M n) (p : Pg) (h1 : p.perm = 3) (h2 : p.b.length = 256) : GInv { M with pages := setPg M.pages 0 p, gens := bump M.gens 0 } ((n + 1) % 4294967296) := by
  obtain ⟨q, q1, _⟩ := h.pg0
  refine ⟨by show (setPg _ _ _).map (·.1) = _; rw [setPg_keys]; exact h.keys, ⟨p, by show getPg (setPg _ _ _) 0 = _; rw [getPg_set, if_pos rfl, q1]; rfl, h1, h2⟩, ?_, ?_, ?_⟩
  · show bump M.gens 0 0 = _; rw [bump, if_pos rfl, h.g0]
  · show bump M.gens 0 256 = _; rw [bump, if_neg (by decide)]; exact h.g1
  · show bump M.gens 0 512 = _; rw [bump, if_neg (by decide)]; exact h.g2
theorem inv_store {M : MemG} {n a v : Nat} (h : GInv M n) (ha : a % 4 = 0) (h2 : a < 256) : (storeM M a 4 v).1 = 0 ∧ GInv (storeM M a 4 v).2 ((n + 1) % 4294967296) := by
  obtain ⟨p, q1, q2, q3⟩ := h.pg0
  have hl : lookM M a 4 2 = 0 := by
    rw [lookM, if_neg (by rw [show (4 : Int) = ((4 : Nat) : Int) from rfl, sizeOk_of (by omega) ha]; simp), base_low h2, q1]
    simp only [q2]; decide
  rw [storeM, if_pos hl, base_low h2, q1, Nat.mod_eq_of_lt h2]
  exact ⟨rfl, h.set _ q2 (stPg_len q3 (by simp; omega))⟩
theorem permIn_keys (M : MemG) (a many perm : Nat) : (permIn M a many perm).pages.map (fun y => y.1) = M.pages.map (fun y => y.1) := by
  rw [permIn, List.map_map]
  apply List.map_congr_left
  intro y _
  simp only [Function.comp]; split <;> rfl
theorem inv_prot {M : MemG} {n : Nat} (h : GInv M n) : (protectM M 0 256 3).1 = 0 ∧ GInv (protectM M 0 256 3).2 ((n + 1) % 4294967296) := by
  obtain ⟨p, q1, q2, q3⟩ := h.pg0
  have hs : stretch 0 256 = some 1 := by decide
  have e : protectM M 0 256 3 = (0, permIn M 0 1 3) := protect_yes (perm := 3) hs (by omega) (by rw [within_keys, h.keys]; decide)
  rw [e]
  have hb : ∀ k, bumpS M (inS 0 1) k = if k = 0 then (M.gens 0 + 1) % 4294967296 else if inS 0 1 k = true ∧ (getPg M.pages k).isSome = true then (M.gens k + 1) % 4294967296 else M.gens k := fun k => by
    unfold bumpS
    by_cases hk : k = 0
    · subst hk; rw [if_pos rfl, q1]; rfl
    · rw [if_neg hk]; simp only [Bool.and_eq_true]
  refine ⟨rfl, ?_, ⟨⟨p.b, 3⟩, ?_, rfl, q3⟩, ?_, ?_, ?_⟩
  · show (permIn M 0 1 3).pages.map (fun y => y.1) = _
    rw [permIn_keys]; exact h.keys
  · rw [permIn_get, q1]; rfl
  · show bumpS M (inS 0 1) 0 = _; rw [hb, if_pos rfl, h.g0]
  · show bumpS M (inS 0 1) 256 = _; rw [hb, if_neg (by decide), if_neg (fun hh => by exact absurd hh.1 (by decide))]; exact h.g1
  · show bumpS M (inS 0 1) 512 = _; rw [hb, if_neg (by decide), if_neg (fun hh => by exact absurd hh.1 (by decide))]; exact h.g2
theorem inv_wr {M : MemG} {n a : Nat} {l : Bytes} (h : GInv M n) (ha : a + l.length < 256) : ∀ i, i ≤ l.length → GInv (wrM M a l i) (if 0 < i then (n + 1) % 4294967296 else n) := by
  intro i
  induction i with
  | zero => intro _; exact h
  | succ i ih =>
    intro hi
    have hI := ih (by omega)
    have hb : baseN (a + i) = 0 := base_low (by omega)
    have hm : (a + i) % 256 = a + i := Nat.mod_eq_of_lt (by omega)
    obtain ⟨p, q1, q2, q3⟩ := hI.pg0
    have hx : l[i]? = some (l[i]'(by omega)) := List.getElem?_eq_getElem (by omega)
    rw [if_pos (by omega)]
    by_cases h0 : i = 0
    · subst h0
      rw [wrM_bump hx (by rw [hb]; exact q1) (.inl rfl), hb]
      exact GInv.set (M := M) h ⟨p.b.set ((a + 0) % 256) l[0], p.perm⟩ q2 (by simpa using q3)
    · by_cases h1 : a + i = 0
      · omega
      rw [wrM_still hx (by rw [hb]; exact q1) (by omega), hb]
      rw [if_pos (by omega)] at hI
      refine ⟨by show (setPg _ _ _).map (·.1) = _; rw [setPg_keys]; exact hI.keys, ⟨⟨p.b.set ((a + i) % 256) (l[i]'(by omega)), p.perm⟩, by show getPg (setPg _ _ _) 0 = _; rw [getPg_set, if_pos rfl, q1]; rfl, q2, by simpa using q3⟩, hI.g0, hI.g1, hI.g2⟩
theorem inv_write {M : MemG} {n a : Nat} {l : Bytes} (h : GInv M n) (ha : a ≤ 31) (hl : l.length ≤ 200) : (writeM M a l 4096 2).1 = 0 ∧ GInv (writeM M a l 4096 2).2 (if 0 < l.length then (n + 1) % 4294967296 else n) := by
  obtain ⟨p, q1, q2, q3⟩ := h.pg0
  have hall : allM M a l.length 2 = true := by
    by_cases h0 : l.length = 0
    · rw [h0]; rfl
    · refine allM_yes (by omega) fun j hj => ?_
      have : j = 0 := by unfold allCnt at hj; omega
      subst this
      rw [base_low (by omega), pgOk_some q1, q2]; decide
  rw [writeM, if_neg (by omega), if_neg (by rw [hall]; simp)]
  exact ⟨rfl, inv_wr h (by omega) _ (Nat.le_refl _)⟩
theorem memGens_spec (s : Sl ActG) : Spec Try.prog 6 #[s.v] (RdActGs s) [] (fun ρ ρ' v L => v = .bool true ∧ L = []) := by
  obtain ⟨A, c, xs⟩ := s
  dsimp only [Sl.v]
  refine Spec.of 128 Try.func6 rfl Try.ntmps6 [(0, _)] rfl rfl ?_
  intro cx ρ hr h0
  have lx : xs.length ≤ 281474976710656 := hr.1.2.1.2
  refine Cd.seq fun K1 hK1 => ?_
  refine Cd.plain [(0, false)] rfl rfl ?_
  refine Jp.y 2 rfl (want_all rfl) rfl rfl Kp.true (Y.assign rfl rfl) ?_
  refine Jp.done hK1 ?_
  refine Cd.seq fun K2 hK2 => ?_
  refine Cd.seq fun K3 hK3 => ?_
  refine Cd.plain [(0, false), (1, false)] rfl rfl ?_
  refine Jp.call [] [] awake3_spec 7 rfl (want_all rfl) rfl rfl (Runs.fn rfl Try.call18 rfl) (by decide) (by decide) rfl trivial ?_
  rintro v1 ρ1 L1 ⟨rfl, rfl⟩
  refine ⟨rfl, fun hle1 => ⟨Kp.true, ?_⟩⟩
  have hr := RdActGs.up _ _ _ hle1 hr
  refine Jp.y 8 rfl (want_all rfl) rfl rfl Kp.true (Y.not rfl rfl) ?_
  refine Jp.done hK3 ?_
  refine Cd.cond rfl (fun g8 => ?_) (fun g8 => ?_)
  · skip
    exact absurd g8 (by simp)
  try simp only [decide_eq_false_iff_not, decide_eq_true_eq, Int.not_lt, Int.not_le, Bool.not_eq_false, Bool.not_eq_true, Bool.not_true, Bool.not_false, Bool.not_eq_true', Bool.not_eq_false', beq_eq_false_iff_ne, ne_eq, beq_iff_eq, bne_iff_ne, bne_eq_false_iff_eq, Classical.not_not] at g8
  refine Cd.skip hK2 ?_
  refine Cd.seq fun K4 hK4 => ?_
  refine Cd.seq fun K5 hK5 => ?_
  refine Cd.plain [(0, false), (1, false), (2, false)] rfl rfl ?_
  refine Jp.y 9 rfl (want_all rfl) rfl rfl Kp.true (Y.move rfl rfl) ?_
  refine Jp.y 10 rfl (want_all rfl) rfl rfl Kp.true (Y.lenslice rfl Try.underlying47 rfl) ?_
  refine Jp.y 11 rfl (want_all rfl) rfl rfl Kp.true (Y.gtr rfl rfl rfl) ?_
  refine Jp.done hK5 ?_
  refine Cd.cond rfl (fun g11 => ?_) (fun g11 => ?_)
  · skip
    try simp only [decide_eq_false_iff_not, decide_eq_true_eq, Int.not_lt, Int.not_le, Bool.not_eq_false, Bool.not_eq_true, Bool.not_true, Bool.not_false, Bool.not_eq_true', Bool.not_eq_false', beq_eq_false_iff_ne, ne_eq, beq_iff_eq, bne_iff_ne, bne_eq_false_iff_eq, Classical.not_not] at g11
    refine Cd.seq fun K6 hK6 => ?_
    refine Cd.plain [(0, false)] rfl rfl ?_
    refine Jp.y 2 rfl (want_all rfl) rfl rfl Kp.true (Y.assign rfl rfl) ?_
    refine Jp.done hK6 ?_
    refine Cd.ret [] rfl (res1 rfl rfl) trivial ⟨rfl, rfl⟩
  try simp only [decide_eq_false_iff_not, decide_eq_true_eq, Int.not_lt, Int.not_le, Bool.not_eq_false, Bool.not_eq_true, Bool.not_true, Bool.not_false, Bool.not_eq_true', Bool.not_eq_false', beq_eq_false_iff_ne, ne_eq, beq_iff_eq, bne_iff_ne, bne_eq_false_iff_eq, Classical.not_not] at g11
  refine Cd.skip hK4 ?_
  refine Cd.seq fun K7 hK7 => ?_
  refine Cd.plain [(0, false), (1, false), (2, false), (3, false), (4, false), (5, false)] rfl rfl ?_
  obtain ⟨M1, hM1⟩ : ∃ M, M = (mapM (newM 8) 0 512 3).2 := ⟨_, rfl⟩
  have hI1 : GInv M1 1 := by
    rw [hM1]
    refine ⟨by decide, ⟨⟨List.replicate 256 0, 3⟩, rfl, rfl, by simp⟩, by decide, by decide, by decide⟩
  refine Jp.call [] [0] (new_yes 8 (by omega)) 13 rfl (want_all rfl) rfl rfl (Runs.fn rfl Try.call19 rfl) (by decide) (by decide) rfl trivial ?_
  rintro v2 ρ2 L2 ⟨rfl, b, rfl, rfl⟩
  refine ⟨rfl, fun hle2 => ⟨Kp.true, ?_⟩⟩
  refine Jp.y 12 rfl (want_all rfl) rfl rfl Kp.true (Y.move rfl rfl) ?_
  refine Jp.y 14 rfl (want_all rfl) rfl rfl Kp.true (Y.extract rfl rfl rfl) ?_
  refine Jp.y 15 rfl (want_all rfl) rfl rfl Kp.true (Y.extract rfl rfl rfl) ?_
  refine Jp.y 3 rfl (want_all rfl) rfl rfl Kp.true (Y.assign rfl rfl) ?_
  refine Jp.y 4 rfl (want_all rfl) rfl rfl Kp.true (Y.assign rfl rfl) ?_
  refine Jp.done hK7 ?_
  refine Cd.seq fun K8 hK8 => ?_
  refine Cd.plain [(0, false), (1, false)] rfl rfl ?_
  refine Jp.y 16 rfl (want_all rfl) rfl rfl Kp.true (Y.move rfl rfl) ?_
  refine Jp.call [0] [0] (map_eq (a := 0) (n := 512) (perm := 3) (e := 0) (by omega) (by omega) (by decide) hM1.symm) 17 rfl (want_all rfl) rfl rfl (Runs.fn rfl Try.call20 rfl) (by decide) (by decide) rfl trivial ?_
  rintro v3 ρ3 L3 ⟨rfl, rfl, rfl⟩
  refine ⟨rfl, fun hle3 => ⟨Kp.true, ?_⟩⟩
  refine Jp.done hK8 ?_
  refine Cd.seq fun K9 hK9 => ?_
  refine Cd.plain [(0, false), (1, false), (2, false)] rfl rfl ?_
  refine Jp.y 18 rfl (want_all rfl) rfl rfl Kp.true (Y.move rfl rfl) ?_
  refine Jp.call [0] [0] (gen_spec b M1 0 (by omega)) 19 rfl (want_all rfl) rfl rfl (Runs.fn rfl Try.call25 rfl) (by decide) (by decide) rfl trivial ?_
  rintro v4 ρ4 L4 ⟨rfl, rfl, rfl⟩
  refine ⟨rfl, fun hle4 => ⟨Kp.true, ?_⟩⟩
  have hg1 : M1.gens (baseN 0) = 1 := hI1.g0
  rw [hg1]
  refine Jp.y 5 rfl (want_all rfl) rfl rfl Kp.true (Y.assign rfl rfl) ?_
  refine Jp.done hK9 ?_
  refine Cd.seq fun K10 hK10 => ?_
  refine Cd.seq fun K11 hK11 => ?_
  refine Cd.plain [(0, false)] rfl rfl ?_
  refine Jp.y 6 rfl (want_all rfl) rfl rfl Kp.true (Y.assign rfl rfl) ?_
  refine Jp.done hK11 ?_
  refine Cd.block ?_
  refine Cd.loopK (G := Nat × MemG × Nat) (fun g => g.1 ≤ xs.length ∧ GInv g.2.1 g.2.2 ∧ g.2.2 < 4294967296) (fun g => xs.length - g.1) (fun _ => _) (fun g => [(5, .int .u32 g.2.2), (6, .int .i64 g.1)]) [(0, _), (3, _)] (fun g => [(0, MemO b g.2.1)]) [] ⟨0, M1, 1⟩ ⟨Nat.zero_le _, hI1, (by show 1 < 4294967296; omega)⟩ rfl ⟨rfl, rfl, trivial⟩ ⟨rfl, rfl, trivial⟩ ⟨rfl, trivial⟩ trivial (fun g KLa hok hLa => ?_)
  obtain ⟨i, M, n⟩ := g
  obtain ⟨ok1, ok2, ok3⟩ := hok
  dsimp only at ok1 ok2 ok3 ⊢
  refine Cd.seq fun K12 hK12 => ?_
  refine Cd.seq fun K13 hK13 => ?_
  refine Cd.plain [(0, false), (1, false), (2, false), (3, false)] rfl rfl ?_
  refine Jp.y 20 rfl (want_all rfl) rfl rfl Kp.true (Y.move rfl rfl) ?_
  refine Jp.y 21 rfl (want_all rfl) rfl rfl Kp.true (Y.move rfl rfl) ?_
  refine Jp.y 22 rfl (want_all rfl) rfl rfl Kp.true (Y.lenslice rfl Try.underlying47 rfl) ?_
  refine Jp.y 23 rfl (want_all rfl) rfl rfl Kp.true (Y.lss rfl rfl rfl) ?_
  refine Jp.done hK13 ?_
  refine Cd.cond rfl (fun ga => ?_) (fun ga => ?_)
  · simp only [decide_eq_true_eq] at ga
    have hi : i < xs.length := by omega
    have hx : xs[i]? = some xs[i] := List.getElem?_eq_getElem hi
    obtain ⟨ad, hA, hcs, hxr⟩ := RdRows.at ActG.len (by decide) hr hx
    dsimp only at hA
    subst hA
    obtain ⟨x, hxe⟩ : ∃ x, x = xs[i] := ⟨_, rfl⟩
    rw [← hxe] at hcs hxr hx
    have c0 := hcs 0 _ rfl
    have c1 := hcs 1 _ rfl
    have c2 := hcs 2 _ rfl
    have c4 := hcs 4 _ rfl
    have c5 := hcs 5 _ rfl
    refine Cd.skip hK12 ?_
    refine Cd.seq fun K14 hK14 => ?_
    refine Cd.block ?_
    refine Cd.seq fun K15 hK15 => ?_
    refine Cd.seq fun K16 hK16 => ?_
    refine Cd.plain [(0, false), (1, false), (2, false), (3, false), (4, false)] rfl rfl ?_
    refine Jp.y 26 rfl (want_all rfl) rfl rfl Kp.true (Y.move rfl rfl) ?_
    refine Jp.y 27 rfl (want_all rfl) rfl rfl Kp.true (Y.move rfl rfl) ?_
    refine Jp.y 28 rfl (want_all rfl) rfl rfl Kp.true (Y.indexAddr (q := i * 6) rfl rfl rfl Try.underlying47 Try.sizeOf50 (by omega) (by omega) (by omega)) ?_
    refine Jp.y 29 rfl (want_all rfl) rfl rfl Kp.true (by first | exact Y.fieldAddrP rfl rfl Try.underlying50 rfl Try.sizeOf3 (by decide) (show _ + 0 = _ from rfl) | exact Y.fieldAddr rfl rfl Try.underlying50 rfl Try.sizeOf3 (by decide)) ?_
    refine Jp.y 30 rfl (want_all rfl) rfl rfl Kp.true (by first | exact Y.loadR rfl Try.isAgg3 rfl c0 | exact Y.loadR rfl Try.isAgg3 rfl c1 | exact Y.loadR rfl Try.isAgg3 rfl c2 | exact Y.loadR rfl Try.isAgg3 rfl c4 | exact Y.loadR rfl Try.isAgg3 rfl c5) ?_
    refine Jp.done hK16 ?_
    refine Cd.block ?_
    refine Cd.seq fun K17 hK17 => ?_
    refine Cd.plain [(0, false), (1, false)] rfl rfl ?_
    refine Jp.joinG (G := MemG × Nat) (fun g => GInv g.1 g.2 ∧ g.2 < 4294967296) (fun g => [(5, .int .u32 g.2)]) [(0, _), (3, _), (6, _)] ⟨rfl, rfl, rfl, trivial⟩ (fun g => [(0, MemO b g.1)]) [] trivial hK15 (fun g hφ => ?_) (fun hj1 => ?_)
    · obtain ⟨M2, n2⟩ := g
      obtain ⟨hI, hn⟩ := hφ
      dsimp only at hI hn ⊢
      refine Cd.seq fun K18 hK18 => ?_
      refine Cd.plain [(0, false), (1, false), (2, false), (3, false), (4, false), (5, false), (6, false), (7, false), (8, false), (9, false), (10, false), (11, false), (12, false), (13, false)] rfl rfl ?_
      refine Jp.y 114 rfl (want_all rfl) rfl rfl Kp.true (Y.move rfl rfl) ?_
      refine Jp.call [0] [0] (gen_eq (a := 5) (v := n2) (by omega) hI.g0) 115 rfl (want_all rfl) rfl rfl (Runs.fn rfl Try.call25 rfl) (by decide) (by decide) rfl trivial ?_
      rintro v5 ρ5 L5 ⟨rfl, rfl, rfl⟩
      refine ⟨rfl, fun hle5 => ⟨Kp.true, ?_⟩⟩
      refine Jp.y 116 rfl (want_all rfl) rfl rfl Kp.true (Y.move rfl rfl) ?_
      refine Jp.y 117 rfl (want_all rfl) rfl rfl Kp.true (Y.neq rfl rfl rfl) ?_
      refine Jp.y 118 rfl (want_all rfl) rfl rfl Kp.true (Y.move rfl rfl) ?_
      refine Jp.split 118 rfl (fun g118 => ?_) (fun g118 => ?_)
      · skip
        exact absurd g118 (by first | (simp; done) | decide)
      try simp only [decide_eq_false_iff_not, decide_eq_true_eq, Int.not_lt, Int.not_le, Bool.not_eq_false, Bool.not_eq_true, Bool.not_true, Bool.not_false, Bool.not_eq_true', Bool.not_eq_false', beq_eq_false_iff_ne, ne_eq, beq_iff_eq, bne_iff_ne, bne_eq_false_iff_eq, Classical.not_not] at g118
      refine Jp.y 119 rfl (want_as rfl rfl rfl rfl) rfl rfl Kp.true (Y.move rfl rfl) ?_
      refine Jp.call [0] [0] (gen_eq (a := 256) (v := 1) (by omega) hI.g1) 120 rfl (want_as rfl rfl rfl rfl) rfl rfl (Runs.fn rfl Try.call25 rfl) (by decide) (by decide) rfl trivial ?_
      rintro v6 ρ6 L6 ⟨rfl, rfl, rfl⟩
      refine ⟨rfl, fun hle6 => ⟨Kp.true, ?_⟩⟩
      refine Jp.y 121 rfl (want_as rfl rfl rfl rfl) rfl rfl Kp.true (Y.neq rfl rfl rfl) ?_
      refine Jp.y 122 rfl (want_all rfl) rfl rfl Kp.true (Y.pickF rfl rfl rfl) ?_
      refine Jp.y 123 rfl (want_all rfl) rfl rfl Kp.true (Y.move rfl rfl) ?_
      refine Jp.split 123 rfl (fun g123 => ?_) (fun g123 => ?_)
      · skip
        exact absurd g123 (by first | (simp; done) | decide)
      try simp only [decide_eq_false_iff_not, decide_eq_true_eq, Int.not_lt, Int.not_le, Bool.not_eq_false, Bool.not_eq_true, Bool.not_true, Bool.not_false, Bool.not_eq_true', Bool.not_eq_false', beq_eq_false_iff_ne, ne_eq, beq_iff_eq, bne_iff_ne, bne_eq_false_iff_eq, Classical.not_not] at g123
      refine Jp.y 124 rfl (want_as rfl rfl rfl rfl) rfl rfl Kp.true (Y.move rfl rfl) ?_
      refine Jp.call [0] [0] (gen_eq (a := 512) (v := 0) (by omega) hI.g2) 125 rfl (want_as rfl rfl rfl rfl) rfl rfl (Runs.fn rfl Try.call25 rfl) (by decide) (by decide) rfl trivial ?_
      rintro v7 ρ7 L7 ⟨rfl, rfl, rfl⟩
      refine ⟨rfl, fun hle7 => ⟨Kp.true, ?_⟩⟩
      refine Jp.y 126 rfl (want_as rfl rfl rfl rfl) rfl rfl Kp.true (Y.neq rfl rfl rfl) ?_
      refine Jp.y 127 rfl (want_all rfl) rfl rfl Kp.true (Y.pickF rfl rfl rfl) ?_
      refine Jp.done hK18 ?_
      refine Cd.cond rfl (fun g127 => ?_) (fun g127 => ?_)
      · skip
        exact absurd g127 (by first | (simp; done) | decide)
      try simp only [decide_eq_false_iff_not, decide_eq_true_eq, Int.not_lt, Int.not_le, Bool.not_eq_false, Bool.not_eq_true, Bool.not_true, Bool.not_false, Bool.not_eq_true', Bool.not_eq_false', beq_eq_false_iff_ne, ne_eq, beq_iff_eq, bne_iff_ne, bne_eq_false_iff_eq, Classical.not_not] at g127
      refine Cd.over rfl hK14 ?_
      refine Cd.plain [(0, false), (1, false), (2, false)] rfl rfl ?_
      refine Jp.y 24 rfl (want_all rfl) rfl rfl Kp.true (Y.move rfl rfl) ?_
      refine Jp.y 25 rfl (want_all rfl) rfl rfl Kp.true (Y.add_ rfl rfl rfl (by first | exact wrap_i64 (by omega) (by omega) | rfl)) ?_
      refine Jp.y 6 rfl (want_all rfl) rfl rfl Kp.true (Y.assign rfl rfl) ?_
      refine Jp.again hLa ⟨i + 1, M2, n2⟩ ⟨hi, hI, hn⟩ (by show xs.length - (i + 1) < xs.length - i; omega) rfl ⟨rfl, rfl, rfl, rfl, trivial⟩ ⟨rfl, trivial⟩
    · skip
      have hxa := hxr.a
      have hxn := hxr.n
      refine Jp.y 37 rfl (want_all rfl) rfl rfl Kp.true (Y.eql rfl rfl rfl) ?_
      refine Jp.y 36 rfl (want_all rfl) rfl rfl Kp.true (Y.assign rfl rfl) ?_
      refine Jp.done hK17 ?_
      refine Cd.cond rfl (fun g3 => ?_) (fun g3 => ?_)
      · have h4 : (x.a &&& 252) % 4 = 0 := by
          have := Nat.and_mod_two_pow (a := x.a) (b := 252) (n := 2)
          simpa using this
        have h5 : x.a &&& 252 ≤ 252 := Nat.and_le_right
        have hS := inv_store (v := x.n) ok2 h4 (by omega)
        refine Cd.seq fun K19 hK19 => ?_
        refine Cd.drawn [] trivial [(0, true), (1, true), (2, true), (3, true), (4, true), (5, true), (6, true), (7, true), (8, true), (9, true), (10, true), (11, true), (12, false), (13, true)] follows (by kernel_rfl) (fun hrl => ?_)
        refine Jp.q 38 rfl (want_all rfl) rfl rfl (Y.move rfl rfl) ?_
        refine Jp.q 39 rfl (want_all rfl) rfl rfl (Y.move rfl rfl) ?_
        refine Jp.q 40 rfl (want_all rfl) rfl rfl (Y.move rfl rfl) ?_
        refine Jp.q 41 rfl (want_all rfl) rfl rfl (Y.indexAddr (q := i * 6) rfl rfl rfl Try.underlying47 Try.sizeOf50 (by omega) (by omega) (by omega)) ?_
        refine Jp.q 42 rfl (want_all rfl) rfl rfl (by first | exact Y.fieldAddrP rfl rfl Try.underlying50 rfl Try.sizeOf26 (by decide) (show _ + 1 = _ from rfl) | exact Y.fieldAddr rfl rfl Try.underlying50 rfl Try.sizeOf26 (by decide)) ?_
        refine Jp.q 43 rfl (want_all rfl) rfl rfl (by first | exact Y.loadR rfl Try.isAgg26 rfl c0 | exact Y.loadR rfl Try.isAgg26 rfl c1 | exact Y.loadR rfl Try.isAgg26 rfl c2 | exact Y.loadR rfl Try.isAgg26 rfl c4 | exact Y.loadR rfl Try.isAgg26 rfl c5) ?_
        refine Jp.q 44 rfl (want_all rfl) rfl rfl (Y.bits rfl rfl rfl rfl) ?_
        refine Jp.q 45 rfl (want_all rfl) rfl rfl (Y.move rfl rfl) ?_
        refine Jp.q 46 rfl (want_all rfl) rfl rfl (Y.move rfl rfl) ?_
        refine Jp.q 47 rfl (want_all rfl) rfl rfl (Y.indexAddr (q := i * 6) rfl rfl rfl Try.underlying47 Try.sizeOf50 (by omega) (by omega) (by omega)) ?_
        refine Jp.q 48 rfl (want_all rfl) rfl rfl (by first | exact Y.fieldAddrP rfl rfl Try.underlying50 rfl Try.sizeOf26 (by decide) (show _ + 2 = _ from rfl) | exact Y.fieldAddr rfl rfl Try.underlying50 rfl Try.sizeOf26 (by decide)) ?_
        refine Jp.q 49 rfl (want_all rfl) rfl rfl (by first | exact Y.loadR rfl Try.isAgg26 rfl c0 | exact Y.loadR rfl Try.isAgg26 rfl c1 | exact Y.loadR rfl Try.isAgg26 rfl c2 | exact Y.loadR rfl Try.isAgg26 rfl c4 | exact Y.loadR rfl Try.isAgg26 rfl c5) ?_
        refine Jp.slot 44 rfl (congrArg (Value.int .u32) (bits_and32 (b := 252) hxa (by omega))) ?_
        refine Jp.call [0] [0] (store_eq (a := x.a &&& 252) (size := 4) (v := x.n) (by omega) hxn hS.1 rfl) 50 rfl (want_all rfl) rfl rfl (Runs.fn rfl Try.call21 rfl) (by decide) (by decide) rfl trivial ?_
        rintro v5 ρ5 L5 ⟨rfl, rfl, rfl⟩
        refine ⟨rfl, fun hle5 => ⟨(Kp.st trivial), ?_⟩⟩
        refine Jp.q 51 rfl (want_all rfl) rfl rfl (Y.eql rfl rfl rfl) ?_
        refine Jp.done hK19 ?_
        refine Cd.condF' rfl (fun g51 => ?_) (fun g51 => ?_)
        · skip
          exact absurd g51 (by simp)
        try simp only [decide_eq_false_iff_not, decide_eq_true_eq, Int.not_lt, Int.not_le, Bool.not_eq_false, Bool.not_eq_true, Bool.not_true, Bool.not_false, Bool.not_eq_true', Bool.not_eq_false', beq_eq_false_iff_ne, ne_eq, beq_iff_eq, bne_iff_ne, bne_eq_false_iff_eq, Classical.not_not] at g51
        refine Cd.plain [(0, false), (1, false), (2, false)] rfl rfl ?_
        refine Jp.y 52 rfl (want_all rfl) rfl rfl Kp.true (Y.move rfl rfl) ?_
        refine Jp.y 53 rfl (want_all rfl) rfl rfl Kp.true (Y.add_ rfl rfl rfl (wrap_u32m (n + 1))) ?_
        refine Jp.y 5 rfl (want_all rfl) rfl rfl Kp.true (Y.assign rfl rfl) ?_
        refine Jp.over rfl hK15 ?_
        exact Cd.meet (hj1 ⟨_, (n + 1) % 4294967296⟩ ⟨hS.2, Nat.mod_lt _ (by omega)⟩) ⟨rfl, rfl, rfl, rfl, trivial⟩ ⟨rfl, trivial⟩
      · skip
        refine Cd.seq fun K21 hK21 => ?_
        refine Cd.plain [(0, false), (1, false)] rfl rfl ?_
        refine Jp.y 55 rfl (want_all rfl) rfl rfl Kp.true (Y.eql rfl rfl rfl) ?_
        refine Jp.y 54 rfl (want_all rfl) rfl rfl Kp.true (Y.assign rfl rfl) ?_
        refine Jp.done hK21 ?_
        refine Cd.cond rfl (fun g4 => ?_) (fun g4 => ?_)
        · skip
          refine Cd.seq fun K22 hK22 => ?_
          refine Cd.seq fun K23 hK23 => ?_
          refine Cd.plain [(0, false), (1, false), (2, false), (3, false), (4, false), (5, false), (6, false)] rfl rfl ?_
          refine Jp.y 56 rfl (want_all rfl) rfl rfl Kp.true (Y.move rfl rfl) ?_
          refine Jp.y 57 rfl (want_all rfl) rfl rfl Kp.true (Y.move rfl rfl) ?_
          refine Jp.y 58 rfl (want_all rfl) rfl rfl Kp.true (Y.indexAddr (q := i * 6) rfl rfl rfl Try.underlying47 Try.sizeOf50 (by omega) (by omega) (by omega)) ?_
          refine Jp.y 59 rfl (want_all rfl) rfl rfl Kp.true (by first | exact Y.fieldAddrP rfl rfl Try.underlying50 rfl Try.sizeOf25 (by decide) (show _ + 5 = _ from rfl) | exact Y.fieldAddr rfl rfl Try.underlying50 rfl Try.sizeOf25 (by decide)) ?_
          refine Jp.y 60 rfl (want_all rfl) rfl rfl Kp.true (by first | exact Y.loadR rfl Try.isAgg25 rfl c0 | exact Y.loadR rfl Try.isAgg25 rfl c1 | exact Y.loadR rfl Try.isAgg25 rfl c2 | exact Y.loadR rfl Try.isAgg25 rfl c4 | exact Y.loadR rfl Try.isAgg25 rfl c5) ?_
          refine Jp.y 61 rfl (want_all rfl) rfl rfl Kp.true (Y.lenslice rfl Try.underlying25 rfl) ?_
          refine Jp.y 62 rfl (want_all rfl) rfl rfl Kp.true (Y.gtr rfl rfl rfl) ?_
          refine Jp.done hK23 ?_
          refine Cd.cond rfl (fun g62 => ?_) (fun g62 => ?_)
          · skip
            try simp only [decide_eq_false_iff_not, decide_eq_true_eq, Int.not_lt, Int.not_le, Bool.not_eq_false, Bool.not_eq_true, Bool.not_true, Bool.not_false, Bool.not_eq_true', Bool.not_eq_false', beq_eq_false_iff_ne, ne_eq, beq_iff_eq, bne_iff_ne, bne_eq_false_iff_eq, Classical.not_not] at g62
            refine Cd.seq fun K24 hK24 => ?_
            refine Cd.plain [(0, false)] rfl rfl ?_
            refine Jp.y 2 rfl (want_all rfl) rfl rfl Kp.true (Y.assign rfl rfl) ?_
            refine Jp.done hK24 ?_
            refine Cd.ret [] rfl (res1 rfl rfl) trivial ⟨rfl, rfl⟩
          try simp only [decide_eq_false_iff_not, decide_eq_true_eq, Int.not_lt, Int.not_le, Bool.not_eq_false, Bool.not_eq_true, Bool.not_true, Bool.not_false, Bool.not_eq_true', Bool.not_eq_false', beq_eq_false_iff_ne, ne_eq, beq_iff_eq, bne_iff_ne, bne_eq_false_iff_eq, Classical.not_not] at g62
          refine Cd.skip hK22 ?_
          refine Cd.seq fun K25 hK25 => ?_
          refine Cd.drawn [] trivial [(0, true), (1, true), (2, true), (3, true), (4, true), (5, true), (6, true), (7, true), (8, true), (9, true), (10, true), (11, true), (12, false), (13, true), (14, true), (15, true), (16, true), (17, true), (18, true), (19, true), (20, true), (21, true), (22, true)] follows (by kernel_rfl) (fun hrl => ?_)
          have h5 : x.a &&& 31 ≤ 31 := Nat.and_le_right
          have hS := inv_write (l := x.b.xs) ok2 h5 (by omega)
          refine Jp.q 63 rfl (want_all rfl) rfl rfl (Y.move rfl rfl) ?_
          refine Jp.q 64 rfl (want_all rfl) rfl rfl (Y.move rfl rfl) ?_
          refine Jp.q 65 rfl (want_all rfl) rfl rfl (Y.move rfl rfl) ?_
          refine Jp.q 66 rfl (want_all rfl) rfl rfl (Y.indexAddr rfl rfl rfl Try.underlying47 Try.sizeOf50 (by omega) (by omega) rfl) ?_
          refine Jp.q 67 rfl (want_all rfl) rfl rfl (by first | exact Y.fieldAddrP rfl rfl Try.underlying50 rfl Try.sizeOf26 (by decide) (show _ + 1 = _ from rfl) | exact Y.fieldAddr rfl rfl Try.underlying50 rfl Try.sizeOf26 (by decide)) ?_
          refine Jp.q 68 rfl (want_all rfl) rfl rfl (by first | exact Y.loadR rfl Try.isAgg26 rfl c0 | exact Y.loadR rfl Try.isAgg26 rfl c1 | exact Y.loadR rfl Try.isAgg26 rfl c2 | exact Y.loadR rfl Try.isAgg26 rfl c4 | exact Y.loadR rfl Try.isAgg26 rfl c5) ?_
          refine Jp.q 69 rfl (want_all rfl) rfl rfl (Y.bits rfl rfl rfl rfl) ?_
          refine Jp.q 70 rfl (want_all rfl) rfl rfl (Y.move rfl rfl) ?_
          refine Jp.q 71 rfl (want_all rfl) rfl rfl (Y.move rfl rfl) ?_
          refine Jp.q 72 rfl (want_all rfl) rfl rfl (Y.indexAddr rfl rfl rfl Try.underlying47 Try.sizeOf50 (by omega) (by omega) rfl) ?_
          refine Jp.q 73 rfl (want_all rfl) rfl rfl (by first | exact Y.fieldAddrP rfl rfl Try.underlying50 rfl Try.sizeOf25 (by decide) (show _ + 5 = _ from rfl) | exact Y.fieldAddr rfl rfl Try.underlying50 rfl Try.sizeOf25 (by decide)) ?_
          refine Jp.q 74 rfl (want_all rfl) rfl rfl (by first | exact Y.loadR rfl Try.isAgg25 rfl c0 | exact Y.loadR rfl Try.isAgg25 rfl c1 | exact Y.loadR rfl Try.isAgg25 rfl c2 | exact Y.loadR rfl Try.isAgg25 rfl c4 | exact Y.loadR rfl Try.isAgg25 rfl c5) ?_
          refine Jp.slot 69 rfl (congrArg (Value.int .u32) (bits_and32 (b := 31) hxa (by omega))) ?_
          refine Jp.call [0] [0] (write_eq (a := x.a &&& 31) (s := x.b) (by omega) (Prod.ext hS.1 rfl)) 75 rfl (want_all rfl) rfl rfl (Runs.fn rfl Try.call24 rfl) (by decide) (by decide) rfl hxr.b ?_
          rintro v5 ρ5 L5 ⟨rfl, rfl, rfl⟩
          refine ⟨rfl, fun hle5 => ⟨(Kp.st trivial), ?_⟩⟩
          refine Jp.q 76 rfl (want_all rfl) rfl rfl (Y.eql rfl rfl rfl) ?_
          refine Jp.q 77 rfl (want_all rfl) rfl rfl (Y.move rfl rfl) ?_
          refine Jp.splitF 77 rfl (fun g77 => ?_) (fun g77 => ?_)
          · skip
            exact absurd g77 (by simp)
          try simp only [decide_eq_false_iff_not, decide_eq_true_eq, Int.not_lt, Int.not_le, Bool.not_eq_false, Bool.not_eq_true, Bool.not_true, Bool.not_false, Bool.not_eq_true', Bool.not_eq_false', beq_eq_false_iff_ne, ne_eq, beq_iff_eq, bne_iff_ne, bne_eq_false_iff_eq, Classical.not_not] at g77
          refine Jp.q 78 rfl (want_as rfl rfl rfl rfl) rfl rfl (Y.move rfl rfl) ?_
          refine Jp.q 79 rfl (want_as rfl rfl rfl rfl) rfl rfl (Y.move rfl rfl) ?_
          refine Jp.q 80 rfl (want_as rfl rfl rfl rfl) rfl rfl (Y.indexAddr rfl rfl rfl Try.underlying47 Try.sizeOf50 (by omega) (by omega) rfl) ?_
          refine Jp.q 81 rfl (want_as rfl rfl rfl rfl) rfl rfl (by first | exact Y.fieldAddrP rfl rfl Try.underlying50 rfl Try.sizeOf25 (by decide) (show _ + 5 = _ from rfl) | exact Y.fieldAddr rfl rfl Try.underlying50 rfl Try.sizeOf25 (by decide)) ?_
          refine Jp.q 82 rfl (want_as rfl rfl rfl rfl) rfl rfl (by first | exact Y.loadR rfl Try.isAgg25 rfl c0 | exact Y.loadR rfl Try.isAgg25 rfl c1 | exact Y.loadR rfl Try.isAgg25 rfl c2 | exact Y.loadR rfl Try.isAgg25 rfl c4 | exact Y.loadR rfl Try.isAgg25 rfl c5) ?_
          refine Jp.q 83 rfl (want_as rfl rfl rfl rfl) rfl rfl (Y.lenslice rfl Try.underlying25 rfl) ?_
          refine Jp.q 84 rfl (want_as rfl rfl rfl rfl) rfl rfl (Y.gtr rfl rfl rfl) ?_
          refine Jp.q 85 rfl (want_all rfl) rfl rfl (Y.pickT rfl rfl rfl) ?_
          refine Jp.done hK25 ?_
          refine Cd.cond rfl (fun g5 => ?_) (fun g5 => ?_)
          · simp only [decide_eq_true_eq] at g5
            have hT := hS.2
            rw [if_pos (by omega)] at hT
            refine Cd.plain [(0, false), (1, false), (2, false)] rfl rfl ?_
            refine Jp.y 86 rfl (want_all rfl) rfl rfl Kp.true (Y.move rfl rfl) ?_
            refine Jp.y 87 rfl (want_all rfl) rfl rfl Kp.true (Y.add_ rfl rfl rfl (wrap_u32m (n + 1))) ?_
            refine Jp.y 5 rfl (want_all rfl) rfl rfl Kp.true (Y.assign rfl rfl) ?_
            refine Jp.over rfl hK15 ?_
            exact Cd.meet (hj1 ⟨_, (n + 1) % 4294967296⟩ ⟨hT, Nat.mod_lt _ (by omega)⟩) ⟨rfl, rfl, rfl, rfl, trivial⟩ ⟨rfl, trivial⟩
          · simp only [decide_eq_false_iff_not] at g5
            have hT := hS.2
            rw [if_neg (by omega)] at hT
            refine Cd.over rfl hK15 ?_
            exact Cd.meet (hj1 ⟨_, n⟩ ⟨hT, ok3⟩) ⟨rfl, rfl, rfl, rfl, trivial⟩ ⟨rfl, trivial⟩
        · skip
          refine Cd.seq fun K27 hK27 => ?_
          refine Cd.plain [(0, false), (1, false)] rfl rfl ?_
          refine Jp.y 89 rfl (want_all rfl) rfl rfl Kp.true (Y.eql rfl rfl rfl) ?_
          refine Jp.y 88 rfl (want_all rfl) rfl rfl Kp.true (Y.assign rfl rfl) ?_
          refine Jp.done hK27 ?_
          refine Cd.cond rfl (fun g6 => ?_) (fun g6 => ?_)
          · have h5 : x.a &&& 255 ≤ 255 := Nat.and_le_right
            refine Cd.plain [(0, false), (1, false), (2, false), (3, false), (4, false), (5, false), (6, false), (7, false)] rfl rfl ?_
            refine Jp.y 90 rfl (want_all rfl) rfl rfl Kp.true (Y.move rfl rfl) ?_
            refine Jp.y 91 rfl (want_all rfl) rfl rfl Kp.true (Y.move rfl rfl) ?_
            refine Jp.y 92 rfl (want_all rfl) rfl rfl Kp.true (Y.move rfl rfl) ?_
            refine Jp.y 93 rfl (want_all rfl) rfl rfl Kp.true (Y.indexAddr rfl rfl rfl Try.underlying47 Try.sizeOf50 (by omega) (by omega) rfl) ?_
            refine Jp.y 94 rfl (want_all rfl) rfl rfl Kp.true (by first | exact Y.fieldAddrP rfl rfl Try.underlying50 rfl Try.sizeOf26 (by decide) (show _ + 1 = _ from rfl) | exact Y.fieldAddr rfl rfl Try.underlying50 rfl Try.sizeOf26 (by decide)) ?_
            refine Jp.y 95 rfl (want_all rfl) rfl rfl Kp.true (by first | exact Y.loadR rfl Try.isAgg26 rfl c0 | exact Y.loadR rfl Try.isAgg26 rfl c1 | exact Y.loadR rfl Try.isAgg26 rfl c2 | exact Y.loadR rfl Try.isAgg26 rfl c4 | exact Y.loadR rfl Try.isAgg26 rfl c5) ?_
            refine Jp.y 96 rfl (want_all rfl) rfl rfl Kp.true (Y.bits rfl rfl rfl rfl) ?_
            refine Jp.slot 96 rfl (congrArg (Value.int .u32) (bits_and32 (b := 255) hxa (by omega))) ?_
            refine Jp.call [0] [0] (load_spec b M (x.a &&& 255) 1 1 (by omega)) 97 rfl (want_all rfl) rfl rfl (Runs.fn rfl Try.call22 rfl) (by decide) (by decide) rfl trivial ?_
            rintro v5 ρ5 L5 ⟨rfl, rfl, rfl⟩
            refine ⟨rfl, fun hle5 => ⟨Kp.true, ?_⟩⟩
            refine Jp.over rfl hK15 ?_
            exact Cd.meet (hj1 ⟨M, n⟩ ⟨ok2, ok3⟩) ⟨rfl, rfl, rfl, rfl, trivial⟩ ⟨rfl, trivial⟩
          · skip
            refine Cd.seq fun K28 hK28 => ?_
            refine Cd.plain [(0, false), (1, false)] rfl rfl ?_
            refine Jp.y 99 rfl (want_all rfl) rfl rfl Kp.true (Y.eql rfl rfl rfl) ?_
            refine Jp.y 98 rfl (want_all rfl) rfl rfl Kp.true (Y.assign rfl rfl) ?_
            refine Jp.done hK28 ?_
            refine Cd.cond rfl (fun g7 => ?_) (fun g7 => ?_)
            · have h5 : x.a &&& 255 ≤ 255 := Nat.and_le_right
              refine Cd.drawn [] trivial [(0, true), (1, true), (2, true), (3, true), (4, true), (5, true), (6, true), (7, true), (8, true), (9, true), (10, true), (11, true), (12, true), (13, false)] follows (by kernel_rfl) (fun hrl => ?_)
              refine Jp.q 100 rfl (want_all rfl) rfl rfl (Y.move rfl rfl) ?_
              refine Jp.q 101 rfl (want_all rfl) rfl rfl (Y.move rfl rfl) ?_
              refine Jp.q 102 rfl (want_all rfl) rfl rfl (Y.move rfl rfl) ?_
              refine Jp.q 103 rfl (want_all rfl) rfl rfl (Y.indexAddr rfl rfl rfl Try.underlying47 Try.sizeOf50 (by omega) (by omega) rfl) ?_
              refine Jp.q 104 rfl (want_all rfl) rfl rfl (by first | exact Y.fieldAddrP rfl rfl Try.underlying50 rfl Try.sizeOf26 (by decide) (show _ + 1 = _ from rfl) | exact Y.fieldAddr rfl rfl Try.underlying50 rfl Try.sizeOf26 (by decide)) ?_
              refine Jp.q 105 rfl (want_all rfl) rfl rfl (by first | exact Y.loadR rfl Try.isAgg26 rfl c0 | exact Y.loadR rfl Try.isAgg26 rfl c1 | exact Y.loadR rfl Try.isAgg26 rfl c2 | exact Y.loadR rfl Try.isAgg26 rfl c4 | exact Y.loadR rfl Try.isAgg26 rfl c5) ?_
              refine Jp.q 106 rfl (want_all rfl) rfl rfl (Y.bits rfl rfl rfl rfl) ?_
              refine Jp.q 107 rfl (want_all rfl) rfl rfl (Y.move rfl rfl) ?_
              refine Jp.q 108 rfl (want_all rfl) rfl rfl (Y.move rfl rfl) ?_
              refine Jp.q 109 rfl (want_all rfl) rfl rfl (Y.indexAddr rfl rfl rfl Try.underlying47 Try.sizeOf50 (by omega) (by omega) rfl) ?_
              refine Jp.q 110 rfl (want_all rfl) rfl rfl (by first | exact Y.fieldAddrP rfl rfl Try.underlying50 rfl Try.sizeOf3 (by decide) (show _ + 4 = _ from rfl) | exact Y.fieldAddr rfl rfl Try.underlying50 rfl Try.sizeOf3 (by decide)) ?_
              refine Jp.q 111 rfl (want_all rfl) rfl rfl (by first | exact Y.loadR rfl Try.isAgg3 rfl c0 | exact Y.loadR rfl Try.isAgg3 rfl c1 | exact Y.loadR rfl Try.isAgg3 rfl c2 | exact Y.loadR rfl Try.isAgg3 rfl c4 | exact Y.loadR rfl Try.isAgg3 rfl c5) ?_
              refine Jp.q 112 rfl (want_all rfl) rfl rfl (Y.bits rfl rfl rfl rfl) ?_
              refine Jp.slot 106 rfl (congrArg (Value.int .u32) (bits_and32 (b := 255) hxa (by omega))) ?_
              refine Jp.call [0] [0, 9] (read_spec b M (x.a &&& 255) (bitsB .and .i64 x.size 63) (by omega)) 113 rfl (want_all rfl) rfl rfl (Runs.fn rfl Try.call23 rfl) (by decide) (by decide) rfl trivial ?_
              rintro v5 ρ5 L5 ⟨rfl, A5, c5, rfl, rfl⟩
              refine ⟨rfl, fun hle5 => ⟨Kp.last, ?_⟩⟩
              refine Jp.over rfl hK15 ?_
              exact Cd.meet (hj1 ⟨M, n⟩ ⟨ok2, ok3⟩) ⟨rfl, rfl, rfl, rfl, trivial⟩ ⟨rfl, trivial⟩
            · have hS := inv_prot ok2
              refine Cd.seq fun K30 hK30 => ?_
              refine Cd.plain [(0, false), (1, false), (2, false)] rfl rfl ?_
              refine Jp.y 31 rfl (want_all rfl) rfl rfl Kp.true (Y.move rfl rfl) ?_
              refine Jp.call [0] [0] (protect_eq (a := 0) (n := 256) (perm := 3) (by omega) (by omega) (Prod.ext hS.1 rfl)) 32 rfl (want_all rfl) rfl rfl (Runs.fn rfl Try.call26 rfl) (by decide) (by decide) rfl trivial ?_
              rintro v5 ρ5 L5 ⟨rfl, rfl, rfl⟩
              refine ⟨rfl, fun hle5 => ⟨Kp.true, ?_⟩⟩
              refine Jp.y 33 rfl (want_all rfl) rfl rfl Kp.true (Y.eql rfl rfl rfl) ?_
              refine Jp.done hK30 ?_
              refine Cd.condF' rfl (fun g33 => ?_) (fun g33 => ?_)
              · skip
                exact absurd g33 (by simp)
              try simp only [decide_eq_false_iff_not, decide_eq_true_eq, Int.not_lt, Int.not_le, Bool.not_eq_false, Bool.not_eq_true, Bool.not_true, Bool.not_false, Bool.not_eq_true', Bool.not_eq_false', beq_eq_false_iff_ne, ne_eq, beq_iff_eq, bne_iff_ne, bne_eq_false_iff_eq, Classical.not_not] at g33
              refine Cd.plain [(0, false), (1, false), (2, false)] rfl rfl ?_
              refine Jp.y 34 rfl (want_all rfl) rfl rfl Kp.true (Y.move rfl rfl) ?_
              refine Jp.y 35 rfl (want_all rfl) rfl rfl Kp.true (Y.add_ rfl rfl rfl (wrap_u32m (n + 1))) ?_
              refine Jp.y 5 rfl (want_all rfl) rfl rfl Kp.true (Y.assign rfl rfl) ?_
              refine Jp.over rfl hK15 ?_
              exact Cd.meet (hj1 ⟨_, (n + 1) % 4294967296⟩ ⟨hS.2, Nat.mod_lt _ (by omega)⟩) ⟨rfl, rfl, rfl, rfl, trivial⟩ ⟨rfl, trivial⟩
  · skip
    refine Cd.exit rfl hK10 ?_
    refine Cd.seq fun K31 hK31 => ?_
    refine Cd.plain [(0, false)] rfl rfl ?_
    refine Jp.y 2 rfl (want_all rfl) rfl rfl Kp.true (Y.assign rfl rfl) ?_
    refine Jp.done hK31 ?_
    refine Cd.ret [] rfl (res1 rfl rfl) trivial ⟨rfl, rfl⟩
end Go.Proofs.Ytgfbdiibndbbjaa
