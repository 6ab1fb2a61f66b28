/- Law 18: BlockCuts. -/
import Derived.Test.YtgmhijlcdadaeaaRvK
set_option linter.unusedVariables false
set_option linter.unusedSimpArgs false
set_option maxRecDepth 100000
namespace Go.Proofs.Ytgmhijlcdadaeaa
open Go
theorem findL_take (M : MemG) (pc : Nat) : ∀ (n m k : Nat), n ≤ m → findL M pc n k = (findL M pc m k).take n
  | 0, m, k, _ => by simp [findL]
  | n + 1, 0, k, h => by omega
  | n + 1, m + 1, k, h => by
    rw [findL, findL]
    split
    · rw [List.take_succ_cons]
      congr 1
      split
      · simp
      · exact findL_take M pc n m (k + 1) (by omega)
    · simp
theorem findL_drop (M : MemG) (pc : Nat) : ∀ (n m k : Nat), n < (findL M pc m k).length → (findL M pc m k).drop n = findL M pc (m - n) (k + n)
  | 0, m, k, _ => by simp
  | n + 1, 0, k, h => by simp [findL] at h
  | n + 1, m + 1, k, h => by
    rw [findL] at h ⊢
    split at h
    · rename_i hc
      rw [if_pos hc]
      split at h
      · simp at h
      · rename_i he
        rw [if_neg he, List.drop_succ_cons, findL_drop M pc n m (k + 1) (by rw [List.length_cons] at h; omega)]
        congr 1 <;> omega
    · simp at h
theorem findL_at (M : MemG) {pc a : Nat} (hp : atP pc a / 256 = pc / 256) : ∀ (n k : Nat), findL M (atP pc a) n k = findL M pc n (a + k)
  | 0, k => rfl
  | n + 1, k => by
    rw [findL, findL, show atP (atP pc a) k = atP pc (a + k) by unfold atP; omega, hp, show a + k + 1 = a + (k + 1) by omega, findL_at M hp n (k + 1)]
theorem findL_none {M : MemG} {pc : Nat} {n m : Nat} (hn : 1 ≤ n) (hm : 1 ≤ m) (h : findL M pc n 0 = []) : findL M pc m 0 = [] := by
  obtain ⟨n, rfl⟩ : ∃ k, n = k + 1 := ⟨n - 1, by omega⟩
  obtain ⟨m, rfl⟩ : ∃ k, m = k + 1 := ⟨m - 1, by omega⟩
  rw [findL] at h ⊢
  split at h
  · cases h
  · rename_i hc; rw [if_neg hc]
theorem blockCuts_spec (s : Sl Int) (pc : Nat) (a b : Int) (hs : ∀ x ∈ s.xs, ∃ m : Nat, x = m ∧ m < 4294967296) (hpc : pc < 4294967296) : Spec Try.prog 5 #[s.v, .int .u32 pc, .int .i64 a, .int .i64 b] (RdI .u32 s) [] (fun ρ ρ' v L => v = .bool true ∧ L = []) := by
  obtain ⟨A, c, xs⟩ := s
  dsimp only [Sl.v]
  refine Spec.of 148 Try.func5 rfl Try.ntmps5 [(0, _), (1, _), (2, _), (3, _)] rfl rfl ?_
  intro cx ρ hr h0
  have hrs := hr
  have lx : xs.length ≤ 281474976710656 := hrs.2.1.2
  refine Cd.seq fun K1 hK1 => ?_
  refine Cd.plain [(0, false)] rfl rfl ?_
  refine Jp.y 8 rfl (want_all rfl) rfl rfl Kp.true (Y.assign rfl rfl) ?_
  refine Jp.done hK1 ?_
  refine Cd.seq fun K2 hK2 => ?_
  refine Cd.seq fun K3 hK3 => ?_
  refine Cd.plain [(0, false), (1, false)] rfl rfl ?_
  refine Jp.call [] [] awake18_spec 17 rfl (want_all rfl) rfl rfl (Runs.fn rfl Try.call15 rfl) (by decide) (by decide) rfl trivial ?_
  rintro v1 ρ1 L1 ⟨rfl, rfl⟩
  refine ⟨rfl, fun hle1 => ⟨Kp.true, ?_⟩⟩
  have hrs := RdI.up _ _ _ _ hle1 hrs
  refine Jp.y 18 rfl (want_all rfl) rfl rfl Kp.true (Y.not rfl rfl) ?_
  refine Jp.done hK3 ?_
  refine Cd.cond rfl (fun g18 => ?_) (fun g18 => ?_)
  · skip
    exact absurd g18 (by simp)
  try simp only [decide_eq_false_iff_not, decide_eq_true_eq, Int.not_lt, Int.not_le, Bool.not_eq_false, Bool.not_eq_true, Bool.not_true, Bool.not_false, Bool.not_eq_true', Bool.not_eq_false', beq_eq_false_iff_ne, ne_eq, beq_iff_eq, bne_iff_ne, bne_eq_false_iff_eq, Classical.not_not] at g18
  refine Cd.skip hK2 ?_
  refine Cd.seq fun K4 hK4 => ?_
  refine Cd.seq fun K5 hK5 => ?_
  refine Cd.plain [(0, false), (1, false), (2, false), (3, false), (4, false), (5, false), (6, false), (7, false), (8, false), (9, false), (10, false), (11, false), (12, false), (13, false), (14, false), (15, false)] rfl rfl ?_
  refine Jp.y 19 rfl (want_all rfl) rfl rfl Kp.true (Y.move rfl rfl) ?_
  refine Jp.y 20 rfl (want_all rfl) rfl rfl Kp.true (Y.lenslice rfl Try.underlying26 rfl) ?_
  refine Jp.y 21 rfl (want_all rfl) rfl rfl Kp.true (Y.gtr rfl rfl rfl) ?_
  refine Jp.y 22 rfl (want_all rfl) rfl rfl Kp.true (Y.move rfl rfl) ?_
  refine Jp.split 22 rfl (fun g22 => ?_) (fun g22 => ?_)
  · skip
    refine Jp.skip 23 rfl (want_as rfl rfl rfl rfl) rfl rfl Kp.true ?_
    refine Jp.skip 24 rfl (want_as rfl rfl rfl rfl) rfl rfl Kp.true ?_
    refine Jp.y 25 rfl (want_all rfl) rfl rfl Kp.true (Y.pickT rfl rfl rfl) ?_
    refine Jp.y 26 rfl (want_all rfl) rfl rfl Kp.true (Y.move rfl rfl) ?_
    refine Jp.skip 27 rfl (want_as rfl rfl rfl rfl) rfl rfl Kp.true ?_
    refine Jp.skip 28 rfl (want_as rfl rfl rfl rfl) rfl rfl Kp.true ?_
    refine Jp.skip 29 rfl (want_as rfl rfl rfl rfl) rfl rfl Kp.true ?_
    refine Jp.y 30 rfl (want_all rfl) rfl rfl Kp.true (Y.pickT rfl rfl rfl) ?_
    refine Jp.y 31 rfl (want_all rfl) rfl rfl Kp.true (Y.move rfl rfl) ?_
    refine Jp.skip 32 rfl (want_as rfl rfl rfl rfl) rfl rfl Kp.true ?_
    refine Jp.skip 33 rfl (want_as rfl rfl rfl rfl) rfl rfl Kp.true ?_
    refine Jp.y 34 rfl (want_all rfl) rfl rfl Kp.true (Y.pickT rfl rfl rfl) ?_
    refine Jp.done hK5 ?_
    refine Cd.condT rfl ?_
    refine Cd.seq fun K6 hK6 => ?_
    refine Cd.plain [(0, false)] rfl rfl ?_
    refine Jp.y 8 rfl (want_all rfl) rfl rfl Kp.true (Y.assign rfl rfl) ?_
    refine Jp.done hK6 ?_
    refine Cd.ret [] rfl (res1 rfl rfl) trivial ⟨rfl, rfl⟩
  try simp only [decide_eq_false_iff_not, decide_eq_true_eq, Int.not_lt, Int.not_le, Bool.not_eq_false, Bool.not_eq_true, Bool.not_true, Bool.not_false, Bool.not_eq_true', Bool.not_eq_false', beq_eq_false_iff_ne, ne_eq, beq_iff_eq, bne_iff_ne, bne_eq_false_iff_eq, Classical.not_not] at g22
  refine Jp.y 23 rfl (want_as rfl rfl rfl rfl) rfl rfl Kp.true (Y.move rfl rfl) ?_
  refine Jp.y 24 rfl (want_as rfl rfl rfl rfl) rfl rfl Kp.true (Y.lss rfl rfl rfl) ?_
  refine Jp.y 25 rfl (want_all rfl) rfl rfl Kp.true (Y.pickF rfl rfl rfl) ?_
  refine Jp.y 26 rfl (want_all rfl) rfl rfl Kp.true (Y.move rfl rfl) ?_
  refine Jp.split 26 rfl (fun g26 => ?_) (fun g26 => ?_)
  · skip
    refine Jp.skip 27 rfl (want_as rfl rfl rfl rfl) rfl rfl Kp.true ?_
    refine Jp.skip 28 rfl (want_as rfl rfl rfl rfl) rfl rfl Kp.true ?_
    refine Jp.skip 29 rfl (want_as rfl rfl rfl rfl) rfl rfl Kp.true ?_
    refine Jp.y 30 rfl (want_all rfl) rfl rfl Kp.true (Y.pickT rfl rfl rfl) ?_
    refine Jp.y 31 rfl (want_all rfl) rfl rfl Kp.true (Y.move rfl rfl) ?_
    refine Jp.skip 32 rfl (want_as rfl rfl rfl rfl) rfl rfl Kp.true ?_
    refine Jp.skip 33 rfl (want_as rfl rfl rfl rfl) rfl rfl Kp.true ?_
    refine Jp.y 34 rfl (want_all rfl) rfl rfl Kp.true (Y.pickT rfl rfl rfl) ?_
    refine Jp.done hK5 ?_
    refine Cd.condT rfl ?_
    refine Cd.seq fun K7 hK7 => ?_
    refine Cd.plain [(0, false)] rfl rfl ?_
    refine Jp.y 8 rfl (want_all rfl) rfl rfl Kp.true (Y.assign rfl rfl) ?_
    refine Jp.done hK7 ?_
    refine Cd.ret [] rfl (res1 rfl rfl) trivial ⟨rfl, rfl⟩
  try simp only [decide_eq_false_iff_not, decide_eq_true_eq, Int.not_lt, Int.not_le, Bool.not_eq_false, Bool.not_eq_true, Bool.not_true, Bool.not_false, Bool.not_eq_true', Bool.not_eq_false', beq_eq_false_iff_ne, ne_eq, beq_iff_eq, bne_iff_ne, bne_eq_false_iff_eq, Classical.not_not] at g26
  refine Jp.y 27 rfl (want_as rfl rfl rfl rfl) rfl rfl Kp.true (Y.move rfl rfl) ?_
  refine Jp.y 28 rfl (want_as rfl rfl rfl rfl) rfl rfl Kp.true (Y.move rfl rfl) ?_
  refine Jp.y 29 rfl (want_as rfl rfl rfl rfl) rfl rfl Kp.true (Y.lss rfl rfl rfl) ?_
  refine Jp.y 30 rfl (want_all rfl) rfl rfl Kp.true (Y.pickF rfl rfl rfl) ?_
  refine Jp.y 31 rfl (want_all rfl) rfl rfl Kp.true (Y.move rfl rfl) ?_
  refine Jp.split 31 rfl (fun g31 => ?_) (fun g31 => ?_)
  · skip
    refine Jp.skip 32 rfl (want_as rfl rfl rfl rfl) rfl rfl Kp.true ?_
    refine Jp.skip 33 rfl (want_as rfl rfl rfl rfl) rfl rfl Kp.true ?_
    refine Jp.y 34 rfl (want_all rfl) rfl rfl Kp.true (Y.pickT rfl rfl rfl) ?_
    refine Jp.done hK5 ?_
    refine Cd.condT rfl ?_
    refine Cd.seq fun K8 hK8 => ?_
    refine Cd.plain [(0, false)] rfl rfl ?_
    refine Jp.y 8 rfl (want_all rfl) rfl rfl Kp.true (Y.assign rfl rfl) ?_
    refine Jp.done hK8 ?_
    refine Cd.ret [] rfl (res1 rfl rfl) trivial ⟨rfl, rfl⟩
  try simp only [decide_eq_false_iff_not, decide_eq_true_eq, Int.not_lt, Int.not_le, Bool.not_eq_false, Bool.not_eq_true, Bool.not_true, Bool.not_false, Bool.not_eq_true', Bool.not_eq_false', beq_eq_false_iff_ne, ne_eq, beq_iff_eq, bne_iff_ne, bne_eq_false_iff_eq, Classical.not_not] at g31
  refine Jp.y 32 rfl (want_as rfl rfl rfl rfl) rfl rfl Kp.true (Y.move rfl rfl) ?_
  refine Jp.y 33 rfl (want_as rfl rfl rfl rfl) rfl rfl Kp.true (Y.gtr rfl rfl rfl) ?_
  refine Jp.y 34 rfl (want_all rfl) rfl rfl Kp.true (Y.pickF rfl rfl rfl) ?_
  refine Jp.done hK5 ?_
  refine Cd.cond rfl (fun g34 => ?_) (fun g34 => ?_)
  · skip
    refine Cd.seq fun K9 hK9 => ?_
    refine Cd.plain [(0, false)] rfl rfl ?_
    refine Jp.y 8 rfl (want_all rfl) rfl rfl Kp.true (Y.assign rfl rfl) ?_
    refine Jp.done hK9 ?_
    refine Cd.ret [] rfl (res1 rfl rfl) trivial ⟨rfl, rfl⟩
  try simp only [decide_eq_false_iff_not, decide_eq_true_eq, Int.not_lt, Int.not_le, Bool.not_eq_false, Bool.not_eq_true, Bool.not_true, Bool.not_false, Bool.not_eq_true', Bool.not_eq_false', beq_eq_false_iff_ne, ne_eq, beq_iff_eq, bne_iff_ne, bne_eq_false_iff_eq, Classical.not_not] at g34
  refine Cd.skip hK4 ?_
  refine Cd.seq fun K10 hK10 => ?_
  refine Cd.plain [(0, false), (1, false), (2, false)] rfl rfl ?_
  obtain ⟨ha, hb1, hb2⟩ : 1 ≤ a ∧ a ≤ b ∧ b ≤ 64 := by omega
  obtain ⟨a, rfl⟩ := Int.eq_ofNat_of_zero_le (show 0 ≤ a by omega)
  obtain ⟨b, rfl⟩ := Int.eq_ofNat_of_zero_le (show 0 ≤ b by omega)
  have hma : mostP (a : Int) = a := by unfold mostP; omega
  have hmb : mostP (b : Int) = b := by unfold mostP; omega
  refine Jp.y 35 rfl (want_all rfl) rfl rfl Kp.true (Y.move rfl rfl) ?_
  refine Jp.call [] [0] (made_spec A c xs hs) 36 rfl (want_all rfl) rfl rfl (Runs.fn rfl Try.call16 rfl) (by decide) (by decide) rfl hrs ?_
  rintro v2 ρ2 L2 ⟨mb, rfl, rfl⟩
  refine ⟨rfl, fun hle2 => ⟨Kp.true, ?_⟩⟩
  obtain ⟨M, hM⟩ : ∃ M, madeM xs = M := ⟨_, rfl⟩
  rw [hM]
  by_cases hT : findL M pc a 0 = []
  · have hT2 : findL M pc b 0 = [] := findL_none (by omega) (by omega) hT
    have hTa : findL M pc (mostP (a : Int)) 0 = [] := by rw [hma]; exact hT
    have hTb : findL M pc (mostP (b : Int)) 0 = [] := by rw [hmb]; exact hT2
    have hk := find_nil hpc hTa
    obtain ⟨e, he⟩ : ∃ e, (fetchP M pc).2 = e := ⟨_, rfl⟩
    rw [he] at hk
    obtain ⟨kd, ad, wy⟩ := e
    dsimp only at hk
    refine Jp.y 9 rfl (want_all rfl) rfl rfl Kp.true (Y.assign rfl rfl) ?_
    refine Jp.done hK10 ?_
    refine Cd.seq fun K11 hK11 => ?_
    refine Cd.plain [(0, false), (1, false), (2, false), (3, false), (4, false), (5, false), (6, false), (7, false), (8, false), (9, false), (10, false)] rfl rfl ?_
    refine Jp.y 38 rfl (want_all rfl) rfl rfl Kp.true (Y.move rfl rfl) ?_
    refine Jp.y 39 rfl (want_all rfl) rfl rfl Kp.true (Y.move rfl rfl) ?_
    refine Jp.y 40 rfl (want_all rfl) rfl rfl Kp.true (Y.move rfl rfl) ?_
    refine Jp.call [0] [0] (find_no (e := ⟨kd, ad, wy⟩) hpc hTa he) 41 rfl (want_all rfl) rfl rfl (Runs.fn rfl Try.call17 rfl) (by decide) (by decide) rfl trivial ?_
    rintro v3 ρ3 L3 ⟨rfl, rfl, rfl⟩
    refine ⟨rfl, fun hle3 => ⟨Kp.true, ?_⟩⟩
    refine Jp.y 37 rfl (want_all rfl) rfl rfl Kp.true (Y.move rfl rfl) ?_
    refine Jp.y 42 rfl (want_all rfl) rfl rfl Kp.true (Y.extract rfl rfl rfl) ?_
    refine Jp.y 43 rfl (want_all rfl) rfl rfl Kp.true (Y.extract rfl rfl rfl) ?_
    refine Jp.alloc 6 10 rfl (want_all rfl) rfl rfl rfl Try.zeroValue29 fun b6 => ⟨Kp.true, ?_⟩
    refine Jp.alloc 7 11 rfl (want_all rfl) rfl rfl rfl Try.zeroValue32 fun b7 => ⟨Kp.true, ?_⟩
    first | refine Jp.storeAgg 6 rfl (want_all rfl) rfl rfl Try.sizeOf29 rfl rfl rfl rfl rfl rfl (fun k _ _ => noFr0 k) Kp.true ?_ | refine Jp.storeAgg 7 rfl (want_all rfl) rfl rfl Try.sizeOf29 rfl rfl rfl rfl rfl rfl (fun k _ _ => noFr0 k) Kp.true ?_ | refine Jp.storeAgg 6 rfl (want_all rfl) rfl rfl Try.sizeOf29 rfl rfl rfl rfl rfl rfl (fun k _ _ => noFr0 k) Kp.true ?_ | refine Jp.storeAgg 7 rfl (want_all rfl) rfl rfl Try.sizeOf29 rfl rfl rfl rfl rfl rfl (fun k _ _ => noFr0 k) Kp.true ?_
    first | refine Jp.storeAgg 6 rfl (want_all rfl) rfl rfl Try.sizeOf32 rfl rfl rfl rfl rfl rfl (fun k _ _ => noFr0 k) Kp.true ?_ | refine Jp.storeAgg 7 rfl (want_all rfl) rfl rfl Try.sizeOf32 rfl rfl rfl rfl rfl rfl (fun k _ _ => noFr0 k) Kp.true ?_ | refine Jp.storeAgg 6 rfl (want_all rfl) rfl rfl Try.sizeOf32 rfl rfl rfl rfl rfl rfl (fun k _ _ => noFr0 k) Kp.true ?_ | refine Jp.storeAgg 7 rfl (want_all rfl) rfl rfl Try.sizeOf32 rfl rfl rfl rfl rfl rfl (fun k _ _ => noFr0 k) Kp.true ?_
    refine Jp.done hK11 ?_
    refine Cd.seq fun K12 hK12 => ?_
    refine Cd.plain [(0, false), (1, false), (2, false), (3, false), (4, false), (5, false), (6, false), (7, false), (8, false), (9, false), (10, false)] rfl rfl ?_
    refine Jp.y 45 rfl (want_all rfl) rfl rfl Kp.true (Y.move rfl rfl) ?_
    refine Jp.y 46 rfl (want_all rfl) rfl rfl Kp.true (Y.move rfl rfl) ?_
    refine Jp.y 47 rfl (want_all rfl) rfl rfl Kp.true (Y.move rfl rfl) ?_
    refine Jp.call [0] [0] (find_no (e := ⟨kd, ad, wy⟩) hpc hTb he) 48 rfl (want_all rfl) rfl rfl (Runs.fn rfl Try.call17 rfl) (by decide) (by decide) rfl trivial ?_
    rintro v4 ρ4 L4 ⟨rfl, rfl, rfl⟩
    refine ⟨rfl, fun hle4 => ⟨Kp.true, ?_⟩⟩
    refine Jp.y 44 rfl (want_all rfl) rfl rfl Kp.true (Y.move rfl rfl) ?_
    refine Jp.y 49 rfl (want_all rfl) rfl rfl Kp.true (Y.extract rfl rfl rfl) ?_
    refine Jp.y 50 rfl (want_all rfl) rfl rfl Kp.true (Y.extract rfl rfl rfl) ?_
    refine Jp.alloc 8 12 rfl (want_all rfl) rfl rfl rfl Try.zeroValue29 fun b8 => ⟨Kp.true, ?_⟩
    refine Jp.alloc 9 13 rfl (want_all rfl) rfl rfl rfl Try.zeroValue32 fun b9 => ⟨Kp.true, ?_⟩
    first | refine Jp.storeAgg 6 rfl (want_all rfl) rfl rfl Try.sizeOf29 rfl rfl rfl rfl rfl rfl (fun k _ _ => noFr0 k) Kp.true ?_ | refine Jp.storeAgg 7 rfl (want_all rfl) rfl rfl Try.sizeOf29 rfl rfl rfl rfl rfl rfl (fun k _ _ => noFr0 k) Kp.true ?_ | refine Jp.storeAgg 8 rfl (want_all rfl) rfl rfl Try.sizeOf29 rfl rfl rfl rfl rfl rfl (fun k _ _ => noFr0 k) Kp.true ?_ | refine Jp.storeAgg 9 rfl (want_all rfl) rfl rfl Try.sizeOf29 rfl rfl rfl rfl rfl rfl (fun k _ _ => noFr0 k) Kp.true ?_ | refine Jp.storeAgg 8 rfl (want_all rfl) rfl rfl Try.sizeOf29 rfl rfl rfl rfl rfl rfl (fun k _ _ => noFr0 k) Kp.true ?_ | refine Jp.storeAgg 9 rfl (want_all rfl) rfl rfl Try.sizeOf29 rfl rfl rfl rfl rfl rfl (fun k _ _ => noFr0 k) Kp.true ?_
    first | refine Jp.storeAgg 6 rfl (want_all rfl) rfl rfl Try.sizeOf32 rfl rfl rfl rfl rfl rfl (fun k _ _ => noFr0 k) Kp.true ?_ | refine Jp.storeAgg 7 rfl (want_all rfl) rfl rfl Try.sizeOf32 rfl rfl rfl rfl rfl rfl (fun k _ _ => noFr0 k) Kp.true ?_ | refine Jp.storeAgg 8 rfl (want_all rfl) rfl rfl Try.sizeOf32 rfl rfl rfl rfl rfl rfl (fun k _ _ => noFr0 k) Kp.true ?_ | refine Jp.storeAgg 9 rfl (want_all rfl) rfl rfl Try.sizeOf32 rfl rfl rfl rfl rfl rfl (fun k _ _ => noFr0 k) Kp.true ?_ | refine Jp.storeAgg 8 rfl (want_all rfl) rfl rfl Try.sizeOf32 rfl rfl rfl rfl rfl rfl (fun k _ _ => noFr0 k) Kp.true ?_ | refine Jp.storeAgg 9 rfl (want_all rfl) rfl rfl Try.sizeOf32 rfl rfl rfl rfl rfl rfl (fun k _ _ => noFr0 k) Kp.true ?_
    refine Jp.done hK12 ?_
    refine Cd.seq fun K13 hK13 => ?_
    refine Cd.seq fun K14 hK14 => ?_
    refine Cd.plain [(0, false), (1, false), (2, false), (3, false), (4, false), (5, false), (6, false), (7, false)] rfl rfl ?_
    refine Jp.imp (j := 7) rfl (fun h hh => (show Pt b7 (.cells (EvP.mk kd ad wy).cells.toArray 32) h from hh)) ?_
    refine Jp.imp (j := 9) rfl (fun h hh => (show Pt b9 (.cells (EvP.mk kd ad wy).cells.toArray 32) h from hh)) ?_
    refine Jp.y 51 rfl (want_all rfl) rfl rfl Kp.true (by first | exact Y.loadAggO 6 rfl Try.isAgg32 Try.sizeOf32 rfl rfl rfl | exact Y.loadAggO 7 rfl Try.isAgg32 Try.sizeOf32 rfl rfl rfl | exact Y.loadAggO 8 rfl Try.isAgg32 Try.sizeOf32 rfl rfl rfl | exact Y.loadAggO 9 rfl Try.isAgg32 Try.sizeOf32 rfl rfl rfl | exact Y.loadAggO 8 rfl Try.isAgg32 Try.sizeOf32 rfl rfl rfl | exact Y.loadAggO 9 rfl Try.isAgg32 Try.sizeOf32 rfl rfl rfl) ?_
    refine Jp.y 52 rfl (want_all rfl) rfl rfl Kp.true (by first | exact Y.loadAggO 6 rfl Try.isAgg32 Try.sizeOf32 rfl rfl rfl | exact Y.loadAggO 7 rfl Try.isAgg32 Try.sizeOf32 rfl rfl rfl | exact Y.loadAggO 8 rfl Try.isAgg32 Try.sizeOf32 rfl rfl rfl | exact Y.loadAggO 9 rfl Try.isAgg32 Try.sizeOf32 rfl rfl rfl | exact Y.loadAggO 8 rfl Try.isAgg32 Try.sizeOf32 rfl rfl rfl | exact Y.loadAggO 9 rfl Try.isAgg32 Try.sizeOf32 rfl rfl rfl) ?_
    refine Jp.y 53 rfl (want_all rfl) rfl rfl Kp.true (Y.neqS (xs := (EvP.mk kd ad wy).cells.toArray) (ys := (EvP.mk kd ad wy).cells.toArray) (r := true) rfl rfl rfl ev_guard ev_fields ev_stood (fun w => by rw [ev_eq, (evEq_iff _ _).2 rfl])) ?_
    refine Jp.slot 53 rfl (show _ = Value.bool false from rfl) ?_
    refine Jp.y 54 rfl (want_all rfl) rfl rfl Kp.true (Y.move rfl rfl) ?_
    refine Jp.y 55 rfl (want_as rfl rfl rfl rfl) rfl rfl Kp.true (by first | exact Y.fieldAddrP rfl rfl Try.underlying32 rfl Try.sizeOf3 (by decide) (show _ + 0 = _ from rfl) | exact Y.fieldAddr rfl rfl Try.underlying32 rfl Try.sizeOf3 (by decide)) ?_
    refine Jp.y 56 rfl (want_as rfl rfl rfl rfl) rfl rfl Kp.true (by first | exact Y.loadO 6 rfl Try.isAgg3 rfl rfl rfl | exact Y.loadO 7 rfl Try.isAgg3 rfl rfl rfl | exact Y.loadO 8 rfl Try.isAgg3 rfl rfl rfl | exact Y.loadO 9 rfl Try.isAgg3 rfl rfl rfl | exact Y.loadO 8 rfl Try.isAgg3 rfl rfl rfl | exact Y.loadO 9 rfl Try.isAgg3 rfl rfl rfl) ?_
    refine Jp.y 57 rfl (want_as rfl rfl rfl rfl) rfl rfl Kp.true (Y.neq rfl rfl rfl) ?_
    refine Jp.y 58 rfl (want_all rfl) rfl rfl Kp.true (Y.pickF rfl rfl rfl) ?_
    refine Jp.done hK14 ?_
    refine Cd.cond rfl (fun ge => ?_) (fun ge => ?_)
    · skip
      refine Cd.seq fun K15 hK15 => ?_
      refine Cd.plain [(0, false), (1, false), (2, false), (3, false)] rfl rfl ?_
      refine Jp.y 59 rfl (want_all rfl) rfl rfl Kp.true (by first | exact Y.loadAggO 6 rfl Try.isAgg32 Try.sizeOf32 rfl rfl rfl | exact Y.loadAggO 7 rfl Try.isAgg32 Try.sizeOf32 rfl rfl rfl | exact Y.loadAggO 8 rfl Try.isAgg32 Try.sizeOf32 rfl rfl rfl | exact Y.loadAggO 9 rfl Try.isAgg32 Try.sizeOf32 rfl rfl rfl | exact Y.loadAggO 8 rfl Try.isAgg32 Try.sizeOf32 rfl rfl rfl | exact Y.loadAggO 9 rfl Try.isAgg32 Try.sizeOf32 rfl rfl rfl) ?_
      refine Jp.y 60 rfl (want_all rfl) rfl rfl Kp.true (by first | exact Y.loadAggO 6 rfl Try.isAgg32 Try.sizeOf32 rfl rfl rfl | exact Y.loadAggO 7 rfl Try.isAgg32 Try.sizeOf32 rfl rfl rfl | exact Y.loadAggO 8 rfl Try.isAgg32 Try.sizeOf32 rfl rfl rfl | exact Y.loadAggO 9 rfl Try.isAgg32 Try.sizeOf32 rfl rfl rfl | exact Y.loadAggO 8 rfl Try.isAgg32 Try.sizeOf32 rfl rfl rfl | exact Y.loadAggO 9 rfl Try.isAgg32 Try.sizeOf32 rfl rfl rfl) ?_
      refine Jp.y 61 rfl (want_all rfl) rfl rfl Kp.true (Y.eqlS (xs := (EvP.mk kd ad wy).cells.toArray) (ys := (EvP.mk kd ad wy).cells.toArray) (r := true) rfl rfl rfl ev_guard ev_fields ev_stood (fun w => by rw [ev_eq, (evEq_iff _ _).2 rfl])) ?_
      refine Jp.y 8 rfl (want_all rfl) rfl rfl Kp.true (Y.assign rfl rfl) ?_
      refine Jp.done hK15 ?_
      refine Cd.ret [] rfl (res1 rfl rfl) trivial ⟨rfl, rfl⟩
    · exact absurd (by simpa using ge) hk
  · have hT2 : findL M pc b 0 ≠ [] := fun h => hT (findL_none (by omega) (by omega) h)
    have hpre := findL_take M pc a b 0 (by omega)
    have hlenb := findL_len M pc b 0
    have hdrop := findL_drop M pc a b 0
    have hat := findL_get M pc b 0
    obtain ⟨T2, hY⟩ : ∃ T, findL M pc b 0 = T := ⟨_, rfl⟩
    obtain ⟨T1, hX⟩ : ∃ T, findL M pc a 0 = T := ⟨_, rfl⟩
    rw [hX, hY] at hpre
    rw [hY] at hT2 hlenb hdrop
    rw [hX] at hT
    have hXl : T1.length = min a T2.length := by rw [hpre, List.length_take]
    have hget : ∀ i, i < T1.length → T1[i]? = T2[i]? := fun i h => by rw [hpre, List.getElem?_take_of_lt (by omega)]
    refine Jp.y 9 rfl (want_all rfl) rfl rfl Kp.true (Y.assign rfl rfl) ?_
    refine Jp.done hK10 ?_
    refine Cd.seq fun K16 hK16 => ?_
    refine Cd.plain [(0, false), (1, false), (2, false), (3, false), (4, false), (5, false), (6, false), (7, false), (8, false), (9, false), (10, false)] rfl rfl ?_
    refine Jp.y 38 rfl (want_all rfl) rfl rfl Kp.true (Y.move rfl rfl) ?_
    refine Jp.y 39 rfl (want_all rfl) rfl rfl Kp.true (Y.move rfl rfl) ?_
    refine Jp.y 40 rfl (want_all rfl) rfl rfl Kp.true (Y.move rfl rfl) ?_
    refine Jp.call [0] [0, 1] (find_yes (T := T1) hpc (by rw [hma]; exact hX) hT) 41 rfl (want_all rfl) rfl rfl (Runs.fn rfl Try.call17 rfl) (by decide) (by decide) rfl trivial ?_
    rintro v3 ρ3 L3 ⟨rfl, B, d, rfl, rfl⟩
    refine ⟨rfl, fun hle3 => ⟨Kp.true, ?_⟩⟩
    refine Jp.freeze (i := 1) rfl (OwnS.up _ _ _ _ _ _) fun ρ7 hle7 hA7 => ?_
    obtain ⟨g0, hg0⟩ : ∃ g, M.gens (baseN pc) = g := ⟨_, rfl⟩
    rw [hg0]
    refine Jp.y 37 rfl (want_all rfl) rfl rfl Kp.true (Y.move rfl rfl) ?_
    refine Jp.y 42 rfl (want_all rfl) rfl rfl Kp.true (Y.extract rfl rfl rfl) ?_
    refine Jp.y 43 rfl (want_all rfl) rfl rfl Kp.true (Y.extract rfl rfl rfl) ?_
    refine Jp.alloc 6 10 rfl (want_all rfl) rfl rfl rfl Try.zeroValue29 fun b6 => ⟨Kp.true, ?_⟩
    refine Jp.alloc 7 11 rfl (want_all rfl) rfl rfl rfl Try.zeroValue32 fun b7 => ⟨Kp.true, ?_⟩
    first | refine Jp.storeAgg 6 rfl (want_all rfl) rfl rfl Try.sizeOf29 rfl rfl rfl rfl rfl rfl (fun k _ _ => noFr0 k) Kp.true ?_ | refine Jp.storeAgg 7 rfl (want_all rfl) rfl rfl Try.sizeOf29 rfl rfl rfl rfl rfl rfl (fun k _ _ => noFr0 k) Kp.true ?_ | refine Jp.storeAgg 6 rfl (want_all rfl) rfl rfl Try.sizeOf29 rfl rfl rfl rfl rfl rfl (fun k _ _ => noFr0 k) Kp.true ?_ | refine Jp.storeAgg 7 rfl (want_all rfl) rfl rfl Try.sizeOf29 rfl rfl rfl rfl rfl rfl (fun k _ _ => noFr0 k) Kp.true ?_
    first | refine Jp.storeAgg 6 rfl (want_all rfl) rfl rfl Try.sizeOf32 rfl rfl rfl rfl rfl rfl (fun k _ _ => noFr0 k) Kp.true ?_ | refine Jp.storeAgg 7 rfl (want_all rfl) rfl rfl Try.sizeOf32 rfl rfl rfl rfl rfl rfl (fun k _ _ => noFr0 k) Kp.true ?_ | refine Jp.storeAgg 6 rfl (want_all rfl) rfl rfl Try.sizeOf32 rfl rfl rfl rfl rfl rfl (fun k _ _ => noFr0 k) Kp.true ?_ | refine Jp.storeAgg 7 rfl (want_all rfl) rfl rfl Try.sizeOf32 rfl rfl rfl rfl rfl rfl (fun k _ _ => noFr0 k) Kp.true ?_
    refine Jp.done hK16 ?_
    refine Cd.seq fun K17 hK17 => ?_
    refine Cd.plain [(0, false), (1, false), (2, false), (3, false), (4, false), (5, false), (6, false), (7, false), (8, false), (9, false), (10, false)] rfl rfl ?_
    refine Jp.y 45 rfl (want_all rfl) rfl rfl Kp.true (Y.move rfl rfl) ?_
    refine Jp.y 46 rfl (want_all rfl) rfl rfl Kp.true (Y.move rfl rfl) ?_
    refine Jp.y 47 rfl (want_all rfl) rfl rfl Kp.true (Y.move rfl rfl) ?_
    refine Jp.call [0] [0, 1] (find_yes (T := T2) hpc (by rw [hmb]; exact hY) hT2) 48 rfl (want_all rfl) rfl rfl (Runs.fn rfl Try.call17 rfl) (by decide) (by decide) rfl trivial ?_
    rintro v4 ρ4 L4 ⟨rfl, B2, d2, rfl, rfl⟩
    refine ⟨rfl, fun hle4 => ⟨Kp.true, ?_⟩⟩
    refine Jp.freeze (i := 1) rfl (OwnS.up _ _ _ _ _ _) fun ρ8 hle8 hA8 => ?_
    rw [hg0]
    have hX8 := RdS.up _ _ _ _ _ _ _ hle8 hA7.rd
    have hY8 := hA8.rd
    refine Jp.y 44 rfl (want_all rfl) rfl rfl Kp.true (Y.move rfl rfl) ?_
    refine Jp.y 49 rfl (want_all rfl) rfl rfl Kp.true (Y.extract rfl rfl rfl) ?_
    refine Jp.y 50 rfl (want_all rfl) rfl rfl Kp.true (Y.extract rfl rfl rfl) ?_
    refine Jp.alloc 8 12 rfl (want_all rfl) rfl rfl rfl Try.zeroValue29 fun b8 => ⟨Kp.true, ?_⟩
    refine Jp.alloc 9 13 rfl (want_all rfl) rfl rfl rfl Try.zeroValue32 fun b9 => ⟨Kp.true, ?_⟩
    first | refine Jp.storeAgg 6 rfl (want_all rfl) rfl rfl Try.sizeOf29 rfl rfl rfl rfl rfl rfl (fun k _ _ => noFr0 k) Kp.true ?_ | refine Jp.storeAgg 7 rfl (want_all rfl) rfl rfl Try.sizeOf29 rfl rfl rfl rfl rfl rfl (fun k _ _ => noFr0 k) Kp.true ?_ | refine Jp.storeAgg 8 rfl (want_all rfl) rfl rfl Try.sizeOf29 rfl rfl rfl rfl rfl rfl (fun k _ _ => noFr0 k) Kp.true ?_ | refine Jp.storeAgg 9 rfl (want_all rfl) rfl rfl Try.sizeOf29 rfl rfl rfl rfl rfl rfl (fun k _ _ => noFr0 k) Kp.true ?_ | refine Jp.storeAgg 8 rfl (want_all rfl) rfl rfl Try.sizeOf29 rfl rfl rfl rfl rfl rfl (fun k _ _ => noFr0 k) Kp.true ?_ | refine Jp.storeAgg 9 rfl (want_all rfl) rfl rfl Try.sizeOf29 rfl rfl rfl rfl rfl rfl (fun k _ _ => noFr0 k) Kp.true ?_
    first | refine Jp.storeAgg 6 rfl (want_all rfl) rfl rfl Try.sizeOf32 rfl rfl rfl rfl rfl rfl (fun k _ _ => noFr0 k) Kp.true ?_ | refine Jp.storeAgg 7 rfl (want_all rfl) rfl rfl Try.sizeOf32 rfl rfl rfl rfl rfl rfl (fun k _ _ => noFr0 k) Kp.true ?_ | refine Jp.storeAgg 8 rfl (want_all rfl) rfl rfl Try.sizeOf32 rfl rfl rfl rfl rfl rfl (fun k _ _ => noFr0 k) Kp.true ?_ | refine Jp.storeAgg 9 rfl (want_all rfl) rfl rfl Try.sizeOf32 rfl rfl rfl rfl rfl rfl (fun k _ _ => noFr0 k) Kp.true ?_ | refine Jp.storeAgg 8 rfl (want_all rfl) rfl rfl Try.sizeOf32 rfl rfl rfl rfl rfl rfl (fun k _ _ => noFr0 k) Kp.true ?_ | refine Jp.storeAgg 9 rfl (want_all rfl) rfl rfl Try.sizeOf32 rfl rfl rfl rfl rfl rfl (fun k _ _ => noFr0 k) Kp.true ?_
    refine Jp.done hK17 ?_
    refine Cd.seq fun K18 hK18 => ?_
    refine Cd.seq fun K19 hK19 => ?_
    refine Cd.plain [(0, false), (1, false), (2, false), (3, false), (4, false), (5, false), (6, false), (7, false)] rfl rfl ?_
    refine Jp.imp (j := 6) rfl (fun h hh => (show Pt b6 (.cells (blockC pc B T1.length d g0).toArray 29) h from hh)) ?_
    refine Jp.imp (j := 8) rfl (fun h hh => (show Pt b8 (.cells (blockC pc B2 T2.length d2 g0).toArray 29) h from hh)) ?_
    refine Jp.imp (j := 7) rfl (fun h hh => (show Pt b7 (.cells #[Value.int .i64 0, Value.int .u32 0, Value.int .i64 0] 32) h from hh)) ?_
    refine Jp.imp (j := 9) rfl (fun h hh => (show Pt b9 (.cells #[Value.int .i64 0, Value.int .u32 0, Value.int .i64 0] 32) h from hh)) ?_
    refine Jp.y 51 rfl (want_all rfl) rfl rfl Kp.true (by first | exact Y.loadAggO 6 rfl Try.isAgg32 Try.sizeOf32 rfl rfl rfl | exact Y.loadAggO 7 rfl Try.isAgg32 Try.sizeOf32 rfl rfl rfl | exact Y.loadAggO 8 rfl Try.isAgg32 Try.sizeOf32 rfl rfl rfl | exact Y.loadAggO 9 rfl Try.isAgg32 Try.sizeOf32 rfl rfl rfl | exact Y.loadAggO 8 rfl Try.isAgg32 Try.sizeOf32 rfl rfl rfl | exact Y.loadAggO 9 rfl Try.isAgg32 Try.sizeOf32 rfl rfl rfl) ?_
    refine Jp.y 52 rfl (want_all rfl) rfl rfl Kp.true (by first | exact Y.loadAggO 6 rfl Try.isAgg32 Try.sizeOf32 rfl rfl rfl | exact Y.loadAggO 7 rfl Try.isAgg32 Try.sizeOf32 rfl rfl rfl | exact Y.loadAggO 8 rfl Try.isAgg32 Try.sizeOf32 rfl rfl rfl | exact Y.loadAggO 9 rfl Try.isAgg32 Try.sizeOf32 rfl rfl rfl | exact Y.loadAggO 8 rfl Try.isAgg32 Try.sizeOf32 rfl rfl rfl | exact Y.loadAggO 9 rfl Try.isAgg32 Try.sizeOf32 rfl rfl rfl) ?_
    refine Jp.y 53 rfl (want_all rfl) rfl rfl Kp.true (Y.neqS (xs := noEv.cells.toArray) (ys := noEv.cells.toArray) (r := true) rfl rfl rfl ev_guard ev_fields ev_stood (fun w => by rw [ev_eq, (evEq_iff _ _).2 rfl])) ?_
    refine Jp.slot 53 rfl (show _ = Value.bool false from rfl) ?_
    refine Jp.y 54 rfl (want_all rfl) rfl rfl Kp.true (Y.move rfl rfl) ?_
    refine Jp.y 55 rfl (want_as rfl rfl rfl rfl) rfl rfl Kp.true (by first | exact Y.fieldAddrP rfl rfl Try.underlying32 rfl Try.sizeOf3 (by decide) (show _ + 0 = _ from rfl) | exact Y.fieldAddr rfl rfl Try.underlying32 rfl Try.sizeOf3 (by decide)) ?_
    refine Jp.y 56 rfl (want_as rfl rfl rfl rfl) rfl rfl Kp.true (by first | exact Y.loadO 6 rfl Try.isAgg3 rfl rfl rfl | exact Y.loadO 7 rfl Try.isAgg3 rfl rfl rfl | exact Y.loadO 8 rfl Try.isAgg3 rfl rfl rfl | exact Y.loadO 9 rfl Try.isAgg3 rfl rfl rfl | exact Y.loadO 8 rfl Try.isAgg3 rfl rfl rfl | exact Y.loadO 9 rfl Try.isAgg3 rfl rfl rfl) ?_
    refine Jp.y 57 rfl (want_as rfl rfl rfl rfl) rfl rfl Kp.true (Y.neq rfl rfl rfl) ?_
    refine Jp.y 58 rfl (want_all rfl) rfl rfl Kp.true (Y.pickF rfl rfl rfl) ?_
    refine Jp.done hK19 ?_
    refine Cd.cond rfl (fun ge => ?_) (fun ge => ?_)
    · exact absurd ge (by simp)
    · skip
      refine Cd.skip hK18 ?_
      refine Cd.seq fun K20 hK20 => ?_
      refine Cd.seq fun K21 hK21 => ?_
      refine Cd.plain [(0, false), (1, false), (2, false), (3, false), (4, false), (5, false), (6, false)] rfl rfl ?_
      refine Jp.y 62 rfl (want_all rfl) rfl rfl Kp.true (by first | exact Y.fieldAddrP rfl rfl Try.underlying29 rfl Try.sizeOf27 (by decide) (show _ + 1 = _ from rfl) | exact Y.fieldAddr rfl rfl Try.underlying29 rfl Try.sizeOf27 (by decide)) ?_
      refine Jp.y 63 rfl (want_all rfl) rfl rfl Kp.true (by first | exact Y.loadO 6 rfl Try.isAgg27 rfl rfl rfl | exact Y.loadO 7 rfl Try.isAgg27 rfl rfl rfl | exact Y.loadO 8 rfl Try.isAgg27 rfl rfl rfl | exact Y.loadO 9 rfl Try.isAgg27 rfl rfl rfl | exact Y.loadO 8 rfl Try.isAgg27 rfl rfl rfl | exact Y.loadO 9 rfl Try.isAgg27 rfl rfl rfl) ?_
      refine Jp.y 64 rfl (want_all rfl) rfl rfl Kp.true (Y.lenslice rfl Try.underlying27 rfl) ?_
      refine Jp.y 65 rfl (want_all rfl) rfl rfl Kp.true (by first | exact Y.fieldAddrP rfl rfl Try.underlying29 rfl Try.sizeOf27 (by decide) (show _ + 1 = _ from rfl) | exact Y.fieldAddr rfl rfl Try.underlying29 rfl Try.sizeOf27 (by decide)) ?_
      refine Jp.y 66 rfl (want_all rfl) rfl rfl Kp.true (by first | exact Y.loadO 6 rfl Try.isAgg27 rfl rfl rfl | exact Y.loadO 7 rfl Try.isAgg27 rfl rfl rfl | exact Y.loadO 8 rfl Try.isAgg27 rfl rfl rfl | exact Y.loadO 9 rfl Try.isAgg27 rfl rfl rfl | exact Y.loadO 8 rfl Try.isAgg27 rfl rfl rfl | exact Y.loadO 9 rfl Try.isAgg27 rfl rfl rfl) ?_
      refine Jp.y 67 rfl (want_all rfl) rfl rfl Kp.true (Y.lenslice rfl Try.underlying27 rfl) ?_
      refine Jp.y 68 rfl (want_all rfl) rfl rfl Kp.true (Y.gtr rfl rfl rfl) ?_
      refine Jp.done hK21 ?_
      refine Cd.cond rfl (fun gl => ?_) (fun gl => ?_)
      · exact absurd gl (by simp; omega)
      · skip
        refine Cd.skip hK20 ?_
        refine Cd.seq fun K22 hK22 => ?_
        refine Cd.seq fun K23 hK23 => ?_
        refine Cd.plain [(0, false)] rfl rfl ?_
        refine Jp.y 14 rfl (want_all rfl) rfl rfl Kp.true (Y.assign rfl rfl) ?_
        refine Jp.done hK23 ?_
        refine Cd.block ?_
        refine Cd.loopK (G := Nat) (fun i => i ≤ T1.length) (fun i => T1.length - i) (fun _ => _) (fun i => [(14, .int .i64 (i : Int))]) [(1, _), (2, _), (3, _), (9, _), (10, _), (12, _)] (fun i => []) [(0, _), (6, _), (7, _), (8, _), (9, _)] 0 (Nat.zero_le _) rfl ⟨rfl, trivial⟩ ⟨rfl, rfl, rfl, rfl, rfl, rfl, trivial⟩ trivial ⟨rfl, rfl, rfl, rfl, rfl, trivial⟩ (fun g KLa hok hLa => ?_)
        obtain ⟨i, hi⟩ : ∃ i, i = g := ⟨_, rfl⟩
        rw [← hi] at hok ⊢
        refine Cd.seq fun K24 hK24 => ?_
        refine Cd.seq fun K25 hK25 => ?_
        refine Cd.plain [(0, false), (1, false), (2, false), (3, false), (4, false)] rfl rfl ?_
        refine Jp.y 69 rfl (want_all rfl) rfl rfl Kp.true (Y.move rfl rfl) ?_
        refine Jp.y 70 rfl (want_all rfl) rfl rfl Kp.true (by first | exact Y.fieldAddrP rfl rfl Try.underlying29 rfl Try.sizeOf27 (by decide) (show _ + 1 = _ from rfl) | exact Y.fieldAddr rfl rfl Try.underlying29 rfl Try.sizeOf27 (by decide)) ?_
        refine Jp.y 71 rfl (want_all rfl) rfl rfl Kp.true (by first | exact Y.loadO 6 rfl Try.isAgg27 rfl rfl rfl | exact Y.loadO 7 rfl Try.isAgg27 rfl rfl rfl | exact Y.loadO 8 rfl Try.isAgg27 rfl rfl rfl | exact Y.loadO 9 rfl Try.isAgg27 rfl rfl rfl | exact Y.loadO 8 rfl Try.isAgg27 rfl rfl rfl | exact Y.loadO 9 rfl Try.isAgg27 rfl rfl rfl) ?_
        refine Jp.y 72 rfl (want_all rfl) rfl rfl Kp.true (Y.lenslice rfl Try.underlying27 rfl) ?_
        refine Jp.y 73 rfl (want_all rfl) rfl rfl Kp.true (Y.lss rfl rfl rfl) ?_
        refine Jp.done hK25 ?_
        refine Cd.cond rfl (fun ga => ?_) (fun ga => ?_)
        · simp only [decide_eq_true_eq] at ga
          have hin : i < T1.length := by omega
          have hx : T1[i]? = some T1[i] := List.getElem?_eq_getElem hin
          obtain ⟨x, hxe⟩ : ∃ x, x = T1[i] := ⟨_, rfl⟩
          rw [← hxe] at hx
          have hy : T2[i]? = some x := by rw [← hget i hin]; exact hx
          obtain ⟨ad, rfl, hcx⟩ := bin_at hX8 hx
          obtain ⟨ad2, rfl, hcy⟩ := bin_at hY8 hy
          refine Cd.skip hK24 ?_
          refine Cd.seq fun K26 hK26 => ?_
          refine Cd.block ?_
          refine Cd.seq fun K27 hK27 => ?_
          refine Cd.drawn [(6, _), (8, _)] ⟨rfl, rfl, trivial⟩ [(0, true), (1, true), (2, true), (3, true), (4, true), (5, true), (6, true), (7, true), (8, true), (9, true), (10, true)] follows (by kernel_rfl) (fun hrl => ?_)
          refine Jp.q 76 rfl (want_all rfl) rfl rfl (by first | exact Y.fieldAddrP rfl rfl Try.underlying29 rfl Try.sizeOf27 (by decide) (show _ + 1 = _ from rfl) | exact Y.fieldAddr rfl rfl Try.underlying29 rfl Try.sizeOf27 (by decide)) ?_
          refine Jp.q 77 rfl (want_all rfl) rfl rfl (by first | exact Y.loadO 6 rfl Try.isAgg27 rfl rfl rfl | exact Y.loadO 7 rfl Try.isAgg27 rfl rfl rfl | exact Y.loadO 8 rfl Try.isAgg27 rfl rfl rfl | exact Y.loadO 9 rfl Try.isAgg27 rfl rfl rfl | exact Y.loadO 8 rfl Try.isAgg27 rfl rfl rfl | exact Y.loadO 9 rfl Try.isAgg27 rfl rfl rfl) ?_
          refine Jp.q 78 rfl (want_all rfl) rfl rfl (Y.move rfl rfl) ?_
          refine Jp.q 79 rfl (want_all rfl) rfl rfl (Y.indexAddr (q := i * 5) rfl rfl rfl Try.underlying27 Try.sizeOf40 (by omega) (by omega) (by omega)) ?_
          refine Jp.q 80 rfl (want_all rfl) rfl rfl (Y.loadAggR x.cells rfl Try.isAgg40 Try.sizeOf40 rfl rfl hcx) ?_
          refine Jp.q 81 rfl (want_all rfl) rfl rfl (by first | exact Y.fieldAddrP rfl rfl Try.underlying29 rfl Try.sizeOf27 (by decide) (show _ + 1 = _ from rfl) | exact Y.fieldAddr rfl rfl Try.underlying29 rfl Try.sizeOf27 (by decide)) ?_
          refine Jp.q 82 rfl (want_all rfl) rfl rfl (by first | exact Y.loadO 6 rfl Try.isAgg27 rfl rfl rfl | exact Y.loadO 7 rfl Try.isAgg27 rfl rfl rfl | exact Y.loadO 8 rfl Try.isAgg27 rfl rfl rfl | exact Y.loadO 9 rfl Try.isAgg27 rfl rfl rfl | exact Y.loadO 8 rfl Try.isAgg27 rfl rfl rfl | exact Y.loadO 9 rfl Try.isAgg27 rfl rfl rfl) ?_
          refine Jp.q 83 rfl (want_all rfl) rfl rfl (Y.move rfl rfl) ?_
          refine Jp.q 84 rfl (want_all rfl) rfl rfl (Y.indexAddr (q := i * 5) rfl rfl rfl Try.underlying27 Try.sizeOf40 (by omega) (by omega) (by omega)) ?_
          refine Jp.q 85 rfl (want_all rfl) rfl rfl (Y.loadAggR x.cells rfl Try.isAgg40 Try.sizeOf40 rfl rfl hcy) ?_
          refine Jp.q 86 rfl (want_all rfl) rfl rfl (Y.neqS (xs := x.cells.toArray) (ys := x.cells.toArray) (r := true) rfl rfl rfl ins_guard ins_fields ins_stood (fun w => by rw [ins_eq, (insEq_iff _ _).2 rfl])) ?_
          refine Jp.done hK27 ?_
          refine Cd.cond rfl (fun gz => ?_) (fun gz => ?_)
          · exact absurd gz (by simp)
          · skip
            refine Cd.over rfl hK26 ?_
            refine Cd.plain [(0, false), (1, false), (2, false)] rfl rfl ?_
            refine Jp.y 74 rfl (want_all rfl) rfl rfl Kp.true (Y.move rfl rfl) ?_
            refine Jp.y 75 rfl (want_all rfl) rfl rfl Kp.true (Y.add_ rfl rfl rfl (by first | exact wrap_i64 (by omega) (by omega) | rfl)) ?_
            refine Jp.y 14 rfl (want_all rfl) rfl rfl Kp.true (Y.assign rfl rfl) ?_
            rw [show (i : Int) + 1 = ((i + 1 : Nat) : Int) by omega]
            refine Jp.again hLa (i + 1) (by omega) (by omega) rfl ⟨rfl, rfl, rfl, rfl, rfl, rfl, rfl, trivial⟩ ⟨rfl, rfl, rfl, rfl, rfl, trivial⟩
        · skip
          refine Cd.exit rfl hK22 ?_
          refine Cd.seq fun K29 hK29 => ?_
          refine Cd.seq fun K30 hK30 => ?_
          refine Cd.plain [(0, false), (1, false), (2, false), (3, false), (4, false), (5, false), (6, false)] rfl rfl ?_
          refine Jp.y 87 rfl (want_all rfl) rfl rfl Kp.true (by first | exact Y.fieldAddrP rfl rfl Try.underlying29 rfl Try.sizeOf27 (by decide) (show _ + 1 = _ from rfl) | exact Y.fieldAddr rfl rfl Try.underlying29 rfl Try.sizeOf27 (by decide)) ?_
          refine Jp.y 88 rfl (want_all rfl) rfl rfl Kp.true (by first | exact Y.loadO 6 rfl Try.isAgg27 rfl rfl rfl | exact Y.loadO 7 rfl Try.isAgg27 rfl rfl rfl | exact Y.loadO 8 rfl Try.isAgg27 rfl rfl rfl | exact Y.loadO 9 rfl Try.isAgg27 rfl rfl rfl | exact Y.loadO 8 rfl Try.isAgg27 rfl rfl rfl | exact Y.loadO 9 rfl Try.isAgg27 rfl rfl rfl) ?_
          refine Jp.y 89 rfl (want_all rfl) rfl rfl Kp.true (Y.lenslice rfl Try.underlying27 rfl) ?_
          refine Jp.y 90 rfl (want_all rfl) rfl rfl Kp.true (by first | exact Y.fieldAddrP rfl rfl Try.underlying29 rfl Try.sizeOf27 (by decide) (show _ + 1 = _ from rfl) | exact Y.fieldAddr rfl rfl Try.underlying29 rfl Try.sizeOf27 (by decide)) ?_
          refine Jp.y 91 rfl (want_all rfl) rfl rfl Kp.true (by first | exact Y.loadO 6 rfl Try.isAgg27 rfl rfl rfl | exact Y.loadO 7 rfl Try.isAgg27 rfl rfl rfl | exact Y.loadO 8 rfl Try.isAgg27 rfl rfl rfl | exact Y.loadO 9 rfl Try.isAgg27 rfl rfl rfl | exact Y.loadO 8 rfl Try.isAgg27 rfl rfl rfl | exact Y.loadO 9 rfl Try.isAgg27 rfl rfl rfl) ?_
          refine Jp.y 92 rfl (want_all rfl) rfl rfl Kp.true (Y.lenslice rfl Try.underlying27 rfl) ?_
          refine Jp.y 93 rfl (want_all rfl) rfl rfl Kp.true (Y.eql rfl rfl rfl) ?_
          refine Jp.done hK30 ?_
          refine Cd.cond rfl (fun gq => ?_) (fun gq => ?_)
          · skip
            refine Cd.seq fun K31 hK31 => ?_
            refine Cd.plain [(0, false)] rfl rfl ?_
            refine Jp.y 8 rfl (want_all rfl) rfl rfl Kp.true (Y.assign rfl rfl) ?_
            refine Jp.done hK31 ?_
            refine Cd.ret [] rfl (res1 rfl rfl) trivial ⟨rfl, rfl⟩
          · have hXY : T1.length < T2.length := by simp at gq; omega
            have hXa : T1.length = a := by omega
            have hdr := hdrop (by omega)
            have hy0 : T2[a]? = some T2[a] := List.getElem?_eq_getElem (by omega)
            obtain ⟨y, hye⟩ : ∃ y, y = T2[a] := ⟨_, rfl⟩
            rw [← hye] at hy0
            have hpg := (hat a y (by rw [hY]; exact hy0)).1
            rw [Nat.zero_add] at hpg hdr
            obtain ⟨T3, hZ⟩ : ∃ T, findL M (atP pc a) (b - a) 0 = T := ⟨_, rfl⟩
            have hZY : T3 = T2.drop a := by rw [hdr, ← hZ, findL_at M hpg]; rfl
            have hZl : T3.length = T2.length - a := by rw [hZY, List.length_drop]
            have hz0 : T3[0]? = some y := by rw [hZY, List.getElem?_drop]; exact hy0
            have hat' : atP pc a < 4294967296 := Nat.mod_lt _ (by decide)
            refine Cd.skip hK29 ?_
            refine Cd.seq fun K32 hK32 => ?_
            refine Cd.plain [(0, false), (1, false), (2, false), (3, false), (4, false), (5, false), (6, false), (7, false), (8, false), (9, false), (10, false), (11, false), (12, false), (13, false), (14, false), (15, false), (16, false), (17, false), (18, false), (19, false), (20, false)] rfl rfl ?_
            refine Jp.y 95 rfl (want_all rfl) rfl rfl Kp.true (Y.move rfl rfl) ?_
            refine Jp.y 96 rfl (want_all rfl) rfl rfl Kp.true (Y.move rfl rfl) ?_
            refine Jp.y 97 rfl (want_all rfl) rfl rfl Kp.true (by first | exact Y.fieldAddrP rfl rfl Try.underlying29 rfl Try.sizeOf27 (by decide) (show _ + 1 = _ from rfl) | exact Y.fieldAddr rfl rfl Try.underlying29 rfl Try.sizeOf27 (by decide)) ?_
            refine Jp.y 98 rfl (want_all rfl) rfl rfl Kp.true (by first | exact Y.loadO 6 rfl Try.isAgg27 rfl rfl rfl | exact Y.loadO 7 rfl Try.isAgg27 rfl rfl rfl | exact Y.loadO 8 rfl Try.isAgg27 rfl rfl rfl | exact Y.loadO 9 rfl Try.isAgg27 rfl rfl rfl | exact Y.loadO 8 rfl Try.isAgg27 rfl rfl rfl | exact Y.loadO 9 rfl Try.isAgg27 rfl rfl rfl) ?_
            refine Jp.y 99 rfl (want_all rfl) rfl rfl Kp.true (Y.lenslice rfl Try.underlying27 rfl) ?_
            refine Jp.y 100 rfl (want_all rfl) rfl rfl Kp.true (Y.mul_ rfl rfl rfl (by first | exact wrap_i64 (by omega) (by omega) | rfl)) ?_
            refine Jp.y 101 rfl (want_all rfl) rfl rfl Kp.true (Y.conv_ rfl rfl Try.underlying3 Try.underlying25 (by first | exact wrap_u32 (by omega) (by omega) | rfl)) ?_
            refine Jp.y 102 rfl (want_all rfl) rfl rfl Kp.true (Y.add_ rfl rfl rfl (wrap_u32m (pc + 4 * T1.length))) ?_
            refine Jp.y 103 rfl (want_all rfl) rfl rfl Kp.true (Y.move rfl rfl) ?_
            refine Jp.y 104 rfl (want_all rfl) rfl rfl Kp.true (by first | exact Y.fieldAddrP rfl rfl Try.underlying29 rfl Try.sizeOf27 (by decide) (show _ + 1 = _ from rfl) | exact Y.fieldAddr rfl rfl Try.underlying29 rfl Try.sizeOf27 (by decide)) ?_
            refine Jp.y 105 rfl (want_all rfl) rfl rfl Kp.true (by first | exact Y.loadO 6 rfl Try.isAgg27 rfl rfl rfl | exact Y.loadO 7 rfl Try.isAgg27 rfl rfl rfl | exact Y.loadO 8 rfl Try.isAgg27 rfl rfl rfl | exact Y.loadO 9 rfl Try.isAgg27 rfl rfl rfl | exact Y.loadO 8 rfl Try.isAgg27 rfl rfl rfl | exact Y.loadO 9 rfl Try.isAgg27 rfl rfl rfl) ?_
            refine Jp.y 106 rfl (want_all rfl) rfl rfl Kp.true (Y.lenslice rfl Try.underlying27 rfl) ?_
            refine Jp.y 107 rfl (want_all rfl) rfl rfl Kp.true (Y.sub_ rfl rfl rfl (by first | exact wrap_i64 (by omega) (by omega) | rfl)) ?_
            refine Jp.slot 102 rfl (show _ = Value.int .u32 ((atP pc a : Nat) : Int) from congrArg (Value.int .u32) (by rw [hXa]; rfl)) ?_
            refine Jp.slot 107 rfl (show _ = Value.int .i64 ((b - a : Nat) : Int) from congrArg (Value.int .i64) (by omega)) ?_
            have hmz : mostP ((b - a : Nat) : Int) = b - a := by unfold mostP; omega
            refine Jp.call [0] [0, 1] (find_yes (T := T3) hat' (by rw [hmz]; exact hZ) (by intro h; rw [h] at hz0; simp at hz0)) 108 rfl (want_all rfl) rfl rfl (Runs.fn rfl Try.call17 rfl) (by decide) (by decide) rfl trivial ?_
            rintro v5 ρ5 L5 ⟨rfl, B3, d3, rfl, rfl⟩
            refine ⟨rfl, fun hle5 => ⟨Kp.true, ?_⟩⟩
            refine Jp.freeze (i := 1) rfl (OwnS.up _ _ _ _ _ _) fun ρ9 hle9 hA9 => ?_
            have hT9 := hA9.rd
            have hY9 := RdS.up _ _ _ _ _ _ _ hle9 hY8
            obtain ⟨g1, hg1⟩ : ∃ g, M.gens (baseN (atP pc a)) = g := ⟨_, rfl⟩
            rw [hg1]
            obtain ⟨ad2, rfl, hcy⟩ := bin_at hY9 hy0
            obtain ⟨ad3, rfl, hcz⟩ := bin_at hT9 hz0
            refine Jp.y 94 rfl (want_all rfl) rfl rfl Kp.true (Y.move rfl rfl) ?_
            refine Jp.y 109 rfl (want_all rfl) rfl rfl Kp.true (Y.extract rfl rfl rfl) ?_
            refine Jp.y 110 rfl (want_all rfl) rfl rfl Kp.true (Y.extract rfl rfl rfl) ?_
            refine Jp.alloc 10 15 rfl (want_all rfl) rfl rfl rfl Try.zeroValue29 fun b10 => ⟨Kp.true, ?_⟩
            refine Jp.alloc 11 16 rfl (want_all rfl) rfl rfl rfl Try.zeroValue32 fun b11 => ⟨Kp.true, ?_⟩
            first | refine Jp.storeAgg 6 rfl (want_all rfl) rfl rfl Try.sizeOf29 rfl rfl rfl rfl rfl rfl (fun k _ _ => noFr0 k) Kp.true ?_ | refine Jp.storeAgg 7 rfl (want_all rfl) rfl rfl Try.sizeOf29 rfl rfl rfl rfl rfl rfl (fun k _ _ => noFr0 k) Kp.true ?_ | refine Jp.storeAgg 8 rfl (want_all rfl) rfl rfl Try.sizeOf29 rfl rfl rfl rfl rfl rfl (fun k _ _ => noFr0 k) Kp.true ?_ | refine Jp.storeAgg 9 rfl (want_all rfl) rfl rfl Try.sizeOf29 rfl rfl rfl rfl rfl rfl (fun k _ _ => noFr0 k) Kp.true ?_ | refine Jp.storeAgg 10 rfl (want_all rfl) rfl rfl Try.sizeOf29 rfl rfl rfl rfl rfl rfl (fun k _ _ => noFr0 k) Kp.true ?_ | refine Jp.storeAgg 11 rfl (want_all rfl) rfl rfl Try.sizeOf29 rfl rfl rfl rfl rfl rfl (fun k _ _ => noFr0 k) Kp.true ?_ | refine Jp.storeAgg 10 rfl (want_all rfl) rfl rfl Try.sizeOf29 rfl rfl rfl rfl rfl rfl (fun k _ _ => noFr0 k) Kp.true ?_ | refine Jp.storeAgg 11 rfl (want_all rfl) rfl rfl Try.sizeOf29 rfl rfl rfl rfl rfl rfl (fun k _ _ => noFr0 k) Kp.true ?_
            first | refine Jp.storeAgg 6 rfl (want_all rfl) rfl rfl Try.sizeOf32 rfl rfl rfl rfl rfl rfl (fun k _ _ => noFr0 k) Kp.true ?_ | refine Jp.storeAgg 7 rfl (want_all rfl) rfl rfl Try.sizeOf32 rfl rfl rfl rfl rfl rfl (fun k _ _ => noFr0 k) Kp.true ?_ | refine Jp.storeAgg 8 rfl (want_all rfl) rfl rfl Try.sizeOf32 rfl rfl rfl rfl rfl rfl (fun k _ _ => noFr0 k) Kp.true ?_ | refine Jp.storeAgg 9 rfl (want_all rfl) rfl rfl Try.sizeOf32 rfl rfl rfl rfl rfl rfl (fun k _ _ => noFr0 k) Kp.true ?_ | refine Jp.storeAgg 10 rfl (want_all rfl) rfl rfl Try.sizeOf32 rfl rfl rfl rfl rfl rfl (fun k _ _ => noFr0 k) Kp.true ?_ | refine Jp.storeAgg 11 rfl (want_all rfl) rfl rfl Try.sizeOf32 rfl rfl rfl rfl rfl rfl (fun k _ _ => noFr0 k) Kp.true ?_ | refine Jp.storeAgg 10 rfl (want_all rfl) rfl rfl Try.sizeOf32 rfl rfl rfl rfl rfl rfl (fun k _ _ => noFr0 k) Kp.true ?_ | refine Jp.storeAgg 11 rfl (want_all rfl) rfl rfl Try.sizeOf32 rfl rfl rfl rfl rfl rfl (fun k _ _ => noFr0 k) Kp.true ?_
            refine Jp.done hK32 ?_
            refine Cd.seq fun K33 hK33 => ?_
            refine Cd.drawn [(6, _), (8, _), (10, Pt b10 (.cells (blockC (atP pc a) (some ad3) T3.length d3 g1).toArray 29)), (11, Pt b11 (.cells #[Value.int .i64 0, Value.int .u32 0, Value.int .i64 0] 32))] ⟨rfl, rfl, rfl, rfl, trivial⟩ [(0, true), (1, true), (2, true), (3, true), (4, true), (5, true), (6, true), (7, true), (8, true), (9, true), (10, true), (11, true), (12, true), (13, true), (14, true), (15, true), (16, true), (17, true), (18, true), (19, true), (20, true), (21, true), (22, true), (23, true), (24, true), (25, true), (26, true), (27, true), (28, true), (29, true), (30, true), (31, true), (32, true), (33, true), (34, true), (35, true), (36, true), (37, true)] follows (by kernel_rfl) (fun hrl => ?_)
            refine Jp.q 111 rfl (want_all rfl) rfl rfl (by first | exact Y.fieldAddrP rfl rfl Try.underlying32 rfl Try.sizeOf3 (by decide) (show _ + 0 = _ from rfl) | exact Y.fieldAddr rfl rfl Try.underlying32 rfl Try.sizeOf3 (by decide)) ?_
            refine Jp.q 112 rfl (want_all rfl) rfl rfl (by first | exact Y.loadO 6 rfl Try.isAgg3 rfl rfl rfl | exact Y.loadO 7 rfl Try.isAgg3 rfl rfl rfl | exact Y.loadO 8 rfl Try.isAgg3 rfl rfl rfl | exact Y.loadO 9 rfl Try.isAgg3 rfl rfl rfl | exact Y.loadO 10 rfl Try.isAgg3 rfl rfl rfl | exact Y.loadO 11 rfl Try.isAgg3 rfl rfl rfl | exact Y.loadO 10 rfl Try.isAgg3 rfl rfl rfl | exact Y.loadO 11 rfl Try.isAgg3 rfl rfl rfl) ?_
            refine Jp.q 113 rfl (want_all rfl) rfl rfl (Y.eql rfl rfl rfl) ?_
            refine Jp.slot 113 rfl (show _ = Value.bool true from rfl) ?_
            refine Jp.q 114 rfl (want_all rfl) rfl rfl (Y.move rfl rfl) ?_
            refine Jp.q 115 rfl (want_as rfl rfl rfl rfl) rfl rfl (by first | exact Y.fieldAddrP rfl rfl Try.underlying29 rfl Try.sizeOf27 (by decide) (show _ + 1 = _ from rfl) | exact Y.fieldAddr rfl rfl Try.underlying29 rfl Try.sizeOf27 (by decide)) ?_
            refine Jp.q 116 rfl (want_as rfl rfl rfl rfl) rfl rfl (by first | exact Y.loadO 6 rfl Try.isAgg27 rfl rfl rfl | exact Y.loadO 7 rfl Try.isAgg27 rfl rfl rfl | exact Y.loadO 8 rfl Try.isAgg27 rfl rfl rfl | exact Y.loadO 9 rfl Try.isAgg27 rfl rfl rfl | exact Y.loadO 10 rfl Try.isAgg27 rfl rfl rfl | exact Y.loadO 11 rfl Try.isAgg27 rfl rfl rfl | exact Y.loadO 10 rfl Try.isAgg27 rfl rfl rfl | exact Y.loadO 11 rfl Try.isAgg27 rfl rfl rfl) ?_
            refine Jp.q 117 rfl (want_as rfl rfl rfl rfl) rfl rfl (Y.lenslice rfl Try.underlying27 rfl) ?_
            refine Jp.q 118 rfl (want_as rfl rfl rfl rfl) rfl rfl (by first | exact Y.fieldAddrP rfl rfl Try.underlying29 rfl Try.sizeOf27 (by decide) (show _ + 1 = _ from rfl) | exact Y.fieldAddr rfl rfl Try.underlying29 rfl Try.sizeOf27 (by decide)) ?_
            refine Jp.q 119 rfl (want_as rfl rfl rfl rfl) rfl rfl (by first | exact Y.loadO 6 rfl Try.isAgg27 rfl rfl rfl | exact Y.loadO 7 rfl Try.isAgg27 rfl rfl rfl | exact Y.loadO 8 rfl Try.isAgg27 rfl rfl rfl | exact Y.loadO 9 rfl Try.isAgg27 rfl rfl rfl | exact Y.loadO 10 rfl Try.isAgg27 rfl rfl rfl | exact Y.loadO 11 rfl Try.isAgg27 rfl rfl rfl | exact Y.loadO 10 rfl Try.isAgg27 rfl rfl rfl | exact Y.loadO 11 rfl Try.isAgg27 rfl rfl rfl) ?_
            refine Jp.q 120 rfl (want_as rfl rfl rfl rfl) rfl rfl (Y.lenslice rfl Try.underlying27 rfl) ?_
            refine Jp.q 121 rfl (want_as rfl rfl rfl rfl) rfl rfl (by first | exact Y.fieldAddrP rfl rfl Try.underlying29 rfl Try.sizeOf27 (by decide) (show _ + 1 = _ from rfl) | exact Y.fieldAddr rfl rfl Try.underlying29 rfl Try.sizeOf27 (by decide)) ?_
            refine Jp.q 122 rfl (want_as rfl rfl rfl rfl) rfl rfl (by first | exact Y.loadO 6 rfl Try.isAgg27 rfl rfl rfl | exact Y.loadO 7 rfl Try.isAgg27 rfl rfl rfl | exact Y.loadO 8 rfl Try.isAgg27 rfl rfl rfl | exact Y.loadO 9 rfl Try.isAgg27 rfl rfl rfl | exact Y.loadO 10 rfl Try.isAgg27 rfl rfl rfl | exact Y.loadO 11 rfl Try.isAgg27 rfl rfl rfl | exact Y.loadO 10 rfl Try.isAgg27 rfl rfl rfl | exact Y.loadO 11 rfl Try.isAgg27 rfl rfl rfl) ?_
            refine Jp.q 123 rfl (want_as rfl rfl rfl rfl) rfl rfl (Y.lenslice rfl Try.underlying27 rfl) ?_
            refine Jp.q 124 rfl (want_as rfl rfl rfl rfl) rfl rfl (Y.sub_ rfl rfl rfl (by first | exact wrap_i64 (by omega) (by omega) | rfl)) ?_
            refine Jp.q 125 rfl (want_as rfl rfl rfl rfl) rfl rfl (Y.eql rfl rfl rfl) ?_
            refine Jp.slot 125 rfl (show _ = Value.bool true from congrArg Value.bool (by simp; omega)) ?_
            refine Jp.q 126 rfl (want_all rfl) rfl rfl (Y.pickT rfl rfl rfl) ?_
            refine Jp.q 127 rfl (want_all rfl) rfl rfl (Y.move rfl rfl) ?_
            refine Jp.q 128 rfl (want_as rfl rfl rfl rfl) rfl rfl (by first | exact Y.fieldAddrP rfl rfl Try.underlying29 rfl Try.sizeOf27 (by decide) (show _ + 1 = _ from rfl) | exact Y.fieldAddr rfl rfl Try.underlying29 rfl Try.sizeOf27 (by decide)) ?_
            refine Jp.q 129 rfl (want_as rfl rfl rfl rfl) rfl rfl (by first | exact Y.loadO 6 rfl Try.isAgg27 rfl rfl rfl | exact Y.loadO 7 rfl Try.isAgg27 rfl rfl rfl | exact Y.loadO 8 rfl Try.isAgg27 rfl rfl rfl | exact Y.loadO 9 rfl Try.isAgg27 rfl rfl rfl | exact Y.loadO 10 rfl Try.isAgg27 rfl rfl rfl | exact Y.loadO 11 rfl Try.isAgg27 rfl rfl rfl | exact Y.loadO 10 rfl Try.isAgg27 rfl rfl rfl | exact Y.loadO 11 rfl Try.isAgg27 rfl rfl rfl) ?_
            refine Jp.q 130 rfl (want_as rfl rfl rfl rfl) rfl rfl (Y.indexAddr (q := 0) rfl rfl rfl Try.underlying27 Try.sizeOf40 (by omega) (by omega) (by omega)) ?_
            refine Jp.q 131 rfl (want_as rfl rfl rfl rfl) rfl rfl (Y.loadAggR y.cells rfl Try.isAgg40 Try.sizeOf40 rfl rfl hcz) ?_
            refine Jp.q 132 rfl (want_as rfl rfl rfl rfl) rfl rfl (by first | exact Y.fieldAddrP rfl rfl Try.underlying29 rfl Try.sizeOf27 (by decide) (show _ + 1 = _ from rfl) | exact Y.fieldAddr rfl rfl Try.underlying29 rfl Try.sizeOf27 (by decide)) ?_
            refine Jp.q 133 rfl (want_as rfl rfl rfl rfl) rfl rfl (by first | exact Y.loadO 6 rfl Try.isAgg27 rfl rfl rfl | exact Y.loadO 7 rfl Try.isAgg27 rfl rfl rfl | exact Y.loadO 8 rfl Try.isAgg27 rfl rfl rfl | exact Y.loadO 9 rfl Try.isAgg27 rfl rfl rfl | exact Y.loadO 10 rfl Try.isAgg27 rfl rfl rfl | exact Y.loadO 11 rfl Try.isAgg27 rfl rfl rfl | exact Y.loadO 10 rfl Try.isAgg27 rfl rfl rfl | exact Y.loadO 11 rfl Try.isAgg27 rfl rfl rfl) ?_
            refine Jp.q 134 rfl (want_as rfl rfl rfl rfl) rfl rfl (by first | exact Y.fieldAddrP rfl rfl Try.underlying29 rfl Try.sizeOf27 (by decide) (show _ + 1 = _ from rfl) | exact Y.fieldAddr rfl rfl Try.underlying29 rfl Try.sizeOf27 (by decide)) ?_
            refine Jp.q 135 rfl (want_as rfl rfl rfl rfl) rfl rfl (by first | exact Y.loadO 6 rfl Try.isAgg27 rfl rfl rfl | exact Y.loadO 7 rfl Try.isAgg27 rfl rfl rfl | exact Y.loadO 8 rfl Try.isAgg27 rfl rfl rfl | exact Y.loadO 9 rfl Try.isAgg27 rfl rfl rfl | exact Y.loadO 10 rfl Try.isAgg27 rfl rfl rfl | exact Y.loadO 11 rfl Try.isAgg27 rfl rfl rfl | exact Y.loadO 10 rfl Try.isAgg27 rfl rfl rfl | exact Y.loadO 11 rfl Try.isAgg27 rfl rfl rfl) ?_
            refine Jp.q 136 rfl (want_as rfl rfl rfl rfl) rfl rfl (Y.lenslice rfl Try.underlying27 rfl) ?_
            refine Jp.q 137 rfl (want_as rfl rfl rfl rfl) rfl rfl (Y.indexAddr (q := a * 5) rfl rfl rfl Try.underlying27 Try.sizeOf40 (by omega) (by omega) (by omega)) ?_
            refine Jp.q 138 rfl (want_as rfl rfl rfl rfl) rfl rfl (Y.loadAggR y.cells rfl Try.isAgg40 Try.sizeOf40 rfl rfl hcy) ?_
            refine Jp.q 139 rfl (want_as rfl rfl rfl rfl) rfl rfl (Y.eqlS (xs := y.cells.toArray) (ys := y.cells.toArray) (r := true) rfl rfl rfl ins_guard ins_fields ins_stood (fun w => by rw [ins_eq, (insEq_iff _ _).2 rfl])) ?_
            refine Jp.q 140 rfl (want_all rfl) rfl rfl (Y.pickT rfl rfl rfl) ?_
            refine Jp.q 141 rfl (want_all rfl) rfl rfl (Y.move rfl rfl) ?_
            refine Jp.q 142 rfl (want_as rfl rfl rfl rfl) rfl rfl (by first | exact Y.fieldAddrP rfl rfl Try.underlying29 rfl Try.sizeOf27 (by decide) (show _ + 1 = _ from rfl) | exact Y.fieldAddr rfl rfl Try.underlying29 rfl Try.sizeOf27 (by decide)) ?_
            refine Jp.q 143 rfl (want_as rfl rfl rfl rfl) rfl rfl (by first | exact Y.loadO 6 rfl Try.isAgg27 rfl rfl rfl | exact Y.loadO 7 rfl Try.isAgg27 rfl rfl rfl | exact Y.loadO 8 rfl Try.isAgg27 rfl rfl rfl | exact Y.loadO 9 rfl Try.isAgg27 rfl rfl rfl | exact Y.loadO 10 rfl Try.isAgg27 rfl rfl rfl | exact Y.loadO 11 rfl Try.isAgg27 rfl rfl rfl | exact Y.loadO 10 rfl Try.isAgg27 rfl rfl rfl | exact Y.loadO 11 rfl Try.isAgg27 rfl rfl rfl) ?_
            refine Jp.q 144 rfl (want_as rfl rfl rfl rfl) rfl rfl (Y.lenslice rfl Try.underlying27 rfl) ?_
            refine Jp.q 145 rfl (want_as rfl rfl rfl rfl) rfl rfl (Y.move rfl rfl) ?_
            refine Jp.q 146 rfl (want_as rfl rfl rfl rfl) rfl rfl (Y.eql rfl rfl rfl) ?_
            refine Jp.slot 146 rfl (show _ = Value.bool true from congrArg Value.bool (by simp; omega)) ?_
            refine Jp.q 147 rfl (want_all rfl) rfl rfl (Y.pickT rfl rfl rfl) ?_
            refine Jp.q 8 rfl (want_all rfl) rfl rfl (Y.assign rfl rfl) ?_
            refine Jp.done hK33 ?_
            refine Cd.ret [] rfl (res1 rfl rfl) trivial ⟨rfl, rfl⟩
end Go.Proofs.Ytgmhijlcdadaeaa
