/- Law 18: BlockFresh. -/
import Derived.Test.YtogllfnadgikiaaRvG
set_option linter.unusedVariables false
set_option linter.unusedSimpArgs false
set_option maxRecDepth 100000
namespace Go.Proofs.Ytogllfnadgikiaa
open Go
structure FInv (M : MemG) (g : Nat) : Prop where
  keys : ((M.pages.map (·.1)).filter (inS 4096 1)).length = 1
  has : (getPg M.pages 4096).isSome = true
  gen : M.gens 4096 = g
theorem finv_store {M : MemG} {g : Nat} (h : FInv M g) (v : Nat) : FInv (storeM M 65536 4 v).2 g := by
  rw [storeM]
  split
  · split
    · rename_i p hp
      refine ⟨by show (((setPg _ _ _).map (·.1)).filter _).length = 1; rw [setPg_keys]; exact h.keys, ?_, ?_⟩
      · show (getPg (setPg _ _ _) 4096).isSome = true
        rw [getPg_set, if_neg (by decide)]; exact h.has
      · show bump M.gens (baseN 65536) 4096 = g
        unfold bump; rw [if_neg (by decide)]; exact h.gen
    · exact h
  · exact h
theorem permIn_keys (M : MemG) (a many perm : Nat) : (permIn M a many perm).pages.map (·.1) = M.pages.map (·.1) := by
  unfold permIn
  dsimp only
  rw [List.map_map]
  apply List.map_congr_left
  intro y _
  simp only [Function.comp]
  split <;> rfl
theorem finv_protect {M : MemG} {g : Nat} (h : FInv M g) : FInv (protectM M 4096 256 5).2 ((g + 1) % 4294967296) := by
  have hs : stretch 4096 256 = some 1 := by decide
  have e : protectM M 4096 256 5 = (0, permIn M 4096 1 5) := protect_yes (perm := 5) hs (by omega) (by rw [within_keys, h.keys])
  rw [e]
  refine ⟨by rw [permIn_keys]; exact h.keys, by rw [permIn_get]; simpa using h.has, ?_⟩
  show bumpS M (inS 4096 1) 4096 = _
  unfold bumpS
  rw [h.has, h.gen, if_pos (by decide)]
theorem finv_unmap {M : MemG} {g : Nat} (h : FInv M g) : FInv (unmapM M 65792 256).2 g := by
  have hs : stretch 65792 256 = some 1 := by decide
  rw [unmap_yes hs]
  refine ⟨?_, by rw [dropIn_get, if_neg (by decide)]; exact h.has, ?_⟩
  · have : ((dropIn M 65792 1).pages.map (·.1)).filter (inS 4096 1) = (M.pages.map (·.1)).filter (inS 4096 1) := by
      unfold dropIn
      dsimp only
      rw [List.filter_map, List.filter_map, List.filter_filter]
      congr 1
      apply List.filter_congr
      intro y _
      simp only [Function.comp, inS]
      by_cases h1 : 4096 ≤ y.1 <;> by_cases h2 : y.1 < 4096 + 1 * 256 <;> simp [h1, h2] <;> omega
    rw [this]; exact h.keys
  · show bumpS M (inS 65792 1) 4096 = g
    unfold bumpS
    rw [if_neg (by simp [inS])]
    exact h.gen
theorem getPg_some {l : List (Nat × Pg)} {k : Nat} (h : k ∈ l.map (·.1)) : (getPg l k).isSome = true := by
  induction l with
  | nil => simp at h
  | cons y l ih =>
    obtain ⟨y, p⟩ := y
    rw [getPg]
    by_cases e : y = k
    · simp [e]
    · rw [if_neg e]
      apply ih
      simp only [List.map_cons, List.mem_cons] at h
      exact h.resolve_left (Ne.symm e)
theorem writeM_keys (M : MemG) (a : Nat) (l : Bytes) (n need : Int) : (writeM M a l n need).2.pages.map (·.1) = M.pages.map (·.1) := by
  rw [writeM]
  split
  · rfl
  · split
    · rfl
    · exact wrM_keys ..
theorem made_keys (xs : List Int) : (madeM xs).pages.map (·.1) = [4096, 65536, 65792] := by
  rw [madeM, writeM_keys, writeM_keys]; decide +kernel
theorem finv_made (xs : List Int) : FInv (madeM xs) ((madeM xs).gens 4096) := ⟨by rw [made_keys]; decide, getPg_some (by rw [made_keys]; simp), rfl⟩
theorem find_none {M : MemG} {pc : Nat} {most : Int} (hpc : pc < 4294967296) (h : findL M pc (mostP most) 0 = []) : (fetchP M pc).2.kind ≠ 0 := by
  obtain ⟨m, hm⟩ : ∃ m, mostP most = m + 1 := ⟨mostP most - 1, by unfold mostP; omega⟩
  have h0 : atP pc 0 = pc := by unfold atP; omega
  rw [hm, findL, h0] at h
  intro hk
  rw [if_pos ⟨rfl, hk⟩] at h
  cases h
theorem blockFresh_spec (s l : Sl Int) (hs : ∀ x ∈ s.xs, ∃ m : Nat, x = m ∧ m < 4294967296) : Spec Try.prog 6 #[s.v, l.v] (fun h => RdI .u32 s h ∧ RdI .i64 l h) [] (fun ρ ρ' v L => v = .bool true ∧ L = []) := by
  obtain ⟨A, c, xs⟩ := s
  obtain ⟨A2, c2, xl⟩ := l
  dsimp only [Sl.v]
  refine Spec.of 62 Try.func6 rfl Try.ntmps6 [(0, _), (1, _)] rfl rfl ?_
  intro cx ρ hr h0
  obtain ⟨hrs, hrl2⟩ := hr
  have lx : xs.length ≤ 281474976710656 := hrs.2.1.2
  have ll : xl.length ≤ 281474976710656 := hrl2.2.1.2
  refine Cd.seq fun K1 hK1 => ?_
  refine Cd.plain [(0, false)] rfl rfl ?_
  refine Jp.y 4 rfl (want_all rfl) rfl rfl Kp.true (Y.assign rfl rfl) ?_
  refine Jp.done hK1 ?_
  refine Cd.seq fun K2 hK2 => ?_
  refine Cd.seq fun K3 hK3 => ?_
  refine Cd.plain [(0, false), (1, false)] rfl rfl ?_
  refine Jp.call [] [] awake18_spec 10 rfl (want_all rfl) rfl rfl (Runs.fn rfl Try.call15 rfl) (by decide) (by decide) rfl trivial ?_
  rintro v1 ρ1 L1 ⟨rfl, rfl⟩
  refine ⟨rfl, fun hle1 => ⟨Kp.true, ?_⟩⟩
  have hrs := RdI.up _ _ _ _ hle1 hrs
  have hrl2 := RdI.up _ _ _ _ hle1 hrl2
  refine Jp.y 11 rfl (want_all rfl) rfl rfl Kp.true (Y.not rfl rfl) ?_
  refine Jp.done hK3 ?_
  refine Cd.cond rfl (fun g11 => ?_) (fun g11 => ?_)
  · skip
    exact absurd g11 (by simp)
  try simp only [decide_eq_false_iff_not, decide_eq_true_eq, Int.not_lt, Int.not_le, Bool.not_eq_false, Bool.not_eq_true, Bool.not_true, Bool.not_false, Bool.not_eq_true', Bool.not_eq_false', beq_eq_false_iff_ne, ne_eq, beq_iff_eq, bne_iff_ne, bne_eq_false_iff_eq, Classical.not_not] at g11
  refine Cd.skip hK2 ?_
  refine Cd.seq fun K4 hK4 => ?_
  refine Cd.seq fun K5 hK5 => ?_
  refine Cd.plain [(0, false), (1, false), (2, false), (3, false), (4, false), (5, false), (6, false), (7, false)] rfl rfl ?_
  refine Jp.y 12 rfl (want_all rfl) rfl rfl Kp.true (Y.move rfl rfl) ?_
  refine Jp.y 13 rfl (want_all rfl) rfl rfl Kp.true (Y.lenslice rfl Try.underlying26 rfl) ?_
  refine Jp.y 14 rfl (want_all rfl) rfl rfl Kp.true (Y.gtr rfl rfl rfl) ?_
  refine Jp.y 15 rfl (want_all rfl) rfl rfl Kp.true (Y.move rfl rfl) ?_
  refine Jp.split 15 rfl (fun g15 => ?_) (fun g15 => ?_)
  · skip
    refine Jp.skip 16 rfl (want_as rfl rfl rfl rfl) rfl rfl Kp.true ?_
    refine Jp.skip 17 rfl (want_as rfl rfl rfl rfl) rfl rfl Kp.true ?_
    refine Jp.skip 18 rfl (want_as rfl rfl rfl rfl) rfl rfl Kp.true ?_
    refine Jp.y 19 rfl (want_all rfl) rfl rfl Kp.true (Y.pickT rfl rfl rfl) ?_
    refine Jp.done hK5 ?_
    refine Cd.condT rfl ?_
    refine Cd.seq fun K6 hK6 => ?_
    refine Cd.plain [(0, false)] rfl rfl ?_
    refine Jp.y 4 rfl (want_all rfl) rfl rfl Kp.true (Y.assign rfl rfl) ?_
    refine Jp.done hK6 ?_
    refine Cd.ret [] rfl (res1 rfl rfl) trivial ⟨rfl, rfl⟩
  try simp only [decide_eq_false_iff_not, decide_eq_true_eq, Int.not_lt, Int.not_le, Bool.not_eq_false, Bool.not_eq_true, Bool.not_true, Bool.not_false, Bool.not_eq_true', Bool.not_eq_false', beq_eq_false_iff_ne, ne_eq, beq_iff_eq, bne_iff_ne, bne_eq_false_iff_eq, Classical.not_not] at g15
  refine Jp.y 16 rfl (want_as rfl rfl rfl rfl) rfl rfl Kp.true (Y.move rfl rfl) ?_
  refine Jp.y 17 rfl (want_as rfl rfl rfl rfl) rfl rfl Kp.true (Y.lenslice rfl Try.underlying46 rfl) ?_
  refine Jp.y 18 rfl (want_as rfl rfl rfl rfl) rfl rfl Kp.true (Y.gtr rfl rfl rfl) ?_
  refine Jp.y 19 rfl (want_all rfl) rfl rfl Kp.true (Y.pickF rfl rfl rfl) ?_
  refine Jp.done hK5 ?_
  refine Cd.cond rfl (fun g19 => ?_) (fun g19 => ?_)
  · skip
    refine Cd.seq fun K7 hK7 => ?_
    refine Cd.plain [(0, false)] rfl rfl ?_
    refine Jp.y 4 rfl (want_all rfl) rfl rfl Kp.true (Y.assign rfl rfl) ?_
    refine Jp.done hK7 ?_
    refine Cd.ret [] rfl (res1 rfl rfl) trivial ⟨rfl, rfl⟩
  try simp only [decide_eq_false_iff_not, decide_eq_true_eq, Int.not_lt, Int.not_le, Bool.not_eq_false, Bool.not_eq_true, Bool.not_true, Bool.not_false, Bool.not_eq_true', Bool.not_eq_false', beq_eq_false_iff_ne, ne_eq, beq_iff_eq, bne_iff_ne, bne_eq_false_iff_eq, Classical.not_not] at g19
  refine Cd.skip hK4 ?_
  refine Cd.seq fun K8 hK8 => ?_
  refine Cd.plain [(0, false), (1, false), (2, false)] rfl rfl ?_
  refine Jp.y 20 rfl (want_all rfl) rfl rfl Kp.true (Y.move rfl rfl) ?_
  refine Jp.call [] [0] (made_spec A c xs hs) 21 rfl (want_all rfl) rfl rfl (Runs.fn rfl Try.call16 rfl) (by decide) (by decide) rfl hrs ?_
  rintro v2 ρ2 L2 ⟨b, rfl, rfl⟩
  refine ⟨rfl, fun hle2 => ⟨Kp.true, ?_⟩⟩
  have hrl2 := RdI.up _ _ _ _ hle2 hrl2
  have hI := finv_made xs
  obtain ⟨M, hM⟩ : ∃ M, madeM xs = M := ⟨_, rfl⟩
  rw [hM] at hI ⊢
  obtain ⟨g0, hg0⟩ : ∃ g, M.gens 4096 = g := ⟨_, rfl⟩
  rw [hg0] at hI
  by_cases hT : findL M 4096 (mostP 8) 0 = []
  · have hk := find_none (by omega) hT
    obtain ⟨e, he⟩ : ∃ e, (fetchP M 4096).2 = e := ⟨_, rfl⟩
    rw [he] at hk
    obtain ⟨kd, ad, wy⟩ := e
    dsimp only at hk
    refine Jp.y 5 rfl (want_all rfl) rfl rfl Kp.true (Y.assign rfl rfl) ?_
    refine Jp.done hK8 ?_
    refine Cd.seq fun K9 hK9 => ?_
    refine Cd.plain [(0, false), (1, false), (2, false), (3, false), (4, false), (5, false), (6, false), (7, false), (8, false)] rfl rfl ?_
    refine Jp.y 23 rfl (want_all rfl) rfl rfl Kp.true (Y.move rfl rfl) ?_
    refine Jp.call [0] [0] (find_no (e := ⟨kd, ad, wy⟩) (by omega) hT he) 24 rfl (want_all rfl) rfl rfl (Runs.fn rfl Try.call17 rfl) (by decide) (by decide) rfl trivial ?_
    rintro v3 ρ3 L3 ⟨rfl, rfl, rfl⟩
    refine ⟨rfl, fun hle3 => ⟨Kp.true, ?_⟩⟩
    refine Jp.y 22 rfl (want_all rfl) rfl rfl Kp.true (Y.move rfl rfl) ?_
    refine Jp.y 25 rfl (want_all rfl) rfl rfl Kp.true (Y.extract rfl rfl rfl) ?_
    refine Jp.y 26 rfl (want_all rfl) rfl rfl Kp.true (Y.extract rfl rfl rfl) ?_
    refine Jp.alloc 6 6 rfl (want_all rfl) rfl rfl rfl Try.zeroValue29 fun b6 => ⟨Kp.true, ?_⟩
    refine Jp.alloc 7 7 rfl (want_all rfl) rfl rfl rfl Try.zeroValue32 fun b7 => ⟨Kp.true, ?_⟩
    first | refine Jp.storeAgg 6 rfl (want_all rfl) rfl rfl Try.sizeOf29 rfl rfl rfl rfl rfl rfl (fun k _ _ => noFr0 k) Kp.true ?_ | refine Jp.storeAgg 7 rfl (want_all rfl) rfl rfl Try.sizeOf29 rfl rfl rfl rfl rfl rfl (fun k _ _ => noFr0 k) Kp.true ?_
    first | refine Jp.storeAgg 6 rfl (want_all rfl) rfl rfl Try.sizeOf32 rfl rfl rfl rfl rfl rfl (fun k _ _ => noFr0 k) Kp.true ?_ | refine Jp.storeAgg 7 rfl (want_all rfl) rfl rfl Try.sizeOf32 rfl rfl rfl rfl rfl rfl (fun k _ _ => noFr0 k) Kp.true ?_
    refine Jp.done hK9 ?_
    refine Cd.seq fun K10 hK10 => ?_
    refine Cd.seq fun K11 hK11 => ?_
    refine Cd.plain [(0, false), (1, false), (2, false)] rfl rfl ?_
    refine Jp.imp (j := 7) rfl (fun h hh => (show Pt b7 (.cells #[Value.int .i64 (kd : Int), Value.int .u32 (ad : Int), Value.int .i64 wy] 32) h from hh)) ?_
    refine Jp.y 27 rfl (want_all rfl) rfl rfl Kp.true (by first | exact Y.fieldAddrP rfl rfl Try.underlying32 rfl Try.sizeOf3 (by decide) (show _ + 0 = _ from rfl) | exact Y.fieldAddr rfl rfl Try.underlying32 rfl Try.sizeOf3 (by decide)) ?_
    refine Jp.y 28 rfl (want_all rfl) rfl rfl Kp.true (by first | exact Y.loadO 6 rfl Try.isAgg3 rfl rfl rfl | exact Y.loadO 7 rfl Try.isAgg3 rfl rfl rfl) ?_
    refine Jp.y 29 rfl (want_all rfl) rfl rfl Kp.true (Y.neq rfl rfl rfl) ?_
    refine Jp.done hK11 ?_
    refine Cd.cond rfl (fun ge => ?_) (fun ge => ?_)
    · skip
      refine Cd.seq fun K12 hK12 => ?_
      refine Cd.plain [(0, false)] rfl rfl ?_
      refine Jp.y 4 rfl (want_all rfl) rfl rfl Kp.true (Y.assign rfl rfl) ?_
      refine Jp.done hK12 ?_
      refine Cd.ret [] rfl (res1 rfl rfl) trivial ⟨rfl, rfl⟩
    · exact absurd (by simpa using ge) hk
  · obtain ⟨T, hTe⟩ : ∃ T, findL M 4096 (mostP 8) 0 = T := ⟨_, rfl⟩
    have hne : T ≠ [] := by rw [← hTe]; exact hT
    refine Jp.y 5 rfl (want_all rfl) rfl rfl Kp.true (Y.assign rfl rfl) ?_
    refine Jp.done hK8 ?_
    refine Cd.seq fun K13 hK13 => ?_
    refine Cd.plain [(0, false), (1, false), (2, false), (3, false), (4, false), (5, false), (6, false), (7, false), (8, false)] rfl rfl ?_
    refine Jp.y 23 rfl (want_all rfl) rfl rfl Kp.true (Y.move rfl rfl) ?_
    refine Jp.call [0] [0, 1] (find_yes (by omega) hTe hne) 24 rfl (want_all rfl) rfl rfl (Runs.fn rfl Try.call17 rfl) (by decide) (by decide) rfl trivial ?_
    rintro v4 ρ4 L4 ⟨rfl, B, d, rfl, rfl⟩
    refine ⟨rfl, fun hle4 => ⟨Kp.true, ?_⟩⟩
    have hb : baseN 4096 = 4096 := by decide
    rw [hb, hg0]
    refine Jp.y 22 rfl (want_all rfl) rfl rfl Kp.true (Y.move rfl rfl) ?_
    refine Jp.y 25 rfl (want_all rfl) rfl rfl Kp.true (Y.extract rfl rfl rfl) ?_
    refine Jp.y 26 rfl (want_all rfl) rfl rfl Kp.true (Y.extract rfl rfl rfl) ?_
    refine Jp.alloc 6 6 rfl (want_all rfl) rfl rfl rfl Try.zeroValue29 fun b6 => ⟨Kp.true, ?_⟩
    refine Jp.alloc 7 7 rfl (want_all rfl) rfl rfl rfl Try.zeroValue32 fun b7 => ⟨Kp.true, ?_⟩
    first | refine Jp.storeAgg 6 rfl (want_all rfl) rfl rfl Try.sizeOf29 rfl rfl rfl rfl rfl rfl (fun k _ _ => noFr0 k) Kp.true ?_ | refine Jp.storeAgg 7 rfl (want_all rfl) rfl rfl Try.sizeOf29 rfl rfl rfl rfl rfl rfl (fun k _ _ => noFr0 k) Kp.true ?_ | refine Jp.storeAgg 6 rfl (want_all rfl) rfl rfl Try.sizeOf29 rfl rfl rfl rfl rfl rfl (fun k _ _ => noFr0 k) Kp.true ?_ | refine Jp.storeAgg 7 rfl (want_all rfl) rfl rfl Try.sizeOf29 rfl rfl rfl rfl rfl rfl (fun k _ _ => noFr0 k) Kp.true ?_
    first | refine Jp.storeAgg 6 rfl (want_all rfl) rfl rfl Try.sizeOf32 rfl rfl rfl rfl rfl rfl (fun k _ _ => noFr0 k) Kp.true ?_ | refine Jp.storeAgg 7 rfl (want_all rfl) rfl rfl Try.sizeOf32 rfl rfl rfl rfl rfl rfl (fun k _ _ => noFr0 k) Kp.true ?_ | refine Jp.storeAgg 6 rfl (want_all rfl) rfl rfl Try.sizeOf32 rfl rfl rfl rfl rfl rfl (fun k _ _ => noFr0 k) Kp.true ?_ | refine Jp.storeAgg 7 rfl (want_all rfl) rfl rfl Try.sizeOf32 rfl rfl rfl rfl rfl rfl (fun k _ _ => noFr0 k) Kp.true ?_
    refine Jp.done hK13 ?_
    refine Cd.seq fun K14 hK14 => ?_
    refine Cd.seq fun K15 hK15 => ?_
    refine Cd.plain [(0, false), (1, false), (2, false)] rfl rfl ?_
    refine Jp.imp (j := 7) rfl (fun h hh => (show Pt b7 (.cells #[Value.int .i64 0, Value.int .u32 0, Value.int .i64 0] 32) h from hh)) ?_
    refine Jp.imp (j := 6) rfl (fun h hh => (show Pt b6 (.cells (blockC 4096 B T.length d g0).toArray 29) h from hh)) ?_
    refine Jp.y 27 rfl (want_all rfl) rfl rfl Kp.true (by first | exact Y.fieldAddrP rfl rfl Try.underlying32 rfl Try.sizeOf3 (by decide) (show _ + 0 = _ from rfl) | exact Y.fieldAddr rfl rfl Try.underlying32 rfl Try.sizeOf3 (by decide)) ?_
    refine Jp.y 28 rfl (want_all rfl) rfl rfl Kp.true (by first | exact Y.loadO 6 rfl Try.isAgg3 rfl rfl rfl | exact Y.loadO 7 rfl Try.isAgg3 rfl rfl rfl) ?_
    refine Jp.y 29 rfl (want_all rfl) rfl rfl Kp.true (Y.neq rfl rfl rfl) ?_
    refine Jp.done hK15 ?_
    refine Cd.cond rfl (fun ge => ?_) (fun ge => ?_)
    · exact absurd ge (by simp)
    · skip
      refine Cd.skip hK14 ?_
      refine Cd.seq fun K16 hK16 => ?_
      refine Cd.plain [(0, false)] rfl rfl ?_
      refine Jp.y 8 rfl (want_all rfl) rfl rfl Kp.true (Y.assign rfl rfl) ?_
      refine Jp.done hK16 ?_
      refine Cd.seq fun K17 hK17 => ?_
      refine Cd.seq fun K18 hK18 => ?_
      refine Cd.plain [(0, false)] rfl rfl ?_
      refine Jp.y 9 rfl (want_all rfl) rfl rfl Kp.true (Y.assign rfl rfl) ?_
      refine Jp.done hK18 ?_
      refine Cd.block ?_
      refine Cd.loopK (G := Nat × MemG × Nat) (fun g => g.1 ≤ xl.length ∧ g.2.2 ≤ g.1 ∧ FInv g.2.1 (if g.2.2 = 0 then g0 else (g0 + g.2.2) % 4294967296)) (fun g => xl.length - g.1) (fun _ => _) (fun g => [(8, .bool (decide (g.2.2 = 0))), (9, .int .i64 (g.1 : Int))]) [(1, _), (5, _), (6, _)] (fun g => [(0, MemO b g.2.1)]) [(6, _)] ⟨0, M, 0⟩ ⟨Nat.zero_le _, Nat.le_refl _, hI⟩ rfl ⟨rfl, rfl, trivial⟩ ⟨rfl, rfl, rfl, trivial⟩ ⟨rfl, trivial⟩ ⟨rfl, trivial⟩ (fun g KLa hok hLa => ?_)
      clear hI hT hTe hg0 hM M
      obtain ⟨i, M, k⟩ := g
      obtain ⟨ok1, ok2, hI⟩ := hok
      dsimp only at ok1 ok2 hI ⊢
      refine Cd.seq fun K19 hK19 => ?_
      refine Cd.seq fun K20 hK20 => ?_
      refine Cd.plain [(0, false), (1, false), (2, false), (3, false)] rfl rfl ?_
      refine Jp.y 30 rfl (want_all rfl) rfl rfl Kp.true (Y.move rfl rfl) ?_
      refine Jp.y 31 rfl (want_all rfl) rfl rfl Kp.true (Y.move rfl rfl) ?_
      refine Jp.y 32 rfl (want_all rfl) rfl rfl Kp.true (Y.lenslice rfl Try.underlying46 rfl) ?_
      refine Jp.y 33 rfl (want_all rfl) rfl rfl Kp.true (Y.lss rfl rfl rfl) ?_
      refine Jp.done hK20 ?_
      refine Cd.cond rfl (fun ga => ?_) (fun ga => ?_)
      · simp only [decide_eq_true_eq] at ga
        have hi : i < xl.length := by omega
        obtain ⟨x, hx⟩ : ∃ x, x = xl[i] := ⟨_, rfl⟩
        obtain ⟨ad2, hA2, hc2⟩ := hrl2.2.2 i (.int .i64 x) (by simp [intsV, hi, hx])
        subst hA2
        refine Cd.skip hK19 ?_
        refine Cd.seq fun K21 hK21 => ?_
        refine Cd.block ?_
        refine Cd.seq fun K22 hK22 => ?_
        refine Cd.seq fun K23 hK23 => ?_
        refine Cd.plain [(0, false), (1, false), (2, false), (3, false), (4, false)] rfl rfl ?_
        refine Jp.y 36 rfl (want_all rfl) rfl rfl Kp.true (Y.move rfl rfl) ?_
        refine Jp.y 37 rfl (want_all rfl) rfl rfl Kp.true (Y.move rfl rfl) ?_
        refine Jp.y 38 rfl (want_all rfl) rfl rfl Kp.true (Y.indexAddr (q := i) rfl rfl rfl Try.underlying46 Try.sizeOf3 (by omega) (by omega) (by omega)) ?_
        refine Jp.y 39 rfl (want_all rfl) rfl rfl Kp.true (by first | exact Y.loadO 6 rfl Try.isAgg3 rfl rfl rfl | exact Y.loadO 7 rfl Try.isAgg3 rfl rfl rfl | exact Y.loadR rfl Try.isAgg3 rfl hc2) ?_
        refine Jp.y 40 rfl (want_all rfl) rfl rfl Kp.true (Y.bits rfl rfl rfl rfl) ?_
        refine Jp.done hK23 ?_
        refine Cd.block ?_
        refine Cd.seq fun K24 hK24 => ?_
        refine Cd.plain [(0, false), (1, false)] rfl rfl ?_
        obtain ⟨y, hy⟩ : ∃ y, y = bitsB .and .i64 x 3 := ⟨_, rfl⟩
        refine Jp.slot 40 rfl (show _ = Value.int .i64 y from congrArg (Value.int .i64) hy.symm) ?_
        refine Jp.joinG (G := MemG × Nat) (fun z => z.2 ≤ i + 1 ∧ FInv z.1 (if z.2 = 0 then g0 else (g0 + z.2) % 4294967296)) (fun z => [(8, .bool (decide (z.2 = 0)))]) [(1, _), (5, _), (6, _), (9, _)] ⟨rfl, rfl, rfl, rfl, trivial⟩ (fun z => [(0, MemO b z.1)]) [(6, _)] ⟨rfl, trivial⟩ hK22 (fun g hφ => ?_) (fun hj1 => ?_)
        · obtain ⟨M2, k2⟩ := g
          obtain ⟨p1, p2⟩ := hφ
          dsimp only at p1 p2 ⊢
          refine Cd.seq fun K25 hK25 => ?_
          refine Cd.plain [(0, false), (1, false), (2, false), (3, false), (4, false)] rfl rfl ?_
          refine Jp.y 57 rfl (want_all rfl) rfl rfl Kp.true (Y.move rfl rfl) ?_
          refine Jp.y 58 rfl (want_all rfl) rfl rfl Kp.true (by first | exact Y.loadAggO 6 rfl Try.isAgg29 Try.sizeOf29 rfl rfl rfl) ?_
          refine Jp.call [0] [0] (fresh_spec b M2 4096 g0 T.length d B (by omega)) 59 rfl (want_all rfl) rfl rfl (Runs.fn rfl Try.call18 rfl) (by decide) (by decide) rfl trivial ?_
          rintro v5 ρ5 L5 ⟨rfl, rfl, rfl⟩
          refine ⟨rfl, fun hle5 => ⟨Kp.true, ?_⟩⟩
          rw [hb, p2.gen]
          have hcmp : ((((if k2 = 0 then g0 else (g0 + k2) % 4294967296 : Nat) : Int) == (g0 : Int))) = decide (k2 = 0) := by
            by_cases h : k2 = 0
            · simp [h]
            · rw [if_neg h, decide_eq_false h]
              simp only [beq_eq_false_iff_ne, ne_eq]
              omega
          rw [hcmp]
          refine Jp.y 60 rfl (want_all rfl) rfl rfl Kp.true (Y.move rfl rfl) ?_
          refine Jp.y 61 rfl (want_all rfl) rfl rfl Kp.true (Y.bneq rfl Try.underlying4 rfl rfl) ?_
          refine Jp.done hK25 ?_
          refine Cd.cond rfl (fun gz => ?_) (fun gz => ?_)
          · exact absurd gz (by simp)
          · skip
            refine Cd.over rfl hK21 ?_
            refine Cd.plain [(0, false), (1, false), (2, false)] rfl rfl ?_
            refine Jp.y 34 rfl (want_all rfl) rfl rfl Kp.true (Y.move rfl rfl) ?_
            refine Jp.y 35 rfl (want_all rfl) rfl rfl Kp.true (Y.add_ rfl rfl rfl (by first | exact wrap_i64 (by omega) (by omega) | rfl)) ?_
            refine Jp.y 9 rfl (want_all rfl) rfl rfl Kp.true (Y.assign rfl rfl) ?_
            rw [show (i : Int) + 1 = ((i + 1 : Nat) : Int) by omega]
            refine Jp.again hLa ⟨i + 1, M2, k2⟩ ⟨hi, p1, p2⟩ (by show xl.length - (i + 1) < xl.length - i; omega) rfl ⟨rfl, rfl, rfl, rfl, rfl, trivial⟩ ⟨rfl, rfl, trivial⟩
        · skip
          refine Jp.y 44 rfl (want_all rfl) rfl rfl Kp.true (Y.eql rfl rfl rfl) ?_
          refine Jp.y 43 rfl (want_all rfl) rfl rfl Kp.true (Y.assign rfl rfl) ?_
          refine Jp.done hK24 ?_
          refine Cd.cond rfl (fun c0 => ?_) (fun c0 => ?_)
          · skip
            refine Cd.plain [(0, false), (1, false), (2, false), (3, false)] rfl rfl ?_
            refine Jp.y 45 rfl (want_all rfl) rfl rfl Kp.true (Y.move rfl rfl) ?_
            refine Jp.y 46 rfl (want_all rfl) rfl rfl Kp.true (Y.move rfl rfl) ?_
            refine Jp.y 47 rfl (want_all rfl) rfl rfl Kp.true (Y.conv_ rfl rfl Try.underlying3 Try.underlying25 (by first | exact wrap_u32 (by omega) (by omega) | rfl)) ?_
            refine Jp.call [0] [0] (store_spec b M 65536 4 i (by omega) (by omega)) 48 rfl (want_all rfl) rfl rfl (Runs.fn rfl Try.call22 rfl) (by decide) (by decide) rfl trivial ?_
            rintro v6 ρ6 L6 ⟨rfl, rfl, rfl⟩
            refine ⟨rfl, fun hle6 => ⟨Kp.true, ?_⟩⟩
            refine Jp.over rfl hK22 ?_
            exact Cd.meet (hj1 ⟨_, k⟩ ⟨by show k ≤ i + 1; omega, finv_store hI i⟩) ⟨rfl, rfl, rfl, rfl, rfl, trivial⟩ ⟨rfl, rfl, trivial⟩
          · skip
            refine Cd.seq fun K26 hK26 => ?_
            refine Cd.plain [(0, false), (1, false)] rfl rfl ?_
            refine Jp.y 50 rfl (want_all rfl) rfl rfl Kp.true (Y.eql rfl rfl rfl) ?_
            refine Jp.y 49 rfl (want_all rfl) rfl rfl Kp.true (Y.assign rfl rfl) ?_
            refine Jp.done hK26 ?_
            refine Cd.cond rfl (fun c1 => ?_) (fun c1 => ?_)
            · skip
              refine Cd.plain [(0, false), (1, false)] rfl rfl ?_
              refine Jp.y 51 rfl (want_all rfl) rfl rfl Kp.true (Y.move rfl rfl) ?_
              refine Jp.call [0] [0] (load_spec b M 4096 4 1 (by omega)) 52 rfl (want_all rfl) rfl rfl (Runs.fn rfl Try.call23 rfl) (by decide) (by decide) rfl trivial ?_
              rintro v7 ρ7 L7 ⟨rfl, rfl, rfl⟩
              refine ⟨rfl, fun hle7 => ⟨Kp.true, ?_⟩⟩
              refine Jp.over rfl hK22 ?_
              exact Cd.meet (hj1 ⟨M, k⟩ ⟨by show k ≤ i + 1; omega, hI⟩) ⟨rfl, rfl, rfl, rfl, rfl, trivial⟩ ⟨rfl, rfl, trivial⟩
            · skip
              refine Cd.seq fun K27 hK27 => ?_
              refine Cd.plain [(0, false), (1, false)] rfl rfl ?_
              refine Jp.y 54 rfl (want_all rfl) rfl rfl Kp.true (Y.eql rfl rfl rfl) ?_
              refine Jp.y 53 rfl (want_all rfl) rfl rfl Kp.true (Y.assign rfl rfl) ?_
              refine Jp.done hK27 ?_
              refine Cd.cond rfl (fun c2 => ?_) (fun c2 => ?_)
              · skip
                refine Cd.seq fun K28 hK28 => ?_
                refine Cd.plain [(0, false), (1, false)] rfl rfl ?_
                refine Jp.y 55 rfl (want_all rfl) rfl rfl Kp.true (Y.move rfl rfl) ?_
                refine Jp.call [0] [0] (protect_spec b M 4096 256 5 (by omega) (by omega)) 56 rfl (want_all rfl) rfl rfl (Runs.fn rfl Try.call24 rfl) (by decide) (by decide) rfl trivial ?_
                rintro v8 ρ8 L8 ⟨rfl, rfl, rfl⟩
                refine ⟨rfl, fun hle8 => ⟨Kp.true, ?_⟩⟩
                refine Jp.done hK28 ?_
                refine Cd.plain [(0, false)] rfl rfl ?_
                refine Jp.y 8 rfl (want_all rfl) rfl rfl Kp.true (Y.assign rfl rfl) ?_
                refine Jp.over rfl hK22 ?_
                refine Cd.slot 8 rfl (show _ = Value.bool (decide (k + 1 = 0)) from congrArg Value.bool (by simp)) ?_
                have hP := finv_protect hI
                have hv : ((if k = 0 then g0 else (g0 + k) % 4294967296) + 1) % 4294967296 = if k + 1 = 0 then g0 else (g0 + (k + 1)) % 4294967296 := by
                  rw [if_neg (by omega : ¬ k + 1 = 0)]
                  by_cases h : k = 0
                  · simp [h]
                  · rw [if_neg h]; omega
                rw [hv] at hP
                exact Cd.meet (hj1 ⟨_, k + 1⟩ ⟨by show k + 1 ≤ i + 1; omega, hP⟩) ⟨rfl, rfl, rfl, rfl, rfl, trivial⟩ ⟨rfl, rfl, trivial⟩
              · skip
                refine Cd.plain [(0, false), (1, false)] rfl rfl ?_
                refine Jp.y 41 rfl (want_all rfl) rfl rfl Kp.true (Y.move rfl rfl) ?_
                refine Jp.call [0] [0] (unmap_spec b M 65792 256 (by omega) (by omega)) 42 rfl (want_all rfl) rfl rfl (Runs.fn rfl Try.call25 rfl) (by decide) (by decide) rfl trivial ?_
                rintro v9 ρ9 L9 ⟨rfl, rfl, rfl⟩
                refine ⟨rfl, fun hle9 => ⟨Kp.true, ?_⟩⟩
                refine Jp.over rfl hK22 ?_
                exact Cd.meet (hj1 ⟨_, k⟩ ⟨by show k ≤ i + 1; omega, finv_unmap hI⟩) ⟨rfl, rfl, rfl, rfl, rfl, trivial⟩ ⟨rfl, rfl, trivial⟩
      · skip
        refine Cd.exit rfl hK17 ?_
        refine Cd.seq fun K29 hK29 => ?_
        refine Cd.plain [(0, false)] rfl rfl ?_
        refine Jp.y 4 rfl (want_all rfl) rfl rfl Kp.true (Y.assign rfl rfl) ?_
        refine Jp.done hK29 ?_
        refine Cd.ret [] rfl (res1 rfl rfl) trivial ⟨rfl, rfl⟩
end Go.Proofs.Ytogllfnadgikiaa
