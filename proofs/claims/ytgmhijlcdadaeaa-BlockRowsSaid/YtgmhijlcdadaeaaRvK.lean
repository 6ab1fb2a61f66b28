/- Law 18: BlockRows, the walk. -/
import Derived.Test.YtgmhijlcdadaeaaRvJ
set_option linter.unusedVariables false
set_option linter.unusedSimpArgs false
set_option maxRecDepth 100000
namespace Go.Proofs.Ytgmhijlcdadaeaa
open Go
theorem fetchP_ev {M : MemG} {pc : Nat} (h : (fetchP M pc).2.kind = 0) : (fetchP M pc).2 = noEv := by
  unfold fetchP at h ⊢
  split
  · split
    · rename_i h1 h2; rw [if_pos h1, if_pos h2] at h; exact absurd h (by simp)
    · rfl
  · rename_i h1; rw [if_neg h1] at h; exact absurd h (by simp)
theorem find_nil {M : MemG} {pc : Nat} {most : Int} (hpc : pc < 4294967296) (h : findL M pc (mostP most) 0 = []) : (fetchP M pc).2.kind ≠ 0 := by
  obtain ⟨m, hm⟩ : ∃ m, mostP most = m + 1 := ⟨mostP most - 1, by unfold mostP; omega⟩
  have h0 : atP pc 0 = pc := by unfold atP; omega
  rw [hm, findL, h0] at h
  intro hk
  rw [if_pos ⟨rfl, hk⟩] at h
  cases h
theorem bin_at {B : Option Addr} {d : Nat} {T : List InsP} {ρ : Hp} (r : RdS 5 B T.length d (T.flatMap InsP.cells) ρ) {i : Nat} {x : InsP} (e : T[i]? = some x) : ∃ ad, B = some ad ∧ Cells ρ (ad.add (i * 5)) x.cells := by
  obtain ⟨ad, h1, h2, _⟩ := RdRows.at (c := InsP.cells) (I := fun _ _ => True) (s := ⟨B, d, T⟩) (fun _ => rfl) (by decide) ⟨r, fun _ _ => trivial⟩ e
  exact ⟨ad, h1, h2⟩
theorem blockRows_spec (s : Sl Int) (pc : Nat) (most : Int) (hs : ∀ x ∈ s.xs, ∃ m : Nat, x = m ∧ m < 4294967296) (hpc : pc < 4294967296) : Spec Try.prog 4 #[s.v, .int .u32 pc, .int .i64 most] (RdI .u32 s) [] (fun ρ ρ' v L => v = .bool true ∧ L = []) := by
  obtain ⟨A, c, xs⟩ := s
  dsimp only [Sl.v]
  refine Spec.of 99 Try.func4 rfl Try.ntmps4 [(0, _), (1, _), (2, _)] rfl rfl ?_
  intro cx ρ hr h0
  have hrs := hr
  have lx : xs.length ≤ 281474976710656 := hrs.2.1.2
  refine Cd.seq fun K1 hK1 => ?_
  refine Cd.plain [(0, false)] rfl rfl ?_
  refine Jp.y 6 rfl (want_all rfl) rfl rfl Kp.true (Y.assign rfl rfl) ?_
  refine Jp.done hK1 ?_
  refine Cd.seq fun K2 hK2 => ?_
  refine Cd.seq fun K3 hK3 => ?_
  refine Cd.plain [(0, false), (1, false)] rfl rfl ?_
  refine Jp.call [] [] awake18_spec 14 rfl (want_all rfl) rfl rfl (Runs.fn rfl Try.call15 rfl) (by decide) (by decide) rfl trivial ?_
  rintro v1 ρ1 L1 ⟨rfl, rfl⟩
  refine ⟨rfl, fun hle1 => ⟨Kp.true, ?_⟩⟩
  have hrs := RdI.up _ _ _ _ hle1 hrs
  refine Jp.y 15 rfl (want_all rfl) rfl rfl Kp.true (Y.not rfl rfl) ?_
  refine Jp.done hK3 ?_
  refine Cd.cond rfl (fun g15 => ?_) (fun g15 => ?_)
  · skip
    exact absurd g15 (by simp)
  try simp only [decide_eq_false_iff_not, decide_eq_true_eq, Int.not_lt, Int.not_le, Bool.not_eq_false, Bool.not_eq_true, Bool.not_true, Bool.not_false, Bool.not_eq_true', Bool.not_eq_false', beq_eq_false_iff_ne, ne_eq, beq_iff_eq, bne_iff_ne, bne_eq_false_iff_eq, Classical.not_not] at g15
  refine Cd.skip hK2 ?_
  refine Cd.seq fun K4 hK4 => ?_
  refine Cd.seq fun K5 hK5 => ?_
  refine Cd.plain [(0, false), (1, false), (2, false)] rfl rfl ?_
  refine Jp.y 16 rfl (want_all rfl) rfl rfl Kp.true (Y.move rfl rfl) ?_
  refine Jp.y 17 rfl (want_all rfl) rfl rfl Kp.true (Y.lenslice rfl Try.underlying26 rfl) ?_
  refine Jp.y 18 rfl (want_all rfl) rfl rfl Kp.true (Y.gtr rfl rfl rfl) ?_
  refine Jp.done hK5 ?_
  refine Cd.cond rfl (fun g18 => ?_) (fun g18 => ?_)
  · skip
    refine Cd.seq fun K6 hK6 => ?_
    refine Cd.plain [(0, false)] rfl rfl ?_
    refine Jp.y 6 rfl (want_all rfl) rfl rfl Kp.true (Y.assign rfl rfl) ?_
    refine Jp.done hK6 ?_
    refine Cd.ret [] rfl (res1 rfl rfl) trivial ⟨rfl, rfl⟩
  try simp only [decide_eq_false_iff_not, decide_eq_true_eq, Int.not_lt, Int.not_le, Bool.not_eq_false, Bool.not_eq_true, Bool.not_true, Bool.not_false, Bool.not_eq_true', Bool.not_eq_false', beq_eq_false_iff_ne, ne_eq, beq_iff_eq, bne_iff_ne, bne_eq_false_iff_eq, Classical.not_not] at g18
  refine Cd.skip hK4 ?_
  refine Cd.seq fun K7 hK7 => ?_
  refine Cd.plain [(0, false), (1, false), (2, false)] rfl rfl ?_
  refine Jp.y 19 rfl (want_all rfl) rfl rfl Kp.true (Y.move rfl rfl) ?_
  refine Jp.call [] [0] (made_spec A c xs hs) 20 rfl (want_all rfl) rfl rfl (Runs.fn rfl Try.call16 rfl) (by decide) (by decide) rfl hrs ?_
  rintro v2 ρ2 L2 ⟨b, rfl, rfl⟩
  refine ⟨rfl, fun hle2 => ⟨Kp.true, ?_⟩⟩
  obtain ⟨M, hM⟩ : ∃ M, madeM xs = M := ⟨_, rfl⟩
  rw [hM]
  by_cases hT : findL M pc (mostP most) 0 = []
  · have hk := find_nil hpc hT
    obtain ⟨e, he⟩ : ∃ e, (fetchP M pc).2 = e := ⟨_, rfl⟩
    rw [he] at hk
    obtain ⟨kd, ad, wy⟩ := e
    dsimp only at hk
    refine Jp.y 7 rfl (want_all rfl) rfl rfl Kp.true (Y.assign rfl rfl) ?_
    refine Jp.done hK7 ?_
    refine Cd.seq fun K8 hK8 => ?_
    refine Cd.plain [(0, false), (1, false), (2, false), (3, false), (4, false), (5, false), (6, false), (7, false), (8, false), (9, false), (10, false)] rfl rfl ?_
    refine Jp.y 22 rfl (want_all rfl) rfl rfl Kp.true (Y.move rfl rfl) ?_
    refine Jp.y 23 rfl (want_all rfl) rfl rfl Kp.true (Y.move rfl rfl) ?_
    refine Jp.y 24 rfl (want_all rfl) rfl rfl Kp.true (Y.move rfl rfl) ?_
    refine Jp.call [0] [0] (find_no (e := ⟨kd, ad, wy⟩) hpc hT he) 25 rfl (want_all rfl) rfl rfl (Runs.fn rfl Try.call17 rfl) (by decide) (by decide) rfl trivial ?_
    rintro v3 ρ3 L3 ⟨rfl, rfl, rfl⟩
    refine ⟨rfl, fun hle3 => ⟨Kp.true, ?_⟩⟩
    refine Jp.y 21 rfl (want_all rfl) rfl rfl Kp.true (Y.move rfl rfl) ?_
    refine Jp.y 26 rfl (want_all rfl) rfl rfl Kp.true (Y.extract rfl rfl rfl) ?_
    refine Jp.y 27 rfl (want_all rfl) rfl rfl Kp.true (Y.extract rfl rfl rfl) ?_
    refine Jp.alloc 6 8 rfl (want_all rfl) rfl rfl rfl Try.zeroValue29 fun b6 => ⟨Kp.true, ?_⟩
    refine Jp.alloc 7 9 rfl (want_all rfl) rfl rfl rfl Try.zeroValue32 fun b7 => ⟨Kp.true, ?_⟩
    first | refine Jp.storeAgg 6 rfl (want_all rfl) rfl rfl Try.sizeOf29 rfl rfl rfl rfl rfl rfl (fun k _ _ => noFr0 k) Kp.true ?_ | refine Jp.storeAgg 7 rfl (want_all rfl) rfl rfl Try.sizeOf29 rfl rfl rfl rfl rfl rfl (fun k _ _ => noFr0 k) Kp.true ?_
    first | refine Jp.storeAgg 6 rfl (want_all rfl) rfl rfl Try.sizeOf32 rfl rfl rfl rfl rfl rfl (fun k _ _ => noFr0 k) Kp.true ?_ | refine Jp.storeAgg 7 rfl (want_all rfl) rfl rfl Try.sizeOf32 rfl rfl rfl rfl rfl rfl (fun k _ _ => noFr0 k) Kp.true ?_
    refine Jp.done hK8 ?_
    refine Cd.seq fun K9 hK9 => ?_
    refine Cd.seq fun K10 hK10 => ?_
    refine Cd.plain [(0, false), (1, false), (2, false)] rfl rfl ?_
    refine Jp.imp (j := 7) rfl (fun h hh => (show Pt b7 (.cells #[Value.int .i64 (kd : Int), Value.int .u32 (ad : Int), Value.int .i64 wy] 32) h from hh)) ?_
    refine Jp.imp (j := 6) rfl (fun h hh => (show Pt b6 (.cells #[Value.int .u32 0, Value.slice none 0 0, Value.int .u32 0] 29) h from hh)) ?_
    refine Jp.y 28 rfl (want_all rfl) rfl rfl Kp.true (by first | exact Y.fieldAddrP rfl rfl Try.underlying32 rfl Try.sizeOf3 (by decide) (show _ + 0 = _ from rfl) | exact Y.fieldAddr rfl rfl Try.underlying32 rfl Try.sizeOf3 (by decide)) ?_
    refine Jp.y 29 rfl (want_all rfl) rfl rfl Kp.true (by first | exact Y.loadO 6 rfl Try.isAgg3 rfl rfl rfl | exact Y.loadO 7 rfl Try.isAgg3 rfl rfl rfl) ?_
    refine Jp.y 30 rfl (want_all rfl) rfl rfl Kp.true (Y.neq rfl rfl rfl) ?_
    refine Jp.done hK10 ?_
    refine Cd.cond rfl (fun ge => ?_) (fun ge => ?_)
    · skip
      refine Cd.seq fun K11 hK11 => ?_
      refine Cd.plain [(0, false), (1, false), (2, false), (3, false), (4, false)] rfl rfl ?_
      refine Jp.y 31 rfl (want_all rfl) rfl rfl Kp.true (by first | exact Y.fieldAddrP rfl rfl Try.underlying29 rfl Try.sizeOf27 (by decide) (show _ + 1 = _ from rfl) | exact Y.fieldAddr rfl rfl Try.underlying29 rfl Try.sizeOf27 (by decide)) ?_
      refine Jp.y 32 rfl (want_all rfl) rfl rfl Kp.true (by first | exact Y.loadO 6 rfl Try.isAgg27 rfl rfl rfl | exact Y.loadO 7 rfl Try.isAgg27 rfl rfl rfl) ?_
      refine Jp.y 33 rfl (want_all rfl) rfl rfl Kp.true (Y.lenslice rfl Try.underlying27 rfl) ?_
      refine Jp.y 34 rfl (want_all rfl) rfl rfl Kp.true (Y.eql rfl rfl rfl) ?_
      refine Jp.y 6 rfl (want_all rfl) rfl rfl Kp.true (Y.assign rfl rfl) ?_
      refine Jp.done hK11 ?_
      refine Cd.ret [] rfl (res1 rfl rfl) trivial ⟨rfl, rfl⟩
    · exact absurd (by simpa using ge) hk
  · obtain ⟨T, hTe⟩ : ∃ T, findL M pc (mostP most) 0 = T := ⟨_, rfl⟩
    have hne : T ≠ [] := by rw [← hTe]; exact hT
    have hlen : T.length ≤ mostP most := by rw [← hTe]; exact findL_len ..
    have hmost : mostP most ≤ 64 := by unfold mostP; omega
    have hm2 : (T.length : Int) ≤ most ∨ most < 1 := by unfold mostP at hlen; omega
    have hpos : 0 < T.length := List.length_pos_iff.2 hne
    refine Jp.y 7 rfl (want_all rfl) rfl rfl Kp.true (Y.assign rfl rfl) ?_
    refine Jp.done hK7 ?_
    refine Cd.seq fun K12 hK12 => ?_
    refine Cd.plain [(0, false), (1, false), (2, false), (3, false), (4, false), (5, false), (6, false), (7, false), (8, false), (9, false), (10, false)] rfl rfl ?_
    refine Jp.y 22 rfl (want_all rfl) rfl rfl Kp.true (Y.move rfl rfl) ?_
    refine Jp.y 23 rfl (want_all rfl) rfl rfl Kp.true (Y.move rfl rfl) ?_
    refine Jp.y 24 rfl (want_all rfl) rfl rfl Kp.true (Y.move rfl rfl) ?_
    refine Jp.call [0] [0, 1] (find_yes hpc hTe hne) 25 rfl (want_all rfl) rfl rfl (Runs.fn rfl Try.call17 rfl) (by decide) (by decide) rfl trivial ?_
    rintro v4 ρ4 L4 ⟨rfl, B, d, rfl, rfl⟩
    refine ⟨rfl, fun hle4 => ⟨Kp.true, ?_⟩⟩
    refine Jp.freeze (i := 1) rfl (OwnS.up _ _ _ _ _ _) fun ρ7 hle7 hA7 => ?_
    have hT7 := hA7.rd
    obtain ⟨g0, hg0⟩ : ∃ g, M.gens (baseN pc) = g := ⟨_, rfl⟩
    rw [hg0]
    refine Jp.y 21 rfl (want_all rfl) rfl rfl Kp.true (Y.move rfl rfl) ?_
    refine Jp.y 26 rfl (want_all rfl) rfl rfl Kp.true (Y.extract rfl rfl rfl) ?_
    refine Jp.y 27 rfl (want_all rfl) rfl rfl Kp.true (Y.extract rfl rfl rfl) ?_
    refine Jp.alloc 6 8 rfl (want_all rfl) rfl rfl rfl Try.zeroValue29 fun b6 => ⟨Kp.true, ?_⟩
    refine Jp.alloc 7 9 rfl (want_all rfl) rfl rfl rfl Try.zeroValue32 fun b7 => ⟨Kp.true, ?_⟩
    first | refine Jp.storeAgg 6 rfl (want_all rfl) rfl rfl Try.sizeOf29 rfl rfl rfl rfl rfl rfl (fun k _ _ => noFr0 k) Kp.true ?_ | refine Jp.storeAgg 7 rfl (want_all rfl) rfl rfl Try.sizeOf29 rfl rfl rfl rfl rfl rfl (fun k _ _ => noFr0 k) Kp.true ?_ | refine Jp.storeAgg 6 rfl (want_all rfl) rfl rfl Try.sizeOf29 rfl rfl rfl rfl rfl rfl (fun k _ _ => noFr0 k) Kp.true ?_ | refine Jp.storeAgg 7 rfl (want_all rfl) rfl rfl Try.sizeOf29 rfl rfl rfl rfl rfl rfl (fun k _ _ => noFr0 k) Kp.true ?_
    first | refine Jp.storeAgg 6 rfl (want_all rfl) rfl rfl Try.sizeOf32 rfl rfl rfl rfl rfl rfl (fun k _ _ => noFr0 k) Kp.true ?_ | refine Jp.storeAgg 7 rfl (want_all rfl) rfl rfl Try.sizeOf32 rfl rfl rfl rfl rfl rfl (fun k _ _ => noFr0 k) Kp.true ?_ | refine Jp.storeAgg 6 rfl (want_all rfl) rfl rfl Try.sizeOf32 rfl rfl rfl rfl rfl rfl (fun k _ _ => noFr0 k) Kp.true ?_ | refine Jp.storeAgg 7 rfl (want_all rfl) rfl rfl Try.sizeOf32 rfl rfl rfl rfl rfl rfl (fun k _ _ => noFr0 k) Kp.true ?_
    refine Jp.done hK12 ?_
    refine Cd.seq fun K13 hK13 => ?_
    refine Cd.seq fun K14 hK14 => ?_
    refine Cd.plain [(0, false), (1, false), (2, false)] rfl rfl ?_
    refine Jp.imp (j := 7) rfl (fun h hh => (show Pt b7 (.cells #[Value.int .i64 0, Value.int .u32 0, Value.int .i64 0] 32) h from hh)) ?_
    refine Jp.imp (j := 6) rfl (fun h hh => (show Pt b6 (.cells (blockC pc B T.length d g0).toArray 29) h from hh)) ?_
    refine Jp.y 28 rfl (want_all rfl) rfl rfl Kp.true (by first | exact Y.fieldAddrP rfl rfl Try.underlying32 rfl Try.sizeOf3 (by decide) (show _ + 0 = _ from rfl) | exact Y.fieldAddr rfl rfl Try.underlying32 rfl Try.sizeOf3 (by decide)) ?_
    refine Jp.y 29 rfl (want_all rfl) rfl rfl Kp.true (by first | exact Y.loadO 6 rfl Try.isAgg3 rfl rfl rfl | exact Y.loadO 7 rfl Try.isAgg3 rfl rfl rfl) ?_
    refine Jp.y 30 rfl (want_all rfl) rfl rfl Kp.true (Y.neq rfl rfl rfl) ?_
    refine Jp.done hK14 ?_
    refine Cd.cond rfl (fun ge => ?_) (fun ge => ?_)
    · exact absurd ge (by simp)
    · skip
      refine Cd.skip hK13 ?_
      refine Cd.seq fun K15 hK15 => ?_
      refine Cd.seq fun K16 hK16 => ?_
      refine Cd.plain [(0, false)] rfl rfl ?_
      refine Jp.y 10 rfl (want_all rfl) rfl rfl Kp.true (Y.assign rfl rfl) ?_
      refine Jp.done hK16 ?_
      refine Cd.block ?_
      refine Cd.loopK (G := Nat) (fun i => i ≤ T.length) (fun i => T.length - i) (fun _ => _) (fun i => [(10, .int .i64 (i : Int))]) [(1, _), (2, _), (7, _), (8, _)] (fun i => []) [(0, _), (6, _), (7, _)] 0 (Nat.zero_le _) rfl ⟨rfl, trivial⟩ ⟨rfl, rfl, rfl, rfl, trivial⟩ trivial ⟨rfl, rfl, rfl, trivial⟩ (fun g KLa hok hLa => ?_)
      obtain ⟨i, hi⟩ : ∃ i, i = g := ⟨_, rfl⟩
      rw [← hi] at hok ⊢
      refine Cd.seq fun K17 hK17 => ?_
      refine Cd.seq fun K18 hK18 => ?_
      refine Cd.plain [(0, false), (1, false), (2, false), (3, false), (4, false)] rfl rfl ?_
      refine Jp.y 35 rfl (want_all rfl) rfl rfl Kp.true (Y.move rfl rfl) ?_
      refine Jp.y 36 rfl (want_all rfl) rfl rfl Kp.true (by first | exact Y.fieldAddrP rfl rfl Try.underlying29 rfl Try.sizeOf27 (by decide) (show _ + 1 = _ from rfl) | exact Y.fieldAddr rfl rfl Try.underlying29 rfl Try.sizeOf27 (by decide)) ?_
      refine Jp.y 37 rfl (want_all rfl) rfl rfl Kp.true (by first | exact Y.loadO 6 rfl Try.isAgg27 rfl rfl rfl | exact Y.loadO 7 rfl Try.isAgg27 rfl rfl rfl) ?_
      refine Jp.y 38 rfl (want_all rfl) rfl rfl Kp.true (Y.lenslice rfl Try.underlying27 rfl) ?_
      refine Jp.y 39 rfl (want_all rfl) rfl rfl Kp.true (Y.lss rfl rfl rfl) ?_
      refine Jp.done hK18 ?_
      refine Cd.cond rfl (fun ga => ?_) (fun ga => ?_)
      · simp only [decide_eq_true_eq] at ga
        have hin : i < T.length := by omega
        have hx : T[i]? = some T[i] := List.getElem?_eq_getElem hin
        obtain ⟨x, hxe⟩ : ∃ x, x = T[i] := ⟨_, rfl⟩
        rw [← hxe] at hx
        have hx2 := hx
        rw [← hTe] at hx2
        obtain ⟨q1, q2, q3, q4⟩ := findL_get M pc _ _ _ _ hx2
        rw [hTe] at q4
        rw [Nat.zero_add] at q1 q2 q3
        have hev := fetchP_ev q2
        have hat : atP pc i < 4294967296 := Nat.mod_lt _ (by decide)
        have hS := fetch_spec b M (atP pc i) hat (loadM_lt ..)
        rw [q3, hev] at hS
        obtain ⟨ad, rfl, hcx⟩ := bin_at hT7 hx
        refine Cd.skip hK17 ?_
        refine Cd.seq fun K19 hK19 => ?_
        refine Cd.block ?_
        refine Cd.seq fun K20 hK20 => ?_
        refine Cd.plain [(0, false), (1, false), (2, false), (3, false), (4, false), (5, false)] rfl rfl ?_
        refine Jp.y 42 rfl (want_all rfl) rfl rfl Kp.true (Y.move rfl rfl) ?_
        refine Jp.y 43 rfl (want_all rfl) rfl rfl Kp.true (Y.move rfl rfl) ?_
        refine Jp.y 44 rfl (want_all rfl) rfl rfl Kp.true (Y.mul_ rfl rfl rfl (by first | exact wrap_i64 (by omega) (by omega) | rfl)) ?_
        refine Jp.y 45 rfl (want_all rfl) rfl rfl Kp.true (Y.conv_ rfl rfl Try.underlying3 Try.underlying25 (by first | exact wrap_u32 (by omega) (by omega) | rfl)) ?_
        refine Jp.y 46 rfl (want_all rfl) rfl rfl Kp.true (Y.add_ rfl rfl rfl (wrap_u32m (pc + 4 * i))) ?_
        refine Jp.y 11 rfl (want_all rfl) rfl rfl Kp.true (Y.assign rfl rfl) ?_
        refine Jp.done hK20 ?_
        refine Cd.seq fun K21 hK21 => ?_
        refine Cd.plain [(0, false), (1, false), (2, false), (3, false), (4, false), (5, false), (6, false), (7, false), (8, false), (9, false)] rfl rfl ?_
        refine Jp.slot 11 rfl (show _ = Value.int .u32 ((atP pc i : Nat) : Int) from rfl) ?_
        obtain ⟨a', ha'⟩ : ∃ x, atP pc i = x := ⟨_, rfl⟩
        rw [ha'] at hS q1 hat ⊢
        refine Jp.y 48 rfl (want_all rfl) rfl rfl Kp.true (Y.move rfl rfl) ?_
        refine Jp.y 49 rfl (want_all rfl) rfl rfl Kp.true (Y.move rfl rfl) ?_
        refine Jp.call [0] [0] hS 50 rfl (want_all rfl) rfl rfl (Runs.fn rfl Try.call20 rfl) (by decide) (by decide) rfl trivial ?_
        rintro v5 ρ5 L5 ⟨rfl, rfl, rfl⟩
        refine ⟨rfl, fun hle5 => ⟨Kp.true, ?_⟩⟩
        refine Jp.y 47 rfl (want_all rfl) rfl rfl Kp.true (Y.move rfl rfl) ?_
        refine Jp.y 51 rfl (want_all rfl) rfl rfl Kp.true (Y.extract rfl rfl rfl) ?_
        refine Jp.y 52 rfl (want_all rfl) rfl rfl Kp.true (Y.extract rfl rfl rfl) ?_
        refine Jp.alloc 12 12 rfl (want_all rfl) rfl rfl rfl Try.zeroValue40 fun b12 => ⟨Kp.true, ?_⟩
        refine Jp.alloc 13 13 rfl (want_all rfl) rfl rfl rfl Try.zeroValue32 fun b13 => ⟨Kp.true, ?_⟩
        first | refine Jp.storeAgg 6 rfl (want_all rfl) rfl rfl Try.sizeOf40 rfl rfl rfl rfl rfl rfl (fun k _ _ => noFr0 k) Kp.true ?_ | refine Jp.storeAgg 7 rfl (want_all rfl) rfl rfl Try.sizeOf40 rfl rfl rfl rfl rfl rfl (fun k _ _ => noFr0 k) Kp.true ?_ | refine Jp.storeAgg 12 rfl (want_all rfl) rfl rfl Try.sizeOf40 rfl rfl rfl rfl rfl rfl (fun k _ _ => noFr0 k) Kp.true ?_ | refine Jp.storeAgg 13 rfl (want_all rfl) rfl rfl Try.sizeOf40 rfl rfl rfl rfl rfl rfl (fun k _ _ => noFr0 k) Kp.true ?_
        first | refine Jp.storeAgg 6 rfl (want_all rfl) rfl rfl Try.sizeOf32 rfl rfl rfl rfl rfl rfl (fun k _ _ => noFr0 k) Kp.true ?_ | refine Jp.storeAgg 7 rfl (want_all rfl) rfl rfl Try.sizeOf32 rfl rfl rfl rfl rfl rfl (fun k _ _ => noFr0 k) Kp.true ?_ | refine Jp.storeAgg 12 rfl (want_all rfl) rfl rfl Try.sizeOf32 rfl rfl rfl rfl rfl rfl (fun k _ _ => noFr0 k) Kp.true ?_ | refine Jp.storeAgg 13 rfl (want_all rfl) rfl rfl Try.sizeOf32 rfl rfl rfl rfl rfl rfl (fun k _ _ => noFr0 k) Kp.true ?_
        refine Jp.done hK21 ?_
        refine Cd.seq fun K22 hK22 => ?_
        refine Cd.drawn [(6, _), (12, Pt b12 (.cells x.cells.toArray 40)), (13, Pt b13 (.cells #[Value.int .i64 0, Value.int .u32 0, Value.int .i64 0] 32))] ⟨rfl, rfl, rfl, trivial⟩ [(0, true), (1, true), (2, true), (3, true), (4, true), (5, true), (6, true), (7, true), (8, true), (9, true), (10, true), (11, true), (12, true), (13, true), (14, true), (15, true), (16, true), (17, true), (18, true), (19, true), (20, true), (21, false), (22, true), (23, true), (24, true), (25, true), (26, true), (27, true), (28, true), (29, true), (30, true)] follows (by kernel_rfl) (fun hrl => ?_)
        have hd : i * 5 < 4294967296 := by omega
        refine Jp.q 53 rfl (want_all rfl) rfl rfl (by first | exact Y.fieldAddrP rfl rfl Try.underlying32 rfl Try.sizeOf3 (by decide) (show _ + 0 = _ from rfl) | exact Y.fieldAddr rfl rfl Try.underlying32 rfl Try.sizeOf3 (by decide)) ?_
        refine Jp.q 54 rfl (want_all rfl) rfl rfl (by first | exact Y.loadO 6 rfl Try.isAgg3 rfl rfl rfl | exact Y.loadO 7 rfl Try.isAgg3 rfl rfl rfl | exact Y.loadO 12 rfl Try.isAgg3 rfl rfl rfl | exact Y.loadO 13 rfl Try.isAgg3 rfl rfl rfl) ?_
        refine Jp.q 55 rfl (want_all rfl) rfl rfl (Y.neq rfl rfl rfl) ?_
        refine Jp.slot 55 rfl (show _ = Value.bool false from rfl) ?_
        refine Jp.q 56 rfl (want_all rfl) rfl rfl (Y.move rfl rfl) ?_
        refine Jp.q 57 rfl (want_as rfl rfl rfl rfl) rfl rfl (by first | exact Y.loadAggO 6 rfl Try.isAgg40 Try.sizeOf40 rfl rfl rfl | exact Y.loadAggO 7 rfl Try.isAgg40 Try.sizeOf40 rfl rfl rfl | exact Y.loadAggO 12 rfl Try.isAgg40 Try.sizeOf40 rfl rfl rfl | exact Y.loadAggO 13 rfl Try.isAgg40 Try.sizeOf40 rfl rfl rfl) ?_
        refine Jp.q 58 rfl (want_as rfl rfl rfl rfl) rfl rfl (by first | exact Y.fieldAddrP rfl rfl Try.underlying29 rfl Try.sizeOf27 (by decide) (show _ + 1 = _ from rfl) | exact Y.fieldAddr rfl rfl Try.underlying29 rfl Try.sizeOf27 (by decide)) ?_
        refine Jp.q 59 rfl (want_as rfl rfl rfl rfl) rfl rfl (by first | exact Y.loadO 6 rfl Try.isAgg27 rfl rfl rfl | exact Y.loadO 7 rfl Try.isAgg27 rfl rfl rfl | exact Y.loadO 12 rfl Try.isAgg27 rfl rfl rfl | exact Y.loadO 13 rfl Try.isAgg27 rfl rfl rfl) ?_
        refine Jp.q 60 rfl (want_as rfl rfl rfl rfl) rfl rfl (Y.move rfl rfl) ?_
        refine Jp.q 61 rfl (want_as rfl rfl rfl rfl) rfl rfl (Y.indexAddr (q := i * 5) rfl rfl rfl Try.underlying27 Try.sizeOf40 (by omega) (by omega) (by omega)) ?_
        refine Jp.q 62 rfl (want_as rfl rfl rfl rfl) rfl rfl (Y.loadAggR x.cells rfl Try.isAgg40 Try.sizeOf40 rfl rfl hcx) ?_
        refine Jp.q 63 rfl (want_as rfl rfl rfl rfl) rfl rfl (Y.neqS (xs := x.cells.toArray) (ys := x.cells.toArray) (r := insEq x x) rfl rfl rfl ins_guard ins_fields ins_stood (fun w => ins_eq x x w)) ?_
        refine Jp.slot 63 rfl (show _ = Value.bool false from congrArg Value.bool (by rw [(insEq_iff x x).2 rfl]; rfl)) ?_
        refine Jp.q 64 rfl (want_all rfl) rfl rfl (Y.pickF rfl rfl rfl) ?_
        refine Jp.q 65 rfl (want_all rfl) rfl rfl (Y.move rfl rfl) ?_
        refine Jp.q 66 rfl (want_as rfl rfl rfl rfl) rfl rfl (Y.move rfl rfl) ?_
        refine Jp.q 67 rfl (want_as rfl rfl rfl rfl) rfl rfl (by first | exact Y.quoN rfl rfl rfl (by omega) (by omega) (wrap_u32 (by omega) (by omega)) | exact Y.quo rfl rfl rfl (by first | decide | omega)) ?_
        refine Jp.q 68 rfl (want_as rfl rfl rfl rfl) rfl rfl (Y.move rfl rfl) ?_
        refine Jp.q 69 rfl (want_as rfl rfl rfl rfl) rfl rfl (by first | exact Y.quoN rfl rfl rfl (by omega) (by omega) (wrap_u32 (by omega) (by omega)) | exact Y.quo rfl rfl rfl (by first | decide | omega)) ?_
        refine Jp.q 70 rfl (want_as rfl rfl rfl rfl) rfl rfl (Y.neq rfl rfl rfl) ?_
        refine Jp.slot 70 rfl (show _ = Value.bool false from congrArg Value.bool (by simp; omega)) ?_
        refine Jp.q 71 rfl (want_all rfl) rfl rfl (Y.pickF rfl rfl rfl) ?_
        refine Jp.q 72 rfl (want_all rfl) rfl rfl (Y.move rfl rfl) ?_
        refine Jp.q 73 rfl (want_as rfl rfl rfl rfl) rfl rfl (by first | exact Y.loadAggO 6 rfl Try.isAgg40 Try.sizeOf40 rfl rfl rfl | exact Y.loadAggO 7 rfl Try.isAgg40 Try.sizeOf40 rfl rfl rfl | exact Y.loadAggO 12 rfl Try.isAgg40 Try.sizeOf40 rfl rfl rfl | exact Y.loadAggO 13 rfl Try.isAgg40 Try.sizeOf40 rfl rfl rfl) ?_
        refine Jp.call [] [] (ends_spec x) 74 rfl (want_as rfl rfl rfl rfl) rfl rfl (Runs.fn rfl Try.call21 rfl) (by decide) (by decide) rfl trivial ?_
        rintro v6 ρ6 L6 ⟨rfl, rfl, rfl⟩
        refine ⟨rfl, fun hle6 => ⟨(Kp.st ⟨rfl, rfl, rfl, trivial⟩), ?_⟩⟩
        refine Jp.q 75 rfl (want_as rfl rfl rfl rfl) rfl rfl (Y.move rfl rfl) ?_
        refine Jp.splitF 75 rfl (fun g75 => ?_) (fun g75 => ?_)
        · skip
          refine Jp.qskip 76 rfl (want_as rfl rfl rfl rfl) rfl rfl ?_
          refine Jp.qskip 77 rfl (want_as rfl rfl rfl rfl) rfl rfl ?_
          refine Jp.qskip 78 rfl (want_as rfl rfl rfl rfl) rfl rfl ?_
          refine Jp.qskip 79 rfl (want_as rfl rfl rfl rfl) rfl rfl ?_
          refine Jp.qskip 80 rfl (want_as rfl rfl rfl rfl) rfl rfl ?_
          refine Jp.qskip 81 rfl (want_as rfl rfl rfl rfl) rfl rfl ?_
          refine Jp.q 82 rfl (want_as rfl rfl rfl rfl) rfl rfl (Y.pickF rfl rfl rfl) ?_
          refine Jp.q 83 rfl (want_all rfl) rfl rfl (Y.pickF rfl rfl rfl) ?_
          refine Jp.done hK22 ?_
          refine Cd.condF rfl ?_
          refine Cd.over rfl hK19 ?_
          refine Cd.plain [(0, false), (1, false), (2, false)] rfl rfl ?_
          refine Jp.y 40 rfl (want_all rfl) rfl rfl Kp.true (Y.move rfl rfl) ?_
          refine Jp.y 41 rfl (want_all rfl) rfl rfl Kp.true (Y.add_ rfl rfl rfl (by first | exact wrap_i64 (by omega) (by omega) | rfl)) ?_
          refine Jp.y 10 rfl (want_all rfl) rfl rfl Kp.true (Y.assign rfl rfl) ?_
          rw [show (i : Int) + 1 = ((i + 1 : Nat) : Int) by omega]
          refine Jp.again hLa (i + 1) (by omega) (by omega) rfl ⟨rfl, rfl, rfl, rfl, rfl, trivial⟩ ⟨rfl, rfl, rfl, trivial⟩
        try simp only [decide_eq_false_iff_not, decide_eq_true_eq, Int.not_lt, Int.not_le, Bool.not_eq_false, Bool.not_eq_true, Bool.not_true, Bool.not_false, Bool.not_eq_true', Bool.not_eq_false', beq_eq_false_iff_ne, ne_eq, beq_iff_eq, bne_iff_ne, bne_eq_false_iff_eq, Classical.not_not] at g75
        refine Jp.q 76 rfl (want_as rfl rfl rfl rfl) rfl rfl (Y.move rfl rfl) ?_
        refine Jp.q 77 rfl (want_as rfl rfl rfl rfl) rfl rfl (by first | exact Y.fieldAddrP rfl rfl Try.underlying29 rfl Try.sizeOf27 (by decide) (show _ + 1 = _ from rfl) | exact Y.fieldAddr rfl rfl Try.underlying29 rfl Try.sizeOf27 (by decide)) ?_
        refine Jp.q 78 rfl (want_as rfl rfl rfl rfl) rfl rfl (by first | exact Y.loadO 6 rfl Try.isAgg27 rfl rfl rfl | exact Y.loadO 7 rfl Try.isAgg27 rfl rfl rfl | exact Y.loadO 12 rfl Try.isAgg27 rfl rfl rfl | exact Y.loadO 13 rfl Try.isAgg27 rfl rfl rfl) ?_
        refine Jp.q 79 rfl (want_as rfl rfl rfl rfl) rfl rfl (Y.lenslice rfl Try.underlying27 rfl) ?_
        refine Jp.q 80 rfl (want_as rfl rfl rfl rfl) rfl rfl (Y.sub_ rfl rfl rfl (by first | exact wrap_i64 (by omega) (by omega) | rfl)) ?_
        refine Jp.q 81 rfl (want_as rfl rfl rfl rfl) rfl rfl (Y.lss rfl rfl rfl) ?_
        have hlt : ¬ i + 1 < T.length := fun h => by rw [q4 h] at g75; exact absurd g75 (by simp)
        refine Jp.slot 81 rfl (show _ = Value.bool false from congrArg Value.bool (decide_eq_false (by omega))) ?_
        refine Jp.q 82 rfl (want_as rfl rfl rfl rfl) rfl rfl (Y.pickT rfl rfl rfl) ?_
        refine Jp.q 83 rfl (want_all rfl) rfl rfl (Y.pickF rfl rfl rfl) ?_
        refine Jp.done hK22 ?_
        refine Cd.condF rfl ?_
        refine Cd.over rfl hK19 ?_
        refine Cd.plain [(0, false), (1, false), (2, false)] rfl rfl ?_
        refine Jp.y 40 rfl (want_all rfl) rfl rfl Kp.true (Y.move rfl rfl) ?_
        refine Jp.y 41 rfl (want_all rfl) rfl rfl Kp.true (Y.add_ rfl rfl rfl (by first | exact wrap_i64 (by omega) (by omega) | rfl)) ?_
        refine Jp.y 10 rfl (want_all rfl) rfl rfl Kp.true (Y.assign rfl rfl) ?_
        rw [show (i : Int) + 1 = ((i + 1 : Nat) : Int) by omega]
        refine Jp.again hLa (i + 1) (by omega) (by omega) rfl ⟨rfl, rfl, rfl, rfl, rfl, trivial⟩ ⟨rfl, rfl, rfl, trivial⟩
      · skip
        refine Cd.exit rfl hK15 ?_
        refine Cd.seq fun K24 hK24 => ?_
        refine Cd.plain [(0, false), (1, false), (2, false), (3, false), (4, false), (5, false), (6, false), (7, false), (8, false), (9, false), (10, false), (11, false), (12, false), (13, false), (14, false), (15, false)] rfl rfl ?_
        refine Jp.y 84 rfl (want_all rfl) rfl rfl Kp.true (by first | exact Y.fieldAddrP rfl rfl Try.underlying29 rfl Try.sizeOf27 (by decide) (show _ + 1 = _ from rfl) | exact Y.fieldAddr rfl rfl Try.underlying29 rfl Try.sizeOf27 (by decide)) ?_
        refine Jp.y 85 rfl (want_all rfl) rfl rfl Kp.true (by first | exact Y.loadO 6 rfl Try.isAgg27 rfl rfl rfl | exact Y.loadO 7 rfl Try.isAgg27 rfl rfl rfl | exact Y.loadO 12 rfl Try.isAgg27 rfl rfl rfl | exact Y.loadO 13 rfl Try.isAgg27 rfl rfl rfl) ?_
        refine Jp.y 86 rfl (want_all rfl) rfl rfl Kp.true (Y.lenslice rfl Try.underlying27 rfl) ?_
        refine Jp.y 87 rfl (want_all rfl) rfl rfl Kp.true (Y.geq rfl rfl rfl) ?_
        refine Jp.y 88 rfl (want_all rfl) rfl rfl Kp.true (Y.move rfl rfl) ?_
        refine Jp.split 88 rfl (fun g88 => ?_) (fun g88 => ?_)
        · skip
          try simp only [decide_eq_false_iff_not, decide_eq_true_eq, Int.not_lt, Int.not_le, Bool.not_eq_false, Bool.not_eq_true, Bool.not_true, Bool.not_false, Bool.not_eq_true', Bool.not_eq_false', beq_eq_false_iff_ne, ne_eq, beq_iff_eq, bne_iff_ne, bne_eq_false_iff_eq, Classical.not_not] at g88
          refine Jp.y 89 rfl (want_as rfl rfl rfl rfl) rfl rfl Kp.true (by first | exact Y.fieldAddrP rfl rfl Try.underlying29 rfl Try.sizeOf27 (by decide) (show _ + 1 = _ from rfl) | exact Y.fieldAddr rfl rfl Try.underlying29 rfl Try.sizeOf27 (by decide)) ?_
          refine Jp.y 90 rfl (want_as rfl rfl rfl rfl) rfl rfl Kp.true (by first | exact Y.loadO 6 rfl Try.isAgg27 rfl rfl rfl | exact Y.loadO 7 rfl Try.isAgg27 rfl rfl rfl | exact Y.loadO 12 rfl Try.isAgg27 rfl rfl rfl | exact Y.loadO 13 rfl Try.isAgg27 rfl rfl rfl) ?_
          refine Jp.y 91 rfl (want_as rfl rfl rfl rfl) rfl rfl Kp.true (Y.lenslice rfl Try.underlying27 rfl) ?_
          refine Jp.y 92 rfl (want_as rfl rfl rfl rfl) rfl rfl Kp.true (Y.move rfl rfl) ?_
          refine Jp.y 93 rfl (want_as rfl rfl rfl rfl) rfl rfl Kp.true (Y.leq rfl rfl rfl) ?_
          refine Jp.y 94 rfl (want_as rfl rfl rfl rfl) rfl rfl Kp.true (Y.move rfl rfl) ?_
          refine Jp.split 94 rfl (fun g94 => ?_) (fun g94 => ?_)
          · skip
            try simp only [decide_eq_false_iff_not, decide_eq_true_eq, Int.not_lt, Int.not_le, Bool.not_eq_false, Bool.not_eq_true, Bool.not_true, Bool.not_false, Bool.not_eq_true', Bool.not_eq_false', beq_eq_false_iff_ne, ne_eq, beq_iff_eq, bne_iff_ne, bne_eq_false_iff_eq, Classical.not_not] at g94
            refine Jp.skip 95 rfl (want_as rfl rfl rfl rfl) rfl rfl Kp.true ?_
            refine Jp.skip 96 rfl (want_as rfl rfl rfl rfl) rfl rfl Kp.true ?_
            refine Jp.y 97 rfl (want_as rfl rfl rfl rfl) rfl rfl Kp.true (Y.pickT rfl rfl rfl) ?_
            refine Jp.y 98 rfl (want_all rfl) rfl rfl Kp.true (Y.pickT rfl rfl rfl) ?_
            refine Jp.y 6 rfl (want_all rfl) rfl rfl Kp.true (Y.assign rfl rfl) ?_
            refine Jp.done hK24 ?_
            refine Cd.ret [] rfl (res1 rfl rfl) trivial ⟨congrArg Value.bool (by first | (simp; done) | (exfalso; omega) | (simp; omega)), rfl⟩
          · skip
            try simp only [decide_eq_false_iff_not, decide_eq_true_eq, Int.not_lt, Int.not_le, Bool.not_eq_false, Bool.not_eq_true, Bool.not_true, Bool.not_false, Bool.not_eq_true', Bool.not_eq_false', beq_eq_false_iff_ne, ne_eq, beq_iff_eq, bne_iff_ne, bne_eq_false_iff_eq, Classical.not_not] at g94
            refine Jp.y 95 rfl (want_as rfl rfl rfl rfl) rfl rfl Kp.true (Y.move rfl rfl) ?_
            refine Jp.y 96 rfl (want_as rfl rfl rfl rfl) rfl rfl Kp.true (Y.lss rfl rfl rfl) ?_
            refine Jp.y 97 rfl (want_as rfl rfl rfl rfl) rfl rfl Kp.true (Y.pickF rfl rfl rfl) ?_
            refine Jp.y 98 rfl (want_all rfl) rfl rfl Kp.true (Y.pickT rfl rfl rfl) ?_
            refine Jp.y 6 rfl (want_all rfl) rfl rfl Kp.true (Y.assign rfl rfl) ?_
            refine Jp.done hK24 ?_
            refine Cd.ret [] rfl (res1 rfl rfl) trivial ⟨congrArg Value.bool (by first | (simp; done) | (exfalso; omega) | (simp; omega)), rfl⟩
        · skip
          try simp only [decide_eq_false_iff_not, decide_eq_true_eq, Int.not_lt, Int.not_le, Bool.not_eq_false, Bool.not_eq_true, Bool.not_true, Bool.not_false, Bool.not_eq_true', Bool.not_eq_false', beq_eq_false_iff_ne, ne_eq, beq_iff_eq, bne_iff_ne, bne_eq_false_iff_eq, Classical.not_not] at g88
          refine Jp.skip 89 rfl (want_as rfl rfl rfl rfl) rfl rfl Kp.true ?_
          refine Jp.skip 90 rfl (want_as rfl rfl rfl rfl) rfl rfl Kp.true ?_
          refine Jp.skip 91 rfl (want_as rfl rfl rfl rfl) rfl rfl Kp.true ?_
          refine Jp.skip 92 rfl (want_as rfl rfl rfl rfl) rfl rfl Kp.true ?_
          refine Jp.skip 93 rfl (want_as rfl rfl rfl rfl) rfl rfl Kp.true ?_
          refine Jp.skip 94 rfl (want_as rfl rfl rfl rfl) rfl rfl Kp.true ?_
          refine Jp.skip 95 rfl (want_un rfl rfl rfl) rfl rfl Kp.true ?_
          refine Jp.skip 96 rfl (want_un rfl rfl rfl) rfl rfl Kp.true ?_
          refine Jp.skip 97 rfl (want_as rfl rfl rfl rfl) rfl rfl Kp.true ?_
          refine Jp.y 98 rfl (want_all rfl) rfl rfl Kp.true (Y.pickF rfl rfl rfl) ?_
          refine Jp.y 6 rfl (want_all rfl) rfl rfl Kp.true (Y.assign rfl rfl) ?_
          refine Jp.done hK24 ?_
          refine Cd.ret [] rfl (res1 rfl rfl) trivial ⟨congrArg Value.bool (by first | (simp; done) | (exfalso; omega) | (simp; omega)), rfl⟩
end Go.Proofs.Ytgmhijlcdadaeaa
