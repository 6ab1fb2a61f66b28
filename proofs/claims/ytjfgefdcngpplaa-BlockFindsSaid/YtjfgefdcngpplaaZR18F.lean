import Derived.Test.YtjfgefdcngpplaaZR11F
import Derived.Test.YtjfgefdcngpplaaZRvE
set_option linter.unusedVariables false
set_option linter.unusedSimpArgs false
set_option maxRecDepth 100000
namespace Go.Proofs.Ytjfgefdcngpplaa
open Go
theorem fetchP_al {M : MemG} {a : Nat} (h : (fetchP M a).2.kind = 0) : a % 4 = 0 := by
  unfold fetchP at h
  split at h
  · rename_i h1
    unfold loadM at h1
    split at h1
    · rename_i h2
      unfold lookM at h2
      split at h2
      · exact absurd h2 (by decide)
      · rename_i h3
        simp [sizeOk] at h3
        omega
    · rename_i h2
      exact absurd h1 h2
  · exact absurd h (by simp)
theorem find18_spec (b : Nat) (M : MemG) (pc : Nat) (most : Int) (hpc : pc < 4294967296) : Spec Try.prog 9 #[.pointer (some ⟨b, 0, none⟩), .int .u32 pc, .int .i64 most] (fun _ => True) [(0, RefO b M)]
    (fun ρ ρ' v L => ρ' = ρ ∧ ((findL M pc (mostP most) 0 = [] ∧ v = .tuple #[.agg (blockC 0 none 0 0 0).toArray, .agg (fetchP M pc).2.cells.toArray] ∧ L = [(0, RefO b M)]) ∨
      (findL M pc (mostP most) 0 ≠ [] ∧ ∃ B d, v = .tuple #[.agg (blockC pc B (findL M pc (mostP most) 0).length d (M.gens (baseN pc))).toArray, .agg noEv.cells.toArray] ∧ L = [(0, RefO b M), (1, OwnS 48 5 B (findL M pc (mostP most) 0).length d ((findL M pc (mostP most) 0).flatMap InsP.cells))]))) := by
  refine Spec.of 64 Try.func9 rfl Try.ntmps9 [(0, _), (1, _), (2, _)] rfl rfl ?_
  intro cx ρ hr h0
  obtain ⟨n, hn⟩ : ∃ n, mostP most = n := ⟨_, rfl⟩
  have hn1 : 1 ≤ n ∧ n ≤ 64 := by rw [← hn]; unfold mostP; omega
  have hnm : n = (min (max most 1) 64).toNat := hn.symm
  obtain ⟨T, hT⟩ : ∃ T, findL M pc n 0 = T := ⟨_, rfl⟩
  obtain ⟨g0, hg0⟩ : ∃ g, M.gens (baseN pc) = g := ⟨_, rfl⟩
  rw [hn, hT, hg0]
  refine Cd.seq fun K1 hK1 => ?_
  refine Cd.plain [(0, false), (1, false)] rfl rfl ?_
  refine Jp.alloc 6 6 rfl (want_all rfl) rfl rfl rfl Try.zeroValue42 fun b6 => ⟨Kp.true, ?_⟩
  refine Jp.alloc 7 7 rfl (want_all rfl) rfl rfl rfl Try.zeroValue37 fun b7 => ⟨Kp.true, ?_⟩
  refine Jp.done hK1 ?_
  refine Cd.seq fun K2 hK2 => ?_
  refine Cd.seq fun K3 hK3 => ?_
  refine Cd.plain [(0, false), (1, false)] rfl rfl ?_
  refine Jp.y 12 rfl (want_all rfl) rfl rfl Kp.true (Y.move rfl rfl) ?_
  refine Jp.y 13 rfl (want_all rfl) rfl rfl Kp.true (Y.lss rfl rfl rfl) ?_
  refine Jp.done hK3 ?_
  refine Cd.joinG (G := Int) (fun z => z = max most 1) (fun z => [(2, .int .i64 z)]) [(0, _), (1, _), (6, _), (7, _)] ⟨rfl, rfl, rfl, rfl, trivial⟩ (fun _ => []) [(0, _), (6, _), (7, _)] ⟨rfl, rfl, rfl, trivial⟩ hK2 (fun g hφ => ?_) (fun hj1 => ?_)
  · skip
    refine Cd.seq fun K4 hK4 => ?_
    refine Cd.seq fun K5 hK5 => ?_
    refine Cd.plain [(0, false), (1, false)] rfl rfl ?_
    refine Jp.y 14 rfl (want_all rfl) rfl rfl Kp.true (Y.move rfl rfl) ?_
    refine Jp.y 15 rfl (want_all rfl) rfl rfl Kp.true (Y.gtr rfl rfl rfl) ?_
    refine Jp.done hK5 ?_
    refine Cd.joinG (G := Unit) (fun _ => True) (fun _ => [(2, .int .i64 (n : Int))]) [(0, _), (1, _), (6, _), (7, _)] ⟨rfl, rfl, rfl, rfl, trivial⟩ (fun _ => []) [(0, _), (6, _), (7, _)] ⟨rfl, rfl, rfl, trivial⟩ hK4 (fun g hφ => ?_) (fun hj2 => ?_)
    · clear hφ
      refine Cd.seq fun K6 hK6 => ?_
      refine Cd.plain [(0, false), (1, false), (2, false), (3, false), (4, false), (5, false), (6, false)] rfl rfl ?_
      refine Jp.y 16 rfl (want_all rfl) rfl rfl Kp.true (Y.move rfl rfl) ?_
      refine Jp.y 17 rfl (want_all rfl) rfl rfl Kp.true (Y.move rfl rfl) ?_
      refine Jp.y 18 rfl (want_all rfl) rfl rfl Kp.true (Y.move rfl rfl) ?_
      refine Jp.call [0] [0] (refGen_spec b M pc hpc) 19 rfl (want_all rfl) rfl rfl (Runs.fn rfl Try.call20 rfl) (by decide) (by decide) rfl trivial ?_
      rintro v1 ρ1 L1 ⟨rfl, rfl, rfl⟩
      refine ⟨rfl, fun hle1 => ⟨Kp.true, ?_⟩⟩
      rw [hg0]
      refine Jp.y 20 rfl (want_all rfl) rfl rfl Kp.true (Y.struct [(0, _), (2, _)] [_, _, _] rfl rfl places42 Try.zeroValue42 rfl) ?_
      refine Jp.alloc 8 8 rfl (want_all rfl) rfl rfl rfl Try.zeroValue42 fun b8 => ⟨Kp.true, ?_⟩
      first | refine Jp.storeAgg 6 rfl (want_all rfl) rfl rfl Try.sizeOf42 rfl rfl rfl rfl rfl rfl (fun k _ _ => noFr0 k) Kp.true ?_ | refine Jp.storeAgg 7 rfl (want_all rfl) rfl rfl Try.sizeOf42 rfl rfl rfl rfl rfl rfl (fun k _ _ => noFr0 k) Kp.true ?_ | refine Jp.storeAgg 8 rfl (want_all rfl) rfl rfl Try.sizeOf42 rfl rfl rfl rfl rfl rfl (fun k _ _ => noFr0 k) Kp.true ?_ | refine Jp.storeAgg 8 rfl (want_all rfl) rfl rfl Try.sizeOf42 rfl rfl rfl rfl rfl rfl (fun k _ _ => noFr0 k) Kp.true ?_
      refine Jp.done hK6 ?_
      refine Cd.seq fun K7 hK7 => ?_
      refine Cd.seq fun K8 hK8 => ?_
      refine Cd.plain [(0, false), (1, false)] rfl rfl ?_
      refine Jp.y 21 rfl (want_all rfl) rfl rfl Kp.true (Y.move rfl rfl) ?_
      refine Jp.y 9 rfl (want_all rfl) rfl rfl Kp.true (Y.assign rfl rfl) ?_
      refine Jp.done hK8 ?_
      refine Cd.block ?_
      refine Cd.imp (i := 8) rfl (fun h hh => (show Pt b8 (.cells (blockC pc none 0 0 g0).toArray 42) h from hh)) ?_
      refine Cd.make 1 (A := OwnS 48 5 none 0 0 (([] : List InsP).flatMap InsP.cells)) (OwnS.nil _ _ _) ?_
      refine Cd.slot 9 rfl (show _ = Value.int .u32 ((atP pc 0 : Nat) : Int) from congrArg (Value.int .u32) (by unfold atP; omega)) ?_
      refine Cd.joinG (G := List InsP × Option Addr × Nat) (fun g => g.1 = T ∧ g.1 ≠ []) (fun _ => []) [(6, _), (7, _), (8, _)] ⟨rfl, rfl, rfl, trivial⟩ (fun g => [(8, Pt b8 (.cells (blockC pc g.2.1 g.1.length g.2.2 g0).toArray 42)), (1, OwnS 48 5 g.2.1 g.1.length g.2.2 (g.1.flatMap InsP.cells))]) [(0, _), (6, _), (7, _)] ⟨rfl, rfl, rfl, trivial⟩ hK7 (fun g hφ => ?_) (fun hj3 => ?_)
      · obtain ⟨acc, B, d⟩ := g
        obtain ⟨p1, p2⟩ := hφ
        dsimp only at p1 p2 ⊢
        subst p1
        refine Cd.seq fun K9 hK9 => ?_
        refine Cd.plain [(0, false), (1, false), (2, false), (3, false)] rfl rfl ?_
        refine Jp.y 62 rfl (want_all rfl) rfl rfl Kp.true (by first | exact Y.loadAggO 6 rfl Try.isAgg42 Try.sizeOf42 rfl rfl rfl | exact Y.loadAggO 7 rfl Try.isAgg42 Try.sizeOf42 rfl rfl rfl | exact Y.loadAggO 8 rfl Try.isAgg42 Try.sizeOf42 rfl rfl rfl | exact Y.loadAggO 8 rfl Try.isAgg42 Try.sizeOf42 rfl rfl rfl) ?_
        refine Jp.y 63 rfl (want_all rfl) rfl rfl Kp.true (Y.struct [] [_, _, _] rfl rfl places37 Try.zeroValue37 rfl) ?_
        first | refine Jp.storeAgg 6 rfl (want_all rfl) rfl rfl Try.sizeOf42 rfl rfl rfl rfl rfl rfl (fun k _ _ => noFr0 k) Kp.true ?_ | refine Jp.storeAgg 7 rfl (want_all rfl) rfl rfl Try.sizeOf42 rfl rfl rfl rfl rfl rfl (fun k _ _ => noFr0 k) Kp.true ?_ | refine Jp.storeAgg 8 rfl (want_all rfl) rfl rfl Try.sizeOf42 rfl rfl rfl rfl rfl rfl (fun k _ _ => noFr0 k) Kp.true ?_ | refine Jp.storeAgg 8 rfl (want_all rfl) rfl rfl Try.sizeOf42 rfl rfl rfl rfl rfl rfl (fun k _ _ => noFr0 k) Kp.true ?_
        first | refine Jp.storeAgg 6 rfl (want_all rfl) rfl rfl Try.sizeOf37 rfl rfl rfl rfl rfl rfl (fun k _ _ => noFr0 k) Kp.true ?_ | refine Jp.storeAgg 7 rfl (want_all rfl) rfl rfl Try.sizeOf37 rfl rfl rfl rfl rfl rfl (fun k _ _ => noFr0 k) Kp.true ?_ | refine Jp.storeAgg 8 rfl (want_all rfl) rfl rfl Try.sizeOf37 rfl rfl rfl rfl rfl rfl (fun k _ _ => noFr0 k) Kp.true ?_ | refine Jp.storeAgg 8 rfl (want_all rfl) rfl rfl Try.sizeOf37 rfl rfl rfl rfl rfl rfl (fun k _ _ => noFr0 k) Kp.true ?_
        refine Jp.done hK9 ?_
        refine Cd.ret [(0, _), (1, _)] rfl (by first | exact resCC 6 7 rfl rfl rfl Try.isAgg42 Try.sizeOf42 Try.isAgg37 Try.sizeOf37 rfl rfl rfl rfl | exact resCC 6 8 rfl rfl rfl Try.isAgg42 Try.sizeOf42 Try.isAgg37 Try.sizeOf37 rfl rfl rfl rfl | exact resCC 6 8 rfl rfl rfl Try.isAgg42 Try.sizeOf42 Try.isAgg37 Try.sizeOf37 rfl rfl rfl rfl | exact resCC 7 6 rfl rfl rfl Try.isAgg42 Try.sizeOf42 Try.isAgg37 Try.sizeOf37 rfl rfl rfl rfl | exact resCC 7 8 rfl rfl rfl Try.isAgg42 Try.sizeOf42 Try.isAgg37 Try.sizeOf37 rfl rfl rfl rfl | exact resCC 7 8 rfl rfl rfl Try.isAgg42 Try.sizeOf42 Try.isAgg37 Try.sizeOf37 rfl rfl rfl rfl | exact resCC 8 6 rfl rfl rfl Try.isAgg42 Try.sizeOf42 Try.isAgg37 Try.sizeOf37 rfl rfl rfl rfl | exact resCC 8 7 rfl rfl rfl Try.isAgg42 Try.sizeOf42 Try.isAgg37 Try.sizeOf37 rfl rfl rfl rfl | exact resCC 8 6 rfl rfl rfl Try.isAgg42 Try.sizeOf42 Try.isAgg37 Try.sizeOf37 rfl rfl rfl rfl | exact resCC 8 7 rfl rfl rfl Try.isAgg42 Try.sizeOf42 Try.isAgg37 Try.sizeOf37 rfl rfl rfl rfl) ⟨rfl, rfl, trivial⟩ ⟨rfl, Or.inr ⟨p2, B, d, rfl, rfl⟩⟩
      · skip
        refine Cd.loopK (G := List InsP × Option Addr × Nat) (fun g => g.1 ++ findL M pc (n - g.1.length) g.1.length = T ∧ g.1.length ≤ n ∧ (g.1.length ≠ 0 → atP pc g.1.length / 256 = pc / 256)) (fun g => n + 1 - g.1.length) (fun _ => _) (fun g => [(9, .int .u32 (atP pc g.1.length : Int))]) [(0, _), (1, _), (2, _), (6, _), (7, _), (8, _)] (fun g => [(8, Pt b8 (.cells (blockC pc g.2.1 g.1.length g.2.2 g0).toArray 42)), (1, OwnS 48 5 g.2.1 g.1.length g.2.2 (g.1.flatMap InsP.cells))]) [(0, _), (6, _), (7, _)] ⟨[], none, 0⟩ ⟨hT, Nat.zero_le _, fun h => absurd rfl h⟩ rfl ⟨rfl, trivial⟩ ⟨rfl, rfl, rfl, rfl, rfl, rfl, trivial⟩ ⟨rfl, rfl, trivial⟩ ⟨rfl, rfl, rfl, trivial⟩ (fun g KLa hok hLa => ?_)
        obtain ⟨acc, B, d⟩ := g
        obtain ⟨ok1, ok2, ok3⟩ := hok
        dsimp only at ok1 ok2 ok3 ⊢
        have hat : atP pc acc.length < 4294967296 := Nat.mod_lt _ (by decide)
        have hat0 : acc.length = 0 → atP pc acc.length = pc := fun h => by rw [h]; unfold atP; omega
        have hpg : atP pc acc.length / 256 = pc / 256 := by
          by_cases hz : acc.length = 0
          · rw [hat0 hz]
          · exact ok3 hz
        have hnx : atP pc (acc.length + 1) = (atP pc acc.length + 4) % 4294967296 := by unfold atP; omega
        have hne0 : acc.length ≠ 0 → acc.length < 64 → atP pc acc.length ≠ pc := fun h h2 => by unfold atP; omega
        obtain ⟨at', hat'⟩ : ∃ x, atP pc acc.length = x := ⟨_, rfl⟩
        rw [hat'] at hat hat0 hnx hpg hne0 ⊢
        refine Cd.seq fun K10 hK10 => ?_
        refine Cd.seq fun K11 hK11 => ?_
        refine Cd.plain [(0, false), (1, false), (2, false), (3, false), (4, false)] rfl rfl ?_
        refine Jp.y 22 rfl (want_all rfl) rfl rfl Kp.true (by first | exact Y.fieldAddrP rfl rfl Try.underlying42 rfl Try.sizeOf40 (by decide) (show _ + 1 = _ from rfl) | exact Y.fieldAddr rfl rfl Try.underlying42 rfl Try.sizeOf40 (by decide)) ?_
        refine Jp.y 23 rfl (want_all rfl) rfl rfl Kp.true (by first | exact Y.loadO 6 rfl Try.isAgg40 rfl rfl rfl | exact Y.loadO 7 rfl Try.isAgg40 rfl rfl rfl | exact Y.loadO 8 rfl Try.isAgg40 rfl rfl rfl) ?_
        refine Jp.y 24 rfl (want_all rfl) rfl rfl Kp.true (Y.lenslice rfl Try.underlying40 rfl) ?_
        refine Jp.y 25 rfl (want_all rfl) rfl rfl Kp.true (Y.move rfl rfl) ?_
        refine Jp.y 26 rfl (want_all rfl) rfl rfl Kp.true (Y.lss rfl rfl rfl) ?_
        refine Jp.done hK11 ?_
        refine Cd.cond rfl (fun gl => ?_) (fun gl => ?_)
        · have hlt : acc.length < n := by simp at gl; omega
          obtain ⟨m, hm⟩ : ∃ m, n - acc.length = m + 1 := ⟨n - acc.length - 1, by omega⟩
          rw [hm, findL, hat'] at ok1
          obtain ⟨F, hF⟩ : ∃ F, fetchP M at' = F := ⟨_, rfl⟩
          have hal := fetchP_al (M := M) (a := at')
          have hS := refFetch_spec b M at' hat
          rw [hF] at hS ok1 hal
          obtain ⟨⟨op, rd, r1, r2, imm⟩, ⟨kd, ad, wy⟩⟩ := F
          dsimp only at hS ok1 hal
          refine Cd.skip hK10 ?_
          refine Cd.seq fun K12 hK12 => ?_
          refine Cd.block ?_
          refine Cd.seq fun K13 hK13 => ?_
          refine Cd.plain [(0, false), (1, false), (2, false), (3, false), (4, false), (5, false), (6, false), (7, false), (8, false), (9, false)] rfl rfl ?_
          refine Jp.y 30 rfl (want_all rfl) rfl rfl Kp.true (Y.move rfl rfl) ?_
          refine Jp.y 31 rfl (want_all rfl) rfl rfl Kp.true (Y.move rfl rfl) ?_
          refine Jp.call [0] [0] hS 32 rfl (want_all rfl) rfl rfl (Runs.fn rfl Try.call21 rfl) (by decide) (by decide) rfl trivial ?_
          rintro v2 ρ2 L2 ⟨rfl, rfl, rfl⟩
          refine ⟨rfl, fun hle2 => ⟨Kp.true, ?_⟩⟩
          refine Jp.y 29 rfl (want_all rfl) rfl rfl Kp.true (Y.move rfl rfl) ?_
          refine Jp.y 33 rfl (want_all rfl) rfl rfl Kp.true (Y.extract rfl rfl rfl) ?_
          refine Jp.y 34 rfl (want_all rfl) rfl rfl Kp.true (Y.extract rfl rfl rfl) ?_
          refine Jp.alloc 10 10 rfl (want_all rfl) rfl rfl rfl Try.zeroValue48 fun b10 => ⟨Kp.true, ?_⟩
          refine Jp.alloc 11 11 rfl (want_all rfl) rfl rfl rfl Try.zeroValue37 fun b11 => ⟨Kp.true, ?_⟩
          first | refine Jp.storeAgg 6 rfl (want_all rfl) rfl rfl Try.sizeOf48 rfl rfl rfl rfl rfl rfl (fun k _ _ => noFr0 k) Kp.true ?_ | refine Jp.storeAgg 7 rfl (want_all rfl) rfl rfl Try.sizeOf48 rfl rfl rfl rfl rfl rfl (fun k _ _ => noFr0 k) Kp.true ?_ | refine Jp.storeAgg 8 rfl (want_all rfl) rfl rfl Try.sizeOf48 rfl rfl rfl rfl rfl rfl (fun k _ _ => noFr0 k) Kp.true ?_ | refine Jp.storeAgg 10 rfl (want_all rfl) rfl rfl Try.sizeOf48 rfl rfl rfl rfl rfl rfl (fun k _ _ => noFr0 k) Kp.true ?_ | refine Jp.storeAgg 11 rfl (want_all rfl) rfl rfl Try.sizeOf48 rfl rfl rfl rfl rfl rfl (fun k _ _ => noFr0 k) Kp.true ?_
          first | refine Jp.storeAgg 6 rfl (want_all rfl) rfl rfl Try.sizeOf37 rfl rfl rfl rfl rfl rfl (fun k _ _ => noFr0 k) Kp.true ?_ | refine Jp.storeAgg 7 rfl (want_all rfl) rfl rfl Try.sizeOf37 rfl rfl rfl rfl rfl rfl (fun k _ _ => noFr0 k) Kp.true ?_ | refine Jp.storeAgg 8 rfl (want_all rfl) rfl rfl Try.sizeOf37 rfl rfl rfl rfl rfl rfl (fun k _ _ => noFr0 k) Kp.true ?_ | refine Jp.storeAgg 10 rfl (want_all rfl) rfl rfl Try.sizeOf37 rfl rfl rfl rfl rfl rfl (fun k _ _ => noFr0 k) Kp.true ?_ | refine Jp.storeAgg 11 rfl (want_all rfl) rfl rfl Try.sizeOf37 rfl rfl rfl rfl rfl rfl (fun k _ _ => noFr0 k) Kp.true ?_
          refine Jp.done hK13 ?_
          refine Cd.seq fun K14 hK14 => ?_
          refine Cd.seq fun K15 hK15 => ?_
          refine Cd.plain [(0, false), (1, false), (2, false), (3, false), (4, false), (5, false), (6, false), (7, false)] rfl rfl ?_
          refine Jp.imp (j := 11) rfl (fun h hh => (show Pt b11 (.cells [Value.int .i64 (kd : Int), Value.int .u32 (ad : Int), Value.int .i64 wy].toArray 37) h from hh)) ?_
          refine Jp.imp (j := 10) rfl (fun h hh => (show Pt b10 (.cells [Value.int .i64 (op : Int), Value.int .i64 (rd : Int), Value.int .i64 (r1 : Int), Value.int .i64 (r2 : Int), Value.int .i32 imm].toArray 48) h from hh)) ?_
          by_cases hk : kd = 0
          · rw [if_pos ⟨hpg, hk⟩] at ok1
            have hal := hal hk
            refine Jp.y 35 rfl (want_all rfl) rfl rfl Kp.true (by first | exact Y.fieldAddrP rfl rfl Try.underlying37 rfl Try.sizeOf3 (by decide) (show _ + 0 = _ from rfl) | exact Y.fieldAddr rfl rfl Try.underlying37 rfl Try.sizeOf3 (by decide)) ?_
            refine Jp.y 36 rfl (want_all rfl) rfl rfl Kp.true (by first | exact Y.loadO 6 rfl Try.isAgg3 rfl rfl rfl | exact Y.loadO 7 rfl Try.isAgg3 rfl rfl rfl | exact Y.loadO 8 rfl Try.isAgg3 rfl rfl rfl | exact Y.loadO 10 rfl Try.isAgg3 rfl rfl rfl | exact Y.loadO 11 rfl Try.isAgg3 rfl rfl rfl) ?_
            refine Jp.y 37 rfl (want_all rfl) rfl rfl Kp.true (Y.neq rfl rfl rfl) ?_
            refine Jp.slot 37 rfl (show _ = Value.bool false from congrArg Value.bool (by simp [hk])) ?_
            refine Jp.y 38 rfl (want_all rfl) rfl rfl Kp.true (Y.move rfl rfl) ?_
            refine Jp.slot 38 rfl (show _ = Value.bool false from rfl) ?_
            refine Jp.skip 39 rfl (want_as rfl rfl rfl rfl) rfl rfl Kp.true ?_
            refine Jp.skip 40 rfl (want_as rfl rfl rfl rfl) rfl rfl Kp.true ?_
            refine Jp.skip 41 rfl (want_as rfl rfl rfl rfl) rfl rfl Kp.true ?_
            refine Jp.y 42 rfl (want_all rfl) rfl rfl Kp.true (Y.pickF rfl rfl rfl) ?_
            refine Jp.slot 42 rfl (show _ = Value.bool false from rfl) ?_
            refine Jp.done hK15 ?_
            refine Cd.condF rfl ?_
            refine Cd.skip hK14 ?_
            refine Cd.seq fun K16 hK16 => ?_
            refine Cd.seq fun K17 hK17 => ?_
            refine Cd.plain [(0, false), (1, false), (2, false)] rfl rfl ?_
            refine Jp.y 45 rfl (want_all rfl) rfl rfl Kp.true (by first | exact Y.fieldAddrP rfl rfl Try.underlying37 rfl Try.sizeOf3 (by decide) (show _ + 0 = _ from rfl) | exact Y.fieldAddr rfl rfl Try.underlying37 rfl Try.sizeOf3 (by decide)) ?_
            refine Jp.y 46 rfl (want_all rfl) rfl rfl Kp.true (by first | exact Y.loadO 6 rfl Try.isAgg3 rfl rfl rfl | exact Y.loadO 7 rfl Try.isAgg3 rfl rfl rfl | exact Y.loadO 8 rfl Try.isAgg3 rfl rfl rfl | exact Y.loadO 10 rfl Try.isAgg3 rfl rfl rfl | exact Y.loadO 11 rfl Try.isAgg3 rfl rfl rfl) ?_
            refine Jp.y 47 rfl (want_all rfl) rfl rfl Kp.true (Y.neq rfl rfl rfl) ?_
            refine Jp.slot 47 rfl (show _ = Value.bool false from congrArg Value.bool (by simp [hk])) ?_
            refine Jp.done hK17 ?_
            obtain ⟨i, hi⟩ : ∃ i : InsP, i = ⟨op, rd, r1, r2, imm⟩ := ⟨_, rfl⟩
            have hlen : (acc ++ [i]).length = acc.length + 1 := by simp
            have hsn : acc.flatMap InsP.cells ++ [Value.int .i64 (op : Int), Value.int .i64 (rd : Int), Value.int .i64 (r1 : Int), Value.int .i64 (r2 : Int), Value.int .i32 imm] = (acc ++ [i]).flatMap InsP.cells := by rw [hi]; simp [InsP.cells]
            have hce : Value.agg #[Value.int .i64 (op : Int), Value.int .i64 (rd : Int), Value.int .i64 (r1 : Int), Value.int .i64 (r2 : Int), Value.int .i32 imm] = .agg i.cells.toArray := by rw [hi]; rfl
            refine Cd.condF rfl ?_
            refine Cd.skip hK16 ?_
            refine Cd.seq fun K18 hK18 => ?_
            refine Cd.plain [(0, false), (1, false), (2, false), (3, false), (4, false), (5, false), (6, false)] rfl rfl ?_
            refine Jp.y 48 rfl (want_all rfl) rfl rfl Kp.true (by first | exact Y.fieldAddrP rfl rfl Try.underlying42 rfl Try.sizeOf40 (by decide) (show _ + 1 = _ from rfl) | exact Y.fieldAddr rfl rfl Try.underlying42 rfl Try.sizeOf40 (by decide)) ?_
            refine Jp.y 49 rfl (want_all rfl) rfl rfl Kp.true (by first | exact Y.loadO 6 rfl Try.isAgg40 rfl rfl rfl | exact Y.loadO 7 rfl Try.isAgg40 rfl rfl rfl | exact Y.loadO 8 rfl Try.isAgg40 rfl rfl rfl | exact Y.loadO 10 rfl Try.isAgg40 rfl rfl rfl | exact Y.loadO 11 rfl Try.isAgg40 rfl rfl rfl) ?_
            refine Jp.y 50 rfl (want_all rfl) rfl rfl Kp.true (by first | exact Y.loadAggO 6 rfl Try.isAgg48 Try.sizeOf48 rfl rfl rfl | exact Y.loadAggO 7 rfl Try.isAgg48 Try.sizeOf48 rfl rfl rfl | exact Y.loadAggO 8 rfl Try.isAgg48 Try.sizeOf48 rfl rfl rfl | exact Y.loadAggO 10 rfl Try.isAgg48 Try.sizeOf48 rfl rfl rfl | exact Y.loadAggO 11 rfl Try.isAgg48 Try.sizeOf48 rfl rfl rfl) ?_
            refine Jp.lit 51 12 [(0, _)] [_, _, _, _, _] rfl (want_all rfl) rfl rfl rfl rfl Try.underlying40 Try.sizeOf48 Try.zeroValue48 rfl rfl rfl rfl rfl fun b12 => ⟨Kp.true, ?_⟩
            refine Jp.append 52 1 rfl (want_all rfl) rfl rfl rfl Try.underlying40 Try.underlying40 (.inl ⟨_, rfl⟩) Try.sizeOf48 Try.typeInfo48 Try.zeroValue48 rfl (by decide) rfl rfl rfl (Src.own 12 rfl) rfl ((acc ++ [i]).length) ((acc ++ [i]).flatMap InsP.cells) (by first | omega | simp) hsn (by simp only [Try.t48]; omega) fun A13 c13 => ⟨Kp.true, ?_⟩
            refine Jp.y 53 rfl (want_all rfl) rfl rfl Kp.true (by first | exact Y.fieldAddrP rfl rfl Try.underlying42 rfl Try.sizeOf40 (by decide) (show _ + 1 = _ from rfl) | exact Y.fieldAddr rfl rfl Try.underlying42 rfl Try.sizeOf40 (by decide)) ?_
            first | refine Jp.store 6 rfl (want_all rfl) rfl rfl Try.sizeOf40 rfl rfl rfl rfl rfl rfl Kp.true ?_ | refine Jp.store 7 rfl (want_all rfl) rfl rfl Try.sizeOf40 rfl rfl rfl rfl rfl rfl Kp.true ?_ | refine Jp.store 8 rfl (want_all rfl) rfl rfl Try.sizeOf40 rfl rfl rfl rfl rfl rfl Kp.true ?_ | refine Jp.store 10 rfl (want_all rfl) rfl rfl Try.sizeOf40 rfl rfl rfl rfl rfl rfl Kp.true ?_ | refine Jp.store 11 rfl (want_all rfl) rfl rfl Try.sizeOf40 rfl rfl rfl rfl rfl rfl Kp.true ?_ | refine Jp.store 12 rfl (want_all rfl) rfl rfl Try.sizeOf40 rfl rfl rfl rfl rfl rfl Kp.true ?_
            refine Jp.done hK18 ?_
            refine Cd.seq fun K19 hK19 => ?_
            refine Cd.plain [(0, false), (1, false), (2, false), (3, false), (4, false), (5, false), (6, false), (7, false)] rfl rfl ?_
            refine Jp.imp (j := 8) rfl (fun h hh => (show Pt b8 (.cells (blockC pc A13 (acc ++ [i]).length c13 g0).toArray 42) h from hh)) ?_
            refine Jp.y 54 rfl (want_all rfl) rfl rfl Kp.true (by first | exact Y.loadAggO 6 rfl Try.isAgg48 Try.sizeOf48 rfl rfl rfl | exact Y.loadAggO 7 rfl Try.isAgg48 Try.sizeOf48 rfl rfl rfl | exact Y.loadAggO 8 rfl Try.isAgg48 Try.sizeOf48 rfl rfl rfl | exact Y.loadAggO 10 rfl Try.isAgg48 Try.sizeOf48 rfl rfl rfl | exact Y.loadAggO 11 rfl Try.isAgg48 Try.sizeOf48 rfl rfl rfl | exact Y.loadAggO 12 rfl Try.isAgg48 Try.sizeOf48 rfl rfl rfl) ?_
            refine Jp.slot 54 rfl (show _ = Value.agg i.cells.toArray from hce) ?_
            refine Jp.call [] [] (refEnds_spec i) 55 rfl (want_all rfl) rfl rfl (Runs.fn rfl Try.call22 rfl) (by decide) (by decide) rfl trivial ?_
            rintro v3 ρ3 L3 ⟨rfl, rfl, rfl⟩
            refine ⟨rfl, fun hle3 => ⟨Kp.true, ?_⟩⟩
            have hie : i.op = op := by rw [hi]
            rw [hie]
            replace ok1 : acc ++ i :: (if endsP op = true then [] else findL M pc m (acc.length + 1)) = T := by rw [hi]; exact ok1
            by_cases he : endsP op = true
            · rw [if_pos he] at ok1
              refine Jp.y 56 rfl (want_all rfl) rfl rfl Kp.true (Y.move rfl rfl) ?_
              refine Jp.slot 56 rfl (show _ = Value.bool true from congrArg Value.bool he) ?_
              refine Jp.skip 57 rfl (want_as rfl rfl rfl rfl) rfl rfl Kp.true ?_
              refine Jp.skip 58 rfl (want_as rfl rfl rfl rfl) rfl rfl Kp.true ?_
              refine Jp.skip 59 rfl (want_as rfl rfl rfl rfl) rfl rfl Kp.true ?_
              refine Jp.skip 60 rfl (want_as rfl rfl rfl rfl) rfl rfl Kp.true ?_
              refine Jp.y 61 rfl (want_all rfl) rfl rfl Kp.true (Y.pickT rfl rfl rfl) ?_
              refine Jp.done hK19 ?_
              refine Cd.condT rfl ?_
              refine Cd.exit rfl hK7 ?_
              exact Cd.meet (hj3 ⟨acc ++ [i], A13, c13⟩ ⟨ok1, by simp⟩) ⟨rfl, rfl, rfl, trivial⟩ ⟨rfl, rfl, rfl, rfl, rfl, trivial⟩
            · rw [if_neg he] at ok1
              refine Jp.y 56 rfl (want_all rfl) rfl rfl Kp.true (Y.move rfl rfl) ?_
              refine Jp.slot 56 rfl (show _ = Value.bool false from congrArg Value.bool (by simpa using he)) ?_
              refine Jp.y 57 rfl (want_as rfl rfl rfl rfl) rfl rfl Kp.true (Y.move rfl rfl) ?_
              refine Jp.y 58 rfl (want_as rfl rfl rfl rfl) rfl rfl Kp.true (Y.add_ rfl rfl rfl (wrap_u32m (at' + 4))) ?_
              refine Jp.y 59 rfl (want_as rfl rfl rfl rfl) rfl rfl Kp.true (by first | exact Y.remN rfl rfl rfl (by omega) (by omega) | exact Y.rem rfl rfl rfl (by first | decide | omega)) ?_
              by_cases hp : (at' + 4) % 4294967296 % 256 = 0
              · have hno : findL M pc m (acc.length + 1) = [] := by
                  cases m with
                  | zero => rfl
                  | succ m =>
                    rw [findL, hnx, if_neg]
                    intro hq
                    have := hq.1
                    omega
                rw [hno] at ok1
                refine Jp.y 60 rfl (want_as rfl rfl rfl rfl) rfl rfl Kp.true (Y.eql rfl rfl rfl) ?_
                refine Jp.slot 60 rfl (show _ = Value.bool true from congrArg Value.bool (by rw [beq_iff_eq]; omega)) ?_
                refine Jp.y 61 rfl (want_all rfl) rfl rfl Kp.true (Y.pickF rfl rfl rfl) ?_
                refine Jp.slot 61 rfl (show _ = Value.bool true from rfl) ?_
                refine Jp.done hK19 ?_
                refine Cd.condT rfl ?_
                refine Cd.exit rfl hK7 ?_
                exact Cd.meet (hj3 ⟨acc ++ [i], A13, c13⟩ ⟨ok1, by simp⟩) ⟨rfl, rfl, rfl, trivial⟩ ⟨rfl, rfl, rfl, rfl, rfl, trivial⟩
              · skip
                refine Jp.y 60 rfl (want_as rfl rfl rfl rfl) rfl rfl Kp.true (Y.eql rfl rfl rfl) ?_
                refine Jp.slot 60 rfl (show _ = Value.bool false from congrArg Value.bool (by rw [beq_eq_false_iff_ne]; omega)) ?_
                refine Jp.y 61 rfl (want_all rfl) rfl rfl Kp.true (Y.pickF rfl rfl rfl) ?_
                refine Jp.slot 61 rfl (show _ = Value.bool false from rfl) ?_
                refine Jp.done hK19 ?_
                refine Cd.condF rfl ?_
                refine Cd.over rfl hK12 ?_
                refine Cd.plain [(0, false), (1, false), (2, false)] rfl rfl ?_
                refine Jp.y 27 rfl (want_all rfl) rfl rfl Kp.true (Y.move rfl rfl) ?_
                refine Jp.y 28 rfl (want_all rfl) rfl rfl Kp.true (Y.add_ rfl rfl rfl (wrap_u32m (at' + 4))) ?_
                refine Jp.y 9 rfl (want_all rfl) rfl rfl Kp.true (Y.assign rfl rfl) ?_
                refine Jp.slot 9 rfl (show _ = Value.int .u32 ((atP pc (acc ++ [i]).length : Nat) : Int) from congrArg (Value.int .u32) (by rw [hlen, hnx])) ?_
                refine Jp.again hLa ⟨acc ++ [i], A13, c13⟩ ⟨by rw [hlen, List.append_assoc, show n - (acc.length + 1) = m by omega]; exact ok1, by show (acc ++ [i]).length ≤ n; omega, fun _ => by rw [hlen, hnx]; omega⟩ (by show n + 1 - (acc ++ [i]).length < n + 1 - acc.length; omega) rfl ⟨rfl, rfl, rfl, rfl, rfl, rfl, rfl, trivial⟩ ⟨rfl, rfl, rfl, rfl, rfl, trivial⟩
          · rw [if_neg (by intro h; exact hk h.2), List.append_nil] at ok1
            refine Jp.y 35 rfl (want_all rfl) rfl rfl Kp.true (by first | exact Y.fieldAddrP rfl rfl Try.underlying37 rfl Try.sizeOf3 (by decide) (show _ + 0 = _ from rfl) | exact Y.fieldAddr rfl rfl Try.underlying37 rfl Try.sizeOf3 (by decide)) ?_
            refine Jp.y 36 rfl (want_all rfl) rfl rfl Kp.true (by first | exact Y.loadO 6 rfl Try.isAgg3 rfl rfl rfl | exact Y.loadO 7 rfl Try.isAgg3 rfl rfl rfl | exact Y.loadO 8 rfl Try.isAgg3 rfl rfl rfl | exact Y.loadO 10 rfl Try.isAgg3 rfl rfl rfl | exact Y.loadO 11 rfl Try.isAgg3 rfl rfl rfl | exact Y.loadO 12 rfl Try.isAgg3 rfl rfl rfl) ?_
            refine Jp.y 37 rfl (want_all rfl) rfl rfl Kp.true (Y.neq rfl rfl rfl) ?_
            refine Jp.slot 37 rfl (show _ = Value.bool true from congrArg Value.bool (by simp [hk])) ?_
            refine Jp.y 38 rfl (want_all rfl) rfl rfl Kp.true (Y.move rfl rfl) ?_
            refine Jp.slot 38 rfl (show _ = Value.bool true from rfl) ?_
            by_cases hz : acc.length = 0
            · have ha : acc = [] := List.length_eq_zero_iff.1 hz
              have hpa := hat0 hz
              subst hpa
              refine Jp.y 39 rfl (want_as rfl rfl rfl rfl) rfl rfl Kp.true (Y.move rfl rfl) ?_
              refine Jp.y 40 rfl (want_as rfl rfl rfl rfl) rfl rfl Kp.true (Y.move rfl rfl) ?_
              refine Jp.y 41 rfl (want_as rfl rfl rfl rfl) rfl rfl Kp.true (Y.eql rfl rfl rfl) ?_
              refine Jp.slot 41 rfl (show _ = Value.bool true from congrArg Value.bool (by simp)) ?_
              refine Jp.y 42 rfl (want_all rfl) rfl rfl Kp.true (Y.pickT rfl rfl rfl) ?_
              refine Jp.slot 42 rfl (show _ = Value.bool true from rfl) ?_
              refine Jp.done hK15 ?_
              refine Cd.condT rfl ?_
              refine Cd.seq fun K20 hK20 => ?_
              refine Cd.drawn [(11, _)] ⟨rfl, trivial⟩ [(0, true), (1, true), (2, false), (3, false)] follows (by kernel_rfl) (fun hrl => ?_)
              refine Jp.q 43 rfl (want_all rfl) rfl rfl (Y.struct [] [_, _, _] rfl rfl places42 Try.zeroValue42 rfl) ?_
              refine Jp.q 44 rfl (want_all rfl) rfl rfl (by first | exact Y.loadAggO 6 rfl Try.isAgg37 Try.sizeOf37 rfl rfl rfl | exact Y.loadAggO 7 rfl Try.isAgg37 Try.sizeOf37 rfl rfl rfl | exact Y.loadAggO 8 rfl Try.isAgg37 Try.sizeOf37 rfl rfl rfl | exact Y.loadAggO 10 rfl Try.isAgg37 Try.sizeOf37 rfl rfl rfl | exact Y.loadAggO 11 rfl Try.isAgg37 Try.sizeOf37 rfl rfl rfl | exact Y.loadAggO 12 rfl Try.isAgg37 Try.sizeOf37 rfl rfl rfl) ?_
              first | refine Jp.storeAgg 6 rfl (want_all rfl) rfl rfl Try.sizeOf42 rfl rfl rfl rfl rfl rfl (fun k _ _ => noFr0 k) (Kp.st ⟨rfl, trivial⟩) ?_ | refine Jp.storeAgg 7 rfl (want_all rfl) rfl rfl Try.sizeOf42 rfl rfl rfl rfl rfl rfl (fun k _ _ => noFr0 k) (Kp.st ⟨rfl, trivial⟩) ?_ | refine Jp.storeAgg 8 rfl (want_all rfl) rfl rfl Try.sizeOf42 rfl rfl rfl rfl rfl rfl (fun k _ _ => noFr0 k) (Kp.st ⟨rfl, trivial⟩) ?_ | refine Jp.storeAgg 10 rfl (want_all rfl) rfl rfl Try.sizeOf42 rfl rfl rfl rfl rfl rfl (fun k _ _ => noFr0 k) (Kp.st ⟨rfl, trivial⟩) ?_ | refine Jp.storeAgg 11 rfl (want_all rfl) rfl rfl Try.sizeOf42 rfl rfl rfl rfl rfl rfl (fun k _ _ => noFr0 k) (Kp.st ⟨rfl, trivial⟩) ?_ | refine Jp.storeAgg 12 rfl (want_all rfl) rfl rfl Try.sizeOf42 rfl rfl rfl rfl rfl rfl (fun k _ _ => noFr0 k) (Kp.st ⟨rfl, trivial⟩) ?_
              first | refine Jp.storeAgg 6 rfl (want_all rfl) rfl rfl Try.sizeOf37 rfl rfl rfl rfl rfl rfl (fun k _ _ => noFr0 k) Kp.last ?_ | refine Jp.storeAgg 7 rfl (want_all rfl) rfl rfl Try.sizeOf37 rfl rfl rfl rfl rfl rfl (fun k _ _ => noFr0 k) Kp.last ?_ | refine Jp.storeAgg 8 rfl (want_all rfl) rfl rfl Try.sizeOf37 rfl rfl rfl rfl rfl rfl (fun k _ _ => noFr0 k) Kp.last ?_ | refine Jp.storeAgg 10 rfl (want_all rfl) rfl rfl Try.sizeOf37 rfl rfl rfl rfl rfl rfl (fun k _ _ => noFr0 k) Kp.last ?_ | refine Jp.storeAgg 11 rfl (want_all rfl) rfl rfl Try.sizeOf37 rfl rfl rfl rfl rfl rfl (fun k _ _ => noFr0 k) Kp.last ?_ | refine Jp.storeAgg 12 rfl (want_all rfl) rfl rfl Try.sizeOf37 rfl rfl rfl rfl rfl rfl (fun k _ _ => noFr0 k) Kp.last ?_
              refine Jp.done hK20 ?_
              refine Cd.ret [(0, _)] rfl (by first | exact resCC 6 7 rfl rfl rfl Try.isAgg42 Try.sizeOf42 Try.isAgg37 Try.sizeOf37 rfl rfl rfl rfl | exact resCC 6 8 rfl rfl rfl Try.isAgg42 Try.sizeOf42 Try.isAgg37 Try.sizeOf37 rfl rfl rfl rfl | exact resCC 6 10 rfl rfl rfl Try.isAgg42 Try.sizeOf42 Try.isAgg37 Try.sizeOf37 rfl rfl rfl rfl | exact resCC 6 11 rfl rfl rfl Try.isAgg42 Try.sizeOf42 Try.isAgg37 Try.sizeOf37 rfl rfl rfl rfl | exact resCC 6 12 rfl rfl rfl Try.isAgg42 Try.sizeOf42 Try.isAgg37 Try.sizeOf37 rfl rfl rfl rfl | exact resCC 7 6 rfl rfl rfl Try.isAgg42 Try.sizeOf42 Try.isAgg37 Try.sizeOf37 rfl rfl rfl rfl | exact resCC 7 8 rfl rfl rfl Try.isAgg42 Try.sizeOf42 Try.isAgg37 Try.sizeOf37 rfl rfl rfl rfl | exact resCC 7 10 rfl rfl rfl Try.isAgg42 Try.sizeOf42 Try.isAgg37 Try.sizeOf37 rfl rfl rfl rfl | exact resCC 7 11 rfl rfl rfl Try.isAgg42 Try.sizeOf42 Try.isAgg37 Try.sizeOf37 rfl rfl rfl rfl | exact resCC 7 12 rfl rfl rfl Try.isAgg42 Try.sizeOf42 Try.isAgg37 Try.sizeOf37 rfl rfl rfl rfl | exact resCC 8 6 rfl rfl rfl Try.isAgg42 Try.sizeOf42 Try.isAgg37 Try.sizeOf37 rfl rfl rfl rfl | exact resCC 8 7 rfl rfl rfl Try.isAgg42 Try.sizeOf42 Try.isAgg37 Try.sizeOf37 rfl rfl rfl rfl | exact resCC 8 10 rfl rfl rfl Try.isAgg42 Try.sizeOf42 Try.isAgg37 Try.sizeOf37 rfl rfl rfl rfl | exact resCC 8 11 rfl rfl rfl Try.isAgg42 Try.sizeOf42 Try.isAgg37 Try.sizeOf37 rfl rfl rfl rfl | exact resCC 8 12 rfl rfl rfl Try.isAgg42 Try.sizeOf42 Try.isAgg37 Try.sizeOf37 rfl rfl rfl rfl | exact resCC 10 6 rfl rfl rfl Try.isAgg42 Try.sizeOf42 Try.isAgg37 Try.sizeOf37 rfl rfl rfl rfl | exact resCC 10 7 rfl rfl rfl Try.isAgg42 Try.sizeOf42 Try.isAgg37 Try.sizeOf37 rfl rfl rfl rfl | exact resCC 10 8 rfl rfl rfl Try.isAgg42 Try.sizeOf42 Try.isAgg37 Try.sizeOf37 rfl rfl rfl rfl | exact resCC 10 11 rfl rfl rfl Try.isAgg42 Try.sizeOf42 Try.isAgg37 Try.sizeOf37 rfl rfl rfl rfl | exact resCC 10 12 rfl rfl rfl Try.isAgg42 Try.sizeOf42 Try.isAgg37 Try.sizeOf37 rfl rfl rfl rfl | exact resCC 11 6 rfl rfl rfl Try.isAgg42 Try.sizeOf42 Try.isAgg37 Try.sizeOf37 rfl rfl rfl rfl | exact resCC 11 7 rfl rfl rfl Try.isAgg42 Try.sizeOf42 Try.isAgg37 Try.sizeOf37 rfl rfl rfl rfl | exact resCC 11 8 rfl rfl rfl Try.isAgg42 Try.sizeOf42 Try.isAgg37 Try.sizeOf37 rfl rfl rfl rfl | exact resCC 11 10 rfl rfl rfl Try.isAgg42 Try.sizeOf42 Try.isAgg37 Try.sizeOf37 rfl rfl rfl rfl | exact resCC 11 12 rfl rfl rfl Try.isAgg42 Try.sizeOf42 Try.isAgg37 Try.sizeOf37 rfl rfl rfl rfl | exact resCC 12 6 rfl rfl rfl Try.isAgg42 Try.sizeOf42 Try.isAgg37 Try.sizeOf37 rfl rfl rfl rfl | exact resCC 12 7 rfl rfl rfl Try.isAgg42 Try.sizeOf42 Try.isAgg37 Try.sizeOf37 rfl rfl rfl rfl | exact resCC 12 8 rfl rfl rfl Try.isAgg42 Try.sizeOf42 Try.isAgg37 Try.sizeOf37 rfl rfl rfl rfl | exact resCC 12 10 rfl rfl rfl Try.isAgg42 Try.sizeOf42 Try.isAgg37 Try.sizeOf37 rfl rfl rfl rfl | exact resCC 12 11 rfl rfl rfl Try.isAgg42 Try.sizeOf42 Try.isAgg37 Try.sizeOf37 rfl rfl rfl rfl) ⟨rfl, trivial⟩ ⟨rfl, Or.inl ⟨by rw [← ok1, ha], by rw [hF]; rfl, rfl⟩⟩
            · have hne : acc ≠ [] := by intro h; rw [h] at hz; simp at hz
              have hnp := hne0 hz (by omega)
              refine Jp.y 39 rfl (want_as rfl rfl rfl rfl) rfl rfl Kp.true (Y.move rfl rfl) ?_
              refine Jp.y 40 rfl (want_as rfl rfl rfl rfl) rfl rfl Kp.true (Y.move rfl rfl) ?_
              refine Jp.y 41 rfl (want_as rfl rfl rfl rfl) rfl rfl Kp.true (Y.eql rfl rfl rfl) ?_
              refine Jp.slot 41 rfl (show _ = Value.bool false from congrArg Value.bool (by simp; omega)) ?_
              refine Jp.y 42 rfl (want_all rfl) rfl rfl Kp.true (Y.pickT rfl rfl rfl) ?_
              refine Jp.slot 42 rfl (show _ = Value.bool false from rfl) ?_
              refine Jp.done hK15 ?_
              refine Cd.condF rfl ?_
              refine Cd.skip hK14 ?_
              refine Cd.seq fun K22 hK22 => ?_
              refine Cd.seq fun K23 hK23 => ?_
              refine Cd.plain [(0, false), (1, false), (2, false)] rfl rfl ?_
              refine Jp.y 45 rfl (want_all rfl) rfl rfl Kp.true (by first | exact Y.fieldAddrP rfl rfl Try.underlying37 rfl Try.sizeOf3 (by decide) (show _ + 0 = _ from rfl) | exact Y.fieldAddr rfl rfl Try.underlying37 rfl Try.sizeOf3 (by decide)) ?_
              refine Jp.y 46 rfl (want_all rfl) rfl rfl Kp.true (by first | exact Y.loadO 6 rfl Try.isAgg3 rfl rfl rfl | exact Y.loadO 7 rfl Try.isAgg3 rfl rfl rfl | exact Y.loadO 8 rfl Try.isAgg3 rfl rfl rfl | exact Y.loadO 10 rfl Try.isAgg3 rfl rfl rfl | exact Y.loadO 11 rfl Try.isAgg3 rfl rfl rfl | exact Y.loadO 12 rfl Try.isAgg3 rfl rfl rfl) ?_
              refine Jp.y 47 rfl (want_all rfl) rfl rfl Kp.true (Y.neq rfl rfl rfl) ?_
              refine Jp.slot 47 rfl (show _ = Value.bool true from congrArg Value.bool (by simp [hk])) ?_
              refine Jp.done hK23 ?_
              refine Cd.condT rfl ?_
              refine Cd.exit rfl hK7 ?_
              exact Cd.meet (hj3 ⟨acc, B, d⟩ ⟨ok1, hne⟩) ⟨rfl, rfl, rfl, trivial⟩ ⟨rfl, rfl, rfl, rfl, rfl, trivial⟩
        · have hk : acc.length = n := by simp at gl; omega
          have hend : acc = T := by rw [hk, Nat.sub_self] at ok1; simpa [findL] using ok1
          have hne : acc ≠ [] := by intro h; rw [h] at hk; simp at hk; omega
          refine Cd.exit rfl hK7 ?_
          exact Cd.meet (hj3 ⟨acc, B, d⟩ ⟨hend, hne⟩) ⟨rfl, rfl, rfl, trivial⟩ ⟨rfl, rfl, rfl, rfl, rfl, trivial⟩
    · skip
      refine Cd.cond rfl (fun gm => ?_) (fun gm => ?_)
      · skip
        refine Cd.plain [(0, false)] rfl rfl ?_
        refine Jp.y 2 rfl (want_all rfl) rfl rfl Kp.true (Y.assign rfl rfl) ?_
        refine Jp.done hK4 ?_
        refine Cd.slot 2 rfl (show _ = Value.int .i64 (n : Int) from congrArg (Value.int .i64) (by simp at gm; omega)) ?_
        exact Cd.meet (hj2 () trivial) ⟨rfl, rfl, rfl, rfl, rfl, trivial⟩ ⟨rfl, rfl, rfl, trivial⟩
      · skip
        refine Cd.skip hK4 ?_
        refine Cd.slot 2 rfl (show _ = Value.int .i64 (n : Int) from congrArg (Value.int .i64) (by simp at gm; omega)) ?_
        exact Cd.meet (hj2 () trivial) ⟨rfl, rfl, rfl, rfl, rfl, trivial⟩ ⟨rfl, rfl, rfl, trivial⟩
  · skip
    refine Cd.cond rfl (fun gm => ?_) (fun gm => ?_)
    · skip
      refine Cd.plain [(0, false)] rfl rfl ?_
      refine Jp.y 2 rfl (want_all rfl) rfl rfl Kp.true (Y.assign rfl rfl) ?_
      refine Jp.done hK2 ?_
      exact Cd.meet (hj1 1 (by simp at gm; omega)) ⟨rfl, rfl, rfl, rfl, rfl, trivial⟩ ⟨rfl, rfl, rfl, trivial⟩
    · skip
      refine Cd.skip hK2 ?_
      exact Cd.meet (hj1 most (by simp at gm; omega)) ⟨rfl, rfl, rfl, rfl, rfl, trivial⟩ ⟨rfl, rfl, rfl, trivial⟩
end Go.Proofs.Ytjfgefdcngpplaa
