import Derived.Test.YtjfgefdcngpplaaZRvD
set_option linter.unusedVariables false
set_option linter.unusedSimpArgs false
set_option maxRecDepth 100000
namespace Go.Proofs.Ytjfgefdcngpplaa
open Go
theorem loadM_lt (M : MemG) (a : Nat) (need : Int) : (loadM M a 4 need).1 < 4294967296 := by
  rw [loadM]
  split
  · split
    · rename_i p _
      have h := leN_lt ((p.b.drop (a % 256)).take (4 : Int).toNat)
      have h2 : ((p.b.drop (a % 256)).take (4 : Int).toNat).length ≤ 4 := by rw [List.length_take]; exact Nat.min_le_left ..
      exact Nat.lt_of_lt_of_le h (Nat.pow_le_pow_right (by omega) h2)
    · exact Nat.zero_lt_succ _
  · exact Nat.zero_lt_succ _
def atP (pc k : Nat) : Nat := (pc + 4 * k) % 4294967296
def findL (M : MemG) (pc : Nat) : Nat → Nat → List InsP
  | 0, _ => []
  | n + 1, k => if atP pc k / 256 = pc / 256 ∧ (fetchP M (atP pc k)).2.kind = 0 then (fetchP M (atP pc k)).1 :: (if endsP (fetchP M (atP pc k)).1.op then [] else findL M pc n (k + 1)) else []
def mostP (most : Int) : Nat := (min (max most 1) 64).toNat
def blockC (pc : Nat) (B : Option Addr) (l d gen : Nat) : List Value := [.int .u32 (pc : Int), .slice B l d, .int .u32 (gen : Int)]
theorem find_spec (b : Nat) (M : MemG) (pc : Nat) (most : Int) (hpc : pc < 4294967296) : Spec Try.prog 8 #[.pointer (some ⟨b, 0, none⟩), .int .u32 pc, .int .i64 most] (fun _ => True) [(0, MemO b M)]
    (fun ρ ρ' v L => ρ' = ρ ∧ ((findL M pc (mostP most) 0 = [] ∧ v = .tuple #[.agg (blockC 0 none 0 0 0).toArray, .agg (fetchP M pc).2.cells.toArray] ∧ L = [(0, MemO b M)]) ∨
      (findL M pc (mostP most) 0 ≠ [] ∧ ∃ B d, v = .tuple #[.agg (blockC pc B (findL M pc (mostP most) 0).length d (M.gens (baseN pc))).toArray, .agg noEv.cells.toArray] ∧ L = [(0, MemO b M), (1, OwnS 47 5 B (findL M pc (mostP most) 0).length d ((findL M pc (mostP most) 0).flatMap InsP.cells))]))) := by
  refine Spec.of 60 Try.func8 rfl Try.ntmps8 [(0, _), (1, _), (2, _)] rfl rfl ?_
  intro cx ρ hr h0
  obtain ⟨n, hn⟩ : ∃ n, mostP most = n := ⟨_, rfl⟩
  have hn1 : 1 ≤ n ∧ n ≤ 64 := by rw [← hn]; unfold mostP; omega
  obtain ⟨T, hT⟩ : ∃ T, findL M pc n 0 = T := ⟨_, rfl⟩
  obtain ⟨g0, hg0⟩ : ∃ g, M.gens (baseN pc) = g := ⟨_, rfl⟩
  rw [hn, hT, hg0]
  refine Cd.seq fun K1 hK1 => ?_
  refine Cd.plain [(0, false), (1, false)] rfl rfl ?_
  refine Jp.alloc 6 6 rfl (want_all rfl) rfl rfl rfl Try.zeroValue34 fun b6 => ⟨Kp.true, ?_⟩
  refine Jp.alloc 7 7 rfl (want_all rfl) rfl rfl rfl Try.zeroValue37 fun b7 => ⟨Kp.true, ?_⟩
  refine Jp.done hK1 ?_
  refine Cd.seq fun K2 hK2 => ?_
  refine Cd.plain [(0, false), (1, false), (2, false), (3, false)] rfl rfl ?_
  refine Jp.y 12 rfl (want_all rfl) rfl rfl Kp.true (Y.move rfl rfl) ?_
  refine Jp.y 13 rfl (want_all rfl) rfl rfl Kp.true (Y.max2 rfl rfl rfl) ?_
  refine Jp.y 14 rfl (want_all rfl) rfl rfl Kp.true (Y.min2 rfl rfl rfl) ?_
  refine Jp.y 2 rfl (want_all rfl) rfl rfl Kp.true (Y.assign rfl rfl) ?_
  refine Jp.done hK2 ?_
  refine Cd.seq fun K3 hK3 => ?_
  refine Cd.plain [(0, false), (1, false), (2, false), (3, false), (4, false), (5, false), (6, false)] rfl rfl ?_
  refine Jp.slot 2 rfl (show _ = Value.int .i64 (n : Int) from congrArg (Value.int .i64) (by rw [← hn]; unfold mostP; omega)) ?_
  refine Jp.y 15 rfl (want_all rfl) rfl rfl Kp.true (Y.move rfl rfl) ?_
  refine Jp.y 16 rfl (want_all rfl) rfl rfl Kp.true (Y.move rfl rfl) ?_
  refine Jp.y 17 rfl (want_all rfl) rfl rfl Kp.true (Y.move rfl rfl) ?_
  refine Jp.call [0] [0] (gen_spec b M pc hpc) 18 rfl (want_all rfl) rfl rfl (Runs.fn rfl Try.call10 rfl) (by decide) (by decide) rfl trivial ?_
  rintro v1 ρ1 L1 ⟨rfl, rfl, rfl⟩
  refine ⟨rfl, fun hle1 => ⟨Kp.true, ?_⟩⟩
  rw [hg0]
  refine Jp.y 19 rfl (want_all rfl) rfl rfl Kp.true (Y.struct [(0, _), (2, _)] [_, _, _] rfl rfl places34 Try.zeroValue34 rfl) ?_
  refine Jp.alloc 8 8 rfl (want_all rfl) rfl rfl rfl Try.zeroValue34 fun b8 => ⟨Kp.true, ?_⟩
  first | refine Jp.storeAgg 6 rfl (want_all rfl) rfl rfl Try.sizeOf34 rfl rfl rfl rfl rfl rfl (fun k _ _ => noFr0 k) Kp.true ?_ | refine Jp.storeAgg 7 rfl (want_all rfl) rfl rfl Try.sizeOf34 rfl rfl rfl rfl rfl rfl (fun k _ _ => noFr0 k) Kp.true ?_ | refine Jp.storeAgg 8 rfl (want_all rfl) rfl rfl Try.sizeOf34 rfl rfl rfl rfl rfl rfl (fun k _ _ => noFr0 k) Kp.true ?_ | refine Jp.storeAgg 8 rfl (want_all rfl) rfl rfl Try.sizeOf34 rfl rfl rfl rfl rfl rfl (fun k _ _ => noFr0 k) Kp.true ?_
  refine Jp.done hK3 ?_
  refine Cd.seq fun K4 hK4 => ?_
  refine Cd.seq fun K5 hK5 => ?_
  refine Cd.plain [(0, false), (1, false)] rfl rfl ?_
  refine Jp.y 20 rfl (want_all rfl) rfl rfl Kp.true (Y.move rfl rfl) ?_
  refine Jp.y 9 rfl (want_all rfl) rfl rfl Kp.true (Y.assign rfl rfl) ?_
  refine Jp.done hK5 ?_
  refine Cd.block ?_
  refine Cd.imp (i := 8) rfl (fun h hh => (show Pt b8 (.cells (blockC pc none 0 0 g0).toArray 34) h from hh)) ?_
  refine Cd.make 1 (A := OwnS 47 5 none 0 0 (([] : List InsP).flatMap InsP.cells)) (OwnS.nil _ _ _) ?_
  refine Cd.slot 9 rfl (show _ = Value.int .u32 ((atP pc 0 : Nat) : Int) from congrArg (Value.int .u32) (by unfold atP; omega)) ?_
  refine Cd.joinG (G := List InsP × Option Addr × Nat) (fun g => g.1 = T ∧ g.1 ≠ []) (fun _ => []) [(6, _), (7, _), (8, _)] ⟨rfl, rfl, rfl, trivial⟩ (fun g => [(8, Pt b8 (.cells (blockC pc g.2.1 g.1.length g.2.2 g0).toArray 34)), (1, OwnS 47 5 g.2.1 g.1.length g.2.2 (g.1.flatMap InsP.cells))]) [(0, _), (6, _), (7, _)] ⟨rfl, rfl, rfl, trivial⟩ hK4 (fun g hφ => ?_) (fun hj1 => ?_)
  · obtain ⟨acc, B, d⟩ := g
    obtain ⟨p1, p2⟩ := hφ
    dsimp only at p1 p2 ⊢
    subst p1
    refine Cd.seq fun K6 hK6 => ?_
    refine Cd.plain [(0, false), (1, false), (2, false), (3, false)] rfl rfl ?_
    refine Jp.y 58 rfl (want_all rfl) rfl rfl Kp.true (by first | exact Y.loadAggO 6 rfl Try.isAgg34 Try.sizeOf34 rfl rfl rfl | exact Y.loadAggO 7 rfl Try.isAgg34 Try.sizeOf34 rfl rfl rfl | exact Y.loadAggO 8 rfl Try.isAgg34 Try.sizeOf34 rfl rfl rfl | exact Y.loadAggO 8 rfl Try.isAgg34 Try.sizeOf34 rfl rfl rfl) ?_
    refine Jp.y 59 rfl (want_all rfl) rfl rfl Kp.true (Y.struct [] [_, _, _] rfl rfl places37 Try.zeroValue37 rfl) ?_
    first | refine Jp.storeAgg 6 rfl (want_all rfl) rfl rfl Try.sizeOf34 rfl rfl rfl rfl rfl rfl (fun k _ _ => noFr0 k) Kp.true ?_ | refine Jp.storeAgg 7 rfl (want_all rfl) rfl rfl Try.sizeOf34 rfl rfl rfl rfl rfl rfl (fun k _ _ => noFr0 k) Kp.true ?_ | refine Jp.storeAgg 8 rfl (want_all rfl) rfl rfl Try.sizeOf34 rfl rfl rfl rfl rfl rfl (fun k _ _ => noFr0 k) Kp.true ?_ | refine Jp.storeAgg 8 rfl (want_all rfl) rfl rfl Try.sizeOf34 rfl rfl rfl rfl rfl rfl (fun k _ _ => noFr0 k) Kp.true ?_
    first | refine Jp.storeAgg 6 rfl (want_all rfl) rfl rfl Try.sizeOf37 rfl rfl rfl rfl rfl rfl (fun k _ _ => noFr0 k) Kp.true ?_ | refine Jp.storeAgg 7 rfl (want_all rfl) rfl rfl Try.sizeOf37 rfl rfl rfl rfl rfl rfl (fun k _ _ => noFr0 k) Kp.true ?_ | refine Jp.storeAgg 8 rfl (want_all rfl) rfl rfl Try.sizeOf37 rfl rfl rfl rfl rfl rfl (fun k _ _ => noFr0 k) Kp.true ?_ | refine Jp.storeAgg 8 rfl (want_all rfl) rfl rfl Try.sizeOf37 rfl rfl rfl rfl rfl rfl (fun k _ _ => noFr0 k) Kp.true ?_
    refine Jp.done hK6 ?_
    refine Cd.ret [(0, _), (1, _)] rfl (by first | exact resCC 6 7 rfl rfl rfl Try.isAgg34 Try.sizeOf34 Try.isAgg37 Try.sizeOf37 rfl rfl rfl rfl | exact resCC 6 8 rfl rfl rfl Try.isAgg34 Try.sizeOf34 Try.isAgg37 Try.sizeOf37 rfl rfl rfl rfl | exact resCC 6 8 rfl rfl rfl Try.isAgg34 Try.sizeOf34 Try.isAgg37 Try.sizeOf37 rfl rfl rfl rfl | exact resCC 7 6 rfl rfl rfl Try.isAgg34 Try.sizeOf34 Try.isAgg37 Try.sizeOf37 rfl rfl rfl rfl | exact resCC 7 8 rfl rfl rfl Try.isAgg34 Try.sizeOf34 Try.isAgg37 Try.sizeOf37 rfl rfl rfl rfl | exact resCC 7 8 rfl rfl rfl Try.isAgg34 Try.sizeOf34 Try.isAgg37 Try.sizeOf37 rfl rfl rfl rfl | exact resCC 8 6 rfl rfl rfl Try.isAgg34 Try.sizeOf34 Try.isAgg37 Try.sizeOf37 rfl rfl rfl rfl | exact resCC 8 7 rfl rfl rfl Try.isAgg34 Try.sizeOf34 Try.isAgg37 Try.sizeOf37 rfl rfl rfl rfl | exact resCC 8 6 rfl rfl rfl Try.isAgg34 Try.sizeOf34 Try.isAgg37 Try.sizeOf37 rfl rfl rfl rfl | exact resCC 8 7 rfl rfl rfl Try.isAgg34 Try.sizeOf34 Try.isAgg37 Try.sizeOf37 rfl rfl rfl rfl) ⟨rfl, rfl, trivial⟩ ⟨rfl, Or.inr ⟨p2, B, d, rfl, rfl⟩⟩
  · skip
    refine Cd.loopK (G := List InsP × Option Addr × Nat) (fun g => g.1 ++ findL M pc (n - g.1.length) g.1.length = T ∧ g.1.length ≤ n) (fun g => n + 1 - g.1.length) (fun _ => _) (fun g => [(9, .int .u32 (atP pc g.1.length : Int))]) [(0, _), (1, _), (2, _), (6, _), (7, _), (8, _)] (fun g => [(8, Pt b8 (.cells (blockC pc g.2.1 g.1.length g.2.2 g0).toArray 34)), (1, OwnS 47 5 g.2.1 g.1.length g.2.2 (g.1.flatMap InsP.cells))]) [(0, _), (6, _), (7, _)] ⟨[], none, 0⟩ ⟨hT, Nat.zero_le _⟩ rfl ⟨rfl, trivial⟩ ⟨rfl, rfl, rfl, rfl, rfl, rfl, trivial⟩ ⟨rfl, rfl, trivial⟩ ⟨rfl, rfl, rfl, trivial⟩ (fun g KLa hok hLa => ?_)
    obtain ⟨acc, B, d⟩ := g
    obtain ⟨ok1, ok2⟩ := hok
    dsimp only at ok1 ok2 ⊢
    have hat : atP pc acc.length < 4294967296 := Nat.mod_lt _ (by decide)
    have hat0 : acc.length = 0 → atP pc acc.length = pc := fun h => by rw [h]; unfold atP; omega
    have hnx : atP pc (acc.length + 1) = (atP pc acc.length + 4) % 4294967296 := by unfold atP; omega
    obtain ⟨at', hat'⟩ : ∃ x, atP pc acc.length = x := ⟨_, rfl⟩
    rw [hat'] at hat hat0 hnx ⊢
    refine Cd.seq fun K7 hK7 => ?_
    refine Cd.seq fun K8 hK8 => ?_
    refine Cd.plain [(0, false), (1, false), (2, false), (3, false), (4, false), (5, false), (6, false), (7, false), (8, false), (9, false), (10, false), (11, false)] rfl rfl ?_
    refine Jp.y 21 rfl (want_all rfl) rfl rfl Kp.true (by first | exact Y.fieldAddrP rfl rfl Try.underlying34 rfl Try.sizeOf32 (by decide) (show _ + 1 = _ from rfl) | exact Y.fieldAddr rfl rfl Try.underlying34 rfl Try.sizeOf32 (by decide)) ?_
    refine Jp.y 22 rfl (want_all rfl) rfl rfl Kp.true (by first | exact Y.loadO 6 rfl Try.isAgg32 rfl rfl rfl | exact Y.loadO 7 rfl Try.isAgg32 rfl rfl rfl | exact Y.loadO 8 rfl Try.isAgg32 rfl rfl rfl) ?_
    refine Jp.y 23 rfl (want_all rfl) rfl rfl Kp.true (Y.lenslice rfl Try.underlying32 rfl) ?_
    refine Jp.y 24 rfl (want_all rfl) rfl rfl Kp.true (Y.move rfl rfl) ?_
    refine Jp.y 25 rfl (want_all rfl) rfl rfl Kp.true (Y.lss rfl rfl rfl) ?_
    refine Jp.y 26 rfl (want_all rfl) rfl rfl Kp.true (Y.move rfl rfl) ?_
    refine Jp.splitF 26 rfl (fun g26 => ?_) (fun g26 => ?_)
    · skip
      simp only [decide_eq_false_iff_not] at g26
      have hk : acc.length = n := by omega
      have hend : acc = T := by rw [hk, Nat.sub_self] at ok1; simpa [findL] using ok1
      have hne : acc ≠ [] := by intro h; rw [h] at hk; simp at hk; omega
      refine Jp.skip 27 rfl (want_as rfl rfl rfl rfl) rfl rfl Kp.true ?_
      refine Jp.skip 28 rfl (want_as rfl rfl rfl rfl) rfl rfl Kp.true ?_
      refine Jp.skip 29 rfl (want_as rfl rfl rfl rfl) rfl rfl Kp.true ?_
      refine Jp.skip 30 rfl (want_as rfl rfl rfl rfl) rfl rfl Kp.true ?_
      refine Jp.skip 31 rfl (want_as rfl rfl rfl rfl) rfl rfl Kp.true ?_
      refine Jp.y 32 rfl (want_all rfl) rfl rfl Kp.true (Y.pickF rfl rfl rfl) ?_
      refine Jp.done hK8 ?_
      refine Cd.condF rfl ?_
      refine Cd.exit rfl hK4 ?_
      exact Cd.meet (hj1 ⟨acc, B, d⟩ ⟨hend, hne⟩) ⟨rfl, rfl, rfl, trivial⟩ ⟨rfl, rfl, rfl, rfl, rfl, trivial⟩
    try simp only [decide_eq_false_iff_not, decide_eq_true_eq, Int.not_lt, Int.not_le, Bool.not_eq_false, Bool.not_eq_true, Bool.not_true, Bool.not_false, Bool.not_eq_true', Bool.not_eq_false', beq_eq_false_iff_ne, ne_eq, beq_iff_eq, bne_iff_ne, bne_eq_false_iff_eq, Classical.not_not] at g26
    refine Jp.y 27 rfl (want_as rfl rfl rfl rfl) rfl rfl Kp.true (Y.move rfl rfl) ?_
    have hlt : acc.length < n := by omega
    obtain ⟨m, hm⟩ : ∃ m, n - acc.length = m + 1 := ⟨n - acc.length - 1, by omega⟩
    rw [hm, findL, hat'] at ok1
    refine Jp.y 28 rfl (want_as rfl rfl rfl rfl) rfl rfl Kp.true (by first | exact Y.quoN rfl rfl rfl (by omega) (by omega) (wrap_u32 (by omega) (by omega)) | exact Y.quo rfl rfl rfl (by first | decide | omega)) ?_
    refine Jp.y 29 rfl (want_as rfl rfl rfl rfl) rfl rfl Kp.true (Y.move rfl rfl) ?_
    refine Jp.y 30 rfl (want_as rfl rfl rfl rfl) rfl rfl Kp.true (by first | exact Y.quoN rfl rfl rfl (by omega) (by omega) (wrap_u32 (by omega) (by omega)) | exact Y.quo rfl rfl rfl (by first | decide | omega)) ?_
    refine Jp.y 31 rfl (want_as rfl rfl rfl rfl) rfl rfl Kp.true (Y.eql rfl rfl rfl) ?_
    refine Jp.y 32 rfl (want_all rfl) rfl rfl Kp.true (Y.pickT rfl rfl rfl) ?_
    refine Jp.done hK8 ?_
    refine Cd.cond rfl (fun gp => ?_) (fun gp => ?_)
    · have hp : at' / 256 = pc / 256 := by simp at gp; omega
      obtain ⟨F, hF⟩ : ∃ F, fetchP M at' = F := ⟨_, rfl⟩
      have hS := fetch_spec b M at' hat (loadM_lt ..)
      rw [hF] at hS ok1
      obtain ⟨⟨op, rd, r1, r2, imm⟩, ⟨kd, ad, wy⟩⟩ := F
      dsimp only at hS ok1
      refine Cd.skip hK7 ?_
      refine Cd.seq fun K9 hK9 => ?_
      refine Cd.block ?_
      refine Cd.seq fun K10 hK10 => ?_
      refine Cd.plain [(0, false), (1, false), (2, false), (3, false), (4, false), (5, false), (6, false), (7, false), (8, false), (9, false)] rfl rfl ?_
      refine Jp.y 36 rfl (want_all rfl) rfl rfl Kp.true (Y.move rfl rfl) ?_
      refine Jp.y 37 rfl (want_all rfl) rfl rfl Kp.true (Y.move rfl rfl) ?_
      refine Jp.call [0] [0] hS 38 rfl (want_all rfl) rfl rfl (Runs.fn rfl Try.call18 rfl) (by decide) (by decide) rfl trivial ?_
      rintro v2 ρ2 L2 ⟨rfl, rfl, rfl⟩
      refine ⟨rfl, fun hle2 => ⟨Kp.true, ?_⟩⟩
      refine Jp.y 35 rfl (want_all rfl) rfl rfl Kp.true (Y.move rfl rfl) ?_
      refine Jp.y 39 rfl (want_all rfl) rfl rfl Kp.true (Y.extract rfl rfl rfl) ?_
      refine Jp.y 40 rfl (want_all rfl) rfl rfl Kp.true (Y.extract rfl rfl rfl) ?_
      refine Jp.alloc 10 10 rfl (want_all rfl) rfl rfl rfl Try.zeroValue47 fun b10 => ⟨Kp.true, ?_⟩
      refine Jp.alloc 11 11 rfl (want_all rfl) rfl rfl rfl Try.zeroValue37 fun b11 => ⟨Kp.true, ?_⟩
      first | refine Jp.storeAgg 6 rfl (want_all rfl) rfl rfl Try.sizeOf47 rfl rfl rfl rfl rfl rfl (fun k _ _ => noFr0 k) Kp.true ?_ | refine Jp.storeAgg 7 rfl (want_all rfl) rfl rfl Try.sizeOf47 rfl rfl rfl rfl rfl rfl (fun k _ _ => noFr0 k) Kp.true ?_ | refine Jp.storeAgg 8 rfl (want_all rfl) rfl rfl Try.sizeOf47 rfl rfl rfl rfl rfl rfl (fun k _ _ => noFr0 k) Kp.true ?_ | refine Jp.storeAgg 10 rfl (want_all rfl) rfl rfl Try.sizeOf47 rfl rfl rfl rfl rfl rfl (fun k _ _ => noFr0 k) Kp.true ?_ | refine Jp.storeAgg 11 rfl (want_all rfl) rfl rfl Try.sizeOf47 rfl rfl rfl rfl rfl rfl (fun k _ _ => noFr0 k) Kp.true ?_
      first | refine Jp.storeAgg 6 rfl (want_all rfl) rfl rfl Try.sizeOf37 rfl rfl rfl rfl rfl rfl (fun k _ _ => noFr0 k) Kp.true ?_ | refine Jp.storeAgg 7 rfl (want_all rfl) rfl rfl Try.sizeOf37 rfl rfl rfl rfl rfl rfl (fun k _ _ => noFr0 k) Kp.true ?_ | refine Jp.storeAgg 8 rfl (want_all rfl) rfl rfl Try.sizeOf37 rfl rfl rfl rfl rfl rfl (fun k _ _ => noFr0 k) Kp.true ?_ | refine Jp.storeAgg 10 rfl (want_all rfl) rfl rfl Try.sizeOf37 rfl rfl rfl rfl rfl rfl (fun k _ _ => noFr0 k) Kp.true ?_ | refine Jp.storeAgg 11 rfl (want_all rfl) rfl rfl Try.sizeOf37 rfl rfl rfl rfl rfl rfl (fun k _ _ => noFr0 k) Kp.true ?_
      refine Jp.done hK10 ?_
      refine Cd.seq fun K11 hK11 => ?_
      refine Cd.seq fun K12 hK12 => ?_
      refine Cd.plain [(0, false), (1, false), (2, false)] rfl rfl ?_
      refine Jp.imp (j := 11) rfl (fun h hh => (show Pt b11 (.cells [Value.int .i64 (kd : Int), Value.int .u32 (ad : Int), Value.int .i64 wy].toArray 37) h from hh)) ?_
      refine Jp.imp (j := 10) rfl (fun h hh => (show Pt b10 (.cells [Value.int .i64 (op : Int), Value.int .i64 (rd : Int), Value.int .i64 (r1 : Int), Value.int .i64 (r2 : Int), Value.int .i32 imm].toArray 47) h from hh)) ?_
      refine Jp.y 41 rfl (want_all rfl) rfl rfl Kp.true (by first | exact Y.fieldAddrP rfl rfl Try.underlying37 rfl Try.sizeOf3 (by decide) (show _ + 0 = _ from rfl) | exact Y.fieldAddr rfl rfl Try.underlying37 rfl Try.sizeOf3 (by decide)) ?_
      refine Jp.y 42 rfl (want_all rfl) rfl rfl Kp.true (by first | exact Y.loadO 6 rfl Try.isAgg3 rfl rfl rfl | exact Y.loadO 7 rfl Try.isAgg3 rfl rfl rfl | exact Y.loadO 8 rfl Try.isAgg3 rfl rfl rfl | exact Y.loadO 10 rfl Try.isAgg3 rfl rfl rfl | exact Y.loadO 11 rfl Try.isAgg3 rfl rfl rfl) ?_
      refine Jp.y 43 rfl (want_all rfl) rfl rfl Kp.true (Y.neq rfl rfl rfl) ?_
      refine Jp.done hK12 ?_
      refine Cd.cond rfl (fun ge => ?_) (fun ge => ?_)
      · have hk : kd ≠ 0 := by simpa using ge
        rw [if_neg (by intro h; exact hk h.2), List.append_nil] at ok1
        refine Cd.seq fun K13 hK13 => ?_
        refine Cd.seq fun K14 hK14 => ?_
        refine Cd.plain [(0, false), (1, false), (2, false), (3, false)] rfl rfl ?_
        refine Jp.y 44 rfl (want_all rfl) rfl rfl Kp.true (by first | exact Y.fieldAddrP rfl rfl Try.underlying34 rfl Try.sizeOf32 (by decide) (show _ + 1 = _ from rfl) | exact Y.fieldAddr rfl rfl Try.underlying34 rfl Try.sizeOf32 (by decide)) ?_
        refine Jp.y 45 rfl (want_all rfl) rfl rfl Kp.true (by first | exact Y.loadO 6 rfl Try.isAgg32 rfl rfl rfl | exact Y.loadO 7 rfl Try.isAgg32 rfl rfl rfl | exact Y.loadO 8 rfl Try.isAgg32 rfl rfl rfl | exact Y.loadO 10 rfl Try.isAgg32 rfl rfl rfl | exact Y.loadO 11 rfl Try.isAgg32 rfl rfl rfl) ?_
        refine Jp.y 46 rfl (want_all rfl) rfl rfl Kp.true (Y.lenslice rfl Try.underlying32 rfl) ?_
        refine Jp.y 47 rfl (want_all rfl) rfl rfl Kp.true (Y.eql rfl rfl rfl) ?_
        refine Jp.done hK14 ?_
        refine Cd.cond rfl (fun gz => ?_) (fun gz => ?_)
        · have hz : acc.length = 0 := by simpa using gz
          have ha : acc = [] := List.length_eq_zero_iff.1 hz
          have hpa := hat0 hz
          subst hpa
          refine Cd.seq fun K15 hK15 => ?_
          refine Cd.drawn [(11, _)] ⟨rfl, trivial⟩ [(0, true), (1, true), (2, false), (3, false)] follows (by kernel_rfl) (fun hrl => ?_)
          refine Jp.q 48 rfl (want_all rfl) rfl rfl (Y.struct [] [_, _, _] rfl rfl places34 Try.zeroValue34 rfl) ?_
          refine Jp.q 49 rfl (want_all rfl) rfl rfl (by first | exact Y.loadAggO 6 rfl Try.isAgg37 Try.sizeOf37 rfl rfl rfl | exact Y.loadAggO 7 rfl Try.isAgg37 Try.sizeOf37 rfl rfl rfl | exact Y.loadAggO 8 rfl Try.isAgg37 Try.sizeOf37 rfl rfl rfl | exact Y.loadAggO 10 rfl Try.isAgg37 Try.sizeOf37 rfl rfl rfl | exact Y.loadAggO 11 rfl Try.isAgg37 Try.sizeOf37 rfl rfl rfl) ?_
          first | refine Jp.storeAgg 6 rfl (want_all rfl) rfl rfl Try.sizeOf34 rfl rfl rfl rfl rfl rfl (fun k _ _ => noFr0 k) (Kp.st ⟨rfl, trivial⟩) ?_ | refine Jp.storeAgg 7 rfl (want_all rfl) rfl rfl Try.sizeOf34 rfl rfl rfl rfl rfl rfl (fun k _ _ => noFr0 k) (Kp.st ⟨rfl, trivial⟩) ?_ | refine Jp.storeAgg 8 rfl (want_all rfl) rfl rfl Try.sizeOf34 rfl rfl rfl rfl rfl rfl (fun k _ _ => noFr0 k) (Kp.st ⟨rfl, trivial⟩) ?_ | refine Jp.storeAgg 10 rfl (want_all rfl) rfl rfl Try.sizeOf34 rfl rfl rfl rfl rfl rfl (fun k _ _ => noFr0 k) (Kp.st ⟨rfl, trivial⟩) ?_ | refine Jp.storeAgg 11 rfl (want_all rfl) rfl rfl Try.sizeOf34 rfl rfl rfl rfl rfl rfl (fun k _ _ => noFr0 k) (Kp.st ⟨rfl, trivial⟩) ?_
          first | refine Jp.storeAgg 6 rfl (want_all rfl) rfl rfl Try.sizeOf37 rfl rfl rfl rfl rfl rfl (fun k _ _ => noFr0 k) Kp.last ?_ | refine Jp.storeAgg 7 rfl (want_all rfl) rfl rfl Try.sizeOf37 rfl rfl rfl rfl rfl rfl (fun k _ _ => noFr0 k) Kp.last ?_ | refine Jp.storeAgg 8 rfl (want_all rfl) rfl rfl Try.sizeOf37 rfl rfl rfl rfl rfl rfl (fun k _ _ => noFr0 k) Kp.last ?_ | refine Jp.storeAgg 10 rfl (want_all rfl) rfl rfl Try.sizeOf37 rfl rfl rfl rfl rfl rfl (fun k _ _ => noFr0 k) Kp.last ?_ | refine Jp.storeAgg 11 rfl (want_all rfl) rfl rfl Try.sizeOf37 rfl rfl rfl rfl rfl rfl (fun k _ _ => noFr0 k) Kp.last ?_
          refine Jp.done hK15 ?_
          refine Cd.ret [(0, _)] rfl (by first | exact resCC 6 7 rfl rfl rfl Try.isAgg34 Try.sizeOf34 Try.isAgg37 Try.sizeOf37 rfl rfl rfl rfl | exact resCC 6 8 rfl rfl rfl Try.isAgg34 Try.sizeOf34 Try.isAgg37 Try.sizeOf37 rfl rfl rfl rfl | exact resCC 6 10 rfl rfl rfl Try.isAgg34 Try.sizeOf34 Try.isAgg37 Try.sizeOf37 rfl rfl rfl rfl | exact resCC 6 11 rfl rfl rfl Try.isAgg34 Try.sizeOf34 Try.isAgg37 Try.sizeOf37 rfl rfl rfl rfl | exact resCC 7 6 rfl rfl rfl Try.isAgg34 Try.sizeOf34 Try.isAgg37 Try.sizeOf37 rfl rfl rfl rfl | exact resCC 7 8 rfl rfl rfl Try.isAgg34 Try.sizeOf34 Try.isAgg37 Try.sizeOf37 rfl rfl rfl rfl | exact resCC 7 10 rfl rfl rfl Try.isAgg34 Try.sizeOf34 Try.isAgg37 Try.sizeOf37 rfl rfl rfl rfl | exact resCC 7 11 rfl rfl rfl Try.isAgg34 Try.sizeOf34 Try.isAgg37 Try.sizeOf37 rfl rfl rfl rfl | exact resCC 8 6 rfl rfl rfl Try.isAgg34 Try.sizeOf34 Try.isAgg37 Try.sizeOf37 rfl rfl rfl rfl | exact resCC 8 7 rfl rfl rfl Try.isAgg34 Try.sizeOf34 Try.isAgg37 Try.sizeOf37 rfl rfl rfl rfl | exact resCC 8 10 rfl rfl rfl Try.isAgg34 Try.sizeOf34 Try.isAgg37 Try.sizeOf37 rfl rfl rfl rfl | exact resCC 8 11 rfl rfl rfl Try.isAgg34 Try.sizeOf34 Try.isAgg37 Try.sizeOf37 rfl rfl rfl rfl | exact resCC 10 6 rfl rfl rfl Try.isAgg34 Try.sizeOf34 Try.isAgg37 Try.sizeOf37 rfl rfl rfl rfl | exact resCC 10 7 rfl rfl rfl Try.isAgg34 Try.sizeOf34 Try.isAgg37 Try.sizeOf37 rfl rfl rfl rfl | exact resCC 10 8 rfl rfl rfl Try.isAgg34 Try.sizeOf34 Try.isAgg37 Try.sizeOf37 rfl rfl rfl rfl | exact resCC 10 11 rfl rfl rfl Try.isAgg34 Try.sizeOf34 Try.isAgg37 Try.sizeOf37 rfl rfl rfl rfl | exact resCC 11 6 rfl rfl rfl Try.isAgg34 Try.sizeOf34 Try.isAgg37 Try.sizeOf37 rfl rfl rfl rfl | exact resCC 11 7 rfl rfl rfl Try.isAgg34 Try.sizeOf34 Try.isAgg37 Try.sizeOf37 rfl rfl rfl rfl | exact resCC 11 8 rfl rfl rfl Try.isAgg34 Try.sizeOf34 Try.isAgg37 Try.sizeOf37 rfl rfl rfl rfl | exact resCC 11 10 rfl rfl rfl Try.isAgg34 Try.sizeOf34 Try.isAgg37 Try.sizeOf37 rfl rfl rfl rfl) ⟨rfl, trivial⟩ ⟨rfl, Or.inl ⟨by rw [← ok1, ha], by rw [hF]; rfl, rfl⟩⟩
        · have hne : acc ≠ [] := by intro h; rw [h] at gz; simp at gz
          refine Cd.skip hK13 ?_
          refine Cd.exit rfl hK4 ?_
          exact Cd.meet (hj1 ⟨acc, B, d⟩ ⟨ok1, hne⟩) ⟨rfl, rfl, rfl, trivial⟩ ⟨rfl, rfl, rfl, rfl, rfl, trivial⟩
      · have hk : kd = 0 := by simpa using ge
        rw [if_pos ⟨hp, hk⟩] at ok1
        obtain ⟨i, hi⟩ : ∃ i : InsP, i = ⟨op, rd, r1, r2, imm⟩ := ⟨_, rfl⟩
        have hlen : (acc ++ [i]).length = acc.length + 1 := by simp
        have hsn : acc.flatMap InsP.cells ++ [Value.int .i64 (op : Int), Value.int .i64 (rd : Int), Value.int .i64 (r1 : Int), Value.int .i64 (r2 : Int), Value.int .i32 imm] = (acc ++ [i]).flatMap InsP.cells := by rw [hi]; simp [InsP.cells]
        have hce : Value.agg #[Value.int .i64 (op : Int), Value.int .i64 (rd : Int), Value.int .i64 (r1 : Int), Value.int .i64 (r2 : Int), Value.int .i32 imm] = .agg i.cells.toArray := by rw [hi]; rfl
        refine Cd.skip hK11 ?_
        refine Cd.seq fun K17 hK17 => ?_
        refine Cd.plain [(0, false), (1, false), (2, false), (3, false), (4, false), (5, false), (6, false)] rfl rfl ?_
        refine Jp.y 50 rfl (want_all rfl) rfl rfl Kp.true (by first | exact Y.fieldAddrP rfl rfl Try.underlying34 rfl Try.sizeOf32 (by decide) (show _ + 1 = _ from rfl) | exact Y.fieldAddr rfl rfl Try.underlying34 rfl Try.sizeOf32 (by decide)) ?_
        refine Jp.y 51 rfl (want_all rfl) rfl rfl Kp.true (by first | exact Y.loadO 6 rfl Try.isAgg32 rfl rfl rfl | exact Y.loadO 7 rfl Try.isAgg32 rfl rfl rfl | exact Y.loadO 8 rfl Try.isAgg32 rfl rfl rfl | exact Y.loadO 10 rfl Try.isAgg32 rfl rfl rfl | exact Y.loadO 11 rfl Try.isAgg32 rfl rfl rfl) ?_
        refine Jp.y 52 rfl (want_all rfl) rfl rfl Kp.true (by first | exact Y.loadAggO 6 rfl Try.isAgg47 Try.sizeOf47 rfl rfl rfl | exact Y.loadAggO 7 rfl Try.isAgg47 Try.sizeOf47 rfl rfl rfl | exact Y.loadAggO 8 rfl Try.isAgg47 Try.sizeOf47 rfl rfl rfl | exact Y.loadAggO 10 rfl Try.isAgg47 Try.sizeOf47 rfl rfl rfl | exact Y.loadAggO 11 rfl Try.isAgg47 Try.sizeOf47 rfl rfl rfl) ?_
        refine Jp.lit 53 12 [(0, _)] [_, _, _, _, _] rfl (want_all rfl) rfl rfl rfl rfl Try.underlying32 Try.sizeOf47 Try.zeroValue47 rfl rfl rfl rfl rfl fun b12 => ⟨Kp.true, ?_⟩
        refine Jp.append 54 1 rfl (want_all rfl) rfl rfl rfl Try.underlying32 Try.underlying32 (.inl ⟨_, rfl⟩) Try.sizeOf47 Try.typeInfo47 Try.zeroValue47 rfl (by decide) rfl rfl rfl (Src.own 12 rfl) rfl ((acc ++ [i]).length) ((acc ++ [i]).flatMap InsP.cells) (by first | omega | simp) hsn (by simp only [Try.t47]; omega) fun A13 c13 => ⟨Kp.true, ?_⟩
        refine Jp.y 55 rfl (want_all rfl) rfl rfl Kp.true (by first | exact Y.fieldAddrP rfl rfl Try.underlying34 rfl Try.sizeOf32 (by decide) (show _ + 1 = _ from rfl) | exact Y.fieldAddr rfl rfl Try.underlying34 rfl Try.sizeOf32 (by decide)) ?_
        first | refine Jp.store 6 rfl (want_all rfl) rfl rfl Try.sizeOf32 rfl rfl rfl rfl rfl rfl Kp.true ?_ | refine Jp.store 7 rfl (want_all rfl) rfl rfl Try.sizeOf32 rfl rfl rfl rfl rfl rfl Kp.true ?_ | refine Jp.store 8 rfl (want_all rfl) rfl rfl Try.sizeOf32 rfl rfl rfl rfl rfl rfl Kp.true ?_ | refine Jp.store 10 rfl (want_all rfl) rfl rfl Try.sizeOf32 rfl rfl rfl rfl rfl rfl Kp.true ?_ | refine Jp.store 11 rfl (want_all rfl) rfl rfl Try.sizeOf32 rfl rfl rfl rfl rfl rfl Kp.true ?_ | refine Jp.store 12 rfl (want_all rfl) rfl rfl Try.sizeOf32 rfl rfl rfl rfl rfl rfl Kp.true ?_
        refine Jp.done hK17 ?_
        refine Cd.seq fun K18 hK18 => ?_
        refine Cd.plain [(0, false), (1, false)] rfl rfl ?_
        refine Jp.imp (j := 8) rfl (fun h hh => (show Pt b8 (.cells (blockC pc A13 (acc ++ [i]).length c13 g0).toArray 34) h from hh)) ?_
        refine Jp.y 56 rfl (want_all rfl) rfl rfl Kp.true (by first | exact Y.loadAggO 6 rfl Try.isAgg47 Try.sizeOf47 rfl rfl rfl | exact Y.loadAggO 7 rfl Try.isAgg47 Try.sizeOf47 rfl rfl rfl | exact Y.loadAggO 8 rfl Try.isAgg47 Try.sizeOf47 rfl rfl rfl | exact Y.loadAggO 10 rfl Try.isAgg47 Try.sizeOf47 rfl rfl rfl | exact Y.loadAggO 11 rfl Try.isAgg47 Try.sizeOf47 rfl rfl rfl | exact Y.loadAggO 12 rfl Try.isAgg47 Try.sizeOf47 rfl rfl rfl) ?_
        refine Jp.slot 56 rfl (show _ = Value.agg i.cells.toArray from hce) ?_
        refine Jp.call [] [] (ends_spec i) 57 rfl (want_all rfl) rfl rfl (Runs.fn rfl Try.call19 rfl) (by decide) (by decide) rfl trivial ?_
        rintro v3 ρ3 L3 ⟨rfl, rfl, rfl⟩
        refine ⟨rfl, fun hle3 => ⟨Kp.true, ?_⟩⟩
        have hie : i.op = op := by rw [hi]
        rw [hie]
        replace ok1 : acc ++ i :: (if endsP op = true then [] else findL M pc m (acc.length + 1)) = T := by rw [hi]; exact ok1
        refine Jp.done hK18 ?_
        refine Cd.cond rfl (fun gq => ?_) (fun gq => ?_)
        · rw [if_pos gq] at ok1
          refine Cd.exit rfl hK4 ?_
          exact Cd.meet (hj1 ⟨acc ++ [i], A13, c13⟩ ⟨ok1, by simp⟩) ⟨rfl, rfl, rfl, trivial⟩ ⟨rfl, rfl, rfl, rfl, rfl, trivial⟩
        · rw [if_neg (by rw [gq]; simp)] at ok1
          refine Cd.over rfl hK9 ?_
          refine Cd.plain [(0, false), (1, false), (2, false)] rfl rfl ?_
          refine Jp.y 33 rfl (want_all rfl) rfl rfl Kp.true (Y.move rfl rfl) ?_
          refine Jp.y 34 rfl (want_all rfl) rfl rfl Kp.true (Y.add_ rfl rfl rfl (wrap_u32m (at' + 4))) ?_
          refine Jp.y 9 rfl (want_all rfl) rfl rfl Kp.true (Y.assign rfl rfl) ?_
          refine Jp.slot 9 rfl (show _ = Value.int .u32 ((atP pc (acc ++ [i]).length : Nat) : Int) from congrArg (Value.int .u32) (by rw [hlen, hnx])) ?_
          refine Jp.again hLa ⟨acc ++ [i], A13, c13⟩ ⟨by rw [hlen, List.append_assoc, show n - (acc.length + 1) = m by omega]; exact ok1, by show (acc ++ [i]).length ≤ n; omega⟩ (by show n + 1 - (acc ++ [i]).length < n + 1 - acc.length; omega) rfl ⟨rfl, rfl, rfl, rfl, rfl, rfl, rfl, trivial⟩ ⟨rfl, rfl, rfl, rfl, rfl, trivial⟩
    · have hp : ¬ at' / 256 = pc / 256 := by simp at gp; omega
      rw [if_neg (by intro h; exact hp h.1), List.append_nil] at ok1
      have hne : acc ≠ [] := by
        intro h
        rw [hat0 (by rw [h]; rfl)] at hp
        exact hp rfl
      refine Cd.exit rfl hK4 ?_
      exact Cd.meet (hj1 ⟨acc, B, d⟩ ⟨ok1, hne⟩) ⟨rfl, rfl, rfl, trivial⟩ ⟨rfl, rfl, rfl, rfl, rfl, trivial⟩
end Go.Proofs.Ytjfgefdcngpplaa
