import Derived.Test.YtjfgefdcngpplaaZR5D
import Derived.Test.YtjfgefdcngpplaaZRefF
set_option linter.unusedVariables false
set_option linter.unusedSimpArgs false
set_option maxRecDepth 100000
namespace Go.Proofs.Ytjfgefdcngpplaa
open Go
theorem decP_op (w : Nat) : (decP w).op = kindP w := by
  unfold decP
  repeat' split
  all_goals rfl
theorem decP_none {w : Nat} (h : (decP w).op = 0) : decP w = noIns := by
  rw [decP_op] at h
  unfold decP
  rw [if_pos (.inl h), h]; rfl
theorem loadM_u32f (M : MemG) (a : Nat) (need : Int) : (loadM M a 4 need).1 < 4294967296 := by
  unfold loadM
  split
  · split
    · rename_i p h1
      have h2 := leN_lt ((p.b.drop (a % 256)).take (4 : Int).toNat)
      have h3 : ((p.b.drop (a % 256)).take (4 : Int).toNat).length ≤ 4 := by rw [List.length_take]; exact Nat.min_le_left ..
      exact Nat.lt_of_lt_of_le h2 (Nat.pow_le_pow_right (n := 256) (by omega) h3)
    · exact Nat.zero_lt_succ _
  · exact Nat.zero_lt_succ _
theorem refFetch_spec (b : Nat) (M : MemG) (pc : Nat) (hpc : pc < 4294967296) : Spec Try.prog 21 #[.pointer (some ⟨b, 0, none⟩), .int .u32 pc] (fun _ => True) [(0, RefO b M)]
    (fun ρ ρ' v L => ρ' = ρ ∧ v = .tuple #[.agg (fetchP M pc).1.cells.toArray, .agg (fetchP M pc).2.cells.toArray] ∧ L = [(0, RefO b M)]) := by
  refine Spec.of 31 Try.func21 rfl Try.ntmps21 [(0, _), (1, _)] rfl rfl ?_
  intro cx ρ hr h0
  obtain ⟨F, hF⟩ : ∃ F, fetchP M pc = F := ⟨_, rfl⟩
  rw [hF]
  unfold fetchP at hF
  have hL := refLoad_spec b M pc 4 4 hpc
  have hl := loadM_u32f M pc 4
  obtain ⟨w, hw⟩ : ∃ w, (loadM M pc 4 4).1 = w := ⟨_, rfl⟩
  obtain ⟨f, hf⟩ : ∃ f, (loadM M pc 4 4).2 = f := ⟨_, rfl⟩
  rw [hw, hf] at hF hL
  rw [hw] at hl
  have hD := decode5_spec w hl
  have hN := decP_none (w := w)
  obtain ⟨i, hi⟩ : ∃ i, decP w = i := ⟨_, rfl⟩
  rw [hi] at hF hD hN
  refine Cd.seq fun K1 hK1 => ?_
  refine Cd.plain [(0, false), (1, false)] rfl rfl ?_
  refine Jp.alloc 4 4 rfl (want_all rfl) rfl rfl rfl Try.zeroValue48 fun b4 => ⟨Kp.true, ?_⟩
  refine Jp.alloc 5 5 rfl (want_all rfl) rfl rfl rfl Try.zeroValue37 fun b5 => ⟨Kp.true, ?_⟩
  refine Jp.done hK1 ?_
  refine Cd.seq fun K2 hK2 => ?_
  refine Cd.plain [(0, false), (1, false), (2, false), (3, false), (4, false), (5, false), (6, false), (7, false)] rfl rfl ?_
  refine Jp.y 10 rfl (want_all rfl) rfl rfl Kp.true (Y.move rfl rfl) ?_
  refine Jp.y 11 rfl (want_all rfl) rfl rfl Kp.true (Y.move rfl rfl) ?_
  refine Jp.call [0] [0] hL 12 rfl (want_all rfl) rfl rfl (Runs.fn rfl Try.call31 rfl) (by decide) (by decide) rfl trivial ?_
  rintro v1 ρ1 L1 ⟨rfl, rfl, rfl⟩
  refine ⟨rfl, fun hle1 => ⟨Kp.true, ?_⟩⟩
  refine Jp.y 9 rfl (want_all rfl) rfl rfl Kp.true (Y.move rfl rfl) ?_
  refine Jp.y 13 rfl (want_all rfl) rfl rfl Kp.true (Y.extract rfl rfl rfl) ?_
  refine Jp.y 14 rfl (want_all rfl) rfl rfl Kp.true (Y.extract rfl rfl rfl) ?_
  refine Jp.y 6 rfl (want_all rfl) rfl rfl Kp.true (Y.assign rfl rfl) ?_
  refine Jp.y 7 rfl (want_all rfl) rfl rfl Kp.true (Y.assign rfl rfl) ?_
  refine Jp.done hK2 ?_
  refine Cd.seq fun K3 hK3 => ?_
  refine Cd.seq fun K4 hK4 => ?_
  refine Cd.plain [(0, false), (1, false)] rfl rfl ?_
  refine Jp.y 15 rfl (want_all rfl) rfl rfl Kp.true (Y.move rfl rfl) ?_
  refine Jp.y 16 rfl (want_all rfl) rfl rfl Kp.true (Y.neq rfl rfl rfl) ?_
  refine Jp.done hK4 ?_
  refine Cd.cond rfl (fun ga => ?_) (fun ga => ?_)
  · simp at ga
    rw [if_neg ga] at hF
    subst hF
    refine Cd.seq fun K5 hK5 => ?_
    refine Cd.plain [(0, false), (1, false), (2, false), (3, false), (4, false), (5, false)] rfl rfl ?_
    refine Jp.y 17 rfl (want_all rfl) rfl rfl Kp.true (Y.struct [] [_, _, _, _, _] rfl rfl places48 Try.zeroValue48 rfl) ?_
    refine Jp.y 18 rfl (want_all rfl) rfl rfl Kp.true (Y.move rfl rfl) ?_
    refine Jp.y 19 rfl (want_all rfl) rfl rfl Kp.true (Y.move rfl rfl) ?_
    refine Jp.y 20 rfl (want_all rfl) rfl rfl Kp.true (Y.struct [(0, _), (1, _), (2, _)] [_, _, _] rfl rfl places37 Try.zeroValue37 rfl) ?_
    first | refine Jp.storeAll 4 rfl (want_all rfl) rfl rfl Try.sizeOf48 rfl rfl (by first | rfl | assumption) (by first | rfl | assumption) rfl (by first | rfl | assumption) (fun k _ _ => noFr0 k) Kp.true ?_ | refine Jp.storeAll 5 rfl (want_all rfl) rfl rfl Try.sizeOf48 rfl rfl (by first | rfl | assumption) (by first | rfl | assumption) rfl (by first | rfl | assumption) (fun k _ _ => noFr0 k) Kp.true ?_ | refine Jp.storeAll 4 rfl (want_all rfl) rfl rfl Try.sizeOf48 rfl rfl (by first | rfl | assumption) (by first | rfl | assumption) rfl (by first | rfl | assumption) (fun k _ _ => noFr0 k) Kp.true ?_ | refine Jp.storeAll 5 rfl (want_all rfl) rfl rfl Try.sizeOf48 rfl rfl (by first | rfl | assumption) (by first | rfl | assumption) rfl (by first | rfl | assumption) (fun k _ _ => noFr0 k) Kp.true ?_
    first | refine Jp.storeAll 4 rfl (want_all rfl) rfl rfl Try.sizeOf37 rfl rfl (by first | rfl | assumption) (by first | rfl | assumption) rfl (by first | rfl | assumption) (fun k _ _ => noFr0 k) Kp.true ?_ | refine Jp.storeAll 5 rfl (want_all rfl) rfl rfl Try.sizeOf37 rfl rfl (by first | rfl | assumption) (by first | rfl | assumption) rfl (by first | rfl | assumption) (fun k _ _ => noFr0 k) Kp.true ?_ | refine Jp.storeAll 4 rfl (want_all rfl) rfl rfl Try.sizeOf37 rfl rfl (by first | rfl | assumption) (by first | rfl | assumption) rfl (by first | rfl | assumption) (fun k _ _ => noFr0 k) Kp.true ?_ | refine Jp.storeAll 5 rfl (want_all rfl) rfl rfl Try.sizeOf37 rfl rfl (by first | rfl | assumption) (by first | rfl | assumption) rfl (by first | rfl | assumption) (fun k _ _ => noFr0 k) Kp.true ?_
    refine Jp.done hK5 ?_
    refine Cd.ret [(0, _)] rfl (by first | exact resCC 4 5 rfl rfl rfl Try.isAgg48 Try.sizeOf48 Try.isAgg37 Try.sizeOf37 rfl (by first | rfl | assumption) rfl (by first | rfl | assumption) | exact resCC 4 5 rfl rfl rfl Try.isAgg48 Try.sizeOf48 Try.isAgg37 Try.sizeOf37 rfl (by first | rfl | assumption) rfl (by first | rfl | assumption) | exact resCC 5 4 rfl rfl rfl Try.isAgg48 Try.sizeOf48 Try.isAgg37 Try.sizeOf37 rfl (by first | rfl | assumption) rfl (by first | rfl | assumption) | exact resCC 5 4 rfl rfl rfl Try.isAgg48 Try.sizeOf48 Try.isAgg37 Try.sizeOf37 rfl (by first | rfl | assumption) rfl (by first | rfl | assumption) | exact resCC 4 5 rfl rfl rfl Try.isAgg48 Try.sizeOf48 Try.isAgg37 Try.sizeOf37 rfl (by first | rfl | assumption) rfl (by first | rfl | assumption) | exact resCC 4 5 rfl rfl rfl Try.isAgg48 Try.sizeOf48 Try.isAgg37 Try.sizeOf37 rfl (by first | rfl | assumption) rfl (by first | rfl | assumption) | exact resCC 5 4 rfl rfl rfl Try.isAgg48 Try.sizeOf48 Try.isAgg37 Try.sizeOf37 rfl (by first | rfl | assumption) rfl (by first | rfl | assumption) | exact resCC 5 4 rfl rfl rfl Try.isAgg48 Try.sizeOf48 Try.isAgg37 Try.sizeOf37 rfl (by first | rfl | assumption) rfl (by first | rfl | assumption)) ⟨rfl, trivial⟩ ⟨rfl, rfl, rfl⟩
  · simp at ga
    rw [if_pos ga] at hF
    refine Cd.skip hK3 ?_
    refine Cd.seq fun K6 hK6 => ?_
    refine Cd.plain [(0, false), (1, false), (2, false), (3, false)] rfl rfl ?_
    refine Jp.y 21 rfl (want_all rfl) rfl rfl Kp.true (Y.move rfl rfl) ?_
    refine Jp.call [] [] hD 22 rfl (want_all rfl) rfl rfl (Runs.fn rfl Try.call32 rfl) (by decide) (by decide) rfl trivial ?_
    rintro v2 ρ2 L2 ⟨rfl, rfl, rfl⟩
    refine ⟨rfl, fun hle2 => ⟨Kp.true, ?_⟩⟩
    obtain ⟨op, rd, r1, r2, imm⟩ := i
    refine Jp.alloc 8 8 rfl (want_all rfl) rfl rfl rfl Try.zeroValue48 fun b8 => ⟨Kp.true, ?_⟩
    first | refine Jp.storeAll 8 rfl (want_all rfl) rfl rfl Try.sizeOf48 rfl rfl (by first | rfl | assumption) (by first | rfl | assumption) rfl (by first | rfl | assumption) (fun k _ _ => noFr0 k) Kp.true ?_ | refine Jp.storeAll 4 rfl (want_all rfl) rfl rfl Try.sizeOf48 rfl rfl (by first | rfl | assumption) (by first | rfl | assumption) rfl (by first | rfl | assumption) (fun k _ _ => noFr0 k) Kp.true ?_ | refine Jp.storeAll 5 rfl (want_all rfl) rfl rfl Try.sizeOf48 rfl rfl (by first | rfl | assumption) (by first | rfl | assumption) rfl (by first | rfl | assumption) (fun k _ _ => noFr0 k) Kp.true ?_
    refine Jp.done hK6 ?_
    refine Cd.seq fun K7 hK7 => ?_
    refine Cd.seq fun K8 hK8 => ?_
    refine Cd.plain [(0, false), (1, false), (2, false)] rfl rfl ?_
    refine Jp.y 23 rfl (want_all rfl) rfl rfl Kp.true (by first | exact Y.fieldAddrP rfl rfl Try.underlying48 rfl Try.sizeOf3 (by decide) (show _ + 0 = _ from rfl) | exact Y.fieldAddr rfl rfl Try.underlying48 rfl Try.sizeOf3 (by decide)) ?_
    refine Jp.y 24 rfl (want_all rfl) rfl rfl Kp.true (by first | exact Y.loadO 8 rfl Try.isAgg3 rfl rfl rfl | exact Y.loadO 4 rfl Try.isAgg3 rfl rfl rfl | exact Y.loadO 5 rfl Try.isAgg3 rfl rfl rfl) ?_
    refine Jp.y 25 rfl (want_all rfl) rfl rfl Kp.true (Y.eql rfl rfl rfl) ?_
    refine Jp.done hK8 ?_
    refine Cd.cond rfl (fun gb => ?_) (fun gb => ?_)
    · have hz : op = 0 := by simp at gb; omega
      have hN := hN hz
      rw [if_pos hz] at hF
      subst hF
      rw [hN]
      refine Cd.seq fun K9 hK9 => ?_
      refine Cd.plain [(0, false), (1, false), (2, false), (3, false), (4, false)] rfl rfl ?_
      refine Jp.y 26 rfl (want_all rfl) rfl rfl Kp.true (by first | exact Y.loadAggO 8 rfl Try.isAgg48 Try.sizeOf48 rfl rfl (by first | rfl | assumption) | exact Y.loadAggO 4 rfl Try.isAgg48 Try.sizeOf48 rfl rfl (by first | rfl | assumption) | exact Y.loadAggO 5 rfl Try.isAgg48 Try.sizeOf48 rfl rfl (by first | rfl | assumption)) ?_
      refine Jp.y 27 rfl (want_all rfl) rfl rfl Kp.true (Y.move rfl rfl) ?_
      refine Jp.y 28 rfl (want_all rfl) rfl rfl Kp.true (Y.struct [(0, _), (1, _)] [_, _, _] rfl rfl places37 Try.zeroValue37 rfl) ?_
      first | refine Jp.storeAll 8 rfl (want_all rfl) rfl rfl Try.sizeOf48 rfl rfl (by first | rfl | assumption) (by first | rfl | assumption) rfl (by first | rfl | assumption) (fun k _ _ => noFr0 k) Kp.true ?_ | refine Jp.storeAll 4 rfl (want_all rfl) rfl rfl Try.sizeOf48 rfl rfl (by first | rfl | assumption) (by first | rfl | assumption) rfl (by first | rfl | assumption) (fun k _ _ => noFr0 k) Kp.true ?_ | refine Jp.storeAll 5 rfl (want_all rfl) rfl rfl Try.sizeOf48 rfl rfl (by first | rfl | assumption) (by first | rfl | assumption) rfl (by first | rfl | assumption) (fun k _ _ => noFr0 k) Kp.true ?_
      first | refine Jp.storeAll 8 rfl (want_all rfl) rfl rfl Try.sizeOf37 rfl rfl (by first | rfl | assumption) (by first | rfl | assumption) rfl (by first | rfl | assumption) (fun k _ _ => noFr0 k) Kp.true ?_ | refine Jp.storeAll 4 rfl (want_all rfl) rfl rfl Try.sizeOf37 rfl rfl (by first | rfl | assumption) (by first | rfl | assumption) rfl (by first | rfl | assumption) (fun k _ _ => noFr0 k) Kp.true ?_ | refine Jp.storeAll 5 rfl (want_all rfl) rfl rfl Try.sizeOf37 rfl rfl (by first | rfl | assumption) (by first | rfl | assumption) rfl (by first | rfl | assumption) (fun k _ _ => noFr0 k) Kp.true ?_
      refine Jp.done hK9 ?_
      refine Cd.ret [(0, _)] rfl (by first | exact resCC 8 4 rfl rfl rfl Try.isAgg48 Try.sizeOf48 Try.isAgg37 Try.sizeOf37 rfl (by first | rfl | assumption) rfl (by first | rfl | assumption) | exact resCC 8 5 rfl rfl rfl Try.isAgg48 Try.sizeOf48 Try.isAgg37 Try.sizeOf37 rfl (by first | rfl | assumption) rfl (by first | rfl | assumption) | exact resCC 4 8 rfl rfl rfl Try.isAgg48 Try.sizeOf48 Try.isAgg37 Try.sizeOf37 rfl (by first | rfl | assumption) rfl (by first | rfl | assumption) | exact resCC 4 5 rfl rfl rfl Try.isAgg48 Try.sizeOf48 Try.isAgg37 Try.sizeOf37 rfl (by first | rfl | assumption) rfl (by first | rfl | assumption) | exact resCC 5 8 rfl rfl rfl Try.isAgg48 Try.sizeOf48 Try.isAgg37 Try.sizeOf37 rfl (by first | rfl | assumption) rfl (by first | rfl | assumption) | exact resCC 5 4 rfl rfl rfl Try.isAgg48 Try.sizeOf48 Try.isAgg37 Try.sizeOf37 rfl (by first | rfl | assumption) rfl (by first | rfl | assumption)) ⟨rfl, trivial⟩ ⟨rfl, rfl, rfl⟩
    · have hz : ¬ op = 0 := by simp at gb; omega
      rw [if_neg hz] at hF
      subst hF
      refine Cd.skip hK7 ?_
      refine Cd.seq fun K10 hK10 => ?_
      refine Cd.plain [(0, false), (1, false), (2, false), (3, false)] rfl rfl ?_
      refine Jp.y 29 rfl (want_all rfl) rfl rfl Kp.true (by first | exact Y.loadAggO 8 rfl Try.isAgg48 Try.sizeOf48 rfl rfl (by first | rfl | assumption) | exact Y.loadAggO 4 rfl Try.isAgg48 Try.sizeOf48 rfl rfl (by first | rfl | assumption) | exact Y.loadAggO 5 rfl Try.isAgg48 Try.sizeOf48 rfl rfl (by first | rfl | assumption)) ?_
      refine Jp.y 30 rfl (want_all rfl) rfl rfl Kp.true (Y.struct [] [_, _, _] rfl rfl places37 Try.zeroValue37 rfl) ?_
      first | refine Jp.storeAll 8 rfl (want_all rfl) rfl rfl Try.sizeOf48 rfl rfl (by first | rfl | assumption) (by first | rfl | assumption) rfl (by first | rfl | assumption) (fun k _ _ => noFr0 k) Kp.true ?_ | refine Jp.storeAll 4 rfl (want_all rfl) rfl rfl Try.sizeOf48 rfl rfl (by first | rfl | assumption) (by first | rfl | assumption) rfl (by first | rfl | assumption) (fun k _ _ => noFr0 k) Kp.true ?_ | refine Jp.storeAll 5 rfl (want_all rfl) rfl rfl Try.sizeOf48 rfl rfl (by first | rfl | assumption) (by first | rfl | assumption) rfl (by first | rfl | assumption) (fun k _ _ => noFr0 k) Kp.true ?_
      first | refine Jp.storeAll 8 rfl (want_all rfl) rfl rfl Try.sizeOf37 rfl rfl (by first | rfl | assumption) (by first | rfl | assumption) rfl (by first | rfl | assumption) (fun k _ _ => noFr0 k) Kp.true ?_ | refine Jp.storeAll 4 rfl (want_all rfl) rfl rfl Try.sizeOf37 rfl rfl (by first | rfl | assumption) (by first | rfl | assumption) rfl (by first | rfl | assumption) (fun k _ _ => noFr0 k) Kp.true ?_ | refine Jp.storeAll 5 rfl (want_all rfl) rfl rfl Try.sizeOf37 rfl rfl (by first | rfl | assumption) (by first | rfl | assumption) rfl (by first | rfl | assumption) (fun k _ _ => noFr0 k) Kp.true ?_
      refine Jp.done hK10 ?_
      refine Cd.ret [(0, _)] rfl (by first | exact resCC 8 4 rfl rfl rfl Try.isAgg48 Try.sizeOf48 Try.isAgg37 Try.sizeOf37 rfl (by first | rfl | assumption) rfl (by first | rfl | assumption) | exact resCC 8 5 rfl rfl rfl Try.isAgg48 Try.sizeOf48 Try.isAgg37 Try.sizeOf37 rfl (by first | rfl | assumption) rfl (by first | rfl | assumption) | exact resCC 4 8 rfl rfl rfl Try.isAgg48 Try.sizeOf48 Try.isAgg37 Try.sizeOf37 rfl (by first | rfl | assumption) rfl (by first | rfl | assumption) | exact resCC 4 5 rfl rfl rfl Try.isAgg48 Try.sizeOf48 Try.isAgg37 Try.sizeOf37 rfl (by first | rfl | assumption) rfl (by first | rfl | assumption) | exact resCC 5 8 rfl rfl rfl Try.isAgg48 Try.sizeOf48 Try.isAgg37 Try.sizeOf37 rfl (by first | rfl | assumption) rfl (by first | rfl | assumption) | exact resCC 5 4 rfl rfl rfl Try.isAgg48 Try.sizeOf48 Try.isAgg37 Try.sizeOf37 rfl (by first | rfl | assumption) rfl (by first | rfl | assumption)) ⟨rfl, trivial⟩ ⟨rfl, rfl, rfl⟩
theorem refEnds_spec (i : InsP) : Spec Try.prog 22 #[.agg i.cells.toArray] (fun _ => True) [] (fun ρ ρ' v L => ρ' = ρ ∧ v = .bool (endsP i.op) ∧ L = []) := by
  refine Spec.of 26 Try.func22 rfl Try.ntmps22 [(0, _)] rfl rfl ?_
  intro cx ρ hr h0
  obtain ⟨op, rd, r1, r2, imm⟩ := i
  refine Cd.seq fun K11 hK11 => ?_
  refine Cd.plain [(0, false), (1, false)] rfl rfl ?_
  refine Jp.box 1 1 rfl (want_all rfl) rfl rfl rfl rfl fun b1 => ⟨Kp.true, ?_⟩
  refine Jp.y 2 rfl (want_all rfl) rfl rfl Kp.true (Y.assign rfl rfl) ?_
  refine Jp.done hK11 ?_
  refine Cd.seq fun K12 hK12 => ?_
  refine Cd.plain [(0, false), (1, false), (2, false), (3, false), (4, false), (5, false), (6, false), (7, false), (8, false), (9, false), (10, false), (11, false), (12, false), (13, false), (14, false), (15, false), (16, false), (17, false), (18, false), (19, false), (20, false), (21, false), (22, false), (23, false)] rfl rfl ?_
  refine Jp.y 3 rfl (want_all rfl) rfl rfl Kp.true (by first | exact Y.fieldAddrP rfl rfl Try.underlying48 rfl Try.sizeOf3 (by decide) (show _ + 0 = _ from rfl) | exact Y.fieldAddr rfl rfl Try.underlying48 rfl Try.sizeOf3 (by decide)) ?_
  refine Jp.y 4 rfl (want_all rfl) rfl rfl Kp.true (Y.loadO 1 rfl Try.isAgg3 rfl rfl rfl) ?_
  refine Jp.y 5 rfl (want_all rfl) rfl rfl Kp.true (Y.eql rfl rfl rfl) ?_
  refine Jp.y 6 rfl (want_all rfl) rfl rfl Kp.true (Y.move rfl rfl) ?_
  refine Jp.split 6 rfl (fun g6 => ?_) (fun g6 => ?_)
  · skip
    try simp only [decide_eq_false_iff_not, decide_eq_true_eq, Int.not_lt, Int.not_le, Bool.not_eq_false, Bool.not_eq_true, Bool.not_true, Bool.not_false, Bool.not_eq_true', Bool.not_eq_false', beq_eq_false_iff_ne, ne_eq, beq_iff_eq, bne_iff_ne, bne_eq_false_iff_eq, Classical.not_not] at g6
    refine Jp.skip 7 rfl (want_as rfl rfl rfl rfl) rfl rfl Kp.true ?_
    refine Jp.skip 8 rfl (want_as rfl rfl rfl rfl) rfl rfl Kp.true ?_
    refine Jp.skip 9 rfl (want_as rfl rfl rfl rfl) rfl rfl Kp.true ?_
    refine Jp.skip 10 rfl (want_as rfl rfl rfl rfl) rfl rfl Kp.true ?_
    refine Jp.skip 11 rfl (want_un rfl rfl rfl) rfl rfl Kp.true ?_
    refine Jp.skip 12 rfl (want_un rfl rfl rfl) rfl rfl Kp.true ?_
    refine Jp.skip 13 rfl (want_un rfl rfl rfl) rfl rfl Kp.true ?_
    refine Jp.skip 14 rfl (want_as rfl rfl rfl rfl) rfl rfl Kp.true ?_
    refine Jp.y 15 rfl (want_all rfl) rfl rfl Kp.true (Y.pickT rfl rfl rfl) ?_
    refine Jp.y 16 rfl (want_all rfl) rfl rfl Kp.true (Y.move rfl rfl) ?_
    refine Jp.skip 17 rfl (want_as rfl rfl rfl rfl) rfl rfl Kp.true ?_
    refine Jp.skip 18 rfl (want_as rfl rfl rfl rfl) rfl rfl Kp.true ?_
    refine Jp.skip 19 rfl (want_as rfl rfl rfl rfl) rfl rfl Kp.true ?_
    refine Jp.skip 20 rfl (want_as rfl rfl rfl rfl) rfl rfl Kp.true ?_
    refine Jp.skip 21 rfl (want_un rfl rfl rfl) rfl rfl Kp.true ?_
    refine Jp.skip 22 rfl (want_un rfl rfl rfl) rfl rfl Kp.true ?_
    refine Jp.skip 23 rfl (want_un rfl rfl rfl) rfl rfl Kp.true ?_
    refine Jp.skip 24 rfl (want_as rfl rfl rfl rfl) rfl rfl Kp.true ?_
    refine Jp.y 25 rfl (want_all rfl) rfl rfl Kp.true (Y.pickT rfl rfl rfl) ?_
    refine Jp.y 2 rfl (want_all rfl) rfl rfl Kp.true (Y.assign rfl rfl) ?_
    refine Jp.done hK12 ?_
    refine Cd.ret [] rfl (res1 rfl rfl) trivial ⟨rfl, congrArg Value.bool (by first | (exfalso; omega) | (rw [Bool.eq_iff_iff]; simp only [endsP, Bool.or_eq_true, Bool.and_eq_true, decide_eq_true_eq, beq_iff_eq, Bool.false_eq_true, true_iff, false_iff, eq_self_iff_true]; omega)), rfl⟩
  · skip
    try simp only [decide_eq_false_iff_not, decide_eq_true_eq, Int.not_lt, Int.not_le, Bool.not_eq_false, Bool.not_eq_true, Bool.not_true, Bool.not_false, Bool.not_eq_true', Bool.not_eq_false', beq_eq_false_iff_ne, ne_eq, beq_iff_eq, bne_iff_ne, bne_eq_false_iff_eq, Classical.not_not] at g6
    refine Jp.y 7 rfl (want_as rfl rfl rfl rfl) rfl rfl Kp.true (by first | exact Y.fieldAddrP rfl rfl Try.underlying48 rfl Try.sizeOf3 (by decide) (show _ + 0 = _ from rfl) | exact Y.fieldAddr rfl rfl Try.underlying48 rfl Try.sizeOf3 (by decide)) ?_
    refine Jp.y 8 rfl (want_as rfl rfl rfl rfl) rfl rfl Kp.true (Y.loadO 1 rfl Try.isAgg3 rfl rfl rfl) ?_
    refine Jp.y 9 rfl (want_as rfl rfl rfl rfl) rfl rfl Kp.true (Y.geq rfl rfl rfl) ?_
    refine Jp.y 10 rfl (want_as rfl rfl rfl rfl) rfl rfl Kp.true (Y.move rfl rfl) ?_
    refine Jp.split 10 rfl (fun g10 => ?_) (fun g10 => ?_)
    · skip
      try simp only [decide_eq_false_iff_not, decide_eq_true_eq, Int.not_lt, Int.not_le, Bool.not_eq_false, Bool.not_eq_true, Bool.not_true, Bool.not_false, Bool.not_eq_true', Bool.not_eq_false', beq_eq_false_iff_ne, ne_eq, beq_iff_eq, bne_iff_ne, bne_eq_false_iff_eq, Classical.not_not] at g10
      refine Jp.y 11 rfl (want_as rfl rfl rfl rfl) rfl rfl Kp.true (by first | exact Y.fieldAddrP rfl rfl Try.underlying48 rfl Try.sizeOf3 (by decide) (show _ + 0 = _ from rfl) | exact Y.fieldAddr rfl rfl Try.underlying48 rfl Try.sizeOf3 (by decide)) ?_
      refine Jp.y 12 rfl (want_as rfl rfl rfl rfl) rfl rfl Kp.true (Y.loadO 1 rfl Try.isAgg3 rfl rfl rfl) ?_
      refine Jp.y 13 rfl (want_as rfl rfl rfl rfl) rfl rfl Kp.true (Y.leq rfl rfl rfl) ?_
      refine Jp.y 14 rfl (want_as rfl rfl rfl rfl) rfl rfl Kp.true (Y.pickT rfl rfl rfl) ?_
      refine Jp.y 15 rfl (want_all rfl) rfl rfl Kp.true (Y.pickF rfl rfl rfl) ?_
      refine Jp.y 16 rfl (want_all rfl) rfl rfl Kp.true (Y.move rfl rfl) ?_
      refine Jp.split 16 rfl (fun g16 => ?_) (fun g16 => ?_)
      · skip
        try simp only [decide_eq_false_iff_not, decide_eq_true_eq, Int.not_lt, Int.not_le, Bool.not_eq_false, Bool.not_eq_true, Bool.not_true, Bool.not_false, Bool.not_eq_true', Bool.not_eq_false', beq_eq_false_iff_ne, ne_eq, beq_iff_eq, bne_iff_ne, bne_eq_false_iff_eq, Classical.not_not] at g16
        refine Jp.skip 17 rfl (want_as rfl rfl rfl rfl) rfl rfl Kp.true ?_
        refine Jp.skip 18 rfl (want_as rfl rfl rfl rfl) rfl rfl Kp.true ?_
        refine Jp.skip 19 rfl (want_as rfl rfl rfl rfl) rfl rfl Kp.true ?_
        refine Jp.skip 20 rfl (want_as rfl rfl rfl rfl) rfl rfl Kp.true ?_
        refine Jp.skip 21 rfl (want_un rfl rfl rfl) rfl rfl Kp.true ?_
        refine Jp.skip 22 rfl (want_un rfl rfl rfl) rfl rfl Kp.true ?_
        refine Jp.skip 23 rfl (want_un rfl rfl rfl) rfl rfl Kp.true ?_
        refine Jp.skip 24 rfl (want_as rfl rfl rfl rfl) rfl rfl Kp.true ?_
        refine Jp.y 25 rfl (want_all rfl) rfl rfl Kp.true (Y.pickT rfl rfl rfl) ?_
        refine Jp.y 2 rfl (want_all rfl) rfl rfl Kp.true (Y.assign rfl rfl) ?_
        refine Jp.done hK12 ?_
        refine Cd.ret [] rfl (res1 rfl rfl) trivial ⟨rfl, congrArg Value.bool (by first | (exfalso; omega) | (rw [Bool.eq_iff_iff]; simp only [endsP, Bool.or_eq_true, Bool.and_eq_true, decide_eq_true_eq, beq_iff_eq, Bool.false_eq_true, true_iff, false_iff, eq_self_iff_true]; omega)), rfl⟩
      · skip
        try simp only [decide_eq_false_iff_not, decide_eq_true_eq, Int.not_lt, Int.not_le, Bool.not_eq_false, Bool.not_eq_true, Bool.not_true, Bool.not_false, Bool.not_eq_true', Bool.not_eq_false', beq_eq_false_iff_ne, ne_eq, beq_iff_eq, bne_iff_ne, bne_eq_false_iff_eq, Classical.not_not] at g16
        refine Jp.y 17 rfl (want_as rfl rfl rfl rfl) rfl rfl Kp.true (by first | exact Y.fieldAddrP rfl rfl Try.underlying48 rfl Try.sizeOf3 (by decide) (show _ + 0 = _ from rfl) | exact Y.fieldAddr rfl rfl Try.underlying48 rfl Try.sizeOf3 (by decide)) ?_
        refine Jp.y 18 rfl (want_as rfl rfl rfl rfl) rfl rfl Kp.true (Y.loadO 1 rfl Try.isAgg3 rfl rfl rfl) ?_
        refine Jp.y 19 rfl (want_as rfl rfl rfl rfl) rfl rfl Kp.true (Y.geq rfl rfl rfl) ?_
        refine Jp.y 20 rfl (want_as rfl rfl rfl rfl) rfl rfl Kp.true (Y.move rfl rfl) ?_
        refine Jp.split 20 rfl (fun g20 => ?_) (fun g20 => ?_)
        · skip
          try simp only [decide_eq_false_iff_not, decide_eq_true_eq, Int.not_lt, Int.not_le, Bool.not_eq_false, Bool.not_eq_true, Bool.not_true, Bool.not_false, Bool.not_eq_true', Bool.not_eq_false', beq_eq_false_iff_ne, ne_eq, beq_iff_eq, bne_iff_ne, bne_eq_false_iff_eq, Classical.not_not] at g20
          refine Jp.y 21 rfl (want_as rfl rfl rfl rfl) rfl rfl Kp.true (by first | exact Y.fieldAddrP rfl rfl Try.underlying48 rfl Try.sizeOf3 (by decide) (show _ + 0 = _ from rfl) | exact Y.fieldAddr rfl rfl Try.underlying48 rfl Try.sizeOf3 (by decide)) ?_
          refine Jp.y 22 rfl (want_as rfl rfl rfl rfl) rfl rfl Kp.true (Y.loadO 1 rfl Try.isAgg3 rfl rfl rfl) ?_
          refine Jp.y 23 rfl (want_as rfl rfl rfl rfl) rfl rfl Kp.true (Y.leq rfl rfl rfl) ?_
          refine Jp.y 24 rfl (want_as rfl rfl rfl rfl) rfl rfl Kp.true (Y.pickT rfl rfl rfl) ?_
          refine Jp.y 25 rfl (want_all rfl) rfl rfl Kp.true (Y.pickF rfl rfl rfl) ?_
          refine Jp.y 2 rfl (want_all rfl) rfl rfl Kp.true (Y.assign rfl rfl) ?_
          refine Jp.done hK12 ?_
          refine Cd.ret [] rfl (res1 rfl rfl) trivial ⟨rfl, congrArg Value.bool (by first | (exfalso; omega) | (rw [Bool.eq_iff_iff]; simp only [endsP, Bool.or_eq_true, Bool.and_eq_true, decide_eq_true_eq, beq_iff_eq, Bool.false_eq_true, true_iff, false_iff, eq_self_iff_true]; omega)), rfl⟩
        · skip
          try simp only [decide_eq_false_iff_not, decide_eq_true_eq, Int.not_lt, Int.not_le, Bool.not_eq_false, Bool.not_eq_true, Bool.not_true, Bool.not_false, Bool.not_eq_true', Bool.not_eq_false', beq_eq_false_iff_ne, ne_eq, beq_iff_eq, bne_iff_ne, bne_eq_false_iff_eq, Classical.not_not] at g20
          refine Jp.skip 21 rfl (want_as rfl rfl rfl rfl) rfl rfl Kp.true ?_
          refine Jp.skip 22 rfl (want_as rfl rfl rfl rfl) rfl rfl Kp.true ?_
          refine Jp.skip 23 rfl (want_as rfl rfl rfl rfl) rfl rfl Kp.true ?_
          refine Jp.y 24 rfl (want_as rfl rfl rfl rfl) rfl rfl Kp.true (Y.pickF rfl rfl rfl) ?_
          refine Jp.y 25 rfl (want_all rfl) rfl rfl Kp.true (Y.pickF rfl rfl rfl) ?_
          refine Jp.y 2 rfl (want_all rfl) rfl rfl Kp.true (Y.assign rfl rfl) ?_
          refine Jp.done hK12 ?_
          refine Cd.ret [] rfl (res1 rfl rfl) trivial ⟨rfl, congrArg Value.bool (by first | (exfalso; omega) | (rw [Bool.eq_iff_iff]; simp only [endsP, Bool.or_eq_true, Bool.and_eq_true, decide_eq_true_eq, beq_iff_eq, Bool.false_eq_true, true_iff, false_iff, eq_self_iff_true]; omega)), rfl⟩
    · skip
      try simp only [decide_eq_false_iff_not, decide_eq_true_eq, Int.not_lt, Int.not_le, Bool.not_eq_false, Bool.not_eq_true, Bool.not_true, Bool.not_false, Bool.not_eq_true', Bool.not_eq_false', beq_eq_false_iff_ne, ne_eq, beq_iff_eq, bne_iff_ne, bne_eq_false_iff_eq, Classical.not_not] at g10
      refine Jp.skip 11 rfl (want_as rfl rfl rfl rfl) rfl rfl Kp.true ?_
      refine Jp.skip 12 rfl (want_as rfl rfl rfl rfl) rfl rfl Kp.true ?_
      refine Jp.skip 13 rfl (want_as rfl rfl rfl rfl) rfl rfl Kp.true ?_
      refine Jp.y 14 rfl (want_as rfl rfl rfl rfl) rfl rfl Kp.true (Y.pickF rfl rfl rfl) ?_
      refine Jp.y 15 rfl (want_all rfl) rfl rfl Kp.true (Y.pickF rfl rfl rfl) ?_
      refine Jp.y 16 rfl (want_all rfl) rfl rfl Kp.true (Y.move rfl rfl) ?_
      refine Jp.y 17 rfl (want_as rfl rfl rfl rfl) rfl rfl Kp.true (by first | exact Y.fieldAddrP rfl rfl Try.underlying48 rfl Try.sizeOf3 (by decide) (show _ + 0 = _ from rfl) | exact Y.fieldAddr rfl rfl Try.underlying48 rfl Try.sizeOf3 (by decide)) ?_
      refine Jp.y 18 rfl (want_as rfl rfl rfl rfl) rfl rfl Kp.true (Y.loadO 1 rfl Try.isAgg3 rfl rfl rfl) ?_
      refine Jp.y 19 rfl (want_as rfl rfl rfl rfl) rfl rfl Kp.true (Y.geq rfl rfl rfl) ?_
      refine Jp.y 20 rfl (want_as rfl rfl rfl rfl) rfl rfl Kp.true (Y.move rfl rfl) ?_
      refine Jp.split 20 rfl (fun g20 => ?_) (fun g20 => ?_)
      · skip
        try simp only [decide_eq_false_iff_not, decide_eq_true_eq, Int.not_lt, Int.not_le, Bool.not_eq_false, Bool.not_eq_true, Bool.not_true, Bool.not_false, Bool.not_eq_true', Bool.not_eq_false', beq_eq_false_iff_ne, ne_eq, beq_iff_eq, bne_iff_ne, bne_eq_false_iff_eq, Classical.not_not] at g20
        refine Jp.y 21 rfl (want_as rfl rfl rfl rfl) rfl rfl Kp.true (by first | exact Y.fieldAddrP rfl rfl Try.underlying48 rfl Try.sizeOf3 (by decide) (show _ + 0 = _ from rfl) | exact Y.fieldAddr rfl rfl Try.underlying48 rfl Try.sizeOf3 (by decide)) ?_
        refine Jp.y 22 rfl (want_as rfl rfl rfl rfl) rfl rfl Kp.true (Y.loadO 1 rfl Try.isAgg3 rfl rfl rfl) ?_
        refine Jp.y 23 rfl (want_as rfl rfl rfl rfl) rfl rfl Kp.true (Y.leq rfl rfl rfl) ?_
        refine Jp.y 24 rfl (want_as rfl rfl rfl rfl) rfl rfl Kp.true (Y.pickT rfl rfl rfl) ?_
        refine Jp.y 25 rfl (want_all rfl) rfl rfl Kp.true (Y.pickF rfl rfl rfl) ?_
        refine Jp.y 2 rfl (want_all rfl) rfl rfl Kp.true (Y.assign rfl rfl) ?_
        refine Jp.done hK12 ?_
        refine Cd.ret [] rfl (res1 rfl rfl) trivial ⟨rfl, congrArg Value.bool (by first | (exfalso; omega) | (rw [Bool.eq_iff_iff]; simp only [endsP, Bool.or_eq_true, Bool.and_eq_true, decide_eq_true_eq, beq_iff_eq, Bool.false_eq_true, true_iff, false_iff, eq_self_iff_true]; omega)), rfl⟩
      · skip
        try simp only [decide_eq_false_iff_not, decide_eq_true_eq, Int.not_lt, Int.not_le, Bool.not_eq_false, Bool.not_eq_true, Bool.not_true, Bool.not_false, Bool.not_eq_true', Bool.not_eq_false', beq_eq_false_iff_ne, ne_eq, beq_iff_eq, bne_iff_ne, bne_eq_false_iff_eq, Classical.not_not] at g20
        refine Jp.skip 21 rfl (want_as rfl rfl rfl rfl) rfl rfl Kp.true ?_
        refine Jp.skip 22 rfl (want_as rfl rfl rfl rfl) rfl rfl Kp.true ?_
        refine Jp.skip 23 rfl (want_as rfl rfl rfl rfl) rfl rfl Kp.true ?_
        refine Jp.y 24 rfl (want_as rfl rfl rfl rfl) rfl rfl Kp.true (Y.pickF rfl rfl rfl) ?_
        refine Jp.y 25 rfl (want_all rfl) rfl rfl Kp.true (Y.pickF rfl rfl rfl) ?_
        refine Jp.y 2 rfl (want_all rfl) rfl rfl Kp.true (Y.assign rfl rfl) ?_
        refine Jp.done hK12 ?_
        refine Cd.ret [] rfl (res1 rfl rfl) trivial ⟨rfl, congrArg Value.bool (by first | (exfalso; omega) | (rw [Bool.eq_iff_iff]; simp only [endsP, Bool.or_eq_true, Bool.and_eq_true, decide_eq_true_eq, beq_iff_eq, Bool.false_eq_true, true_iff, false_iff, eq_self_iff_true]; omega)), rfl⟩
end Go.Proofs.Ytjfgefdcngpplaa
