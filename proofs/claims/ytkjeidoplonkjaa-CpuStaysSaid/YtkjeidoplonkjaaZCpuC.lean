import Derived.Test.YtkjeidoplonkjaaZCpuB
import Derived.Test.YtkjeidoplonkjaaZMemX2
set_option linter.unusedVariables false
set_option linter.unusedSimpArgs false
set_option maxRecDepth 100000
namespace Go.Proofs.Ytkjeidoplonkjaa
open Go
def valueP (M : MemG) (i : InsP) (s : StP) : Nat × EvP :=
  if i.op = 1 then (u32 i.imm, noEv) else if i.op = 2 then (u32 ((s.pc : Int) + (u32 i.imm : Int)), noEv) else if i.op = 3 ∨ i.op = 4 then (u32 ((s.pc : Int) + 4), noEv) else
  if loadsP i.op = true then (if (loadM M (addrP i s) (sizeP i.op).1 1).2 = 0 then
    (if (sizeP i.op).2 = true then extP (loadM M (addrP i s) (sizeP i.op).1 1).1 (8 * (sizeP i.op).1) else (loadM M (addrP i s) (sizeP i.op).1 1).1, noEv)
    else (0, ⟨3, addrP i s, (loadM M (addrP i s) (sizeP i.op).1 1).2⟩)) else
  (doP (kindA i.op) (regP s i.r1) (opdP i s), noEv)
theorem opdP_lt {i : InsP} {s : StP} (hs : StOk s) : opdP i s < 4294967296 := by
  unfold opdP
  split
  · exact u32_lt _
  · exact regP_lt hs _
theorem sizeP_le (op : Nat) : (sizeP op).1 ≤ 4 := by
  unfold sizeP
  repeat' split
  all_goals decide
theorem loadM_u32 (M : MemG) (a : Nat) (n : Nat) (hn : n ≤ 4) (need : Int) : (loadM M a n need).1 < 4294967296 := by
  unfold loadM
  split
  · split
    · rename_i p h1
      have h2 := leN_lt ((p.b.drop (a % 256)).take (n : Int).toNat)
      have h3 : ((p.b.drop (a % 256)).take (n : Int).toNat).length ≤ 4 := by rw [List.length_take]; omega
      exact Nat.lt_of_lt_of_le h2 (Nat.pow_le_pow_right (n := 256) (by omega) h3)
    · exact Nat.zero_lt_succ _
  · exact Nat.zero_lt_succ _
theorem value_spec (b : Nat) (M : MemG) (i : InsP) (s : StP) (hs : StOk s) (hi : InsOk i) : Spec Try.prog 68 #[.pointer (some ⟨b, 0, none⟩), .agg i.cells.toArray, .agg s.cells.toArray] (fun _ => True) [(0, MemO b M)]
    (fun ρ ρ' v L => ρ' = ρ ∧ v = .tuple #[.int .u32 ((valueP M i s).1 : Int), .agg (valueP M i s).2.cells.toArray] ∧ L = [(0, MemO b M)]) := by
  obtain ⟨V, hV⟩ : ∃ V, valueP M i s = V := ⟨_, rfl⟩
  rw [hV]
  unfold valueP at hV
  have hA := address_spec i s hs hi
  have hal := addrP_lt i s
  have hO := operand_spec i s hs hi
  have hol := opdP_lt (i := i) hs
  obtain ⟨od, hod⟩ : ∃ od, opdP i s = od := ⟨_, rfl⟩
  obtain ⟨ad, had⟩ : ∃ ad, addrP i s = ad := ⟨_, rfl⟩
  rw [had] at hA hV hal
  rw [hod] at hO hV hol
  obtain ⟨op, rd, r1, r2, imm⟩ := i
  dsimp only at hV
  have hR1 := reg_spec s r1 hs hi.r1
  have l1 := regP_lt hs r1
  obtain ⟨x1, hx1⟩ : ∃ x, regP s r1 = x := ⟨_, rfl⟩
  rw [hx1] at hR1 hV l1
  have hL := load_spec b M ad (sizeP op).1 1 hal
  have hll : (loadM M ad (sizeP op).1 1).1 < 4294967296 := loadM_u32 _ _ _ (sizeP_le op) _
  have hSz := size_spec op
  have hsz4 := sizeP_le op
  obtain ⟨sz, hsz⟩ : ∃ x, sizeP op = x := ⟨_, rfl⟩
  rw [hsz] at hL hV hll hSz hsz4
  obtain ⟨sz, sg⟩ := sz
  dsimp only at hL hV hll hSz hsz4
  obtain ⟨ld, hld⟩ : ∃ x, loadM M ad sz 1 = x := ⟨_, rfl⟩
  rw [hld] at hL hV hll
  obtain ⟨lv, lf⟩ := ld
  dsimp only at hL hV hll
  refine Spec.of 98 Try.func68 rfl Try.ntmps68 [(0, _), (1, _), (2, _)] rfl rfl ?_
  intro cx ρ hr' h0
  have hsl := StP.len hs
  refine Cd.seq fun K1 hK1 => ?_
  refine Cd.plain [(0, false), (1, false), (2, false), (3, false)] rfl rfl ?_
  refine Jp.box 4 4 rfl (want_all rfl) rfl rfl rfl rfl fun b4 => ⟨Kp.true, ?_⟩
  refine Jp.box 5 5 rfl (want_all rfl) rfl rfl rfl rfl fun b5 => ⟨Kp.true, ?_⟩
  refine Jp.y 6 rfl (want_all rfl) rfl rfl Kp.true (Y.assign rfl rfl) ?_
  refine Jp.alloc 7 7 rfl (want_all rfl) rfl rfl rfl Try.zeroValue35 fun b7 => ⟨Kp.true, ?_⟩
  refine Jp.done hK1 ?_
  refine Cd.seq fun K2 hK2 => ?_
  refine Cd.seq fun K3 hK3 => ?_
  refine Cd.plain [(0, false), (1, false), (2, false)] rfl rfl ?_
  refine Jp.y 17 rfl (want_all rfl) rfl rfl Kp.true (by first | exact Y.fieldAddrP rfl rfl Try.underlying28 rfl Try.sizeOf3 (by decide) (show _ + 0 = _ from rfl) | exact Y.fieldAddr rfl rfl Try.underlying28 rfl Try.sizeOf3 (by decide)) ?_
  refine Jp.y 18 rfl (want_all rfl) rfl rfl Kp.true (by first | exact Y.loadO 4 rfl Try.isAgg3 rfl rfl rfl | exact Y.loadO 5 rfl Try.isAgg3 rfl rfl rfl | exact Y.loadO 7 rfl Try.isAgg3 rfl rfl rfl | exact Y.loadO 4 rfl Try.isAgg3 rfl rfl rfl | exact Y.loadO 5 rfl Try.isAgg3 rfl rfl rfl | exact Y.loadO 7 rfl Try.isAgg3 rfl rfl rfl | exact Y.loadC 5 rfl Try.isAgg3 rfl rfl (HasC.pt (StP.cPc hs))) ?_
  refine Jp.y 8 rfl (want_all rfl) rfl rfl Kp.true (Y.assign rfl rfl) ?_
  refine Jp.done hK3 ?_
  refine Cd.block ?_
  refine Cd.seq fun K4 hK4 => ?_
  refine Cd.plain [(0, false), (1, false), (2, false)] rfl rfl ?_
  refine Jp.y 20 rfl (want_all rfl) rfl rfl Kp.true (Y.move rfl rfl) ?_
  refine Jp.y 21 rfl (want_all rfl) rfl rfl Kp.true (Y.eql rfl rfl rfl) ?_
  refine Jp.y 19 rfl (want_all rfl) rfl rfl Kp.true (Y.assign rfl rfl) ?_
  refine Jp.done hK4 ?_
  refine Cd.cond rfl (fun ga => ?_) (fun ga => ?_)
  · rw [if_pos (show op = 1 by simp at ga; omega)] at hV
    refine Cd.seq fun K5 hK5 => ?_
    refine Cd.plain [(0, false), (1, false), (2, false), (3, false), (4, false), (5, false)] rfl rfl ?_
    refine Jp.y 22 rfl (want_all rfl) rfl rfl Kp.true (by first | exact Y.fieldAddrP rfl rfl Try.underlying28 rfl Try.sizeOf21 (by decide) (show _ + 4 = _ from rfl) | exact Y.fieldAddr rfl rfl Try.underlying28 rfl Try.sizeOf21 (by decide)) ?_
    refine Jp.y 23 rfl (want_all rfl) rfl rfl Kp.true (by first | exact Y.loadO 4 rfl Try.isAgg21 rfl rfl rfl | exact Y.loadO 5 rfl Try.isAgg21 rfl rfl rfl | exact Y.loadO 7 rfl Try.isAgg21 rfl rfl rfl | exact Y.loadO 4 rfl Try.isAgg21 rfl rfl rfl | exact Y.loadO 5 rfl Try.isAgg21 rfl rfl rfl | exact Y.loadO 7 rfl Try.isAgg21 rfl rfl rfl | exact Y.loadC 5 rfl Try.isAgg21 rfl rfl (HasC.pt (StP.cPc hs))) ?_
    refine Jp.y 24 rfl (want_all rfl) rfl rfl Kp.true (Y.conv_ rfl rfl Try.underlying21 Try.underlying25 (by first | exact wrap_u32 (by omega) (by omega) | rfl)) ?_
    refine Jp.y 25 rfl (want_all rfl) rfl rfl Kp.true (Y.struct [] [_, _, _] rfl rfl places35 Try.zeroValue35 rfl) ?_
    refine Jp.y 6 rfl (want_all rfl) rfl rfl Kp.true (Y.assign rfl rfl) ?_
    first | refine Jp.storeAll 4 rfl (want_all rfl) rfl rfl Try.sizeOf35 rfl rfl (by first | rfl | assumption) (by first | rfl | assumption) rfl rfl (fun k _ _ => noFr0 k) Kp.true ?_ | refine Jp.storeAll 5 rfl (want_all rfl) rfl rfl Try.sizeOf35 rfl rfl (by first | rfl | assumption) (by first | rfl | assumption) rfl rfl (fun k _ _ => noFr0 k) Kp.true ?_ | refine Jp.storeAll 7 rfl (want_all rfl) rfl rfl Try.sizeOf35 rfl rfl (by first | rfl | assumption) (by first | rfl | assumption) rfl rfl (fun k _ _ => noFr0 k) Kp.true ?_ | refine Jp.storeAll 4 rfl (want_all rfl) rfl rfl Try.sizeOf35 rfl rfl (by first | rfl | assumption) (by first | rfl | assumption) rfl rfl (fun k _ _ => noFr0 k) Kp.true ?_ | refine Jp.storeAll 5 rfl (want_all rfl) rfl rfl Try.sizeOf35 rfl rfl (by first | rfl | assumption) (by first | rfl | assumption) rfl rfl (fun k _ _ => noFr0 k) Kp.true ?_ | refine Jp.storeAll 7 rfl (want_all rfl) rfl rfl Try.sizeOf35 rfl rfl (by first | rfl | assumption) (by first | rfl | assumption) rfl rfl (fun k _ _ => noFr0 k) Kp.true ?_
    refine Jp.done hK5 ?_
    refine Cd.ret [(0, _)] rfl (by first | exact resTC 4 rfl rfl rfl Try.isAgg35 Try.sizeOf35 rfl (by first | rfl | assumption) | exact resTC 5 rfl rfl rfl Try.isAgg35 Try.sizeOf35 rfl (by first | rfl | assumption) | exact resTC 7 rfl rfl rfl Try.isAgg35 Try.sizeOf35 rfl (by first | rfl | assumption) | exact resTC 4 rfl rfl rfl Try.isAgg35 Try.sizeOf35 rfl (by first | rfl | assumption) | exact resTC 5 rfl rfl rfl Try.isAgg35 Try.sizeOf35 rfl (by first | rfl | assumption) | exact resTC 7 rfl rfl rfl Try.isAgg35 Try.sizeOf35 rfl (by first | rfl | assumption)) ⟨rfl, trivial⟩ ⟨rfl, by rw [wrap_u imm, ← hV]; rfl, rfl⟩
  · rw [if_neg (show ¬ op = 1 by simp at ga; omega)] at hV
    refine Cd.seq fun K6 hK6 => ?_
    refine Cd.plain [(0, false), (1, false), (2, false)] rfl rfl ?_
    refine Jp.y 27 rfl (want_all rfl) rfl rfl Kp.true (Y.move rfl rfl) ?_
    refine Jp.y 28 rfl (want_all rfl) rfl rfl Kp.true (Y.eql rfl rfl rfl) ?_
    refine Jp.y 26 rfl (want_all rfl) rfl rfl Kp.true (Y.assign rfl rfl) ?_
    refine Jp.done hK6 ?_
    refine Cd.cond rfl (fun gb => ?_) (fun gb => ?_)
    · rw [if_pos (show op = 2 by simp at gb; omega)] at hV
      refine Cd.seq fun K7 hK7 => ?_
      refine Cd.plain [(0, false), (1, false), (2, false), (3, false), (4, false), (5, false), (6, false), (7, false), (8, false)] rfl rfl ?_
      refine Jp.y 29 rfl (want_all rfl) rfl rfl Kp.true (by first | exact Y.fieldAddrP rfl rfl Try.underlying32 rfl Try.sizeOf25 (by decide) (show _ + 32 = _ from rfl) | exact Y.fieldAddr rfl rfl Try.underlying32 rfl Try.sizeOf25 (by decide)) ?_
      refine Jp.y 30 rfl (want_all rfl) rfl rfl Kp.true (by first | exact Y.loadO 4 rfl Try.isAgg25 rfl rfl rfl | exact Y.loadO 5 rfl Try.isAgg25 rfl rfl rfl | exact Y.loadO 7 rfl Try.isAgg25 rfl rfl rfl | exact Y.loadO 4 rfl Try.isAgg25 rfl rfl rfl | exact Y.loadO 5 rfl Try.isAgg25 rfl rfl rfl | exact Y.loadO 7 rfl Try.isAgg25 rfl rfl rfl | exact Y.loadC 5 rfl Try.isAgg25 rfl rfl (HasC.pt (StP.cPc hs))) ?_
      refine Jp.y 31 rfl (want_all rfl) rfl rfl Kp.true (by first | exact Y.fieldAddrP rfl rfl Try.underlying28 rfl Try.sizeOf21 (by decide) (show _ + 4 = _ from rfl) | exact Y.fieldAddr rfl rfl Try.underlying28 rfl Try.sizeOf21 (by decide)) ?_
      refine Jp.y 32 rfl (want_all rfl) rfl rfl Kp.true (by first | exact Y.loadO 4 rfl Try.isAgg21 rfl rfl rfl | exact Y.loadO 5 rfl Try.isAgg21 rfl rfl rfl | exact Y.loadO 7 rfl Try.isAgg21 rfl rfl rfl | exact Y.loadO 4 rfl Try.isAgg21 rfl rfl rfl | exact Y.loadO 5 rfl Try.isAgg21 rfl rfl rfl | exact Y.loadO 7 rfl Try.isAgg21 rfl rfl rfl | exact Y.loadC 5 rfl Try.isAgg21 rfl rfl (HasC.pt (StP.cPc hs))) ?_
      refine Jp.y 33 rfl (want_all rfl) rfl rfl Kp.true (Y.conv_ rfl rfl Try.underlying21 Try.underlying25 (by first | exact wrap_u32 (by omega) (by omega) | rfl)) ?_
      refine Jp.y 34 rfl (want_all rfl) rfl rfl Kp.true (Y.add_ rfl rfl rfl (by first | exact wrap_u32 (by omega) (by omega) | rfl)) ?_
      refine Jp.y 35 rfl (want_all rfl) rfl rfl Kp.true (Y.struct [] [_, _, _] rfl rfl places35 Try.zeroValue35 rfl) ?_
      refine Jp.y 6 rfl (want_all rfl) rfl rfl Kp.true (Y.assign rfl rfl) ?_
      first | refine Jp.storeAll 4 rfl (want_all rfl) rfl rfl Try.sizeOf35 rfl rfl (by first | rfl | assumption) (by first | rfl | assumption) rfl rfl (fun k _ _ => noFr0 k) Kp.true ?_ | refine Jp.storeAll 5 rfl (want_all rfl) rfl rfl Try.sizeOf35 rfl rfl (by first | rfl | assumption) (by first | rfl | assumption) rfl rfl (fun k _ _ => noFr0 k) Kp.true ?_ | refine Jp.storeAll 7 rfl (want_all rfl) rfl rfl Try.sizeOf35 rfl rfl (by first | rfl | assumption) (by first | rfl | assumption) rfl rfl (fun k _ _ => noFr0 k) Kp.true ?_ | refine Jp.storeAll 4 rfl (want_all rfl) rfl rfl Try.sizeOf35 rfl rfl (by first | rfl | assumption) (by first | rfl | assumption) rfl rfl (fun k _ _ => noFr0 k) Kp.true ?_ | refine Jp.storeAll 5 rfl (want_all rfl) rfl rfl Try.sizeOf35 rfl rfl (by first | rfl | assumption) (by first | rfl | assumption) rfl rfl (fun k _ _ => noFr0 k) Kp.true ?_ | refine Jp.storeAll 7 rfl (want_all rfl) rfl rfl Try.sizeOf35 rfl rfl (by first | rfl | assumption) (by first | rfl | assumption) rfl rfl (fun k _ _ => noFr0 k) Kp.true ?_
      refine Jp.done hK7 ?_
      refine Cd.ret [(0, _)] rfl (by first | exact resTC 4 rfl rfl rfl Try.isAgg35 Try.sizeOf35 rfl (by first | rfl | assumption) | exact resTC 5 rfl rfl rfl Try.isAgg35 Try.sizeOf35 rfl (by first | rfl | assumption) | exact resTC 7 rfl rfl rfl Try.isAgg35 Try.sizeOf35 rfl (by first | rfl | assumption) | exact resTC 4 rfl rfl rfl Try.isAgg35 Try.sizeOf35 rfl (by first | rfl | assumption) | exact resTC 5 rfl rfl rfl Try.isAgg35 Try.sizeOf35 rfl (by first | rfl | assumption) | exact resTC 7 rfl rfl rfl Try.isAgg35 Try.sizeOf35 rfl (by first | rfl | assumption)) ⟨rfl, trivial⟩ ⟨rfl, by rw [wrap_u imm, wrap_u, ← hV]; rfl, rfl⟩
    · rw [if_neg (show ¬ op = 2 by simp at gb; omega)] at hV
      refine Cd.seq fun K8 hK8 => ?_
      refine Cd.plain [(0, false), (1, false), (2, false), (3, false), (4, false), (5, false), (6, false)] rfl rfl ?_
      refine Jp.y 37 rfl (want_all rfl) rfl rfl Kp.true (Y.move rfl rfl) ?_
      refine Jp.y 38 rfl (want_all rfl) rfl rfl Kp.true (Y.eql rfl rfl rfl) ?_
      refine Jp.y 39 rfl (want_all rfl) rfl rfl Kp.true (Y.move rfl rfl) ?_
      refine Jp.split 39 rfl (fun g39 => ?_) (fun g39 => ?_)
      · skip
        rw [if_pos (show op = 3 ∨ op = 4 by simp at g39; omega)] at hV
        refine Jp.skip 40 rfl (want_as rfl rfl rfl rfl) rfl rfl Kp.true ?_
        refine Jp.skip 41 rfl (want_as rfl rfl rfl rfl) rfl rfl Kp.true ?_
        refine Jp.y 42 rfl (want_all rfl) rfl rfl Kp.true (Y.pickT rfl rfl rfl) ?_
        refine Jp.y 36 rfl (want_all rfl) rfl rfl Kp.true (Y.assign rfl rfl) ?_
        refine Jp.done hK8 ?_
        refine Cd.condT rfl ?_
        refine Cd.seq fun K9 hK9 => ?_
        refine Cd.plain [(0, false), (1, false), (2, false), (3, false), (4, false), (5, false)] rfl rfl ?_
        refine Jp.y 43 rfl (want_all rfl) rfl rfl Kp.true (by first | exact Y.fieldAddrP rfl rfl Try.underlying32 rfl Try.sizeOf25 (by decide) (show _ + 32 = _ from rfl) | exact Y.fieldAddr rfl rfl Try.underlying32 rfl Try.sizeOf25 (by decide)) ?_
        refine Jp.y 44 rfl (want_all rfl) rfl rfl Kp.true (by first | exact Y.loadO 4 rfl Try.isAgg25 rfl rfl rfl | exact Y.loadO 5 rfl Try.isAgg25 rfl rfl rfl | exact Y.loadO 7 rfl Try.isAgg25 rfl rfl rfl | exact Y.loadO 4 rfl Try.isAgg25 rfl rfl rfl | exact Y.loadO 5 rfl Try.isAgg25 rfl rfl rfl | exact Y.loadO 7 rfl Try.isAgg25 rfl rfl rfl | exact Y.loadC 5 rfl Try.isAgg25 rfl rfl (HasC.pt (StP.cPc hs))) ?_
        refine Jp.y 45 rfl (want_all rfl) rfl rfl Kp.true (Y.add_ rfl rfl rfl (by first | exact wrap_u32 (by omega) (by omega) | rfl)) ?_
        refine Jp.y 46 rfl (want_all rfl) rfl rfl Kp.true (Y.struct [] [_, _, _] rfl rfl places35 Try.zeroValue35 rfl) ?_
        refine Jp.y 6 rfl (want_all rfl) rfl rfl Kp.true (Y.assign rfl rfl) ?_
        first | refine Jp.storeAll 4 rfl (want_all rfl) rfl rfl Try.sizeOf35 rfl rfl (by first | rfl | assumption) (by first | rfl | assumption) rfl rfl (fun k _ _ => noFr0 k) Kp.true ?_ | refine Jp.storeAll 5 rfl (want_all rfl) rfl rfl Try.sizeOf35 rfl rfl (by first | rfl | assumption) (by first | rfl | assumption) rfl rfl (fun k _ _ => noFr0 k) Kp.true ?_ | refine Jp.storeAll 7 rfl (want_all rfl) rfl rfl Try.sizeOf35 rfl rfl (by first | rfl | assumption) (by first | rfl | assumption) rfl rfl (fun k _ _ => noFr0 k) Kp.true ?_ | refine Jp.storeAll 4 rfl (want_all rfl) rfl rfl Try.sizeOf35 rfl rfl (by first | rfl | assumption) (by first | rfl | assumption) rfl rfl (fun k _ _ => noFr0 k) Kp.true ?_ | refine Jp.storeAll 5 rfl (want_all rfl) rfl rfl Try.sizeOf35 rfl rfl (by first | rfl | assumption) (by first | rfl | assumption) rfl rfl (fun k _ _ => noFr0 k) Kp.true ?_ | refine Jp.storeAll 7 rfl (want_all rfl) rfl rfl Try.sizeOf35 rfl rfl (by first | rfl | assumption) (by first | rfl | assumption) rfl rfl (fun k _ _ => noFr0 k) Kp.true ?_
        refine Jp.done hK9 ?_
        refine Cd.ret [(0, _)] rfl (by first | exact resTC 4 rfl rfl rfl Try.isAgg35 Try.sizeOf35 rfl (by first | rfl | assumption) | exact resTC 5 rfl rfl rfl Try.isAgg35 Try.sizeOf35 rfl (by first | rfl | assumption) | exact resTC 7 rfl rfl rfl Try.isAgg35 Try.sizeOf35 rfl (by first | rfl | assumption) | exact resTC 4 rfl rfl rfl Try.isAgg35 Try.sizeOf35 rfl (by first | rfl | assumption) | exact resTC 5 rfl rfl rfl Try.isAgg35 Try.sizeOf35 rfl (by first | rfl | assumption) | exact resTC 7 rfl rfl rfl Try.isAgg35 Try.sizeOf35 rfl (by first | rfl | assumption)) ⟨rfl, trivial⟩ ⟨rfl, by rw [wrap_u, ← hV]; rfl, rfl⟩
      try simp only [decide_eq_false_iff_not, decide_eq_true_eq, Int.not_lt, Int.not_le, Bool.not_eq_false, Bool.not_eq_true, Bool.not_true, Bool.not_false, Bool.not_eq_true', Bool.not_eq_false', beq_eq_false_iff_ne, ne_eq, beq_iff_eq, bne_iff_ne, bne_eq_false_iff_eq, Classical.not_not] at g39
      refine Jp.y 40 rfl (want_as rfl rfl rfl rfl) rfl rfl Kp.true (Y.move rfl rfl) ?_
      refine Jp.y 41 rfl (want_as rfl rfl rfl rfl) rfl rfl Kp.true (Y.eql rfl rfl rfl) ?_
      refine Jp.y 42 rfl (want_all rfl) rfl rfl Kp.true (Y.pickF rfl rfl rfl) ?_
      refine Jp.y 36 rfl (want_all rfl) rfl rfl Kp.true (Y.assign rfl rfl) ?_
      refine Jp.done hK8 ?_
      refine Cd.cond rfl (fun g36 => ?_) (fun g36 => ?_)
      · skip
        rw [if_pos (show op = 3 ∨ op = 4 by simp at g36; omega)] at hV
        refine Cd.seq fun K10 hK10 => ?_
        refine Cd.plain [(0, false), (1, false), (2, false), (3, false), (4, false), (5, false)] rfl rfl ?_
        refine Jp.y 43 rfl (want_all rfl) rfl rfl Kp.true (by first | exact Y.fieldAddrP rfl rfl Try.underlying32 rfl Try.sizeOf25 (by decide) (show _ + 32 = _ from rfl) | exact Y.fieldAddr rfl rfl Try.underlying32 rfl Try.sizeOf25 (by decide)) ?_
        refine Jp.y 44 rfl (want_all rfl) rfl rfl Kp.true (by first | exact Y.loadO 4 rfl Try.isAgg25 rfl rfl rfl | exact Y.loadO 5 rfl Try.isAgg25 rfl rfl rfl | exact Y.loadO 7 rfl Try.isAgg25 rfl rfl rfl | exact Y.loadO 4 rfl Try.isAgg25 rfl rfl rfl | exact Y.loadO 5 rfl Try.isAgg25 rfl rfl rfl | exact Y.loadO 7 rfl Try.isAgg25 rfl rfl rfl | exact Y.loadC 5 rfl Try.isAgg25 rfl rfl (HasC.pt (StP.cPc hs))) ?_
        refine Jp.y 45 rfl (want_all rfl) rfl rfl Kp.true (Y.add_ rfl rfl rfl (by first | exact wrap_u32 (by omega) (by omega) | rfl)) ?_
        refine Jp.y 46 rfl (want_all rfl) rfl rfl Kp.true (Y.struct [] [_, _, _] rfl rfl places35 Try.zeroValue35 rfl) ?_
        refine Jp.y 6 rfl (want_all rfl) rfl rfl Kp.true (Y.assign rfl rfl) ?_
        first | refine Jp.storeAll 4 rfl (want_all rfl) rfl rfl Try.sizeOf35 rfl rfl (by first | rfl | assumption) (by first | rfl | assumption) rfl rfl (fun k _ _ => noFr0 k) Kp.true ?_ | refine Jp.storeAll 5 rfl (want_all rfl) rfl rfl Try.sizeOf35 rfl rfl (by first | rfl | assumption) (by first | rfl | assumption) rfl rfl (fun k _ _ => noFr0 k) Kp.true ?_ | refine Jp.storeAll 7 rfl (want_all rfl) rfl rfl Try.sizeOf35 rfl rfl (by first | rfl | assumption) (by first | rfl | assumption) rfl rfl (fun k _ _ => noFr0 k) Kp.true ?_ | refine Jp.storeAll 4 rfl (want_all rfl) rfl rfl Try.sizeOf35 rfl rfl (by first | rfl | assumption) (by first | rfl | assumption) rfl rfl (fun k _ _ => noFr0 k) Kp.true ?_ | refine Jp.storeAll 5 rfl (want_all rfl) rfl rfl Try.sizeOf35 rfl rfl (by first | rfl | assumption) (by first | rfl | assumption) rfl rfl (fun k _ _ => noFr0 k) Kp.true ?_ | refine Jp.storeAll 7 rfl (want_all rfl) rfl rfl Try.sizeOf35 rfl rfl (by first | rfl | assumption) (by first | rfl | assumption) rfl rfl (fun k _ _ => noFr0 k) Kp.true ?_
        refine Jp.done hK10 ?_
        refine Cd.ret [(0, _)] rfl (by first | exact resTC 4 rfl rfl rfl Try.isAgg35 Try.sizeOf35 rfl (by first | rfl | assumption) | exact resTC 5 rfl rfl rfl Try.isAgg35 Try.sizeOf35 rfl (by first | rfl | assumption) | exact resTC 7 rfl rfl rfl Try.isAgg35 Try.sizeOf35 rfl (by first | rfl | assumption) | exact resTC 4 rfl rfl rfl Try.isAgg35 Try.sizeOf35 rfl (by first | rfl | assumption) | exact resTC 5 rfl rfl rfl Try.isAgg35 Try.sizeOf35 rfl (by first | rfl | assumption) | exact resTC 7 rfl rfl rfl Try.isAgg35 Try.sizeOf35 rfl (by first | rfl | assumption)) ⟨rfl, trivial⟩ ⟨rfl, by rw [wrap_u, ← hV]; rfl, rfl⟩
      try simp only [decide_eq_false_iff_not, decide_eq_true_eq, Int.not_lt, Int.not_le, Bool.not_eq_false, Bool.not_eq_true, Bool.not_true, Bool.not_false, Bool.not_eq_true', Bool.not_eq_false', beq_eq_false_iff_ne, ne_eq, beq_iff_eq, bne_iff_ne, bne_eq_false_iff_eq, Classical.not_not] at g36
      refine Cd.seq fun K11 hK11 => ?_
      refine Cd.plain [(0, false), (1, false), (2, false)] rfl rfl ?_
      (try dsimp only at g36)
      rw [if_neg (show ¬ (op = 3 ∨ op = 4) by omega)] at hV
      refine Jp.y 48 rfl (want_all rfl) rfl rfl Kp.true (Y.move rfl rfl) ?_
      refine Jp.call [] [] (loads_spec op) 49 rfl (want_all rfl) rfl rfl (Runs.fn rfl Try.call91 rfl) (by decide) (by decide) rfl trivial ?_
      rintro v1 ρ1 L1 ⟨rfl, rfl, rfl⟩
      refine ⟨rfl, fun hle1 => ⟨Kp.true, ?_⟩⟩
      refine Jp.y 47 rfl (want_all rfl) rfl rfl Kp.true (Y.assign rfl rfl) ?_
      refine Jp.done hK11 ?_
      refine Cd.cond rfl (fun gd => ?_) (fun gd => ?_)
      · rw [if_pos gd] at hV
        refine Cd.seq fun K12 hK12 => ?_
        refine Cd.plain [(0, false), (1, false), (2, false), (3, false), (4, false), (5, false), (6, false)] rfl rfl ?_
        refine Jp.y 51 rfl (want_all rfl) rfl rfl Kp.true (Y.move rfl rfl) ?_
        refine Jp.call [] [] hSz 52 rfl (want_all rfl) rfl rfl (Runs.fn rfl Try.call63 rfl) (by decide) (by decide) rfl trivial ?_
        rintro v2 ρ2 L2 ⟨rfl, rfl, rfl⟩
        refine ⟨rfl, fun hle2 => ⟨Kp.true, ?_⟩⟩
        refine Jp.y 50 rfl (want_all rfl) rfl rfl Kp.true (Y.move rfl rfl) ?_
        refine Jp.y 53 rfl (want_all rfl) rfl rfl Kp.true (Y.extract rfl rfl rfl) ?_
        refine Jp.y 54 rfl (want_all rfl) rfl rfl Kp.true (Y.extract rfl rfl rfl) ?_
        refine Jp.y 9 rfl (want_all rfl) rfl rfl Kp.true (Y.assign rfl rfl) ?_
        refine Jp.y 10 rfl (want_all rfl) rfl rfl Kp.true (Y.assign rfl rfl) ?_
        refine Jp.done hK12 ?_
        refine Cd.seq fun K13 hK13 => ?_
        refine Cd.plain [(0, false), (1, false), (2, false), (3, false), (4, false), (5, false), (6, false), (7, false), (8, false), (9, false), (10, false)] rfl rfl ?_
        refine Jp.y 56 rfl (want_all rfl) rfl rfl Kp.true (Y.move rfl rfl) ?_
        refine Jp.y 57 rfl (want_all rfl) rfl rfl Kp.true (by first | exact Y.loadAggO 4 rfl Try.isAgg28 Try.sizeOf28 rfl rfl (by first | rfl | assumption) | exact Y.loadAggO 5 rfl Try.isAgg28 Try.sizeOf28 rfl rfl (by first | rfl | assumption) | exact Y.loadAggO 7 rfl Try.isAgg28 Try.sizeOf28 rfl rfl (by first | rfl | assumption) | exact Y.loadAggO 4 rfl Try.isAgg28 Try.sizeOf28 rfl rfl (by first | rfl | assumption) | exact Y.loadAggO 5 rfl Try.isAgg28 Try.sizeOf28 rfl rfl (by first | rfl | assumption) | exact Y.loadAggO 7 rfl Try.isAgg28 Try.sizeOf28 rfl rfl (by first | rfl | assumption)) ?_
        refine Jp.y 58 rfl (want_all rfl) rfl rfl Kp.true (by first | exact Y.loadAggO 4 rfl Try.isAgg32 Try.sizeOf32 rfl rfl (by first | rfl | assumption) | exact Y.loadAggO 5 rfl Try.isAgg32 Try.sizeOf32 rfl rfl (by first | rfl | assumption) | exact Y.loadAggO 7 rfl Try.isAgg32 Try.sizeOf32 rfl rfl (by first | rfl | assumption) | exact Y.loadAggO 4 rfl Try.isAgg32 Try.sizeOf32 rfl rfl (by first | rfl | assumption) | exact Y.loadAggO 5 rfl Try.isAgg32 Try.sizeOf32 rfl rfl (by first | rfl | assumption) | exact Y.loadAggO 7 rfl Try.isAgg32 Try.sizeOf32 rfl rfl (by first | rfl | assumption)) ?_
        refine Jp.call [] [] hA 59 rfl (want_all rfl) rfl rfl (Runs.fn rfl Try.call65 rfl) (by decide) (by decide) rfl trivial ?_
        rintro v3 ρ3 L3 ⟨rfl, rfl, rfl⟩
        refine ⟨rfl, fun hle3 => ⟨Kp.true, ?_⟩⟩
        refine Jp.y 60 rfl (want_all rfl) rfl rfl Kp.true (Y.move rfl rfl) ?_
        refine Jp.call [0] [0] hL 61 rfl (want_all rfl) rfl rfl (Runs.fn rfl Try.call27 rfl) (by decide) (by decide) rfl trivial ?_
        rintro v4 ρ4 L4 ⟨rfl, rfl, rfl⟩
        refine ⟨rfl, fun hle4 => ⟨Kp.true, ?_⟩⟩
        refine Jp.y 55 rfl (want_all rfl) rfl rfl Kp.true (Y.move rfl rfl) ?_
        refine Jp.y 62 rfl (want_all rfl) rfl rfl Kp.true (Y.extract rfl rfl rfl) ?_
        refine Jp.y 63 rfl (want_all rfl) rfl rfl Kp.true (Y.extract rfl rfl rfl) ?_
        refine Jp.y 11 rfl (want_all rfl) rfl rfl Kp.true (Y.assign rfl rfl) ?_
        refine Jp.y 12 rfl (want_all rfl) rfl rfl Kp.true (Y.assign rfl rfl) ?_
        refine Jp.done hK13 ?_
        refine Cd.seq fun K14 hK14 => ?_
        refine Cd.seq fun K15 hK15 => ?_
        refine Cd.plain [(0, false), (1, false)] rfl rfl ?_
        refine Jp.y 64 rfl (want_all rfl) rfl rfl Kp.true (Y.move rfl rfl) ?_
        refine Jp.y 65 rfl (want_all rfl) rfl rfl Kp.true (Y.neq rfl rfl rfl) ?_
        refine Jp.done hK15 ?_
        refine Cd.cond rfl (fun ge => ?_) (fun ge => ?_)
        · have hf : ¬ lf = 0 := by simpa using ge
          rw [if_neg hf] at hV
          refine Cd.seq fun K16 hK16 => ?_
          refine Cd.plain [(0, false), (1, false), (2, false), (3, false), (4, false), (5, false), (6, false)] rfl rfl ?_
          refine Jp.y 66 rfl (want_all rfl) rfl rfl Kp.true (by first | exact Y.loadAggO 4 rfl Try.isAgg28 Try.sizeOf28 rfl rfl (by first | rfl | assumption) | exact Y.loadAggO 5 rfl Try.isAgg28 Try.sizeOf28 rfl rfl (by first | rfl | assumption) | exact Y.loadAggO 7 rfl Try.isAgg28 Try.sizeOf28 rfl rfl (by first | rfl | assumption) | exact Y.loadAggO 4 rfl Try.isAgg28 Try.sizeOf28 rfl rfl (by first | rfl | assumption) | exact Y.loadAggO 5 rfl Try.isAgg28 Try.sizeOf28 rfl rfl (by first | rfl | assumption) | exact Y.loadAggO 7 rfl Try.isAgg28 Try.sizeOf28 rfl rfl (by first | rfl | assumption)) ?_
          refine Jp.y 67 rfl (want_all rfl) rfl rfl Kp.true (by first | exact Y.loadAggO 4 rfl Try.isAgg32 Try.sizeOf32 rfl rfl (by first | rfl | assumption) | exact Y.loadAggO 5 rfl Try.isAgg32 Try.sizeOf32 rfl rfl (by first | rfl | assumption) | exact Y.loadAggO 7 rfl Try.isAgg32 Try.sizeOf32 rfl rfl (by first | rfl | assumption) | exact Y.loadAggO 4 rfl Try.isAgg32 Try.sizeOf32 rfl rfl (by first | rfl | assumption) | exact Y.loadAggO 5 rfl Try.isAgg32 Try.sizeOf32 rfl rfl (by first | rfl | assumption) | exact Y.loadAggO 7 rfl Try.isAgg32 Try.sizeOf32 rfl rfl (by first | rfl | assumption)) ?_
          refine Jp.call [] [] hA 68 rfl (want_all rfl) rfl rfl (Runs.fn rfl Try.call65 rfl) (by decide) (by decide) rfl trivial ?_
          rintro v5 ρ5 L5 ⟨rfl, rfl, rfl⟩
          refine ⟨rfl, fun hle5 => ⟨Kp.true, ?_⟩⟩
          refine Jp.y 69 rfl (want_all rfl) rfl rfl Kp.true (Y.move rfl rfl) ?_
          refine Jp.y 70 rfl (want_all rfl) rfl rfl Kp.true (Y.struct [(0, _), (1, _), (2, _)] [_, _, _] rfl rfl places35 Try.zeroValue35 rfl) ?_
          refine Jp.y 6 rfl (want_all rfl) rfl rfl Kp.true (Y.assign rfl rfl) ?_
          first | refine Jp.storeAll 4 rfl (want_all rfl) rfl rfl Try.sizeOf35 rfl rfl (by first | rfl | assumption) (by first | rfl | assumption) rfl rfl (fun k _ _ => noFr0 k) Kp.true ?_ | refine Jp.storeAll 5 rfl (want_all rfl) rfl rfl Try.sizeOf35 rfl rfl (by first | rfl | assumption) (by first | rfl | assumption) rfl rfl (fun k _ _ => noFr0 k) Kp.true ?_ | refine Jp.storeAll 7 rfl (want_all rfl) rfl rfl Try.sizeOf35 rfl rfl (by first | rfl | assumption) (by first | rfl | assumption) rfl rfl (fun k _ _ => noFr0 k) Kp.true ?_ | refine Jp.storeAll 4 rfl (want_all rfl) rfl rfl Try.sizeOf35 rfl rfl (by first | rfl | assumption) (by first | rfl | assumption) rfl rfl (fun k _ _ => noFr0 k) Kp.true ?_ | refine Jp.storeAll 5 rfl (want_all rfl) rfl rfl Try.sizeOf35 rfl rfl (by first | rfl | assumption) (by first | rfl | assumption) rfl rfl (fun k _ _ => noFr0 k) Kp.true ?_ | refine Jp.storeAll 7 rfl (want_all rfl) rfl rfl Try.sizeOf35 rfl rfl (by first | rfl | assumption) (by first | rfl | assumption) rfl rfl (fun k _ _ => noFr0 k) Kp.true ?_
          refine Jp.done hK16 ?_
          refine Cd.ret [(0, _)] rfl (by first | exact resTC 4 rfl rfl rfl Try.isAgg35 Try.sizeOf35 rfl (by first | rfl | assumption) | exact resTC 5 rfl rfl rfl Try.isAgg35 Try.sizeOf35 rfl (by first | rfl | assumption) | exact resTC 7 rfl rfl rfl Try.isAgg35 Try.sizeOf35 rfl (by first | rfl | assumption) | exact resTC 4 rfl rfl rfl Try.isAgg35 Try.sizeOf35 rfl (by first | rfl | assumption) | exact resTC 5 rfl rfl rfl Try.isAgg35 Try.sizeOf35 rfl (by first | rfl | assumption) | exact resTC 7 rfl rfl rfl Try.isAgg35 Try.sizeOf35 rfl (by first | rfl | assumption)) ⟨rfl, trivial⟩ ⟨rfl, by rw [← hV]; rfl, rfl⟩
        · have hf : lf = 0 := by simpa using ge
          rw [if_pos hf] at hV
          refine Cd.skip hK14 ?_
          refine Cd.seq fun K17 hK17 => ?_
          refine Cd.seq fun K18 hK18 => ?_
          refine Cd.plain [(0, false)] rfl rfl ?_
          refine Jp.y 71 rfl (want_all rfl) rfl rfl Kp.true (Y.move rfl rfl) ?_
          refine Jp.done hK18 ?_
          refine Cd.cond rfl (fun gf => ?_) (fun gf => ?_)
          · rw [if_pos gf] at hV
            refine Cd.plain [(0, false), (1, false), (2, false), (3, false), (4, false)] rfl rfl ?_
            refine Jp.y 72 rfl (want_all rfl) rfl rfl Kp.true (Y.move rfl rfl) ?_
            refine Jp.y 73 rfl (want_all rfl) rfl rfl Kp.true (Y.move rfl rfl) ?_
            refine Jp.y 74 rfl (want_all rfl) rfl rfl Kp.true (Y.mul_ rfl rfl rfl (by first | exact wrap_i64 (by omega) (by omega) | rfl)) ?_
            refine Jp.slot 74 rfl (show _ = Value.int .i64 ((8 * sz : Nat) : Int) from congrArg (Value.int .i64) (by omega)) ?_
            refine Jp.call [] [] (extend_spec lv (8 * sz)) 75 rfl (want_all rfl) rfl rfl (Runs.fn rfl Try.call18 rfl) (by decide) (by decide) rfl trivial ?_
            rintro v6 ρ6 L6 ⟨rfl, rfl, rfl⟩
            refine ⟨rfl, fun hle6 => ⟨Kp.true, ?_⟩⟩
            refine Jp.y 11 rfl (want_all rfl) rfl rfl Kp.true (Y.assign rfl rfl) ?_
            refine Jp.done hK17 ?_
            refine Cd.seq fun K19 hK19 => ?_
            refine Cd.plain [(0, false), (1, false), (2, false), (3, false)] rfl rfl ?_
            refine Jp.y 76 rfl (want_all rfl) rfl rfl Kp.true (Y.move rfl rfl) ?_
            refine Jp.y 77 rfl (want_all rfl) rfl rfl Kp.true (Y.struct [] [_, _, _] rfl rfl places35 Try.zeroValue35 rfl) ?_
            refine Jp.y 6 rfl (want_all rfl) rfl rfl Kp.true (Y.assign rfl rfl) ?_
            first | refine Jp.storeAll 4 rfl (want_all rfl) rfl rfl Try.sizeOf35 rfl rfl (by first | rfl | assumption) (by first | rfl | assumption) rfl rfl (fun k _ _ => noFr0 k) Kp.true ?_ | refine Jp.storeAll 5 rfl (want_all rfl) rfl rfl Try.sizeOf35 rfl rfl (by first | rfl | assumption) (by first | rfl | assumption) rfl rfl (fun k _ _ => noFr0 k) Kp.true ?_ | refine Jp.storeAll 7 rfl (want_all rfl) rfl rfl Try.sizeOf35 rfl rfl (by first | rfl | assumption) (by first | rfl | assumption) rfl rfl (fun k _ _ => noFr0 k) Kp.true ?_ | refine Jp.storeAll 4 rfl (want_all rfl) rfl rfl Try.sizeOf35 rfl rfl (by first | rfl | assumption) (by first | rfl | assumption) rfl rfl (fun k _ _ => noFr0 k) Kp.true ?_ | refine Jp.storeAll 5 rfl (want_all rfl) rfl rfl Try.sizeOf35 rfl rfl (by first | rfl | assumption) (by first | rfl | assumption) rfl rfl (fun k _ _ => noFr0 k) Kp.true ?_ | refine Jp.storeAll 7 rfl (want_all rfl) rfl rfl Try.sizeOf35 rfl rfl (by first | rfl | assumption) (by first | rfl | assumption) rfl rfl (fun k _ _ => noFr0 k) Kp.true ?_
            refine Jp.done hK19 ?_
            refine Cd.ret [(0, _)] rfl (by first | exact resTC 4 rfl rfl rfl Try.isAgg35 Try.sizeOf35 rfl (by first | rfl | assumption) | exact resTC 5 rfl rfl rfl Try.isAgg35 Try.sizeOf35 rfl (by first | rfl | assumption) | exact resTC 7 rfl rfl rfl Try.isAgg35 Try.sizeOf35 rfl (by first | rfl | assumption) | exact resTC 4 rfl rfl rfl Try.isAgg35 Try.sizeOf35 rfl (by first | rfl | assumption) | exact resTC 5 rfl rfl rfl Try.isAgg35 Try.sizeOf35 rfl (by first | rfl | assumption) | exact resTC 7 rfl rfl rfl Try.isAgg35 Try.sizeOf35 rfl (by first | rfl | assumption)) ⟨rfl, trivial⟩ ⟨rfl, by rw [← hV]; rfl, rfl⟩
          · rw [if_neg (by simp [gf])] at hV
            refine Cd.skip hK17 ?_
            refine Cd.seq fun K20 hK20 => ?_
            refine Cd.plain [(0, false), (1, false), (2, false), (3, false)] rfl rfl ?_
            refine Jp.y 76 rfl (want_all rfl) rfl rfl Kp.true (Y.move rfl rfl) ?_
            refine Jp.y 77 rfl (want_all rfl) rfl rfl Kp.true (Y.struct [] [_, _, _] rfl rfl places35 Try.zeroValue35 rfl) ?_
            refine Jp.y 6 rfl (want_all rfl) rfl rfl Kp.true (Y.assign rfl rfl) ?_
            first | refine Jp.storeAll 4 rfl (want_all rfl) rfl rfl Try.sizeOf35 rfl rfl (by first | rfl | assumption) (by first | rfl | assumption) rfl rfl (fun k _ _ => noFr0 k) Kp.true ?_ | refine Jp.storeAll 5 rfl (want_all rfl) rfl rfl Try.sizeOf35 rfl rfl (by first | rfl | assumption) (by first | rfl | assumption) rfl rfl (fun k _ _ => noFr0 k) Kp.true ?_ | refine Jp.storeAll 7 rfl (want_all rfl) rfl rfl Try.sizeOf35 rfl rfl (by first | rfl | assumption) (by first | rfl | assumption) rfl rfl (fun k _ _ => noFr0 k) Kp.true ?_ | refine Jp.storeAll 4 rfl (want_all rfl) rfl rfl Try.sizeOf35 rfl rfl (by first | rfl | assumption) (by first | rfl | assumption) rfl rfl (fun k _ _ => noFr0 k) Kp.true ?_ | refine Jp.storeAll 5 rfl (want_all rfl) rfl rfl Try.sizeOf35 rfl rfl (by first | rfl | assumption) (by first | rfl | assumption) rfl rfl (fun k _ _ => noFr0 k) Kp.true ?_ | refine Jp.storeAll 7 rfl (want_all rfl) rfl rfl Try.sizeOf35 rfl rfl (by first | rfl | assumption) (by first | rfl | assumption) rfl rfl (fun k _ _ => noFr0 k) Kp.true ?_
            refine Jp.done hK20 ?_
            refine Cd.ret [(0, _)] rfl (by first | exact resTC 4 rfl rfl rfl Try.isAgg35 Try.sizeOf35 rfl (by first | rfl | assumption) | exact resTC 5 rfl rfl rfl Try.isAgg35 Try.sizeOf35 rfl (by first | rfl | assumption) | exact resTC 7 rfl rfl rfl Try.isAgg35 Try.sizeOf35 rfl (by first | rfl | assumption) | exact resTC 4 rfl rfl rfl Try.isAgg35 Try.sizeOf35 rfl (by first | rfl | assumption) | exact resTC 5 rfl rfl rfl Try.isAgg35 Try.sizeOf35 rfl (by first | rfl | assumption) | exact resTC 7 rfl rfl rfl Try.isAgg35 Try.sizeOf35 rfl (by first | rfl | assumption)) ⟨rfl, trivial⟩ ⟨rfl, by rw [← hV]; rfl, rfl⟩
      · rw [if_neg (by simp [gd])] at hV
        refine Cd.over rfl hK2 ?_
        refine Cd.seq fun K21 hK21 => ?_
        refine Cd.plain [(0, false), (1, false), (2, false), (3, false), (4, false), (5, false), (6, false), (7, false)] rfl rfl ?_
        refine Jp.y 79 rfl (want_all rfl) rfl rfl Kp.true (by first | exact Y.fieldAddrP rfl rfl Try.underlying28 rfl Try.sizeOf3 (by decide) (show _ + 0 = _ from rfl) | exact Y.fieldAddr rfl rfl Try.underlying28 rfl Try.sizeOf3 (by decide)) ?_
        refine Jp.y 80 rfl (want_all rfl) rfl rfl Kp.true (by first | exact Y.loadO 4 rfl Try.isAgg3 rfl rfl rfl | exact Y.loadO 5 rfl Try.isAgg3 rfl rfl rfl | exact Y.loadO 7 rfl Try.isAgg3 rfl rfl rfl | exact Y.loadO 4 rfl Try.isAgg3 rfl rfl rfl | exact Y.loadO 5 rfl Try.isAgg3 rfl rfl rfl | exact Y.loadO 7 rfl Try.isAgg3 rfl rfl rfl | exact Y.loadC 5 rfl Try.isAgg3 rfl rfl (HasC.pt (StP.cPc hs))) ?_
        refine Jp.call [] [] (kind_spec op) 81 rfl (want_all rfl) rfl rfl (Runs.fn rfl Try.call16 rfl) (by decide) (by decide) rfl trivial ?_
        rintro v2 ρ2 L2 ⟨rfl, rfl, rfl⟩
        refine ⟨rfl, fun hle2 => ⟨Kp.true, ?_⟩⟩
        refine Jp.y 78 rfl (want_all rfl) rfl rfl Kp.true (Y.move rfl rfl) ?_
        refine Jp.y 82 rfl (want_all rfl) rfl rfl Kp.true (Y.extract rfl rfl rfl) ?_
        refine Jp.y 83 rfl (want_all rfl) rfl rfl Kp.true (Y.extract rfl rfl rfl) ?_
        refine Jp.y 13 rfl (want_all rfl) rfl rfl Kp.true (Y.assign rfl rfl) ?_
        refine Jp.y 14 rfl (want_all rfl) rfl rfl Kp.true (Y.assign rfl rfl) ?_
        refine Jp.done hK21 ?_
        refine Cd.seq fun K22 hK22 => ?_
        refine Cd.drawn [(4, _), (5, _)] ⟨rfl, rfl, trivial⟩ [(0, true), (1, true), (2, true), (3, true), (5, true), (6, true), (4, false), (7, false), (8, false), (9, true), (10, true), (11, true), (12, true), (13, true)] follows (by kernel_rfl) (fun hrl => ?_)
        refine Jp.q 85 rfl (want_all rfl) rfl rfl (Y.move rfl rfl) ?_
        refine Jp.q 86 rfl (want_all rfl) rfl rfl (by first | exact Y.loadAggO 4 rfl Try.isAgg32 Try.sizeOf32 rfl rfl (by first | rfl | assumption) | exact Y.loadAggO 5 rfl Try.isAgg32 Try.sizeOf32 rfl rfl (by first | rfl | assumption) | exact Y.loadAggO 7 rfl Try.isAgg32 Try.sizeOf32 rfl rfl (by first | rfl | assumption) | exact Y.loadAggO 4 rfl Try.isAgg32 Try.sizeOf32 rfl rfl (by first | rfl | assumption) | exact Y.loadAggO 5 rfl Try.isAgg32 Try.sizeOf32 rfl rfl (by first | rfl | assumption) | exact Y.loadAggO 7 rfl Try.isAgg32 Try.sizeOf32 rfl rfl (by first | rfl | assumption)) ?_
        refine Jp.q 87 rfl (want_all rfl) rfl rfl (by first | exact Y.fieldAddrP rfl rfl Try.underlying28 rfl Try.sizeOf3 (by decide) (show _ + 2 = _ from rfl) | exact Y.fieldAddr rfl rfl Try.underlying28 rfl Try.sizeOf3 (by decide)) ?_
        refine Jp.q 88 rfl (want_all rfl) rfl rfl (by first | exact Y.loadO 4 rfl Try.isAgg3 rfl rfl rfl | exact Y.loadO 5 rfl Try.isAgg3 rfl rfl rfl | exact Y.loadO 7 rfl Try.isAgg3 rfl rfl rfl | exact Y.loadO 4 rfl Try.isAgg3 rfl rfl rfl | exact Y.loadO 5 rfl Try.isAgg3 rfl rfl rfl | exact Y.loadO 7 rfl Try.isAgg3 rfl rfl rfl | exact Y.loadC 5 rfl Try.isAgg3 rfl rfl (HasC.pt (StP.cPc hs))) ?_
        refine Jp.q 90 rfl (want_all rfl) rfl rfl (by first | exact Y.loadAggO 4 rfl Try.isAgg28 Try.sizeOf28 rfl rfl (by first | rfl | assumption) | exact Y.loadAggO 5 rfl Try.isAgg28 Try.sizeOf28 rfl rfl (by first | rfl | assumption) | exact Y.loadAggO 7 rfl Try.isAgg28 Try.sizeOf28 rfl rfl (by first | rfl | assumption) | exact Y.loadAggO 4 rfl Try.isAgg28 Try.sizeOf28 rfl rfl (by first | rfl | assumption) | exact Y.loadAggO 5 rfl Try.isAgg28 Try.sizeOf28 rfl rfl (by first | rfl | assumption) | exact Y.loadAggO 7 rfl Try.isAgg28 Try.sizeOf28 rfl rfl (by first | rfl | assumption)) ?_
        refine Jp.q 91 rfl (want_all rfl) rfl rfl (by first | exact Y.loadAggO 4 rfl Try.isAgg32 Try.sizeOf32 rfl rfl (by first | rfl | assumption) | exact Y.loadAggO 5 rfl Try.isAgg32 Try.sizeOf32 rfl rfl (by first | rfl | assumption) | exact Y.loadAggO 7 rfl Try.isAgg32 Try.sizeOf32 rfl rfl (by first | rfl | assumption) | exact Y.loadAggO 4 rfl Try.isAgg32 Try.sizeOf32 rfl rfl (by first | rfl | assumption) | exact Y.loadAggO 5 rfl Try.isAgg32 Try.sizeOf32 rfl rfl (by first | rfl | assumption) | exact Y.loadAggO 7 rfl Try.isAgg32 Try.sizeOf32 rfl rfl (by first | rfl | assumption)) ?_
        refine Jp.call [] [] hR1 89 rfl (want_all rfl) rfl rfl (Runs.fn rfl Try.call66 rfl) (by decide) (by decide) rfl trivial ?_
        rintro v3 ρ3 L3 ⟨rfl, rfl, rfl⟩
        refine ⟨rfl, fun hle3 => ⟨(Kp.st ⟨rfl, rfl, trivial⟩), ?_⟩⟩
        refine Jp.call [] [] hO 92 rfl (want_all rfl) rfl rfl (Runs.fn rfl Try.call92 rfl) (by decide) (by decide) rfl trivial ?_
        rintro v4 ρ4 L4 ⟨rfl, rfl, rfl⟩
        refine ⟨rfl, fun hle4 => ⟨(Kp.st ⟨rfl, rfl, trivial⟩), ?_⟩⟩
        refine Jp.call [] [] (do_spec (kindA op) x1 od (kindA_le op) l1 hol) 93 rfl (want_all rfl) rfl rfl (Runs.fn rfl Try.call17 rfl) (by decide) (by decide) rfl trivial ?_
        rintro v5 ρ5 L5 ⟨rfl, rfl, rfl⟩
        refine ⟨rfl, fun hle5 => ⟨(Kp.st ⟨rfl, rfl, trivial⟩), ?_⟩⟩
        refine Jp.q 84 rfl (want_all rfl) rfl rfl (Y.move rfl rfl) ?_
        refine Jp.q 94 rfl (want_all rfl) rfl rfl (Y.extract rfl rfl rfl) ?_
        refine Jp.q 95 rfl (want_all rfl) rfl rfl (Y.extract rfl rfl rfl) ?_
        refine Jp.q 15 rfl (want_all rfl) rfl rfl (Y.assign rfl rfl) ?_
        refine Jp.q 16 rfl (want_all rfl) rfl rfl (Y.assign rfl rfl) ?_
        refine Jp.done hK22 ?_
        refine Cd.seq fun K24 hK24 => ?_
        refine Cd.plain [(0, false), (1, false), (2, false), (3, false)] rfl rfl ?_
        refine Jp.y 96 rfl (want_all rfl) rfl rfl Kp.true (Y.move rfl rfl) ?_
        refine Jp.y 97 rfl (want_all rfl) rfl rfl Kp.true (Y.struct [] [_, _, _] rfl rfl places35 Try.zeroValue35 rfl) ?_
        refine Jp.y 6 rfl (want_all rfl) rfl rfl Kp.true (Y.assign rfl rfl) ?_
        first | refine Jp.storeAll 4 rfl (want_all rfl) rfl rfl Try.sizeOf35 rfl rfl (by first | rfl | assumption) (by first | rfl | assumption) rfl rfl (fun k _ _ => noFr0 k) Kp.true ?_ | refine Jp.storeAll 5 rfl (want_all rfl) rfl rfl Try.sizeOf35 rfl rfl (by first | rfl | assumption) (by first | rfl | assumption) rfl rfl (fun k _ _ => noFr0 k) Kp.true ?_ | refine Jp.storeAll 7 rfl (want_all rfl) rfl rfl Try.sizeOf35 rfl rfl (by first | rfl | assumption) (by first | rfl | assumption) rfl rfl (fun k _ _ => noFr0 k) Kp.true ?_ | refine Jp.storeAll 4 rfl (want_all rfl) rfl rfl Try.sizeOf35 rfl rfl (by first | rfl | assumption) (by first | rfl | assumption) rfl rfl (fun k _ _ => noFr0 k) Kp.true ?_ | refine Jp.storeAll 5 rfl (want_all rfl) rfl rfl Try.sizeOf35 rfl rfl (by first | rfl | assumption) (by first | rfl | assumption) rfl rfl (fun k _ _ => noFr0 k) Kp.true ?_ | refine Jp.storeAll 7 rfl (want_all rfl) rfl rfl Try.sizeOf35 rfl rfl (by first | rfl | assumption) (by first | rfl | assumption) rfl rfl (fun k _ _ => noFr0 k) Kp.true ?_
        refine Jp.done hK24 ?_
        refine Cd.ret [(0, _)] rfl (by first | exact resTC 4 rfl rfl rfl Try.isAgg35 Try.sizeOf35 rfl (by first | rfl | assumption) | exact resTC 5 rfl rfl rfl Try.isAgg35 Try.sizeOf35 rfl (by first | rfl | assumption) | exact resTC 7 rfl rfl rfl Try.isAgg35 Try.sizeOf35 rfl (by first | rfl | assumption) | exact resTC 4 rfl rfl rfl Try.isAgg35 Try.sizeOf35 rfl (by first | rfl | assumption) | exact resTC 5 rfl rfl rfl Try.isAgg35 Try.sizeOf35 rfl (by first | rfl | assumption) | exact resTC 7 rfl rfl rfl Try.isAgg35 Try.sizeOf35 rfl (by first | rfl | assumption)) ⟨rfl, trivial⟩ ⟨rfl, by rw [← hV]; rfl, rfl⟩
end Go.Proofs.Ytkjeidoplonkjaa
