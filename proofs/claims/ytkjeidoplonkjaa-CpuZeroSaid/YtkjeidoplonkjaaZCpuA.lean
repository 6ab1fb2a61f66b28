import Derived.Test.YtkjeidoplonkjaaZAluA
import Derived.Test.YtkjeidoplonkjaaZEngV5
import Derived.Test.YtkjeidoplonkjaaZRvC
set_option linter.unusedVariables false
set_option linter.unusedSimpArgs false
set_option maxRecDepth 100000
namespace Go.Proofs.Ytkjeidoplonkjaa
open Go
structure StP where
  x : List Nat
  pc : Nat
  ret : Int
def StP.cells (s : StP) : List Value := natsV .u32 s.x ++ [.int .u32 (s.pc : Int), .int .i64 s.ret]
structure StOk (s : StP) : Prop where
  len : s.x.length = 32
  lt : ∀ y ∈ s.x, y < 4294967296
  pc : s.pc < 4294967296
  ret : -9223372036854775808 ≤ s.ret ∧ s.ret ≤ 4611686018427387904
theorem StP.len {s : StP} (h : StOk s) : s.cells.length = 34 := by simp [StP.cells, natsV, h.len]
theorem StP.one (s : StP) : s.cells.all one = true := by
  unfold StP.cells natsV
  rw [List.all_append, List.all_map]
  simp [Ytkjeidoplonkjaa.one, List.all_eq_true]
theorem StP.cX {s : StP} (h : StOk s) {r v : Nat} (hr : s.x[r]? = some v) : s.cells.toArray[r]? = some (.int .u32 (v : Int)) := by
  have hl : r < s.x.length := (List.getElem?_eq_some_iff.1 hr).1
  have e : s.x[r] = v := by rw [List.getElem?_eq_getElem hl] at hr; injection hr
  simp [StP.cells, natsV, List.getElem?_append, hl, e]
theorem StP.cPc {s : StP} (h : StOk s) : s.cells.toArray[32]? = some (.int .u32 (s.pc : Int)) := by
  simp [StP.cells, natsV, List.getElem?_append, h.len]
theorem StP.cRet {s : StP} (h : StOk s) : s.cells.toArray[33]? = some (.int .i64 s.ret) := by
  simp [StP.cells, natsV, List.getElem?_append, h.len]
def regP (s : StP) (r : Nat) : Nat := if r = 0 then 0 else s.x.getD r 0
theorem regP_lt {s : StP} (h : StOk s) (r : Nat) : regP s r < 4294967296 := by
  unfold regP
  split
  · omega
  · rw [List.getD_eq_getElem?_getD]
    cases hx : s.x[r]? with
    | none => simp
    | some v => exact h.lt v (List.mem_of_getElem? hx)
theorem regP_get {s : StP} (h : StOk s) {r : Nat} (hr : r < 32) (h0 : r ≠ 0) : s.x[r]? = some (regP s r) := by
  have hl : r < s.x.length := by rw [h.len]; exact hr
  simp [regP, h0, List.getD_eq_getElem?_getD, hl]
theorem reg_spec (s : StP) (r : Nat) (hs : StOk s) (hr : r < 32) : Spec Try.prog 66 #[.agg s.cells.toArray, .int .i64 r] (fun _ => True) [] (fun ρ ρ' v L => ρ' = ρ ∧ v = .int .u32 (regP s r : Int) ∧ L = []) := by
  refine Spec.of 15 Try.func66 rfl Try.ntmps66 [(0, _), (1, _)] rfl rfl ?_
  intro cx ρ hr' h0
  refine Cd.seq fun K1 hK1 => ?_
  refine Cd.plain [(0, false), (1, false)] rfl rfl ?_
  refine Jp.box 1 2 rfl (want_all rfl) rfl rfl rfl rfl fun b1 => ⟨Kp.true, ?_⟩
  refine Jp.y 4 rfl (want_all rfl) rfl rfl Kp.true (Y.assign rfl rfl) ?_
  refine Jp.done hK1 ?_
  refine Cd.seq fun K2 hK2 => ?_
  refine Cd.seq fun K3 hK3 => ?_
  refine Cd.plain [(0, false), (1, false), (2, false), (3, false), (4, false), (5, false)] rfl rfl ?_
  refine Jp.y 5 rfl (want_all rfl) rfl rfl Kp.true (Y.move rfl rfl) ?_
  refine Jp.y 6 rfl (want_all rfl) rfl rfl Kp.true (Y.leq rfl rfl rfl) ?_
  refine Jp.y 7 rfl (want_all rfl) rfl rfl Kp.true (Y.move rfl rfl) ?_
  refine Jp.split 7 rfl (fun g7 => ?_) (fun g7 => ?_)
  · skip
    try simp only [decide_eq_false_iff_not, decide_eq_true_eq, Int.not_lt, Int.not_le, Bool.not_eq_false, Bool.not_eq_true, Bool.not_true, Bool.not_false, Bool.not_eq_true', Bool.not_eq_false', beq_eq_false_iff_ne, ne_eq, beq_iff_eq, bne_iff_ne, bne_eq_false_iff_eq, Classical.not_not] at g7
    have hz : r = 0 := by omega
    refine Jp.skip 8 rfl (want_as rfl rfl rfl rfl) rfl rfl Kp.true ?_
    refine Jp.skip 9 rfl (want_as rfl rfl rfl rfl) rfl rfl Kp.true ?_
    refine Jp.y 10 rfl (want_all rfl) rfl rfl Kp.true (Y.pickT rfl rfl rfl) ?_
    refine Jp.done hK3 ?_
    refine Cd.condT rfl ?_
    refine Cd.seq fun K4 hK4 => ?_
    refine Cd.plain [(0, false)] rfl rfl ?_
    refine Jp.y 4 rfl (want_all rfl) rfl rfl Kp.true (Y.assign rfl rfl) ?_
    refine Jp.done hK4 ?_
    refine Cd.ret [] rfl (res1 rfl rfl) trivial ⟨rfl, by rw [hz]; rfl, rfl⟩
  try simp only [decide_eq_false_iff_not, decide_eq_true_eq, Int.not_lt, Int.not_le, Bool.not_eq_false, Bool.not_eq_true, Bool.not_true, Bool.not_false, Bool.not_eq_true', Bool.not_eq_false', beq_eq_false_iff_ne, ne_eq, beq_iff_eq, bne_iff_ne, bne_eq_false_iff_eq, Classical.not_not] at g7
  refine Jp.y 8 rfl (want_as rfl rfl rfl rfl) rfl rfl Kp.true (Y.move rfl rfl) ?_
  refine Jp.y 9 rfl (want_as rfl rfl rfl rfl) rfl rfl Kp.true (Y.geq rfl rfl rfl) ?_
  refine Jp.y 10 rfl (want_all rfl) rfl rfl Kp.true (Y.pickF rfl rfl rfl) ?_
  refine Jp.done hK3 ?_
  refine Cd.cond rfl (fun g10 => ?_) (fun g10 => ?_)
  · skip
    try simp only [decide_eq_false_iff_not, decide_eq_true_eq, Int.not_lt, Int.not_le, Bool.not_eq_false, Bool.not_eq_true, Bool.not_true, Bool.not_false, Bool.not_eq_true', Bool.not_eq_false', beq_eq_false_iff_ne, ne_eq, beq_iff_eq, bne_iff_ne, bne_eq_false_iff_eq, Classical.not_not] at g10
    have hz : r = 0 := by omega
    refine Cd.seq fun K5 hK5 => ?_
    refine Cd.plain [(0, false)] rfl rfl ?_
    refine Jp.y 4 rfl (want_all rfl) rfl rfl Kp.true (Y.assign rfl rfl) ?_
    refine Jp.done hK5 ?_
    refine Cd.ret [] rfl (res1 rfl rfl) trivial ⟨rfl, by rw [hz]; rfl, rfl⟩
  try simp only [decide_eq_false_iff_not, decide_eq_true_eq, Int.not_lt, Int.not_le, Bool.not_eq_false, Bool.not_eq_true, Bool.not_true, Bool.not_false, Bool.not_eq_true', Bool.not_eq_false', beq_eq_false_iff_ne, ne_eq, beq_iff_eq, bne_iff_ne, bne_eq_false_iff_eq, Classical.not_not] at g10
  refine Cd.skip hK2 ?_
  refine Cd.seq fun K6 hK6 => ?_
  refine Cd.plain [(0, false), (1, false), (2, false), (3, false), (4, false)] rfl rfl ?_
  refine Jp.y 11 rfl (want_all rfl) rfl rfl Kp.true (Y.move rfl rfl) ?_
  have hr0 : r ≠ 0 := by omega
  refine Jp.y 12 rfl (want_all rfl) rfl rfl Kp.true (by first | exact Y.fieldAddrP rfl rfl Try.underlying32 rfl Try.sizeOf30 (by decide) (show _ + 0 = _ from rfl) | exact Y.fieldAddr rfl rfl Try.underlying32 rfl Try.sizeOf30 (by decide)) ?_
  refine Jp.y 13 rfl (want_all rfl) rfl rfl Kp.true (Y.indexArrP (q := r) rfl rfl rfl Try.underlying30 Try.sizeOf25 (by omega) (by omega) (by omega)) ?_
  refine Jp.y 14 rfl (want_all rfl) rfl rfl Kp.true (by first | exact Y.loadO 1 rfl Try.isAgg25 rfl rfl rfl | exact Y.loadC 1 rfl Try.isAgg25 rfl rfl (HasC.pt (StP.cX hs (regP_get hs hr hr0)))) ?_
  refine Jp.y 4 rfl (want_all rfl) rfl rfl Kp.true (Y.assign rfl rfl) ?_
  refine Jp.done hK6 ?_
  refine Cd.ret [] rfl (res1 rfl rfl) trivial ⟨rfl, rfl, rfl⟩
def addrP (i : InsP) (s : StP) : Nat := u32 ((regP s i.r1 : Int) + (u32 i.imm : Int))
end Go.Proofs.Ytkjeidoplonkjaa
