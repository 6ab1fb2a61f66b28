import Derived.Test.YtjfgefdcngpplaaZRvE
import Derived.Test.YtjfgefdcngpplaaZEngV2
set_option linter.unusedVariables false
set_option linter.unusedSimpArgs false
set_option maxRecDepth 100000
namespace Go.Proofs.Ytjfgefdcngpplaa
open Go
def insEq (a b : InsP) : Bool := ((a.op : Int) == (b.op : Int)) && (((a.rd : Int) == (b.rd : Int)) && (((a.r1 : Int) == (b.r1 : Int)) && (((a.r2 : Int) == (b.r2 : Int)) && ((a.imm == b.imm) && true))))
def evEq (a b : EvP) : Bool := ((a.kind : Int) == (b.kind : Int)) && (((a.addr : Int) == (b.addr : Int)) && ((a.why == b.why) && true))
theorem evEq_iff (a b : EvP) : evEq a b = true ↔ a = b := by
  obtain ⟨a1, a2, a3⟩ := a
  obtain ⟨b1, b2, b3⟩ := b
  simp [evEq]
  omega
theorem ev_guard : Try.prog.eqGuardType Try.prog.depth 37 = false := by kernel_rfl
theorem ev_stood : Try.prog.stoodInHeld 37 = false := by kernel_rfl
theorem ev_fields : Try.prog.underlying 37 = some (.struct (Try.prog.fieldsOf 37)) := by kernel_rfl
theorem ev_list : (Try.prog.fieldsOf 37).toList = [Field.mk "Kind" 3 0 false "" "" 0, Field.mk "Addr" 23 1 false "" "" 8, Field.mk "Why" 35 2 false "" "" 16] := by kernel_rfl
theorem ev_eq (a b : EvP) (w : World) : (Op.eqFields 9999 a.cells.toArray b.cells.toArray (Try.prog.fieldsOf 37).toList).run Try.prog w = .ok (evEq a b) w := by
  rw [ev_list]
  exact eqFields_int (by decide) (part_int Try.isAgg3 rfl) (part_int Try.isAgg3 rfl) Try.underlying3 (eqFields_int (by decide) (part_int Try.isAgg23 rfl) (part_int Try.isAgg23 rfl) Try.underlying23 (eqFields_int (by decide) (part_int Try.isAgg35 rfl) (part_int Try.isAgg35 rfl) Try.underlying35 rfl))
theorem fresh_spec (b : Nat) (M : MemG) (pc g l d : Nat) (B : Option Addr) (hpc : pc < 4294967296) : Spec Try.prog 11 #[.pointer (some ⟨b, 0, none⟩), .agg (blockC pc B l d g).toArray] (fun _ => True) [(0, MemO b M)]
    (fun ρ ρ' v L => ρ' = ρ ∧ v = .bool (((M.gens (baseN pc) : Nat) : Int) == (g : Int)) ∧ L = [(0, MemO b M)]) := by
  refine Spec.of 12 Try.func11 rfl Try.ntmps11 [(0, _), (1, _)] rfl rfl ?_
  intro cx ρ hr h0
  refine Cd.seq fun K1 hK1 => ?_
  refine Cd.plain [(0, false), (1, false)] rfl rfl ?_
  refine Jp.box 3 3 rfl (want_all rfl) rfl rfl rfl rfl fun b3 => ⟨Kp.true, ?_⟩
  refine Jp.imp (j := 3) rfl (fun h hh => (show Pt b3 (.cells #[Value.int .u32 (pc : Int), Value.slice B l d, Value.int .u32 (g : Int)] 34) h from hh)) ?_
  refine Jp.y 4 rfl (want_all rfl) rfl rfl Kp.true (Y.assign rfl rfl) ?_
  refine Jp.done hK1 ?_
  refine Cd.seq fun K2 hK2 => ?_
  refine Cd.drawn [(3, _)] ⟨rfl, trivial⟩ [(0, true), (1, true), (2, true), (4, true), (5, true), (3, false), (6, true), (7, true)] follows (by kernel_rfl) (fun hrl => ?_)
  refine Jp.q 5 rfl (want_all rfl) rfl rfl (Y.move rfl rfl) ?_
  refine Jp.q 6 rfl (want_all rfl) rfl rfl (by first | exact Y.fieldAddrP rfl rfl Try.underlying34 rfl Try.sizeOf23 (by decide) (show _ + 0 = _ from rfl) | exact Y.fieldAddr rfl rfl Try.underlying34 rfl Try.sizeOf23 (by decide)) ?_
  refine Jp.q 7 rfl (want_all rfl) rfl rfl (Y.loadO 3 rfl Try.isAgg23 rfl rfl rfl) ?_
  refine Jp.q 9 rfl (want_all rfl) rfl rfl (by first | exact Y.fieldAddrP rfl rfl Try.underlying34 rfl Try.sizeOf23 (by decide) (show _ + 2 = _ from rfl) | exact Y.fieldAddr rfl rfl Try.underlying34 rfl Try.sizeOf23 (by decide)) ?_
  refine Jp.q 10 rfl (want_all rfl) rfl rfl (Y.loadO 3 rfl Try.isAgg23 rfl rfl rfl) ?_
  refine Jp.call [0] [0] (gen_spec b M pc hpc) 8 rfl (want_all rfl) rfl rfl (Runs.fn rfl Try.call10 rfl) (by decide) (by decide) rfl trivial ?_
  rintro v1 ρ1 L1 ⟨rfl, rfl, rfl⟩
  refine ⟨rfl, fun hle1 => ⟨(Kp.st ⟨rfl, trivial⟩), ?_⟩⟩
  refine Jp.q 11 rfl (want_all rfl) rfl rfl (Y.eql rfl rfl rfl) ?_
  refine Jp.q 4 rfl (want_all rfl) rfl rfl (Y.assign rfl rfl) ?_
  refine Jp.done hK2 ?_
  refine Cd.ret [(0, _)] rfl (res1 rfl rfl) ⟨rfl, trivial⟩ ⟨rfl, rfl, rfl⟩
end Go.Proofs.Ytjfgefdcngpplaa
