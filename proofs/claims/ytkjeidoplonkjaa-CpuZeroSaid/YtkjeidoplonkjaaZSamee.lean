import Derived.Test.YtkjeidoplonkjaaZMem2e
import Derived.Test.YtkjeidoplonkjaaZCpuS
set_option linter.unusedVariables false
set_option linter.unusedSimpArgs false
set_option maxRecDepth 100000
namespace Go.Proofs.Ytkjeidoplonkjaa
open Go
theorem b256_info : (Try.prog.info? 5).isSome = true := by kernel_rfl
theorem b256_one : Try.prog.cellsOf 5 = 1 := by kernel_rfl
theorem b256_eqd (d : Nat) {a b : Bytes} (ha : a.length = 256) (hb : b.length = 256) (w : World) : (Op.equalIn (d + 2) 114 (.agg (bytesV a).toArray) (.agg (bytesV b).toArray)).run Try.prog w = .ok (decide (a = b)) w := by
  rw [bytesV_int, bytesV_int, equal_arr Try.underlying114 b256_info b256_one Try.isAgg5 Try.underlying5 (by rw [List.length_map]; exact ha) (by rw [List.length_map]; exact hb) w, bytes_dec]
theorem pg_guard : Try.prog.eqGuardType Try.prog.depth 116 = false := by kernel_rfl
theorem pg_stood : Try.prog.stoodInHeld 116 = false := by kernel_rfl
theorem pg_fields : Try.prog.underlying 116 = some (.struct (Try.prog.fieldsOf 116)) := by kernel_rfl
theorem pg_list : (Try.prog.fieldsOf 116).toList = [Field.mk "Base" 25 0 false "" "" 0, Field.mk "Perm" 3 1 false "" "" 8, Field.mk "B" 114 2 false "" "" 16] := by kernel_rfl
theorem pg_cut {x : Nat × Pg} (h : x.2.b.length = 256) : (refPg x).toArray.extract 2 (2 + 256) = (bytesV x.2.b).toArray := by
  rw [List.extract_toArray]
  congr 1
  simp only [refPg, bytesV, List.extract]
  exact List.take_of_length_le (by simp [h])
theorem pg_self {x : Nat × Pg} (h : x.2.b.length = 256) (w : World) : (Op.eqFields 9999 (refPg x).toArray (refPg x).toArray (Try.prog.fieldsOf 116).toList).run Try.prog w = .ok true w := by
  rw [pg_list]
  have h3 : (Op.eqFields 9999 (refPg x).toArray (refPg x).toArray [Field.mk "B" 114 2 false "" "" 16]).run Try.prog w = .ok true w := by
    refine eqFields_any (r1 := true) (r := true) (by decide) (part_agg (m := 256) Try.isAgg114 Try.sizeOf114) (part_agg (m := 256) Try.isAgg114 Try.sizeOf114) ?_ rfl
    show (Op.equalIn 9999 114 (.agg ((refPg x).toArray.extract 2 (2 + 256))) (.agg ((refPg x).toArray.extract 2 (2 + 256)))).run Try.prog w = _
    rw [pg_cut h, b256_eqd 9997 h h w, decide_eq_true rfl]
  have h2 := eqFields_int (P := Try.prog) (d := 9998) (f := Field.mk "Perm" 3 1 false "" "" 8) (a := (x.2.perm : Int)) (b := (x.2.perm : Int)) (k := .i64) (by decide) (part_int (xs := (refPg x).toArray) Try.isAgg3 rfl) (part_int (xs := (refPg x).toArray) Try.isAgg3 rfl) Try.underlying3 h3
  have h1 := eqFields_int (P := Try.prog) (d := 9998) (f := Field.mk "Base" 25 0 false "" "" 0) (a := (x.1 : Int)) (b := (x.1 : Int)) (k := .u32) (by decide) (part_int (xs := (refPg x).toArray) Try.isAgg25 rfl) (part_int (xs := (refPg x).toArray) Try.isAgg25 rfl) Try.underlying25 h2
  simpa using h1
theorem sameMem_spec (b1 b2 : Nat) (l : List (Nat × Pg)) (h1 : ∀ y ∈ l, y.2.b.length = 256) (hl : l.length ≤ 16777217) (B1 B2 : Int) (A1 A2 X1 X2 : Option Addr) (c1 c2 m1 m2 d1 d2 : Nat) :
    Spec Try.prog 20 #[.pointer (some ⟨b1, 0, none⟩), .pointer (some ⟨b2, 0, none⟩)] (fun _ => True)
      [(0, Pt b1 (refObj B1 A1 l.length c1 X1 m1 d1)), (1, OwnS 116 258 A1 l.length c1 (l.flatMap refPg)), (2, Pt b2 (refObj B2 A2 l.length c2 X2 m2 d2)), (3, OwnS 116 258 A2 l.length c2 (l.flatMap refPg))]
    (fun ρ ρ' v L => ρ' = ρ ∧ v = .bool true ∧ L = []) := by
  refine Spec.of 41 Try.func20 rfl Try.ntmps20 [(0, _), (1, _)] rfl rfl ?_
  intro cx ρ hr h0
  have hrow : ∀ y ∈ l, (refPg y).length = 258 := fun y hy => refPg_len (h1 y hy)
  refine Cd.seq fun K1 hK1 => ?_
  refine Cd.plain [(0, false)] rfl rfl ?_
  refine Jp.y 4 rfl (want_all rfl) rfl rfl Kp.true (Y.assign rfl rfl) ?_
  refine Jp.done hK1 ?_
  refine Cd.seq fun K2 hK2 => ?_
  refine Cd.seq fun K3 hK3 => ?_
  refine Cd.drawn [(0, _), (1, _), (2, _), (3, _)] ⟨rfl, rfl, rfl, rfl, trivial⟩ [(0, true), (1, true), (2, true), (3, true), (4, true), (5, true), (6, true), (7, true), (8, true), (9, true), (10, true)] follows (by kernel_rfl) (fun hrl => ?_)
  refine Jp.q 6 rfl (want_all rfl) rfl rfl (Y.move rfl rfl) ?_
  refine Jp.q 7 rfl (want_all rfl) rfl rfl (Y.nilCheck rfl rfl) ?_
  refine Jp.q 8 rfl (want_all rfl) rfl rfl (by first | exact Y.fieldAddrP rfl rfl Try.underlying113 rfl Try.sizeOf110 (by decide) (show _ + 1 = _ from rfl) | exact Y.fieldAddr rfl rfl Try.underlying113 rfl Try.sizeOf110 (by decide)) ?_
  refine Jp.q 9 rfl (want_all rfl) rfl rfl (by first | exact Y.loadO 0 rfl Try.isAgg110 rfl rfl rfl | exact Y.loadO 2 rfl Try.isAgg110 rfl rfl rfl) ?_
  refine Jp.q 10 rfl (want_all rfl) rfl rfl (Y.lenslice rfl Try.underlying110 rfl) ?_
  refine Jp.q 11 rfl (want_all rfl) rfl rfl (Y.move rfl rfl) ?_
  refine Jp.q 12 rfl (want_all rfl) rfl rfl (Y.nilCheck rfl rfl) ?_
  refine Jp.q 13 rfl (want_all rfl) rfl rfl (by first | exact Y.fieldAddrP rfl rfl Try.underlying113 rfl Try.sizeOf110 (by decide) (show _ + 1 = _ from rfl) | exact Y.fieldAddr rfl rfl Try.underlying113 rfl Try.sizeOf110 (by decide)) ?_
  refine Jp.q 14 rfl (want_all rfl) rfl rfl (by first | exact Y.loadO 0 rfl Try.isAgg110 rfl rfl rfl | exact Y.loadO 2 rfl Try.isAgg110 rfl rfl rfl) ?_
  refine Jp.q 15 rfl (want_all rfl) rfl rfl (Y.lenslice rfl Try.underlying110 rfl) ?_
  refine Jp.q 16 rfl (want_all rfl) rfl rfl (Y.neq rfl rfl rfl) ?_
  refine Jp.done hK3 ?_
  refine Cd.cond rfl (fun ga => ?_) (fun ga => ?_)
  · exact absurd ga (by simp)
  · skip
    refine Cd.skip hK2 ?_
    refine Cd.seq fun K5 hK5 => ?_
    refine Cd.seq fun K6 hK6 => ?_
    refine Cd.plain [(0, false)] rfl rfl ?_
    refine Jp.y 5 rfl (want_all rfl) rfl rfl Kp.true (Y.assign rfl rfl) ?_
    refine Jp.done hK6 ?_
    refine Cd.block ?_
    refine Cd.loopK (G := Nat) (fun g => g ≤ l.length) (fun g => l.length - g) (fun _ => _) (fun g => [(5, .int .i64 (g : Int))]) [(0, _), (1, _)] (fun _ => []) [(0, _), (1, _), (2, _), (3, _)] 0 (Nat.zero_le _) rfl ⟨rfl, trivial⟩ ⟨rfl, rfl, trivial⟩ trivial ⟨rfl, rfl, rfl, rfl, trivial⟩ (fun g KLa hok hLa => ?_)
    obtain ⟨i, hi⟩ : ∃ i, i = g := ⟨_, rfl⟩
    rw [← hi] at hok ⊢
    refine Cd.seq fun K7 hK7 => ?_
    refine Cd.seq fun K8 hK8 => ?_
    refine Cd.plain [(0, false), (1, false), (2, false), (3, false), (4, false), (5, false), (6, false)] rfl rfl ?_
    refine Jp.y 17 rfl (want_all rfl) rfl rfl Kp.true (Y.move rfl rfl) ?_
    refine Jp.y 18 rfl (want_all rfl) rfl rfl Kp.true (Y.move rfl rfl) ?_
    refine Jp.y 19 rfl (want_all rfl) rfl rfl Kp.true (Y.nilCheck rfl rfl) ?_
    refine Jp.y 20 rfl (want_all rfl) rfl rfl Kp.true (by first | exact Y.fieldAddrP rfl rfl Try.underlying113 rfl Try.sizeOf110 (by decide) (show _ + 1 = _ from rfl) | exact Y.fieldAddr rfl rfl Try.underlying113 rfl Try.sizeOf110 (by decide)) ?_
    refine Jp.y 21 rfl (want_all rfl) rfl rfl Kp.true (by first | exact Y.loadO 0 rfl Try.isAgg110 rfl rfl rfl | exact Y.loadO 2 rfl Try.isAgg110 rfl rfl rfl) ?_
    refine Jp.y 22 rfl (want_all rfl) rfl rfl Kp.true (Y.lenslice rfl Try.underlying110 rfl) ?_
    refine Jp.y 23 rfl (want_all rfl) rfl rfl Kp.true (Y.lss rfl rfl rfl) ?_
    refine Jp.done hK8 ?_
    refine Cd.cond rfl (fun gb => ?_) (fun gb => ?_)
    · have hin : i < l.length := by simp at gb; omega
      have hx : l[i]? = some l[i] := List.getElem?_eq_getElem hin
      obtain ⟨x, hxe⟩ : ∃ x, x = l[i] := ⟨_, rfl⟩
      rw [← hxe] at hx
      have hxl := h1 x (List.mem_of_getElem? hx)
      refine Cd.ownAt 1 rfl (show 0 < l.length by omega) ?_
      rintro p1 rfl
      refine Cd.ownAt 3 rfl (show 0 < l.length by omega) ?_
      rintro p2 rfl
      have hget : ∀ j v, (refPg x)[j]? = some v → (l.flatMap refPg)[i * 258 + j]? = some v := fun j v hv => rs_get hrow hx hv
      refine Cd.skip hK7 ?_
      refine Cd.seq fun K9 hK9 => ?_
      refine Cd.block ?_
      refine Cd.seq fun K10 hK10 => ?_
      refine Cd.drawn [(0, _), (1, _), (2, _), (3, _)] ⟨rfl, rfl, rfl, rfl, trivial⟩ [(0, true), (1, true), (2, true), (3, true), (4, true), (5, true), (6, true), (7, true), (8, true), (9, true), (10, true), (11, true), (12, true), (13, true), (14, true)] follows (by kernel_rfl) (fun hrl => ?_)
      refine Jp.q 26 rfl (want_all rfl) rfl rfl (Y.move rfl rfl) ?_
      refine Jp.q 27 rfl (want_all rfl) rfl rfl (Y.nilCheck rfl rfl) ?_
      refine Jp.q 28 rfl (want_all rfl) rfl rfl (by first | exact Y.fieldAddrP rfl rfl Try.underlying113 rfl Try.sizeOf110 (by decide) (show _ + 1 = _ from rfl) | exact Y.fieldAddr rfl rfl Try.underlying113 rfl Try.sizeOf110 (by decide)) ?_
      refine Jp.q 29 rfl (want_all rfl) rfl rfl (by first | exact Y.loadO 0 rfl Try.isAgg110 rfl rfl rfl | exact Y.loadO 2 rfl Try.isAgg110 rfl rfl rfl) ?_
      refine Jp.q 30 rfl (want_all rfl) rfl rfl (Y.move rfl rfl) ?_
      refine Jp.q 31 rfl (want_all rfl) rfl rfl (Y.indexAddr (q := i * 258) rfl rfl rfl Try.underlying110 Try.sizeOf116 (by omega) (by omega) (by omega)) ?_
      refine Jp.q 32 rfl (want_all rfl) rfl rfl (Y.loadSAgg 1 (q := i * 258) (refPg x) rfl Try.isAgg116 Try.sizeOf116 rfl rfl rfl (refPg_len hxl) hget) ?_
      refine Jp.q 33 rfl (want_all rfl) rfl rfl (Y.move rfl rfl) ?_
      refine Jp.q 34 rfl (want_all rfl) rfl rfl (Y.nilCheck rfl rfl) ?_
      refine Jp.q 35 rfl (want_all rfl) rfl rfl (by first | exact Y.fieldAddrP rfl rfl Try.underlying113 rfl Try.sizeOf110 (by decide) (show _ + 1 = _ from rfl) | exact Y.fieldAddr rfl rfl Try.underlying113 rfl Try.sizeOf110 (by decide)) ?_
      refine Jp.q 36 rfl (want_all rfl) rfl rfl (by first | exact Y.loadO 0 rfl Try.isAgg110 rfl rfl rfl | exact Y.loadO 2 rfl Try.isAgg110 rfl rfl rfl) ?_
      refine Jp.q 37 rfl (want_all rfl) rfl rfl (Y.move rfl rfl) ?_
      refine Jp.q 38 rfl (want_all rfl) rfl rfl (Y.indexAddr (q := i * 258) rfl rfl rfl Try.underlying110 Try.sizeOf116 (by omega) (by omega) (by omega)) ?_
      refine Jp.q 39 rfl (want_all rfl) rfl rfl (Y.loadSAgg 3 (q := i * 258) (refPg x) rfl Try.isAgg116 Try.sizeOf116 rfl rfl rfl (refPg_len hxl) hget) ?_
      refine Jp.q 40 rfl (want_all rfl) rfl rfl (Y.neqS (xs := (refPg x).toArray) (ys := (refPg x).toArray) (r := true) rfl rfl rfl pg_guard pg_fields pg_stood (fun w => pg_self hxl w)) ?_
      refine Jp.done hK10 ?_
      refine Cd.cond rfl (fun gc => ?_) (fun gc => ?_)
      · exact absurd gc (by simp)
      · skip
        refine Cd.over rfl hK9 ?_
        refine Cd.plain [(0, false), (1, false), (2, false)] rfl rfl ?_
        refine Jp.y 24 rfl (want_all rfl) rfl rfl Kp.true (Y.move rfl rfl) ?_
        refine Jp.y 25 rfl (want_all rfl) rfl rfl Kp.true (Y.add_ rfl rfl rfl (by first | exact wrap_i64 (by omega) (by omega) | rfl)) ?_
        refine Jp.y 5 rfl (want_all rfl) rfl rfl Kp.true (Y.assign rfl rfl) ?_
        rw [show (i : Int) + 1 = ((i + 1 : Nat) : Int) by omega]
        refine Jp.again hLa (i + 1) hin (by omega) rfl ⟨rfl, rfl, rfl, trivial⟩ ⟨rfl, rfl, rfl, rfl, trivial⟩
    · skip
      refine Cd.exit rfl hK5 ?_
      refine Cd.seq fun K12 hK12 => ?_
      refine Cd.plain [(0, false)] rfl rfl ?_
      refine Jp.y 4 rfl (want_all rfl) rfl rfl Kp.true (Y.assign rfl rfl) ?_
      refine Jp.done hK12 ?_
      refine Cd.ret [] rfl (res1 rfl rfl) trivial ⟨rfl, rfl, rfl⟩
end Go.Proofs.Ytkjeidoplonkjaa
