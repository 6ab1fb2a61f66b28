import Derived.Test.YtgmhijlcdadaeaaZRefI
import Derived.Test.YtgmhijlcdadaeaaZMemGa
import Derived.Test.YtgmhijlcdadaeaaZIterX2
import Derived.Test.YtgmhijlcdadaeaaZShP
set_option linter.unusedVariables false
set_option linter.unusedSimpArgs false
set_option maxRecDepth 100000
namespace Go.Proofs.Ytgmhijlcdadaeaa
open Go
structure ActM where
  op : Int
  a : Nat
  n : Nat
  p : Int
  size : Int
  b : Sl UInt8
def ActM.cells (x : ActM) : List Value := [.int .i64 x.op, .int .u32 (x.a : Int), .int .u32 (x.n : Int), .int .i64 x.p, .int .i64 x.size, x.b.v]
structure ActM.Rd (x : ActM) (h : Hp) : Prop where
  op : (Lit.int .i64 x.op).wf = true
  a : x.a < 4294967296
  n : x.n < 4294967296
  p : (Lit.int .i64 x.p).wf = true
  size : (Lit.int .i64 x.size).wf = true
  b : RdB x.b h
theorem ActM.up (x : ActM) : Up x.Rd := fun h k l r => ⟨r.op, r.a, r.n, r.p, r.size, RdB.up _ h k l r.b⟩
theorem ActM.len (x : ActM) : x.cells.length = 6 := rfl
def RdActMs (s : Sl ActM) : HProp := RdRows 6 ActM.cells ActM.Rd s
theorem RdActMs.up (s : Sl ActM) : Up (RdActMs s) := RdRows.up ActM.up s
theorem new_no (budget : Int) (h : budget < 1 ∨ 4096 < budget) : Spec Try.prog 45 #[.int .i64 budget] (fun _ => True) [] (fun ρ ρ' v L => ρ' = ρ ∧ v = .tuple #[.pointer none, .int .i64 1] ∧ L = []) :=
  (new_spec budget).mono (fun _ h => h) fun ρ ρ' v l hp => by
    obtain ⟨h1, h2⟩ := hp
    rw [if_neg (by omega)] at h2
    exact ⟨h1, h2⟩
theorem memPlays_spec (m : Int) (l : Sl ActM) (hm1 : -9223372036854775808 ≤ m) (hm2 : m ≤ 9223372036854775807) : Spec Try.prog 14 #[.int .i64 m, l.v] (RdActMs l) [] (fun ρ ρ' v L => v = .bool true ∧ L = []) := by
  obtain ⟨A, c, xs⟩ := l
  dsimp only [Sl.v]
  refine Spec.of 292 Try.func14 rfl Try.ntmps14 [(0, _), (1, _)] rfl rfl ?_
  intro cx ρ hr h0
  have hrs := hr
  have lx : xs.length ≤ 281474976710656 := hrs.1.2.1.2
  refine Cd.seq fun K1 hK1 => ?_
  refine Cd.plain [(0, false)] rfl rfl ?_
  refine Jp.y 4 rfl (want_all rfl) rfl rfl Kp.true (Y.assign rfl rfl) ?_
  refine Jp.done hK1 ?_
  refine Cd.seq fun K2 hK2 => ?_
  refine Cd.seq fun K3 hK3 => ?_
  refine Cd.plain [(0, false), (1, false)] rfl rfl ?_
  refine Jp.call [] [] awake3_spec 23 rfl (want_all rfl) rfl rfl (Runs.fn rfl Try.call44 rfl) (by decide) (by decide) rfl trivial ?_
  rintro v1 ρ1 L1 ⟨rfl, rfl⟩
  refine ⟨rfl, fun hle1 => ⟨Kp.true, ?_⟩⟩
  have hrs := RdActMs.up _ _ _ hle1 hrs
  refine Jp.y 24 rfl (want_all rfl) rfl rfl Kp.true (Y.not rfl rfl) ?_
  refine Jp.done hK3 ?_
  refine Cd.cond rfl (fun g24 => ?_) (fun g24 => ?_)
  · skip
    exact absurd g24 (by simp)
  try simp only [decide_eq_false_iff_not, decide_eq_true_eq, Int.not_lt, Int.not_le, Bool.not_eq_false, Bool.not_eq_true, Bool.not_true, Bool.not_false, Bool.not_eq_true', Bool.not_eq_false', beq_eq_false_iff_ne, ne_eq, beq_iff_eq, bne_iff_ne, bne_eq_false_iff_eq, Classical.not_not] at g24
  refine Cd.skip hK2 ?_
  refine Cd.seq fun K4 hK4 => ?_
  refine Cd.plain [(0, false), (1, false), (2, false), (3, false), (4, false), (5, false), (6, false)] rfl rfl ?_
  refine Jp.y 26 rfl (want_all rfl) rfl rfl Kp.true (Y.move rfl rfl) ?_
  by_cases hbad : m < 1 ∨ 4096 < m
  · skip
    refine Jp.call [] [] (new_no m hbad) 27 rfl (want_all rfl) rfl rfl (Runs.fn rfl Try.call45 rfl) (by decide) (by decide) rfl trivial ?_
    rintro v2 ρ2 L2 ⟨rfl, rfl, rfl⟩
    refine ⟨rfl, fun hle2 => ⟨Kp.true, ?_⟩⟩
    refine Jp.y 25 rfl (want_all rfl) rfl rfl Kp.true (Y.move rfl rfl) ?_
    refine Jp.y 28 rfl (want_all rfl) rfl rfl Kp.true (Y.extract rfl rfl rfl) ?_
    refine Jp.y 29 rfl (want_all rfl) rfl rfl Kp.true (Y.extract rfl rfl rfl) ?_
    refine Jp.y 5 rfl (want_all rfl) rfl rfl Kp.true (Y.assign rfl rfl) ?_
    refine Jp.y 6 rfl (want_all rfl) rfl rfl Kp.true (Y.assign rfl rfl) ?_
    refine Jp.done hK4 ?_
    refine Cd.seq fun K5 hK5 => ?_
    refine Cd.seq fun K6 hK6 => ?_
    refine Cd.plain [(0, false), (1, false), (2, false), (3, false), (4, false), (5, false)] rfl rfl ?_
    refine Jp.y 30 rfl (want_all rfl) rfl rfl Kp.true (Y.move rfl rfl) ?_
    refine Jp.y 31 rfl (want_all rfl) rfl rfl Kp.true (Y.lss rfl rfl rfl) ?_
    by_cases hneg : m < 1
    · skip
      refine Jp.slot 31 rfl (show _ = Value.bool true from congrArg Value.bool (decide_eq_true hneg)) ?_
      refine Jp.y 32 rfl (want_all rfl) rfl rfl Kp.true (Y.move rfl rfl) ?_
      refine Jp.slot 32 rfl (show _ = Value.bool true from rfl) ?_
      refine Jp.skip 33 rfl (want_as rfl rfl rfl rfl) rfl rfl Kp.true ?_
      refine Jp.skip 34 rfl (want_as rfl rfl rfl rfl) rfl rfl Kp.true ?_
      refine Jp.y 35 rfl (want_all rfl) rfl rfl Kp.true (Y.pickT rfl rfl rfl) ?_
      refine Jp.done hK6 ?_
      refine Cd.condT rfl ?_
      refine Cd.seq fun K7 hK7 => ?_
      refine Cd.plain [(0, false), (1, false), (2, false), (3, false), (4, false), (5, false), (6, false)] rfl rfl ?_
      refine Jp.y 36 rfl (want_all rfl) rfl rfl Kp.true (Y.move rfl rfl) ?_
      refine Jp.y 37 rfl (want_all rfl) rfl rfl Kp.true (Y.eql rfl rfl rfl) ?_
      refine Jp.slot 37 rfl (show _ = Value.bool true by rfl) ?_
      refine Jp.y 38 rfl (want_all rfl) rfl rfl Kp.true (Y.move rfl rfl) ?_
      refine Jp.slot 38 rfl (show _ = Value.bool true from rfl) ?_
      refine Jp.y 39 rfl (want_as rfl rfl rfl rfl) rfl rfl Kp.true (Y.move rfl rfl) ?_
      refine Jp.y 40 rfl (want_as rfl rfl rfl rfl) rfl rfl Kp.true (Y.ptrNil rfl Try.underlying23 rfl rfl) ?_
      refine Jp.y 41 rfl (want_all rfl) rfl rfl Kp.true (Y.pickT rfl rfl rfl) ?_
      refine Jp.y 4 rfl (want_all rfl) rfl rfl Kp.true (Y.assign rfl rfl) ?_
      refine Jp.done hK7 ?_
      refine Cd.ret [] rfl (res1 rfl rfl) trivial ⟨rfl, rfl⟩
    · skip
      refine Jp.slot 31 rfl (show _ = Value.bool false from congrArg Value.bool (decide_eq_false hneg)) ?_
      refine Jp.y 32 rfl (want_all rfl) rfl rfl Kp.true (Y.move rfl rfl) ?_
      refine Jp.slot 32 rfl (show _ = Value.bool false from rfl) ?_
      refine Jp.y 33 rfl (want_as rfl rfl rfl rfl) rfl rfl Kp.true (Y.move rfl rfl) ?_
      refine Jp.y 34 rfl (want_as rfl rfl rfl rfl) rfl rfl Kp.true (Y.gtr rfl rfl rfl) ?_
      refine Jp.slot 34 rfl (show _ = Value.bool true from congrArg Value.bool (decide_eq_true (by omega))) ?_
      refine Jp.y 35 rfl (want_all rfl) rfl rfl Kp.true (Y.pickF rfl rfl rfl) ?_
      refine Jp.done hK6 ?_
      refine Cd.condT rfl ?_
      refine Cd.seq fun K8 hK8 => ?_
      refine Cd.plain [(0, false), (1, false), (2, false), (3, false), (4, false), (5, false), (6, false)] rfl rfl ?_
      refine Jp.y 36 rfl (want_all rfl) rfl rfl Kp.true (Y.move rfl rfl) ?_
      refine Jp.y 37 rfl (want_all rfl) rfl rfl Kp.true (Y.eql rfl rfl rfl) ?_
      refine Jp.slot 37 rfl (show _ = Value.bool true by rfl) ?_
      refine Jp.y 38 rfl (want_all rfl) rfl rfl Kp.true (Y.move rfl rfl) ?_
      refine Jp.slot 38 rfl (show _ = Value.bool true from rfl) ?_
      refine Jp.y 39 rfl (want_as rfl rfl rfl rfl) rfl rfl Kp.true (Y.move rfl rfl) ?_
      refine Jp.y 40 rfl (want_as rfl rfl rfl rfl) rfl rfl Kp.true (Y.ptrNil rfl Try.underlying23 rfl rfl) ?_
      refine Jp.y 41 rfl (want_all rfl) rfl rfl Kp.true (Y.pickT rfl rfl rfl) ?_
      refine Jp.y 4 rfl (want_all rfl) rfl rfl Kp.true (Y.assign rfl rfl) ?_
      refine Jp.done hK8 ?_
      refine Cd.ret [] rfl (res1 rfl rfl) trivial ⟨rfl, rfl⟩
  · obtain ⟨m, rfl⟩ := Int.eq_ofNat_of_zero_le (show 0 ≤ m by omega)
    refine Jp.call [] [1] (new_yes m (by omega)) 27 rfl (want_all rfl) rfl rfl (Runs.fn rfl Try.call45 rfl) (by decide) (by decide) rfl trivial ?_
    rintro v2 ρ2 L2 ⟨rfl, bs0, rfl, rfl⟩
    refine ⟨rfl, fun hle2 => ⟨Kp.true, ?_⟩⟩
    refine Jp.y 25 rfl (want_all rfl) rfl rfl Kp.true (Y.move rfl rfl) ?_
    refine Jp.y 28 rfl (want_all rfl) rfl rfl Kp.true (Y.extract rfl rfl rfl) ?_
    refine Jp.y 29 rfl (want_all rfl) rfl rfl Kp.true (Y.extract rfl rfl rfl) ?_
    refine Jp.y 5 rfl (want_all rfl) rfl rfl Kp.true (Y.assign rfl rfl) ?_
    refine Jp.y 6 rfl (want_all rfl) rfl rfl Kp.true (Y.assign rfl rfl) ?_
    refine Jp.done hK4 ?_
    refine Cd.seq fun K9 hK9 => ?_
    refine Cd.seq fun K10 hK10 => ?_
    refine Cd.plain [(0, false), (1, false), (2, false), (3, false), (4, false), (5, false)] rfl rfl ?_
    refine Jp.y 30 rfl (want_all rfl) rfl rfl Kp.true (Y.move rfl rfl) ?_
    refine Jp.y 31 rfl (want_all rfl) rfl rfl Kp.true (Y.lss rfl rfl rfl) ?_
    refine Jp.slot 31 rfl (show _ = Value.bool false from congrArg Value.bool (decide_eq_false (by omega))) ?_
    refine Jp.y 32 rfl (want_all rfl) rfl rfl Kp.true (Y.move rfl rfl) ?_
    refine Jp.slot 32 rfl (show _ = Value.bool false from rfl) ?_
    refine Jp.y 33 rfl (want_as rfl rfl rfl rfl) rfl rfl Kp.true (Y.move rfl rfl) ?_
    refine Jp.y 34 rfl (want_as rfl rfl rfl rfl) rfl rfl Kp.true (Y.gtr rfl rfl rfl) ?_
    refine Jp.slot 34 rfl (show _ = Value.bool false from congrArg Value.bool (decide_eq_false (by omega))) ?_
    refine Jp.y 35 rfl (want_all rfl) rfl rfl Kp.true (Y.pickF rfl rfl rfl) ?_
    refine Jp.done hK10 ?_
    refine Cd.condF rfl ?_
    refine Cd.skip hK9 ?_
    refine Cd.seq fun K11 hK11 => ?_
    refine Cd.seq fun K12 hK12 => ?_
    refine Cd.plain [(0, false), (1, false), (2, false), (3, false), (4, false), (5, false), (6, false)] rfl rfl ?_
    refine Jp.y 42 rfl (want_all rfl) rfl rfl Kp.true (Y.move rfl rfl) ?_
    refine Jp.y 43 rfl (want_all rfl) rfl rfl Kp.true (Y.neq rfl rfl rfl) ?_
    refine Jp.slot 43 rfl (show _ = Value.bool false from rfl) ?_
    refine Jp.y 44 rfl (want_all rfl) rfl rfl Kp.true (Y.move rfl rfl) ?_
    refine Jp.slot 44 rfl (show _ = Value.bool false from rfl) ?_
    refine Jp.y 45 rfl (want_as rfl rfl rfl rfl) rfl rfl Kp.true (Y.move rfl rfl) ?_
    refine Jp.y 46 rfl (want_as rfl rfl rfl rfl) rfl rfl Kp.true (Y.lenslice rfl Try.underlying82 rfl) ?_
    refine Jp.y 47 rfl (want_as rfl rfl rfl rfl) rfl rfl Kp.true (Y.gtr rfl rfl rfl) ?_
    refine Jp.y 48 rfl (want_all rfl) rfl rfl Kp.true (Y.pickF rfl rfl rfl) ?_
    refine Jp.done hK12 ?_
    refine Cd.cond rfl (fun g48 => ?_) (fun g48 => ?_)
    · skip
      refine Cd.seq fun K13 hK13 => ?_
      refine Cd.plain [(0, false), (1, false), (2, false)] rfl rfl ?_
      refine Jp.y 49 rfl (want_all rfl) rfl rfl Kp.true (Y.move rfl rfl) ?_
      refine Jp.y 50 rfl (want_all rfl) rfl rfl Kp.true (Y.eql rfl rfl rfl) ?_
      refine Jp.y 4 rfl (want_all rfl) rfl rfl Kp.true (Y.assign rfl rfl) ?_
      refine Jp.done hK13 ?_
      refine Cd.ret [] rfl (res1 rfl rfl) trivial ⟨rfl, rfl⟩
    try simp only [decide_eq_false_iff_not, decide_eq_true_eq, Int.not_lt, Int.not_le, Bool.not_eq_false, Bool.not_eq_true, Bool.not_true, Bool.not_false, Bool.not_eq_true', Bool.not_eq_false', beq_eq_false_iff_ne, ne_eq, beq_iff_eq, bne_iff_ne, bne_eq_false_iff_eq, Classical.not_not] at g48
    refine Cd.skip hK11 ?_
    refine Cd.seq fun K14 hK14 => ?_
    refine Cd.plain [(0, false), (1, false), (2, false), (3, false)] rfl rfl ?_
    refine Jp.y 51 rfl (want_all rfl) rfl rfl Kp.true (Y.move rfl rfl) ?_
    refine Jp.y 52 rfl (want_all rfl) rfl rfl Kp.true (Y.struct [(0, _)] [_, _, _] rfl rfl places88 Try.zeroValue88 rfl) ?_
    refine Jp.box 2 53 rfl (want_all rfl) rfl rfl rfl rfl fun b2 => ⟨Kp.true, ?_⟩
    refine Jp.y 7 rfl (want_all rfl) rfl rfl Kp.true (Y.assign rfl rfl) ?_
    refine Jp.done hK14 ?_
    refine Cd.seq fun K15 hK15 => ?_
    refine Cd.seq fun K16 hK16 => ?_
    refine Cd.plain [(0, false)] rfl rfl ?_
    refine Jp.y 8 rfl (want_all rfl) rfl rfl Kp.true (Y.assign rfl rfl) ?_
    refine Jp.done hK16 ?_
    refine Cd.block ?_
    refine Cd.know (A := MemO bs0 (newM m)) 1 rfl MemO.ok fun hmem0 => ?_
    refine Cd.make 3 (A := OwnS 108 258 none 0 0 []) (OwnS.nil _ _ _) ?_
    refine Cd.make 4 (A := OwnS 159 2 none 0 0 []) (OwnS.nil _ _ _) ?_
    refine Cd.refClose (b := b2) (M := newM m) (A := none) (c := 0) (B := none) (d' := 0) (g := []) 2 3 4 (by decide) ⟨hmem0, ⟨fun _ => rfl, List.nodup_nil, fun y h => (List.not_mem_nil h).elim⟩⟩ rfl rfl rfl ?_
    refine Cd.loopK (G := Nat × MemG × Nat × Hp) (fun g => g.1 ≤ xs.length ∧ RdActMs ⟨A, c, xs⟩ g.2.2.2 ∧ ρ2.le g.2.2.2) (fun g => xs.length - g.1) (fun g => g.2.2.2) (fun g => [(5, .pointer (some ⟨g.2.2.1, 0, none⟩)), (8, .int .i64 (g.1 : Int))]) [(1, _), (7, _)] (fun g => [(1, MemO g.2.2.1 g.2.1), (2, RefO b2 g.2.1)]) [] ⟨0, newM m, bs0, _⟩ ⟨Nat.zero_le _, hrs, Hp.le_refl _⟩ rfl ⟨rfl, rfl, trivial⟩ ⟨rfl, rfl, trivial⟩ ⟨rfl, rfl, trivial⟩ trivial (fun g KLa hok hLa => ?_)
    obtain ⟨i, M, bS, ρg⟩ := g
    obtain ⟨ok1, hrs, hle⟩ := hok
    dsimp only at ok1 hrs hle ⊢
    refine Cd.seq fun K17 hK17 => ?_
    refine Cd.seq fun K18 hK18 => ?_
    refine Cd.plain [(0, false), (1, false), (2, false), (3, false)] rfl rfl ?_
    refine Jp.y 54 rfl (want_all rfl) rfl rfl Kp.true (Y.move rfl rfl) ?_
    refine Jp.y 55 rfl (want_all rfl) rfl rfl Kp.true (Y.move rfl rfl) ?_
    refine Jp.y 56 rfl (want_all rfl) rfl rfl Kp.true (Y.lenslice rfl Try.underlying82 rfl) ?_
    refine Jp.y 57 rfl (want_all rfl) rfl rfl Kp.true (Y.lss rfl rfl rfl) ?_
    refine Jp.done hK18 ?_
    refine Cd.cond rfl (fun ga => ?_) (fun ga => ?_)
    · have hi : i < xs.length := by simp at ga; omega
      have hx : xs[i]? = some xs[i] := List.getElem?_eq_getElem hi
      obtain ⟨x, hxe⟩ : ∃ x, x = xs[i] := ⟨_, rfl⟩
      rw [← hxe] at hx
      obtain ⟨ad, hA, hcx, hrx⟩ := hrs.atM (fun x _ => x.len) (by decide) hx
      have hA : A = some ad := hA
      subst hA
      have hal := hrx.a
      have hnl := hrx.n
      have hrb : RdB x.b ρg := hrx.b
      have hbl : x.b.xs.length ≤ 281474976710656 := hrb.2.1.2
      have hone : x.cells.all one = true := by unfold ActM.cells; simp [one, Sl.v]
      have hle0 : Hp.le cx.r0 ρg := by rw [h0]; exact Hp.le_trans (Hp.le_trans hle1 hle2) hle
      refine Cd.skip hK17 ?_
      refine Cd.seq fun K19 hK19 => ?_
      refine Cd.block ?_
      refine Cd.seq fun K20 hK20 => ?_
      refine Cd.plain [(0, false), (1, false), (2, false), (3, false), (4, false), (5, false)] rfl rfl ?_
      refine Jp.y 60 rfl (want_all rfl) rfl rfl Kp.true (Y.move rfl rfl) ?_
      refine Jp.y 61 rfl (want_all rfl) rfl rfl Kp.true (Y.move rfl rfl) ?_
      refine Jp.y 62 rfl (want_all rfl) rfl rfl Kp.true (Y.indexAddr (q := i * 6) rfl rfl rfl Try.underlying82 Try.sizeOf90 (by omega) (by omega) (by omega)) ?_
      refine Jp.y 63 rfl (want_all rfl) rfl rfl Kp.true (Y.loadAggR x.cells rfl Try.isAgg90 Try.sizeOf90 rfl x.len hcx) ?_
      refine Jp.alloc 9 9 rfl (want_all rfl) rfl rfl rfl Try.zeroValue90 fun b9 => ⟨Kp.true, ?_⟩
      refine Jp.storeAgg 9 rfl (want_all rfl) rfl rfl Try.sizeOf90 rfl rfl hone x.len rfl rfl (fun k _ _ => noFr0 k) Kp.true ?_
      refine Jp.imp (j := 9) (A := Pt b9 (.cells (spl (ActM.mk 0 0 0 0 0 ⟨none, 0, []⟩).cells.toArray 0 x.cells) 90)) (A' := Pt b9 (.cells x.cells.toArray 90)) rfl (fun h hh => by rw [shSpl_full (by rw [x.len]; rfl)] at hh; exact hh) ?_
      refine Jp.done hK20 ?_
      refine Cd.seq fun K21 hK21 => ?_
      refine Cd.seq fun K22 hK22 => ?_
      refine Cd.plain [(0, false), (1, false), (2, false), (3, false), (4, false), (5, false), (6, false), (7, false), (8, false), (9, false), (10, false), (11, false), (12, false), (13, false)] rfl rfl ?_
      refine Jp.joinK (φ := x.b.xs.length ≤ 600) hK21 [(1, _), (5, _), (7, _), (8, _), (9, _)] ⟨rfl, rfl, rfl, rfl, rfl, trivial⟩ [(1, _), (2, _), (9, _)] ⟨rfl, rfl, rfl, trivial⟩ (fun hφ => ?_) (fun hj1 => ?_)
      · have hb6 := hφ
        refine Cd.seq fun K23 hK23 => ?_
        refine Cd.plain [(0, false)] rfl rfl ?_
        refine Jp.y 10 rfl (want_all rfl) rfl rfl Kp.true (Y.assign rfl rfl) ?_
        refine Jp.done hK23 ?_
        refine Cd.seq fun K24 hK24 => ?_
        refine Cd.seq fun K25 hK25 => ?_
        refine Cd.plain [(0, false), (1, false)] rfl rfl ?_
        refine Jp.y 78 rfl (want_all rfl) rfl rfl Kp.true (by first | exact Y.fieldAddrP rfl rfl Try.underlying90 rfl Try.sizeOf3 (by decide) (show _ + 0 = _ from rfl) | exact Y.fieldAddr rfl rfl Try.underlying90 rfl Try.sizeOf3 (by decide)) ?_
        refine Jp.y 79 rfl (want_all rfl) rfl rfl Kp.true (Y.loadO 9 rfl Try.isAgg3 rfl rfl rfl) ?_
        refine Jp.done hK25 ?_
        refine Cd.block ?_
        refine Cd.seq fun K26 hK26 => ?_
        refine Cd.plain [(0, false), (1, false)] rfl rfl ?_
        refine Jp.y 83 rfl (want_all rfl) rfl rfl Kp.true (Y.eql rfl rfl rfl) ?_
        refine Jp.y 82 rfl (want_all rfl) rfl rfl Kp.true (Y.assign rfl rfl) ?_
        refine Jp.done hK26 ?_
        refine Cd.joinG (G := MemG × Nat) (fun _ => True) (fun z => [(5, .pointer (some ⟨z.2, 0, none⟩)), (10, .bool true)]) [(1, _), (7, _), (8, _), (9, _)] ⟨rfl, rfl, rfl, rfl, trivial⟩ (fun z => [(1, MemO z.2 z.1), (2, RefO b2 z.1)]) [(9, _)] ⟨rfl, trivial⟩ hK24 (fun g hφ => ?_) (fun hj2 => ?_)
        · clear hφ
          obtain ⟨M, bS⟩ := g
          dsimp only
          refine Cd.seq fun K27 hK27 => ?_
          refine Cd.plain [(0, false), (1, false), (2, false), (3, false), (4, false), (5, false), (6, false), (7, false), (8, false)] rfl rfl ?_
          refine Jp.y 247 rfl (want_all rfl) rfl rfl Kp.true (Y.move rfl rfl) ?_
          refine Jp.y 248 rfl (want_all rfl) rfl rfl Kp.true (by first | exact Y.fieldAddrP rfl rfl Try.underlying90 rfl Try.sizeOf25 (by decide) (show _ + 1 = _ from rfl) | exact Y.fieldAddr rfl rfl Try.underlying90 rfl Try.sizeOf25 (by decide)) ?_
          refine Jp.y 249 rfl (want_all rfl) rfl rfl Kp.true (Y.loadO 9 rfl Try.isAgg25 rfl rfl rfl) ?_
          refine Jp.call [1] [1] (perm_spec bS M x.a hal) 250 rfl (want_all rfl) rfl rfl (Runs.fn rfl Try.call62 rfl) (by decide) (by decide) rfl trivial ?_
          rintro v20 ρ20 L20 ⟨rfl, rfl, rfl⟩
          refine ⟨rfl, fun hle20 => ⟨Kp.true, ?_⟩⟩
          refine Jp.y 246 rfl (want_all rfl) rfl rfl Kp.true (Y.move rfl rfl) ?_
          refine Jp.y 251 rfl (want_all rfl) rfl rfl Kp.true (Y.extract rfl rfl rfl) ?_
          refine Jp.y 252 rfl (want_all rfl) rfl rfl Kp.true (Y.extract rfl rfl rfl) ?_
          refine Jp.y 19 rfl (want_all rfl) rfl rfl Kp.true (Y.assign rfl rfl) ?_
          refine Jp.y 20 rfl (want_all rfl) rfl rfl Kp.true (Y.assign rfl rfl) ?_
          refine Jp.done hK27 ?_
          refine Cd.seq fun K28 hK28 => ?_
          refine Cd.plain [(0, false), (1, false), (2, false), (3, false), (4, false), (5, false), (6, false), (7, false), (8, false)] rfl rfl ?_
          refine Jp.y 254 rfl (want_all rfl) rfl rfl Kp.true (Y.move rfl rfl) ?_
          refine Jp.y 255 rfl (want_all rfl) rfl rfl Kp.true (by first | exact Y.fieldAddrP rfl rfl Try.underlying90 rfl Try.sizeOf25 (by decide) (show _ + 1 = _ from rfl) | exact Y.fieldAddr rfl rfl Try.underlying90 rfl Try.sizeOf25 (by decide)) ?_
          refine Jp.y 256 rfl (want_all rfl) rfl rfl Kp.true (Y.loadO 9 rfl Try.isAgg25 rfl rfl rfl) ?_
          refine Jp.call [2] [2] (refPerm_spec b2 M x.a hal) 257 rfl (want_all rfl) rfl rfl (Runs.fn rfl Try.call63 rfl) (by decide) (by decide) rfl trivial ?_
          rintro v21 ρ21 L21 ⟨rfl, rfl, rfl⟩
          refine ⟨rfl, fun hle21 => ⟨Kp.true, ?_⟩⟩
          refine Jp.y 253 rfl (want_all rfl) rfl rfl Kp.true (Y.move rfl rfl) ?_
          refine Jp.y 258 rfl (want_all rfl) rfl rfl Kp.true (Y.extract rfl rfl rfl) ?_
          refine Jp.y 259 rfl (want_all rfl) rfl rfl Kp.true (Y.extract rfl rfl rfl) ?_
          refine Jp.y 21 rfl (want_all rfl) rfl rfl Kp.true (Y.assign rfl rfl) ?_
          refine Jp.y 22 rfl (want_all rfl) rfl rfl Kp.true (Y.assign rfl rfl) ?_
          refine Jp.done hK28 ?_
          refine Cd.seq fun K29 hK29 => ?_
          refine Cd.drawn [(9, _)] ⟨rfl, trivial⟩ [(0, true), (1, true), (2, true), (3, true), (4, true), (5, true), (6, true), (7, true), (8, true), (9, true), (10, true), (11, true), (12, true), (13, true), (14, true), (15, true), (17, true), (18, true), (19, true), (16, false), (20, false), (21, true), (22, true), (23, true), (24, true), (25, true), (26, false), (27, true), (28, true)] follows (by kernel_rfl) (fun hrl => ?_)
          refine Jp.q 260 rfl (want_all rfl) rfl rfl (Y.move rfl rfl) ?_
          refine Jp.q 261 rfl (want_all rfl) rfl rfl (Y.not rfl rfl) ?_
          refine Jp.slot 261 rfl (show _ = Value.bool false from rfl) ?_
          refine Jp.q 262 rfl (want_all rfl) rfl rfl (Y.move rfl rfl) ?_
          refine Jp.slot 262 rfl (show _ = Value.bool false from rfl) ?_
          refine Jp.q 263 rfl (want_as rfl rfl rfl rfl) rfl rfl (Y.move rfl rfl) ?_
          refine Jp.q 264 rfl (want_as rfl rfl rfl rfl) rfl rfl (Y.move rfl rfl) ?_
          refine Jp.q 265 rfl (want_as rfl rfl rfl rfl) rfl rfl (Y.neq rfl rfl rfl) ?_
          refine Jp.slot 265 rfl (show _ = Value.bool false from congrArg Value.bool (by simp)) ?_
          refine Jp.q 266 rfl (want_all rfl) rfl rfl (Y.pickF rfl rfl rfl) ?_
          refine Jp.slot 266 rfl (show _ = Value.bool false from rfl) ?_
          refine Jp.q 267 rfl (want_all rfl) rfl rfl (Y.move rfl rfl) ?_
          refine Jp.slot 267 rfl (show _ = Value.bool false from rfl) ?_
          refine Jp.q 268 rfl (want_as rfl rfl rfl rfl) rfl rfl (Y.move rfl rfl) ?_
          refine Jp.q 269 rfl (want_as rfl rfl rfl rfl) rfl rfl (Y.move rfl rfl) ?_
          refine Jp.q 270 rfl (want_as rfl rfl rfl rfl) rfl rfl (Y.bneq rfl Try.underlying4 rfl rfl) ?_
          refine Jp.slot 270 rfl (show _ = Value.bool false from congrArg Value.bool (by simp)) ?_
          refine Jp.q 271 rfl (want_all rfl) rfl rfl (Y.pickF rfl rfl rfl) ?_
          refine Jp.slot 271 rfl (show _ = Value.bool false from rfl) ?_
          refine Jp.q 272 rfl (want_all rfl) rfl rfl (Y.move rfl rfl) ?_
          refine Jp.slot 272 rfl (show _ = Value.bool false from rfl) ?_
          refine Jp.q 273 rfl (want_as rfl rfl rfl rfl) rfl rfl (Y.move rfl rfl) ?_
          refine Jp.q 274 rfl (want_as rfl rfl rfl rfl) rfl rfl (by first | exact Y.fieldAddrP rfl rfl Try.underlying90 rfl Try.sizeOf25 (by decide) (show _ + 1 = _ from rfl) | exact Y.fieldAddr rfl rfl Try.underlying90 rfl Try.sizeOf25 (by decide)) ?_
          refine Jp.q 275 rfl (want_as rfl rfl rfl rfl) rfl rfl (Y.loadO 9 rfl Try.isAgg25 rfl rfl rfl) ?_
          refine Jp.q 277 rfl (want_as rfl rfl rfl rfl) rfl rfl (Y.move rfl rfl) ?_
          refine Jp.q 278 rfl (want_as rfl rfl rfl rfl) rfl rfl (by first | exact Y.fieldAddrP rfl rfl Try.underlying90 rfl Try.sizeOf25 (by decide) (show _ + 1 = _ from rfl) | exact Y.fieldAddr rfl rfl Try.underlying90 rfl Try.sizeOf25 (by decide)) ?_
          refine Jp.q 279 rfl (want_as rfl rfl rfl rfl) rfl rfl (Y.loadO 9 rfl Try.isAgg25 rfl rfl rfl) ?_
          refine Jp.call [1] [1] (gen_spec bS M x.a hal) 276 rfl (want_as rfl rfl rfl rfl) rfl rfl (Runs.fn rfl Try.call24 rfl) (by decide) (by decide) rfl trivial ?_
          rintro v22 ρ22 L22 ⟨rfl, rfl, rfl⟩
          refine ⟨rfl, fun hle22 => ⟨(Kp.st ⟨rfl, trivial⟩), ?_⟩⟩
          refine Jp.call [2] [2] (refGen_spec b2 M x.a hal) 280 rfl (want_as rfl rfl rfl rfl) rfl rfl (Runs.fn rfl Try.call64 rfl) (by decide) (by decide) rfl trivial ?_
          rintro v23 ρ23 L23 ⟨rfl, rfl, rfl⟩
          refine ⟨rfl, fun hle23 => ⟨(Kp.st ⟨rfl, trivial⟩), ?_⟩⟩
          refine Jp.q 281 rfl (want_as rfl rfl rfl rfl) rfl rfl (Y.neq rfl rfl rfl) ?_
          refine Jp.slot 281 rfl (show _ = Value.bool false from congrArg Value.bool (by simp)) ?_
          refine Jp.q 282 rfl (want_all rfl) rfl rfl (Y.pickF rfl rfl rfl) ?_
          refine Jp.slot 282 rfl (show _ = Value.bool false from rfl) ?_
          refine Jp.q 283 rfl (want_all rfl) rfl rfl (Y.move rfl rfl) ?_
          refine Jp.slot 283 rfl (show _ = Value.bool false from rfl) ?_
          refine Jp.q 284 rfl (want_as rfl rfl rfl rfl) rfl rfl (Y.move rfl rfl) ?_
          refine Jp.q 285 rfl (want_as rfl rfl rfl rfl) rfl rfl (Y.move rfl rfl) ?_
          refine Jp.call [1, 2] [1, 2] (pages3_spec bS b2 M) 286 rfl (want_as rfl rfl rfl rfl) rfl rfl (Runs.fn rfl Try.call65 rfl) (by decide) (by decide) rfl trivial ?_
          rintro v24 ρ24 L24 ⟨rfl, rfl⟩
          refine ⟨rfl, fun hle24 => ⟨(Kp.st' ⟨rfl, trivial⟩ hle24 hle0), ?_⟩⟩
          refine Jp.q 287 rfl (want_as rfl rfl rfl rfl) rfl rfl (Y.not rfl rfl) ?_
          refine Jp.slot 287 rfl (show _ = Value.bool false from rfl) ?_
          refine Jp.q 288 rfl (want_all rfl) rfl rfl (Y.pickF rfl rfl rfl) ?_
          refine Jp.done hK29 ?_
          refine Cd.condF rfl ?_
          refine Cd.over rfl hK19 ?_
          refine Cd.plain [(0, false), (1, false), (2, false)] rfl rfl ?_
          refine Jp.y 58 rfl (want_all rfl) rfl rfl Kp.true (Y.move rfl rfl) ?_
          refine Jp.y 59 rfl (want_all rfl) rfl rfl Kp.true (Y.add_ rfl rfl rfl (by first | exact wrap_i64 (by omega) (by omega) | rfl)) ?_
          refine Jp.y 8 rfl (want_all rfl) rfl rfl Kp.true (Y.assign rfl rfl) ?_
          rw [show (i : Int) + 1 = ((i + 1 : Nat) : Int) by omega]
          refine Jp.again hLa ⟨i + 1, M, bS, _⟩ ⟨hi, RdActMs.up _ _ _ hle24 hrs, Hp.le_trans hle hle24⟩ (by show xs.length - (i + 1) < xs.length - i; omega) rfl ⟨rfl, rfl, rfl, rfl, trivial⟩ ⟨rfl, rfl, trivial⟩
        · skip
          refine Cd.cond rfl (fun g0 => ?_) (fun g0 => ?_)
          · skip
            refine Cd.drawn [(9, _)] ⟨rfl, trivial⟩ [(0, true), (1, true), (2, true), (3, true), (4, true), (5, true), (6, true), (8, true), (9, true), (10, true), (11, true), (12, true), (13, true), (14, true), (7, false), (15, false), (16, true), (17, true)] follows (by kernel_rfl) (fun hrl => ?_)
            refine Jp.q 84 rfl (want_all rfl) rfl rfl (Y.move rfl rfl) ?_
            refine Jp.q 85 rfl (want_all rfl) rfl rfl (by first | exact Y.fieldAddrP rfl rfl Try.underlying90 rfl Try.sizeOf25 (by decide) (show _ + 1 = _ from rfl) | exact Y.fieldAddr rfl rfl Try.underlying90 rfl Try.sizeOf25 (by decide)) ?_
            refine Jp.q 86 rfl (want_all rfl) rfl rfl (Y.loadO 9 rfl Try.isAgg25 rfl rfl rfl) ?_
            refine Jp.q 87 rfl (want_all rfl) rfl rfl (by first | exact Y.fieldAddrP rfl rfl Try.underlying90 rfl Try.sizeOf25 (by decide) (show _ + 2 = _ from rfl) | exact Y.fieldAddr rfl rfl Try.underlying90 rfl Try.sizeOf25 (by decide)) ?_
            refine Jp.q 88 rfl (want_all rfl) rfl rfl (Y.loadO 9 rfl Try.isAgg25 rfl rfl rfl) ?_
            refine Jp.q 89 rfl (want_all rfl) rfl rfl (by first | exact Y.fieldAddrP rfl rfl Try.underlying90 rfl Try.sizeOf3 (by decide) (show _ + 3 = _ from rfl) | exact Y.fieldAddr rfl rfl Try.underlying90 rfl Try.sizeOf3 (by decide)) ?_
            refine Jp.q 90 rfl (want_all rfl) rfl rfl (Y.loadO 9 rfl Try.isAgg3 rfl rfl rfl) ?_
            refine Jp.q 92 rfl (want_all rfl) rfl rfl (Y.move rfl rfl) ?_
            refine Jp.q 93 rfl (want_all rfl) rfl rfl (by first | exact Y.fieldAddrP rfl rfl Try.underlying90 rfl Try.sizeOf25 (by decide) (show _ + 1 = _ from rfl) | exact Y.fieldAddr rfl rfl Try.underlying90 rfl Try.sizeOf25 (by decide)) ?_
            refine Jp.q 94 rfl (want_all rfl) rfl rfl (Y.loadO 9 rfl Try.isAgg25 rfl rfl rfl) ?_
            refine Jp.q 95 rfl (want_all rfl) rfl rfl (by first | exact Y.fieldAddrP rfl rfl Try.underlying90 rfl Try.sizeOf25 (by decide) (show _ + 2 = _ from rfl) | exact Y.fieldAddr rfl rfl Try.underlying90 rfl Try.sizeOf25 (by decide)) ?_
            refine Jp.q 96 rfl (want_all rfl) rfl rfl (Y.loadO 9 rfl Try.isAgg25 rfl rfl rfl) ?_
            refine Jp.q 97 rfl (want_all rfl) rfl rfl (by first | exact Y.fieldAddrP rfl rfl Try.underlying90 rfl Try.sizeOf3 (by decide) (show _ + 3 = _ from rfl) | exact Y.fieldAddr rfl rfl Try.underlying90 rfl Try.sizeOf3 (by decide)) ?_
            refine Jp.q 98 rfl (want_all rfl) rfl rfl (Y.loadO 9 rfl Try.isAgg3 rfl rfl rfl) ?_
            refine Jp.call [1] [1] (map_spec bS M x.a x.n x.p hal hnl) 91 rfl (want_all rfl) rfl rfl (Runs.fn rfl Try.call46 rfl) (by decide) (by decide) rfl trivial ?_
            rintro v3 ρ3 L3 ⟨rfl, rfl, rfl⟩
            refine ⟨rfl, fun hle3 => ⟨(Kp.st ⟨rfl, trivial⟩), ?_⟩⟩
            refine Jp.call [2] [2] (refMap_spec b2 M x.a x.n x.p hal hnl) 99 rfl (want_all rfl) rfl rfl (Runs.fn rfl Try.call47 rfl) (by decide) (by decide) rfl trivial ?_
            rintro v4 ρ4 L4 ⟨rfl, rfl, rfl⟩
            refine ⟨rfl, fun hle4 => ⟨(Kp.st ⟨rfl, trivial⟩), ?_⟩⟩
            refine Jp.q 100 rfl (want_all rfl) rfl rfl (Y.eql rfl rfl rfl) ?_
            refine Jp.slot 100 rfl (show _ = Value.bool true from congrArg Value.bool (by simp)) ?_
            refine Jp.q 10 rfl (want_all rfl) rfl rfl (Y.assign rfl rfl) ?_
            refine Jp.over rfl hK24 ?_
            exact Cd.meet (hj2 ⟨(mapM M x.a x.n x.p).2, bS⟩ trivial) ⟨rfl, rfl, rfl, rfl, rfl, rfl, trivial⟩ ⟨rfl, rfl, rfl, trivial⟩
          · skip
            refine Cd.seq fun K32 hK32 => ?_
            refine Cd.plain [(0, false), (1, false)] rfl rfl ?_
            refine Jp.y 102 rfl (want_all rfl) rfl rfl Kp.true (Y.eql rfl rfl rfl) ?_
            refine Jp.y 101 rfl (want_all rfl) rfl rfl Kp.true (Y.assign rfl rfl) ?_
            refine Jp.done hK32 ?_
            refine Cd.cond rfl (fun g1 => ?_) (fun g1 => ?_)
            · skip
              refine Cd.drawn [(9, _)] ⟨rfl, trivial⟩ [(0, true), (1, true), (2, true), (3, true), (4, true), (6, true), (7, true), (8, true), (9, true), (10, true), (5, false), (11, false), (12, true), (13, true)] follows (by kernel_rfl) (fun hrl => ?_)
              refine Jp.q 103 rfl (want_all rfl) rfl rfl (Y.move rfl rfl) ?_
              refine Jp.q 104 rfl (want_all rfl) rfl rfl (by first | exact Y.fieldAddrP rfl rfl Try.underlying90 rfl Try.sizeOf25 (by decide) (show _ + 1 = _ from rfl) | exact Y.fieldAddr rfl rfl Try.underlying90 rfl Try.sizeOf25 (by decide)) ?_
              refine Jp.q 105 rfl (want_all rfl) rfl rfl (Y.loadO 9 rfl Try.isAgg25 rfl rfl rfl) ?_
              refine Jp.q 106 rfl (want_all rfl) rfl rfl (by first | exact Y.fieldAddrP rfl rfl Try.underlying90 rfl Try.sizeOf25 (by decide) (show _ + 2 = _ from rfl) | exact Y.fieldAddr rfl rfl Try.underlying90 rfl Try.sizeOf25 (by decide)) ?_
              refine Jp.q 107 rfl (want_all rfl) rfl rfl (Y.loadO 9 rfl Try.isAgg25 rfl rfl rfl) ?_
              refine Jp.q 109 rfl (want_all rfl) rfl rfl (Y.move rfl rfl) ?_
              refine Jp.q 110 rfl (want_all rfl) rfl rfl (by first | exact Y.fieldAddrP rfl rfl Try.underlying90 rfl Try.sizeOf25 (by decide) (show _ + 1 = _ from rfl) | exact Y.fieldAddr rfl rfl Try.underlying90 rfl Try.sizeOf25 (by decide)) ?_
              refine Jp.q 111 rfl (want_all rfl) rfl rfl (Y.loadO 9 rfl Try.isAgg25 rfl rfl rfl) ?_
              refine Jp.q 112 rfl (want_all rfl) rfl rfl (by first | exact Y.fieldAddrP rfl rfl Try.underlying90 rfl Try.sizeOf25 (by decide) (show _ + 2 = _ from rfl) | exact Y.fieldAddr rfl rfl Try.underlying90 rfl Try.sizeOf25 (by decide)) ?_
              refine Jp.q 113 rfl (want_all rfl) rfl rfl (Y.loadO 9 rfl Try.isAgg25 rfl rfl rfl) ?_
              refine Jp.call [1] [1] (unmap_spec bS M x.a x.n hal hnl) 108 rfl (want_all rfl) rfl rfl (Runs.fn rfl Try.call48 rfl) (by decide) (by decide) rfl trivial ?_
              rintro v3 ρ3 L3 ⟨rfl, rfl, rfl⟩
              refine ⟨rfl, fun hle3 => ⟨(Kp.st ⟨rfl, trivial⟩), ?_⟩⟩
              refine Jp.call [2] [2] (refUnmap_spec b2 M x.a x.n hal hnl) 114 rfl (want_all rfl) rfl rfl (Runs.fn rfl Try.call49 rfl) (by decide) (by decide) rfl trivial ?_
              rintro v4 ρ4 L4 ⟨rfl, rfl, rfl⟩
              refine ⟨rfl, fun hle4 => ⟨(Kp.st ⟨rfl, trivial⟩), ?_⟩⟩
              refine Jp.q 115 rfl (want_all rfl) rfl rfl (Y.eql rfl rfl rfl) ?_
              refine Jp.slot 115 rfl (show _ = Value.bool true from congrArg Value.bool (by simp)) ?_
              refine Jp.q 10 rfl (want_all rfl) rfl rfl (Y.assign rfl rfl) ?_
              refine Jp.over rfl hK24 ?_
              exact Cd.meet (hj2 ⟨(unmapM M x.a x.n).2, bS⟩ trivial) ⟨rfl, rfl, rfl, rfl, rfl, rfl, trivial⟩ ⟨rfl, rfl, rfl, trivial⟩
            · skip
              refine Cd.seq fun K34 hK34 => ?_
              refine Cd.plain [(0, false), (1, false)] rfl rfl ?_
              refine Jp.y 117 rfl (want_all rfl) rfl rfl Kp.true (Y.eql rfl rfl rfl) ?_
              refine Jp.y 116 rfl (want_all rfl) rfl rfl Kp.true (Y.assign rfl rfl) ?_
              refine Jp.done hK34 ?_
              refine Cd.cond rfl (fun g2 => ?_) (fun g2 => ?_)
              · skip
                refine Cd.drawn [(9, _)] ⟨rfl, trivial⟩ [(0, true), (1, true), (2, true), (3, true), (4, true), (5, true), (6, true), (8, true), (9, true), (10, true), (11, true), (12, true), (13, true), (14, true), (7, false), (15, false), (16, true), (17, true)] follows (by kernel_rfl) (fun hrl => ?_)
                refine Jp.q 118 rfl (want_all rfl) rfl rfl (Y.move rfl rfl) ?_
                refine Jp.q 119 rfl (want_all rfl) rfl rfl (by first | exact Y.fieldAddrP rfl rfl Try.underlying90 rfl Try.sizeOf25 (by decide) (show _ + 1 = _ from rfl) | exact Y.fieldAddr rfl rfl Try.underlying90 rfl Try.sizeOf25 (by decide)) ?_
                refine Jp.q 120 rfl (want_all rfl) rfl rfl (Y.loadO 9 rfl Try.isAgg25 rfl rfl rfl) ?_
                refine Jp.q 121 rfl (want_all rfl) rfl rfl (by first | exact Y.fieldAddrP rfl rfl Try.underlying90 rfl Try.sizeOf25 (by decide) (show _ + 2 = _ from rfl) | exact Y.fieldAddr rfl rfl Try.underlying90 rfl Try.sizeOf25 (by decide)) ?_
                refine Jp.q 122 rfl (want_all rfl) rfl rfl (Y.loadO 9 rfl Try.isAgg25 rfl rfl rfl) ?_
                refine Jp.q 123 rfl (want_all rfl) rfl rfl (by first | exact Y.fieldAddrP rfl rfl Try.underlying90 rfl Try.sizeOf3 (by decide) (show _ + 3 = _ from rfl) | exact Y.fieldAddr rfl rfl Try.underlying90 rfl Try.sizeOf3 (by decide)) ?_
                refine Jp.q 124 rfl (want_all rfl) rfl rfl (Y.loadO 9 rfl Try.isAgg3 rfl rfl rfl) ?_
                refine Jp.q 126 rfl (want_all rfl) rfl rfl (Y.move rfl rfl) ?_
                refine Jp.q 127 rfl (want_all rfl) rfl rfl (by first | exact Y.fieldAddrP rfl rfl Try.underlying90 rfl Try.sizeOf25 (by decide) (show _ + 1 = _ from rfl) | exact Y.fieldAddr rfl rfl Try.underlying90 rfl Try.sizeOf25 (by decide)) ?_
                refine Jp.q 128 rfl (want_all rfl) rfl rfl (Y.loadO 9 rfl Try.isAgg25 rfl rfl rfl) ?_
                refine Jp.q 129 rfl (want_all rfl) rfl rfl (by first | exact Y.fieldAddrP rfl rfl Try.underlying90 rfl Try.sizeOf25 (by decide) (show _ + 2 = _ from rfl) | exact Y.fieldAddr rfl rfl Try.underlying90 rfl Try.sizeOf25 (by decide)) ?_
                refine Jp.q 130 rfl (want_all rfl) rfl rfl (Y.loadO 9 rfl Try.isAgg25 rfl rfl rfl) ?_
                refine Jp.q 131 rfl (want_all rfl) rfl rfl (by first | exact Y.fieldAddrP rfl rfl Try.underlying90 rfl Try.sizeOf3 (by decide) (show _ + 3 = _ from rfl) | exact Y.fieldAddr rfl rfl Try.underlying90 rfl Try.sizeOf3 (by decide)) ?_
                refine Jp.q 132 rfl (want_all rfl) rfl rfl (Y.loadO 9 rfl Try.isAgg3 rfl rfl rfl) ?_
                refine Jp.call [1] [1] (protect_spec bS M x.a x.n x.p hal hnl) 125 rfl (want_all rfl) rfl rfl (Runs.fn rfl Try.call50 rfl) (by decide) (by decide) rfl trivial ?_
                rintro v3 ρ3 L3 ⟨rfl, rfl, rfl⟩
                refine ⟨rfl, fun hle3 => ⟨(Kp.st ⟨rfl, trivial⟩), ?_⟩⟩
                refine Jp.call [2] [2] (refProtect_spec b2 M x.a x.n x.p hal hnl) 133 rfl (want_all rfl) rfl rfl (Runs.fn rfl Try.call51 rfl) (by decide) (by decide) rfl trivial ?_
                rintro v4 ρ4 L4 ⟨rfl, rfl, rfl⟩
                refine ⟨rfl, fun hle4 => ⟨(Kp.st ⟨rfl, trivial⟩), ?_⟩⟩
                refine Jp.q 134 rfl (want_all rfl) rfl rfl (Y.eql rfl rfl rfl) ?_
                refine Jp.slot 134 rfl (show _ = Value.bool true from congrArg Value.bool (by simp)) ?_
                refine Jp.q 10 rfl (want_all rfl) rfl rfl (Y.assign rfl rfl) ?_
                refine Jp.over rfl hK24 ?_
                exact Cd.meet (hj2 ⟨(protectM M x.a x.n x.p).2, bS⟩ trivial) ⟨rfl, rfl, rfl, rfl, rfl, rfl, trivial⟩ ⟨rfl, rfl, rfl, trivial⟩
              · skip
                refine Cd.seq fun K36 hK36 => ?_
                refine Cd.plain [(0, false), (1, false)] rfl rfl ?_
                refine Jp.y 136 rfl (want_all rfl) rfl rfl Kp.true (Y.eql rfl rfl rfl) ?_
                refine Jp.y 135 rfl (want_all rfl) rfl rfl Kp.true (Y.assign rfl rfl) ?_
                refine Jp.done hK36 ?_
                refine Cd.cond rfl (fun g3 => ?_) (fun g3 => ?_)
                · skip
                  refine Cd.drawn [(9, _)] ⟨rfl, trivial⟩ [(0, true), (1, true), (2, true), (3, true), (4, true), (5, true), (6, true), (8, true), (9, true), (10, true), (11, true), (12, true), (13, true), (14, true), (7, false), (15, false), (16, true), (17, true)] follows (by kernel_rfl) (fun hrl => ?_)
                  refine Jp.q 137 rfl (want_all rfl) rfl rfl (Y.move rfl rfl) ?_
                  refine Jp.q 138 rfl (want_all rfl) rfl rfl (by first | exact Y.fieldAddrP rfl rfl Try.underlying90 rfl Try.sizeOf25 (by decide) (show _ + 1 = _ from rfl) | exact Y.fieldAddr rfl rfl Try.underlying90 rfl Try.sizeOf25 (by decide)) ?_
                  refine Jp.q 139 rfl (want_all rfl) rfl rfl (Y.loadO 9 rfl Try.isAgg25 rfl rfl rfl) ?_
                  refine Jp.q 140 rfl (want_all rfl) rfl rfl (by first | exact Y.fieldAddrP rfl rfl Try.underlying90 rfl Try.sizeOf3 (by decide) (show _ + 4 = _ from rfl) | exact Y.fieldAddr rfl rfl Try.underlying90 rfl Try.sizeOf3 (by decide)) ?_
                  refine Jp.q 141 rfl (want_all rfl) rfl rfl (Y.loadO 9 rfl Try.isAgg3 rfl rfl rfl) ?_
                  refine Jp.q 142 rfl (want_all rfl) rfl rfl (by first | exact Y.fieldAddrP rfl rfl Try.underlying90 rfl Try.sizeOf25 (by decide) (show _ + 2 = _ from rfl) | exact Y.fieldAddr rfl rfl Try.underlying90 rfl Try.sizeOf25 (by decide)) ?_
                  refine Jp.q 143 rfl (want_all rfl) rfl rfl (Y.loadO 9 rfl Try.isAgg25 rfl rfl rfl) ?_
                  refine Jp.q 145 rfl (want_all rfl) rfl rfl (Y.move rfl rfl) ?_
                  refine Jp.q 146 rfl (want_all rfl) rfl rfl (by first | exact Y.fieldAddrP rfl rfl Try.underlying90 rfl Try.sizeOf25 (by decide) (show _ + 1 = _ from rfl) | exact Y.fieldAddr rfl rfl Try.underlying90 rfl Try.sizeOf25 (by decide)) ?_
                  refine Jp.q 147 rfl (want_all rfl) rfl rfl (Y.loadO 9 rfl Try.isAgg25 rfl rfl rfl) ?_
                  refine Jp.q 148 rfl (want_all rfl) rfl rfl (by first | exact Y.fieldAddrP rfl rfl Try.underlying90 rfl Try.sizeOf3 (by decide) (show _ + 4 = _ from rfl) | exact Y.fieldAddr rfl rfl Try.underlying90 rfl Try.sizeOf3 (by decide)) ?_
                  refine Jp.q 149 rfl (want_all rfl) rfl rfl (Y.loadO 9 rfl Try.isAgg3 rfl rfl rfl) ?_
                  refine Jp.q 150 rfl (want_all rfl) rfl rfl (by first | exact Y.fieldAddrP rfl rfl Try.underlying90 rfl Try.sizeOf25 (by decide) (show _ + 2 = _ from rfl) | exact Y.fieldAddr rfl rfl Try.underlying90 rfl Try.sizeOf25 (by decide)) ?_
                  refine Jp.q 151 rfl (want_all rfl) rfl rfl (Y.loadO 9 rfl Try.isAgg25 rfl rfl rfl) ?_
                  refine Jp.call [1] [1] (store_spec bS M x.a x.size x.n hal hnl) 144 rfl (want_all rfl) rfl rfl (Runs.fn rfl Try.call52 rfl) (by decide) (by decide) rfl trivial ?_
                  rintro v3 ρ3 L3 ⟨rfl, rfl, rfl⟩
                  refine ⟨rfl, fun hle3 => ⟨(Kp.st ⟨rfl, trivial⟩), ?_⟩⟩
                  refine Jp.call [2] [2] (refStore_spec b2 M x.a x.size x.n hal hnl) 152 rfl (want_all rfl) rfl rfl (Runs.fn rfl Try.call53 rfl) (by decide) (by decide) rfl trivial ?_
                  rintro v4 ρ4 L4 ⟨rfl, rfl, rfl⟩
                  refine ⟨rfl, fun hle4 => ⟨(Kp.st ⟨rfl, trivial⟩), ?_⟩⟩
                  refine Jp.q 153 rfl (want_all rfl) rfl rfl (Y.eql rfl rfl rfl) ?_
                  refine Jp.slot 153 rfl (show _ = Value.bool true from congrArg Value.bool (by simp)) ?_
                  refine Jp.q 10 rfl (want_all rfl) rfl rfl (Y.assign rfl rfl) ?_
                  refine Jp.over rfl hK24 ?_
                  exact Cd.meet (hj2 ⟨(storeM M x.a x.size x.n).2, bS⟩ trivial) ⟨rfl, rfl, rfl, rfl, rfl, rfl, trivial⟩ ⟨rfl, rfl, rfl, trivial⟩
                · skip
                  refine Cd.seq fun K38 hK38 => ?_
                  refine Cd.plain [(0, false), (1, false)] rfl rfl ?_
                  refine Jp.y 155 rfl (want_all rfl) rfl rfl Kp.true (Y.eql rfl rfl rfl) ?_
                  refine Jp.y 154 rfl (want_all rfl) rfl rfl Kp.true (Y.assign rfl rfl) ?_
                  refine Jp.done hK38 ?_
                  refine Cd.cond rfl (fun g4 => ?_) (fun g4 => ?_)
                  · skip
                    refine Cd.drawn [(9, _)] ⟨rfl, trivial⟩ [(0, true), (1, true), (2, true), (3, true), (4, true), (6, true), (7, true), (8, true), (9, true), (10, true), (5, false), (11, false), (12, true), (13, true)] follows (by kernel_rfl) (fun hrl => ?_)
                    refine Jp.q 156 rfl (want_all rfl) rfl rfl (Y.move rfl rfl) ?_
                    refine Jp.q 157 rfl (want_all rfl) rfl rfl (by first | exact Y.fieldAddrP rfl rfl Try.underlying90 rfl Try.sizeOf25 (by decide) (show _ + 1 = _ from rfl) | exact Y.fieldAddr rfl rfl Try.underlying90 rfl Try.sizeOf25 (by decide)) ?_
                    refine Jp.q 158 rfl (want_all rfl) rfl rfl (Y.loadO 9 rfl Try.isAgg25 rfl rfl rfl) ?_
                    refine Jp.q 159 rfl (want_all rfl) rfl rfl (by first | exact Y.fieldAddrP rfl rfl Try.underlying90 rfl Try.sizeOf38 (by decide) (show _ + 5 = _ from rfl) | exact Y.fieldAddr rfl rfl Try.underlying90 rfl Try.sizeOf38 (by decide)) ?_
                    refine Jp.q 160 rfl (want_all rfl) rfl rfl (Y.loadO 9 rfl Try.isAgg38 rfl rfl rfl) ?_
                    refine Jp.q 162 rfl (want_all rfl) rfl rfl (Y.move rfl rfl) ?_
                    refine Jp.q 163 rfl (want_all rfl) rfl rfl (by first | exact Y.fieldAddrP rfl rfl Try.underlying90 rfl Try.sizeOf25 (by decide) (show _ + 1 = _ from rfl) | exact Y.fieldAddr rfl rfl Try.underlying90 rfl Try.sizeOf25 (by decide)) ?_
                    refine Jp.q 164 rfl (want_all rfl) rfl rfl (Y.loadO 9 rfl Try.isAgg25 rfl rfl rfl) ?_
                    refine Jp.q 165 rfl (want_all rfl) rfl rfl (by first | exact Y.fieldAddrP rfl rfl Try.underlying90 rfl Try.sizeOf38 (by decide) (show _ + 5 = _ from rfl) | exact Y.fieldAddr rfl rfl Try.underlying90 rfl Try.sizeOf38 (by decide)) ?_
                    refine Jp.q 166 rfl (want_all rfl) rfl rfl (Y.loadO 9 rfl Try.isAgg38 rfl rfl rfl) ?_
                    refine Jp.call [1] [1] (Write_spec bS M x.a x.b hal) 161 rfl (want_all rfl) rfl rfl (Runs.fn rfl Try.call54 rfl) (by decide) (by decide) rfl hrb ?_
                    rintro v3 ρ3 L3 ⟨rfl, rfl, rfl⟩
                    refine ⟨rfl, fun hle3 => ⟨(Kp.st ⟨rfl, trivial⟩), ?_⟩⟩
                    refine Jp.call [2] [2] (refWrite_spec b2 M x.a x.b hal) 167 rfl (want_all rfl) rfl rfl (Runs.fn rfl Try.call55 rfl) (by decide) (by decide) rfl hrb ?_
                    rintro v4 ρ4 L4 ⟨rfl, rfl, rfl⟩
                    refine ⟨rfl, fun hle4 => ⟨(Kp.st ⟨rfl, trivial⟩), ?_⟩⟩
                    refine Jp.q 168 rfl (want_all rfl) rfl rfl (Y.eql rfl rfl rfl) ?_
                    refine Jp.slot 168 rfl (show _ = Value.bool true from congrArg Value.bool (by simp)) ?_
                    refine Jp.q 10 rfl (want_all rfl) rfl rfl (Y.assign rfl rfl) ?_
                    refine Jp.over rfl hK24 ?_
                    exact Cd.meet (hj2 ⟨(writeM M x.a x.b.xs 4096 2).2, bS⟩ trivial) ⟨rfl, rfl, rfl, rfl, rfl, rfl, trivial⟩ ⟨rfl, rfl, rfl, trivial⟩
                  · skip
                    refine Cd.seq fun K40 hK40 => ?_
                    refine Cd.plain [(0, false), (1, false)] rfl rfl ?_
                    refine Jp.y 170 rfl (want_all rfl) rfl rfl Kp.true (Y.eql rfl rfl rfl) ?_
                    refine Jp.y 169 rfl (want_all rfl) rfl rfl Kp.true (Y.assign rfl rfl) ?_
                    refine Jp.done hK40 ?_
                    refine Cd.cond rfl (fun g5 => ?_) (fun g5 => ?_)
                    · skip
                      refine Cd.drawn [(9, _)] ⟨rfl, trivial⟩ [(0, true), (1, true), (2, true), (3, true), (4, true), (6, true), (7, true), (8, true), (9, true), (10, true), (5, false), (11, false), (12, true), (13, true)] follows (by kernel_rfl) (fun hrl => ?_)
                      refine Jp.q 171 rfl (want_all rfl) rfl rfl (Y.move rfl rfl) ?_
                      refine Jp.q 172 rfl (want_all rfl) rfl rfl (by first | exact Y.fieldAddrP rfl rfl Try.underlying90 rfl Try.sizeOf25 (by decide) (show _ + 1 = _ from rfl) | exact Y.fieldAddr rfl rfl Try.underlying90 rfl Try.sizeOf25 (by decide)) ?_
                      refine Jp.q 173 rfl (want_all rfl) rfl rfl (Y.loadO 9 rfl Try.isAgg25 rfl rfl rfl) ?_
                      refine Jp.q 174 rfl (want_all rfl) rfl rfl (by first | exact Y.fieldAddrP rfl rfl Try.underlying90 rfl Try.sizeOf38 (by decide) (show _ + 5 = _ from rfl) | exact Y.fieldAddr rfl rfl Try.underlying90 rfl Try.sizeOf38 (by decide)) ?_
                      refine Jp.q 175 rfl (want_all rfl) rfl rfl (Y.loadO 9 rfl Try.isAgg38 rfl rfl rfl) ?_
                      refine Jp.q 177 rfl (want_all rfl) rfl rfl (Y.move rfl rfl) ?_
                      refine Jp.q 178 rfl (want_all rfl) rfl rfl (by first | exact Y.fieldAddrP rfl rfl Try.underlying90 rfl Try.sizeOf25 (by decide) (show _ + 1 = _ from rfl) | exact Y.fieldAddr rfl rfl Try.underlying90 rfl Try.sizeOf25 (by decide)) ?_
                      refine Jp.q 179 rfl (want_all rfl) rfl rfl (Y.loadO 9 rfl Try.isAgg25 rfl rfl rfl) ?_
                      refine Jp.q 180 rfl (want_all rfl) rfl rfl (by first | exact Y.fieldAddrP rfl rfl Try.underlying90 rfl Try.sizeOf38 (by decide) (show _ + 5 = _ from rfl) | exact Y.fieldAddr rfl rfl Try.underlying90 rfl Try.sizeOf38 (by decide)) ?_
                      refine Jp.q 181 rfl (want_all rfl) rfl rfl (Y.loadO 9 rfl Try.isAgg38 rfl rfl rfl) ?_
                      refine Jp.call [1] [1] (Poke_spec bS M x.a x.b hal) 176 rfl (want_all rfl) rfl rfl (Runs.fn rfl Try.call19 rfl) (by decide) (by decide) rfl hrb ?_
                      rintro v3 ρ3 L3 ⟨rfl, rfl, rfl⟩
                      refine ⟨rfl, fun hle3 => ⟨(Kp.st ⟨rfl, trivial⟩), ?_⟩⟩
                      refine Jp.call [2] [2] (refPoke_spec b2 M x.a x.b hal) 182 rfl (want_all rfl) rfl rfl (Runs.fn rfl Try.call56 rfl) (by decide) (by decide) rfl hrb ?_
                      rintro v4 ρ4 L4 ⟨rfl, rfl, rfl⟩
                      refine ⟨rfl, fun hle4 => ⟨(Kp.st ⟨rfl, trivial⟩), ?_⟩⟩
                      refine Jp.q 183 rfl (want_all rfl) rfl rfl (Y.eql rfl rfl rfl) ?_
                      refine Jp.slot 183 rfl (show _ = Value.bool true from congrArg Value.bool (by simp)) ?_
                      refine Jp.q 10 rfl (want_all rfl) rfl rfl (Y.assign rfl rfl) ?_
                      refine Jp.over rfl hK24 ?_
                      exact Cd.meet (hj2 ⟨(writeM M x.a x.b.xs 65536 0).2, bS⟩ trivial) ⟨rfl, rfl, rfl, rfl, rfl, rfl, trivial⟩ ⟨rfl, rfl, rfl, trivial⟩
                    · skip
                      refine Cd.seq fun K42 hK42 => ?_
                      refine Cd.plain [(0, false), (1, false)] rfl rfl ?_
                      refine Jp.y 185 rfl (want_all rfl) rfl rfl Kp.true (Y.eql rfl rfl rfl) ?_
                      refine Jp.y 184 rfl (want_all rfl) rfl rfl Kp.true (Y.assign rfl rfl) ?_
                      refine Jp.done hK42 ?_
                      refine Cd.cond rfl (fun g6 => ?_) (fun g6 => ?_)
                      · skip
                        refine Cd.seq fun K43 hK43 => ?_
                        refine Cd.plain [(0, false), (1, false), (2, false), (3, false), (4, false), (5, false), (6, false), (7, false), (8, false), (9, false), (10, false), (11, false), (12, false)] rfl rfl ?_
                        refine Jp.y 187 rfl (want_all rfl) rfl rfl Kp.true (Y.move rfl rfl) ?_
                        refine Jp.y 188 rfl (want_all rfl) rfl rfl Kp.true (by first | exact Y.fieldAddrP rfl rfl Try.underlying90 rfl Try.sizeOf25 (by decide) (show _ + 1 = _ from rfl) | exact Y.fieldAddr rfl rfl Try.underlying90 rfl Try.sizeOf25 (by decide)) ?_
                        refine Jp.y 189 rfl (want_all rfl) rfl rfl Kp.true (Y.loadO 9 rfl Try.isAgg25 rfl rfl rfl) ?_
                        refine Jp.y 190 rfl (want_all rfl) rfl rfl Kp.true (by first | exact Y.fieldAddrP rfl rfl Try.underlying90 rfl Try.sizeOf3 (by decide) (show _ + 4 = _ from rfl) | exact Y.fieldAddr rfl rfl Try.underlying90 rfl Try.sizeOf3 (by decide)) ?_
                        refine Jp.y 191 rfl (want_all rfl) rfl rfl Kp.true (Y.loadO 9 rfl Try.isAgg3 rfl rfl rfl) ?_
                        refine Jp.y 192 rfl (want_all rfl) rfl rfl Kp.true (by first | exact Y.fieldAddrP rfl rfl Try.underlying90 rfl Try.sizeOf3 (by decide) (show _ + 3 = _ from rfl) | exact Y.fieldAddr rfl rfl Try.underlying90 rfl Try.sizeOf3 (by decide)) ?_
                        refine Jp.y 193 rfl (want_all rfl) rfl rfl Kp.true (Y.loadO 9 rfl Try.isAgg3 rfl rfl rfl) ?_
                        refine Jp.call [1] [1] (load_spec bS M x.a x.size x.p hal) 194 rfl (want_all rfl) rfl rfl (Runs.fn rfl Try.call57 rfl) (by decide) (by decide) rfl trivial ?_
                        rintro v3 ρ3 L3 ⟨rfl, rfl, rfl⟩
                        refine ⟨rfl, fun hle3 => ⟨Kp.true, ?_⟩⟩
                        refine Jp.y 186 rfl (want_all rfl) rfl rfl Kp.true (Y.move rfl rfl) ?_
                        refine Jp.y 195 rfl (want_all rfl) rfl rfl Kp.true (Y.extract rfl rfl rfl) ?_
                        refine Jp.y 196 rfl (want_all rfl) rfl rfl Kp.true (Y.extract rfl rfl rfl) ?_
                        refine Jp.y 11 rfl (want_all rfl) rfl rfl Kp.true (Y.assign rfl rfl) ?_
                        refine Jp.y 12 rfl (want_all rfl) rfl rfl Kp.true (Y.assign rfl rfl) ?_
                        refine Jp.done hK43 ?_
                        refine Cd.seq fun K44 hK44 => ?_
                        refine Cd.plain [(0, false), (1, false), (2, false), (3, false), (4, false), (5, false), (6, false), (7, false), (8, false), (9, false), (10, false), (11, false), (12, false)] rfl rfl ?_
                        refine Jp.y 198 rfl (want_all rfl) rfl rfl Kp.true (Y.move rfl rfl) ?_
                        refine Jp.y 199 rfl (want_all rfl) rfl rfl Kp.true (by first | exact Y.fieldAddrP rfl rfl Try.underlying90 rfl Try.sizeOf25 (by decide) (show _ + 1 = _ from rfl) | exact Y.fieldAddr rfl rfl Try.underlying90 rfl Try.sizeOf25 (by decide)) ?_
                        refine Jp.y 200 rfl (want_all rfl) rfl rfl Kp.true (Y.loadO 9 rfl Try.isAgg25 rfl rfl rfl) ?_
                        refine Jp.y 201 rfl (want_all rfl) rfl rfl Kp.true (by first | exact Y.fieldAddrP rfl rfl Try.underlying90 rfl Try.sizeOf3 (by decide) (show _ + 4 = _ from rfl) | exact Y.fieldAddr rfl rfl Try.underlying90 rfl Try.sizeOf3 (by decide)) ?_
                        refine Jp.y 202 rfl (want_all rfl) rfl rfl Kp.true (Y.loadO 9 rfl Try.isAgg3 rfl rfl rfl) ?_
                        refine Jp.y 203 rfl (want_all rfl) rfl rfl Kp.true (by first | exact Y.fieldAddrP rfl rfl Try.underlying90 rfl Try.sizeOf3 (by decide) (show _ + 3 = _ from rfl) | exact Y.fieldAddr rfl rfl Try.underlying90 rfl Try.sizeOf3 (by decide)) ?_
                        refine Jp.y 204 rfl (want_all rfl) rfl rfl Kp.true (Y.loadO 9 rfl Try.isAgg3 rfl rfl rfl) ?_
                        refine Jp.call [2] [2] (refLoad_spec b2 M x.a x.size x.p hal) 205 rfl (want_all rfl) rfl rfl (Runs.fn rfl Try.call58 rfl) (by decide) (by decide) rfl trivial ?_
                        rintro v4 ρ4 L4 ⟨rfl, rfl, rfl⟩
                        refine ⟨rfl, fun hle4 => ⟨Kp.true, ?_⟩⟩
                        refine Jp.y 197 rfl (want_all rfl) rfl rfl Kp.true (Y.move rfl rfl) ?_
                        refine Jp.y 206 rfl (want_all rfl) rfl rfl Kp.true (Y.extract rfl rfl rfl) ?_
                        refine Jp.y 207 rfl (want_all rfl) rfl rfl Kp.true (Y.extract rfl rfl rfl) ?_
                        refine Jp.y 13 rfl (want_all rfl) rfl rfl Kp.true (Y.assign rfl rfl) ?_
                        refine Jp.y 14 rfl (want_all rfl) rfl rfl Kp.true (Y.assign rfl rfl) ?_
                        refine Jp.done hK44 ?_
                        refine Cd.plain [(0, false), (1, false), (2, false), (3, false), (4, false), (5, false), (6, false), (7, false), (8, false)] rfl rfl ?_
                        refine Jp.y 208 rfl (want_all rfl) rfl rfl Kp.true (Y.move rfl rfl) ?_
                        refine Jp.y 209 rfl (want_all rfl) rfl rfl Kp.true (Y.move rfl rfl) ?_
                        refine Jp.y 210 rfl (want_all rfl) rfl rfl Kp.true (Y.eql rfl rfl rfl) ?_
                        refine Jp.slot 210 rfl (show _ = Value.bool true from congrArg Value.bool (by simp)) ?_
                        refine Jp.y 211 rfl (want_all rfl) rfl rfl Kp.true (Y.move rfl rfl) ?_
                        refine Jp.slot 211 rfl (show _ = Value.bool true from rfl) ?_
                        refine Jp.y 212 rfl (want_as rfl rfl rfl rfl) rfl rfl Kp.true (Y.move rfl rfl) ?_
                        refine Jp.y 213 rfl (want_as rfl rfl rfl rfl) rfl rfl Kp.true (Y.move rfl rfl) ?_
                        refine Jp.y 214 rfl (want_as rfl rfl rfl rfl) rfl rfl Kp.true (Y.eql rfl rfl rfl) ?_
                        refine Jp.slot 214 rfl (show _ = Value.bool true from congrArg Value.bool (by simp)) ?_
                        refine Jp.y 215 rfl (want_all rfl) rfl rfl Kp.true (Y.pickT rfl rfl rfl) ?_
                        refine Jp.y 10 rfl (want_all rfl) rfl rfl Kp.true (Y.assign rfl rfl) ?_
                        refine Jp.over rfl hK24 ?_
                        exact Cd.meet (hj2 ⟨M, bS⟩ trivial) ⟨rfl, rfl, rfl, rfl, rfl, rfl, trivial⟩ ⟨rfl, rfl, rfl, trivial⟩
                      · skip
                        refine Cd.seq fun K45 hK45 => ?_
                        refine Cd.plain [(0, false), (1, false)] rfl rfl ?_
                        refine Jp.y 217 rfl (want_all rfl) rfl rfl Kp.true (Y.eql rfl rfl rfl) ?_
                        refine Jp.y 216 rfl (want_all rfl) rfl rfl Kp.true (Y.assign rfl rfl) ?_
                        refine Jp.done hK45 ?_
                        refine Cd.cond rfl (fun g7 => ?_) (fun g7 => ?_)
                        · skip
                          refine Cd.seq fun K46 hK46 => ?_
                          refine Cd.plain [(0, false), (1, false), (2, false), (3, false), (4, false), (5, false), (6, false), (7, false), (8, false), (9, false), (10, false)] rfl rfl ?_
                          refine Jp.y 219 rfl (want_all rfl) rfl rfl Kp.true (Y.move rfl rfl) ?_
                          refine Jp.y 220 rfl (want_all rfl) rfl rfl Kp.true (by first | exact Y.fieldAddrP rfl rfl Try.underlying90 rfl Try.sizeOf25 (by decide) (show _ + 1 = _ from rfl) | exact Y.fieldAddr rfl rfl Try.underlying90 rfl Try.sizeOf25 (by decide)) ?_
                          refine Jp.y 221 rfl (want_all rfl) rfl rfl Kp.true (Y.loadO 9 rfl Try.isAgg25 rfl rfl rfl) ?_
                          refine Jp.y 222 rfl (want_all rfl) rfl rfl Kp.true (by first | exact Y.fieldAddrP rfl rfl Try.underlying90 rfl Try.sizeOf3 (by decide) (show _ + 4 = _ from rfl) | exact Y.fieldAddr rfl rfl Try.underlying90 rfl Try.sizeOf3 (by decide)) ?_
                          refine Jp.y 223 rfl (want_all rfl) rfl rfl Kp.true (Y.loadO 9 rfl Try.isAgg3 rfl rfl rfl) ?_
                          refine Jp.call [1] [1, 20] (read_spec bS M x.a x.size hal) 224 rfl (want_all rfl) rfl rfl (Runs.fn rfl Try.call59 rfl) (by decide) (by decide) rfl trivial ?_
                          rintro v3 ρ3 L3 ⟨rfl, A3, c3, rfl, rfl⟩
                          refine ⟨rfl, fun hle3 => ⟨Kp.true, ?_⟩⟩
                          refine Jp.y 218 rfl (want_all rfl) rfl rfl Kp.true (Y.move rfl rfl) ?_
                          refine Jp.y 225 rfl (want_all rfl) rfl rfl Kp.true (Y.extract rfl rfl rfl) ?_
                          refine Jp.y 226 rfl (want_all rfl) rfl rfl Kp.true (Y.extract rfl rfl rfl) ?_
                          refine Jp.y 15 rfl (want_all rfl) rfl rfl Kp.true (Y.assign rfl rfl) ?_
                          refine Jp.y 16 rfl (want_all rfl) rfl rfl Kp.true (Y.assign rfl rfl) ?_
                          refine Jp.done hK46 ?_
                          refine Cd.seq fun K47 hK47 => ?_
                          refine Cd.plain [(0, false), (1, false), (2, false), (3, false), (4, false), (5, false), (6, false), (7, false), (8, false), (9, false), (10, false)] rfl rfl ?_
                          refine Jp.y 228 rfl (want_all rfl) rfl rfl Kp.true (Y.move rfl rfl) ?_
                          refine Jp.y 229 rfl (want_all rfl) rfl rfl Kp.true (by first | exact Y.fieldAddrP rfl rfl Try.underlying90 rfl Try.sizeOf25 (by decide) (show _ + 1 = _ from rfl) | exact Y.fieldAddr rfl rfl Try.underlying90 rfl Try.sizeOf25 (by decide)) ?_
                          refine Jp.y 230 rfl (want_all rfl) rfl rfl Kp.true (Y.loadO 9 rfl Try.isAgg25 rfl rfl rfl) ?_
                          refine Jp.y 231 rfl (want_all rfl) rfl rfl Kp.true (by first | exact Y.fieldAddrP rfl rfl Try.underlying90 rfl Try.sizeOf3 (by decide) (show _ + 4 = _ from rfl) | exact Y.fieldAddr rfl rfl Try.underlying90 rfl Try.sizeOf3 (by decide)) ?_
                          refine Jp.y 232 rfl (want_all rfl) rfl rfl Kp.true (Y.loadO 9 rfl Try.isAgg3 rfl rfl rfl) ?_
                          refine Jp.call [2] [2, 21] (refRead_spec b2 M x.a x.size hal) 233 rfl (want_all rfl) rfl rfl (Runs.fn rfl Try.call60 rfl) (by decide) (by decide) rfl trivial ?_
                          rintro v4 ρ4 L4 ⟨rfl, A4, c4, rfl, rfl⟩
                          refine ⟨rfl, fun hle4 => ⟨Kp.true, ?_⟩⟩
                          refine Jp.y 227 rfl (want_all rfl) rfl rfl Kp.true (Y.move rfl rfl) ?_
                          refine Jp.y 234 rfl (want_all rfl) rfl rfl Kp.true (Y.extract rfl rfl rfl) ?_
                          refine Jp.y 235 rfl (want_all rfl) rfl rfl Kp.true (Y.extract rfl rfl rfl) ?_
                          refine Jp.y 17 rfl (want_all rfl) rfl rfl Kp.true (Y.assign rfl rfl) ?_
                          refine Jp.y 18 rfl (want_all rfl) rfl rfl Kp.true (Y.assign rfl rfl) ?_
                          refine Jp.done hK47 ?_
                          refine Cd.plain [(0, false), (1, false), (2, false), (3, false), (4, false), (5, false), (6, false), (7, false), (8, false), (9, false), (10, false)] rfl rfl ?_
                          refine Jp.y 236 rfl (want_all rfl) rfl rfl Kp.true (Y.move rfl rfl) ?_
                          refine Jp.y 237 rfl (want_all rfl) rfl rfl Kp.true (Y.toStr _ rfl rfl Try.underlying38 Try.underlying9 Try.underlying5 ⟨_, _, rfl⟩ (Src.own 20 rfl)) ?_
                          refine Jp.y 238 rfl (want_all rfl) rfl rfl Kp.true (Y.move rfl rfl) ?_
                          refine Jp.y 239 rfl (want_all rfl) rfl rfl Kp.true (Y.toStr _ rfl rfl Try.underlying38 Try.underlying9 Try.underlying5 ⟨_, _, rfl⟩ (Src.own 21 rfl)) ?_
                          refine Jp.y 240 rfl (want_all rfl) rfl rfl Kp.true (Y.streql rfl rfl rfl) ?_
                          refine Jp.slot 240 rfl (show _ = Value.bool true from congrArg Value.bool (by simp)) ?_
                          refine Jp.y 241 rfl (want_all rfl) rfl rfl Kp.true (Y.move rfl rfl) ?_
                          refine Jp.slot 241 rfl (show _ = Value.bool true from rfl) ?_
                          refine Jp.y 242 rfl (want_as rfl rfl rfl rfl) rfl rfl Kp.true (Y.move rfl rfl) ?_
                          refine Jp.y 243 rfl (want_as rfl rfl rfl rfl) rfl rfl Kp.true (Y.move rfl rfl) ?_
                          refine Jp.y 244 rfl (want_as rfl rfl rfl rfl) rfl rfl Kp.true (Y.eql rfl rfl rfl) ?_
                          refine Jp.slot 244 rfl (show _ = Value.bool true from congrArg Value.bool (by simp)) ?_
                          refine Jp.y 245 rfl (want_all rfl) rfl rfl Kp.true (Y.pickT rfl rfl rfl) ?_
                          refine Jp.y 10 rfl (want_all rfl) rfl rfl Kp.true (Y.assign rfl rfl) ?_
                          refine Jp.over rfl hK24 ?_
                          exact Cd.meet (hj2 ⟨M, bS⟩ trivial) ⟨rfl, rfl, rfl, rfl, rfl, rfl, trivial⟩ ⟨rfl, rfl, rfl, trivial⟩
                        · skip
                          refine Cd.plain [(0, false), (1, false), (2, false)] rfl rfl ?_
                          refine Jp.y 80 rfl (want_all rfl) rfl rfl Kp.true (Y.move rfl rfl) ?_
                          refine Jp.call [1] [3, 1] (copy_spec bS M) 81 rfl (want_all rfl) rfl rfl (Runs.fn rfl Try.call61 rfl) (by decide) (by decide) rfl trivial ?_
                          rintro v3 ρ3 L3 ⟨rfl, b3, rfl, rfl⟩
                          refine ⟨rfl, fun hle3 => ⟨Kp.true, ?_⟩⟩
                          refine Jp.y 5 rfl (want_all rfl) rfl rfl Kp.true (Y.assign rfl rfl) ?_
                          refine Jp.over rfl hK24 ?_
                          exact Cd.meet (hj2 ⟨M, b3⟩ trivial) ⟨rfl, rfl, rfl, rfl, rfl, rfl, trivial⟩ ⟨rfl, rfl, rfl, trivial⟩
      · skip
        refine Jp.y 64 rfl (want_all rfl) rfl rfl Kp.true (by first | exact Y.fieldAddrP rfl rfl Try.underlying90 rfl Try.sizeOf38 (by decide) (show _ + 5 = _ from rfl) | exact Y.fieldAddr rfl rfl Try.underlying90 rfl Try.sizeOf38 (by decide)) ?_
        refine Jp.y 65 rfl (want_all rfl) rfl rfl Kp.true (Y.loadO 9 rfl Try.isAgg38 rfl rfl rfl) ?_
        refine Jp.y 66 rfl (want_all rfl) rfl rfl Kp.true (Y.lenslice rfl Try.underlying38 rfl) ?_
        refine Jp.y 67 rfl (want_all rfl) rfl rfl Kp.true (Y.gtr rfl rfl rfl) ?_
        refine Jp.y 68 rfl (want_all rfl) rfl rfl Kp.true (Y.move rfl rfl) ?_
        refine Jp.split 68 rfl (fun g68 => ?_) (fun g68 => ?_)
        · skip
          try simp only [decide_eq_false_iff_not, decide_eq_true_eq, Int.not_lt, Int.not_le, Bool.not_eq_false, Bool.not_eq_true, Bool.not_true, Bool.not_false, Bool.not_eq_true', Bool.not_eq_false', beq_eq_false_iff_ne, ne_eq, beq_iff_eq, bne_iff_ne, bne_eq_false_iff_eq, Classical.not_not] at g68
          refine Jp.skip 69 rfl (want_as rfl rfl rfl rfl) rfl rfl Kp.true ?_
          refine Jp.skip 70 rfl (want_as rfl rfl rfl rfl) rfl rfl Kp.true ?_
          refine Jp.skip 71 rfl (want_as rfl rfl rfl rfl) rfl rfl Kp.true ?_
          refine Jp.skip 72 rfl (want_as rfl rfl rfl rfl) rfl rfl Kp.true ?_
          refine Jp.skip 73 rfl (want_un rfl rfl rfl) rfl rfl Kp.true ?_
          refine Jp.skip 74 rfl (want_un rfl rfl rfl) rfl rfl Kp.true ?_
          refine Jp.skip 75 rfl (want_un rfl rfl rfl) rfl rfl Kp.true ?_
          refine Jp.skip 76 rfl (want_as rfl rfl rfl rfl) rfl rfl Kp.true ?_
          refine Jp.y 77 rfl (want_all rfl) rfl rfl Kp.true (Y.pickT rfl rfl rfl) ?_
          refine Jp.done hK22 ?_
          refine Cd.condT rfl ?_
          refine Cd.seq fun K48 hK48 => ?_
          refine Cd.plain [(0, false)] rfl rfl ?_
          refine Jp.y 4 rfl (want_all rfl) rfl rfl Kp.true (Y.assign rfl rfl) ?_
          refine Jp.done hK48 ?_
          refine Cd.ret [] rfl (res1 rfl rfl) trivial ⟨rfl, rfl⟩
        · skip
          try simp only [decide_eq_false_iff_not, decide_eq_true_eq, Int.not_lt, Int.not_le, Bool.not_eq_false, Bool.not_eq_true, Bool.not_true, Bool.not_false, Bool.not_eq_true', Bool.not_eq_false', beq_eq_false_iff_ne, ne_eq, beq_iff_eq, bne_iff_ne, bne_eq_false_iff_eq, Classical.not_not] at g68
          refine Jp.y 69 rfl (want_as rfl rfl rfl rfl) rfl rfl Kp.true (by first | exact Y.fieldAddrP rfl rfl Try.underlying90 rfl Try.sizeOf3 (by decide) (show _ + 0 = _ from rfl) | exact Y.fieldAddr rfl rfl Try.underlying90 rfl Try.sizeOf3 (by decide)) ?_
          refine Jp.y 70 rfl (want_as rfl rfl rfl rfl) rfl rfl Kp.true (Y.loadO 9 rfl Try.isAgg3 rfl rfl rfl) ?_
          refine Jp.y 71 rfl (want_as rfl rfl rfl rfl) rfl rfl Kp.true (Y.lss rfl rfl rfl) ?_
          refine Jp.y 72 rfl (want_as rfl rfl rfl rfl) rfl rfl Kp.true (Y.move rfl rfl) ?_
          refine Jp.split 72 rfl (fun g72 => ?_) (fun g72 => ?_)
          · skip
            try simp only [decide_eq_false_iff_not, decide_eq_true_eq, Int.not_lt, Int.not_le, Bool.not_eq_false, Bool.not_eq_true, Bool.not_true, Bool.not_false, Bool.not_eq_true', Bool.not_eq_false', beq_eq_false_iff_ne, ne_eq, beq_iff_eq, bne_iff_ne, bne_eq_false_iff_eq, Classical.not_not] at g72
            refine Jp.y 73 rfl (want_as rfl rfl rfl rfl) rfl rfl Kp.true (by first | exact Y.fieldAddrP rfl rfl Try.underlying90 rfl Try.sizeOf25 (by decide) (show _ + 2 = _ from rfl) | exact Y.fieldAddr rfl rfl Try.underlying90 rfl Try.sizeOf25 (by decide)) ?_
            refine Jp.y 74 rfl (want_as rfl rfl rfl rfl) rfl rfl Kp.true (Y.loadO 9 rfl Try.isAgg25 rfl rfl rfl) ?_
            refine Jp.y 75 rfl (want_as rfl rfl rfl rfl) rfl rfl Kp.true (Y.gtr rfl rfl rfl) ?_
            refine Jp.y 76 rfl (want_as rfl rfl rfl rfl) rfl rfl Kp.true (Y.pickT rfl rfl rfl) ?_
            refine Jp.y 77 rfl (want_all rfl) rfl rfl Kp.true (Y.pickF rfl rfl rfl) ?_
            refine Jp.done hK22 ?_
            refine Cd.cond rfl (fun g77 => ?_) (fun g77 => ?_)
            · skip
              try simp only [decide_eq_false_iff_not, decide_eq_true_eq, Int.not_lt, Int.not_le, Bool.not_eq_false, Bool.not_eq_true, Bool.not_true, Bool.not_false, Bool.not_eq_true', Bool.not_eq_false', beq_eq_false_iff_ne, ne_eq, beq_iff_eq, bne_iff_ne, bne_eq_false_iff_eq, Classical.not_not] at g77
              refine Cd.seq fun K49 hK49 => ?_
              refine Cd.plain [(0, false)] rfl rfl ?_
              refine Jp.y 4 rfl (want_all rfl) rfl rfl Kp.true (Y.assign rfl rfl) ?_
              refine Jp.done hK49 ?_
              refine Cd.ret [] rfl (res1 rfl rfl) trivial ⟨rfl, rfl⟩
            · skip
              try simp only [decide_eq_false_iff_not, decide_eq_true_eq, Int.not_lt, Int.not_le, Bool.not_eq_false, Bool.not_eq_true, Bool.not_true, Bool.not_false, Bool.not_eq_true', Bool.not_eq_false', beq_eq_false_iff_ne, ne_eq, beq_iff_eq, bne_iff_ne, bne_eq_false_iff_eq, Classical.not_not] at g77
              refine Cd.skip hK21 ?_
              exact Cd.meet (hj1 (by omega)) ⟨rfl, rfl, rfl, rfl, rfl, trivial⟩ ⟨rfl, rfl, rfl, trivial⟩
          · skip
            try simp only [decide_eq_false_iff_not, decide_eq_true_eq, Int.not_lt, Int.not_le, Bool.not_eq_false, Bool.not_eq_true, Bool.not_true, Bool.not_false, Bool.not_eq_true', Bool.not_eq_false', beq_eq_false_iff_ne, ne_eq, beq_iff_eq, bne_iff_ne, bne_eq_false_iff_eq, Classical.not_not] at g72
            refine Jp.skip 73 rfl (want_as rfl rfl rfl rfl) rfl rfl Kp.true ?_
            refine Jp.skip 74 rfl (want_as rfl rfl rfl rfl) rfl rfl Kp.true ?_
            refine Jp.skip 75 rfl (want_as rfl rfl rfl rfl) rfl rfl Kp.true ?_
            refine Jp.y 76 rfl (want_as rfl rfl rfl rfl) rfl rfl Kp.true (Y.pickF rfl rfl rfl) ?_
            refine Jp.y 77 rfl (want_all rfl) rfl rfl Kp.true (Y.pickF rfl rfl rfl) ?_
            refine Jp.done hK22 ?_
            refine Cd.condF rfl ?_
            refine Cd.skip hK21 ?_
            exact Cd.meet (hj1 (by omega)) ⟨rfl, rfl, rfl, rfl, rfl, trivial⟩ ⟨rfl, rfl, rfl, trivial⟩
    · skip
      refine Cd.exit rfl hK15 ?_
      refine Cd.seq fun K50 hK50 => ?_
      refine Cd.plain [(0, false), (1, false), (2, false), (3, false)] rfl rfl ?_
      refine Jp.y 289 rfl (want_all rfl) rfl rfl Kp.true (Y.move rfl rfl) ?_
      refine Jp.y 290 rfl (want_all rfl) rfl rfl Kp.true (Y.move rfl rfl) ?_
      refine Jp.call [1, 2] [1, 2] (bytes3_spec bS b2 M) 291 rfl (want_all rfl) rfl rfl (Runs.fn rfl Try.call66 rfl) (by decide) (by decide) rfl trivial ?_
      rintro v30 ρ30 L30 ⟨rfl, rfl⟩
      refine ⟨rfl, fun hle30 => ⟨Kp.true, ?_⟩⟩
      refine Jp.y 4 rfl (want_all rfl) rfl rfl Kp.true (Y.assign rfl rfl) ?_
      refine Jp.done hK50 ?_
      refine Cd.ret [] rfl (res1 rfl rfl) trivial ⟨rfl, rfl⟩
end Go.Proofs.Ytgmhijlcdadaeaa
