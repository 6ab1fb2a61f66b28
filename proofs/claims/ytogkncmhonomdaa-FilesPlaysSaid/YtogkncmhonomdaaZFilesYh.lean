import Derived.Test.YtogkncmhonomdaaZFilesYg
import Derived.Test.YtogkncmhonomdaaZFilesK
import Derived.Test.YtogkncmhonomdaaZEngV4
set_option linter.unusedVariables false
set_option linter.unusedSimpArgs false
set_option maxRecDepth 100000
namespace Go.Proofs.Ytogkncmhonomdaa
open Go
structure ActF where
  op : Int
  fd : Int
  n : Int
  off : Int
  s : ByteArray
def ActF.cells (x : ActF) : List Value := [.int .i64 x.op, .int .i64 x.fd, .int .i64 x.n, .int .i32 x.off, .string x.s]
structure ActF.Rd (x : ActF) (h : Hp) : Prop where
  op : (Lit.int .i64 x.op).wf = true
  fd : (Lit.int .i64 x.fd).wf = true
  n : (Lit.int .i64 x.n).wf = true
  off : (Lit.int .i32 x.off).wf = true
  s : x.s.size ≤ reachBytes
theorem ActF.up (x : ActF) : Up x.Rd := fun h k l r => ⟨r.op, r.fd, r.n, r.off, r.s⟩
theorem ActF.len (x : ActF) : x.cells.length = 5 := rfl
def RdActFs (s : Sl ActF) : HProp := RdRows 5 ActF.cells ActF.Rd s
theorem RdActFs.up (s : Sl ActF) : Up (RdActFs s) := RdRows.up ActF.up s
theorem splF_full {cur : Array Value} {cs : List Value} (h : cs.length = cur.size) : spl cur 0 cs = cs.toArray := by
  apply Array.ext_getElem?
  intro j
  rw [spl_get cs cur 0 j (by omega)]
  by_cases hj : j < cs.length
  · rw [if_pos ⟨Nat.zero_le _, by omega⟩]; simp
  · rw [if_neg (by omega)]
    have h1 : cur[j]? = none := by rw [Array.getElem?_eq_none_iff]; omega
    rw [h1]; simp; omega
theorem atB_new (f : FeedP) : AtB 0 (newFP f) := fun fd x hx => by
  have hm := gget_mem hx
  simp [newFP] at hm
  rcases hm with h | h | h <;> (rw [h.2]; exact Nat.le_refl _)
theorem Rel.outOf {p : FilesP} {r : RfG} (h : Rel p r) (fd : Int) : outFP p fd = (outOf r fd).xs := by
  unfold Ytogkncmhonomdaa.outOf
  by_cases h1 : fd = 1
  · rw [if_pos h1, h1]; exact h.out1
  · by_cases h2 : fd = 2
    · rw [if_neg h1, if_pos h2, h2]; exact h.out2
    · rw [if_neg h1, if_neg h2]; exact h.outs fd h1 h2
theorem filesPlays_spec (f : FeedG) (l : Sl ActF) : Spec Try.prog 3 #[.agg f.cells.toArray, l.v] (fun h => RdFeed f h ∧ RdActFs l h) [] (fun ρ ρ' v L => v = .bool true ∧ L = []) := by
  obtain ⟨A, c, xs⟩ := l
  have hL := light11_spec f
  have hFee := fee11_spec f
  have hNew := new_files f
  obtain ⟨args, input, short, random, clock, files⟩ := f
  rw [show Sl.v ⟨A, c, xs⟩ = .slice A xs.length c from rfl, show (FeedG.cells ⟨args, input, short, random, clock, files⟩) = [args.v, input.v, short.v, random.v, clock.v, files.v] from rfl]
  refine Spec.of 211 Try.func3 rfl Try.ntmps3 [(0, _), (1, _)] rfl rfl ?_
  intro cx ρ hr00 h0
  obtain ⟨hrf, hrs⟩ := hr00
  have lx : xs.length ≤ 281474976710656 := hrs.1.2.1.2
  refine Cd.seq fun K1 hK1 => ?_
  refine Cd.plain [(0, false), (1, false)] rfl rfl ?_
  refine Jp.box 40 2 rfl (want_all rfl) rfl rfl rfl rfl fun b40 => ⟨Kp.true, ?_⟩
  refine Jp.y 4 rfl (want_all rfl) rfl rfl Kp.true (Y.assign rfl rfl) ?_
  refine Jp.done hK1 ?_
  refine Cd.seq fun K2 hK2 => ?_
  refine Cd.seq fun K3 hK3 => ?_
  refine Cd.plain [(0, false), (1, false)] rfl rfl ?_
  refine Jp.call [] [] f4_spec 17 rfl (want_all rfl) rfl rfl (Runs.fn rfl Try.call4 rfl) (by decide) (by decide) rfl trivial ?_
  rintro v1 ρ1 L1 ⟨rfl, rfl⟩
  refine ⟨rfl, fun hle1 => ⟨Kp.true, ?_⟩⟩
  have hrs := RdActFs.up _ _ _ hle1 hrs
  have hrf := RdFeed.up _ _ _ hle1 hrf
  refine Jp.y 18 rfl (want_all rfl) rfl rfl Kp.true (Y.not rfl rfl) ?_
  refine Jp.done hK3 ?_
  refine Cd.cond rfl (fun g18 => ?_) (fun g18 => ?_)
  · skip
    exact absurd g18 (by simp)
  try simp only [decide_eq_false_iff_not, decide_eq_true_eq, Int.not_lt, Int.not_le, Bool.not_eq_false, Bool.not_eq_true, Bool.not_true, Bool.not_false, Bool.not_eq_true', Bool.not_eq_false', beq_eq_false_iff_ne, ne_eq, beq_iff_eq, bne_iff_ne, bne_eq_false_iff_eq, Classical.not_not] at g18
  refine Cd.skip hK2 ?_
  refine Cd.seq fun K4 hK4 => ?_
  refine Cd.seq fun K5 hK5 => ?_
  refine Cd.plain [(0, false), (1, false), (2, false), (3, false), (4, false), (5, false), (6, false), (7, false)] rfl rfl ?_
  refine Jp.y 19 rfl (want_all rfl) rfl rfl Kp.true (by first | exact Y.loadAggO 40 rfl Try.isAgg28 Try.sizeOf28 rfl rfl rfl) ?_
  refine Jp.call [] [] hL 20 rfl (want_all rfl) rfl rfl (Runs.fn rfl Try.call5 rfl) (by decide) (by decide) rfl hrf ?_
  rintro v2 ρ2 L2 ⟨rfl, ⟨lg, rfl, hlg⟩, rfl⟩
  refine ⟨rfl, fun hle2 => ⟨Kp.true, ?_⟩⟩
  refine Jp.y 21 rfl (want_all rfl) rfl rfl Kp.true (Y.not rfl rfl) ?_
  refine Jp.y 22 rfl (want_all rfl) rfl rfl Kp.true (Y.move rfl rfl) ?_
  refine Jp.split 22 rfl (fun g22 => ?_) (fun g22 => ?_)
  · skip
    refine Jp.skip 23 rfl (want_as rfl rfl rfl rfl) rfl rfl Kp.true ?_
    refine Jp.skip 24 rfl (want_as rfl rfl rfl rfl) rfl rfl Kp.true ?_
    refine Jp.skip 25 rfl (want_as rfl rfl rfl rfl) rfl rfl Kp.true ?_
    refine Jp.y 26 rfl (want_all rfl) rfl rfl Kp.true (Y.pickT rfl rfl rfl) ?_
    refine Jp.done hK5 ?_
    refine Cd.condT rfl ?_
    refine Cd.seq fun K6 hK6 => ?_
    refine Cd.plain [(0, false)] rfl rfl ?_
    refine Jp.y 4 rfl (want_all rfl) rfl rfl Kp.true (Y.assign rfl rfl) ?_
    refine Jp.done hK6 ?_
    refine Cd.ret [] rfl (res1 rfl rfl) trivial ⟨rfl, rfl⟩
  try simp only [decide_eq_false_iff_not, decide_eq_true_eq, Int.not_lt, Int.not_le, Bool.not_eq_false, Bool.not_eq_true, Bool.not_true, Bool.not_false, Bool.not_eq_true', Bool.not_eq_false', beq_eq_false_iff_ne, ne_eq, beq_iff_eq, bne_iff_ne, bne_eq_false_iff_eq, Classical.not_not] at g22
  refine Jp.y 23 rfl (want_as rfl rfl rfl rfl) rfl rfl Kp.true (Y.move rfl rfl) ?_
  refine Jp.y 24 rfl (want_as rfl rfl rfl rfl) rfl rfl Kp.true (Y.lenslice rfl Try.underlying29 rfl) ?_
  refine Jp.y 25 rfl (want_as rfl rfl rfl rfl) rfl rfl Kp.true (Y.gtr rfl rfl rfl) ?_
  refine Jp.y 26 rfl (want_all rfl) rfl rfl Kp.true (Y.pickF rfl rfl rfl) ?_
  refine Jp.done hK5 ?_
  refine Cd.cond rfl (fun g26 => ?_) (fun g26 => ?_)
  · skip
    refine Cd.seq fun K7 hK7 => ?_
    refine Cd.plain [(0, false)] rfl rfl ?_
    refine Jp.y 4 rfl (want_all rfl) rfl rfl Kp.true (Y.assign rfl rfl) ?_
    refine Jp.done hK7 ?_
    refine Cd.ret [] rfl (res1 rfl rfl) trivial ⟨rfl, rfl⟩
  try simp only [decide_eq_false_iff_not, decide_eq_true_eq, Int.not_lt, Int.not_le, Bool.not_eq_false, Bool.not_eq_true, Bool.not_true, Bool.not_false, Bool.not_eq_true', Bool.not_eq_false', beq_eq_false_iff_ne, ne_eq, beq_iff_eq, bne_iff_ne, bne_eq_false_iff_eq, Classical.not_not] at g26
  refine Cd.skip hK4 ?_
  refine Cd.seq fun K8 hK8 => ?_
  refine Cd.drawn [(40, _)] ⟨rfl, trivial⟩ [(0, true), (2, true), (1, false), (3, false), (4, false), (5, true), (6, true)] follows (by kernel_rfl) (fun hrl => ?_)
  have hn10 := hlg (by simpa using g22)
  dsimp only at hn10
  have hlen : xs.length ≤ 60 := by omega
  have hle0 : Hp.le cx.r0 ρ2 := by rw [h0]; exact hle1
  refine Jp.q 27 rfl (want_all rfl) rfl rfl (by first | exact Y.loadAggO 40 rfl Try.isAgg28 Try.sizeOf28 rfl rfl rfl) ?_
  refine Jp.q 29 rfl (want_all rfl) rfl rfl (by first | exact Y.loadAggO 40 rfl Try.isAgg28 Try.sizeOf28 rfl rfl rfl) ?_
  refine Jp.call [] [1, 2, 3, 4] hNew 28 rfl (want_all rfl) rfl rfl (Runs.fn rfl Try.call6 rfl) (by decide) (by decide) rfl hrf ?_
  rintro v3 ρ3 L3 ⟨bG, g, rfl, rfl, hg, hgp⟩
  refine ⟨rfl, fun hle3 => ⟨(Kp.st' ⟨rfl, trivial⟩ hle3 hle0), ?_⟩⟩
  have hrs := RdActFs.up _ _ _ hle3 hrs
  have hrf := RdFeed.up _ _ _ hle3 hrf
  refine Jp.call [] [8] (hFee hn10) 30 rfl (want_all rfl) rfl rfl (Runs.fn rfl Try.call8 rfl) (by decide) (by decide) rfl hrf ?_
  rintro v4 ρ4 L4 ⟨rfl, FA, fc, rfl, rfl⟩
  refine ⟨rfl, fun hle4 => ⟨(Kp.st' ⟨rfl, trivial⟩ hle3 hle0), ?_⟩⟩
  dsimp only
  refine Jp.freeze (i := 8) rfl (OwnS.up _ _ _ _ _ _) fun ρ8 hle8 hA8 => ?_
  have hrf := RdFeed.up _ _ _ hle8 hrf
  have hrs := RdActFs.up _ _ _ hle8 hrs
  have hg := RdFs.up _ _ _ hle8 hg
  have hrq : RdFeed ⟨args, input, short, random, clock, ⟨FA, fc, files.xs⟩⟩ ρ8 := { hrf with files := ⟨hA8.rd, hrf.files.2⟩ }
  have hR := rfNew_spec ⟨args, input, short, random, clock, ⟨FA, fc, files.xs⟩⟩
  rw [show (FeedG.cells ⟨args, input, short, random, clock, ⟨FA, fc, files.xs⟩⟩) = [args.v, input.v, short.v, random.v, clock.v, .slice FA files.xs.length fc] from rfl] at hR
  refine Jp.call [] [5, 6, 7] hR 31 rfl (want_all rfl) rfl rfl (Runs.fn rfl Try.call7 rfl) (by decide) (by decide) rfl hrq ?_
  rintro v5 ρ5 L5 ⟨rfl, bW, r, rfl, rfl, hrr, hrel⟩
  refine ⟨rfl, fun hle5 => ⟨(Kp.st' ⟨rfl, trivial⟩ (Hp.le_trans hle3 hle8) hle0), ?_⟩⟩
  rw [show newFP (FeedG.p ⟨args, input, short, random, clock, ⟨FA, fc, files.xs⟩⟩) = g.p from hgp.symm] at hrel
  refine Jp.q 5 rfl (want_all rfl) rfl rfl (Y.assign rfl rfl) ?_
  refine Jp.q 6 rfl (want_all rfl) rfl rfl (Y.assign rfl rfl) ?_
  refine Jp.done hK8 ?_
  refine Cd.seq fun K10 hK10 => ?_
  refine Cd.seq fun K11 hK11 => ?_
  refine Cd.plain [(0, false)] rfl rfl ?_
  refine Jp.y 7 rfl (want_all rfl) rfl rfl Kp.true (Y.assign rfl rfl) ?_
  refine Jp.done hK11 ?_
  refine Cd.block ?_
  have hat0 : AtB (0 * 4294967296) g.p := by rw [hgp]; exact atB_new _
  have hcx : Hp.le cx.r0 ρ5 := Hp.le_trans hle0 (Hp.le_trans hle3 hle8)
  refine Cd.loopK (G := Nat × FilesG × Nat × RfG × Hp) (fun s => s.1 ≤ xs.length ∧ RdActFs ⟨A, c, xs⟩ s.2.2.2.2 ∧ Hp.le cx.r0 s.2.2.2.2 ∧ RdFs s.2.1 s.2.2.2.2 ∧ RdRf s.2.2.2.1 s.2.2.2.2 ∧ Rel s.2.1.p s.2.2.2.1 ∧ AtB (s.1 * 4294967296) s.2.1.p) (fun s => xs.length - s.1) (fun s => s.2.2.2.2) (fun s => [(5, .pointer (some ⟨s.2.2.1, 0, none⟩)), (7, .int .i64 (s.1 : Int))]) [(1, _), (6, _)] (fun s => [(1, FsPt s.2.2.1 s.2.1), (2, UsePt s.2.1.bu s.2.1.use), (3, MapO .i64 s.2.1.bo (gmap FilG.v s.2.1.op)), (4, MapO .i64 s.2.1.bw (gmap Sl.v s.2.1.out)), (5, RfPt bW s.2.2.2.1), (6, RefPt s.2.2.2.1.bu s.2.2.2.1.u), (7, RfOpen s.2.2.2.1)]) [] ⟨0, g, bG, r, _⟩ ⟨Nat.zero_le _, hrs, hcx, hg, hrr, hrel, hat0⟩ rfl ⟨rfl, rfl, trivial⟩ ⟨rfl, rfl, trivial⟩ ⟨rfl, rfl, rfl, rfl, rfl, rfl, rfl, trivial⟩ trivial (fun g KLa hok hLa => ?_)
  obtain ⟨i, G, bS, R, ρg⟩ := g
  obtain ⟨ok1, hrs, hcx, hg, hrr, hrel, hat⟩ := hok
  dsimp only at ok1 hrs hcx hg hrr hrel hat ⊢
  refine Cd.seq fun K12 hK12 => ?_
  refine Cd.seq fun K13 hK13 => ?_
  refine Cd.plain [(0, false), (1, false), (2, false), (3, false)] rfl rfl ?_
  refine Jp.y 32 rfl (want_all rfl) rfl rfl Kp.true (Y.move rfl rfl) ?_
  refine Jp.y 33 rfl (want_all rfl) rfl rfl Kp.true (Y.move rfl rfl) ?_
  refine Jp.y 34 rfl (want_all rfl) rfl rfl Kp.true (Y.lenslice rfl Try.underlying29 rfl) ?_
  refine Jp.y 35 rfl (want_all rfl) rfl rfl Kp.true (Y.lss rfl rfl rfl) ?_
  refine Jp.done hK13 ?_
  refine Cd.cond rfl (fun ga => ?_) (fun ga => ?_)
  · have hi : i < xs.length := by simp at ga; omega
    have hx : xs[i]? = some xs[i] := List.getElem?_eq_getElem hi
    obtain ⟨x, hxe⟩ : ∃ x, x = xs[i] := ⟨_, rfl⟩
    rw [← hxe] at hx
    obtain ⟨ad, hA, hcx2, hrx⟩ := RdRows.at ActF.len (by decide) hrs hx
    have hA : A = some ad := hA
    subst hA
    have hone : x.cells.all one = true := by unfold ActF.cells; simp [one]
    refine Cd.skip hK12 ?_
    refine Cd.seq fun K14 hK14 => ?_
    refine Cd.block ?_
    refine Cd.seq fun K15 hK15 => ?_
    refine Cd.plain [(0, false), (1, false), (2, false), (3, false), (4, false), (5, false)] rfl rfl ?_
    refine Jp.y 38 rfl (want_all rfl) rfl rfl Kp.true (Y.move rfl rfl) ?_
    refine Jp.y 39 rfl (want_all rfl) rfl rfl Kp.true (Y.move rfl rfl) ?_
    refine Jp.y 40 rfl (want_all rfl) rfl rfl Kp.true (Y.indexAddr (q := i * 5) rfl rfl rfl Try.underlying29 Try.sizeOf41 (by omega) (by omega) (by omega)) ?_
    refine Jp.y 41 rfl (want_all rfl) rfl rfl Kp.true (Y.loadAggR x.cells rfl Try.isAgg41 Try.sizeOf41 rfl x.len hcx2) ?_
    refine Jp.alloc 9 8 rfl (want_all rfl) rfl rfl rfl Try.zeroValue41 fun b9 => ⟨Kp.true, ?_⟩
    refine Jp.storeAgg 9 rfl (want_all rfl) rfl rfl Try.sizeOf41 rfl rfl hone x.len rfl rfl (fun k _ _ => noFr0 k) Kp.true ?_
    refine Jp.imp (j := 9) (A := Pt b9 (.cells (spl (ActF.mk 0 0 0 0 ByteArray.empty).cells.toArray 0 x.cells) 41)) (A' := Pt b9 (.cells x.cells.toArray 41)) rfl (fun h hh => by rw [splF_full (by rw [x.len]; rfl)] at hh; exact hh) ?_
    refine Jp.done hK15 ?_
    refine Cd.seq fun K16 hK16 => ?_
    refine Cd.seq fun K17 hK17 => ?_
    refine Cd.plain [(0, false), (1, false), (2, false), (3, false)] rfl rfl ?_
    refine Jp.y 42 rfl (want_all rfl) rfl rfl Kp.true (by first | exact Y.fieldAddrP rfl rfl Try.underlying41 rfl Try.sizeOf9 (by decide) (show _ + 4 = _ from rfl) | exact Y.fieldAddr rfl rfl Try.underlying41 rfl Try.sizeOf9 (by decide)) ?_
    refine Jp.y 43 rfl (want_all rfl) rfl rfl Kp.true (Y.loadO 9 rfl Try.isAgg9 rfl rfl rfl) ?_
    refine Jp.y 44 rfl (want_all rfl) rfl rfl Kp.true (Y.lenstr rfl Try.underlying9 rfl) ?_
    refine Jp.y 45 rfl (want_all rfl) rfl rfl Kp.true (Y.gtr rfl rfl rfl) ?_
    refine Jp.done hK17 ?_
    refine Cd.cond rfl (fun gs => ?_) (fun gs => ?_)
    · skip
      refine Cd.seq fun K18 hK18 => ?_
      refine Cd.plain [(0, false)] rfl rfl ?_
      refine Jp.y 4 rfl (want_all rfl) rfl rfl Kp.true (Y.assign rfl rfl) ?_
      refine Jp.done hK18 ?_
      refine Cd.ret [] rfl (res1 rfl rfl) trivial ⟨rfl, rfl⟩
    · skip
      refine Cd.skip hK16 ?_
      refine Cd.seq fun K19 hK19 => ?_
      refine Cd.plain [(0, false)] rfl rfl ?_
      refine Jp.y 9 rfl (want_all rfl) rfl rfl Kp.true (Y.assign rfl rfl) ?_
      refine Jp.done hK19 ?_
      refine Cd.seq fun K20 hK20 => ?_
      refine Cd.seq fun K21 hK21 => ?_
      refine Cd.plain [(0, false), (1, false)] rfl rfl ?_
      refine Jp.y 46 rfl (want_all rfl) rfl rfl Kp.true (by first | exact Y.fieldAddrP rfl rfl Try.underlying41 rfl Try.sizeOf3 (by decide) (show _ + 0 = _ from rfl) | exact Y.fieldAddr rfl rfl Try.underlying41 rfl Try.sizeOf3 (by decide)) ?_
      refine Jp.y 47 rfl (want_all rfl) rfl rfl Kp.true (Y.loadO 9 rfl Try.isAgg3 rfl rfl rfl) ?_
      refine Jp.done hK21 ?_
      refine Cd.block ?_
      refine Cd.seq fun K22 hK22 => ?_
      refine Cd.plain [(0, false), (1, false)] rfl rfl ?_
      refine Jp.y 51 rfl (want_all rfl) rfl rfl Kp.true (Y.eql rfl rfl rfl) ?_
      refine Jp.y 50 rfl (want_all rfl) rfl rfl Kp.true (Y.assign rfl rfl) ?_
      refine Jp.done hK22 ?_
      have hoff := hrx.off
      have hat2 : AtB 2305843009213693952 G.p := hat.le (by omega)
      have hok := hg.ok
      refine Cd.joinR (G := FilesG × Nat × RfG × Hp) (fun z => RdActFs ⟨some ad, c, xs⟩ z.2.2.2 ∧ Hp.le cx.r0 z.2.2.2 ∧ RdFs z.1 z.2.2.2 ∧ RdRf z.2.2.1 z.2.2.2 ∧ Rel z.1.p z.2.2.1 ∧ AtB ((i + 1) * 4294967296) z.1.p) (fun z => z.2.2.2) (fun z => [(5, .pointer (some ⟨z.2.1, 0, none⟩)), (9, .bool true)]) [(1, _), (6, _), (7, _), (8, _)] ⟨rfl, rfl, rfl, rfl, trivial⟩ (fun z => [(1, FsPt z.2.1 z.1), (2, UsePt z.1.bu z.1.use), (3, MapO .i64 z.1.bo (gmap FilG.v z.1.op)), (4, MapO .i64 z.1.bw (gmap Sl.v z.1.out)), (5, RfPt bW z.2.2.1), (6, RefPt z.2.2.1.bu z.2.2.1.u), (7, RfOpen z.2.2.1)]) [(9, _)] ⟨rfl, trivial⟩ hK20 (fun g hφ => ?_) (fun hj1 => ?_)
      · obtain ⟨G, bS, R, ρz⟩ := g
        obtain ⟨hrs, hcx, hg, hrr, hrel, hat⟩ := hφ
        dsimp only at hrs hcx hg hrr hrel hat ⊢
        refine Cd.seq fun K23 hK23 => ?_
        refine Cd.plain [(0, false), (1, false), (2, false), (3, false), (4, false), (5, false), (6, false), (7, false), (8, false), (9, false)] rfl rfl ?_
        refine Jp.y 139 rfl (want_all rfl) rfl rfl Kp.true (Y.move rfl rfl) ?_
        refine Jp.call [1] [1] (use_spec bS G) 140 rfl (want_all rfl) rfl rfl (Runs.fn rfl Try.call20 rfl) (by decide) (by decide) rfl trivial ?_
        rintro v20 ρ20 L20 ⟨rfl, rfl, rfl⟩
        refine ⟨rfl, fun hle20 => ⟨Kp.true, ?_⟩⟩
        refine Jp.call [2] [2] (f21_spec G.bu G.use) 141 rfl (want_all rfl) rfl rfl (Runs.fn rfl Try.call21 rfl) (by decide) (by decide) rfl trivial ?_
        rintro v21 ρ21 L21 ⟨rfl, rfl, rfl⟩
        refine ⟨rfl, fun hle21 => ⟨Kp.true, ?_⟩⟩
        refine Jp.y 138 rfl (want_all rfl) rfl rfl Kp.true (Y.move rfl rfl) ?_
        refine Jp.y 142 rfl (want_all rfl) rfl rfl Kp.true (Y.extract rfl rfl rfl) ?_
        refine Jp.y 143 rfl (want_all rfl) rfl rfl Kp.true (Y.extract rfl rfl rfl) ?_
        refine Jp.y 144 rfl (want_all rfl) rfl rfl Kp.true (Y.extract rfl rfl rfl) ?_
        refine Jp.y 14 rfl (want_all rfl) rfl rfl Kp.true (Y.assign rfl rfl) ?_
        refine Jp.y 15 rfl (want_all rfl) rfl rfl Kp.true (Y.assign rfl rfl) ?_
        refine Jp.y 16 rfl (want_all rfl) rfl rfl Kp.true (Y.assign rfl rfl) ?_
        refine Jp.done hK23 ?_
        refine Cd.seq fun K24 hK24 => ?_
        refine Cd.drawn [(9, _)] ⟨rfl, trivial⟩ [(0, true), (1, true), (2, true), (3, true), (6, true), (4, false), (5, true), (7, false), (8, true), (9, true), (10, true), (11, true), (12, true), (15, true), (13, false), (14, true), (16, false), (17, true), (18, true), (19, true), (20, true), (21, true), (22, true), (23, true), (26, true), (27, true), (28, true), (24, false), (25, true), (29, false), (30, true), (31, true), (32, true), (33, true), (34, true), (35, true), (36, true), (37, true), (38, true), (39, true), (40, true), (41, true), (42, true), (43, true), (44, true), (45, true), (46, true), (47, true), (48, true), (49, true), (50, true), (51, true), (52, true), (53, true), (54, true), (55, true), (56, true), (57, true), (58, true), (59, true), (60, true), (61, true), (62, true), (63, true), (64, true), (65, true)] follows (by kernel_rfl) (fun hrl => ?_)
        refine Jp.q 145 rfl (want_all rfl) rfl rfl (Y.move rfl rfl) ?_
        refine Jp.q 146 rfl (want_all rfl) rfl rfl (Y.not rfl rfl) ?_
        refine Jp.slot 146 rfl (show _ = Value.bool false from rfl) ?_
        refine Jp.q 147 rfl (want_all rfl) rfl rfl (Y.move rfl rfl) ?_
        refine Jp.slot 147 rfl (show _ = Value.bool false from rfl) ?_
        refine Jp.q 148 rfl (want_as rfl rfl rfl rfl) rfl rfl (Y.move rfl rfl) ?_
        refine Jp.q 151 rfl (want_as rfl rfl rfl rfl) rfl rfl (Y.move rfl rfl) ?_
        refine Jp.call [1, 4] [1, 4, 10] (out_spec bS G 1) 149 rfl (want_as rfl rfl rfl rfl) rfl rfl (Runs.fn rfl Try.call22 rfl) (by decide) (by decide) rfl hg ?_
        rintro v22 ρ22 L22 ⟨rfl, A22, c22, rfl, rfl⟩
        refine ⟨rfl, fun hle22 => ⟨(Kp.st ⟨rfl, trivial⟩), ?_⟩⟩
        refine Jp.strong [(9, _), (10, _)] ⟨rfl, rfl, trivial⟩ ⟨rfl, trivial⟩ (Hp.le_refl _) hrl ?_
        have hrl := Hp.le_trans hrl (Hp.le_refl _)
        refine Jp.q 150 rfl (want_as rfl rfl rfl rfl) rfl rfl (Y.toStr _ rfl rfl Try.underlying23 Try.underlying9 Try.underlying5 ⟨_, _, rfl⟩ (Src.own 10 rfl)) ?_
        refine Jp.call [5] [5] (rfOut_spec bW R 1) 152 rfl (want_as rfl rfl rfl rfl) rfl rfl (Runs.fn rfl Try.call23 rfl) (by decide) (by decide) rfl trivial ?_
        rintro v23 ρ23 L23 ⟨rfl, rfl, rfl⟩
        refine ⟨rfl, fun hle23 => ⟨(Kp.st ⟨rfl, rfl, trivial⟩), ?_⟩⟩
        rw [show (outOf R 1).v = .slice R.o1.A R.o1.xs.length R.o1.c from rfl]
        refine Jp.q 153 rfl (want_as rfl rfl rfl rfl) rfl rfl (Y.toStr _ rfl rfl Try.underlying23 Try.underlying9 Try.underlying5 ⟨_, _, rfl⟩ (Src.rd hrr.o1)) ?_
        refine Jp.q 154 rfl (want_as rfl rfl rfl rfl) rfl rfl (Y.strneq rfl rfl rfl) ?_
        refine Jp.slot 154 rfl (show _ = Value.bool false from congrArg Value.bool (by simp [hrel.out1])) ?_
        refine Jp.q 155 rfl (want_all rfl) rfl rfl (Y.pickF rfl rfl rfl) ?_
        refine Jp.slot 155 rfl (show _ = Value.bool false from rfl) ?_
        refine Jp.q 156 rfl (want_all rfl) rfl rfl (Y.move rfl rfl) ?_
        refine Jp.slot 156 rfl (show _ = Value.bool false from rfl) ?_
        refine Jp.q 157 rfl (want_as rfl rfl rfl rfl) rfl rfl (Y.move rfl rfl) ?_
        refine Jp.q 160 rfl (want_as rfl rfl rfl rfl) rfl rfl (Y.move rfl rfl) ?_
        refine Jp.call [1, 4] [1, 4, 11] (out_spec bS G 2) 158 rfl (want_as rfl rfl rfl rfl) rfl rfl (Runs.fn rfl Try.call22 rfl) (by decide) (by decide) rfl hg ?_
        rintro v24 ρ24 L24 ⟨rfl, A24, c24, rfl, rfl⟩
        refine ⟨rfl, fun hle24 => ⟨(Kp.st ⟨rfl, rfl, trivial⟩), ?_⟩⟩
        refine Jp.strong [(9, _), (10, _), (11, _)] ⟨rfl, rfl, rfl, trivial⟩ ⟨rfl, rfl, trivial⟩ (Hp.le_refl _) hrl ?_
        have hrl := Hp.le_trans hrl (Hp.le_refl _)
        refine Jp.q 159 rfl (want_as rfl rfl rfl rfl) rfl rfl (Y.toStr _ rfl rfl Try.underlying23 Try.underlying9 Try.underlying5 ⟨_, _, rfl⟩ (Src.own 11 rfl)) ?_
        refine Jp.call [5] [5] (rfOut_spec bW R 2) 161 rfl (want_as rfl rfl rfl rfl) rfl rfl (Runs.fn rfl Try.call23 rfl) (by decide) (by decide) rfl trivial ?_
        rintro v25 ρ25 L25 ⟨rfl, rfl, rfl⟩
        refine ⟨rfl, fun hle25 => ⟨(Kp.st ⟨rfl, rfl, rfl, trivial⟩), ?_⟩⟩
        rw [show (outOf R 2).v = .slice R.o2.A R.o2.xs.length R.o2.c from rfl]
        refine Jp.q 162 rfl (want_as rfl rfl rfl rfl) rfl rfl (Y.toStr _ rfl rfl Try.underlying23 Try.underlying9 Try.underlying5 ⟨_, _, rfl⟩ (Src.rd hrr.o2)) ?_
        refine Jp.q 163 rfl (want_as rfl rfl rfl rfl) rfl rfl (Y.strneq rfl rfl rfl) ?_
        refine Jp.slot 163 rfl (show _ = Value.bool false from congrArg Value.bool (by simp [hrel.out2])) ?_
        refine Jp.q 164 rfl (want_all rfl) rfl rfl (Y.pickF rfl rfl rfl) ?_
        refine Jp.slot 164 rfl (show _ = Value.bool false from rfl) ?_
        refine Jp.q 165 rfl (want_all rfl) rfl rfl (Y.move rfl rfl) ?_
        refine Jp.slot 165 rfl (show _ = Value.bool false from rfl) ?_
        refine Jp.q 166 rfl (want_as rfl rfl rfl rfl) rfl rfl (Y.move rfl rfl) ?_
        refine Jp.q 167 rfl (want_as rfl rfl rfl rfl) rfl rfl (by first | exact Y.fieldAddrP rfl rfl Try.underlying41 rfl Try.sizeOf3 (by decide) (show _ + 1 = _ from rfl) | exact Y.fieldAddr rfl rfl Try.underlying41 rfl Try.sizeOf3 (by decide)) ?_
        refine Jp.q 168 rfl (want_as rfl rfl rfl rfl) rfl rfl (Y.loadO 9 rfl Try.isAgg3 rfl rfl rfl) ?_
        refine Jp.q 171 rfl (want_as rfl rfl rfl rfl) rfl rfl (Y.move rfl rfl) ?_
        refine Jp.q 172 rfl (want_as rfl rfl rfl rfl) rfl rfl (by first | exact Y.fieldAddrP rfl rfl Try.underlying41 rfl Try.sizeOf3 (by decide) (show _ + 1 = _ from rfl) | exact Y.fieldAddr rfl rfl Try.underlying41 rfl Try.sizeOf3 (by decide)) ?_
        refine Jp.q 173 rfl (want_as rfl rfl rfl rfl) rfl rfl (Y.loadO 9 rfl Try.isAgg3 rfl rfl rfl) ?_
        refine Jp.call [1, 4] [1, 4, 12] (out_spec bS G x.fd) 169 rfl (want_as rfl rfl rfl rfl) rfl rfl (Runs.fn rfl Try.call22 rfl) (by decide) (by decide) rfl hg ?_
        rintro v26 ρ26 L26 ⟨rfl, A26, c26, rfl, rfl⟩
        refine ⟨rfl, fun hle26 => ⟨(Kp.st ⟨rfl, rfl, rfl, trivial⟩), ?_⟩⟩
        refine Jp.q 170 rfl (want_as rfl rfl rfl rfl) rfl rfl (Y.lenslice rfl Try.underlying23 rfl) ?_
        refine Jp.call [5] [5] (rfOut_spec bW R x.fd) 174 rfl (want_as rfl rfl rfl rfl) rfl rfl (Runs.fn rfl Try.call23 rfl) (by decide) (by decide) rfl trivial ?_
        rintro v27 ρ27 L27 ⟨rfl, rfl, rfl⟩
        refine ⟨rfl, fun hle27 => ⟨(Kp.st ⟨rfl, rfl, rfl, trivial⟩), ?_⟩⟩
        rw [show (outOf R x.fd).v = .slice (outOf R x.fd).A (outOf R x.fd).xs.length (outOf R x.fd).c from rfl]
        refine Jp.strong [(9, _), (10, _), (11, _), (5, _), (6, _)] ⟨rfl, rfl, rfl, rfl, rfl, trivial⟩ ⟨rfl, rfl, rfl, trivial⟩ (Hp.le_refl _) hrl ?_
        have hrl := Hp.le_trans hrl (Hp.le_refl _)
        refine Jp.q 175 rfl (want_as rfl rfl rfl rfl) rfl rfl (Y.lenslice rfl Try.underlying23 rfl) ?_
        refine Jp.q 176 rfl (want_as rfl rfl rfl rfl) rfl rfl (Y.neq rfl rfl rfl) ?_
        refine Jp.slot 176 rfl (show _ = Value.bool false from congrArg Value.bool (by simp [hrel.outOf x.fd])) ?_
        refine Jp.q 177 rfl (want_all rfl) rfl rfl (Y.pickF rfl rfl rfl) ?_
        refine Jp.slot 177 rfl (show _ = Value.bool false from rfl) ?_
        refine Jp.q 178 rfl (want_all rfl) rfl rfl (Y.move rfl rfl) ?_
        refine Jp.slot 178 rfl (show _ = Value.bool false from rfl) ?_
        have hu := hrel.use
        have hu1 : G.use.shorts = R.u.shorts := congrArg UseP.shorts hu
        have hu2 : G.use.bytes = R.u.bytes := congrArg UseP.bytes hu
        have hu3 : G.use.clocks = R.u.clocks := congrArg UseP.clocks hu
        refine Jp.q 179 rfl (want_as rfl rfl rfl rfl) rfl rfl (Y.move rfl rfl) ?_
        refine Jp.q 180 rfl (want_as rfl rfl rfl rfl) rfl rfl (Y.move rfl rfl) ?_
        refine Jp.q 181 rfl (want_as rfl rfl rfl rfl) rfl rfl (Y.nilCheck rfl rfl) ?_
        refine Jp.q 182 rfl (want_as rfl rfl rfl rfl) rfl rfl (by first | exact Y.fieldAddrP rfl rfl Try.underlying60 rfl Try.sizeOf56 (by decide) (show _ + 0 = _ from rfl) | exact Y.fieldAddr rfl rfl Try.underlying60 rfl Try.sizeOf56 (by decide)) ?_
        refine Jp.q 183 rfl (want_as rfl rfl rfl rfl) rfl rfl (by first | exact Y.loadO 9 rfl Try.isAgg56 rfl rfl rfl | exact Y.loadO 5 rfl Try.isAgg56 rfl rfl rfl | exact Y.loadO 6 rfl Try.isAgg56 rfl rfl rfl) ?_
        refine Jp.q 184 rfl (want_as rfl rfl rfl rfl) rfl rfl (Y.nilCheck rfl rfl) ?_
        refine Jp.q 185 rfl (want_as rfl rfl rfl rfl) rfl rfl (by first | exact Y.fieldAddrP rfl rfl Try.underlying55 rfl Try.sizeOf3 (by decide) (show _ + 6 = _ from rfl) | exact Y.fieldAddr rfl rfl Try.underlying55 rfl Try.sizeOf3 (by decide)) ?_
        refine Jp.q 186 rfl (want_as rfl rfl rfl rfl) rfl rfl (by first | exact Y.loadO 9 rfl Try.isAgg3 rfl rfl rfl | exact Y.loadO 5 rfl Try.isAgg3 rfl rfl rfl | exact Y.loadO 6 rfl Try.isAgg3 rfl rfl rfl) ?_
        refine Jp.q 187 rfl (want_as rfl rfl rfl rfl) rfl rfl (Y.neq rfl rfl rfl) ?_
        refine Jp.slot 187 rfl (show _ = Value.bool false from congrArg Value.bool (by simp [hu1])) ?_
        refine Jp.q 188 rfl (want_all rfl) rfl rfl (Y.pickF rfl rfl rfl) ?_
        refine Jp.slot 188 rfl (show _ = Value.bool false from rfl) ?_
        refine Jp.q 189 rfl (want_all rfl) rfl rfl (Y.move rfl rfl) ?_
        refine Jp.slot 189 rfl (show _ = Value.bool false from rfl) ?_
        refine Jp.q 190 rfl (want_as rfl rfl rfl rfl) rfl rfl (Y.move rfl rfl) ?_
        refine Jp.q 191 rfl (want_as rfl rfl rfl rfl) rfl rfl (Y.move rfl rfl) ?_
        refine Jp.q 192 rfl (want_as rfl rfl rfl rfl) rfl rfl (Y.nilCheck rfl rfl) ?_
        refine Jp.q 193 rfl (want_as rfl rfl rfl rfl) rfl rfl (by first | exact Y.fieldAddrP rfl rfl Try.underlying60 rfl Try.sizeOf56 (by decide) (show _ + 0 = _ from rfl) | exact Y.fieldAddr rfl rfl Try.underlying60 rfl Try.sizeOf56 (by decide)) ?_
        refine Jp.q 194 rfl (want_as rfl rfl rfl rfl) rfl rfl (by first | exact Y.loadO 9 rfl Try.isAgg56 rfl rfl rfl | exact Y.loadO 5 rfl Try.isAgg56 rfl rfl rfl | exact Y.loadO 6 rfl Try.isAgg56 rfl rfl rfl) ?_
        refine Jp.q 195 rfl (want_as rfl rfl rfl rfl) rfl rfl (Y.nilCheck rfl rfl) ?_
        refine Jp.q 196 rfl (want_as rfl rfl rfl rfl) rfl rfl (by first | exact Y.fieldAddrP rfl rfl Try.underlying55 rfl Try.sizeOf3 (by decide) (show _ + 7 = _ from rfl) | exact Y.fieldAddr rfl rfl Try.underlying55 rfl Try.sizeOf3 (by decide)) ?_
        refine Jp.q 197 rfl (want_as rfl rfl rfl rfl) rfl rfl (by first | exact Y.loadO 9 rfl Try.isAgg3 rfl rfl rfl | exact Y.loadO 5 rfl Try.isAgg3 rfl rfl rfl | exact Y.loadO 6 rfl Try.isAgg3 rfl rfl rfl) ?_
        refine Jp.q 198 rfl (want_as rfl rfl rfl rfl) rfl rfl (Y.neq rfl rfl rfl) ?_
        refine Jp.slot 198 rfl (show _ = Value.bool false from congrArg Value.bool (by simp [hu2])) ?_
        refine Jp.q 199 rfl (want_all rfl) rfl rfl (Y.pickF rfl rfl rfl) ?_
        refine Jp.slot 199 rfl (show _ = Value.bool false from rfl) ?_
        refine Jp.q 200 rfl (want_all rfl) rfl rfl (Y.move rfl rfl) ?_
        refine Jp.slot 200 rfl (show _ = Value.bool false from rfl) ?_
        refine Jp.q 201 rfl (want_as rfl rfl rfl rfl) rfl rfl (Y.move rfl rfl) ?_
        refine Jp.q 202 rfl (want_as rfl rfl rfl rfl) rfl rfl (Y.move rfl rfl) ?_
        refine Jp.q 203 rfl (want_as rfl rfl rfl rfl) rfl rfl (Y.nilCheck rfl rfl) ?_
        refine Jp.q 204 rfl (want_as rfl rfl rfl rfl) rfl rfl (by first | exact Y.fieldAddrP rfl rfl Try.underlying60 rfl Try.sizeOf56 (by decide) (show _ + 0 = _ from rfl) | exact Y.fieldAddr rfl rfl Try.underlying60 rfl Try.sizeOf56 (by decide)) ?_
        refine Jp.q 205 rfl (want_as rfl rfl rfl rfl) rfl rfl (by first | exact Y.loadO 9 rfl Try.isAgg56 rfl rfl rfl | exact Y.loadO 5 rfl Try.isAgg56 rfl rfl rfl | exact Y.loadO 6 rfl Try.isAgg56 rfl rfl rfl) ?_
        refine Jp.q 206 rfl (want_as rfl rfl rfl rfl) rfl rfl (Y.nilCheck rfl rfl) ?_
        refine Jp.q 207 rfl (want_as rfl rfl rfl rfl) rfl rfl (by first | exact Y.fieldAddrP rfl rfl Try.underlying55 rfl Try.sizeOf3 (by decide) (show _ + 8 = _ from rfl) | exact Y.fieldAddr rfl rfl Try.underlying55 rfl Try.sizeOf3 (by decide)) ?_
        refine Jp.q 208 rfl (want_as rfl rfl rfl rfl) rfl rfl (by first | exact Y.loadO 9 rfl Try.isAgg3 rfl rfl rfl | exact Y.loadO 5 rfl Try.isAgg3 rfl rfl rfl | exact Y.loadO 6 rfl Try.isAgg3 rfl rfl rfl) ?_
        refine Jp.q 209 rfl (want_as rfl rfl rfl rfl) rfl rfl (Y.neq rfl rfl rfl) ?_
        refine Jp.slot 209 rfl (show _ = Value.bool false from congrArg Value.bool (by simp [hu3])) ?_
        refine Jp.q 210 rfl (want_all rfl) rfl rfl (Y.pickF rfl rfl rfl) ?_
        refine Jp.slot 210 rfl (show _ = Value.bool false from rfl) ?_
        refine Jp.done hK24 ?_
        refine Cd.condF rfl ?_
        refine Cd.over rfl hK14 ?_
        refine Cd.plain [(0, false), (1, false), (2, false)] rfl rfl ?_
        refine Jp.y 36 rfl (want_all rfl) rfl rfl Kp.true (Y.move rfl rfl) ?_
        refine Jp.y 37 rfl (want_all rfl) rfl rfl Kp.true (Y.add_ rfl rfl rfl (by first | exact wrap_i64 (by omega) (by omega) | rfl)) ?_
        refine Jp.y 7 rfl (want_all rfl) rfl rfl Kp.true (Y.assign rfl rfl) ?_
        rw [show (i : Int) + 1 = ((i + 1 : Nat) : Int) by omega]
        refine Jp.again hLa ⟨i + 1, G, bS, R, _⟩ ⟨hi, hrs, hcx, hg, hrr, hrel, hat⟩ (by show xs.length - (i + 1) < xs.length - i; omega) rfl ⟨rfl, rfl, rfl, rfl, trivial⟩ ⟨rfl, rfl, rfl, rfl, rfl, rfl, rfl, trivial⟩
      · skip
        refine Cd.cond rfl (fun g0 => ?_) (fun g0 => ?_)
        · skip
          refine Cd.drawn [(9, _)] ⟨rfl, trivial⟩ [(0, true), (1, true), (2, true), (4, true), (5, true), (6, true), (3, false), (7, false), (8, true), (9, true)] follows (by kernel_rfl) (fun hrl => ?_)
          refine Jp.q 52 rfl (want_all rfl) rfl rfl (Y.move rfl rfl) ?_
          refine Jp.q 53 rfl (want_all rfl) rfl rfl (by first | exact Y.fieldAddrP rfl rfl Try.underlying41 rfl Try.sizeOf9 (by decide) (show _ + 4 = _ from rfl) | exact Y.fieldAddr rfl rfl Try.underlying41 rfl Try.sizeOf9 (by decide)) ?_
          refine Jp.q 54 rfl (want_all rfl) rfl rfl (by first | exact Y.loadO 9 rfl Try.isAgg9 rfl rfl rfl | exact Y.loadO 5 rfl Try.isAgg9 rfl rfl rfl | exact Y.loadO 6 rfl Try.isAgg9 rfl rfl rfl) ?_
          refine Jp.q 56 rfl (want_all rfl) rfl rfl (Y.move rfl rfl) ?_
          refine Jp.q 57 rfl (want_all rfl) rfl rfl (by first | exact Y.fieldAddrP rfl rfl Try.underlying41 rfl Try.sizeOf9 (by decide) (show _ + 4 = _ from rfl) | exact Y.fieldAddr rfl rfl Try.underlying41 rfl Try.sizeOf9 (by decide)) ?_
          refine Jp.q 58 rfl (want_all rfl) rfl rfl (by first | exact Y.loadO 9 rfl Try.isAgg9 rfl rfl rfl | exact Y.loadO 5 rfl Try.isAgg9 rfl rfl rfl | exact Y.loadO 6 rfl Try.isAgg9 rfl rfl rfl) ?_
          refine Jp.call [1, 3] [1, 3] (open_spec bS G x.s) 55 rfl (want_all rfl) rfl rfl (Runs.fn rfl Try.call9 rfl) (by decide) (by decide) rfl hg ?_
          rintro v10 ρ10 L10 ⟨rfl, rfl, op2, hgp2, hg2, rfl⟩
          refine ⟨rfl, fun hle10 => ⟨(Kp.st ⟨rfl, trivial⟩), ?_⟩⟩
          refine Jp.call [5, 6, 7] [5, 6, 7] (rfOpen_spec bW G.p R x.s hrel) 59 rfl (want_all rfl) rfl rfl (Runs.fn rfl Try.call10 rfl) (by decide) (by decide) rfl hrr ?_
          rintro v11 ρ11 L11 ⟨rfl, rfl, A2, c2, l2, hrel2, rfl⟩
          refine ⟨rfl, fun hle11 => ⟨(Kp.st ⟨rfl, trivial⟩), ?_⟩⟩
          refine Jp.q 60 rfl (want_all rfl) rfl rfl (Y.eql rfl rfl rfl) ?_
          refine Jp.slot 60 rfl (show _ = Value.bool true from congrArg Value.bool (by simp)) ?_
          refine Jp.q 9 rfl (want_all rfl) rfl rfl (Y.assign rfl rfl) ?_
          refine Jp.over rfl hK20 ?_
          exact Cd.meet (hj1 ⟨⟨G.all, G.bu, G.use, G.bo, op2, G.bw, G.out⟩, bS, ⟨R.bu, R.u, A2, c2, l2, R.o1, R.o2⟩, _⟩ ⟨hrs, hcx, hg2, ⟨hrr.use, hrr.input, hrr.files, hrr.o1, hrr.o2⟩, by rw [hgp2]; exact hrel2, by rw [hgp2]; exact (hat.open _).le (by omega)⟩) ⟨rfl, rfl, rfl, rfl, rfl, rfl, trivial⟩ ⟨rfl, rfl, rfl, rfl, rfl, rfl, rfl, rfl, trivial⟩
        · skip
          refine Cd.seq fun K27 hK27 => ?_
          refine Cd.plain [(0, false), (1, false)] rfl rfl ?_
          refine Jp.y 62 rfl (want_all rfl) rfl rfl Kp.true (Y.eql rfl rfl rfl) ?_
          refine Jp.y 61 rfl (want_all rfl) rfl rfl Kp.true (Y.assign rfl rfl) ?_
          refine Jp.done hK27 ?_
          refine Cd.cond rfl (fun g1 => ?_) (fun g1 => ?_)
          · skip
            refine Cd.drawn [(9, _)] ⟨rfl, trivial⟩ [(0, true), (1, true), (2, true), (4, true), (5, true), (6, true), (3, false), (7, false), (8, true), (9, true)] follows (by kernel_rfl) (fun hrl => ?_)
            refine Jp.q 63 rfl (want_all rfl) rfl rfl (Y.move rfl rfl) ?_
            refine Jp.q 64 rfl (want_all rfl) rfl rfl (by first | exact Y.fieldAddrP rfl rfl Try.underlying41 rfl Try.sizeOf3 (by decide) (show _ + 1 = _ from rfl) | exact Y.fieldAddr rfl rfl Try.underlying41 rfl Try.sizeOf3 (by decide)) ?_
            refine Jp.q 65 rfl (want_all rfl) rfl rfl (by first | exact Y.loadO 9 rfl Try.isAgg3 rfl rfl rfl | exact Y.loadO 5 rfl Try.isAgg3 rfl rfl rfl | exact Y.loadO 6 rfl Try.isAgg3 rfl rfl rfl) ?_
            refine Jp.q 67 rfl (want_all rfl) rfl rfl (Y.move rfl rfl) ?_
            refine Jp.q 68 rfl (want_all rfl) rfl rfl (by first | exact Y.fieldAddrP rfl rfl Try.underlying41 rfl Try.sizeOf3 (by decide) (show _ + 1 = _ from rfl) | exact Y.fieldAddr rfl rfl Try.underlying41 rfl Try.sizeOf3 (by decide)) ?_
            refine Jp.q 69 rfl (want_all rfl) rfl rfl (by first | exact Y.loadO 9 rfl Try.isAgg3 rfl rfl rfl | exact Y.loadO 5 rfl Try.isAgg3 rfl rfl rfl | exact Y.loadO 6 rfl Try.isAgg3 rfl rfl rfl) ?_
            refine Jp.call [1, 3] [1, 3] (close_spec bS G x.fd) 66 rfl (want_all rfl) rfl rfl (Runs.fn rfl Try.call11 rfl) (by decide) (by decide) rfl hg ?_
            rintro v10 ρ10 L10 ⟨rfl, rfl, op2, hgp2, hg2, rfl⟩
            refine ⟨rfl, fun hle10 => ⟨(Kp.st ⟨rfl, trivial⟩), ?_⟩⟩
            refine Jp.call [5, 7] [5, 7] (rfClose_spec bW G.p R x.fd hrel hok.nd) 70 rfl (want_all rfl) rfl rfl (Runs.fn rfl Try.call12 rfl) (by decide) (by decide) rfl trivial ?_
            rintro v11 ρ11 L11 ⟨rfl, rfl, A2, c2, l2, hrel2, rfl⟩
            refine ⟨rfl, fun hle11 => ⟨(Kp.st ⟨rfl, trivial⟩), ?_⟩⟩
            refine Jp.q 71 rfl (want_all rfl) rfl rfl (Y.eql rfl rfl rfl) ?_
            refine Jp.slot 71 rfl (show _ = Value.bool true from congrArg Value.bool (by simp)) ?_
            refine Jp.q 9 rfl (want_all rfl) rfl rfl (Y.assign rfl rfl) ?_
            refine Jp.over rfl hK20 ?_
            exact Cd.meet (hj1 ⟨⟨G.all, G.bu, G.use, G.bo, op2, G.bw, G.out⟩, bS, ⟨R.bu, R.u, A2, c2, l2, R.o1, R.o2⟩, _⟩ ⟨hrs, hcx, hg2, ⟨hrr.use, hrr.input, hrr.files, hrr.o1, hrr.o2⟩, by rw [hgp2]; exact hrel2, by rw [hgp2]; exact (hat.close hok.nd _).le (by omega)⟩) ⟨rfl, rfl, rfl, rfl, rfl, rfl, trivial⟩ ⟨rfl, rfl, rfl, rfl, rfl, rfl, rfl, rfl, trivial⟩
          · skip
            refine Cd.seq fun K29 hK29 => ?_
            refine Cd.plain [(0, false), (1, false)] rfl rfl ?_
            refine Jp.y 73 rfl (want_all rfl) rfl rfl Kp.true (Y.eql rfl rfl rfl) ?_
            refine Jp.y 72 rfl (want_all rfl) rfl rfl Kp.true (Y.assign rfl rfl) ?_
            refine Jp.done hK29 ?_
            refine Cd.cond rfl (fun g2 => ?_) (fun g2 => ?_)
            · skip
              refine Cd.seq fun K30 hK30 => ?_
              refine Cd.plain [(0, false), (1, false), (2, false), (3, false), (4, false), (5, false), (6, false), (7, false), (8, false), (9, false), (10, false)] rfl rfl ?_
              refine Jp.y 75 rfl (want_all rfl) rfl rfl Kp.true (Y.move rfl rfl) ?_
              refine Jp.y 76 rfl (want_all rfl) rfl rfl Kp.true (by first | exact Y.fieldAddrP rfl rfl Try.underlying41 rfl Try.sizeOf3 (by decide) (show _ + 1 = _ from rfl) | exact Y.fieldAddr rfl rfl Try.underlying41 rfl Try.sizeOf3 (by decide)) ?_
              refine Jp.y 77 rfl (want_all rfl) rfl rfl Kp.true (by first | exact Y.loadO 9 rfl Try.isAgg3 rfl rfl rfl | exact Y.loadO 5 rfl Try.isAgg3 rfl rfl rfl | exact Y.loadO 6 rfl Try.isAgg3 rfl rfl rfl) ?_
              refine Jp.y 78 rfl (want_all rfl) rfl rfl Kp.true (by first | exact Y.fieldAddrP rfl rfl Try.underlying41 rfl Try.sizeOf3 (by decide) (show _ + 2 = _ from rfl) | exact Y.fieldAddr rfl rfl Try.underlying41 rfl Try.sizeOf3 (by decide)) ?_
              refine Jp.y 79 rfl (want_all rfl) rfl rfl Kp.true (by first | exact Y.loadO 9 rfl Try.isAgg3 rfl rfl rfl | exact Y.loadO 5 rfl Try.isAgg3 rfl rfl rfl | exact Y.loadO 6 rfl Try.isAgg3 rfl rfl rfl) ?_
              refine Jp.call [1, 2, 3] [1, 2, 3, 20] (read_spec bS G x.fd x.n (hat2.atOk hok (by omega))) 80 rfl (want_all rfl) rfl rfl (Runs.fn rfl Try.call13 rfl) (by decide) (by decide) rfl hg ?_
              rintro v10 ρ10 L10 ⟨rfl, use2, op2, A2, c2, hgp2, hg2, rfl, rfl⟩
              refine ⟨rfl, fun hle10 => ⟨Kp.true, ?_⟩⟩
              refine Jp.y 74 rfl (want_all rfl) rfl rfl Kp.true (Y.move rfl rfl) ?_
              refine Jp.y 81 rfl (want_all rfl) rfl rfl Kp.true (Y.extract rfl rfl rfl) ?_
              refine Jp.y 82 rfl (want_all rfl) rfl rfl Kp.true (Y.extract rfl rfl rfl) ?_
              refine Jp.y 10 rfl (want_all rfl) rfl rfl Kp.true (Y.assign rfl rfl) ?_
              refine Jp.y 11 rfl (want_all rfl) rfl rfl Kp.true (Y.assign rfl rfl) ?_
              refine Jp.done hK30 ?_
              refine Cd.seq fun K31 hK31 => ?_
              refine Cd.plain [(0, false), (1, false), (2, false), (3, false), (4, false), (5, false), (6, false), (7, false), (8, false), (9, false), (10, false)] rfl rfl ?_
              refine Jp.y 84 rfl (want_all rfl) rfl rfl Kp.true (Y.move rfl rfl) ?_
              refine Jp.y 85 rfl (want_all rfl) rfl rfl Kp.true (by first | exact Y.fieldAddrP rfl rfl Try.underlying41 rfl Try.sizeOf3 (by decide) (show _ + 1 = _ from rfl) | exact Y.fieldAddr rfl rfl Try.underlying41 rfl Try.sizeOf3 (by decide)) ?_
              refine Jp.y 86 rfl (want_all rfl) rfl rfl Kp.true (by first | exact Y.loadO 9 rfl Try.isAgg3 rfl rfl rfl | exact Y.loadO 5 rfl Try.isAgg3 rfl rfl rfl | exact Y.loadO 6 rfl Try.isAgg3 rfl rfl rfl) ?_
              refine Jp.y 87 rfl (want_all rfl) rfl rfl Kp.true (by first | exact Y.fieldAddrP rfl rfl Try.underlying41 rfl Try.sizeOf3 (by decide) (show _ + 2 = _ from rfl) | exact Y.fieldAddr rfl rfl Try.underlying41 rfl Try.sizeOf3 (by decide)) ?_
              refine Jp.y 88 rfl (want_all rfl) rfl rfl Kp.true (by first | exact Y.loadO 9 rfl Try.isAgg3 rfl rfl rfl | exact Y.loadO 5 rfl Try.isAgg3 rfl rfl rfl | exact Y.loadO 6 rfl Try.isAgg3 rfl rfl rfl) ?_
              refine Jp.call [5, 6, 7] [5, 6, 7, 21] (rfRead_spec bW G.p R x.fd x.n hrel hok hat2) 89 rfl (want_all rfl) rfl rfl (Runs.fn rfl Try.call14 rfl) (by decide) (by decide) rfl hrr ?_
              rintro v11 ρ11 L11 ⟨rfl, A3, c3, u3, l3, hu3, hru3, hrel2, rfl, rfl⟩
              refine ⟨rfl, fun hle11 => ⟨Kp.true, ?_⟩⟩
              refine Jp.y 83 rfl (want_all rfl) rfl rfl Kp.true (Y.move rfl rfl) ?_
              refine Jp.y 90 rfl (want_all rfl) rfl rfl Kp.true (Y.extract rfl rfl rfl) ?_
              refine Jp.y 91 rfl (want_all rfl) rfl rfl Kp.true (Y.extract rfl rfl rfl) ?_
              refine Jp.y 12 rfl (want_all rfl) rfl rfl Kp.true (Y.assign rfl rfl) ?_
              refine Jp.y 13 rfl (want_all rfl) rfl rfl Kp.true (Y.assign rfl rfl) ?_
              refine Jp.done hK31 ?_
              refine Cd.plain [(0, false), (1, false), (2, false), (3, false), (4, false), (5, false), (6, false), (7, false), (8, false), (9, false), (10, false)] rfl rfl ?_
              refine Jp.y 92 rfl (want_all rfl) rfl rfl Kp.true (Y.move rfl rfl) ?_
              refine Jp.y 93 rfl (want_all rfl) rfl rfl Kp.true (Y.move rfl rfl) ?_
              refine Jp.y 94 rfl (want_all rfl) rfl rfl Kp.true (Y.eql rfl rfl rfl) ?_
              refine Jp.slot 94 rfl (show _ = Value.bool true from congrArg Value.bool (by simp)) ?_
              refine Jp.y 95 rfl (want_all rfl) rfl rfl Kp.true (Y.move rfl rfl) ?_
              refine Jp.slot 95 rfl (show _ = Value.bool true from rfl) ?_
              refine Jp.y 96 rfl (want_as rfl rfl rfl rfl) rfl rfl Kp.true (Y.move rfl rfl) ?_
              refine Jp.y 97 rfl (want_as rfl rfl rfl rfl) rfl rfl Kp.true (Y.toStr _ rfl rfl Try.underlying23 Try.underlying9 Try.underlying5 ⟨_, _, rfl⟩ (Src.own 20 rfl)) ?_
              refine Jp.y 98 rfl (want_as rfl rfl rfl rfl) rfl rfl Kp.true (Y.move rfl rfl) ?_
              refine Jp.y 99 rfl (want_as rfl rfl rfl rfl) rfl rfl Kp.true (Y.toStr _ rfl rfl Try.underlying23 Try.underlying9 Try.underlying5 ⟨_, _, rfl⟩ (Src.own 21 rfl)) ?_
              refine Jp.y 100 rfl (want_as rfl rfl rfl rfl) rfl rfl Kp.true (Y.streql rfl rfl rfl) ?_
              refine Jp.slot 100 rfl (show _ = Value.bool true from congrArg Value.bool (by simp)) ?_
              refine Jp.y 101 rfl (want_all rfl) rfl rfl Kp.true (Y.pickT rfl rfl rfl) ?_
              refine Jp.y 9 rfl (want_all rfl) rfl rfl Kp.true (Y.assign rfl rfl) ?_
              refine Jp.over rfl hK20 ?_
              exact Cd.meet (hj1 ⟨⟨G.all, G.bu, use2, G.bo, op2, G.bw, G.out⟩, bS, ⟨R.bu, u3, R.A, R.c, l3, R.o1, R.o2⟩, _⟩ ⟨hrs, hcx, hg2, ⟨hru3, by rw [hu3]; exact hrr.input, by rw [hu3]; exact hrr.files, hrr.o1, hrr.o2⟩, by rw [hgp2]; exact hrel2, by rw [hgp2]; exact (hat.read hok _ _).le (by omega)⟩) ⟨rfl, rfl, rfl, rfl, rfl, rfl, trivial⟩ ⟨rfl, rfl, rfl, rfl, rfl, rfl, rfl, rfl, trivial⟩
            · skip
              refine Cd.seq fun K32 hK32 => ?_
              refine Cd.plain [(0, false), (1, false)] rfl rfl ?_
              refine Jp.y 103 rfl (want_all rfl) rfl rfl Kp.true (Y.eql rfl rfl rfl) ?_
              refine Jp.y 102 rfl (want_all rfl) rfl rfl Kp.true (Y.assign rfl rfl) ?_
              refine Jp.done hK32 ?_
              refine Cd.cond rfl (fun g3 => ?_) (fun g3 => ?_)
              · have hsz : x.s.size = (str x.s).length := rfl
                have hsl : (str x.s).length ≤ 1000000 := by rw [← hsz]; simp only [decide_eq_false_iff_not] at gs; omega
                have hB : Hp.le ρg ρg := Hp.le_refl _
                have hgS := hg
                have hrS := hrr
                have hsS := hrs
                refine Cd.drawnT [(9, _)] ⟨rfl, trivial⟩ 16 (.q 0 (.q 1 (.q 2 (.q 3 (.q 4 (.q 7 (.q 8 (.q 9 (.q 10 (.q 11 (.f 5 (.f 6 (.l 12 (.l 13 (.q 14 (.q 15 .nil)))) 12 (.l 6 (.l 13 (.q 14 (.q 15 .nil))))) 12 (.l 5 (.l 6 (.l 13 (.q 14 (.q 15 .nil)))))))))))))))) follows (by kernel_rfl) (fun hrl => ?_)
                refine JT.q 104 rfl (want_all rfl) rfl rfl (Y.move rfl rfl) ?_
                refine JT.q 105 rfl (want_all rfl) rfl rfl (by first | exact Y.fieldAddrP rfl rfl Try.underlying41 rfl Try.sizeOf3 (by decide) (show _ + 1 = _ from rfl) | exact Y.fieldAddr rfl rfl Try.underlying41 rfl Try.sizeOf3 (by decide)) ?_
                refine JT.q 106 rfl (want_all rfl) rfl rfl (by first | exact Y.loadO 9 rfl Try.isAgg3 rfl rfl rfl | exact Y.loadO 5 rfl Try.isAgg3 rfl rfl rfl | exact Y.loadO 6 rfl Try.isAgg3 rfl rfl rfl) ?_
                refine JT.q 107 rfl (want_all rfl) rfl rfl (by first | exact Y.fieldAddrP rfl rfl Try.underlying41 rfl Try.sizeOf9 (by decide) (show _ + 4 = _ from rfl) | exact Y.fieldAddr rfl rfl Try.underlying41 rfl Try.sizeOf9 (by decide)) ?_
                refine JT.q 108 rfl (want_all rfl) rfl rfl (by first | exact Y.loadO 9 rfl Try.isAgg9 rfl rfl rfl | exact Y.loadO 5 rfl Try.isAgg9 rfl rfl rfl | exact Y.loadO 6 rfl Try.isAgg9 rfl rfl rfl) ?_
                refine JT.q 111 rfl (want_all rfl) rfl rfl (Y.move rfl rfl) ?_
                refine JT.q 112 rfl (want_all rfl) rfl rfl (by first | exact Y.fieldAddrP rfl rfl Try.underlying41 rfl Try.sizeOf3 (by decide) (show _ + 1 = _ from rfl) | exact Y.fieldAddr rfl rfl Try.underlying41 rfl Try.sizeOf3 (by decide)) ?_
                refine JT.q 113 rfl (want_all rfl) rfl rfl (by first | exact Y.loadO 9 rfl Try.isAgg3 rfl rfl rfl | exact Y.loadO 5 rfl Try.isAgg3 rfl rfl rfl | exact Y.loadO 6 rfl Try.isAgg3 rfl rfl rfl) ?_
                refine JT.q 114 rfl (want_all rfl) rfl rfl (by first | exact Y.fieldAddrP rfl rfl Try.underlying41 rfl Try.sizeOf9 (by decide) (show _ + 4 = _ from rfl) | exact Y.fieldAddr rfl rfl Try.underlying41 rfl Try.sizeOf9 (by decide)) ?_
                refine JT.q 115 rfl (want_all rfl) rfl rfl (by first | exact Y.loadO 9 rfl Try.isAgg9 rfl rfl rfl | exact Y.loadO 5 rfl Try.isAgg9 rfl rfl rfl | exact Y.loadO 6 rfl Try.isAgg9 rfl rfl rfl) ?_
                refine JT.fork ?_ ?_
                · skip
                  refine JT.loud ?_
                  refine Jp.bytes 109 30 rfl (want_all rfl) rfl rfl rfl Try.underlying9 Try.underlying23 Try.underlying5 rfl (by omega) fun b30 c30 => ⟨Kp.true, ?_⟩
                  refine JT.tail (KT.st' ⟨rfl, trivial⟩ hB hcx) ?_
                  refine JT.freeze (j := 30) rfl (RdS.up _ _ _ _ _) fun ρ30 hle30 hA30 => ?_
                  have hB := Hp.le_trans hB hle30
                  have hg := RdFs.up _ _ _ hle30 hg
                  have hrr := RdRf.up _ _ _ hle30 hrr
                  have hrs := RdActFs.up _ _ _ hle30 hrs
                  refine JT.fork ?_ ?_
                  · skip
                    refine JT.loud ?_
                    refine Jp.call [1, 3, 4] [1, 3, 4] (write_spec bS G x.fd ⟨some ⟨b30, 0, none⟩, c30, str x.s⟩ hsl) 110 rfl (want_all rfl) rfl rfl (Runs.fn rfl Try.call15 rfl) (by decide) (by decide) rfl ⟨hg, hA30⟩ ?_
                    rintro v10 ρ10 L10 ⟨rfl, out2, hgp2, hg2, rfl⟩
                    refine ⟨rfl, fun hle10 => ⟨Kp.true, ?_⟩⟩
                    refine JT.tail (KT.st' ⟨rfl, trivial⟩ (Hp.le_trans hB hle10) hcx) ?_
                    have hB := Hp.le_trans hB hle10
                    have hrr := RdRf.up _ _ _ hle10 hrr
                    have hrs := RdActFs.up _ _ _ hle10 hrs
                    have hg := RdFs.up _ _ _ hle10 hg
                    refine JT.loud ?_
                    refine Jp.bytes 116 31 rfl (want_all rfl) rfl rfl rfl Try.underlying9 Try.underlying23 Try.underlying5 rfl (by omega) fun b31 c31 => ⟨Kp.true, ?_⟩
                    refine JT.tail (KT.st' ⟨rfl, trivial⟩ hB hcx) ?_
                    refine JT.freeze (j := 31) rfl (RdS.up _ _ _ _ _) fun ρ31 hle31 hA31 => ?_
                    have hB := Hp.le_trans hB hle31
                    have hg := RdFs.up _ _ _ hle31 hg
                    have hrr := RdRf.up _ _ _ hle31 hrr
                    have hrs := RdActFs.up _ _ _ hle31 hrs
                    refine JT.loud ?_
                    refine Jp.call [5, 7] [5, 7] (rfWrite_spec bW G.p R x.fd ⟨some ⟨b31, 0, none⟩, c31, str x.s⟩ hrel hok hsl) 117 rfl (want_all rfl) rfl rfl (Runs.fn rfl Try.call16 rfl) (by decide) (by decide) rfl ⟨hrr, hA31⟩ ?_
                    rintro v11 ρ11 L11 ⟨rfl, o1', o2', hrel2, ho1, ho2, rfl⟩
                    refine ⟨rfl, fun hle11 => ⟨Kp.true, ?_⟩⟩
                    refine JT.tail (KT.st' ⟨rfl, trivial⟩ (Hp.le_trans hB hle11) hcx) ?_
                    have hB := Hp.le_trans hB hle11
                    have hrr := RdRf.up _ _ _ hle11 hrr
                    have hrs := RdActFs.up _ _ _ hle11 hrs
                    refine JT.q 118 rfl (want_all rfl) rfl rfl (Y.eql rfl rfl rfl) ?_
                    refine JT.slot 118 rfl (show _ = Value.bool true from congrArg Value.bool (by simp)) ?_
                    refine JT.q 9 rfl (want_all rfl) rfl rfl (Y.assign rfl rfl) ?_
                    refine JT.nil ?_
                    refine Jp.over rfl hK20 ?_
                    exact Cd.meet (hj1 ⟨⟨G.all, G.bu, G.use, G.bo, G.op, G.bw, out2⟩, bS, ⟨R.bu, R.u, R.A, R.c, R.l, o1', o2'⟩, _⟩ ⟨hrs, Hp.le_trans hcx hB, (RdFs.up _ _ _ (Hp.le_trans hle31 hle11) hg2), ⟨hrr.use, hrr.input, hrr.files, ho1, ho2⟩, by rw [hgp2]; exact hrel2, by rw [hgp2]; exact (hat.write _ _).le (by omega)⟩) ⟨rfl, rfl, rfl, rfl, rfl, rfl, trivial⟩ ⟨rfl, rfl, rfl, rfl, rfl, rfl, rfl, rfl, trivial⟩
                  · skip
                    refine JT.loud ?_
                    refine Jp.bytes 116 31 rfl (want_all rfl) rfl rfl rfl Try.underlying9 Try.underlying23 Try.underlying5 rfl (by omega) fun b31 c31 => ⟨Kp.true, ?_⟩
                    refine JT.tail (KT.st' ⟨rfl, trivial⟩ hB hcx) ?_
                    refine JT.freeze (j := 31) rfl (RdS.up _ _ _ _ _) fun ρ31 hle31 hA31 => ?_
                    have hB := Hp.le_trans hB hle31
                    have hg := RdFs.up _ _ _ hle31 hg
                    have hrr := RdRf.up _ _ _ hle31 hrr
                    have hrs := RdActFs.up _ _ _ hle31 hrs
                    refine JT.loud ?_
                    refine Jp.call [1, 3, 4] [1, 3, 4] (write_spec bS G x.fd ⟨some ⟨b30, 0, none⟩, c30, str x.s⟩ hsl) 110 rfl (want_all rfl) rfl rfl (Runs.fn rfl Try.call15 rfl) (by decide) (by decide) rfl ⟨hg, (RdS.up _ _ _ _ _ _ _ hle31 hA30)⟩ ?_
                    rintro v10 ρ10 L10 ⟨rfl, out2, hgp2, hg2, rfl⟩
                    refine ⟨rfl, fun hle10 => ⟨Kp.true, ?_⟩⟩
                    refine JT.tail (KT.st' ⟨rfl, trivial⟩ (Hp.le_trans hB hle10) hcx) ?_
                    have hB := Hp.le_trans hB hle10
                    have hrr := RdRf.up _ _ _ hle10 hrr
                    have hrs := RdActFs.up _ _ _ hle10 hrs
                    refine JT.loud ?_
                    refine Jp.call [5, 7] [5, 7] (rfWrite_spec bW G.p R x.fd ⟨some ⟨b31, 0, none⟩, c31, str x.s⟩ hrel hok hsl) 117 rfl (want_all rfl) rfl rfl (Runs.fn rfl Try.call16 rfl) (by decide) (by decide) rfl ⟨hrr, (RdS.up _ _ _ _ _ _ _ hle10 hA31)⟩ ?_
                    rintro v11 ρ11 L11 ⟨rfl, o1', o2', hrel2, ho1, ho2, rfl⟩
                    refine ⟨rfl, fun hle11 => ⟨Kp.true, ?_⟩⟩
                    refine JT.tail (KT.st' ⟨rfl, trivial⟩ (Hp.le_trans hB hle11) hcx) ?_
                    have hB := Hp.le_trans hB hle11
                    have hrr := RdRf.up _ _ _ hle11 hrr
                    have hrs := RdActFs.up _ _ _ hle11 hrs
                    refine JT.q 118 rfl (want_all rfl) rfl rfl (Y.eql rfl rfl rfl) ?_
                    refine JT.slot 118 rfl (show _ = Value.bool true from congrArg Value.bool (by simp)) ?_
                    refine JT.q 9 rfl (want_all rfl) rfl rfl (Y.assign rfl rfl) ?_
                    refine JT.nil ?_
                    refine Jp.over rfl hK20 ?_
                    exact Cd.meet (hj1 ⟨⟨G.all, G.bu, G.use, G.bo, G.op, G.bw, out2⟩, bS, ⟨R.bu, R.u, R.A, R.c, R.l, o1', o2'⟩, _⟩ ⟨hrs, Hp.le_trans hcx hB, (RdFs.up _ _ _ hle11 hg2), ⟨hrr.use, hrr.input, hrr.files, ho1, ho2⟩, by rw [hgp2]; exact hrel2, by rw [hgp2]; exact (hat.write _ _).le (by omega)⟩) ⟨rfl, rfl, rfl, rfl, rfl, rfl, trivial⟩ ⟨rfl, rfl, rfl, rfl, rfl, rfl, rfl, rfl, trivial⟩
                · skip
                  refine JT.loud ?_
                  refine Jp.bytes 116 31 rfl (want_all rfl) rfl rfl rfl Try.underlying9 Try.underlying23 Try.underlying5 rfl (by omega) fun b31 c31 => ⟨Kp.true, ?_⟩
                  refine JT.tail (KT.st' ⟨rfl, trivial⟩ hB hcx) ?_
                  refine JT.freeze (j := 31) rfl (RdS.up _ _ _ _ _) fun ρ31 hle31 hA31 => ?_
                  have hB := Hp.le_trans hB hle31
                  have hg := RdFs.up _ _ _ hle31 hg
                  have hrr := RdRf.up _ _ _ hle31 hrr
                  have hrs := RdActFs.up _ _ _ hle31 hrs
                  refine JT.loud ?_
                  refine Jp.bytes 109 30 rfl (want_all rfl) rfl rfl rfl Try.underlying9 Try.underlying23 Try.underlying5 rfl (by omega) fun b30 c30 => ⟨Kp.true, ?_⟩
                  refine JT.tail (KT.st' ⟨rfl, trivial⟩ hB hcx) ?_
                  refine JT.freeze (j := 30) rfl (RdS.up _ _ _ _ _) fun ρ30 hle30 hA30 => ?_
                  have hB := Hp.le_trans hB hle30
                  have hg := RdFs.up _ _ _ hle30 hg
                  have hrr := RdRf.up _ _ _ hle30 hrr
                  have hrs := RdActFs.up _ _ _ hle30 hrs
                  refine JT.loud ?_
                  refine Jp.call [1, 3, 4] [1, 3, 4] (write_spec bS G x.fd ⟨some ⟨b30, 0, none⟩, c30, str x.s⟩ hsl) 110 rfl (want_all rfl) rfl rfl (Runs.fn rfl Try.call15 rfl) (by decide) (by decide) rfl ⟨hg, hA30⟩ ?_
                  rintro v10 ρ10 L10 ⟨rfl, out2, hgp2, hg2, rfl⟩
                  refine ⟨rfl, fun hle10 => ⟨Kp.true, ?_⟩⟩
                  refine JT.tail (KT.st' ⟨rfl, trivial⟩ (Hp.le_trans hB hle10) hcx) ?_
                  have hB := Hp.le_trans hB hle10
                  have hrr := RdRf.up _ _ _ hle10 hrr
                  have hrs := RdActFs.up _ _ _ hle10 hrs
                  refine JT.loud ?_
                  refine Jp.call [5, 7] [5, 7] (rfWrite_spec bW G.p R x.fd ⟨some ⟨b31, 0, none⟩, c31, str x.s⟩ hrel hok hsl) 117 rfl (want_all rfl) rfl rfl (Runs.fn rfl Try.call16 rfl) (by decide) (by decide) rfl ⟨hrr, (RdS.up _ _ _ _ _ _ _ (Hp.le_trans hle30 hle10) hA31)⟩ ?_
                  rintro v11 ρ11 L11 ⟨rfl, o1', o2', hrel2, ho1, ho2, rfl⟩
                  refine ⟨rfl, fun hle11 => ⟨Kp.true, ?_⟩⟩
                  refine JT.tail (KT.st' ⟨rfl, trivial⟩ (Hp.le_trans hB hle11) hcx) ?_
                  have hB := Hp.le_trans hB hle11
                  have hrr := RdRf.up _ _ _ hle11 hrr
                  have hrs := RdActFs.up _ _ _ hle11 hrs
                  refine JT.q 118 rfl (want_all rfl) rfl rfl (Y.eql rfl rfl rfl) ?_
                  refine JT.slot 118 rfl (show _ = Value.bool true from congrArg Value.bool (by simp)) ?_
                  refine JT.q 9 rfl (want_all rfl) rfl rfl (Y.assign rfl rfl) ?_
                  refine JT.nil ?_
                  refine Jp.over rfl hK20 ?_
                  exact Cd.meet (hj1 ⟨⟨G.all, G.bu, G.use, G.bo, G.op, G.bw, out2⟩, bS, ⟨R.bu, R.u, R.A, R.c, R.l, o1', o2'⟩, _⟩ ⟨hrs, Hp.le_trans hcx hB, (RdFs.up _ _ _ hle11 hg2), ⟨hrr.use, hrr.input, hrr.files, ho1, ho2⟩, by rw [hgp2]; exact hrel2, by rw [hgp2]; exact (hat.write _ _).le (by omega)⟩) ⟨rfl, rfl, rfl, rfl, rfl, rfl, trivial⟩ ⟨rfl, rfl, rfl, rfl, rfl, rfl, rfl, rfl, trivial⟩
              · skip
                refine Cd.seq fun K33 hK33 => ?_
                refine Cd.plain [(0, false), (1, false)] rfl rfl ?_
                refine Jp.y 120 rfl (want_all rfl) rfl rfl Kp.true (Y.eql rfl rfl rfl) ?_
                refine Jp.y 119 rfl (want_all rfl) rfl rfl Kp.true (Y.assign rfl rfl) ?_
                refine Jp.done hK33 ?_
                refine Cd.cond rfl (fun g4 => ?_) (fun g4 => ?_)
                · skip
                  refine Cd.drawn [(9, _)] ⟨rfl, trivial⟩ [(0, true), (1, true), (2, true), (3, true), (4, true), (5, true), (6, true), (8, true), (9, true), (10, true), (11, true), (12, true), (13, true), (14, true), (7, false), (15, false), (16, true), (17, true)] follows (by kernel_rfl) (fun hrl => ?_)
                  refine Jp.q 121 rfl (want_all rfl) rfl rfl (Y.move rfl rfl) ?_
                  refine Jp.q 122 rfl (want_all rfl) rfl rfl (by first | exact Y.fieldAddrP rfl rfl Try.underlying41 rfl Try.sizeOf3 (by decide) (show _ + 1 = _ from rfl) | exact Y.fieldAddr rfl rfl Try.underlying41 rfl Try.sizeOf3 (by decide)) ?_
                  refine Jp.q 123 rfl (want_all rfl) rfl rfl (by first | exact Y.loadO 9 rfl Try.isAgg3 rfl rfl rfl | exact Y.loadO 5 rfl Try.isAgg3 rfl rfl rfl | exact Y.loadO 6 rfl Try.isAgg3 rfl rfl rfl) ?_
                  refine Jp.q 124 rfl (want_all rfl) rfl rfl (by first | exact Y.fieldAddrP rfl rfl Try.underlying41 rfl Try.sizeOf21 (by decide) (show _ + 3 = _ from rfl) | exact Y.fieldAddr rfl rfl Try.underlying41 rfl Try.sizeOf21 (by decide)) ?_
                  refine Jp.q 125 rfl (want_all rfl) rfl rfl (by first | exact Y.loadO 9 rfl Try.isAgg21 rfl rfl rfl | exact Y.loadO 5 rfl Try.isAgg21 rfl rfl rfl | exact Y.loadO 6 rfl Try.isAgg21 rfl rfl rfl) ?_
                  refine Jp.q 126 rfl (want_all rfl) rfl rfl (by first | exact Y.fieldAddrP rfl rfl Try.underlying41 rfl Try.sizeOf3 (by decide) (show _ + 2 = _ from rfl) | exact Y.fieldAddr rfl rfl Try.underlying41 rfl Try.sizeOf3 (by decide)) ?_
                  refine Jp.q 127 rfl (want_all rfl) rfl rfl (by first | exact Y.loadO 9 rfl Try.isAgg3 rfl rfl rfl | exact Y.loadO 5 rfl Try.isAgg3 rfl rfl rfl | exact Y.loadO 6 rfl Try.isAgg3 rfl rfl rfl) ?_
                  refine Jp.q 129 rfl (want_all rfl) rfl rfl (Y.move rfl rfl) ?_
                  refine Jp.q 130 rfl (want_all rfl) rfl rfl (by first | exact Y.fieldAddrP rfl rfl Try.underlying41 rfl Try.sizeOf3 (by decide) (show _ + 1 = _ from rfl) | exact Y.fieldAddr rfl rfl Try.underlying41 rfl Try.sizeOf3 (by decide)) ?_
                  refine Jp.q 131 rfl (want_all rfl) rfl rfl (by first | exact Y.loadO 9 rfl Try.isAgg3 rfl rfl rfl | exact Y.loadO 5 rfl Try.isAgg3 rfl rfl rfl | exact Y.loadO 6 rfl Try.isAgg3 rfl rfl rfl) ?_
                  refine Jp.q 132 rfl (want_all rfl) rfl rfl (by first | exact Y.fieldAddrP rfl rfl Try.underlying41 rfl Try.sizeOf21 (by decide) (show _ + 3 = _ from rfl) | exact Y.fieldAddr rfl rfl Try.underlying41 rfl Try.sizeOf21 (by decide)) ?_
                  refine Jp.q 133 rfl (want_all rfl) rfl rfl (by first | exact Y.loadO 9 rfl Try.isAgg21 rfl rfl rfl | exact Y.loadO 5 rfl Try.isAgg21 rfl rfl rfl | exact Y.loadO 6 rfl Try.isAgg21 rfl rfl rfl) ?_
                  refine Jp.q 134 rfl (want_all rfl) rfl rfl (by first | exact Y.fieldAddrP rfl rfl Try.underlying41 rfl Try.sizeOf3 (by decide) (show _ + 2 = _ from rfl) | exact Y.fieldAddr rfl rfl Try.underlying41 rfl Try.sizeOf3 (by decide)) ?_
                  refine Jp.q 135 rfl (want_all rfl) rfl rfl (by first | exact Y.loadO 9 rfl Try.isAgg3 rfl rfl rfl | exact Y.loadO 5 rfl Try.isAgg3 rfl rfl rfl | exact Y.loadO 6 rfl Try.isAgg3 rfl rfl rfl) ?_
                  refine Jp.call [1, 3] [1, 3] (seek_spec bS G x.fd x.off x.n (wf_i32 hoff) (hat2.atOk hok (by omega))) 128 rfl (want_all rfl) rfl rfl (Runs.fn rfl Try.call17 rfl) (by decide) (by decide) rfl hg ?_
                  rintro v10 ρ10 L10 ⟨rfl, rfl, op2, hgp2, hg2, rfl⟩
                  refine ⟨rfl, fun hle10 => ⟨(Kp.st ⟨rfl, trivial⟩), ?_⟩⟩
                  refine Jp.call [5, 6, 7] [5, 6, 7] (rfSeek_spec bW G.p R x.fd x.off x.n hrel hat2 hok.op (wf_i32 hoff)) 136 rfl (want_all rfl) rfl rfl (Runs.fn rfl Try.call18 rfl) (by decide) (by decide) rfl hrr ?_
                  rintro v11 ρ11 L11 ⟨rfl, rfl, l2, hrel2, rfl⟩
                  refine ⟨rfl, fun hle11 => ⟨(Kp.st ⟨rfl, trivial⟩), ?_⟩⟩
                  refine Jp.q 137 rfl (want_all rfl) rfl rfl (Y.eql rfl rfl rfl) ?_
                  refine Jp.slot 137 rfl (show _ = Value.bool true from congrArg Value.bool (by simp)) ?_
                  refine Jp.q 9 rfl (want_all rfl) rfl rfl (Y.assign rfl rfl) ?_
                  refine Jp.over rfl hK20 ?_
                  exact Cd.meet (hj1 ⟨⟨G.all, G.bu, G.use, G.bo, op2, G.bw, G.out⟩, bS, ⟨R.bu, R.u, R.A, R.c, l2, R.o1, R.o2⟩, _⟩ ⟨hrs, hcx, hg2, ⟨hrr.use, hrr.input, hrr.files, hrr.o1, hrr.o2⟩, by rw [hgp2]; exact hrel2, by rw [hgp2]; exact (hat.seek hok _ (wf_i32 hoff) _).le (by omega)⟩) ⟨rfl, rfl, rfl, rfl, rfl, rfl, trivial⟩ ⟨rfl, rfl, rfl, rfl, rfl, rfl, rfl, rfl, trivial⟩
                · skip
                  refine Cd.plain [(0, false), (1, false), (2, false)] rfl rfl ?_
                  refine Jp.y 48 rfl (want_all rfl) rfl rfl Kp.true (Y.move rfl rfl) ?_
                  refine Jp.call [1, 2, 3, 4] [10, 11, 12, 13, 1, 2, 3, 4] (filesCopy_spec bS G) 49 rfl (want_all rfl) rfl rfl (Runs.fn rfl Try.call19 rfl) (by decide) (by decide) rfl hg ?_
                  rintro v10 ρ10 L10 ⟨rfl, b', bu', bo', bw', rfl, rfl⟩
                  refine ⟨rfl, fun hle10 => ⟨Kp.true, ?_⟩⟩
                  refine Jp.y 5 rfl (want_all rfl) rfl rfl Kp.true (Y.assign rfl rfl) ?_
                  refine Jp.over rfl hK20 ?_
                  exact Cd.meet (hj1 ⟨⟨G.all, bu', G.use, bo', G.op, bw', G.out⟩, b', R, _⟩ ⟨hrs, hcx, ⟨hg.all, hg.use, hg.op, hg.out, hg.ok⟩, hrr, hrel, hat.le (by omega)⟩) ⟨rfl, rfl, rfl, rfl, rfl, rfl, trivial⟩ ⟨rfl, rfl, rfl, rfl, rfl, rfl, rfl, rfl, trivial⟩
  · skip
    refine Cd.exit rfl hK10 ?_
    refine Cd.seq fun K35 hK35 => ?_
    refine Cd.plain [(0, false)] rfl rfl ?_
    refine Jp.y 4 rfl (want_all rfl) rfl rfl Kp.true (Y.assign rfl rfl) ?_
    refine Jp.done hK35 ?_
    refine Cd.ret [] rfl (res1 rfl rfl) trivial ⟨rfl, rfl⟩
end Go.Proofs.Ytogkncmhonomdaa
