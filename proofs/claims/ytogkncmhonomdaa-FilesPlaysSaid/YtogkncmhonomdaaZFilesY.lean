import Derived.Test.YtogkncmhonomdaaZFilesX
import Derived.Test.YtogkncmhonomdaaZComS
set_option linter.unusedVariables false
set_option linter.unusedSimpArgs false
set_option maxRecDepth 100000
namespace Go.Proofs.Ytogkncmhonomdaa
open Go
def fdIx (l : List (Int × Int × Nat)) (fd : Int) : Nat := l.findIdx fun x => x.1 == fd
def fdI (l : List (Int × Int × Nat)) (fd : Int) : Int := if fdIx l fd < l.length then (fdIx l fd : Int) else -1
theorem fdIx_le (l : List (Int × Int × Nat)) (fd : Int) : fdIx l fd ≤ l.length := List.findIdx_le_length
theorem fdIx_find (l : List (Int × Int × Nat)) (fd : Int) : (l.find? fun x => x.1 == fd) = l[fdIx l fd]? := List.find?_eq_getElem?_findIdx
theorem fdIx_step : ∀ (l : List (Int × Int × Nat)) (k : Int) (i : Nat), i ≤ fdIx l k → ∀ x, l[i]? = some x → (x.1 = k ↔ i = fdIx l k)
  | [], k, i, _, x, h => by simp at h
  | y :: l, k, 0, _, x, h => by
    simp at h; subst h
    unfold fdIx
    rw [List.findIdx_cons]
    by_cases e : y.1 = k
    · simp [e]
    · have : (y.1 == k) = false := by simpa using e
      rw [this]; simp [e]
  | y :: l, k, i + 1, hi, x, h => by
    unfold fdIx at hi ⊢
    rw [List.findIdx_cons] at hi ⊢
    by_cases e : y.1 = k
    · simp [e] at hi
    · have e2 : (y.1 == k) = false := by simpa using e
      rw [e2] at hi ⊢
      simp only [cond_false] at hi ⊢
      have := fdIx_step l k i (by unfold fdIx; omega) x (by simpa using h)
      unfold fdIx at this
      omega
theorem rfFind_spec (b : Nat) (r : RfG) (fd : Int) (hl : r.l.length ≤ 16) : Spec Try.prog 29 #[.pointer (some ⟨b, 0, none⟩), .int .i64 fd] (fun _ => True) [(0, RfPt b r), (1, RfOpen r)]
    (fun ρ ρ' v L => ρ' = ρ ∧ v = .int .i64 (fdI r.l fd) ∧ L = [(0, RfPt b r), (1, RfOpen r)]) := by
  obtain ⟨bu, u, A, c, l, o1, o2⟩ := r
  dsimp only at hl
  have hp : RfPt b ⟨bu, u, A, c, l, o1, o2⟩ = Pt b (.cells #[.pointer (some ⟨bu, 0, none⟩), .slice A l.length c, o1.v, o2.v] 60) := rfl
  have hq : RfOpen ⟨bu, u, A, c, l, o1, o2⟩ = OwnS 74 3 A l.length c (l.flatMap openC) := rfl
  rw [hp, hq]
  dsimp only
  refine Spec.of 26 Try.func29 rfl Try.ntmps29 [(0, _), (1, _)] rfl rfl ?_
  intro cx ρ hr h0
  have hrows := openC_rows l
  have hfl := fdIx_le l fd
  have hstep := fdIx_step l fd
  unfold fdI
  obtain ⟨f, hf⟩ : ∃ f, fdIx l fd = f := ⟨_, rfl⟩
  rw [hf] at hfl hstep ⊢
  refine Cd.seq fun K1 hK1 => ?_
  refine Cd.plain [(0, false)] rfl rfl ?_
  refine Jp.y 4 rfl (want_all rfl) rfl rfl Kp.true (Y.assign rfl rfl) ?_
  refine Jp.done hK1 ?_
  refine Cd.seq fun K2 hK2 => ?_
  refine Cd.seq fun K3 hK3 => ?_
  refine Cd.plain [(0, false)] rfl rfl ?_
  refine Jp.y 5 rfl (want_all rfl) rfl rfl Kp.true (Y.assign rfl rfl) ?_
  refine Jp.done hK3 ?_
  refine Cd.block ?_
  refine Cd.loopK (G := Nat) (fun i => i ≤ f) (fun i => f - i) (fun _ => _) (fun i => [(5, .int .i64 (i : Int))]) [(0, _), (1, _)] (fun i => []) [(0, _), (1, _)] 0 (Nat.zero_le _) rfl ⟨rfl, trivial⟩ ⟨rfl, rfl, trivial⟩ trivial ⟨rfl, rfl, trivial⟩ (fun g KLa hok hLa => ?_)
  obtain ⟨i, hi⟩ : ∃ i, i = g := ⟨_, rfl⟩
  rw [← hi] at hok ⊢
  refine Cd.seq fun K4 hK4 => ?_
  refine Cd.seq fun K5 hK5 => ?_
  refine Cd.plain [(0, false), (1, false), (2, false), (3, false), (4, false), (5, false), (6, false)] rfl rfl ?_
  refine Jp.y 6 rfl (want_all rfl) rfl rfl Kp.true (Y.move rfl rfl) ?_
  refine Jp.y 7 rfl (want_all rfl) rfl rfl Kp.true (Y.move rfl rfl) ?_
  refine Jp.y 8 rfl (want_all rfl) rfl rfl Kp.true (Y.nilCheck rfl rfl) ?_
  refine Jp.y 9 rfl (want_all rfl) rfl rfl Kp.true (by first | exact Y.fieldAddrP rfl rfl Try.underlying60 rfl Try.sizeOf57 (by decide) (show _ + 1 = _ from rfl) | exact Y.fieldAddr rfl rfl Try.underlying60 rfl Try.sizeOf57 (by decide)) ?_
  refine Jp.y 10 rfl (want_all rfl) rfl rfl Kp.true (Y.loadO 0 rfl Try.isAgg57 rfl rfl rfl) ?_
  refine Jp.y 11 rfl (want_all rfl) rfl rfl Kp.true (Y.lenslice rfl Try.underlying57 rfl) ?_
  refine Jp.y 12 rfl (want_all rfl) rfl rfl Kp.true (Y.lss rfl rfl rfl) ?_
  refine Jp.done hK5 ?_
  refine Cd.cond rfl (fun ga => ?_) (fun ga => ?_)
  · have hil : i < l.length := by simp at ga; omega
    have hx : l[i]? = some l[i] := List.getElem?_eq_getElem hil
    obtain ⟨y, hy⟩ : ∃ y, y = l[i] := ⟨_, rfl⟩
    rw [← hy] at hx
    have hst := hstep i (by omega) y hx
    refine Cd.ownAt 1 rfl (show 0 < l.length by omega) ?_
    rintro b1 rfl
    have c0 := OwnS.hasC (e := 74) (m := 3) (k := l.length) (c := c) (ad := ⟨b1, 0, none⟩) (rw_get hrows hx (show (openC y)[0]? = some (.int .i64 y.1) from rfl))
    refine Cd.skip hK4 ?_
    refine Cd.seq fun K6 hK6 => ?_
    refine Cd.block ?_
    refine Cd.seq fun K7 hK7 => ?_
    refine Cd.plain [(0, false), (1, false), (2, false), (3, false), (4, false), (5, false), (6, false), (7, false), (8, false), (9, false)] rfl rfl ?_
    refine Jp.y 15 rfl (want_all rfl) rfl rfl Kp.true (Y.move rfl rfl) ?_
    refine Jp.y 16 rfl (want_all rfl) rfl rfl Kp.true (Y.nilCheck rfl rfl) ?_
    refine Jp.y 17 rfl (want_all rfl) rfl rfl Kp.true (by first | exact Y.fieldAddrP rfl rfl Try.underlying60 rfl Try.sizeOf57 (by decide) (show _ + 1 = _ from rfl) | exact Y.fieldAddr rfl rfl Try.underlying60 rfl Try.sizeOf57 (by decide)) ?_
    refine Jp.y 18 rfl (want_all rfl) rfl rfl Kp.true (by first | exact Y.loadO 0 rfl Try.isAgg57 rfl rfl rfl | exact Y.loadC 1 rfl Try.isAgg57 rfl rfl c0) ?_
    refine Jp.y 19 rfl (want_all rfl) rfl rfl Kp.true (Y.move rfl rfl) ?_
    refine Jp.y 20 rfl (want_all rfl) rfl rfl Kp.true (Y.indexAddr (q := i * 3) rfl rfl rfl Try.underlying57 Try.sizeOf74 (by omega) (by omega) (by omega)) ?_
    refine Jp.y 21 rfl (want_all rfl) rfl rfl Kp.true (by first | exact Y.fieldAddrP rfl rfl Try.underlying74 rfl Try.sizeOf3 (by decide) (show _ + 0 = _ from rfl) | exact Y.fieldAddr rfl rfl Try.underlying74 rfl Try.sizeOf3 (by decide)) ?_
    refine Jp.y 22 rfl (want_all rfl) rfl rfl Kp.true (by first | exact Y.loadO 0 rfl Try.isAgg3 rfl rfl rfl | exact Y.loadC 1 rfl Try.isAgg3 rfl rfl c0) ?_
    refine Jp.y 23 rfl (want_all rfl) rfl rfl Kp.true (Y.move rfl rfl) ?_
    refine Jp.y 24 rfl (want_all rfl) rfl rfl Kp.true (Y.eql rfl rfl rfl) ?_
    refine Jp.done hK7 ?_
    refine Cd.cond rfl (fun gb => ?_) (fun gb => ?_)
    · have hib : i = f := hst.1 (by simpa using gb)
      rw [hib]
      refine Cd.seq fun K8 hK8 => ?_
      refine Cd.plain [(0, false), (1, false)] rfl rfl ?_
      refine Jp.y 25 rfl (want_all rfl) rfl rfl Kp.true (Y.move rfl rfl) ?_
      refine Jp.y 4 rfl (want_all rfl) rfl rfl Kp.true (Y.assign rfl rfl) ?_
      refine Jp.done hK8 ?_
      refine Cd.ret [(0, _), (1, _)] rfl (res1 rfl rfl) ⟨rfl, rfl, trivial⟩ ⟨rfl, by rw [if_pos (by omega)], rfl⟩
    · have hib : i ≠ f := fun e => by
        have := hst.2 e
        simp [this] at gb
      refine Cd.over rfl hK6 ?_
      refine Cd.plain [(0, false), (1, false), (2, false)] rfl rfl ?_
      refine Jp.y 13 rfl (want_all rfl) rfl rfl Kp.true (Y.move rfl rfl) ?_
      refine Jp.y 14 rfl (want_all rfl) rfl rfl Kp.true (Y.add_ rfl rfl rfl (by first | exact wrap_i64 (by omega) (by omega) | rfl)) ?_
      refine Jp.y 5 rfl (want_all rfl) rfl rfl Kp.true (Y.assign rfl rfl) ?_
      rw [show (i : Int) + 1 = ((i + 1 : Nat) : Int) by omega]
      refine Jp.again hLa (i + 1) (by omega) (by omega) rfl ⟨rfl, rfl, rfl, trivial⟩ ⟨rfl, rfl, trivial⟩
  · have hil : ¬ i < l.length := by simpa using ga
    refine Cd.exit rfl hK2 ?_
    refine Cd.seq fun K9 hK9 => ?_
    refine Cd.plain [(0, false)] rfl rfl ?_
    refine Jp.y 4 rfl (want_all rfl) rfl rfl Kp.true (Y.assign rfl rfl) ?_
    refine Jp.done hK9 ?_
    refine Cd.ret [(0, _), (1, _)] rfl (res1 rfl rfl) ⟨rfl, rfl, trivial⟩ ⟨rfl, by rw [if_neg (by omega)], rfl⟩
theorem rfData_spec (b : Nat) (r : RfG) (x : Int × Int × Nat) (hx : EntOk r.u.f.files.xs.length x) (h2 : x.2.1 ≠ -2) (hl : r.u.f.files.xs.length ≤ 8) : Spec Try.prog 32 #[.pointer (some ⟨b, 0, none⟩), .agg (openC x).toArray] (RdRf r) [(0, RfPt b r), (1, RefPt r.bu r.u)]
    (fun ρ ρ' v L => ρ' = ρ ∧ v = (dataOf r.u x).v ∧ L = [(0, RfPt b r), (1, RefPt r.bu r.u)]) := by
  obtain ⟨bu, ⟨⟨args, input, short, random, clock, ⟨Af, cf, xf⟩⟩, k1, k2, k3⟩, A, c, l, o1, o2⟩ := r
  obtain ⟨fd, fi, at'⟩ := x
  have hk := hx.kind
  dsimp only at hk h2 hl
  dsimp only [RfPt, RfG.cells, RefPt, RefG.cells, openC]
  refine Spec.of 29 Try.func32 rfl Try.ntmps32 [(0, _), (1, _)] rfl rfl ?_
  intro cx ρ hr h0
  have hfr := hr.files
  dsimp only at hfr
  refine Cd.seq fun K10 hK10 => ?_
  refine Cd.plain [(0, false), (1, false)] rfl rfl ?_
  refine Jp.box 7 3 rfl (want_all rfl) rfl rfl rfl rfl fun b7 => ⟨Kp.true, ?_⟩
  refine Jp.y 4 rfl (want_all rfl) rfl rfl Kp.true (Y.assign rfl rfl) ?_
  refine Jp.done hK10 ?_
  refine Cd.seq fun K11 hK11 => ?_
  refine Cd.seq fun K12 hK12 => ?_
  refine Cd.plain [(0, false), (1, false), (2, false)] rfl rfl ?_
  refine Jp.y 5 rfl (want_all rfl) rfl rfl Kp.true (by first | exact Y.fieldAddrP rfl rfl Try.underlying74 rfl Try.sizeOf3 (by decide) (show _ + 1 = _ from rfl) | exact Y.fieldAddr rfl rfl Try.underlying74 rfl Try.sizeOf3 (by decide)) ?_
  refine Jp.y 6 rfl (want_all rfl) rfl rfl Kp.true (by first | exact Y.loadO 7 rfl Try.isAgg3 rfl rfl rfl | exact Y.loadO 0 rfl Try.isAgg3 rfl rfl rfl | exact Y.loadO 1 rfl Try.isAgg3 rfl rfl rfl | exact Y.loadO 7 rfl Try.isAgg3 rfl rfl rfl) ?_
  refine Jp.y 7 rfl (want_all rfl) rfl rfl Kp.true (Y.eql rfl rfl rfl) ?_
  refine Jp.done hK12 ?_
  refine Cd.cond rfl (fun g1 => ?_) (fun g1 => ?_)
  · have e1 : fi = -1 := by simpa using g1
    refine Cd.seq fun K13 hK13 => ?_
    refine Cd.plain [(0, false), (1, false), (2, false), (3, false), (4, false), (5, false), (6, false), (7, false), (8, false)] rfl rfl ?_
    refine Jp.y 8 rfl (want_all rfl) rfl rfl Kp.true (Y.move rfl rfl) ?_
    refine Jp.y 9 rfl (want_all rfl) rfl rfl Kp.true (Y.nilCheck rfl rfl) ?_
    refine Jp.y 10 rfl (want_all rfl) rfl rfl Kp.true (by first | exact Y.fieldAddrP rfl rfl Try.underlying60 rfl Try.sizeOf56 (by decide) (show _ + 0 = _ from rfl) | exact Y.fieldAddr rfl rfl Try.underlying60 rfl Try.sizeOf56 (by decide)) ?_
    refine Jp.y 11 rfl (want_all rfl) rfl rfl Kp.true (by first | exact Y.loadO 7 rfl Try.isAgg56 rfl rfl rfl | exact Y.loadO 0 rfl Try.isAgg56 rfl rfl rfl | exact Y.loadO 1 rfl Try.isAgg56 rfl rfl rfl | exact Y.loadO 7 rfl Try.isAgg56 rfl rfl rfl) ?_
    refine Jp.y 12 rfl (want_all rfl) rfl rfl Kp.true (Y.nilCheck rfl rfl) ?_
    refine Jp.y 13 rfl (want_all rfl) rfl rfl Kp.true (by first | exact Y.fieldAddrP rfl rfl Try.underlying55 rfl Try.sizeOf38 (by decide) (show _ + 0 = _ from rfl) | exact Y.fieldAddr rfl rfl Try.underlying55 rfl Try.sizeOf38 (by decide)) ?_
    refine Jp.y 14 rfl (want_all rfl) rfl rfl Kp.true (by first | exact Y.fieldAddrP rfl rfl Try.underlying38 rfl Try.sizeOf23 (by decide) (show _ + 1 = _ from rfl) | exact Y.fieldAddr rfl rfl Try.underlying38 rfl Try.sizeOf23 (by decide)) ?_
    refine Jp.y 15 rfl (want_all rfl) rfl rfl Kp.true (by first | exact Y.loadO 7 rfl Try.isAgg23 rfl rfl rfl | exact Y.loadO 0 rfl Try.isAgg23 rfl rfl rfl | exact Y.loadO 1 rfl Try.isAgg23 rfl rfl rfl | exact Y.loadO 7 rfl Try.isAgg23 rfl rfl rfl) ?_
    refine Jp.y 4 rfl (want_all rfl) rfl rfl Kp.true (Y.assign rfl rfl) ?_
    refine Jp.done hK13 ?_
    refine Cd.ret [(0, _), (1, _)] rfl (res1 rfl rfl) ⟨rfl, rfl, trivial⟩ ⟨rfl, by rw [dataOf, if_pos e1], rfl⟩
  · have e1 : fi ≠ -1 := by simpa using g1
    obtain ⟨m, rfl⟩ := Int.eq_ofNat_of_zero_le (show 0 ≤ fi by omega)
    have hm : m < xf.length := by omega
    have hxf : xf[m]? = some xf[m] := List.getElem?_eq_getElem hm
    obtain ⟨ad, rfl⟩ := hfr.1.some (show 0 < xf.length * 2 by omega)
    have hm2 : m < (Sl.mk (some ad) cf xf).xs.length := hm
    have hc1 : cellH ρ ((ad.add (m * 2)).add 1) = some xf[m].data.v := hfr.at rfl hxf 1 _ rfl
    refine Cd.skip hK11 ?_
    refine Cd.seq fun K14 hK14 => ?_
    refine Cd.drawn [(0, _), (1, _), (7, _)] ⟨rfl, rfl, rfl, trivial⟩ [(0, true), (1, true), (2, true), (3, true), (4, true), (5, true), (6, true), (7, true), (8, true), (9, true), (10, true), (11, true), (12, true), (13, true)] follows (by kernel_rfl) (fun hrl => ?_)
    refine Jp.q 16 rfl (want_all rfl) rfl rfl (Y.move rfl rfl) ?_
    refine Jp.q 17 rfl (want_all rfl) rfl rfl (Y.nilCheck rfl rfl) ?_
    refine Jp.q 18 rfl (want_all rfl) rfl rfl (by first | exact Y.fieldAddrP rfl rfl Try.underlying60 rfl Try.sizeOf56 (by decide) (show _ + 0 = _ from rfl) | exact Y.fieldAddr rfl rfl Try.underlying60 rfl Try.sizeOf56 (by decide)) ?_
    refine Jp.q 19 rfl (want_all rfl) rfl rfl (by first | exact Y.loadO 7 rfl Try.isAgg56 rfl rfl rfl | exact Y.loadO 0 rfl Try.isAgg56 rfl rfl rfl | exact Y.loadO 1 rfl Try.isAgg56 rfl rfl rfl | exact Y.loadO 7 rfl Try.isAgg56 rfl rfl rfl | exact Y.loadR rfl Try.isAgg56 rfl hc1) ?_
    refine Jp.q 20 rfl (want_all rfl) rfl rfl (Y.nilCheck rfl rfl) ?_
    refine Jp.q 21 rfl (want_all rfl) rfl rfl (by first | exact Y.fieldAddrP rfl rfl Try.underlying55 rfl Try.sizeOf38 (by decide) (show _ + 0 = _ from rfl) | exact Y.fieldAddr rfl rfl Try.underlying55 rfl Try.sizeOf38 (by decide)) ?_
    refine Jp.q 22 rfl (want_all rfl) rfl rfl (by first | exact Y.fieldAddrP rfl rfl Try.underlying38 rfl Try.sizeOf36 (by decide) (show _ + 5 = _ from rfl) | exact Y.fieldAddr rfl rfl Try.underlying38 rfl Try.sizeOf36 (by decide)) ?_
    refine Jp.q 23 rfl (want_all rfl) rfl rfl (by first | exact Y.loadO 7 rfl Try.isAgg36 rfl rfl rfl | exact Y.loadO 0 rfl Try.isAgg36 rfl rfl rfl | exact Y.loadO 1 rfl Try.isAgg36 rfl rfl rfl | exact Y.loadO 7 rfl Try.isAgg36 rfl rfl rfl | exact Y.loadR rfl Try.isAgg36 rfl hc1) ?_
    refine Jp.q 24 rfl (want_all rfl) rfl rfl (by first | exact Y.fieldAddrP rfl rfl Try.underlying74 rfl Try.sizeOf3 (by decide) (show _ + 1 = _ from rfl) | exact Y.fieldAddr rfl rfl Try.underlying74 rfl Try.sizeOf3 (by decide)) ?_
    refine Jp.q 25 rfl (want_all rfl) rfl rfl (by first | exact Y.loadO 7 rfl Try.isAgg3 rfl rfl rfl | exact Y.loadO 0 rfl Try.isAgg3 rfl rfl rfl | exact Y.loadO 1 rfl Try.isAgg3 rfl rfl rfl | exact Y.loadO 7 rfl Try.isAgg3 rfl rfl rfl | exact Y.loadR rfl Try.isAgg3 rfl hc1) ?_
    refine Jp.q 26 rfl (want_all rfl) rfl rfl (Y.indexAddr (q := m * 2) rfl rfl rfl Try.underlying36 Try.sizeOf75 (by omega) (by omega) (by omega)) ?_
    refine Jp.q 27 rfl (want_all rfl) rfl rfl (by first | exact Y.fieldAddrP rfl rfl Try.underlying75 rfl Try.sizeOf23 (by decide) (show _ + 1 = _ from rfl) | exact Y.fieldAddr rfl rfl Try.underlying75 rfl Try.sizeOf23 (by decide)) ?_
    refine Jp.q 28 rfl (want_all rfl) rfl rfl (by first | exact Y.loadO 7 rfl Try.isAgg23 rfl rfl rfl | exact Y.loadO 0 rfl Try.isAgg23 rfl rfl rfl | exact Y.loadO 1 rfl Try.isAgg23 rfl rfl rfl | exact Y.loadO 7 rfl Try.isAgg23 rfl rfl rfl | exact Y.loadR rfl Try.isAgg23 rfl hc1) ?_
    refine Jp.q 4 rfl (want_all rfl) rfl rfl (Y.assign rfl rfl) ?_
    refine Jp.done hK14 ?_
    refine Cd.ret [(0, _), (1, _)] rfl (res1 rfl rfl) ⟨rfl, rfl, trivial⟩ ⟨rfl, by rw [dataOf, if_neg e1]; show _ = Sl.v ((xf[(m : Int).toNat]?.map _).getD _); rw [show (m : Int).toNat = m from rfl, hxf]; rfl, rfl⟩
def outOf (r : RfG) (fd : Int) : Sl UInt8 := if fd = 1 then r.o1 else if fd = 2 then r.o2 else ⟨none, 0, []⟩
theorem rfOut_spec (b : Nat) (r : RfG) (fd : Int) : Spec Try.prog 23 #[.pointer (some ⟨b, 0, none⟩), .int .i64 fd] (fun _ => True) [(0, RfPt b r)]
    (fun ρ ρ' v L => ρ' = ρ ∧ v = (outOf r fd).v ∧ L = [(0, RfPt b r)]) := by
  obtain ⟨bu, u, A, c, l, o1, o2⟩ := r
  have hp : RfPt b ⟨bu, u, A, c, l, o1, o2⟩ = Pt b (.cells #[.pointer (some ⟨bu, 0, none⟩), .slice A l.length c, o1.v, o2.v] 60) := rfl
  rw [hp]
  unfold outOf
  dsimp only
  refine Spec.of 18 Try.func23 rfl Try.ntmps23 [(0, _), (1, _)] rfl rfl ?_
  intro cx ρ hr h0
  refine Cd.seq fun K16 hK16 => ?_
  refine Cd.plain [(0, false)] rfl rfl ?_
  refine Jp.y 4 rfl (want_all rfl) rfl rfl Kp.true (Y.assign rfl rfl) ?_
  refine Jp.done hK16 ?_
  refine Cd.seq fun K17 hK17 => ?_
  refine Cd.seq fun K18 hK18 => ?_
  refine Cd.plain [(0, false), (1, false), (2, false), (3, false), (4, false), (5, false)] rfl rfl ?_
  refine Jp.y 5 rfl (want_all rfl) rfl rfl Kp.true (Y.move rfl rfl) ?_
  refine Jp.y 6 rfl (want_all rfl) rfl rfl Kp.true (Y.neq rfl rfl rfl) ?_
  by_cases h1 : fd = 1
  · subst h1
    refine Jp.slot 6 rfl (show _ = Value.bool false by rfl) ?_
    refine Jp.y 7 rfl (want_all rfl) rfl rfl Kp.true (Y.move rfl rfl) ?_
    refine Jp.slot 7 rfl (show _ = Value.bool false from rfl) ?_
    refine Jp.skip 8 rfl (want_as rfl rfl rfl rfl) rfl rfl Kp.true ?_
    refine Jp.skip 9 rfl (want_as rfl rfl rfl rfl) rfl rfl Kp.true ?_
    refine Jp.y 10 rfl (want_all rfl) rfl rfl Kp.true (Y.pickF rfl rfl rfl) ?_
    refine Jp.done hK18 ?_
    refine Cd.condF rfl ?_
    refine Cd.skip hK17 ?_
    refine Cd.seq fun K19 hK19 => ?_
    refine Cd.plain [(0, false), (1, false), (2, false), (3, false), (4, false), (5, false), (6, false), (7, false)] rfl rfl ?_
    refine Jp.y 11 rfl (want_all rfl) rfl rfl Kp.true (Y.move rfl rfl) ?_
    refine Jp.y 12 rfl (want_all rfl) rfl rfl Kp.true (Y.move rfl rfl) ?_
    refine Jp.y 13 rfl (want_all rfl) rfl rfl Kp.true (Y.sub_ rfl rfl rfl (by first | exact wrap_i64 (by omega) (by omega) | rfl)) ?_
    refine Jp.y 14 rfl (want_all rfl) rfl rfl Kp.true (Y.nilCheck rfl rfl) ?_
    refine Jp.y 15 rfl (want_all rfl) rfl rfl Kp.true (by first | exact Y.fieldAddrP rfl rfl Try.underlying60 rfl Try.sizeOf58 (by decide) (show _ + 2 = _ from rfl) | exact Y.fieldAddr rfl rfl Try.underlying60 rfl Try.sizeOf58 (by decide)) ?_
    refine Jp.y 16 rfl (want_all rfl) rfl rfl Kp.true (Y.indexArrP (q := 2) rfl rfl rfl Try.underlying58 Try.sizeOf23 (by omega) (by omega) (by omega)) ?_
    refine Jp.y 17 rfl (want_all rfl) rfl rfl Kp.true (Y.loadO 0 rfl Try.isAgg23 rfl rfl rfl) ?_
    refine Jp.y 4 rfl (want_all rfl) rfl rfl Kp.true (Y.assign rfl rfl) ?_
    refine Jp.done hK19 ?_
    refine Cd.ret [(0, _)] rfl (res1 rfl rfl) ⟨rfl, trivial⟩ ⟨rfl, by rw [if_pos rfl], rfl⟩
  · skip
    refine Jp.slot 6 rfl (show _ = Value.bool true from congrArg Value.bool (by simpa using h1)) ?_
    refine Jp.y 7 rfl (want_all rfl) rfl rfl Kp.true (Y.move rfl rfl) ?_
    refine Jp.slot 7 rfl (show _ = Value.bool true from rfl) ?_
    refine Jp.y 8 rfl (want_as rfl rfl rfl rfl) rfl rfl Kp.true (Y.move rfl rfl) ?_
    refine Jp.y 9 rfl (want_as rfl rfl rfl rfl) rfl rfl Kp.true (Y.neq rfl rfl rfl) ?_
    refine Jp.y 10 rfl (want_all rfl) rfl rfl Kp.true (Y.pickT rfl rfl rfl) ?_
    refine Jp.done hK18 ?_
    refine Cd.cond rfl (fun g2 => ?_) (fun g2 => ?_)
    · have h2 : fd ≠ 2 := by simpa using g2
      refine Cd.seq fun K20 hK20 => ?_
      refine Cd.plain [(0, false)] rfl rfl ?_
      refine Jp.y 4 rfl (want_all rfl) rfl rfl Kp.true (Y.assign rfl rfl) ?_
      refine Jp.done hK20 ?_
      refine Cd.ret [(0, _)] rfl (res1 rfl rfl) ⟨rfl, trivial⟩ ⟨rfl, by rw [if_neg h1, if_neg h2]; rfl, rfl⟩
    · have h2 : fd = 2 := by simpa using g2
      subst h2
      refine Cd.skip hK17 ?_
      refine Cd.seq fun K21 hK21 => ?_
      refine Cd.plain [(0, false), (1, false), (2, false), (3, false), (4, false), (5, false), (6, false), (7, false)] rfl rfl ?_
      refine Jp.y 11 rfl (want_all rfl) rfl rfl Kp.true (Y.move rfl rfl) ?_
      refine Jp.y 12 rfl (want_all rfl) rfl rfl Kp.true (Y.move rfl rfl) ?_
      refine Jp.y 13 rfl (want_all rfl) rfl rfl Kp.true (Y.sub_ rfl rfl rfl (by first | exact wrap_i64 (by omega) (by omega) | rfl)) ?_
      refine Jp.y 14 rfl (want_all rfl) rfl rfl Kp.true (Y.nilCheck rfl rfl) ?_
      refine Jp.y 15 rfl (want_all rfl) rfl rfl Kp.true (by first | exact Y.fieldAddrP rfl rfl Try.underlying60 rfl Try.sizeOf58 (by decide) (show _ + 2 = _ from rfl) | exact Y.fieldAddr rfl rfl Try.underlying60 rfl Try.sizeOf58 (by decide)) ?_
      refine Jp.y 16 rfl (want_all rfl) rfl rfl Kp.true (Y.indexArrP (q := 3) rfl rfl rfl Try.underlying58 Try.sizeOf23 (by omega) (by omega) (by omega)) ?_
      refine Jp.y 17 rfl (want_all rfl) rfl rfl Kp.true (Y.loadO 0 rfl Try.isAgg23 rfl rfl rfl) ?_
      refine Jp.y 4 rfl (want_all rfl) rfl rfl Kp.true (Y.assign rfl rfl) ?_
      refine Jp.done hK21 ?_
      refine Cd.ret [(0, _)] rfl (res1 rfl rfl) ⟨rfl, trivial⟩ ⟨rfl, by rw [if_neg h1, if_pos rfl], rfl⟩
end Go.Proofs.Ytogkncmhonomdaa
