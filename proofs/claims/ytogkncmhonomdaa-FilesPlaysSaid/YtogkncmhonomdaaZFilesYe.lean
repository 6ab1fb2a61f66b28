import Derived.Test.YtogkncmhonomdaaZFilesYd
set_option linter.unusedVariables false
set_option linter.unusedSimpArgs false
set_option maxRecDepth 100000
namespace Go.Proofs.Ytogkncmhonomdaa
open Go
theorem Rel.wrote1 {p : FilesP} {r : RfG} (h : Rel p r) (s : Sl UInt8) : Rel { p with out := gset p.out 1 s.xs } ⟨r.bu, r.u, r.A, r.c, r.l, s, r.o2⟩ :=
  ⟨h.all, h.use, h.op, h.len, by show (gget (gset _ _ _) _).getD [] = _; rw [gget_gset, if_pos rfl]; rfl, by show (gget (gset _ _ _) _).getD [] = _; rw [gget_gset, if_neg (by decide)]; exact h.out2, fun fd n1 n2 => by show (gget (gset _ _ _) _).getD [] = _; rw [gget_gset, if_neg n1]; exact h.outs fd n1 n2, h.ent, h.once, h.names, h.few⟩
theorem Rel.wrote2 {p : FilesP} {r : RfG} (h : Rel p r) (s : Sl UInt8) : Rel { p with out := gset p.out 2 s.xs } ⟨r.bu, r.u, r.A, r.c, r.l, r.o1, s⟩ :=
  ⟨h.all, h.use, h.op, h.len, by show (gget (gset _ _ _) _).getD [] = _; rw [gget_gset, if_neg (by decide)]; exact h.out1, by show (gget (gset _ _ _) _).getD [] = _; rw [gget_gset, if_pos rfl]; rfl, fun fd n1 n2 => by show (gget (gset _ _ _) _).getD [] = _; rw [gget_gset, if_neg n2]; exact h.outs fd n1 n2, h.ent, h.once, h.names, h.few⟩
theorem rfWrite_spec (b : Nat) (p : FilesP) (r : RfG) (fd : Int) (s : Sl UInt8) (hrel : Rel p r) (hok : FsOk p) (hsl : s.xs.length ≤ 1000000) : Spec Try.prog 16 #[.pointer (some ⟨b, 0, none⟩), .int .i64 fd, s.v] (fun h => RdRf r h ∧ RdB s h) [(0, RfPt b r), (1, RfOpen r)]
    (fun ρ ρ' v L => v = .int .i64 (writeFP p fd s.xs).1 ∧ ∃ o1 o2, Rel (writeFP p fd s.xs).2 ⟨r.bu, r.u, r.A, r.c, r.l, o1, o2⟩ ∧ RdB o1 ρ' ∧ RdB o2 ρ' ∧ L = [(0, RfPt b ⟨r.bu, r.u, r.A, r.c, r.l, o1, o2⟩), (1, RfOpen r)]) := by
  have hfew := hrel.few.1
  have hF := rfFind_spec b r fd hfew
  have hN := fdI_none hrel (fd := fd)
  have hS := fun h => fdI_some hrel (fd := fd) h
  have hent := hrel.ent
  have hW1 := hrel.wrote1
  have hW2 := hrel.wrote2
  have hO1 := hrel.out1
  have hO2 := hrel.out2
  have hL1 : (outFP p 1).length ≤ 65536 := hok.outP 1
  have hL2 : (outFP p 2).length ≤ 65536 := hok.outP 2
  obtain ⟨bu, u, A, c, l, ⟨A1, k1, x1⟩, ⟨A2, k2, x2⟩⟩ := r
  obtain ⟨As, cs, bs⟩ := s
  dsimp only [Sl.v] at hsl ⊢
  refine Spec.of 55 Try.func16 rfl Try.ntmps16 [(0, _), (1, _), (2, _)] rfl rfl ?_
  intro cx ρ hr0 h0
  obtain ⟨hr, hrs⟩ := hr0
  have hr1 : RdB ⟨A1, k1, x1⟩ _ := hr.o1
  have hr2 : RdB ⟨A2, k2, x2⟩ _ := hr.o2
  refine Cd.seq fun K1 hK1 => ?_
  refine Cd.plain [(0, false)] rfl rfl ?_
  refine Jp.y 6 rfl (want_all rfl) rfl rfl Kp.true (Y.assign rfl rfl) ?_
  refine Jp.done hK1 ?_
  refine Cd.seq fun K2 hK2 => ?_
  refine Cd.plain [(0, false), (1, false), (2, false), (3, false)] rfl rfl ?_
  refine Jp.y 8 rfl (want_all rfl) rfl rfl Kp.true (Y.move rfl rfl) ?_
  refine Jp.y 9 rfl (want_all rfl) rfl rfl Kp.true (Y.move rfl rfl) ?_
  refine Jp.call [0, 1] [0, 1] hF 10 rfl (want_all rfl) rfl rfl (Runs.fn rfl Try.call29 rfl) (by decide) (by decide) rfl trivial ?_
  rintro v1 ρ1 L1 ⟨rfl, rfl, rfl⟩
  refine ⟨rfl, fun hle1 => ⟨Kp.true, ?_⟩⟩
  dsimp only at hfew hN hS hent hW1 hW2 hO1 hO2 ⊢
  obtain ⟨z, hz⟩ : ∃ z, fdI l fd = z := ⟨_, rfl⟩
  rw [hz] at hN hS ⊢
  refine Jp.y 7 rfl (want_all rfl) rfl rfl Kp.true (Y.assign rfl rfl) ?_
  refine Jp.done hK2 ?_
  refine Cd.seq fun K3 hK3 => ?_
  refine Cd.seq fun K4 hK4 => ?_
  refine Cd.plain [(0, false), (1, false), (2, false), (3, false), (4, false), (5, false), (6, false), (7, false), (8, false), (9, false), (10, false), (11, false), (12, false)] rfl rfl ?_
  refine Jp.y 11 rfl (want_all rfl) rfl rfl Kp.true (Y.move rfl rfl) ?_
  refine Jp.y 12 rfl (want_all rfl) rfl rfl Kp.true (Y.lss rfl rfl rfl) ?_
  by_cases hz0 : z < 0
  · have h1 : gget p.op fd = none := hN.1 hz0
    have hV : writeFP p fd bs = (-9, p) := by rw [writeFP, h1]
    refine Jp.slot 12 rfl (show _ = Value.bool true from congrArg Value.bool (decide_eq_true hz0)) ?_
    refine Jp.y 13 rfl (want_all rfl) rfl rfl Kp.true (Y.move rfl rfl) ?_
    refine Jp.slot 13 rfl (show _ = Value.bool true from rfl) ?_
    refine Jp.skip 14 rfl (want_as rfl rfl rfl rfl) rfl rfl Kp.true ?_
    refine Jp.skip 15 rfl (want_as rfl rfl rfl rfl) rfl rfl Kp.true ?_
    refine Jp.skip 16 rfl (want_as rfl rfl rfl rfl) rfl rfl Kp.true ?_
    refine Jp.skip 17 rfl (want_as rfl rfl rfl rfl) rfl rfl Kp.true ?_
    refine Jp.skip 18 rfl (want_as rfl rfl rfl rfl) rfl rfl Kp.true ?_
    refine Jp.skip 19 rfl (want_as rfl rfl rfl rfl) rfl rfl Kp.true ?_
    refine Jp.skip 20 rfl (want_as rfl rfl rfl rfl) rfl rfl Kp.true ?_
    refine Jp.skip 21 rfl (want_as rfl rfl rfl rfl) rfl rfl Kp.true ?_
    refine Jp.skip 22 rfl (want_as rfl rfl rfl rfl) rfl rfl Kp.true ?_
    refine Jp.y 23 rfl (want_all rfl) rfl rfl Kp.true (Y.pickT rfl rfl rfl) ?_
    refine Jp.done hK4 ?_
    refine Cd.condT rfl ?_
    refine Cd.seq fun K5 hK5 => ?_
    refine Cd.plain [(0, false)] rfl rfl ?_
    refine Jp.y 6 rfl (want_all rfl) rfl rfl Kp.true (Y.assign rfl rfl) ?_
    refine Jp.done hK5 ?_
    refine Cd.ret [(0, _), (1, _)] rfl (res1 rfl rfl) ⟨rfl, rfl, trivial⟩ ⟨by rw [hV], ⟨A1, k1, x1⟩, ⟨A2, k2, x2⟩, by rw [hV]; exact hrel, hr1, hr2, rfl⟩
  · obtain ⟨i, x, e1, e2, hx, hxf, hg⟩ := hS hz0
    have hil := (List.getElem?_eq_some_iff.1 hx).1
    have hen := hent x (List.mem_of_getElem? hx)
    have hp : RfPt b ⟨bu, u, A, c, l, ⟨A1, k1, x1⟩, ⟨A2, k2, x2⟩⟩ = Pt b (.cells #[.pointer (some ⟨bu, 0, none⟩), .slice A l.length c, .slice A1 x1.length k1, .slice A2 x2.length k2] 60) := rfl
    have hq : RfOpen ⟨bu, u, A, c, l, ⟨A1, k1, x1⟩, ⟨A2, k2, x2⟩⟩ = OwnS 74 3 A l.length c (l.flatMap openC) := rfl
    have hrows := openC_rows l
    rw [e1, hp, hq]
    refine Jp.ownAt 1 rfl (show 0 < l.length by omega) ?_
    rintro b1 rfl
    have c1 := (OwnS.hasC (e := 74) (m := 3) (k := l.length) (c := c) (ad := ⟨b1, 0, none⟩) (rw_get hrows hx (show (openC x)[1]? = some (.int .i64 x.2.1) from rfl))).add2
    refine Jp.slot 12 rfl (show _ = Value.bool false from congrArg Value.bool (decide_eq_false (by omega))) ?_
    refine Jp.y 13 rfl (want_all rfl) rfl rfl Kp.true (Y.move rfl rfl) ?_
    refine Jp.slot 13 rfl (show _ = Value.bool false from rfl) ?_
    refine Jp.y 14 rfl (want_as rfl rfl rfl rfl) rfl rfl Kp.true (Y.move rfl rfl) ?_
    refine Jp.y 15 rfl (want_as rfl rfl rfl rfl) rfl rfl Kp.true (Y.nilCheck rfl rfl) ?_
    refine Jp.y 16 rfl (want_as rfl rfl rfl rfl) rfl rfl Kp.true (by first | exact Y.fieldAddrP rfl rfl Try.underlying60 rfl Try.sizeOf57 (by decide) (show _ + 1 = _ from rfl) | exact Y.fieldAddr rfl rfl Try.underlying60 rfl Try.sizeOf57 (by decide)) ?_
    refine Jp.y 17 rfl (want_as rfl rfl rfl rfl) rfl rfl Kp.true (by first | exact Y.loadO 0 rfl Try.isAgg57 rfl rfl rfl | exact Y.loadC 1 rfl Try.isAgg57 rfl rfl c1) ?_
    refine Jp.y 18 rfl (want_as rfl rfl rfl rfl) rfl rfl Kp.true (Y.move rfl rfl) ?_
    refine Jp.y 19 rfl (want_as rfl rfl rfl rfl) rfl rfl Kp.true (Y.indexAddr (q := i * 3) rfl rfl rfl Try.underlying57 Try.sizeOf74 (by omega) (by omega) (by omega)) ?_
    refine Jp.y 20 rfl (want_as rfl rfl rfl rfl) rfl rfl Kp.true (by first | exact Y.fieldAddrP rfl rfl Try.underlying74 rfl Try.sizeOf3 (by decide) (show _ + 1 = _ from rfl) | exact Y.fieldAddr rfl rfl Try.underlying74 rfl Try.sizeOf3 (by decide)) ?_
    refine Jp.y 21 rfl (want_as rfl rfl rfl rfl) rfl rfl Kp.true (by first | exact Y.loadO 0 rfl Try.isAgg3 rfl rfl rfl | exact Y.loadC 1 rfl Try.isAgg3 rfl rfl c1) ?_
    refine Jp.y 22 rfl (want_as rfl rfl rfl rfl) rfl rfl Kp.true (Y.neq rfl rfl rfl) ?_
    refine Jp.y 23 rfl (want_all rfl) rfl rfl Kp.true (Y.pickF rfl rfl rfl) ?_
    refine Jp.done hK4 ?_
    refine Cd.cond rfl (fun g1 => ?_) (fun g1 => ?_)
    · have h2 : x.2.1 ≠ -2 := by simpa using g1
      have hV : writeFP p fd bs = (-9, p) := by rw [writeFP, hg, filOf, if_neg h2]; rfl
      refine Cd.seq fun K6 hK6 => ?_
      refine Cd.plain [(0, false)] rfl rfl ?_
      refine Jp.y 6 rfl (want_all rfl) rfl rfl Kp.true (Y.assign rfl rfl) ?_
      refine Jp.done hK6 ?_
      rw [← hp, ← hq]
      refine Cd.ret [(0, _), (1, _)] rfl (res1 rfl rfl) ⟨rfl, rfl, trivial⟩ ⟨by rw [hV], ⟨A1, k1, x1⟩, ⟨A2, k2, x2⟩, by rw [hV]; exact hrel, hr1, hr2, rfl⟩
    · have h2 : x.2.1 = -2 := by simpa using g1
      have hfd : fd = 1 ∨ fd = 2 := by
        rcases hen.kind with h | h | h
        · rw [hxf] at h; exact h.2
        · omega
        · omega
      have hV : writeFP p fd bs = if 65536 < (outFP p fd).length + bs.length then (-28, p) else ((bs.length : Int), { p with out := gset p.out fd (outFP p fd ++ bs) }) := by rw [writeFP, hg, filOf, if_pos h2]; rfl
      rcases hfd with rfl | rfl
      · rw [hO1] at hV
        have hW := hW1
        have hxl : x1.length ≤ 65536 := by rw [hO1] at hL1; exact hL1
        refine Cd.skip hK3 ?_
        refine Cd.seq fun K7 hK7 => ?_
        refine Cd.seq fun K8 hK8 => ?_
        refine Cd.plain [(0, false), (1, false), (2, false), (3, false), (4, false), (5, false), (6, false), (7, false), (8, false), (9, false), (10, false), (11, false)] rfl rfl ?_
        refine Jp.y 24 rfl (want_all rfl) rfl rfl Kp.true (Y.move rfl rfl) ?_
        refine Jp.y 25 rfl (want_all rfl) rfl rfl Kp.true (Y.lenslice rfl Try.underlying23 rfl) ?_
        refine Jp.y 26 rfl (want_all rfl) rfl rfl Kp.true (Y.move rfl rfl) ?_
        refine Jp.y 27 rfl (want_all rfl) rfl rfl Kp.true (Y.move rfl rfl) ?_
        refine Jp.y 28 rfl (want_all rfl) rfl rfl Kp.true (Y.sub_ rfl rfl rfl (by first | exact wrap_i64 (by omega) (by omega) | rfl)) ?_
        refine Jp.y 29 rfl (want_all rfl) rfl rfl Kp.true (Y.nilCheck rfl rfl) ?_
        refine Jp.y 30 rfl (want_all rfl) rfl rfl Kp.true (by first | exact Y.fieldAddrP rfl rfl Try.underlying60 rfl Try.sizeOf58 (by decide) (show _ + 2 = _ from rfl) | exact Y.fieldAddr rfl rfl Try.underlying60 rfl Try.sizeOf58 (by decide)) ?_
        refine Jp.y 31 rfl (want_all rfl) rfl rfl Kp.true (Y.indexArrP (q := 2) rfl rfl rfl Try.underlying58 Try.sizeOf23 (by omega) (by omega) (by omega)) ?_
        refine Jp.y 32 rfl (want_all rfl) rfl rfl Kp.true (by first | exact Y.loadO 0 rfl Try.isAgg23 rfl rfl rfl | exact Y.loadC 1 rfl Try.isAgg23 rfl rfl c1) ?_
        refine Jp.y 33 rfl (want_all rfl) rfl rfl Kp.true (Y.lenslice rfl Try.underlying23 rfl) ?_
        refine Jp.y 34 rfl (want_all rfl) rfl rfl Kp.true (Y.sub_ rfl rfl rfl (by first | exact wrap_i64 (by omega) (by omega) | rfl)) ?_
        refine Jp.y 35 rfl (want_all rfl) rfl rfl Kp.true (Y.gtr rfl rfl rfl) ?_
        refine Jp.done hK8 ?_
        refine Cd.cond rfl (fun g2 => ?_) (fun g2 => ?_)
        · simp only [decide_eq_true_eq] at g2
          rw [if_pos (by omega)] at hV
          refine Cd.seq fun K9 hK9 => ?_
          refine Cd.plain [(0, false)] rfl rfl ?_
          refine Jp.y 6 rfl (want_all rfl) rfl rfl Kp.true (Y.assign rfl rfl) ?_
          refine Jp.done hK9 ?_
          rw [← hp, ← hq]
          refine Cd.ret [(0, _), (1, _)] rfl (res1 rfl rfl) ⟨rfl, rfl, trivial⟩ ⟨by rw [hV], ⟨A1, k1, x1⟩, ⟨A2, k2, x2⟩, by rw [hV]; exact hrel, hr1, hr2, rfl⟩
        · simp only [decide_eq_false_iff_not] at g2
          rw [if_neg (by omega)] at hV
          have hnl : (x1 ++ bs).length = x1.length + bs.length := List.length_append
          refine Cd.skip hK7 ?_
          refine Cd.seq fun K10 hK10 => ?_
          refine Cd.drawn [(0, _)] ⟨rfl, trivial⟩ [(0, true), (1, true), (2, true), (4, true), (5, true), (6, true), (7, true), (8, true), (9, true), (10, true), (12, true), (14, true), (15, true), (3, false), (11, false), (13, false), (16, true), (17, false)] follows (by kernel_rfl) (fun hrl => ?_)
          refine Jp.q 36 rfl (want_all rfl) rfl rfl (Y.move rfl rfl) ?_
          refine Jp.q 37 rfl (want_all rfl) rfl rfl (Y.move rfl rfl) ?_
          refine Jp.q 38 rfl (want_all rfl) rfl rfl (Y.sub_ rfl rfl rfl (by first | exact wrap_i64 (by omega) (by omega) | rfl)) ?_
          refine Jp.q 40 rfl (want_all rfl) rfl rfl (Y.move rfl rfl) ?_
          refine Jp.q 41 rfl (want_all rfl) rfl rfl (Y.move rfl rfl) ?_
          refine Jp.q 42 rfl (want_all rfl) rfl rfl (Y.sub_ rfl rfl rfl (by first | exact wrap_i64 (by omega) (by omega) | rfl)) ?_
          refine Jp.q 43 rfl (want_all rfl) rfl rfl (Y.nilCheck rfl rfl) ?_
          refine Jp.q 44 rfl (want_all rfl) rfl rfl (by first | exact Y.fieldAddrP rfl rfl Try.underlying60 rfl Try.sizeOf58 (by decide) (show _ + 2 = _ from rfl) | exact Y.fieldAddr rfl rfl Try.underlying60 rfl Try.sizeOf58 (by decide)) ?_
          refine Jp.q 45 rfl (want_all rfl) rfl rfl (Y.indexArrP (q := 2) rfl rfl rfl Try.underlying58 Try.sizeOf23 (by omega) (by omega) (by omega)) ?_
          refine Jp.q 46 rfl (want_all rfl) rfl rfl (by first | exact Y.loadO 0 rfl Try.isAgg23 rfl rfl rfl | exact Y.loadC 1 rfl Try.isAgg23 rfl rfl c1) ?_
          refine Jp.q 48 rfl (want_all rfl) rfl rfl (Y.move rfl rfl) ?_
          refine Jp.q 50 rfl (want_all rfl) rfl rfl (Y.nilCheck rfl rfl) ?_
          refine Jp.q 51 rfl (want_all rfl) rfl rfl (by first | exact Y.fieldAddrP rfl rfl Try.underlying60 rfl Try.sizeOf58 (by decide) (show _ + 2 = _ from rfl) | exact Y.fieldAddr rfl rfl Try.underlying60 rfl Try.sizeOf58 (by decide)) ?_
          refine Jp.lit 39 3 [] [] rfl (want_all rfl) rfl rfl rfl rfl Try.underlying23 Try.sizeOf5 Try.zeroValue5 rfl rfl rfl rfl rfl fun b2 => ⟨(Kp.st ⟨rfl, trivial⟩), ?_⟩
          refine Jp.append 47 3 rfl (want_all rfl) rfl rfl rfl Try.underlying23 Try.underlying23 (.inl ⟨_, rfl⟩) Try.sizeOf5 Try.typeInfo5 Try.zeroValue5 rfl (by decide) rfl rfl rfl (Src.rd hr1) (bytesV_one _) (x1.length) ((bytesV x1)) (by first | omega | simp) (by simp) (by simp only [Try.t5]; omega) fun A8 c8 => ⟨(Kp.st ⟨rfl, trivial⟩), ?_⟩
          refine Jp.append 49 3 rfl (want_all rfl) rfl rfl rfl Try.underlying23 Try.underlying23 (.inl ⟨_, rfl⟩) Try.sizeOf5 Try.typeInfo5 Try.zeroValue5 rfl (by decide) rfl rfl rfl (Src.rd hrs) (bytesV_one _) ((x1 ++ bs).length) ((bytesV (x1 ++ bs))) (by first | omega | simp) (by simp [bytesV]) (by simp only [Try.t5]; omega) fun A9 c9 => ⟨(Kp.st ⟨rfl, trivial⟩), ?_⟩
          refine Jp.q 52 rfl (want_all rfl) rfl rfl (Y.indexArrP (q := 2) rfl rfl rfl Try.underlying58 Try.sizeOf23 (by omega) (by omega) (by omega)) ?_
          refine Jp.store 0 rfl (want_all rfl) rfl rfl Try.sizeOf23 rfl rfl rfl rfl rfl rfl Kp.last ?_
          refine Jp.done hK10 ?_
          refine Cd.seq fun K12 hK12 => ?_
          refine Cd.plain [(0, false), (1, false), (2, false)] rfl rfl ?_
          refine Jp.y 53 rfl (want_all rfl) rfl rfl Kp.true (Y.move rfl rfl) ?_
          refine Jp.y 54 rfl (want_all rfl) rfl rfl Kp.true (Y.lenslice rfl Try.underlying23 rfl) ?_
          refine Jp.y 6 rfl (want_all rfl) rfl rfl Kp.true (Y.assign rfl rfl) ?_
          refine Jp.done hK12 ?_
          refine Cd.freeze (i := 3) rfl (OwnS.up _ _ _ _ _ _) fun ρ7 hle7 hA7 => ?_
          have hnew : RdB ⟨A9, c9, x1 ++ bs⟩ ρ7 := hA7.rd
          have hr1 := RdB.up _ _ _ hle7 hr1
          have hr2 := RdB.up _ _ _ hle7 hr2
          rw [← hq]
          refine Cd.imp (i := 0) (A' := RfPt b ⟨bu, u, some ⟨b1, 0, none⟩, c, l, ⟨A9, c9, x1 ++ bs⟩, ⟨A2, k2, x2⟩⟩) rfl (fun h hh => hh) ?_
          refine Cd.ret [(0, _), (1, _)] rfl (res1 rfl rfl) ⟨rfl, rfl, trivial⟩ ⟨by rw [hV], ⟨A9, c9, x1 ++ bs⟩, ⟨A2, k2, x2⟩, by rw [hV]; exact hW1 ⟨A9, c9, x1 ++ bs⟩, hnew, hr2, rfl⟩
      · rw [hO2] at hV
        have hxl : x2.length ≤ 65536 := by rw [hO2] at hL2; exact hL2
        refine Cd.skip hK3 ?_
        refine Cd.seq fun K13 hK13 => ?_
        refine Cd.seq fun K14 hK14 => ?_
        refine Cd.plain [(0, false), (1, false), (2, false), (3, false), (4, false), (5, false), (6, false), (7, false), (8, false), (9, false), (10, false), (11, false)] rfl rfl ?_
        refine Jp.y 24 rfl (want_all rfl) rfl rfl Kp.true (Y.move rfl rfl) ?_
        refine Jp.y 25 rfl (want_all rfl) rfl rfl Kp.true (Y.lenslice rfl Try.underlying23 rfl) ?_
        refine Jp.y 26 rfl (want_all rfl) rfl rfl Kp.true (Y.move rfl rfl) ?_
        refine Jp.y 27 rfl (want_all rfl) rfl rfl Kp.true (Y.move rfl rfl) ?_
        refine Jp.y 28 rfl (want_all rfl) rfl rfl Kp.true (Y.sub_ rfl rfl rfl (by first | exact wrap_i64 (by omega) (by omega) | rfl)) ?_
        refine Jp.y 29 rfl (want_all rfl) rfl rfl Kp.true (Y.nilCheck rfl rfl) ?_
        refine Jp.y 30 rfl (want_all rfl) rfl rfl Kp.true (by first | exact Y.fieldAddrP rfl rfl Try.underlying60 rfl Try.sizeOf58 (by decide) (show _ + 2 = _ from rfl) | exact Y.fieldAddr rfl rfl Try.underlying60 rfl Try.sizeOf58 (by decide)) ?_
        refine Jp.y 31 rfl (want_all rfl) rfl rfl Kp.true (Y.indexArrP (q := 3) rfl rfl rfl Try.underlying58 Try.sizeOf23 (by omega) (by omega) (by omega)) ?_
        refine Jp.y 32 rfl (want_all rfl) rfl rfl Kp.true (by first | exact Y.loadO 0 rfl Try.isAgg23 rfl rfl rfl | exact Y.loadC 1 rfl Try.isAgg23 rfl rfl c1) ?_
        refine Jp.y 33 rfl (want_all rfl) rfl rfl Kp.true (Y.lenslice rfl Try.underlying23 rfl) ?_
        refine Jp.y 34 rfl (want_all rfl) rfl rfl Kp.true (Y.sub_ rfl rfl rfl (by first | exact wrap_i64 (by omega) (by omega) | rfl)) ?_
        refine Jp.y 35 rfl (want_all rfl) rfl rfl Kp.true (Y.gtr rfl rfl rfl) ?_
        refine Jp.done hK14 ?_
        refine Cd.cond rfl (fun g2 => ?_) (fun g2 => ?_)
        · simp only [decide_eq_true_eq] at g2
          rw [if_pos (by omega)] at hV
          refine Cd.seq fun K15 hK15 => ?_
          refine Cd.plain [(0, false)] rfl rfl ?_
          refine Jp.y 6 rfl (want_all rfl) rfl rfl Kp.true (Y.assign rfl rfl) ?_
          refine Jp.done hK15 ?_
          rw [← hp, ← hq]
          refine Cd.ret [(0, _), (1, _)] rfl (res1 rfl rfl) ⟨rfl, rfl, trivial⟩ ⟨by rw [hV], ⟨A1, k1, x1⟩, ⟨A2, k2, x2⟩, by rw [hV]; exact hrel, hr1, hr2, rfl⟩
        · simp only [decide_eq_false_iff_not] at g2
          rw [if_neg (by omega)] at hV
          have hnl : (x2 ++ bs).length = x2.length + bs.length := List.length_append
          refine Cd.skip hK13 ?_
          refine Cd.seq fun K16 hK16 => ?_
          refine Cd.drawn [(0, _)] ⟨rfl, trivial⟩ [(0, true), (1, true), (2, true), (4, true), (5, true), (6, true), (7, true), (8, true), (9, true), (10, true), (12, true), (14, true), (15, true), (3, false), (11, false), (13, false), (16, true), (17, false)] follows (by kernel_rfl) (fun hrl => ?_)
          refine Jp.q 36 rfl (want_all rfl) rfl rfl (Y.move rfl rfl) ?_
          refine Jp.q 37 rfl (want_all rfl) rfl rfl (Y.move rfl rfl) ?_
          refine Jp.q 38 rfl (want_all rfl) rfl rfl (Y.sub_ rfl rfl rfl (by first | exact wrap_i64 (by omega) (by omega) | rfl)) ?_
          refine Jp.q 40 rfl (want_all rfl) rfl rfl (Y.move rfl rfl) ?_
          refine Jp.q 41 rfl (want_all rfl) rfl rfl (Y.move rfl rfl) ?_
          refine Jp.q 42 rfl (want_all rfl) rfl rfl (Y.sub_ rfl rfl rfl (by first | exact wrap_i64 (by omega) (by omega) | rfl)) ?_
          refine Jp.q 43 rfl (want_all rfl) rfl rfl (Y.nilCheck rfl rfl) ?_
          refine Jp.q 44 rfl (want_all rfl) rfl rfl (by first | exact Y.fieldAddrP rfl rfl Try.underlying60 rfl Try.sizeOf58 (by decide) (show _ + 2 = _ from rfl) | exact Y.fieldAddr rfl rfl Try.underlying60 rfl Try.sizeOf58 (by decide)) ?_
          refine Jp.q 45 rfl (want_all rfl) rfl rfl (Y.indexArrP (q := 3) rfl rfl rfl Try.underlying58 Try.sizeOf23 (by omega) (by omega) (by omega)) ?_
          refine Jp.q 46 rfl (want_all rfl) rfl rfl (by first | exact Y.loadO 0 rfl Try.isAgg23 rfl rfl rfl | exact Y.loadC 1 rfl Try.isAgg23 rfl rfl c1) ?_
          refine Jp.q 48 rfl (want_all rfl) rfl rfl (Y.move rfl rfl) ?_
          refine Jp.q 50 rfl (want_all rfl) rfl rfl (Y.nilCheck rfl rfl) ?_
          refine Jp.q 51 rfl (want_all rfl) rfl rfl (by first | exact Y.fieldAddrP rfl rfl Try.underlying60 rfl Try.sizeOf58 (by decide) (show _ + 2 = _ from rfl) | exact Y.fieldAddr rfl rfl Try.underlying60 rfl Try.sizeOf58 (by decide)) ?_
          refine Jp.lit 39 3 [] [] rfl (want_all rfl) rfl rfl rfl rfl Try.underlying23 Try.sizeOf5 Try.zeroValue5 rfl rfl rfl rfl rfl fun b2 => ⟨(Kp.st ⟨rfl, trivial⟩), ?_⟩
          refine Jp.append 47 3 rfl (want_all rfl) rfl rfl rfl Try.underlying23 Try.underlying23 (.inl ⟨_, rfl⟩) Try.sizeOf5 Try.typeInfo5 Try.zeroValue5 rfl (by decide) rfl rfl rfl (Src.rd hr2) (bytesV_one _) (x2.length) ((bytesV x2)) (by first | omega | simp) (by simp) (by simp only [Try.t5]; omega) fun A8 c8 => ⟨(Kp.st ⟨rfl, trivial⟩), ?_⟩
          refine Jp.append 49 3 rfl (want_all rfl) rfl rfl rfl Try.underlying23 Try.underlying23 (.inl ⟨_, rfl⟩) Try.sizeOf5 Try.typeInfo5 Try.zeroValue5 rfl (by decide) rfl rfl rfl (Src.rd hrs) (bytesV_one _) ((x2 ++ bs).length) ((bytesV (x2 ++ bs))) (by first | omega | simp) (by simp [bytesV]) (by simp only [Try.t5]; omega) fun A9 c9 => ⟨(Kp.st ⟨rfl, trivial⟩), ?_⟩
          refine Jp.q 52 rfl (want_all rfl) rfl rfl (Y.indexArrP (q := 3) rfl rfl rfl Try.underlying58 Try.sizeOf23 (by omega) (by omega) (by omega)) ?_
          refine Jp.store 0 rfl (want_all rfl) rfl rfl Try.sizeOf23 rfl rfl rfl rfl rfl rfl Kp.last ?_
          refine Jp.done hK16 ?_
          refine Cd.seq fun K18 hK18 => ?_
          refine Cd.plain [(0, false), (1, false), (2, false)] rfl rfl ?_
          refine Jp.y 53 rfl (want_all rfl) rfl rfl Kp.true (Y.move rfl rfl) ?_
          refine Jp.y 54 rfl (want_all rfl) rfl rfl Kp.true (Y.lenslice rfl Try.underlying23 rfl) ?_
          refine Jp.y 6 rfl (want_all rfl) rfl rfl Kp.true (Y.assign rfl rfl) ?_
          refine Jp.done hK18 ?_
          refine Cd.freeze (i := 3) rfl (OwnS.up _ _ _ _ _ _) fun ρ7 hle7 hA7 => ?_
          have hnew : RdB ⟨A9, c9, x2 ++ bs⟩ ρ7 := hA7.rd
          have hr1 := RdB.up _ _ _ hle7 hr1
          have hr2 := RdB.up _ _ _ hle7 hr2
          rw [← hq]
          refine Cd.imp (i := 0) (A' := RfPt b ⟨bu, u, some ⟨b1, 0, none⟩, c, l, ⟨A1, k1, x1⟩, ⟨A9, c9, x2 ++ bs⟩⟩) rfl (fun h hh => hh) ?_
          refine Cd.ret [(0, _), (1, _)] rfl (res1 rfl rfl) ⟨rfl, rfl, trivial⟩ ⟨by rw [hV], ⟨A1, k1, x1⟩, ⟨A9, c9, x2 ++ bs⟩, by rw [hV]; exact hW2 ⟨A9, c9, x2 ++ bs⟩, hr1, hnew, rfl⟩
end Go.Proofs.Ytogkncmhonomdaa
