import Derived.Test.YtogkncmhonomdaaZFilesYc
set_option linter.unusedVariables false
set_option linter.unusedSimpArgs false
set_option maxRecDepth 100000
namespace Go.Proofs.Ytogkncmhonomdaa
open Go
theorem dataOf_congr {u u' : RefG} (h : u'.f = u.f) (x : Int × Int × Nat) : dataOf u' x = dataOf u x := by unfold dataOf; rw [h]
theorem dataOf_rd {r : RfG} {ρ : Hp} (h : RdRf r ρ) (x : Int × Int × Nat) : RdB (dataOf r.u x) ρ := by
  unfold dataOf
  split
  · exact h.input
  · cases e : r.u.f.files.xs[x.2.1.toNat]? with
    | none => exact RdS.nil 1 _
    | some f => exact h.files.2 f (List.mem_of_getElem? e)
theorem add_row (b q j : Nat) : (Addr.mk b 0 none).add (q + j) = (Addr.mk b q none).add j := by rw [add_mk, add_mk, Nat.zero_add]
theorem RdRf.withU {r : RfG} {ρ : Hp} {u' : RefG} (h : RdRf r ρ) (hu : RdRef u' ρ) (hf : u'.f = r.u.f) : RdRf ⟨r.bu, u', r.A, r.c, r.l, r.o1, r.o2⟩ ρ :=
  ⟨hu, by show RdB u'.f.input ρ; rw [hf]; exact h.input, by show RdFiles u'.f.files ρ; rw [hf]; exact h.files, h.o1, h.o2⟩
theorem rdb_cut {dA : Option Addr} {dc : Nat} {dx : Bytes} {ρ : Hp} {a0 hi : Nat} (h : RdB ⟨dA, dc, dx⟩ ρ) (ha : a0 ≤ dx.length) (hh : hi ≤ dx.length - a0) : RdB ⟨cutA dA dc a0 1, dc - a0, (dx.drop a0).take hi⟩ ρ := by
  have hbl : ((dx.drop a0).take hi).length = hi := by rw [List.length_take, List.length_drop]; omega
  have hd : RdS 1 (cutA dA dc a0 1) (dx.length - a0) (dc - a0) (bytesV (dx.drop a0)) ρ := by
    have h5 := RdS.drop (lo := a0) h (by show a0 ≤ dx.length; omega)
    rw [Nat.mul_one] at h5
    have h6 : (bytesV dx).drop a0 = bytesV (dx.drop a0) := by simp [bytesV]
    rw [← h6]; exact h5
  have h5 := RdS.take (l := hi) hd (by omega)
  rw [Nat.mul_one] at h5
  have h6 : (bytesV (dx.drop a0)).take hi = bytesV ((dx.drop a0).take hi) := by simp [bytesV]
  show RdS 1 _ ((dx.drop a0).take hi).length _ _ _
  rw [hbl, ← h6]; exact h5
theorem rfRead_spec (b : Nat) (p : FilesP) (r : RfG) (fd n : Int) (hrel : Rel p r) (hok : FsOk p) (hB : AtB 2305843009213693952 p) : Spec Try.prog 14 #[.pointer (some ⟨b, 0, none⟩), .int .i64 fd, .int .i64 n] (RdRf r) [(0, RfPt b r), (1, RefPt r.bu r.u), (2, RfOpen r)]
    (fun ρ ρ' v L => ρ' = ρ ∧ ∃ A c u' l, u'.f = r.u.f ∧ RdRef u' ρ ∧ Rel (readFP p fd n).2 ⟨r.bu, u', r.A, r.c, l, r.o1, r.o2⟩ ∧ v = .tuple #[.slice A ((readFP p fd n).1.getD []).length c, .int .i64 (readV (readFP p fd n).1)] ∧
      L = [(0, RfPt b ⟨r.bu, u', r.A, r.c, l, r.o1, r.o2⟩), (1, RefPt r.bu u'), (2, RfOpen ⟨r.bu, u', r.A, r.c, l, r.o1, r.o2⟩), (3, OwnS 5 1 A ((readFP p fd n).1.getD []).length c (bytesV ((readFP p fd n).1.getD [])))]) := by
  have hfew := hrel.few.1
  have hF := rfFind_spec b r fd hfew
  have hN := fdI_none hrel (fd := fd)
  have hS := fun h => fdI_some hrel (fd := fd) h
  have hM := fun i x (hx : r.l[i]? = some x) h2 at' ha u' hu => hrel.moved hx h2 (at' := at') ha u' hu u'.p rfl
  have hent := hrel.ent
  have hmany := hrel.few.2
  have huse := hrel.use
  have hDrd := fun ρ (h : RdRf r ρ) x => dataOf_rd h x
  obtain ⟨bu, u, A, c, l, o1, o2⟩ := r
  refine Spec.of 96 Try.func14 rfl Try.ntmps14 [(0, _), (1, _), (2, _)] rfl rfl ?_
  intro cx ρ hr h0
  refine Cd.seq fun K1 hK1 => ?_
  refine Cd.plain [(0, false), (1, false)] rfl rfl ?_
  refine Jp.y 6 rfl (want_all rfl) rfl rfl Kp.true (Y.assign rfl rfl) ?_
  refine Jp.y 7 rfl (want_all rfl) rfl rfl Kp.true (Y.assign rfl rfl) ?_
  refine Jp.done hK1 ?_
  refine Cd.seq fun K2 hK2 => ?_
  refine Cd.plain [(0, false), (1, false), (2, false), (3, false)] rfl rfl ?_
  refine Jp.y 10 rfl (want_all rfl) rfl rfl Kp.true (Y.move rfl rfl) ?_
  refine Jp.y 11 rfl (want_all rfl) rfl rfl Kp.true (Y.move rfl rfl) ?_
  refine Jp.call [0, 2] [0, 2] hF 12 rfl (want_all rfl) rfl rfl (Runs.fn rfl Try.call29 rfl) (by decide) (by decide) rfl trivial ?_
  rintro v1 ρ1 L1 ⟨rfl, rfl, rfl⟩
  refine ⟨rfl, fun hle1 => ⟨Kp.true, ?_⟩⟩
  dsimp only at hfew hN hS hM hent hmany huse hDrd ⊢
  obtain ⟨z, hz⟩ : ∃ z, fdI l fd = z := ⟨_, rfl⟩
  rw [hz] at hN hS ⊢
  refine Jp.y 8 rfl (want_all rfl) rfl rfl Kp.true (Y.assign rfl rfl) ?_
  refine Jp.done hK2 ?_
  refine Cd.seq fun K3 hK3 => ?_
  refine Cd.seq fun K4 hK4 => ?_
  refine Cd.plain [(0, false), (1, false), (2, false), (3, false), (4, false), (5, false), (6, false), (7, false), (8, false), (9, false), (10, false), (11, false), (12, false)] rfl rfl ?_
  refine Jp.y 13 rfl (want_all rfl) rfl rfl Kp.true (Y.move rfl rfl) ?_
  refine Jp.y 14 rfl (want_all rfl) rfl rfl Kp.true (Y.lss rfl rfl rfl) ?_
  by_cases hz0 : z < 0
  · have h1 : gget p.op fd = none := hN.1 hz0
    have hV := readP_none (n := n) h1
    refine Jp.slot 14 rfl (show _ = Value.bool true from congrArg Value.bool (decide_eq_true hz0)) ?_
    refine Jp.y 15 rfl (want_all rfl) rfl rfl Kp.true (Y.move rfl rfl) ?_
    refine Jp.slot 15 rfl (show _ = Value.bool true from rfl) ?_
    refine Jp.skip 16 rfl (want_as rfl rfl rfl rfl) rfl rfl Kp.true ?_
    refine Jp.skip 17 rfl (want_as rfl rfl rfl rfl) rfl rfl Kp.true ?_
    refine Jp.skip 18 rfl (want_as rfl rfl rfl rfl) rfl rfl Kp.true ?_
    refine Jp.skip 19 rfl (want_as rfl rfl rfl rfl) rfl rfl Kp.true ?_
    refine Jp.skip 20 rfl (want_as rfl rfl rfl rfl) rfl rfl Kp.true ?_
    refine Jp.skip 21 rfl (want_as rfl rfl rfl rfl) rfl rfl Kp.true ?_
    refine Jp.skip 22 rfl (want_as rfl rfl rfl rfl) rfl rfl Kp.true ?_
    refine Jp.skip 23 rfl (want_as rfl rfl rfl rfl) rfl rfl Kp.true ?_
    refine Jp.skip 24 rfl (want_as rfl rfl rfl rfl) rfl rfl Kp.true ?_
    refine Jp.y 25 rfl (want_all rfl) rfl rfl Kp.true (Y.pickT rfl rfl rfl) ?_
    refine Jp.done hK4 ?_
    refine Cd.condT rfl ?_
    refine Cd.seq fun K5 hK5 => ?_
    refine Cd.plain [(0, false), (1, false)] rfl rfl ?_
    refine Jp.y 6 rfl (want_all rfl) rfl rfl Kp.true (Y.assign rfl rfl) ?_
    refine Jp.y 7 rfl (want_all rfl) rfl rfl Kp.true (Y.assign rfl rfl) ?_
    refine Jp.done hK5 ?_
    refine Cd.make 3 (A := OwnS 5 1 none 0 0 []) (OwnS.nil _ _ _) ?_
    refine Cd.ret [(0, _), (1, _), (2, _), (3, _)] rfl (res2 rfl rfl rfl) ⟨rfl, rfl, rfl, rfl, trivial⟩ ⟨rfl, none, 0, u, l, rfl, hr.use, by rw [hV]; exact hrel, by rw [hV]; rfl, by rw [hV]; rfl⟩
  · obtain ⟨i, x, e1, e2, hx, hxf, hg⟩ := hS hz0
    have hil := (List.getElem?_eq_some_iff.1 hx).1
    have hen := hent x (List.mem_of_getElem? hx)
    have hp : ∀ u, RfPt b ⟨bu, u, A, c, l, o1, o2⟩ = Pt b (.cells #[.pointer (some ⟨bu, 0, none⟩), .slice A l.length c, o1.v, o2.v] 60) := fun _ => rfl
    have hq : ∀ u, RfOpen ⟨bu, u, A, c, l, o1, o2⟩ = OwnS 74 3 A l.length c (l.flatMap openC) := fun _ => rfl
    have hrows := openC_rows l
    rw [e1, hp u, hq u]
    refine Jp.ownAt 2 rfl (show 0 < l.length by omega) ?_
    rintro b1 rfl
    have c1 := (OwnS.hasC (e := 74) (m := 3) (k := l.length) (c := c) (ad := ⟨b1, 0, none⟩) (rw_get hrows hx (show (openC x)[1]? = some (.int .i64 x.2.1) from rfl))).add2
    have c2 := (OwnS.hasC (e := 74) (m := 3) (k := l.length) (c := c) (ad := ⟨b1, 0, none⟩) (rw_get hrows hx (show (openC x)[2]? = some (.int .i64 (x.2.2 : Int)) from rfl))).add2
    refine Jp.slot 14 rfl (show _ = Value.bool false from congrArg Value.bool (decide_eq_false (by omega))) ?_
    refine Jp.y 15 rfl (want_all rfl) rfl rfl Kp.true (Y.move rfl rfl) ?_
    refine Jp.slot 15 rfl (show _ = Value.bool false from rfl) ?_
    refine Jp.y 16 rfl (want_as rfl rfl rfl rfl) rfl rfl Kp.true (Y.move rfl rfl) ?_
    refine Jp.y 17 rfl (want_as rfl rfl rfl rfl) rfl rfl Kp.true (Y.nilCheck rfl rfl) ?_
    refine Jp.y 18 rfl (want_as rfl rfl rfl rfl) rfl rfl Kp.true (by first | exact Y.fieldAddrP rfl rfl Try.underlying60 rfl Try.sizeOf57 (by decide) (show _ + 1 = _ from rfl) | exact Y.fieldAddr rfl rfl Try.underlying60 rfl Try.sizeOf57 (by decide)) ?_
    refine Jp.y 19 rfl (want_as rfl rfl rfl rfl) rfl rfl Kp.true (by first | exact Y.loadO 0 rfl Try.isAgg57 rfl rfl rfl | exact Y.loadC 2 rfl Try.isAgg57 rfl rfl c1 | exact Y.loadC 2 rfl Try.isAgg57 rfl rfl c2) ?_
    refine Jp.y 20 rfl (want_as rfl rfl rfl rfl) rfl rfl Kp.true (Y.move rfl rfl) ?_
    refine Jp.y 21 rfl (want_as rfl rfl rfl rfl) rfl rfl Kp.true (Y.indexAddr (q := i * 3) rfl rfl rfl Try.underlying57 Try.sizeOf74 (by omega) (by omega) (by omega)) ?_
    refine Jp.y 22 rfl (want_as rfl rfl rfl rfl) rfl rfl Kp.true (by first | exact Y.fieldAddrP rfl rfl Try.underlying74 rfl Try.sizeOf3 (by decide) (show _ + 1 = _ from rfl) | exact Y.fieldAddr rfl rfl Try.underlying74 rfl Try.sizeOf3 (by decide)) ?_
    refine Jp.y 23 rfl (want_as rfl rfl rfl rfl) rfl rfl Kp.true (by first | exact Y.loadO 0 rfl Try.isAgg3 rfl rfl rfl | exact Y.loadC 2 rfl Try.isAgg3 rfl rfl c1 | exact Y.loadC 2 rfl Try.isAgg3 rfl rfl c2) ?_
    refine Jp.y 24 rfl (want_as rfl rfl rfl rfl) rfl rfl Kp.true (Y.eql rfl rfl rfl) ?_
    refine Jp.y 25 rfl (want_all rfl) rfl rfl Kp.true (Y.pickF rfl rfl rfl) ?_
    refine Jp.done hK4 ?_
    refine Cd.cond rfl (fun g1 => ?_) (fun g1 => ?_)
    · have h2 : x.2.1 = -2 := by simpa using g1
      have hV := readP_wr (n := n) hg (by rw [filOf, if_pos h2])
      refine Cd.seq fun K6 hK6 => ?_
      refine Cd.plain [(0, false), (1, false)] rfl rfl ?_
      refine Jp.y 6 rfl (want_all rfl) rfl rfl Kp.true (Y.assign rfl rfl) ?_
      refine Jp.y 7 rfl (want_all rfl) rfl rfl Kp.true (Y.assign rfl rfl) ?_
      refine Jp.done hK6 ?_
      refine Cd.make 3 (A := OwnS 5 1 none 0 0 []) (OwnS.nil _ _ _) ?_
      rw [← hp u, ← hq u]
      refine Cd.ret [(0, _), (1, _), (2, _), (3, _)] rfl (res2 rfl rfl rfl) ⟨rfl, rfl, rfl, rfl, trivial⟩ ⟨rfl, none, 0, u, l, rfl, hr.use, by rw [hV]; exact hrel, by rw [hV]; rfl, by rw [hV]; rfl⟩
    · have h2 : x.2.1 ≠ -2 := by simpa using g1
      have hfx : filOf u x = ⟨(dataOf u x).xs, x.2.2, false⟩ := by rw [filOf, if_neg h2]
      rw [hfx] at hg
      have hat : x.2.2 ≤ 2305843009213693952 := hB fd _ hg
      have hdl : (dataOf u x).xs.length ≤ 4096 := hok.op _ (gget_mem hg)
      have hMx := hM i x hx h2
      rw [hxf] at hMx
      have hV := readP_some (n := n) hg rfl
      dsimp only at hV
      obtain ⟨hc1, hc2⟩ := clampN_range n
      obtain ⟨ht0, ht1⟩ := takeP_range (u := p.use) hok.use hc1
      have hrD := hDrd _ hr x
      have hclamp : clampN n = if 4096 < (if n < 0 then 0 else n) then 4096 else (if n < 0 then 0 else n) := rfl
      obtain ⟨n1, hn1⟩ : ∃ n1 : Int, n1 = if n < 0 then 0 else n := ⟨_, rfl⟩
      rw [← hn1] at hclamp
      obtain ⟨n2, hn2⟩ : ∃ n2 : Int, n2 = clampN n := ⟨_, rfl⟩
      rw [← hn2] at hclamp hc1 hc2 ht0 ht1 hV
      refine Cd.skip hK3 ?_
      refine Cd.seq fun K7 hK7 => ?_
      refine Cd.seq fun K8 hK8 => ?_
      refine Cd.plain [(0, false), (1, false)] rfl rfl ?_
      refine Jp.y 26 rfl (want_all rfl) rfl rfl Kp.true (Y.move rfl rfl) ?_
      refine Jp.y 27 rfl (want_all rfl) rfl rfl Kp.true (Y.lss rfl rfl rfl) ?_
      refine Jp.done hK8 ?_
      refine Cd.joinG (G := Unit) (fun _ => True) (fun _ => [(2, .int .i64 n1)]) [(0, _), (8, _)] ⟨rfl, rfl, trivial⟩ (fun _ => []) [(0, _), (1, _), (2, _)] ⟨rfl, rfl, rfl, trivial⟩ hK7 (fun g hφ => ?_) (fun hj1 => ?_)
      · clear hφ
        refine Cd.seq fun K9 hK9 => ?_
        refine Cd.seq fun K10 hK10 => ?_
        refine Cd.plain [(0, false), (1, false)] rfl rfl ?_
        refine Jp.y 28 rfl (want_all rfl) rfl rfl Kp.true (Y.move rfl rfl) ?_
        refine Jp.y 29 rfl (want_all rfl) rfl rfl Kp.true (Y.gtr rfl rfl rfl) ?_
        refine Jp.done hK10 ?_
        refine Cd.joinG (G := Unit) (fun _ => True) (fun _ => [(2, .int .i64 n2)]) [(0, _), (8, _)] ⟨rfl, rfl, trivial⟩ (fun _ => []) [(0, _), (1, _), (2, _)] ⟨rfl, rfl, rfl, trivial⟩ hK9 (fun g hφ => ?_) (fun hj2 => ?_)
        · clear hφ
          refine Cd.seq fun K11 hK11 => ?_
          refine Cd.plain [(0, false), (1, false), (2, false), (3, false), (4, false), (5, false), (6, false)] rfl rfl ?_
          refine Jp.y 30 rfl (want_all rfl) rfl rfl Kp.true (Y.move rfl rfl) ?_
          refine Jp.y 31 rfl (want_all rfl) rfl rfl Kp.true (Y.nilCheck rfl rfl) ?_
          refine Jp.y 32 rfl (want_all rfl) rfl rfl Kp.true (by first | exact Y.fieldAddrP rfl rfl Try.underlying60 rfl Try.sizeOf56 (by decide) (show _ + 0 = _ from rfl) | exact Y.fieldAddr rfl rfl Try.underlying60 rfl Try.sizeOf56 (by decide)) ?_
          refine Jp.y 33 rfl (want_all rfl) rfl rfl Kp.true (by first | exact Y.loadO 0 rfl Try.isAgg56 rfl rfl rfl | exact Y.loadC 2 rfl Try.isAgg56 rfl rfl c1 | exact Y.loadC 2 rfl Try.isAgg56 rfl rfl c2) ?_
          refine Jp.y 34 rfl (want_all rfl) rfl rfl Kp.true (Y.move rfl rfl) ?_
          refine Jp.call [1] [1] (refTake2_spec bu u n2) 35 rfl (want_all rfl) rfl rfl (Runs.fn rfl Try.call31 rfl) (by decide) (by decide) rfl hr.use ?_
          rintro v5 ρ5 L5 ⟨rfl, rfl, u2, hu2, hru2, hup2, rfl⟩
          refine ⟨rfl, fun hle5 => ⟨Kp.true, ?_⟩⟩
          rw [huse] at ht0 ht1 hV
          obtain ⟨t, ht⟩ : ∃ t : Nat, (takeP u.p n2).1 = (t : Int) := ⟨_, (Int.toNat_of_nonneg ht0).symm⟩
          rw [ht] at ht0 ht1 hV ⊢
          rw [← hup2, show (t : Int).toNat = t from rfl] at hV
          have hD := rfData_spec b ⟨bu, u2, some ⟨b1, 0, none⟩, c, l, o1, o2⟩ x (by show EntOk u2.f.files.xs.length x; rw [hu2]; exact hen) h2 (by show u2.f.files.xs.length ≤ 8; rw [hu2]; exact hmany)
          have hr2 := RdRf.withU (r := ⟨bu, u, some ⟨b1, 0, none⟩, c, l, o1, o2⟩) hr hru2 hu2
          dsimp only at hr2
          refine Jp.y 2 rfl (want_all rfl) rfl rfl Kp.true (Y.assign rfl rfl) ?_
          refine Jp.done hK11 ?_
          refine Cd.seq fun K12 hK12 => ?_
          refine Cd.plain [(0, false), (1, false), (2, false), (3, false), (4, false), (5, false), (6, false), (7, false), (8, false), (9, false)] rfl rfl ?_
          refine Jp.y 36 rfl (want_all rfl) rfl rfl Kp.true (Y.move rfl rfl) ?_
          refine Jp.y 37 rfl (want_all rfl) rfl rfl Kp.true (Y.move rfl rfl) ?_
          refine Jp.y 38 rfl (want_all rfl) rfl rfl Kp.true (Y.nilCheck rfl rfl) ?_
          refine Jp.y 39 rfl (want_all rfl) rfl rfl Kp.true (by first | exact Y.fieldAddrP rfl rfl Try.underlying60 rfl Try.sizeOf57 (by decide) (show _ + 1 = _ from rfl) | exact Y.fieldAddr rfl rfl Try.underlying60 rfl Try.sizeOf57 (by decide)) ?_
          refine Jp.y 40 rfl (want_all rfl) rfl rfl Kp.true (by first | exact Y.loadO 0 rfl Try.isAgg57 rfl rfl rfl | exact Y.loadC 2 rfl Try.isAgg57 rfl rfl c1 | exact Y.loadC 2 rfl Try.isAgg57 rfl rfl c2) ?_
          refine Jp.y 41 rfl (want_all rfl) rfl rfl Kp.true (Y.move rfl rfl) ?_
          refine Jp.y 42 rfl (want_all rfl) rfl rfl Kp.true (Y.indexAddr (q := i * 3) rfl rfl rfl Try.underlying57 Try.sizeOf74 (by omega) (by omega) (by omega)) ?_
          refine Jp.y 43 rfl (want_all rfl) rfl rfl Kp.true (Y.loadSAgg 2 (q := i * 3) (openC x) rfl Try.isAgg74 Try.sizeOf74 rfl rfl rfl rfl (fun p x hx2 => rw_get hrows hx hx2)) ?_
          rw [← hp u2]
          refine Jp.call [0, 1] [0, 1] hD 44 rfl (want_all rfl) rfl rfl (Runs.fn rfl Try.call32 rfl) (by decide) (by decide) rfl hr2 ?_
          rintro v6 ρ6 L6 ⟨rfl, rfl, rfl⟩
          refine ⟨rfl, fun hle6 => ⟨Kp.true, ?_⟩⟩
          rw [hp u2]
          dsimp only
          rw [dataOf_congr hu2]
          have hMu := fun at' ha => hMx at' ha u2 hu2
          obtain ⟨⟨dA, dc, dx⟩, hDe⟩ : ∃ D, dataOf u x = D := ⟨_, rfl⟩
          rw [hDe] at hrD hdl hV hMu ⊢
          dsimp only at hdl hV hMu
          rw [show Sl.v ⟨dA, dc, dx⟩ = .slice dA dx.length dc from rfl]
          obtain ⟨a0, ha0⟩ : ∃ a0, x.2.2 = a0 := ⟨_, rfl⟩
          rw [ha0] at hat hV c2
          refine Jp.y 9 rfl (want_all rfl) rfl rfl Kp.true (Y.assign rfl rfl) ?_
          refine Jp.done hK12 ?_
          refine Cd.seq fun K13 hK13 => ?_
          refine Cd.seq fun K14 hK14 => ?_
          refine Cd.plain [(0, false), (1, false), (2, false), (3, false), (4, false), (5, false), (6, false), (7, false), (8, false), (9, false), (10, false)] rfl rfl ?_
          refine Jp.y 45 rfl (want_all rfl) rfl rfl Kp.true (Y.move rfl rfl) ?_
          refine Jp.y 46 rfl (want_all rfl) rfl rfl Kp.true (Y.nilCheck rfl rfl) ?_
          refine Jp.y 47 rfl (want_all rfl) rfl rfl Kp.true (by first | exact Y.fieldAddrP rfl rfl Try.underlying60 rfl Try.sizeOf57 (by decide) (show _ + 1 = _ from rfl) | exact Y.fieldAddr rfl rfl Try.underlying60 rfl Try.sizeOf57 (by decide)) ?_
          refine Jp.y 48 rfl (want_all rfl) rfl rfl Kp.true (by first | exact Y.loadO 0 rfl Try.isAgg57 rfl rfl rfl | exact Y.loadC 2 rfl Try.isAgg57 rfl rfl c1 | exact Y.loadC 2 rfl Try.isAgg57 rfl rfl c2) ?_
          refine Jp.y 49 rfl (want_all rfl) rfl rfl Kp.true (Y.move rfl rfl) ?_
          refine Jp.y 50 rfl (want_all rfl) rfl rfl Kp.true (Y.indexAddr (q := i * 3) rfl rfl rfl Try.underlying57 Try.sizeOf74 (by omega) (by omega) (by omega)) ?_
          refine Jp.y 51 rfl (want_all rfl) rfl rfl Kp.true (by first | exact Y.fieldAddrP rfl rfl Try.underlying74 rfl Try.sizeOf2 (by decide) (show _ + 2 = _ from rfl) | exact Y.fieldAddr rfl rfl Try.underlying74 rfl Try.sizeOf2 (by decide)) ?_
          refine Jp.y 52 rfl (want_all rfl) rfl rfl Kp.true (by first | exact Y.loadO 0 rfl Try.isAgg2 rfl rfl rfl | exact Y.loadC 2 rfl Try.isAgg2 rfl rfl c1 | exact Y.loadC 2 rfl Try.isAgg2 rfl rfl c2) ?_
          refine Jp.y 53 rfl (want_all rfl) rfl rfl Kp.true (Y.move rfl rfl) ?_
          refine Jp.y 54 rfl (want_all rfl) rfl rfl Kp.true (Y.lenslice rfl Try.underlying23 rfl) ?_
          refine Jp.y 55 rfl (want_all rfl) rfl rfl Kp.true (Y.geq rfl rfl rfl) ?_
          refine Jp.done hK14 ?_
          refine Cd.cond rfl (fun g3 => ?_) (fun g3 => ?_)
          · have hge : dx.length ≤ a0 := by simp at g3; omega
            have hle : leftP ⟨dx, a0, false⟩ = [] := by rw [leftP]; exact List.drop_of_length_le (by show dx.length ≤ min a0 dx.length; omega)
            rw [hle] at hV
            simp only [List.take_nil, List.length_nil, Nat.add_zero] at hV
            have hR := hMu a0 (by omega)
            have hls : l.set i (fd, x.2.1, a0) = l := by
              have e : l[i] = (fd, x.2.1, a0) := by rw [(List.getElem?_eq_some_iff.1 hx).2, ← hxf, ← ha0]
              rw [← e]; exact List.set_getElem_self _
            rw [hls] at hR
            refine Cd.seq fun K15 hK15 => ?_
            refine Cd.plain [(0, false), (1, false)] rfl rfl ?_
            refine Jp.y 6 rfl (want_all rfl) rfl rfl Kp.true (Y.assign rfl rfl) ?_
            refine Jp.y 7 rfl (want_all rfl) rfl rfl Kp.true (Y.assign rfl rfl) ?_
            refine Jp.done hK15 ?_
            refine Cd.make 3 (A := OwnS 5 1 none 0 0 []) (OwnS.nil _ _ _) ?_
            rw [← hp u2, ← hq u2]
            refine Cd.ret [(0, _), (1, _), (2, _), (3, _)] rfl (res2 rfl rfl rfl) ⟨rfl, rfl, rfl, rfl, trivial⟩ ⟨rfl, none, 0, u2, l, hu2, hru2, by rw [hV]; exact hR, by rw [hV]; rfl, by rw [hV]; rfl⟩
          · have hlt : a0 < dx.length := by simp at g3; omega
            obtain ⟨hi, hhi⟩ : ∃ hi : Nat, hi = min t (dx.length - a0) := ⟨_, rfl⟩
            have hb : (leftP ⟨dx, a0, false⟩).take t = (dx.drop a0).take hi := by
              rw [leftP, show min a0 dx.length = a0 by omega, hhi]
              apply List.ext_getElem?
              intro j
              simp only [List.getElem?_take, List.getElem?_drop]
              by_cases hj : j < t
              · by_cases hj2 : j < dx.length - a0
                · rw [if_pos hj, if_pos (by omega)]
                · rw [if_pos hj, if_neg (by omega), List.getElem?_eq_none_iff]; omega
              · rw [if_neg hj, if_neg (by omega)]
            have hbl : ((dx.drop a0).take hi).length = hi := by rw [List.length_take, List.length_drop]; omega
            rw [hb, hbl] at hV
            have hrt := rdb_cut (a0 := a0) (hi := hi) hrD (by omega) (by omega)
            have hdc : dx.length ≤ dc := hrD.2.1.1
            have hR := hMu (a0 + hi) (by omega)
            refine Cd.skip hK13 ?_
            refine Cd.seq fun K16 hK16 => ?_
            refine Cd.plain [(0, false), (1, false), (2, false), (3, false), (4, false), (5, false), (6, false), (7, false), (8, false), (9, false), (10, false)] rfl rfl ?_
            refine Jp.y 56 rfl (want_all rfl) rfl rfl Kp.true (Y.move rfl rfl) ?_
            refine Jp.y 57 rfl (want_all rfl) rfl rfl Kp.true (Y.move rfl rfl) ?_
            refine Jp.y 58 rfl (want_all rfl) rfl rfl Kp.true (Y.nilCheck rfl rfl) ?_
            refine Jp.y 59 rfl (want_all rfl) rfl rfl Kp.true (by first | exact Y.fieldAddrP rfl rfl Try.underlying60 rfl Try.sizeOf57 (by decide) (show _ + 1 = _ from rfl) | exact Y.fieldAddr rfl rfl Try.underlying60 rfl Try.sizeOf57 (by decide)) ?_
            refine Jp.y 60 rfl (want_all rfl) rfl rfl Kp.true (by first | exact Y.loadO 0 rfl Try.isAgg57 rfl rfl rfl | exact Y.loadC 2 rfl Try.isAgg57 rfl rfl c1 | exact Y.loadC 2 rfl Try.isAgg57 rfl rfl c2) ?_
            refine Jp.y 61 rfl (want_all rfl) rfl rfl Kp.true (Y.move rfl rfl) ?_
            refine Jp.y 62 rfl (want_all rfl) rfl rfl Kp.true (Y.indexAddr (q := i * 3) rfl rfl rfl Try.underlying57 Try.sizeOf74 (by omega) (by omega) (by omega)) ?_
            refine Jp.y 63 rfl (want_all rfl) rfl rfl Kp.true (by first | exact Y.fieldAddrP rfl rfl Try.underlying74 rfl Try.sizeOf2 (by decide) (show _ + 2 = _ from rfl) | exact Y.fieldAddr rfl rfl Try.underlying74 rfl Try.sizeOf2 (by decide)) ?_
            refine Jp.y 64 rfl (want_all rfl) rfl rfl Kp.true (by first | exact Y.loadO 0 rfl Try.isAgg2 rfl rfl rfl | exact Y.loadC 2 rfl Try.isAgg2 rfl rfl c1 | exact Y.loadC 2 rfl Try.isAgg2 rfl rfl c2) ?_
            refine Jp.y 65 rfl (want_all rfl) rfl rfl Kp.true (Y.sliceFrom (lo := a0) rfl rfl rfl Try.underlying23 Try.sizeOf5 (by omega) (by omega)) ?_
            refine Jp.y 9 rfl (want_all rfl) rfl rfl Kp.true (Y.assign rfl rfl) ?_
            refine Jp.done hK16 ?_
            refine Cd.seq fun K17 hK17 => ?_
            refine Cd.seq fun K18 hK18 => ?_
            refine Cd.plain [(0, false), (1, false), (2, false), (3, false)] rfl rfl ?_
            refine Jp.y 66 rfl (want_all rfl) rfl rfl Kp.true (Y.move rfl rfl) ?_
            refine Jp.y 67 rfl (want_all rfl) rfl rfl Kp.true (Y.move rfl rfl) ?_
            refine Jp.y 68 rfl (want_all rfl) rfl rfl Kp.true (Y.lenslice rfl Try.underlying23 rfl) ?_
            refine Jp.y 69 rfl (want_all rfl) rfl rfl Kp.true (Y.lss rfl rfl rfl) ?_
            refine Jp.done hK18 ?_
            refine Cd.joinG (G := Unit) (fun _ => True) (fun _ => [(9, .slice (cutA dA dc a0 1) hi (dc - a0))]) [(0, _), (8, _)] ⟨rfl, rfl, trivial⟩ (fun _ => []) [(0, _), (1, _), (2, _)] ⟨rfl, rfl, rfl, trivial⟩ hK17 (fun g hφ => ?_) (fun hj3 => ?_)
            · clear hφ
              obtain ⟨l2, hl2⟩ : ∃ l2, l.set i (fd, x.2.1, a0 + hi) = l2 := ⟨_, rfl⟩
              rw [hl2] at hR
              have hset : (l.flatMap openC).set (i * 3 + 2) (.int .i64 ((a0 + hi : Nat) : Int)) = l2.flatMap openC := by
                rw [← hl2, ← hxf]; exact rw_set hrows hx (by omega) (openC_at x (a0 + hi))
              have hl2l : l2.length = l.length := by rw [← hl2, List.length_set]
              have hp2 : RfPt b ⟨bu, u2, some ⟨b1, 0, none⟩, c, l2, o1, o2⟩ = Pt b (.cells #[.pointer (some ⟨bu, 0, none⟩), .slice (some ⟨b1, 0, none⟩) l.length c, o1.v, o2.v] 60) := by rw [← hl2l]; rfl
              have hq2 : RfOpen ⟨bu, u2, some ⟨b1, 0, none⟩, c, l2, o1, o2⟩ = OwnS 74 3 (some ⟨b1, 0, none⟩) l.length c (l2.flatMap openC) := by rw [← hl2l]; rfl
              refine Cd.seq fun K19 hK19 => ?_
              refine Cd.drawn3 [(0, _), (2, _)] ⟨rfl, rfl, trivial⟩ [] [(0, true), (1, true), (2, true), (3, true), (4, true), (5, true), (6, true), (7, true), (8, true), (9, true), (10, true), (11, true), (12, true), (13, true), (14, true), (15, true), (16, true), (17, true)] 18 [] follows (by kernel_rfl) (fun hrl => ?_)
              refine Jp2.head ?_
              refine Jp.q 73 rfl (want_all rfl) rfl rfl (Y.move rfl rfl) ?_
              refine Jp.q 74 rfl (want_all rfl) rfl rfl (Y.nilCheck rfl rfl) ?_
              refine Jp.q 75 rfl (want_all rfl) rfl rfl (by first | exact Y.fieldAddrP rfl rfl Try.underlying60 rfl Try.sizeOf57 (by decide) (show _ + 1 = _ from rfl) | exact Y.fieldAddr rfl rfl Try.underlying60 rfl Try.sizeOf57 (by decide)) ?_
              refine Jp.q 76 rfl (want_all rfl) rfl rfl (by first | exact Y.loadO 0 rfl Try.isAgg57 rfl rfl rfl | exact Y.loadC 2 rfl Try.isAgg57 rfl rfl c1 | exact Y.loadC 2 rfl Try.isAgg57 rfl rfl c2) ?_
              refine Jp.q 77 rfl (want_all rfl) rfl rfl (Y.move rfl rfl) ?_
              refine Jp.q 78 rfl (want_all rfl) rfl rfl (Y.move rfl rfl) ?_
              refine Jp.q 79 rfl (want_all rfl) rfl rfl (Y.nilCheck rfl rfl) ?_
              refine Jp.q 80 rfl (want_all rfl) rfl rfl (by first | exact Y.fieldAddrP rfl rfl Try.underlying60 rfl Try.sizeOf57 (by decide) (show _ + 1 = _ from rfl) | exact Y.fieldAddr rfl rfl Try.underlying60 rfl Try.sizeOf57 (by decide)) ?_
              refine Jp.q 81 rfl (want_all rfl) rfl rfl (by first | exact Y.loadO 0 rfl Try.isAgg57 rfl rfl rfl | exact Y.loadC 2 rfl Try.isAgg57 rfl rfl c1 | exact Y.loadC 2 rfl Try.isAgg57 rfl rfl c2) ?_
              refine Jp.q 82 rfl (want_all rfl) rfl rfl (Y.move rfl rfl) ?_
              refine Jp.q 83 rfl (want_all rfl) rfl rfl (Y.indexAddr (q := i * 3) rfl rfl rfl Try.underlying57 Try.sizeOf74 (by omega) (by omega) (by omega)) ?_
              refine Jp.q 84 rfl (want_all rfl) rfl rfl (by first | exact Y.fieldAddrP rfl rfl Try.underlying74 rfl Try.sizeOf2 (by decide) (show _ + 2 = _ from rfl) | exact Y.fieldAddr rfl rfl Try.underlying74 rfl Try.sizeOf2 (by decide)) ?_
              refine Jp.q 85 rfl (want_all rfl) rfl rfl (by first | exact Y.loadO 0 rfl Try.isAgg2 rfl rfl rfl | exact Y.loadC 2 rfl Try.isAgg2 rfl rfl c1 | exact Y.loadC 2 rfl Try.isAgg2 rfl rfl c2) ?_
              refine Jp.q 86 rfl (want_all rfl) rfl rfl (Y.move rfl rfl) ?_
              refine Jp.q 87 rfl (want_all rfl) rfl rfl (Y.lenslice rfl Try.underlying23 rfl) ?_
              refine Jp.q 88 rfl (want_all rfl) rfl rfl (Y.add_ rfl rfl rfl (by first | exact wrap_i64 (by omega) (by omega) | rfl)) ?_
              refine Jp.q 89 rfl (want_all rfl) rfl rfl (Y.indexAddr (q := i * 3) rfl rfl rfl Try.underlying57 Try.sizeOf74 (by omega) (by omega) (by omega)) ?_
              refine Jp.slot 88 rfl (show _ = Value.int .i64 ((a0 + hi : Nat) : Int) from congrArg (Value.int .i64) (by omega)) ?_
              refine Jp.slot 89 rfl (show _ = Value.pointer (some ⟨b1, i * 3, none⟩) by rw [add_mk, Nat.zero_add]) ?_
              refine Jp.q 90 rfl (want_all rfl) rfl rfl (by first | exact Y.fieldAddrP rfl rfl Try.underlying74 rfl Try.sizeOf2 (by decide) (show _ + 2 = _ from rfl) | exact Y.fieldAddr rfl rfl Try.underlying74 rfl Try.sizeOf2 (by decide)) ?_
              refine Jp2.tail ?_
              refine Jp2.loud ?_
              refine Jp.storeS 2 (q := i * 3 + 2) rfl (want_all rfl) rfl rfl Try.sizeOf2 rfl rfl rfl rfl (add_row b1 (i * 3) 2) (by omega) (l2.flatMap openC) hset Kp.true ?_
              refine Jp2.tail ?_
              rw [← hp2, ← hq2]
              refine Jp2.nil ?_
              refine Jp.done hK19 ?_
              refine Cd.seq fun K20 hK20 => ?_
              refine Cd.plain [(0, false), (1, false), (2, false), (3, false), (4, false), (5, false), (6, false)] rfl rfl ?_
              refine Jp.lit 91 3 [] [] rfl (want_all rfl) rfl rfl rfl rfl Try.underlying23 Try.sizeOf5 Try.zeroValue5 rfl rfl rfl rfl rfl fun b2 => ⟨Kp.true, ?_⟩
              rw [show (Value.slice (cutA dA dc a0 1) hi (dc - a0)) = Sl.v ⟨cutA dA dc a0 1, dc - a0, (dx.drop a0).take hi⟩ by rw [Sl.v, hbl]]
              unfold Sl.v
              dsimp only
              refine Jp.y 92 rfl (want_all rfl) rfl rfl Kp.true (Y.move rfl rfl) ?_
              refine Jp.append 93 3 rfl (want_all rfl) rfl rfl rfl Try.underlying23 Try.underlying23 (.inl ⟨_, rfl⟩) Try.sizeOf5 Try.typeInfo5 Try.zeroValue5 rfl (by decide) rfl rfl rfl (Src.rd hrt) (bytesV_one _) (hi) ((bytesV ((dx.drop a0).take hi))) (by first | omega | simp) (by simp) (by simp only [Try.t5]; omega) fun A9 c9 => ⟨Kp.true, ?_⟩
              refine Jp.y 94 rfl (want_all rfl) rfl rfl Kp.true (Y.move rfl rfl) ?_
              refine Jp.y 95 rfl (want_all rfl) rfl rfl Kp.true (Y.lenslice rfl Try.underlying23 rfl) ?_
              refine Jp.y 6 rfl (want_all rfl) rfl rfl Kp.true (Y.assign rfl rfl) ?_
              refine Jp.y 7 rfl (want_all rfl) rfl rfl Kp.true (Y.assign rfl rfl) ?_
              refine Jp.done hK20 ?_
              refine Cd.ret [(0, _), (1, _), (2, _), (3, _)] rfl (res2 rfl rfl rfl) ⟨rfl, rfl, rfl, rfl, trivial⟩ ⟨rfl, A9, c9, u2, l2, hu2, hru2, by rw [hV]; exact hR, by rw [hV]; simp only [readV, Option.getD_some, hbl], by rw [hV]; simp only [Option.getD_some, hbl]⟩
            · skip
              refine Cd.cond rfl (fun g4 => ?_) (fun g4 => ?_)
              · have htl : t < dx.length - a0 := by simp at g4; omega
                have hth : hi = t := by omega
                refine Cd.plain [(0, false), (1, false), (2, false), (3, false)] rfl rfl ?_
                refine Jp.y 70 rfl (want_all rfl) rfl rfl Kp.true (Y.move rfl rfl) ?_
                refine Jp.y 71 rfl (want_all rfl) rfl rfl Kp.true (Y.move rfl rfl) ?_
                refine Jp.y 72 rfl (want_all rfl) rfl rfl Kp.true (Y.sliceTo (hi := t) rfl rfl rfl Try.underlying23 Try.sizeOf5 (by omega) (by omega)) ?_
                refine Jp.y 9 rfl (want_all rfl) rfl rfl Kp.true (Y.assign rfl rfl) ?_
                refine Jp.done hK17 ?_
                refine Cd.slot 9 rfl (show _ = Value.slice (cutA dA dc a0 1) hi (dc - a0) by rw [hth]) ?_
                exact Cd.meet (hj3 () trivial) ⟨rfl, rfl, rfl, trivial⟩ ⟨rfl, rfl, rfl, trivial⟩
              · have htl : ¬ t < dx.length - a0 := by simp at g4; omega
                have hth : hi = dx.length - a0 := by omega
                refine Cd.skip hK17 ?_
                refine Cd.slot 9 rfl (show _ = Value.slice (cutA dA dc a0 1) hi (dc - a0) by rw [hth]) ?_
                exact Cd.meet (hj3 () trivial) ⟨rfl, rfl, rfl, trivial⟩ ⟨rfl, rfl, rfl, trivial⟩
        · skip
          refine Cd.cond rfl (fun gb => ?_) (fun gb => ?_)
          · skip
            refine Cd.plain [(0, false)] rfl rfl ?_
            refine Jp.y 2 rfl (want_all rfl) rfl rfl Kp.true (Y.assign rfl rfl) ?_
            refine Jp.done hK9 ?_
            refine Cd.slot 2 rfl (show _ = Value.int .i64 n2 from congrArg (Value.int .i64) (by rw [hclamp, if_pos (by simpa using gb)])) ?_
            exact Cd.meet (hj2 () trivial) ⟨rfl, rfl, rfl, trivial⟩ ⟨rfl, rfl, rfl, trivial⟩
          · skip
            refine Cd.skip hK9 ?_
            refine Cd.slot 2 rfl (show _ = Value.int .i64 n2 from congrArg (Value.int .i64) (by rw [hclamp, if_neg (by simpa using gb)])) ?_
            exact Cd.meet (hj2 () trivial) ⟨rfl, rfl, rfl, trivial⟩ ⟨rfl, rfl, rfl, trivial⟩
      · skip
        refine Cd.cond rfl (fun ga => ?_) (fun ga => ?_)
        · skip
          refine Cd.plain [(0, false)] rfl rfl ?_
          refine Jp.y 2 rfl (want_all rfl) rfl rfl Kp.true (Y.assign rfl rfl) ?_
          refine Jp.done hK7 ?_
          refine Cd.slot 2 rfl (show _ = Value.int .i64 n1 from congrArg (Value.int .i64) (by rw [hn1, if_pos (by simpa using ga)])) ?_
          exact Cd.meet (hj1 () trivial) ⟨rfl, rfl, rfl, trivial⟩ ⟨rfl, rfl, rfl, trivial⟩
        · skip
          refine Cd.skip hK7 ?_
          refine Cd.slot 2 rfl (show _ = Value.int .i64 n1 from congrArg (Value.int .i64) (by rw [hn1, if_neg (by simpa using ga)])) ?_
          exact Cd.meet (hj1 () trivial) ⟨rfl, rfl, rfl, trivial⟩ ⟨rfl, rfl, rfl, trivial⟩
end Go.Proofs.Ytogkncmhonomdaa
