import Derived.Test.YtogkncmhonomdaaZFilesYb
set_option linter.unusedVariables false
set_option linter.unusedSimpArgs false
set_option maxRecDepth 100000
namespace Go.Proofs.Ytogkncmhonomdaa
open Go
def AtB (B : Nat) (p : FilesP) : Prop := ∀ fd x, gget p.op fd = some x → x.at' ≤ B
theorem find_set : ∀ {l : List (Int × Int × Nat)} {i : Nat} {x : Int × Int × Nat} (v : Int × Nat), (l.map (·.1)).Nodup → l[i]? = some x → ∀ k, ((l.set i (x.1, v)).find? fun y => y.1 == k) = if k = x.1 then some (x.1, v) else l.find? fun y => y.1 == k
  | [], _, _, _, _, h, _ => by simp at h
  | y :: l, 0, x, v, hn, h, k => by
    simp at h; subst h
    rw [List.set_cons_zero, List.find?_cons, List.find?_cons]
    by_cases e : k = y.1
    · subst e; simp
    · have : (y.1 == k) = false := by simpa using Ne.symm e
      rw [if_neg e, this]
  | y :: l, i + 1, x, v, hn, h, k => by
    rw [List.map_cons, List.nodup_cons] at hn
    rw [List.getElem?_cons_succ] at h
    have ih := find_set v hn.2 h k
    rw [List.set_cons_succ, List.find?_cons, List.find?_cons, ih]
    have hne : y.1 ≠ x.1 := fun e => hn.1 (List.mem_map.2 ⟨x, List.mem_of_getElem? h, e.symm⟩)
    by_cases e : y.1 = k
    · have : (y.1 == k) = true := by simpa using e
      rw [this]; dsimp only; rw [if_neg (by rw [← e]; exact hne)]
    · have : (y.1 == k) = false := by simpa using e
      rw [this]
theorem Rel.moved {p : FilesP} {r : RfG} (h : Rel p r) {i : Nat} {x : Int × Int × Nat} (hx : r.l[i]? = some x) (h2 : x.2.1 ≠ -2) {at' : Nat} (ha : at' ≤ 4611686018427387904) (u' : RefG) (hu : u'.f = r.u.f) (use' : UseP) (hus : use' = u'.p) :
    Rel { p with use := use', op := gset p.op x.1 ⟨(dataOf r.u x).xs, at', false⟩ } ⟨r.bu, u', r.A, r.c, r.l.set i (x.1, x.2.1, at'), r.o1, r.o2⟩ := by
  have hil := (List.getElem?_eq_some_iff.1 hx).1
  have hkeys : (r.l.set i (x.1, x.2.1, at')).map (·.1) = r.l.map (·.1) := by
    rw [List.map_set]
    have e : (r.l.map (·.1))[i]'(by rw [List.length_map]; exact hil) = x.1 := by rw [List.getElem_map, (List.getElem?_eq_some_iff.1 hx).2]
    show (r.l.map (·.1)).set i x.1 = _
    rw [← e]; exact List.set_getElem_self _
  have hsome : (gget p.op x.1).isSome := by
    rw [h.op]
    have : (r.l.find? fun y => y.1 == x.1).isSome := List.find?_isSome.2 ⟨x, List.mem_of_getElem? hx, by simp⟩
    simpa using this
  have hfo : ∀ y, filOf u' y = filOf r.u y := fun y => by unfold filOf dataOf; rw [hu]
  have hda : dataOf r.u (x.1, x.2.1, at') = dataOf r.u x := rfl
  refine ⟨by show _ = List.map _ u'.f.files.xs; rw [hu]; exact h.all, hus, fun fd => ?_, ?_, h.out1, h.out2, h.outs, fun y hy => ?_, by show (List.map _ (r.l.set _ _)).Nodup; rw [hkeys]; exact h.once, by show (List.map _ u'.f.files.xs).Nodup; rw [hu]; exact h.names, ?_⟩
  · show gget (gset _ _ _) fd = (List.find? _ (r.l.set _ _)).map (filOf u')
    rw [gget_gset, find_set (x.2.1, at') h.once hx, h.op fd, show filOf u' = filOf r.u from funext hfo]
    by_cases e : fd = x.1
    · rw [if_pos e, if_pos e]
      show _ = some (filOf r.u (x.1, x.2.1, at'))
      rw [filOf, if_neg h2, hda]
    · rw [if_neg e, if_neg e]
  · show (gset _ _ _).length = (r.l.set _ _).length
    rw [gset_length, if_pos hsome, List.length_set, h.len]
  · show EntOk u'.f.files.xs.length y
    rw [hu]
    rcases List.mem_or_eq_of_mem_set hy with h1 | h1
    · exact h.ent y h1
    · have := h.ent x (List.mem_of_getElem? hx)
      rw [h1]
      exact ⟨this.kind, ha⟩
  · show (r.l.set _ _).length ≤ 16 ∧ u'.f.files.xs.length ≤ 8
    rw [List.length_set, hu]; exact h.few
theorem openC_at (x : Int × Int × Nat) (a : Nat) : (openC x).set 2 (.int .i64 (a : Int)) = openC (x.1, x.2.1, a) := rfl
theorem rfSeek_spec (b : Nat) (p : FilesP) (r : RfG) (fd off wh : Int) (hrel : Rel p r) (hB : AtB 2305843009213693952 p) (hd : ∀ x ∈ p.op, x.2.data.length ≤ 4096) (ho : -2147483648 ≤ off ∧ off ≤ 2147483647) : Spec Try.prog 18 #[.pointer (some ⟨b, 0, none⟩), .int .i64 fd, .int .i32 off, .int .i64 wh] (RdRf r) [(0, RfPt b r), (1, RefPt r.bu r.u), (2, RfOpen r)]
    (fun ρ ρ' v L => ρ' = ρ ∧ v = .int .i64 (seekFP p fd off wh).1 ∧ ∃ l, Rel (seekFP p fd off wh).2 ⟨r.bu, r.u, r.A, r.c, l, r.o1, r.o2⟩ ∧ L = [(0, RfPt b ⟨r.bu, r.u, r.A, r.c, l, r.o1, r.o2⟩), (1, RefPt r.bu r.u), (2, RfOpen ⟨r.bu, r.u, r.A, r.c, l, r.o1, r.o2⟩)]) := by
  have hfew := hrel.few.1
  have hF := rfFind_spec b r fd hfew
  have hN := fdI_none hrel (fd := fd)
  have hS := fun h => fdI_some hrel (fd := fd) h
  have hM := fun i x (hx : r.l[i]? = some x) h2 at' ha => hrel.moved hx h2 (at' := at') ha r.u rfl p.use hrel.use
  have hD := fun x h1 h2 => rfData_spec b r x h1 h2 hrel.few.2
  have hent := hrel.ent
  obtain ⟨bu, u, A, c, l, o1, o2⟩ := r
  refine Spec.of 67 Try.func18 rfl Try.ntmps18 [(0, _), (1, _), (2, _), (3, _)] rfl rfl ?_
  intro cx ρ hr h0
  refine Cd.seq fun K1 hK1 => ?_
  refine Cd.plain [(0, false)] rfl rfl ?_
  refine Jp.y 8 rfl (want_all rfl) rfl rfl Kp.true (Y.assign rfl rfl) ?_
  refine Jp.done hK1 ?_
  refine Cd.seq fun K2 hK2 => ?_
  refine Cd.plain [(0, false), (1, false), (2, false), (3, false)] rfl rfl ?_
  refine Jp.y 11 rfl (want_all rfl) rfl rfl Kp.true (Y.move rfl rfl) ?_
  refine Jp.y 12 rfl (want_all rfl) rfl rfl Kp.true (Y.move rfl rfl) ?_
  refine Jp.call [0, 2] [0, 2] hF 13 rfl (want_all rfl) rfl rfl (Runs.fn rfl Try.call29 rfl) (by decide) (by decide) rfl trivial ?_
  rintro v1 ρ1 L1 ⟨rfl, rfl, rfl⟩
  refine ⟨rfl, fun hle1 => ⟨Kp.true, ?_⟩⟩
  dsimp only at hfew hN hS hM hD hent ⊢
  obtain ⟨z, hz⟩ : ∃ z, fdI l fd = z := ⟨_, rfl⟩
  rw [hz] at hN hS ⊢
  refine Jp.y 9 rfl (want_all rfl) rfl rfl Kp.true (Y.assign rfl rfl) ?_
  refine Jp.done hK2 ?_
  refine Cd.seq fun K3 hK3 => ?_
  refine Cd.seq fun K4 hK4 => ?_
  refine Cd.plain [(0, false), (1, false)] rfl rfl ?_
  refine Jp.y 14 rfl (want_all rfl) rfl rfl Kp.true (Y.move rfl rfl) ?_
  refine Jp.y 15 rfl (want_all rfl) rfl rfl Kp.true (Y.lss rfl rfl rfl) ?_
  refine Jp.done hK4 ?_
  refine Cd.cond rfl (fun g0 => ?_) (fun g0 => ?_)
  · have h1 : gget p.op fd = none := hN.1 (by simpa using g0)
    have hV : seekFP p fd off wh = (-9, p) := by rw [seekFP, h1]
    refine Cd.seq fun K5 hK5 => ?_
    refine Cd.plain [(0, false)] rfl rfl ?_
    refine Jp.y 8 rfl (want_all rfl) rfl rfl Kp.true (Y.assign rfl rfl) ?_
    refine Jp.done hK5 ?_
    refine Cd.ret [(0, _), (1, _), (2, _)] rfl (res1 rfl rfl) ⟨rfl, rfl, rfl, trivial⟩ ⟨rfl, by rw [hV], l, by rw [hV]; exact hrel, rfl⟩
  · obtain ⟨i, x, e1, e2, hx, hxf, hg⟩ := hS (by simpa using g0)
    have hil := (List.getElem?_eq_some_iff.1 hx).1
    have hen := hent x (List.mem_of_getElem? hx)
    have hp : RfPt b ⟨bu, u, A, c, l, o1, o2⟩ = Pt b (.cells #[.pointer (some ⟨bu, 0, none⟩), .slice A l.length c, o1.v, o2.v] 60) := rfl
    have hq : RfOpen ⟨bu, u, A, c, l, o1, o2⟩ = OwnS 74 3 A l.length c (l.flatMap openC) := rfl
    have hrows := openC_rows l
    rw [e1, hp, hq]
    refine Cd.ownAt 2 rfl (show 0 < l.length by omega) ?_
    rintro b1 rfl
    have c1 := (OwnS.hasC (e := 74) (m := 3) (k := l.length) (c := c) (ad := ⟨b1, 0, none⟩) (rw_get hrows hx (show (openC x)[1]? = some (.int .i64 x.2.1) from rfl))).add2
    have c2 := (OwnS.hasC (e := 74) (m := 3) (k := l.length) (c := c) (ad := ⟨b1, 0, none⟩) (rw_get hrows hx (show (openC x)[2]? = some (.int .i64 (x.2.2 : Int)) from rfl))).add2
    refine Cd.skip hK3 ?_
    refine Cd.seq fun K6 hK6 => ?_
    refine Cd.seq fun K7 hK7 => ?_
    refine Cd.plain [(0, false), (1, false), (2, false), (3, false), (4, false), (5, false), (6, false), (7, false), (8, false)] rfl rfl ?_
    refine Jp.y 16 rfl (want_all rfl) rfl rfl Kp.true (Y.move rfl rfl) ?_
    refine Jp.y 17 rfl (want_all rfl) rfl rfl Kp.true (Y.nilCheck rfl rfl) ?_
    refine Jp.y 18 rfl (want_all rfl) rfl rfl Kp.true (by first | exact Y.fieldAddrP rfl rfl Try.underlying60 rfl Try.sizeOf57 (by decide) (show _ + 1 = _ from rfl) | exact Y.fieldAddr rfl rfl Try.underlying60 rfl Try.sizeOf57 (by decide)) ?_
    refine Jp.y 19 rfl (want_all rfl) rfl rfl Kp.true (by first | exact Y.loadO 0 rfl Try.isAgg57 rfl rfl rfl | exact Y.loadC 2 rfl Try.isAgg57 rfl rfl c1 | exact Y.loadC 2 rfl Try.isAgg57 rfl rfl c2) ?_
    refine Jp.y 20 rfl (want_all rfl) rfl rfl Kp.true (Y.move rfl rfl) ?_
    refine Jp.y 21 rfl (want_all rfl) rfl rfl Kp.true (Y.indexAddr (q := i * 3) rfl rfl rfl Try.underlying57 Try.sizeOf74 (by omega) (by omega) (by omega)) ?_
    refine Jp.y 22 rfl (want_all rfl) rfl rfl Kp.true (by first | exact Y.fieldAddrP rfl rfl Try.underlying74 rfl Try.sizeOf3 (by decide) (show _ + 1 = _ from rfl) | exact Y.fieldAddr rfl rfl Try.underlying74 rfl Try.sizeOf3 (by decide)) ?_
    refine Jp.y 23 rfl (want_all rfl) rfl rfl Kp.true (by first | exact Y.loadO 0 rfl Try.isAgg3 rfl rfl rfl | exact Y.loadC 2 rfl Try.isAgg3 rfl rfl c1 | exact Y.loadC 2 rfl Try.isAgg3 rfl rfl c2) ?_
    refine Jp.y 24 rfl (want_all rfl) rfl rfl Kp.true (Y.eql rfl rfl rfl) ?_
    refine Jp.done hK7 ?_
    refine Cd.cond rfl (fun g1 => ?_) (fun g1 => ?_)
    · have h2 : x.2.1 = -2 := by simpa using g1
      have hV : seekFP p fd off wh = (-29, p) := by rw [seekFP, hg, filOf, if_pos h2]; rfl
      refine Cd.seq fun K8 hK8 => ?_
      refine Cd.plain [(0, false)] rfl rfl ?_
      refine Jp.y 8 rfl (want_all rfl) rfl rfl Kp.true (Y.assign rfl rfl) ?_
      refine Jp.done hK8 ?_
      rw [← hp, ← hq]
      refine Cd.ret [(0, _), (1, _), (2, _)] rfl (res1 rfl rfl) ⟨rfl, rfl, rfl, trivial⟩ ⟨rfl, by rw [hV], l, by rw [hV]; exact hrel, rfl⟩
    · have h2 : x.2.1 ≠ -2 := by simpa using g1
      have hfx : filOf u x = ⟨(dataOf u x).xs, x.2.2, false⟩ := by rw [filOf, if_neg h2]
      rw [hfx] at hg
      have hat : x.2.2 ≤ 2305843009213693952 := hB fd _ hg
      have hdl : (dataOf u x).xs.length ≤ 4096 := hd _ (gget_mem hg)
      have hDx := hD x hen h2
      have hMx := hM i x hx h2
      rw [hxf] at hMx
      refine Cd.skip hK6 ?_
      refine Cd.seq fun K9 hK9 => ?_
      refine Cd.plain [(0, false), (1, false), (2, false)] rfl rfl ?_
      refine Jp.y 25 rfl (want_all rfl) rfl rfl Kp.true (Y.move rfl rfl) ?_
      refine Jp.y 26 rfl (want_all rfl) rfl rfl Kp.true (Y.conv_ rfl rfl Try.underlying21 Try.underlying2 (by first | exact wrap_i64 (by omega) (by omega) | rfl)) ?_
      refine Jp.y 10 rfl (want_all rfl) rfl rfl Kp.true (Y.assign rfl rfl) ?_
      refine Jp.done hK9 ?_
      refine Cd.seq fun K10 hK10 => ?_
      refine Cd.seq fun K11 hK11 => ?_
      refine Cd.plain [(0, false)] rfl rfl ?_
      refine Jp.y 27 rfl (want_all rfl) rfl rfl Kp.true (Y.move rfl rfl) ?_
      refine Jp.done hK11 ?_
      refine Cd.block ?_
      refine Cd.seq fun K12 hK12 => ?_
      refine Cd.plain [(0, false), (1, false)] rfl rfl ?_
      refine Jp.y 29 rfl (want_all rfl) rfl rfl Kp.true (Y.eql rfl rfl rfl) ?_
      refine Jp.y 28 rfl (want_all rfl) rfl rfl Kp.true (Y.assign rfl rfl) ?_
      refine Jp.done hK12 ?_
      refine Cd.cond rfl (fun w0 => ?_) (fun w0 => ?_)
      · have hw : wh = 0 := by simpa using w0
        obtain ⟨a, ha⟩ : ∃ a : Int, a = (if wh = 0 then 0 else if wh = 1 then (x.2.2 : Int) else ((dataOf u x).xs.length : Int)) + off := ⟨_, rfl⟩
        rw [show off = a from by rw [ha, if_pos hw]; omega]
        rw [← hq, hq]
        refine Cd.over rfl hK10 ?_
        refine Cd.seq fun K13 hK13 => ?_
        refine Cd.seq fun K14 hK14 => ?_
        refine Cd.plain [(0, false), (1, false)] rfl rfl ?_
        refine Jp.y 56 rfl (want_all rfl) rfl rfl Kp.true (Y.move rfl rfl) ?_
        refine Jp.y 57 rfl (want_all rfl) rfl rfl Kp.true (Y.lss rfl rfl rfl) ?_
        refine Jp.done hK14 ?_
        refine Cd.cond rfl (fun g2 => ?_) (fun g2 => ?_)
        · have hV : seekFP p fd off wh = (-22, p) := by
            rw [seekFP, hg]; dsimp only; rw [if_neg (by decide), if_neg (by omega), ← ha, if_pos (by simpa using g2)]
          refine Cd.seq fun K15 hK15 => ?_
          refine Cd.plain [(0, false)] rfl rfl ?_
          refine Jp.y 8 rfl (want_all rfl) rfl rfl Kp.true (Y.assign rfl rfl) ?_
          refine Jp.done hK15 ?_
          rw [← hp, ← hq]
          refine Cd.ret [(0, _), (1, _), (2, _)] rfl (res1 rfl rfl) ⟨rfl, rfl, rfl, trivial⟩ ⟨rfl, by rw [hV], l, by rw [hV]; exact hrel, rfl⟩
        · have hna : 0 ≤ a := by simpa using g2
          obtain ⟨n, rfl⟩ := Int.eq_ofNat_of_zero_le hna
          have hV : seekFP p fd off wh = ((n : Int), { p with op := gset p.op fd ⟨(dataOf u x).xs, n, false⟩ }) := by
            rw [seekFP, hg]; dsimp only; rw [if_neg (by decide), if_neg (by omega), ← ha, if_neg (by omega)]; rfl
          have hR := hMx n (by omega)
          have hset : (l.flatMap openC).set (i * 3 + 2) (.int .i64 (n : Int)) = (l.set i (x.1, x.2.1, n)).flatMap openC := rw_set hrows hx (by omega) (openC_at x n)
          rw [hxf] at hset
          obtain ⟨l2, hl2⟩ : ∃ l2, l.set i (fd, x.2.1, n) = l2 := ⟨_, rfl⟩
          rw [hl2] at hset hR
          have hl2l : l2.length = l.length := by rw [← hl2, List.length_set]
          have hp2 : RfPt b ⟨bu, u, some ⟨b1, 0, none⟩, c, l2, o1, o2⟩ = Pt b (.cells #[.pointer (some ⟨bu, 0, none⟩), .slice (some ⟨b1, 0, none⟩) l.length c, o1.v, o2.v] 60) := by rw [← hl2l]; rfl
          have hq2 : RfOpen ⟨bu, u, some ⟨b1, 0, none⟩, c, l2, o1, o2⟩ = OwnS 74 3 (some ⟨b1, 0, none⟩) l.length c (l2.flatMap openC) := by rw [← hl2l]; rfl
          refine Cd.skip hK13 ?_
          refine Cd.seq fun K16 hK16 => ?_
          refine Cd.plain [(0, false), (1, false), (2, false), (3, false), (4, false), (5, false), (6, false), (7, false), (8, false)] rfl rfl ?_
          refine Jp.y 58 rfl (want_all rfl) rfl rfl Kp.true (Y.move rfl rfl) ?_
          refine Jp.y 59 rfl (want_all rfl) rfl rfl Kp.true (Y.nilCheck rfl rfl) ?_
          refine Jp.y 60 rfl (want_all rfl) rfl rfl Kp.true (by first | exact Y.fieldAddrP rfl rfl Try.underlying60 rfl Try.sizeOf57 (by decide) (show _ + 1 = _ from rfl) | exact Y.fieldAddr rfl rfl Try.underlying60 rfl Try.sizeOf57 (by decide)) ?_
          refine Jp.y 61 rfl (want_all rfl) rfl rfl Kp.true (by first | exact Y.loadO 0 rfl Try.isAgg57 rfl rfl rfl | exact Y.loadC 2 rfl Try.isAgg57 rfl rfl c1 | exact Y.loadC 2 rfl Try.isAgg57 rfl rfl c2) ?_
          refine Jp.y 62 rfl (want_all rfl) rfl rfl Kp.true (Y.move rfl rfl) ?_
          refine Jp.y 63 rfl (want_all rfl) rfl rfl Kp.true (Y.move rfl rfl) ?_
          refine Jp.y 64 rfl (want_all rfl) rfl rfl Kp.true (Y.indexAddr (q := i * 3) rfl rfl rfl Try.underlying57 Try.sizeOf74 (by omega) (by omega) (by omega)) ?_
          refine Jp.slot 64 rfl (show _ = Value.pointer (some ⟨b1, i * 3, none⟩) by rw [add_mk, Nat.zero_add]) ?_
          refine Jp.y 65 rfl (want_all rfl) rfl rfl Kp.true (by first | exact Y.fieldAddrP rfl rfl Try.underlying74 rfl Try.sizeOf2 (by decide) (show _ + 2 = _ from rfl) | exact Y.fieldAddr rfl rfl Try.underlying74 rfl Try.sizeOf2 (by decide)) ?_
          refine Jp.storeS 2 (q := i * 3 + 2) rfl (want_all rfl) rfl rfl Try.sizeOf2 rfl rfl rfl rfl (by rw [add_mk, Nat.zero_add]) (by omega) (l2.flatMap openC) hset Kp.true ?_
          refine Jp.done hK16 ?_
          refine Cd.seq fun K17 hK17 => ?_
          refine Cd.plain [(0, false), (1, false)] rfl rfl ?_
          refine Jp.y 66 rfl (want_all rfl) rfl rfl Kp.true (Y.move rfl rfl) ?_
          refine Jp.y 8 rfl (want_all rfl) rfl rfl Kp.true (Y.assign rfl rfl) ?_
          refine Jp.done hK17 ?_
          rw [← hp2, ← hq2]
          refine Cd.ret [(0, _), (1, _), (2, _)] rfl (res1 rfl rfl) ⟨rfl, rfl, rfl, trivial⟩ ⟨rfl, by rw [hV], l2, by rw [hV]; exact hR, rfl⟩
      · have hw : wh ≠ 0 := by simpa using w0
        refine Cd.seq fun K18 hK18 => ?_
        refine Cd.plain [(0, false), (1, false)] rfl rfl ?_
        refine Jp.y 31 rfl (want_all rfl) rfl rfl Kp.true (Y.eql rfl rfl rfl) ?_
        refine Jp.y 30 rfl (want_all rfl) rfl rfl Kp.true (Y.assign rfl rfl) ?_
        refine Jp.done hK18 ?_
        refine Cd.cond rfl (fun w1 => ?_) (fun w1 => ?_)
        · have hw1 : wh = 1 := by simpa using w1
          obtain ⟨a, ha⟩ : ∃ a : Int, a = (if wh = 0 then 0 else if wh = 1 then (x.2.2 : Int) else ((dataOf u x).xs.length : Int)) + off := ⟨_, rfl⟩
          refine Cd.plain [(0, false), (1, false), (2, false), (3, false), (4, false), (5, false), (6, false), (7, false), (8, false), (9, false), (10, false)] rfl rfl ?_
          refine Jp.y 32 rfl (want_all rfl) rfl rfl Kp.true (Y.move rfl rfl) ?_
          refine Jp.y 33 rfl (want_all rfl) rfl rfl Kp.true (Y.move rfl rfl) ?_
          refine Jp.y 34 rfl (want_all rfl) rfl rfl Kp.true (Y.nilCheck rfl rfl) ?_
          refine Jp.y 35 rfl (want_all rfl) rfl rfl Kp.true (by first | exact Y.fieldAddrP rfl rfl Try.underlying60 rfl Try.sizeOf57 (by decide) (show _ + 1 = _ from rfl) | exact Y.fieldAddr rfl rfl Try.underlying60 rfl Try.sizeOf57 (by decide)) ?_
          refine Jp.y 36 rfl (want_all rfl) rfl rfl Kp.true (by first | exact Y.loadO 0 rfl Try.isAgg57 rfl rfl rfl | exact Y.loadC 2 rfl Try.isAgg57 rfl rfl c1 | exact Y.loadC 2 rfl Try.isAgg57 rfl rfl c2) ?_
          refine Jp.y 37 rfl (want_all rfl) rfl rfl Kp.true (Y.move rfl rfl) ?_
          refine Jp.y 38 rfl (want_all rfl) rfl rfl Kp.true (Y.indexAddr (q := i * 3) rfl rfl rfl Try.underlying57 Try.sizeOf74 (by omega) (by omega) (by omega)) ?_
          refine Jp.y 39 rfl (want_all rfl) rfl rfl Kp.true (by first | exact Y.fieldAddrP rfl rfl Try.underlying74 rfl Try.sizeOf2 (by decide) (show _ + 2 = _ from rfl) | exact Y.fieldAddr rfl rfl Try.underlying74 rfl Try.sizeOf2 (by decide)) ?_
          refine Jp.y 40 rfl (want_all rfl) rfl rfl Kp.true (by first | exact Y.loadO 0 rfl Try.isAgg2 rfl rfl rfl | exact Y.loadC 2 rfl Try.isAgg2 rfl rfl c1 | exact Y.loadC 2 rfl Try.isAgg2 rfl rfl c2) ?_
          refine Jp.y 41 rfl (want_all rfl) rfl rfl Kp.true (Y.add_ rfl rfl rfl (by first | exact wrap_i64 (by omega) (by omega) | rfl)) ?_
          refine Jp.slot 41 rfl (show _ = Value.int .i64 a from congrArg (Value.int .i64) (by rw [ha, if_neg hw, if_pos hw1]; omega)) ?_
          rw [← hq, hq]
          refine Jp.y 10 rfl (want_all rfl) rfl rfl Kp.true (Y.assign rfl rfl) ?_
          refine Jp.over rfl hK10 ?_
          refine Cd.seq fun K19 hK19 => ?_
          refine Cd.seq fun K20 hK20 => ?_
          refine Cd.plain [(0, false), (1, false)] rfl rfl ?_
          refine Jp.y 56 rfl (want_all rfl) rfl rfl Kp.true (Y.move rfl rfl) ?_
          refine Jp.y 57 rfl (want_all rfl) rfl rfl Kp.true (Y.lss rfl rfl rfl) ?_
          refine Jp.done hK20 ?_
          refine Cd.cond rfl (fun g2 => ?_) (fun g2 => ?_)
          · have hV : seekFP p fd off wh = (-22, p) := by
              rw [seekFP, hg]; dsimp only; rw [if_neg (by decide), if_neg (by omega), ← ha, if_pos (by simpa using g2)]
            refine Cd.seq fun K21 hK21 => ?_
            refine Cd.plain [(0, false)] rfl rfl ?_
            refine Jp.y 8 rfl (want_all rfl) rfl rfl Kp.true (Y.assign rfl rfl) ?_
            refine Jp.done hK21 ?_
            rw [← hp, ← hq]
            refine Cd.ret [(0, _), (1, _), (2, _)] rfl (res1 rfl rfl) ⟨rfl, rfl, rfl, trivial⟩ ⟨rfl, by rw [hV], l, by rw [hV]; exact hrel, rfl⟩
          · have hna : 0 ≤ a := by simpa using g2
            obtain ⟨n, rfl⟩ := Int.eq_ofNat_of_zero_le hna
            have hV : seekFP p fd off wh = ((n : Int), { p with op := gset p.op fd ⟨(dataOf u x).xs, n, false⟩ }) := by
              rw [seekFP, hg]; dsimp only; rw [if_neg (by decide), if_neg (by omega), ← ha, if_neg (by omega)]; rfl
            have hR := hMx n (by omega)
            have hset : (l.flatMap openC).set (i * 3 + 2) (.int .i64 (n : Int)) = (l.set i (x.1, x.2.1, n)).flatMap openC := rw_set hrows hx (by omega) (openC_at x n)
            rw [hxf] at hset
            obtain ⟨l2, hl2⟩ : ∃ l2, l.set i (fd, x.2.1, n) = l2 := ⟨_, rfl⟩
            rw [hl2] at hset hR
            have hl2l : l2.length = l.length := by rw [← hl2, List.length_set]
            have hp2 : RfPt b ⟨bu, u, some ⟨b1, 0, none⟩, c, l2, o1, o2⟩ = Pt b (.cells #[.pointer (some ⟨bu, 0, none⟩), .slice (some ⟨b1, 0, none⟩) l.length c, o1.v, o2.v] 60) := by rw [← hl2l]; rfl
            have hq2 : RfOpen ⟨bu, u, some ⟨b1, 0, none⟩, c, l2, o1, o2⟩ = OwnS 74 3 (some ⟨b1, 0, none⟩) l.length c (l2.flatMap openC) := by rw [← hl2l]; rfl
            refine Cd.skip hK19 ?_
            refine Cd.seq fun K22 hK22 => ?_
            refine Cd.plain [(0, false), (1, false), (2, false), (3, false), (4, false), (5, false), (6, false), (7, false), (8, false)] rfl rfl ?_
            refine Jp.y 58 rfl (want_all rfl) rfl rfl Kp.true (Y.move rfl rfl) ?_
            refine Jp.y 59 rfl (want_all rfl) rfl rfl Kp.true (Y.nilCheck rfl rfl) ?_
            refine Jp.y 60 rfl (want_all rfl) rfl rfl Kp.true (by first | exact Y.fieldAddrP rfl rfl Try.underlying60 rfl Try.sizeOf57 (by decide) (show _ + 1 = _ from rfl) | exact Y.fieldAddr rfl rfl Try.underlying60 rfl Try.sizeOf57 (by decide)) ?_
            refine Jp.y 61 rfl (want_all rfl) rfl rfl Kp.true (by first | exact Y.loadO 0 rfl Try.isAgg57 rfl rfl rfl | exact Y.loadC 2 rfl Try.isAgg57 rfl rfl c1 | exact Y.loadC 2 rfl Try.isAgg57 rfl rfl c2) ?_
            refine Jp.y 62 rfl (want_all rfl) rfl rfl Kp.true (Y.move rfl rfl) ?_
            refine Jp.y 63 rfl (want_all rfl) rfl rfl Kp.true (Y.move rfl rfl) ?_
            refine Jp.y 64 rfl (want_all rfl) rfl rfl Kp.true (Y.indexAddr (q := i * 3) rfl rfl rfl Try.underlying57 Try.sizeOf74 (by omega) (by omega) (by omega)) ?_
            refine Jp.slot 64 rfl (show _ = Value.pointer (some ⟨b1, i * 3, none⟩) by rw [add_mk, Nat.zero_add]) ?_
            refine Jp.y 65 rfl (want_all rfl) rfl rfl Kp.true (by first | exact Y.fieldAddrP rfl rfl Try.underlying74 rfl Try.sizeOf2 (by decide) (show _ + 2 = _ from rfl) | exact Y.fieldAddr rfl rfl Try.underlying74 rfl Try.sizeOf2 (by decide)) ?_
            refine Jp.storeS 2 (q := i * 3 + 2) rfl (want_all rfl) rfl rfl Try.sizeOf2 rfl rfl rfl rfl (by rw [add_mk, Nat.zero_add]) (by omega) (l2.flatMap openC) hset Kp.true ?_
            refine Jp.done hK22 ?_
            refine Cd.seq fun K23 hK23 => ?_
            refine Cd.plain [(0, false), (1, false)] rfl rfl ?_
            refine Jp.y 66 rfl (want_all rfl) rfl rfl Kp.true (Y.move rfl rfl) ?_
            refine Jp.y 8 rfl (want_all rfl) rfl rfl Kp.true (Y.assign rfl rfl) ?_
            refine Jp.done hK23 ?_
            rw [← hp2, ← hq2]
            refine Cd.ret [(0, _), (1, _), (2, _)] rfl (res1 rfl rfl) ⟨rfl, rfl, rfl, trivial⟩ ⟨rfl, by rw [hV], l2, by rw [hV]; exact hR, rfl⟩
        · have hw1 : wh ≠ 1 := by simpa using w1
          refine Cd.seq fun K24 hK24 => ?_
          refine Cd.plain [(0, false), (1, false)] rfl rfl ?_
          refine Jp.y 43 rfl (want_all rfl) rfl rfl Kp.true (Y.eql rfl rfl rfl) ?_
          refine Jp.y 42 rfl (want_all rfl) rfl rfl Kp.true (Y.assign rfl rfl) ?_
          refine Jp.done hK24 ?_
          refine Cd.cond rfl (fun w2 => ?_) (fun w2 => ?_)
          · have hw2 : wh = 2 := by simpa using w2
            obtain ⟨a, ha⟩ : ∃ a : Int, a = (if wh = 0 then 0 else if wh = 1 then (x.2.2 : Int) else ((dataOf u x).xs.length : Int)) + off := ⟨_, rfl⟩
            refine Cd.plain [(0, false), (1, false), (2, false), (3, false), (4, false), (5, false), (6, false), (7, false), (8, false), (9, false), (10, false), (11, false), (12, false)] rfl rfl ?_
            refine Jp.y 44 rfl (want_all rfl) rfl rfl Kp.true (Y.move rfl rfl) ?_
            refine Jp.y 45 rfl (want_all rfl) rfl rfl Kp.true (Y.move rfl rfl) ?_
            refine Jp.y 46 rfl (want_all rfl) rfl rfl Kp.true (Y.move rfl rfl) ?_
            refine Jp.y 47 rfl (want_all rfl) rfl rfl Kp.true (Y.nilCheck rfl rfl) ?_
            refine Jp.y 48 rfl (want_all rfl) rfl rfl Kp.true (by first | exact Y.fieldAddrP rfl rfl Try.underlying60 rfl Try.sizeOf57 (by decide) (show _ + 1 = _ from rfl) | exact Y.fieldAddr rfl rfl Try.underlying60 rfl Try.sizeOf57 (by decide)) ?_
            refine Jp.y 49 rfl (want_all rfl) rfl rfl Kp.true (by first | exact Y.loadO 0 rfl Try.isAgg57 rfl rfl rfl | exact Y.loadC 2 rfl Try.isAgg57 rfl rfl c1 | exact Y.loadC 2 rfl Try.isAgg57 rfl rfl c2) ?_
            refine Jp.y 50 rfl (want_all rfl) rfl rfl Kp.true (Y.move rfl rfl) ?_
            refine Jp.y 51 rfl (want_all rfl) rfl rfl Kp.true (Y.indexAddr (q := i * 3) rfl rfl rfl Try.underlying57 Try.sizeOf74 (by omega) (by omega) (by omega)) ?_
            refine Jp.y 52 rfl (want_all rfl) rfl rfl Kp.true (Y.loadSAgg 2 (q := i * 3) (openC x) rfl Try.isAgg74 Try.sizeOf74 rfl rfl rfl rfl (fun p x hx2 => rw_get hrows hx hx2)) ?_
            rw [← hp]
            refine Jp.call [0, 1] [0, 1] hDx 53 rfl (want_all rfl) rfl rfl (Runs.fn rfl Try.call32 rfl) (by decide) (by decide) rfl hr ?_
            rintro v2 ρ2 L2 ⟨rfl, rfl, rfl⟩
            refine ⟨rfl, fun hle2 => ⟨Kp.true, ?_⟩⟩
            rw [hp]
            rw [show (dataOf u x).v = .slice (dataOf u x).A (dataOf u x).xs.length (dataOf u x).c from rfl]
            refine Jp.y 54 rfl (want_all rfl) rfl rfl Kp.true (Y.lenslice rfl Try.underlying23 rfl) ?_
            refine Jp.y 55 rfl (want_all rfl) rfl rfl Kp.true (Y.add_ rfl rfl rfl (by first | exact wrap_i64 (by omega) (by omega) | rfl)) ?_
            refine Jp.slot 55 rfl (show _ = Value.int .i64 a from congrArg (Value.int .i64) (by rw [ha, if_neg hw, if_neg hw1]; omega)) ?_
            rw [← hq, hq]
            refine Jp.y 10 rfl (want_all rfl) rfl rfl Kp.true (Y.assign rfl rfl) ?_
            refine Jp.over rfl hK10 ?_
            refine Cd.seq fun K25 hK25 => ?_
            refine Cd.seq fun K26 hK26 => ?_
            refine Cd.plain [(0, false), (1, false)] rfl rfl ?_
            refine Jp.y 56 rfl (want_all rfl) rfl rfl Kp.true (Y.move rfl rfl) ?_
            refine Jp.y 57 rfl (want_all rfl) rfl rfl Kp.true (Y.lss rfl rfl rfl) ?_
            refine Jp.done hK26 ?_
            refine Cd.cond rfl (fun g2 => ?_) (fun g2 => ?_)
            · have hV : seekFP p fd off wh = (-22, p) := by
                rw [seekFP, hg]; dsimp only; rw [if_neg (by decide), if_neg (by omega), ← ha, if_pos (by simpa using g2)]
              refine Cd.seq fun K27 hK27 => ?_
              refine Cd.plain [(0, false)] rfl rfl ?_
              refine Jp.y 8 rfl (want_all rfl) rfl rfl Kp.true (Y.assign rfl rfl) ?_
              refine Jp.done hK27 ?_
              rw [← hp, ← hq]
              refine Cd.ret [(0, _), (1, _), (2, _)] rfl (res1 rfl rfl) ⟨rfl, rfl, rfl, trivial⟩ ⟨rfl, by rw [hV], l, by rw [hV]; exact hrel, rfl⟩
            · have hna : 0 ≤ a := by simpa using g2
              obtain ⟨n, rfl⟩ := Int.eq_ofNat_of_zero_le hna
              have hV : seekFP p fd off wh = ((n : Int), { p with op := gset p.op fd ⟨(dataOf u x).xs, n, false⟩ }) := by
                rw [seekFP, hg]; dsimp only; rw [if_neg (by decide), if_neg (by omega), ← ha, if_neg (by omega)]; rfl
              have hR := hMx n (by omega)
              have hset : (l.flatMap openC).set (i * 3 + 2) (.int .i64 (n : Int)) = (l.set i (x.1, x.2.1, n)).flatMap openC := rw_set hrows hx (by omega) (openC_at x n)
              rw [hxf] at hset
              obtain ⟨l2, hl2⟩ : ∃ l2, l.set i (fd, x.2.1, n) = l2 := ⟨_, rfl⟩
              rw [hl2] at hset hR
              have hl2l : l2.length = l.length := by rw [← hl2, List.length_set]
              have hp2 : RfPt b ⟨bu, u, some ⟨b1, 0, none⟩, c, l2, o1, o2⟩ = Pt b (.cells #[.pointer (some ⟨bu, 0, none⟩), .slice (some ⟨b1, 0, none⟩) l.length c, o1.v, o2.v] 60) := by rw [← hl2l]; rfl
              have hq2 : RfOpen ⟨bu, u, some ⟨b1, 0, none⟩, c, l2, o1, o2⟩ = OwnS 74 3 (some ⟨b1, 0, none⟩) l.length c (l2.flatMap openC) := by rw [← hl2l]; rfl
              refine Cd.skip hK25 ?_
              refine Cd.seq fun K28 hK28 => ?_
              refine Cd.plain [(0, false), (1, false), (2, false), (3, false), (4, false), (5, false), (6, false), (7, false), (8, false)] rfl rfl ?_
              refine Jp.y 58 rfl (want_all rfl) rfl rfl Kp.true (Y.move rfl rfl) ?_
              refine Jp.y 59 rfl (want_all rfl) rfl rfl Kp.true (Y.nilCheck rfl rfl) ?_
              refine Jp.y 60 rfl (want_all rfl) rfl rfl Kp.true (by first | exact Y.fieldAddrP rfl rfl Try.underlying60 rfl Try.sizeOf57 (by decide) (show _ + 1 = _ from rfl) | exact Y.fieldAddr rfl rfl Try.underlying60 rfl Try.sizeOf57 (by decide)) ?_
              refine Jp.y 61 rfl (want_all rfl) rfl rfl Kp.true (by first | exact Y.loadO 0 rfl Try.isAgg57 rfl rfl rfl | exact Y.loadC 2 rfl Try.isAgg57 rfl rfl c1 | exact Y.loadC 2 rfl Try.isAgg57 rfl rfl c2) ?_
              refine Jp.y 62 rfl (want_all rfl) rfl rfl Kp.true (Y.move rfl rfl) ?_
              refine Jp.y 63 rfl (want_all rfl) rfl rfl Kp.true (Y.move rfl rfl) ?_
              refine Jp.y 64 rfl (want_all rfl) rfl rfl Kp.true (Y.indexAddr (q := i * 3) rfl rfl rfl Try.underlying57 Try.sizeOf74 (by omega) (by omega) (by omega)) ?_
              refine Jp.slot 64 rfl (show _ = Value.pointer (some ⟨b1, i * 3, none⟩) by rw [add_mk, Nat.zero_add]) ?_
              refine Jp.y 65 rfl (want_all rfl) rfl rfl Kp.true (by first | exact Y.fieldAddrP rfl rfl Try.underlying74 rfl Try.sizeOf2 (by decide) (show _ + 2 = _ from rfl) | exact Y.fieldAddr rfl rfl Try.underlying74 rfl Try.sizeOf2 (by decide)) ?_
              refine Jp.storeS 2 (q := i * 3 + 2) rfl (want_all rfl) rfl rfl Try.sizeOf2 rfl rfl rfl rfl (by rw [add_mk, Nat.zero_add]) (by omega) (l2.flatMap openC) hset Kp.true ?_
              refine Jp.done hK28 ?_
              refine Cd.seq fun K29 hK29 => ?_
              refine Cd.plain [(0, false), (1, false)] rfl rfl ?_
              refine Jp.y 66 rfl (want_all rfl) rfl rfl Kp.true (Y.move rfl rfl) ?_
              refine Jp.y 8 rfl (want_all rfl) rfl rfl Kp.true (Y.assign rfl rfl) ?_
              refine Jp.done hK29 ?_
              rw [← hp2, ← hq2]
              refine Cd.ret [(0, _), (1, _), (2, _)] rfl (res1 rfl rfl) ⟨rfl, rfl, rfl, trivial⟩ ⟨rfl, by rw [hV], l2, by rw [hV]; exact hR, rfl⟩
          · have hw2 : wh ≠ 2 := by simpa using w2
            have hV : seekFP p fd off wh = (-22, p) := by
              rw [seekFP, hg]; dsimp only; rw [if_neg (by decide), if_pos (by omega)]
            refine Cd.seq fun K30 hK30 => ?_
            refine Cd.plain [(0, false)] rfl rfl ?_
            refine Jp.y 8 rfl (want_all rfl) rfl rfl Kp.true (Y.assign rfl rfl) ?_
            refine Jp.done hK30 ?_
            rw [← hp, ← hq]
            refine Cd.ret [(0, _), (1, _), (2, _)] rfl (res1 rfl rfl) ⟨rfl, rfl, rfl, trivial⟩ ⟨rfl, by rw [hV], l, by rw [hV]; exact hrel, rfl⟩
end Go.Proofs.Ytogkncmhonomdaa
