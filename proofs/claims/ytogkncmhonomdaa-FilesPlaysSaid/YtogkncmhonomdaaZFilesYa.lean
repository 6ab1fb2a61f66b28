import Derived.Test.YtogkncmhonomdaaZFilesY
import Derived.Test.YtogkncmhonomdaaZEngT2
set_option linter.unusedVariables false
set_option linter.unusedSimpArgs false
set_option maxRecDepth 100000
namespace Go.Proofs.Ytogkncmhonomdaa
open Go
theorem Rel.get {p : FilesP} {r : RfG} (h : Rel p r) (fd : Int) : gget p.op fd = (r.l[fdIx r.l fd]?).map (filOf r.u) := by rw [h.op, fdIx_find]
theorem fdI_none {p : FilesP} {r : RfG} (h : Rel p r) {fd : Int} : fdI r.l fd < 0 ↔ gget p.op fd = none := by
  have hl := fdIx_le r.l fd
  rw [h.get, fdI]
  by_cases e : fdIx r.l fd < r.l.length
  · rw [if_pos e, List.getElem?_eq_getElem e]; simp
  · rw [if_neg e, List.getElem?_eq_none (by omega)]; simp
theorem fdI_some {p : FilesP} {r : RfG} (h : Rel p r) {fd : Int} (hn : ¬ fdI r.l fd < 0) : ∃ (i : Nat) (x : Int × Int × Nat), fdI r.l fd = i ∧ i = fdIx r.l fd ∧ r.l[i]? = some x ∧ x.1 = fd ∧ gget p.op fd = some (filOf r.u x) := by
  have hl := fdIx_le r.l fd
  rw [fdI] at hn
  by_cases e : fdIx r.l fd < r.l.length
  · have hx : r.l[fdIx r.l fd]? = some r.l[fdIx r.l fd] := List.getElem?_eq_getElem e
    refine ⟨fdIx r.l fd, r.l[fdIx r.l fd], by rw [fdI, if_pos e], rfl, hx, (fdIx_step r.l fd _ (Nat.le_refl _) _ hx).2 rfl, ?_⟩
    rw [h.get, hx]; rfl
  · rw [if_neg e] at hn; omega
theorem Rel.opened {p : FilesP} {r : RfG} (h : Rel p r) {k m : Nat} {f : FileG} (hk : gget p.op (k : Int) = none) (hm : r.u.f.files.xs[m]? = some f) (hl : r.l.length < 16) (A' : Option Addr) (c' : Nat) :
    Rel { p with op := gset p.op (k : Int) ⟨f.data.xs, 0, false⟩ } ⟨r.bu, r.u, A', c', r.l ++ [((k : Int), (m : Int), 0)], r.o1, r.o2⟩ := by
  have hmn : (k : Int) ∉ r.l.map (·.1) := fun hc => by
    obtain ⟨y, hy, e⟩ := List.mem_map.1 hc
    have h2 := h.op k
    rw [hk] at h2
    have h3 := Option.map_eq_none_iff.1 h2.symm
    have := List.find?_eq_none.1 h3 y hy
    simp [e] at this
  have hml := (List.getElem?_eq_some_iff.1 hm).1
  refine ⟨h.all, h.use, fun fd => ?_, ?_, h.out1, h.out2, h.outs, fun x hx => ?_, ?_, h.names, ?_⟩
  · show gget (gset _ _ _) fd = (List.find? _ (_ ++ _)).map _
    rw [gget_gset, List.find?_append]
    by_cases e : fd = k
    · subst e
      have h2 := h.op k
      rw [hk] at h2
      have h3 := Option.map_eq_none_iff.1 h2.symm
      rw [if_pos rfl, h3]
      simp [filOf, dataOf, hm]
    · rw [if_neg e, h.op fd]
      have : List.find? (fun x : Int × Int × Nat => x.1 == fd) [((k : Int), (m : Int), 0)] = none := by simp; omega
      rw [this]; simp
  · show (gset _ _ _).length = (r.l ++ [((k : Int), (m : Int), 0)]).length
    rw [gset_length, hk, List.length_append, h.len]; rfl
  · rcases List.mem_append.1 hx with hx | hx
    · exact h.ent x hx
    · simp at hx
      rw [hx]
      exact ⟨.inr (.inr ⟨by simp, by show (m : Int) < (r.u.f.files.xs.length : Int); omega⟩), by simp⟩
  · show ((r.l ++ _).map _).Nodup
    rw [List.map_append, List.nodup_append]
    refine ⟨h.once, by simp, ?_⟩
    intro a ha b' hb e
    simp at hb
    rw [e, hb] at ha
    exact hmn ha
  · show (r.l ++ _).length ≤ 16 ∧ _
    rw [List.length_append]
    exact ⟨by simp; omega, h.few.2⟩
theorem find_rem : ∀ {l : List (Int × Int × Nat)} {i : Nat} {y : Int × Int × Nat}, (l.map (·.1)).Nodup → l[i]? = some y → ∀ k, ((l.take i ++ l.drop (i + 1)).find? fun x => x.1 == k) = if k = y.1 then none else l.find? fun x => x.1 == k
  | [], _, _, _, h, _ => by simp at h
  | x :: l, 0, y, hn, h, k => by
    simp at h; subst h
    rw [List.map_cons, List.nodup_cons] at hn
    rw [List.take_zero, List.nil_append, List.drop_succ_cons, List.drop_zero]
    by_cases e : k = x.1
    · rw [if_pos e, List.find?_eq_none]
      intro z hz hc
      have : z.1 = k := by simpa using hc
      exact hn.1 (List.mem_map.2 ⟨z, hz, by rw [this, e]⟩)
    · rw [if_neg e, List.find?_cons]
      have : (x.1 == k) = false := by simpa using Ne.symm e
      rw [this]
  | x :: l, i + 1, y, hn, h, k => by
    rw [List.map_cons, List.nodup_cons] at hn
    rw [List.getElem?_cons_succ] at h
    have ih := find_rem hn.2 h k
    rw [List.take_succ_cons, List.drop_succ_cons, List.cons_append, List.find?_cons, List.find?_cons, ih]
    have hne : x.1 ≠ y.1 := fun e => hn.1 (List.mem_map.2 ⟨y, List.mem_of_getElem? h, e.symm⟩)
    by_cases e : x.1 = k
    · have : (x.1 == k) = true := by simpa using e
      rw [this]; dsimp only; rw [if_neg (by rw [← e]; exact hne)]
    · have : (x.1 == k) = false := by simpa using e
      rw [this]
theorem Rel.closed {p : FilesP} {r : RfG} (h : Rel p r) (hnd : (p.op.map (·.1)).Nodup) {i : Nat} {y : Int × Int × Nat} (hy : r.l[i]? = some y) (A' : Option Addr) (c' : Nat) :
    Rel { p with op := gdel p.op y.1 } ⟨r.bu, r.u, A', c', r.l.take i ++ r.l.drop (i + 1), r.o1, r.o2⟩ := by
  have hil := (List.getElem?_eq_some_iff.1 hy).1
  have hsub : (r.l.take i ++ r.l.drop (i + 1)).Sublist r.l := by
    have h1 : r.l = r.l.take i ++ r.l.drop i := (List.take_append_drop i r.l).symm
    conv => rhs; rw [h1]
    exact List.Sublist.append (List.Sublist.refl _) (by rw [List.drop_eq_getElem_cons hil]; exact List.sublist_cons_self _ _)
  have hsome : (gget p.op y.1).isSome := by
    rw [h.op]
    have : (r.l.find? fun x => x.1 == y.1).isSome := List.find?_isSome.2 ⟨y, List.mem_of_getElem? hy, by simp⟩
    simpa using this
  refine ⟨h.all, h.use, fun fd => ?_, ?_, h.out1, h.out2, h.outs, fun x hx => h.ent x (hsub.mem hx), h.once.sublist (hsub.map _), h.names, ?_⟩
  · show gget (gdel _ _) fd = (List.find? _ (_ ++ _)).map _
    rw [gget_gdel hnd, find_rem h.once hy, h.op fd]
    by_cases e : fd = y.1
    · rw [if_pos e, if_pos e]; rfl
    · rw [if_neg e, if_neg e]
  · show (gdel _ _).length = (r.l.take i ++ r.l.drop (i + 1)).length
    have h1 := gdel_length hsome
    have h2 := h.len
    rw [List.length_append, List.length_take, List.length_drop]
    omega
  · exact ⟨Nat.le_trans hsub.length_le h.few.1, h.few.2⟩
theorem opens_one {l : List (Int × Int × Nat)} : (l.flatMap openC).all one = true := by
  rw [List.all_eq_true]
  intro v hv
  obtain ⟨x, _, hx⟩ := List.mem_flatMap.1 hv
  simp [openC] at hx
  rcases hx with rfl | rfl | rfl <;> rfl
theorem fill_one' {m : Nat} {cells zs : List Value} (hc : cells.length = m) : fillL (fun i => some (i * m, m)) (litZ (1 * m) m zs) [(0, .agg cells.toArray)] = some cells := by
  have hl : (litZ (1 * m) m zs).length = m := by simp [litZ]
  have e : (Value.agg cells.toArray).cells.toList = cells := by simp [Value.cells]
  have h1 : Nat.beq m m = true := by simp
  have h2 : Nat.ble (0 * m + m) m = true := by simp
  unfold fillL
  dsimp only
  rw [e, hl, hc, h1, h2]
  have hspl : ∀ (vs cur : List Value) (k : Nat), k + vs.length ≤ cur.length → splL cur k vs = cur.take k ++ vs ++ cur.drop (k + vs.length) := by
    intro vs
    induction vs with
    | nil => intro cur k _; simp [splL]
    | cons v vs ih =>
      intro cur k h
      rw [List.length_cons] at h
      rw [splL, ih _ _ (by rw [List.length_set]; omega), List.take_set, List.drop_set_of_lt (by omega), List.length_cons, show k + (vs.length + 1) = k + 1 + vs.length by omega]
      congr 1
      have hk : k < (cur.take (k + 1)).length := by rw [List.length_take]; omega
      rw [show ((cur.take (k + 1)).set k v) = cur.take k ++ [v] from by
        rw [List.take_succ_eq_append_getElem (show k < cur.length by omega), List.set_append_right _ _ (by rw [List.length_take]; omega)]
        rw [List.length_take, Nat.min_eq_left (by omega), Nat.sub_self]; rfl, List.append_assoc]
      rfl
  rw [Bool.and_self, cond_true, hspl cells _ (0 * m) (by omega), hc]
  unfold fillL
  congr 1
  rw [Nat.zero_mul, List.take_zero, Nat.zero_add, List.drop_of_length_le (by omega), List.nil_append, List.append_nil]
theorem rfClose_spec (b : Nat) (p : FilesP) (r : RfG) (fd : Int) (hrel : Rel p r) (hnd : (p.op.map (·.1)).Nodup) : Spec Try.prog 12 #[.pointer (some ⟨b, 0, none⟩), .int .i64 fd] (fun _ => True) [(0, RfPt b r), (1, RfOpen r)]
    (fun ρ ρ' v L => ρ' = ρ ∧ v = .int .i64 (closeFP p fd).1 ∧ ∃ A c l, Rel (closeFP p fd).2 ⟨r.bu, r.u, A, c, l, r.o1, r.o2⟩ ∧ L = [(0, RfPt b ⟨r.bu, r.u, A, c, l, r.o1, r.o2⟩), (1, RfOpen ⟨r.bu, r.u, A, c, l, r.o1, r.o2⟩)]) := by
  have hfew := hrel.few.1
  have hF := rfFind_spec b r fd hfew
  have hN := fdI_none hrel (fd := fd)
  have hS := fun h => fdI_some hrel (fd := fd) h
  obtain ⟨bu, u, A, c, l, o1, o2⟩ := r
  refine Spec.of 30 Try.func12 rfl Try.ntmps12 [(0, _), (1, _)] rfl rfl ?_
  intro cx ρ hr h0
  refine Cd.seq fun K1 hK1 => ?_
  refine Cd.plain [(0, false)] rfl rfl ?_
  refine Jp.y 4 rfl (want_all rfl) rfl rfl Kp.true (Y.assign rfl rfl) ?_
  refine Jp.done hK1 ?_
  refine Cd.seq fun K2 hK2 => ?_
  refine Cd.plain [(0, false), (1, false), (2, false), (3, false)] rfl rfl ?_
  refine Jp.y 6 rfl (want_all rfl) rfl rfl Kp.true (Y.move rfl rfl) ?_
  refine Jp.y 7 rfl (want_all rfl) rfl rfl Kp.true (Y.move rfl rfl) ?_
  refine Jp.call [0, 1] [0, 1] hF 8 rfl (want_all rfl) rfl rfl (Runs.fn rfl Try.call29 rfl) (by decide) (by decide) rfl trivial ?_
  rintro v1 ρ1 L1 ⟨rfl, rfl, rfl⟩
  refine ⟨rfl, fun hle1 => ⟨Kp.true, ?_⟩⟩
  dsimp only at hfew hN hS ⊢
  obtain ⟨z, hz⟩ : ∃ z, fdI l fd = z := ⟨_, rfl⟩
  rw [hz] at hN hS ⊢
  refine Jp.y 5 rfl (want_all rfl) rfl rfl Kp.true (Y.assign rfl rfl) ?_
  refine Jp.done hK2 ?_
  refine Cd.seq fun K3 hK3 => ?_
  refine Cd.seq fun K4 hK4 => ?_
  refine Cd.plain [(0, false), (1, false)] rfl rfl ?_
  refine Jp.y 9 rfl (want_all rfl) rfl rfl Kp.true (Y.move rfl rfl) ?_
  refine Jp.y 10 rfl (want_all rfl) rfl rfl Kp.true (Y.lss rfl rfl rfl) ?_
  refine Jp.done hK4 ?_
  refine Cd.cond rfl (fun g0 => ?_) (fun g0 => ?_)
  · have h1 : gget p.op fd = none := hN.1 (by simpa using g0)
    have hV : closeFP p fd = (-9, p) := by rw [closeFP, h1]; rfl
    refine Cd.seq fun K5 hK5 => ?_
    refine Cd.plain [(0, false)] rfl rfl ?_
    refine Jp.y 4 rfl (want_all rfl) rfl rfl Kp.true (Y.assign rfl rfl) ?_
    refine Jp.done hK5 ?_
    refine Cd.ret [(0, _), (1, _)] rfl (res1 rfl rfl) ⟨rfl, rfl, trivial⟩ ⟨rfl, by rw [hV], A, c, l, by rw [hV]; exact hrel, rfl⟩
  · obtain ⟨i, x, e1, e2, hx, hxf, hg⟩ := hS (by simpa using g0)
    have hV : closeFP p fd = (0, { p with op := gdel p.op fd }) := by rw [closeFP, hg]; rfl
    have hil := (List.getElem?_eq_some_iff.1 hx).1
    have hRC := fun A' c' => hrel.closed hnd hx A' c'
    dsimp only at hRC
    rw [hxf] at hRC
    have hp : RfPt b ⟨bu, u, A, c, l, o1, o2⟩ = Pt b (.cells #[.pointer (some ⟨bu, 0, none⟩), .slice A l.length c, o1.v, o2.v] 60) := rfl
    have hq : RfOpen ⟨bu, u, A, c, l, o1, o2⟩ = OwnS 74 3 A l.length c (l.flatMap openC) := rfl
    rw [e1, hp, hq]
    have hrows := openC_rows l
    refine Cd.freeze (i := 1) rfl (OwnS.up _ _ _ _ _ _) fun ρ7 hle7 hA7 => ?_
    have hR1 := hA7.rd.take (l := i) (by omega)
    obtain ⟨i1, hi1⟩ : ∃ i1, i1 = i + 1 := ⟨_, rfl⟩
    rw [← hi1] at hRC
    have hR2 := hA7.rd.drop (lo := i1) (by omega)
    rw [rw_take i hrows] at hR1
    rw [rw_drop i1 hrows] at hR2
    have hroomc := hA7.rd.2.1.1
    have hlenf : (l.take i ++ l.drop i1).length = i + (l.length - i1) := by
      rw [List.length_append, List.length_take, List.length_drop]; omega
    refine Cd.skip hK3 ?_
    refine Cd.seq fun K6 hK6 => ?_
    refine Cd.drawn [(0, _)] ⟨rfl, trivial⟩ [(0, true), (2, true), (3, true), (4, true), (5, true), (6, true), (7, true), (9, true), (10, true), (11, true), (12, true), (13, true), (14, true), (15, true), (1, false), (8, false), (16, false), (17, true), (18, true), (19, false)] follows (by kernel_rfl) (fun hrl => ?_)
    refine Jp.q 11 rfl (want_all rfl) rfl rfl (Y.move rfl rfl) ?_
    refine Jp.q 13 rfl (want_all rfl) rfl rfl (Y.move rfl rfl) ?_
    refine Jp.q 14 rfl (want_all rfl) rfl rfl (Y.nilCheck rfl rfl) ?_
    refine Jp.q 15 rfl (want_all rfl) rfl rfl (by first | exact Y.fieldAddrP rfl rfl Try.underlying60 rfl Try.sizeOf57 (by decide) (show _ + 1 = _ from rfl) | exact Y.fieldAddr rfl rfl Try.underlying60 rfl Try.sizeOf57 (by decide)) ?_
    refine Jp.q 16 rfl (want_all rfl) rfl rfl (Y.loadO 0 rfl Try.isAgg57 rfl rfl rfl) ?_
    refine Jp.q 17 rfl (want_all rfl) rfl rfl (Y.move rfl rfl) ?_
    refine Jp.q 18 rfl (want_all rfl) rfl rfl (Y.sliceTo (hi := i) rfl rfl rfl Try.underlying57 Try.sizeOf74 (by omega) (by omega)) ?_
    refine Jp.q 20 rfl (want_all rfl) rfl rfl (Y.move rfl rfl) ?_
    refine Jp.q 21 rfl (want_all rfl) rfl rfl (Y.nilCheck rfl rfl) ?_
    refine Jp.q 22 rfl (want_all rfl) rfl rfl (by first | exact Y.fieldAddrP rfl rfl Try.underlying60 rfl Try.sizeOf57 (by decide) (show _ + 1 = _ from rfl) | exact Y.fieldAddr rfl rfl Try.underlying60 rfl Try.sizeOf57 (by decide)) ?_
    refine Jp.q 23 rfl (want_all rfl) rfl rfl (Y.loadO 0 rfl Try.isAgg57 rfl rfl rfl) ?_
    refine Jp.q 24 rfl (want_all rfl) rfl rfl (Y.move rfl rfl) ?_
    refine Jp.q 25 rfl (want_all rfl) rfl rfl (Y.add_ rfl rfl rfl (by first | exact wrap_i64 (by omega) (by omega) | rfl)) ?_
    refine Jp.slot 25 rfl (show _ = Value.int .i64 (i1 : Int) from congrArg (Value.int .i64) (by omega)) ?_
    refine Jp.q 26 rfl (want_all rfl) rfl rfl (Y.sliceFrom (lo := i1) rfl rfl rfl Try.underlying57 Try.sizeOf74 (by omega) (by omega)) ?_
    refine Jp.lit 12 2 [] [] rfl (want_all rfl) rfl rfl rfl rfl Try.underlying57 Try.sizeOf74 Try.zeroValue74 rfl rfl rfl rfl rfl fun b2 => ⟨(Kp.st ⟨rfl, trivial⟩), ?_⟩
    refine Jp.append 19 2 rfl (want_all rfl) rfl rfl rfl Try.underlying57 Try.underlying57 (.inl ⟨_, rfl⟩) Try.sizeOf74 Try.typeInfo74 Try.zeroValue74 rfl (by decide) rfl rfl rfl (Src.rd hR1) opens_one (i) (((l.take i).flatMap openC)) (by first | omega | simp) (by simp) (by simp only [Try.t74]; omega) fun A8 c8 => ⟨(Kp.st ⟨rfl, trivial⟩), ?_⟩
    refine Jp.append 27 2 rfl (want_all rfl) rfl rfl rfl Try.underlying57 Try.underlying57 (.inl ⟨_, rfl⟩) Try.sizeOf74 Try.typeInfo74 Try.zeroValue74 rfl (by decide) rfl rfl rfl (Src.rd hR2) opens_one ((l.take i ++ l.drop i1).length) (((l.take i ++ l.drop i1).flatMap openC)) (by first | omega | simp) (by rw [List.flatMap_append]) (by simp only [Try.t74]; omega) fun A9 c9 => ⟨(Kp.st ⟨rfl, trivial⟩), ?_⟩
    refine Jp.q 28 rfl (want_all rfl) rfl rfl (Y.nilCheck rfl rfl) ?_
    refine Jp.q 29 rfl (want_all rfl) rfl rfl (by first | exact Y.fieldAddrP rfl rfl Try.underlying60 rfl Try.sizeOf57 (by decide) (show _ + 1 = _ from rfl) | exact Y.fieldAddr rfl rfl Try.underlying60 rfl Try.sizeOf57 (by decide)) ?_
    first | refine Jp.store 0 rfl (want_all rfl) rfl rfl Try.sizeOf57 rfl rfl rfl rfl rfl rfl Kp.last ?_ | refine Jp.store 2 rfl (want_all rfl) rfl rfl Try.sizeOf57 rfl rfl rfl rfl rfl rfl Kp.last ?_
    refine Jp.done hK6 ?_
    refine Cd.seq fun K8 hK8 => ?_
    refine Cd.plain [(0, false)] rfl rfl ?_
    refine Jp.y 4 rfl (want_all rfl) rfl rfl Kp.true (Y.assign rfl rfl) ?_
    refine Jp.done hK8 ?_
    refine Cd.lower hle7 (by rw [h0]; exact Hp.le_refl _) ?_
    refine Cd.move 1 2 (by decide) rfl rfl (OwnS.up _ _ _ _ _ _) ?_
    refine Cd.ret [(0, _), (1, _)] rfl (res1 rfl rfl) ⟨rfl, rfl, trivial⟩ ⟨rfl, by rw [hV], A9, c9, l.take i ++ l.drop i1, by rw [hV]; exact hRC A9 c9, rfl⟩
end Go.Proofs.Ytogkncmhonomdaa
