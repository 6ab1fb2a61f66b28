import Derived.Test.YtogkncmhonomdaaZFilesD
set_option linter.unusedVariables false
set_option linter.unusedSimpArgs false
set_option maxRecDepth 100000
namespace Go.Proofs.Ytogkncmhonomdaa
open Go
theorem good_files {f : FeedP} (h : good f = true) : f.files.length ≤ 8 ∧ ∀ x ∈ f.files, x.2.length ≤ 4096 := by
  simp only [good, Bool.and_eq_true, decide_eq_true_eq, goodFiles] at h
  refine ⟨h.2.2, fun x hx => ?_⟩
  obtain ⟨k, hk⟩ := List.mem_iff_getElem?.1 hx
  have hl := (List.getElem?_eq_some_iff.1 hk).1
  have h2 := List.all_eq_true.1 h.2.1 k (List.mem_range.2 hl)
  rw [okAt, hk] at h2
  simp only [goodFile, Bool.and_eq_true, decide_eq_true_eq] at h2
  exact h2.1.2
theorem good_shorts {f : FeedP} (h : good f = true) : ∀ x ∈ f.short, 0 ≤ x := by
  simp only [good, Bool.and_eq_true, decide_eq_true_eq] at h
  intro x hx
  have := List.all_eq_true.1 h.1.1.1.1.1.1 x hx
  simp only [goodShort, Bool.and_eq_true, decide_eq_true_eq] at this
  exact this.1
theorem FsOk.newP (f : FeedP) : FsOk (newFP f) := by
  rw [newFP, beginP]
  cases h : good f with
  | false =>
    refine ⟨by simp, by simp, ?_, by simp, by simp⟩
    intro x hx; simp at hx; rcases hx with rfl | rfl | rfl <;> simp
  | true =>
    refine ⟨by simpa using good_files h, by simpa using good_shorts h, ?_, by simp, by simp⟩
    have := (good_bounds h).2.2.2
    intro x hx; simp at hx; rcases hx with rfl | rfl | rfl <;> simp [this]
theorem filesV_snoc' (l : List FileG) (x : FileG) : filesV l ++ [.string x.name, x.data.v] = filesV (l ++ [x]) := by simp [filesV, FileG.cells]
theorem new_files (f : FeedG) : Spec Try.prog 6 #[.agg f.cells.toArray] (RdFeed f) []
    (fun ρ ρ' v L => ∃ b g, v = .pointer (some ⟨b, 0, none⟩) ∧ L = [(0, FsPt b g), (1, UsePt g.bu g.use), (2, MapO .i64 g.bo (gmap FilG.v g.op)), (3, MapO .i64 g.bw (gmap Sl.v g.out))] ∧ RdFs g ρ' ∧ g.p = newFP f.p) := by
  obtain ⟨args, input, short, random, clock, ⟨Af, cf, xf⟩⟩ := f
  dsimp only [FeedG.cells, Sl.v]
  refine Spec.of 58 Try.func6 rfl Try.ntmps6 [(0, _)] rfl rfl ?_
  intro cx ρ hr h0
  have hR : RdS 2 Af xf.length cf (filesV xf) ρ := hr.files.1
  refine Cd.seq fun K1 hK1 => ?_
  refine Cd.plain [(0, false), (1, false)] rfl rfl ?_
  refine Jp.box 5 1 rfl (want_all rfl) rfl rfl rfl rfl fun b5 => ⟨Kp.true, ?_⟩
  refine Jp.y 2 rfl (want_all rfl) rfl rfl Kp.true (Y.assign rfl rfl) ?_
  refine Jp.done hK1 ?_
  refine Cd.seq fun K2 hK2 => ?_
  refine Cd.plain [(0, false), (1, false), (2, false), (3, false), (4, false), (5, false), (6, false)] rfl rfl ?_
  refine Jp.y 7 rfl (want_all rfl) rfl rfl Kp.true (by first | exact Y.loadAggO 5 rfl Try.isAgg28 Try.sizeOf28 rfl rfl rfl | exact Y.loadAggO 0 rfl Try.isAgg28 Try.sizeOf28 rfl rfl rfl | exact Y.loadAggO 5 rfl Try.isAgg28 Try.sizeOf28 rfl rfl rfl) ?_
  refine Jp.call [] [1] (f24_spec ⟨args, input, short, random, clock, ⟨Af, cf, xf⟩⟩) 8 rfl (want_all rfl) rfl rfl (Runs.fn rfl Try.call24 rfl) (by decide) (by decide) rfl hr ?_
  rintro v1 ρ1 L1 ⟨bu, u, rfl, rfl, hu, hup⟩
  refine ⟨rfl, fun hle1 => ⟨Kp.true, ?_⟩⟩
  have hr := RdFeed.up _ _ _ hle1 hr
  have hR : RdS 2 Af xf.length cf (filesV xf) ρ1 := hr.files.1
  refine Jp.makeMap 9 2 .i64 rfl (want_all rfl) rfl rfl rfl fun b2 => ⟨Kp.true, ?_⟩
  refine Jp.makeMap 10 3 .i64 rfl (want_all rfl) rfl rfl rfl fun b3 => ⟨Kp.true, ?_⟩
  refine Jp.y 11 rfl (want_all rfl) rfl rfl Kp.true (Y.struct [(1, _), (2, _), (3, _)] [_, _, _, _] rfl rfl places68 Try.zeroValue68 rfl) ?_
  refine Jp.box 0 12 rfl (want_all rfl) rfl rfl rfl rfl fun b0 => ⟨Kp.true, ?_⟩
  refine Jp.y 3 rfl (want_all rfl) rfl rfl Kp.true (Y.assign rfl rfl) ?_
  refine Jp.done hK2 ?_
  refine Cd.seq fun K3 hK3 => ?_
  refine Cd.plain [(0, false)] rfl rfl ?_
  refine Jp.y 4 rfl (want_all rfl) rfl rfl Kp.true (Y.assign rfl rfl) ?_
  refine Jp.done hK3 ?_
  refine Cd.seq fun K4 hK4 => ?_
  refine Cd.seq fun K5 hK5 => ?_
  refine Cd.plain [(0, false), (1, false)] rfl rfl ?_
  refine Jp.y 13 rfl (want_all rfl) rfl rfl Kp.true (by first | exact Y.loadAggO 5 rfl Try.isAgg28 Try.sizeOf28 rfl rfl rfl | exact Y.loadAggO 0 rfl Try.isAgg28 Try.sizeOf28 rfl rfl rfl | exact Y.loadAggO 5 rfl Try.isAgg28 Try.sizeOf28 rfl rfl rfl | exact Y.loadAggO 0 rfl Try.isAgg28 Try.sizeOf28 rfl rfl rfl) ?_
  refine Jp.call [] [] (f25_spec ⟨args, input, short, random, clock, ⟨Af, cf, xf⟩⟩) 14 rfl (want_all rfl) rfl rfl (Runs.fn rfl Try.call25 rfl) (by decide) (by decide) rfl hr ?_
  rintro v2 ρ2 L2 ⟨rfl, rfl, rfl⟩
  refine ⟨rfl, fun hle2 => ⟨Kp.true, ?_⟩⟩
  obtain ⟨F, hF⟩ : ∃ F : FeedP, F = FeedG.p ⟨args, input, short, random, clock, ⟨Af, cf, xf⟩⟩ := ⟨_, rfl⟩
  rw [← hF] at hup ⊢
  refine Jp.done hK5 ?_
  refine Cd.cond rfl (fun hg => ?_) (fun hg => ?_)
  · have hg : good F = true := hg
    obtain ⟨hb1, hb2, hb3, hb4⟩ := good_bounds hg
    have hb4 : input.xs.length ≤ 4096 := by rw [hF] at hb4; exact hb4
    obtain ⟨hf1, hf2⟩ := good_files hg
    have hf1 : xf.length ≤ 8 := by rw [hF] at hf1; simpa [FeedG.p] using hf1
    have hf2 : ∀ x ∈ xf, x.data.xs.length ≤ 4096 := fun x hx => by
      have h5 := hf2 x.p (by rw [hF]; exact List.mem_map.2 ⟨x, hx, rfl⟩)
      exact h5
    refine Cd.seq fun K6 hK6 => ?_
    refine Cd.plain [(0, false), (1, false), (2, false), (3, false)] rfl rfl ?_
    refine Jp.y 15 rfl (want_all rfl) rfl rfl Kp.true (by first | exact Y.fieldAddrP rfl rfl Try.underlying28 rfl Try.sizeOf23 (by decide) (show _ + 1 = _ from rfl) | exact Y.fieldAddr rfl rfl Try.underlying28 rfl Try.sizeOf23 (by decide)) ?_
    refine Jp.y 16 rfl (want_all rfl) rfl rfl Kp.true (by first | exact Y.loadO 5 rfl Try.isAgg23 rfl rfl rfl | exact Y.loadO 0 rfl Try.isAgg23 rfl rfl rfl | exact Y.loadO 5 rfl Try.isAgg23 rfl rfl rfl | exact Y.loadO 0 rfl Try.isAgg23 rfl rfl rfl) ?_
    refine Jp.call [] [4] (f26_spec input (by omega)) 17 rfl (want_all rfl) rfl rfl (Runs.fn rfl Try.call26 rfl) (by decide) (by decide) rfl hr.input ?_
    rintro v3 ρ3 L3 ⟨rfl, A3, c3, rfl, rfl⟩
    refine ⟨rfl, fun hle3 => ⟨Kp.true, ?_⟩⟩
    refine Jp.y 4 rfl (want_all rfl) rfl rfl Kp.true (Y.assign rfl rfl) ?_
    refine Jp.done hK6 ?_
    refine Cd.seq fun K7 hK7 => ?_
    refine Cd.plain [(0, false), (1, false), (2, false), (3, false)] rfl rfl ?_
    refine Jp.freeze (i := 4) rfl (OwnS.up _ _ _ _ _ _) fun ρ4 l4 q4 => ?_
    have hr := RdFeed.up _ _ _ l4 hr
    have hR : RdS 2 Af xf.length cf (filesV xf) ρ4 := hr.files.1
    have hu := RdUse.up _ _ _ l4 hu
    refine Jp.y 18 rfl (want_all rfl) rfl rfl Kp.true (by first | exact Y.fieldAddrP rfl rfl Try.underlying28 rfl Try.sizeOf26 (by decide) (show _ + 5 = _ from rfl) | exact Y.fieldAddr rfl rfl Try.underlying28 rfl Try.sizeOf26 (by decide)) ?_
    refine Jp.y 19 rfl (want_all rfl) rfl rfl Kp.true (by first | exact Y.loadO 5 rfl Try.isAgg26 rfl rfl rfl | exact Y.loadO 0 rfl Try.isAgg26 rfl rfl rfl | exact Y.loadO 5 rfl Try.isAgg26 rfl rfl rfl | exact Y.loadO 0 rfl Try.isAgg26 rfl rfl rfl) ?_
    refine Jp.y 20 rfl (want_all rfl) rfl rfl Kp.true (Y.lenslice rfl Try.underlying26 rfl) ?_
    refine Jp.y 21 rfl (want_all rfl) rfl rfl Kp.true (Y.move rfl rfl) ?_
    refine Jp.done hK7 ?_
    refine Cd.block ?_
    refine Cd.make 6 (show OwnS 63 2 none 0 0 (filesV []) Hp.emp from OwnS.nil _ 2 Hp.emp) ?_
    refine Cd.loopK (G := Nat × List FileG × Option Addr × Nat × Hp) (fun g => g.1 ≤ xf.length ∧ g.2.1.length = g.1 ∧ g.2.1.map FileG.p = (xf.take g.1).map FileG.p ∧ (∀ x ∈ g.2.1, RdB x.data g.2.2.2.2) ∧ ρ4.le g.2.2.2.2) (fun g => xf.length - g.1) (fun g => g.2.2.2.2) (fun g => [(21, .int .i64 (g.1 : Int))]) [(3, _), (4, _), (19, _), (20, _)] (fun g => [(0, Pt b0 (.cells #[.slice g.2.2.1 g.1 g.2.2.2.1, .pointer (some ⟨bu, 0, none⟩), .map (some b2), .map (some b3)] 68)), (6, OwnS 63 2 g.2.2.1 g.1 g.2.2.2.1 (filesV g.2.1))]) [(1, _), (2, _), (3, _), (5, _)] ⟨0, [], none, 0, ρ4⟩ ⟨Nat.zero_le _, rfl, rfl, by simp, Hp.le_refl _⟩ rfl ⟨rfl, trivial⟩ ⟨rfl, rfl, rfl, rfl, trivial⟩ ⟨rfl, rfl, trivial⟩ ⟨rfl, rfl, rfl, rfl, trivial⟩ (fun g KLa hok hLa => ?_)
    obtain ⟨k, l, A, c, ρg⟩ := g
    obtain ⟨ok1, ok2, ok3, ok4, ok5⟩ := hok
    dsimp only at ok1 ok2 ok3 ok4 ok5 ⊢
    refine Cd.seq fun K8 hK8 => ?_
    refine Cd.plain [(0, false)] rfl rfl ?_
    refine Jp.y 22 rfl (want_all rfl) rfl rfl Kp.true (Y.lss rfl rfl rfl) ?_
    refine Jp.done hK8 ?_
    refine Cd.seq fun K9 hK9 => ?_
    refine Cd.cond rfl (fun ga => ?_) (fun ga => ?_)
    · simp only [decide_eq_true_eq] at ga
      have hk : k < xf.length := by omega
      have hkx : xf[k]? = some xf[k] := by simp [hk]
      have hr := RdFeed.up _ _ _ ok5 hr
      obtain ⟨ad, rfl⟩ := hR.some (show 0 < xf.length * 2 by omega)
      refine Cd.skip hK9 ?_
      refine Cd.seq fun K10 hK10 => ?_
      refine Cd.block ?_
      refine Cd.seq fun K11 hK11 => ?_
      refine Cd.plain [(0, false), (1, false), (2, false), (3, false)] rfl rfl ?_
      refine Jp.y 23 rfl (want_all rfl) rfl rfl Kp.true (Y.indexAddr (q := k * 2) rfl rfl rfl Try.underlying26 Try.sizeOf63 (by omega) (by omega) (by omega)) ?_
      refine Jp.y 24 rfl (want_all rfl) rfl rfl Kp.true (Y.loadAggR xf[k].cells rfl Try.isAgg63 Try.sizeOf63 rfl rfl (hr.files.at rfl hkx)) ?_
      have hmem : xf[k] ∈ xf := List.getElem_mem hk
      refine Jp.alloc 7 6 rfl (want_all rfl) rfl rfl rfl Try.zeroValue63 fun b7 => ⟨Kp.true, ?_⟩
      first | refine Jp.storeAgg 5 rfl (want_all rfl) rfl rfl Try.sizeOf63 rfl rfl rfl rfl rfl rfl (fun k _ _ => noFr0 k) Kp.true ?_ | refine Jp.storeAgg 0 rfl (want_all rfl) rfl rfl Try.sizeOf63 rfl rfl rfl rfl rfl rfl (fun k _ _ => noFr0 k) Kp.true ?_ | refine Jp.storeAgg 7 rfl (want_all rfl) rfl rfl Try.sizeOf63 rfl rfl rfl rfl rfl rfl (fun k _ _ => noFr0 k) Kp.true ?_ | refine Jp.storeAgg 7 rfl (want_all rfl) rfl rfl Try.sizeOf63 rfl rfl rfl rfl rfl rfl (fun k _ _ => noFr0 k) Kp.true ?_
      refine Jp.done hK11 ?_
      refine Cd.drawn [(0, _), (7, _)] ⟨rfl, rfl, trivial⟩ [(0, true), (1, true), (2, true), (3, true), (4, true), (5, true), (6, true), (7, true), (8, true), (9, false), (10, true), (11, false), (12, false), (13, true), (14, true), (15, false)] follows (by kernel_rfl) (fun hrl => ?_)
      refine Jp.q 25 rfl (want_all rfl) rfl rfl (Y.move rfl rfl) ?_
      refine Jp.q 26 rfl (want_all rfl) rfl rfl (Y.move rfl rfl) ?_
      refine Jp.q 27 rfl (want_all rfl) rfl rfl (Y.nilCheck rfl rfl) ?_
      refine Jp.q 28 rfl (want_all rfl) rfl rfl (by first | exact Y.fieldAddrP rfl rfl Try.underlying68 rfl Try.sizeOf26 (by decide) (show _ + 0 = _ from rfl) | exact Y.fieldAddr rfl rfl Try.underlying68 rfl Try.sizeOf26 (by decide)) ?_
      refine Jp.q 29 rfl (want_all rfl) rfl rfl (by first | exact Y.loadO 5 rfl Try.isAgg26 rfl rfl rfl | exact Y.loadO 0 rfl Try.isAgg26 rfl rfl rfl | exact Y.loadO 7 rfl Try.isAgg26 rfl rfl rfl | exact Y.loadO 7 rfl Try.isAgg26 rfl rfl rfl) ?_
      refine Jp.q 30 rfl (want_all rfl) rfl rfl (by first | exact Y.fieldAddrP rfl rfl Try.underlying63 rfl Try.sizeOf9 (by decide) (show _ + 0 = _ from rfl) | exact Y.fieldAddr rfl rfl Try.underlying63 rfl Try.sizeOf9 (by decide)) ?_
      refine Jp.q 31 rfl (want_all rfl) rfl rfl (by first | exact Y.loadO 5 rfl Try.isAgg9 rfl rfl rfl | exact Y.loadO 0 rfl Try.isAgg9 rfl rfl rfl | exact Y.loadO 7 rfl Try.isAgg9 rfl rfl rfl | exact Y.loadO 7 rfl Try.isAgg9 rfl rfl rfl) ?_
      refine Jp.q 32 rfl (want_all rfl) rfl rfl (by first | exact Y.fieldAddrP rfl rfl Try.underlying63 rfl Try.sizeOf23 (by decide) (show _ + 1 = _ from rfl) | exact Y.fieldAddr rfl rfl Try.underlying63 rfl Try.sizeOf23 (by decide)) ?_
      refine Jp.q 33 rfl (want_all rfl) rfl rfl (by first | exact Y.loadO 5 rfl Try.isAgg23 rfl rfl rfl | exact Y.loadO 0 rfl Try.isAgg23 rfl rfl rfl | exact Y.loadO 7 rfl Try.isAgg23 rfl rfl rfl | exact Y.loadO 7 rfl Try.isAgg23 rfl rfl rfl) ?_
      refine Jp.call [] [4] (f26_spec xf[k].data (by have := hf2 _ hmem; omega)) 34 rfl (want_all rfl) rfl rfl (Runs.fn rfl Try.call26 rfl) (by decide) (by decide) rfl (hr.files.2 _ hmem) ?_
      rintro v4 ρ4 L4 ⟨rfl, A4, c4, rfl, rfl⟩
      refine ⟨rfl, fun hle4 => ⟨(Kp.st ⟨rfl, rfl, trivial⟩), ?_⟩⟩
      refine Jp.q 35 rfl (want_all rfl) rfl rfl (Y.struct [(0, _), (1, _)] [_, _] rfl rfl places63 Try.zeroValue63 rfl) ?_
      refine Jp.lit 36 8 [(0, _)] [_, _] rfl (want_all rfl) rfl rfl rfl rfl Try.underlying26 Try.sizeOf63 Try.zeroValue63 rfl rfl rfl rfl rfl fun b8 => ⟨(Kp.st ⟨rfl, rfl, trivial⟩), ?_⟩
      refine Jp.append 37 6 rfl (want_all rfl) rfl rfl rfl Try.underlying26 Try.underlying26 (.inl ⟨_, rfl⟩) Try.sizeOf63 Try.typeInfo63 Try.zeroValue63 rfl (by decide) rfl rfl rfl (Src.own 8 rfl) rfl ((k + 1)) ((filesV (l ++ [⟨xf[k].name, ⟨A4, c4, xf[k].data.xs⟩⟩]))) (by first | omega | simp) (filesV_snoc' l ⟨xf[k].name, ⟨A4, c4, xf[k].data.xs⟩⟩) (by simp only [Try.t63]; omega) fun A5 c5 => ⟨(Kp.st ⟨rfl, rfl, trivial⟩), ?_⟩
      refine Jp.q 38 rfl (want_all rfl) rfl rfl (Y.nilCheck rfl rfl) ?_
      refine Jp.q 39 rfl (want_all rfl) rfl rfl (by first | exact Y.fieldAddrP rfl rfl Try.underlying68 rfl Try.sizeOf26 (by decide) (show _ + 0 = _ from rfl) | exact Y.fieldAddr rfl rfl Try.underlying68 rfl Try.sizeOf26 (by decide)) ?_
      first | refine Jp.store 5 rfl (want_all rfl) rfl rfl Try.sizeOf26 rfl rfl rfl rfl rfl rfl Kp.last ?_ | refine Jp.store 0 rfl (want_all rfl) rfl rfl Try.sizeOf26 rfl rfl rfl rfl rfl rfl Kp.last ?_ | refine Jp.store 7 rfl (want_all rfl) rfl rfl Try.sizeOf26 rfl rfl rfl rfl rfl rfl Kp.last ?_ | refine Jp.store 7 rfl (want_all rfl) rfl rfl Try.sizeOf26 rfl rfl rfl rfl rfl rfl Kp.last ?_ | refine Jp.store 8 rfl (want_all rfl) rfl rfl Try.sizeOf26 rfl rfl rfl rfl rfl rfl Kp.last ?_
      refine Jp.over rfl hK10 ?_
      refine Cd.plain [(0, false), (1, false)] rfl rfl ?_
      refine Jp.freeze (i := 4) rfl (OwnS.up _ _ _ _ _ _) fun ρ8 l8 q8 => ?_
      refine Jp.y 40 rfl (want_all rfl) rfl rfl Kp.true (Y.add_ rfl rfl rfl (wrap_i64 (by omega) (by omega))) ?_
      refine Jp.y 21 rfl (want_all rfl) rfl rfl Kp.true (Y.move rfl rfl) ?_
      refine Jp.again hLa ⟨k + 1, l ++ [⟨xf[k].name, ⟨A4, c4, xf[k].data.xs⟩⟩], A5, c5, ρ8⟩ ⟨by show k + 1 ≤ _; omega, by simp [ok2], ?_, fun x hx => ?_, Hp.le_trans ok5 l8⟩ (by show xf.length - (k + 1) < _; omega) rfl ⟨rfl, rfl, rfl, rfl, rfl, trivial⟩ ⟨rfl, rfl, rfl, rfl, rfl, rfl, trivial⟩
      · show (l ++ _).map FileG.p = (xf.take (k + 1)).map FileG.p
        rw [List.take_succ_eq_append_getElem hk, List.map_append, List.map_append, ok3]; rfl
      · rcases List.mem_append.1 hx with hx | hx
        · exact RdB.up _ _ _ l8 (ok4 x hx)
        · rw [List.mem_singleton] at hx
          subst hx
          exact q8.rd
    · simp only [decide_eq_false_iff_not] at ga
      subst ok2
      refine Cd.freeze (i := 6) rfl (OwnS.up _ _ _ _ _ _) fun ρ6 l6 q6 => ?_
      refine Cd.exit rfl hK4 ?_
      refine Cd.seq fun K13 hK13 => ?_
      refine Cd.plain [(0, false), (1, false), (2, false), (3, false), (4, false), (5, false), (6, false)] rfl rfl ?_
      refine Jp.y 41 rfl (want_all rfl) rfl rfl Kp.true (Y.move rfl rfl) ?_
      refine Jp.y 42 rfl (want_all rfl) rfl rfl Kp.true (Y.nilCheck rfl rfl) ?_
      refine Jp.y 43 rfl (want_all rfl) rfl rfl Kp.true (by first | exact Y.fieldAddrP rfl rfl Try.underlying68 rfl Try.sizeOf65 (by decide) (show _ + 2 = _ from rfl) | exact Y.fieldAddr rfl rfl Try.underlying68 rfl Try.sizeOf65 (by decide)) ?_
      refine Jp.y 44 rfl (want_all rfl) rfl rfl Kp.true (by first | exact Y.loadO 5 rfl Try.isAgg65 rfl rfl rfl | exact Y.loadO 0 rfl Try.isAgg65 rfl rfl rfl | exact Y.loadO 7 rfl Try.isAgg65 rfl rfl rfl | exact Y.loadO 7 rfl Try.isAgg65 rfl rfl rfl | exact Y.loadO 8 rfl Try.isAgg65 rfl rfl rfl) ?_
      refine Jp.y 45 rfl (want_all rfl) rfl rfl Kp.true (Y.move rfl rfl) ?_
      refine Jp.y 46 rfl (want_all rfl) rfl rfl Kp.true (Y.struct [(0, _)] [_, _, _] rfl rfl places71 Try.zeroValue71 rfl) ?_
      first | refine Jp.mapUpdate 2 rfl (want_all rfl) rfl rfl rfl rfl rfl Try.underlying65 Try.underlying3 rfl Kp.true ?_ | refine Jp.mapUpdate 3 rfl (want_all rfl) rfl rfl rfl rfl rfl Try.underlying65 Try.underlying3 rfl Kp.true ?_ | refine Jp.mapUpdate 2 rfl (want_all rfl) rfl rfl rfl rfl rfl Try.underlying65 Try.underlying3 rfl Kp.true ?_ | refine Jp.mapUpdate 3 rfl (want_all rfl) rfl rfl rfl rfl rfl Try.underlying65 Try.underlying3 rfl Kp.true ?_
      refine Jp.done hK13 ?_
      refine Cd.seq fun K14 hK14 => ?_
      refine Cd.plain [(0, false), (1, false), (2, false), (3, false), (4, false), (5, false)] rfl rfl ?_
      refine Jp.y 47 rfl (want_all rfl) rfl rfl Kp.true (Y.move rfl rfl) ?_
      refine Jp.y 48 rfl (want_all rfl) rfl rfl Kp.true (Y.nilCheck rfl rfl) ?_
      refine Jp.y 49 rfl (want_all rfl) rfl rfl Kp.true (by first | exact Y.fieldAddrP rfl rfl Try.underlying68 rfl Try.sizeOf65 (by decide) (show _ + 2 = _ from rfl) | exact Y.fieldAddr rfl rfl Try.underlying68 rfl Try.sizeOf65 (by decide)) ?_
      refine Jp.y 50 rfl (want_all rfl) rfl rfl Kp.true (by first | exact Y.loadO 5 rfl Try.isAgg65 rfl rfl rfl | exact Y.loadO 0 rfl Try.isAgg65 rfl rfl rfl | exact Y.loadO 7 rfl Try.isAgg65 rfl rfl rfl | exact Y.loadO 7 rfl Try.isAgg65 rfl rfl rfl | exact Y.loadO 8 rfl Try.isAgg65 rfl rfl rfl) ?_
      refine Jp.y 51 rfl (want_all rfl) rfl rfl Kp.true (Y.struct [(2, _)] [_, _, _] rfl rfl places71 Try.zeroValue71 rfl) ?_
      first | refine Jp.mapUpdate 2 rfl (want_all rfl) rfl rfl rfl rfl rfl Try.underlying65 Try.underlying3 rfl Kp.true ?_ | refine Jp.mapUpdate 3 rfl (want_all rfl) rfl rfl rfl rfl rfl Try.underlying65 Try.underlying3 rfl Kp.true ?_ | refine Jp.mapUpdate 2 rfl (want_all rfl) rfl rfl rfl rfl rfl Try.underlying65 Try.underlying3 rfl Kp.true ?_ | refine Jp.mapUpdate 3 rfl (want_all rfl) rfl rfl rfl rfl rfl Try.underlying65 Try.underlying3 rfl Kp.true ?_
      refine Jp.done hK14 ?_
      refine Cd.seq fun K15 hK15 => ?_
      refine Cd.plain [(0, false), (1, false), (2, false), (3, false), (4, false), (5, false)] rfl rfl ?_
      refine Jp.y 52 rfl (want_all rfl) rfl rfl Kp.true (Y.move rfl rfl) ?_
      refine Jp.y 53 rfl (want_all rfl) rfl rfl Kp.true (Y.nilCheck rfl rfl) ?_
      refine Jp.y 54 rfl (want_all rfl) rfl rfl Kp.true (by first | exact Y.fieldAddrP rfl rfl Try.underlying68 rfl Try.sizeOf65 (by decide) (show _ + 2 = _ from rfl) | exact Y.fieldAddr rfl rfl Try.underlying68 rfl Try.sizeOf65 (by decide)) ?_
      refine Jp.y 55 rfl (want_all rfl) rfl rfl Kp.true (by first | exact Y.loadO 5 rfl Try.isAgg65 rfl rfl rfl | exact Y.loadO 0 rfl Try.isAgg65 rfl rfl rfl | exact Y.loadO 7 rfl Try.isAgg65 rfl rfl rfl | exact Y.loadO 7 rfl Try.isAgg65 rfl rfl rfl | exact Y.loadO 8 rfl Try.isAgg65 rfl rfl rfl) ?_
      refine Jp.y 56 rfl (want_all rfl) rfl rfl Kp.true (Y.struct [(2, _)] [_, _, _] rfl rfl places71 Try.zeroValue71 rfl) ?_
      first | refine Jp.mapUpdate 2 rfl (want_all rfl) rfl rfl rfl rfl rfl Try.underlying65 Try.underlying3 rfl Kp.true ?_ | refine Jp.mapUpdate 3 rfl (want_all rfl) rfl rfl rfl rfl rfl Try.underlying65 Try.underlying3 rfl Kp.true ?_ | refine Jp.mapUpdate 2 rfl (want_all rfl) rfl rfl rfl rfl rfl Try.underlying65 Try.underlying3 rfl Kp.true ?_ | refine Jp.mapUpdate 3 rfl (want_all rfl) rfl rfl rfl rfl rfl Try.underlying65 Try.underlying3 rfl Kp.true ?_
      refine Jp.done hK15 ?_
      refine Cd.seq fun K16 hK16 => ?_
      refine Cd.plain [(0, false), (1, false)] rfl rfl ?_
      refine Jp.y 57 rfl (want_all rfl) rfl rfl Kp.true (Y.move rfl rfl) ?_
      refine Jp.y 2 rfl (want_all rfl) rfl rfl Kp.true (Y.assign rfl rfl) ?_
      refine Jp.done hK16 ?_
      have hk : l.length = xf.length := by omega
      rw [hk, List.take_of_length_le (Nat.le_refl _)] at ok3
      have hp : FilesG.p ⟨⟨A, c, l⟩, bu, u, b2, [(0, ⟨⟨A3, c3, input.xs⟩, 0, false⟩), (1, ⟨⟨none, 0, []⟩, 0, true⟩), (2, ⟨⟨none, 0, []⟩, 0, true⟩)], b3, []⟩ = newFP F := by
        rw [newFP, hg]
        show FilesP.mk (l.map FileG.p) u.p _ _ = _
        rw [ok3, hup, hF]; rfl
      have hle := Hp.le_trans ok5 l6
      refine Cd.ret [(0, _), (1, _), (2, _), (3, _)] rfl (res1 rfl rfl) ⟨rfl, rfl, rfl, rfl, trivial⟩ ⟨b0, ⟨⟨A, c, l⟩, bu, u, b2, [(0, ⟨⟨A3, c3, input.xs⟩, 0, false⟩), (1, ⟨⟨none, 0, []⟩, 0, true⟩), (2, ⟨⟨none, 0, []⟩, 0, true⟩)], b3, []⟩, rfl, rfl, ⟨⟨q6.rd, fun x hx => RdB.up _ _ _ l6 (ok4 x hx)⟩, RdUse.up _ _ _ hle hu, fun x hx => ?_, by simp, ?_⟩, ?_⟩
      · simp only [List.mem_cons, List.not_mem_nil, or_false] at hx
        rcases hx with rfl | rfl | rfl
        · exact RdS.up _ _ _ _ _ _ _ hle q4.rd
        · exact RdS.nil 1 _
        · exact RdS.nil 1 _
      · rw [hp]; exact FsOk.newP F
      · rw [hp, hF]
  · have hg : good F = false := hg
    refine Cd.skip hK4 ?_
    refine Cd.seq fun K17 hK17 => ?_
    refine Cd.plain [(0, false), (1, false), (2, false), (3, false), (4, false), (5, false), (6, false)] rfl rfl ?_
    refine Jp.y 41 rfl (want_all rfl) rfl rfl Kp.true (Y.move rfl rfl) ?_
    refine Jp.y 42 rfl (want_all rfl) rfl rfl Kp.true (Y.nilCheck rfl rfl) ?_
    refine Jp.y 43 rfl (want_all rfl) rfl rfl Kp.true (by first | exact Y.fieldAddrP rfl rfl Try.underlying68 rfl Try.sizeOf65 (by decide) (show _ + 2 = _ from rfl) | exact Y.fieldAddr rfl rfl Try.underlying68 rfl Try.sizeOf65 (by decide)) ?_
    refine Jp.y 44 rfl (want_all rfl) rfl rfl Kp.true (by first | exact Y.loadO 5 rfl Try.isAgg65 rfl rfl rfl | exact Y.loadO 0 rfl Try.isAgg65 rfl rfl rfl | exact Y.loadO 7 rfl Try.isAgg65 rfl rfl rfl | exact Y.loadO 7 rfl Try.isAgg65 rfl rfl rfl | exact Y.loadO 8 rfl Try.isAgg65 rfl rfl rfl) ?_
    refine Jp.y 45 rfl (want_all rfl) rfl rfl Kp.true (Y.move rfl rfl) ?_
    refine Jp.y 46 rfl (want_all rfl) rfl rfl Kp.true (Y.struct [(0, _)] [_, _, _] rfl rfl places71 Try.zeroValue71 rfl) ?_
    first | refine Jp.mapUpdate 2 rfl (want_all rfl) rfl rfl rfl rfl rfl Try.underlying65 Try.underlying3 rfl Kp.true ?_ | refine Jp.mapUpdate 3 rfl (want_all rfl) rfl rfl rfl rfl rfl Try.underlying65 Try.underlying3 rfl Kp.true ?_ | refine Jp.mapUpdate 2 rfl (want_all rfl) rfl rfl rfl rfl rfl Try.underlying65 Try.underlying3 rfl Kp.true ?_ | refine Jp.mapUpdate 3 rfl (want_all rfl) rfl rfl rfl rfl rfl Try.underlying65 Try.underlying3 rfl Kp.true ?_
    refine Jp.done hK17 ?_
    refine Cd.seq fun K18 hK18 => ?_
    refine Cd.plain [(0, false), (1, false), (2, false), (3, false), (4, false), (5, false)] rfl rfl ?_
    refine Jp.y 47 rfl (want_all rfl) rfl rfl Kp.true (Y.move rfl rfl) ?_
    refine Jp.y 48 rfl (want_all rfl) rfl rfl Kp.true (Y.nilCheck rfl rfl) ?_
    refine Jp.y 49 rfl (want_all rfl) rfl rfl Kp.true (by first | exact Y.fieldAddrP rfl rfl Try.underlying68 rfl Try.sizeOf65 (by decide) (show _ + 2 = _ from rfl) | exact Y.fieldAddr rfl rfl Try.underlying68 rfl Try.sizeOf65 (by decide)) ?_
    refine Jp.y 50 rfl (want_all rfl) rfl rfl Kp.true (by first | exact Y.loadO 5 rfl Try.isAgg65 rfl rfl rfl | exact Y.loadO 0 rfl Try.isAgg65 rfl rfl rfl | exact Y.loadO 7 rfl Try.isAgg65 rfl rfl rfl | exact Y.loadO 7 rfl Try.isAgg65 rfl rfl rfl | exact Y.loadO 8 rfl Try.isAgg65 rfl rfl rfl) ?_
    refine Jp.y 51 rfl (want_all rfl) rfl rfl Kp.true (Y.struct [(2, _)] [_, _, _] rfl rfl places71 Try.zeroValue71 rfl) ?_
    first | refine Jp.mapUpdate 2 rfl (want_all rfl) rfl rfl rfl rfl rfl Try.underlying65 Try.underlying3 rfl Kp.true ?_ | refine Jp.mapUpdate 3 rfl (want_all rfl) rfl rfl rfl rfl rfl Try.underlying65 Try.underlying3 rfl Kp.true ?_ | refine Jp.mapUpdate 2 rfl (want_all rfl) rfl rfl rfl rfl rfl Try.underlying65 Try.underlying3 rfl Kp.true ?_ | refine Jp.mapUpdate 3 rfl (want_all rfl) rfl rfl rfl rfl rfl Try.underlying65 Try.underlying3 rfl Kp.true ?_
    refine Jp.done hK18 ?_
    refine Cd.seq fun K19 hK19 => ?_
    refine Cd.plain [(0, false), (1, false), (2, false), (3, false), (4, false), (5, false)] rfl rfl ?_
    refine Jp.y 52 rfl (want_all rfl) rfl rfl Kp.true (Y.move rfl rfl) ?_
    refine Jp.y 53 rfl (want_all rfl) rfl rfl Kp.true (Y.nilCheck rfl rfl) ?_
    refine Jp.y 54 rfl (want_all rfl) rfl rfl Kp.true (by first | exact Y.fieldAddrP rfl rfl Try.underlying68 rfl Try.sizeOf65 (by decide) (show _ + 2 = _ from rfl) | exact Y.fieldAddr rfl rfl Try.underlying68 rfl Try.sizeOf65 (by decide)) ?_
    refine Jp.y 55 rfl (want_all rfl) rfl rfl Kp.true (by first | exact Y.loadO 5 rfl Try.isAgg65 rfl rfl rfl | exact Y.loadO 0 rfl Try.isAgg65 rfl rfl rfl | exact Y.loadO 7 rfl Try.isAgg65 rfl rfl rfl | exact Y.loadO 7 rfl Try.isAgg65 rfl rfl rfl | exact Y.loadO 8 rfl Try.isAgg65 rfl rfl rfl) ?_
    refine Jp.y 56 rfl (want_all rfl) rfl rfl Kp.true (Y.struct [(2, _)] [_, _, _] rfl rfl places71 Try.zeroValue71 rfl) ?_
    first | refine Jp.mapUpdate 2 rfl (want_all rfl) rfl rfl rfl rfl rfl Try.underlying65 Try.underlying3 rfl Kp.true ?_ | refine Jp.mapUpdate 3 rfl (want_all rfl) rfl rfl rfl rfl rfl Try.underlying65 Try.underlying3 rfl Kp.true ?_ | refine Jp.mapUpdate 2 rfl (want_all rfl) rfl rfl rfl rfl rfl Try.underlying65 Try.underlying3 rfl Kp.true ?_ | refine Jp.mapUpdate 3 rfl (want_all rfl) rfl rfl rfl rfl rfl Try.underlying65 Try.underlying3 rfl Kp.true ?_
    refine Jp.done hK19 ?_
    refine Cd.seq fun K20 hK20 => ?_
    refine Cd.plain [(0, false), (1, false)] rfl rfl ?_
    refine Jp.y 57 rfl (want_all rfl) rfl rfl Kp.true (Y.move rfl rfl) ?_
    refine Jp.y 2 rfl (want_all rfl) rfl rfl Kp.true (Y.assign rfl rfl) ?_
    refine Jp.done hK20 ?_
    have hp : FilesG.p ⟨⟨none, 0, []⟩, bu, u, b2, [(0, ⟨⟨none, 0, []⟩, 0, false⟩), (1, ⟨⟨none, 0, []⟩, 0, true⟩), (2, ⟨⟨none, 0, []⟩, 0, true⟩)], b3, []⟩ = newFP F := by
      rw [newFP, hg]
      show FilesP.mk [] u.p _ _ = _
      rw [hup]; rfl
    refine Cd.ret [(0, _), (1, _), (2, _), (3, _)] rfl (res1 rfl rfl) ⟨rfl, rfl, rfl, rfl, trivial⟩ ⟨b0, ⟨⟨none, 0, []⟩, bu, u, b2, [(0, ⟨⟨none, 0, []⟩, 0, false⟩), (1, ⟨⟨none, 0, []⟩, 0, true⟩), (2, ⟨⟨none, 0, []⟩, 0, true⟩)], b3, []⟩, rfl, rfl, ⟨⟨RdS.nil 2 _, by simp⟩, hu, fun x hx => ?_, by simp, ?_⟩, ?_⟩
    · simp only [List.mem_cons, List.not_mem_nil, or_false] at hx
      rcases hx with rfl | rfl | rfl <;> exact RdS.nil 1 _
    · rw [hp]; exact FsOk.newP F
    · rw [hp, hF]
end Go.Proofs.Ytogkncmhonomdaa
