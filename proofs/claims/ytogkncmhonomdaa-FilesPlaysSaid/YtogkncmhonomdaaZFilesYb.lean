import Derived.Test.YtogkncmhonomdaaZFilesYa
set_option linter.unusedVariables false
set_option linter.unusedSimpArgs false
set_option maxRecDepth 100000
namespace Go.Proofs.Ytogkncmhonomdaa
open Go
theorem name_ix {xf : List FileG} {nm : Bytes} (hn : (xf.map fun f => str f.name).Nodup) {i : Nat} {f : FileG} (hx : xf[i]? = some f) : (str f.name == nm) = true ↔ i = xf.findIdx fun f => str f.name == nm := by
  obtain ⟨hil, he⟩ := List.getElem?_eq_some_iff.1 hx
  constructor
  · intro h
    have h1 : (xf.findIdx fun f => str f.name == nm) < xf.length := List.findIdx_lt_length_of_exists ⟨f, List.mem_of_getElem? hx, h⟩
    have h2 := List.findIdx_getElem (p := fun f : FileG => str f.name == nm) (xs := xf) (w := h1)
    have e1 : str f.name = nm := by simpa using h
    have e2 : str (xf[xf.findIdx fun f => str f.name == nm]'h1).name = nm := by simpa using h2
    rw [List.Nodup, List.pairwise_map] at hn
    rcases Nat.lt_trichotomy i (xf.findIdx fun f => str f.name == nm) with h3 | h3 | h3
    · have := List.pairwise_iff_getElem.1 hn _ _ hil h1 h3
      rw [he] at this
      exact absurd (e1.trans e2.symm) this
    · exact h3
    · have := List.pairwise_iff_getElem.1 hn _ _ h1 hil h3
      rw [he] at this
      exact absurd (e2.trans e1.symm) this
  · intro h
    have h1 : (xf.findIdx fun f => str f.name == nm) < xf.length := by omega
    have h2 := List.findIdx_getElem (p := fun f : FileG => str f.name == nm) (xs := xf) (w := h1)
    subst h
    rw [he] at h2
    exact h2
theorem rfOpen_spec (b : Nat) (p : FilesP) (r : RfG) (name : ByteArray) (hrel : Rel p r) : Spec Try.prog 10 #[.pointer (some ⟨b, 0, none⟩), .string name] (RdRf r) [(0, RfPt b r), (1, RefPt r.bu r.u), (2, RfOpen r)]
    (fun ρ ρ' v L => ρ' = ρ ∧ v = .int .i64 (openFP p (str name)).1 ∧ ∃ A c l, Rel (openFP p (str name)).2 ⟨r.bu, r.u, A, c, l, r.o1, r.o2⟩ ∧ L = [(0, RfPt b ⟨r.bu, r.u, A, c, l, r.o1, r.o2⟩), (1, RefPt r.bu r.u), (2, RfOpen ⟨r.bu, r.u, A, c, l, r.o1, r.o2⟩)]) := by
  have hfew := hrel.few.1
  have hfl := hrel.few.2
  have hF := fun k : Nat => rfFind_spec b r (k : Int) hfew
  have hN := fun k : Nat => fdI_none hrel (fd := (k : Int))
  have hall := hrel.all
  have hnames := hrel.names
  have hlen := hrel.len
  have hop := fun k m f h1 h2 h3 A' c' => Rel.opened hrel (k := k) (m := m) (f := f) h1 h2 h3 A' c'
  obtain ⟨bu, ⟨⟨args, input, short, random, clock, ⟨Af, cf, xf⟩⟩, k1, k2, k3⟩, A, c, l, o1, o2⟩ := r
  dsimp only at hfew hfl hN hall hnames hlen hop ⊢
  refine Spec.of 65 Try.func10 rfl Try.ntmps10 [(0, _), (1, _)] rfl rfl ?_
  intro cx ρ hr h0
  have hfr := hr.files
  dsimp only at hfr
  have hp : RfPt b ⟨bu, ⟨⟨args, input, short, random, clock, ⟨Af, cf, xf⟩⟩, k1, k2, k3⟩, A, c, l, o1, o2⟩ = Pt b (.cells #[.pointer (some ⟨bu, 0, none⟩), .slice A l.length c, o1.v, o2.v] 60) := rfl
  have hq : RfOpen ⟨bu, ⟨⟨args, input, short, random, clock, ⟨Af, cf, xf⟩⟩, k1, k2, k3⟩, A, c, l, o1, o2⟩ = OwnS 74 3 A l.length c (l.flatMap openC) := rfl
  have hu : RefPt bu ⟨⟨args, input, short, random, clock, ⟨Af, cf, xf⟩⟩, k1, k2, k3⟩ = Pt bu (.cells #[args.v, input.v, short.v, random.v, clock.v, .slice Af xf.length cf, .int .i64 k1, .int .i64 k2, .int .i64 k3] 55) := rfl
  have hix := fun i f (h : xf[i]? = some f) => name_ix (nm := str name) hnames h
  have hfind : p.all.find? (fun x => x.1 == str name) = (xf[xf.findIdx fun f => str f.name == str name]?).map FileG.p := by
    rw [hall, List.find?_map, ← List.find?_eq_getElem?_findIdx]; rfl
  obtain ⟨m, hm⟩ : ∃ m, (xf.findIdx fun f => str f.name == str name) = m := ⟨_, rfl⟩
  have hml : m ≤ xf.length := by rw [← hm]; exact List.findIdx_le_length
  simp only [hm] at hix hfind
  rw [hp, hu]
  refine Cd.seq fun K1 hK1 => ?_
  refine Cd.plain [(0, false)] rfl rfl ?_
  refine Jp.y 4 rfl (want_all rfl) rfl rfl Kp.true (Y.assign rfl rfl) ?_
  refine Jp.done hK1 ?_
  refine Cd.seq fun K2 hK2 => ?_
  refine Cd.plain [(0, false)] rfl rfl ?_
  refine Jp.y 5 rfl (want_all rfl) rfl rfl Kp.true (Y.assign rfl rfl) ?_
  refine Jp.done hK2 ?_
  refine Cd.seq fun K3 hK3 => ?_
  refine Cd.seq fun K4 hK4 => ?_
  refine Cd.plain [(0, false)] rfl rfl ?_
  refine Jp.y 6 rfl (want_all rfl) rfl rfl Kp.true (Y.assign rfl rfl) ?_
  refine Jp.done hK4 ?_
  refine Cd.block ?_
  refine Cd.slot 5 rfl (show _ = Value.int .i64 (if m < 0 then (m : Int) else -1) by rfl) ?_
  refine Cd.loopK (G := Nat) (fun i => i ≤ xf.length) (fun i => xf.length - i) (fun _ => _) (fun i => [(5, .int .i64 (if m < i then (m : Int) else -1)), (6, .int .i64 (i : Int))]) [(0, _), (1, _)] (fun i => []) [(0, _), (1, _), (2, _)] 0 (Nat.zero_le _) rfl ⟨rfl, rfl, trivial⟩ ⟨rfl, rfl, trivial⟩ trivial ⟨rfl, rfl, rfl, trivial⟩ (fun g KLa hok hLa => ?_)
  obtain ⟨i, hi⟩ : ∃ i, i = g := ⟨_, rfl⟩
  rw [← hi] at hok ⊢
  refine Cd.seq fun K5 hK5 => ?_
  refine Cd.seq fun K6 hK6 => ?_
  refine Cd.plain [(0, false), (1, false), (2, false), (3, false), (4, false), (5, false), (6, false), (7, false), (8, false), (9, false), (10, false)] rfl rfl ?_
  refine Jp.y 8 rfl (want_all rfl) rfl rfl Kp.true (Y.move rfl rfl) ?_
  refine Jp.y 9 rfl (want_all rfl) rfl rfl Kp.true (Y.move rfl rfl) ?_
  refine Jp.y 10 rfl (want_all rfl) rfl rfl Kp.true (Y.nilCheck rfl rfl) ?_
  refine Jp.y 11 rfl (want_all rfl) rfl rfl Kp.true (by first | exact Y.fieldAddrP rfl rfl Try.underlying60 rfl Try.sizeOf56 (by decide) (show _ + 0 = _ from rfl) | exact Y.fieldAddr rfl rfl Try.underlying60 rfl Try.sizeOf56 (by decide)) ?_
  refine Jp.y 12 rfl (want_all rfl) rfl rfl Kp.true (by first | exact Y.loadO 0 rfl Try.isAgg56 rfl rfl rfl | exact Y.loadO 1 rfl Try.isAgg56 rfl rfl rfl) ?_
  refine Jp.y 13 rfl (want_all rfl) rfl rfl Kp.true (Y.nilCheck rfl rfl) ?_
  refine Jp.y 14 rfl (want_all rfl) rfl rfl Kp.true (by first | exact Y.fieldAddrP rfl rfl Try.underlying55 rfl Try.sizeOf38 (by decide) (show _ + 0 = _ from rfl) | exact Y.fieldAddr rfl rfl Try.underlying55 rfl Try.sizeOf38 (by decide)) ?_
  refine Jp.y 15 rfl (want_all rfl) rfl rfl Kp.true (by first | exact Y.fieldAddrP rfl rfl Try.underlying38 rfl Try.sizeOf36 (by decide) (show _ + 5 = _ from rfl) | exact Y.fieldAddr rfl rfl Try.underlying38 rfl Try.sizeOf36 (by decide)) ?_
  refine Jp.y 16 rfl (want_all rfl) rfl rfl Kp.true (by first | exact Y.loadO 0 rfl Try.isAgg36 rfl rfl rfl | exact Y.loadO 1 rfl Try.isAgg36 rfl rfl rfl) ?_
  refine Jp.y 17 rfl (want_all rfl) rfl rfl Kp.true (Y.lenslice rfl Try.underlying36 rfl) ?_
  refine Jp.y 18 rfl (want_all rfl) rfl rfl Kp.true (Y.lss rfl rfl rfl) ?_
  refine Jp.done hK6 ?_
  refine Cd.cond rfl (fun ga => ?_) (fun ga => ?_)
  · have hil : i < xf.length := by simp at ga; omega
    have hx : xf[i]? = some xf[i] := List.getElem?_eq_getElem hil
    have hxi := hix i _ hx
    obtain ⟨ad, rfl⟩ := hfr.1.some (show 0 < xf.length * 2 by omega)
    have hil2 : i < (Sl.mk (some ad) cf xf).xs.length := hil
    have hc0 : cellH ρ ((ad.add (i * 2)).add 0) = some (.string xf[i].name) := hfr.at rfl hx 0 _ rfl
    refine Cd.skip hK5 ?_
    refine Cd.seq fun K7 hK7 => ?_
    refine Cd.block ?_
    refine Cd.seq fun K8 hK8 => ?_
    refine Cd.plain [(0, false), (1, false), (2, false), (3, false), (4, false), (5, false), (6, false), (7, false), (8, false), (9, false), (10, false), (11, false), (12, false), (13, false)] rfl rfl ?_
    refine Jp.y 21 rfl (want_all rfl) rfl rfl Kp.true (Y.move rfl rfl) ?_
    refine Jp.y 22 rfl (want_all rfl) rfl rfl Kp.true (Y.nilCheck rfl rfl) ?_
    refine Jp.y 23 rfl (want_all rfl) rfl rfl Kp.true (by first | exact Y.fieldAddrP rfl rfl Try.underlying60 rfl Try.sizeOf56 (by decide) (show _ + 0 = _ from rfl) | exact Y.fieldAddr rfl rfl Try.underlying60 rfl Try.sizeOf56 (by decide)) ?_
    refine Jp.y 24 rfl (want_all rfl) rfl rfl Kp.true (by first | exact Y.loadO 0 rfl Try.isAgg56 rfl rfl rfl | exact Y.loadO 1 rfl Try.isAgg56 rfl rfl rfl | exact Y.loadR rfl Try.isAgg56 rfl hc0) ?_
    refine Jp.y 25 rfl (want_all rfl) rfl rfl Kp.true (Y.nilCheck rfl rfl) ?_
    refine Jp.y 26 rfl (want_all rfl) rfl rfl Kp.true (by first | exact Y.fieldAddrP rfl rfl Try.underlying55 rfl Try.sizeOf38 (by decide) (show _ + 0 = _ from rfl) | exact Y.fieldAddr rfl rfl Try.underlying55 rfl Try.sizeOf38 (by decide)) ?_
    refine Jp.y 27 rfl (want_all rfl) rfl rfl Kp.true (by first | exact Y.fieldAddrP rfl rfl Try.underlying38 rfl Try.sizeOf36 (by decide) (show _ + 5 = _ from rfl) | exact Y.fieldAddr rfl rfl Try.underlying38 rfl Try.sizeOf36 (by decide)) ?_
    refine Jp.y 28 rfl (want_all rfl) rfl rfl Kp.true (by first | exact Y.loadO 0 rfl Try.isAgg36 rfl rfl rfl | exact Y.loadO 1 rfl Try.isAgg36 rfl rfl rfl | exact Y.loadR rfl Try.isAgg36 rfl hc0) ?_
    refine Jp.y 29 rfl (want_all rfl) rfl rfl Kp.true (Y.move rfl rfl) ?_
    refine Jp.y 30 rfl (want_all rfl) rfl rfl Kp.true (Y.indexAddr (q := i * 2) rfl rfl rfl Try.underlying36 Try.sizeOf75 (by omega) (by omega) (by omega)) ?_
    refine Jp.y 31 rfl (want_all rfl) rfl rfl Kp.true (by first | exact Y.fieldAddrP rfl rfl Try.underlying75 rfl Try.sizeOf9 (by decide) (show _ + 0 = _ from rfl) | exact Y.fieldAddr rfl rfl Try.underlying75 rfl Try.sizeOf9 (by decide)) ?_
    refine Jp.y 32 rfl (want_all rfl) rfl rfl Kp.true (by first | exact Y.loadO 0 rfl Try.isAgg9 rfl rfl rfl | exact Y.loadO 1 rfl Try.isAgg9 rfl rfl rfl | exact Y.loadR rfl Try.isAgg9 rfl hc0) ?_
    refine Jp.y 33 rfl (want_all rfl) rfl rfl Kp.true (Y.move rfl rfl) ?_
    refine Jp.y 34 rfl (want_all rfl) rfl rfl Kp.true (Y.streql rfl rfl rfl) ?_
    refine Jp.done hK8 ?_
    refine Cd.cond rfl (fun gb => ?_) (fun gb => ?_)
    · have him : i = m := hxi.1 gb
      refine Cd.plain [(0, false), (1, false)] rfl rfl ?_
      refine Jp.y 35 rfl (want_all rfl) rfl rfl Kp.true (Y.move rfl rfl) ?_
      refine Jp.y 5 rfl (want_all rfl) rfl rfl Kp.true (Y.assign rfl rfl) ?_
      refine Jp.over rfl hK7 ?_
      refine Cd.plain [(0, false), (1, false), (2, false)] rfl rfl ?_
      refine Jp.y 19 rfl (want_all rfl) rfl rfl Kp.true (Y.move rfl rfl) ?_
      refine Jp.y 20 rfl (want_all rfl) rfl rfl Kp.true (Y.add_ rfl rfl rfl (by first | exact wrap_i64 (by omega) (by omega) | rfl)) ?_
      refine Jp.y 6 rfl (want_all rfl) rfl rfl Kp.true (Y.assign rfl rfl) ?_
      rw [show (Value.int IntKind.i64 (i : Int)) = Value.int .i64 (if m < i + 1 then (m : Int) else -1) from congrArg (Value.int .i64) (by rw [if_pos (by omega), him]), show (i : Int) + 1 = ((i + 1 : Nat) : Int) by omega]
      refine Jp.again hLa (i + 1) (by omega) (by omega) rfl ⟨rfl, rfl, rfl, rfl, trivial⟩ ⟨rfl, rfl, rfl, trivial⟩
    · have him : i ≠ m := fun e => by
        have := hxi.2 e
        rw [this] at gb; cases gb
      refine Cd.over rfl hK7 ?_
      refine Cd.plain [(0, false), (1, false), (2, false)] rfl rfl ?_
      refine Jp.y 19 rfl (want_all rfl) rfl rfl Kp.true (Y.move rfl rfl) ?_
      refine Jp.y 20 rfl (want_all rfl) rfl rfl Kp.true (Y.add_ rfl rfl rfl (by first | exact wrap_i64 (by omega) (by omega) | rfl)) ?_
      refine Jp.y 6 rfl (want_all rfl) rfl rfl Kp.true (Y.assign rfl rfl) ?_
      have hsame : (if m < i then (m : Int) else -1) = (if m < i + 1 then (m : Int) else -1) := by split <;> split <;> omega
      rw [hsame, show (i : Int) + 1 = ((i + 1 : Nat) : Int) by omega]
      refine Jp.again hLa (i + 1) (by omega) (by omega) rfl ⟨rfl, rfl, rfl, rfl, trivial⟩ ⟨rfl, rfl, rfl, trivial⟩
  · have hil : i = xf.length := by have : ¬ i < xf.length := by simpa using ga
                                   omega
    rw [hil]
    refine Cd.exit rfl hK3 ?_
    refine Cd.seq fun K9 hK9 => ?_
    refine Cd.seq fun K10 hK10 => ?_
    refine Cd.plain [(0, false), (1, false)] rfl rfl ?_
    refine Jp.y 36 rfl (want_all rfl) rfl rfl Kp.true (Y.move rfl rfl) ?_
    refine Jp.y 37 rfl (want_all rfl) rfl rfl Kp.true (Y.lss rfl rfl rfl) ?_
    refine Jp.done hK10 ?_
    refine Cd.cond rfl (fun g1 => ?_) (fun g1 => ?_)
    · have hmx : m = xf.length := by
        simp only [decide_eq_true_eq] at g1
        by_cases h : m < xf.length
        · rw [if_pos h] at g1; omega
        · omega
      have hV : openFP p (str name) = (-2, p) := openP_none (by rw [hfind, List.getElem?_eq_none (by omega)]; rfl)
      refine Cd.seq fun K11 hK11 => ?_
      refine Cd.plain [(0, false)] rfl rfl ?_
      refine Jp.y 4 rfl (want_all rfl) rfl rfl Kp.true (Y.assign rfl rfl) ?_
      refine Jp.done hK11 ?_
      rw [← hp, ← hu]
      refine Cd.ret [(0, _), (1, _), (2, _)] rfl (res1 rfl rfl) ⟨rfl, rfl, rfl, trivial⟩ ⟨rfl, by rw [hV], A, c, l, by rw [hV]; exact hrel, rfl⟩
    · have hmx : m < xf.length := by
        simp only [decide_eq_false_iff_not] at g1
        by_cases h : m < xf.length
        · exact h
        · rw [if_neg h] at g1; omega
      rw [if_pos hmx]
      have hxm : xf[m]? = some xf[m] := List.getElem?_eq_getElem hmx
      have hfm : p.all.find? (fun x => x.1 == str name) = some xf[m].p := by rw [hfind, hxm]; rfl
      refine Cd.skip hK9 ?_
      refine Cd.seq fun K12 hK12 => ?_
      refine Cd.seq fun K13 hK13 => ?_
      refine Cd.plain [(0, false), (1, false), (2, false), (3, false), (4, false), (5, false)] rfl rfl ?_
      refine Jp.y 38 rfl (want_all rfl) rfl rfl Kp.true (Y.move rfl rfl) ?_
      refine Jp.y 39 rfl (want_all rfl) rfl rfl Kp.true (Y.nilCheck rfl rfl) ?_
      refine Jp.y 40 rfl (want_all rfl) rfl rfl Kp.true (by first | exact Y.fieldAddrP rfl rfl Try.underlying60 rfl Try.sizeOf57 (by decide) (show _ + 1 = _ from rfl) | exact Y.fieldAddr rfl rfl Try.underlying60 rfl Try.sizeOf57 (by decide)) ?_
      refine Jp.y 41 rfl (want_all rfl) rfl rfl Kp.true (by first | exact Y.loadO 0 rfl Try.isAgg57 rfl rfl rfl | exact Y.loadO 1 rfl Try.isAgg57 rfl rfl rfl | exact Y.loadR rfl Try.isAgg57 rfl hc0) ?_
      refine Jp.y 42 rfl (want_all rfl) rfl rfl Kp.true (Y.lenslice rfl Try.underlying57 rfl) ?_
      refine Jp.y 43 rfl (want_all rfl) rfl rfl Kp.true (Y.geq rfl rfl rfl) ?_
      refine Jp.done hK13 ?_
      refine Cd.cond rfl (fun g2 => ?_) (fun g2 => ?_)
      · have h16 : 16 ≤ p.op.length := by simp at g2; omega
        have hV : openFP p (str name) = (-24, p) := openP_many hfm h16
        refine Cd.seq fun K14 hK14 => ?_
        refine Cd.plain [(0, false)] rfl rfl ?_
        refine Jp.y 4 rfl (want_all rfl) rfl rfl Kp.true (Y.assign rfl rfl) ?_
        refine Jp.done hK14 ?_
        rw [← hp, ← hu]
        refine Cd.ret [(0, _), (1, _), (2, _)] rfl (res1 rfl rfl) ⟨rfl, rfl, rfl, trivial⟩ ⟨rfl, by rw [hV], A, c, l, by rw [hV]; exact hrel, rfl⟩
      · have h16 : p.op.length < 16 := by simp at g2; omega
        have hV := openP_some hfm h16
        rw [← hp]
        refine Cd.skip hK12 ?_
        refine Cd.seq fun K15 hK15 => ?_
        refine Cd.plain [(0, false)] rfl rfl ?_
        refine Jp.y 7 rfl (want_all rfl) rfl rfl Kp.true (Y.assign rfl rfl) ?_
        refine Jp.done hK15 ?_
        refine Cd.seq fun K16 hK16 => ?_
        refine Cd.block ?_
        refine Cd.loopK (G := Nat) (fun k => ∀ j : Nat, j < k → (gget p.op (j : Int)).isSome) (fun k => 17 - k) (fun _ => _) (fun k => [(7, .int .i64 (k : Int))]) [(0, _), (5, _)] (fun k => []) [(0, _), (1, _), (2, _)] 0 (fun j h => absurd h (Nat.not_lt_zero _)) rfl ⟨rfl, trivial⟩ ⟨rfl, rfl, trivial⟩ trivial ⟨rfl, rfl, rfl, trivial⟩ (fun g KLd hok hLd => ?_)
        obtain ⟨k, hk⟩ : ∃ k, k = g := ⟨_, rfl⟩
        rw [← hk] at hok ⊢
        have hkl : k ≤ p.op.length := by
          have := range_keys k (p.op.map (·.1)) fun j hj => Decidable.byContradiction fun hc => by have := hok j hj; rw [gget_none.2 hc] at this; cases this
          simpa using this
        have hNk := hN k
        refine Cd.seq fun K17 hK17 => ?_
        refine Cd.seq fun K18 hK18 => ?_
        refine Cd.plain [(0, false), (1, false), (2, false), (3, false)] rfl rfl ?_
        refine Jp.y 44 rfl (want_all rfl) rfl rfl Kp.true (Y.move rfl rfl) ?_
        refine Jp.y 45 rfl (want_all rfl) rfl rfl Kp.true (Y.move rfl rfl) ?_
        refine Jp.call [0, 2] [0, 2] (hF k) 46 rfl (want_all rfl) rfl rfl (Runs.fn rfl Try.call29 rfl) (by decide) (by decide) rfl trivial ?_
        rintro v1 ρ1 L1 ⟨rfl, rfl, rfl⟩
        refine ⟨rfl, fun hle1 => ⟨Kp.true, ?_⟩⟩
        dsimp only
        obtain ⟨z, hz⟩ : ∃ z, fdI l (k : Int) = z := ⟨_, rfl⟩
        rw [hz] at hNk ⊢
        refine Jp.y 47 rfl (want_all rfl) rfl rfl Kp.true (Y.geq rfl rfl rfl) ?_
        refine Jp.done hK18 ?_
        refine Cd.cond rfl (fun g3 => ?_) (fun g3 => ?_)
        · have hsm : (gget p.op (k : Int)).isSome := by
            rw [Option.isSome_iff_ne_none]
            intro hc
            have := hNk.2 hc
            simp at g3; omega
          have hnext : ∀ j : Nat, j < k + 1 → (gget p.op (j : Int)).isSome := fun j hj => (Nat.lt_or_ge j k).elim (hok j) fun h => by rw [show j = k by omega]; exact hsm
          refine Cd.skip hK17 ?_
          refine Cd.block ?_
          refine Cd.plain [(0, false), (1, false), (2, false)] rfl rfl ?_
          refine Jp.y 48 rfl (want_all rfl) rfl rfl Kp.true (Y.move rfl rfl) ?_
          refine Jp.y 49 rfl (want_all rfl) rfl rfl Kp.true (Y.add_ rfl rfl rfl (by first | exact wrap_i64 (by omega) (by omega) | rfl)) ?_
          refine Jp.y 7 rfl (want_all rfl) rfl rfl Kp.true (Y.assign rfl rfl) ?_
          rw [show (k : Int) + 1 = ((k + 1 : Nat) : Int) by omega]
          refine JpQ.again rfl hLd (k + 1) hnext (by omega) rfl ⟨rfl, rfl, rfl, trivial⟩ ⟨rfl, rfl, rfl, trivial⟩
        · have hno : gget p.op (k : Int) = none := hNk.1 (by simp at g3; omega)
          have hle := leastP_eq hok hno
          rw [hle] at hV
          have hR := fun A' c' => hop k m xf[m] hno hxm (by omega) A' c'
          have hrows := openC_rows l
          rw [hp, hq]
          refine Cd.freeze (i := 2) rfl (OwnS.up _ _ _ _ _ _) fun ρ7 hle7 hA7 => ?_
          have hR7 := hA7.rd
          have hroomc := hA7.rd.2.1.1
          have hlen1 : (l ++ [((k : Int), (m : Int), 0)]).length = l.length + 1 := by simp
          refine Cd.exit rfl hK16 ?_
          refine Cd.seq fun K19 hK19 => ?_
          refine Cd.plain [(0, false), (1, false), (2, false), (3, false), (4, false), (5, false), (6, false), (7, false), (8, false), (9, false), (10, false), (11, false), (12, false), (13, false), (14, false)] rfl rfl ?_
          refine Jp.y 50 rfl (want_all rfl) rfl rfl Kp.true (Y.move rfl rfl) ?_
          refine Jp.lit 51 3 [] [] rfl (want_all rfl) rfl rfl rfl rfl Try.underlying57 Try.sizeOf74 Try.zeroValue74 rfl rfl rfl rfl rfl fun b2 => ⟨Kp.true, ?_⟩
          refine Jp.y 52 rfl (want_all rfl) rfl rfl Kp.true (Y.move rfl rfl) ?_
          refine Jp.y 53 rfl (want_all rfl) rfl rfl Kp.true (Y.nilCheck rfl rfl) ?_
          refine Jp.y 54 rfl (want_all rfl) rfl rfl Kp.true (by first | exact Y.fieldAddrP rfl rfl Try.underlying60 rfl Try.sizeOf57 (by decide) (show _ + 1 = _ from rfl) | exact Y.fieldAddr rfl rfl Try.underlying60 rfl Try.sizeOf57 (by decide)) ?_
          refine Jp.y 55 rfl (want_all rfl) rfl rfl Kp.true (by first | exact Y.loadO 0 rfl Try.isAgg57 rfl rfl rfl | exact Y.loadO 1 rfl Try.isAgg57 rfl rfl rfl | exact Y.loadR rfl Try.isAgg57 rfl hc0) ?_
          refine Jp.append 56 3 rfl (want_all rfl) rfl rfl rfl Try.underlying57 Try.underlying57 (.inl ⟨_, rfl⟩) Try.sizeOf74 Try.typeInfo74 Try.zeroValue74 rfl (by decide) rfl rfl rfl (Src.rd hR7) opens_one (l.length) ((l.flatMap openC)) (by first | omega | simp) (by simp) (by simp only [Try.t74]; omega) fun A8 c8 => ⟨Kp.true, ?_⟩
          refine Jp.y 57 rfl (want_all rfl) rfl rfl Kp.true (Y.move rfl rfl) ?_
          refine Jp.y 58 rfl (want_all rfl) rfl rfl Kp.true (Y.move rfl rfl) ?_
          refine Jp.y 59 rfl (want_all rfl) rfl rfl Kp.true (Y.struct [(0, _), (1, _), (2, _)] (openC ((k : Int), (m : Int), 0)) rfl rfl places74 Try.zeroValue74 rfl) ?_
          refine Jp.lit 60 4 [(0, _)] (openC ((k : Int), (m : Int), 0)) rfl (want_all rfl) rfl rfl rfl rfl Try.underlying57 Try.sizeOf74 Try.zeroValue74 rfl rfl (fill_one' rfl) rfl rfl fun b3 => ⟨Kp.true, ?_⟩
          refine Jp.append 61 3 rfl (want_all rfl) rfl rfl rfl Try.underlying57 Try.underlying57 (.inl ⟨_, rfl⟩) Try.sizeOf74 Try.typeInfo74 Try.zeroValue74 rfl (by decide) rfl rfl rfl (Src.own 4 rfl) rfl ((l ++ [((k : Int), (m : Int), 0)]).length) (((l ++ [((k : Int), (m : Int), 0)]).flatMap openC)) (by first | omega | simp) (by rw [List.flatMap_append]; rfl) (by simp only [Try.t74]; omega) fun A9 c9 => ⟨Kp.true, ?_⟩
          refine Jp.y 62 rfl (want_all rfl) rfl rfl Kp.true (Y.nilCheck rfl rfl) ?_
          refine Jp.y 63 rfl (want_all rfl) rfl rfl Kp.true (by first | exact Y.fieldAddrP rfl rfl Try.underlying60 rfl Try.sizeOf57 (by decide) (show _ + 1 = _ from rfl) | exact Y.fieldAddr rfl rfl Try.underlying60 rfl Try.sizeOf57 (by decide)) ?_
          first | refine Jp.store 0 rfl (want_all rfl) rfl rfl Try.sizeOf57 rfl rfl rfl rfl rfl rfl Kp.true ?_ | refine Jp.store 1 rfl (want_all rfl) rfl rfl Try.sizeOf57 rfl rfl rfl rfl rfl rfl Kp.true ?_
          refine Jp.done hK19 ?_
          refine Cd.seq fun K20 hK20 => ?_
          refine Cd.plain [(0, false), (1, false)] rfl rfl ?_
          refine Jp.y 64 rfl (want_all rfl) rfl rfl Kp.true (Y.move rfl rfl) ?_
          refine Jp.y 4 rfl (want_all rfl) rfl rfl Kp.true (Y.assign rfl rfl) ?_
          refine Jp.done hK20 ?_
          refine Cd.lower hle7 (by rw [h0]; exact Hp.le_refl _) ?_
          refine Cd.move 2 3 (by decide) rfl rfl (OwnS.up _ _ _ _ _ _) ?_
          refine Cd.ret [(0, _), (1, _), (2, _)] rfl (res1 rfl rfl) ⟨rfl, rfl, rfl, trivial⟩ ⟨rfl, by rw [hV], A9, c9, l ++ [((k : Int), (m : Int), 0)], by rw [hV]; exact hR A9 c9, rfl⟩
end Go.Proofs.Ytogkncmhonomdaa
