import Derived.Test.YtgmhijlcdadaeaaZRefB
set_option linter.unusedVariables false
set_option linter.unusedSimpArgs false
set_option maxRecDepth 100000
namespace Go.Proofs.Ytgmhijlcdadaeaa
open Go
section
variable {P : Program} {n : Nat} {cx : Cx} {ρ ρs : Hp} {E : Env} {L : Own} {ops : Array Oper} {Q : Exit → Act → World → Prop} {S' : World → Prop} {π : List (Nat × Bool)}
theorem Cd.down {d : Code} (hle : Hp.le ρs ρ) (h0 : Hp.le cx.r0 ρs) (h : Cd P Q n cx ρs E L d) : Cd P Q n cx ρ E L d := fun a w ha hs => h a w ha (hs.down hle h0)
theorem Jp.down (hle : Hp.le ρs ρ) (h0 : Hp.le cx.r0 ρs) (h : Jp P ops Q S' n cx π ρs E L) : Jp P ops Q S' n cx π ρ E L := fun a w ha hs => h a w ha (hs.down hle h0)
end
theorem gLook_set : ∀ {g : List (Nat × Nat)} {f k n n' : Nat}, (g.map (·.1)).Nodup → g[f]? = some (k, n) → ∀ x, gLook (g.set f (k, n')) x = if x = k then n' else gLook g x
  | [], _, _, _, _, _, h, _ => by simp at h
  | y :: l, 0, k, n, n', hn, h, x => by
    simp only [List.getElem?_cons_zero, Option.some.injEq] at h
    subst h
    rw [List.set_cons_zero, gLook, gLook]
    by_cases e : k = x
    · simp [e]
    · rw [if_neg e, if_neg e, if_neg (Ne.symm e)]
  | (y, m) :: l, f + 1, k, n, n', hn, h, x => by
    rw [List.map_cons, List.nodup_cons] at hn
    rw [List.getElem?_cons_succ] at h
    have ih := gLook_set (n' := n') hn.2 h x
    rw [List.set_cons_succ, gLook, gLook, ih]
    have hne : y ≠ k := fun e => hn.1 (List.mem_map.2 ⟨(k, n), List.mem_of_getElem? h, e.symm⟩)
    by_cases e : y = x
    · rw [if_pos e, if_pos e, if_neg (by omega)]
    · rw [if_neg e, if_neg e]
theorem gLook_app : ∀ {g : List (Nat × Nat)} {k n : Nat}, k ∉ g.map (·.1) → ∀ x, gLook (g ++ [(k, n)]) x = if x = k then n else gLook g x
  | [], k, n, _, x => by
    show (if k = x then n else 0) = _
    by_cases e : x = k
    · rw [if_pos e, if_pos e.symm]
    · rw [if_neg e, if_neg (Ne.symm e)]; rfl
  | (y, m) :: l, k, n, h, x => by
    rw [List.map_cons, List.mem_cons, not_or] at h
    rw [List.cons_append, gLook, gLook, gLook_app h.2 x]
    have hy : k ≠ y := h.1
    by_cases e : y = x
    · rw [if_pos e, if_pos e, if_neg (by omega)]
    · rw [if_neg e, if_neg e]
theorem gLook_none : ∀ {g : List (Nat × Nat)} {k : Nat}, k ∉ g.map (·.1) → gLook g k = 0
  | [], k, _ => rfl
  | (y, m) :: l, k, h => by
    rw [List.map_cons, List.mem_cons, not_or] at h
    have hy : k ≠ y := h.1
    rw [gLook, if_neg (Ne.symm hy), gLook_none h.2]
theorem GenF.set {G : Nat → Nat} {g : List (Nat × Nat)} (h : GenF G g) {f k n : Nat} (hx : g[f]? = some (k, n)) : GenF (Ytgmhijlcdadaeaa.bump G k) (g.set f (k, (n + 1) % 4294967296)) := by
  have hG : G k = n := by
    have h1 := h.gens k
    have h2 := gLook_set (n' := n) h.once hx k
    rw [if_pos rfl] at h2
    have h3 : g.set f (k, n) = g := by
      obtain ⟨h4, h5⟩ := List.getElem?_eq_some_iff.1 hx
      rw [← h5]; exact List.set_getElem_self h4
    rw [h3] at h2
    rw [h1, h2]
  refine ⟨fun x => ?_, ?_, fun y hy => ?_⟩
  · rw [gLook_set h.once hx x, Ytgmhijlcdadaeaa.bump, hG, h.gens x]
  · have : (g.set f (k, (n + 1) % 4294967296)).map (·.1) = g.map (·.1) := by
      rw [List.map_set]
      obtain ⟨h4, h5⟩ := List.getElem?_eq_some_iff.1 hx
      have : (g.map (·.1))[f]'(by rw [List.length_map]; exact h4) = k := by rw [List.getElem_map, h5]
      show (g.map (·.1)).set f k = _
      rw [← this]; exact List.set_getElem_self _
    rw [this]; exact h.once
  · rcases List.mem_or_eq_of_mem_set hy with h1 | h1
    · exact h.rng y h1
    · have := h.rng _ (List.mem_of_getElem? hx)
      rw [h1]
      dsimp only at this ⊢
      omega
theorem GenF.app {G : Nat → Nat} {g : List (Nat × Nat)} (h : GenF G g) {k : Nat} (hk : k ∉ g.map (·.1)) (ha : k % 256 = 0) (hl : k < 4294967296) : GenF (Ytgmhijlcdadaeaa.bump G k) (g ++ [(k, 1)]) := by
  have hG : G k = 0 := by rw [h.gens k, gLook_none hk]
  refine ⟨fun x => ?_, ?_, fun y hy => ?_⟩
  · rw [gLook_app hk x, Ytgmhijlcdadaeaa.bump, hG, h.gens x]
  · rw [List.map_append, List.nodup_append]
    refine ⟨h.once, by simp, ?_⟩
    intro a ha' b hb e
    simp at hb
    subst e hb
    exact hk ha'
  · rcases List.mem_append.1 hy with h1 | h1
    · exact h.rng y h1
    · simp at h1
      rw [h1]
      dsimp only
      omega
theorem gens_one {g : List (Nat × Nat)} : (g.flatMap refGen).all one = true := by
  rw [List.all_eq_true]
  intro v hv
  obtain ⟨x, _, hx⟩ := List.mem_flatMap.1 hv
  simp [refGen] at hx
  rcases hx with rfl | rfl <;> rfl
theorem pgs_one {l : List (Nat × Pg)} : (l.flatMap refPg).all one = true := by
  rw [List.all_eq_true]
  intro v hv
  obtain ⟨x, _, hx⟩ := List.mem_flatMap.1 hv
  rcases List.mem_cons.1 hx with rfl | hx
  · rfl
  · rcases List.mem_cons.1 hx with rfl | hx
    · rfl
    · obtain ⟨y, _, rfl⟩ := List.mem_map.1 hx; rfl
theorem refBump_spec (b : Nat) (M : MemG) (a : Nat) (ha : a < 4294967296) : Spec Try.prog 93 #[.pointer (some ⟨b, 0, none⟩), .int .u32 a] (fun _ => True) [(0, RefO b M)]
    (fun ρ ρ' v L => ρ' = ρ ∧ v = .tuple #[] ∧ L = [(0, RefO b { M with gens := Ytgmhijlcdadaeaa.bump M.gens (baseN a) })]) := by
  refine Spec.of 53 Try.func93 rfl Try.ntmps93 [(0, _), (1, _)] rfl rfl ?_
  intro cx ρ hr h0
  refine Cd.refOpen 0 1 2 (by decide) rfl fun A c B d gl hf => ?_
  have hmany := hf.gen.few
  have hrng := hf.gen.rng
  have hgen := hf.gen
  dsimp only at hmany hrng hgen
  have hrows := gRows gl
  obtain ⟨k, hk⟩ : ∃ k, baseN a = k := ⟨_, rfl⟩
  have hkl := base_le a
  have hka : k % 256 = 0 := by rw [← hk]; unfold baseN; omega
  rw [hk] at hkl ⊢
  have hstep := fun i => gFind_step gl k i
  have hfl : (gl.findIdx fun x => x.1 == k) ≤ gl.length := List.findIdx_le_length
  have hno : (gl.findIdx fun x => x.1 == k) = gl.length → k ∉ gl.map (·.1) := fun e hm => by
    obtain ⟨y, hy, e2⟩ := List.mem_map.1 hm
    have := List.findIdx_lt_length_of_exists (p := fun x : Nat × Nat => x.1 == k) (xs := gl) ⟨y, hy, by simpa using e2⟩
    omega
  obtain ⟨f, hfn⟩ : ∃ f, (gl.findIdx fun x => x.1 == k) = f := ⟨_, rfl⟩
  rw [hfn] at hstep hfl hno
  refine Cd.seq fun K1 hK1 => ?_
  refine Cd.plain [(0, false), (1, false), (2, false), (3, false), (4, false)] rfl rfl ?_
  refine Jp.y 6 rfl (want_all rfl) rfl rfl Kp.true (Y.move rfl rfl) ?_
  refine Jp.y 7 rfl (want_all rfl) rfl rfl Kp.true (Y.move rfl rfl) ?_
  refine Jp.y 8 rfl (want_all rfl) rfl rfl Kp.true (by first | exact Y.remN rfl rfl rfl (by omega) (by omega) | exact Y.rem rfl rfl rfl (by first | decide | omega)) ?_
  refine Jp.y 9 rfl (want_all rfl) rfl rfl Kp.true (Y.sub_ rfl rfl rfl (by first | exact wrap_u32 (by omega) (by omega) | rfl)) ?_
  refine Jp.y 4 rfl (want_all rfl) rfl rfl Kp.true (Y.assign rfl rfl) ?_
  refine Jp.done hK1 ?_
  refine Cd.seq fun K2 hK2 => ?_
  refine Cd.seq fun K3 hK3 => ?_
  refine Cd.plain [(0, false)] rfl rfl ?_
  refine Jp.y 5 rfl (want_all rfl) rfl rfl Kp.true (Y.assign rfl rfl) ?_
  refine Jp.done hK3 ?_
  refine Cd.block ?_
  refine Cd.slot 4 rfl (show _ = Value.int .u32 (k : Int) from congrArg (Value.int .u32) (by rw [← hk]; unfold baseN; omega)) ?_
  refine Cd.loopK (G := Nat) (fun i => i ≤ f) (fun i => f - i) (fun _ => _) (fun i => [(5, .int .i64 (i : Int))]) [(0, _), (4, _)] (fun i => []) [(0, _), (1, _), (2, _)] 0 (Nat.zero_le _) rfl ⟨rfl, trivial⟩ ⟨rfl, rfl, trivial⟩ trivial ⟨rfl, rfl, rfl, trivial⟩ (fun g KLa hok hLa => ?_)
  obtain ⟨i, hi⟩ : ∃ i, i = g := ⟨_, rfl⟩
  rw [← hi] at hok ⊢
  refine Cd.seq fun K4 hK4 => ?_
  refine Cd.seq fun K5 hK5 => ?_
  refine Cd.plain [(0, false), (1, false), (2, false), (3, false), (4, false), (5, false), (6, false)] rfl rfl ?_
  refine Jp.y 10 rfl (want_all rfl) rfl rfl Kp.true (Y.move rfl rfl) ?_
  refine Jp.y 11 rfl (want_all rfl) rfl rfl Kp.true (Y.move rfl rfl) ?_
  refine Jp.y 12 rfl (want_all rfl) rfl rfl Kp.true (Y.nilCheck rfl rfl) ?_
  refine Jp.y 13 rfl (want_all rfl) rfl rfl Kp.true (by first | exact Y.fieldAddrP rfl rfl Try.underlying88 rfl Try.sizeOf86 (by decide) (show _ + 2 = _ from rfl) | exact Y.fieldAddr rfl rfl Try.underlying88 rfl Try.sizeOf86 (by decide)) ?_
  refine Jp.y 14 rfl (want_all rfl) rfl rfl Kp.true (Y.loadO 0 rfl Try.isAgg86 rfl rfl rfl) ?_
  refine Jp.y 15 rfl (want_all rfl) rfl rfl Kp.true (Y.lenslice rfl Try.underlying86 rfl) ?_
  refine Jp.y 16 rfl (want_all rfl) rfl rfl Kp.true (Y.lss rfl rfl rfl) ?_
  refine Jp.done hK5 ?_
  refine Cd.cond rfl (fun ga => ?_) (fun ga => ?_)
  · have hil : i < gl.length := by simp at ga; omega
    have hx : gl[i]? = some gl[i] := List.getElem?_eq_getElem hil
    obtain ⟨⟨yk, yn⟩, hy⟩ : ∃ y, y = gl[i] := ⟨_, rfl⟩
    rw [← hy] at hx
    have hst := hstep i (by omega) _ hx
    have hyl := hrng _ (List.mem_of_getElem? hx)
    dsimp only at hst hyl
    refine Cd.ownAt 2 rfl (show 0 < gl.length by omega) ?_
    rintro b1 rfl
    have c0 := OwnS.hasC (e := 159) (m := 2) (k := gl.length) (c := d) (ad := ⟨b1, 0, none⟩) (rs_get hrows hx (refGen_base (yk, yn)))
    have c1 := (OwnS.hasC (e := 159) (m := 2) (k := gl.length) (c := d) (ad := ⟨b1, 0, none⟩) (rs_get hrows hx (refGen_n (yk, yn)))).two
    refine Cd.skip hK4 ?_
    refine Cd.seq fun K6 hK6 => ?_
    refine Cd.block ?_
    refine Cd.seq fun K7 hK7 => ?_
    refine Cd.plain [(0, false), (1, false), (2, false), (3, false), (4, false), (5, false), (6, false), (7, false), (8, false), (9, false)] rfl rfl ?_
    refine Jp.y 19 rfl (want_all rfl) rfl rfl Kp.true (Y.move rfl rfl) ?_
    refine Jp.y 20 rfl (want_all rfl) rfl rfl Kp.true (Y.nilCheck rfl rfl) ?_
    refine Jp.y 21 rfl (want_all rfl) rfl rfl Kp.true (by first | exact Y.fieldAddrP rfl rfl Try.underlying88 rfl Try.sizeOf86 (by decide) (show _ + 2 = _ from rfl) | exact Y.fieldAddr rfl rfl Try.underlying88 rfl Try.sizeOf86 (by decide)) ?_
    refine Jp.y 22 rfl (want_all rfl) rfl rfl Kp.true (by first | exact Y.loadO 0 rfl Try.isAgg86 rfl rfl rfl | exact Y.loadC 2 rfl Try.isAgg86 rfl rfl c0 | exact Y.loadC 2 rfl Try.isAgg86 rfl rfl c1) ?_
    refine Jp.y 23 rfl (want_all rfl) rfl rfl Kp.true (Y.move rfl rfl) ?_
    refine Jp.y 24 rfl (want_all rfl) rfl rfl Kp.true (Y.indexAddr (q := i * 2) rfl rfl rfl Try.underlying86 Try.sizeOf159 (by omega) (by omega) (by omega)) ?_
    refine Jp.y 25 rfl (want_all rfl) rfl rfl Kp.true (by first | exact Y.fieldAddrP rfl rfl Try.underlying159 rfl Try.sizeOf25 (by decide) (show _ + 0 = _ from rfl) | exact Y.fieldAddr rfl rfl Try.underlying159 rfl Try.sizeOf25 (by decide)) ?_
    refine Jp.y 26 rfl (want_all rfl) rfl rfl Kp.true (by first | exact Y.loadO 0 rfl Try.isAgg25 rfl rfl rfl | exact Y.loadC 2 rfl Try.isAgg25 rfl rfl c0 | exact Y.loadC 2 rfl Try.isAgg25 rfl rfl c1) ?_
    refine Jp.y 27 rfl (want_all rfl) rfl rfl Kp.true (Y.move rfl rfl) ?_
    refine Jp.y 28 rfl (want_all rfl) rfl rfl Kp.true (Y.eql rfl rfl rfl) ?_
    refine Jp.done hK7 ?_
    refine Cd.cond rfl (fun gb => ?_) (fun gb => ?_)
    · have hib : yk = k := by simp at gb; omega
      rw [hib] at hx
      have hg2 := hgen.set hx
      obtain ⟨n', hn'⟩ : ∃ n', (yn + 1) % 4294967296 = n' := ⟨_, rfl⟩
      rw [hn'] at hg2
      obtain ⟨g2, hg2e⟩ : ∃ g2, gl.set i (k, n') = g2 := ⟨_, rfl⟩
      have hlen : g2.length = gl.length := by rw [← hg2e, List.length_set]
      have hset : (gl.flatMap refGen).set (i * 2 + 1) (.int .u32 (n' : Int)) = g2.flatMap refGen := by
        rw [← hg2e]
        exact rs_set hrows hx (by omega) rfl
      rw [hg2e] at hg2
      refine Cd.seq fun K8 hK8 => ?_
      refine Cd.plain [(0, false), (1, false), (2, false), (3, false), (4, false), (5, false), (6, false), (7, false), (8, false), (9, false), (10, false), (11, false)] rfl rfl ?_
      refine Jp.y 29 rfl (want_all rfl) rfl rfl Kp.true (Y.move rfl rfl) ?_
      refine Jp.y 30 rfl (want_all rfl) rfl rfl Kp.true (Y.nilCheck rfl rfl) ?_
      refine Jp.y 31 rfl (want_all rfl) rfl rfl Kp.true (by first | exact Y.fieldAddrP rfl rfl Try.underlying88 rfl Try.sizeOf86 (by decide) (show _ + 2 = _ from rfl) | exact Y.fieldAddr rfl rfl Try.underlying88 rfl Try.sizeOf86 (by decide)) ?_
      refine Jp.y 32 rfl (want_all rfl) rfl rfl Kp.true (by first | exact Y.loadO 0 rfl Try.isAgg86 rfl rfl rfl | exact Y.loadC 2 rfl Try.isAgg86 rfl rfl c0 | exact Y.loadC 2 rfl Try.isAgg86 rfl rfl c1) ?_
      refine Jp.y 33 rfl (want_all rfl) rfl rfl Kp.true (Y.move rfl rfl) ?_
      refine Jp.y 34 rfl (want_all rfl) rfl rfl Kp.true (Y.indexAddr (q := i * 2) rfl rfl rfl Try.underlying86 Try.sizeOf159 (by omega) (by omega) (by omega)) ?_
      refine Jp.y 35 rfl (want_all rfl) rfl rfl Kp.true (by first | exact Y.fieldAddrP rfl rfl Try.underlying159 rfl Try.sizeOf25 (by decide) (show _ + 1 = _ from rfl) | exact Y.fieldAddr rfl rfl Try.underlying159 rfl Try.sizeOf25 (by decide)) ?_
      refine Jp.y 36 rfl (want_all rfl) rfl rfl Kp.true (by first | exact Y.loadO 0 rfl Try.isAgg25 rfl rfl rfl | exact Y.loadC 2 rfl Try.isAgg25 rfl rfl c0 | exact Y.loadC 2 rfl Try.isAgg25 rfl rfl c1) ?_
      refine Jp.y 37 rfl (want_all rfl) rfl rfl Kp.true (Y.add_ rfl rfl rfl (by first | exact wrap_u32 (by omega) (by omega) | rfl)) ?_
      refine Jp.slot 37 rfl (show _ = Value.int .u32 (n' : Int) from congrArg (Value.int .u32) (by rw [← hn', ← wrap_u32m]; rfl)) ?_
      refine Jp.y 38 rfl (want_all rfl) rfl rfl Kp.true (Y.indexAddr (q := i * 2) rfl rfl rfl Try.underlying86 Try.sizeOf159 (by omega) (by omega) (by omega)) ?_
      refine Jp.slot 38 rfl (show _ = Value.pointer (some ⟨b1, i * 2, none⟩) by rw [add_mk, Nat.zero_add]) ?_
      refine Jp.y 39 rfl (want_all rfl) rfl rfl Kp.true (by first | exact Y.fieldAddrP rfl rfl Try.underlying159 rfl Try.sizeOf25 (by decide) (show _ + 1 = _ from rfl) | exact Y.fieldAddr rfl rfl Try.underlying159 rfl Try.sizeOf25 (by decide)) ?_
      refine Jp.storeS 2 (q := i * 2 + 1) rfl (want_all rfl) rfl rfl Try.sizeOf25 rfl rfl rfl rfl (by rw [add_mk, Nat.zero_add]) (by omega) (g2.flatMap refGen) hset Kp.true ?_
      rw [← hlen]
      refine Jp.done hK8 ?_
      refine Cd.refClose (b := b) (M := { M with gens := Ytgmhijlcdadaeaa.bump M.gens k }) (A := A) (c := c) (g := g2) 0 1 2 (by decide) ⟨hf.ok.bump k, hg2⟩ rfl rfl rfl ?_
      refine Cd.ret [(0, _)] rfl (res0 rfl) ⟨rfl, trivial⟩ ⟨rfl, rfl, rfl⟩
    · have hib : i ≠ f := fun e => by
        have := hst.2 e
        simp at gb; omega
      refine Cd.over rfl hK6 ?_
      refine Cd.plain [(0, false), (1, false), (2, false)] rfl rfl ?_
      refine Jp.y 17 rfl (want_all rfl) rfl rfl Kp.true (Y.move rfl rfl) ?_
      refine Jp.y 18 rfl (want_all rfl) rfl rfl Kp.true (Y.add_ rfl rfl rfl (by first | exact wrap_i64 (by omega) (by omega) | rfl)) ?_
      refine Jp.y 5 rfl (want_all rfl) rfl rfl Kp.true (Y.assign rfl rfl) ?_
      rw [show (i : Int) + 1 = ((i + 1 : Nat) : Int) by omega]
      refine Jp.again hLa (i + 1) (by omega) (by omega) rfl ⟨rfl, rfl, rfl, trivial⟩ ⟨rfl, rfl, rfl, trivial⟩
  · have hil : ¬ i < gl.length := by simpa using ga
    have hkn := hno (by omega)
    have hg2 := hgen.app hkn hka (by omega)
    have hfew2 := hg2.few
    rw [List.length_append, List.length_cons, List.length_nil] at hfew2
    refine Cd.freeze (i := 2) rfl (OwnS.up _ _ _ _ _ _) fun ρ7 hle7 hA7 => ?_
    have hR := hA7.rd
    have hroomc := hA7.rd.2.1.1
    have hlen : (gl ++ [(k, 1)]).length = gl.length + 1 := by simp
    refine Cd.exit rfl hK2 ?_
    refine Cd.plain [(0, false), (1, false), (2, false), (3, false), (4, false), (5, false), (6, false), (7, false), (8, false), (9, false), (10, false), (11, false), (12, false), (13, false)] rfl rfl ?_
    refine Jp.y 40 rfl (want_all rfl) rfl rfl Kp.true (Y.move rfl rfl) ?_
    refine Jp.lit 41 3 [] [] rfl (want_all rfl) rfl rfl rfl rfl Try.underlying86 Try.sizeOf159 Try.zeroValue159 rfl rfl rfl rfl rfl fun b2 => ⟨Kp.true, ?_⟩
    refine Jp.y 42 rfl (want_all rfl) rfl rfl Kp.true (Y.move rfl rfl) ?_
    refine Jp.y 43 rfl (want_all rfl) rfl rfl Kp.true (Y.nilCheck rfl rfl) ?_
    refine Jp.y 44 rfl (want_all rfl) rfl rfl Kp.true (by first | exact Y.fieldAddrP rfl rfl Try.underlying88 rfl Try.sizeOf86 (by decide) (show _ + 2 = _ from rfl) | exact Y.fieldAddr rfl rfl Try.underlying88 rfl Try.sizeOf86 (by decide)) ?_
    refine Jp.y 45 rfl (want_all rfl) rfl rfl Kp.true (by first | exact Y.loadO 0 rfl Try.isAgg86 rfl rfl rfl | exact Y.loadC 2 rfl Try.isAgg86 rfl rfl c0 | exact Y.loadC 2 rfl Try.isAgg86 rfl rfl c1) ?_
    refine Jp.append 46 3 rfl (want_all rfl) rfl rfl rfl Try.underlying86 Try.underlying86 (.inl ⟨_, rfl⟩) Try.sizeOf159 Try.typeInfo159 Try.zeroValue159 rfl (by decide) rfl rfl rfl (Src.rd hR) gens_one (gl.length) ((gl.flatMap refGen)) (by first | omega | simp) (by simp) (by simp only [Try.t159]; omega) fun A8 c8 => ⟨Kp.true, ?_⟩
    refine Jp.y 47 rfl (want_all rfl) rfl rfl Kp.true (Y.move rfl rfl) ?_
    refine Jp.y 48 rfl (want_all rfl) rfl rfl Kp.true (Y.struct [(0, _), (1, _)] (refGen (k, 1)) rfl rfl places159 Try.zeroValue159 rfl) ?_
    refine Jp.lit 49 4 [(0, _)] (refGen (k, 1)) rfl (want_all rfl) rfl rfl rfl rfl Try.underlying86 Try.sizeOf159 Try.zeroValue159 rfl rfl (fill_one rfl) rfl rfl fun b3 => ⟨Kp.true, ?_⟩
    refine Jp.append 50 3 rfl (want_all rfl) rfl rfl rfl Try.underlying86 Try.underlying86 (.inl ⟨_, rfl⟩) Try.sizeOf159 Try.typeInfo159 Try.zeroValue159 rfl (by decide) rfl rfl rfl (Src.own 4 rfl) rfl ((gl ++ [(k, 1)]).length) (((gl ++ [(k, 1)]).flatMap refGen)) (by first | omega | simp) (by rw [List.flatMap_append]; rfl) (by simp only [Try.t159]; omega) fun A9 c9 => ⟨Kp.true, ?_⟩
    refine Jp.y 51 rfl (want_all rfl) rfl rfl Kp.true (Y.nilCheck rfl rfl) ?_
    refine Jp.y 52 rfl (want_all rfl) rfl rfl Kp.true (by first | exact Y.fieldAddrP rfl rfl Try.underlying88 rfl Try.sizeOf86 (by decide) (show _ + 2 = _ from rfl) | exact Y.fieldAddr rfl rfl Try.underlying88 rfl Try.sizeOf86 (by decide)) ?_
    refine Jp.store 0 rfl (want_all rfl) rfl rfl Try.sizeOf86 rfl rfl rfl rfl rfl rfl Kp.true ?_
    refine Jp.refClose (b := b) (M := { M with gens := Ytgmhijlcdadaeaa.bump M.gens k }) (A := A) (c := c) (g := gl ++ [(k, 1)]) 0 1 3 (by decide) ⟨hf.ok.bump k, hg2⟩ rfl rfl rfl ?_
    refine Jp.down hle7 (by rw [h0]; exact Hp.le_refl _) ?_
    refine Jp.end [(0, _)] rfl (res0 rfl) ⟨rfl, trivial⟩ ⟨rfl, rfl, rfl⟩
theorem refThere_spec (b : Nat) (M : MemG) (a p : Nat) (ha : a < 4294967296) (hp : p ≤ 16777217) : Spec Try.prog 91 #[.pointer (some ⟨b, 0, none⟩), .int .u32 a, .int .i64 p] (fun _ => True) [(0, RefO b M)]
    (fun ρ ρ' v L => ρ' = ρ ∧ v = .int .i64 ((withinP M a p).length : Int) ∧ L = [(0, RefO b M)]) := by
  refine Spec.of 32 Try.func91 rfl Try.ntmps91 [(0, _), (1, _), (2, _)] rfl rfl ?_
  intro cx ρ hr h0
  refine Cd.refOpen 0 1 2 (by decide) rfl fun A c B d gl hf => ?_
  have hroom := hf.ok.room
  have hbud := hf.ok.budget.2
  have hrows := hf.rows
  have hlt : ∀ y ∈ M.pages, y.1 < 4294967296 := fun y hy => (hf.ok.page y hy).lt
  have hcnt : ∀ i y, M.pages[i]? = some y → ((M.pages.take (i + 1)).filter fun x => inS a p x.1).length = ((M.pages.take i).filter fun x => inS a p x.1).length + (if inS a p y.1 then 1 else 0) := fun i y hx => by
    rw [List.take_add_one, hx, List.filter_append, List.length_append]
    cases h : inS a p y.1 <;> simp [h]
  have hle : ∀ i, ((M.pages.take i).filter fun x => inS a p x.1).length ≤ i := fun i => by
    have h1 := List.length_filter_le (fun x : Nat × Pg => inS a p x.1) (M.pages.take i)
    rw [List.length_take] at h1
    omega
  obtain ⟨cn, hcn⟩ : ∃ cn : Nat → Nat, ∀ i, cn i = ((M.pages.take i).filter fun x => inS a p x.1).length := ⟨_, fun _ => rfl⟩
  simp only [← hcn] at hcnt hle
  have hend : (withinP M a p).length = cn M.pages.length := by rw [hcn, withinP, List.length_map, List.take_length]
  have h00 : cn 0 = 0 := by rw [hcn]; rfl
  refine Cd.seq fun K9 hK9 => ?_
  refine Cd.plain [(0, false)] rfl rfl ?_
  refine Jp.y 6 rfl (want_all rfl) rfl rfl Kp.true (Y.assign rfl rfl) ?_
  refine Jp.done hK9 ?_
  refine Cd.seq fun K10 hK10 => ?_
  refine Cd.plain [(0, false)] rfl rfl ?_
  refine Jp.y 7 rfl (want_all rfl) rfl rfl Kp.true (Y.assign rfl rfl) ?_
  refine Jp.done hK10 ?_
  refine Cd.seq fun K11 hK11 => ?_
  refine Cd.seq fun K12 hK12 => ?_
  refine Cd.plain [(0, false)] rfl rfl ?_
  refine Jp.y 8 rfl (want_all rfl) rfl rfl Kp.true (Y.assign rfl rfl) ?_
  refine Jp.done hK12 ?_
  refine Cd.block ?_
  refine Cd.slot 7 rfl (show _ = Value.int .i64 (cn 0 : Int) from congrArg (Value.int .i64) (by rw [h00]; rfl)) ?_
  refine Cd.loopK (G := Nat) (fun i => i ≤ M.pages.length) (fun i => M.pages.length - i) (fun _ => _) (fun i => [(7, .int .i64 (cn i : Int)), (8, .int .i64 (i : Int))]) [(0, _), (1, _), (2, _)] (fun i => []) [(0, _), (1, _), (2, _)] 0 (Nat.zero_le _) rfl ⟨rfl, rfl, trivial⟩ ⟨rfl, rfl, rfl, trivial⟩ trivial ⟨rfl, rfl, rfl, trivial⟩ (fun g KLa hok hLa => ?_)
  obtain ⟨i, hi⟩ : ∃ i, i = g := ⟨_, rfl⟩
  rw [← hi] at hok ⊢
  have hli := hle i
  refine Cd.seq fun K13 hK13 => ?_
  refine Cd.seq fun K14 hK14 => ?_
  refine Cd.plain [(0, false), (1, false), (2, false), (3, false), (4, false), (5, false), (6, false)] rfl rfl ?_
  refine Jp.y 9 rfl (want_all rfl) rfl rfl Kp.true (Y.move rfl rfl) ?_
  refine Jp.y 10 rfl (want_all rfl) rfl rfl Kp.true (Y.move rfl rfl) ?_
  refine Jp.y 11 rfl (want_all rfl) rfl rfl Kp.true (Y.nilCheck rfl rfl) ?_
  refine Jp.y 12 rfl (want_all rfl) rfl rfl Kp.true (by first | exact Y.fieldAddrP rfl rfl Try.underlying88 rfl Try.sizeOf85 (by decide) (show _ + 1 = _ from rfl) | exact Y.fieldAddr rfl rfl Try.underlying88 rfl Try.sizeOf85 (by decide)) ?_
  refine Jp.y 13 rfl (want_all rfl) rfl rfl Kp.true (Y.loadO 0 rfl Try.isAgg85 rfl rfl rfl) ?_
  refine Jp.y 14 rfl (want_all rfl) rfl rfl Kp.true (Y.lenslice rfl Try.underlying85 rfl) ?_
  refine Jp.y 15 rfl (want_all rfl) rfl rfl Kp.true (Y.lss rfl rfl rfl) ?_
  refine Jp.done hK14 ?_
  refine Cd.cond rfl (fun ga => ?_) (fun ga => ?_)
  · have hil : i < M.pages.length := by simp at ga; omega
    have hx : M.pages[i]? = some M.pages[i] := List.getElem?_eq_getElem hil
    obtain ⟨y, hy⟩ : ∃ y, y = M.pages[i] := ⟨_, rfl⟩
    rw [← hy] at hx
    have hyl := hlt y (List.mem_of_getElem? hx)
    have hc := hcnt i y hx
    refine Cd.ownAt 1 rfl (show 0 < M.pages.length by omega) ?_
    rintro b1 rfl
    have c0 := OwnS.hasC (e := 108) (m := 258) (k := M.pages.length) (c := c) (ad := ⟨b1, 0, none⟩) (rs_get hrows hx (refPg_base y))
    refine Cd.skip hK13 ?_
    refine Cd.seq fun K15 hK15 => ?_
    refine Cd.block ?_
    refine Cd.seq fun K16 hK16 => ?_
    refine Cd.plain [(0, false), (1, false), (2, false), (3, false), (4, false), (5, false), (6, false), (7, false), (8, false), (9, false), (10, false)] rfl rfl ?_
    refine Jp.y 18 rfl (want_all rfl) rfl rfl Kp.true (Y.move rfl rfl) ?_
    refine Jp.y 19 rfl (want_all rfl) rfl rfl Kp.true (Y.nilCheck rfl rfl) ?_
    refine Jp.y 20 rfl (want_all rfl) rfl rfl Kp.true (by first | exact Y.fieldAddrP rfl rfl Try.underlying88 rfl Try.sizeOf85 (by decide) (show _ + 1 = _ from rfl) | exact Y.fieldAddr rfl rfl Try.underlying88 rfl Try.sizeOf85 (by decide)) ?_
    refine Jp.y 21 rfl (want_all rfl) rfl rfl Kp.true (by first | exact Y.loadO 0 rfl Try.isAgg85 rfl rfl rfl | exact Y.loadC 1 rfl Try.isAgg85 rfl rfl c0) ?_
    refine Jp.y 22 rfl (want_all rfl) rfl rfl Kp.true (Y.move rfl rfl) ?_
    refine Jp.y 23 rfl (want_all rfl) rfl rfl Kp.true (Y.indexAddr (q := i * 258) rfl rfl rfl Try.underlying85 Try.sizeOf108 (by omega) (by omega) (by omega)) ?_
    refine Jp.y 24 rfl (want_all rfl) rfl rfl Kp.true (by first | exact Y.fieldAddrP rfl rfl Try.underlying108 rfl Try.sizeOf25 (by decide) (show _ + 0 = _ from rfl) | exact Y.fieldAddr rfl rfl Try.underlying108 rfl Try.sizeOf25 (by decide)) ?_
    refine Jp.y 25 rfl (want_all rfl) rfl rfl Kp.true (by first | exact Y.loadO 0 rfl Try.isAgg25 rfl rfl rfl | exact Y.loadC 1 rfl Try.isAgg25 rfl rfl c0) ?_
    refine Jp.y 26 rfl (want_all rfl) rfl rfl Kp.true (Y.move rfl rfl) ?_
    refine Jp.y 27 rfl (want_all rfl) rfl rfl Kp.true (Y.move rfl rfl) ?_
    refine Jp.call [] [] (refWithin_spec y.1 a p hyl ha hp) 28 rfl (want_all rfl) rfl rfl (Runs.fn rfl Try.call94 rfl) (by decide) (by decide) rfl trivial ?_
    rintro v1 ρ1 L1 ⟨rfl, rfl, rfl⟩
    refine ⟨rfl, fun hle1 => ⟨Kp.true, ?_⟩⟩
    refine Jp.done hK16 ?_
    refine Cd.cond rfl (fun gb => ?_) (fun gb => ?_)
    · rw [if_pos gb] at hc
      refine Cd.plain [(0, false), (1, false), (2, false)] rfl rfl ?_
      refine Jp.y 29 rfl (want_all rfl) rfl rfl Kp.true (Y.move rfl rfl) ?_
      refine Jp.y 30 rfl (want_all rfl) rfl rfl Kp.true (Y.add_ rfl rfl rfl (by first | exact wrap_i64 (by omega) (by omega) | rfl)) ?_
      refine Jp.y 7 rfl (want_all rfl) rfl rfl Kp.true (Y.assign rfl rfl) ?_
      refine Jp.over rfl hK15 ?_
      refine Cd.plain [(0, false), (1, false), (2, false)] rfl rfl ?_
      refine Jp.y 16 rfl (want_all rfl) rfl rfl Kp.true (Y.move rfl rfl) ?_
      refine Jp.y 17 rfl (want_all rfl) rfl rfl Kp.true (Y.add_ rfl rfl rfl (by first | exact wrap_i64 (by omega) (by omega) | rfl)) ?_
      refine Jp.y 8 rfl (want_all rfl) rfl rfl Kp.true (Y.assign rfl rfl) ?_
      rw [show (i : Int) + 1 = ((i + 1 : Nat) : Int) by omega, show (cn i : Int) + 1 = (cn (i + 1) : Int) by omega]
      refine Jp.again hLa (i + 1) (by omega) (by omega) rfl ⟨rfl, rfl, rfl, rfl, rfl, trivial⟩ ⟨rfl, rfl, rfl, trivial⟩
    · rw [if_neg (by rw [gb]; decide)] at hc
      refine Cd.over rfl hK15 ?_
      refine Cd.plain [(0, false), (1, false), (2, false)] rfl rfl ?_
      refine Jp.y 16 rfl (want_all rfl) rfl rfl Kp.true (Y.move rfl rfl) ?_
      refine Jp.y 17 rfl (want_all rfl) rfl rfl Kp.true (Y.add_ rfl rfl rfl (by first | exact wrap_i64 (by omega) (by omega) | rfl)) ?_
      refine Jp.y 8 rfl (want_all rfl) rfl rfl Kp.true (Y.assign rfl rfl) ?_
      rw [show (i : Int) + 1 = ((i + 1 : Nat) : Int) by omega, show (cn i : Int) = (cn (i + 1) : Int) by omega]
      refine Jp.again hLa (i + 1) (by omega) (by omega) rfl ⟨rfl, rfl, rfl, rfl, rfl, trivial⟩ ⟨rfl, rfl, rfl, trivial⟩
  · have hil : i = M.pages.length := by simp at ga; omega
    refine Cd.exit rfl hK11 ?_
    refine Cd.seq fun K17 hK17 => ?_
    refine Cd.plain [(0, false), (1, false)] rfl rfl ?_
    refine Jp.y 31 rfl (want_all rfl) rfl rfl Kp.true (Y.move rfl rfl) ?_
    refine Jp.y 6 rfl (want_all rfl) rfl rfl Kp.true (Y.assign rfl rfl) ?_
    refine Jp.done hK17 ?_
    refine Cd.refClose (b := b) (M := M) 0 1 2 (by decide) hf rfl rfl rfl ?_
    refine Cd.ret [(0, _)] rfl (res1 rfl rfl) ⟨rfl, trivial⟩ ⟨rfl, by rw [hend, hil], rfl⟩
end Go.Proofs.Ytgmhijlcdadaeaa
