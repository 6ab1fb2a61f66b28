import Derived.Test.YtjfgefdcngpplaaZRefA
set_option linter.unusedVariables false
set_option linter.unusedSimpArgs false
set_option maxRecDepth 100000
namespace Go.Proofs.Ytjfgefdcngpplaa
open Go
theorem HasC.two {A : HProp} {ad : Addr} {k j : Nat} {v : Value} (h : HasC A (ad.add (k + j)) v) : HasC A ((ad.add k).add j) v := by
  have : (ad.add k).add j = ad.add (k + j) := by cases ad; unfold Addr.add; by_cases hk : k = 0 <;> by_cases hj : j = 0 <;> simp [hk, hj, Nat.add_assoc]
  rw [this]; exact h
theorem refAt_spec (b : Nat) (M : MemG) (a : Nat) (ha : a < 4294967296) : Spec Try.prog 54 #[.pointer (some ⟨b, 0, none⟩), .int .u32 a] (fun _ => True) [(0, RefO b M)]
    (fun ρ ρ' v L => ρ' = ρ ∧ v = .tuple #[.int .i64 (posA M.pages (baseN a) : Int), .bool (getPg M.pages (baseN a)).isSome] ∧ L = [(0, RefO b M)]) := by
  refine Spec.of 53 Try.func54 rfl Try.ntmps54 [(0, _), (1, _)] rfl rfl ?_
  intro cx ρ hr h0
  refine Cd.refOpen 0 1 2 (by decide) rfl fun A c B d gl hf => ?_
  have hroom := hf.ok.room
  have hbud := hf.ok.budget.2
  have hrows := hf.rows
  obtain ⟨k, hk⟩ : ∃ k, baseN a = k := ⟨_, rfl⟩
  have hkl := base_le a
  rw [hk] at hkl ⊢
  have hget := pos_get hf.ok.rising k
  obtain ⟨p, hp⟩ : ∃ p, posA M.pages k = p := ⟨_, rfl⟩
  have hpl := posA_le M.pages k
  have hstep := fun i (hi : i ≤ posA M.pages k) => posA_step (l := M.pages) (a := k) (i := i) hi
  have hlt : ∀ y ∈ M.pages, y.1 < 4294967296 := fun y hy => (hf.ok.page y hy).lt
  rw [hp] at hpl hstep hget ⊢
  refine Cd.seq fun K1 hK1 => ?_
  refine Cd.plain [(0, false), (1, false)] rfl rfl ?_
  refine Jp.y 4 rfl (want_all rfl) rfl rfl Kp.true (Y.assign rfl rfl) ?_
  refine Jp.y 5 rfl (want_all rfl) rfl rfl Kp.true (Y.assign rfl rfl) ?_
  refine Jp.done hK1 ?_
  refine Cd.seq fun K2 hK2 => ?_
  refine Cd.plain [(0, false), (1, false), (2, false), (3, false), (4, false)] rfl rfl ?_
  refine Jp.y 8 rfl (want_all rfl) rfl rfl Kp.true (Y.move rfl rfl) ?_
  refine Jp.y 9 rfl (want_all rfl) rfl rfl Kp.true (Y.move rfl rfl) ?_
  refine Jp.y 10 rfl (want_all rfl) rfl rfl Kp.true (by first | exact Y.remN rfl rfl rfl (by omega) (by omega) | exact Y.rem rfl rfl rfl (by first | decide | omega)) ?_
  refine Jp.y 11 rfl (want_all rfl) rfl rfl Kp.true (Y.sub_ rfl rfl rfl (by first | exact wrap_u32 (by omega) (by omega) | rfl)) ?_
  refine Jp.y 6 rfl (want_all rfl) rfl rfl Kp.true (Y.assign rfl rfl) ?_
  refine Jp.done hK2 ?_
  refine Cd.seq fun K3 hK3 => ?_
  refine Cd.plain [(0, false)] rfl rfl ?_
  refine Jp.y 7 rfl (want_all rfl) rfl rfl Kp.true (Y.assign rfl rfl) ?_
  refine Jp.done hK3 ?_
  refine Cd.seq fun K4 hK4 => ?_
  refine Cd.block ?_
  refine Cd.slot 6 rfl (show _ = Value.int .u32 (k : Int) from congrArg (Value.int .u32) (by rw [← hk]; unfold baseN; omega)) ?_
  refine Cd.joinG (G := Unit) (fun _ => True) (fun _ => [(7, .int .i64 (p : Int))]) [(0, _), (6, _)] ⟨rfl, rfl, trivial⟩ (fun _ => []) [(0, _), (1, _), (2, _)] ⟨rfl, rfl, rfl, trivial⟩ hK4 (fun g hφ => ?_) (fun hj1 => ?_)
  · clear hφ
    refine Cd.seq fun K5 hK5 => ?_
    refine Cd.drawn [(0, _), (1, _), (2, _)] ⟨rfl, rfl, rfl, trivial⟩ [(0, true), (1, true), (2, true), (3, true), (4, true), (5, true), (6, true), (7, true), (8, true), (9, true), (10, true), (11, true), (12, true), (13, true), (14, true), (15, true), (16, true), (17, true), (18, true), (19, true), (20, true), (21, true)] follows (by kernel_rfl) (fun hrl => ?_)
    refine Jp.q 33 rfl (want_all rfl) rfl rfl (Y.move rfl rfl) ?_
    refine Jp.q 34 rfl (want_all rfl) rfl rfl (Y.move rfl rfl) ?_
    refine Jp.q 35 rfl (want_all rfl) rfl rfl (Y.move rfl rfl) ?_
    refine Jp.q 36 rfl (want_all rfl) rfl rfl (Y.nilCheck rfl rfl) ?_
    refine Jp.q 37 rfl (want_all rfl) rfl rfl (by first | exact Y.fieldAddrP rfl rfl Try.underlying59 rfl Try.sizeOf56 (by decide) (show _ + 1 = _ from rfl) | exact Y.fieldAddr rfl rfl Try.underlying59 rfl Try.sizeOf56 (by decide)) ?_
    refine Jp.q 38 rfl (want_all rfl) rfl rfl (Y.loadO 0 rfl Try.isAgg56 rfl rfl rfl) ?_
    refine Jp.q 39 rfl (want_all rfl) rfl rfl (Y.lenslice rfl Try.underlying56 rfl) ?_
    refine Jp.q 40 rfl (want_all rfl) rfl rfl (Y.lss rfl rfl rfl) ?_
    by_cases hin : p < M.pages.length
    · have hx : M.pages[p]? = some M.pages[p] := List.getElem?_eq_getElem hin
      obtain ⟨y, hy⟩ : ∃ y, y = M.pages[p] := ⟨_, rfl⟩
      rw [← hy] at hx
      rw [hx] at hget
      have hyl := hlt y (List.mem_of_getElem? hx)
      refine Jp.ownAt 1 rfl (show 0 < M.pages.length by omega) ?_
      rintro b1 rfl
      have c0 := OwnS.hasC (e := 63) (m := 258) (k := M.pages.length) (c := c) (ad := ⟨b1, 0, none⟩) (rs_get hrows hx (refPg_base y))
      refine Jp.slot 40 rfl (show _ = Value.bool true from congrArg Value.bool (decide_eq_true (by omega))) ?_
      refine Jp.q 41 rfl (want_all rfl) rfl rfl (Y.move rfl rfl) ?_
      refine Jp.slot 41 rfl (show _ = Value.bool true from rfl) ?_
      refine Jp.q 42 rfl (want_as rfl rfl rfl rfl) rfl rfl (Y.move rfl rfl) ?_
      refine Jp.q 43 rfl (want_as rfl rfl rfl rfl) rfl rfl (Y.nilCheck rfl rfl) ?_
      refine Jp.q 44 rfl (want_as rfl rfl rfl rfl) rfl rfl (by first | exact Y.fieldAddrP rfl rfl Try.underlying59 rfl Try.sizeOf56 (by decide) (show _ + 1 = _ from rfl) | exact Y.fieldAddr rfl rfl Try.underlying59 rfl Try.sizeOf56 (by decide)) ?_
      refine Jp.q 45 rfl (want_as rfl rfl rfl rfl) rfl rfl (by first | exact Y.loadO 0 rfl Try.isAgg56 rfl rfl rfl | exact Y.loadC 1 rfl Try.isAgg56 rfl rfl c0) ?_
      refine Jp.q 46 rfl (want_as rfl rfl rfl rfl) rfl rfl (Y.move rfl rfl) ?_
      refine Jp.q 47 rfl (want_as rfl rfl rfl rfl) rfl rfl (Y.indexAddr (q := p * 258) rfl rfl rfl Try.underlying56 Try.sizeOf63 (by omega) (by omega) (by omega)) ?_
      refine Jp.q 48 rfl (want_as rfl rfl rfl rfl) rfl rfl (by first | exact Y.fieldAddrP rfl rfl Try.underlying63 rfl Try.sizeOf23 (by decide) (show _ + 0 = _ from rfl) | exact Y.fieldAddr rfl rfl Try.underlying63 rfl Try.sizeOf23 (by decide)) ?_
      refine Jp.q 49 rfl (want_as rfl rfl rfl rfl) rfl rfl (by first | exact Y.loadO 0 rfl Try.isAgg23 rfl rfl rfl | exact Y.loadC 1 rfl Try.isAgg23 rfl rfl c0) ?_
      refine Jp.q 50 rfl (want_as rfl rfl rfl rfl) rfl rfl (Y.move rfl rfl) ?_
      refine Jp.q 51 rfl (want_as rfl rfl rfl rfl) rfl rfl (Y.eql rfl rfl rfl) ?_
      refine Jp.q 52 rfl (want_all rfl) rfl rfl (Y.pickT rfl rfl rfl) ?_
      refine Jp.q 4 rfl (want_all rfl) rfl rfl (Y.assign rfl rfl) ?_
      refine Jp.q 5 rfl (want_all rfl) rfl rfl (Y.assign rfl rfl) ?_
      refine Jp.done hK5 ?_
      refine Cd.refClose (b := b) (M := M) 0 1 2 (by decide) hf rfl rfl rfl ?_
      refine Cd.ret [(0, _)] rfl (res2 rfl rfl rfl) ⟨rfl, trivial⟩ ⟨rfl, by rw [hget]; by_cases e : y.1 = k <;> simp [e] <;> omega, rfl⟩
    · rw [List.getElem?_eq_none (by omega)] at hget
      refine Jp.slot 40 rfl (show _ = Value.bool false from congrArg Value.bool (decide_eq_false (by omega))) ?_
      refine Jp.q 41 rfl (want_all rfl) rfl rfl (Y.move rfl rfl) ?_
      refine Jp.slot 41 rfl (show _ = Value.bool false from rfl) ?_
      refine Jp.qskip 42 rfl (want_as rfl rfl rfl rfl) rfl rfl ?_
      refine Jp.qskip 43 rfl (want_as rfl rfl rfl rfl) rfl rfl ?_
      refine Jp.qskip 44 rfl (want_as rfl rfl rfl rfl) rfl rfl ?_
      refine Jp.qskip 45 rfl (want_as rfl rfl rfl rfl) rfl rfl ?_
      refine Jp.qskip 46 rfl (want_as rfl rfl rfl rfl) rfl rfl ?_
      refine Jp.qskip 47 rfl (want_as rfl rfl rfl rfl) rfl rfl ?_
      refine Jp.qskip 48 rfl (want_as rfl rfl rfl rfl) rfl rfl ?_
      refine Jp.qskip 49 rfl (want_as rfl rfl rfl rfl) rfl rfl ?_
      refine Jp.qskip 50 rfl (want_as rfl rfl rfl rfl) rfl rfl ?_
      refine Jp.qskip 51 rfl (want_as rfl rfl rfl rfl) rfl rfl ?_
      refine Jp.q 52 rfl (want_all rfl) rfl rfl (Y.pickF rfl rfl rfl) ?_
      refine Jp.q 4 rfl (want_all rfl) rfl rfl (Y.assign rfl rfl) ?_
      refine Jp.q 5 rfl (want_all rfl) rfl rfl (Y.assign rfl rfl) ?_
      refine Jp.done hK5 ?_
      refine Cd.refClose (b := b) (M := M) 0 1 2 (by decide) hf rfl rfl rfl ?_
      refine Cd.ret [(0, _)] rfl (res2 rfl rfl rfl) ⟨rfl, trivial⟩ ⟨rfl, by rw [hget]; rfl, rfl⟩
  · skip
    refine Cd.loopK (G := Nat) (fun i => i ≤ p) (fun i => p - i) (fun _ => _) (fun i => [(7, .int .i64 (i : Int))]) [(0, _), (6, _)] (fun i => []) [(0, _), (1, _), (2, _)] 0 (Nat.zero_le _) rfl ⟨rfl, trivial⟩ ⟨rfl, rfl, trivial⟩ trivial ⟨rfl, rfl, rfl, trivial⟩ (fun g KLa hok hLa => ?_)
    obtain ⟨i, hi⟩ : ∃ i, i = g := ⟨_, rfl⟩
    rw [← hi] at hok ⊢
    have hst := hstep i hok
    refine Cd.seq fun K7 hK7 => ?_
    refine Cd.seq fun K8 hK8 => ?_
    refine Cd.plain [(0, false), (1, false), (2, false), (3, false), (4, false), (5, false), (6, false), (7, false), (8, false), (9, false), (10, false), (11, false), (12, false), (13, false), (14, false), (15, false), (16, false), (17, false), (18, false)] rfl rfl ?_
    refine Jp.y 12 rfl (want_all rfl) rfl rfl Kp.true (Y.move rfl rfl) ?_
    refine Jp.y 13 rfl (want_all rfl) rfl rfl Kp.true (Y.move rfl rfl) ?_
    refine Jp.y 14 rfl (want_all rfl) rfl rfl Kp.true (Y.nilCheck rfl rfl) ?_
    refine Jp.y 15 rfl (want_all rfl) rfl rfl Kp.true (by first | exact Y.fieldAddrP rfl rfl Try.underlying59 rfl Try.sizeOf56 (by decide) (show _ + 1 = _ from rfl) | exact Y.fieldAddr rfl rfl Try.underlying59 rfl Try.sizeOf56 (by decide)) ?_
    refine Jp.y 16 rfl (want_all rfl) rfl rfl Kp.true (by first | exact Y.loadO 0 rfl Try.isAgg56 rfl rfl rfl | exact Y.loadC 1 rfl Try.isAgg56 rfl rfl c0) ?_
    refine Jp.y 17 rfl (want_all rfl) rfl rfl Kp.true (Y.lenslice rfl Try.underlying56 rfl) ?_
    refine Jp.y 18 rfl (want_all rfl) rfl rfl Kp.true (Y.lss rfl rfl rfl) ?_
    by_cases hil : i < M.pages.length
    · have hx : M.pages[i]? = some M.pages[i] := List.getElem?_eq_getElem hil
      obtain ⟨y, hy⟩ : ∃ y, y = M.pages[i] := ⟨_, rfl⟩
      rw [← hy] at hx
      have hst := hst y hx
      have hyl := hlt y (List.mem_of_getElem? hx)
      refine Jp.ownAt 1 rfl (show 0 < M.pages.length by omega) ?_
      rintro b1 rfl
      have c0 := OwnS.hasC (e := 63) (m := 258) (k := M.pages.length) (c := c) (ad := ⟨b1, 0, none⟩) (rs_get hrows hx (refPg_base y))
      refine Jp.slot 18 rfl (show _ = Value.bool true from congrArg Value.bool (decide_eq_true (by omega))) ?_
      refine Jp.y 19 rfl (want_all rfl) rfl rfl Kp.true (Y.move rfl rfl) ?_
      refine Jp.slot 19 rfl (show _ = Value.bool true from rfl) ?_
      refine Jp.y 20 rfl (want_as rfl rfl rfl rfl) rfl rfl Kp.true (Y.move rfl rfl) ?_
      refine Jp.y 21 rfl (want_as rfl rfl rfl rfl) rfl rfl Kp.true (Y.nilCheck rfl rfl) ?_
      refine Jp.y 22 rfl (want_as rfl rfl rfl rfl) rfl rfl Kp.true (by first | exact Y.fieldAddrP rfl rfl Try.underlying59 rfl Try.sizeOf56 (by decide) (show _ + 1 = _ from rfl) | exact Y.fieldAddr rfl rfl Try.underlying59 rfl Try.sizeOf56 (by decide)) ?_
      refine Jp.y 23 rfl (want_as rfl rfl rfl rfl) rfl rfl Kp.true (by first | exact Y.loadO 0 rfl Try.isAgg56 rfl rfl rfl | exact Y.loadC 1 rfl Try.isAgg56 rfl rfl c0) ?_
      refine Jp.y 24 rfl (want_as rfl rfl rfl rfl) rfl rfl Kp.true (Y.move rfl rfl) ?_
      refine Jp.y 25 rfl (want_as rfl rfl rfl rfl) rfl rfl Kp.true (Y.indexAddr (q := i * 258) rfl rfl rfl Try.underlying56 Try.sizeOf63 (by omega) (by omega) (by omega)) ?_
      refine Jp.y 26 rfl (want_as rfl rfl rfl rfl) rfl rfl Kp.true (by first | exact Y.fieldAddrP rfl rfl Try.underlying63 rfl Try.sizeOf23 (by decide) (show _ + 0 = _ from rfl) | exact Y.fieldAddr rfl rfl Try.underlying63 rfl Try.sizeOf23 (by decide)) ?_
      refine Jp.y 27 rfl (want_as rfl rfl rfl rfl) rfl rfl Kp.true (by first | exact Y.loadO 0 rfl Try.isAgg23 rfl rfl rfl | exact Y.loadC 1 rfl Try.isAgg23 rfl rfl c0) ?_
      refine Jp.y 28 rfl (want_as rfl rfl rfl rfl) rfl rfl Kp.true (Y.move rfl rfl) ?_
      refine Jp.y 29 rfl (want_as rfl rfl rfl rfl) rfl rfl Kp.true (Y.lss rfl rfl rfl) ?_
      refine Jp.y 30 rfl (want_all rfl) rfl rfl Kp.true (Y.pickT rfl rfl rfl) ?_
      refine Jp.done hK8 ?_
      refine Cd.cond rfl (fun gl => ?_) (fun gl => ?_)
      · have hlp : i < p := hst.1 (by simp at gl; omega)
        refine Cd.skip hK7 ?_
        refine Cd.block ?_
        refine Cd.plain [(0, false), (1, false), (2, false)] rfl rfl ?_
        refine Jp.y 31 rfl (want_all rfl) rfl rfl Kp.true (Y.move rfl rfl) ?_
        refine Jp.y 32 rfl (want_all rfl) rfl rfl Kp.true (Y.add_ rfl rfl rfl (by first | exact wrap_i64 (by omega) (by omega) | rfl)) ?_
        refine Jp.y 7 rfl (want_all rfl) rfl rfl Kp.true (Y.assign rfl rfl) ?_
        rw [show (i : Int) + 1 = ((i + 1 : Nat) : Int) by omega]
        refine JpQ.again rfl hLa (i + 1) (by omega) (by omega) rfl ⟨rfl, rfl, rfl, trivial⟩ ⟨rfl, rfl, rfl, trivial⟩
      · have hip : i = p := by
          have : ¬ y.1 < k := by simp at gl; omega
          omega
        rw [hip]
        refine Cd.exit rfl hK4 ?_
        exact Cd.meet (hj1 () trivial) ⟨rfl, rfl, rfl, trivial⟩ ⟨rfl, rfl, rfl, trivial⟩
    · have hip : i = p := by omega
      refine Jp.slot 18 rfl (show _ = Value.bool false from congrArg Value.bool (decide_eq_false (by omega))) ?_
      refine Jp.y 19 rfl (want_all rfl) rfl rfl Kp.true (Y.move rfl rfl) ?_
      refine Jp.slot 19 rfl (show _ = Value.bool false from rfl) ?_
      rw [hip]
      refine Jp.skip 20 rfl (want_as rfl rfl rfl rfl) rfl rfl Kp.true ?_
      refine Jp.skip 21 rfl (want_as rfl rfl rfl rfl) rfl rfl Kp.true ?_
      refine Jp.skip 22 rfl (want_as rfl rfl rfl rfl) rfl rfl Kp.true ?_
      refine Jp.skip 23 rfl (want_as rfl rfl rfl rfl) rfl rfl Kp.true ?_
      refine Jp.skip 24 rfl (want_as rfl rfl rfl rfl) rfl rfl Kp.true ?_
      refine Jp.skip 25 rfl (want_as rfl rfl rfl rfl) rfl rfl Kp.true ?_
      refine Jp.skip 26 rfl (want_as rfl rfl rfl rfl) rfl rfl Kp.true ?_
      refine Jp.skip 27 rfl (want_as rfl rfl rfl rfl) rfl rfl Kp.true ?_
      refine Jp.skip 28 rfl (want_as rfl rfl rfl rfl) rfl rfl Kp.true ?_
      refine Jp.skip 29 rfl (want_as rfl rfl rfl rfl) rfl rfl Kp.true ?_
      refine Jp.y 30 rfl (want_all rfl) rfl rfl Kp.true (Y.pickF rfl rfl rfl) ?_
      refine Jp.done hK8 ?_
      refine Cd.condF rfl ?_
      refine Cd.exit rfl hK4 ?_
      exact Cd.meet (hj1 () trivial) ⟨rfl, rfl, rfl, trivial⟩ ⟨rfl, rfl, rfl, trivial⟩
theorem gLook_get : ∀ (g : List (Nat × Nat)) (k : Nat), gLook g k = ((g[g.findIdx fun x => x.1 == k]?).map (·.2)).getD 0
  | [], k => rfl
  | (x, n) :: l, k => by
    rw [gLook, List.findIdx_cons]
    by_cases h : x = k
    · simp [h]
    · have : (x == k) = false := by simpa using h
      rw [this, if_neg h, gLook_get l k]
      simp
theorem gFind_step : ∀ (l : List (Nat × Nat)) (k i : Nat), i ≤ (l.findIdx fun x => x.1 == k) → ∀ x, l[i]? = some x → (x.1 = k ↔ i = l.findIdx fun x => x.1 == k)
  | [], k, i, _, x, h => by simp at h
  | y :: l, k, 0, _, x, h => by
    simp at h; subst h
    rw [List.findIdx_cons]
    by_cases e : y.1 = k
    · simp [e]
    · have : (y.1 == k) = false := by simpa using e
      rw [this]; simp [e]
  | y :: l, k, i + 1, hi, x, h => by
    rw [List.findIdx_cons] at hi ⊢
    by_cases e : y.1 = k
    · simp [e] at hi
    · have e2 : (y.1 == k) = false := by simpa using e
      rw [e2] at hi ⊢
      simp only [cond_false] at hi ⊢
      have := gFind_step l k i (by omega) x (by simpa using h)
      omega
theorem refGen_base (x : Nat × Nat) : (refGen x)[0]? = some (.int .u32 (x.1 : Int)) := rfl
theorem refGen_n (x : Nat × Nat) : (refGen x)[1]? = some (.int .u32 (x.2 : Int)) := rfl
theorem refGen_spec (b : Nat) (M : MemG) (a : Nat) (ha : a < 4294967296) : Spec Try.prog 20 #[.pointer (some ⟨b, 0, none⟩), .int .u32 a] (fun _ => True) [(0, RefO b M)]
    (fun ρ ρ' v L => ρ' = ρ ∧ v = .int .u32 (M.gens (baseN a) : Int) ∧ L = [(0, RefO b M)]) := by
  refine Spec.of 36 Try.func20 rfl Try.ntmps20 [(0, _), (1, _)] rfl rfl ?_
  intro cx ρ hr h0
  refine Cd.refOpen 0 1 2 (by decide) rfl fun A c B d gl hf => ?_
  have hmany := hf.gen.few
  have hrng := hf.gen.rng
  dsimp only at hmany hrng
  have hrows := gRows gl
  obtain ⟨k, hk⟩ : ∃ k, baseN a = k := ⟨_, rfl⟩
  have hkl := base_le a
  rw [hk] at hkl ⊢
  have hG := hf.gen.gens k
  dsimp only at hG
  rw [gLook_get] at hG
  have hstep := fun i => gFind_step gl k i
  have hfl : (gl.findIdx fun x => x.1 == k) ≤ gl.length := List.findIdx_le_length
  obtain ⟨f, hfn⟩ : ∃ f, (gl.findIdx fun x => x.1 == k) = f := ⟨_, rfl⟩
  rw [hfn] at hG hstep hfl
  refine Cd.seq fun K9 hK9 => ?_
  refine Cd.plain [(0, false)] rfl rfl ?_
  refine Jp.y 4 rfl (want_all rfl) rfl rfl Kp.true (Y.assign rfl rfl) ?_
  refine Jp.done hK9 ?_
  refine Cd.seq fun K10 hK10 => ?_
  refine Cd.seq fun K11 hK11 => ?_
  refine Cd.plain [(0, false)] rfl rfl ?_
  refine Jp.y 5 rfl (want_all rfl) rfl rfl Kp.true (Y.assign rfl rfl) ?_
  refine Jp.done hK11 ?_
  refine Cd.block ?_
  refine Cd.loopK (G := Nat) (fun i => i ≤ f) (fun i => f - i) (fun _ => _) (fun i => [(5, .int .i64 (i : Int))]) [(0, _), (1, _)] (fun i => []) [(0, _), (1, _), (2, _)] 0 (Nat.zero_le _) rfl ⟨rfl, trivial⟩ ⟨rfl, rfl, trivial⟩ trivial ⟨rfl, rfl, rfl, trivial⟩ (fun g KLa hok hLa => ?_)
  obtain ⟨i, hi⟩ : ∃ i, i = g := ⟨_, rfl⟩
  rw [← hi] at hok ⊢
  refine Cd.seq fun K12 hK12 => ?_
  refine Cd.seq fun K13 hK13 => ?_
  refine Cd.plain [(0, false), (1, false), (2, false), (3, false), (4, false), (5, false), (6, false)] rfl rfl ?_
  refine Jp.y 6 rfl (want_all rfl) rfl rfl Kp.true (Y.move rfl rfl) ?_
  refine Jp.y 7 rfl (want_all rfl) rfl rfl Kp.true (Y.move rfl rfl) ?_
  refine Jp.y 8 rfl (want_all rfl) rfl rfl Kp.true (Y.nilCheck rfl rfl) ?_
  refine Jp.y 9 rfl (want_all rfl) rfl rfl Kp.true (by first | exact Y.fieldAddrP rfl rfl Try.underlying59 rfl Try.sizeOf57 (by decide) (show _ + 2 = _ from rfl) | exact Y.fieldAddr rfl rfl Try.underlying59 rfl Try.sizeOf57 (by decide)) ?_
  refine Jp.y 10 rfl (want_all rfl) rfl rfl Kp.true (Y.loadO 0 rfl Try.isAgg57 rfl rfl rfl) ?_
  refine Jp.y 11 rfl (want_all rfl) rfl rfl Kp.true (Y.lenslice rfl Try.underlying57 rfl) ?_
  refine Jp.y 12 rfl (want_all rfl) rfl rfl Kp.true (Y.lss rfl rfl rfl) ?_
  refine Jp.done hK13 ?_
  refine Cd.cond rfl (fun ga => ?_) (fun ga => ?_)
  · have hil : i < gl.length := by simp at ga; omega
    have hx : gl[i]? = some gl[i] := List.getElem?_eq_getElem hil
    obtain ⟨y, hy⟩ : ∃ y, y = gl[i] := ⟨_, rfl⟩
    rw [← hy] at hx
    have hst := hstep i (by omega) y hx
    have hyl := hrng y (List.mem_of_getElem? hx)
    refine Cd.ownAt 2 rfl (show 0 < gl.length by omega) ?_
    rintro b1 rfl
    have c0 := OwnS.hasC (e := 94) (m := 2) (k := gl.length) (c := d) (ad := ⟨b1, 0, none⟩) (rs_get hrows hx (refGen_base y))
    have c1 := (OwnS.hasC (e := 94) (m := 2) (k := gl.length) (c := d) (ad := ⟨b1, 0, none⟩) (rs_get hrows hx (refGen_n y))).two
    refine Cd.skip hK12 ?_
    refine Cd.seq fun K14 hK14 => ?_
    refine Cd.block ?_
    refine Cd.seq fun K15 hK15 => ?_
    refine Cd.plain [(0, false), (1, false), (2, false), (3, false), (4, false), (5, false), (6, false), (7, false), (8, false), (9, false), (10, false), (11, false), (12, false)] rfl rfl ?_
    refine Jp.y 15 rfl (want_all rfl) rfl rfl Kp.true (Y.move rfl rfl) ?_
    refine Jp.y 16 rfl (want_all rfl) rfl rfl Kp.true (Y.nilCheck rfl rfl) ?_
    refine Jp.y 17 rfl (want_all rfl) rfl rfl Kp.true (by first | exact Y.fieldAddrP rfl rfl Try.underlying59 rfl Try.sizeOf57 (by decide) (show _ + 2 = _ from rfl) | exact Y.fieldAddr rfl rfl Try.underlying59 rfl Try.sizeOf57 (by decide)) ?_
    refine Jp.y 18 rfl (want_all rfl) rfl rfl Kp.true (by first | exact Y.loadO 0 rfl Try.isAgg57 rfl rfl rfl | exact Y.loadC 2 rfl Try.isAgg57 rfl rfl c0 | exact Y.loadC 2 rfl Try.isAgg57 rfl rfl c1) ?_
    refine Jp.y 19 rfl (want_all rfl) rfl rfl Kp.true (Y.move rfl rfl) ?_
    refine Jp.y 20 rfl (want_all rfl) rfl rfl Kp.true (Y.indexAddr (q := i * 2) rfl rfl rfl Try.underlying57 Try.sizeOf94 (by omega) (by omega) (by omega)) ?_
    refine Jp.y 21 rfl (want_all rfl) rfl rfl Kp.true (by first | exact Y.fieldAddrP rfl rfl Try.underlying94 rfl Try.sizeOf23 (by decide) (show _ + 0 = _ from rfl) | exact Y.fieldAddr rfl rfl Try.underlying94 rfl Try.sizeOf23 (by decide)) ?_
    refine Jp.y 22 rfl (want_all rfl) rfl rfl Kp.true (by first | exact Y.loadO 0 rfl Try.isAgg23 rfl rfl rfl | exact Y.loadC 2 rfl Try.isAgg23 rfl rfl c0 | exact Y.loadC 2 rfl Try.isAgg23 rfl rfl c1) ?_
    refine Jp.y 23 rfl (want_all rfl) rfl rfl Kp.true (Y.move rfl rfl) ?_
    refine Jp.y 24 rfl (want_all rfl) rfl rfl Kp.true (Y.move rfl rfl) ?_
    refine Jp.y 25 rfl (want_all rfl) rfl rfl Kp.true (by first | exact Y.remN rfl rfl rfl (by omega) (by omega) | exact Y.rem rfl rfl rfl (by first | decide | omega)) ?_
    refine Jp.y 26 rfl (want_all rfl) rfl rfl Kp.true (Y.sub_ rfl rfl rfl (by first | exact wrap_u32 (by omega) (by omega) | rfl)) ?_
    refine Jp.slot 26 rfl (show _ = Value.int .u32 (k : Int) from congrArg (Value.int .u32) (by rw [← hk]; unfold baseN; omega)) ?_
    refine Jp.y 27 rfl (want_all rfl) rfl rfl Kp.true (Y.eql rfl rfl rfl) ?_
    refine Jp.done hK15 ?_
    refine Cd.cond rfl (fun gb => ?_) (fun gb => ?_)
    · have hib : i = f := hst.1 (by simp at gb; omega)
      rw [hib] at hx
      rw [hx] at hG
      refine Cd.seq fun K16 hK16 => ?_
      refine Cd.plain [(0, false), (1, false), (2, false), (3, false), (4, false), (5, false), (6, false), (7, false), (8, false)] rfl rfl ?_
      refine Jp.y 28 rfl (want_all rfl) rfl rfl Kp.true (Y.move rfl rfl) ?_
      refine Jp.y 29 rfl (want_all rfl) rfl rfl Kp.true (Y.nilCheck rfl rfl) ?_
      refine Jp.y 30 rfl (want_all rfl) rfl rfl Kp.true (by first | exact Y.fieldAddrP rfl rfl Try.underlying59 rfl Try.sizeOf57 (by decide) (show _ + 2 = _ from rfl) | exact Y.fieldAddr rfl rfl Try.underlying59 rfl Try.sizeOf57 (by decide)) ?_
      refine Jp.y 31 rfl (want_all rfl) rfl rfl Kp.true (by first | exact Y.loadO 0 rfl Try.isAgg57 rfl rfl rfl | exact Y.loadC 2 rfl Try.isAgg57 rfl rfl c0 | exact Y.loadC 2 rfl Try.isAgg57 rfl rfl c1) ?_
      refine Jp.y 32 rfl (want_all rfl) rfl rfl Kp.true (Y.move rfl rfl) ?_
      refine Jp.y 33 rfl (want_all rfl) rfl rfl Kp.true (Y.indexAddr (q := i * 2) rfl rfl rfl Try.underlying57 Try.sizeOf94 (by omega) (by omega) (by omega)) ?_
      refine Jp.y 34 rfl (want_all rfl) rfl rfl Kp.true (by first | exact Y.fieldAddrP rfl rfl Try.underlying94 rfl Try.sizeOf23 (by decide) (show _ + 1 = _ from rfl) | exact Y.fieldAddr rfl rfl Try.underlying94 rfl Try.sizeOf23 (by decide)) ?_
      refine Jp.y 35 rfl (want_all rfl) rfl rfl Kp.true (by first | exact Y.loadO 0 rfl Try.isAgg23 rfl rfl rfl | exact Y.loadC 2 rfl Try.isAgg23 rfl rfl c0 | exact Y.loadC 2 rfl Try.isAgg23 rfl rfl c1) ?_
      refine Jp.y 4 rfl (want_all rfl) rfl rfl Kp.true (Y.assign rfl rfl) ?_
      refine Jp.done hK16 ?_
      refine Cd.refClose (b := b) (M := M) 0 1 2 (by decide) hf rfl rfl rfl ?_
      refine Cd.ret [(0, _)] rfl (res1 rfl rfl) ⟨rfl, trivial⟩ ⟨rfl, by rw [hG]; rfl, rfl⟩
    · have hib : i ≠ f := fun e => by
        have := hst.2 e
        simp at gb; omega
      refine Cd.over rfl hK14 ?_
      refine Cd.plain [(0, false), (1, false), (2, false)] rfl rfl ?_
      refine Jp.y 13 rfl (want_all rfl) rfl rfl Kp.true (Y.move rfl rfl) ?_
      refine Jp.y 14 rfl (want_all rfl) rfl rfl Kp.true (Y.add_ rfl rfl rfl (by first | exact wrap_i64 (by omega) (by omega) | rfl)) ?_
      refine Jp.y 5 rfl (want_all rfl) rfl rfl Kp.true (Y.assign rfl rfl) ?_
      rw [show (i : Int) + 1 = ((i + 1 : Nat) : Int) by omega]
      refine Jp.again hLa (i + 1) (by omega) (by omega) rfl ⟨rfl, rfl, rfl, trivial⟩ ⟨rfl, rfl, rfl, trivial⟩
  · have hil : ¬ i < gl.length := by simpa using ga
    rw [List.getElem?_eq_none (by omega)] at hG
    refine Cd.exit rfl hK10 ?_
    refine Cd.seq fun K17 hK17 => ?_
    refine Cd.plain [(0, false)] rfl rfl ?_
    refine Jp.y 4 rfl (want_all rfl) rfl rfl Kp.true (Y.assign rfl rfl) ?_
    refine Jp.done hK17 ?_
    refine Cd.refClose (b := b) (M := M) 0 1 2 (by decide) hf rfl rfl rfl ?_
    refine Cd.ret [(0, _)] rfl (res1 rfl rfl) ⟨rfl, trivial⟩ ⟨rfl, by rw [hG]; rfl, rfl⟩
def stretchI (a n : Nat) : Int := match stretch a n with
  | none => -1
  | some p => p
end Go.Proofs.Ytjfgefdcngpplaa
