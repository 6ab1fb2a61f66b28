import Derived.Test.YtgmhijlcdadaeaaZShB
set_option linter.unusedVariables false
set_option linter.unusedSimpArgs false
set_option maxRecDepth 100000
namespace Go.Proofs.Ytgmhijlcdadaeaa
open Go
theorem updB_mem {l : List (Nat × Obj)} {b : Nat} {o : Obj} (o' : Obj) (h : (b, o) ∈ l) : (b, o') ∈ updB l b o' := List.mem_map.2 ⟨(b, o), h, by simp⟩
theorem updB_updB (l : List (Nat × Obj)) (b : Nat) (o o' : Obj) : updB (updB l b o) b o' = updB l b o' := by
  rw [updB, updB, updB, List.map_map]
  apply List.map_congr_left
  intro x _
  simp only [Function.comp]
  by_cases h : x.1 = b <;> simp [h]
theorem updB_id {l : List (Nat × Obj)} {b : Nat} {o : Obj} (hn : (l.map (·.1)).Nodup) (h : (b, o) ∈ l) : updB l b o = l := by
  rw [updB]
  have : l.map (fun p => if p.1 = b then (b, o) else p) = l.map id := by
    apply List.map_congr_left
    intro x hx
    split
    · rename_i e
      exact (nodup_map_inj (f := fun p : Nat × Obj => p.1) hn h hx e.symm)
    · rfl
  rw [this, List.map_id]
def c1 (v : UInt8) : Nat := if v = 0 then 0 else 1
theorem cntB_set : ∀ {b : Bytes} {j : Nat} {v : UInt8} (h : j < b.length), cntB (b.set j v) + c1 b[j] = cntB b + c1 v
  | [], j, v, h => by simp at h
  | x :: b, 0, v, h => by
    unfold cntB c1
    simp only [List.set_cons_zero, List.countP_cons, List.getElem_cons_zero]
    by_cases h1 : v = 0 <;> by_cases h2 : x = 0 <;> simp [h1, h2] <;> omega
  | x :: b, j + 1, v, h => by
    have := cntB_set (b := b) (j := j) (v := v) (by simpa using h)
    unfold cntB at this ⊢
    simp only [List.set_cons_succ, List.countP_cons, List.getElem_cons_succ]
    omega
theorem shPut_spec (l : List (Nat × Obj)) (bp : Nat) (p : Pg) (q : Nat) (v : UInt8) (hm : (bp, shPgO p) ∈ l) (hlen : p.b.length = 256) (hcnt : p.perm = cntB p.b) (hq : q < 256) : Spec Try.prog 82 #[.pointer (some ⟨bp, 0, none⟩), .int .i64 q, .int .u8 (v.toNat : Int)] (fun _ => True) [(0, Blks l)]
    (fun ρ ρ' r L => ρ' = ρ ∧ r = .tuple #[] ∧ L = [(0, Blks (updB l bp (shPgO ⟨p.b.set q v, cntB (p.b.set q v)⟩)))]) := by
  refine Spec.of 35 Try.func82 rfl Try.ntmps82 [(0, _), (1, _), (2, _)] rfl rfl ?_
  intro cx ρ hr h0
  refine Cd.know (φ := (l.map (·.1)).Nodup) (A := Blks l) 0 rfl (fun _ h => h.1) fun hnd => ?_
  have hcs := cntB_set (b := p.b) (j := q) (v := v) (by omega)
  have hcl := cntB_len p.b
  have hv256 := v.toNat_lt
  obtain ⟨old, hold⟩ : ∃ x, p.b[q]'(by omega) = x := ⟨_, rfl⟩
  have hcell := Blks.cell hm (pageCells_byte p hlen hq)
  have hcs0 := cntB_set (b := p.b) (j := q) (v := 0) (by omega)
  rw [hold] at hcell hcs hcs0
  have hc3 : c1 old ≤ cntB p.b := by
    have : c1 0 = 0 := rfl
    omega
  have hoz : ((old.toNat : Int) != 0) = decide (c1 old = 1) := by
    unfold c1
    by_cases h : old = 0
    · simp [h]
    · have : old.toNat ≠ 0 := fun e => h (UInt8.toNat_inj.1 (by simpa using e))
      rw [if_neg h]; simp; omega
  have hvz : ((v.toNat : Int) != 0) = decide (c1 v = 1) := by
    unfold c1
    by_cases h : v = 0
    · simp [h]
    · have : v.toNat ≠ 0 := fun e => h (UInt8.toNat_inj.1 (by simpa using e))
      rw [if_neg h]; simp; omega
  have hc1 : c1 old ≤ 1 := by unfold c1; split <;> omega
  have hc2 : c1 v ≤ 1 := by unfold c1; split <;> omega
  have hkeep : ∀ k, Blks l k → Blks (updB l bp (shPgO ⟨p.b, p.perm⟩)) k := fun k hk => by
    have : updB l bp (shPgO ⟨p.b, p.perm⟩) = l := updB_id hnd hm
    rw [this]; exact hk
  refine Cd.seq fun K1 hK1 => ?_
  refine Cd.seq fun K2 hK2 => ?_
  refine Cd.plain [(0, false), (1, false), (2, false), (3, false), (4, false), (5, false), (6, false)] rfl rfl ?_
  refine Jp.y 6 rfl (want_all rfl) rfl rfl Kp.true (Y.move rfl rfl) ?_
  refine Jp.y 7 rfl (want_all rfl) rfl rfl Kp.true (Y.move rfl rfl) ?_
  refine Jp.y 8 rfl (want_all rfl) rfl rfl Kp.true (Y.nilCheck rfl rfl) ?_
  refine Jp.y 9 rfl (want_all rfl) rfl rfl Kp.true (by first | exact Y.fieldAddrP rfl rfl Try.underlying127 rfl Try.sizeOf106 (by decide) (show _ + 0 = _ from rfl) | exact Y.fieldAddr rfl rfl Try.underlying127 rfl Try.sizeOf106 (by decide)) ?_
  refine Jp.y 10 rfl (want_all rfl) rfl rfl Kp.true (Y.indexArrP (q := q) rfl rfl rfl Try.underlying106 Try.sizeOf5 (by omega) (by omega) (by omega)) ?_
  refine Jp.y 11 rfl (want_all rfl) rfl rfl Kp.true (Y.loadC 0 rfl Try.isAgg5 rfl rfl hcell) ?_
  refine Jp.y 12 rfl (want_all rfl) rfl rfl Kp.true (Y.neq rfl rfl rfl) ?_
  refine Jp.done hK2 ?_
  refine Cd.imp (i := 0) rfl (hkeep) ?_
  refine Cd.slot 12 rfl (show _ = Value.bool (decide (c1 old = 1)) from congrArg Value.bool hoz) ?_
  have hstep : ∀ (x : Bytes) (a b' : Nat), x.length = 256 → SetC (Blks (updB l bp (shPgO ⟨x, a⟩))) (Blks (updB l bp (shPgO ⟨x, b'⟩))) bp 256 (.int .i64 (b' : Int)) := fun x a b' hx => by
    refine Blks.set (updB_mem _ hm) (by simp [pageCells, bytesV, hx]) (noFr0 _) ?_
    rw [pageCells_perm2 _ hx]
    exact updB_updB _ _ _ _
  have hperm : ∀ (x : Bytes) (a : Nat), x.length = 256 → HasC (Blks (updB l bp (shPgO ⟨x, a⟩))) ⟨bp, 256, none⟩ (.int .i64 (a : Int)) := fun x a hx => Blks.cell (updB_mem _ hm) (pageCells_perm ⟨x, a⟩ hx)
  refine Cd.joinG (G := Unit) (fun _ => True) (fun _ => []) [(0, _), (1, _), (2, _)] ⟨rfl, rfl, rfl, trivial⟩ (fun _ => [(0, Blks (updB l bp (shPgO ⟨p.b, p.perm - c1 old⟩)))]) [] trivial hK1 (fun g hφ => ?_) (fun hj1 => ?_)
  · clear hφ
    refine Cd.seq fun K3 hK3 => ?_
    refine Cd.seq fun K4 hK4 => ?_
    refine Cd.plain [(0, false), (1, false)] rfl rfl ?_
    refine Jp.y 20 rfl (want_all rfl) rfl rfl Kp.true (Y.move rfl rfl) ?_
    refine Jp.y 21 rfl (want_all rfl) rfl rfl Kp.true (Y.neq rfl rfl rfl) ?_
    refine Jp.done hK4 ?_
    refine Cd.slot 21 rfl (show _ = Value.bool (decide (c1 v = 1)) from congrArg Value.bool hvz) ?_
    refine Cd.joinG (G := Unit) (fun _ => True) (fun _ => []) [(0, _), (1, _), (2, _)] ⟨rfl, rfl, rfl, trivial⟩ (fun _ => [(0, Blks (updB l bp (shPgO ⟨p.b, p.perm - c1 old + c1 v⟩)))]) [] trivial hK3 (fun g hφ => ?_) (fun hj2 => ?_)
    · clear hφ
      have e : p.perm - c1 old + c1 v = cntB (p.b.set q v) := by omega
      rw [e]
      refine Cd.plain [(0, false), (1, false), (2, false), (3, false), (4, false), (5, false), (6, false)] rfl rfl ?_
      refine Jp.y 29 rfl (want_all rfl) rfl rfl Kp.true (Y.move rfl rfl) ?_
      refine Jp.y 30 rfl (want_all rfl) rfl rfl Kp.true (Y.move rfl rfl) ?_
      refine Jp.y 31 rfl (want_all rfl) rfl rfl Kp.true (Y.move rfl rfl) ?_
      refine Jp.y 32 rfl (want_all rfl) rfl rfl Kp.true (Y.nilCheck rfl rfl) ?_
      refine Jp.y 33 rfl (want_all rfl) rfl rfl Kp.true (by first | exact Y.fieldAddrP rfl rfl Try.underlying127 rfl Try.sizeOf106 (by decide) (show _ + 0 = _ from rfl) | exact Y.fieldAddr rfl rfl Try.underlying127 rfl Try.sizeOf106 (by decide)) ?_
      refine Jp.y 34 rfl (want_all rfl) rfl rfl Kp.true (Y.indexArrP (q := q) rfl rfl rfl Try.underlying106 Try.sizeOf5 (by omega) (by omega) (by omega)) ?_
      refine Jp.storeC 0 (Blks (updB l bp (shPgO ⟨p.b.set q v, cntB (p.b.set q v)⟩))) rfl (want_all rfl) rfl rfl Try.sizeOf5 rfl rfl rfl rfl rfl (Blks.set (updB_mem _ hm) (by simp [pageCells, bytesV, hlen]; omega) (noFr0 _) (by rw [pageCells_set ⟨p.b, cntB (p.b.set q v)⟩ hlen hq v]; exact updB_updB _ _ _ _)) Kp.true ?_
      refine Jp.end [(0, _)] rfl (res0 rfl) ⟨rfl, trivial⟩ ⟨rfl, rfl, rfl⟩
    · skip
      refine Cd.cond rfl (fun gv => ?_) (fun gv => ?_)
      · have e : c1 v = 1 := by simpa using gv
        refine Cd.plain [(0, false), (1, false), (2, false), (3, false), (4, false), (5, false), (6, false), (7, false)] rfl rfl ?_
        refine Jp.y 22 rfl (want_all rfl) rfl rfl Kp.true (Y.move rfl rfl) ?_
        refine Jp.y 23 rfl (want_all rfl) rfl rfl Kp.true (Y.nilCheck rfl rfl) ?_
        refine Jp.y 24 rfl (want_all rfl) rfl rfl Kp.true (by first | exact Y.fieldAddrP rfl rfl Try.underlying127 rfl Try.sizeOf3 (by decide) (show _ + 256 = _ from rfl) | exact Y.fieldAddr rfl rfl Try.underlying127 rfl Try.sizeOf3 (by decide)) ?_
        refine Jp.y 25 rfl (want_all rfl) rfl rfl Kp.true (Y.loadC 0 rfl Try.isAgg3 rfl rfl (hperm p.b (p.perm - c1 old) hlen)) ?_
        refine Jp.y 26 rfl (want_all rfl) rfl rfl Kp.true (Y.add_ rfl rfl rfl (by first | exact wrap_i64 (by omega) (by omega) | rfl)) ?_
        refine Jp.y 27 rfl (want_all rfl) rfl rfl Kp.true (Y.nilCheck rfl rfl) ?_
        refine Jp.y 28 rfl (want_all rfl) rfl rfl Kp.true (by first | exact Y.fieldAddrP rfl rfl Try.underlying127 rfl Try.sizeOf3 (by decide) (show _ + 256 = _ from rfl) | exact Y.fieldAddr rfl rfl Try.underlying127 rfl Try.sizeOf3 (by decide)) ?_
        refine Jp.slot 26 rfl (show _ = Value.int .i64 ((p.perm - c1 old + c1 v : Nat) : Int) from congrArg (Value.int .i64) (by omega)) ?_
        refine Jp.storeC 0 (Blks (updB l bp (shPgO ⟨p.b, p.perm - c1 old + c1 v⟩))) rfl (want_all rfl) rfl rfl Try.sizeOf3 rfl rfl rfl rfl rfl (hstep p.b _ _ hlen) Kp.true ?_
        refine Jp.done hK3 ?_
        exact Cd.meet (hj2 () trivial) ⟨rfl, rfl, rfl, trivial⟩ ⟨rfl, trivial⟩
      · have e : c1 v = 0 := by have : ¬ c1 v = 1 := by simpa using gv
                                omega
        refine Cd.imp (i := 0) rfl (fun k hk => (show Blks (updB l bp (shPgO ⟨p.b, p.perm - c1 old + c1 v⟩)) k by rw [e, Nat.add_zero]; exact hk)) ?_
        refine Cd.skip hK3 ?_
        exact Cd.meet (hj2 () trivial) ⟨rfl, rfl, rfl, trivial⟩ ⟨rfl, trivial⟩
  · skip
    refine Cd.cond rfl (fun gv => ?_) (fun gv => ?_)
    · have e : c1 old = 1 := by simpa using gv
      refine Cd.plain [(0, false), (1, false), (2, false), (3, false), (4, false), (5, false), (6, false), (7, false)] rfl rfl ?_
      refine Jp.y 13 rfl (want_all rfl) rfl rfl Kp.true (Y.move rfl rfl) ?_
      refine Jp.y 14 rfl (want_all rfl) rfl rfl Kp.true (Y.nilCheck rfl rfl) ?_
      refine Jp.y 15 rfl (want_all rfl) rfl rfl Kp.true (by first | exact Y.fieldAddrP rfl rfl Try.underlying127 rfl Try.sizeOf3 (by decide) (show _ + 256 = _ from rfl) | exact Y.fieldAddr rfl rfl Try.underlying127 rfl Try.sizeOf3 (by decide)) ?_
      refine Jp.y 16 rfl (want_all rfl) rfl rfl Kp.true (Y.loadC 0 rfl Try.isAgg3 rfl rfl (hperm p.b p.perm hlen)) ?_
      refine Jp.y 17 rfl (want_all rfl) rfl rfl Kp.true (Y.sub_ rfl rfl rfl (by first | exact wrap_i64 (by omega) (by omega) | rfl)) ?_
      refine Jp.y 18 rfl (want_all rfl) rfl rfl Kp.true (Y.nilCheck rfl rfl) ?_
      refine Jp.y 19 rfl (want_all rfl) rfl rfl Kp.true (by first | exact Y.fieldAddrP rfl rfl Try.underlying127 rfl Try.sizeOf3 (by decide) (show _ + 256 = _ from rfl) | exact Y.fieldAddr rfl rfl Try.underlying127 rfl Try.sizeOf3 (by decide)) ?_
      refine Jp.slot 17 rfl (show _ = Value.int .i64 ((p.perm - c1 old : Nat) : Int) from congrArg (Value.int .i64) (by omega)) ?_
      refine Jp.storeC 0 (Blks (updB l bp (shPgO ⟨p.b, p.perm - c1 old⟩))) rfl (want_all rfl) rfl rfl Try.sizeOf3 rfl rfl rfl rfl rfl (hstep p.b _ _ hlen) Kp.true ?_
      refine Jp.done hK1 ?_
      exact Cd.meet (hj1 () trivial) ⟨rfl, rfl, rfl, trivial⟩ ⟨rfl, trivial⟩
    · have e : c1 old = 0 := by have : ¬ c1 old = 1 := by simpa using gv
                                omega
      refine Cd.imp (i := 0) rfl (fun k hk => (show Blks (updB l bp (shPgO ⟨p.b, p.perm - c1 old⟩)) k by rw [e, Nat.sub_zero]; exact hk)) ?_
      refine Cd.skip hK1 ?_
      exact Cd.meet (hj1 () trivial) ⟨rfl, rfl, rfl, trivial⟩ ⟨rfl, trivial⟩
def cOf (l : List (Nat × Pg)) (y : Nat × Pg) : Int := (if 0 < y.2.perm then 1 else 0) - (if (getPg l y.1).isSome then 1 else 0)
def moreP (l now : List (Nat × Pg)) : Int := (now.map (cOf l)).sum
theorem perm_sum {l m : List Int} (h : l.Perm m) : l.sum = m.sum := by
  induction h with
  | nil => rfl
  | cons x _ ih => simp [ih]
  | swap x y l => simp; omega
  | trans _ _ ih1 ih2 => rw [ih1, ih2]
theorem cOf_le (l : List (Nat × Pg)) (y : Nat × Pg) : -1 ≤ cOf l y ∧ cOf l y ≤ 1 := by unfold cOf; split <;> split <;> omega
theorem shMore_spec (b : Nat) (S : ShG) (x : ShX) (hf : ShF S x) (nb : Nat) (nm : MapL) (now : List (Nat × Pg)) (nblk : Nat → Nat) (hnow : nm.Perm (pmOf now nblk)) (hnd : (now.map (·.1)).Nodup) (hlt : ∀ y ∈ now, y.1 < 4294967296 ∧ y.2.b.length = 256) (hl : now.length ≤ 16777216) :
    Spec Try.prog 113 #[.pointer (some ⟨b, 0, none⟩), .map (some nb)] (fun _ => True) [(0, Pt b (shObj S x)), (1, MapO .u32 x.pb x.pm), (2, MapO .u32 nb nm), (3, Blks (shBlks now nblk))]
    (fun ρ ρ' v L => ρ' = ρ ∧ v = .int .i64 (moreP S.pages now) ∧ L = [(0, Pt b (shObj S x)), (1, MapO .u32 x.pb x.pm), (2, MapO .u32 nb nm), (3, Blks (shBlks now nblk))]) := by
  refine Spec.of 32 Try.func113 rfl Try.ntmps113 [(0, _), (1, _)] rfl rfl ?_
  intro cx ρ hr h0
  have hlen := hnow.length_eq
  have hlen2 : (pmOf now nblk).length = now.length := List.length_map ..
  obtain ⟨K, hK⟩ : ∃ K : MapL → List Int, K = fun l => l.map fun y => cOf S.pages (y.1.toNat, (getPg now y.1.toNat).getD ⟨[], 0⟩) := ⟨_, rfl⟩
  have hKp : ∀ p ∈ now, cOf S.pages ((p.1 : Int).toNat, (getPg now (p.1 : Int).toNat).getD ⟨[], 0⟩) = cOf S.pages p := fun p hp => by
    rw [Int.toNat_natCast, getPg_of_mem hnd hp]; rfl
  have hstart : (K nm).sum = moreP S.pages now := by
    rw [hK, perm_sum (hnow.map _), pmOf, List.map_map, moreP]
    congr 1
    exact List.map_congr_left fun p hp => hKp p hp
  refine Cd.seq fun K5 hK5 => ?_
  refine Cd.plain [(0, false)] rfl rfl ?_
  refine Jp.y 4 rfl (want_all rfl) rfl rfl Kp.true (Y.assign rfl rfl) ?_
  refine Jp.done hK5 ?_
  refine Cd.seq fun K6 hK6 => ?_
  refine Cd.plain [(0, false)] rfl rfl ?_
  refine Jp.y 5 rfl (want_all rfl) rfl rfl Kp.true (Y.assign rfl rfl) ?_
  refine Jp.done hK6 ?_
  refine Cd.seq fun K7 hK7 => ?_
  refine Cd.seq fun K8 hK8 => ?_
  refine Cd.plain [(0, false), (1, false)] rfl rfl ?_
  refine Jp.y 8 rfl (want_all rfl) rfl rfl Kp.true (Y.move rfl rfl) ?_
  first | refine Jp.range 9 2 50 (by decide) rfl (want_all rfl) rfl rfl rfl rfl Try.underlying116 rfl fun r2 => ⟨Kp.true, ?_⟩
  refine Jp.done hK8 ?_
  refine Cd.block ?_
  refine Cd.loopK (G := MapL × Int × Option (Int × Value)) (fun g => g.2.1 + (K g.1).sum = moreP S.pages now ∧ (∀ y ∈ g.1, y ∈ nm) ∧ g.2.1.natAbs + g.1.length ≤ 16777216) (fun g => g.1.length) (fun _ => _) (fun g => [(5, .int .i64 g.2.1)]) [(0, _), (9, _)] (fun g => [(2, RangeO .u32 nb r2 nm g.1 g.2.2)]) [(0, _), (1, _), (3, _)] ⟨nm, 0, none⟩ ⟨by rw [hstart]; simp, fun y h => h, by show (0 : Int).natAbs + nm.length ≤ _; simp; omega⟩ rfl ⟨rfl, trivial⟩ ⟨rfl, rfl, trivial⟩ ⟨rfl, trivial⟩ ⟨rfl, rfl, rfl, trivial⟩ (fun g KLa hok hLa => ?_)
  obtain ⟨left, k, cur⟩ := g
  obtain ⟨ok1, ok2, ok3⟩ := hok
  dsimp only at ok1 ok2 ok3 ⊢
  refine Cd.seq fun K9 hK9 => ?_
  refine Cd.plain [(0, false), (1, false)] rfl rfl ?_
  refine Jp.next 10 2 rfl (want_all rfl) rfl rfl (fun _ => rfl) rfl rfl (fun hn => ⟨Kp.true, ?_⟩) (fun q y hq => ⟨Kp.true, ?_⟩)
  · skip
    refine Jp.y 11 rfl (want_all rfl) rfl rfl Kp.true (Y.extract rfl rfl rfl) ?_
    refine Jp.done hK9 ?_
    refine Cd.seq fun K10 hK10 => ?_
    refine Cd.condF rfl ?_
    refine Cd.exit rfl hK7 ?_
    refine Cd.seq fun K11 hK11 => ?_
    refine Cd.plain [(0, false), (1, false)] rfl rfl ?_
    refine Jp.y 31 rfl (want_all rfl) rfl rfl Kp.true (Y.move rfl rfl) ?_
    refine Jp.y 4 rfl (want_all rfl) rfl rfl Kp.true (Y.assign rfl rfl) ?_
    refine Jp.done hK11 ?_
    refine Cd.imp (i := 2) rfl RangeO.map ?_
    subst hn
    refine Cd.ret [(0, _), (1, _), (2, _), (3, _)] rfl (res1 rfl rfl) ⟨rfl, rfl, rfl, rfl, trivial⟩ ⟨rfl, congrArg (Value.int .i64) (by rw [← ok1, hK]; simp), rfl⟩
  · have hy := ok2 y (List.mem_of_getElem? hq)
    obtain ⟨p, hp, hpy⟩ := List.mem_map.1 (hnow.mem_iff.1 hy)
    subst hpy
    obtain ⟨hplt, hplen⟩ := hlt p hp
    have hpe := perm_erase hq
    have hql := (List.getElem?_eq_some_iff.1 hq).1
    have hel : (left.eraseIdx q).length + 1 = left.length := by rw [List.length_eraseIdx, if_pos hql]; omega
    have hsub : ∀ z ∈ left.eraseIdx q, z ∈ nm := fun z hz => ok2 z (List.mem_of_mem_eraseIdx hz)
    have hs : (K left).sum = cOf S.pages p + (K (left.eraseIdx q)).sum := by
      rw [hK, perm_sum (hpe.map _), List.map_cons, List.sum_cons]
      exact congrArg (· + _) (hKp p hp)
    have hcl := cOf_le S.pages p
    have hget := hf.get p.1
    have hmem : (nblk p.1, shPgO p.2) ∈ shBlks now nblk := List.mem_map.2 ⟨p, hp, rfl⟩
    have hcell := Blks.cell hmem (pageCells_perm p.2 hplen)
    have hlook : ∀ P, (mget x.pm (p.1 : Int)).getD (.pointer none) = P → P ≠ Value.pointer none ∨ True := fun _ _ => .inr trivial
    refine Jp.y 11 rfl (want_all rfl) rfl rfl Kp.true (Y.extract rfl rfl rfl) ?_
    refine Jp.done hK9 ?_
    refine Cd.seq fun K12 hK12 => ?_
    refine Cd.condT rfl ?_
    refine Cd.skip hK12 ?_
    refine Cd.block ?_
    refine Cd.seq fun K13 hK13 => ?_
    refine Cd.plain [(0, false), (1, false), (2, false), (3, false), (4, false)] rfl rfl ?_
    refine Jp.y 12 rfl (want_all rfl) rfl rfl Kp.true (by first | exact Y.entry 2 rfl rfl rfl) ?_
    refine Jp.y 13 rfl (want_all rfl) rfl rfl Kp.true (Y.extract rfl rfl rfl) ?_
    refine Jp.y 14 rfl (want_all rfl) rfl rfl Kp.true (Y.extract rfl rfl rfl) ?_
    refine Jp.y 6 rfl (want_all rfl) rfl rfl Kp.true (Y.assign rfl rfl) ?_
    refine Jp.y 7 rfl (want_all rfl) rfl rfl Kp.true (Y.assign rfl rfl) ?_
    refine Jp.done hK13 ?_
    refine Cd.seq fun K14 hK14 => ?_
    refine Cd.seq fun K15 hK15 => ?_
    refine Cd.plain [(0, false), (1, false), (2, false), (3, false), (4, false)] rfl rfl ?_
    refine Jp.y 15 rfl (want_all rfl) rfl rfl Kp.true (Y.move rfl rfl) ?_
    refine Jp.y 16 rfl (want_all rfl) rfl rfl Kp.true (Y.nilCheck rfl rfl) ?_
    refine Jp.y 17 rfl (want_all rfl) rfl rfl Kp.true (by first | exact Y.fieldAddrP rfl rfl Try.underlying127 rfl Try.sizeOf3 (by decide) (show _ + 256 = _ from rfl) | exact Y.fieldAddr rfl rfl Try.underlying127 rfl Try.sizeOf3 (by decide)) ?_
    refine Jp.y 18 rfl (want_all rfl) rfl rfl Kp.true (by first | exact Y.loadO 0 rfl Try.isAgg3 rfl rfl rfl | exact Y.loadC 3 rfl Try.isAgg3 rfl rfl hcell) ?_
    refine Jp.y 19 rfl (want_all rfl) rfl rfl Kp.true (Y.gtr rfl rfl rfl) ?_
    refine Jp.done hK15 ?_
    refine Cd.slot 19 rfl (show _ = Value.bool (decide (0 < p.2.perm)) from congrArg Value.bool (by simp)) ?_
    refine Cd.joinG (G := Unit) (fun _ => True) (fun _ => [(5, .int .i64 (k + (if 0 < p.2.perm then 1 else 0)))]) [(0, _), (6, _), (9, _)] ⟨rfl, rfl, rfl, trivial⟩ (fun _ => []) [(0, _), (1, _), (2, _), (3, _)] ⟨rfl, rfl, rfl, rfl, trivial⟩ hK14 (fun g hφ => ?_) (fun hj3 => ?_)
    · clear hφ
      refine Cd.seq fun K16 hK16 => ?_
      refine Cd.plain [(0, false), (1, false), (2, false), (3, false), (4, false), (5, false), (6, false)] rfl rfl ?_
      rcases hg : getPg S.pages p.1 with _ | p0
      · have hc : cOf S.pages p = (if 0 < p.2.perm then 1 else 0) := by unfold cOf; rw [hg]; simp
        rw [hg] at hget
        refine Jp.y 22 rfl (want_all rfl) rfl rfl Kp.true (Y.move rfl rfl) ?_
        refine Jp.y 23 rfl (want_all rfl) rfl rfl Kp.true (Y.nilCheck rfl rfl) ?_
        refine Jp.y 24 rfl (want_all rfl) rfl rfl Kp.true (by first | exact Y.fieldAddrP rfl rfl Try.underlying118 rfl Try.sizeOf116 (by decide) (show _ + 1 = _ from rfl) | exact Y.fieldAddr rfl rfl Try.underlying118 rfl Try.sizeOf116 (by decide)) ?_
        refine Jp.y 25 rfl (want_all rfl) rfl rfl Kp.true (by first | exact Y.loadO 0 rfl Try.isAgg116 rfl rfl rfl | exact Y.loadC 3 rfl Try.isAgg116 rfl rfl hcell) ?_
        refine Jp.y 26 rfl (want_all rfl) rfl rfl Kp.true (Y.move rfl rfl) ?_
        refine Jp.y 27 rfl (want_all rfl) rfl rfl Kp.true (by first | exact Y.lookup 1 rfl rfl rfl Try.underlying116 Try.underlying25 Try.zeroValue123 rfl) ?_
        refine Jp.slot 27 rfl (show _ = Value.pointer none by rw [hget]; rfl) ?_
        refine Jp.y 28 rfl (want_all rfl) rfl rfl Kp.true (Y.ptrNotNil rfl Try.underlying123 rfl rfl) ?_
        refine Jp.done hK16 ?_
        refine Cd.cond rfl (fun gz => ?_) (fun gz => ?_)
        · exact absurd gz (by simp)
        · rw [← hc]
          refine CdQ.again rfl hLa ⟨left.eraseIdx q, k + cOf S.pages p, _⟩ ⟨by show k + cOf S.pages p + (K (left.eraseIdx q)).sum = _; omega, hsub, by show (k + cOf S.pages p).natAbs + (left.eraseIdx q).length ≤ _; omega⟩ (by show (left.eraseIdx q).length < left.length; omega) rfl ⟨rfl, rfl, rfl, trivial⟩ ⟨rfl, rfl, rfl, rfl, trivial⟩
      · have hc : cOf S.pages p = (if 0 < p.2.perm then 1 else 0) - 1 := by unfold cOf; rw [hg]; simp
        rw [hg] at hget
        refine Jp.y 22 rfl (want_all rfl) rfl rfl Kp.true (Y.move rfl rfl) ?_
        refine Jp.y 23 rfl (want_all rfl) rfl rfl Kp.true (Y.nilCheck rfl rfl) ?_
        refine Jp.y 24 rfl (want_all rfl) rfl rfl Kp.true (by first | exact Y.fieldAddrP rfl rfl Try.underlying118 rfl Try.sizeOf116 (by decide) (show _ + 1 = _ from rfl) | exact Y.fieldAddr rfl rfl Try.underlying118 rfl Try.sizeOf116 (by decide)) ?_
        refine Jp.y 25 rfl (want_all rfl) rfl rfl Kp.true (by first | exact Y.loadO 0 rfl Try.isAgg116 rfl rfl rfl | exact Y.loadC 3 rfl Try.isAgg116 rfl rfl hcell) ?_
        refine Jp.y 26 rfl (want_all rfl) rfl rfl Kp.true (Y.move rfl rfl) ?_
        refine Jp.y 27 rfl (want_all rfl) rfl rfl Kp.true (by first | exact Y.lookup 1 rfl rfl rfl Try.underlying116 Try.underlying25 Try.zeroValue123 rfl) ?_
        refine Jp.slot 27 rfl (show _ = Value.pointer (some ⟨x.blk p.1, 0, none⟩) by rw [hget]; rfl) ?_
        refine Jp.y 28 rfl (want_all rfl) rfl rfl Kp.true (Y.ptrNotNil rfl Try.underlying123 rfl rfl) ?_
        refine Jp.done hK16 ?_
        refine Cd.cond rfl (fun gz => ?_) (fun gz => ?_)
        · have e1 : k + (if 0 < p.2.perm then 1 else 0) = k + cOf S.pages p + 1 := by omega
          rw [e1]
          refine Cd.plain [(0, false), (1, false), (2, false)] rfl rfl ?_
          refine Jp.y 29 rfl (want_all rfl) rfl rfl Kp.true (Y.move rfl rfl) ?_
          refine Jp.y 30 rfl (want_all rfl) rfl rfl Kp.true (Y.sub_ rfl rfl rfl (by first | exact wrap_i64 (by omega) (by omega) | rfl)) ?_
          refine Jp.slot 30 rfl (show _ = Value.int .i64 (k + cOf S.pages p) from congrArg (Value.int .i64) (by omega)) ?_
          refine Jp.y 5 rfl (want_all rfl) rfl rfl Kp.true (Y.assign rfl rfl) ?_
          refine JpQ.again rfl hLa ⟨left.eraseIdx q, k + cOf S.pages p, _⟩ ⟨by show k + cOf S.pages p + (K (left.eraseIdx q)).sum = _; omega, hsub, by show (k + cOf S.pages p).natAbs + (left.eraseIdx q).length ≤ _; omega⟩ (by show (left.eraseIdx q).length < left.length; omega) rfl ⟨rfl, rfl, rfl, trivial⟩ ⟨rfl, rfl, rfl, rfl, trivial⟩
        · exact absurd gz (by simp)
    · skip
      refine Cd.cond rfl (fun gp => ?_) (fun gp => ?_)
      · have e : 0 < p.2.perm := by simpa using gp
        refine Cd.plain [(0, false), (1, false), (2, false)] rfl rfl ?_
        refine Jp.y 20 rfl (want_all rfl) rfl rfl Kp.true (Y.move rfl rfl) ?_
        refine Jp.y 21 rfl (want_all rfl) rfl rfl Kp.true (Y.add_ rfl rfl rfl (by first | exact wrap_i64 (by omega) (by omega) | rfl)) ?_
        refine Jp.slot 21 rfl (show _ = Value.int .i64 (k + (if 0 < p.2.perm then 1 else 0)) from congrArg (Value.int .i64) (by rw [if_pos e])) ?_
        refine Jp.y 5 rfl (want_all rfl) rfl rfl Kp.true (Y.assign rfl rfl) ?_
        refine Jp.done hK14 ?_
        exact Cd.meet (hj3 () trivial) ⟨rfl, rfl, rfl, rfl, trivial⟩ ⟨rfl, rfl, rfl, rfl, trivial⟩
      · have e : ¬ 0 < p.2.perm := by simpa using gp
        refine Cd.slot 5 rfl (show _ = Value.int .i64 (k + (if 0 < p.2.perm then 1 else 0)) from congrArg (Value.int .i64) (by rw [if_neg e, Int.add_zero])) ?_
        refine Cd.skip hK14 ?_
        exact Cd.meet (hj3 () trivial) ⟨rfl, rfl, rfl, rfl, trivial⟩ ⟨rfl, rfl, rfl, rfl, trivial⟩
end Go.Proofs.Ytgmhijlcdadaeaa
