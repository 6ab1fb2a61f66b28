import Derived.Test.YtgmhijlcdadaeaaZRefD
set_option linter.unusedVariables false
set_option linter.unusedSimpArgs false
set_option maxRecDepth 100000
namespace Go.Proofs.Ytgmhijlcdadaeaa
open Go
theorem wl_succ {l : List (Nat × Pg)} {f : Nat → Bool} {i : Nat} {y : Nat × Pg} (h : l[i]? = some y) : ((l.take (i + 1)).filter fun x => f x.1).map (·.1) = ((l.take i).filter fun x => f x.1).map (·.1) ++ if f y.1 then [y.1] else [] := by
  rw [List.take_add_one, h]
  cases e : f y.1 <;> simp [e]
theorem nodup_lt : ∀ (N : Nat) (l : List Nat), l.Nodup → (∀ x ∈ l, x < N) → l.length ≤ N := by
  intro N
  induction N with
  | zero => intro l _ h; cases l with
    | nil => exact Nat.le_refl _
    | cons x l => exact absurd (h x (List.mem_cons_self ..)) (by omega)
  | succ N ih =>
    intro l hn h
    have h1 := ih (l.erase N) (hn.erase N) fun x hx => by
      have := (hn.mem_erase_iff).1 hx
      have := h x this.2
      omega
    have h2 : l.length ≤ (l.erase N).length + 1 := by rw [List.length_erase]; split <;> omega
    omega
theorem within_le {M : MemG} (h : MemOk M) {a many : Nat} (ha : a % 256 = 0) : (withinP M a many).length ≤ many := by
  have hk : ∀ k ∈ withinP M a many, a ≤ k ∧ k < a + many * 256 ∧ k % 256 = 0 := fun k hk => by
    obtain ⟨h1, h2⟩ := within_mem.1 hk
    obtain ⟨y, hy, rfl⟩ := List.mem_map.1 h2
    simp only [inS, Bool.and_eq_true, decide_eq_true_eq] at h1
    exact ⟨h1.1, h1.2, (h.page y hy).al⟩
  have h1 := nodup_lt many ((withinP M a many).map fun k => (k - a) / 256) (by
    have hn := within_nodup h a many
    rw [List.Nodup] at hn
    rw [List.Nodup, List.pairwise_map]
    refine (List.Pairwise.and_mem.1 hn).imp fun {x y} g => ?_
    have h2 := hk x g.1
    have h3 := hk y g.2.1
    have h4 := g.2.2
    omega) fun x hx => by
      obtain ⟨k, hk2, rfl⟩ := List.mem_map.1 hx
      have := hk k hk2
      omega
  rwa [List.length_map] at h1
theorem refUnmap_spec (b : Nat) (M : MemG) (a n : Nat) (ha : a < 4294967296) (hn : n < 4294967296) : Spec Try.prog 49 #[.pointer (some ⟨b, 0, none⟩), .int .u32 a, .int .u32 n] (fun _ => True) [(0, RefO b M)]
    (fun ρ ρ' v L => ρ' = ρ ∧ v = .int .i64 (unmapM M a n).1 ∧ L = [(0, RefO b (unmapM M a n).2)]) := by
  refine Spec.of 59 Try.func49 rfl Try.ntmps49 [(0, _), (1, _), (2, _)] rfl rfl ?_
  intro cx ρ hr h0
  refine Cd.know (A := RefO b M) 0 rfl RefO.ok fun hmem => ?_
  have hroom := hmem.room
  have hbud := hmem.budget.2
  obtain ⟨s, hs⟩ : ∃ s, stretchI a n = s := ⟨_, rfl⟩
  have hcs := stretchI_cases hs
  have hsm : s ≤ 16777217 := by rcases hcs with h | ⟨m, h⟩ <;> omega
  refine Cd.seq fun K1 hK1 => ?_
  refine Cd.plain [(0, false)] rfl rfl ?_
  refine Jp.y 6 rfl (want_all rfl) rfl rfl Kp.true (Y.assign rfl rfl) ?_
  refine Jp.done hK1 ?_
  refine Cd.seq fun K2 hK2 => ?_
  refine Cd.plain [(0, false), (1, false), (2, false), (3, false)] rfl rfl ?_
  refine Jp.y 10 rfl (want_all rfl) rfl rfl Kp.true (Y.move rfl rfl) ?_
  refine Jp.y 11 rfl (want_all rfl) rfl rfl Kp.true (Y.move rfl rfl) ?_
  refine Jp.call [] [] (refStretch_spec a n ha hn) 12 rfl (want_all rfl) rfl rfl (Runs.fn rfl Try.call90 rfl) (by decide) (by decide) rfl trivial ?_
  rintro v1 ρ1 L1 ⟨rfl, rfl, rfl⟩
  refine ⟨rfl, fun hle1 => ⟨Kp.true, ?_⟩⟩
  rw [hs]
  refine Jp.y 7 rfl (want_all rfl) rfl rfl Kp.true (Y.assign rfl rfl) ?_
  refine Jp.done hK2 ?_
  refine Cd.seq fun K3 hK3 => ?_
  refine Cd.seq fun K4 hK4 => ?_
  refine Cd.plain [(0, false), (1, false)] rfl rfl ?_
  refine Jp.y 13 rfl (want_all rfl) rfl rfl Kp.true (Y.move rfl rfl) ?_
  refine Jp.y 14 rfl (want_all rfl) rfl rfl Kp.true (Y.lss rfl rfl rfl) ?_
  refine Jp.done hK4 ?_
  refine Cd.cond rfl (fun gs => ?_) (fun gs => ?_)
  · simp only [decide_eq_true_eq] at gs
    have hV : unmapM M a n = (1, M) := by
      rw [unmapM]
      rcases hcs with ⟨_, e⟩ | ⟨m, e1, _⟩
      · rw [e]
      · omega
    refine Cd.seq fun K5 hK5 => ?_
    refine Cd.plain [(0, false)] rfl rfl ?_
    refine Jp.y 6 rfl (want_all rfl) rfl rfl Kp.true (Y.assign rfl rfl) ?_
    refine Jp.done hK5 ?_
    refine Cd.ret [(0, _)] rfl (res1 rfl rfl) ⟨rfl, trivial⟩ ⟨rfl, by rw [hV], by rw [hV]⟩
  · simp only [decide_eq_false_iff_not] at gs
    obtain ⟨many, e1, hm, hst⟩ : ∃ m : Nat, s = m ∧ stretch a n = some m ∧ a % 256 = 0 ∧ a + m * 256 ≤ 4294967296 ∧ 0 < m := by
      rcases hcs with h | h
      · omega
      · exact h
    rw [e1]
    have hV : unmapM M a n = (0, { M with pages := M.pages.filter fun y => !inS a many y.1, gens := bumpS M (inS a many) }) := by rw [unmapM, hm]
    obtain ⟨rest, hrest⟩ : ∃ rest : Nat → List (Nat × Pg), ∀ i, rest i = (M.pages.take i).filter fun y => !inS a many y.1 := ⟨_, fun _ => rfl⟩
    obtain ⟨Mi, hMi⟩ : ∃ Mi : Nat → MemG, ∀ i, Mi i = { M with gens := (delL M (((M.pages.take i).filter fun x => inS a many x.1).map (·.1))).gens } := ⟨_, fun _ => rfl⟩
    have hr0 : rest 0 = [] := by rw [hrest]; rfl
    have hrl : rest M.pages.length = M.pages.filter fun y => !inS a many y.1 := by rw [hrest, List.take_length]
    have hrS : ∀ i y, M.pages[i]? = some y → rest (i + 1) = rest i ++ if inS a many y.1 then [] else [y] := fun i y h => by
      rw [hrest, hrest, List.take_add_one, h]
      cases e : inS a many y.1 <;> simp [e]
    have hM0 : Mi 0 = M := by rw [hMi]; rfl
    have hML : ∀ i, (Mi i).pages = M.pages ∧ (Mi i).budget = M.budget := fun i => by rw [hMi]; exact ⟨rfl, rfl⟩
    have hMl : (Mi M.pages.length).gens = bumpS M (inS a many) := by
      rw [hMi, List.take_length]
      show (delL M (withinP M a many)).gens = _
      rw [delL_within hmem (List.Perm.refl _)]
    have hMS : ∀ i y, M.pages[i]? = some y → Mi (i + 1) = if inS a many y.1 then { Mi i with gens := Ytgmhijlcdadaeaa.bump (Mi i).gens y.1 } else Mi i := fun i y h => by
      rw [hMi, hMi, wl_succ h]
      cases e : inS a many y.1
      · simp
      · rw [if_pos rfl, if_pos rfl, delL_snoc]; rfl
    have hrlen : ∀ i, (rest i).length ≤ i := fun i => by
      have h1 := List.length_filter_le (fun y : Nat × Pg => !inS a many y.1) (M.pages.take i)
      rw [← hrest, List.length_take] at h1
      omega
    refine Cd.imp (i := 0) (A := RefO b M) (A' := RefO b (Mi 0)) rfl (fun h hh => by rw [hM0]; exact hh) ?_
    refine Cd.make 3 (A := OwnS 108 258 none (rest 0).length 0 ((rest 0).flatMap refPg)) (by rw [hr0]; exact OwnS.nil _ _ _) ?_
    refine Cd.skip hK3 ?_
    refine Cd.seq fun K6 hK6 => ?_
    refine Cd.plain [(0, false)] rfl rfl ?_
    refine Jp.y 8 rfl (want_all rfl) rfl rfl Kp.true (Y.assign rfl rfl) ?_
    refine Jp.done hK6 ?_
    refine Cd.seq fun K7 hK7 => ?_
    refine Cd.seq fun K8 hK8 => ?_
    refine Cd.plain [(0, false)] rfl rfl ?_
    refine Jp.y 9 rfl (want_all rfl) rfl rfl Kp.true (Y.assign rfl rfl) ?_
    refine Jp.done hK8 ?_
    refine Cd.block ?_
    refine Cd.slot 8 rfl (show _ = Value.slice none (rest 0).length 0 by rw [hr0]; rfl) ?_
    refine Cd.loopK (G := Nat × Option Addr × Nat) (fun g => g.1 ≤ M.pages.length) (fun g => M.pages.length - g.1) (fun _ => _) (fun g => [(8, .slice g.2.1 (rest g.1).length g.2.2), (9, .int .i64 (g.1 : Int))]) [(0, _), (1, _), (7, _)] (fun g => [(0, RefO b (Mi g.1)), (3, OwnS 108 258 g.2.1 (rest g.1).length g.2.2 ((rest g.1).flatMap refPg))]) [] ⟨0, none, 0⟩ (Nat.zero_le _) rfl ⟨rfl, rfl, trivial⟩ ⟨rfl, rfl, rfl, trivial⟩ ⟨rfl, rfl, trivial⟩ trivial (fun g KLa hok hLa => ?_)
    obtain ⟨i, D, d⟩ := g
    dsimp only at hok ⊢
    have hri := hrlen i
    refine Cd.refOpen 0 1 2 (by decide) rfl fun A c B dg gl hf => ?_
    rw [(hML i).1, (hML i).2]
    refine Cd.seq fun K9 hK9 => ?_
    refine Cd.seq fun K10 hK10 => ?_
    refine Cd.plain [(0, false), (1, false), (2, false), (3, false), (4, false), (5, false), (6, false)] rfl rfl ?_
    refine Jp.y 15 rfl (want_all rfl) rfl rfl Kp.true (Y.move rfl rfl) ?_
    refine Jp.y 16 rfl (want_all rfl) rfl rfl Kp.true (Y.move rfl rfl) ?_
    refine Jp.y 17 rfl (want_all rfl) rfl rfl Kp.true (Y.nilCheck rfl rfl) ?_
    refine Jp.y 18 rfl (want_all rfl) rfl rfl Kp.true (by first | exact Y.fieldAddrP rfl rfl Try.underlying88 rfl Try.sizeOf85 (by decide) (show _ + 1 = _ from rfl) | exact Y.fieldAddr rfl rfl Try.underlying88 rfl Try.sizeOf85 (by decide)) ?_
    refine Jp.y 19 rfl (want_all rfl) rfl rfl Kp.true (Y.loadO 0 rfl Try.isAgg85 rfl rfl rfl) ?_
    refine Jp.y 20 rfl (want_all rfl) rfl rfl Kp.true (Y.lenslice rfl Try.underlying85 rfl) ?_
    refine Jp.y 21 rfl (want_all rfl) rfl rfl Kp.true (Y.lss rfl rfl rfl) ?_
    refine Jp.done hK10 ?_
    refine Cd.cond rfl (fun ga => ?_) (fun ga => ?_)
    · have hil : i < M.pages.length := by simp at ga; omega
      have hx : M.pages[i]? = some M.pages[i] := List.getElem?_eq_getElem hil
      obtain ⟨y, hy⟩ : ∃ y, y = M.pages[i] := ⟨_, rfl⟩
      rw [← hy] at hx
      have hyk := hmem.page y (List.mem_of_getElem? hx)
      have hyl := hyk.lt
      have hal := hyk.al
      have hrows : ∀ y ∈ M.pages, (refPg y).length = 258 := fun y hy => refPg_len (hmem.page y hy).len
      have hr2 := hrS i y hx
      have hM2 := hMS i y hx
      refine Cd.ownAt 1 rfl (show 0 < M.pages.length by omega) ?_
      rintro b1 rfl
      have c0 := OwnS.hasC (e := 108) (m := 258) (k := M.pages.length) (c := c) (ad := ⟨b1, 0, none⟩) (rs_get hrows hx (refPg_base y))
      refine Cd.skip hK9 ?_
      refine Cd.seq fun K11 hK11 => ?_
      refine Cd.block ?_
      refine Cd.seq fun K12 hK12 => ?_
      refine Cd.plain [(0, false), (1, false), (2, false), (3, false), (4, false), (5, false), (6, false), (7, false), (8, false), (9, false), (10, false)] rfl rfl ?_
      refine Jp.y 24 rfl (want_all rfl) rfl rfl Kp.true (Y.move rfl rfl) ?_
      refine Jp.y 25 rfl (want_all rfl) rfl rfl Kp.true (Y.nilCheck rfl rfl) ?_
      refine Jp.y 26 rfl (want_all rfl) rfl rfl Kp.true (by first | exact Y.fieldAddrP rfl rfl Try.underlying88 rfl Try.sizeOf85 (by decide) (show _ + 1 = _ from rfl) | exact Y.fieldAddr rfl rfl Try.underlying88 rfl Try.sizeOf85 (by decide)) ?_
      refine Jp.y 27 rfl (want_all rfl) rfl rfl Kp.true (by first | exact Y.loadO 0 rfl Try.isAgg85 rfl rfl rfl | exact Y.loadC 1 rfl Try.isAgg85 rfl rfl c0) ?_
      refine Jp.y 28 rfl (want_all rfl) rfl rfl Kp.true (Y.move rfl rfl) ?_
      refine Jp.y 29 rfl (want_all rfl) rfl rfl Kp.true (Y.indexAddr (q := i * 258) rfl rfl rfl Try.underlying85 Try.sizeOf108 (by omega) (by omega) (by omega)) ?_
      refine Jp.y 30 rfl (want_all rfl) rfl rfl Kp.true (by first | exact Y.fieldAddrP rfl rfl Try.underlying108 rfl Try.sizeOf25 (by decide) (show _ + 0 = _ from rfl) | exact Y.fieldAddr rfl rfl Try.underlying108 rfl Try.sizeOf25 (by decide)) ?_
      refine Jp.y 31 rfl (want_all rfl) rfl rfl Kp.true (by first | exact Y.loadO 0 rfl Try.isAgg25 rfl rfl rfl | exact Y.loadC 1 rfl Try.isAgg25 rfl rfl c0) ?_
      refine Jp.y 32 rfl (want_all rfl) rfl rfl Kp.true (Y.move rfl rfl) ?_
      refine Jp.y 33 rfl (want_all rfl) rfl rfl Kp.true (Y.move rfl rfl) ?_
      refine Jp.call [] [] (refWithin_spec y.1 a many hyl ha (by omega)) 34 rfl (want_all rfl) rfl rfl (Runs.fn rfl Try.call94 rfl) (by decide) (by decide) rfl trivial ?_
      rintro v1 ρ1 L1 ⟨rfl, rfl, rfl⟩
      refine ⟨rfl, fun hle1 => ⟨Kp.true, ?_⟩⟩
      refine Jp.done hK12 ?_
      refine Cd.cond rfl (fun gb => ?_) (fun gb => ?_)
      · rw [if_pos gb] at hM2
        rw [if_pos gb, List.append_nil] at hr2
        refine Cd.plain [(0, false), (1, false), (2, false), (3, false), (4, false), (5, false), (6, false), (7, false), (8, false), (9, false)] rfl rfl ?_
        refine Jp.y 35 rfl (want_all rfl) rfl rfl Kp.true (Y.move rfl rfl) ?_
        refine Jp.y 36 rfl (want_all rfl) rfl rfl Kp.true (Y.move rfl rfl) ?_
        refine Jp.y 37 rfl (want_all rfl) rfl rfl Kp.true (Y.nilCheck rfl rfl) ?_
        refine Jp.y 38 rfl (want_all rfl) rfl rfl Kp.true (by first | exact Y.fieldAddrP rfl rfl Try.underlying88 rfl Try.sizeOf85 (by decide) (show _ + 1 = _ from rfl) | exact Y.fieldAddr rfl rfl Try.underlying88 rfl Try.sizeOf85 (by decide)) ?_
        refine Jp.y 39 rfl (want_all rfl) rfl rfl Kp.true (by first | exact Y.loadO 0 rfl Try.isAgg85 rfl rfl rfl | exact Y.loadC 1 rfl Try.isAgg85 rfl rfl c0) ?_
        refine Jp.y 40 rfl (want_all rfl) rfl rfl Kp.true (Y.move rfl rfl) ?_
        refine Jp.y 41 rfl (want_all rfl) rfl rfl Kp.true (Y.indexAddr (q := i * 258) rfl rfl rfl Try.underlying85 Try.sizeOf108 (by omega) (by omega) (by omega)) ?_
        refine Jp.y 42 rfl (want_all rfl) rfl rfl Kp.true (by first | exact Y.fieldAddrP rfl rfl Try.underlying108 rfl Try.sizeOf25 (by decide) (show _ + 0 = _ from rfl) | exact Y.fieldAddr rfl rfl Try.underlying108 rfl Try.sizeOf25 (by decide)) ?_
        refine Jp.y 43 rfl (want_all rfl) rfl rfl Kp.true (by first | exact Y.loadO 0 rfl Try.isAgg25 rfl rfl rfl | exact Y.loadC 1 rfl Try.isAgg25 rfl rfl c0) ?_
        refine Jp.refClose (b := b) (M := Mi i) (A := some ⟨b1, 0, none⟩) (c := c) (B := B) (d' := dg) (g := gl) 0 1 2 (by decide) hf (by rw [(hML i).1, (hML i).2]; rfl) (by rw [(hML i).1]; rfl) rfl ?_
        refine Jp.call [0] [0] (refBump_spec b (Mi i) y.1 hyl) 44 rfl (want_all rfl) rfl rfl (Runs.fn rfl Try.call93 rfl) (by decide) (by decide) rfl trivial ?_
        rintro v1 ρ1 L1 ⟨rfl, rfl, rfl⟩
        refine ⟨rfl, fun hle1 => ⟨Kp.true, ?_⟩⟩
        rw [base_al hal, ← hM2, ← hr2]
        refine Jp.over rfl hK11 ?_
        refine Cd.plain [(0, false), (1, false), (2, false)] rfl rfl ?_
        refine Jp.y 22 rfl (want_all rfl) rfl rfl Kp.true (Y.move rfl rfl) ?_
        refine Jp.y 23 rfl (want_all rfl) rfl rfl Kp.true (Y.add_ rfl rfl rfl (by first | exact wrap_i64 (by omega) (by omega) | rfl)) ?_
        refine Jp.y 9 rfl (want_all rfl) rfl rfl Kp.true (Y.assign rfl rfl) ?_
        rw [show (i : Int) + 1 = ((i + 1 : Nat) : Int) by omega]
        refine Jp.again hLa ⟨i + 1, D, d⟩ (by show i + 1 ≤ M.pages.length; omega) (by show M.pages.length - (i + 1) < M.pages.length - i; omega) rfl ⟨rfl, rfl, rfl, rfl, rfl, trivial⟩ ⟨rfl, rfl, trivial⟩
      · have gb2 : ¬ inS a many y.1 = true := by rw [gb]; decide
        rw [if_neg gb2] at hM2 hr2
        have hlc : (refPg y).length = 258 := refPg_len hyk.len
        have hone1 : (refPg y).all one = true := by
          have := pgs_one (l := [y])
          simpa using this
        have hfm : (rest i).flatMap refPg ++ refPg y = (rest (i + 1)).flatMap refPg := by
          rw [hr2, List.flatMap_append]; simp
        have hll : (rest (i + 1)).length = (rest i).length + 1 := by rw [hr2, List.length_append]; rfl
        refine Cd.plain [(0, false), (1, false), (2, false), (3, false), (4, false), (5, false), (6, false), (7, false), (8, false), (9, false), (10, false)] rfl rfl ?_
        refine Jp.y 45 rfl (want_all rfl) rfl rfl Kp.true (Y.move rfl rfl) ?_
        refine Jp.y 46 rfl (want_all rfl) rfl rfl Kp.true (Y.move rfl rfl) ?_
        refine Jp.y 47 rfl (want_all rfl) rfl rfl Kp.true (Y.nilCheck rfl rfl) ?_
        refine Jp.y 48 rfl (want_all rfl) rfl rfl Kp.true (by first | exact Y.fieldAddrP rfl rfl Try.underlying88 rfl Try.sizeOf85 (by decide) (show _ + 1 = _ from rfl) | exact Y.fieldAddr rfl rfl Try.underlying88 rfl Try.sizeOf85 (by decide)) ?_
        refine Jp.y 49 rfl (want_all rfl) rfl rfl Kp.true (by first | exact Y.loadO 0 rfl Try.isAgg85 rfl rfl rfl | exact Y.loadC 1 rfl Try.isAgg85 rfl rfl c0) ?_
        refine Jp.y 50 rfl (want_all rfl) rfl rfl Kp.true (Y.move rfl rfl) ?_
        refine Jp.y 51 rfl (want_all rfl) rfl rfl Kp.true (Y.indexAddr (q := i * 258) rfl rfl rfl Try.underlying85 Try.sizeOf108 (by omega) (by omega) (by omega)) ?_
        refine Jp.y 52 rfl (want_all rfl) rfl rfl Kp.true (Y.loadSAgg 1 (q := i * 258) (refPg y) rfl Try.isAgg108 Try.sizeOf108 rfl rfl rfl hlc (fun p x hx2 => rs_get hrows hx hx2)) ?_
        refine Jp.lit 53 9 [(0, _)] (refPg y) rfl (want_all rfl) rfl rfl rfl rfl Try.underlying85 Try.sizeOf108 Try.zeroValue108 rfl rfl (fill_one hlc) hlc rfl fun b9 => ⟨Kp.true, ?_⟩
        refine Jp.append 54 3 rfl (want_all rfl) rfl rfl rfl Try.underlying85 Try.underlying85 (.inl ⟨_, rfl⟩) Try.sizeOf108 Try.typeInfo108 Try.zeroValue108 rfl (by decide) rfl rfl rfl (Src.own 9 rfl) hone1 ((rest (i + 1)).length) (((rest (i + 1)).flatMap refPg)) (by first | omega | simp) hfm (by simp only [Try.t108]; omega) fun A7 c7 => ⟨Kp.true, ?_⟩
        refine Jp.refClose (b := b) (M := Mi i) (A := some ⟨b1, 0, none⟩) (c := c) (B := B) (d' := dg) (g := gl) 0 1 2 (by decide) hf (by rw [(hML i).1, (hML i).2]; rfl) (by rw [(hML i).1]; rfl) rfl ?_
        rw [← hM2]
        refine Jp.y 8 rfl (want_all rfl) rfl rfl Kp.true (Y.assign rfl rfl) ?_
        refine Jp.over rfl hK11 ?_
        refine Cd.plain [(0, false), (1, false), (2, false)] rfl rfl ?_
        refine Jp.y 22 rfl (want_all rfl) rfl rfl Kp.true (Y.move rfl rfl) ?_
        refine Jp.y 23 rfl (want_all rfl) rfl rfl Kp.true (Y.add_ rfl rfl rfl (by first | exact wrap_i64 (by omega) (by omega) | rfl)) ?_
        refine Jp.y 9 rfl (want_all rfl) rfl rfl Kp.true (Y.assign rfl rfl) ?_
        rw [show (i : Int) + 1 = ((i + 1 : Nat) : Int) by omega]
        refine Jp.again hLa ⟨i + 1, A7, c7⟩ (by show i + 1 ≤ M.pages.length; omega) (by show M.pages.length - (i + 1) < M.pages.length - i; omega) rfl ⟨rfl, rfl, rfl, rfl, rfl, trivial⟩ ⟨rfl, rfl, trivial⟩
    · have hil : i = M.pages.length := by have : ¬ i < M.pages.length := by simpa using ga
                                          omega
      have hnew : MemOk { M with pages := rest i, gens := (Mi i).gens } := by
        refine ⟨?_, fun x hx => ?_, fun k => hf.ok.gens k, ?_, hmem.budget⟩
        · show Rising (rest i)
          rw [hil, hrl]; exact hmem.rising.sublist List.filter_sublist
        · have hx : x ∈ rest i := hx
          rw [hil, hrl] at hx; exact hmem.page x ((List.mem_filter.1 hx).1)
        · show (rest i).length ≤ M.budget
          omega
      refine Cd.exit rfl hK7 ?_
      refine Cd.seq fun K13 hK13 => ?_
      refine Cd.plain [(0, false), (1, false), (2, false), (3, false), (4, false)] rfl rfl ?_
      refine Jp.y 55 rfl (want_all rfl) rfl rfl Kp.true (Y.move rfl rfl) ?_
      refine Jp.y 56 rfl (want_all rfl) rfl rfl Kp.true (Y.move rfl rfl) ?_
      refine Jp.y 57 rfl (want_all rfl) rfl rfl Kp.true (Y.nilCheck rfl rfl) ?_
      refine Jp.y 58 rfl (want_all rfl) rfl rfl Kp.true (by first | exact Y.fieldAddrP rfl rfl Try.underlying88 rfl Try.sizeOf85 (by decide) (show _ + 1 = _ from rfl) | exact Y.fieldAddr rfl rfl Try.underlying88 rfl Try.sizeOf85 (by decide)) ?_
      refine Jp.store 0 rfl (want_all rfl) rfl rfl Try.sizeOf85 rfl rfl rfl rfl rfl rfl Kp.true ?_
      refine Jp.done hK13 ?_
      refine Cd.seq fun K14 hK14 => ?_
      refine Cd.plain [(0, false)] rfl rfl ?_
      refine Jp.y 6 rfl (want_all rfl) rfl rfl Kp.true (Y.assign rfl rfl) ?_
      refine Jp.done hK14 ?_
      refine Cd.refClose (b := b) (M := { M with pages := rest i, gens := (Mi i).gens }) (A := D) (c := d) (B := B) (d' := dg) (g := gl) 0 3 2 (by decide) ⟨hnew, hf.gen⟩ rfl rfl rfl ?_
      rw [hil, hrl, hMl]
      refine Cd.ret [(0, _)] rfl (res1 rfl rfl) ⟨rfl, trivial⟩ ⟨rfl, by rw [hV], by rw [hV]⟩
theorem refPg_setPerm (x : Nat × Pg) (perm : Nat) : (refPg x).set 1 (.int .i64 (perm : Int)) = refPg (x.1, ⟨x.2.b, perm⟩) := rfl
theorem refProtect_spec (b : Nat) (M : MemG) (a n : Nat) (perm : Int) (ha : a < 4294967296) (hn : n < 4294967296) : Spec Try.prog 51 #[.pointer (some ⟨b, 0, none⟩), .int .u32 a, .int .u32 n, .int .i64 perm] (fun _ => True) [(0, RefO b M)]
    (fun ρ ρ' v L => ρ' = ρ ∧ v = .int .i64 (protectM M a n perm).1 ∧ L = [(0, RefO b (protectM M a n perm).2)]) := by
  refine Spec.of 68 Try.func51 rfl Try.ntmps51 [(0, _), (1, _), (2, _), (3, _)] rfl rfl ?_
  intro cx ρ hr h0
  refine Cd.know (A := RefO b M) 0 rfl RefO.ok fun hmem => ?_
  have hroom := hmem.room
  have hbud := hmem.budget.2
  obtain ⟨s, hs⟩ : ∃ s, stretchI a n = s := ⟨_, rfl⟩
  have hcs := stretchI_cases hs
  have hbadV : s < 0 ∨ perm < 0 ∨ 7 < perm → protectM M a n perm = (1, M) := fun h => by
    rw [protectM]
    rcases hcs with ⟨_, e⟩ | ⟨m, e1, e2, _⟩
    · rw [e]
    · rw [e2]; dsimp only; rw [if_pos (by omega)]
  have hsm : s ≤ 16777217 := by rcases hcs with h | ⟨m, h⟩ <;> omega
  refine Cd.seq fun K15 hK15 => ?_
  refine Cd.plain [(0, false)] rfl rfl ?_
  refine Jp.y 8 rfl (want_all rfl) rfl rfl Kp.true (Y.assign rfl rfl) ?_
  refine Jp.done hK15 ?_
  refine Cd.seq fun K16 hK16 => ?_
  refine Cd.plain [(0, false), (1, false), (2, false), (3, false)] rfl rfl ?_
  refine Jp.y 11 rfl (want_all rfl) rfl rfl Kp.true (Y.move rfl rfl) ?_
  refine Jp.y 12 rfl (want_all rfl) rfl rfl Kp.true (Y.move rfl rfl) ?_
  refine Jp.call [] [] (refStretch_spec a n ha hn) 13 rfl (want_all rfl) rfl rfl (Runs.fn rfl Try.call90 rfl) (by decide) (by decide) rfl trivial ?_
  rintro v1 ρ1 L1 ⟨rfl, rfl, rfl⟩
  refine ⟨rfl, fun hle1 => ⟨Kp.true, ?_⟩⟩
  rw [hs]
  refine Jp.y 9 rfl (want_all rfl) rfl rfl Kp.true (Y.assign rfl rfl) ?_
  refine Jp.done hK16 ?_
  refine Cd.seq fun K17 hK17 => ?_
  refine Cd.seq fun K18 hK18 => ?_
  refine Cd.plain [(0, false), (1, false), (2, false), (3, false), (4, false), (5, false), (6, false), (7, false), (8, false), (9, false)] rfl rfl ?_
  refine Jp.y 14 rfl (want_all rfl) rfl rfl Kp.true (Y.move rfl rfl) ?_
  refine Jp.y 15 rfl (want_all rfl) rfl rfl Kp.true (Y.lss rfl rfl rfl) ?_
  refine Jp.y 16 rfl (want_all rfl) rfl rfl Kp.true (Y.move rfl rfl) ?_
  refine Jp.split 16 rfl (fun g16 => ?_) (fun g16 => ?_)
  · skip
    try simp only [decide_eq_false_iff_not, decide_eq_true_eq, Int.not_lt, Int.not_le, Bool.not_eq_false, Bool.not_eq_true, Bool.not_true, Bool.not_false, Bool.not_eq_true', Bool.not_eq_false', beq_eq_false_iff_ne, ne_eq, beq_iff_eq, bne_iff_ne, bne_eq_false_iff_eq, Classical.not_not] at g16
    refine Jp.skip 17 rfl (want_as rfl rfl rfl rfl) rfl rfl Kp.true ?_
    refine Jp.skip 18 rfl (want_as rfl rfl rfl rfl) rfl rfl Kp.true ?_
    refine Jp.y 19 rfl (want_all rfl) rfl rfl Kp.true (Y.pickT rfl rfl rfl) ?_
    refine Jp.y 20 rfl (want_all rfl) rfl rfl Kp.true (Y.move rfl rfl) ?_
    refine Jp.skip 21 rfl (want_as rfl rfl rfl rfl) rfl rfl Kp.true ?_
    refine Jp.skip 22 rfl (want_as rfl rfl rfl rfl) rfl rfl Kp.true ?_
    refine Jp.y 23 rfl (want_all rfl) rfl rfl Kp.true (Y.pickT rfl rfl rfl) ?_
    refine Jp.done hK18 ?_
    refine Cd.condT rfl ?_
    refine Cd.seq fun K19 hK19 => ?_
    refine Cd.plain [(0, false)] rfl rfl ?_
    refine Jp.y 8 rfl (want_all rfl) rfl rfl Kp.true (Y.assign rfl rfl) ?_
    refine Jp.done hK19 ?_
    refine Cd.ret [(0, _)] rfl (res1 rfl rfl) ⟨rfl, trivial⟩ ⟨rfl, by rw [hbadV (by omega)], by rw [hbadV (by omega)]⟩
  try simp only [decide_eq_false_iff_not, decide_eq_true_eq, Int.not_lt, Int.not_le, Bool.not_eq_false, Bool.not_eq_true, Bool.not_true, Bool.not_false, Bool.not_eq_true', Bool.not_eq_false', beq_eq_false_iff_ne, ne_eq, beq_iff_eq, bne_iff_ne, bne_eq_false_iff_eq, Classical.not_not] at g16
  refine Jp.y 17 rfl (want_as rfl rfl rfl rfl) rfl rfl Kp.true (Y.move rfl rfl) ?_
  refine Jp.y 18 rfl (want_as rfl rfl rfl rfl) rfl rfl Kp.true (Y.lss rfl rfl rfl) ?_
  refine Jp.y 19 rfl (want_all rfl) rfl rfl Kp.true (Y.pickF rfl rfl rfl) ?_
  refine Jp.y 20 rfl (want_all rfl) rfl rfl Kp.true (Y.move rfl rfl) ?_
  refine Jp.split 20 rfl (fun g20 => ?_) (fun g20 => ?_)
  · skip
    try simp only [decide_eq_false_iff_not, decide_eq_true_eq, Int.not_lt, Int.not_le, Bool.not_eq_false, Bool.not_eq_true, Bool.not_true, Bool.not_false, Bool.not_eq_true', Bool.not_eq_false', beq_eq_false_iff_ne, ne_eq, beq_iff_eq, bne_iff_ne, bne_eq_false_iff_eq, Classical.not_not] at g20
    refine Jp.skip 21 rfl (want_as rfl rfl rfl rfl) rfl rfl Kp.true ?_
    refine Jp.skip 22 rfl (want_as rfl rfl rfl rfl) rfl rfl Kp.true ?_
    refine Jp.y 23 rfl (want_all rfl) rfl rfl Kp.true (Y.pickT rfl rfl rfl) ?_
    refine Jp.done hK18 ?_
    refine Cd.condT rfl ?_
    refine Cd.seq fun K20 hK20 => ?_
    refine Cd.plain [(0, false)] rfl rfl ?_
    refine Jp.y 8 rfl (want_all rfl) rfl rfl Kp.true (Y.assign rfl rfl) ?_
    refine Jp.done hK20 ?_
    refine Cd.ret [(0, _)] rfl (res1 rfl rfl) ⟨rfl, trivial⟩ ⟨rfl, by rw [hbadV (by omega)], by rw [hbadV (by omega)]⟩
  try simp only [decide_eq_false_iff_not, decide_eq_true_eq, Int.not_lt, Int.not_le, Bool.not_eq_false, Bool.not_eq_true, Bool.not_true, Bool.not_false, Bool.not_eq_true', Bool.not_eq_false', beq_eq_false_iff_ne, ne_eq, beq_iff_eq, bne_iff_ne, bne_eq_false_iff_eq, Classical.not_not] at g20
  refine Jp.y 21 rfl (want_as rfl rfl rfl rfl) rfl rfl Kp.true (Y.move rfl rfl) ?_
  refine Jp.y 22 rfl (want_as rfl rfl rfl rfl) rfl rfl Kp.true (Y.gtr rfl rfl rfl) ?_
  refine Jp.y 23 rfl (want_all rfl) rfl rfl Kp.true (Y.pickF rfl rfl rfl) ?_
  refine Jp.done hK18 ?_
  refine Cd.cond rfl (fun g23 => ?_) (fun g23 => ?_)
  · skip
    try simp only [decide_eq_false_iff_not, decide_eq_true_eq, Int.not_lt, Int.not_le, Bool.not_eq_false, Bool.not_eq_true, Bool.not_true, Bool.not_false, Bool.not_eq_true', Bool.not_eq_false', beq_eq_false_iff_ne, ne_eq, beq_iff_eq, bne_iff_ne, bne_eq_false_iff_eq, Classical.not_not] at g23
    refine Cd.seq fun K21 hK21 => ?_
    refine Cd.plain [(0, false)] rfl rfl ?_
    refine Jp.y 8 rfl (want_all rfl) rfl rfl Kp.true (Y.assign rfl rfl) ?_
    refine Jp.done hK21 ?_
    refine Cd.ret [(0, _)] rfl (res1 rfl rfl) ⟨rfl, trivial⟩ ⟨rfl, by rw [hbadV (by omega)], by rw [hbadV (by omega)]⟩
  try simp only [decide_eq_false_iff_not, decide_eq_true_eq, Int.not_lt, Int.not_le, Bool.not_eq_false, Bool.not_eq_true, Bool.not_true, Bool.not_false, Bool.not_eq_true', Bool.not_eq_false', beq_eq_false_iff_ne, ne_eq, beq_iff_eq, bne_iff_ne, bne_eq_false_iff_eq, Classical.not_not] at g23
  refine Cd.skip hK17 ?_
  refine Cd.seq fun K22 hK22 => ?_
  refine Cd.seq fun K23 hK23 => ?_
  refine Cd.plain [(0, false), (1, false), (2, false), (3, false), (4, false), (5, false)] rfl rfl ?_
  obtain ⟨many, e1, hm, hst⟩ : ∃ m : Nat, s = m ∧ stretch a n = some m ∧ a % 256 = 0 ∧ a + m * 256 ≤ 4294967296 ∧ 0 < m := by
    rcases hcs with h | h
    · omega
    · exact h
  obtain ⟨pn, rfl⟩ := Int.eq_ofNat_of_zero_le (show 0 ≤ perm by omega)
  rw [e1]
  have hwl := within_le hmem (a := a) (many := many) hst.1
  refine Jp.y 24 rfl (want_all rfl) rfl rfl Kp.true (Y.move rfl rfl) ?_
  refine Jp.y 25 rfl (want_all rfl) rfl rfl Kp.true (Y.move rfl rfl) ?_
  refine Jp.y 26 rfl (want_all rfl) rfl rfl Kp.true (Y.move rfl rfl) ?_
  refine Jp.call [0] [0] (refThere_spec b M a many ha (by omega)) 27 rfl (want_all rfl) rfl rfl (Runs.fn rfl Try.call91 rfl) (by decide) (by decide) rfl trivial ?_
  rintro v1 ρ1 L1 ⟨rfl, rfl, rfl⟩
  refine ⟨rfl, fun hle1 => ⟨Kp.true, ?_⟩⟩
  refine Jp.y 28 rfl (want_all rfl) rfl rfl Kp.true (Y.move rfl rfl) ?_
  refine Jp.y 29 rfl (want_all rfl) rfl rfl Kp.true (Y.lss rfl rfl rfl) ?_
  refine Jp.done hK23 ?_
  refine Cd.cond rfl (fun ge => ?_) (fun ge => ?_)
  · simp only [decide_eq_true_eq] at ge
    have hV : protectM M a n pn = (4, M) := by
      rw [protectM, hm]; dsimp only; rw [if_neg (by omega), if_pos (by omega)]
    refine Cd.seq fun K24 hK24 => ?_
    refine Cd.plain [(0, false)] rfl rfl ?_
    refine Jp.y 8 rfl (want_all rfl) rfl rfl Kp.true (Y.assign rfl rfl) ?_
    refine Jp.done hK24 ?_
    refine Cd.ret [(0, _)] rfl (res1 rfl rfl) ⟨rfl, trivial⟩ ⟨rfl, by rw [hV], by rw [hV]⟩
  · simp only [decide_eq_false_iff_not] at ge
    have hpn : pn ≤ 7 := by omega
    have hV : protectM M a n pn = (0, protL M pn (withinP M a many)) := by
      rw [protectM, hm, protL_within hmem (List.Perm.refl _)]; dsimp only; rw [if_neg (by omega), if_neg (by omega)]; rfl
    obtain ⟨wl, hwl2⟩ : ∃ wl : Nat → List Nat, ∀ i, wl i = ((M.pages.take i).filter fun x => inS a many x.1).map (·.1) := ⟨_, fun _ => rfl⟩
    have hwS : ∀ i y, M.pages[i]? = some y → wl (i + 1) = wl i ++ if inS a many y.1 then [y.1] else [] := fun i y h => by rw [hwl2, hwl2, wl_succ h]
    have hw0 : wl 0 = [] := by rw [hwl2]; rfl
    have hwl3 : wl M.pages.length = withinP M a many := by rw [hwl2, List.take_length]; rfl
    have hwn : ∀ i, (wl i).Nodup := fun i => by
      rw [hwl2]
      exact hmem.rising.nodup.sublist ((List.filter_sublist.trans (List.take_sublist i M.pages)).map _)
    obtain ⟨Mi, hMi⟩ : ∃ Mi : Nat → MemG, ∀ i, Mi i = protL M pn (wl i) := ⟨_, fun _ => rfl⟩
    have hM0 : Mi 0 = M := by rw [hMi, hw0]; rfl
    have hMl : Mi M.pages.length = protL M pn (withinP M a many) := by rw [hMi, hwl3]
    have hML : ∀ i, (Mi i).pages = M.pages.map (fun y => (y.1, if y.1 ∈ wl i then ⟨y.2.b, pn⟩ else y.2)) ∧ (Mi i).budget = M.budget := fun i => by
      rw [hMi, protL_eq hmem.rising.nodup (hwn i)]; exact ⟨rfl, rfl⟩
    have hlen : ∀ i, (Mi i).pages.length = M.pages.length := fun i => by rw [(hML i).1, List.length_map]
    have hMS : ∀ i y, M.pages[i]? = some y → Mi (i + 1) = if inS a many y.1 then prot1 pn (Mi i) y.1 else Mi i := fun i y h => by
      rw [hMi, hMi, hwS i y h]
      cases e : inS a many y.1
      · simp
      · rw [if_pos rfl, if_pos rfl, protL_snoc]
    refine Cd.imp (i := 0) (A := RefO b M) (A' := RefO b (Mi 0)) rfl (fun h hh => by rw [hM0]; exact hh) ?_
    refine Cd.skip hK22 ?_
    refine Cd.seq fun K25 hK25 => ?_
    refine Cd.seq fun K26 hK26 => ?_
    refine Cd.plain [(0, false)] rfl rfl ?_
    refine Jp.y 10 rfl (want_all rfl) rfl rfl Kp.true (Y.assign rfl rfl) ?_
    refine Jp.done hK26 ?_
    refine Cd.block ?_
    refine Cd.loopK (G := Nat) (fun i => i ≤ M.pages.length) (fun i => M.pages.length - i) (fun _ => _) (fun i => [(10, .int .i64 (i : Int))]) [(0, _), (1, _), (3, _), (9, _)] (fun i => [(0, RefO b (Mi i))]) [] 0 (Nat.zero_le _) rfl ⟨rfl, trivial⟩ ⟨rfl, rfl, rfl, rfl, trivial⟩ ⟨rfl, trivial⟩ trivial (fun g KLa hok hLa => ?_)
    obtain ⟨i, hi⟩ : ∃ i, i = g := ⟨_, rfl⟩
    rw [← hi] at hok ⊢
    have hli := hlen i
    refine Cd.refOpen 0 1 2 (by decide) rfl fun A c B dg gl hf => ?_
    have hrows := hf.rows
    have hmi := hf.ok
    refine Cd.seq fun K27 hK27 => ?_
    refine Cd.seq fun K28 hK28 => ?_
    refine Cd.plain [(0, false), (1, false), (2, false), (3, false), (4, false), (5, false), (6, false)] rfl rfl ?_
    refine Jp.y 30 rfl (want_all rfl) rfl rfl Kp.true (Y.move rfl rfl) ?_
    refine Jp.y 31 rfl (want_all rfl) rfl rfl Kp.true (Y.move rfl rfl) ?_
    refine Jp.y 32 rfl (want_all rfl) rfl rfl Kp.true (Y.nilCheck rfl rfl) ?_
    refine Jp.y 33 rfl (want_all rfl) rfl rfl Kp.true (by first | exact Y.fieldAddrP rfl rfl Try.underlying88 rfl Try.sizeOf85 (by decide) (show _ + 1 = _ from rfl) | exact Y.fieldAddr rfl rfl Try.underlying88 rfl Try.sizeOf85 (by decide)) ?_
    refine Jp.y 34 rfl (want_all rfl) rfl rfl Kp.true (Y.loadO 0 rfl Try.isAgg85 rfl rfl rfl) ?_
    refine Jp.y 35 rfl (want_all rfl) rfl rfl Kp.true (Y.lenslice rfl Try.underlying85 rfl) ?_
    refine Jp.y 36 rfl (want_all rfl) rfl rfl Kp.true (Y.lss rfl rfl rfl) ?_
    refine Jp.done hK28 ?_
    refine Cd.cond rfl (fun ga => ?_) (fun ga => ?_)
    · have hil : i < M.pages.length := by simp at ga; omega
      have hx0 : M.pages[i]? = some M.pages[i] := List.getElem?_eq_getElem hil
      obtain ⟨y, hy⟩ : ∃ y, y = M.pages[i] := ⟨_, rfl⟩
      rw [← hy] at hx0
      have hyk := hmem.page y (List.mem_of_getElem? hx0)
      have hyl := hyk.lt
      have hal := hyk.al
      have hM2 := hMS i y hx0
      obtain ⟨q, hx⟩ : ∃ q, (Mi i).pages[i]? = some (y.1, q) := by
        rw [(hML i).1, List.getElem?_map, hx0]; exact ⟨_, rfl⟩
      obtain ⟨M1, hM1⟩ : ∃ M1, Mi i = M1 := ⟨_, rfl⟩
      rw [hM1] at hx hM2 hli hf hrows hmi ⊢
      refine Cd.ownAt 1 rfl (show 0 < M1.pages.length by omega) ?_
      rintro b1 rfl
      have c0 := OwnS.hasC (e := 108) (m := 258) (k := M1.pages.length) (c := c) (ad := ⟨b1, 0, none⟩) (rs_get hrows hx (refPg_base _))
      refine Cd.skip hK27 ?_
      refine Cd.seq fun K29 hK29 => ?_
      refine Cd.block ?_
      refine Cd.seq fun K30 hK30 => ?_
      refine Cd.plain [(0, false), (1, false), (2, false), (3, false), (4, false), (5, false), (6, false), (7, false), (8, false), (9, false), (10, false)] rfl rfl ?_
      refine Jp.y 39 rfl (want_all rfl) rfl rfl Kp.true (Y.move rfl rfl) ?_
      refine Jp.y 40 rfl (want_all rfl) rfl rfl Kp.true (Y.nilCheck rfl rfl) ?_
      refine Jp.y 41 rfl (want_all rfl) rfl rfl Kp.true (by first | exact Y.fieldAddrP rfl rfl Try.underlying88 rfl Try.sizeOf85 (by decide) (show _ + 1 = _ from rfl) | exact Y.fieldAddr rfl rfl Try.underlying88 rfl Try.sizeOf85 (by decide)) ?_
      refine Jp.y 42 rfl (want_all rfl) rfl rfl Kp.true (by first | exact Y.loadO 0 rfl Try.isAgg85 rfl rfl rfl | exact Y.loadC 1 rfl Try.isAgg85 rfl rfl c0) ?_
      refine Jp.y 43 rfl (want_all rfl) rfl rfl Kp.true (Y.move rfl rfl) ?_
      refine Jp.y 44 rfl (want_all rfl) rfl rfl Kp.true (Y.indexAddr (q := i * 258) rfl rfl rfl Try.underlying85 Try.sizeOf108 (by omega) (by omega) (by omega)) ?_
      refine Jp.y 45 rfl (want_all rfl) rfl rfl Kp.true (by first | exact Y.fieldAddrP rfl rfl Try.underlying108 rfl Try.sizeOf25 (by decide) (show _ + 0 = _ from rfl) | exact Y.fieldAddr rfl rfl Try.underlying108 rfl Try.sizeOf25 (by decide)) ?_
      refine Jp.y 46 rfl (want_all rfl) rfl rfl Kp.true (by first | exact Y.loadO 0 rfl Try.isAgg25 rfl rfl rfl | exact Y.loadC 1 rfl Try.isAgg25 rfl rfl c0) ?_
      refine Jp.y 47 rfl (want_all rfl) rfl rfl Kp.true (Y.move rfl rfl) ?_
      refine Jp.y 48 rfl (want_all rfl) rfl rfl Kp.true (Y.move rfl rfl) ?_
      refine Jp.call [] [] (refWithin_spec y.1 a many hyl ha (by omega)) 49 rfl (want_all rfl) rfl rfl (Runs.fn rfl Try.call94 rfl) (by decide) (by decide) rfl trivial ?_
      rintro v1 ρ1 L1 ⟨rfl, rfl, rfl⟩
      refine ⟨rfl, fun hle1 => ⟨Kp.true, ?_⟩⟩
      refine Jp.done hK30 ?_
      refine Cd.cond rfl (fun gb => ?_) (fun gb => ?_)
      · rw [if_pos gb] at hM2
        obtain ⟨l2, hl2⟩ : ∃ l2, M1.pages.set i (y.1, ⟨q.b, pn⟩) = l2 := ⟨_, rfl⟩
        have hset : (M1.pages.flatMap refPg).set (i * 258 + 1) (.int .i64 (pn : Int)) = l2.flatMap refPg := by
          rw [← hl2]
          exact rs_set hrows hx (by omega) (refPg_setPerm _ _)
        have hl2l : l2.length = M1.pages.length := by rw [← hl2, List.length_set]
        have hgq : getPg M1.pages y.1 = some q := getPg_of_mem hmi.rising.nodup (List.mem_of_getElem? hx)
        have hfi : posA M1.pages y.1 = i := by
          have h1 := pos_some hmi.rising hgq
          have h2 := List.getElem?_eq_some_iff.1 h1
          have h3 := List.getElem?_eq_some_iff.1 hx
          rcases Nat.lt_trichotomy (posA M1.pages y.1) i with h | h | h
          · have h4 := List.pairwise_iff_getElem.1 hmi.rising _ _ h2.1 h3.1 h
            rw [h2.2, h3.2] at h4
            dsimp only at h4; omega
          · exact h
          · have h4 := List.pairwise_iff_getElem.1 hmi.rising _ _ h3.1 h2.1 h
            rw [h2.2, h3.2] at h4
            dsimp only at h4; omega
        have hsp : setPerm M1.pages y.1 pn = l2 := by
          rw [setPerm, hgq]
          dsimp only
          rw [pos_set hmi.rising hgq, hfi, hl2]
        have hok2 := prot1_ok hmi hpn y.1
        rw [hsp] at hok2
        have hx2 : l2[i]? = some (y.1, ⟨q.b, pn⟩) := by rw [← hl2]; exact List.getElem?_set_self (by omega)
        have hrows2 : ∀ z ∈ l2, (refPg z).length = 258 := fun z hz => refPg_len (hok2.page z hz).len
        have hp1 : prot1 pn M1 y.1 = { M1 with pages := l2, gens := Ytgmhijlcdadaeaa.bump M1.gens y.1 } := by rw [prot1, hsp]
        rw [hp1] at hM2
        refine Cd.seq fun K31 hK31 => ?_
        refine Cd.plain [(0, false), (1, false), (2, false), (3, false), (4, false), (5, false), (6, false), (7, false), (8, false)] rfl rfl ?_
        refine Jp.y 50 rfl (want_all rfl) rfl rfl Kp.true (Y.move rfl rfl) ?_
        refine Jp.y 51 rfl (want_all rfl) rfl rfl Kp.true (Y.nilCheck rfl rfl) ?_
        refine Jp.y 52 rfl (want_all rfl) rfl rfl Kp.true (by first | exact Y.fieldAddrP rfl rfl Try.underlying88 rfl Try.sizeOf85 (by decide) (show _ + 1 = _ from rfl) | exact Y.fieldAddr rfl rfl Try.underlying88 rfl Try.sizeOf85 (by decide)) ?_
        refine Jp.y 53 rfl (want_all rfl) rfl rfl Kp.true (by first | exact Y.loadO 0 rfl Try.isAgg85 rfl rfl rfl | exact Y.loadC 1 rfl Try.isAgg85 rfl rfl c0) ?_
        refine Jp.y 54 rfl (want_all rfl) rfl rfl Kp.true (Y.move rfl rfl) ?_
        refine Jp.y 55 rfl (want_all rfl) rfl rfl Kp.true (Y.move rfl rfl) ?_
        refine Jp.y 56 rfl (want_all rfl) rfl rfl Kp.true (Y.indexAddr (q := i * 258) rfl rfl rfl Try.underlying85 Try.sizeOf108 (by omega) (by omega) (by omega)) ?_
        refine Jp.slot 56 rfl (show _ = Value.pointer (some ⟨b1, i * 258, none⟩) by rw [add_mk, Nat.zero_add]) ?_
        refine Jp.y 57 rfl (want_all rfl) rfl rfl Kp.true (by first | exact Y.fieldAddrP rfl rfl Try.underlying108 rfl Try.sizeOf3 (by decide) (show _ + 1 = _ from rfl) | exact Y.fieldAddr rfl rfl Try.underlying108 rfl Try.sizeOf3 (by decide)) ?_
        refine Jp.storeS 1 (q := i * 258 + 1) rfl (want_all rfl) rfl rfl Try.sizeOf3 rfl rfl rfl rfl (by rw [add_mk, Nat.zero_add]) (by omega) (l2.flatMap refPg) hset Kp.true ?_
        rw [← hl2l] at hli ⊢
        have c2 := OwnS.hasC (e := 108) (m := 258) (k := l2.length) (c := c) (ad := ⟨b1, 0, none⟩) (rs_get hrows2 hx2 (refPg_base _))
        refine Jp.done hK31 ?_
        refine Cd.plain [(0, false), (1, false), (2, false), (3, false), (4, false), (5, false), (6, false), (7, false), (8, false), (9, false)] rfl rfl ?_
        refine Jp.y 58 rfl (want_all rfl) rfl rfl Kp.true (Y.move rfl rfl) ?_
        refine Jp.y 59 rfl (want_all rfl) rfl rfl Kp.true (Y.move rfl rfl) ?_
        refine Jp.y 60 rfl (want_all rfl) rfl rfl Kp.true (Y.nilCheck rfl rfl) ?_
        refine Jp.y 61 rfl (want_all rfl) rfl rfl Kp.true (by first | exact Y.fieldAddrP rfl rfl Try.underlying88 rfl Try.sizeOf85 (by decide) (show _ + 1 = _ from rfl) | exact Y.fieldAddr rfl rfl Try.underlying88 rfl Try.sizeOf85 (by decide)) ?_
        refine Jp.y 62 rfl (want_all rfl) rfl rfl Kp.true (by first | exact Y.loadO 0 rfl Try.isAgg85 rfl rfl rfl | exact Y.loadC 1 rfl Try.isAgg85 rfl rfl c2) ?_
        refine Jp.y 63 rfl (want_all rfl) rfl rfl Kp.true (Y.move rfl rfl) ?_
        refine Jp.y 64 rfl (want_all rfl) rfl rfl Kp.true (Y.indexAddr (q := i * 258) rfl rfl rfl Try.underlying85 Try.sizeOf108 (by omega) (by omega) (by omega)) ?_
        refine Jp.y 65 rfl (want_all rfl) rfl rfl Kp.true (by first | exact Y.fieldAddrP rfl rfl Try.underlying108 rfl Try.sizeOf25 (by decide) (show _ + 0 = _ from rfl) | exact Y.fieldAddr rfl rfl Try.underlying108 rfl Try.sizeOf25 (by decide)) ?_
        refine Jp.y 66 rfl (want_all rfl) rfl rfl Kp.true (by first | exact Y.loadO 0 rfl Try.isAgg25 rfl rfl rfl | exact Y.loadC 1 rfl Try.isAgg25 rfl rfl c2) ?_
        refine Jp.refClose (b := b) (M := { M1 with pages := l2 }) (A := some ⟨b1, 0, none⟩) (c := c) (B := B) (d' := dg) (g := gl) 0 1 2 (by decide) ⟨hok2, hf.gen⟩ rfl rfl rfl ?_
        refine Jp.call [0] [0] (refBump_spec b { M1 with pages := l2 } y.1 hyl) 67 rfl (want_all rfl) rfl rfl (Runs.fn rfl Try.call93 rfl) (by decide) (by decide) rfl trivial ?_
        rintro v1 ρ1 L1 ⟨rfl, rfl, rfl⟩
        refine ⟨rfl, fun hle1 => ⟨Kp.true, ?_⟩⟩
        rw [base_al hal, ← hM2]
        refine Jp.over rfl hK29 ?_
        refine Cd.plain [(0, false), (1, false), (2, false)] rfl rfl ?_
        refine Jp.y 37 rfl (want_all rfl) rfl rfl Kp.true (Y.move rfl rfl) ?_
        refine Jp.y 38 rfl (want_all rfl) rfl rfl Kp.true (Y.add_ rfl rfl rfl (by first | exact wrap_i64 (by omega) (by omega) | rfl)) ?_
        refine Jp.y 10 rfl (want_all rfl) rfl rfl Kp.true (Y.assign rfl rfl) ?_
        rw [show (i : Int) + 1 = ((i + 1 : Nat) : Int) by omega]
        refine Jp.again hLa (i + 1) (by omega) (by omega) rfl ⟨rfl, rfl, rfl, rfl, rfl, trivial⟩ ⟨rfl, trivial⟩
      · have gb2 : ¬ inS a many y.1 = true := by rw [gb]; decide
        rw [if_neg gb2] at hM2
        refine Cd.refClose (b := b) (M := M1) (A := some ⟨b1, 0, none⟩) (c := c) (B := B) (d' := dg) (g := gl) 0 1 2 (by decide) hf rfl rfl rfl ?_
        rw [← hM2]
        refine Cd.over rfl hK29 ?_
        refine Cd.plain [(0, false), (1, false), (2, false)] rfl rfl ?_
        refine Jp.y 37 rfl (want_all rfl) rfl rfl Kp.true (Y.move rfl rfl) ?_
        refine Jp.y 38 rfl (want_all rfl) rfl rfl Kp.true (Y.add_ rfl rfl rfl (by first | exact wrap_i64 (by omega) (by omega) | rfl)) ?_
        refine Jp.y 10 rfl (want_all rfl) rfl rfl Kp.true (Y.assign rfl rfl) ?_
        rw [show (i : Int) + 1 = ((i + 1 : Nat) : Int) by omega]
        refine Jp.again hLa (i + 1) (by omega) (by omega) rfl ⟨rfl, rfl, rfl, rfl, rfl, trivial⟩ ⟨rfl, trivial⟩
    · have hil : i = M.pages.length := by have : ¬ i < M.pages.length := by simp at ga; omega
                                          omega
      refine Cd.refClose (b := b) (M := Mi i) (A := A) (c := c) (B := B) (d' := dg) (g := gl) 0 1 2 (by decide) hf rfl rfl rfl ?_
      rw [hil, hMl]
      refine Cd.exit rfl hK25 ?_
      refine Cd.seq fun K32 hK32 => ?_
      refine Cd.plain [(0, false)] rfl rfl ?_
      refine Jp.y 8 rfl (want_all rfl) rfl rfl Kp.true (Y.assign rfl rfl) ?_
      refine Jp.done hK32 ?_
      refine Cd.ret [(0, _)] rfl (res1 rfl rfl) ⟨rfl, trivial⟩ ⟨rfl, by rw [hV], by rw [hV]⟩
end Go.Proofs.Ytgmhijlcdadaeaa
