/- Law 11: FilesNumbers. -/
import Derived.Test.YtjjhihlmoecmlaaFilesG
set_option linter.unusedVariables false
set_option linter.unusedSimpArgs false
set_option maxRecDepth 100000
namespace Go.Proofs.Ytjjhihlmoecmlaa
open Go
/-! ### An array of bools -/
def OpO (b : Nat) (os : List Bool) : HProp := Pt b (.cells (os.map Value.bool).toArray 66)
theorem OpO.has {b : Nat} {os : List Bool} {j : Nat} {x : Bool} (h : os[j]? = some x) : HasC (OpO b os) ⟨b, j, none⟩ (.bool x) := fun h' hh' => by
  have hh' : h' b = some (.cells (os.map Value.bool).toArray 66) := hh'
  simp [cellH, hh', h]
theorem OpO.set {b : Nat} {os : List Bool} {j : Nat} (x : Bool) (h : j < os.length) : SetC (OpO b os) (OpO b (os.set j x)) b j (.bool x) := fun h' hh' => by
  refine ⟨_, _, _, hh', by simpa using h, noFr0 _, ?_⟩
  show Hp.upd _ _ _ _ = _
  simp [Hp.upd, ← List.map_set]
structure NInv {α : Type} (op : List (Int × α)) (os : List Bool) : Prop where
  len : os.length = 64
  get : ∀ j : Nat, j < 64 → os[j]? = some (gget op (j : Int)).isSome
  room : op.length ≤ 16
theorem NInv.close {α : Type} {op : List (Int × α)} {os : List Bool} (h : NInv op os) (hn : (op.map (·.1)).Nodup) (k : Nat) : NInv (gdel op (k : Int)) (os.set k false) := by
  refine ⟨by rw [List.length_set, h.len], fun j hj => ?_, ?_⟩
  · rw [List.getElem?_set, gget_gdel hn]
    by_cases hjk : k = j
    · subst hjk; rw [if_pos rfl, if_pos (by rw [h.len]; exact hj), if_pos rfl]; rfl
    · rw [if_neg hjk, if_neg (by omega), h.get j hj]
  · have h1 := congrArg List.length (gdel_keys op (k : Int))
    rw [List.length_map] at h1
    have h2 := List.length_erase_le (a := (k : Int)) (l := op.map (·.1))
    rw [List.length_map] at h2
    have := h.room
    omega
theorem NInv.add {α : Type} {op : List (Int × α)} {os : List Bool} (h : NInv op os) {k : Nat} (hk : gget op (k : Int) = none) (hl : op.length < 16) (v : α) : NInv (gset op (k : Int) v) (os.set k true) := by
  refine ⟨by rw [List.length_set, h.len], fun j hj => ?_, ?_⟩
  · rw [List.getElem?_set, gget_gset]
    by_cases hjk : k = j
    · subst hjk; rw [if_pos rfl, if_pos (by rw [h.len]; exact hj), if_pos rfl]; rfl
    · rw [if_neg hjk, if_neg (by omega), h.get j hj]
  · rw [gset_length, hk]; show op.length + 1 ≤ 16; omega
theorem closeP_some {p : FilesP} {fd : Int} (h : (gget p.op fd).isSome = true) : closeFP p fd = (0, { p with op := gdel p.op fd }) := by rw [closeFP, if_pos h]
theorem closeP_none {p : FilesP} {fd : Int} (h : (gget p.op fd).isSome = false) : closeFP p fd = (-9, p) := by rw [closeFP, if_neg (by rw [h]; simp)]
theorem filesNumbers_spec (l : Sl Int) : Spec Try.prog 8 #[l.v] (RdI .i64 l) [] (fun ρ ρ' v L => v = .bool true ∧ L = []) := by
  obtain ⟨Al, cl, xl⟩ := l
  dsimp only [Sl.v]
  refine Spec.of 80 Try.func8 rfl Try.ntmps8 [(0, _)] rfl rfl ?_
  intro cx ρ hrl h0
  refine Cd.seq fun K1 hK1 => ?_
  refine Cd.plain [(0, false)] rfl rfl ?_
  refine Jp.y 2 rfl (want_all rfl) rfl rfl Kp.true (Y.assign rfl rfl) ?_
  refine Jp.done hK1 ?_
  refine Cd.seq fun K2 hK2 => ?_
  refine Cd.seq fun K3 hK3 => ?_
  refine Cd.plain [(0, false), (1, false)] rfl rfl ?_
  refine Jp.call [] [] f29_spec 9 rfl (want_all rfl) rfl rfl (Runs.fn rfl Try.call29 rfl) (by decide) (by decide) rfl trivial ?_
  rintro v1 ρ1 L1 ⟨rfl, rfl⟩
  refine ⟨rfl, fun hle1 => ⟨Kp.true, ?_⟩⟩
  have hrl := RdI.up _ _ _ _ hle1 hrl
  refine Jp.y 10 rfl (want_all rfl) rfl rfl Kp.true (Y.not rfl rfl) ?_
  refine Jp.done hK3 ?_
  refine Cd.cond rfl (fun g10 => ?_) (fun g10 => ?_)
  · skip
    exact absurd g10 (by simp)
  try simp only [decide_eq_false_iff_not, decide_eq_true_eq, Int.not_lt, Int.not_le, Bool.not_eq_false, Bool.not_eq_true, Bool.not_true, Bool.not_false, Bool.not_eq_true', Bool.not_eq_false', beq_eq_false_iff_ne, ne_eq, beq_iff_eq, bne_iff_ne, bne_eq_false_iff_eq, Classical.not_not] at g10
  refine Cd.skip hK2 ?_
  refine Cd.seq fun K4 hK4 => ?_
  refine Cd.seq fun K5 hK5 => ?_
  refine Cd.plain [(0, false), (1, false), (2, false)] rfl rfl ?_
  refine Jp.y 11 rfl (want_all rfl) rfl rfl Kp.true (Y.move rfl rfl) ?_
  refine Jp.y 12 rfl (want_all rfl) rfl rfl Kp.true (Y.lenslice rfl Try.underlying22 rfl) ?_
  refine Jp.y 13 rfl (want_all rfl) rfl rfl Kp.true (Y.gtr rfl rfl rfl) ?_
  refine Jp.done hK5 ?_
  refine Cd.cond rfl (fun g13 => ?_) (fun g13 => ?_)
  · skip
    refine Cd.seq fun K6 hK6 => ?_
    refine Cd.plain [(0, false)] rfl rfl ?_
    refine Jp.y 2 rfl (want_all rfl) rfl rfl Kp.true (Y.assign rfl rfl) ?_
    refine Jp.done hK6 ?_
    refine Cd.ret [] rfl (res1 rfl rfl) trivial ⟨rfl, rfl⟩
  try simp only [decide_eq_false_iff_not, decide_eq_true_eq, Int.not_lt, Int.not_le, Bool.not_eq_false, Bool.not_eq_true, Bool.not_true, Bool.not_false, Bool.not_eq_true', Bool.not_eq_false', beq_eq_false_iff_ne, ne_eq, beq_iff_eq, bne_iff_ne, bne_eq_false_iff_eq, Classical.not_not] at g13
  refine Cd.skip hK4 ?_
  refine Cd.seq fun K7 hK7 => ?_
  refine Cd.plain [(0, false), (1, false), (2, false), (3, false), (4, false), (5, false), (6, false)] rfl rfl ?_
  have hll : xl.length ≤ 40 := by omega
  refine Jp.lit 14 9 [(0, _)] [_] rfl (want_all rfl) rfl rfl rfl rfl Try.underlying26 Try.sizeOf5 Try.zeroValue5 rfl rfl rfl rfl rfl fun b9 => ⟨Kp.true, ?_⟩
  first | refine Jp.mark 15 9 rfl (want_all rfl) rfl rfl rfl Try.underlying26 Try.underlying5 rfl rfl Kp.true ?_
  refine Jp.freeze (i := 9) rfl (RdS.up _ _ _ _ _) fun ρ2 l2 q2 => ?_
  have hrl := RdI.up _ _ _ _ l2 hrl
  refine Jp.y 16 rfl (want_all rfl) rfl rfl Kp.true (Y.struct [(0, _), (1, _)] [_, _] rfl rfl places63 Try.zeroValue63 rfl) ?_
  refine Jp.lit 17 10 [(0, _)] [_, _] rfl (want_all rfl) rfl rfl rfl rfl Try.underlying33 Try.sizeOf63 Try.zeroValue63 rfl rfl rfl rfl rfl fun b10 => ⟨Kp.true, ?_⟩
  refine Jp.freeze (i := 10) rfl (OwnS.up _ _ _ _ _ _) fun ρ3 l3 q3 => ?_
  have hrl := RdI.up _ _ _ _ l3 hrl
  have q2 : RdB ⟨some ⟨b9, 0, none⟩, 1, [49]⟩ ρ3 := RdS.up _ _ _ _ _ _ _ l3 q2
  refine Jp.y 18 rfl (want_all rfl) rfl rfl Kp.true (Y.struct [(5, _)] [_, _, _, _, _, _] rfl rfl places35 Try.zeroValue35 rfl) ?_
  refine Jp.call [] [0, 1, 2, 3] (new_files (FeedG.ofFile ⟨none, 0, []⟩ b10 ⟨#[97]⟩ ⟨some ⟨b9, 0, none⟩, 1, [49]⟩)) 19 rfl (want_all rfl) rfl rfl (Runs.fn rfl Try.call30 rfl) (by decide) (by decide) rfl (RdFeed.ofFile (RdS.nil 1 _) q3.rd q2) ?_
  rintro v4 ρ4 L4 ⟨b, ⟨all, bu, use, bo, op, bw, out⟩, rfl, rfl, hg, hp⟩
  refine ⟨rfl, fun hle4 => ⟨Kp.true, ?_⟩⟩
  dsimp only
  have hrl := RdI.up _ _ _ _ hle4 hrl
  have hp : FilesG.p ⟨all, bu, use, bo, op, bw, out⟩ = oneP [] [97] [49] := by
    rw [hp, ← newP_one (sh := []) (name := [97]) (data := [49]) (by simp) (by simp) (by simp) (by simp) (by decide) (by simp)]; rfl
  refine Jp.y 3 rfl (want_all rfl) rfl rfl Kp.true (Y.assign rfl rfl) ?_
  refine Jp.done hK7 ?_
  refine Cd.seq fun K8 hK8 => ?_
  refine Cd.plain [(0, false)] rfl rfl ?_
  refine Jp.alloc 11 4 rfl (want_all rfl) rfl rfl rfl Try.zeroValue66 fun b11 => ⟨Kp.true, ?_⟩
  refine Jp.done hK8 ?_
  refine Cd.seq fun K9 hK9 => ?_
  refine Cd.plain [(0, false), (1, false), (2, false), (3, false), (4, false), (5, false)] rfl rfl ?_
  refine Jp.y 20 rfl (want_all rfl) rfl rfl Kp.true (Y.indexArrP rfl rfl rfl Try.underlying66 Try.sizeOf4 (by first | decide | omega) (by first | decide | omega) rfl) ?_
  first | refine Jp.store 11 rfl (want_all rfl) rfl rfl Try.sizeOf4 rfl rfl rfl rfl rfl rfl Kp.true ?_ | refine Jp.store 11 rfl (want_all rfl) rfl rfl Try.sizeOf4 rfl rfl rfl rfl rfl rfl Kp.true ?_
  refine Jp.y 21 rfl (want_all rfl) rfl rfl Kp.true (Y.indexArrP rfl rfl rfl Try.underlying66 Try.sizeOf4 (by first | decide | omega) (by first | decide | omega) rfl) ?_
  first | refine Jp.store 11 rfl (want_all rfl) rfl rfl Try.sizeOf4 rfl rfl rfl rfl rfl rfl Kp.true ?_ | refine Jp.store 11 rfl (want_all rfl) rfl rfl Try.sizeOf4 rfl rfl rfl rfl rfl rfl Kp.true ?_
  refine Jp.y 22 rfl (want_all rfl) rfl rfl Kp.true (Y.indexArrP rfl rfl rfl Try.underlying66 Try.sizeOf4 (by first | decide | omega) (by first | decide | omega) rfl) ?_
  first | refine Jp.store 11 rfl (want_all rfl) rfl rfl Try.sizeOf4 rfl rfl rfl rfl rfl rfl Kp.true ?_ | refine Jp.store 11 rfl (want_all rfl) rfl rfl Try.sizeOf4 rfl rfl rfl rfl rfl rfl Kp.true ?_
  refine Jp.done hK9 ?_
  refine Cd.seq fun K10 hK10 => ?_
  refine Cd.plain [(0, false)] rfl rfl ?_
  refine Jp.imp (j := 11) rfl ((show ∀ h, _ → OpO b11 ([true, true, true] ++ List.replicate 61 false) h from fun h hh => hh)) ?_
  refine Jp.y 5 rfl (want_all rfl) rfl rfl Kp.true (Y.assign rfl rfl) ?_
  refine Jp.done hK10 ?_
  refine Cd.seq fun K11 hK11 => ?_
  refine Cd.seq fun K12 hK12 => ?_
  refine Cd.plain [(0, false)] rfl rfl ?_
  refine Jp.y 6 rfl (want_all rfl) rfl rfl Kp.true (Y.assign rfl rfl) ?_
  refine Jp.done hK12 ?_
  refine Cd.block ?_
  have hall : ∀ op', (FilesG.p ⟨all, bu, use, bo, op', bw, out⟩).all = [([97], [49])] := fun op' => congrArg FilesP.all hp
  have hop : gmap FilG.p op = [(0, ⟨[], 0, false⟩), (1, ⟨[], 0, true⟩), (2, ⟨[], 0, true⟩)] := congrArg FilesP.op hp
  have hI : NInv (gmap FilG.p op) ([true, true, true] ++ List.replicate 61 false) := by
    rw [hop]
    exact ⟨rfl, by decide, by simp⟩
  refine Cd.slot 5 rfl (show _ = (.int .i64 ((gmap FilG.p op).length : Int)) by rw [hop]; rfl) ?_
  refine Cd.loopK (G := Nat × List Bool × List (Int × FilG)) (fun g => g.1 ≤ xl.length ∧ NInv (gmap FilG.p g.2.2) g.2.1 ∧ RdFs ⟨all, bu, use, bo, g.2.2, bw, out⟩ ρ4) (fun g => xl.length - g.1) (fun _ => _) (fun g => [(5, .int .i64 ((gmap FilG.p g.2.2).length : Int)), (6, .int .i64 (g.1 : Int))]) [(0, _), (3, _), (4, _)] (fun g => [(2, MapO .i64 bo (gmap FilG.v g.2.2)), (11, OpO b11 g.2.1)]) [(0, _)] ⟨0, [true, true, true] ++ List.replicate 61 false, op⟩ ⟨Nat.zero_le _, hI, hg⟩ rfl ⟨rfl, rfl, trivial⟩ ⟨rfl, rfl, rfl, trivial⟩ ⟨rfl, rfl, trivial⟩ ⟨rfl, trivial⟩ (fun g KLa hok hLa => ?_)
  obtain ⟨i, os, op1⟩ := g
  obtain ⟨ok1, ok2, ok3⟩ := hok
  dsimp only at ok1 ok2 ok3 ⊢
  refine Cd.seq fun K13 hK13 => ?_
  refine Cd.seq fun K14 hK14 => ?_
  refine Cd.plain [(0, false), (1, false), (2, false), (3, false)] rfl rfl ?_
  refine Jp.y 23 rfl (want_all rfl) rfl rfl Kp.true (Y.move rfl rfl) ?_
  refine Jp.y 24 rfl (want_all rfl) rfl rfl Kp.true (Y.move rfl rfl) ?_
  refine Jp.y 25 rfl (want_all rfl) rfl rfl Kp.true (Y.lenslice rfl Try.underlying22 rfl) ?_
  refine Jp.y 26 rfl (want_all rfl) rfl rfl Kp.true (Y.lss rfl rfl rfl) ?_
  refine Jp.done hK14 ?_
  refine Cd.cond rfl (fun h1 => ?_) (fun h1 => ?_)
  · simp only [decide_eq_true_eq] at h1
    have hi : i < xl.length := by omega
    obtain ⟨al, rfl⟩ := hrl.some (show 0 < xl.length * 1 by omega)
    have hcl := hrl.cell (j := i) (v := .int .i64 xl[i]) (by simp [intsV, hi])
    have hnd : ((gmap FilG.p op1).map (·.1)).Nodup := ok3.ok.nd
    refine Cd.skip hK13 ?_
    refine Cd.seq fun K15 hK15 => ?_
    refine Cd.block ?_
    refine Cd.seq fun K16 hK16 => ?_
    refine Cd.seq fun K17 hK17 => ?_
    refine Cd.plain [(0, false), (1, false), (2, false), (3, false), (4, false), (5, false), (6, false), (7, false), (8, false), (9, false), (10, false), (11, false)] rfl rfl ?_
    refine Jp.y 29 rfl (want_all rfl) rfl rfl Kp.true (Y.move rfl rfl) ?_
    refine Jp.y 30 rfl (want_all rfl) rfl rfl Kp.true (Y.move rfl rfl) ?_
    refine Jp.y 31 rfl (want_all rfl) rfl rfl Kp.true (Y.indexAddr (q := i) rfl rfl rfl Try.underlying22 Try.sizeOf3 (by omega) (by omega) (by omega)) ?_
    refine Jp.y 32 rfl (want_all rfl) rfl rfl Kp.true (by first | exact Y.loadO 11 rfl Try.isAgg3 rfl rfl rfl | exact Y.loadO 11 rfl Try.isAgg3 rfl rfl rfl | exact Y.loadR rfl Try.isAgg3 rfl hcl) ?_
    refine Jp.y 33 rfl (want_all rfl) rfl rfl Kp.true (Y.geq rfl rfl rfl) ?_
    refine Jp.y 34 rfl (want_all rfl) rfl rfl Kp.true (Y.move rfl rfl) ?_
    refine Jp.splitF 34 rfl (fun g34 => ?_) (fun g34 => ?_)
    · skip
      refine Jp.skip 35 rfl (want_as rfl rfl rfl rfl) rfl rfl Kp.true ?_
      refine Jp.skip 36 rfl (want_as rfl rfl rfl rfl) rfl rfl Kp.true ?_
      refine Jp.skip 37 rfl (want_as rfl rfl rfl rfl) rfl rfl Kp.true ?_
      refine Jp.skip 38 rfl (want_as rfl rfl rfl rfl) rfl rfl Kp.true ?_
      refine Jp.skip 39 rfl (want_as rfl rfl rfl rfl) rfl rfl Kp.true ?_
      refine Jp.y 40 rfl (want_all rfl) rfl rfl Kp.true (Y.pickF rfl rfl rfl) ?_
      refine Jp.done hK17 ?_
      refine Cd.condF rfl ?_
      refine Cd.skip hK16 ?_
      refine Cd.seq fun K18 hK18 => ?_
      refine Cd.plain [(0, false)] rfl rfl ?_
      refine Jp.y 8 rfl (want_all rfl) rfl rfl Kp.true (Y.assign rfl rfl) ?_
      refine Jp.done hK18 ?_
      refine Cd.seq fun K19 hK19 => ?_
      refine Cd.block ?_
      refine Cd.loopK (G := Nat) (fun w => ∀ j : Nat, j < w → (gget (gmap FilG.p op1) (j : Int)).isSome) (fun w => 17 - w) (fun _ => _) (fun w => [(8, .int .i64 (w : Int))]) [(0, _), (3, _), (4, _), (5, _), (6, _)] (fun _ => []) [(0, _), (2, _), (11, _)] 0 (by simp) rfl ⟨rfl, trivial⟩ ⟨rfl, rfl, rfl, rfl, rfl, trivial⟩ trivial ⟨rfl, rfl, rfl, trivial⟩ (fun g KLc hok hLc => ?_)
      have hle : g ≤ (gmap FilG.p op1).length := by
        have := range_keys g ((gmap FilG.p op1).map (·.1)) fun j hj => Decidable.byContradiction fun hc => by have := hok j hj; rw [gget_none.2 hc] at this; cases this
        simpa using this
      have hroom := ok2.room
      have hc2 := OpO.has (b := b11) (ok2.get g (by omega))
      refine Cd.seq fun K20 hK20 => ?_
      refine Cd.seq fun K21 hK21 => ?_
      refine Cd.plain [(0, false), (1, false), (2, false)] rfl rfl ?_
      refine Jp.y 62 rfl (want_all rfl) rfl rfl Kp.true (Y.move rfl rfl) ?_
      refine Jp.y 63 rfl (want_all rfl) rfl rfl Kp.true (Y.indexArrP (q := g) rfl rfl rfl Try.underlying66 Try.sizeOf4 (by omega) (by omega) (by omega)) ?_
      refine Jp.y 64 rfl (want_all rfl) rfl rfl Kp.true (by first | exact Y.loadO 11 rfl Try.isAgg4 rfl rfl rfl | exact Y.loadO 11 rfl Try.isAgg4 rfl rfl rfl | exact Y.loadR rfl Try.isAgg4 rfl hcl | exact Y.loadC 11 rfl Try.isAgg4 rfl rfl hc2) ?_
      refine Jp.done hK21 ?_
      refine Cd.cond rfl (fun h5 => ?_) (fun h5 => ?_)
      · skip
        refine Cd.skip hK20 ?_
        refine Cd.block ?_
        refine Cd.plain [(0, false), (1, false), (2, false)] rfl rfl ?_
        refine Jp.y 65 rfl (want_all rfl) rfl rfl Kp.true (Y.move rfl rfl) ?_
        refine Jp.y 66 rfl (want_all rfl) rfl rfl Kp.true (Y.add_ rfl rfl rfl (by first | exact wrap_i64 (by omega) (by omega) | rfl)) ?_
        refine Jp.y 8 rfl (want_all rfl) rfl rfl Kp.true (Y.assign rfl rfl) ?_
        have hs5 : (gget (gmap FilG.p op1) (g : Int)).isSome := h5
        refine JpQ.again rfl hLc (g + 1) (fun j hj => ?_) (by omega) rfl ⟨rfl, rfl, rfl, rfl, rfl, rfl, trivial⟩ ⟨rfl, rfl, rfl, trivial⟩
        by_cases hjg : j < g
        · exact hok j hjg
        · have : j = g := by omega
          subst this; exact hs5
      · have hn5 : gget (gmap FilG.p op1) (g : Int) = none := by simpa using h5
        have hlst : leastP (gmap FilG.p op1) = g := leastP_eq hok hn5
        have hfind : (FilesG.p ⟨all, bu, use, bo, op1, bw, out⟩).all.find? (fun x => x.1 == str ⟨#[97]⟩) = some ([97], [49]) := by rw [hall]; rfl
        refine Cd.exit rfl hK19 ?_
        refine Cd.seq fun K22 hK22 => ?_
        refine Cd.seq fun K23 hK23 => ?_
        refine Cd.plain [(0, false), (1, false)] rfl rfl ?_
        refine Jp.y 67 rfl (want_all rfl) rfl rfl Kp.true (Y.move rfl rfl) ?_
        refine Jp.y 68 rfl (want_all rfl) rfl rfl Kp.true (Y.geq rfl rfl rfl) ?_
        refine Jp.done hK23 ?_
        refine Cd.cond rfl (fun h6 => ?_) (fun h6 => ?_)
        · simp only [decide_eq_true_eq] at h6
          have e6 := openP_many hfind (show 16 ≤ (gmap FilG.p op1).length by omega)
          refine Cd.seq fun K24 hK24 => ?_
          refine Cd.seq fun K25 hK25 => ?_
          refine Cd.plain [(0, false), (1, false), (2, false)] rfl rfl ?_
          refine Jp.y 69 rfl (want_all rfl) rfl rfl Kp.true (Y.move rfl rfl) ?_
          refine Jp.call [0, 2] [0, 2] (open_spec b ⟨all, bu, use, bo, op1, bw, out⟩ ⟨#[97]⟩) 70 rfl (want_all rfl) rfl rfl (Runs.fn rfl Try.call35 rfl) (by decide) (by decide) rfl ok3 ?_
          rintro v6 ρ6 L6 ⟨rfl, rfl, op6, hp6, hg6, rfl⟩
          refine ⟨rfl, fun hle6 => ⟨Kp.true, ?_⟩⟩
          dsimp only at hp6 hg6 ⊢
          rw [e6] at hp6 ⊢
          have hop6 : gmap FilG.p op6 = gmap FilG.p op1 := congrArg FilesP.op hp6
          refine Jp.y 71 rfl (want_all rfl) rfl rfl Kp.true (Y.neq rfl rfl rfl) ?_
          refine Jp.done hK25 ?_
          refine Cd.cond rfl (fun g71 => ?_) (fun g71 => ?_)
          · skip
            exact absurd g71 (by simp)
          try simp only [decide_eq_false_iff_not, decide_eq_true_eq, Int.not_lt, Int.not_le, Bool.not_eq_false, Bool.not_eq_true, Bool.not_true, Bool.not_false, Bool.not_eq_true', Bool.not_eq_false', beq_eq_false_iff_ne, ne_eq, beq_iff_eq, bne_iff_ne, bne_eq_false_iff_eq, Classical.not_not] at g71
          refine Cd.skip hK24 ?_
          refine Cd.exit rfl hK15 ?_
          refine Cd.plain [(0, false), (1, false), (2, false)] rfl rfl ?_
          refine Jp.y 27 rfl (want_all rfl) rfl rfl Kp.true (Y.move rfl rfl) ?_
          refine Jp.y 28 rfl (want_all rfl) rfl rfl Kp.true (Y.add_ rfl rfl rfl (wrap_i64 (by omega) (by omega))) ?_
          refine Jp.y 6 rfl (want_all rfl) rfl rfl Kp.true (Y.assign rfl rfl) ?_
          rw [← hop6]
          refine Jp.again hLa ⟨i + 1, os, op6⟩ ⟨by show i + 1 ≤ xl.length; omega, by rw [hop6]; exact ok2, hg6⟩ (by show xl.length - (i + 1) < _; omega) rfl ⟨rfl, rfl, rfl, rfl, rfl, trivial⟩ ⟨rfl, rfl, rfl, trivial⟩
        · simp only [decide_eq_false_iff_not] at h6
          have hlt : (gmap FilG.p op1).length < 16 := by omega
          have e6 := openP_some hfind hlt
          rw [show leastP (FilesG.p ⟨all, bu, use, bo, op1, bw, out⟩).op = g from hlst] at e6
          refine Cd.skip hK22 ?_
          refine Cd.seq fun K26 hK26 => ?_
          refine Cd.seq fun K27 hK27 => ?_
          refine Cd.plain [(0, false), (1, false), (2, false), (3, false)] rfl rfl ?_
          refine Jp.y 72 rfl (want_all rfl) rfl rfl Kp.true (Y.move rfl rfl) ?_
          refine Jp.call [0, 2] [0, 2] (open_spec b ⟨all, bu, use, bo, op1, bw, out⟩ ⟨#[97]⟩) 73 rfl (want_all rfl) rfl rfl (Runs.fn rfl Try.call35 rfl) (by decide) (by decide) rfl ok3 ?_
          rintro v6 ρ6 L6 ⟨rfl, rfl, op6, hp6, hg6, rfl⟩
          refine ⟨rfl, fun hle6 => ⟨Kp.true, ?_⟩⟩
          dsimp only at hp6 hg6 ⊢
          rw [e6] at hp6 ⊢
          have hop6 : gmap FilG.p op6 = gset (gmap FilG.p op1) (g : Int) ⟨[49], 0, false⟩ := congrArg FilesP.op hp6
          have hI6 : NInv (gmap FilG.p op6) (os.set g true) := by rw [hop6]; exact ok2.add hn5 hlt _
          have hl6 : (gmap FilG.p op6).length = (gmap FilG.p op1).length + 1 := by rw [hop6, gset_length, hn5]; rfl
          dsimp only
          refine Jp.y 74 rfl (want_all rfl) rfl rfl Kp.true (Y.move rfl rfl) ?_
          refine Jp.y 75 rfl (want_all rfl) rfl rfl Kp.true (Y.neq rfl rfl rfl) ?_
          refine Jp.done hK27 ?_
          refine Cd.cond rfl (fun g75 => ?_) (fun g75 => ?_)
          · skip
            exact absurd g75 (by simp)
          try simp only [decide_eq_false_iff_not, decide_eq_true_eq, Int.not_lt, Int.not_le, Bool.not_eq_false, Bool.not_eq_true, Bool.not_true, Bool.not_false, Bool.not_eq_true', Bool.not_eq_false', beq_eq_false_iff_ne, ne_eq, beq_iff_eq, bne_iff_ne, bne_eq_false_iff_eq, Classical.not_not] at g75
          refine Cd.skip hK26 ?_
          refine Cd.seq fun K28 hK28 => ?_
          refine Cd.plain [(0, false), (1, false), (2, false)] rfl rfl ?_
          refine Jp.y 76 rfl (want_all rfl) rfl rfl Kp.true (Y.move rfl rfl) ?_
          refine Jp.y 77 rfl (want_all rfl) rfl rfl Kp.true (Y.indexArrP (q := g) rfl rfl rfl Try.underlying66 Try.sizeOf4 (by omega) (by omega) (by omega)) ?_
          refine Jp.storeC 11 (OpO b11 (os.set g true)) rfl (want_all rfl) rfl rfl Try.sizeOf4 rfl rfl rfl rfl rfl (OpO.set true (by rw [ok2.len]; omega)) Kp.true ?_
          refine Jp.done hK28 ?_
          refine Cd.plain [(0, false), (1, false), (2, false)] rfl rfl ?_
          refine Jp.y 78 rfl (want_all rfl) rfl rfl Kp.true (Y.move rfl rfl) ?_
          refine Jp.y 79 rfl (want_all rfl) rfl rfl Kp.true (Y.add_ rfl rfl rfl (wrap_i64 (by omega) (by omega))) ?_
          refine Jp.y 5 rfl (want_all rfl) rfl rfl Kp.true (Y.assign rfl rfl) ?_
          refine Jp.over rfl hK15 ?_
          refine Cd.plain [(0, false), (1, false), (2, false)] rfl rfl ?_
          refine Jp.y 27 rfl (want_all rfl) rfl rfl Kp.true (Y.move rfl rfl) ?_
          refine Jp.y 28 rfl (want_all rfl) rfl rfl Kp.true (Y.add_ rfl rfl rfl (wrap_i64 (by omega) (by omega))) ?_
          refine Jp.y 6 rfl (want_all rfl) rfl rfl Kp.true (Y.assign rfl rfl) ?_
          rw [show (((gmap FilG.p op1).length : Int) + 1) = ((gmap FilG.p op6).length : Int) by rw [hl6]; rfl]
          refine Jp.again hLa ⟨i + 1, os.set g true, op6⟩ ⟨by show i + 1 ≤ xl.length; omega, hI6, hg6⟩ (by show xl.length - (i + 1) < _; omega) rfl ⟨rfl, rfl, rfl, rfl, rfl, trivial⟩ ⟨rfl, rfl, rfl, trivial⟩
    try simp only [decide_eq_false_iff_not, decide_eq_true_eq, Int.not_lt, Int.not_le, Bool.not_eq_false, Bool.not_eq_true, Bool.not_true, Bool.not_false, Bool.not_eq_true', Bool.not_eq_false', beq_eq_false_iff_ne, ne_eq, beq_iff_eq, bne_iff_ne, bne_eq_false_iff_eq, Classical.not_not] at g34
    refine Jp.y 35 rfl (want_as rfl rfl rfl rfl) rfl rfl Kp.true (Y.move rfl rfl) ?_
    refine Jp.y 36 rfl (want_as rfl rfl rfl rfl) rfl rfl Kp.true (Y.move rfl rfl) ?_
    refine Jp.y 37 rfl (want_as rfl rfl rfl rfl) rfl rfl Kp.true (Y.indexAddr (q := i) rfl rfl rfl Try.underlying22 Try.sizeOf3 (by omega) (by omega) (by omega)) ?_
    refine Jp.y 38 rfl (want_as rfl rfl rfl rfl) rfl rfl Kp.true (by first | exact Y.loadO 11 rfl Try.isAgg3 rfl rfl rfl | exact Y.loadO 11 rfl Try.isAgg3 rfl rfl rfl | exact Y.loadR rfl Try.isAgg3 rfl hcl | exact Y.loadC 11 rfl Try.isAgg3 rfl rfl hc2) ?_
    refine Jp.y 39 rfl (want_as rfl rfl rfl rfl) rfl rfl Kp.true (Y.lss rfl rfl rfl) ?_
    refine Jp.y 40 rfl (want_all rfl) rfl rfl Kp.true (Y.pickT rfl rfl rfl) ?_
    refine Jp.done hK17 ?_
    refine Cd.condF' rfl (fun g40 => ?_) (fun g40 => ?_)
    · skip
      refine Cd.skip hK16 ?_
      refine Cd.seq fun K29 hK29 => ?_
      refine Cd.plain [(0, false)] rfl rfl ?_
      refine Jp.y 8 rfl (want_all rfl) rfl rfl Kp.true (Y.assign rfl rfl) ?_
      refine Jp.done hK29 ?_
      refine Cd.seq fun K30 hK30 => ?_
      refine Cd.block ?_
      refine Cd.loopK (G := Nat) (fun w => ∀ j : Nat, j < w → (gget (gmap FilG.p op1) (j : Int)).isSome) (fun w => 17 - w) (fun _ => _) (fun w => [(8, .int .i64 (w : Int))]) [(0, _), (3, _), (4, _), (5, _), (6, _)] (fun _ => []) [(0, _), (2, _), (11, _)] 0 (by simp) rfl ⟨rfl, trivial⟩ ⟨rfl, rfl, rfl, rfl, rfl, trivial⟩ trivial ⟨rfl, rfl, rfl, trivial⟩ (fun g KLc hok hLc => ?_)
      have hle : g ≤ (gmap FilG.p op1).length := by
        have := range_keys g ((gmap FilG.p op1).map (·.1)) fun j hj => Decidable.byContradiction fun hc => by have := hok j hj; rw [gget_none.2 hc] at this; cases this
        simpa using this
      have hroom := ok2.room
      have hc2 := OpO.has (b := b11) (ok2.get g (by omega))
      refine Cd.seq fun K31 hK31 => ?_
      refine Cd.seq fun K32 hK32 => ?_
      refine Cd.plain [(0, false), (1, false), (2, false)] rfl rfl ?_
      refine Jp.y 62 rfl (want_all rfl) rfl rfl Kp.true (Y.move rfl rfl) ?_
      refine Jp.y 63 rfl (want_all rfl) rfl rfl Kp.true (Y.indexArrP (q := g) rfl rfl rfl Try.underlying66 Try.sizeOf4 (by omega) (by omega) (by omega)) ?_
      refine Jp.y 64 rfl (want_all rfl) rfl rfl Kp.true (by first | exact Y.loadO 11 rfl Try.isAgg4 rfl rfl rfl | exact Y.loadO 11 rfl Try.isAgg4 rfl rfl rfl | exact Y.loadR rfl Try.isAgg4 rfl hcl | exact Y.loadC 11 rfl Try.isAgg4 rfl rfl hc2) ?_
      refine Jp.done hK32 ?_
      refine Cd.cond rfl (fun h5 => ?_) (fun h5 => ?_)
      · skip
        refine Cd.skip hK31 ?_
        refine Cd.block ?_
        refine Cd.plain [(0, false), (1, false), (2, false)] rfl rfl ?_
        refine Jp.y 65 rfl (want_all rfl) rfl rfl Kp.true (Y.move rfl rfl) ?_
        refine Jp.y 66 rfl (want_all rfl) rfl rfl Kp.true (Y.add_ rfl rfl rfl (by first | exact wrap_i64 (by omega) (by omega) | rfl)) ?_
        refine Jp.y 8 rfl (want_all rfl) rfl rfl Kp.true (Y.assign rfl rfl) ?_
        have hs5 : (gget (gmap FilG.p op1) (g : Int)).isSome := h5
        refine JpQ.again rfl hLc (g + 1) (fun j hj => ?_) (by omega) rfl ⟨rfl, rfl, rfl, rfl, rfl, rfl, trivial⟩ ⟨rfl, rfl, rfl, trivial⟩
        by_cases hjg : j < g
        · exact hok j hjg
        · have : j = g := by omega
          subst this; exact hs5
      · have hn5 : gget (gmap FilG.p op1) (g : Int) = none := by simpa using h5
        have hlst : leastP (gmap FilG.p op1) = g := leastP_eq hok hn5
        have hfind : (FilesG.p ⟨all, bu, use, bo, op1, bw, out⟩).all.find? (fun x => x.1 == str ⟨#[97]⟩) = some ([97], [49]) := by rw [hall]; rfl
        refine Cd.exit rfl hK30 ?_
        refine Cd.seq fun K33 hK33 => ?_
        refine Cd.seq fun K34 hK34 => ?_
        refine Cd.plain [(0, false), (1, false)] rfl rfl ?_
        refine Jp.y 67 rfl (want_all rfl) rfl rfl Kp.true (Y.move rfl rfl) ?_
        refine Jp.y 68 rfl (want_all rfl) rfl rfl Kp.true (Y.geq rfl rfl rfl) ?_
        refine Jp.done hK34 ?_
        refine Cd.cond rfl (fun h6 => ?_) (fun h6 => ?_)
        · simp only [decide_eq_true_eq] at h6
          have e6 := openP_many hfind (show 16 ≤ (gmap FilG.p op1).length by omega)
          refine Cd.seq fun K35 hK35 => ?_
          refine Cd.seq fun K36 hK36 => ?_
          refine Cd.plain [(0, false), (1, false), (2, false)] rfl rfl ?_
          refine Jp.y 69 rfl (want_all rfl) rfl rfl Kp.true (Y.move rfl rfl) ?_
          refine Jp.call [0, 2] [0, 2] (open_spec b ⟨all, bu, use, bo, op1, bw, out⟩ ⟨#[97]⟩) 70 rfl (want_all rfl) rfl rfl (Runs.fn rfl Try.call35 rfl) (by decide) (by decide) rfl ok3 ?_
          rintro v6 ρ6 L6 ⟨rfl, rfl, op6, hp6, hg6, rfl⟩
          refine ⟨rfl, fun hle6 => ⟨Kp.true, ?_⟩⟩
          dsimp only at hp6 hg6 ⊢
          rw [e6] at hp6 ⊢
          have hop6 : gmap FilG.p op6 = gmap FilG.p op1 := congrArg FilesP.op hp6
          refine Jp.y 71 rfl (want_all rfl) rfl rfl Kp.true (Y.neq rfl rfl rfl) ?_
          refine Jp.done hK36 ?_
          refine Cd.cond rfl (fun g71 => ?_) (fun g71 => ?_)
          · skip
            exact absurd g71 (by simp)
          try simp only [decide_eq_false_iff_not, decide_eq_true_eq, Int.not_lt, Int.not_le, Bool.not_eq_false, Bool.not_eq_true, Bool.not_true, Bool.not_false, Bool.not_eq_true', Bool.not_eq_false', beq_eq_false_iff_ne, ne_eq, beq_iff_eq, bne_iff_ne, bne_eq_false_iff_eq, Classical.not_not] at g71
          refine Cd.skip hK35 ?_
          refine Cd.exit rfl hK15 ?_
          refine Cd.plain [(0, false), (1, false), (2, false)] rfl rfl ?_
          refine Jp.y 27 rfl (want_all rfl) rfl rfl Kp.true (Y.move rfl rfl) ?_
          refine Jp.y 28 rfl (want_all rfl) rfl rfl Kp.true (Y.add_ rfl rfl rfl (wrap_i64 (by omega) (by omega))) ?_
          refine Jp.y 6 rfl (want_all rfl) rfl rfl Kp.true (Y.assign rfl rfl) ?_
          rw [← hop6]
          refine Jp.again hLa ⟨i + 1, os, op6⟩ ⟨by show i + 1 ≤ xl.length; omega, by rw [hop6]; exact ok2, hg6⟩ (by show xl.length - (i + 1) < _; omega) rfl ⟨rfl, rfl, rfl, rfl, rfl, trivial⟩ ⟨rfl, rfl, rfl, trivial⟩
        · simp only [decide_eq_false_iff_not] at h6
          have hlt : (gmap FilG.p op1).length < 16 := by omega
          have e6 := openP_some hfind hlt
          rw [show leastP (FilesG.p ⟨all, bu, use, bo, op1, bw, out⟩).op = g from hlst] at e6
          refine Cd.skip hK33 ?_
          refine Cd.seq fun K37 hK37 => ?_
          refine Cd.seq fun K38 hK38 => ?_
          refine Cd.plain [(0, false), (1, false), (2, false), (3, false)] rfl rfl ?_
          refine Jp.y 72 rfl (want_all rfl) rfl rfl Kp.true (Y.move rfl rfl) ?_
          refine Jp.call [0, 2] [0, 2] (open_spec b ⟨all, bu, use, bo, op1, bw, out⟩ ⟨#[97]⟩) 73 rfl (want_all rfl) rfl rfl (Runs.fn rfl Try.call35 rfl) (by decide) (by decide) rfl ok3 ?_
          rintro v6 ρ6 L6 ⟨rfl, rfl, op6, hp6, hg6, rfl⟩
          refine ⟨rfl, fun hle6 => ⟨Kp.true, ?_⟩⟩
          dsimp only at hp6 hg6 ⊢
          rw [e6] at hp6 ⊢
          have hop6 : gmap FilG.p op6 = gset (gmap FilG.p op1) (g : Int) ⟨[49], 0, false⟩ := congrArg FilesP.op hp6
          have hI6 : NInv (gmap FilG.p op6) (os.set g true) := by rw [hop6]; exact ok2.add hn5 hlt _
          have hl6 : (gmap FilG.p op6).length = (gmap FilG.p op1).length + 1 := by rw [hop6, gset_length, hn5]; rfl
          dsimp only
          refine Jp.y 74 rfl (want_all rfl) rfl rfl Kp.true (Y.move rfl rfl) ?_
          refine Jp.y 75 rfl (want_all rfl) rfl rfl Kp.true (Y.neq rfl rfl rfl) ?_
          refine Jp.done hK38 ?_
          refine Cd.cond rfl (fun g75 => ?_) (fun g75 => ?_)
          · skip
            exact absurd g75 (by simp)
          try simp only [decide_eq_false_iff_not, decide_eq_true_eq, Int.not_lt, Int.not_le, Bool.not_eq_false, Bool.not_eq_true, Bool.not_true, Bool.not_false, Bool.not_eq_true', Bool.not_eq_false', beq_eq_false_iff_ne, ne_eq, beq_iff_eq, bne_iff_ne, bne_eq_false_iff_eq, Classical.not_not] at g75
          refine Cd.skip hK37 ?_
          refine Cd.seq fun K39 hK39 => ?_
          refine Cd.plain [(0, false), (1, false), (2, false)] rfl rfl ?_
          refine Jp.y 76 rfl (want_all rfl) rfl rfl Kp.true (Y.move rfl rfl) ?_
          refine Jp.y 77 rfl (want_all rfl) rfl rfl Kp.true (Y.indexArrP (q := g) rfl rfl rfl Try.underlying66 Try.sizeOf4 (by omega) (by omega) (by omega)) ?_
          refine Jp.storeC 11 (OpO b11 (os.set g true)) rfl (want_all rfl) rfl rfl Try.sizeOf4 rfl rfl rfl rfl rfl (OpO.set true (by rw [ok2.len]; omega)) Kp.true ?_
          refine Jp.done hK39 ?_
          refine Cd.plain [(0, false), (1, false), (2, false)] rfl rfl ?_
          refine Jp.y 78 rfl (want_all rfl) rfl rfl Kp.true (Y.move rfl rfl) ?_
          refine Jp.y 79 rfl (want_all rfl) rfl rfl Kp.true (Y.add_ rfl rfl rfl (wrap_i64 (by omega) (by omega))) ?_
          refine Jp.y 5 rfl (want_all rfl) rfl rfl Kp.true (Y.assign rfl rfl) ?_
          refine Jp.over rfl hK15 ?_
          refine Cd.plain [(0, false), (1, false), (2, false)] rfl rfl ?_
          refine Jp.y 27 rfl (want_all rfl) rfl rfl Kp.true (Y.move rfl rfl) ?_
          refine Jp.y 28 rfl (want_all rfl) rfl rfl Kp.true (Y.add_ rfl rfl rfl (wrap_i64 (by omega) (by omega))) ?_
          refine Jp.y 6 rfl (want_all rfl) rfl rfl Kp.true (Y.assign rfl rfl) ?_
          rw [show (((gmap FilG.p op1).length : Int) + 1) = ((gmap FilG.p op6).length : Int) by rw [hl6]; rfl]
          refine Jp.again hLa ⟨i + 1, os.set g true, op6⟩ ⟨by show i + 1 ≤ xl.length; omega, hI6, hg6⟩ (by show xl.length - (i + 1) < _; omega) rfl ⟨rfl, rfl, rfl, rfl, rfl, trivial⟩ ⟨rfl, rfl, rfl, trivial⟩
    try simp only [decide_eq_false_iff_not, decide_eq_true_eq, Int.not_lt, Int.not_le, Bool.not_eq_false, Bool.not_eq_true, Bool.not_true, Bool.not_false, Bool.not_eq_true', Bool.not_eq_false', beq_eq_false_iff_ne, ne_eq, beq_iff_eq, bne_iff_ne, bne_eq_false_iff_eq, Classical.not_not] at g40
    refine Cd.seq fun K40 hK40 => ?_
    refine Cd.plain [(0, false)] rfl rfl ?_
    obtain ⟨k, hk⟩ : ∃ k : Nat, xl[i] = (k : Int) := ⟨_, (Int.toNat_of_nonneg (by omega)).symm⟩
    rw [hk]
    have hk20 : k < 20 := by omega
    have hcl2 : cellH ρ4 (al.add i) = some (.int .i64 (k : Int)) := by rw [← hk]; exact hcl
    have hcos := OpO.has (b := b11) (ok2.get k (by omega))
    refine Jp.y 7 rfl (want_all rfl) rfl rfl Kp.true (Y.assign rfl rfl) ?_
    refine Jp.done hK40 ?_
    refine Cd.seq fun K41 hK41 => ?_
    refine Cd.seq fun K42 hK42 => ?_
    refine Cd.plain [(0, false), (1, false), (2, false), (3, false), (4, false), (5, false)] rfl rfl ?_
    refine Jp.y 41 rfl (want_all rfl) rfl rfl Kp.true (Y.move rfl rfl) ?_
    refine Jp.y 42 rfl (want_all rfl) rfl rfl Kp.true (Y.move rfl rfl) ?_
    refine Jp.y 43 rfl (want_all rfl) rfl rfl Kp.true (Y.indexAddr (q := i) rfl rfl rfl Try.underlying22 Try.sizeOf3 (by omega) (by omega) (by omega)) ?_
    refine Jp.y 44 rfl (want_all rfl) rfl rfl Kp.true (by first | exact Y.loadO 11 rfl Try.isAgg3 rfl rfl rfl | exact Y.loadO 11 rfl Try.isAgg3 rfl rfl rfl | exact Y.loadR rfl Try.isAgg3 rfl hcl2 | exact Y.loadC 11 rfl Try.isAgg3 rfl rfl hcos) ?_
    refine Jp.y 45 rfl (want_all rfl) rfl rfl Kp.true (Y.indexArrP (q := k) rfl rfl rfl Try.underlying66 Try.sizeOf4 (by omega) (by omega) (by omega)) ?_
    refine Jp.y 46 rfl (want_all rfl) rfl rfl Kp.true (by first | exact Y.loadO 11 rfl Try.isAgg4 rfl rfl rfl | exact Y.loadO 11 rfl Try.isAgg4 rfl rfl rfl | exact Y.loadR rfl Try.isAgg4 rfl hcl2 | exact Y.loadC 11 rfl Try.isAgg4 rfl rfl hcos) ?_
    refine Jp.done hK42 ?_
    refine Cd.cond rfl (fun h7 => ?_) (fun h7 => ?_)
    · have hs7 : (gget (gmap FilG.p op1) (k : Int)).isSome = true := h7
      have e7 : closeFP (FilesG.p ⟨all, bu, use, bo, op1, bw, out⟩) (k : Int) = (0, { FilesG.p ⟨all, bu, use, bo, op1, bw, out⟩ with op := gdel (gmap FilG.p op1) (k : Int) }) := closeP_some (p := FilesG.p ⟨all, bu, use, bo, op1, bw, out⟩) hs7
      refine Cd.seq fun K43 hK43 => ?_
      refine Cd.plain [(0, false)] rfl rfl ?_
      refine Jp.y 7 rfl (want_all rfl) rfl rfl Kp.true (Y.assign rfl rfl) ?_
      refine Jp.done hK43 ?_
      refine Cd.seq fun K44 hK44 => ?_
      refine Cd.plain [(0, false), (1, false), (2, false), (3, false), (4, false), (5, false)] rfl rfl ?_
      refine Jp.y 47 rfl (want_all rfl) rfl rfl Kp.true (Y.move rfl rfl) ?_
      refine Jp.y 48 rfl (want_all rfl) rfl rfl Kp.true (Y.move rfl rfl) ?_
      refine Jp.y 49 rfl (want_all rfl) rfl rfl Kp.true (Y.indexAddr (q := i) rfl rfl rfl Try.underlying22 Try.sizeOf3 (by omega) (by omega) (by omega)) ?_
      refine Jp.y 50 rfl (want_all rfl) rfl rfl Kp.true (by first | exact Y.loadO 11 rfl Try.isAgg3 rfl rfl rfl | exact Y.loadO 11 rfl Try.isAgg3 rfl rfl rfl | exact Y.loadR rfl Try.isAgg3 rfl hcl2 | exact Y.loadC 11 rfl Try.isAgg3 rfl rfl hcos) ?_
      refine Jp.y 51 rfl (want_all rfl) rfl rfl Kp.true (Y.indexArrP (q := k) rfl rfl rfl Try.underlying66 Try.sizeOf4 (by omega) (by omega) (by omega)) ?_
      refine Jp.storeC 11 (OpO b11 (os.set k false)) rfl (want_all rfl) rfl rfl Try.sizeOf4 rfl rfl rfl rfl rfl (OpO.set false (by rw [ok2.len]; omega)) Kp.true ?_
      have hl7 := gdel_length hs7
      have hroom := ok2.room
      refine Jp.done hK44 ?_
      refine Cd.plain [(0, false), (1, false), (2, false)] rfl rfl ?_
      refine Jp.y 52 rfl (want_all rfl) rfl rfl Kp.true (Y.move rfl rfl) ?_
      refine Jp.y 53 rfl (want_all rfl) rfl rfl Kp.true (Y.sub_ rfl rfl rfl (wrap_i64 (by omega) (by omega))) ?_
      refine Jp.y 5 rfl (want_all rfl) rfl rfl Kp.true (Y.assign rfl rfl) ?_
      refine Jp.done hK41 ?_
      refine Cd.seq fun K45 hK45 => ?_
      refine Cd.seq fun K46 hK46 => ?_
      refine Cd.plain [(0, false), (1, false), (2, false), (3, false), (4, false), (5, false), (6, false), (7, false)] rfl rfl ?_
      refine Jp.y 54 rfl (want_all rfl) rfl rfl Kp.true (Y.move rfl rfl) ?_
      refine Jp.y 55 rfl (want_all rfl) rfl rfl Kp.true (Y.move rfl rfl) ?_
      refine Jp.y 56 rfl (want_all rfl) rfl rfl Kp.true (Y.move rfl rfl) ?_
      refine Jp.y 57 rfl (want_all rfl) rfl rfl Kp.true (Y.indexAddr (q := i) rfl rfl rfl Try.underlying22 Try.sizeOf3 (by omega) (by omega) (by omega)) ?_
      refine Jp.y 58 rfl (want_all rfl) rfl rfl Kp.true (by first | exact Y.loadO 11 rfl Try.isAgg3 rfl rfl rfl | exact Y.loadO 11 rfl Try.isAgg3 rfl rfl rfl | exact Y.loadR rfl Try.isAgg3 rfl hcl2 | exact Y.loadC 11 rfl Try.isAgg3 rfl rfl hcos) ?_
      refine Jp.call [0, 2] [0, 2] (close_spec b ⟨all, bu, use, bo, op1, bw, out⟩ (k : Int)) 59 rfl (want_all rfl) rfl rfl (Runs.fn rfl Try.call36 rfl) (by decide) (by decide) rfl ok3 ?_
      rintro v7 ρ7 L7 ⟨rfl, rfl, op7, hp7, hg7, rfl⟩
      refine ⟨rfl, fun hle7 => ⟨Kp.true, ?_⟩⟩
      dsimp only at hp7 hg7 ⊢
      rw [e7] at hp7 ⊢
      dsimp only at hp7 ⊢
      have hop7 : gmap FilG.p op7 = gdel (gmap FilG.p op1) (k : Int) := congrArg FilesP.op hp7
      have hI7 : NInv (gmap FilG.p op7) (os.set k false) := by rw [hop7]; exact ok2.close hnd k
      refine Jp.y 60 rfl (want_all rfl) rfl rfl Kp.true (Y.move rfl rfl) ?_
      refine Jp.y 61 rfl (want_all rfl) rfl rfl Kp.true (Y.neq rfl rfl rfl) ?_
      refine Jp.done hK46 ?_
      refine Cd.cond rfl (fun g61 => ?_) (fun g61 => ?_)
      · skip
        exact absurd g61 (by simp)
      try simp only [decide_eq_false_iff_not, decide_eq_true_eq, Int.not_lt, Int.not_le, Bool.not_eq_false, Bool.not_eq_true, Bool.not_true, Bool.not_false, Bool.not_eq_true', Bool.not_eq_false', beq_eq_false_iff_ne, ne_eq, beq_iff_eq, bne_iff_ne, bne_eq_false_iff_eq, Classical.not_not] at g61
      refine Cd.skip hK45 ?_
      refine Cd.exit rfl hK15 ?_
      refine Cd.plain [(0, false), (1, false), (2, false)] rfl rfl ?_
      refine Jp.y 27 rfl (want_all rfl) rfl rfl Kp.true (Y.move rfl rfl) ?_
      refine Jp.y 28 rfl (want_all rfl) rfl rfl Kp.true (Y.add_ rfl rfl rfl (wrap_i64 (by omega) (by omega))) ?_
      refine Jp.y 6 rfl (want_all rfl) rfl rfl Kp.true (Y.assign rfl rfl) ?_
      rw [show (((gmap FilG.p op1).length : Int) - 1) = ((gmap FilG.p op7).length : Int) by rw [hop7]; omega]
      refine Jp.again hLa ⟨i + 1, os.set k false, op7⟩ ⟨by show i + 1 ≤ xl.length; omega, hI7, hg7⟩ (by show xl.length - (i + 1) < _; omega) rfl ⟨rfl, rfl, rfl, rfl, rfl, trivial⟩ ⟨rfl, rfl, rfl, trivial⟩
    · have hs7 : (gget (gmap FilG.p op1) (k : Int)).isSome = false := h7
      have e7 : closeFP (FilesG.p ⟨all, bu, use, bo, op1, bw, out⟩) (k : Int) = (-9, FilesG.p ⟨all, bu, use, bo, op1, bw, out⟩) := closeP_none (p := FilesG.p ⟨all, bu, use, bo, op1, bw, out⟩) hs7
      refine Cd.skip hK41 ?_
      refine Cd.seq fun K47 hK47 => ?_
      refine Cd.seq fun K48 hK48 => ?_
      refine Cd.plain [(0, false), (1, false), (2, false), (3, false), (4, false), (5, false), (6, false), (7, false)] rfl rfl ?_
      refine Jp.y 54 rfl (want_all rfl) rfl rfl Kp.true (Y.move rfl rfl) ?_
      refine Jp.y 55 rfl (want_all rfl) rfl rfl Kp.true (Y.move rfl rfl) ?_
      refine Jp.y 56 rfl (want_all rfl) rfl rfl Kp.true (Y.move rfl rfl) ?_
      refine Jp.y 57 rfl (want_all rfl) rfl rfl Kp.true (Y.indexAddr (q := i) rfl rfl rfl Try.underlying22 Try.sizeOf3 (by omega) (by omega) (by omega)) ?_
      refine Jp.y 58 rfl (want_all rfl) rfl rfl Kp.true (by first | exact Y.loadO 11 rfl Try.isAgg3 rfl rfl rfl | exact Y.loadO 11 rfl Try.isAgg3 rfl rfl rfl | exact Y.loadR rfl Try.isAgg3 rfl hcl2 | exact Y.loadC 11 rfl Try.isAgg3 rfl rfl hcos) ?_
      refine Jp.call [0, 2] [0, 2] (close_spec b ⟨all, bu, use, bo, op1, bw, out⟩ (k : Int)) 59 rfl (want_all rfl) rfl rfl (Runs.fn rfl Try.call36 rfl) (by decide) (by decide) rfl ok3 ?_
      rintro v7 ρ7 L7 ⟨rfl, rfl, op7, hp7, hg7, rfl⟩
      refine ⟨rfl, fun hle7 => ⟨Kp.true, ?_⟩⟩
      dsimp only at hp7 hg7 ⊢
      rw [e7] at hp7 ⊢
      dsimp only at hp7 ⊢
      have hop7 : gmap FilG.p op7 = gmap FilG.p op1 := congrArg FilesP.op hp7
      refine Jp.y 60 rfl (want_all rfl) rfl rfl Kp.true (Y.move rfl rfl) ?_
      refine Jp.y 61 rfl (want_all rfl) rfl rfl Kp.true (Y.neq rfl rfl rfl) ?_
      refine Jp.done hK48 ?_
      refine Cd.cond rfl (fun g61 => ?_) (fun g61 => ?_)
      · skip
        exact absurd g61 (by simp)
      try simp only [decide_eq_false_iff_not, decide_eq_true_eq, Int.not_lt, Int.not_le, Bool.not_eq_false, Bool.not_eq_true, Bool.not_true, Bool.not_false, Bool.not_eq_true', Bool.not_eq_false', beq_eq_false_iff_ne, ne_eq, beq_iff_eq, bne_iff_ne, bne_eq_false_iff_eq, Classical.not_not] at g61
      refine Cd.skip hK47 ?_
      refine Cd.exit rfl hK15 ?_
      refine Cd.plain [(0, false), (1, false), (2, false)] rfl rfl ?_
      refine Jp.y 27 rfl (want_all rfl) rfl rfl Kp.true (Y.move rfl rfl) ?_
      refine Jp.y 28 rfl (want_all rfl) rfl rfl Kp.true (Y.add_ rfl rfl rfl (wrap_i64 (by omega) (by omega))) ?_
      refine Jp.y 6 rfl (want_all rfl) rfl rfl Kp.true (Y.assign rfl rfl) ?_
      rw [← hop7]
      refine Jp.again hLa ⟨i + 1, os, op7⟩ ⟨by show i + 1 ≤ xl.length; omega, by rw [hop7]; exact ok2, hg7⟩ (by show xl.length - (i + 1) < _; omega) rfl ⟨rfl, rfl, rfl, rfl, rfl, trivial⟩ ⟨rfl, rfl, rfl, trivial⟩
  · simp only [decide_eq_false_iff_not] at h1
    refine Cd.exit rfl hK11 ?_
    refine Cd.seq fun K49 hK49 => ?_
    refine Cd.plain [(0, false)] rfl rfl ?_
    refine Jp.y 2 rfl (want_all rfl) rfl rfl Kp.true (Y.assign rfl rfl) ?_
    refine Jp.done hK49 ?_
    refine Cd.ret [] rfl (res1 rfl rfl) trivial ⟨rfl, rfl⟩
end Go.Proofs.Ytjjhihlmoecmlaa
