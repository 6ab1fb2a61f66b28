import Derived.Test.YtogkncmhonomdaaZFeedB
set_option linter.unusedVariables false
set_option linter.unusedSimpArgs false
set_option maxRecDepth 100000
namespace Go.Proofs.Ytogkncmhonomdaa
open Go
theorem goodFiles_bad {l : List (Bytes × Bytes)} {k : Nat} (hk : k < l.length) (h : okAt l k = false) : goodFiles l = false := by
  simp only [goodFiles, Bool.and_eq_false_iff]
  left
  rw [Bool.eq_false_iff, ne_eq, List.all_eq_true]
  intro ha
  rw [ha k (List.mem_range.2 hk)] at h
  cases h
theorem goodFiles_all {xs : List FileG} {k : Nat} (h : ∀ j, j < k → okAt (xs.map FileG.p) j = true) (h2 : xs.length ≤ k) : decide ((xs.length : Int) ≤ 8) = goodFiles (xs.map FileG.p) := by
  have : (List.range (xs.map FileG.p).length).all (okAt (xs.map FileG.p)) = true := List.all_eq_true.2 fun j hj => h j (by have := List.mem_range.1 hj; rw [List.length_map] at this; omega)
  rw [goodFiles, this, Bool.true_and, List.length_map]
  exact decide_eq_decide.2 (by omega)
theorem okAt_eq {xs : List FileG} {g : Nat} (hg : g < xs.length) : okAt (xs.map FileG.p) g = (goodFile xs[g].p && !(xs.take g).any (fun f => str f.name == str xs[g].name)) := by
  have e : (xs.map FileG.p)[g]? = some xs[g].p := by simp [hg]
  rw [okAt, e]
  simp only [← List.map_take, List.any_map]
  rfl
theorem goodFile_empty {f : FileG} (h : str f.name = []) : goodFile f.p = false := by simp [goodFile, FileG.p, h]
theorem goodFile_long {f : FileG} (h : (40 : Int) < f.name.size) : goodFile f.p = false := by
  have := str_size f.name
  have h2 : ¬ (str f.name).length ≤ 40 := by omega
  simp [goodFile, FileG.p, h2]
theorem goodFile_nul {f : FileG} (h : (0 : Int) ≤ Lib.indexByte f.name.data.toList ((0 : Int).toNat.toUInt8)) : goodFile f.p = false := by
  have h1 : ¬ Lib.indexByte f.name.data.toList 0 < 0 := by simpa using h
  rw [idx_neg, Bool.not_eq_false] at h1
  have h2 : (str f.name).contains 0 = true := h1
  simp only [goodFile, FileG.p, h2, Bool.not_true, Bool.and_false, Bool.false_and]
theorem goodFile_big {f : FileG} (h : (4096 : Int) < f.data.xs.length) : goodFile f.p = false := by
  have h2 : ¬ f.data.xs.length ≤ 4096 := by omega
  simp [goodFile, FileG.p, h2]
theorem goodFile_yes {f : FileG} (h1 : ¬ str f.name = []) (h2 : (f.name.size : Int) ≤ 40) (h3 : Lib.indexByte f.name.data.toList ((0 : Int).toNat.toUInt8) < 0) (h4 : (f.data.xs.length : Int) ≤ 4096) : goodFile f.p = true := by
  have := str_size f.name
  have h5 : Lib.indexByte f.name.data.toList 0 < 0 := by simpa using h3
  rw [idx_neg] at h5
  have h6 : (str f.name).contains 0 = false := h5
  have h7 : (str f.name).isEmpty = false := by cases h : str f.name with
    | nil => exact absurd h h1
    | cons x l => rfl
  have h8 : (str f.name).length ≤ 40 := by omega
  have h9 : f.data.xs.length ≤ 4096 := by omega
  simp only [goodFile, FileG.p, h6, h7, h8, h9, Bool.not_false, Bool.true_and, decide_true]
theorem f41_spec (s : Sl FileG) : Spec Try.prog 41 #[s.v] (RdFiles s) [] (fun ρ ρ' v L => ρ' = ρ ∧ v = .bool (goodFiles (s.xs.map FileG.p)) ∧ L = []) := by
  obtain ⟨A, c, xs⟩ := s
  refine Spec.of 42 Try.func41 rfl Try.ntmps41 [(0, _)] rfl rfl ?_
  intro cx ρ hr h0
  have hlen : xs.length ≤ 281474976710656 := hr.1.2.1.2
  have hcap : xs.length ≤ c := hr.1.2.1.1
  refine Cd.seq fun K1 hK1 => ?_
  refine Cd.plain [(0, false)] rfl rfl ?_
  refine Jp.y 2 rfl (want_all rfl) rfl rfl Kp.true (Y.assign rfl rfl) ?_
  refine Jp.done hK1 ?_
  refine Cd.seq fun K2 hK2 => ?_
  refine Cd.seq fun K3 hK3 => ?_
  refine Cd.plain [(0, false), (1, false), (2, false)] rfl rfl ?_
  refine Jp.y 5 rfl (want_all rfl) rfl rfl Kp.true (Y.move rfl rfl) ?_
  refine Jp.y 6 rfl (want_all rfl) rfl rfl Kp.true (Y.lenslice rfl Try.underlying26 rfl) ?_
  refine Jp.y 7 rfl (want_all rfl) rfl rfl Kp.true (Y.move rfl rfl) ?_
  refine Jp.done hK3 ?_
  refine Cd.block ?_
  refine Cd.loop (G := Nat) (fun k => k ≤ xs.length ∧ ∀ j, j < k → okAt (xs.map FileG.p) j = true) (fun k => xs.length - k) (fun _ => ρ) (fun k => [(0, .slice A xs.length c), (5, .slice A xs.length c), (6, .int .i64 xs.length), (7, .int .i64 k)]) (fun _ => []) 0 ⟨Nat.zero_le _, fun j h => by omega⟩ rfl ⟨rfl, rfl, rfl, rfl, trivial⟩ trivial (fun g KLk hok hLk => ?_)
  obtain ⟨hok1, hok2⟩ := hok
  refine Cd.seq fun K4 hK4 => ?_
  refine Cd.plain [(0, false)] rfl rfl ?_
  refine Jp.y 8 rfl (want_all rfl) rfl rfl Kp.true (Y.lss rfl rfl rfl) ?_
  refine Jp.done hK4 ?_
  refine Cd.seq fun K5 hK5 => ?_
  refine Cd.condF' rfl (fun g8 => ?_) (fun g8 => ?_)
  · skip
    simp only [decide_eq_false_iff_not] at g8
    refine Cd.exit rfl hK2 ?_
    refine Cd.seq fun K6 hK6 => ?_
    refine Cd.plain [(0, false), (1, false), (2, false), (3, false)] rfl rfl ?_
    refine Jp.y 39 rfl (want_all rfl) rfl rfl Kp.true (Y.move rfl rfl) ?_
    refine Jp.y 40 rfl (want_all rfl) rfl rfl Kp.true (Y.lenslice rfl Try.underlying26 rfl) ?_
    refine Jp.y 41 rfl (want_all rfl) rfl rfl Kp.true (Y.leq rfl rfl rfl) ?_
    refine Jp.y 2 rfl (want_all rfl) rfl rfl Kp.true (Y.assign rfl rfl) ?_
    refine Jp.done hK6 ?_
    refine Cd.ret [] rfl (res1 rfl rfl) trivial ⟨rfl, congrArg Value.bool (goodFiles_all hok2 (by omega)), rfl⟩
  try simp only [decide_eq_false_iff_not, decide_eq_true_eq, Int.not_lt, Int.not_le, Bool.not_eq_false, Bool.not_eq_true, Bool.not_true, Bool.not_false, Bool.not_eq_true', Bool.not_eq_false', beq_eq_false_iff_ne, ne_eq, beq_iff_eq, bne_iff_ne, bne_eq_false_iff_eq, Classical.not_not] at g8
  refine Cd.skip hK5 ?_
  refine Cd.seq fun K7 hK7 => ?_
  refine Cd.block ?_
  refine Cd.seq fun K8 hK8 => ?_
  refine Cd.plain [(0, false), (1, false), (2, false), (3, false), (4, false), (5, false)] rfl rfl ?_
  have hg : g < xs.length := by omega
  have hgx : xs[g]? = some xs[g] := by simp [hg]
  obtain ⟨ad, rfl⟩ := hr.1.some (show 0 < xs.length * 2 by omega)
  refine Jp.y 9 rfl (want_all rfl) rfl rfl Kp.true (Y.move rfl rfl) ?_
  refine Jp.y 10 rfl (want_all rfl) rfl rfl Kp.true (Y.indexAddr (q := g * 2) rfl rfl rfl Try.underlying26 Try.sizeOf63 (by omega) (by omega) (by omega)) ?_
  refine Jp.y 11 rfl (want_all rfl) rfl rfl Kp.true (Y.loadAggR xs[g].cells rfl Try.isAgg63 Try.sizeOf63 rfl rfl (hr.at rfl hgx)) ?_
  refine Jp.alloc 50 4 rfl (want_all rfl) rfl rfl rfl Try.zeroValue63 fun b50 => ⟨Kp.true, ?_⟩
  refine Jp.y 3 rfl (want_all rfl) rfl rfl Kp.true (Y.assign rfl rfl) ?_
  first | refine Jp.storeAgg 50 rfl (want_all rfl) rfl rfl Try.sizeOf63 rfl rfl rfl rfl rfl rfl (fun k _ _ => noFr0 k) Kp.true ?_
  refine Jp.done hK8 ?_
  refine Cd.seq fun K9 hK9 => ?_
  refine Cd.seq fun K10 hK10 => ?_
  refine Cd.plain [(0, false), (1, false), (2, false), (3, false), (4, false), (5, false), (6, false), (7, false), (8, false), (9, false), (10, false), (11, false), (12, false), (13, false), (14, false), (15, false), (16, false), (17, false), (18, false), (19, false), (20, false)] rfl rfl ?_
  refine Jp.y 12 rfl (want_all rfl) rfl rfl Kp.true (by first | exact Y.fieldAddrP rfl rfl Try.underlying63 rfl Try.sizeOf9 (by decide) (show _ + 0 = _ from rfl) | exact Y.fieldAddr rfl rfl Try.underlying63 rfl Try.sizeOf9 (by decide)) ?_
  refine Jp.y 13 rfl (want_all rfl) rfl rfl Kp.true (Y.loadO 50 rfl Try.isAgg9 rfl rfl rfl) ?_
  refine Jp.y 14 rfl (want_all rfl) rfl rfl Kp.true (Y.streql rfl rfl rfl) ?_
  refine Jp.y 15 rfl (want_all rfl) rfl rfl Kp.true (Y.move rfl rfl) ?_
  refine Jp.split 15 rfl (fun g15 => ?_) (fun g15 => ?_)
  · skip
    refine Jp.skip 16 rfl (want_as rfl rfl rfl rfl) rfl rfl Kp.true ?_
    refine Jp.skip 17 rfl (want_as rfl rfl rfl rfl) rfl rfl Kp.true ?_
    refine Jp.skip 18 rfl (want_as rfl rfl rfl rfl) rfl rfl Kp.true ?_
    refine Jp.skip 19 rfl (want_as rfl rfl rfl rfl) rfl rfl Kp.true ?_
    refine Jp.y 20 rfl (want_all rfl) rfl rfl Kp.true (Y.pickT rfl rfl rfl) ?_
    refine Jp.y 21 rfl (want_all rfl) rfl rfl Kp.true (Y.move rfl rfl) ?_
    refine Jp.skip 22 rfl (want_as rfl rfl rfl rfl) rfl rfl Kp.true ?_
    refine Jp.skip 23 rfl (want_as rfl rfl rfl rfl) rfl rfl Kp.true ?_
    refine Jp.skip 24 rfl (want_as rfl rfl rfl rfl) rfl rfl Kp.true ?_
    refine Jp.skip 25 rfl (want_as rfl rfl rfl rfl) rfl rfl Kp.true ?_
    refine Jp.y 26 rfl (want_all rfl) rfl rfl Kp.true (Y.pickT rfl rfl rfl) ?_
    refine Jp.y 27 rfl (want_all rfl) rfl rfl Kp.true (Y.move rfl rfl) ?_
    refine Jp.skip 28 rfl (want_as rfl rfl rfl rfl) rfl rfl Kp.true ?_
    refine Jp.skip 29 rfl (want_as rfl rfl rfl rfl) rfl rfl Kp.true ?_
    refine Jp.skip 30 rfl (want_as rfl rfl rfl rfl) rfl rfl Kp.true ?_
    refine Jp.skip 31 rfl (want_as rfl rfl rfl rfl) rfl rfl Kp.true ?_
    refine Jp.y 32 rfl (want_all rfl) rfl rfl Kp.true (Y.pickT rfl rfl rfl) ?_
    refine Jp.done hK10 ?_
    refine Cd.condT rfl ?_
    refine Cd.seq fun K11 hK11 => ?_
    refine Cd.plain [(0, false)] rfl rfl ?_
    refine Jp.y 2 rfl (want_all rfl) rfl rfl Kp.true (Y.assign rfl rfl) ?_
    refine Jp.done hK11 ?_
    refine Cd.ret [] rfl (res1 rfl rfl) trivial ⟨rfl, congrArg Value.bool (goodFiles_bad (k := g) (by simpa using hg) (by rw [okAt_eq hg, goodFile_empty (eq_of_beq g15)]; rfl)).symm, rfl⟩
  try simp only [decide_eq_false_iff_not, decide_eq_true_eq, Int.not_lt, Int.not_le, Bool.not_eq_false, Bool.not_eq_true, Bool.not_true, Bool.not_false, Bool.not_eq_true', Bool.not_eq_false', beq_eq_false_iff_ne, ne_eq, beq_iff_eq, bne_iff_ne, bne_eq_false_iff_eq, Classical.not_not] at g15
  refine Jp.y 16 rfl (want_as rfl rfl rfl rfl) rfl rfl Kp.true (by first | exact Y.fieldAddrP rfl rfl Try.underlying63 rfl Try.sizeOf9 (by decide) (show _ + 0 = _ from rfl) | exact Y.fieldAddr rfl rfl Try.underlying63 rfl Try.sizeOf9 (by decide)) ?_
  refine Jp.y 17 rfl (want_as rfl rfl rfl rfl) rfl rfl Kp.true (Y.loadO 50 rfl Try.isAgg9 rfl rfl rfl) ?_
  refine Jp.y 18 rfl (want_as rfl rfl rfl rfl) rfl rfl Kp.true (Y.lenstr rfl Try.underlying9 rfl) ?_
  refine Jp.y 19 rfl (want_as rfl rfl rfl rfl) rfl rfl Kp.true (Y.gtr rfl rfl rfl) ?_
  refine Jp.y 20 rfl (want_all rfl) rfl rfl Kp.true (Y.pickF rfl rfl rfl) ?_
  refine Jp.y 21 rfl (want_all rfl) rfl rfl Kp.true (Y.move rfl rfl) ?_
  refine Jp.split 21 rfl (fun g21 => ?_) (fun g21 => ?_)
  · skip
    refine Jp.skip 22 rfl (want_as rfl rfl rfl rfl) rfl rfl Kp.true ?_
    refine Jp.skip 23 rfl (want_as rfl rfl rfl rfl) rfl rfl Kp.true ?_
    refine Jp.skip 24 rfl (want_as rfl rfl rfl rfl) rfl rfl Kp.true ?_
    refine Jp.skip 25 rfl (want_as rfl rfl rfl rfl) rfl rfl Kp.true ?_
    refine Jp.y 26 rfl (want_all rfl) rfl rfl Kp.true (Y.pickT rfl rfl rfl) ?_
    refine Jp.y 27 rfl (want_all rfl) rfl rfl Kp.true (Y.move rfl rfl) ?_
    refine Jp.skip 28 rfl (want_as rfl rfl rfl rfl) rfl rfl Kp.true ?_
    refine Jp.skip 29 rfl (want_as rfl rfl rfl rfl) rfl rfl Kp.true ?_
    refine Jp.skip 30 rfl (want_as rfl rfl rfl rfl) rfl rfl Kp.true ?_
    refine Jp.skip 31 rfl (want_as rfl rfl rfl rfl) rfl rfl Kp.true ?_
    refine Jp.y 32 rfl (want_all rfl) rfl rfl Kp.true (Y.pickT rfl rfl rfl) ?_
    refine Jp.done hK10 ?_
    refine Cd.condT rfl ?_
    refine Cd.seq fun K12 hK12 => ?_
    refine Cd.plain [(0, false)] rfl rfl ?_
    refine Jp.y 2 rfl (want_all rfl) rfl rfl Kp.true (Y.assign rfl rfl) ?_
    refine Jp.done hK12 ?_
    refine Cd.ret [] rfl (res1 rfl rfl) trivial ⟨rfl, congrArg Value.bool (goodFiles_bad (k := g) (by simpa using hg) (by rw [okAt_eq hg, goodFile_long (by simpa using g21)]; rfl)).symm, rfl⟩
  try simp only [decide_eq_false_iff_not, decide_eq_true_eq, Int.not_lt, Int.not_le, Bool.not_eq_false, Bool.not_eq_true, Bool.not_true, Bool.not_false, Bool.not_eq_true', Bool.not_eq_false', beq_eq_false_iff_ne, ne_eq, beq_iff_eq, bne_iff_ne, bne_eq_false_iff_eq, Classical.not_not] at g21
  refine Jp.y 22 rfl (want_as rfl rfl rfl rfl) rfl rfl Kp.true (by first | exact Y.fieldAddrP rfl rfl Try.underlying63 rfl Try.sizeOf9 (by decide) (show _ + 0 = _ from rfl) | exact Y.fieldAddr rfl rfl Try.underlying63 rfl Try.sizeOf9 (by decide)) ?_
  refine Jp.y 23 rfl (want_as rfl rfl rfl rfl) rfl rfl Kp.true (Y.loadO 50 rfl Try.isAgg9 rfl rfl rfl) ?_
  refine Jp.call [] [] (f45_spec _ _) 24 rfl (want_as rfl rfl rfl rfl) rfl rfl (Runs.fn rfl Try.call45 rfl) (by decide) (by decide) rfl trivial ?_
  rintro v1 ρ1 L1 ⟨rfl, rfl, rfl⟩
  refine ⟨rfl, fun hle1 => ⟨Kp.true, ?_⟩⟩
  refine Jp.y 25 rfl (want_as rfl rfl rfl rfl) rfl rfl Kp.true (Y.geq rfl rfl rfl) ?_
  refine Jp.y 26 rfl (want_all rfl) rfl rfl Kp.true (Y.pickF rfl rfl rfl) ?_
  refine Jp.y 27 rfl (want_all rfl) rfl rfl Kp.true (Y.move rfl rfl) ?_
  refine Jp.split 27 rfl (fun g27 => ?_) (fun g27 => ?_)
  · skip
    refine Jp.skip 28 rfl (want_as rfl rfl rfl rfl) rfl rfl Kp.true ?_
    refine Jp.skip 29 rfl (want_as rfl rfl rfl rfl) rfl rfl Kp.true ?_
    refine Jp.skip 30 rfl (want_as rfl rfl rfl rfl) rfl rfl Kp.true ?_
    refine Jp.skip 31 rfl (want_as rfl rfl rfl rfl) rfl rfl Kp.true ?_
    refine Jp.y 32 rfl (want_all rfl) rfl rfl Kp.true (Y.pickT rfl rfl rfl) ?_
    refine Jp.done hK10 ?_
    refine Cd.condT rfl ?_
    refine Cd.seq fun K13 hK13 => ?_
    refine Cd.plain [(0, false)] rfl rfl ?_
    refine Jp.y 2 rfl (want_all rfl) rfl rfl Kp.true (Y.assign rfl rfl) ?_
    refine Jp.done hK13 ?_
    refine Cd.ret [] rfl (res1 rfl rfl) trivial ⟨rfl, congrArg Value.bool (goodFiles_bad (k := g) (by simpa using hg) (by rw [okAt_eq hg, goodFile_nul (by simpa using g27)]; rfl)).symm, rfl⟩
  try simp only [decide_eq_false_iff_not, decide_eq_true_eq, Int.not_lt, Int.not_le, Bool.not_eq_false, Bool.not_eq_true, Bool.not_true, Bool.not_false, Bool.not_eq_true', Bool.not_eq_false', beq_eq_false_iff_ne, ne_eq, beq_iff_eq, bne_iff_ne, bne_eq_false_iff_eq, Classical.not_not] at g27
  refine Jp.y 28 rfl (want_as rfl rfl rfl rfl) rfl rfl Kp.true (by first | exact Y.fieldAddrP rfl rfl Try.underlying63 rfl Try.sizeOf23 (by decide) (show _ + 1 = _ from rfl) | exact Y.fieldAddr rfl rfl Try.underlying63 rfl Try.sizeOf23 (by decide)) ?_
  refine Jp.y 29 rfl (want_as rfl rfl rfl rfl) rfl rfl Kp.true (Y.loadO 50 rfl Try.isAgg23 rfl rfl rfl) ?_
  refine Jp.y 30 rfl (want_as rfl rfl rfl rfl) rfl rfl Kp.true (Y.lenslice rfl Try.underlying23 rfl) ?_
  refine Jp.y 31 rfl (want_as rfl rfl rfl rfl) rfl rfl Kp.true (Y.gtr rfl rfl rfl) ?_
  refine Jp.y 32 rfl (want_all rfl) rfl rfl Kp.true (Y.pickF rfl rfl rfl) ?_
  refine Jp.done hK10 ?_
  refine Cd.cond rfl (fun g32 => ?_) (fun g32 => ?_)
  · skip
    refine Cd.seq fun K14 hK14 => ?_
    refine Cd.plain [(0, false)] rfl rfl ?_
    refine Jp.y 2 rfl (want_all rfl) rfl rfl Kp.true (Y.assign rfl rfl) ?_
    refine Jp.done hK14 ?_
    refine Cd.ret [] rfl (res1 rfl rfl) trivial ⟨rfl, congrArg Value.bool (goodFiles_bad (k := g) (by simpa using hg) (by rw [okAt_eq hg, goodFile_big (by simpa using g32)]; rfl)).symm, rfl⟩
  try simp only [decide_eq_false_iff_not, decide_eq_true_eq, Int.not_lt, Int.not_le, Bool.not_eq_false, Bool.not_eq_true, Bool.not_true, Bool.not_false, Bool.not_eq_true', Bool.not_eq_false', beq_eq_false_iff_ne, ne_eq, beq_iff_eq, bne_iff_ne, bne_eq_false_iff_eq, Classical.not_not] at g32
  refine Cd.skip hK9 ?_
  refine Cd.seq fun K15 hK15 => ?_
  refine Cd.plain [(0, false), (1, false), (2, false), (3, false), (4, false)] rfl rfl ?_
  refine Jp.y 33 rfl (want_all rfl) rfl rfl Kp.true (Y.move rfl rfl) ?_
  refine Jp.y 34 rfl (want_all rfl) rfl rfl Kp.true (Y.move rfl rfl) ?_
  refine Jp.y 35 rfl (want_all rfl) rfl rfl Kp.true (Y.sliceTo (hi := g) rfl rfl rfl Try.underlying26 Try.sizeOf63 (by omega) (by omega)) ?_
  refine Jp.y 36 rfl (want_all rfl) rfl rfl Kp.true (Y.makeFunc rfl rfl) ?_
  have hr' := hr.take (k := g) (by omega)
  have hlt : (xs.take g).length = g := by rw [List.length_take]; omega
  refine Jp.call [50] [50] (by have := f46_spec ⟨some ad, c, xs.take g⟩ (Pt b50 (.cells xs[g].cells.toArray 63)) 47 [.pointer (some ⟨b50, 0, none⟩)] (fun x => str x.name == str xs[g].name) Try.call47 (fun x => f47_spec b50 xs[g] x 63); simp only [Sl.v, hlt] at this; exact this) 37 rfl (want_all rfl) rfl rfl (Runs.fn rfl Try.call46 rfl) (by decide) (by decide) rfl hr' ?_
  rintro v2 ρ2 L2 ⟨rfl, rfl, rfl⟩
  refine ⟨rfl, fun hle2 => ⟨Kp.true, ?_⟩⟩
  refine Jp.done hK15 ?_
  refine Cd.cond rfl (fun g37 => ?_) (fun g37 => ?_)
  · skip
    refine Cd.seq fun K16 hK16 => ?_
    refine Cd.plain [(0, false)] rfl rfl ?_
    refine Jp.y 2 rfl (want_all rfl) rfl rfl Kp.true (Y.assign rfl rfl) ?_
    refine Jp.done hK16 ?_
    refine Cd.ret [] rfl (res1 rfl rfl) trivial ⟨rfl, congrArg Value.bool (goodFiles_bad (k := g) (by simpa using hg) (by rw [okAt_eq hg, g37]; simp)).symm, rfl⟩
  try simp only [decide_eq_false_iff_not, decide_eq_true_eq, Int.not_lt, Int.not_le, Bool.not_eq_false, Bool.not_eq_true, Bool.not_true, Bool.not_false, Bool.not_eq_true', Bool.not_eq_false', beq_eq_false_iff_ne, ne_eq, beq_iff_eq, bne_iff_ne, bne_eq_false_iff_eq, Classical.not_not] at g37
  refine Cd.over rfl hK7 ?_
  refine Cd.plain [(0, false), (1, false)] rfl rfl ?_
  refine Jp.y 38 rfl (want_all rfl) rfl rfl Kp.true (Y.add_ rfl rfl rfl (by first | exact wrap_i64 (by omega) (by omega) | rfl)) ?_
  refine Jp.y 7 rfl (want_all rfl) rfl rfl Kp.true (Y.move rfl rfl) ?_
  refine Jp.again hLk (g + 1) ⟨by omega, fun j hj => ?_⟩ (by omega) rfl ⟨rfl, rfl, rfl, rfl, trivial⟩ trivial
  by_cases hjg : j < g
  · exact hok2 j hjg
  · have : j = g := by omega
    subst this
    rw [okAt_eq hg, goodFile_yes g15 g21 g27 g32]
    simp only [Bool.true_and, Bool.not_eq_true', g37]
end Go.Proofs.Ytogkncmhonomdaa
