import Derived.Test.YtogkncmhonomdaaZFilesW
set_option linter.unusedVariables false
set_option linter.unusedSimpArgs false
set_option maxRecDepth 100000
namespace Go.Proofs.Ytogkncmhonomdaa
open Go
theorem find_none {α : Type} {p : α → Bool} {l : List α} {k : Nat} (h : ∀ j x, j < k → l[j]? = some x → p x = false) (h2 : l.length ≤ k) : l.find? p = none := by
  rw [List.find?_eq_none]
  intro x hx
  obtain ⟨j, hj⟩ := List.mem_iff_getElem?.1 hx
  have := (List.getElem?_eq_some_iff.1 hj).1
  rw [h j x (by omega) hj]; simp
theorem find_some {α : Type} {p : α → Bool} {l : List α} {k : Nat} {x : α} (h : ∀ j y, j < k → l[j]? = some y → p y = false) (hk : l[k]? = some x) (hx : p x = true) : l.find? p = some x := by
  obtain ⟨hl, e⟩ := List.getElem?_eq_some_iff.1 hk
  rw [List.find?_eq_some_iff_getElem]
  refine ⟨hx, k, hl, e, fun j hj => ?_⟩
  have := h j l[j] hj (by simp)
  simp [this]
theorem find_spec (b : Nat) (g : FilesG) (name : ByteArray) : Spec Try.prog 28 #[.pointer (some ⟨b, 0, none⟩), .string name] (RdFs g) [(0, FsPt b g)]
    (fun ρ ρ' v L => ρ' = ρ ∧ L = [(0, FsPt b g)] ∧ ((g.p.all.find? (fun x => x.1 == str name) = none ∧ v = .tuple #[.slice none 0 0, .bool false]) ∨ ∃ f ∈ g.all.xs, g.p.all.find? (fun x => x.1 == str name) = some f.p ∧ v = .tuple #[f.data.v, .bool true])) := by
  obtain ⟨⟨A, c, xs⟩, bu, use, bo, op, bw, out⟩ := g
  dsimp only [FsPt, FilesG.cells]
  refine Spec.of 24 Try.func28 rfl Try.ntmps28 [(0, _), (1, _)] rfl rfl ?_
  intro cx ρ hr h0
  have hra : RdFiles ⟨A, c, xs⟩ ρ := hr.all
  have hn1 : xs.length ≤ 8 := by have := hr.ok.all.1; simpa [FilesG.p] using this
  refine Cd.seq fun K1 hK1 => ?_
  refine Cd.plain [(0, false), (1, false)] rfl rfl ?_
  refine Jp.y 4 rfl (want_all rfl) rfl rfl Kp.true (Y.assign rfl rfl) ?_
  refine Jp.y 5 rfl (want_all rfl) rfl rfl Kp.true (Y.assign rfl rfl) ?_
  refine Jp.done hK1 ?_
  refine Cd.seq fun K2 hK2 => ?_
  refine Cd.seq fun K3 hK3 => ?_
  refine Cd.plain [(0, false), (1, false), (2, false), (3, false), (4, false), (5, false)] rfl rfl ?_
  refine Jp.y 8 rfl (want_all rfl) rfl rfl Kp.true (Y.move rfl rfl) ?_
  refine Jp.y 9 rfl (want_all rfl) rfl rfl Kp.true (Y.nilCheck rfl rfl) ?_
  refine Jp.y 10 rfl (want_all rfl) rfl rfl Kp.true (by first | exact Y.fieldAddrP rfl rfl Try.underlying68 rfl Try.sizeOf26 (by decide) (show _ + 0 = _ from rfl) | exact Y.fieldAddr rfl rfl Try.underlying68 rfl Try.sizeOf26 (by decide)) ?_
  refine Jp.y 11 rfl (want_all rfl) rfl rfl Kp.true (Y.loadO 0 rfl Try.isAgg26 rfl rfl rfl) ?_
  refine Jp.y 12 rfl (want_all rfl) rfl rfl Kp.true (Y.lenslice rfl Try.underlying26 rfl) ?_
  refine Jp.y 13 rfl (want_all rfl) rfl rfl Kp.true (Y.move rfl rfl) ?_
  refine Jp.done hK3 ?_
  refine Cd.block ?_
  refine Cd.loopK (G := Nat) (fun k => k ≤ xs.length ∧ ∀ j x, j < k → xs[j]? = some x → (str x.name == str name) = false) (fun k => xs.length - k) (fun _ => _) (fun k => [(13, .int .i64 (k : Int))]) [(1, _), (11, _), (12, _)] (fun k => []) [(0, _)] 0 ⟨Nat.zero_le _, by simp⟩ rfl ⟨rfl, trivial⟩ ⟨rfl, rfl, rfl, trivial⟩ trivial ⟨rfl, trivial⟩ (fun g KLa hok hLa => ?_)
  obtain ⟨ok1, ok2⟩ := hok
  refine Cd.seq fun K4 hK4 => ?_
  refine Cd.plain [(0, false)] rfl rfl ?_
  refine Jp.y 14 rfl (want_all rfl) rfl rfl Kp.true (Y.lss rfl rfl rfl) ?_
  refine Jp.done hK4 ?_
  refine Cd.seq fun K5 hK5 => ?_
  refine Cd.condF' rfl (fun g14 => ?_) (fun g14 => ?_)
  · skip
    simp only [decide_eq_false_iff_not] at g14
    refine Cd.exit rfl hK2 ?_
    refine Cd.seq fun K6 hK6 => ?_
    refine Cd.plain [(0, false), (1, false)] rfl rfl ?_
    refine Jp.y 4 rfl (want_all rfl) rfl rfl Kp.true (Y.assign rfl rfl) ?_
    refine Jp.y 5 rfl (want_all rfl) rfl rfl Kp.true (Y.assign rfl rfl) ?_
    refine Jp.done hK6 ?_
    refine Cd.ret [(0, _)] rfl (res2 rfl rfl rfl) ⟨rfl, trivial⟩ ⟨rfl, rfl, .inl ⟨find_none (k := g) ?_ ?_, rfl⟩⟩
    · intro j x hj hx
      rw [show (FilesG.p ⟨⟨A, c, xs⟩, bu, use, bo, op, bw, out⟩).all = xs.map FileG.p from rfl, List.getElem?_map] at hx
      obtain ⟨y, hy, rfl⟩ := Option.map_eq_some_iff.1 hx
      exact ok2 j y hj hy
    · show (xs.map FileG.p).length ≤ g
      rw [List.length_map]; omega
  try simp only [decide_eq_false_iff_not, decide_eq_true_eq, Int.not_lt, Int.not_le, Bool.not_eq_false, Bool.not_eq_true, Bool.not_true, Bool.not_false, Bool.not_eq_true', Bool.not_eq_false', beq_eq_false_iff_ne, ne_eq, beq_iff_eq, bne_iff_ne, bne_eq_false_iff_eq, Classical.not_not] at g14
  refine Cd.skip hK5 ?_
  refine Cd.seq fun K7 hK7 => ?_
  refine Cd.block ?_
  refine Cd.seq fun K8 hK8 => ?_
  refine Cd.plain [(0, false), (1, false), (2, false), (3, false)] rfl rfl ?_
  have hlt : g < xs.length := by omega
  have hx : xs[g]? = some xs[g] := by simp [hlt]
  obtain ⟨ad, rfl⟩ := hra.1.some (show 0 < xs.length * 2 by omega)
  refine Jp.y 15 rfl (want_all rfl) rfl rfl Kp.true (Y.indexAddr (q := g * 2) rfl rfl rfl Try.underlying26 Try.sizeOf63 (by omega) (by omega) (by omega)) ?_
  refine Jp.y 16 rfl (want_all rfl) rfl rfl Kp.true (Y.loadAggR xs[g].cells rfl Try.isAgg63 Try.sizeOf63 rfl rfl (hra.at rfl hx)) ?_
  refine Jp.alloc 5 7 rfl (want_all rfl) rfl rfl rfl Try.zeroValue63 fun b5 => ⟨Kp.true, ?_⟩
  first | refine Jp.storeAgg 0 rfl (want_all rfl) rfl rfl Try.sizeOf63 rfl rfl rfl rfl rfl rfl (fun k _ _ => noFr0 k) Kp.true ?_ | refine Jp.storeAgg 5 rfl (want_all rfl) rfl rfl Try.sizeOf63 rfl rfl rfl rfl rfl rfl (fun k _ _ => noFr0 k) Kp.true ?_ | refine Jp.storeAgg 5 rfl (want_all rfl) rfl rfl Try.sizeOf63 rfl rfl rfl rfl rfl rfl (fun k _ _ => noFr0 k) Kp.true ?_
  refine Jp.done hK8 ?_
  refine Cd.seq fun K9 hK9 => ?_
  refine Cd.plain [(0, false), (1, false), (2, false), (3, false)] rfl rfl ?_
  refine Jp.y 17 rfl (want_all rfl) rfl rfl Kp.true (by first | exact Y.fieldAddrP rfl rfl Try.underlying63 rfl Try.sizeOf9 (by decide) (show _ + 0 = _ from rfl) | exact Y.fieldAddr rfl rfl Try.underlying63 rfl Try.sizeOf9 (by decide)) ?_
  refine Jp.y 18 rfl (want_all rfl) rfl rfl Kp.true (by first | exact Y.loadO 0 rfl Try.isAgg9 rfl rfl rfl | exact Y.loadO 5 rfl Try.isAgg9 rfl rfl rfl | exact Y.loadO 5 rfl Try.isAgg9 rfl rfl rfl) ?_
  refine Jp.y 19 rfl (want_all rfl) rfl rfl Kp.true (Y.move rfl rfl) ?_
  refine Jp.y 20 rfl (want_all rfl) rfl rfl Kp.true (Y.streql rfl rfl rfl) ?_
  refine Jp.done hK9 ?_
  refine Cd.cond rfl (fun g20 => ?_) (fun g20 => ?_)
  · skip
    refine Cd.seq fun K10 hK10 => ?_
    refine Cd.plain [(0, false), (1, false), (2, false), (3, false)] rfl rfl ?_
    refine Jp.y 21 rfl (want_all rfl) rfl rfl Kp.true (by first | exact Y.fieldAddrP rfl rfl Try.underlying63 rfl Try.sizeOf23 (by decide) (show _ + 1 = _ from rfl) | exact Y.fieldAddr rfl rfl Try.underlying63 rfl Try.sizeOf23 (by decide)) ?_
    refine Jp.y 22 rfl (want_all rfl) rfl rfl Kp.true (by first | exact Y.loadO 0 rfl Try.isAgg23 rfl rfl rfl | exact Y.loadO 5 rfl Try.isAgg23 rfl rfl rfl | exact Y.loadO 5 rfl Try.isAgg23 rfl rfl rfl) ?_
    refine Jp.y 4 rfl (want_all rfl) rfl rfl Kp.true (Y.assign rfl rfl) ?_
    refine Jp.y 5 rfl (want_all rfl) rfl rfl Kp.true (Y.assign rfl rfl) ?_
    refine Jp.done hK10 ?_
    refine Cd.ret [(0, _)] rfl (res2 rfl rfl rfl) ⟨rfl, trivial⟩ ⟨rfl, rfl, .inr ⟨xs[g], by simp, find_some (k := g) ?_ ?_ g20, rfl⟩⟩
    · intro j x hj hx
      rw [show (FilesG.p ⟨⟨some ad, c, xs⟩, bu, use, bo, op, bw, out⟩).all = xs.map FileG.p from rfl, List.getElem?_map] at hx
      obtain ⟨y, hy, rfl⟩ := Option.map_eq_some_iff.1 hx
      exact ok2 j y hj hy
    · show (xs.map FileG.p)[g]? = _
      rw [List.getElem?_map, hx]; rfl
  try simp only [decide_eq_false_iff_not, decide_eq_true_eq, Int.not_lt, Int.not_le, Bool.not_eq_false, Bool.not_eq_true, Bool.not_true, Bool.not_false, Bool.not_eq_true', Bool.not_eq_false', beq_eq_false_iff_ne, ne_eq, beq_iff_eq, bne_iff_ne, bne_eq_false_iff_eq, Classical.not_not] at g20
  refine Cd.over rfl hK7 ?_
  refine Cd.plain [(0, false), (1, false)] rfl rfl ?_
  refine Jp.y 23 rfl (want_all rfl) rfl rfl Kp.true (Y.add_ rfl rfl rfl (by first | exact wrap_i64 (by omega) (by omega) | rfl)) ?_
  refine Jp.y 13 rfl (want_all rfl) rfl rfl Kp.true (Y.move rfl rfl) ?_
  refine Jp.again hLa (g + 1) ⟨by omega, fun j y hj hy => ?_⟩ (by omega) rfl ⟨rfl, rfl, rfl, rfl, trivial⟩ ⟨rfl, trivial⟩
  by_cases hjg : j < g
  · exact ok2 j y hjg hy
  · have : j = g := by omega
    subst this
    rw [hx] at hy
    injection hy with hy
    subst hy
    simpa using g20
theorem out_spec (b : Nat) (g : FilesG) (fd : Int) : Spec Try.prog 22 #[.pointer (some ⟨b, 0, none⟩), .int .i64 fd] (RdFs g) [(0, FsPt b g), (1, MapO .i64 g.bw (gmap Sl.v g.out))]
    (fun ρ ρ' v L => ρ' = ρ ∧ ∃ A c, v = .slice A (outFP g.p fd).length c ∧ L = [(0, FsPt b g), (1, MapO .i64 g.bw (gmap Sl.v g.out)), (2, OwnS 5 1 A (outFP g.p fd).length c (bytesV (outFP g.p fd)))]) := by
  obtain ⟨all, bu, use, bo, op, bw, out⟩ := g
  dsimp only [FsPt, FilesG.cells]
  refine Spec.of 12 Try.func22 rfl Try.ntmps22 [(0, _), (1, _)] rfl rfl ?_
  intro cx ρ hr h0
  refine Cd.seq fun K11 hK11 => ?_
  refine Cd.plain [(0, false)] rfl rfl ?_
  refine Jp.y 4 rfl (want_all rfl) rfl rfl Kp.true (Y.assign rfl rfl) ?_
  refine Jp.done hK11 ?_
  refine Cd.seq fun K12 hK12 => ?_
  refine Cd.plain [(0, false), (1, false), (2, false), (3, false), (4, false), (5, false), (6, false), (7, false)] rfl rfl ?_
  refine Jp.y 5 rfl (want_all rfl) rfl rfl Kp.true (Y.move rfl rfl) ?_
  refine Jp.y 6 rfl (want_all rfl) rfl rfl Kp.true (Y.nilCheck rfl rfl) ?_
  refine Jp.y 7 rfl (want_all rfl) rfl rfl Kp.true (by first | exact Y.fieldAddrP rfl rfl Try.underlying68 rfl Try.sizeOf66 (by decide) (show _ + 3 = _ from rfl) | exact Y.fieldAddr rfl rfl Try.underlying68 rfl Try.sizeOf66 (by decide)) ?_
  refine Jp.y 8 rfl (want_all rfl) rfl rfl Kp.true (Y.loadO 0 rfl Try.isAgg66 rfl rfl rfl) ?_
  refine Jp.y 9 rfl (want_all rfl) rfl rfl Kp.true (Y.move rfl rfl) ?_
  refine Jp.y 10 rfl (want_all rfl) rfl rfl Kp.true (by first | exact Y.lookup 1 rfl rfl rfl Try.underlying66 Try.underlying3 Try.zeroValue23 rfl) ?_
  obtain ⟨s, hs, e, hrd⟩ : ∃ s : Sl UInt8, ((mget (gmap Sl.v out) fd).getD (.slice none 0 0) = s.v) ∧ outFP (FilesG.p ⟨all, bu, use, bo, op, bw, out⟩) fd = s.xs ∧ RdB s ρ := by
    cases hx : gget out fd with
    | none => exact ⟨⟨none, 0, []⟩, by rw [mget_gmap, hx]; rfl, by rw [outFP, FilesG.out_get]; simp [hx], RdS.nil 1 _⟩
    | some s => exact ⟨s, by rw [mget_gmap, hx]; rfl, by rw [outFP, FilesG.out_get]; simp [hx], hr.out _ (gget_mem hx)⟩
  have hl : s.xs.length ≤ 65536 := by
    rw [← e, outFP]
    cases hx : gget (FilesG.p ⟨all, bu, use, bo, op, bw, out⟩).out fd with
    | none => simp
    | some y => exact hr.ok.out _ (gget_mem hx)
  rw [hs, e]
  refine Jp.call [] [2] (f26_spec s (by omega)) 11 rfl (want_all rfl) rfl rfl (Runs.fn rfl Try.call26 rfl) (by decide) (by decide) rfl hrd ?_
  rintro v1 ρ1 L1 ⟨rfl, A, c, rfl, rfl⟩
  refine ⟨rfl, fun hle1 => ⟨Kp.true, ?_⟩⟩
  refine Jp.y 4 rfl (want_all rfl) rfl rfl Kp.true (Y.assign rfl rfl) ?_
  refine Jp.done hK12 ?_
  refine Cd.ret [(0, _), (1, _), (2, _)] rfl (res1 rfl rfl) ⟨rfl, rfl, rfl, trivial⟩ ⟨rfl, A, c, by rw [e], by rw [e]⟩
theorem use_spec (b : Nat) (g : FilesG) : Spec Try.prog 20 #[.pointer (some ⟨b, 0, none⟩)] (fun _ => True) [(0, FsPt b g)]
    (fun ρ ρ' v L => ρ' = ρ ∧ v = .pointer (some ⟨g.bu, 0, none⟩) ∧ L = [(0, FsPt b g)]) := by
  obtain ⟨all, bu, use, bo, op, bw, out⟩ := g
  dsimp only [FsPt, FilesG.cells]
  refine Spec.of 7 Try.func20 rfl Try.ntmps20 [(0, _)] rfl rfl ?_
  intro cx ρ hr h0
  refine Cd.seq fun K13 hK13 => ?_
  refine Cd.plain [(0, false)] rfl rfl ?_
  refine Jp.y 2 rfl (want_all rfl) rfl rfl Kp.true (Y.assign rfl rfl) ?_
  refine Jp.done hK13 ?_
  refine Cd.seq fun K14 hK14 => ?_
  refine Cd.plain [(0, false), (1, false), (2, false), (3, false), (4, false)] rfl rfl ?_
  refine Jp.y 3 rfl (want_all rfl) rfl rfl Kp.true (Y.move rfl rfl) ?_
  refine Jp.y 4 rfl (want_all rfl) rfl rfl Kp.true (Y.nilCheck rfl rfl) ?_
  refine Jp.y 5 rfl (want_all rfl) rfl rfl Kp.true (by first | exact Y.fieldAddrP rfl rfl Try.underlying68 rfl Try.sizeOf50 (by decide) (show _ + 1 = _ from rfl) | exact Y.fieldAddr rfl rfl Try.underlying68 rfl Try.sizeOf50 (by decide)) ?_
  refine Jp.y 6 rfl (want_all rfl) rfl rfl Kp.true (Y.loadO 0 rfl Try.isAgg50 rfl rfl rfl) ?_
  refine Jp.y 2 rfl (want_all rfl) rfl rfl Kp.true (Y.assign rfl rfl) ?_
  refine Jp.done hK14 ?_
  refine Cd.ret [(0, _)] rfl (res1 rfl rfl) ⟨rfl, trivial⟩ ⟨rfl, rfl, rfl⟩
end Go.Proofs.Ytogkncmhonomdaa
