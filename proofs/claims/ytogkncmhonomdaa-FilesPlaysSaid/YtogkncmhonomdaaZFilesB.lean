import Derived.Test.YtogkncmhonomdaaZFilesA
set_option linter.unusedVariables false
set_option linter.unusedSimpArgs false
set_option maxRecDepth 100000
namespace Go.Proofs.Ytogkncmhonomdaa
open Go
theorem openP_none {p : FilesP} {name : Bytes} (h : p.all.find? (fun x => x.1 == name) = none) : openFP p name = (-2, p) := by rw [openFP, h]
theorem openP_many {p : FilesP} {name : Bytes} {x : Bytes × Bytes} (h : p.all.find? (fun x => x.1 == name) = some x) (hl : 16 ≤ p.op.length) : openFP p name = (-24, p) := by rw [openFP, h]; simp [hl]
theorem openP_some {p : FilesP} {name : Bytes} {x : Bytes × Bytes} (h : p.all.find? (fun x => x.1 == name) = some x) (hl : p.op.length < 16) : openFP p name = (((leastP p.op : Nat) : Int), { p with op := gset p.op (leastP p.op : Nat) ⟨x.2, 0, false⟩ }) := by rw [openFP, h]; simp [Nat.not_le.2 hl]
theorem FsOk.openP {p : FilesP} (h : FsOk p) (name : Bytes) : FsOk (openFP p name).2 := by
  rw [openFP]
  split
  · exact h
  · rename_i x hx
    split
    · exact h
    · refine ⟨h.all, h.use, fun y hy => ?_, gset_nodup h.nd _ _, h.out⟩
      rcases gset_mem hy with rfl | hy
      · exact h.all.2 x (List.mem_of_find?_eq_some hx)
      · exact h.op y hy
theorem FsOk.closeP {p : FilesP} (h : FsOk p) (fd : Int) : FsOk (closeFP p fd).2 := by
  rw [closeFP]
  split
  · exact ⟨h.all, h.use, fun y hy => h.op y (gdel_mem hy), gdel_nodup h.nd _, h.out⟩
  · exact h
def filD : FilG := ⟨⟨none, 0, []⟩, 0, false⟩
theorem fil_look (op : List (Int × FilG)) (k : Int) : (mget (gmap FilG.v op) k).getD (.agg #[.slice none 0 0, .int .i64 0, .bool false]) = .agg #[((gget op k).getD filD).data.v, .int .i64 (((gget op k).getD filD).at' : Int), .bool ((gget op k).getD filD).wr] := by
  rw [mget_gmap]; cases gget op k <;> rfl
theorem fil_some (op : List (Int × FilG)) (k : Int) : (mget (gmap FilG.v op) k).isSome = (gget op k).isSome := by
  rw [mget_gmap, Option.isSome_map]
theorem open_spec (b : Nat) (g : FilesG) (name : ByteArray) : Spec Try.prog 9 #[.pointer (some ⟨b, 0, none⟩), .string name] (RdFs g) [(0, FsPt b g), (1, MapO .i64 g.bo (gmap FilG.v g.op))]
    (fun ρ ρ' v L => ρ' = ρ ∧ v = .int .i64 (openFP g.p (str name)).1 ∧ ∃ op, { g with op := op }.p = (openFP g.p (str name)).2 ∧ RdFs { g with op := op } ρ ∧ L = [(0, FsPt b g), (1, MapO .i64 g.bo (gmap FilG.v op))]) := by
  obtain ⟨all, bu, use, bo, op, bw, out⟩ := g
  dsimp only
  have hpt : FsPt b ⟨all, bu, use, bo, op, bw, out⟩ = Pt b (.cells #[all.v, .pointer (some ⟨bu, 0, none⟩), .map (some bo), .map (some bw)] 68) := rfl
  refine Spec.of 47 Try.func9 rfl Try.ntmps9 [(0, _), (1, _)] rfl rfl ?_
  intro cx ρ hr h0
  refine Cd.seq fun K1 hK1 => ?_
  refine Cd.plain [(0, false)] rfl rfl ?_
  refine Jp.y 4 rfl (want_all rfl) rfl rfl Kp.true (Y.assign rfl rfl) ?_
  refine Jp.done hK1 ?_
  refine Cd.seq fun K2 hK2 => ?_
  refine Cd.plain [(0, false), (1, false), (2, false), (3, false), (4, false), (5, false), (6, false), (7, false)] rfl rfl ?_
  refine Jp.y 11 rfl (want_all rfl) rfl rfl Kp.true (Y.move rfl rfl) ?_
  refine Jp.y 12 rfl (want_all rfl) rfl rfl Kp.true (Y.move rfl rfl) ?_
  refine Jp.call [0] [0] (find_spec b ⟨all, bu, use, bo, op, bw, out⟩ name) 13 rfl (want_all rfl) rfl rfl (Runs.fn rfl Try.call28 rfl) (by decide) (by decide) rfl hr ?_
  rintro v1 ρ1 L1 ⟨rfl, rfl, hf⟩
  refine ⟨rfl, fun hle1 => ⟨Kp.true, ?_⟩⟩
  rw [hpt]
  rcases hf with ⟨hf, rfl⟩ | ⟨f, hfm, hf, rfl⟩
  · skip
    refine Jp.y 10 rfl (want_all rfl) rfl rfl Kp.true (Y.move rfl rfl) ?_
    refine Jp.y 14 rfl (want_all rfl) rfl rfl Kp.true (Y.extract rfl rfl rfl) ?_
    refine Jp.y 15 rfl (want_all rfl) rfl rfl Kp.true (Y.extract rfl rfl rfl) ?_
    refine Jp.y 5 rfl (want_all rfl) rfl rfl Kp.true (Y.assign rfl rfl) ?_
    refine Jp.y 6 rfl (want_all rfl) rfl rfl Kp.true (Y.assign rfl rfl) ?_
    refine Jp.done hK2 ?_
    refine Cd.seq fun K3 hK3 => ?_
    refine Cd.block ?_
    refine Cd.seq fun K4 hK4 => ?_
    refine Cd.plain [(0, false), (1, false), (2, false)] rfl rfl ?_
    refine Jp.y 17 rfl (want_all rfl) rfl rfl Kp.true (Y.move rfl rfl) ?_
    refine Jp.y 18 rfl (want_all rfl) rfl rfl Kp.true (Y.not rfl rfl) ?_
    refine Jp.y 16 rfl (want_all rfl) rfl rfl Kp.true (Y.assign rfl rfl) ?_
    refine Jp.done hK4 ?_
    refine Cd.condF' rfl (fun g16 => ?_) (fun g16 => ?_)
    · skip
      exact absurd g16 (by simp)
    try simp only [decide_eq_false_iff_not, decide_eq_true_eq, Int.not_lt, Int.not_le, Bool.not_eq_false, Bool.not_eq_true, Bool.not_true, Bool.not_false, Bool.not_eq_true', Bool.not_eq_false', beq_eq_false_iff_ne, ne_eq, beq_iff_eq, bne_iff_ne, bne_eq_false_iff_eq, Classical.not_not] at g16
    refine Cd.seq fun K5 hK5 => ?_
    refine Cd.plain [(0, false)] rfl rfl ?_
    refine Jp.y 4 rfl (want_all rfl) rfl rfl Kp.true (Y.assign rfl rfl) ?_
    refine Jp.done hK5 ?_
    refine Cd.ret [(0, _), (1, _)] rfl (res1 rfl rfl) ⟨rfl, rfl, trivial⟩ ⟨rfl, by rw [openP_none hf], op, by rw [openP_none hf], hr, rfl⟩
  · skip
    refine Jp.y 10 rfl (want_all rfl) rfl rfl Kp.true (Y.move rfl rfl) ?_
    refine Jp.y 14 rfl (want_all rfl) rfl rfl Kp.true (Y.extract rfl rfl rfl) ?_
    refine Jp.y 15 rfl (want_all rfl) rfl rfl Kp.true (Y.extract rfl rfl rfl) ?_
    refine Jp.y 5 rfl (want_all rfl) rfl rfl Kp.true (Y.assign rfl rfl) ?_
    refine Jp.y 6 rfl (want_all rfl) rfl rfl Kp.true (Y.assign rfl rfl) ?_
    refine Jp.done hK2 ?_
    refine Cd.seq fun K6 hK6 => ?_
    refine Cd.block ?_
    refine Cd.seq fun K7 hK7 => ?_
    refine Cd.plain [(0, false), (1, false), (2, false)] rfl rfl ?_
    refine Jp.y 17 rfl (want_all rfl) rfl rfl Kp.true (Y.move rfl rfl) ?_
    refine Jp.y 18 rfl (want_all rfl) rfl rfl Kp.true (Y.not rfl rfl) ?_
    refine Jp.y 16 rfl (want_all rfl) rfl rfl Kp.true (Y.assign rfl rfl) ?_
    refine Jp.done hK7 ?_
    refine Cd.cond rfl (fun g16 => ?_) (fun g16 => ?_)
    · skip
      exact absurd g16 (by simp)
    try simp only [decide_eq_false_iff_not, decide_eq_true_eq, Int.not_lt, Int.not_le, Bool.not_eq_false, Bool.not_eq_true, Bool.not_true, Bool.not_false, Bool.not_eq_true', Bool.not_eq_false', beq_eq_false_iff_ne, ne_eq, beq_iff_eq, bne_iff_ne, bne_eq_false_iff_eq, Classical.not_not] at g16
    refine Cd.seq fun K8 hK8 => ?_
    refine Cd.plain [(0, false), (1, false), (2, false), (3, false), (4, false), (5, false), (6, false)] rfl rfl ?_
    refine Jp.y 20 rfl (want_all rfl) rfl rfl Kp.true (Y.move rfl rfl) ?_
    refine Jp.y 21 rfl (want_all rfl) rfl rfl Kp.true (Y.nilCheck rfl rfl) ?_
    refine Jp.y 22 rfl (want_all rfl) rfl rfl Kp.true (by first | exact Y.fieldAddrP rfl rfl Try.underlying68 rfl Try.sizeOf65 (by decide) (show _ + 2 = _ from rfl) | exact Y.fieldAddr rfl rfl Try.underlying68 rfl Try.sizeOf65 (by decide)) ?_
    refine Jp.y 23 rfl (want_all rfl) rfl rfl Kp.true (Y.loadO 0 rfl Try.isAgg65 rfl rfl rfl) ?_
    refine Jp.y 24 rfl (want_all rfl) rfl rfl Kp.true (by first | exact Y.lenmap 1 rfl Try.underlying65 rfl rfl) ?_
    refine Jp.y 25 rfl (want_all rfl) rfl rfl Kp.true (Y.geq rfl rfl rfl) ?_
    refine Jp.y 19 rfl (want_all rfl) rfl rfl Kp.true (Y.assign rfl rfl) ?_
    refine Jp.done hK8 ?_
    refine Cd.cond rfl (fun h1 => ?_) (fun h1 => ?_)
    · simp only [decide_eq_true_eq, gmap_length] at h1
      have h1 : (16 : Int) ≤ (op.length : Int) := h1
      have hl : 16 ≤ (FilesG.p ⟨all, bu, use, bo, op, bw, out⟩).op.length := by show 16 ≤ (gmap _ _).length; rw [gmap_length]; show 16 ≤ op.length; omega
      refine Cd.seq fun K9 hK9 => ?_
      refine Cd.plain [(0, false)] rfl rfl ?_
      refine Jp.y 4 rfl (want_all rfl) rfl rfl Kp.true (Y.assign rfl rfl) ?_
      refine Jp.done hK9 ?_
      refine Cd.ret [(0, _), (1, _)] rfl (res1 rfl rfl) ⟨rfl, rfl, trivial⟩ ⟨rfl, by rw [openP_many hf hl], op, by rw [openP_many hf hl], hr, rfl⟩
    · simp only [decide_eq_false_iff_not, gmap_length] at h1
      have hlo : op.length < 16 := by have : ¬ (16 : Int) ≤ (op.length : Int) := h1; omega
      have hl : (FilesG.p ⟨all, bu, use, bo, op, bw, out⟩).op.length < 16 := by show (gmap _ _).length < 16; rw [gmap_length]; exact hlo
      refine Cd.over rfl hK6 ?_
      refine Cd.seq fun K10 hK10 => ?_
      refine Cd.plain [(0, false)] rfl rfl ?_
      refine Jp.y 7 rfl (want_all rfl) rfl rfl Kp.true (Y.assign rfl rfl) ?_
      refine Jp.done hK10 ?_
      refine Cd.seq fun K11 hK11 => ?_
      refine Cd.block ?_
      refine Cd.loopK (G := Nat) (fun k => ∀ j : Nat, j < k → (gget op (j : Int)).isSome) (fun k => 17 - k) (fun _ => _) (fun k => [(7, .int .i64 (k : Int))]) [(0, _), (5, _)] (fun k => []) [(0, _), (1, _)] 0 (by simp) rfl ⟨rfl, trivial⟩ ⟨rfl, rfl, trivial⟩ trivial ⟨rfl, rfl, trivial⟩ (fun g KLa hok hLa => ?_)
      have hle : g ≤ op.length := by
        have := range_keys g (op.map (·.1)) fun j hj => Decidable.byContradiction fun hc => by have := hok j hj; rw [gget_none.2 hc] at this; cases this
        simpa using this
      refine Cd.block ?_
      refine Cd.seq fun K12 hK12 => ?_
      refine Cd.seq fun K13 hK13 => ?_
      refine Cd.plain [(0, false), (1, false), (2, false), (3, false), (4, false), (5, false), (6, false), (7, false), (8, false), (9, false), (10, false), (11, false)] rfl rfl ?_
      refine Jp.y 27 rfl (want_all rfl) rfl rfl Kp.true (Y.move rfl rfl) ?_
      refine Jp.y 28 rfl (want_all rfl) rfl rfl Kp.true (Y.nilCheck rfl rfl) ?_
      refine Jp.y 29 rfl (want_all rfl) rfl rfl Kp.true (by first | exact Y.fieldAddrP rfl rfl Try.underlying68 rfl Try.sizeOf65 (by decide) (show _ + 2 = _ from rfl) | exact Y.fieldAddr rfl rfl Try.underlying68 rfl Try.sizeOf65 (by decide)) ?_
      refine Jp.y 30 rfl (want_all rfl) rfl rfl Kp.true (Y.loadO 0 rfl Try.isAgg65 rfl rfl rfl) ?_
      refine Jp.y 31 rfl (want_all rfl) rfl rfl Kp.true (Y.move rfl rfl) ?_
      refine Jp.y 32 rfl (want_all rfl) rfl rfl Kp.true (by first | exact Y.lookupOk 1 rfl rfl rfl Try.underlying65 Try.underlying3 Try.zeroValue71 rfl) ?_
      rw [fil_look, fil_some]
      refine Jp.y 26 rfl (want_all rfl) rfl rfl Kp.true (Y.move rfl rfl) ?_
      refine Jp.y 33 rfl (want_all rfl) rfl rfl Kp.true (Y.extract rfl rfl rfl) ?_
      refine Jp.y 34 rfl (want_all rfl) rfl rfl Kp.true (Y.extract rfl rfl rfl) ?_
      refine Jp.alloc 5 8 rfl (want_all rfl) rfl rfl rfl Try.zeroValue71 fun b5 => ⟨Kp.true, ?_⟩
      first | refine Jp.storeAgg 0 rfl (want_all rfl) rfl rfl Try.sizeOf71 rfl rfl rfl rfl rfl rfl (fun k _ _ => noFr0 k) Kp.true ?_ | refine Jp.storeAgg 5 rfl (want_all rfl) rfl rfl Try.sizeOf71 rfl rfl rfl rfl rfl rfl (fun k _ _ => noFr0 k) Kp.true ?_
      refine Jp.y 9 rfl (want_all rfl) rfl rfl Kp.true (Y.assign rfl rfl) ?_
      refine Jp.done hK13 ?_
      refine Cd.seq fun K14 hK14 => ?_
      refine Cd.plain [(0, false), (1, false)] rfl rfl ?_
      refine Jp.y 35 rfl (want_all rfl) rfl rfl Kp.true (Y.move rfl rfl) ?_
      refine Jp.y 36 rfl (want_all rfl) rfl rfl Kp.true (Y.not rfl rfl) ?_
      refine Jp.done hK14 ?_
      refine Cd.cond rfl (fun h2 => ?_) (fun h2 => ?_)
      · have hn : gget op (g : Int) = none := by simpa using h2
        have hlst : leastP (FilesG.p ⟨all, bu, use, bo, op, bw, out⟩).op = g := by
          refine leastP_eq (fun j hj => ?_) ?_
          · show (gget (gmap _ _) _).isSome; rw [gget_gmap, Option.isSome_map]; exact hok j hj
          · show gget (gmap _ _) _ = none; rw [gget_gmap, hn]; rfl
        refine Cd.exit rfl hK11 ?_
        refine Cd.seq fun K15 hK15 => ?_
        refine Cd.plain [(0, false), (1, false), (2, false), (3, false), (4, false), (5, false), (6, false), (7, false)] rfl rfl ?_
        refine Jp.y 39 rfl (want_all rfl) rfl rfl Kp.true (Y.move rfl rfl) ?_
        refine Jp.y 40 rfl (want_all rfl) rfl rfl Kp.true (Y.nilCheck rfl rfl) ?_
        refine Jp.y 41 rfl (want_all rfl) rfl rfl Kp.true (by first | exact Y.fieldAddrP rfl rfl Try.underlying68 rfl Try.sizeOf65 (by decide) (show _ + 2 = _ from rfl) | exact Y.fieldAddr rfl rfl Try.underlying68 rfl Try.sizeOf65 (by decide)) ?_
        refine Jp.y 42 rfl (want_all rfl) rfl rfl Kp.true (by first | exact Y.loadO 0 rfl Try.isAgg65 rfl rfl rfl | exact Y.loadO 5 rfl Try.isAgg65 rfl rfl rfl) ?_
        refine Jp.y 43 rfl (want_all rfl) rfl rfl Kp.true (Y.move rfl rfl) ?_
        refine Jp.y 44 rfl (want_all rfl) rfl rfl Kp.true (Y.move rfl rfl) ?_
        refine Jp.y 45 rfl (want_all rfl) rfl rfl Kp.true (Y.struct [(0, _)] [_, _, _] rfl rfl places71 Try.zeroValue71 rfl) ?_
        first | refine Jp.mapUpdate 1 rfl (want_all rfl) rfl rfl rfl rfl rfl Try.underlying65 Try.underlying3 rfl Kp.true ?_
        refine Jp.done hK15 ?_
        refine Cd.seq fun K16 hK16 => ?_
        refine Cd.plain [(0, false), (1, false)] rfl rfl ?_
        refine Jp.y 46 rfl (want_all rfl) rfl rfl Kp.true (Y.move rfl rfl) ?_
        refine Jp.y 4 rfl (want_all rfl) rfl rfl Kp.true (Y.assign rfl rfl) ?_
        refine Jp.done hK16 ?_
        rw [show (Value.agg #[.slice f.data.A f.data.xs.length f.data.c, .int .i64 0, .bool false]) = FilG.v ⟨f.data, 0, false⟩ from rfl, mset_gmap]
        refine Cd.ret [(0, _), (1, _)] rfl (res1 rfl rfl) ⟨rfl, rfl, trivial⟩ ⟨rfl, by rw [openP_some hf hl, hlst], gset op g ⟨f.data, 0, false⟩, ?_, ?_, rfl⟩
        · rw [openP_some hf hl, hlst]
          show FilesP.mk _ _ _ _ = _
          rw [← gset_gmap]; rfl
        · refine ⟨hr.all, hr.use, fun x hx => ?_, hr.out, ?_⟩
          · rcases gset_mem hx with rfl | hx
            · exact hr.all.2 f hfm
            · exact hr.op x hx
          · have h5 := hr.ok.openP (str name)
            rw [openP_some hf hl, hlst] at h5
            have h6 : FilesG.p ⟨all, bu, use, bo, gset op g ⟨f.data, 0, false⟩, bw, out⟩ = { FilesG.p ⟨all, bu, use, bo, op, bw, out⟩ with op := gset (FilesG.p ⟨all, bu, use, bo, op, bw, out⟩).op (g : Int) ⟨f.p.2, 0, false⟩ } := by
              show FilesP.mk _ _ _ _ = _
              rw [← gset_gmap]; rfl
            rw [h6]; exact h5
      · have hs : (gget op (g : Int)).isSome := by simpa using h2
        refine Cd.skip hK12 ?_
        refine Cd.plain [(0, false), (1, false), (2, false)] rfl rfl ?_
        refine Jp.y 37 rfl (want_all rfl) rfl rfl Kp.true (Y.move rfl rfl) ?_
        refine Jp.y 38 rfl (want_all rfl) rfl rfl Kp.true (Y.add_ rfl rfl rfl (by first | exact wrap_i64 (by omega) (by omega) | rfl)) ?_
        refine Jp.y 7 rfl (want_all rfl) rfl rfl Kp.true (Y.assign rfl rfl) ?_
        refine JpQ.again rfl hLa (g + 1) (fun j hj => ?_) (by omega) rfl ⟨rfl, rfl, rfl, trivial⟩ ⟨rfl, rfl, trivial⟩
        by_cases hjg : j < g
        · exact hok j hjg
        · have : j = g := by omega
          subst this; exact hs
theorem close_spec (b : Nat) (g : FilesG) (fd : Int) : Spec Try.prog 11 #[.pointer (some ⟨b, 0, none⟩), .int .i64 fd] (RdFs g) [(0, FsPt b g), (1, MapO .i64 g.bo (gmap FilG.v g.op))]
    (fun ρ ρ' v L => ρ' = ρ ∧ v = .int .i64 (closeFP g.p fd).1 ∧ ∃ op, { g with op := op }.p = (closeFP g.p fd).2 ∧ RdFs { g with op := op } ρ ∧ L = [(0, FsPt b g), (1, MapO .i64 g.bo (gmap FilG.v op))]) := by
  obtain ⟨all, bu, use, bo, op, bw, out⟩ := g
  dsimp only [FsPt, FilesG.cells]
  refine Spec.of 23 Try.func11 rfl Try.ntmps11 [(0, _), (1, _)] rfl rfl ?_
  intro cx ρ hr h0
  refine Cd.seq fun K17 hK17 => ?_
  refine Cd.plain [(0, false)] rfl rfl ?_
  refine Jp.y 4 rfl (want_all rfl) rfl rfl Kp.true (Y.assign rfl rfl) ?_
  refine Jp.done hK17 ?_
  refine Cd.seq fun K18 hK18 => ?_
  refine Cd.seq fun K19 hK19 => ?_
  refine Cd.plain [(0, false), (1, false), (2, false), (3, false), (4, false), (5, false), (6, false), (7, false), (8, false), (9, false), (10, false), (11, false)] rfl rfl ?_
  refine Jp.y 8 rfl (want_all rfl) rfl rfl Kp.true (Y.move rfl rfl) ?_
  refine Jp.y 9 rfl (want_all rfl) rfl rfl Kp.true (Y.nilCheck rfl rfl) ?_
  refine Jp.y 10 rfl (want_all rfl) rfl rfl Kp.true (by first | exact Y.fieldAddrP rfl rfl Try.underlying68 rfl Try.sizeOf65 (by decide) (show _ + 2 = _ from rfl) | exact Y.fieldAddr rfl rfl Try.underlying68 rfl Try.sizeOf65 (by decide)) ?_
  refine Jp.y 11 rfl (want_all rfl) rfl rfl Kp.true (Y.loadO 0 rfl Try.isAgg65 rfl rfl rfl) ?_
  refine Jp.y 12 rfl (want_all rfl) rfl rfl Kp.true (Y.move rfl rfl) ?_
  refine Jp.y 13 rfl (want_all rfl) rfl rfl Kp.true (by first | exact Y.lookupOk 1 rfl rfl rfl Try.underlying65 Try.underlying3 Try.zeroValue71 rfl) ?_
  rw [fil_look, fil_some]
  have hg : (gget (FilesG.p ⟨all, bu, use, bo, op, bw, out⟩).op fd).isSome = (gget op fd).isSome := by show (gget (gmap _ _) _).isSome = _; rw [gget_gmap, Option.isSome_map]
  refine Jp.y 7 rfl (want_all rfl) rfl rfl Kp.true (Y.move rfl rfl) ?_
  refine Jp.y 14 rfl (want_all rfl) rfl rfl Kp.true (Y.extract rfl rfl rfl) ?_
  refine Jp.y 15 rfl (want_all rfl) rfl rfl Kp.true (Y.extract rfl rfl rfl) ?_
  refine Jp.alloc 5 5 rfl (want_all rfl) rfl rfl rfl Try.zeroValue71 fun b5 => ⟨Kp.true, ?_⟩
  first | refine Jp.storeAgg 0 rfl (want_all rfl) rfl rfl Try.sizeOf71 rfl rfl rfl rfl rfl rfl (fun k _ _ => noFr0 k) Kp.true ?_ | refine Jp.storeAgg 5 rfl (want_all rfl) rfl rfl Try.sizeOf71 rfl rfl rfl rfl rfl rfl (fun k _ _ => noFr0 k) Kp.true ?_
  refine Jp.y 6 rfl (want_all rfl) rfl rfl Kp.true (Y.assign rfl rfl) ?_
  refine Jp.done hK19 ?_
  refine Cd.seq fun K20 hK20 => ?_
  refine Cd.plain [(0, false), (1, false)] rfl rfl ?_
  refine Jp.y 16 rfl (want_all rfl) rfl rfl Kp.true (Y.move rfl rfl) ?_
  refine Jp.y 17 rfl (want_all rfl) rfl rfl Kp.true (Y.not rfl rfl) ?_
  refine Jp.done hK20 ?_
  refine Cd.cond rfl (fun h1 => ?_) (fun h1 => ?_)
  · have h1 : (gget op fd).isSome = false := by simpa using h1
    refine Cd.seq fun K21 hK21 => ?_
    refine Cd.plain [(0, false)] rfl rfl ?_
    refine Jp.y 4 rfl (want_all rfl) rfl rfl Kp.true (Y.assign rfl rfl) ?_
    refine Jp.done hK21 ?_
    refine Cd.ret [(0, _), (1, _)] rfl (res1 rfl rfl) ⟨rfl, rfl, trivial⟩ ⟨rfl, ?_, op, ?_, hr, rfl⟩
    · rw [closeFP, hg, h1]; rfl
    · rw [closeFP, hg, h1]; rfl
  · have h1 : (gget op fd).isSome = true := by simpa using h1
    refine Cd.skip hK18 ?_
    refine Cd.seq fun K22 hK22 => ?_
    refine Cd.plain [(0, false), (1, false), (2, false), (3, false), (4, false), (5, false)] rfl rfl ?_
    refine Jp.y 18 rfl (want_all rfl) rfl rfl Kp.true (Y.move rfl rfl) ?_
    refine Jp.y 19 rfl (want_all rfl) rfl rfl Kp.true (Y.nilCheck rfl rfl) ?_
    refine Jp.y 20 rfl (want_all rfl) rfl rfl Kp.true (by first | exact Y.fieldAddrP rfl rfl Try.underlying68 rfl Try.sizeOf65 (by decide) (show _ + 2 = _ from rfl) | exact Y.fieldAddr rfl rfl Try.underlying68 rfl Try.sizeOf65 (by decide)) ?_
    refine Jp.y 21 rfl (want_all rfl) rfl rfl Kp.true (by first | exact Y.loadO 0 rfl Try.isAgg65 rfl rfl rfl | exact Y.loadO 5 rfl Try.isAgg65 rfl rfl rfl) ?_
    refine Jp.y 22 rfl (want_all rfl) rfl rfl Kp.true (Y.move rfl rfl) ?_
    first | refine Jp.delete0 1 rfl (want_all rfl) rfl rfl rfl rfl Try.underlying65 Try.underlying3 rfl Kp.true ?_
    refine Jp.done hK22 ?_
    refine Cd.seq fun K23 hK23 => ?_
    refine Cd.plain [(0, false)] rfl rfl ?_
    refine Jp.y 4 rfl (want_all rfl) rfl rfl Kp.true (Y.assign rfl rfl) ?_
    refine Jp.done hK23 ?_
    rw [mdel_gmap]
    have h6 : FilesG.p ⟨all, bu, use, bo, gdel op fd, bw, out⟩ = (closeFP (FilesG.p ⟨all, bu, use, bo, op, bw, out⟩) fd).2 := by
      rw [closeFP, hg, h1]
      show FilesP.mk _ _ _ _ = _
      rw [← gdel_gmap]; rfl
    refine Cd.ret [(0, _), (1, _)] rfl (res1 rfl rfl) ⟨rfl, rfl, trivial⟩ ⟨rfl, ?_, gdel op fd, h6, ⟨hr.all, hr.use, fun x hx => hr.op x (gdel_mem hx), hr.out, ?_⟩, rfl⟩
    · rw [closeFP, hg, h1]; rfl
    · rw [h6]; exact hr.ok.closeP fd
end Go.Proofs.Ytogkncmhonomdaa
