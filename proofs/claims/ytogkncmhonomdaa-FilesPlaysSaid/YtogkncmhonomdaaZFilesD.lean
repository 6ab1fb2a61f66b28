import Derived.Test.YtogkncmhonomdaaZFilesC
set_option linter.unusedVariables false
set_option linter.unusedSimpArgs false
set_option maxRecDepth 100000
namespace Go.Proofs.Ytogkncmhonomdaa
open Go
theorem writeP_none {p : FilesP} {fd : Int} {b : Bytes} (h : gget p.op fd = none) : writeFP p fd b = (-9, p) := by rw [writeFP, h]
theorem writeP_rd {p : FilesP} {fd : Int} {b : Bytes} {x : FilP} (h : gget p.op fd = some x) (hw : x.wr = false) : writeFP p fd b = (-9, p) := by rw [writeFP, h]; simp [hw]
theorem writeP_full {p : FilesP} {fd : Int} {b : Bytes} {x : FilP} (h : gget p.op fd = some x) (hw : x.wr = true) (hl : 65536 < (outFP p fd).length + b.length) : writeFP p fd b = (-28, p) := by rw [outFP] at hl; rw [writeFP, h]; simp [hw, hl]
theorem writeP_some {p : FilesP} {fd : Int} {b : Bytes} {x : FilP} (h : gget p.op fd = some x) (hw : x.wr = true) (hl : (outFP p fd).length + b.length ≤ 65536) : writeFP p fd b = ((b.length : Int), { p with out := gset p.out fd (outFP p fd ++ b) }) := by rw [outFP] at hl; rw [writeFP, h]; simp [hw, Nat.not_lt.2 hl, outFP]
theorem FsOk.outP {p : FilesP} (h : FsOk p) (fd : Int) : (outFP p fd).length ≤ 65536 := by
  rw [outFP]
  cases hx : gget p.out fd with
  | none => simp
  | some y => exact h.out _ (gget_mem hx)
theorem FsOk.writeP {p : FilesP} (h : FsOk p) (fd : Int) (b : Bytes) : FsOk (writeFP p fd b).2 := by
  rw [writeFP]
  split
  · exact h
  · split
    · split
      · exact h
      · rename_i hl
        refine ⟨h.all, h.use, h.op, h.nd, fun y hy => ?_⟩
        rcases gset_mem hy with rfl | hy
        · dsimp only; rw [List.length_append]; omega
        · exact h.out y hy
    · exact h
theorem out_look (out : List (Int × Sl UInt8)) (k : Int) : (mget (gmap Sl.v out) k).getD (.slice none 0 0) = Sl.v ((gget out k).getD ⟨none, 0, []⟩) := by
  rw [mget_gmap]; cases gget out k <;> rfl
theorem write_spec (b : Nat) (g : FilesG) (fd : Int) (s : Sl UInt8) (hsl : s.xs.length ≤ 1000000) : Spec Try.prog 15 #[.pointer (some ⟨b, 0, none⟩), .int .i64 fd, s.v] (fun h => RdFs g h ∧ RdB s h) [(0, FsPt b g), (1, MapO .i64 g.bo (gmap FilG.v g.op)), (2, MapO .i64 g.bw (gmap Sl.v g.out))]
    (fun ρ ρ' v L => v = .int .i64 (writeFP g.p fd s.xs).1 ∧ ∃ out, { g with out := out }.p = (writeFP g.p fd s.xs).2 ∧ RdFs { g with out := out } ρ' ∧ L = [(0, FsPt b g), (1, MapO .i64 g.bo (gmap FilG.v g.op)), (2, MapO .i64 g.bw (gmap Sl.v out))]) := by
  obtain ⟨all, bu, use, bo, op, bw, out⟩ := g
  obtain ⟨As, cs, bs⟩ := s
  have hsl : bs.length ≤ 1000000 := hsl
  dsimp only [FsPt, FilesG.cells]
  refine Spec.of 54 Try.func15 rfl Try.ntmps15 [(0, _), (1, _), (2, _)] rfl rfl ?_
  intro cx ρ hr0 h0
  obtain ⟨hr, hrs⟩ := hr0
  obtain ⟨so, hso⟩ : ∃ so : Sl UInt8, so = (gget out fd).getD ⟨none, 0, []⟩ := ⟨_, rfl⟩
  have hsv : (mget (gmap Sl.v out) fd).getD (.slice none 0 0) = .slice so.A so.xs.length so.c := by rw [out_look, ← hso]; rfl
  have hsx : outFP (FilesG.p ⟨all, bu, use, bo, op, bw, out⟩) fd = so.xs := by
    rw [outFP, FilesG.out_get, hso]
    cases gget out fd <;> rfl
  have hrso : RdB so ρ := by
    rw [hso]
    cases hx : gget out fd with
    | none => exact RdS.nil 1 _
    | some y => exact hr.out _ (gget_mem hx)
  have hsol : so.xs.length ≤ 65536 := by rw [← hsx]; exact hr.ok.outP fd
  refine Cd.seq fun K1 hK1 => ?_
  refine Cd.plain [(0, false)] rfl rfl ?_
  refine Jp.y 6 rfl (want_all rfl) rfl rfl Kp.true (Y.assign rfl rfl) ?_
  refine Jp.done hK1 ?_
  refine Cd.seq fun K2 hK2 => ?_
  refine Cd.plain [(0, false), (1, false), (2, false), (3, false), (4, false), (5, false), (6, false), (7, false), (8, false), (9, false), (10, false), (11, false)] rfl rfl ?_
  refine Jp.y 10 rfl (want_all rfl) rfl rfl Kp.true (Y.move rfl rfl) ?_
  refine Jp.y 11 rfl (want_all rfl) rfl rfl Kp.true (Y.nilCheck rfl rfl) ?_
  refine Jp.y 12 rfl (want_all rfl) rfl rfl Kp.true (by first | exact Y.fieldAddrP rfl rfl Try.underlying68 rfl Try.sizeOf65 (by decide) (show _ + 2 = _ from rfl) | exact Y.fieldAddr rfl rfl Try.underlying68 rfl Try.sizeOf65 (by decide)) ?_
  refine Jp.y 13 rfl (want_all rfl) rfl rfl Kp.true (by first | exact Y.loadO 0 rfl Try.isAgg65 rfl rfl rfl | exact Y.loadO 6 rfl Try.isAgg65 rfl rfl rfl) ?_
  refine Jp.y 14 rfl (want_all rfl) rfl rfl Kp.true (Y.move rfl rfl) ?_
  refine Jp.y 15 rfl (want_all rfl) rfl rfl Kp.true (by first | exact Y.lookupOk 1 rfl rfl rfl Try.underlying65 Try.underlying3 Try.zeroValue71 rfl | exact Y.lookupOk 2 rfl rfl rfl Try.underlying65 Try.underlying3 Try.zeroValue71 rfl) ?_
  rcases hx : gget op fd with _ | x
  · have e := writeP_none (b := bs) (FilesG.op_none (g := ⟨all, bu, use, bo, op, bw, out⟩) hx)
    rw [fil_look, fil_some, hx]
    refine Jp.y 9 rfl (want_all rfl) rfl rfl Kp.true (Y.move rfl rfl) ?_
    refine Jp.y 16 rfl (want_all rfl) rfl rfl Kp.true (Y.extract rfl rfl rfl) ?_
    refine Jp.y 17 rfl (want_all rfl) rfl rfl Kp.true (Y.extract rfl rfl rfl) ?_
    refine Jp.alloc 6 7 rfl (want_all rfl) rfl rfl rfl Try.zeroValue71 fun b6 => ⟨Kp.true, ?_⟩
    first | refine Jp.storeAgg 0 rfl (want_all rfl) rfl rfl Try.sizeOf71 rfl rfl rfl rfl rfl rfl (fun k _ _ => noFr0 k) Kp.true ?_ | refine Jp.storeAgg 6 rfl (want_all rfl) rfl rfl Try.sizeOf71 rfl rfl rfl rfl rfl rfl (fun k _ _ => noFr0 k) Kp.true ?_ | refine Jp.storeAgg 6 rfl (want_all rfl) rfl rfl Try.sizeOf71 rfl rfl rfl rfl rfl rfl (fun k _ _ => noFr0 k) Kp.true ?_
    refine Jp.y 8 rfl (want_all rfl) rfl rfl Kp.true (Y.assign rfl rfl) ?_
    refine Jp.done hK2 ?_
    refine Cd.seq fun K3 hK3 => ?_
    refine Cd.block ?_
    refine Cd.seq fun K4 hK4 => ?_
    refine Cd.plain [(0, false), (1, false), (2, false), (3, false), (4, false), (5, false), (6, false), (7, false)] rfl rfl ?_
    refine Jp.y 19 rfl (want_all rfl) rfl rfl Kp.true (Y.move rfl rfl) ?_
    refine Jp.y 20 rfl (want_all rfl) rfl rfl Kp.true (Y.not rfl rfl) ?_
    refine Jp.y 21 rfl (want_all rfl) rfl rfl Kp.true (Y.move rfl rfl) ?_
    refine Jp.splitF 21 rfl (fun g21 => ?_) (fun g21 => ?_)
    · skip
      exact absurd g21 (by simp)
    try simp only [decide_eq_false_iff_not, decide_eq_true_eq, Int.not_lt, Int.not_le, Bool.not_eq_false, Bool.not_eq_true, Bool.not_true, Bool.not_false, Bool.not_eq_true', Bool.not_eq_false', beq_eq_false_iff_ne, ne_eq, beq_iff_eq, bne_iff_ne, bne_eq_false_iff_eq, Classical.not_not] at g21
    refine Jp.skip 22 rfl (want_as rfl rfl rfl rfl) rfl rfl Kp.true ?_
    refine Jp.skip 23 rfl (want_as rfl rfl rfl rfl) rfl rfl Kp.true ?_
    refine Jp.skip 24 rfl (want_as rfl rfl rfl rfl) rfl rfl Kp.true ?_
    refine Jp.y 25 rfl (want_all rfl) rfl rfl Kp.true (Y.pickT rfl rfl rfl) ?_
    refine Jp.y 18 rfl (want_all rfl) rfl rfl Kp.true (Y.assign rfl rfl) ?_
    refine Jp.done hK4 ?_
    refine Cd.condT rfl ?_
    refine Cd.seq fun K5 hK5 => ?_
    refine Cd.plain [(0, false)] rfl rfl ?_
    refine Jp.y 6 rfl (want_all rfl) rfl rfl Kp.true (Y.assign rfl rfl) ?_
    refine Jp.done hK5 ?_
    refine Cd.ret [(0, _), (1, _), (2, _)] rfl (res1 rfl rfl) ⟨rfl, rfl, rfl, trivial⟩ ⟨by rw [e], out, by rw [e], hr, rfl⟩
  · have hgx := FilesG.op_get (g := ⟨all, bu, use, bo, op, bw, out⟩) hx
    obtain ⟨⟨Ax, cx', xs⟩, at', wr⟩ := x
    rw [show (mget (gmap FilG.v op) fd).getD (.agg #[.slice none 0 0, .int .i64 0, .bool false]) = .agg #[.slice Ax xs.length cx', .int .i64 (at' : Int), .bool wr] by rw [fil_look, hx]; rfl, show (mget (gmap FilG.v op) fd).isSome = true by rw [fil_some, hx]; rfl]
    refine Jp.y 9 rfl (want_all rfl) rfl rfl Kp.true (Y.move rfl rfl) ?_
    refine Jp.y 16 rfl (want_all rfl) rfl rfl Kp.true (Y.extract rfl rfl rfl) ?_
    refine Jp.y 17 rfl (want_all rfl) rfl rfl Kp.true (Y.extract rfl rfl rfl) ?_
    refine Jp.alloc 6 7 rfl (want_all rfl) rfl rfl rfl Try.zeroValue71 fun b6 => ⟨Kp.true, ?_⟩
    first | refine Jp.storeAgg 0 rfl (want_all rfl) rfl rfl Try.sizeOf71 rfl rfl rfl rfl rfl rfl (fun k _ _ => noFr0 k) Kp.true ?_ | refine Jp.storeAgg 6 rfl (want_all rfl) rfl rfl Try.sizeOf71 rfl rfl rfl rfl rfl rfl (fun k _ _ => noFr0 k) Kp.true ?_ | refine Jp.storeAgg 6 rfl (want_all rfl) rfl rfl Try.sizeOf71 rfl rfl rfl rfl rfl rfl (fun k _ _ => noFr0 k) Kp.true ?_ | refine Jp.storeAgg 6 rfl (want_all rfl) rfl rfl Try.sizeOf71 rfl rfl rfl rfl rfl rfl (fun k _ _ => noFr0 k) Kp.true ?_
    refine Jp.y 8 rfl (want_all rfl) rfl rfl Kp.true (Y.assign rfl rfl) ?_
    refine Jp.done hK2 ?_
    refine Cd.seq fun K6 hK6 => ?_
    refine Cd.block ?_
    refine Cd.seq fun K7 hK7 => ?_
    refine Cd.plain [(0, false), (1, false), (2, false), (3, false), (4, false), (5, false), (6, false), (7, false)] rfl rfl ?_
    refine Jp.y 19 rfl (want_all rfl) rfl rfl Kp.true (Y.move rfl rfl) ?_
    refine Jp.y 20 rfl (want_all rfl) rfl rfl Kp.true (Y.not rfl rfl) ?_
    refine Jp.y 21 rfl (want_all rfl) rfl rfl Kp.true (Y.move rfl rfl) ?_
    refine Jp.split 21 rfl (fun g21 => ?_) (fun g21 => ?_)
    · skip
      exact absurd g21 (by simp)
    try simp only [decide_eq_false_iff_not, decide_eq_true_eq, Int.not_lt, Int.not_le, Bool.not_eq_false, Bool.not_eq_true, Bool.not_true, Bool.not_false, Bool.not_eq_true', Bool.not_eq_false', beq_eq_false_iff_ne, ne_eq, beq_iff_eq, bne_iff_ne, bne_eq_false_iff_eq, Classical.not_not] at g21
    refine Jp.y 22 rfl (want_as rfl rfl rfl rfl) rfl rfl Kp.true (by first | exact Y.fieldAddrP rfl rfl Try.underlying71 rfl Try.sizeOf4 (by decide) (show _ + 2 = _ from rfl) | exact Y.fieldAddr rfl rfl Try.underlying71 rfl Try.sizeOf4 (by decide)) ?_
    refine Jp.y 23 rfl (want_as rfl rfl rfl rfl) rfl rfl Kp.true (by first | exact Y.loadO 0 rfl Try.isAgg4 rfl rfl rfl | exact Y.loadO 6 rfl Try.isAgg4 rfl rfl rfl | exact Y.loadO 6 rfl Try.isAgg4 rfl rfl rfl | exact Y.loadO 6 rfl Try.isAgg4 rfl rfl rfl) ?_
    refine Jp.y 24 rfl (want_as rfl rfl rfl rfl) rfl rfl Kp.true (Y.not rfl rfl) ?_
    refine Jp.y 25 rfl (want_all rfl) rfl rfl Kp.true (Y.pickF rfl rfl rfl) ?_
    refine Jp.y 18 rfl (want_all rfl) rfl rfl Kp.true (Y.assign rfl rfl) ?_
    refine Jp.done hK7 ?_
    refine Cd.cond rfl (fun h1 => ?_) (fun h1 => ?_)
    · have h1 : wr = false := by simpa using h1
      have e := writeP_rd (b := bs) hgx h1
      refine Cd.seq fun K8 hK8 => ?_
      refine Cd.plain [(0, false)] rfl rfl ?_
      refine Jp.y 6 rfl (want_all rfl) rfl rfl Kp.true (Y.assign rfl rfl) ?_
      refine Jp.done hK8 ?_
      refine Cd.ret [(0, _), (1, _), (2, _)] rfl (res1 rfl rfl) ⟨rfl, rfl, rfl, trivial⟩ ⟨by rw [e], out, by rw [e], hr, rfl⟩
    · have h1 : wr = true := by simpa using h1
      refine Cd.seq fun K9 hK9 => ?_
      refine Cd.plain [(0, false), (1, false), (2, false), (3, false), (4, false), (5, false), (6, false), (7, false), (8, false), (9, false), (10, false), (11, false)] rfl rfl ?_
      refine Jp.y 27 rfl (want_all rfl) rfl rfl Kp.true (Y.move rfl rfl) ?_
      refine Jp.y 28 rfl (want_all rfl) rfl rfl Kp.true (Y.nilCheck rfl rfl) ?_
      refine Jp.y 29 rfl (want_all rfl) rfl rfl Kp.true (by first | exact Y.fieldAddrP rfl rfl Try.underlying68 rfl Try.sizeOf66 (by decide) (show _ + 3 = _ from rfl) | exact Y.fieldAddr rfl rfl Try.underlying68 rfl Try.sizeOf66 (by decide)) ?_
      refine Jp.y 30 rfl (want_all rfl) rfl rfl Kp.true (by first | exact Y.loadO 0 rfl Try.isAgg66 rfl rfl rfl | exact Y.loadO 6 rfl Try.isAgg66 rfl rfl rfl | exact Y.loadO 6 rfl Try.isAgg66 rfl rfl rfl | exact Y.loadO 6 rfl Try.isAgg66 rfl rfl rfl) ?_
      refine Jp.y 31 rfl (want_all rfl) rfl rfl Kp.true (Y.move rfl rfl) ?_
      refine Jp.y 32 rfl (want_all rfl) rfl rfl Kp.true (by first | exact Y.lookup 1 rfl rfl rfl Try.underlying66 Try.underlying3 Try.zeroValue23 rfl | exact Y.lookup 2 rfl rfl rfl Try.underlying66 Try.underlying3 Try.zeroValue23 rfl) ?_
      rw [hsv]
      refine Jp.y 33 rfl (want_all rfl) rfl rfl Kp.true (Y.lenslice rfl Try.underlying23 rfl) ?_
      refine Jp.y 34 rfl (want_all rfl) rfl rfl Kp.true (Y.move rfl rfl) ?_
      refine Jp.y 35 rfl (want_all rfl) rfl rfl Kp.true (Y.lenslice rfl Try.underlying23 rfl) ?_
      refine Jp.y 36 rfl (want_all rfl) rfl rfl Kp.true (Y.add_ rfl rfl rfl (wrap_i64 (by omega) (by omega))) ?_
      refine Jp.y 37 rfl (want_all rfl) rfl rfl Kp.true (Y.gtr rfl rfl rfl) ?_
      refine Jp.y 26 rfl (want_all rfl) rfl rfl Kp.true (Y.assign rfl rfl) ?_
      refine Jp.done hK9 ?_
      refine Cd.cond rfl (fun h2 => ?_) (fun h2 => ?_)
      · simp only [decide_eq_true_eq] at h2
        have e := writeP_full (b := bs) hgx h1 (by rw [hsx]; omega)
        refine Cd.seq fun K10 hK10 => ?_
        refine Cd.plain [(0, false)] rfl rfl ?_
        refine Jp.y 6 rfl (want_all rfl) rfl rfl Kp.true (Y.assign rfl rfl) ?_
        refine Jp.done hK10 ?_
        refine Cd.ret [(0, _), (1, _), (2, _)] rfl (res1 rfl rfl) ⟨rfl, rfl, rfl, trivial⟩ ⟨by rw [e], out, by rw [e], hr, rfl⟩
      · simp only [decide_eq_false_iff_not] at h2
        have e := writeP_some (b := bs) hgx h1 (by rw [hsx]; omega)
        rw [hsx] at e
        refine Cd.over rfl hK6 ?_
        refine Cd.seq fun K11 hK11 => ?_
        refine Cd.drawn [(0, _), (2, _)] ⟨rfl, rfl, trivial⟩ [(0, true), (1, true), (2, true), (3, true), (4, true), (5, true), (6, true), (7, true), (8, true), (9, true), (10, true), (12, true), (11, false), (13, false), (14, false)] follows (by kernel_rfl) (fun hrl => ?_)
        refine Jp.q 38 rfl (want_all rfl) rfl rfl (Y.move rfl rfl) ?_
        refine Jp.q 39 rfl (want_all rfl) rfl rfl (Y.nilCheck rfl rfl) ?_
        refine Jp.q 40 rfl (want_all rfl) rfl rfl (by first | exact Y.fieldAddrP rfl rfl Try.underlying68 rfl Try.sizeOf66 (by decide) (show _ + 3 = _ from rfl) | exact Y.fieldAddr rfl rfl Try.underlying68 rfl Try.sizeOf66 (by decide)) ?_
        refine Jp.q 41 rfl (want_all rfl) rfl rfl (by first | exact Y.loadO 0 rfl Try.isAgg66 rfl rfl rfl | exact Y.loadO 6 rfl Try.isAgg66 rfl rfl rfl | exact Y.loadO 6 rfl Try.isAgg66 rfl rfl rfl | exact Y.loadO 6 rfl Try.isAgg66 rfl rfl rfl) ?_
        refine Jp.q 42 rfl (want_all rfl) rfl rfl (Y.move rfl rfl) ?_
        refine Jp.q 43 rfl (want_all rfl) rfl rfl (Y.move rfl rfl) ?_
        refine Jp.q 44 rfl (want_all rfl) rfl rfl (Y.nilCheck rfl rfl) ?_
        refine Jp.q 45 rfl (want_all rfl) rfl rfl (by first | exact Y.fieldAddrP rfl rfl Try.underlying68 rfl Try.sizeOf66 (by decide) (show _ + 3 = _ from rfl) | exact Y.fieldAddr rfl rfl Try.underlying68 rfl Try.sizeOf66 (by decide)) ?_
        refine Jp.q 46 rfl (want_all rfl) rfl rfl (by first | exact Y.loadO 0 rfl Try.isAgg66 rfl rfl rfl | exact Y.loadO 6 rfl Try.isAgg66 rfl rfl rfl | exact Y.loadO 6 rfl Try.isAgg66 rfl rfl rfl | exact Y.loadO 6 rfl Try.isAgg66 rfl rfl rfl) ?_
        refine Jp.q 47 rfl (want_all rfl) rfl rfl (Y.move rfl rfl) ?_
        refine Jp.q 48 rfl (want_all rfl) rfl rfl (by first | exact Y.lookup 1 rfl rfl rfl Try.underlying66 Try.underlying3 Try.zeroValue23 rfl | exact Y.lookup 2 rfl rfl rfl Try.underlying66 Try.underlying3 Try.zeroValue23 rfl) ?_
        rw [hsv]
        refine Jp.q 50 rfl (want_all rfl) rfl rfl (Y.move rfl rfl) ?_
        refine Jp.call [] [7] (f26_spec so (by omega)) 49 rfl (want_all rfl) rfl rfl (Runs.fn rfl Try.call26 rfl) (by decide) (by decide) rfl hrso ?_
        rintro v1 ρ1 L1 ⟨rfl, A1, c1, rfl, rfl⟩
        refine ⟨rfl, fun hle1 => ⟨(Kp.st ⟨rfl, rfl, trivial⟩), ?_⟩⟩
        refine Jp.append 51 7 rfl (want_all rfl) rfl rfl rfl Try.underlying23 Try.underlying23 (.inl ⟨_, rfl⟩) Try.sizeOf5 Try.typeInfo5 Try.zeroValue5 rfl (by decide) rfl rfl rfl (Src.rd hrs) (bytesV_one _) ((so.xs.length + bs.length)) ((bytesV (so.xs ++ bs))) (by first | omega | simp) (by simp [bytesV]) (by simp only [Try.t5]; omega) fun A2 c2 => ⟨(Kp.st ⟨rfl, rfl, trivial⟩), ?_⟩
        first | refine Jp.mapUpdate 1 rfl (want_all rfl) rfl rfl rfl rfl rfl Try.underlying66 Try.underlying3 rfl Kp.last ?_ | refine Jp.mapUpdate 2 rfl (want_all rfl) rfl rfl rfl rfl rfl Try.underlying66 Try.underlying3 rfl Kp.last ?_
        refine Jp.done hK11 ?_
        refine Cd.seq fun K13 hK13 => ?_
        refine Cd.plain [(0, false), (1, false), (2, false)] rfl rfl ?_
        refine Jp.freeze (i := 7) rfl (OwnS.up _ _ _ _ _ _) fun ρ3 l3 q3 => ?_
        refine Jp.y 52 rfl (want_all rfl) rfl rfl Kp.true (Y.move rfl rfl) ?_
        refine Jp.y 53 rfl (want_all rfl) rfl rfl Kp.true (Y.lenslice rfl Try.underlying23 rfl) ?_
        refine Jp.y 6 rfl (want_all rfl) rfl rfl Kp.true (Y.assign rfl rfl) ?_
        refine Jp.done hK13 ?_
        have hl : (so.xs ++ bs).length = so.xs.length + bs.length := List.length_append
        have hv : Value.slice A2 (so.xs.length + bs.length) c2 = Sl.v ⟨A2, c2, so.xs ++ bs⟩ := by rw [Sl.v, hl]
        have hnew : RdB ⟨A2, c2, so.xs ++ bs⟩ ρ3 := by
          have h5 := q3.rd
          show RdS 1 A2 (so.xs ++ bs).length c2 _ ρ3
          rw [hl]; exact h5
        have h6 : FilesG.p ⟨all, bu, use, bo, op, bw, gset out fd ⟨A2, c2, so.xs ++ bs⟩⟩ = (writeFP (FilesG.p ⟨all, bu, use, bo, op, bw, out⟩) fd bs).2 := by
          rw [e]
          show FilesP.mk _ _ _ _ = _
          rw [← gset_gmap]; rfl
        have hr3 := RdFs.up _ _ _ l3 hr
        refine Cd.ret [(0, _), (1, _), (2, _)] rfl (res1 rfl rfl) ⟨rfl, rfl, rfl, trivial⟩ ⟨by rw [e], gset out fd ⟨A2, c2, so.xs ++ bs⟩, h6, ⟨hr3.all, hr3.use, hr3.op, fun x hx => ?_, ?_⟩, ?_⟩
        · rcases gset_mem hx with rfl | hx
          · exact hnew
          · exact hr3.out x hx
        · rw [h6]; exact hr.ok.writeP fd bs
        · rw [← mset_gmap, ← hv]
theorem seekP_none {p : FilesP} {fd off wh : Int} (h : gget p.op fd = none) : seekFP p fd off wh = (-9, p) := by rw [seekFP, h]
theorem seekP_wr {p : FilesP} {fd off wh : Int} {x : FilP} (h : gget p.op fd = some x) (hw : x.wr = true) : seekFP p fd off wh = (-29, p) := by rw [seekFP, h]; simp [hw]
theorem seekP_arg {p : FilesP} {fd off wh : Int} {x : FilP} (h : gget p.op fd = some x) (hw : x.wr = false) (h2 : wh < 0 ∨ 2 < wh) : seekFP p fd off wh = (-22, p) := by rw [seekFP, h]; simp [hw, h2]
def seekAt (x : FilP) (off wh : Int) : Int := (if wh = 0 then 0 else if wh = 1 then (x.at' : Int) else (x.data.length : Int)) + off
theorem seekP_neg {p : FilesP} {fd off wh : Int} {x : FilP} (h : gget p.op fd = some x) (hw : x.wr = false) (h2 : ¬ (wh < 0 ∨ 2 < wh)) (h3 : seekAt x off wh < 0) : seekFP p fd off wh = (-22, p) := by rw [seekAt] at h3; rw [seekFP, h]; simp only [hw, h2, h3, if_true, if_false, Bool.false_eq_true]
theorem seekP_some {p : FilesP} {fd off wh : Int} {x : FilP} (h : gget p.op fd = some x) (hw : x.wr = false) (h2 : ¬ (wh < 0 ∨ 2 < wh)) (h3 : ¬ seekAt x off wh < 0) : seekFP p fd off wh = (seekAt x off wh, { p with op := gset p.op fd ⟨x.data, (seekAt x off wh).toNat, x.wr⟩ }) := by
  have h3' := h3
  rw [seekAt] at h3'; rw [seekFP, h]; simp only [hw, h2, h3', if_true, if_false, Bool.false_eq_true, seekAt]
theorem FsOk.seekP {p : FilesP} (h : FsOk p) (fd off wh : Int) : FsOk (seekFP p fd off wh).2 := by
  cases hx : gget p.op fd with
  | none => rw [seekP_none hx]; exact h
  | some x =>
    cases hw : x.wr with
    | true => rw [seekP_wr hx hw]; exact h
    | false =>
      by_cases h2 : wh < 0 ∨ 2 < wh
      · rw [seekP_arg hx hw h2]; exact h
      · by_cases h3 : seekAt x off wh < 0
        · rw [seekP_neg hx hw h2 h3]; exact h
        · rw [seekP_some hx hw h2 h3]
          refine ⟨h.all, h.use, fun y hy => ?_, gset_nodup h.nd _ _, h.out⟩
          rcases gset_mem hy with rfl | hy
          · have h4 := h.op _ (gget_mem hx); exact h4
          · exact h.op y hy
theorem seek_spec (b : Nat) (g : FilesG) (fd off wh : Int) (ho : -2147483648 ≤ off ∧ off ≤ 2147483647) (hat : AtOk g.p) : Spec Try.prog 17 #[.pointer (some ⟨b, 0, none⟩), .int .i64 fd, .int .i32 off, .int .i64 wh] (RdFs g) [(0, FsPt b g), (1, MapO .i64 g.bo (gmap FilG.v g.op))]
    (fun ρ ρ' v L => ρ' = ρ ∧ v = .int .i64 (seekFP g.p fd off wh).1 ∧ ∃ op, { g with op := op }.p = (seekFP g.p fd off wh).2 ∧ RdFs { g with op := op } ρ ∧ L = [(0, FsPt b g), (1, MapO .i64 g.bo (gmap FilG.v op))]) := by
  obtain ⟨all, bu, use, bo, op, bw, out⟩ := g
  dsimp only [FsPt, FilesG.cells]
  refine Spec.of 56 Try.func17 rfl Try.ntmps17 [(0, _), (1, _), (2, _), (3, _)] rfl rfl ?_
  intro cx ρ hr h0
  refine Cd.seq fun K14 hK14 => ?_
  refine Cd.plain [(0, false)] rfl rfl ?_
  refine Jp.y 8 rfl (want_all rfl) rfl rfl Kp.true (Y.assign rfl rfl) ?_
  refine Jp.done hK14 ?_
  refine Cd.seq fun K15 hK15 => ?_
  refine Cd.plain [(0, false), (1, false), (2, false), (3, false), (4, false), (5, false), (6, false), (7, false), (8, false), (9, false), (10, false), (11, false)] rfl rfl ?_
  refine Jp.y 13 rfl (want_all rfl) rfl rfl Kp.true (Y.move rfl rfl) ?_
  refine Jp.y 14 rfl (want_all rfl) rfl rfl Kp.true (Y.nilCheck rfl rfl) ?_
  refine Jp.y 15 rfl (want_all rfl) rfl rfl Kp.true (by first | exact Y.fieldAddrP rfl rfl Try.underlying68 rfl Try.sizeOf65 (by decide) (show _ + 2 = _ from rfl) | exact Y.fieldAddr rfl rfl Try.underlying68 rfl Try.sizeOf65 (by decide)) ?_
  refine Jp.y 16 rfl (want_all rfl) rfl rfl Kp.true (by first | exact Y.loadO 0 rfl Try.isAgg65 rfl rfl rfl | exact Y.loadO 6 rfl Try.isAgg65 rfl rfl rfl) ?_
  refine Jp.y 17 rfl (want_all rfl) rfl rfl Kp.true (Y.move rfl rfl) ?_
  refine Jp.y 18 rfl (want_all rfl) rfl rfl Kp.true (by first | exact Y.lookupOk 1 rfl rfl rfl Try.underlying65 Try.underlying3 Try.zeroValue71 rfl) ?_
  rcases hx : gget op fd with _ | x
  · have e := seekP_none (off := off) (wh := wh) (FilesG.op_none (g := ⟨all, bu, use, bo, op, bw, out⟩) hx)
    rw [fil_look, fil_some, hx]
    refine Jp.y 12 rfl (want_all rfl) rfl rfl Kp.true (Y.move rfl rfl) ?_
    refine Jp.y 19 rfl (want_all rfl) rfl rfl Kp.true (Y.extract rfl rfl rfl) ?_
    refine Jp.y 20 rfl (want_all rfl) rfl rfl Kp.true (Y.extract rfl rfl rfl) ?_
    refine Jp.alloc 6 9 rfl (want_all rfl) rfl rfl rfl Try.zeroValue71 fun b6 => ⟨Kp.true, ?_⟩
    first | refine Jp.storeAgg 0 rfl (want_all rfl) rfl rfl Try.sizeOf71 rfl rfl rfl rfl rfl rfl (fun k _ _ => noFr0 k) Kp.true ?_ | refine Jp.storeAgg 6 rfl (want_all rfl) rfl rfl Try.sizeOf71 rfl rfl rfl rfl rfl rfl (fun k _ _ => noFr0 k) Kp.true ?_ | refine Jp.storeAgg 6 rfl (want_all rfl) rfl rfl Try.sizeOf71 rfl rfl rfl rfl rfl rfl (fun k _ _ => noFr0 k) Kp.true ?_
    refine Jp.y 10 rfl (want_all rfl) rfl rfl Kp.true (Y.assign rfl rfl) ?_
    refine Jp.done hK15 ?_
    refine Cd.seq fun K16 hK16 => ?_
    refine Cd.block ?_
    refine Cd.seq fun K17 hK17 => ?_
    refine Cd.plain [(0, false), (1, false), (2, false)] rfl rfl ?_
    refine Jp.y 22 rfl (want_all rfl) rfl rfl Kp.true (Y.move rfl rfl) ?_
    refine Jp.y 23 rfl (want_all rfl) rfl rfl Kp.true (Y.not rfl rfl) ?_
    refine Jp.y 21 rfl (want_all rfl) rfl rfl Kp.true (Y.assign rfl rfl) ?_
    refine Jp.done hK17 ?_
    refine Cd.condF' rfl (fun g21 => ?_) (fun g21 => ?_)
    · skip
      exact absurd g21 (by simp)
    try simp only [decide_eq_false_iff_not, decide_eq_true_eq, Int.not_lt, Int.not_le, Bool.not_eq_false, Bool.not_eq_true, Bool.not_true, Bool.not_false, Bool.not_eq_true', Bool.not_eq_false', beq_eq_false_iff_ne, ne_eq, beq_iff_eq, bne_iff_ne, bne_eq_false_iff_eq, Classical.not_not] at g21
    refine Cd.seq fun K18 hK18 => ?_
    refine Cd.plain [(0, false)] rfl rfl ?_
    refine Jp.y 8 rfl (want_all rfl) rfl rfl Kp.true (Y.assign rfl rfl) ?_
    refine Jp.done hK18 ?_
    refine Cd.ret [(0, _), (1, _)] rfl (res1 rfl rfl) ⟨rfl, rfl, trivial⟩ ⟨rfl, by rw [e], op, by rw [e], hr, rfl⟩
  · have hgx := FilesG.op_get (g := ⟨all, bu, use, bo, op, bw, out⟩) hx
    obtain ⟨⟨Ax, cx', xs⟩, at', wr⟩ := x
    have hrx := hr.op _ (gget_mem hx)
    have hxl : xs.length ≤ 4096 := hr.ok.op _ (gget_mem hgx)
    have hxa : at' ≤ 4611686018427387904 := hat _ (gget_mem hgx)
    rw [show (mget (gmap FilG.v op) fd).getD (.agg #[.slice none 0 0, .int .i64 0, .bool false]) = .agg #[.slice Ax xs.length cx', .int .i64 (at' : Int), .bool wr] by rw [fil_look, hx]; rfl, show (mget (gmap FilG.v op) fd).isSome = true by rw [fil_some, hx]; rfl]
    refine Jp.y 12 rfl (want_all rfl) rfl rfl Kp.true (Y.move rfl rfl) ?_
    refine Jp.y 19 rfl (want_all rfl) rfl rfl Kp.true (Y.extract rfl rfl rfl) ?_
    refine Jp.y 20 rfl (want_all rfl) rfl rfl Kp.true (Y.extract rfl rfl rfl) ?_
    refine Jp.alloc 6 9 rfl (want_all rfl) rfl rfl rfl Try.zeroValue71 fun b6 => ⟨Kp.true, ?_⟩
    first | refine Jp.storeAgg 0 rfl (want_all rfl) rfl rfl Try.sizeOf71 rfl rfl rfl rfl rfl rfl (fun k _ _ => noFr0 k) Kp.true ?_ | refine Jp.storeAgg 6 rfl (want_all rfl) rfl rfl Try.sizeOf71 rfl rfl rfl rfl rfl rfl (fun k _ _ => noFr0 k) Kp.true ?_ | refine Jp.storeAgg 6 rfl (want_all rfl) rfl rfl Try.sizeOf71 rfl rfl rfl rfl rfl rfl (fun k _ _ => noFr0 k) Kp.true ?_ | refine Jp.storeAgg 6 rfl (want_all rfl) rfl rfl Try.sizeOf71 rfl rfl rfl rfl rfl rfl (fun k _ _ => noFr0 k) Kp.true ?_
    refine Jp.y 10 rfl (want_all rfl) rfl rfl Kp.true (Y.assign rfl rfl) ?_
    refine Jp.done hK15 ?_
    refine Cd.seq fun K19 hK19 => ?_
    refine Cd.block ?_
    refine Cd.seq fun K20 hK20 => ?_
    refine Cd.plain [(0, false), (1, false), (2, false)] rfl rfl ?_
    refine Jp.y 22 rfl (want_all rfl) rfl rfl Kp.true (Y.move rfl rfl) ?_
    refine Jp.y 23 rfl (want_all rfl) rfl rfl Kp.true (Y.not rfl rfl) ?_
    refine Jp.y 21 rfl (want_all rfl) rfl rfl Kp.true (Y.assign rfl rfl) ?_
    refine Jp.done hK20 ?_
    refine Cd.cond rfl (fun g21 => ?_) (fun g21 => ?_)
    · skip
      exact absurd g21 (by simp)
    try simp only [decide_eq_false_iff_not, decide_eq_true_eq, Int.not_lt, Int.not_le, Bool.not_eq_false, Bool.not_eq_true, Bool.not_true, Bool.not_false, Bool.not_eq_true', Bool.not_eq_false', beq_eq_false_iff_ne, ne_eq, beq_iff_eq, bne_iff_ne, bne_eq_false_iff_eq, Classical.not_not] at g21
    refine Cd.seq fun K21 hK21 => ?_
    refine Cd.plain [(0, false), (1, false), (2, false)] rfl rfl ?_
    refine Jp.y 25 rfl (want_all rfl) rfl rfl Kp.true (by first | exact Y.fieldAddrP rfl rfl Try.underlying71 rfl Try.sizeOf4 (by decide) (show _ + 2 = _ from rfl) | exact Y.fieldAddr rfl rfl Try.underlying71 rfl Try.sizeOf4 (by decide)) ?_
    refine Jp.y 26 rfl (want_all rfl) rfl rfl Kp.true (by first | exact Y.loadO 0 rfl Try.isAgg4 rfl rfl rfl | exact Y.loadO 6 rfl Try.isAgg4 rfl rfl rfl | exact Y.loadO 6 rfl Try.isAgg4 rfl rfl rfl | exact Y.loadO 6 rfl Try.isAgg4 rfl rfl rfl) ?_
    refine Jp.y 24 rfl (want_all rfl) rfl rfl Kp.true (Y.assign rfl rfl) ?_
    refine Jp.done hK21 ?_
    refine Cd.cond rfl (fun h1 => ?_) (fun h1 => ?_)
    · have h1 : wr = true := h1
      have e := seekP_wr (off := off) (wh := wh) hgx h1
      refine Cd.seq fun K22 hK22 => ?_
      refine Cd.plain [(0, false)] rfl rfl ?_
      refine Jp.y 8 rfl (want_all rfl) rfl rfl Kp.true (Y.assign rfl rfl) ?_
      refine Jp.done hK22 ?_
      refine Cd.ret [(0, _), (1, _)] rfl (res1 rfl rfl) ⟨rfl, rfl, trivial⟩ ⟨rfl, by rw [e], op, by rw [e], hr, rfl⟩
    · have h1 : wr = false := h1
      refine Cd.seq fun K23 hK23 => ?_
      refine Cd.plain [(0, false), (1, false), (2, false), (3, false), (4, false), (5, false), (6, false)] rfl rfl ?_
      refine Jp.y 28 rfl (want_all rfl) rfl rfl Kp.true (Y.move rfl rfl) ?_
      refine Jp.y 29 rfl (want_all rfl) rfl rfl Kp.true (Y.lss rfl rfl rfl) ?_
      refine Jp.y 30 rfl (want_all rfl) rfl rfl Kp.true (Y.move rfl rfl) ?_
      refine Jp.split 30 rfl (fun g30 => ?_) (fun g30 => ?_)
      · skip
        simp only [decide_eq_true_eq] at g30
        have e := seekP_arg (off := off) hgx h1 (wh := wh) (by omega)
        refine Jp.skip 31 rfl (want_as rfl rfl rfl rfl) rfl rfl Kp.true ?_
        refine Jp.skip 32 rfl (want_as rfl rfl rfl rfl) rfl rfl Kp.true ?_
        refine Jp.y 33 rfl (want_all rfl) rfl rfl Kp.true (Y.pickT rfl rfl rfl) ?_
        refine Jp.y 27 rfl (want_all rfl) rfl rfl Kp.true (Y.assign rfl rfl) ?_
        refine Jp.done hK23 ?_
        refine Cd.condT rfl ?_
        refine Cd.seq fun K24 hK24 => ?_
        refine Cd.plain [(0, false)] rfl rfl ?_
        refine Jp.y 8 rfl (want_all rfl) rfl rfl Kp.true (Y.assign rfl rfl) ?_
        refine Jp.done hK24 ?_
        refine Cd.ret [(0, _), (1, _)] rfl (res1 rfl rfl) ⟨rfl, rfl, trivial⟩ ⟨rfl, by rw [e], op, by rw [e], hr, rfl⟩
      try simp only [decide_eq_false_iff_not, decide_eq_true_eq, Int.not_lt, Int.not_le, Bool.not_eq_false, Bool.not_eq_true, Bool.not_true, Bool.not_false, Bool.not_eq_true', Bool.not_eq_false', beq_eq_false_iff_ne, ne_eq, beq_iff_eq, bne_iff_ne, bne_eq_false_iff_eq, Classical.not_not] at g30
      refine Jp.y 31 rfl (want_as rfl rfl rfl rfl) rfl rfl Kp.true (Y.move rfl rfl) ?_
      refine Jp.y 32 rfl (want_as rfl rfl rfl rfl) rfl rfl Kp.true (Y.gtr rfl rfl rfl) ?_
      refine Jp.y 33 rfl (want_all rfl) rfl rfl Kp.true (Y.pickF rfl rfl rfl) ?_
      refine Jp.y 27 rfl (want_all rfl) rfl rfl Kp.true (Y.assign rfl rfl) ?_
      refine Jp.done hK23 ?_
      refine Cd.cond rfl (fun g27 => ?_) (fun g27 => ?_)
      · skip
        simp only [decide_eq_true_eq] at g27
        have e := seekP_arg (off := off) hgx h1 (wh := wh) (by omega)
        refine Cd.seq fun K25 hK25 => ?_
        refine Cd.plain [(0, false)] rfl rfl ?_
        refine Jp.y 8 rfl (want_all rfl) rfl rfl Kp.true (Y.assign rfl rfl) ?_
        refine Jp.done hK25 ?_
        refine Cd.ret [(0, _), (1, _)] rfl (res1 rfl rfl) ⟨rfl, rfl, trivial⟩ ⟨rfl, by rw [e], op, by rw [e], hr, rfl⟩
      try simp only [decide_eq_false_iff_not, decide_eq_true_eq, Int.not_lt, Int.not_le, Bool.not_eq_false, Bool.not_eq_true, Bool.not_true, Bool.not_false, Bool.not_eq_true', Bool.not_eq_false', beq_eq_false_iff_ne, ne_eq, beq_iff_eq, bne_iff_ne, bne_eq_false_iff_eq, Classical.not_not] at g27
      refine Cd.over rfl hK19 ?_
      refine Cd.seq fun K26 hK26 => ?_
      refine Cd.plain [(0, false), (1, false), (2, false), (3, false), (4, false), (5, false), (6, false), (7, false), (8, false), (9, false), (10, false), (11, false)] rfl rfl ?_
      have hw2 : ¬ (wh < 0 ∨ 2 < wh) := by omega
      have hidx : (#[Value.int .i64 0, .int .i64 (at' : Int), .int .i64 (xs.length : Int)] : Array Value)[wh.toNat * 1]? = some (.int .i64 (if wh = 0 then 0 else if wh = 1 then (at' : Int) else (xs.length : Int))) := by
        have : wh = 0 ∨ wh = 1 ∨ wh = 2 := by omega
        rcases this with rfl | rfl | rfl <;> rfl
      refine Jp.y 34 rfl (want_all rfl) rfl rfl Kp.true (by first | exact Y.fieldAddrP rfl rfl Try.underlying71 rfl Try.sizeOf3 (by decide) (show _ + 1 = _ from rfl) | exact Y.fieldAddr rfl rfl Try.underlying71 rfl Try.sizeOf3 (by decide)) ?_
      refine Jp.y 35 rfl (want_all rfl) rfl rfl Kp.true (by first | exact Y.loadO 0 rfl Try.isAgg3 rfl rfl rfl | exact Y.loadO 6 rfl Try.isAgg3 rfl rfl rfl | exact Y.loadO 6 rfl Try.isAgg3 rfl rfl rfl | exact Y.loadO 6 rfl Try.isAgg3 rfl rfl rfl) ?_
      refine Jp.y 36 rfl (want_all rfl) rfl rfl Kp.true (by first | exact Y.fieldAddrP rfl rfl Try.underlying71 rfl Try.sizeOf23 (by decide) (show _ + 0 = _ from rfl) | exact Y.fieldAddr rfl rfl Try.underlying71 rfl Try.sizeOf23 (by decide)) ?_
      refine Jp.y 37 rfl (want_all rfl) rfl rfl Kp.true (by first | exact Y.loadO 0 rfl Try.isAgg23 rfl rfl rfl | exact Y.loadO 6 rfl Try.isAgg23 rfl rfl rfl | exact Y.loadO 6 rfl Try.isAgg23 rfl rfl rfl | exact Y.loadO 6 rfl Try.isAgg23 rfl rfl rfl) ?_
      refine Jp.y 38 rfl (want_all rfl) rfl rfl Kp.true (Y.lenslice rfl Try.underlying23 rfl) ?_
      refine Jp.y 39 rfl (want_all rfl) rfl rfl Kp.true (Y.array [(0, _), (1, _), (2, _)] [_, _, _] rfl rfl Try.underlying80 Try.sizeOf3 Try.zeroValue80 rfl) ?_
      refine Jp.y 40 rfl (want_all rfl) rfl rfl Kp.true (Y.move rfl rfl) ?_
      refine Jp.y 41 rfl (want_all rfl) rfl rfl Kp.true (Y.indexV (v := .int .i64 (if wh = 0 then 0 else if wh = 1 then (at' : Int) else (xs.length : Int))) rfl Try.underlying80 Try.sizeOf3 Try.isAgg3 rfl rfl (by omega) (by omega) hidx) ?_
      obtain ⟨base, hbase⟩ : ∃ base : Int, base = (if wh = 0 then 0 else if wh = 1 then (at' : Int) else (xs.length : Int)) := ⟨_, rfl⟩
      rw [← hbase]
      have hb1 : 0 ≤ base ∧ base ≤ 4611686018427387904 := by
        rw [hbase]
        split
        · omega
        · split <;> omega
      have hsk : seekAt (FilG.p ⟨⟨Ax, cx', xs⟩, at', wr⟩) off wh = base + off := by rw [hbase]; rfl
      refine Jp.y 42 rfl (want_all rfl) rfl rfl Kp.true (Y.move rfl rfl) ?_
      refine Jp.y 43 rfl (want_all rfl) rfl rfl Kp.true (Y.conv_ rfl rfl Try.underlying21 Try.underlying3 (wrap_i64 (by omega) (by omega))) ?_
      refine Jp.y 44 rfl (want_all rfl) rfl rfl Kp.true (Y.add_ rfl rfl rfl (wrap_i64 (by omega) (by omega))) ?_
      refine Jp.y 11 rfl (want_all rfl) rfl rfl Kp.true (Y.assign rfl rfl) ?_
      refine Jp.done hK26 ?_
      refine Cd.seq fun K27 hK27 => ?_
      refine Cd.seq fun K28 hK28 => ?_
      refine Cd.plain [(0, false), (1, false)] rfl rfl ?_
      refine Jp.y 45 rfl (want_all rfl) rfl rfl Kp.true (Y.move rfl rfl) ?_
      refine Jp.y 46 rfl (want_all rfl) rfl rfl Kp.true (Y.lss rfl rfl rfl) ?_
      refine Jp.done hK28 ?_
      refine Cd.cond rfl (fun h3 => ?_) (fun h3 => ?_)
      · simp only [decide_eq_true_eq] at h3
        have e := seekP_neg hgx h1 hw2 (by rw [hsk]; exact h3)
        refine Cd.seq fun K29 hK29 => ?_
        refine Cd.plain [(0, false)] rfl rfl ?_
        refine Jp.y 8 rfl (want_all rfl) rfl rfl Kp.true (Y.assign rfl rfl) ?_
        refine Jp.done hK29 ?_
        refine Cd.ret [(0, _), (1, _)] rfl (res1 rfl rfl) ⟨rfl, rfl, trivial⟩ ⟨rfl, by rw [e], op, by rw [e], hr, rfl⟩
      · simp only [decide_eq_false_iff_not] at h3
        have e := seekP_some hgx h1 hw2 (by rw [hsk]; exact h3)
        rw [hsk] at e
        refine Cd.skip hK27 ?_
        refine Cd.seq fun K30 hK30 => ?_
        refine Cd.plain [(0, false), (1, false), (2, false)] rfl rfl ?_
        refine Jp.y 47 rfl (want_all rfl) rfl rfl Kp.true (Y.move rfl rfl) ?_
        refine Jp.y 48 rfl (want_all rfl) rfl rfl Kp.true (by first | exact Y.fieldAddrP rfl rfl Try.underlying71 rfl Try.sizeOf3 (by decide) (show _ + 1 = _ from rfl) | exact Y.fieldAddr rfl rfl Try.underlying71 rfl Try.sizeOf3 (by decide)) ?_
        first | refine Jp.store 0 rfl (want_all rfl) rfl rfl Try.sizeOf3 rfl rfl rfl rfl rfl rfl Kp.true ?_ | refine Jp.store 6 rfl (want_all rfl) rfl rfl Try.sizeOf3 rfl rfl rfl rfl rfl rfl Kp.true ?_ | refine Jp.store 6 rfl (want_all rfl) rfl rfl Try.sizeOf3 rfl rfl rfl rfl rfl rfl Kp.true ?_ | refine Jp.store 6 rfl (want_all rfl) rfl rfl Try.sizeOf3 rfl rfl rfl rfl rfl rfl Kp.true ?_
        refine Jp.done hK30 ?_
        refine Cd.seq fun K31 hK31 => ?_
        refine Cd.drawn [(0, _), (6, _)] ⟨rfl, rfl, trivial⟩ [(0, true), (1, true), (2, true), (3, true), (4, true), (5, true), (6, false)] follows (by kernel_rfl) (fun hrl => ?_)
        refine Jp.q 49 rfl (want_all rfl) rfl rfl (Y.move rfl rfl) ?_
        refine Jp.q 50 rfl (want_all rfl) rfl rfl (Y.nilCheck rfl rfl) ?_
        refine Jp.q 51 rfl (want_all rfl) rfl rfl (by first | exact Y.fieldAddrP rfl rfl Try.underlying68 rfl Try.sizeOf65 (by decide) (show _ + 2 = _ from rfl) | exact Y.fieldAddr rfl rfl Try.underlying68 rfl Try.sizeOf65 (by decide)) ?_
        refine Jp.q 52 rfl (want_all rfl) rfl rfl (by first | exact Y.loadO 0 rfl Try.isAgg65 rfl rfl rfl | exact Y.loadO 6 rfl Try.isAgg65 rfl rfl rfl | exact Y.loadO 6 rfl Try.isAgg65 rfl rfl rfl | exact Y.loadO 6 rfl Try.isAgg65 rfl rfl rfl) ?_
        refine Jp.q 53 rfl (want_all rfl) rfl rfl (Y.move rfl rfl) ?_
        refine Jp.q 54 rfl (want_all rfl) rfl rfl (by first | exact Y.loadAggO 0 rfl Try.isAgg71 Try.sizeOf71 rfl rfl rfl | exact Y.loadAggO 6 rfl Try.isAgg71 Try.sizeOf71 rfl rfl rfl | exact Y.loadAggO 6 rfl Try.isAgg71 Try.sizeOf71 rfl rfl rfl | exact Y.loadAggO 6 rfl Try.isAgg71 Try.sizeOf71 rfl rfl rfl) ?_
        first | refine Jp.mapUpdate 1 rfl (want_all rfl) rfl rfl rfl rfl rfl Try.underlying65 Try.underlying3 rfl Kp.last ?_
        refine Jp.done hK31 ?_
        refine Cd.seq fun K33 hK33 => ?_
        refine Cd.plain [(0, false), (1, false)] rfl rfl ?_
        refine Jp.y 55 rfl (want_all rfl) rfl rfl Kp.true (Y.move rfl rfl) ?_
        refine Jp.y 8 rfl (want_all rfl) rfl rfl Kp.true (Y.assign rfl rfl) ?_
        refine Jp.done hK33 ?_
        have hn : (((base + off).toNat : Nat) : Int) = base + off := Int.toNat_of_nonneg (by omega)
        have h6 : FilesG.p ⟨all, bu, use, bo, gset op fd ⟨⟨Ax, cx', xs⟩, (base + off).toNat, wr⟩, bw, out⟩ = (seekFP (FilesG.p ⟨all, bu, use, bo, op, bw, out⟩) fd off wh).2 := by
          rw [e]
          show FilesP.mk _ _ _ _ = _
          rw [← gset_gmap]; rfl
        refine Cd.ret [(0, _), (1, _)] rfl (res1 rfl rfl) ⟨rfl, rfl, trivial⟩ ⟨rfl, by rw [e], gset op fd ⟨⟨Ax, cx', xs⟩, (base + off).toNat, wr⟩, h6, ⟨hr.all, hr.use, fun x hx => ?_, hr.out, ?_⟩, ?_⟩
        · rcases gset_mem hx with rfl | hx
          · exact hrx
          · exact hr.op x hx
        · rw [h6]; exact hr.ok.seekP fd off wh
        · rw [← mset_gmap, FilG.v, FilG.cells, hn]; rfl
end Go.Proofs.Ytogkncmhonomdaa
