import Derived.Test.YtogkncmhonomdaaZFilesB
set_option linter.unusedVariables false
set_option linter.unusedSimpArgs false
set_option maxRecDepth 100000
namespace Go.Proofs.Ytogkncmhonomdaa
open Go
def AtOk (p : FilesP) : Prop := ∀ x ∈ p.op, x.2.at' ≤ 4611686018427387904
theorem readP_none {p : FilesP} {fd n : Int} (h : gget p.op fd = none) : readFP p fd n = (none, p) := by rw [readFP, h]
theorem readP_wr {p : FilesP} {fd n : Int} {x : FilP} (h : gget p.op fd = some x) (hw : x.wr = true) : readFP p fd n = (none, p) := by rw [readFP, h]; simp [hw]
theorem readP_some {p : FilesP} {fd n : Int} {x : FilP} (h : gget p.op fd = some x) (hw : x.wr = false) : readFP p fd n = (some ((leftP x).take (takeP p.use (clampN n)).1.toNat), { p with use := (takeP p.use (clampN n)).2, op := gset p.op fd { x with at' := x.at' + ((leftP x).take (takeP p.use (clampN n)).1.toNat).length } }) := by rw [readFP, h]; simp [hw]
theorem FsOk.readP {p : FilesP} (h : FsOk p) (fd n : Int) : FsOk (readFP p fd n).2 := by
  rw [readFP]
  split
  · exact h
  · rename_i x hx
    split
    · exact h
    · refine ⟨h.all, ?_, fun y hy => ?_, gset_nodup h.nd _ _, h.out⟩
      · dsimp only; rw [(takeP_short _ _).1]; exact h.use
      · rcases gset_mem hy with rfl | hy
        · have h2 := h.op _ (gget_mem hx); exact h2
        · exact h.op y hy
def readV (r : Option Bytes) : Int := match r with
  | none => -9
  | some b => (b.length : Int)
theorem read_spec (b : Nat) (g : FilesG) (fd n : Int) (hat : AtOk g.p) : Spec Try.prog 13 #[.pointer (some ⟨b, 0, none⟩), .int .i64 fd, .int .i64 n] (RdFs g) [(0, FsPt b g), (1, UsePt g.bu g.use), (2, MapO .i64 g.bo (gmap FilG.v g.op))]
    (fun ρ ρ' v L => ρ' = ρ ∧ ∃ use op A c, { g with use := use, op := op }.p = (readFP g.p fd n).2 ∧ RdFs { g with use := use, op := op } ρ ∧ v = .tuple #[.slice A ((readFP g.p fd n).1.getD []).length c, .int .i64 (readV (readFP g.p fd n).1)] ∧
      L = [(0, FsPt b g), (1, UsePt g.bu use), (2, MapO .i64 g.bo (gmap FilG.v op)), (3, OwnS 5 1 A ((readFP g.p fd n).1.getD []).length c (bytesV ((readFP g.p fd n).1.getD [])))]) := by
  obtain ⟨all, bu, use, bo, op, bw, out⟩ := g
  dsimp only [FsPt, FilesG.cells]
  refine Spec.of 66 Try.func13 rfl Try.ntmps13 [(0, _), (1, _), (2, _)] rfl rfl ?_
  intro cx ρ hr h0
  refine Cd.seq fun K1 hK1 => ?_
  refine Cd.plain [(0, false), (1, false)] rfl rfl ?_
  refine Jp.y 6 rfl (want_all rfl) rfl rfl Kp.true (Y.assign rfl rfl) ?_
  refine Jp.y 7 rfl (want_all rfl) rfl rfl Kp.true (Y.assign rfl rfl) ?_
  refine Jp.done hK1 ?_
  refine Cd.seq fun K2 hK2 => ?_
  refine Cd.plain [(0, false), (1, false), (2, false), (3, false), (4, false), (5, false), (6, false), (7, false), (8, false), (9, false), (10, false), (11, false)] rfl rfl ?_
  refine Jp.y 13 rfl (want_all rfl) rfl rfl Kp.true (Y.move rfl rfl) ?_
  refine Jp.y 14 rfl (want_all rfl) rfl rfl Kp.true (Y.nilCheck rfl rfl) ?_
  refine Jp.y 15 rfl (want_all rfl) rfl rfl Kp.true (by first | exact Y.fieldAddrP rfl rfl Try.underlying68 rfl Try.sizeOf65 (by decide) (show _ + 2 = _ from rfl) | exact Y.fieldAddr rfl rfl Try.underlying68 rfl Try.sizeOf65 (by decide)) ?_
  refine Jp.y 16 rfl (want_all rfl) rfl rfl Kp.true (by first | exact Y.loadO 0 rfl Try.isAgg65 rfl rfl rfl | exact Y.loadO 6 rfl Try.isAgg65 rfl rfl rfl) ?_
  refine Jp.y 17 rfl (want_all rfl) rfl rfl Kp.true (Y.move rfl rfl) ?_
  refine Jp.y 18 rfl (want_all rfl) rfl rfl Kp.true (by first | exact Y.lookupOk 2 rfl rfl rfl Try.underlying65 Try.underlying3 Try.zeroValue71 rfl) ?_
  rcases hx : gget op fd with _ | x
  · have e := readP_none (n := n) (FilesG.op_none (g := ⟨all, bu, use, bo, op, bw, out⟩) hx)
    rw [fil_look, fil_some, hx]
    refine Jp.y 12 rfl (want_all rfl) rfl rfl Kp.true (Y.move rfl rfl) ?_
    refine Jp.y 19 rfl (want_all rfl) rfl rfl Kp.true (Y.extract rfl rfl rfl) ?_
    refine Jp.y 20 rfl (want_all rfl) rfl rfl Kp.true (Y.extract rfl rfl rfl) ?_
    refine Jp.alloc 6 8 rfl (want_all rfl) rfl rfl rfl Try.zeroValue71 fun b6 => ⟨Kp.true, ?_⟩
    first | refine Jp.storeAgg 0 rfl (want_all rfl) rfl rfl Try.sizeOf71 rfl rfl rfl rfl rfl rfl (fun k _ _ => noFr0 k) Kp.true ?_ | refine Jp.storeAgg 6 rfl (want_all rfl) rfl rfl Try.sizeOf71 rfl rfl rfl rfl rfl rfl (fun k _ _ => noFr0 k) Kp.true ?_ | refine Jp.storeAgg 6 rfl (want_all rfl) rfl rfl Try.sizeOf71 rfl rfl rfl rfl rfl rfl (fun k _ _ => noFr0 k) Kp.true ?_
    refine Jp.y 9 rfl (want_all rfl) rfl rfl Kp.true (Y.assign rfl rfl) ?_
    refine Jp.done hK2 ?_
    refine Cd.seq fun K3 hK3 => ?_
    refine Cd.seq fun K4 hK4 => ?_
    refine Cd.plain [(0, false), (1, false), (2, false), (3, false), (4, false), (5, false)] rfl rfl ?_
    refine Jp.y 21 rfl (want_all rfl) rfl rfl Kp.true (Y.move rfl rfl) ?_
    refine Jp.y 22 rfl (want_all rfl) rfl rfl Kp.true (Y.not rfl rfl) ?_
    refine Jp.y 23 rfl (want_all rfl) rfl rfl Kp.true (Y.move rfl rfl) ?_
    refine Jp.splitF 23 rfl (fun g23 => ?_) (fun g23 => ?_)
    · skip
      exact absurd g23 (by simp)
    try simp only [decide_eq_false_iff_not, decide_eq_true_eq, Int.not_lt, Int.not_le, Bool.not_eq_false, Bool.not_eq_true, Bool.not_true, Bool.not_false, Bool.not_eq_true', Bool.not_eq_false', beq_eq_false_iff_ne, ne_eq, beq_iff_eq, bne_iff_ne, bne_eq_false_iff_eq, Classical.not_not] at g23
    refine Jp.skip 24 rfl (want_as rfl rfl rfl rfl) rfl rfl Kp.true ?_
    refine Jp.skip 25 rfl (want_as rfl rfl rfl rfl) rfl rfl Kp.true ?_
    refine Jp.y 26 rfl (want_all rfl) rfl rfl Kp.true (Y.pickT rfl rfl rfl) ?_
    refine Jp.done hK4 ?_
    refine Cd.condT rfl ?_
    refine Cd.seq fun K5 hK5 => ?_
    refine Cd.plain [(0, false), (1, false)] rfl rfl ?_
    refine Jp.y 6 rfl (want_all rfl) rfl rfl Kp.true (Y.assign rfl rfl) ?_
    refine Jp.y 7 rfl (want_all rfl) rfl rfl Kp.true (Y.assign rfl rfl) ?_
    refine Jp.done hK5 ?_
    refine Cd.make 3 (A := OwnS 5 1 none 0 0 []) (OwnS.nil _ _ _) ?_
    refine Cd.ret [(0, _), (1, _), (2, _), (3, _)] rfl (res2 rfl rfl rfl) ⟨rfl, rfl, rfl, rfl, trivial⟩ ⟨rfl, use, op, none, 0, by rw [e], hr, by rw [e]; rfl, by rw [e]; rfl⟩
  · have hgx := FilesG.op_get (g := ⟨all, bu, use, bo, op, bw, out⟩) hx
    obtain ⟨⟨Ax, cx', xs⟩, at', wr⟩ := x
    have hrx := hr.op _ (gget_mem hx)
    have hxl : xs.length ≤ 4096 := hr.ok.op _ (gget_mem hgx)
    have hxa : at' ≤ 4611686018427387904 := hat _ (gget_mem hgx)
    rw [show (mget (gmap FilG.v op) fd).getD (.agg #[.slice none 0 0, .int .i64 0, .bool false]) = .agg #[.slice Ax xs.length cx', .int .i64 (at' : Int), .bool wr] by rw [fil_look, hx]; rfl, show (mget (gmap FilG.v op) fd).isSome = true by rw [fil_some, hx]; rfl]
    refine Jp.y 12 rfl (want_all rfl) rfl rfl Kp.true (Y.move rfl rfl) ?_
    refine Jp.y 19 rfl (want_all rfl) rfl rfl Kp.true (Y.extract rfl rfl rfl) ?_
    refine Jp.y 20 rfl (want_all rfl) rfl rfl Kp.true (Y.extract rfl rfl rfl) ?_
    refine Jp.alloc 6 8 rfl (want_all rfl) rfl rfl rfl Try.zeroValue71 fun b6 => ⟨Kp.true, ?_⟩
    first | refine Jp.storeAgg 0 rfl (want_all rfl) rfl rfl Try.sizeOf71 rfl rfl rfl rfl rfl rfl (fun k _ _ => noFr0 k) Kp.true ?_ | refine Jp.storeAgg 6 rfl (want_all rfl) rfl rfl Try.sizeOf71 rfl rfl rfl rfl rfl rfl (fun k _ _ => noFr0 k) Kp.true ?_ | refine Jp.storeAgg 6 rfl (want_all rfl) rfl rfl Try.sizeOf71 rfl rfl rfl rfl rfl rfl (fun k _ _ => noFr0 k) Kp.true ?_ | refine Jp.storeAgg 6 rfl (want_all rfl) rfl rfl Try.sizeOf71 rfl rfl rfl rfl rfl rfl (fun k _ _ => noFr0 k) Kp.true ?_
    refine Jp.y 9 rfl (want_all rfl) rfl rfl Kp.true (Y.assign rfl rfl) ?_
    refine Jp.done hK2 ?_
    refine Cd.seq fun K6 hK6 => ?_
    refine Cd.seq fun K7 hK7 => ?_
    refine Cd.plain [(0, false), (1, false), (2, false), (3, false), (4, false), (5, false)] rfl rfl ?_
    refine Jp.y 21 rfl (want_all rfl) rfl rfl Kp.true (Y.move rfl rfl) ?_
    refine Jp.y 22 rfl (want_all rfl) rfl rfl Kp.true (Y.not rfl rfl) ?_
    refine Jp.y 23 rfl (want_all rfl) rfl rfl Kp.true (Y.move rfl rfl) ?_
    refine Jp.split 23 rfl (fun g23 => ?_) (fun g23 => ?_)
    · skip
      exact absurd g23 (by simp)
    try simp only [decide_eq_false_iff_not, decide_eq_true_eq, Int.not_lt, Int.not_le, Bool.not_eq_false, Bool.not_eq_true, Bool.not_true, Bool.not_false, Bool.not_eq_true', Bool.not_eq_false', beq_eq_false_iff_ne, ne_eq, beq_iff_eq, bne_iff_ne, bne_eq_false_iff_eq, Classical.not_not] at g23
    refine Jp.y 24 rfl (want_as rfl rfl rfl rfl) rfl rfl Kp.true (by first | exact Y.fieldAddrP rfl rfl Try.underlying71 rfl Try.sizeOf4 (by decide) (show _ + 2 = _ from rfl) | exact Y.fieldAddr rfl rfl Try.underlying71 rfl Try.sizeOf4 (by decide)) ?_
    refine Jp.y 25 rfl (want_as rfl rfl rfl rfl) rfl rfl Kp.true (by first | exact Y.loadO 0 rfl Try.isAgg4 rfl rfl rfl | exact Y.loadO 6 rfl Try.isAgg4 rfl rfl rfl | exact Y.loadO 6 rfl Try.isAgg4 rfl rfl rfl | exact Y.loadO 6 rfl Try.isAgg4 rfl rfl rfl) ?_
    refine Jp.y 26 rfl (want_all rfl) rfl rfl Kp.true (Y.pickF rfl rfl rfl) ?_
    refine Jp.done hK7 ?_
    refine Cd.cond rfl (fun h1 => ?_) (fun h1 => ?_)
    · have h1 : wr = true := h1
      have e := readP_wr (n := n) hgx h1
      refine Cd.seq fun K8 hK8 => ?_
      refine Cd.plain [(0, false), (1, false)] rfl rfl ?_
      refine Jp.y 6 rfl (want_all rfl) rfl rfl Kp.true (Y.assign rfl rfl) ?_
      refine Jp.y 7 rfl (want_all rfl) rfl rfl Kp.true (Y.assign rfl rfl) ?_
      refine Jp.done hK8 ?_
      refine Cd.make 3 (A := OwnS 5 1 none 0 0 []) (OwnS.nil _ _ _) ?_
      refine Cd.ret [(0, _), (1, _), (2, _), (3, _)] rfl (res2 rfl rfl rfl) ⟨rfl, rfl, rfl, rfl, trivial⟩ ⟨rfl, use, op, none, 0, by rw [e], hr, by rw [e]; rfl, by rw [e]; rfl⟩
    · have h1 : wr = false := h1
      have e := readP_some (n := n) hgx h1
      refine Cd.skip hK6 ?_
      refine Cd.seq fun K9 hK9 => ?_
      refine Cd.plain [(0, false), (1, false), (2, false), (3, false), (4, false), (5, false), (6, false), (7, false), (8, false)] rfl rfl ?_
      refine Jp.y 27 rfl (want_all rfl) rfl rfl Kp.true (Y.move rfl rfl) ?_
      refine Jp.y 28 rfl (want_all rfl) rfl rfl Kp.true (Y.nilCheck rfl rfl) ?_
      refine Jp.y 29 rfl (want_all rfl) rfl rfl Kp.true (by first | exact Y.fieldAddrP rfl rfl Try.underlying68 rfl Try.sizeOf50 (by decide) (show _ + 1 = _ from rfl) | exact Y.fieldAddr rfl rfl Try.underlying68 rfl Try.sizeOf50 (by decide)) ?_
      refine Jp.y 30 rfl (want_all rfl) rfl rfl Kp.true (by first | exact Y.loadO 0 rfl Try.isAgg50 rfl rfl rfl | exact Y.loadO 6 rfl Try.isAgg50 rfl rfl rfl | exact Y.loadO 6 rfl Try.isAgg50 rfl rfl rfl | exact Y.loadO 6 rfl Try.isAgg50 rfl rfl rfl) ?_
      refine Jp.y 31 rfl (want_all rfl) rfl rfl Kp.true (Y.move rfl rfl) ?_
      refine Jp.y 32 rfl (want_all rfl) rfl rfl Kp.true (Y.max2 rfl rfl rfl) ?_
      refine Jp.y 33 rfl (want_all rfl) rfl rfl Kp.true (Y.min2 rfl rfl rfl) ?_
      rw [show (if (4096 : Int) < (if n < 0 then 0 else n) then 4096 else (if n < 0 then 0 else n)) = clampN n from rfl]
      refine Jp.call [1] [1] (f30_spec bu use (clampN n)) 34 rfl (want_all rfl) rfl rfl (Runs.fn rfl Try.call30 rfl) (by decide) (by decide) rfl hr.use ?_
      rintro v1 ρ1 L1 ⟨rfl, rfl, A1, rfl, use2, rfl, hu2, hp2⟩
      refine ⟨rfl, fun hle1 => ⟨Kp.true, ?_⟩⟩
      obtain ⟨t0, t1⟩ := takeP_range (u := use.p) hr.ok.use (clampN_range n).1
      have t2 := (clampN_range n).2
      obtain ⟨t, ht⟩ : ∃ t : Nat, (takeP use.p (clampN n)).1 = (t : Int) := ⟨_, (Int.toNat_of_nonneg t0).symm⟩
      rw [ht]
      obtain ⟨lo, hlo'⟩ : ∃ lo : Nat, lo = min at' xs.length := ⟨_, rfl⟩
      have hlole : lo ≤ xs.length := by omega
      refine Jp.y 2 rfl (want_all rfl) rfl rfl Kp.true (Y.assign rfl rfl) ?_
      refine Jp.done hK9 ?_
      refine Cd.seq fun K10 hK10 => ?_
      refine Cd.plain [(0, false), (1, false), (2, false), (3, false), (4, false), (5, false), (6, false), (7, false), (8, false), (9, false)] rfl rfl ?_
      refine Jp.y 35 rfl (want_all rfl) rfl rfl Kp.true (by first | exact Y.fieldAddrP rfl rfl Try.underlying71 rfl Try.sizeOf23 (by decide) (show _ + 0 = _ from rfl) | exact Y.fieldAddr rfl rfl Try.underlying71 rfl Try.sizeOf23 (by decide)) ?_
      refine Jp.y 36 rfl (want_all rfl) rfl rfl Kp.true (by first | exact Y.loadO 0 rfl Try.isAgg23 rfl rfl rfl | exact Y.loadO 6 rfl Try.isAgg23 rfl rfl rfl | exact Y.loadO 6 rfl Try.isAgg23 rfl rfl rfl | exact Y.loadO 6 rfl Try.isAgg23 rfl rfl rfl) ?_
      refine Jp.y 37 rfl (want_all rfl) rfl rfl Kp.true (by first | exact Y.fieldAddrP rfl rfl Try.underlying71 rfl Try.sizeOf3 (by decide) (show _ + 1 = _ from rfl) | exact Y.fieldAddr rfl rfl Try.underlying71 rfl Try.sizeOf3 (by decide)) ?_
      refine Jp.y 38 rfl (want_all rfl) rfl rfl Kp.true (by first | exact Y.loadO 0 rfl Try.isAgg3 rfl rfl rfl | exact Y.loadO 6 rfl Try.isAgg3 rfl rfl rfl | exact Y.loadO 6 rfl Try.isAgg3 rfl rfl rfl | exact Y.loadO 6 rfl Try.isAgg3 rfl rfl rfl) ?_
      refine Jp.y 39 rfl (want_all rfl) rfl rfl Kp.true (by first | exact Y.fieldAddrP rfl rfl Try.underlying71 rfl Try.sizeOf23 (by decide) (show _ + 0 = _ from rfl) | exact Y.fieldAddr rfl rfl Try.underlying71 rfl Try.sizeOf23 (by decide)) ?_
      refine Jp.y 40 rfl (want_all rfl) rfl rfl Kp.true (by first | exact Y.loadO 0 rfl Try.isAgg23 rfl rfl rfl | exact Y.loadO 6 rfl Try.isAgg23 rfl rfl rfl | exact Y.loadO 6 rfl Try.isAgg23 rfl rfl rfl | exact Y.loadO 6 rfl Try.isAgg23 rfl rfl rfl) ?_
      refine Jp.y 41 rfl (want_all rfl) rfl rfl Kp.true (Y.lenslice rfl Try.underlying23 rfl) ?_
      refine Jp.y 42 rfl (want_all rfl) rfl rfl Kp.true (Y.min2 rfl rfl rfl) ?_
      refine Jp.y 43 rfl (want_all rfl) rfl rfl Kp.true (Y.sliceFrom (lo := lo) rfl rfl rfl Try.underlying23 Try.sizeOf5 (by omega) (by omega)) ?_
      refine Jp.y 10 rfl (want_all rfl) rfl rfl Kp.true (Y.assign rfl rfl) ?_
      refine Jp.done hK10 ?_
      refine Cd.seq fun K11 hK11 => ?_
      refine Cd.plain [(0, false), (1, false), (2, false), (3, false), (4, false), (5, false), (6, false), (7, false)] rfl rfl ?_
      have hd : RdS 1 (cutA Ax cx' lo 1) (xs.length - lo) (cx' - lo) (bytesV (xs.drop lo)) ρ1 := by
        have h5 := RdS.drop (lo := lo) hrx hlole
        rw [Nat.mul_one] at h5
        have h6 : (bytesV xs).drop lo = bytesV (xs.drop lo) := by simp [bytesV]
        rw [← h6]; exact h5
      have hdc := hd.2.1.1
      obtain ⟨hi, hhi⟩ : ∃ hi : Nat, hi = min t (xs.length - lo) := ⟨_, rfl⟩
      have hb : ((leftP ⟨xs, at', wr⟩).take t) = (xs.drop lo).take hi := by
        rw [leftP, ← hlo', hhi]
        apply List.ext_getElem?
        intro j
        simp only [List.getElem?_take, List.getElem?_drop]
        by_cases hj : j < t
        · by_cases hj2 : j < xs.length - lo
          · rw [if_pos hj, if_pos (by omega)]
          · rw [if_pos hj, if_neg (by omega), List.getElem?_eq_none_iff]; omega
        · rw [if_neg hj, if_neg (by omega)]
      have hbl : ((xs.drop lo).take hi).length = hi := by rw [List.length_take, List.length_drop]; omega
      refine Jp.y 44 rfl (want_all rfl) rfl rfl Kp.true (Y.move rfl rfl) ?_
      refine Jp.y 45 rfl (want_all rfl) rfl rfl Kp.true (Y.move rfl rfl) ?_
      refine Jp.y 46 rfl (want_all rfl) rfl rfl Kp.true (Y.move rfl rfl) ?_
      refine Jp.y 47 rfl (want_all rfl) rfl rfl Kp.true (Y.lenslice rfl Try.underlying23 rfl) ?_
      refine Jp.y 48 rfl (want_all rfl) rfl rfl Kp.true (Y.min2 rfl rfl rfl) ?_
      refine Jp.y 49 rfl (want_all rfl) rfl rfl Kp.true (Y.sliceTo (hi := hi) rfl rfl rfl Try.underlying23 Try.sizeOf5 (by omega) (by omega)) ?_
      have hrt : RdB ⟨cutA Ax cx' lo 1, cx' - lo, (xs.drop lo).take hi⟩ ρ1 := by
        have h5 := RdS.take (l := hi) hd (by omega)
        rw [Nat.mul_one] at h5
        have h6 : (bytesV (xs.drop lo)).take hi = bytesV ((xs.drop lo).take hi) := by simp [bytesV]
        show RdS 1 _ ((xs.drop lo).take hi).length _ _ _
        rw [hbl, ← h6]; exact h5
      rw [show (Value.slice (cutA Ax cx' lo 1) hi (cx' - lo)) = Sl.v ⟨cutA Ax cx' lo 1, cx' - lo, (xs.drop lo).take hi⟩ by rw [Sl.v, hbl]]
      refine Jp.call [] [3] (f26_spec ⟨cutA Ax cx' lo 1, cx' - lo, (xs.drop lo).take hi⟩ (by rw [hbl]; omega)) 50 rfl (want_all rfl) rfl rfl (Runs.fn rfl Try.call26 rfl) (by decide) (by decide) rfl hrt ?_
      rintro v2 ρ2 L2 ⟨rfl, A5, c5, rfl, rfl⟩
      refine ⟨rfl, fun hle2 => ⟨Kp.true, ?_⟩⟩
      dsimp only
      rw [hbl]
      refine Jp.y 11 rfl (want_all rfl) rfl rfl Kp.true (Y.assign rfl rfl) ?_
      refine Jp.done hK11 ?_
      refine Cd.seq fun K12 hK12 => ?_
      refine Cd.plain [(0, false), (1, false), (2, false), (3, false), (4, false), (5, false), (6, false)] rfl rfl ?_
      refine Jp.y 51 rfl (want_all rfl) rfl rfl Kp.true (by first | exact Y.fieldAddrP rfl rfl Try.underlying71 rfl Try.sizeOf3 (by decide) (show _ + 1 = _ from rfl) | exact Y.fieldAddr rfl rfl Try.underlying71 rfl Try.sizeOf3 (by decide)) ?_
      refine Jp.y 52 rfl (want_all rfl) rfl rfl Kp.true (by first | exact Y.loadO 0 rfl Try.isAgg3 rfl rfl rfl | exact Y.loadO 6 rfl Try.isAgg3 rfl rfl rfl | exact Y.loadO 6 rfl Try.isAgg3 rfl rfl rfl | exact Y.loadO 6 rfl Try.isAgg3 rfl rfl rfl) ?_
      refine Jp.y 53 rfl (want_all rfl) rfl rfl Kp.true (Y.move rfl rfl) ?_
      refine Jp.y 54 rfl (want_all rfl) rfl rfl Kp.true (Y.lenslice rfl Try.underlying23 rfl) ?_
      refine Jp.y 55 rfl (want_all rfl) rfl rfl Kp.true (Y.add_ rfl rfl rfl (wrap_i64 (by omega) (by omega))) ?_
      refine Jp.y 56 rfl (want_all rfl) rfl rfl Kp.true (by first | exact Y.fieldAddrP rfl rfl Try.underlying71 rfl Try.sizeOf3 (by decide) (show _ + 1 = _ from rfl) | exact Y.fieldAddr rfl rfl Try.underlying71 rfl Try.sizeOf3 (by decide)) ?_
      first | refine Jp.store 0 rfl (want_all rfl) rfl rfl Try.sizeOf3 rfl rfl rfl rfl rfl rfl Kp.true ?_ | refine Jp.store 6 rfl (want_all rfl) rfl rfl Try.sizeOf3 rfl rfl rfl rfl rfl rfl Kp.true ?_ | refine Jp.store 6 rfl (want_all rfl) rfl rfl Try.sizeOf3 rfl rfl rfl rfl rfl rfl Kp.true ?_ | refine Jp.store 6 rfl (want_all rfl) rfl rfl Try.sizeOf3 rfl rfl rfl rfl rfl rfl Kp.true ?_
      refine Jp.done hK12 ?_
      refine Cd.seq fun K13 hK13 => ?_
      refine Cd.drawn [(0, _), (6, _)] ⟨rfl, rfl, trivial⟩ [(0, true), (1, true), (2, true), (3, true), (4, true), (5, true), (6, false)] follows (by kernel_rfl) (fun hrl => ?_)
      refine Jp.q 57 rfl (want_all rfl) rfl rfl (Y.move rfl rfl) ?_
      refine Jp.q 58 rfl (want_all rfl) rfl rfl (Y.nilCheck rfl rfl) ?_
      refine Jp.q 59 rfl (want_all rfl) rfl rfl (by first | exact Y.fieldAddrP rfl rfl Try.underlying68 rfl Try.sizeOf65 (by decide) (show _ + 2 = _ from rfl) | exact Y.fieldAddr rfl rfl Try.underlying68 rfl Try.sizeOf65 (by decide)) ?_
      refine Jp.q 60 rfl (want_all rfl) rfl rfl (by first | exact Y.loadO 0 rfl Try.isAgg65 rfl rfl rfl | exact Y.loadO 6 rfl Try.isAgg65 rfl rfl rfl | exact Y.loadO 6 rfl Try.isAgg65 rfl rfl rfl | exact Y.loadO 6 rfl Try.isAgg65 rfl rfl rfl) ?_
      refine Jp.q 61 rfl (want_all rfl) rfl rfl (Y.move rfl rfl) ?_
      refine Jp.q 62 rfl (want_all rfl) rfl rfl (by first | exact Y.loadAggO 0 rfl Try.isAgg71 Try.sizeOf71 rfl rfl rfl | exact Y.loadAggO 6 rfl Try.isAgg71 Try.sizeOf71 rfl rfl rfl | exact Y.loadAggO 6 rfl Try.isAgg71 Try.sizeOf71 rfl rfl rfl | exact Y.loadAggO 6 rfl Try.isAgg71 Try.sizeOf71 rfl rfl rfl) ?_
      first | refine Jp.mapUpdate 2 rfl (want_all rfl) rfl rfl rfl rfl rfl Try.underlying65 Try.underlying3 rfl Kp.last ?_
      refine Jp.done hK13 ?_
      refine Cd.seq fun K15 hK15 => ?_
      refine Cd.plain [(0, false), (1, false), (2, false), (3, false), (4, false)] rfl rfl ?_
      refine Jp.y 63 rfl (want_all rfl) rfl rfl Kp.true (Y.move rfl rfl) ?_
      refine Jp.y 64 rfl (want_all rfl) rfl rfl Kp.true (Y.move rfl rfl) ?_
      refine Jp.y 65 rfl (want_all rfl) rfl rfl Kp.true (Y.lenslice rfl Try.underlying23 rfl) ?_
      refine Jp.y 6 rfl (want_all rfl) rfl rfl Kp.true (Y.assign rfl rfl) ?_
      refine Jp.y 7 rfl (want_all rfl) rfl rfl Kp.true (Y.assign rfl rfl) ?_
      refine Jp.done hK15 ?_
      have e' : readFP (FilesG.p ⟨all, bu, use, bo, op, bw, out⟩) fd n = (some ((xs.drop lo).take hi), { FilesG.p ⟨all, bu, use, bo, op, bw, out⟩ with use := (takeP use.p (clampN n)).2, op := gset (FilesG.p ⟨all, bu, use, bo, op, bw, out⟩).op fd ⟨xs, at' + hi, wr⟩ }) := by
        rw [e]
        show (some ((leftP ⟨xs, at', wr⟩).take (takeP use.p (clampN n)).1.toNat), _) = _
        have ht' : (takeP (FilesG.p ⟨all, bu, use, bo, op, bw, out⟩).use (clampN n)).1.toNat = t := by
          show (takeP use.p (clampN n)).1.toNat = t
          rw [ht]; rfl
        rw [ht']
        show (_, FilesP.mk _ _ (gset _ _ ⟨xs, at' + ((leftP ⟨xs, at', wr⟩).take t).length, wr⟩) _) = _
        have ht2 : (takeP use.p (clampN n)).1.toNat = t := by rw [ht]; rfl
        rw [ht2, hb, hbl]; rfl
      have h6 : FilesG.p ⟨all, bu, use2, bo, gset op fd ⟨⟨Ax, cx', xs⟩, at' + hi, wr⟩, bw, out⟩ = (readFP (FilesG.p ⟨all, bu, use, bo, op, bw, out⟩) fd n).2 := by
        rw [e']
        show FilesP.mk _ _ _ _ = _
        rw [← gset_gmap, hp2]; rfl
      have h7 : ((readFP (FilesG.p ⟨all, bu, use, bo, op, bw, out⟩) fd n).1.getD []).length = hi := by rw [e']; exact hbl
      refine Cd.ret [(0, _), (1, _), (2, _), (3, _)] rfl (res2 rfl rfl rfl) ⟨rfl, rfl, rfl, rfl, trivial⟩ ⟨rfl, use2, gset op fd ⟨⟨Ax, cx', xs⟩, at' + hi, wr⟩, A5, c5, h6, ⟨hr.all, hu2, fun x hx => ?_, hr.out, ?_⟩, ?_, ?_⟩
      · rcases gset_mem hx with rfl | hx
        · exact hrx
        · exact hr.op x hx
      · rw [h6]; exact hr.ok.readP fd n
      · rw [h7, e']
        show _ = Value.tuple #[_, .int .i64 (((xs.drop lo).take hi).length : Int)]
        rw [hbl]
      · rw [h7, ← mset_gmap, e']; rfl
end Go.Proofs.Ytogkncmhonomdaa
