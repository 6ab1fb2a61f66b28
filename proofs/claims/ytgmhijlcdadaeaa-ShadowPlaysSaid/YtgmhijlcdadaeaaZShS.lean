import Derived.Test.YtgmhijlcdadaeaaZShQ
import Derived.Test.YtgmhijlcdadaeaaZRsG
import Derived.Test.YtgmhijlcdadaeaaZComX
set_option linter.unusedVariables false
set_option linter.unusedSimpArgs false
set_option maxRecDepth 100000
namespace Go.Proofs.Ytgmhijlcdadaeaa
open Go
theorem lab_at {l : List (Nat × Pg)} (h : ShOk l) {i k : Nat} {y : Nat × Pg} (hx : l[i]? = some y) (hk : k < 256) : labL l (y.1 + k) = y.2.b.getD k 0 := by
  have hy := List.mem_of_getElem? hx
  have hok := h.page y hy
  have hal := hok.al
  have hb : baseN (y.1 + k) = y.1 := by unfold baseN; omega
  have hg := getPg_of_mem h.rising.nodup (k := y.1) (p := y.2) hy
  unfold labL
  rw [hb, hg, show (y.1 + k) % 256 = k by omega]
theorem dirty_spec (bs bw : Nat) (B : Int) (S : ShG) : Spec Try.prog 43 #[.pointer (some ⟨bs, 0, none⟩), .pointer (some ⟨bw, 0, none⟩)] (fun _ => True) [(0, ShO bs S), (1, RsO bw B S.pages)]
    (fun ρ ρ' v L => v = .bool true ∧ L = [(0, ShO bs S), (1, RsO bw B S.pages)]) := by
  refine Spec.of 60 Try.func43 rfl Try.ntmps43 [(0, _), (1, _)] rfl rfl ?_
  intro cx ρ hr h0
  refine Cd.know (A := ShO bs S) 0 rfl ShO.ok fun hok => ?_
  have hsh := hok.1
  obtain ⟨l, hl⟩ : ∃ l, S.pages = l := ⟨_, rfl⟩
  have hfew := sh_few hsh
  refine Cd.seq fun K1 hK1 => ?_
  refine Cd.plain [(0, false)] rfl rfl ?_
  refine Jp.y 4 rfl (want_all rfl) rfl rfl Kp.true (Y.assign rfl rfl) ?_
  refine Jp.done hK1 ?_
  refine Cd.seq fun K2 hK2 => ?_
  refine Cd.plain [(0, false), (1, false), (2, false)] rfl rfl ?_
  refine Jp.y 8 rfl (want_all rfl) rfl rfl Kp.true (Y.move rfl rfl) ?_
  refine Jp.call [0] [0, 2] (shDirty_spec bs S) 9 rfl (want_all rfl) rfl rfl (Runs.fn rfl Try.call27 rfl) (by decide) (by decide) rfl trivial ?_
  rintro v1 ρ1 L1 ⟨KA, kc, rfl, rfl⟩
  refine ⟨rfl, fun hle1 => ⟨Kp.true, ?_⟩⟩
  rw [hl] at hsh hfew ⊢
  refine Jp.freeze (i := 2) rfl (OwnS.up _ _ _ _ _ _) fun ρ7 hle7 hA7 => ?_
  have hkeys := hA7.rd
  refine Jp.rsOpen 1 3 (by decide) rfl fun x hf => ?_
  obtain ⟨A, c⟩ := x
  dsimp only
  have hrows : ∀ y ∈ l, (lbC y).length = 257 := fun y hy => lbC_len (hf.1 y hy)
  refine Jp.y 5 rfl (want_all rfl) rfl rfl Kp.true (Y.assign rfl rfl) ?_
  refine Jp.done hK2 ?_
  refine Cd.seq fun K3 hK3 => ?_
  refine Cd.seq fun K4 hK4 => ?_
  refine Cd.plain [(0, false), (1, false), (2, false), (3, false), (4, false), (5, false), (6, false), (7, false)] rfl rfl ?_
  refine Jp.y 10 rfl (want_all rfl) rfl rfl Kp.true (Y.move rfl rfl) ?_
  refine Jp.y 11 rfl (want_all rfl) rfl rfl Kp.true (Y.lenslice rfl Try.underlying26 rfl) ?_
  refine Jp.y 12 rfl (want_all rfl) rfl rfl Kp.true (Y.move rfl rfl) ?_
  refine Jp.y 13 rfl (want_all rfl) rfl rfl Kp.true (Y.nilCheck rfl rfl) ?_
  refine Jp.y 14 rfl (want_all rfl) rfl rfl Kp.true (by first | exact Y.fieldAddrP rfl rfl Try.underlying78 rfl Try.sizeOf76 (by decide) (show _ + 1 = _ from rfl) | exact Y.fieldAddr rfl rfl Try.underlying78 rfl Try.sizeOf76 (by decide)) ?_
  refine Jp.y 15 rfl (want_all rfl) rfl rfl Kp.true (Y.loadO 1 rfl Try.isAgg76 rfl rfl rfl) ?_
  refine Jp.y 16 rfl (want_all rfl) rfl rfl Kp.true (Y.lenslice rfl Try.underlying76 rfl) ?_
  refine Jp.y 17 rfl (want_all rfl) rfl rfl Kp.true (Y.neq rfl rfl rfl) ?_
  refine Jp.done hK4 ?_
  refine Cd.cond rfl (fun gq => ?_) (fun gq => ?_)
  · exact absurd gq (by simp)
  · skip
    refine Cd.skip hK3 ?_
    refine Cd.seq fun K5 hK5 => ?_
    refine Cd.seq fun K6 hK6 => ?_
    refine Cd.plain [(0, false)] rfl rfl ?_
    refine Jp.y 6 rfl (want_all rfl) rfl rfl Kp.true (Y.assign rfl rfl) ?_
    refine Jp.done hK6 ?_
    refine Cd.block ?_
    refine Cd.loopK (G := Nat) (fun i => i ≤ l.length) (fun i => l.length - i) (fun _ => _) (fun i => [(6, .int .i64 (i : Int))]) [(0, _), (1, _), (5, _)] (fun i => []) [(0, _), (1, _), (3, _)] 0 (Nat.zero_le _) rfl ⟨rfl, trivial⟩ ⟨rfl, rfl, rfl, trivial⟩ trivial ⟨rfl, rfl, rfl, trivial⟩ (fun g KLa hok hLa => ?_)
    obtain ⟨i, hi⟩ : ∃ i, i = g := ⟨_, rfl⟩
    rw [← hi] at hok ⊢
    refine Cd.seq fun K7 hK7 => ?_
    refine Cd.seq fun K8 hK8 => ?_
    refine Cd.plain [(0, false), (1, false), (2, false), (3, false)] rfl rfl ?_
    refine Jp.y 18 rfl (want_all rfl) rfl rfl Kp.true (Y.move rfl rfl) ?_
    refine Jp.y 19 rfl (want_all rfl) rfl rfl Kp.true (Y.move rfl rfl) ?_
    refine Jp.y 20 rfl (want_all rfl) rfl rfl Kp.true (Y.lenslice rfl Try.underlying26 rfl) ?_
    refine Jp.y 21 rfl (want_all rfl) rfl rfl Kp.true (Y.lss rfl rfl rfl) ?_
    refine Jp.done hK8 ?_
    refine Cd.cond rfl (fun ga => ?_) (fun ga => ?_)
    · have hil : i < l.length := by simpa using ga
      have hx : l[i]? = some l[i] := List.getElem?_eq_getElem hil
      obtain ⟨y, hy⟩ : ∃ y, y = l[i] := ⟨_, rfl⟩
      rw [← hy] at hx
      have hyk := hsh.page y (List.mem_of_getElem? hx)
      have hal := hyk.al
      have hyl := hyk.lt
      refine Cd.ownAt 3 rfl (show 0 < l.length by omega) ?_
      rintro b1 rfl
      have c0 := OwnS.hasC (e := 137) (m := 257) (k := l.length) (c := c) (ad := ⟨b1, 0, none⟩) (rs_get hrows hx (lbC_base y))
      obtain ⟨ak, hak, hck⟩ := hkeys.2.2 i (.int .u32 (y.1 : Int)) (by rw [natsV, List.getElem?_map, List.getElem?_map, hx]; rfl)
      subst hak
      refine Cd.skip hK7 ?_
      refine Cd.seq fun K9 hK9 => ?_
      refine Cd.block ?_
      refine Cd.seq fun K10 hK10 => ?_
      refine Cd.seq fun K11 hK11 => ?_
      refine Cd.drawn [(1, _), (3, _)] ⟨rfl, rfl, trivial⟩ [(0, true), (1, true), (2, true), (3, true), (4, true), (5, true), (6, true), (7, true), (8, true), (9, true), (10, true), (11, true), (12, true)] follows (by kernel_rfl) (fun hrl => ?_)
      refine Jp.q 24 rfl (want_all rfl) rfl rfl (Y.move rfl rfl) ?_
      refine Jp.q 25 rfl (want_all rfl) rfl rfl (Y.move rfl rfl) ?_
      refine Jp.q 26 rfl (want_all rfl) rfl rfl (Y.indexAddr (q := i) rfl rfl rfl Try.underlying26 Try.sizeOf25 (by omega) (by omega) (by omega)) ?_
      refine Jp.q 27 rfl (want_all rfl) rfl rfl (by first | exact Y.loadO 1 rfl Try.isAgg25 rfl rfl rfl | exact Y.loadR rfl Try.isAgg25 rfl hck | exact Y.loadC 3 rfl Try.isAgg25 rfl rfl c0) ?_
      refine Jp.q 28 rfl (want_all rfl) rfl rfl (Y.move rfl rfl) ?_
      refine Jp.q 29 rfl (want_all rfl) rfl rfl (Y.nilCheck rfl rfl) ?_
      refine Jp.q 30 rfl (want_all rfl) rfl rfl (by first | exact Y.fieldAddrP rfl rfl Try.underlying78 rfl Try.sizeOf76 (by decide) (show _ + 1 = _ from rfl) | exact Y.fieldAddr rfl rfl Try.underlying78 rfl Try.sizeOf76 (by decide)) ?_
      refine Jp.q 31 rfl (want_all rfl) rfl rfl (by first | exact Y.loadO 1 rfl Try.isAgg76 rfl rfl rfl | exact Y.loadR rfl Try.isAgg76 rfl hck | exact Y.loadC 3 rfl Try.isAgg76 rfl rfl c0) ?_
      refine Jp.q 32 rfl (want_all rfl) rfl rfl (Y.move rfl rfl) ?_
      refine Jp.q 33 rfl (want_all rfl) rfl rfl (Y.indexAddr (q := i * 257) rfl rfl rfl Try.underlying76 Try.sizeOf137 (by omega) (by omega) (by omega)) ?_
      refine Jp.q 34 rfl (want_all rfl) rfl rfl (by first | exact Y.fieldAddrP rfl rfl Try.underlying137 rfl Try.sizeOf25 (by decide) (show _ + 0 = _ from rfl) | exact Y.fieldAddr rfl rfl Try.underlying137 rfl Try.sizeOf25 (by decide)) ?_
      refine Jp.q 35 rfl (want_all rfl) rfl rfl (by first | exact Y.loadO 1 rfl Try.isAgg25 rfl rfl rfl | exact Y.loadR rfl Try.isAgg25 rfl hck | exact Y.loadC 3 rfl Try.isAgg25 rfl rfl c0) ?_
      refine Jp.q 36 rfl (want_all rfl) rfl rfl (Y.neq rfl rfl rfl) ?_
      refine Jp.done hK11 ?_
      refine Cd.cond rfl (fun gb => ?_) (fun gb => ?_)
      · exact absurd gb (by simp)
      · skip
        refine Cd.skip hK10 ?_
        refine Cd.seq fun K13 hK13 => ?_
        refine Cd.plain [(0, false)] rfl rfl ?_
        refine Jp.y 7 rfl (want_all rfl) rfl rfl Kp.true (Y.assign rfl rfl) ?_
        refine Jp.done hK13 ?_
        refine Cd.block ?_
        refine Cd.loopK (G := Nat) (fun k => k ≤ 256) (fun k => 256 - k) (fun _ => _) (fun k => [(7, .int .u32 (k : Int))]) [(0, _), (1, _), (5, _), (6, _)] (fun k => []) [(0, _), (1, _), (3, _)] 0 (Nat.zero_le _) rfl ⟨rfl, trivial⟩ ⟨rfl, rfl, rfl, rfl, trivial⟩ trivial ⟨rfl, rfl, rfl, trivial⟩ (fun g KLc hok hLc => ?_)
        obtain ⟨k, hk⟩ : ∃ k, k = g := ⟨_, rfl⟩
        rw [← hk] at hok ⊢
        refine Cd.seq fun K14 hK14 => ?_
        refine Cd.seq fun K15 hK15 => ?_
        refine Cd.plain [(0, false), (1, false)] rfl rfl ?_
        refine Jp.y 37 rfl (want_all rfl) rfl rfl Kp.true (Y.move rfl rfl) ?_
        refine Jp.y 38 rfl (want_all rfl) rfl rfl Kp.true (Y.lss rfl rfl rfl) ?_
        refine Jp.done hK15 ?_
        refine Cd.cond rfl (fun gk => ?_) (fun gk => ?_)
        · have hk2 : k < 256 := by simp at gk; omega
          have c1 := OwnS.hasC (e := 137) (m := 257) (k := l.length) (c := c) (ad := ⟨b1, 0, none⟩) (rs_get hrows hx (lbC_byte (hf.1 y (List.mem_of_getElem? hx)) hk2))
          rw [add_mk, Nat.zero_add] at c1
          have hlab := lab_at hsh hx hk2
          refine Cd.skip hK14 ?_
          refine Cd.seq fun K16 hK16 => ?_
          refine Cd.block ?_
          refine Cd.seq fun K17 hK17 => ?_
          refine Cd.drawn [(1, _), (3, _)] ⟨rfl, rfl, trivial⟩ [(0, true), (1, true), (2, true), (3, true), (4, true), (5, true), (6, true), (8, true), (9, true), (10, true), (11, true), (12, true), (13, true), (14, true), (15, true), (16, true), (17, true), (7, false), (18, true)] follows (by kernel_rfl) (fun hrl => ?_)
          refine Jp.q 41 rfl (want_all rfl) rfl rfl (Y.move rfl rfl) ?_
          refine Jp.q 42 rfl (want_all rfl) rfl rfl (Y.move rfl rfl) ?_
          refine Jp.q 43 rfl (want_all rfl) rfl rfl (Y.move rfl rfl) ?_
          refine Jp.q 44 rfl (want_all rfl) rfl rfl (Y.indexAddr (q := i) rfl rfl rfl Try.underlying26 Try.sizeOf25 (by omega) (by omega) (by omega)) ?_
          refine Jp.q 45 rfl (want_all rfl) rfl rfl (by first | exact Y.loadO 1 rfl Try.isAgg25 rfl rfl rfl | exact Y.loadR rfl Try.isAgg25 rfl hck) ?_
          refine Jp.q 46 rfl (want_all rfl) rfl rfl (Y.move rfl rfl) ?_
          refine Jp.q 47 rfl (want_all rfl) rfl rfl (Y.add_ rfl rfl rfl (by first | exact wrap_u32 (by omega) (by omega) | rfl)) ?_
          refine Jp.q 49 rfl (want_all rfl) rfl rfl (Y.move rfl rfl) ?_
          refine Jp.q 50 rfl (want_all rfl) rfl rfl (Y.nilCheck rfl rfl) ?_
          refine Jp.q 51 rfl (want_all rfl) rfl rfl (by first | exact Y.fieldAddrP rfl rfl Try.underlying78 rfl Try.sizeOf76 (by decide) (show _ + 1 = _ from rfl) | exact Y.fieldAddr rfl rfl Try.underlying78 rfl Try.sizeOf76 (by decide)) ?_
          refine Jp.q 52 rfl (want_all rfl) rfl rfl (by first | exact Y.loadO 1 rfl Try.isAgg76 rfl rfl rfl | exact Y.loadR rfl Try.isAgg76 rfl hck) ?_
          refine Jp.q 53 rfl (want_all rfl) rfl rfl (Y.move rfl rfl) ?_
          refine Jp.q 54 rfl (want_all rfl) rfl rfl (Y.move rfl rfl) ?_
          refine Jp.q 55 rfl (want_all rfl) rfl rfl (Y.indexAddr (q := i * 257) rfl rfl rfl Try.underlying76 Try.sizeOf137 (by omega) (by omega) (by omega)) ?_
          refine Jp.slot 55 rfl (show _ = Value.pointer (some ⟨b1, i * 257, none⟩) by rw [add_mk, Nat.zero_add]) ?_
          refine Jp.q 56 rfl (want_all rfl) rfl rfl (by first | exact Y.fieldAddrP rfl rfl Try.underlying137 rfl Try.sizeOf106 (by decide) (show _ + 1 = _ from rfl) | exact Y.fieldAddr rfl rfl Try.underlying137 rfl Try.sizeOf106 (by decide)) ?_
          refine Jp.q 57 rfl (want_all rfl) rfl rfl (Y.indexArrP (q := i * 257 + (1 + k)) rfl rfl rfl Try.underlying106 Try.sizeOf5 (by omega) (by omega) (by omega)) ?_
          refine Jp.q 58 rfl (want_all rfl) rfl rfl (by first | exact Y.loadO 1 rfl Try.isAgg5 rfl rfl rfl | exact Y.loadC 3 rfl Try.isAgg5 rfl rfl c1) ?_
          refine Jp.slot 47 rfl (show _ = Value.int .u32 ((y.1 + k : Nat) : Int) from congrArg (Value.int .u32) (by omega)) ?_
          refine Jp.call [0] [0] (shAt_spec bs S (y.1 + k) (by omega)) 48 rfl (want_all rfl) rfl rfl (Runs.fn rfl Try.call29 rfl) (by decide) (by decide) rfl trivial ?_
          rintro v2 ρ2 L2 ⟨rfl, rfl, rfl⟩
          refine ⟨rfl, fun hle2 => ⟨(Kp.st ⟨rfl, rfl, trivial⟩), ?_⟩⟩
          rw [show labL S.pages (y.1 + k) = y.2.b.getD k 0 by rw [hl]; exact hlab]
          refine Jp.q 59 rfl (want_all rfl) rfl rfl (Y.neq rfl rfl rfl) ?_
          refine Jp.done hK17 ?_
          refine Cd.cond rfl (fun gz => ?_) (fun gz => ?_)
          · exact absurd gz (by simp)
          · skip
            refine Cd.over rfl hK16 ?_
            refine Cd.plain [(0, false), (1, false), (2, false)] rfl rfl ?_
            refine Jp.y 39 rfl (want_all rfl) rfl rfl Kp.true (Y.move rfl rfl) ?_
            refine Jp.y 40 rfl (want_all rfl) rfl rfl Kp.true (Y.add_ rfl rfl rfl (by first | exact wrap_u32 (by omega) (by omega) | rfl)) ?_
            refine Jp.y 7 rfl (want_all rfl) rfl rfl Kp.true (Y.assign rfl rfl) ?_
            rw [show (k : Int) + 1 = ((k + 1 : Nat) : Int) by omega]
            refine Jp.again hLc (k + 1) (by omega) (by omega) rfl ⟨rfl, rfl, rfl, rfl, rfl, trivial⟩ ⟨rfl, rfl, rfl, trivial⟩
        · have hk2 : k = 256 := by simp at gk; omega
          refine Cd.exit rfl hK9 ?_
          refine Cd.plain [(0, false), (1, false), (2, false)] rfl rfl ?_
          refine Jp.y 22 rfl (want_all rfl) rfl rfl Kp.true (Y.move rfl rfl) ?_
          refine Jp.y 23 rfl (want_all rfl) rfl rfl Kp.true (Y.add_ rfl rfl rfl (by first | exact wrap_i64 (by omega) (by omega) | rfl)) ?_
          refine Jp.y 6 rfl (want_all rfl) rfl rfl Kp.true (Y.assign rfl rfl) ?_
          rw [show (i : Int) + 1 = ((i + 1 : Nat) : Int) by omega]
          refine Jp.again hLa (i + 1) (by omega) (by omega) rfl ⟨rfl, rfl, rfl, rfl, trivial⟩ ⟨rfl, rfl, rfl, trivial⟩
    · skip
      refine Cd.exit rfl hK5 ?_
      refine Cd.seq fun K19 hK19 => ?_
      refine Cd.plain [(0, false)] rfl rfl ?_
      refine Jp.y 4 rfl (want_all rfl) rfl rfl Kp.true (Y.assign rfl rfl) ?_
      refine Jp.done hK19 ?_
      refine Cd.rsClose (b := bw) (l := l) 1 3 (by decide) hf rfl rfl ?_
      refine Cd.ret [(0, _), (1, _)] rfl (res1 rfl rfl) ⟨rfl, rfl, trivial⟩ ⟨rfl, by rw [← hl]⟩
theorem act_cells (x : ActS) (ht : x.t.length = 4) (b : Nat) : ∀ h, Pt b (.cells x.cells.toArray 72) h → Cells h ⟨b, 0 + 5, none⟩ (bytesV x.t) := fun h hh p v hv => by
  have hh : h b = some (.cells x.cells.toArray 72) := hh
  have hx3 : x.cells[5 + p]? = some v := by
    unfold ActS.cells
    rw [List.getElem?_append_right (by simp)]
    simpa using hv
  rw [add_mk, show 0 + 5 + p = 5 + p by omega]
  simp [cellH, hh, hx3]
theorem tag_self {a : Bytes} (ha : a.length = 4) (w : World) : (Op.equalIn 10000 64 (.agg (bytesV a).toArray) (.agg (bytesV a).toArray)).run Try.prog w = .ok true w := by
  rw [tag_eq ha ha, decide_eq_true rfl]
theorem setR_eq (S : ShG) (a : Nat) (bs : Bytes) : setR (S.budget : Int) S.pages a bs = ((setM S a bs).1, (setM S a bs).2.pages) := by
  unfold setR setM
  by_cases h : S.budget < (layP S.pages a (bs.take (4294967296 - a))).length
  · rw [if_pos h, if_pos (by omega)]
  · rw [if_neg h, if_neg (by omega)]
theorem fillR_eq (S : ShG) (a : Nat) (n : Int) (v : UInt8) : fillR (S.budget : Int) S.pages a n v = ((fillM S a n v).1, (fillM S a n v).2.pages) := by
  unfold fillR fillM
  split
  · rfl
  · exact setR_eq ..
theorem putR_eq (S : ShG) (a : Nat) (size : Int) (t : Bytes) : putR (S.budget : Int) S.pages a size t = ((putM S a size t).1, (putM S a size t).2.pages) := setR_eq ..
theorem putM_budget (S : ShG) (a : Nat) (size : Int) (t : Bytes) : (putM S a size t).2.budget = S.budget := setM_budget ..
theorem shadowPlays_spec (m : Int) (l : Sl ActS) (hm1 : -9223372036854775808 ≤ m) (hm2 : m ≤ 9223372036854775807) : Spec Try.prog 13 #[.int .i64 m, l.v] (RdActSs l) [] (fun ρ ρ' v L => v = .bool true ∧ L = []) := by
  obtain ⟨A, c, xs⟩ := l
  dsimp only [Sl.v]
  refine Spec.of 197 Try.func13 rfl Try.ntmps13 [(0, _), (1, _)] rfl rfl ?_
  intro cx ρ hr h0
  have hrs := hr
  have lx : xs.length ≤ 281474976710656 := hrs.1.2.1.2
  refine Cd.seq fun K20 hK20 => ?_
  refine Cd.plain [(0, false)] rfl rfl ?_
  refine Jp.y 4 rfl (want_all rfl) rfl rfl Kp.true (Y.assign rfl rfl) ?_
  refine Jp.done hK20 ?_
  refine Cd.seq fun K21 hK21 => ?_
  refine Cd.seq fun K22 hK22 => ?_
  refine Cd.plain [(0, false), (1, false)] rfl rfl ?_
  refine Jp.call [] [] awake4_spec 13 rfl (want_all rfl) rfl rfl (Runs.fn rfl Try.call25 rfl) (by decide) (by decide) rfl trivial ?_
  rintro v1 ρ1 L1 ⟨rfl, rfl⟩
  refine ⟨rfl, fun hle1 => ⟨Kp.true, ?_⟩⟩
  have hrs := RdActSs.up _ _ _ hle1 hrs
  have hm : ∀ x ∈ xs, x.cells.length = 9 := fun x hx => x.len (hrs.2 x hx).t
  refine Jp.y 14 rfl (want_all rfl) rfl rfl Kp.true (Y.not rfl rfl) ?_
  refine Jp.done hK22 ?_
  refine Cd.cond rfl (fun g14 => ?_) (fun g14 => ?_)
  · skip
    exact absurd g14 (by simp)
  try simp only [decide_eq_false_iff_not, decide_eq_true_eq, Int.not_lt, Int.not_le, Bool.not_eq_false, Bool.not_eq_true, Bool.not_true, Bool.not_false, Bool.not_eq_true', Bool.not_eq_false', beq_eq_false_iff_ne, ne_eq, beq_iff_eq, bne_iff_ne, bne_eq_false_iff_eq, Classical.not_not] at g14
  refine Cd.skip hK21 ?_
  refine Cd.seq fun K23 hK23 => ?_
  refine Cd.plain [(0, false), (1, false), (2, false), (3, false), (4, false), (5, false), (6, false)] rfl rfl ?_
  refine Jp.y 16 rfl (want_all rfl) rfl rfl Kp.true (Y.move rfl rfl) ?_
  by_cases hbad : m < 0 ∨ 4096 < m
  · skip
    refine Jp.call [] [] (shNew_no m hbad) 17 rfl (want_all rfl) rfl rfl (Runs.fn rfl Try.call26 rfl) (by decide) (by decide) rfl trivial ?_
    rintro v2 ρ2 L2 ⟨rfl, rfl, rfl⟩
    refine ⟨rfl, fun hle2 => ⟨Kp.true, ?_⟩⟩
    refine Jp.y 15 rfl (want_all rfl) rfl rfl Kp.true (Y.move rfl rfl) ?_
    refine Jp.y 18 rfl (want_all rfl) rfl rfl Kp.true (Y.extract rfl rfl rfl) ?_
    refine Jp.y 19 rfl (want_all rfl) rfl rfl Kp.true (Y.extract rfl rfl rfl) ?_
    refine Jp.y 5 rfl (want_all rfl) rfl rfl Kp.true (Y.assign rfl rfl) ?_
    refine Jp.y 6 rfl (want_all rfl) rfl rfl Kp.true (Y.assign rfl rfl) ?_
    refine Jp.done hK23 ?_
    refine Cd.seq fun K24 hK24 => ?_
    refine Cd.seq fun K25 hK25 => ?_
    refine Cd.plain [(0, false), (1, false), (2, false), (3, false), (4, false), (5, false)] rfl rfl ?_
    by_cases hneg : m < 0
    · skip
      refine Jp.y 20 rfl (want_all rfl) rfl rfl Kp.true (Y.move rfl rfl) ?_
      refine Jp.y 21 rfl (want_all rfl) rfl rfl Kp.true (Y.lss rfl rfl rfl) ?_
      refine Jp.slot 21 rfl (show _ = Value.bool true from congrArg Value.bool (decide_eq_true hneg)) ?_
      refine Jp.y 22 rfl (want_all rfl) rfl rfl Kp.true (Y.move rfl rfl) ?_
      refine Jp.slot 22 rfl (show _ = Value.bool true from rfl) ?_
      refine Jp.skip 23 rfl (want_as rfl rfl rfl rfl) rfl rfl Kp.true ?_
      refine Jp.skip 24 rfl (want_as rfl rfl rfl rfl) rfl rfl Kp.true ?_
      refine Jp.y 25 rfl (want_all rfl) rfl rfl Kp.true (Y.pickT rfl rfl rfl) ?_
      refine Jp.done hK25 ?_
      refine Cd.condT rfl ?_
      refine Cd.seq fun K26 hK26 => ?_
      refine Cd.plain [(0, false), (1, false), (2, false), (3, false), (4, false), (5, false), (6, false)] rfl rfl ?_
      refine Jp.y 26 rfl (want_all rfl) rfl rfl Kp.true (Y.move rfl rfl) ?_
      refine Jp.y 27 rfl (want_all rfl) rfl rfl Kp.true (Y.eql rfl rfl rfl) ?_
      refine Jp.slot 27 rfl (show _ = Value.bool true from rfl) ?_
      refine Jp.y 28 rfl (want_all rfl) rfl rfl Kp.true (Y.move rfl rfl) ?_
      refine Jp.slot 28 rfl (show _ = Value.bool true from rfl) ?_
      refine Jp.y 29 rfl (want_as rfl rfl rfl rfl) rfl rfl Kp.true (Y.move rfl rfl) ?_
      refine Jp.y 30 rfl (want_as rfl rfl rfl rfl) rfl rfl Kp.true (Y.ptrNil rfl Try.underlying55 rfl rfl) ?_
      refine Jp.slot 30 rfl (show _ = Value.bool true from rfl) ?_
      refine Jp.y 31 rfl (want_all rfl) rfl rfl Kp.true (Y.pickT rfl rfl rfl) ?_
      refine Jp.y 4 rfl (want_all rfl) rfl rfl Kp.true (Y.assign rfl rfl) ?_
      refine Jp.done hK26 ?_
      refine Cd.ret [] rfl (res1 rfl rfl) trivial ⟨rfl, rfl⟩
    · skip
      refine Jp.y 20 rfl (want_all rfl) rfl rfl Kp.true (Y.move rfl rfl) ?_
      refine Jp.y 21 rfl (want_all rfl) rfl rfl Kp.true (Y.lss rfl rfl rfl) ?_
      refine Jp.slot 21 rfl (show _ = Value.bool false from congrArg Value.bool (decide_eq_false hneg)) ?_
      refine Jp.y 22 rfl (want_all rfl) rfl rfl Kp.true (Y.move rfl rfl) ?_
      refine Jp.slot 22 rfl (show _ = Value.bool false from rfl) ?_
      refine Jp.y 23 rfl (want_as rfl rfl rfl rfl) rfl rfl Kp.true (Y.move rfl rfl) ?_
      refine Jp.y 24 rfl (want_as rfl rfl rfl rfl) rfl rfl Kp.true (Y.gtr rfl rfl rfl) ?_
      refine Jp.slot 24 rfl (show _ = Value.bool true from congrArg Value.bool (decide_eq_true (by omega))) ?_
      refine Jp.y 25 rfl (want_all rfl) rfl rfl Kp.true (Y.pickF rfl rfl rfl) ?_
      refine Jp.done hK25 ?_
      refine Cd.condT rfl ?_
      refine Cd.seq fun K27 hK27 => ?_
      refine Cd.plain [(0, false), (1, false), (2, false), (3, false), (4, false), (5, false), (6, false)] rfl rfl ?_
      refine Jp.y 26 rfl (want_all rfl) rfl rfl Kp.true (Y.move rfl rfl) ?_
      refine Jp.y 27 rfl (want_all rfl) rfl rfl Kp.true (Y.eql rfl rfl rfl) ?_
      refine Jp.slot 27 rfl (show _ = Value.bool true from rfl) ?_
      refine Jp.y 28 rfl (want_all rfl) rfl rfl Kp.true (Y.move rfl rfl) ?_
      refine Jp.slot 28 rfl (show _ = Value.bool true from rfl) ?_
      refine Jp.y 29 rfl (want_as rfl rfl rfl rfl) rfl rfl Kp.true (Y.move rfl rfl) ?_
      refine Jp.y 30 rfl (want_as rfl rfl rfl rfl) rfl rfl Kp.true (Y.ptrNil rfl Try.underlying55 rfl rfl) ?_
      refine Jp.slot 30 rfl (show _ = Value.bool true from rfl) ?_
      refine Jp.y 31 rfl (want_all rfl) rfl rfl Kp.true (Y.pickT rfl rfl rfl) ?_
      refine Jp.y 4 rfl (want_all rfl) rfl rfl Kp.true (Y.assign rfl rfl) ?_
      refine Jp.done hK27 ?_
      refine Cd.ret [] rfl (res1 rfl rfl) trivial ⟨rfl, rfl⟩
  · obtain ⟨m, rfl⟩ := Int.eq_ofNat_of_zero_le (show 0 ≤ m by omega)
    refine Jp.call [] [1] (shNew_yes m (by omega)) 17 rfl (want_all rfl) rfl rfl (Runs.fn rfl Try.call26 rfl) (by decide) (by decide) rfl trivial ?_
    rintro v2 ρ2 L2 ⟨rfl, bs0, rfl, rfl⟩
    refine ⟨rfl, fun hle2 => ⟨Kp.true, ?_⟩⟩
    refine Jp.y 15 rfl (want_all rfl) rfl rfl Kp.true (Y.move rfl rfl) ?_
    refine Jp.y 18 rfl (want_all rfl) rfl rfl Kp.true (Y.extract rfl rfl rfl) ?_
    refine Jp.y 19 rfl (want_all rfl) rfl rfl Kp.true (Y.extract rfl rfl rfl) ?_
    refine Jp.y 5 rfl (want_all rfl) rfl rfl Kp.true (Y.assign rfl rfl) ?_
    refine Jp.y 6 rfl (want_all rfl) rfl rfl Kp.true (Y.assign rfl rfl) ?_
    refine Jp.done hK23 ?_
    refine Cd.seq fun K28 hK28 => ?_
    refine Cd.seq fun K29 hK29 => ?_
    refine Cd.plain [(0, false), (1, false), (2, false), (3, false), (4, false), (5, false)] rfl rfl ?_
    refine Jp.y 20 rfl (want_all rfl) rfl rfl Kp.true (Y.move rfl rfl) ?_
    refine Jp.y 21 rfl (want_all rfl) rfl rfl Kp.true (Y.lss rfl rfl rfl) ?_
    refine Jp.slot 21 rfl (show _ = Value.bool false from congrArg Value.bool (decide_eq_false (by omega))) ?_
    refine Jp.y 22 rfl (want_all rfl) rfl rfl Kp.true (Y.move rfl rfl) ?_
    refine Jp.slot 22 rfl (show _ = Value.bool false from rfl) ?_
    refine Jp.y 23 rfl (want_as rfl rfl rfl rfl) rfl rfl Kp.true (Y.move rfl rfl) ?_
    refine Jp.y 24 rfl (want_as rfl rfl rfl rfl) rfl rfl Kp.true (Y.gtr rfl rfl rfl) ?_
    refine Jp.slot 24 rfl (show _ = Value.bool false from congrArg Value.bool (decide_eq_false (by omega))) ?_
    refine Jp.y 25 rfl (want_all rfl) rfl rfl Kp.true (Y.pickF rfl rfl rfl) ?_
    refine Jp.done hK29 ?_
    refine Cd.condF rfl ?_
    refine Cd.skip hK28 ?_
    refine Cd.seq fun K30 hK30 => ?_
    refine Cd.seq fun K31 hK31 => ?_
    refine Cd.plain [(0, false), (1, false), (2, false), (3, false), (4, false), (5, false), (6, false)] rfl rfl ?_
    refine Jp.y 32 rfl (want_all rfl) rfl rfl Kp.true (Y.move rfl rfl) ?_
    refine Jp.y 33 rfl (want_all rfl) rfl rfl Kp.true (Y.neq rfl rfl rfl) ?_
    refine Jp.slot 33 rfl (show _ = Value.bool false from rfl) ?_
    refine Jp.y 34 rfl (want_all rfl) rfl rfl Kp.true (Y.move rfl rfl) ?_
    refine Jp.slot 34 rfl (show _ = Value.bool false from rfl) ?_
    refine Jp.y 35 rfl (want_as rfl rfl rfl rfl) rfl rfl Kp.true (Y.move rfl rfl) ?_
    refine Jp.y 36 rfl (want_as rfl rfl rfl rfl) rfl rfl Kp.true (Y.lenslice rfl Try.underlying70 rfl) ?_
    refine Jp.y 37 rfl (want_as rfl rfl rfl rfl) rfl rfl Kp.true (Y.gtr rfl rfl rfl) ?_
    refine Jp.y 38 rfl (want_all rfl) rfl rfl Kp.true (Y.pickF rfl rfl rfl) ?_
    refine Jp.done hK31 ?_
    refine Cd.cond rfl (fun g38 => ?_) (fun g38 => ?_)
    · skip
      refine Cd.seq fun K32 hK32 => ?_
      refine Cd.plain [(0, false), (1, false), (2, false)] rfl rfl ?_
      refine Jp.y 39 rfl (want_all rfl) rfl rfl Kp.true (Y.move rfl rfl) ?_
      refine Jp.y 40 rfl (want_all rfl) rfl rfl Kp.true (Y.eql rfl rfl rfl) ?_
      refine Jp.y 4 rfl (want_all rfl) rfl rfl Kp.true (Y.assign rfl rfl) ?_
      refine Jp.done hK32 ?_
      refine Cd.ret [] rfl (res1 rfl rfl) trivial ⟨rfl, rfl⟩
    try simp only [decide_eq_false_iff_not, decide_eq_true_eq, Int.not_lt, Int.not_le, Bool.not_eq_false, Bool.not_eq_true, Bool.not_true, Bool.not_false, Bool.not_eq_true', Bool.not_eq_false', beq_eq_false_iff_ne, ne_eq, beq_iff_eq, bne_iff_ne, bne_eq_false_iff_eq, Classical.not_not] at g38
    refine Cd.skip hK30 ?_
    refine Cd.seq fun K33 hK33 => ?_
    refine Cd.plain [(0, false), (1, false), (2, false), (3, false)] rfl rfl ?_
    refine Jp.y 41 rfl (want_all rfl) rfl rfl Kp.true (Y.move rfl rfl) ?_
    refine Jp.y 42 rfl (want_all rfl) rfl rfl Kp.true (Y.struct [(0, _)] [_, _] rfl rfl places78 Try.zeroValue78 rfl) ?_
    refine Jp.box 2 43 rfl (want_all rfl) rfl rfl rfl rfl fun b2 => ⟨Kp.true, ?_⟩
    refine Jp.y 7 rfl (want_all rfl) rfl rfl Kp.true (Y.assign rfl rfl) ?_
    refine Jp.done hK33 ?_
    refine Cd.seq fun K34 hK34 => ?_
    refine Cd.seq fun K35 hK35 => ?_
    refine Cd.plain [(0, false)] rfl rfl ?_
    refine Jp.y 8 rfl (want_all rfl) rfl rfl Kp.true (Y.assign rfl rfl) ?_
    refine Jp.done hK35 ?_
    refine Cd.block ?_
    refine Cd.make 3 (A := OwnS 137 257 none 0 0 []) (OwnS.nil _ _ _) ?_
    refine Cd.rsClose (b := b2) (B := (m : Int)) (l := []) (A := none) (c := 0) 2 3 (by decide) ⟨fun y h => (List.not_mem_nil h).elim, Nat.zero_le _⟩ rfl rfl ?_
    refine Cd.loopK (G := Nat × ShG × Nat × Hp) (fun g => g.1 ≤ xs.length ∧ g.2.1.budget = m ∧ RdActSs ⟨A, c, xs⟩ g.2.2.2 ∧ ρ2.le g.2.2.2) (fun g => xs.length - g.1) (fun g => g.2.2.2) (fun g => [(5, .pointer (some ⟨g.2.2.1, 0, none⟩)), (8, .int .i64 (g.1 : Int))]) [(1, _), (7, _)] (fun g => [(1, ShO g.2.2.1 g.2.1), (2, RsO b2 (m : Int) g.2.1.pages)]) [] ⟨0, ⟨m, []⟩, bs0, _⟩ ⟨Nat.zero_le _, rfl, hrs, Hp.le_refl _⟩ rfl ⟨rfl, rfl, trivial⟩ ⟨rfl, rfl, trivial⟩ ⟨rfl, rfl, trivial⟩ trivial (fun g KLa hok hLa => ?_)
    obtain ⟨i, S, bS, ρg⟩ := g
    obtain ⟨ok1, ok2, hrs, hle⟩ := hok
    dsimp only at ok1 ok2 hrs hle ⊢
    refine Cd.know (A := ShO bS S) 1 rfl ShO.ok fun hok => ?_
    have hsh := hok.1
    refine Cd.seq fun K36 hK36 => ?_
    refine Cd.seq fun K37 hK37 => ?_
    refine Cd.plain [(0, false), (1, false), (2, false), (3, false)] rfl rfl ?_
    refine Jp.y 44 rfl (want_all rfl) rfl rfl Kp.true (Y.move rfl rfl) ?_
    refine Jp.y 45 rfl (want_all rfl) rfl rfl Kp.true (Y.move rfl rfl) ?_
    refine Jp.y 46 rfl (want_all rfl) rfl rfl Kp.true (Y.lenslice rfl Try.underlying70 rfl) ?_
    refine Jp.y 47 rfl (want_all rfl) rfl rfl Kp.true (Y.lss rfl rfl rfl) ?_
    refine Jp.done hK37 ?_
    refine Cd.cond rfl (fun ga => ?_) (fun ga => ?_)
    · have hi : i < xs.length := by simp at ga; omega
      have hx : xs[i]? = some xs[i] := List.getElem?_eq_getElem hi
      obtain ⟨x, hxe⟩ : ∃ x, x = xs[i] := ⟨_, rfl⟩
      rw [← hxe] at hx
      obtain ⟨ad, hA, hcx, hrx⟩ := hrs.atM hm (by decide) hx
      have hA : A = some ad := hA
      subst hA
      have hal := hrx.a
      have hrb : RdB x.b ρg := hrx.b
      have hbl : x.b.xs.length ≤ 281474976710656 := hrb.2.1.2
      have ht := hrx.t
      have hl256 := hrx.l
      obtain ⟨hn1, hn2⟩ := wf_i64 hrx.n
      have hxl := hm x (List.mem_of_getElem? hx)
      have hone : x.cells.all one = true := by unfold ActS.cells; simp [one, Sl.v, bytesV, List.all_eq_true]
      have hbt : (bytesV x.t).length = 4 := by rw [bytesV, List.length_map]; exact ht
      have hle0 : Hp.le cx.r0 ρg := by rw [h0]; exact Hp.le_trans (Hp.le_trans hle1 hle2) hle
      refine Cd.skip hK36 ?_
      refine Cd.seq fun K38 hK38 => ?_
      refine Cd.block ?_
      refine Cd.seq fun K39 hK39 => ?_
      refine Cd.plain [(0, false), (1, false), (2, false), (3, false), (4, false), (5, false)] rfl rfl ?_
      refine Jp.y 50 rfl (want_all rfl) rfl rfl Kp.true (Y.move rfl rfl) ?_
      refine Jp.y 51 rfl (want_all rfl) rfl rfl Kp.true (Y.move rfl rfl) ?_
      refine Jp.y 52 rfl (want_all rfl) rfl rfl Kp.true (Y.indexAddr (q := i * 9) rfl rfl rfl Try.underlying70 Try.sizeOf72 (by omega) (by omega) (by omega)) ?_
      refine Jp.y 53 rfl (want_all rfl) rfl rfl Kp.true (Y.loadAggR x.cells rfl Try.isAgg72 Try.sizeOf72 rfl hxl hcx) ?_
      refine Jp.alloc 9 9 rfl (want_all rfl) rfl rfl rfl Try.zeroValue72 fun b9 => ⟨Kp.true, ?_⟩
      refine Jp.storeAgg 9 rfl (want_all rfl) rfl rfl Try.sizeOf72 rfl rfl hone hxl rfl rfl (fun k _ _ => noFr0 k) Kp.true ?_
      refine Jp.imp (j := 9) (A := Pt b9 (.cells (spl (ActS.mk 0 0 0 0 ⟨none, 0, []⟩ [0, 0, 0, 0]).cells.toArray 0 x.cells) 72)) (A' := Pt b9 (.cells x.cells.toArray 72)) rfl (fun h hh => by rw [shSpl_full (by rw [hxl]; rfl)] at hh; exact hh) ?_
      refine Jp.done hK39 ?_
      refine Cd.seq fun K40 hK40 => ?_
      refine Cd.seq fun K41 hK41 => ?_
      refine Cd.plain [(0, false), (1, false), (2, false), (3, false), (4, false), (5, false), (6, false), (7, false), (8, false), (9, false), (10, false), (11, false), (12, false), (13, false), (14, false), (15, false), (16, false), (17, false), (18, false)] rfl rfl ?_
      refine Jp.joinK (φ := x.b.xs.length ≤ 600) hK40 [(1, _), (5, _), (7, _), (8, _), (9, _)] ⟨rfl, rfl, rfl, rfl, rfl, trivial⟩ [(1, _), (2, _), (9, _)] ⟨rfl, rfl, rfl, trivial⟩ (fun hφ => ?_) (fun hj1 => ?_)
      · have hb6 := hφ
        refine Cd.seq fun K42 hK42 => ?_
        refine Cd.plain [(0, false)] rfl rfl ?_
        refine Jp.y 10 rfl (want_all rfl) rfl rfl Kp.true (Y.assign rfl rfl) ?_
        refine Jp.done hK42 ?_
        refine Cd.seq fun K43 hK43 => ?_
        refine Cd.seq fun K44 hK44 => ?_
        refine Cd.plain [(0, false), (1, false)] rfl rfl ?_
        refine Jp.y 73 rfl (want_all rfl) rfl rfl Kp.true (by first | exact Y.fieldAddrP rfl rfl Try.underlying72 rfl Try.sizeOf3 (by decide) (show _ + 0 = _ from rfl) | exact Y.fieldAddr rfl rfl Try.underlying72 rfl Try.sizeOf3 (by decide)) ?_
        refine Jp.y 74 rfl (want_all rfl) rfl rfl Kp.true (Y.loadO 9 rfl Try.isAgg3 rfl rfl rfl) ?_
        refine Jp.done hK44 ?_
        refine Cd.block ?_
        refine Cd.seq fun K45 hK45 => ?_
        refine Cd.plain [(0, false), (1, false)] rfl rfl ?_
        refine Jp.y 78 rfl (want_all rfl) rfl rfl Kp.true (Y.eql rfl rfl rfl) ?_
        refine Jp.y 77 rfl (want_all rfl) rfl rfl Kp.true (Y.assign rfl rfl) ?_
        refine Jp.done hK45 ?_
        refine Cd.joinG (G := ShG × Nat) (fun z => z.1.budget = m ∧ ShOk z.1.pages) (fun z => [(5, .pointer (some ⟨z.2, 0, none⟩)), (10, .bool true)]) [(1, _), (7, _), (8, _), (9, _)] ⟨rfl, rfl, rfl, rfl, trivial⟩ (fun z => [(1, ShO z.2 z.1), (2, RsO b2 (m : Int) z.1.pages)]) [(9, _)] ⟨rfl, trivial⟩ hK43 (fun g hφ => ?_) (fun hj2 => ?_)
        · clear hsh hok
          obtain ⟨S, bS⟩ := g
          obtain ⟨hmb, hsh⟩ := hφ
          dsimp only at hmb hsh ⊢
          have hlt : ∀ y ∈ S.pages, y.1 < 4294967296 := fun y hy => (hsh.page y hy).lt
          obtain ⟨nc, hnc⟩ : ∃ nc : Int, nc = if 2147483648 < x.n then 2147483648 else x.n := ⟨_, rfl⟩
          have hnc1 : nc ≤ 9223372036854775807 := by rw [hnc]; split <;> omega
          refine Cd.seq fun K46 hK46 => ?_
          refine Cd.plain [(0, false), (1, false), (2, false)] rfl rfl ?_
          refine Jp.y 146 rfl (want_all rfl) rfl rfl Kp.true (by first | exact Y.fieldAddrP rfl rfl Try.underlying72 rfl Try.sizeOf3 (by decide) (show _ + 1 = _ from rfl) | exact Y.fieldAddr rfl rfl Try.underlying72 rfl Try.sizeOf3 (by decide)) ?_
          refine Jp.y 147 rfl (want_all rfl) rfl rfl Kp.true (Y.loadO 9 rfl Try.isAgg3 rfl rfl rfl) ?_
          refine Jp.y 12 rfl (want_all rfl) rfl rfl Kp.true (Y.assign rfl rfl) ?_
          refine Jp.done hK46 ?_
          refine Cd.seq fun K47 hK47 => ?_
          refine Cd.seq fun K48 hK48 => ?_
          refine Cd.plain [(0, false), (1, false)] rfl rfl ?_
          refine Jp.y 148 rfl (want_all rfl) rfl rfl Kp.true (Y.move rfl rfl) ?_
          refine Jp.y 149 rfl (want_all rfl) rfl rfl Kp.true (Y.gtr rfl rfl rfl) ?_
          refine Jp.done hK48 ?_
          refine Cd.joinG (G := Unit) (fun _ => True) (fun _ => [(12, .int .i64 nc)]) [(1, _), (5, _), (7, _), (8, _), (9, _), (10, _)] ⟨rfl, rfl, rfl, rfl, rfl, rfl, trivial⟩ (fun _ => []) [(1, _), (2, _), (9, _)] ⟨rfl, rfl, rfl, trivial⟩ hK47 (fun g hφ => ?_) (fun hj3 => ?_)
          · clear hφ
            have htl := tagM_len S x.a x.n
            refine Cd.seq fun K49 hK49 => ?_
            refine Cd.drawn [(9, _)] ⟨rfl, trivial⟩ [(0, true), (1, true), (2, true), (3, true), (4, true), (5, true), (7, true), (8, true), (9, true), (6, false), (10, false), (11, true), (12, true), (13, true), (14, true), (15, true), (16, true), (17, true), (19, true), (20, true), (21, true), (22, true), (18, false), (23, false), (24, true), (25, true), (26, true), (27, true), (28, true), (29, true), (30, true), (31, true), (33, true), (34, true), (35, true), (36, true), (37, true), (32, false), (38, false), (39, true), (40, true), (41, true), (42, true), (43, true), (44, false), (45, true), (46, true)] follows (by kernel_rfl) (fun hrl => ?_)
            refine Jp.q 150 rfl (want_all rfl) rfl rfl (Y.move rfl rfl) ?_
            refine Jp.q 151 rfl (want_all rfl) rfl rfl (Y.not rfl rfl) ?_
            refine Jp.slot 151 rfl (show _ = Value.bool false from rfl) ?_
            refine Jp.q 152 rfl (want_all rfl) rfl rfl (Y.move rfl rfl) ?_
            refine Jp.slot 152 rfl (show _ = Value.bool false from rfl) ?_
            refine Jp.q 153 rfl (want_as rfl rfl rfl rfl) rfl rfl (Y.move rfl rfl) ?_
            refine Jp.q 154 rfl (want_as rfl rfl rfl rfl) rfl rfl (by first | exact Y.fieldAddrP rfl rfl Try.underlying72 rfl Try.sizeOf25 (by decide) (show _ + 2 = _ from rfl) | exact Y.fieldAddr rfl rfl Try.underlying72 rfl Try.sizeOf25 (by decide)) ?_
            refine Jp.q 155 rfl (want_as rfl rfl rfl rfl) rfl rfl (Y.loadO 9 rfl Try.isAgg25 rfl rfl rfl) ?_
            refine Jp.q 157 rfl (want_as rfl rfl rfl rfl) rfl rfl (Y.move rfl rfl) ?_
            refine Jp.q 158 rfl (want_as rfl rfl rfl rfl) rfl rfl (by first | exact Y.fieldAddrP rfl rfl Try.underlying72 rfl Try.sizeOf25 (by decide) (show _ + 2 = _ from rfl) | exact Y.fieldAddr rfl rfl Try.underlying72 rfl Try.sizeOf25 (by decide)) ?_
            refine Jp.q 159 rfl (want_as rfl rfl rfl rfl) rfl rfl (Y.loadO 9 rfl Try.isAgg25 rfl rfl rfl) ?_
            refine Jp.call [1] [1] (shAt_spec bS S x.a hal) 156 rfl (want_as rfl rfl rfl rfl) rfl rfl (Runs.fn rfl Try.call29 rfl) (by decide) (by decide) rfl trivial ?_
            rintro v20 ρ20 L20 ⟨rfl, rfl, rfl⟩
            refine ⟨rfl, fun hle20 => ⟨(Kp.st ⟨rfl, trivial⟩), ?_⟩⟩
            refine Jp.call [2] [2] (rsAt_spec b2 (m : Int) S.pages x.a hal hlt) 160 rfl (want_as rfl rfl rfl rfl) rfl rfl (Runs.fn rfl Try.call40 rfl) (by decide) (by decide) rfl trivial ?_
            rintro v21 ρ21 L21 ⟨rfl, rfl, rfl⟩
            refine ⟨rfl, fun hle21 => ⟨(Kp.st ⟨rfl, trivial⟩), ?_⟩⟩
            refine Jp.q 161 rfl (want_as rfl rfl rfl rfl) rfl rfl (Y.neq rfl rfl rfl) ?_
            refine Jp.slot 161 rfl (show _ = Value.bool false from congrArg Value.bool (by simp)) ?_
            refine Jp.q 162 rfl (want_all rfl) rfl rfl (Y.pickF rfl rfl rfl) ?_
            refine Jp.slot 162 rfl (show _ = Value.bool false from rfl) ?_
            refine Jp.q 163 rfl (want_all rfl) rfl rfl (Y.move rfl rfl) ?_
            refine Jp.slot 163 rfl (show _ = Value.bool false from rfl) ?_
            refine Jp.q 164 rfl (want_as rfl rfl rfl rfl) rfl rfl (Y.move rfl rfl) ?_
            refine Jp.q 165 rfl (want_as rfl rfl rfl rfl) rfl rfl (by first | exact Y.fieldAddrP rfl rfl Try.underlying72 rfl Try.sizeOf25 (by decide) (show _ + 2 = _ from rfl) | exact Y.fieldAddr rfl rfl Try.underlying72 rfl Try.sizeOf25 (by decide)) ?_
            refine Jp.q 166 rfl (want_as rfl rfl rfl rfl) rfl rfl (Y.loadO 9 rfl Try.isAgg25 rfl rfl rfl) ?_
            refine Jp.q 167 rfl (want_as rfl rfl rfl rfl) rfl rfl (Y.move rfl rfl) ?_
            refine Jp.q 169 rfl (want_as rfl rfl rfl rfl) rfl rfl (Y.move rfl rfl) ?_
            refine Jp.q 170 rfl (want_as rfl rfl rfl rfl) rfl rfl (by first | exact Y.fieldAddrP rfl rfl Try.underlying72 rfl Try.sizeOf25 (by decide) (show _ + 2 = _ from rfl) | exact Y.fieldAddr rfl rfl Try.underlying72 rfl Try.sizeOf25 (by decide)) ?_
            refine Jp.q 171 rfl (want_as rfl rfl rfl rfl) rfl rfl (Y.loadO 9 rfl Try.isAgg25 rfl rfl rfl) ?_
            refine Jp.q 172 rfl (want_as rfl rfl rfl rfl) rfl rfl (Y.move rfl rfl) ?_
            refine Jp.call [1] [1] (shAny_spec bS S x.a nc hal hnc1) 168 rfl (want_as rfl rfl rfl rfl) rfl rfl (Runs.fn rfl Try.call33 rfl) (by decide) (by decide) rfl trivial ?_
            rintro v22 ρ22 L22 ⟨rfl, rfl, rfl⟩
            refine ⟨rfl, fun hle22 => ⟨(Kp.st ⟨rfl, trivial⟩), ?_⟩⟩
            refine Jp.call [2] [2] (rsAny_spec b2 (m : Int) S.pages hsh x.a nc hal) 173 rfl (want_as rfl rfl rfl rfl) rfl rfl (Runs.fn rfl Try.call41 rfl) (by decide) (by decide) rfl trivial ?_
            rintro v23 ρ23 L23 ⟨rfl, rfl, rfl⟩
            refine ⟨rfl, fun hle23 => ⟨(Kp.st ⟨rfl, trivial⟩), ?_⟩⟩
            rw [anyR_eq (B := S.budget) hsh hal]
            refine Jp.q 174 rfl (want_as rfl rfl rfl rfl) rfl rfl (Y.neq rfl rfl rfl) ?_
            refine Jp.slot 174 rfl (show _ = Value.bool false from congrArg Value.bool (by simp)) ?_
            refine Jp.q 175 rfl (want_all rfl) rfl rfl (Y.pickF rfl rfl rfl) ?_
            refine Jp.slot 175 rfl (show _ = Value.bool false from rfl) ?_
            refine Jp.q 176 rfl (want_all rfl) rfl rfl (Y.move rfl rfl) ?_
            refine Jp.slot 176 rfl (show _ = Value.bool false from rfl) ?_
            refine Jp.q 177 rfl (want_as rfl rfl rfl rfl) rfl rfl (Y.move rfl rfl) ?_
            refine Jp.q 178 rfl (want_as rfl rfl rfl rfl) rfl rfl (by first | exact Y.fieldAddrP rfl rfl Try.underlying72 rfl Try.sizeOf25 (by decide) (show _ + 2 = _ from rfl) | exact Y.fieldAddr rfl rfl Try.underlying72 rfl Try.sizeOf25 (by decide)) ?_
            refine Jp.q 179 rfl (want_as rfl rfl rfl rfl) rfl rfl (Y.loadO 9 rfl Try.isAgg25 rfl rfl rfl) ?_
            refine Jp.q 180 rfl (want_as rfl rfl rfl rfl) rfl rfl (by first | exact Y.fieldAddrP rfl rfl Try.underlying72 rfl Try.sizeOf3 (by decide) (show _ + 1 = _ from rfl) | exact Y.fieldAddr rfl rfl Try.underlying72 rfl Try.sizeOf3 (by decide)) ?_
            refine Jp.q 181 rfl (want_as rfl rfl rfl rfl) rfl rfl (Y.loadO 9 rfl Try.isAgg3 rfl rfl rfl) ?_
            refine Jp.q 183 rfl (want_as rfl rfl rfl rfl) rfl rfl (Y.move rfl rfl) ?_
            refine Jp.q 184 rfl (want_as rfl rfl rfl rfl) rfl rfl (by first | exact Y.fieldAddrP rfl rfl Try.underlying72 rfl Try.sizeOf25 (by decide) (show _ + 2 = _ from rfl) | exact Y.fieldAddr rfl rfl Try.underlying72 rfl Try.sizeOf25 (by decide)) ?_
            refine Jp.q 185 rfl (want_as rfl rfl rfl rfl) rfl rfl (Y.loadO 9 rfl Try.isAgg25 rfl rfl rfl) ?_
            refine Jp.q 186 rfl (want_as rfl rfl rfl rfl) rfl rfl (by first | exact Y.fieldAddrP rfl rfl Try.underlying72 rfl Try.sizeOf3 (by decide) (show _ + 1 = _ from rfl) | exact Y.fieldAddr rfl rfl Try.underlying72 rfl Try.sizeOf3 (by decide)) ?_
            refine Jp.q 187 rfl (want_as rfl rfl rfl rfl) rfl rfl (Y.loadO 9 rfl Try.isAgg3 rfl rfl rfl) ?_
            refine Jp.call [1] [1] (shTag_spec bS S x.a x.n hal) 182 rfl (want_as rfl rfl rfl rfl) rfl rfl (Runs.fn rfl Try.call32 rfl) (by decide) (by decide) rfl trivial ?_
            rintro v24 ρ24 L24 ⟨rfl, rfl, rfl⟩
            refine ⟨rfl, fun hle24 => ⟨(Kp.st ⟨rfl, trivial⟩), ?_⟩⟩
            refine Jp.call [2] [2] (rsTag_spec b2 (m : Int) S.pages hlt x.a x.n hal) 188 rfl (want_as rfl rfl rfl rfl) rfl rfl (Runs.fn rfl Try.call42 rfl) (by decide) (by decide) rfl trivial ?_
            rintro v25 ρ25 L25 ⟨rfl, rfl, rfl⟩
            refine ⟨rfl, fun hle25 => ⟨(Kp.st ⟨rfl, trivial⟩), ?_⟩⟩
            refine Jp.q 189 rfl (want_as rfl rfl rfl rfl) rfl rfl (Y.neqV (xs := (bytesV (tagM S x.a x.n)).toArray) (ys := (bytesV (tagM S x.a x.n)).toArray) (r := true) rfl rfl rfl tag_guard (tag_self htl)) ?_
            refine Jp.slot 189 rfl (show _ = Value.bool false from rfl) ?_
            refine Jp.q 190 rfl (want_all rfl) rfl rfl (Y.pickF rfl rfl rfl) ?_
            refine Jp.slot 190 rfl (show _ = Value.bool false from rfl) ?_
            refine Jp.q 191 rfl (want_all rfl) rfl rfl (Y.move rfl rfl) ?_
            refine Jp.slot 191 rfl (show _ = Value.bool false from rfl) ?_
            refine Jp.q 192 rfl (want_as rfl rfl rfl rfl) rfl rfl (Y.move rfl rfl) ?_
            refine Jp.q 193 rfl (want_as rfl rfl rfl rfl) rfl rfl (Y.move rfl rfl) ?_
            refine Jp.call [1, 2] [1, 2] (dirty_spec bS b2 (m : Int) S) 194 rfl (want_as rfl rfl rfl rfl) rfl rfl (Runs.fn rfl Try.call43 rfl) (by decide) (by decide) rfl trivial ?_
            rintro v26 ρ26 L26 ⟨rfl, rfl⟩
            refine ⟨rfl, fun hle26 => ⟨(Kp.st' ⟨rfl, trivial⟩ hle26 hle0), ?_⟩⟩
            refine Jp.q 195 rfl (want_as rfl rfl rfl rfl) rfl rfl (Y.not rfl rfl) ?_
            refine Jp.slot 195 rfl (show _ = Value.bool false from rfl) ?_
            refine Jp.q 196 rfl (want_all rfl) rfl rfl (Y.pickF rfl rfl rfl) ?_
            refine Jp.slot 196 rfl (show _ = Value.bool false from rfl) ?_
            refine Jp.done hK49 ?_
            refine Cd.condF rfl ?_
            refine Cd.over rfl hK38 ?_
            refine Cd.plain [(0, false), (1, false), (2, false)] rfl rfl ?_
            refine Jp.y 48 rfl (want_all rfl) rfl rfl Kp.true (Y.move rfl rfl) ?_
            refine Jp.y 49 rfl (want_all rfl) rfl rfl Kp.true (Y.add_ rfl rfl rfl (by first | exact wrap_i64 (by omega) (by omega) | rfl)) ?_
            refine Jp.y 8 rfl (want_all rfl) rfl rfl Kp.true (Y.assign rfl rfl) ?_
            rw [show (i : Int) + 1 = ((i + 1 : Nat) : Int) by omega]
            refine Jp.again hLa ⟨i + 1, S, bS, _⟩ ⟨hi, hmb, RdActSs.up _ _ _ hle26 hrs, Hp.le_trans hle hle26⟩ (by show xs.length - (i + 1) < xs.length - i; omega) rfl ⟨rfl, rfl, rfl, rfl, trivial⟩ ⟨rfl, rfl, trivial⟩
          · skip
            refine Cd.cond rfl (fun gc => ?_) (fun gc => ?_)
            · have h1 : nc = 2147483648 := by rw [hnc, if_pos (by simpa using gc)]
              refine Cd.plain [(0, false)] rfl rfl ?_
              refine Jp.y 12 rfl (want_all rfl) rfl rfl Kp.true (Y.assign rfl rfl) ?_
              refine Jp.done hK47 ?_
              refine Cd.slot 12 rfl (show _ = Value.int .i64 nc from congrArg (Value.int .i64) h1.symm) ?_
              exact Cd.meet (hj3 () trivial) ⟨rfl, rfl, rfl, rfl, rfl, rfl, rfl, trivial⟩ ⟨rfl, rfl, rfl, trivial⟩
            · have h1 : nc = x.n := by rw [hnc, if_neg (by simpa using gc)]
              refine Cd.skip hK47 ?_
              refine Cd.slot 12 rfl (show _ = Value.int .i64 nc from congrArg (Value.int .i64) h1.symm) ?_
              exact Cd.meet (hj3 () trivial) ⟨rfl, rfl, rfl, rfl, rfl, rfl, rfl, trivial⟩ ⟨rfl, rfl, rfl, trivial⟩
        · skip
          have hlt : ∀ y ∈ S.pages, y.1 < 4294967296 := fun y hy => (hsh.page y hy).lt
          have hmS : (m : Int) = (S.budget : Int) := by omega
          refine Cd.cond rfl (fun g0 => ?_) (fun g0 => ?_)
          · skip
            refine Cd.drawn [(9, _)] ⟨rfl, trivial⟩ [(0, true), (1, true), (2, true), (3, true), (4, true), (6, true), (7, true), (8, true), (9, true), (10, true), (5, false), (11, false), (12, true), (13, true)] follows (by kernel_rfl) (fun hrl => ?_)
            refine Jp.q 79 rfl (want_all rfl) rfl rfl (Y.move rfl rfl) ?_
            refine Jp.q 80 rfl (want_all rfl) rfl rfl (by first | exact Y.fieldAddrP rfl rfl Try.underlying72 rfl Try.sizeOf25 (by decide) (show _ + 2 = _ from rfl) | exact Y.fieldAddr rfl rfl Try.underlying72 rfl Try.sizeOf25 (by decide)) ?_
            refine Jp.q 81 rfl (want_all rfl) rfl rfl (Y.loadO 9 rfl Try.isAgg25 rfl rfl rfl) ?_
            refine Jp.q 82 rfl (want_all rfl) rfl rfl (by first | exact Y.fieldAddrP rfl rfl Try.underlying72 rfl Try.sizeOf38 (by decide) (show _ + 4 = _ from rfl) | exact Y.fieldAddr rfl rfl Try.underlying72 rfl Try.sizeOf38 (by decide)) ?_
            refine Jp.q 83 rfl (want_all rfl) rfl rfl (Y.loadO 9 rfl Try.isAgg38 rfl rfl rfl) ?_
            refine Jp.q 85 rfl (want_all rfl) rfl rfl (Y.move rfl rfl) ?_
            refine Jp.q 86 rfl (want_all rfl) rfl rfl (by first | exact Y.fieldAddrP rfl rfl Try.underlying72 rfl Try.sizeOf25 (by decide) (show _ + 2 = _ from rfl) | exact Y.fieldAddr rfl rfl Try.underlying72 rfl Try.sizeOf25 (by decide)) ?_
            refine Jp.q 87 rfl (want_all rfl) rfl rfl (Y.loadO 9 rfl Try.isAgg25 rfl rfl rfl) ?_
            refine Jp.q 88 rfl (want_all rfl) rfl rfl (by first | exact Y.fieldAddrP rfl rfl Try.underlying72 rfl Try.sizeOf38 (by decide) (show _ + 4 = _ from rfl) | exact Y.fieldAddr rfl rfl Try.underlying72 rfl Try.sizeOf38 (by decide)) ?_
            refine Jp.q 89 rfl (want_all rfl) rfl rfl (Y.loadO 9 rfl Try.isAgg38 rfl rfl rfl) ?_
            refine Jp.call [1] [1] (shSet_spec bS S x.a x.b hal (by omega)) 84 rfl (want_all rfl) rfl rfl (Runs.fn rfl Try.call30 rfl) (by decide) (by decide) rfl hrb ?_
            rintro v3 ρ3 L3 ⟨rfl, rfl, rfl⟩
            refine ⟨rfl, fun hle3 => ⟨(Kp.st ⟨rfl, trivial⟩), ?_⟩⟩
            refine Jp.call [2] [2] (rsSet_spec b2 (m : Int) S.pages hsh x.a x.b hal (by omega)) 90 rfl (want_all rfl) rfl rfl (Runs.fn rfl Try.call35 rfl) (by decide) (by decide) rfl hrb ?_
            rintro v4 ρ4 L4 ⟨rfl, rfl⟩
            refine ⟨rfl, fun hle4 => ⟨(Kp.st' ⟨rfl, trivial⟩ hle4 hle0), ?_⟩⟩
            have he : setR (m : Int) S.pages x.a x.b.xs = ((setM S x.a x.b.xs).1, (setM S x.a x.b.xs).2.pages) := by rw [hmS]; exact setR_eq ..
            rw [he]
            refine Jp.q 91 rfl (want_all rfl) rfl rfl (Y.eql rfl rfl rfl) ?_
            refine Jp.slot 91 rfl (show _ = Value.bool true from congrArg Value.bool (by simp)) ?_
            refine Jp.q 10 rfl (want_all rfl) rfl rfl (Y.assign rfl rfl) ?_
            refine Jp.over rfl hK43 ?_
            exact Cd.meet' (hj2 ⟨(setM S x.a x.b.xs).2, bS⟩ ⟨(setM_budget ..).trans ok2, setM_ok hsh x.b.xs (by omega)⟩) hle4 hle0 ⟨rfl, rfl, rfl, rfl, rfl, rfl, trivial⟩ ⟨rfl, rfl, rfl, trivial⟩
          · skip
            refine Cd.seq fun K52 hK52 => ?_
            refine Cd.plain [(0, false), (1, false)] rfl rfl ?_
            refine Jp.y 93 rfl (want_all rfl) rfl rfl Kp.true (Y.eql rfl rfl rfl) ?_
            refine Jp.y 92 rfl (want_all rfl) rfl rfl Kp.true (Y.assign rfl rfl) ?_
            refine Jp.done hK52 ?_
            refine Cd.cond rfl (fun g1 => ?_) (fun g1 => ?_)
            · have hlv : ((UInt8.ofNat x.l).toNat : Int) = (x.l : Int) := by rw [UInt8.toNat_ofNat', Nat.mod_eq_of_lt (by omega)]
              refine Cd.drawn [(9, _)] ⟨rfl, trivial⟩ [(0, true), (1, true), (2, true), (3, true), (4, true), (5, true), (6, true), (8, true), (9, true), (10, true), (11, true), (12, true), (13, true), (14, true), (7, false), (15, false), (16, true), (17, true)] follows (by kernel_rfl) (fun hrl => ?_)
              refine Jp.q 94 rfl (want_all rfl) rfl rfl (Y.move rfl rfl) ?_
              refine Jp.q 95 rfl (want_all rfl) rfl rfl (by first | exact Y.fieldAddrP rfl rfl Try.underlying72 rfl Try.sizeOf25 (by decide) (show _ + 2 = _ from rfl) | exact Y.fieldAddr rfl rfl Try.underlying72 rfl Try.sizeOf25 (by decide)) ?_
              refine Jp.q 96 rfl (want_all rfl) rfl rfl (Y.loadO 9 rfl Try.isAgg25 rfl rfl rfl) ?_
              refine Jp.q 97 rfl (want_all rfl) rfl rfl (by first | exact Y.fieldAddrP rfl rfl Try.underlying72 rfl Try.sizeOf3 (by decide) (show _ + 1 = _ from rfl) | exact Y.fieldAddr rfl rfl Try.underlying72 rfl Try.sizeOf3 (by decide)) ?_
              refine Jp.q 98 rfl (want_all rfl) rfl rfl (Y.loadO 9 rfl Try.isAgg3 rfl rfl rfl) ?_
              refine Jp.q 99 rfl (want_all rfl) rfl rfl (by first | exact Y.fieldAddrP rfl rfl Try.underlying72 rfl Try.sizeOf5 (by decide) (show _ + 3 = _ from rfl) | exact Y.fieldAddr rfl rfl Try.underlying72 rfl Try.sizeOf5 (by decide)) ?_
              refine Jp.q 100 rfl (want_all rfl) rfl rfl (Y.loadO 9 rfl Try.isAgg5 rfl rfl rfl) ?_
              refine Jp.q 102 rfl (want_all rfl) rfl rfl (Y.move rfl rfl) ?_
              refine Jp.q 103 rfl (want_all rfl) rfl rfl (by first | exact Y.fieldAddrP rfl rfl Try.underlying72 rfl Try.sizeOf25 (by decide) (show _ + 2 = _ from rfl) | exact Y.fieldAddr rfl rfl Try.underlying72 rfl Try.sizeOf25 (by decide)) ?_
              refine Jp.q 104 rfl (want_all rfl) rfl rfl (Y.loadO 9 rfl Try.isAgg25 rfl rfl rfl) ?_
              refine Jp.q 105 rfl (want_all rfl) rfl rfl (by first | exact Y.fieldAddrP rfl rfl Try.underlying72 rfl Try.sizeOf3 (by decide) (show _ + 1 = _ from rfl) | exact Y.fieldAddr rfl rfl Try.underlying72 rfl Try.sizeOf3 (by decide)) ?_
              refine Jp.q 106 rfl (want_all rfl) rfl rfl (Y.loadO 9 rfl Try.isAgg3 rfl rfl rfl) ?_
              refine Jp.q 107 rfl (want_all rfl) rfl rfl (by first | exact Y.fieldAddrP rfl rfl Try.underlying72 rfl Try.sizeOf5 (by decide) (show _ + 3 = _ from rfl) | exact Y.fieldAddr rfl rfl Try.underlying72 rfl Try.sizeOf5 (by decide)) ?_
              refine Jp.q 108 rfl (want_all rfl) rfl rfl (Y.loadO 9 rfl Try.isAgg5 rfl rfl rfl) ?_
              refine Jp.slot 100 rfl (show _ = Value.int .u8 ((UInt8.ofNat x.l).toNat : Int) from congrArg (Value.int .u8) hlv.symm) ?_
              refine Jp.slot 108 rfl (show _ = Value.int .u8 ((UInt8.ofNat x.l).toNat : Int) from congrArg (Value.int .u8) hlv.symm) ?_
              refine Jp.call [1] [1] (shFill_spec bS S x.a x.n (UInt8.ofNat x.l) hal) 101 rfl (want_all rfl) rfl rfl (Runs.fn rfl Try.call28 rfl) (by decide) (by decide) rfl trivial ?_
              rintro v3 ρ3 L3 ⟨rfl, rfl, rfl⟩
              refine ⟨rfl, fun hle3 => ⟨(Kp.st ⟨rfl, trivial⟩), ?_⟩⟩
              refine Jp.call [2] [2] (rsFill_spec b2 (m : Int) S.pages hsh x.a x.n (UInt8.ofNat x.l) hal hn1) 109 rfl (want_all rfl) rfl rfl (Runs.fn rfl Try.call36 rfl) (by decide) (by decide) rfl trivial ?_
              rintro v4 ρ4 L4 ⟨rfl, rfl⟩
              refine ⟨rfl, fun hle4 => ⟨(Kp.st' ⟨rfl, trivial⟩ hle4 hle0), ?_⟩⟩
              have he : fillR (m : Int) S.pages x.a x.n (UInt8.ofNat x.l) = ((fillM S x.a x.n (UInt8.ofNat x.l)).1, (fillM S x.a x.n (UInt8.ofNat x.l)).2.pages) := by rw [hmS]; exact fillR_eq ..
              rw [he]
              have hok2 : ShOk (fillM S x.a x.n (UInt8.ofNat x.l)).2.pages := by
                unfold fillM
                split
                · exact hsh
                · exact setM_ok hsh _ (by omega)
              refine Jp.q 110 rfl (want_all rfl) rfl rfl (Y.eql rfl rfl rfl) ?_
              refine Jp.slot 110 rfl (show _ = Value.bool true from congrArg Value.bool (by simp)) ?_
              refine Jp.q 10 rfl (want_all rfl) rfl rfl (Y.assign rfl rfl) ?_
              refine Jp.over rfl hK43 ?_
              exact Cd.meet' (hj2 ⟨(fillM S x.a x.n (UInt8.ofNat x.l)).2, bS⟩ ⟨(fillM_budget ..).trans ok2, hok2⟩) hle4 hle0 ⟨rfl, rfl, rfl, rfl, rfl, rfl, trivial⟩ ⟨rfl, rfl, rfl, trivial⟩
            · skip
              refine Cd.seq fun K54 hK54 => ?_
              refine Cd.plain [(0, false), (1, false)] rfl rfl ?_
              refine Jp.y 112 rfl (want_all rfl) rfl rfl Kp.true (Y.eql rfl rfl rfl) ?_
              refine Jp.y 111 rfl (want_all rfl) rfl rfl Kp.true (Y.assign rfl rfl) ?_
              refine Jp.done hK54 ?_
              refine Cd.cond rfl (fun g2 => ?_) (fun g2 => ?_)
              · skip
                refine Cd.drawn [(9, _)] ⟨rfl, trivial⟩ [(0, true), (1, true), (2, true), (3, true), (4, true), (5, true), (6, true), (8, true), (9, true), (10, true), (11, true), (12, true), (13, true), (14, true), (7, false), (15, false), (16, true), (17, true)] follows (by kernel_rfl) (fun hrl => ?_)
                refine Jp.q 113 rfl (want_all rfl) rfl rfl (Y.move rfl rfl) ?_
                refine Jp.q 114 rfl (want_all rfl) rfl rfl (by first | exact Y.fieldAddrP rfl rfl Try.underlying72 rfl Try.sizeOf25 (by decide) (show _ + 2 = _ from rfl) | exact Y.fieldAddr rfl rfl Try.underlying72 rfl Try.sizeOf25 (by decide)) ?_
                refine Jp.q 115 rfl (want_all rfl) rfl rfl (Y.loadO 9 rfl Try.isAgg25 rfl rfl rfl) ?_
                refine Jp.q 116 rfl (want_all rfl) rfl rfl (by first | exact Y.fieldAddrP rfl rfl Try.underlying72 rfl Try.sizeOf3 (by decide) (show _ + 1 = _ from rfl) | exact Y.fieldAddr rfl rfl Try.underlying72 rfl Try.sizeOf3 (by decide)) ?_
                refine Jp.q 117 rfl (want_all rfl) rfl rfl (Y.loadO 9 rfl Try.isAgg3 rfl rfl rfl) ?_
                refine Jp.q 118 rfl (want_all rfl) rfl rfl (by first | exact Y.fieldAddrP rfl rfl Try.underlying72 rfl Try.sizeOf64 (by decide) (show _ + 5 = _ from rfl) | exact Y.fieldAddr rfl rfl Try.underlying72 rfl Try.sizeOf64 (by decide)) ?_
                refine Jp.q 119 rfl (want_all rfl) rfl rfl (Y.loadAggC 9 (bytesV x.t) rfl Try.isAgg64 Try.sizeOf64 rfl rfl hbt (act_cells x ht b9)) ?_
                refine Jp.q 121 rfl (want_all rfl) rfl rfl (Y.move rfl rfl) ?_
                refine Jp.q 122 rfl (want_all rfl) rfl rfl (by first | exact Y.fieldAddrP rfl rfl Try.underlying72 rfl Try.sizeOf25 (by decide) (show _ + 2 = _ from rfl) | exact Y.fieldAddr rfl rfl Try.underlying72 rfl Try.sizeOf25 (by decide)) ?_
                refine Jp.q 123 rfl (want_all rfl) rfl rfl (Y.loadO 9 rfl Try.isAgg25 rfl rfl rfl) ?_
                refine Jp.q 124 rfl (want_all rfl) rfl rfl (by first | exact Y.fieldAddrP rfl rfl Try.underlying72 rfl Try.sizeOf3 (by decide) (show _ + 1 = _ from rfl) | exact Y.fieldAddr rfl rfl Try.underlying72 rfl Try.sizeOf3 (by decide)) ?_
                refine Jp.q 125 rfl (want_all rfl) rfl rfl (Y.loadO 9 rfl Try.isAgg3 rfl rfl rfl) ?_
                refine Jp.q 126 rfl (want_all rfl) rfl rfl (by first | exact Y.fieldAddrP rfl rfl Try.underlying72 rfl Try.sizeOf64 (by decide) (show _ + 5 = _ from rfl) | exact Y.fieldAddr rfl rfl Try.underlying72 rfl Try.sizeOf64 (by decide)) ?_
                refine Jp.q 127 rfl (want_all rfl) rfl rfl (Y.loadAggC 9 (bytesV x.t) rfl Try.isAgg64 Try.sizeOf64 rfl rfl hbt (act_cells x ht b9)) ?_
                refine Jp.call [1] [1] (shPutN_spec bS S x.a x.n x.t hal ht) 120 rfl (want_all rfl) rfl rfl (Runs.fn rfl Try.call31 rfl) (by decide) (by decide) rfl trivial ?_
                rintro v3 ρ3 L3 ⟨rfl, rfl⟩
                refine ⟨rfl, fun hle3 => ⟨(Kp.st' ⟨rfl, trivial⟩ hle3 hle0), ?_⟩⟩
                refine Jp.call [2] [2] (rsPut_spec b2 (m : Int) S.pages hsh x.a x.n x.t hal ht) 128 rfl (want_all rfl) rfl rfl (Runs.fn rfl Try.call37 rfl) (by decide) (by decide) rfl trivial ?_
                rintro v4 ρ4 L4 ⟨rfl, rfl⟩
                refine ⟨rfl, fun hle4 => ⟨(Kp.st' ⟨rfl, trivial⟩ (Hp.le_trans hle3 hle4) hle0), ?_⟩⟩
                have he : putR (m : Int) S.pages x.a x.n x.t = ((putM S x.a x.n x.t).1, (putM S x.a x.n x.t).2.pages) := by rw [hmS]; exact putR_eq ..
                rw [he]
                refine Jp.q 129 rfl (want_all rfl) rfl rfl (Y.eql rfl rfl rfl) ?_
                refine Jp.slot 129 rfl (show _ = Value.bool true from congrArg Value.bool (by simp)) ?_
                refine Jp.q 10 rfl (want_all rfl) rfl rfl (Y.assign rfl rfl) ?_
                refine Jp.over rfl hK43 ?_
                exact Cd.meet' (hj2 ⟨(putM S x.a x.n x.t).2, bS⟩ ⟨(putM_budget ..).trans ok2, setM_ok hsh _ (by omega)⟩) (Hp.le_trans hle3 hle4) hle0 ⟨rfl, rfl, rfl, rfl, rfl, rfl, trivial⟩ ⟨rfl, rfl, rfl, trivial⟩
              · skip
                refine Cd.seq fun K56 hK56 => ?_
                refine Cd.plain [(0, false), (1, false)] rfl rfl ?_
                refine Jp.y 131 rfl (want_all rfl) rfl rfl Kp.true (Y.eql rfl rfl rfl) ?_
                refine Jp.y 130 rfl (want_all rfl) rfl rfl Kp.true (Y.assign rfl rfl) ?_
                refine Jp.done hK56 ?_
                refine Cd.cond rfl (fun g3 => ?_) (fun g3 => ?_)
                · obtain ⟨nc, hnc⟩ : ∃ nc : Int, nc = if 2147483648 < x.n then 2147483648 else x.n := ⟨_, rfl⟩
                  have hnc1 : nc ≤ 9223372036854775807 := by rw [hnc]; split <;> omega
                  refine Cd.seq fun K57 hK57 => ?_
                  refine Cd.plain [(0, false), (1, false), (2, false)] rfl rfl ?_
                  refine Jp.y 132 rfl (want_all rfl) rfl rfl Kp.true (by first | exact Y.fieldAddrP rfl rfl Try.underlying72 rfl Try.sizeOf3 (by decide) (show _ + 1 = _ from rfl) | exact Y.fieldAddr rfl rfl Try.underlying72 rfl Try.sizeOf3 (by decide)) ?_
                  refine Jp.y 133 rfl (want_all rfl) rfl rfl Kp.true (Y.loadO 9 rfl Try.isAgg3 rfl rfl rfl) ?_
                  refine Jp.y 11 rfl (want_all rfl) rfl rfl Kp.true (Y.assign rfl rfl) ?_
                  refine Jp.done hK57 ?_
                  refine Cd.seq fun K58 hK58 => ?_
                  refine Cd.seq fun K59 hK59 => ?_
                  refine Cd.plain [(0, false), (1, false)] rfl rfl ?_
                  refine Jp.y 134 rfl (want_all rfl) rfl rfl Kp.true (Y.move rfl rfl) ?_
                  refine Jp.y 135 rfl (want_all rfl) rfl rfl Kp.true (Y.gtr rfl rfl rfl) ?_
                  refine Jp.done hK59 ?_
                  refine Cd.joinG (G := Unit) (fun _ => True) (fun _ => [(11, .int .i64 nc)]) [(1, _), (5, _), (7, _), (8, _), (9, _), (10, _)] ⟨rfl, rfl, rfl, rfl, rfl, rfl, trivial⟩ (fun _ => []) [(1, _), (2, _), (9, _)] ⟨rfl, rfl, rfl, trivial⟩ hK58 (fun g hφ => ?_) (fun hj4 => ?_)
                  · clear hφ
                    refine Cd.seq fun K60 hK60 => ?_
                    refine Cd.plain [(0, false), (1, false), (2, false), (3, false), (4, false)] rfl rfl ?_
                    refine Jp.y 136 rfl (want_all rfl) rfl rfl Kp.true (Y.move rfl rfl) ?_
                    refine Jp.y 137 rfl (want_all rfl) rfl rfl Kp.true (by first | exact Y.fieldAddrP rfl rfl Try.underlying72 rfl Try.sizeOf25 (by decide) (show _ + 2 = _ from rfl) | exact Y.fieldAddr rfl rfl Try.underlying72 rfl Try.sizeOf25 (by decide)) ?_
                    refine Jp.y 138 rfl (want_all rfl) rfl rfl Kp.true (Y.loadO 9 rfl Try.isAgg25 rfl rfl rfl) ?_
                    refine Jp.y 139 rfl (want_all rfl) rfl rfl Kp.true (Y.move rfl rfl) ?_
                    refine Jp.call [1] [1] (shClear_spec bS S x.a nc hal hnc1) 140 rfl (want_all rfl) rfl rfl (Runs.fn rfl Try.call34 rfl) (by decide) (by decide) rfl trivial ?_
                    rintro v3 ρ3 L3 ⟨rfl, rfl, rfl⟩
                    refine ⟨rfl, fun hle3 => ⟨Kp.true, ?_⟩⟩
                    refine Jp.done hK60 ?_
                    refine Cd.plain [(0, false), (1, false), (2, false), (3, false), (4, false)] rfl rfl ?_
                    refine Jp.y 141 rfl (want_all rfl) rfl rfl Kp.true (Y.move rfl rfl) ?_
                    refine Jp.y 142 rfl (want_all rfl) rfl rfl Kp.true (by first | exact Y.fieldAddrP rfl rfl Try.underlying72 rfl Try.sizeOf25 (by decide) (show _ + 2 = _ from rfl) | exact Y.fieldAddr rfl rfl Try.underlying72 rfl Try.sizeOf25 (by decide)) ?_
                    refine Jp.y 143 rfl (want_all rfl) rfl rfl Kp.true (Y.loadO 9 rfl Try.isAgg25 rfl rfl rfl) ?_
                    refine Jp.y 144 rfl (want_all rfl) rfl rfl Kp.true (Y.move rfl rfl) ?_
                    refine Jp.call [2] [2] (rsClear_spec b2 (m : Int) S.pages hsh x.a nc hal) 145 rfl (want_all rfl) rfl rfl (Runs.fn rfl Try.call38 rfl) (by decide) (by decide) rfl trivial ?_
                    rintro v4 ρ4 L4 ⟨rfl, rfl, rfl⟩
                    refine ⟨rfl, fun hle4 => ⟨Kp.true, ?_⟩⟩
                    refine Jp.over rfl hK43 ?_
                    exact Cd.meet (hj2 ⟨clearM S x.a nc, bS⟩ ⟨ok2, clear_ok hsh _ _⟩) ⟨rfl, rfl, rfl, rfl, rfl, rfl, trivial⟩ ⟨rfl, rfl, rfl, trivial⟩
                  · skip
                    refine Cd.cond rfl (fun gc => ?_) (fun gc => ?_)
                    · have h1 : nc = 2147483648 := by rw [hnc, if_pos (by simpa using gc)]
                      refine Cd.plain [(0, false)] rfl rfl ?_
                      refine Jp.y 11 rfl (want_all rfl) rfl rfl Kp.true (Y.assign rfl rfl) ?_
                      refine Jp.done hK58 ?_
                      refine Cd.slot 11 rfl (show _ = Value.int .i64 nc from congrArg (Value.int .i64) h1.symm) ?_
                      exact Cd.meet (hj4 () trivial) ⟨rfl, rfl, rfl, rfl, rfl, rfl, rfl, trivial⟩ ⟨rfl, rfl, rfl, trivial⟩
                    · have h1 : nc = x.n := by rw [hnc, if_neg (by simpa using gc)]
                      refine Cd.skip hK58 ?_
                      refine Cd.slot 11 rfl (show _ = Value.int .i64 nc from congrArg (Value.int .i64) h1.symm) ?_
                      exact Cd.meet (hj4 () trivial) ⟨rfl, rfl, rfl, rfl, rfl, rfl, rfl, trivial⟩ ⟨rfl, rfl, rfl, trivial⟩
                · skip
                  refine Cd.plain [(0, false), (1, false), (2, false)] rfl rfl ?_
                  refine Jp.y 75 rfl (want_all rfl) rfl rfl Kp.true (Y.move rfl rfl) ?_
                  refine Jp.call [1] [3, 1] (shCopy_spec bS S) 76 rfl (want_all rfl) rfl rfl (Runs.fn rfl Try.call39 rfl) (by decide) (by decide) rfl trivial ?_
                  rintro v3 ρ3 L3 ⟨rfl, b3, rfl, rfl⟩
                  refine ⟨rfl, fun hle3 => ⟨Kp.true, ?_⟩⟩
                  refine Jp.y 5 rfl (want_all rfl) rfl rfl Kp.true (Y.assign rfl rfl) ?_
                  refine Jp.over rfl hK43 ?_
                  exact Cd.meet (hj2 ⟨S, b3⟩ ⟨ok2, hsh⟩) ⟨rfl, rfl, rfl, rfl, rfl, rfl, trivial⟩ ⟨rfl, rfl, rfl, trivial⟩
      · skip
        refine Jp.y 54 rfl (want_all rfl) rfl rfl Kp.true (by first | exact Y.fieldAddrP rfl rfl Try.underlying72 rfl Try.sizeOf38 (by decide) (show _ + 4 = _ from rfl) | exact Y.fieldAddr rfl rfl Try.underlying72 rfl Try.sizeOf38 (by decide)) ?_
        refine Jp.y 55 rfl (want_all rfl) rfl rfl Kp.true (Y.loadO 9 rfl Try.isAgg38 rfl rfl rfl) ?_
        refine Jp.y 56 rfl (want_all rfl) rfl rfl Kp.true (Y.lenslice rfl Try.underlying38 rfl) ?_
        refine Jp.y 57 rfl (want_all rfl) rfl rfl Kp.true (Y.gtr rfl rfl rfl) ?_
        refine Jp.y 58 rfl (want_all rfl) rfl rfl Kp.true (Y.move rfl rfl) ?_
        refine Jp.split 58 rfl (fun g58 => ?_) (fun g58 => ?_)
        · skip
          try simp only [decide_eq_false_iff_not, decide_eq_true_eq, Int.not_lt, Int.not_le, Bool.not_eq_false, Bool.not_eq_true, Bool.not_true, Bool.not_false, Bool.not_eq_true', Bool.not_eq_false', beq_eq_false_iff_ne, ne_eq, beq_iff_eq, bne_iff_ne, bne_eq_false_iff_eq, Classical.not_not] at g58
          refine Jp.skip 59 rfl (want_as rfl rfl rfl rfl) rfl rfl Kp.true ?_
          refine Jp.skip 60 rfl (want_as rfl rfl rfl rfl) rfl rfl Kp.true ?_
          refine Jp.skip 61 rfl (want_as rfl rfl rfl rfl) rfl rfl Kp.true ?_
          refine Jp.skip 62 rfl (want_as rfl rfl rfl rfl) rfl rfl Kp.true ?_
          refine Jp.skip 63 rfl (want_un rfl rfl rfl) rfl rfl Kp.true ?_
          refine Jp.skip 64 rfl (want_un rfl rfl rfl) rfl rfl Kp.true ?_
          refine Jp.skip 65 rfl (want_un rfl rfl rfl) rfl rfl Kp.true ?_
          refine Jp.skip 66 rfl (want_as rfl rfl rfl rfl) rfl rfl Kp.true ?_
          refine Jp.skip 67 rfl (want_as rfl rfl rfl rfl) rfl rfl Kp.true ?_
          refine Jp.skip 68 rfl (want_un rfl rfl rfl) rfl rfl Kp.true ?_
          refine Jp.skip 69 rfl (want_un rfl rfl rfl) rfl rfl Kp.true ?_
          refine Jp.skip 70 rfl (want_un rfl rfl rfl) rfl rfl Kp.true ?_
          refine Jp.skip 71 rfl (want_as rfl rfl rfl rfl) rfl rfl Kp.true ?_
          refine Jp.y 72 rfl (want_all rfl) rfl rfl Kp.true (Y.pickT rfl rfl rfl) ?_
          refine Jp.done hK41 ?_
          refine Cd.condT rfl ?_
          refine Cd.seq fun K61 hK61 => ?_
          refine Cd.plain [(0, false)] rfl rfl ?_
          refine Jp.y 4 rfl (want_all rfl) rfl rfl Kp.true (Y.assign rfl rfl) ?_
          refine Jp.done hK61 ?_
          refine Cd.ret [] rfl (res1 rfl rfl) trivial ⟨rfl, rfl⟩
        · skip
          try simp only [decide_eq_false_iff_not, decide_eq_true_eq, Int.not_lt, Int.not_le, Bool.not_eq_false, Bool.not_eq_true, Bool.not_true, Bool.not_false, Bool.not_eq_true', Bool.not_eq_false', beq_eq_false_iff_ne, ne_eq, beq_iff_eq, bne_iff_ne, bne_eq_false_iff_eq, Classical.not_not] at g58
          refine Jp.y 59 rfl (want_as rfl rfl rfl rfl) rfl rfl Kp.true (by first | exact Y.fieldAddrP rfl rfl Try.underlying72 rfl Try.sizeOf3 (by decide) (show _ + 0 = _ from rfl) | exact Y.fieldAddr rfl rfl Try.underlying72 rfl Try.sizeOf3 (by decide)) ?_
          refine Jp.y 60 rfl (want_as rfl rfl rfl rfl) rfl rfl Kp.true (Y.loadO 9 rfl Try.isAgg3 rfl rfl rfl) ?_
          refine Jp.y 61 rfl (want_as rfl rfl rfl rfl) rfl rfl Kp.true (Y.eql rfl rfl rfl) ?_
          refine Jp.y 62 rfl (want_as rfl rfl rfl rfl) rfl rfl Kp.true (Y.move rfl rfl) ?_
          refine Jp.split 62 rfl (fun g62 => ?_) (fun g62 => ?_)
          · skip
            try simp only [decide_eq_false_iff_not, decide_eq_true_eq, Int.not_lt, Int.not_le, Bool.not_eq_false, Bool.not_eq_true, Bool.not_true, Bool.not_false, Bool.not_eq_true', Bool.not_eq_false', beq_eq_false_iff_ne, ne_eq, beq_iff_eq, bne_iff_ne, bne_eq_false_iff_eq, Classical.not_not] at g62
            refine Jp.y 63 rfl (want_as rfl rfl rfl rfl) rfl rfl Kp.true (by first | exact Y.fieldAddrP rfl rfl Try.underlying72 rfl Try.sizeOf3 (by decide) (show _ + 1 = _ from rfl) | exact Y.fieldAddr rfl rfl Try.underlying72 rfl Try.sizeOf3 (by decide)) ?_
            refine Jp.y 64 rfl (want_as rfl rfl rfl rfl) rfl rfl Kp.true (Y.loadO 9 rfl Try.isAgg3 rfl rfl rfl) ?_
            refine Jp.y 65 rfl (want_as rfl rfl rfl rfl) rfl rfl Kp.true (Y.gtr rfl rfl rfl) ?_
            refine Jp.y 66 rfl (want_as rfl rfl rfl rfl) rfl rfl Kp.true (Y.pickT rfl rfl rfl) ?_
            refine Jp.y 67 rfl (want_as rfl rfl rfl rfl) rfl rfl Kp.true (Y.move rfl rfl) ?_
            refine Jp.split 67 rfl (fun g67 => ?_) (fun g67 => ?_)
            · skip
              try simp only [decide_eq_false_iff_not, decide_eq_true_eq, Int.not_lt, Int.not_le, Bool.not_eq_false, Bool.not_eq_true, Bool.not_true, Bool.not_false, Bool.not_eq_true', Bool.not_eq_false', beq_eq_false_iff_ne, ne_eq, beq_iff_eq, bne_iff_ne, bne_eq_false_iff_eq, Classical.not_not] at g67
              refine Jp.y 68 rfl (want_as rfl rfl rfl rfl) rfl rfl Kp.true (by first | exact Y.fieldAddrP rfl rfl Try.underlying72 rfl Try.sizeOf3 (by decide) (show _ + 1 = _ from rfl) | exact Y.fieldAddr rfl rfl Try.underlying72 rfl Try.sizeOf3 (by decide)) ?_
              refine Jp.y 69 rfl (want_as rfl rfl rfl rfl) rfl rfl Kp.true (Y.loadO 9 rfl Try.isAgg3 rfl rfl rfl) ?_
              refine Jp.y 70 rfl (want_as rfl rfl rfl rfl) rfl rfl Kp.true (Y.leq rfl rfl rfl) ?_
              refine Jp.y 71 rfl (want_as rfl rfl rfl rfl) rfl rfl Kp.true (Y.pickT rfl rfl rfl) ?_
              refine Jp.y 72 rfl (want_all rfl) rfl rfl Kp.true (Y.pickF rfl rfl rfl) ?_
              refine Jp.done hK41 ?_
              refine Cd.cond rfl (fun g72 => ?_) (fun g72 => ?_)
              · skip
                try simp only [decide_eq_false_iff_not, decide_eq_true_eq, Int.not_lt, Int.not_le, Bool.not_eq_false, Bool.not_eq_true, Bool.not_true, Bool.not_false, Bool.not_eq_true', Bool.not_eq_false', beq_eq_false_iff_ne, ne_eq, beq_iff_eq, bne_iff_ne, bne_eq_false_iff_eq, Classical.not_not] at g72
                refine Cd.seq fun K62 hK62 => ?_
                refine Cd.plain [(0, false)] rfl rfl ?_
                refine Jp.y 4 rfl (want_all rfl) rfl rfl Kp.true (Y.assign rfl rfl) ?_
                refine Jp.done hK62 ?_
                refine Cd.ret [] rfl (res1 rfl rfl) trivial ⟨rfl, rfl⟩
              · skip
                try simp only [decide_eq_false_iff_not, decide_eq_true_eq, Int.not_lt, Int.not_le, Bool.not_eq_false, Bool.not_eq_true, Bool.not_true, Bool.not_false, Bool.not_eq_true', Bool.not_eq_false', beq_eq_false_iff_ne, ne_eq, beq_iff_eq, bne_iff_ne, bne_eq_false_iff_eq, Classical.not_not] at g72
                refine Cd.skip hK40 ?_
                exact Cd.meet (hj1 (by omega)) ⟨rfl, rfl, rfl, rfl, rfl, trivial⟩ ⟨rfl, rfl, rfl, trivial⟩
            · skip
              try simp only [decide_eq_false_iff_not, decide_eq_true_eq, Int.not_lt, Int.not_le, Bool.not_eq_false, Bool.not_eq_true, Bool.not_true, Bool.not_false, Bool.not_eq_true', Bool.not_eq_false', beq_eq_false_iff_ne, ne_eq, beq_iff_eq, bne_iff_ne, bne_eq_false_iff_eq, Classical.not_not] at g67
              refine Jp.skip 68 rfl (want_as rfl rfl rfl rfl) rfl rfl Kp.true ?_
              refine Jp.skip 69 rfl (want_as rfl rfl rfl rfl) rfl rfl Kp.true ?_
              refine Jp.skip 70 rfl (want_as rfl rfl rfl rfl) rfl rfl Kp.true ?_
              refine Jp.y 71 rfl (want_as rfl rfl rfl rfl) rfl rfl Kp.true (Y.pickF rfl rfl rfl) ?_
              refine Jp.y 72 rfl (want_all rfl) rfl rfl Kp.true (Y.pickF rfl rfl rfl) ?_
              refine Jp.done hK41 ?_
              refine Cd.condF rfl ?_
              refine Cd.skip hK40 ?_
              exact Cd.meet (hj1 (by omega)) ⟨rfl, rfl, rfl, rfl, rfl, trivial⟩ ⟨rfl, rfl, rfl, trivial⟩
          · skip
            try simp only [decide_eq_false_iff_not, decide_eq_true_eq, Int.not_lt, Int.not_le, Bool.not_eq_false, Bool.not_eq_true, Bool.not_true, Bool.not_false, Bool.not_eq_true', Bool.not_eq_false', beq_eq_false_iff_ne, ne_eq, beq_iff_eq, bne_iff_ne, bne_eq_false_iff_eq, Classical.not_not] at g62
            refine Jp.skip 63 rfl (want_as rfl rfl rfl rfl) rfl rfl Kp.true ?_
            refine Jp.skip 64 rfl (want_as rfl rfl rfl rfl) rfl rfl Kp.true ?_
            refine Jp.skip 65 rfl (want_as rfl rfl rfl rfl) rfl rfl Kp.true ?_
            refine Jp.y 66 rfl (want_as rfl rfl rfl rfl) rfl rfl Kp.true (Y.pickF rfl rfl rfl) ?_
            refine Jp.y 67 rfl (want_as rfl rfl rfl rfl) rfl rfl Kp.true (Y.move rfl rfl) ?_
            refine Jp.skip 68 rfl (want_as rfl rfl rfl rfl) rfl rfl Kp.true ?_
            refine Jp.skip 69 rfl (want_as rfl rfl rfl rfl) rfl rfl Kp.true ?_
            refine Jp.skip 70 rfl (want_as rfl rfl rfl rfl) rfl rfl Kp.true ?_
            refine Jp.y 71 rfl (want_as rfl rfl rfl rfl) rfl rfl Kp.true (Y.pickF rfl rfl rfl) ?_
            refine Jp.y 72 rfl (want_all rfl) rfl rfl Kp.true (Y.pickF rfl rfl rfl) ?_
            refine Jp.done hK41 ?_
            refine Cd.condF rfl ?_
            refine Cd.skip hK40 ?_
            exact Cd.meet (hj1 (by omega)) ⟨rfl, rfl, rfl, rfl, rfl, trivial⟩ ⟨rfl, rfl, rfl, trivial⟩
    · skip
      refine Cd.exit rfl hK34 ?_
      refine Cd.seq fun K63 hK63 => ?_
      refine Cd.plain [(0, false)] rfl rfl ?_
      refine Jp.y 4 rfl (want_all rfl) rfl rfl Kp.true (Y.assign rfl rfl) ?_
      refine Jp.done hK63 ?_
      refine Cd.ret [] rfl (res1 rfl rfl) trivial ⟨rfl, rfl⟩
end Go.Proofs.Ytgmhijlcdadaeaa
