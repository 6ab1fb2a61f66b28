import Derived.Test.YtgmhijlcdadaeaaZShE
set_option linter.unusedVariables false
set_option linter.unusedSimpArgs false
set_option maxRecDepth 100000
namespace Go.Proofs.Ytgmhijlcdadaeaa
open Go
theorem shBlks_put {now : List (Nat × Pg)} {blk : Nat → Nat} {k b7 : Nat} {p : Pg} (hk : getPg now k = none) : ((b7, shPgO p) :: shBlks now blk).Perm (shBlks (now ++ [(k, p)]) (fun j => if j = k then b7 else blk j)) := by
  have h1 : shBlks now (fun j => if j = k then b7 else blk j) = shBlks now blk := shBlks_congr fun y hy => if_neg fun e => getPg_none.1 hk (List.mem_map.2 ⟨y, hy, e⟩)
  have h2 : shBlks (now ++ [(k, p)]) (fun j => if j = k then b7 else blk j) = shBlks now blk ++ [(b7, shPgO p)] := by
    rw [← h1]; unfold shBlks; rw [List.map_append]; simp
  rw [h2]
  exact List.perm_append_comm (l₁ := [(b7, shPgO p)])
theorem pmOf_put {now : List (Nat × Pg)} {blk : Nat → Nat} {k b7 : Nat} {p : Pg} (hk : getPg now k = none) : mset (pmOf now blk) (k : Int) (.pointer (some ⟨b7, 0, none⟩)) = pmOf (now ++ [(k, p)]) (fun j => if j = k then b7 else blk j) := by
  have h1 : pmOf now (fun j => if j = k then b7 else blk j) = pmOf now blk := pmOf_congr fun y hy => if_neg fun e => getPg_none.1 hk (List.mem_map.2 ⟨y, hy, e⟩)
  rw [mset_new (fun hm => getPg_none.1 hk (pmOf_mem.1 hm)), ← h1]
  unfold pmOf
  rw [List.map_append]
  simp [shPtr]
theorem shLay_spec (b : Nat) (S : ShG) (a : Nat) (n : Int) (bs : Bytes) (F : FuncId) (cap : List Value) (R : Hp → Prop) (A : HProp) (ha : a < 4294967296) (hn : n ≤ 9223372036854775807) (hbs : min n.toNat (4294967296 - a) = bs.length) (hlb : bs.length ≤ 1048576)
    (hcF : ∀ args w, (callFunc F args).run Try.prog w = .ok (.enter F args) w)
    (hF : ∀ (i : Nat) (v : UInt8), bs[i]? = some v → Spec Try.prog F ([Value.int .i64 (i : Int)] ++ cap).toArray R [(0, A)] (fun ρ ρ' r L => ρ' = ρ ∧ r = .int .u8 (v.toNat : Int) ∧ L = [(0, A)])) :
    Spec Try.prog 75 #[.pointer (some ⟨b, 0, none⟩), .int .u32 a, .int .i64 n, .func (.func F) #[] cap.toArray] R [(0, ShO b S), (1, A)]
    (fun ρ ρ' r L => ρ' = ρ ∧ r = .int .i64 (layM S a bs).1 ∧ L = [(0, ShO b (layM S a bs).2), (1, A)]) := by
  refine Spec.of 103 Try.func75 rfl Try.ntmps75 [(0, _), (1, _), (2, _), (3, _)] rfl rfl ?_
  intro cx ρ hr h0
  refine Cd.shOpen 0 3 4 (by decide) rfl fun x hf => ?_
  have hroom := hf.room
  have hbud := hf.budget
  have hend : endN a n = a + bs.length := by unfold endN; omega
  have hab : a + bs.length ≤ 4294967296 := by omega
  obtain ⟨l0, hl0⟩ : ∃ l, S.pages = l := ⟨_, rfl⟩
  have hok0 : ShOk l0 := hl0 ▸ hf.ok
  refine Cd.seq fun K1 hK1 => ?_
  refine Cd.plain [(0, false)] rfl rfl ?_
  refine Jp.y 8 rfl (want_all rfl) rfl rfl Kp.true (Y.assign rfl rfl) ?_
  refine Jp.done hK1 ?_
  refine Cd.seq fun K2 hK2 => ?_
  refine Cd.plain [(0, false), (1, false)] rfl rfl ?_
  refine Jp.makeMap 16 5 .u32 rfl (want_all rfl) rfl rfl rfl fun b5 => ⟨Kp.true, ?_⟩
  refine Jp.y 9 rfl (want_all rfl) rfl rfl Kp.true (Y.assign rfl rfl) ?_
  refine Jp.done hK2 ?_
  refine Cd.seq fun K3 hK3 => ?_
  refine Cd.seq fun K4 hK4 => ?_
  refine Cd.plain [(0, false), (1, false), (2, false), (3, false), (4, false), (5, false), (6, false), (7, false)] rfl rfl ?_
  refine Jp.make 6 Blks.nil ?_
  have hE := shEnd_spec a n ha hn
  rw [hend] at hE
  refine Jp.y 17 rfl (want_all rfl) rfl rfl Kp.true (Y.move rfl rfl) ?_
  refine Jp.y 18 rfl (want_all rfl) rfl rfl Kp.true (Y.move rfl rfl) ?_
  refine Jp.call [] [] hE 19 rfl (want_all rfl) rfl rfl (Runs.fn rfl Try.call80 rfl) (by decide) (by decide) rfl trivial ?_
  rintro v1 ρ1 L1 ⟨rfl, rfl, rfl⟩
  refine ⟨rfl, fun hle1 => ⟨Kp.true, ?_⟩⟩
  refine Jp.y 20 rfl (want_all rfl) rfl rfl Kp.true (Y.move rfl rfl) ?_
  refine Jp.y 21 rfl (want_all rfl) rfl rfl Kp.true (Y.conv_ rfl rfl Try.underlying25 Try.underlying129 (by first | exact wrap_u64 (by omega) (by omega) | rfl)) ?_
  refine Jp.y 22 rfl (want_all rfl) rfl rfl Kp.true (Y.sub_ rfl rfl rfl (by first | exact wrap_u64 (by omega) (by omega) | rfl)) ?_
  refine Jp.y 23 rfl (want_all rfl) rfl rfl Kp.true (Y.conv_ rfl rfl Try.underlying129 Try.underlying3 (by first | exact wrap_i64 (by omega) (by omega) | rfl)) ?_
  refine Jp.slot 23 rfl (show _ = Value.int .i64 (bs.length : Int) from congrArg (Value.int .i64) (by omega)) ?_
  refine Jp.y 24 rfl (want_all rfl) rfl rfl Kp.true (Y.move rfl rfl) ?_
  refine Jp.done hK4 ?_
  refine Cd.block ?_
  refine Cd.joinG (G := Nat → Nat) (fun _ => True) (fun _ => []) [(0, _), (9, _)] ⟨rfl, rfl, trivial⟩ (fun blk => [(5, MapO .u32 b5 (pmOf (nowP l0 a bs bs.length) blk)), (6, Blks (shBlks (nowP l0 a bs bs.length) blk))]) [(0, _), (1, _), (3, _), (4, _)] ⟨rfl, rfl, rfl, rfl, trivial⟩ hK3 (fun g hφ => ?_) (fun hj1 => ?_)
  · obtain ⟨blk, hblk⟩ : ∃ blk, blk = g := ⟨_, rfl⟩
    rw [← hblk]
    clear hφ hblk
    have hno := nowP_ok hok0 (bs := bs) hab
    have hnl := nowP_length (l := l0) (a := a) (bs := bs) (i := bs.length)
    have hfin := lay_putAll hok0 hab
    obtain ⟨N, hN⟩ : ∃ N, nowP l0 a bs bs.length = N := ⟨_, rfl⟩
    rw [hN] at hno hnl hfin ⊢
    have hmore := shMore_spec b S x hf b5 (pmOf N blk) N blk (List.Perm.refl _) hno.nodup (fun y hy => ⟨(hno.al y hy).2, hno.len y hy⟩) (by omega)
    have hlen := putAll_len hok0 hno.nodup hno.al hno.len hno.cnt
    have hml := moreP_le l0 N
    have hgf : ∀ j, getPg (layP l0 a bs) j = finOf N l0 j := fun j => by rw [← hfin]; exact getPg_putAll hok0 hno.nodup hno.al hno.len j
    rw [hfin] at hlen
    rw [hl0] at hmore
    have hpl : x.pm.length = l0.length := (hf.pages.length_eq).trans (by rw [pmOf, List.length_map, hl0])
    have hl0l : l0.length ≤ S.budget := by rw [← hl0]; exact hroom
    refine Cd.seq fun K5 hK5 => ?_
    refine Cd.seq fun K6 hK6 => ?_
    refine Cd.drawn [(0, _), (3, _)] ⟨rfl, rfl, trivial⟩ [(0, true), (1, true), (2, true), (3, true), (4, true), (5, true), (6, true), (9, true), (10, true), (11, true), (12, true), (7, false), (8, true), (13, true)] follows (by kernel_rfl) (fun hrl => ?_)
    refine Jp.q 66 rfl (want_all rfl) rfl rfl (Y.move rfl rfl) ?_
    refine Jp.q 67 rfl (want_all rfl) rfl rfl (Y.nilCheck rfl rfl) ?_
    refine Jp.q 68 rfl (want_all rfl) rfl rfl (by first | exact Y.fieldAddrP rfl rfl Try.underlying118 rfl Try.sizeOf116 (by decide) (show _ + 1 = _ from rfl) | exact Y.fieldAddr rfl rfl Try.underlying118 rfl Try.sizeOf116 (by decide)) ?_
    refine Jp.q 69 rfl (want_all rfl) rfl rfl (Y.loadO 0 rfl Try.isAgg116 rfl rfl rfl) ?_
    refine Jp.q 70 rfl (want_all rfl) rfl rfl (by first | exact Y.lenmap 3 rfl Try.underlying116 rfl rfl) ?_
    refine Jp.q 71 rfl (want_all rfl) rfl rfl (Y.move rfl rfl) ?_
    refine Jp.q 72 rfl (want_all rfl) rfl rfl (Y.move rfl rfl) ?_
    refine Jp.q 75 rfl (want_all rfl) rfl rfl (Y.move rfl rfl) ?_
    refine Jp.q 76 rfl (want_all rfl) rfl rfl (Y.nilCheck rfl rfl) ?_
    refine Jp.q 77 rfl (want_all rfl) rfl rfl (by first | exact Y.fieldAddrP rfl rfl Try.underlying118 rfl Try.sizeOf3 (by decide) (show _ + 0 = _ from rfl) | exact Y.fieldAddr rfl rfl Try.underlying118 rfl Try.sizeOf3 (by decide)) ?_
    refine Jp.q 78 rfl (want_all rfl) rfl rfl (Y.loadO 0 rfl Try.isAgg3 rfl rfl rfl) ?_
    refine Jp.call [0, 3, 5, 6] [0, 3, 5, 6] hmore 73 rfl (want_all rfl) rfl rfl (Runs.fn rfl Try.call113 rfl) (by decide) (by decide) rfl trivial ?_
    rintro v3 ρ3 L3 ⟨rfl, rfl, rfl⟩
    refine ⟨rfl, fun hle3 => ⟨(Kp.st ⟨rfl, rfl, trivial⟩), ?_⟩⟩
    refine Jp.q 74 rfl (want_all rfl) rfl rfl (Y.add_ rfl rfl rfl (by first | exact wrap_i64 (by omega) (by omega) | rfl)) ?_
    refine Jp.slot 74 rfl (show _ = Value.int .i64 ((layP l0 a bs).length : Int) from congrArg (Value.int .i64) (by rw [hlen, hpl])) ?_
    refine Jp.q 79 rfl (want_all rfl) rfl rfl (Y.gtr rfl rfl rfl) ?_
    refine Jp.done hK6 ?_
    refine Cd.cond rfl (fun gb => ?_) (fun gb => ?_)
    · have hb : S.budget < (layP l0 a bs).length := by simpa using gb
      have e : layM S a bs = (6, S) := by rw [layM, hl0, if_pos hb]
      refine Cd.seq fun K8 hK8 => ?_
      refine Cd.plain [(0, false)] rfl rfl ?_
      refine Jp.y 8 rfl (want_all rfl) rfl rfl Kp.true (Y.assign rfl rfl) ?_
      refine Jp.done hK8 ?_
      refine Cd.shClose (b := b) (S := S) (x := x) 0 3 4 (by decide) hf rfl rfl rfl ?_
      refine Cd.ret [(0, _), (1, _)] rfl (res1 rfl rfl) ⟨rfl, rfl, trivial⟩ ⟨rfl, by rw [e], by rw [e]⟩
    · have hb : (layP l0 a bs).length ≤ S.budget := by simpa using gb
      have e : layM S a bs = (0, ⟨S.budget, layP l0 a bs⟩) := by rw [layM, hl0, if_neg (by omega)]
      have hokf : ShOk (layP l0 a bs) := lay_ok hok0 hab
      obtain ⟨fin, hfe⟩ : ∃ fin, layP l0 a bs = fin := ⟨_, rfl⟩
      rw [hfe] at hb e hokf hgf
      refine Cd.joinBB 4 6 (by decide) rfl rfl ?_
      refine Cd.know (φ := ((shBlks l0 x.blk ++ shBlks N blk).map (·.1)).Nodup) (A := Blks (shBlks S.pages x.blk ++ shBlks N blk)) 4 rfl (fun _ h => by rw [← hl0]; exact h.1) fun hTn => ?_
      refine Cd.skip hK5 ?_
      refine Cd.seq fun K9 hK9 => ?_
      refine Cd.seq fun K10 hK10 => ?_
      refine Cd.plain [(0, false), (1, false)] rfl rfl ?_
      refine Jp.y 80 rfl (want_all rfl) rfl rfl Kp.true (Y.move rfl rfl) ?_
      first | refine Jp.range 81 5 50 (by decide) rfl (want_all rfl) rfl rfl rfl rfl Try.underlying116 rfl fun r5 => ⟨Kp.true, ?_⟩
      refine Jp.done hK10 ?_
      refine Cd.block ?_
      refine Cd.loopK (G := MapL × List (Nat × Pg) × MapL × Option (Int × Value)) (fun g => LInv N l0 fin blk x.blk g.1 g.2.1 g.2.2.1) (fun g => g.1.length) (fun _ => _) (fun g => []) [(0, _), (81, _)] (fun g => [(3, MapO .u32 x.pb g.2.2.1), (5, RangeO .u32 b5 r5 (pmOf N blk) g.1 g.2.2.2)]) [(0, _), (1, _), (4, _)] ⟨pmOf N blk, l0, x.pm, none⟩ (LInv.start hok0 hno (hl0 ▸ hf.pages) hgf) rfl trivial ⟨rfl, rfl, trivial⟩ ⟨rfl, rfl, trivial⟩ ⟨rfl, rfl, rfl, trivial⟩ (fun g KLc hok hLc => ?_)
      obtain ⟨left, l, pm, cur⟩ := g
      dsimp only at hok ⊢
      refine Cd.seq fun K11 hK11 => ?_
      refine Cd.plain [(0, false), (1, false)] rfl rfl ?_
      refine Jp.next 82 5 rfl (want_all rfl) rfl rfl (fun _ => rfl) rfl rfl (fun hn => ⟨Kp.true, ?_⟩) (fun q y hq => ⟨Kp.true, ?_⟩)
      · skip
        refine Jp.y 83 rfl (want_all rfl) rfl rfl Kp.true (Y.extract rfl rfl rfl) ?_
        refine Jp.done hK11 ?_
        refine Cd.seq fun K12 hK12 => ?_
        refine Cd.condF rfl ?_
        refine Cd.exit rfl hK9 ?_
        refine Cd.seq fun K13 hK13 => ?_
        refine Cd.plain [(0, false)] rfl rfl ?_
        refine Jp.y 8 rfl (want_all rfl) rfl rfl Kp.true (Y.assign rfl rfl) ?_
        refine Jp.done hK13 ?_
        subst hn
        have hl : l = fin := rising_ext hok.ok.rising hokf.rising fun k => hok.fin k (by simp)
        have hfb := fin_blks (blk := blk) (xblk := x.blk) hokf hno hgf hTn
        refine Cd.imp (i := 4) rfl (Blks.subset hfb.1 (fun y hy => by rw [hl0]; exact hfb.2 y hy)) ?_
        refine Cd.shClose (b := b) (S := ⟨S.budget, fin⟩) (x := ⟨x.pb, pm, bkOf N blk x.blk []⟩) 0 3 4 (by decide) ⟨hokf, hb, hbud, hl ▸ hok.perm⟩ rfl rfl rfl ?_
        refine Cd.ret [(0, _), (1, _)] rfl (res1 rfl rfl) ⟨rfl, rfl, trivial⟩ ⟨rfl, by rw [e], by rw [e]⟩
      · have hy := hok.sub y (List.mem_of_getElem? hq)
        obtain ⟨p, hp, hpy⟩ := List.mem_map.1 hy
        subst hpy
        have hql := (List.getElem?_eq_some_iff.1 hq).1
        have hel : (left.eraseIdx q).length < left.length := by rw [List.length_eraseIdx, if_pos hql]; omega
        have hst := hok.step hq hp hno hgf
        have hpl2 := hno.len p hp
        have hpc := hno.cnt p hp
        have hplt := (hno.al p hp).2
        have hmem : (blk p.1, shPgO p.2) ∈ shBlks S.pages x.blk ++ shBlks N blk := List.mem_append_right _ (List.mem_map.2 ⟨p, hp, rfl⟩)
        have hcell := Blks.cell hmem (pageCells_perm p.2 hpl2)
        refine Jp.y 83 rfl (want_all rfl) rfl rfl Kp.true (Y.extract rfl rfl rfl) ?_
        refine Jp.done hK11 ?_
        refine Cd.seq fun K14 hK14 => ?_
        refine Cd.condT rfl ?_
        refine Cd.skip hK14 ?_
        refine Cd.block ?_
        refine Cd.seq fun K15 hK15 => ?_
        refine Cd.plain [(0, false), (1, false), (2, false), (3, false), (4, false)] rfl rfl ?_
        refine Jp.y 84 rfl (want_all rfl) rfl rfl Kp.true (by first | exact Y.entry 5 rfl rfl rfl) ?_
        refine Jp.y 85 rfl (want_all rfl) rfl rfl Kp.true (Y.extract rfl rfl rfl) ?_
        refine Jp.y 86 rfl (want_all rfl) rfl rfl Kp.true (Y.extract rfl rfl rfl) ?_
        refine Jp.y 14 rfl (want_all rfl) rfl rfl Kp.true (Y.assign rfl rfl) ?_
        refine Jp.y 15 rfl (want_all rfl) rfl rfl Kp.true (Y.assign rfl rfl) ?_
        refine Jp.done hK15 ?_
        refine Cd.seq fun K16 hK16 => ?_
        refine Cd.plain [(0, false), (1, false), (2, false), (3, false), (4, false)] rfl rfl ?_
        refine Jp.y 87 rfl (want_all rfl) rfl rfl Kp.true (Y.move rfl rfl) ?_
        refine Jp.y 88 rfl (want_all rfl) rfl rfl Kp.true (Y.nilCheck rfl rfl) ?_
        refine Jp.y 89 rfl (want_all rfl) rfl rfl Kp.true (by first | exact Y.fieldAddrP rfl rfl Try.underlying127 rfl Try.sizeOf3 (by decide) (show _ + 256 = _ from rfl) | exact Y.fieldAddr rfl rfl Try.underlying127 rfl Try.sizeOf3 (by decide)) ?_
        refine Jp.y 90 rfl (want_all rfl) rfl rfl Kp.true (by first | exact Y.loadO 0 rfl Try.isAgg3 rfl rfl rfl | exact Y.loadC 4 rfl Try.isAgg3 rfl rfl hcell) ?_
        refine Jp.y 91 rfl (want_all rfl) rfl rfl Kp.true (Y.gtr rfl rfl rfl) ?_
        refine Jp.done hK16 ?_
        refine Cd.cond rfl (fun gp => ?_) (fun gp => ?_)
        · have hz : cntB p.2.b ≠ 0 := by simp at gp; omega
          rw [if_neg hz] at hst
          refine Cd.plain [(0, false), (1, false), (2, false), (3, false), (4, false), (5, false), (6, false)] rfl rfl ?_
          refine Jp.y 92 rfl (want_all rfl) rfl rfl Kp.true (Y.move rfl rfl) ?_
          refine Jp.y 93 rfl (want_all rfl) rfl rfl Kp.true (Y.nilCheck rfl rfl) ?_
          refine Jp.y 94 rfl (want_all rfl) rfl rfl Kp.true (by first | exact Y.fieldAddrP rfl rfl Try.underlying118 rfl Try.sizeOf116 (by decide) (show _ + 1 = _ from rfl) | exact Y.fieldAddr rfl rfl Try.underlying118 rfl Try.sizeOf116 (by decide)) ?_
          refine Jp.y 95 rfl (want_all rfl) rfl rfl Kp.true (Y.loadO 0 rfl Try.isAgg116 rfl rfl rfl) ?_
          refine Jp.y 96 rfl (want_all rfl) rfl rfl Kp.true (Y.move rfl rfl) ?_
          refine Jp.y 97 rfl (want_all rfl) rfl rfl Kp.true (Y.move rfl rfl) ?_
          first | refine Jp.mapUpdate 3 rfl (want_all rfl) rfl rfl rfl rfl rfl Try.underlying116 Try.underlying25 rfl Kp.true ?_
          refine JpQ.again rfl hLc ⟨left.eraseIdx q, putPg l p.1 p.2.b, _, _⟩ hst hel rfl ⟨rfl, rfl, trivial⟩ ⟨rfl, rfl, rfl, rfl, rfl, trivial⟩
        · have hz : cntB p.2.b = 0 := by simp at gp; omega
          rw [if_pos hz] at hst
          refine Cd.plain [(0, false), (1, false), (2, false), (3, false), (4, false), (5, false)] rfl rfl ?_
          refine Jp.y 98 rfl (want_all rfl) rfl rfl Kp.true (Y.move rfl rfl) ?_
          refine Jp.y 99 rfl (want_all rfl) rfl rfl Kp.true (Y.nilCheck rfl rfl) ?_
          refine Jp.y 100 rfl (want_all rfl) rfl rfl Kp.true (by first | exact Y.fieldAddrP rfl rfl Try.underlying118 rfl Try.sizeOf116 (by decide) (show _ + 1 = _ from rfl) | exact Y.fieldAddr rfl rfl Try.underlying118 rfl Try.sizeOf116 (by decide)) ?_
          refine Jp.y 101 rfl (want_all rfl) rfl rfl Kp.true (Y.loadO 0 rfl Try.isAgg116 rfl rfl rfl) ?_
          refine Jp.y 102 rfl (want_all rfl) rfl rfl Kp.true (Y.move rfl rfl) ?_
          first | refine Jp.delete0 3 rfl (want_all rfl) rfl rfl rfl rfl Try.underlying116 Try.underlying25 rfl Kp.true ?_
          refine JpQ.again rfl hLc ⟨left.eraseIdx q, putPg l p.1 p.2.b, _, _⟩ hst hel rfl ⟨rfl, rfl, trivial⟩ ⟨rfl, rfl, rfl, rfl, rfl, trivial⟩
  · skip
    refine Cd.loopK (G := Nat × (Nat → Nat)) (fun g => g.1 ≤ bs.length) (fun g => bs.length - g.1) (fun _ => _) (fun g => [(24, .int .i64 (g.1 : Int))]) [(0, _), (1, _), (3, _), (9, _), (23, _)] (fun g => [(5, MapO .u32 b5 (pmOf (nowP l0 a bs g.1) g.2)), (6, Blks (shBlks (nowP l0 a bs g.1) g.2))]) [(0, _), (1, _), (3, _), (4, _)] ⟨0, fun _ => 0⟩ (Nat.zero_le _) rfl ⟨rfl, trivial⟩ ⟨rfl, rfl, rfl, rfl, rfl, trivial⟩ ⟨rfl, rfl, trivial⟩ ⟨rfl, rfl, rfl, rfl, trivial⟩ (fun g KLa hok hLa => ?_)
    obtain ⟨i, blk⟩ := g
    dsimp only at hok ⊢
    refine Cd.seq fun K17 hK17 => ?_
    refine Cd.plain [(0, false)] rfl rfl ?_
    refine Jp.y 25 rfl (want_all rfl) rfl rfl Kp.true (Y.lss rfl rfl rfl) ?_
    refine Jp.done hK17 ?_
    refine Cd.seq fun K18 hK18 => ?_
    refine Cd.condF' rfl (fun g25 => ?_) (fun g25 => ?_)
    · skip
      try simp only [decide_eq_false_iff_not, decide_eq_true_eq, Int.not_lt, Int.not_le, Bool.not_eq_false, Bool.not_eq_true, Bool.not_true, Bool.not_false, Bool.not_eq_true', Bool.not_eq_false', beq_eq_false_iff_ne, ne_eq, beq_iff_eq, bne_iff_ne, bne_eq_false_iff_eq, Classical.not_not] at g25
      have e : i = bs.length := by omega
      rw [e]
      refine Cd.exit rfl hK3 ?_
      exact Cd.meet (hj1 blk trivial) ⟨rfl, rfl, trivial⟩ ⟨rfl, rfl, rfl, rfl, rfl, rfl, trivial⟩
    try simp only [decide_eq_false_iff_not, decide_eq_true_eq, Int.not_lt, Int.not_le, Bool.not_eq_false, Bool.not_eq_true, Bool.not_true, Bool.not_false, Bool.not_eq_true', Bool.not_eq_false', beq_eq_false_iff_ne, ne_eq, beq_iff_eq, bne_iff_ne, bne_eq_false_iff_eq, Classical.not_not] at g25
    refine Cd.skip hK18 ?_
    refine Cd.seq fun K19 hK19 => ?_
    refine Cd.block ?_
    refine Cd.seq fun K20 hK20 => ?_
    refine Cd.plain [(0, false), (1, false)] rfl rfl ?_
    have hi : i < bs.length := by omega
    have hv : bs[i]? = some bs[i] := List.getElem?_eq_getElem hi
    obtain ⟨v, hve⟩ : ∃ v, v = bs[i] := ⟨_, rfl⟩
    rw [← hve] at hv
    have hnow : NowOk (nowP l0 a bs i) := nowP_ok hok0 (by omega)
    have hstep : nowP l0 a bs (i + 1) = now1 l0 (nowP l0 a bs i) (a + i) v := by
      rw [nowP, List.getD_eq_getElem?_getD, hv]; rfl
    obtain ⟨now, hno⟩ : ∃ now, nowP l0 a bs i = now := ⟨_, rfl⟩
    rw [hno] at hnow hstep ⊢
    obtain ⟨k, hk⟩ : ∃ k, baseN (a + i) = k := ⟨_, rfl⟩
    have hkb := base_mod (a + i)
    have hkl := base_le (a + i)
    rw [hk] at hkb hkl
    have hB := shBase_spec (a + i) (by omega)
    rw [hk] at hB
    obtain ⟨nb, hnb⟩ : ∃ x, nowB l0 now k = x := ⟨_, rfl⟩
    have hnbl : nb.length = 256 := by rw [← hnb]; exact nowB_len hok0 hnow k
    have hgetn := pm_get (blk := blk) hnow.nodup (List.Perm.refl _) k
    have hget0 := hf.get k
    rw [hl0] at hget0
    refine Jp.y 26 rfl (want_all rfl) rfl rfl Kp.true (Y.move rfl rfl) ?_
    refine Jp.y 10 rfl (want_all rfl) rfl rfl Kp.true (Y.assign rfl rfl) ?_
    refine Jp.done hK20 ?_
    refine Cd.seq fun K21 hK21 => ?_
    refine Cd.plain [(0, false), (1, false), (2, false), (3, false), (4, false)] rfl rfl ?_
    refine Jp.y 27 rfl (want_all rfl) rfl rfl Kp.true (Y.move rfl rfl) ?_
    refine Jp.y 28 rfl (want_all rfl) rfl rfl Kp.true (Y.move rfl rfl) ?_
    refine Jp.y 29 rfl (want_all rfl) rfl rfl Kp.true (Y.conv_ rfl rfl Try.underlying3 Try.underlying25 (by first | exact wrap_u32 (by omega) (by omega) | rfl)) ?_
    refine Jp.y 30 rfl (want_all rfl) rfl rfl Kp.true (Y.add_ rfl rfl rfl (by first | exact wrap_u32 (by omega) (by omega) | rfl)) ?_
    refine Jp.y 11 rfl (want_all rfl) rfl rfl Kp.true (Y.assign rfl rfl) ?_
    refine Jp.done hK21 ?_
    refine Cd.seq fun K22 hK22 => ?_
    refine Cd.plain [(0, false), (1, false), (2, false), (3, false), (4, false)] rfl rfl ?_
    refine Jp.slot 11 rfl (show _ = Value.int .u32 ((a + i : Nat) : Int) from congrArg (Value.int .u32) (by omega)) ?_
    refine Jp.y 31 rfl (want_all rfl) rfl rfl Kp.true (Y.move rfl rfl) ?_
    refine Jp.y 32 rfl (want_all rfl) rfl rfl Kp.true (Y.move rfl rfl) ?_
    refine Jp.call [] [] hB 33 rfl (want_all rfl) rfl rfl (Runs.fn rfl Try.call77 rfl) (by decide) (by decide) rfl trivial ?_
    rintro v101 ρ101 L101 ⟨rfl, rfl, rfl⟩
    refine ⟨rfl, fun hle101 => ⟨Kp.true, ?_⟩⟩
    refine Jp.y 34 rfl (want_all rfl) rfl rfl Kp.true (by first | exact Y.lookup 5 rfl rfl rfl Try.underlying116 Try.underlying25 Try.zeroValue123 rfl) ?_
    refine Jp.y 12 rfl (want_all rfl) rfl rfl Kp.true (Y.assign rfl rfl) ?_
    refine Jp.done hK22 ?_
    refine Cd.seq fun K23 hK23 => ?_
    refine Cd.seq fun K24 hK24 => ?_
    refine Cd.plain [(0, false), (1, false)] rfl rfl ?_
    refine Jp.slot 12 rfl (show _ = Value.pointer ((getPg now k).map fun _ => ⟨blk k, 0, none⟩) by rw [hgetn]; cases getPg now k <;> rfl) ?_
    refine Jp.y 35 rfl (want_all rfl) rfl rfl Kp.true (Y.move rfl rfl) ?_
    refine Jp.y 36 rfl (want_all rfl) rfl rfl Kp.true (Y.ptrNil rfl Try.underlying123 rfl rfl) ?_
    refine Jp.done hK24 ?_
    refine Cd.joinG (G := List (Nat × Pg) × (Nat → Nat)) (fun z => z.1 = nowPut now k (pgB nb)) (fun z => [(12, shPtr z.2 k)]) [(0, _), (1, _), (3, _), (9, _), (10, _), (11, _), (23, _), (24, _)] ⟨rfl, rfl, rfl, rfl, rfl, rfl, rfl, rfl, trivial⟩ (fun z => [(5, MapO .u32 b5 (pmOf z.1 z.2)), (6, Blks (shBlks z.1 z.2))]) [(0, _), (1, _), (3, _), (4, _)] ⟨rfl, rfl, rfl, rfl, trivial⟩ hK23 (fun g hφ => ?_) (fun hj2 => ?_)
    · obtain ⟨now2, blk2⟩ := g
      dsimp only at hφ ⊢
      have hg2 : getPg now2 k = some (pgB nb) := by rw [hφ, getPg_nowPut, if_pos rfl]
      refine Cd.plain [(0, false), (1, false), (2, false), (3, false), (4, false), (5, false), (6, false), (7, false)] rfl rfl ?_
      refine Jp.y 57 rfl (want_all rfl) rfl rfl Kp.true (Y.move rfl rfl) ?_
      refine Jp.y 58 rfl (want_all rfl) rfl rfl Kp.true (Y.move rfl rfl) ?_
      refine Jp.y 59 rfl (want_all rfl) rfl rfl Kp.true (by first | exact Y.remN rfl rfl rfl (by omega) (by omega) | exact Y.rem rfl rfl rfl (by first | decide | omega)) ?_
      refine Jp.slot 59 rfl (show _ = Value.int .u32 (((a + i) % 256 : Nat) : Int) from congrArg (Value.int .u32) (by omega)) ?_
      refine Jp.y 60 rfl (want_all rfl) rfl rfl Kp.true (Y.conv_ rfl rfl Try.underlying25 Try.underlying3 (by first | exact wrap_i64 (by omega) (by omega) | rfl)) ?_
      refine Jp.y 61 rfl (want_all rfl) rfl rfl Kp.true (Y.move rfl rfl) ?_
      refine Jp.y 62 rfl (want_all rfl) rfl rfl Kp.true (Y.move rfl rfl) ?_
      refine Jp.call [1] [1] (hF i v hv) 63 rfl (want_all rfl) rfl rfl (Runs.val rfl rfl hcF rfl) (by decide) (by decide) rfl hr ?_
      rintro v7 ρ7 L7 ⟨rfl, rfl, rfl⟩
      refine ⟨rfl, fun hle7 => ⟨Kp.true, ?_⟩⟩
      refine Jp.know (φ := ((shBlks now2 blk2).map (·.1)).Nodup) (A := Blks (shBlks now2 blk2)) 6 rfl (fun _ h => h.1) fun hnd2 => ?_
      refine Jp.call [6] [6] (shPut_spec (shBlks now2 blk2) (blk2 k) (pgB nb) ((a + i) % 256) v (shMem hg2) hnbl rfl (Nat.mod_lt _ (by decide))) 64 rfl (want_all rfl) rfl rfl (Runs.fn rfl Try.call82 rfl) (by decide) (by decide) rfl trivial ?_
      rintro v8 ρ8 L8 ⟨rfl, rfl, rfl⟩
      refine ⟨rfl, fun hle8 => ⟨Kp.true, ?_⟩⟩
      have he : setPg now2 k (pgB (nb.set ((a + i) % 256) v)) = nowP l0 a bs (i + 1) := by
        rw [setPg_now hφ, hstep, now1, hk, hnb]
      refine Jp.imp (j := 6) rfl (fun h hh => (show Blks (shBlks (nowP l0 a bs (i + 1)) blk2) h by rw [← he, ← updB_sh hnd2 hg2]; exact hh)) ?_
      refine Jp.imp (j := 5) rfl (fun h hh => (show MapO .u32 b5 (pmOf (nowP l0 a bs (i + 1)) blk2) h by rw [← he, pmOf_set]; exact hh)) ?_
      refine Jp.over rfl hK19 ?_
      refine Cd.plain [(0, false), (1, false)] rfl rfl ?_
      refine Jp.y 65 rfl (want_all rfl) rfl rfl Kp.true (Y.add_ rfl rfl rfl (by first | exact wrap_i64 (by omega) (by omega) | rfl)) ?_
      refine Jp.y 24 rfl (want_all rfl) rfl rfl Kp.true (Y.move rfl rfl) ?_
      rw [show (i : Int) + 1 = ((i + 1 : Nat) : Int) by omega]
      refine Jp.again hLa ⟨i + 1, blk2⟩ hi (by show bs.length - (i + 1) < bs.length - i; omega) rfl ⟨rfl, rfl, rfl, rfl, rfl, rfl, trivial⟩ ⟨rfl, rfl, rfl, rfl, rfl, rfl, trivial⟩
    · skip
      refine Cd.cond rfl (fun gn => ?_) (fun gn => ?_)
      · have hgn : getPg now k = none := by cases h : getPg now k with
          | none => rfl
          | some p => rw [h] at gn; cases gn
        have hnb0 : nb = bOf l0 k := by rw [← hnb, nowB, hgn]
        refine Cd.seq fun K25 hK25 => ?_
        refine Cd.plain [(0, false), (1, false), (2, false)] rfl rfl ?_
        refine Jp.y 37 rfl (want_all rfl) rfl rfl Kp.true (Y.struct [] (pageCells ⟨zeroB, 0⟩) rfl rfl places127 Try.zeroValue127 rfl) ?_
        refine Jp.box 7 38 rfl (want_all rfl) rfl rfl rfl rfl fun b7 => ⟨Kp.true, ?_⟩
        refine Jp.y 12 rfl (want_all rfl) rfl rfl Kp.true (Y.assign rfl rfl) ?_
        refine Jp.done hK25 ?_
        refine Cd.seq fun K26 hK26 => ?_
        refine Cd.seq fun K27 hK27 => ?_
        refine Cd.drawn [(0, _), (3, _)] ⟨rfl, rfl, trivial⟩ [(0, true), (1, true), (2, true), (3, true), (4, true), (5, false), (6, true), (7, true)] follows (by kernel_rfl) (fun hrl => ?_)
        refine Jp.imp (j := 7) rfl (fun h hh => (show Pt b7 (shPgO ⟨zeroB, 0⟩) h from hh)) ?_
        refine Jp.q 39 rfl (want_all rfl) rfl rfl (Y.move rfl rfl) ?_
        refine Jp.q 40 rfl (want_all rfl) rfl rfl (Y.nilCheck rfl rfl) ?_
        refine Jp.q 41 rfl (want_all rfl) rfl rfl (by first | exact Y.fieldAddrP rfl rfl Try.underlying118 rfl Try.sizeOf116 (by decide) (show _ + 1 = _ from rfl) | exact Y.fieldAddr rfl rfl Try.underlying118 rfl Try.sizeOf116 (by decide)) ?_
        refine Jp.q 42 rfl (want_all rfl) rfl rfl (by first | exact Y.loadO 0 rfl Try.isAgg116 rfl rfl rfl | exact Y.loadO 7 rfl Try.isAgg116 rfl rfl rfl) ?_
        refine Jp.q 43 rfl (want_all rfl) rfl rfl (Y.move rfl rfl) ?_
        refine Jp.call [] [] hB 44 rfl (want_all rfl) rfl rfl (Runs.fn rfl Try.call77 rfl) (by decide) (by decide) rfl trivial ?_
        rintro v102 ρ102 L102 ⟨rfl, rfl, rfl⟩
        refine ⟨rfl, fun hle102 => ⟨(Kp.st ⟨rfl, rfl, trivial⟩), ?_⟩⟩
        refine Jp.q 45 rfl (want_all rfl) rfl rfl (by first | exact Y.lookup 3 rfl rfl rfl Try.underlying116 Try.underlying25 Try.zeroValue123 rfl) ?_
        refine Jp.q 13 rfl (want_all rfl) rfl rfl (Y.assign rfl rfl) ?_
        refine Jp.done hK27 ?_
        refine Cd.seq fun K29 hK29 => ?_
        refine Cd.plain [(0, false), (1, false)] rfl rfl ?_
        refine Jp.slot 13 rfl (show _ = Value.pointer ((getPg l0 k).map fun _ => ⟨x.blk k, 0, none⟩) by rw [hget0]; cases getPg l0 k <;> rfl) ?_
        refine Jp.y 46 rfl (want_all rfl) rfl rfl Kp.true (Y.move rfl rfl) ?_
        refine Jp.y 47 rfl (want_all rfl) rfl rfl Kp.true (Y.ptrNotNil rfl Try.underlying123 rfl rfl) ?_
        refine Jp.done hK29 ?_
        refine Cd.joinG (G := Unit) (fun _ => True) (fun _ => []) [(0, _), (1, _), (3, _), (9, _), (10, _), (11, _), (12, _), (23, _), (24, _)] ⟨rfl, rfl, rfl, rfl, rfl, rfl, rfl, rfl, rfl, trivial⟩ (fun _ => [(7, Pt b7 (shPgO (pgB nb)))]) [(0, _), (1, _), (3, _), (4, _), (5, _), (6, _)] ⟨rfl, rfl, rfl, rfl, rfl, rfl, trivial⟩ hK26 (fun g hφ => ?_) (fun hj3 => ?_)
        · clear hφ
          refine Cd.plain [(0, false), (1, false), (2, false), (3, false), (4, false)] rfl rfl ?_
          refine Jp.y 53 rfl (want_all rfl) rfl rfl Kp.true (Y.move rfl rfl) ?_
          refine Jp.y 54 rfl (want_all rfl) rfl rfl Kp.true (Y.move rfl rfl) ?_
          refine Jp.call [] [] hB 55 rfl (want_all rfl) rfl rfl (Runs.fn rfl Try.call77 rfl) (by decide) (by decide) rfl trivial ?_
          rintro v103 ρ103 L103 ⟨rfl, rfl, rfl⟩
          refine ⟨rfl, fun hle103 => ⟨Kp.true, ?_⟩⟩
          refine Jp.y 56 rfl (want_all rfl) rfl rfl Kp.true (Y.move rfl rfl) ?_
          first | refine Jp.mapUpdate 5 rfl (want_all rfl) rfl rfl rfl rfl rfl Try.underlying116 Try.underlying25 rfl Kp.true ?_
          refine Jp.done hK23 ?_
          refine Cd.joinB (ob := shPgO (pgB nb)) 6 7 (by decide) rfl rfl ?_
          refine Cd.imp (i := 6) rfl (Blks.perm (shBlks_put hgn)) ?_
          rw [pmOf_put (p := pgB nb) hgn]
          refine Cd.slot 12 rfl (show _ = shPtr (fun j => if j = k then b7 else blk j) k by simp [shPtr]) ?_
          exact Cd.meet (hj2 ⟨now ++ [(k, pgB nb)], fun j => if j = k then b7 else blk j⟩ (by show _ = nowPut now k (pgB nb); rw [nowPut, hgn])) ⟨rfl, rfl, rfl, rfl, rfl, rfl, rfl, rfl, rfl, trivial⟩ ⟨rfl, rfl, rfl, rfl, rfl, rfl, trivial⟩
        · skip
          refine Cd.cond rfl (fun g0 => ?_) (fun g0 => ?_)
          · obtain ⟨p0, hg0⟩ : ∃ p, getPg l0 k = some p := by cases h : getPg l0 k with
              | none => rw [h] at g0; simp at g0
              | some p => exact ⟨p, rfl⟩
            have hp0 : pgB nb = p0 := by rw [hnb0]; exact pgB_bOf hok0 hg0
            have hlen0 := (hok0.get hg0).len
            rw [hg0]
            refine Cd.plain [(0, false), (1, false), (2, false), (3, false), (4, false), (5, false)] rfl rfl ?_
            refine Jp.y 48 rfl (want_all rfl) rfl rfl Kp.true (Y.move rfl rfl) ?_
            refine Jp.y 49 rfl (want_all rfl) rfl rfl Kp.true (Y.move rfl rfl) ?_
            refine Jp.y 50 rfl (want_all rfl) rfl rfl Kp.true (Y.nilCheck rfl rfl) ?_
            refine Jp.y 51 rfl (want_all rfl) rfl rfl Kp.true (Y.loadAggC 4 (pageCells p0) rfl Try.isAgg127 Try.sizeOf127 rfl rfl (shCells_len hlen0) (Blks.cells (shMem (by rw [hl0]; exact hg0)))) ?_
            refine Jp.y 52 rfl (want_all rfl) rfl rfl Kp.true (Y.nilCheck rfl rfl) ?_
            refine Jp.storeAgg 7 rfl (want_all rfl) rfl rfl Try.sizeOf127 rfl rfl (shCells_one p0) (shCells_len hlen0) rfl rfl (fun k _ _ => noFr0 k) Kp.true ?_
            refine Jp.imp (j := 7) (A := Pt b7 (.cells (spl (pageCells ⟨zeroB, 0⟩).toArray 0 (pageCells p0)) 127)) (A' := Pt b7 (shPgO (pgB nb))) rfl (fun h hh => by rw [shSpl_full (by rw [shCells_len hlen0]; exact (shCells_len zeroB_len).symm)] at hh; rw [hp0]; exact hh) ?_
            refine Jp.done hK26 ?_
            exact Cd.meet (hj3 () trivial) ⟨rfl, rfl, rfl, rfl, rfl, rfl, rfl, rfl, rfl, trivial⟩ ⟨rfl, rfl, rfl, rfl, rfl, rfl, rfl, trivial⟩
          · have hg0 : getPg l0 k = none := by cases h : getPg l0 k with
              | none => rfl
              | some p => rw [h] at g0; simp at g0
            refine Cd.skip hK26 ?_
            refine Cd.imp (i := 7) rfl (fun h hh => (show Pt b7 (shPgO (pgB nb)) h by rw [hnb0, pgB_none hg0]; exact hh)) ?_
            exact Cd.meet (hj3 () trivial) ⟨rfl, rfl, rfl, rfl, rfl, rfl, rfl, rfl, rfl, trivial⟩ ⟨rfl, rfl, rfl, rfl, rfl, rfl, rfl, trivial⟩
      · obtain ⟨p, hgn⟩ : ∃ p, getPg now k = some p := by cases h : getPg now k with
          | none => rw [h] at gn; cases gn
          | some p => exact ⟨p, rfl⟩
        have hpp : p = pgB nb := by
          have := hnow.cnt _ (getPg_mem hgn)
          rw [← hnb, nowB, hgn]
          obtain ⟨pb, pq⟩ := p
          unfold pgB
          dsimp only at this ⊢
          rw [this]
        rw [hgn]
        refine Cd.skip hK23 ?_
        exact Cd.meet (hj2 ⟨now, blk⟩ (by show now = nowPut now k (pgB nb); rw [nowPut, hgn, ← hpp]; exact (setPg_same hnow.nodup hgn).symm)) ⟨rfl, rfl, rfl, rfl, rfl, rfl, rfl, rfl, rfl, trivial⟩ ⟨rfl, rfl, rfl, rfl, rfl, rfl, trivial⟩
end Go.Proofs.Ytgmhijlcdadaeaa
