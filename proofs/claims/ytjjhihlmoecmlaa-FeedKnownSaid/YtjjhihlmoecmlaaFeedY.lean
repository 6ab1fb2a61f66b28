/- Contract: Put. -/
import Derived.Test.YtjjhihlmoecmlaaFeedX
import Derived.Test.YtjjhihlmoecmlaaFeedD
set_option linter.unusedVariables false
set_option linter.unusedSimpArgs false
set_option maxRecDepth 100000
namespace Go.Proofs.Ytjjhihlmoecmlaa
open Go
theorem flat_take {α : Type} {enc : α → Bytes} {l : List α} {i : Nat} (h : i < l.length) : (l.take (i + 1)).flatMap enc = (l.take i).flatMap enc ++ enc l[i] := by
  rw [List.take_add_one, List.getElem?_eq_getElem h, List.flatMap_append]; simp
theorem flat_len {α : Type} {enc : α → Bytes} {l : List α} {m : Nat} (h : ∀ x ∈ l, (enc x).length ≤ m) : ∀ i, ((l.take i).flatMap enc).length ≤ i * m := by
  intro i
  induction i with
  | zero => simp
  | succ i ih =>
    by_cases hi : i < l.length
    · rw [flat_take hi, List.length_append, Nat.succ_mul]
      have := h _ (List.getElem_mem hi); omega
    · rw [List.take_of_length_le (by omega)] at ih ⊢
      rw [Nat.succ_mul]; omega
theorem encText_length (s : Bytes) : (encText s).length = s.length + 4 := by rw [encText, List.length_append, leB_length]; omega
theorem encInt_length (n : Int) : (encInt n).length = 4 := by rw [encInt, leB_length]
def putB (f : FeedP) : Bytes := if good f then putFeedP f else []
theorem put_spec (f : FeedG) (hcl : ∀ x ∈ f.clock.xs, 0 ≤ x ∧ x < 4294967296) : Spec Try.prog 40 #[.agg f.cells.toArray] (RdFeed f) []
    (fun ρ ρ' v L => ρ' = ρ ∧ ∃ A c, v = .tuple #[.slice A (putB f.p).length c, .int .i64 (if good f.p then 0 else 1)] ∧ L = [(1, OwnS 5 1 A (putB f.p).length c (bytesV (putB f.p)))]) := by
  obtain ⟨F, hF⟩ : ∃ F, f.p = F := ⟨_, rfl⟩
  rw [hF]
  obtain ⟨⟨Aa, ca, xa⟩, ⟨Ai, ci, xi⟩, ⟨As, cs, xs⟩, ⟨Ar, cr, xr⟩, ⟨Ac, cc, xc⟩, ⟨Af, cf, xf⟩⟩ := f
  dsimp only [FeedG.cells, Sl.v]
  refine Spec.of 98 Try.func40 rfl Try.ntmps40 [(0, _)] rfl rfl ?_
  intro cx ρ hr h0
  refine Cd.seq fun K1 hK1 => ?_
  refine Cd.plain [(0, false), (1, false), (2, false)] rfl rfl ?_
  refine Jp.box 0 1 rfl (want_all rfl) rfl rfl rfl rfl fun b0 => ⟨Kp.true, ?_⟩
  refine Jp.y 2 rfl (want_all rfl) rfl rfl Kp.true (Y.assign rfl rfl) ?_
  refine Jp.y 3 rfl (want_all rfl) rfl rfl Kp.true (Y.assign rfl rfl) ?_
  refine Jp.done hK1 ?_
  refine Cd.seq fun K2 hK2 => ?_
  refine Cd.seq fun K3 hK3 => ?_
  refine Cd.plain [(0, false), (1, false), (2, false)] rfl rfl ?_
  refine Jp.y 13 rfl (want_all rfl) rfl rfl Kp.true (by first | exact Y.loadAggO 0 rfl Try.isAgg35 Try.sizeOf35 rfl rfl rfl | exact Y.loadAggO 0 rfl Try.isAgg35 Try.sizeOf35 rfl rfl rfl) ?_
  refine Jp.call [] [] (f43_spec ⟨⟨Aa, ca, xa⟩, ⟨Ai, ci, xi⟩, ⟨As, cs, xs⟩, ⟨Ar, cr, xr⟩, ⟨Ac, cc, xc⟩, ⟨Af, cf, xf⟩⟩) 14 rfl (want_all rfl) rfl rfl (Runs.fn rfl Try.call43 rfl) (by decide) (by decide) rfl hr ?_
  rintro v1 ρ1 L1 ⟨rfl, rfl, rfl⟩
  refine ⟨rfl, fun hle1 => ⟨Kp.true, ?_⟩⟩
  rw [hF]
  refine Jp.y 15 rfl (want_all rfl) rfl rfl Kp.true (Y.not rfl rfl) ?_
  refine Jp.done hK3 ?_
  refine Cd.cond rfl (fun hg => ?_) (fun hg => ?_)
  · have hg : good F = false := by simpa using hg
    refine Cd.make 1 (OwnS.nil 5 1 Hp.emp) ?_
    refine Cd.seq fun K4 hK4 => ?_
    refine Cd.plain [(0, false), (1, false)] rfl rfl ?_
    refine Jp.y 2 rfl (want_all rfl) rfl rfl Kp.true (Y.assign rfl rfl) ?_
    refine Jp.y 3 rfl (want_all rfl) rfl rfl Kp.true (Y.assign rfl rfl) ?_
    refine Jp.done hK4 ?_
    refine Cd.ret [(1, _)] rfl (res2 rfl rfl rfl) ⟨rfl, trivial⟩ ⟨rfl, none, 0, by rw [putB, hg]; rfl, by rw [putB, hg]; rfl⟩
  · have hg : good F = true := by simpa using hg
    obtain ⟨g1, g2, g3, g4, g5, g6, g7, g8⟩ := good_lens hg
    have hgs : ∀ x ∈ F.short, 0 ≤ x ∧ x ≤ 4096 := fun x hx => by
      simp only [good, Bool.and_eq_true, List.all_eq_true] at hg
      have := hg.1.1.1.1.1.1 x hx
      simpa [goodShort] using this
    have hput : putB F = putFeedP F := by rw [putB, hg]; rfl
    obtain ⟨bs, hbs⟩ : ∃ bs, putB F = bs := ⟨_, rfl⟩
    rw [hbs] at hput ⊢
    rw [if_pos hg]
    rw [← hF] at g1 g2 g3 g4 g5 g6 g7 g8 hgs hput
    replace g1 : xa.length ≤ 16 := by simpa [FeedG.p] using g1
    replace g2 : xs.length ≤ 64 := g2
    replace g3 : xc.length ≤ 64 := g3
    replace g4 : xf.length ≤ 8 := by simpa [FeedG.p] using g4
    replace g5 : xi.length ≤ 4096 := g5
    replace g6 : xr.length ≤ 4096 := g6
    have q7 : ∀ s ∈ xa, s.size ≤ 200 := fun s hs => by
      rw [str_size]; exact g7 _ (List.mem_map.2 ⟨s, hs, rfl⟩)
    have q8 : ∀ x ∈ xf, x.name.size ≤ 40 ∧ x.data.xs.length ≤ 4096 := fun x hx => by
      rw [str_size]; exact g8 _ (List.mem_map.2 ⟨x, hx, rfl⟩)
    have qs : ∀ x ∈ xs, 0 ≤ x ∧ x ≤ 4096 := hgs
    have qc : ∀ x ∈ xc, 0 ≤ x ∧ x < 4294967296 := hcl
    clear g7 g8 hgs hcl
    simp only [FeedG.p, List.length_map, List.flatMap_map, putFeedP] at hput
    refine Cd.make 1 (show OwnS 5 1 none ([] : Bytes).length 0 (bytesV []) Hp.emp from OwnS.nil 5 1 Hp.emp) ?_
    refine Cd.skip hK2 ?_
    refine Cd.seq fun K5 hK5 => ?_
    refine Cd.plain [(0, false), (1, false), (2, false), (3, false), (4, false), (5, false)] rfl rfl ?_
    refine Jp.y 16 rfl (want_all rfl) rfl rfl Kp.true (by first | exact Y.fieldAddrP rfl rfl Try.underlying35 rfl Try.sizeOf25 (by decide) (show _ + 0 = _ from rfl) | exact Y.fieldAddr rfl rfl Try.underlying35 rfl Try.sizeOf25 (by decide)) ?_
    refine Jp.y 17 rfl (want_all rfl) rfl rfl Kp.true (by first | exact Y.loadO 0 rfl Try.isAgg25 rfl rfl rfl | exact Y.loadO 0 rfl Try.isAgg25 rfl rfl rfl) ?_
    refine Jp.y 18 rfl (want_all rfl) rfl rfl Kp.true (Y.lenslice rfl Try.underlying25 rfl) ?_
    refine Jp.y 19 rfl (want_all rfl) rfl rfl Kp.true (Y.conv_ rfl rfl Try.underlying3 Try.underlying49 (by first | exact wrap_u32 (by omega) (by omega) | rfl)) ?_
    refine Jp.call [1] [1] (wnum_spec none 0 [] xa.length (by decide) (by omega)) 20 rfl (want_all rfl) rfl rfl (Runs.fn rfl Try.call66 rfl) (by decide) (by decide) rfl trivial ?_
    rintro v2 ρ2 L2 ⟨rfl, B2, d2, rfl, rfl⟩
    refine ⟨rfl, fun hle2 => ⟨Kp.true, ?_⟩⟩
    rw [List.nil_append]
    obtain ⟨p0, hp0⟩ : ∃ p0, leB xa.length 4 = p0 := ⟨_, rfl⟩
    have hl0 : p0.length = 4 := by rw [← hp0, leB_length]
    rw [hp0] at hput ⊢
    refine Jp.y 4 rfl (want_all rfl) rfl rfl Kp.true (Y.assign rfl rfl) ?_
    refine Jp.done hK5 ?_
    refine Cd.seq fun K6 hK6 => ?_
    refine Cd.seq fun K7 hK7 => ?_
    refine Cd.plain [(0, false), (1, false), (2, false), (3, false)] rfl rfl ?_
    refine Jp.y 21 rfl (want_all rfl) rfl rfl Kp.true (by first | exact Y.fieldAddrP rfl rfl Try.underlying35 rfl Try.sizeOf25 (by decide) (show _ + 0 = _ from rfl) | exact Y.fieldAddr rfl rfl Try.underlying35 rfl Try.sizeOf25 (by decide)) ?_
    refine Jp.y 22 rfl (want_all rfl) rfl rfl Kp.true (by first | exact Y.loadO 0 rfl Try.isAgg25 rfl rfl rfl | exact Y.loadO 0 rfl Try.isAgg25 rfl rfl rfl) ?_
    refine Jp.y 23 rfl (want_all rfl) rfl rfl Kp.true (Y.lenslice rfl Try.underlying25 rfl) ?_
    refine Jp.y 24 rfl (want_all rfl) rfl rfl Kp.true (Y.move rfl rfl) ?_
    refine Jp.done hK7 ?_
    refine Cd.block ?_
    rw [← show p0 ++ ((xa.take 0).flatMap fun s => encText (str s)) = p0 by simp]
    refine Cd.loopK (G := Nat × Option Addr × Nat) (fun g => g.1 ≤ xa.length) (fun g => xa.length - g.1) (fun _ => _) (fun g => [(4, .slice g.2.1 (p0 ++ (xa.take g.1).flatMap fun s => encText (str s)).length g.2.2), (24, .int .i64 (g.1 : Int))]) [(1, _), (22, _), (23, _)] (fun g => [(1, OwnS 5 1 g.2.1 (p0 ++ (xa.take g.1).flatMap fun s => encText (str s)).length g.2.2 (bytesV (p0 ++ (xa.take g.1).flatMap fun s => encText (str s))))]) [(0, _)] ⟨0, B2, d2⟩ (Nat.zero_le _) rfl ⟨rfl, rfl, trivial⟩ ⟨rfl, rfl, rfl, trivial⟩ ⟨rfl, trivial⟩ ⟨rfl, trivial⟩ (fun g KLa hok hLa => ?_)
    obtain ⟨k, B, d⟩ := g
    dsimp only at hok ⊢
    refine Cd.seq fun K8 hK8 => ?_
    refine Cd.plain [(0, false)] rfl rfl ?_
    refine Jp.y 25 rfl (want_all rfl) rfl rfl Kp.true (Y.lss rfl rfl rfl) ?_
    refine Jp.done hK8 ?_
    refine Cd.seq fun K9 hK9 => ?_
    refine Cd.cond rfl (fun ga => ?_) (fun ga => ?_)
    · simp only [decide_eq_true_eq] at ga
      have hk : k < xa.length := by omega
      obtain ⟨ad, rfl⟩ := hr.args.some (show 0 < xa.length * 1 by omega)
      have hcell : cellH ρ2 (ad.add k) = some (.string xa[k]) := hr.args.cell (by simp [strsV, hk])
      have hz := q7 xa[k] (List.getElem_mem hk)
      have hl := flat_len (enc := fun s => encText (str s)) (l := xa) (m := 204) (fun x hx => by rw [encText_length, ← str_size]; have := q7 x hx; omega) k
      have hl2 : k * 204 ≤ 16 * 204 := Nat.mul_le_mul_right _ (by omega)
      refine Cd.skip hK9 ?_
      refine Cd.seq fun K10 hK10 => ?_
      refine Cd.block ?_
      refine Cd.seq fun K11 hK11 => ?_
      refine Cd.plain [(0, false), (1, false), (2, false)] rfl rfl ?_
      refine Jp.y 26 rfl (want_all rfl) rfl rfl Kp.true (Y.indexAddr (q := k) rfl rfl rfl Try.underlying25 Try.sizeOf9 (by omega) (by omega) (by omega)) ?_
      refine Jp.y 27 rfl (want_all rfl) rfl rfl Kp.true (by first | exact Y.loadO 0 rfl Try.isAgg9 rfl rfl rfl | exact Y.loadO 0 rfl Try.isAgg9 rfl rfl rfl | exact Y.loadR rfl Try.isAgg9 rfl hcell) ?_
      refine Jp.y 6 rfl (want_all rfl) rfl rfl Kp.true (Y.assign rfl rfl) ?_
      refine Jp.done hK11 ?_
      refine Cd.plain [(0, false), (1, false), (2, false), (3, false)] rfl rfl ?_
      refine Jp.y 28 rfl (want_all rfl) rfl rfl Kp.true (Y.move rfl rfl) ?_
      refine Jp.y 29 rfl (want_all rfl) rfl rfl Kp.true (Y.move rfl rfl) ?_
      refine Jp.call [1] [1] (wtext_spec B d (p0 ++ (xa.take k).flatMap fun s => encText (str s)) xa[k] (by rw [List.length_append]; omega) (by omega)) 30 rfl (want_all rfl) rfl rfl (Runs.fn rfl Try.call67 rfl) (by decide) (by decide) rfl trivial ?_
      rintro v3 ρ3 L3 ⟨rfl, B3, d3, rfl, rfl⟩
      refine ⟨rfl, fun hle3 => ⟨Kp.true, ?_⟩⟩
      rw [List.append_assoc, ← flat_take (enc := fun s => encText (str s)) hk]
      refine Jp.y 4 rfl (want_all rfl) rfl rfl Kp.true (Y.assign rfl rfl) ?_
      refine Jp.over rfl hK10 ?_
      refine Cd.plain [(0, false), (1, false)] rfl rfl ?_
      refine Jp.y 31 rfl (want_all rfl) rfl rfl Kp.true (Y.add_ rfl rfl rfl (by first | exact wrap_i64 (by omega) (by omega) | rfl)) ?_
      refine Jp.y 24 rfl (want_all rfl) rfl rfl Kp.true (Y.move rfl rfl) ?_
      rw [show (k : Int) + 1 = ((k + 1 : Nat) : Int) by omega]
      refine Jp.again hLa ⟨k + 1, B3, d3⟩ (show k + 1 ≤ _ by omega) (show xa.length - (k + 1) < xa.length - k by omega) rfl ⟨rfl, rfl, rfl, rfl, rfl, trivial⟩ ⟨rfl, rfl, trivial⟩
    · simp only [decide_eq_false_iff_not] at ga
      obtain rfl : k = xa.length := by omega
      rw [List.take_of_length_le (Nat.le_refl _)]
      have hl := flat_len (enc := fun s => encText (str s)) (l := xa) (m := 204) (fun x hx => by rw [encText_length, ← str_size]; have := q7 x hx; omega) xa.length
      rw [List.take_of_length_le (Nat.le_refl _)] at hl
      have hl2 : xa.length * 204 ≤ 16 * 204 := Nat.mul_le_mul_right _ (by omega)
      obtain ⟨p1, hp1⟩ : ∃ p1, p0 ++ (xa.flatMap fun s => encText (str s)) = p1 := ⟨_, rfl⟩
      have hl1 : p1.length ≤ 4 + 16 * 204 := by rw [← hp1, List.length_append]; omega
      rw [hp1] at hput ⊢
      refine Cd.exit rfl hK6 ?_
      refine Cd.seq fun K12 hK12 => ?_
      refine Cd.drawn [(0, _)] ⟨rfl, trivial⟩ [(0, true), (1, true), (2, true), (3, true), (5, true), (6, true), (7, true), (8, true), (4, false), (9, false), (10, true)] follows (by kernel_rfl) (fun hrl => ?_)
      refine Jp.q 32 rfl (want_all rfl) rfl rfl (Y.move rfl rfl) ?_
      refine Jp.q 33 rfl (want_all rfl) rfl rfl (by first | exact Y.fieldAddrP rfl rfl Try.underlying35 rfl Try.sizeOf26 (by decide) (show _ + 1 = _ from rfl) | exact Y.fieldAddr rfl rfl Try.underlying35 rfl Try.sizeOf26 (by decide)) ?_
      refine Jp.q 34 rfl (want_all rfl) rfl rfl (by first | exact Y.loadO 0 rfl Try.isAgg26 rfl rfl rfl | exact Y.loadO 0 rfl Try.isAgg26 rfl rfl rfl | exact Y.loadR rfl Try.isAgg26 rfl hcell) ?_
      refine Jp.q 35 rfl (want_all rfl) rfl rfl (Y.toStr _ rfl rfl Try.underlying26 Try.underlying9 Try.underlying5 ⟨_, _, rfl⟩ (Src.rd hr.input)) ?_
      refine Jp.q 37 rfl (want_all rfl) rfl rfl (by first | exact Y.fieldAddrP rfl rfl Try.underlying35 rfl Try.sizeOf22 (by decide) (show _ + 2 = _ from rfl) | exact Y.fieldAddr rfl rfl Try.underlying35 rfl Try.sizeOf22 (by decide)) ?_
      refine Jp.q 38 rfl (want_all rfl) rfl rfl (by first | exact Y.loadO 0 rfl Try.isAgg22 rfl rfl rfl | exact Y.loadO 0 rfl Try.isAgg22 rfl rfl rfl | exact Y.loadR rfl Try.isAgg22 rfl hcell) ?_
      refine Jp.q 39 rfl (want_all rfl) rfl rfl (Y.lenslice rfl Try.underlying22 rfl) ?_
      refine Jp.q 40 rfl (want_all rfl) rfl rfl (Y.conv_ rfl rfl Try.underlying3 Try.underlying49 (by first | exact wrap_u32 (by omega) (by omega) | rfl)) ?_
      have hms : (mkS xi).size = xi.length := mkS_size _
      refine Jp.call [1] [1] (wtext_spec B d p1 (mkS xi) (by omega) (by rw [hms]; omega)) 36 rfl (want_all rfl) rfl rfl (Runs.fn rfl Try.call67 rfl) (by decide) (by decide) rfl trivial ?_
      rintro v4 ρ4 L4 ⟨rfl, B4, d4, rfl, rfl⟩
      refine ⟨rfl, fun hle4 => ⟨(Kp.st ⟨rfl, trivial⟩), ?_⟩⟩
      rw [str_mkS]
      obtain ⟨p2, hp2⟩ : ∃ p2, p1 ++ encText xi = p2 := ⟨_, rfl⟩
      have hl2 : p2.length ≤ 7500 := by rw [← hp2, List.length_append, encText_length]; omega
      rw [hp2] at hput ⊢
      refine Jp.call [1] [1] (wnum_spec B4 d4 p2 xs.length (by omega) (by omega)) 41 rfl (want_all rfl) rfl rfl (Runs.fn rfl Try.call66 rfl) (by decide) (by decide) rfl trivial ?_
      rintro v5 ρ5 L5 ⟨rfl, B5, d5, rfl, rfl⟩
      refine ⟨rfl, fun hle5 => ⟨(Kp.st ⟨rfl, trivial⟩), ?_⟩⟩
      obtain ⟨p3, hp3⟩ : ∃ p3, p2 ++ leB xs.length 4 = p3 := ⟨_, rfl⟩
      have hl3 : p3.length ≤ 7600 := by rw [← hp3, List.length_append, leB_length]; omega
      rw [hp3] at hput ⊢
      refine Jp.q 4 rfl (want_all rfl) rfl rfl (Y.assign rfl rfl) ?_
      refine Jp.done hK12 ?_
      refine Cd.seq fun K14 hK14 => ?_
      refine Cd.seq fun K15 hK15 => ?_
      refine Cd.plain [(0, false), (1, false), (2, false), (3, false)] rfl rfl ?_
      refine Jp.y 42 rfl (want_all rfl) rfl rfl Kp.true (by first | exact Y.fieldAddrP rfl rfl Try.underlying35 rfl Try.sizeOf22 (by decide) (show _ + 2 = _ from rfl) | exact Y.fieldAddr rfl rfl Try.underlying35 rfl Try.sizeOf22 (by decide)) ?_
      refine Jp.y 43 rfl (want_all rfl) rfl rfl Kp.true (by first | exact Y.loadO 0 rfl Try.isAgg22 rfl rfl rfl | exact Y.loadO 0 rfl Try.isAgg22 rfl rfl rfl | exact Y.loadR rfl Try.isAgg22 rfl hcell) ?_
      refine Jp.y 44 rfl (want_all rfl) rfl rfl Kp.true (Y.lenslice rfl Try.underlying22 rfl) ?_
      refine Jp.y 45 rfl (want_all rfl) rfl rfl Kp.true (Y.move rfl rfl) ?_
      refine Jp.done hK15 ?_
      refine Cd.block ?_
      rw [← show p3 ++ ((xs.take 0).flatMap encInt) = p3 by simp]
      refine Cd.loopK (G := Nat × Option Addr × Nat) (fun g => g.1 ≤ xs.length) (fun g => xs.length - g.1) (fun _ => _) (fun g => [(4, .slice g.2.1 (p3 ++ (xs.take g.1).flatMap encInt).length g.2.2), (45, .int .i64 (g.1 : Int))]) [(1, _), (43, _), (44, _)] (fun g => [(1, OwnS 5 1 g.2.1 (p3 ++ (xs.take g.1).flatMap encInt).length g.2.2 (bytesV (p3 ++ (xs.take g.1).flatMap encInt)))]) [(0, _)] ⟨0, B5, d5⟩ (Nat.zero_le _) rfl ⟨rfl, rfl, trivial⟩ ⟨rfl, rfl, rfl, trivial⟩ ⟨rfl, trivial⟩ ⟨rfl, trivial⟩ (fun g KLb hok hLb => ?_)
      obtain ⟨k, B, d⟩ := g
      dsimp only at hok ⊢
      refine Cd.seq fun K16 hK16 => ?_
      refine Cd.plain [(0, false)] rfl rfl ?_
      refine Jp.y 46 rfl (want_all rfl) rfl rfl Kp.true (Y.lss rfl rfl rfl) ?_
      refine Jp.done hK16 ?_
      refine Cd.seq fun K17 hK17 => ?_
      refine Cd.cond rfl (fun gb => ?_) (fun gb => ?_)
      · simp only [decide_eq_true_eq] at gb
        have hk : k < xs.length := by omega
        obtain ⟨ad, rfl⟩ := hr.short.some (show 0 < xs.length * 1 by omega)
        have hcell : cellH ρ5 (ad.add k) = some (.int .i64 xs[k]) := hr.short.cell (by simp [intsV, hk])
        obtain ⟨hz1, hz2⟩ := qs xs[k] (List.getElem_mem hk)
        have hl := flat_len (enc := encInt) (l := xs) (m := 4) (fun x hx => Nat.le_of_eq (encInt_length x)) k
        have hl4 : k * 4 ≤ 64 * 4 := Nat.mul_le_mul_right _ (by omega)
        refine Cd.skip hK17 ?_
        refine Cd.seq fun K18 hK18 => ?_
        refine Cd.block ?_
        refine Cd.seq fun K19 hK19 => ?_
        refine Cd.plain [(0, false), (1, false), (2, false)] rfl rfl ?_
        refine Jp.y 47 rfl (want_all rfl) rfl rfl Kp.true (Y.indexAddr (q := k) rfl rfl rfl Try.underlying22 Try.sizeOf3 (by omega) (by omega) (by omega)) ?_
        refine Jp.y 48 rfl (want_all rfl) rfl rfl Kp.true (by first | exact Y.loadO 0 rfl Try.isAgg3 rfl rfl rfl | exact Y.loadO 0 rfl Try.isAgg3 rfl rfl rfl | exact Y.loadR rfl Try.isAgg3 rfl hcell) ?_
        refine Jp.y 8 rfl (want_all rfl) rfl rfl Kp.true (Y.assign rfl rfl) ?_
        refine Jp.done hK19 ?_
        refine Cd.plain [(0, false), (1, false), (2, false), (3, false), (4, false)] rfl rfl ?_
        refine Jp.y 49 rfl (want_all rfl) rfl rfl Kp.true (Y.move rfl rfl) ?_
        refine Jp.y 50 rfl (want_all rfl) rfl rfl Kp.true (Y.move rfl rfl) ?_
        refine Jp.y 51 rfl (want_all rfl) rfl rfl Kp.true (Y.conv_ rfl rfl Try.underlying3 Try.underlying49 (by first | exact wrap_u32 (by omega) (by omega) | rfl)) ?_
        refine Jp.slot 51 rfl (congrArg (Value.int .u32) (Int.toNat_of_nonneg hz1).symm) ?_
        refine Jp.call [1] [1] (wnum_spec B d (p3 ++ (xs.take k).flatMap encInt) xs[k].toNat (by rw [List.length_append]; omega) (by omega)) 52 rfl (want_all rfl) rfl rfl (Runs.fn rfl Try.call66 rfl) (by decide) (by decide) rfl trivial ?_
        rintro v6 ρ6 L6 ⟨rfl, B3, d3, rfl, rfl⟩
        refine ⟨rfl, fun hle6 => ⟨Kp.true, ?_⟩⟩
        rw [List.append_assoc, show leB xs[k].toNat 4 = encInt xs[k] from rfl, ← flat_take (enc := encInt) hk]
        refine Jp.y 4 rfl (want_all rfl) rfl rfl Kp.true (Y.assign rfl rfl) ?_
        refine Jp.over rfl hK18 ?_
        refine Cd.plain [(0, false), (1, false)] rfl rfl ?_
        refine Jp.y 53 rfl (want_all rfl) rfl rfl Kp.true (Y.add_ rfl rfl rfl (by first | exact wrap_i64 (by omega) (by omega) | rfl)) ?_
        refine Jp.y 45 rfl (want_all rfl) rfl rfl Kp.true (Y.move rfl rfl) ?_
        rw [show (k : Int) + 1 = ((k + 1 : Nat) : Int) by omega]
        refine Jp.again hLb ⟨k + 1, B3, d3⟩ (show k + 1 ≤ _ by omega) (show xs.length - (k + 1) < xs.length - k by omega) rfl ⟨rfl, rfl, rfl, rfl, rfl, trivial⟩ ⟨rfl, rfl, trivial⟩
      · simp only [decide_eq_false_iff_not] at gb
        obtain rfl : k = xs.length := by omega
        rw [List.take_of_length_le (Nat.le_refl _)]
        have hl := flat_len (enc := encInt) (l := xs) (m := 4) (fun x hx => Nat.le_of_eq (encInt_length x)) xs.length
        rw [List.take_of_length_le (Nat.le_refl _)] at hl
        obtain ⟨p4, hp4⟩ : ∃ p4, p3 ++ xs.flatMap encInt = p4 := ⟨_, rfl⟩
        have hl4 : p4.length ≤ 8000 := by rw [← hp4, List.length_append]; omega
        rw [hp4] at hput ⊢
        refine Cd.exit rfl hK14 ?_
        refine Cd.seq fun K20 hK20 => ?_
        refine Cd.drawn [(0, _)] ⟨rfl, trivial⟩ [(0, true), (1, true), (2, true), (3, true), (5, true), (6, true), (7, true), (8, true), (4, false), (9, false), (10, true)] follows (by kernel_rfl) (fun hrl => ?_)
        refine Jp.q 54 rfl (want_all rfl) rfl rfl (Y.move rfl rfl) ?_
        refine Jp.q 55 rfl (want_all rfl) rfl rfl (by first | exact Y.fieldAddrP rfl rfl Try.underlying35 rfl Try.sizeOf26 (by decide) (show _ + 3 = _ from rfl) | exact Y.fieldAddr rfl rfl Try.underlying35 rfl Try.sizeOf26 (by decide)) ?_
        refine Jp.q 56 rfl (want_all rfl) rfl rfl (by first | exact Y.loadO 0 rfl Try.isAgg26 rfl rfl rfl | exact Y.loadO 0 rfl Try.isAgg26 rfl rfl rfl | exact Y.loadR rfl Try.isAgg26 rfl hcell) ?_
        refine Jp.q 57 rfl (want_all rfl) rfl rfl (Y.toStr _ rfl rfl Try.underlying26 Try.underlying9 Try.underlying5 ⟨_, _, rfl⟩ (Src.rd hr.random)) ?_
        refine Jp.q 59 rfl (want_all rfl) rfl rfl (by first | exact Y.fieldAddrP rfl rfl Try.underlying35 rfl Try.sizeOf27 (by decide) (show _ + 4 = _ from rfl) | exact Y.fieldAddr rfl rfl Try.underlying35 rfl Try.sizeOf27 (by decide)) ?_
        refine Jp.q 60 rfl (want_all rfl) rfl rfl (by first | exact Y.loadO 0 rfl Try.isAgg27 rfl rfl rfl | exact Y.loadO 0 rfl Try.isAgg27 rfl rfl rfl | exact Y.loadR rfl Try.isAgg27 rfl hcell) ?_
        refine Jp.q 61 rfl (want_all rfl) rfl rfl (Y.lenslice rfl Try.underlying27 rfl) ?_
        refine Jp.q 62 rfl (want_all rfl) rfl rfl (Y.conv_ rfl rfl Try.underlying3 Try.underlying49 (by first | exact wrap_u32 (by omega) (by omega) | rfl)) ?_
        have hms : (mkS xr).size = xr.length := mkS_size _
        refine Jp.call [1] [1] (wtext_spec B d p4 (mkS xr) (by omega) (by rw [hms]; omega)) 58 rfl (want_all rfl) rfl rfl (Runs.fn rfl Try.call67 rfl) (by decide) (by decide) rfl trivial ?_
        rintro v7 ρ7 L7 ⟨rfl, B4, d4, rfl, rfl⟩
        refine ⟨rfl, fun hle7 => ⟨(Kp.st ⟨rfl, trivial⟩), ?_⟩⟩
        rw [str_mkS]
        obtain ⟨p5, hp5⟩ : ∃ p5, p4 ++ encText xr = p5 := ⟨_, rfl⟩
        have hl5 : p5.length ≤ 13000 := by rw [← hp5, List.length_append, encText_length]; omega
        rw [hp5] at hput ⊢
        refine Jp.call [1] [1] (wnum_spec B4 d4 p5 xc.length (by omega) (by omega)) 63 rfl (want_all rfl) rfl rfl (Runs.fn rfl Try.call66 rfl) (by decide) (by decide) rfl trivial ?_
        rintro v8 ρ8 L8 ⟨rfl, B5, d5, rfl, rfl⟩
        refine ⟨rfl, fun hle8 => ⟨(Kp.st ⟨rfl, trivial⟩), ?_⟩⟩
        obtain ⟨p6, hp6⟩ : ∃ p6, p5 ++ leB xc.length 4 = p6 := ⟨_, rfl⟩
        have hl6 : p6.length ≤ 13100 := by rw [← hp6, List.length_append, leB_length]; omega
        rw [hp6] at hput ⊢
        refine Jp.q 4 rfl (want_all rfl) rfl rfl (Y.assign rfl rfl) ?_
        refine Jp.done hK20 ?_
        refine Cd.seq fun K22 hK22 => ?_
        refine Cd.seq fun K23 hK23 => ?_
        refine Cd.plain [(0, false), (1, false), (2, false), (3, false)] rfl rfl ?_
        refine Jp.y 64 rfl (want_all rfl) rfl rfl Kp.true (by first | exact Y.fieldAddrP rfl rfl Try.underlying35 rfl Try.sizeOf27 (by decide) (show _ + 4 = _ from rfl) | exact Y.fieldAddr rfl rfl Try.underlying35 rfl Try.sizeOf27 (by decide)) ?_
        refine Jp.y 65 rfl (want_all rfl) rfl rfl Kp.true (by first | exact Y.loadO 0 rfl Try.isAgg27 rfl rfl rfl | exact Y.loadO 0 rfl Try.isAgg27 rfl rfl rfl | exact Y.loadR rfl Try.isAgg27 rfl hcell) ?_
        refine Jp.y 66 rfl (want_all rfl) rfl rfl Kp.true (Y.lenslice rfl Try.underlying27 rfl) ?_
        refine Jp.y 67 rfl (want_all rfl) rfl rfl Kp.true (Y.move rfl rfl) ?_
        refine Jp.done hK23 ?_
        refine Cd.block ?_
        rw [← show p6 ++ ((xc.take 0).flatMap encInt) = p6 by simp]
        refine Cd.loopK (G := Nat × Option Addr × Nat) (fun g => g.1 ≤ xc.length) (fun g => xc.length - g.1) (fun _ => _) (fun g => [(4, .slice g.2.1 (p6 ++ (xc.take g.1).flatMap encInt).length g.2.2), (67, .int .i64 (g.1 : Int))]) [(1, _), (65, _), (66, _)] (fun g => [(1, OwnS 5 1 g.2.1 (p6 ++ (xc.take g.1).flatMap encInt).length g.2.2 (bytesV (p6 ++ (xc.take g.1).flatMap encInt)))]) [(0, _)] ⟨0, B5, d5⟩ (Nat.zero_le _) rfl ⟨rfl, rfl, trivial⟩ ⟨rfl, rfl, rfl, trivial⟩ ⟨rfl, trivial⟩ ⟨rfl, trivial⟩ (fun g KLc hok hLc => ?_)
        obtain ⟨k, B, d⟩ := g
        dsimp only at hok ⊢
        refine Cd.seq fun K24 hK24 => ?_
        refine Cd.plain [(0, false)] rfl rfl ?_
        refine Jp.y 68 rfl (want_all rfl) rfl rfl Kp.true (Y.lss rfl rfl rfl) ?_
        refine Jp.done hK24 ?_
        refine Cd.seq fun K25 hK25 => ?_
        refine Cd.cond rfl (fun gc => ?_) (fun gc => ?_)
        · simp only [decide_eq_true_eq] at gc
          have hk : k < xc.length := by omega
          obtain ⟨ad, rfl⟩ := hr.clock.some (show 0 < xc.length * 1 by omega)
          have hcell : cellH ρ8 (ad.add k) = some (.int .u32 xc[k]) := hr.clock.cell (by simp [intsV, hk])
          obtain ⟨hz1, hz2⟩ := qc xc[k] (List.getElem_mem hk)
          have hl := flat_len (enc := encInt) (l := xc) (m := 4) (fun x hx => Nat.le_of_eq (encInt_length x)) k
          have hl4 : k * 4 ≤ 64 * 4 := Nat.mul_le_mul_right _ (by omega)
          refine Cd.skip hK25 ?_
          refine Cd.seq fun K26 hK26 => ?_
          refine Cd.block ?_
          refine Cd.seq fun K27 hK27 => ?_
          refine Cd.plain [(0, false), (1, false), (2, false)] rfl rfl ?_
          refine Jp.y 69 rfl (want_all rfl) rfl rfl Kp.true (Y.indexAddr (q := k) rfl rfl rfl Try.underlying27 Try.sizeOf49 (by omega) (by omega) (by omega)) ?_
          refine Jp.y 70 rfl (want_all rfl) rfl rfl Kp.true (by first | exact Y.loadO 0 rfl Try.isAgg49 rfl rfl rfl | exact Y.loadO 0 rfl Try.isAgg49 rfl rfl rfl | exact Y.loadR rfl Try.isAgg49 rfl hcell) ?_
          refine Jp.y 10 rfl (want_all rfl) rfl rfl Kp.true (Y.assign rfl rfl) ?_
          refine Jp.done hK27 ?_
          refine Cd.plain [(0, false), (1, false), (2, false), (3, false)] rfl rfl ?_
          refine Jp.y 71 rfl (want_all rfl) rfl rfl Kp.true (Y.move rfl rfl) ?_
          refine Jp.y 72 rfl (want_all rfl) rfl rfl Kp.true (Y.move rfl rfl) ?_
          refine Jp.slot 72 rfl (congrArg (Value.int .u32) (Int.toNat_of_nonneg hz1).symm) ?_
          refine Jp.call [1] [1] (wnum_spec B d (p6 ++ (xc.take k).flatMap encInt) xc[k].toNat (by rw [List.length_append]; omega) (by omega)) 73 rfl (want_all rfl) rfl rfl (Runs.fn rfl Try.call66 rfl) (by decide) (by decide) rfl trivial ?_
          rintro v9 ρ9 L9 ⟨rfl, B3, d3, rfl, rfl⟩
          refine ⟨rfl, fun hle9 => ⟨Kp.true, ?_⟩⟩
          rw [List.append_assoc, show leB xc[k].toNat 4 = encInt xc[k] from rfl, ← flat_take (enc := encInt) hk]
          refine Jp.y 4 rfl (want_all rfl) rfl rfl Kp.true (Y.assign rfl rfl) ?_
          refine Jp.over rfl hK26 ?_
          refine Cd.plain [(0, false), (1, false)] rfl rfl ?_
          refine Jp.y 74 rfl (want_all rfl) rfl rfl Kp.true (Y.add_ rfl rfl rfl (by first | exact wrap_i64 (by omega) (by omega) | rfl)) ?_
          refine Jp.y 67 rfl (want_all rfl) rfl rfl Kp.true (Y.move rfl rfl) ?_
          rw [show (k : Int) + 1 = ((k + 1 : Nat) : Int) by omega]
          refine Jp.again hLc ⟨k + 1, B3, d3⟩ (show k + 1 ≤ _ by omega) (show xc.length - (k + 1) < xc.length - k by omega) rfl ⟨rfl, rfl, rfl, rfl, rfl, trivial⟩ ⟨rfl, rfl, trivial⟩
        · simp only [decide_eq_false_iff_not] at gc
          obtain rfl : k = xc.length := by omega
          rw [List.take_of_length_le (Nat.le_refl _)]
          have hl := flat_len (enc := encInt) (l := xc) (m := 4) (fun x hx => Nat.le_of_eq (encInt_length x)) xc.length
          rw [List.take_of_length_le (Nat.le_refl _)] at hl
          obtain ⟨p7, hp7⟩ : ∃ p7, p6 ++ xc.flatMap encInt = p7 := ⟨_, rfl⟩
          have hl7 : p7.length ≤ 13500 := by rw [← hp7, List.length_append]; omega
          rw [hp7] at hput ⊢
          refine Cd.exit rfl hK22 ?_
          refine Cd.seq fun K28 hK28 => ?_
          refine Cd.plain [(0, false), (1, false), (2, false), (3, false), (4, false), (5, false), (6, false)] rfl rfl ?_
          refine Jp.y 75 rfl (want_all rfl) rfl rfl Kp.true (Y.move rfl rfl) ?_
          refine Jp.y 76 rfl (want_all rfl) rfl rfl Kp.true (by first | exact Y.fieldAddrP rfl rfl Try.underlying35 rfl Try.sizeOf33 (by decide) (show _ + 5 = _ from rfl) | exact Y.fieldAddr rfl rfl Try.underlying35 rfl Try.sizeOf33 (by decide)) ?_
          refine Jp.y 77 rfl (want_all rfl) rfl rfl Kp.true (by first | exact Y.loadO 0 rfl Try.isAgg33 rfl rfl rfl | exact Y.loadO 0 rfl Try.isAgg33 rfl rfl rfl | exact Y.loadR rfl Try.isAgg33 rfl hcell) ?_
          refine Jp.y 78 rfl (want_all rfl) rfl rfl Kp.true (Y.lenslice rfl Try.underlying33 rfl) ?_
          refine Jp.y 79 rfl (want_all rfl) rfl rfl Kp.true (Y.conv_ rfl rfl Try.underlying3 Try.underlying49 (by first | exact wrap_u32 (by omega) (by omega) | rfl)) ?_
          refine Jp.call [1] [1] (wnum_spec B d p7 xf.length (by omega) (by omega)) 80 rfl (want_all rfl) rfl rfl (Runs.fn rfl Try.call66 rfl) (by decide) (by decide) rfl trivial ?_
          rintro v10 ρ10 L10 ⟨rfl, B5, d5, rfl, rfl⟩
          refine ⟨rfl, fun hle10 => ⟨Kp.true, ?_⟩⟩
          obtain ⟨p8, hp8⟩ : ∃ p8, p7 ++ leB xf.length 4 = p8 := ⟨_, rfl⟩
          have hl8 : p8.length ≤ 13600 := by rw [← hp8, List.length_append, leB_length]; omega
          rw [hp8] at hput ⊢
          refine Jp.y 4 rfl (want_all rfl) rfl rfl Kp.true (Y.assign rfl rfl) ?_
          refine Jp.done hK28 ?_
          refine Cd.seq fun K29 hK29 => ?_
          refine Cd.seq fun K30 hK30 => ?_
          refine Cd.plain [(0, false), (1, false), (2, false), (3, false)] rfl rfl ?_
          refine Jp.y 81 rfl (want_all rfl) rfl rfl Kp.true (by first | exact Y.fieldAddrP rfl rfl Try.underlying35 rfl Try.sizeOf33 (by decide) (show _ + 5 = _ from rfl) | exact Y.fieldAddr rfl rfl Try.underlying35 rfl Try.sizeOf33 (by decide)) ?_
          refine Jp.y 82 rfl (want_all rfl) rfl rfl Kp.true (by first | exact Y.loadO 0 rfl Try.isAgg33 rfl rfl rfl | exact Y.loadO 0 rfl Try.isAgg33 rfl rfl rfl | exact Y.loadR rfl Try.isAgg33 rfl hcell) ?_
          refine Jp.y 83 rfl (want_all rfl) rfl rfl Kp.true (Y.lenslice rfl Try.underlying33 rfl) ?_
          refine Jp.y 84 rfl (want_all rfl) rfl rfl Kp.true (Y.move rfl rfl) ?_
          refine Jp.done hK30 ?_
          refine Cd.block ?_
          rw [← show p8 ++ ((xf.take 0).flatMap fun x => encFile x.p) = p8 by simp]
          refine Cd.loopK (G := Nat × Option Addr × Nat) (fun g => g.1 ≤ xf.length) (fun g => xf.length - g.1) (fun _ => _) (fun g => [(4, .slice g.2.1 (p8 ++ (xf.take g.1).flatMap fun x => encFile x.p).length g.2.2), (84, .int .i64 (g.1 : Int))]) [(82, _), (83, _)] (fun g => [(1, OwnS 5 1 g.2.1 (p8 ++ (xf.take g.1).flatMap fun x => encFile x.p).length g.2.2 (bytesV (p8 ++ (xf.take g.1).flatMap fun x => encFile x.p)))]) [(0, _)] ⟨0, B5, d5⟩ (Nat.zero_le _) rfl ⟨rfl, rfl, trivial⟩ ⟨rfl, rfl, trivial⟩ ⟨rfl, trivial⟩ ⟨rfl, trivial⟩ (fun g KLd hok hLd => ?_)
          obtain ⟨k, B, d⟩ := g
          dsimp only at hok ⊢
          refine Cd.seq fun K31 hK31 => ?_
          refine Cd.plain [(0, false)] rfl rfl ?_
          refine Jp.y 85 rfl (want_all rfl) rfl rfl Kp.true (Y.lss rfl rfl rfl) ?_
          refine Jp.done hK31 ?_
          refine Cd.seq fun K32 hK32 => ?_
          refine Cd.cond rfl (fun gd => ?_) (fun gd => ?_)
          · simp only [decide_eq_true_eq] at gd
            have hk : k < xf.length := by omega
            have hkx : xf[k]? = some xf[k] := by simp [hk]
            have hR : RdS 2 Af xf.length cf (filesV xf) ρ10 := hr.files.1
            obtain ⟨ad, rfl⟩ := hR.some (show 0 < xf.length * 2 by omega)
            have hmem : xf[k] ∈ xf := List.getElem_mem hk
            obtain ⟨hz1, hz2⟩ := q8 xf[k] hmem
            have hl := flat_len (enc := fun x : FileG => encFile x.p) (l := xf) (m := 4144) (fun x hx => by
              have := q8 x hx
              show (encText (str x.name) ++ encText x.data.xs).length ≤ _
              rw [List.length_append, encText_length, encText_length, ← str_size]; omega) k
            have hl4 : k * 4144 ≤ 8 * 4144 := Nat.mul_le_mul_right _ (by omega)
            refine Cd.skip hK32 ?_
            refine Cd.seq fun K33 hK33 => ?_
            refine Cd.block ?_
            refine Cd.seq fun K34 hK34 => ?_
            refine Cd.plain [(0, false), (1, false), (2, false), (3, false)] rfl rfl ?_
            refine Jp.y 86 rfl (want_all rfl) rfl rfl Kp.true (Y.indexAddr (q := k * 2) rfl rfl rfl Try.underlying33 Try.sizeOf63 (by omega) (by omega) (by omega)) ?_
            refine Jp.y 87 rfl (want_all rfl) rfl rfl Kp.true (Y.loadAggR xf[k].cells rfl Try.isAgg63 Try.sizeOf63 rfl rfl (hr.files.at rfl hkx)) ?_
            refine Jp.alloc 2 12 rfl (want_all rfl) rfl rfl rfl Try.zeroValue63 fun b2 => ⟨Kp.true, ?_⟩
            first | refine Jp.storeAgg 2 rfl (want_all rfl) rfl rfl Try.sizeOf63 rfl rfl rfl rfl rfl rfl (fun k _ _ => noFr0 k) Kp.true ?_ | refine Jp.storeAgg 0 rfl (want_all rfl) rfl rfl Try.sizeOf63 rfl rfl rfl rfl rfl rfl (fun k _ _ => noFr0 k) Kp.true ?_ | refine Jp.storeAgg 2 rfl (want_all rfl) rfl rfl Try.sizeOf63 rfl rfl rfl rfl rfl rfl (fun k _ _ => noFr0 k) Kp.true ?_
            refine Jp.done hK34 ?_
            refine Cd.drawn [(2, _)] ⟨rfl, trivial⟩ [(0, true), (1, true), (2, true), (4, true), (5, true), (6, true), (3, false), (7, false), (8, true)] follows (by kernel_rfl) (fun hrl => ?_)
            refine Jp.q 88 rfl (want_all rfl) rfl rfl (Y.move rfl rfl) ?_
            refine Jp.q 89 rfl (want_all rfl) rfl rfl (by first | exact Y.fieldAddrP rfl rfl Try.underlying63 rfl Try.sizeOf9 (by decide) (show _ + 0 = _ from rfl) | exact Y.fieldAddr rfl rfl Try.underlying63 rfl Try.sizeOf9 (by decide)) ?_
            refine Jp.q 90 rfl (want_all rfl) rfl rfl (by first | exact Y.loadO 2 rfl Try.isAgg9 rfl rfl rfl | exact Y.loadO 0 rfl Try.isAgg9 rfl rfl rfl | exact Y.loadO 2 rfl Try.isAgg9 rfl rfl rfl | exact Y.loadR rfl Try.isAgg9 rfl hcell) ?_
            refine Jp.q 92 rfl (want_all rfl) rfl rfl (by first | exact Y.fieldAddrP rfl rfl Try.underlying63 rfl Try.sizeOf26 (by decide) (show _ + 1 = _ from rfl) | exact Y.fieldAddr rfl rfl Try.underlying63 rfl Try.sizeOf26 (by decide)) ?_
            refine Jp.q 93 rfl (want_all rfl) rfl rfl (by first | exact Y.loadO 2 rfl Try.isAgg26 rfl rfl rfl | exact Y.loadO 0 rfl Try.isAgg26 rfl rfl rfl | exact Y.loadO 2 rfl Try.isAgg26 rfl rfl rfl | exact Y.loadR rfl Try.isAgg26 rfl hcell) ?_
            refine Jp.q 94 rfl (want_all rfl) rfl rfl (Y.toStr _ rfl rfl Try.underlying26 Try.underlying9 Try.underlying5 ⟨_, _, rfl⟩ (Src.rd (hr.files.2 _ hmem))) ?_
            refine Jp.call [1] [1] (wtext_spec B d (p8 ++ (xf.take k).flatMap fun x => encFile x.p) xf[k].name (by rw [List.length_append]; omega) (by omega)) 91 rfl (want_all rfl) rfl rfl (Runs.fn rfl Try.call67 rfl) (by decide) (by decide) rfl trivial ?_
            rintro v11 ρ11 L11 ⟨rfl, B3, d3, rfl, rfl⟩
            refine ⟨rfl, fun hle11 => ⟨(Kp.st ⟨rfl, trivial⟩), ?_⟩⟩
            have hms : (mkS xf[k].data.xs).size = xf[k].data.xs.length := mkS_size _
            have hs2 := str_size xf[k].name
            refine Jp.call [1] [1] (wtext_spec B3 d3 (p8 ++ ((xf.take k).flatMap fun x => encFile x.p) ++ encText (str xf[k].name)) (mkS xf[k].data.xs) (by rw [List.length_append, List.length_append, encText_length]; omega) (by rw [hms]; omega)) 95 rfl (want_all rfl) rfl rfl (Runs.fn rfl Try.call67 rfl) (by decide) (by decide) rfl trivial ?_
            rintro v12 ρ12 L12 ⟨rfl, B6, d6, rfl, rfl⟩
            refine ⟨rfl, fun hle12 => ⟨(Kp.st ⟨rfl, trivial⟩), ?_⟩⟩
            have he : p8 ++ ((xf.take k).flatMap fun x => encFile x.p) ++ encText (str xf[k].name) ++ encText (str (mkS xf[k].data.xs)) = p8 ++ ((xf.take (k + 1)).flatMap fun x => encFile x.p) := by
              rw [flat_take (enc := fun x : FileG => encFile x.p) hk, str_mkS]
              simp only [List.append_assoc]; rfl
            rw [he]
            refine Jp.q 4 rfl (want_all rfl) rfl rfl (Y.assign rfl rfl) ?_
            refine Jp.over rfl hK33 ?_
            refine Cd.plain [(0, false), (1, false)] rfl rfl ?_
            refine Jp.y 96 rfl (want_all rfl) rfl rfl Kp.true (Y.add_ rfl rfl rfl (by first | exact wrap_i64 (by omega) (by omega) | rfl)) ?_
            refine Jp.y 84 rfl (want_all rfl) rfl rfl Kp.true (Y.move rfl rfl) ?_
            rw [show (k : Int) + 1 = ((k + 1 : Nat) : Int) by omega]
            refine Jp.again hLd ⟨k + 1, B6, d6⟩ (show k + 1 ≤ _ by omega) (show xf.length - (k + 1) < xf.length - k by omega) rfl ⟨rfl, rfl, rfl, rfl, trivial⟩ ⟨rfl, rfl, trivial⟩
          · simp only [decide_eq_false_iff_not] at gd
            obtain rfl : k = xf.length := by omega
            rw [List.take_of_length_le (Nat.le_refl _), ← hput]
            refine Cd.exit rfl hK29 ?_
            refine Cd.seq fun K36 hK36 => ?_
            refine Cd.plain [(0, false), (1, false), (2, false)] rfl rfl ?_
            refine Jp.y 97 rfl (want_all rfl) rfl rfl Kp.true (Y.move rfl rfl) ?_
            refine Jp.y 2 rfl (want_all rfl) rfl rfl Kp.true (Y.assign rfl rfl) ?_
            refine Jp.y 3 rfl (want_all rfl) rfl rfl Kp.true (Y.assign rfl rfl) ?_
            refine Jp.done hK36 ?_
            refine Cd.ret [(1, _)] rfl (res2 rfl rfl rfl) ⟨rfl, trivial⟩ ⟨rfl, B, d, by first | (rw [hbs, if_pos hg]; done) | (rw [if_pos hg]; done) | rw [hbs], by rw [hbs]⟩
end Go.Proofs.Ytjjhihlmoecmlaa
