/- Contract of law10: StackPlaces. -/
import Derived.Test.YtgfbdiibndbbjaaStackD
set_option linter.unusedVariables false
set_option linter.unusedSimpArgs false
set_option maxRecDepth 100000
namespace Go.Proofs.Ytgfbdiibndbbjaa
open Go
theorem placesV_get (l : List (Nat × Nat)) : ∀ (k : Nat) (x : Nat × Nat), l[k]? = some x → (placesV l)[k * 2 + 0]? = some (.int .u32 (x.1 : Int)) ∧ (placesV l)[k * 2 + 1]? = some (.int .i64 (x.2 : Int)) := by
  induction l with
  | nil => intro k f h; simp at h
  | cons g l ih =>
    intro k f h
    have e : placesV (g :: l) = .int .u32 (g.1 : Int) :: .int .i64 (g.2 : Int) :: placesV l := rfl
    cases k with
    | zero => simp at h; subst h; exact ⟨rfl, rfl⟩
    | succ k =>
      have := ih k f (by simpa using h)
      rw [e, Nat.succ_mul]
      simpa [Nat.add_assoc] using this
theorem placesP_get (l : List Bytes) {n k : Nat} (hk : k < n) : (placesP l n)[k]? = some (addrP l k, (l.getD k []).length) := by
  rw [placesP, List.getElem?_map, List.getElem?_range hk]; rfl
theorem f3_spec (s : Sl ByteArray) : Spec Try.prog 3 #[s.v] (RdStr s) [] (fun ρ ρ' v L => v = .bool true ∧ L = []) := by
  obtain ⟨A, c, xs⟩ := s
  dsimp only [Sl.v]
  refine Spec.of 90 Try.func3 rfl Try.ntmps3 [(0, _)] rfl rfl ?_
  intro cx ρ hr h0
  refine Cd.seq fun K1 hK1 => ?_
  refine Cd.plain [(0, false)] rfl rfl ?_
  refine Jp.y 2 rfl (want_all rfl) rfl rfl Kp.true (Y.assign rfl rfl) ?_
  refine Jp.done hK1 ?_
  refine Cd.seq fun K2 hK2 => ?_
  refine Cd.seq fun K3 hK3 => ?_
  refine Cd.plain [(0, false), (1, false)] rfl rfl ?_
  refine Jp.call [] [] f15_spec 9 rfl (want_all rfl) rfl rfl (Runs.fn rfl Try.call15 rfl) (by decide) (by decide) rfl trivial ?_
  rintro v1 ρ1 L1 ⟨rfl, rfl⟩
  refine ⟨rfl, fun hle1 => ⟨Kp.true, ?_⟩⟩
  have hr := RdStr.up _ _ _ hle1 hr
  refine Jp.y 10 rfl (want_all rfl) rfl rfl Kp.true (Y.not rfl rfl) ?_
  refine Jp.done hK3 ?_
  refine Cd.cond rfl (fun g10 => ?_) (fun g10 => ?_)
  · skip
    exact absurd g10 (by simp)
  try simp only [decide_eq_false_iff_not, decide_eq_true_eq, Int.not_lt, Int.not_le, Bool.not_eq_false, Bool.not_eq_true, Bool.not_true, Bool.not_false, Bool.not_eq_true', Bool.not_eq_false', beq_eq_false_iff_ne, ne_eq, beq_iff_eq, bne_iff_ne, Classical.not_not] at g10
  refine Cd.skip hK2 ?_
  refine Cd.seq fun K4 hK4 => ?_
  refine Cd.seq fun K5 hK5 => ?_
  refine Cd.plain [(0, false), (1, false)] rfl rfl ?_
  refine Jp.y 11 rfl (want_all rfl) rfl rfl Kp.true (Y.move rfl rfl) ?_
  refine Jp.call [] [] (f16_spec ⟨A, c, xs⟩) 12 rfl (want_all rfl) rfl rfl (Runs.fn rfl Try.call16 rfl) (by decide) (by decide) rfl hr ?_
  rintro v2 ρ2 L2 ⟨rfl, ⟨gr, rfl, hgr⟩, rfl⟩
  refine ⟨rfl, fun hle2 => ⟨Kp.true, ?_⟩⟩
  refine Jp.done hK5 ?_
  refine Cd.cond rfl (fun g12 => ?_) (fun g12 => ?_)
  · skip
    refine Cd.seq fun K6 hK6 => ?_
    refine Cd.plain [(0, false)] rfl rfl ?_
    refine Jp.y 2 rfl (want_all rfl) rfl rfl Kp.true (Y.assign rfl rfl) ?_
    refine Jp.done hK6 ?_
    refine Cd.ret [] rfl (res1 rfl rfl) trivial ⟨rfl, rfl⟩
  try simp only [decide_eq_false_iff_not, decide_eq_true_eq, Int.not_lt, Int.not_le, Bool.not_eq_false, Bool.not_eq_true, Bool.not_true, Bool.not_false, Bool.not_eq_true', Bool.not_eq_false', beq_eq_false_iff_ne, ne_eq, beq_iff_eq, bne_iff_ne, Classical.not_not] at g12
  refine Cd.skip hK4 ?_
  refine Cd.seq fun K7 hK7 => ?_
  refine Cd.plain [(0, false), (1, false), (2, false), (3, false), (4, false), (5, false), (6, false), (7, false), (8, false), (9, false), (10, false)] rfl rfl ?_
  obtain ⟨hn, hs⟩ := hgr g12
  have hn : xs.length ≤ 20 := hn
  have hs : ∀ a ∈ xs, a.size ≤ 400 := hs
  have hml : (xs.map str).length = xs.length := List.length_map ..
  have hsl : ∀ a ∈ xs.map str, a.length ≤ 400 := fun a ha => by
    obtain ⟨x, hx, rfl⟩ := List.mem_map.1 ha
    rw [← str_size]; exact hs x hx
  have htl := textP_len hsl
  refine Jp.y 14 rfl (want_all rfl) rfl rfl Kp.true (Y.move rfl rfl) ?_
  refine Jp.call [] [0, 1] (f17_spec ⟨A, c, xs⟩ hn hs) 15 rfl (want_all rfl) rfl rfl (Runs.fn rfl Try.call17 rfl) (by decide) (by decide) rfl hr ?_
  rintro v3 ρ3 L3 ⟨rfl, A3, c3, B3, d3, q, hq, rfl, rfl⟩
  refine ⟨rfl, fun hle3 => ⟨Kp.true, ?_⟩⟩
  have hq : buildP (xs.map str) = q := hq
  by_cases hgood : goodS (xs.map str) = true ∧ (textP (xs.map str)).length ≤ 3000
  · obtain ⟨hg, hT⟩ := hgood
    have hq2 : q = ⟨pageP (xs.map str) xs.length, 2147475456 + spP (xs.map str), placesP (xs.map str) xs.length, 0⟩ := by rw [← hq, buildP, hg, if_pos rfl, if_pos hT, hml]
    subst hq2
    dsimp only
    have hn16 : xs.length ≤ 16 := by
      simp only [goodS, Bool.and_eq_true, decide_eq_true_eq, List.length_map] at hg
      exact hg.2
    have hat : at0P (xs.map str) + (textP (xs.map str)).length = 4096 := by rw [at0P]; omega
    have hadrn : addrP (xs.map str) xs.length = 2147479552 := by
      rw [addrP, List.take_of_length_le (by omega)]; omega
    rw [placesP_length]
    refine Jp.y 13 rfl (want_all rfl) rfl rfl Kp.true (Y.move rfl rfl) ?_
    refine Jp.y 16 rfl (want_all rfl) rfl rfl Kp.true (Y.extract rfl rfl rfl) ?_
    refine Jp.y 17 rfl (want_all rfl) rfl rfl Kp.true (Y.extract rfl rfl rfl) ?_
    refine Jp.y 18 rfl (want_all rfl) rfl rfl Kp.true (Y.extract rfl rfl rfl) ?_
    refine Jp.y 19 rfl (want_all rfl) rfl rfl Kp.true (Y.extract rfl rfl rfl) ?_
    refine Jp.y 3 rfl (want_all rfl) rfl rfl Kp.true (Y.assign rfl rfl) ?_
    refine Jp.y 4 rfl (want_all rfl) rfl rfl Kp.true (Y.assign rfl rfl) ?_
    refine Jp.y 5 rfl (want_all rfl) rfl rfl Kp.true (Y.assign rfl rfl) ?_
    refine Jp.y 6 rfl (want_all rfl) rfl rfl Kp.true (Y.assign rfl rfl) ?_
    refine Jp.done hK7 ?_
    refine Cd.seq fun K8 hK8 => ?_
    refine Cd.seq fun K9 hK9 => ?_
    refine Cd.plain [(0, false), (1, false)] rfl rfl ?_
    refine Jp.y 20 rfl (want_all rfl) rfl rfl Kp.true (Y.move rfl rfl) ?_
    refine Jp.y 21 rfl (want_all rfl) rfl rfl Kp.true (Y.neq rfl rfl rfl) ?_
    refine Jp.done hK9 ?_
    refine Cd.cond rfl (fun g21 => ?_) (fun g21 => ?_)
    · skip
      exact absurd g21 (by simp)
    try simp only [decide_eq_false_iff_not, decide_eq_true_eq, Int.not_lt, Int.not_le, Bool.not_eq_false, Bool.not_eq_true, Bool.not_true, Bool.not_false, Bool.not_eq_true', Bool.not_eq_false', beq_eq_false_iff_ne, ne_eq, beq_iff_eq, bne_iff_ne, Classical.not_not] at g21
    refine Cd.skip hK8 ?_
    refine Cd.seq fun K10 hK10 => ?_
    refine Cd.plain [(0, false)] rfl rfl ?_
    refine Jp.y 7 rfl (want_all rfl) rfl rfl Kp.true (Y.assign rfl rfl) ?_
    refine Jp.done hK10 ?_
    refine Cd.seq fun K11 hK11 => ?_
    refine Cd.seq fun K12 hK12 => ?_
    refine Cd.plain [(0, false), (1, false), (2, false), (3, false)] rfl rfl ?_
    refine Jp.y 34 rfl (want_all rfl) rfl rfl Kp.true (Y.move rfl rfl) ?_
    refine Jp.y 35 rfl (want_all rfl) rfl rfl Kp.true (Y.lenslice rfl Try.underlying27 rfl) ?_
    refine Jp.y 36 rfl (want_all rfl) rfl rfl Kp.true (Y.sub_ rfl rfl rfl (by first | exact wrap_i64 (by omega) (by omega) | rfl)) ?_
    refine Jp.y 8 rfl (want_all rfl) rfl rfl Kp.true (Y.assign rfl rfl) ?_
    refine Jp.done hK12 ?_
    refine Cd.block ?_
    rw [show (2147479552 : Int) = (addrP (xs.map str) xs.length : Int) by rw [hadrn]; rfl]
    refine Cd.loop (G := Nat) (fun k => k ≤ xs.length) (fun k => k) (fun _ => ρ3) (fun k => [(0, .slice A xs.length c), (4, .int .u32 ((2147475456 + spP (xs.map str) : Nat) : Int)), (5, .slice B3 xs.length d3), (7, .int .u32 (addrP (xs.map str) k : Int)), (8, .int .i64 ((k : Int) - 1))]) (fun k => [(1, OwnS 32 2 B3 xs.length d3 (placesV (placesP (xs.map str) xs.length)))]) xs.length (Nat.le_refl _) rfl ⟨rfl, rfl, rfl, rfl, rfl, trivial⟩ ⟨rfl, trivial⟩ (fun g KLa hok hLa => ?_)
    refine Cd.seq fun K13 hK13 => ?_
    refine Cd.seq fun K14 hK14 => ?_
    refine Cd.plain [(0, false), (1, false)] rfl rfl ?_
    refine Jp.y 37 rfl (want_all rfl) rfl rfl Kp.true (Y.move rfl rfl) ?_
    refine Jp.y 38 rfl (want_all rfl) rfl rfl Kp.true (Y.geq rfl rfl rfl) ?_
    refine Jp.done hK14 ?_
    refine Cd.cond rfl (fun ga => ?_) (fun ga => ?_)
    · simp only [decide_eq_true_eq] at ga
      obtain ⟨i, rfl⟩ : ∃ i, g = i + 1 := ⟨g - 1, by omega⟩
      have hi : i < xs.length := by omega
      obtain ⟨ad, rfl⟩ := hr.some (show 0 < xs.length * 1 by omega)
      have hcell : cellH ρ3 (ad.add i) = some (.string xs[i]) := hr.cell (by simp [strsV, hi])
      have hz := hs xs[i] (List.getElem_mem hi)
      have hz2 := str_size xs[i]
      have hsn := textP_snoc (l := xs.map str) (k := i) (by rw [hml]; exact hi)
      have hsn2 : (textP ((xs.map str).take (i + 1))).length = (textP ((xs.map str).take i)).length + (xs[i].size + 1) := by rw [hsn, List.getElem_map, hz2]; simp
      have hle : (textP ((xs.map str).take (i + 1))).length ≤ (textP (xs.map str)).length := by
        have := congrArg (fun l => (textP l).length) (List.take_append_drop (i + 1) (xs.map str))
        simp only [textP, List.flatMap_append, List.length_append] at this
        simp only [textP]; omega
      have had : addrP (xs.map str) (i + 1) = addrP (xs.map str) i + (xs[i].size + 1) := by rw [addrP, addrP, hsn2]; omega
      have hb1 : 2147475456 ≤ addrP (xs.map str) i := by rw [addrP]; omega
      have hb2 : addrP (xs.map str) (i + 1) ≤ 2147479552 := by rw [addrP]; omega
      obtain ⟨hp0, hp1⟩ := placesV_get _ i _ (placesP_get (xs.map str) (n := xs.length) hi)
      have hlen : ((xs.map str).getD i []).length = xs[i].size := by rw [List.getD_eq_getElem?_getD, List.getElem?_map, List.getElem?_eq_getElem hi, Option.map_some, Option.getD_some, ← str_size]
      refine Cd.skip hK13 ?_
      refine Cd.seq fun K15 hK15 => ?_
      refine Cd.block ?_
      refine Cd.seq fun K16 hK16 => ?_
      refine Cd.plain [(0, false), (1, false), (2, false), (3, false), (4, false), (5, false), (6, false), (7, false), (8, false), (9, false)] rfl rfl ?_
      refine Jp.y 41 rfl (want_all rfl) rfl rfl Kp.true (Y.move rfl rfl) ?_
      refine Jp.y 42 rfl (want_all rfl) rfl rfl Kp.true (Y.move rfl rfl) ?_
      refine Jp.y 43 rfl (want_all rfl) rfl rfl Kp.true (Y.move rfl rfl) ?_
      refine Jp.y 44 rfl (want_all rfl) rfl rfl Kp.true (Y.indexAddr (q := i) rfl rfl rfl Try.underlying22 Try.sizeOf9 (by omega) (by omega) (by omega)) ?_
      refine Jp.y 45 rfl (want_all rfl) rfl rfl Kp.true (Y.loadR rfl Try.isAgg9 rfl hcell) ?_
      refine Jp.y 46 rfl (want_all rfl) rfl rfl Kp.true (Y.lenstr rfl Try.underlying9 rfl) ?_
      refine Jp.y 47 rfl (want_all rfl) rfl rfl Kp.true (Y.conv_ rfl rfl Try.underlying3 Try.underlying26 (by first | exact wrap_u32 (by omega) (by omega) | rfl)) ?_
      refine Jp.y 48 rfl (want_all rfl) rfl rfl Kp.true (Y.sub_ rfl rfl rfl (by first | exact wrap_u32 (by omega) (by omega) | rfl)) ?_
      refine Jp.y 49 rfl (want_all rfl) rfl rfl Kp.true (Y.sub_ rfl rfl rfl (by first | exact wrap_u32 (by omega) (by omega) | rfl)) ?_
      rw [show (addrP (xs.map str) (i + 1) : Int) - (xs[i].size : Int) - 1 = (addrP (xs.map str) i : Int) by rw [had]; omega]
      refine Jp.y 7 rfl (want_all rfl) rfl rfl Kp.true (Y.assign rfl rfl) ?_
      refine Jp.done hK16 ?_
      refine Cd.seq fun K17 hK17 => ?_
      refine Cd.drawn [(1, _)] ⟨rfl, trivial⟩ [(0, true), (1, true), (2, true), (3, true), (4, true), (5, true), (6, true), (7, true), (8, true), (9, true), (10, true), (11, true), (12, true), (13, true), (14, true), (15, true), (16, true), (17, true), (18, true), (19, true)] follows (by kernel_rfl) (fun hrl => ?_)
      refine Jp.ownAt 1 rfl (by omega) ?_
      rintro b1 rfl
      rw [hlen] at hp1
      refine Jp.q 50 rfl (want_all rfl) rfl rfl (Y.move rfl rfl) ?_
      refine Jp.q 51 rfl (want_all rfl) rfl rfl (Y.move rfl rfl) ?_
      refine Jp.q 52 rfl (want_all rfl) rfl rfl (Y.indexAddr (q := i * 2) rfl rfl rfl Try.underlying27 Try.sizeOf32 (by omega) (by omega) (by omega)) ?_
      refine Jp.q 53 rfl (want_all rfl) rfl rfl (Y.fieldAddr rfl rfl Try.underlying32 rfl Try.sizeOf26 (by decide)) ?_
      refine Jp.q 54 rfl (want_all rfl) rfl rfl (Y.loadS 1 (q := i * 2 + 0) rfl Try.isAgg26 rfl rfl rfl hp0) ?_
      refine Jp.q 55 rfl (want_all rfl) rfl rfl (Y.move rfl rfl) ?_
      refine Jp.q 56 rfl (want_all rfl) rfl rfl (Y.neq rfl rfl rfl) ?_
      refine Jp.q 57 rfl (want_all rfl) rfl rfl (Y.move rfl rfl) ?_
      refine Jp.split 57 rfl (fun g57 => ?_) (fun g57 => ?_)
      · skip
        exact absurd g57 (by simp)
      try simp only [decide_eq_false_iff_not, decide_eq_true_eq, Int.not_lt, Int.not_le, Bool.not_eq_false, Bool.not_eq_true, Bool.not_true, Bool.not_false, Bool.not_eq_true', Bool.not_eq_false', beq_eq_false_iff_ne, ne_eq, beq_iff_eq, bne_iff_ne, Classical.not_not] at g57
      refine Jp.q 58 rfl (want_as rfl rfl rfl rfl) rfl rfl (Y.move rfl rfl) ?_
      refine Jp.q 59 rfl (want_as rfl rfl rfl rfl) rfl rfl (Y.move rfl rfl) ?_
      refine Jp.q 60 rfl (want_as rfl rfl rfl rfl) rfl rfl (Y.indexAddr (q := i * 2) rfl rfl rfl Try.underlying27 Try.sizeOf32 (by omega) (by omega) (by omega)) ?_
      refine Jp.q 61 rfl (want_as rfl rfl rfl rfl) rfl rfl (Y.fieldAddr rfl rfl Try.underlying32 rfl Try.sizeOf3 (by decide)) ?_
      refine Jp.q 62 rfl (want_as rfl rfl rfl rfl) rfl rfl (Y.loadS 1 (q := i * 2 + 1) rfl Try.isAgg3 rfl rfl (Addr.add_add _ _ _).symm hp1) ?_
      refine Jp.q 63 rfl (want_as rfl rfl rfl rfl) rfl rfl (Y.move rfl rfl) ?_
      refine Jp.q 64 rfl (want_as rfl rfl rfl rfl) rfl rfl (Y.move rfl rfl) ?_
      refine Jp.q 65 rfl (want_as rfl rfl rfl rfl) rfl rfl (Y.indexAddr (q := i) rfl rfl rfl Try.underlying22 Try.sizeOf9 (by omega) (by omega) (by omega)) ?_
      refine Jp.q 66 rfl (want_as rfl rfl rfl rfl) rfl rfl (Y.loadR rfl Try.isAgg9 rfl hcell) ?_
      refine Jp.q 67 rfl (want_as rfl rfl rfl rfl) rfl rfl (Y.lenstr rfl Try.underlying9 rfl) ?_
      refine Jp.q 68 rfl (want_as rfl rfl rfl rfl) rfl rfl (Y.neq rfl rfl rfl) ?_
      refine Jp.q 69 rfl (want_all rfl) rfl rfl (Y.pickF rfl rfl rfl) ?_
      refine Jp.done hK17 ?_
      refine Cd.cond rfl (fun g69 => ?_) (fun g69 => ?_)
      · skip
        exact absurd g69 (by simp)
      try simp only [decide_eq_false_iff_not, decide_eq_true_eq, Int.not_lt, Int.not_le, Bool.not_eq_false, Bool.not_eq_true, Bool.not_true, Bool.not_false, Bool.not_eq_true', Bool.not_eq_false', beq_eq_false_iff_ne, ne_eq, beq_iff_eq, bne_iff_ne, Classical.not_not] at g69
      refine Cd.over rfl hK15 ?_
      refine Cd.plain [(0, false), (1, false), (2, false)] rfl rfl ?_
      refine Jp.y 39 rfl (want_all rfl) rfl rfl Kp.true (Y.move rfl rfl) ?_
      refine Jp.y 40 rfl (want_all rfl) rfl rfl Kp.true (Y.sub_ rfl rfl rfl (by first | exact wrap_i64 (by omega) (by omega) | rfl)) ?_
      refine Jp.y 8 rfl (want_all rfl) rfl rfl Kp.true (Y.assign rfl rfl) ?_
      rw [show (((i + 1 : Nat) : Int) - 1 - 1) = (i : Int) - 1 by omega]
      refine Jp.again hLa i (by omega) (by omega) rfl ⟨rfl, rfl, rfl, rfl, rfl, trivial⟩ ⟨rfl, trivial⟩
    · simp only [decide_eq_false_iff_not] at ga
      obtain rfl : g = 0 := by omega
      have had0 : addrP (xs.map str) 0 = 2147475456 + at0P (xs.map str) := by rw [addrP]; rfl
      have hsp : spP (xs.map str) = (at0P (xs.map str) - 4 * (xs.length + 3)) / 16 * 16 := by rw [spP, hml]
      refine Cd.exit rfl hK11 ?_
      refine Cd.seq fun K19 hK19 => ?_
      refine Cd.plain [(0, false), (1, false), (2, false), (3, false), (4, false), (5, false), (6, false), (7, false), (8, false), (9, false), (10, false), (11, false), (12, false), (13, false), (14, false), (15, false), (16, false), (17, false), (18, false), (19, false), (20, false)] rfl rfl ?_
      refine Jp.y 70 rfl (want_all rfl) rfl rfl Kp.true (Y.move rfl rfl) ?_
      refine Jp.y 71 rfl (want_all rfl) rfl rfl Kp.true (Y.lenslice rfl Try.underlying27 rfl) ?_
      refine Jp.y 72 rfl (want_all rfl) rfl rfl Kp.true (Y.move rfl rfl) ?_
      refine Jp.y 73 rfl (want_all rfl) rfl rfl Kp.true (Y.lenslice rfl Try.underlying22 rfl) ?_
      refine Jp.y 74 rfl (want_all rfl) rfl rfl Kp.true (Y.eql rfl rfl rfl) ?_
      refine Jp.y 75 rfl (want_all rfl) rfl rfl Kp.true (Y.move rfl rfl) ?_
      refine Jp.splitF 75 rfl (fun g75 => ?_) (fun g75 => ?_)
      · skip
        exact absurd g75 (by first | (simp; done) | (simp; omega))
      try simp only [decide_eq_false_iff_not, decide_eq_true_eq, Int.not_lt, Int.not_le, Bool.not_eq_false, Bool.not_eq_true, Bool.not_true, Bool.not_false, Bool.not_eq_true', Bool.not_eq_false', beq_eq_false_iff_ne, ne_eq, beq_iff_eq, bne_iff_ne, Classical.not_not] at g75
      refine Jp.y 76 rfl (want_as rfl rfl rfl rfl) rfl rfl Kp.true (Y.move rfl rfl) ?_
      refine Jp.y 77 rfl (want_as rfl rfl rfl rfl) rfl rfl Kp.true (Y.geq rfl rfl rfl) ?_
      refine Jp.y 78 rfl (want_all rfl) rfl rfl Kp.true (Y.pickT rfl rfl rfl) ?_
      refine Jp.y 79 rfl (want_all rfl) rfl rfl Kp.true (Y.move rfl rfl) ?_
      refine Jp.splitF 79 rfl (fun g79 => ?_) (fun g79 => ?_)
      · skip
        exact absurd g79 (by first | (simp; done) | (simp; omega))
      try simp only [decide_eq_false_iff_not, decide_eq_true_eq, Int.not_lt, Int.not_le, Bool.not_eq_false, Bool.not_eq_true, Bool.not_true, Bool.not_false, Bool.not_eq_true', Bool.not_eq_false', beq_eq_false_iff_ne, ne_eq, beq_iff_eq, bne_iff_ne, Classical.not_not] at g79
      refine Jp.y 80 rfl (want_as rfl rfl rfl rfl) rfl rfl Kp.true (Y.move rfl rfl) ?_
      refine Jp.y 81 rfl (want_as rfl rfl rfl rfl) rfl rfl Kp.true (Y.move rfl rfl) ?_
      refine Jp.y 82 rfl (want_as rfl rfl rfl rfl) rfl rfl Kp.true (Y.lenslice rfl Try.underlying22 rfl) ?_
      refine Jp.y 83 rfl (want_as rfl rfl rfl rfl) rfl rfl Kp.true (Y.mul_ rfl rfl rfl (by first | exact wrap_i64 (by omega) (by omega) | rfl)) ?_
      refine Jp.y 84 rfl (want_as rfl rfl rfl rfl) rfl rfl Kp.true (Y.conv_ rfl rfl Try.underlying3 Try.underlying26 (by first | exact wrap_u32 (by omega) (by omega) | rfl)) ?_
      refine Jp.y 85 rfl (want_as rfl rfl rfl rfl) rfl rfl Kp.true (Y.add_ rfl rfl rfl (by first | exact wrap_u32 (by omega) (by omega) | rfl)) ?_
      refine Jp.y 86 rfl (want_as rfl rfl rfl rfl) rfl rfl Kp.true (Y.add_ rfl rfl rfl (by first | exact wrap_u32 (by omega) (by omega) | rfl)) ?_
      refine Jp.y 87 rfl (want_as rfl rfl rfl rfl) rfl rfl Kp.true (Y.move rfl rfl) ?_
      refine Jp.y 88 rfl (want_as rfl rfl rfl rfl) rfl rfl Kp.true (Y.leq rfl rfl rfl) ?_
      refine Jp.y 89 rfl (want_all rfl) rfl rfl Kp.true (Y.pickT rfl rfl rfl) ?_
      refine Jp.y 2 rfl (want_all rfl) rfl rfl Kp.true (Y.assign rfl rfl) ?_
      refine Jp.done hK19 ?_
      refine Cd.ret [] rfl (res1 rfl rfl) trivial ⟨congrArg Value.bool (decide_eq_true (by omega)), rfl⟩
  · have hq2 : q.page = [] ∧ q.sp = 0 ∧ q.places = [] ∧ q.err ≠ 0 := by
      rw [← hq, buildP]
      by_cases hg : goodS (xs.map str) = true
      · rw [if_pos hg, if_neg (fun h => hgood ⟨hg, h⟩)]; exact ⟨rfl, rfl, rfl, by simp⟩
      · rw [if_neg hg]; exact ⟨rfl, rfl, rfl, by simp⟩
    obtain ⟨h1, h2, h3, h4⟩ := hq2
    refine Jp.y 13 rfl (want_all rfl) rfl rfl Kp.true (Y.move rfl rfl) ?_
    refine Jp.y 16 rfl (want_all rfl) rfl rfl Kp.true (Y.extract rfl rfl rfl) ?_
    refine Jp.y 17 rfl (want_all rfl) rfl rfl Kp.true (Y.extract rfl rfl rfl) ?_
    refine Jp.y 18 rfl (want_all rfl) rfl rfl Kp.true (Y.extract rfl rfl rfl) ?_
    refine Jp.y 19 rfl (want_all rfl) rfl rfl Kp.true (Y.extract rfl rfl rfl) ?_
    refine Jp.y 3 rfl (want_all rfl) rfl rfl Kp.true (Y.assign rfl rfl) ?_
    refine Jp.y 4 rfl (want_all rfl) rfl rfl Kp.true (Y.assign rfl rfl) ?_
    refine Jp.y 5 rfl (want_all rfl) rfl rfl Kp.true (Y.assign rfl rfl) ?_
    refine Jp.y 6 rfl (want_all rfl) rfl rfl Kp.true (Y.assign rfl rfl) ?_
    refine Jp.done hK7 ?_
    refine Cd.seq fun K20 hK20 => ?_
    refine Cd.seq fun K21 hK21 => ?_
    refine Cd.plain [(0, false), (1, false)] rfl rfl ?_
    refine Jp.y 20 rfl (want_all rfl) rfl rfl Kp.true (Y.move rfl rfl) ?_
    refine Jp.y 21 rfl (want_all rfl) rfl rfl Kp.true (Y.neq rfl rfl rfl) ?_
    refine Jp.done hK21 ?_
    refine Cd.cond rfl (fun ge => ?_) (fun ge => ?_)
    · rw [h1, h2, h3]
      refine Cd.seq fun K22 hK22 => ?_
      refine Cd.plain [(0, false), (1, false), (2, false), (3, false), (4, false), (5, false), (6, false), (7, false), (8, false), (9, false), (10, false), (11, false), (12, false)] rfl rfl ?_
      refine Jp.y 22 rfl (want_all rfl) rfl rfl Kp.true (Y.move rfl rfl) ?_
      refine Jp.y 23 rfl (want_all rfl) rfl rfl Kp.true (Y.lenslice rfl Try.underlying25 rfl) ?_
      refine Jp.y 24 rfl (want_all rfl) rfl rfl Kp.true (Y.eql rfl rfl rfl) ?_
      refine Jp.y 25 rfl (want_all rfl) rfl rfl Kp.true (Y.move rfl rfl) ?_
      refine Jp.splitF 25 rfl (fun g25 => ?_) (fun g25 => ?_)
      · skip
        exact absurd g25 (by simp)
      try simp only [decide_eq_false_iff_not, decide_eq_true_eq, Int.not_lt, Int.not_le, Bool.not_eq_false, Bool.not_eq_true, Bool.not_true, Bool.not_false, Bool.not_eq_true', Bool.not_eq_false', beq_eq_false_iff_ne, ne_eq, beq_iff_eq, bne_iff_ne, Classical.not_not] at g25
      refine Jp.y 26 rfl (want_as rfl rfl rfl rfl) rfl rfl Kp.true (Y.move rfl rfl) ?_
      refine Jp.y 27 rfl (want_as rfl rfl rfl rfl) rfl rfl Kp.true (Y.eql rfl rfl rfl) ?_
      refine Jp.y 28 rfl (want_all rfl) rfl rfl Kp.true (Y.pickT rfl rfl rfl) ?_
      refine Jp.y 29 rfl (want_all rfl) rfl rfl Kp.true (Y.move rfl rfl) ?_
      refine Jp.splitF 29 rfl (fun g29 => ?_) (fun g29 => ?_)
      · skip
        exact absurd g29 (by simp)
      try simp only [decide_eq_false_iff_not, decide_eq_true_eq, Int.not_lt, Int.not_le, Bool.not_eq_false, Bool.not_eq_true, Bool.not_true, Bool.not_false, Bool.not_eq_true', Bool.not_eq_false', beq_eq_false_iff_ne, ne_eq, beq_iff_eq, bne_iff_ne, Classical.not_not] at g29
      refine Jp.y 30 rfl (want_as rfl rfl rfl rfl) rfl rfl Kp.true (Y.move rfl rfl) ?_
      refine Jp.y 31 rfl (want_as rfl rfl rfl rfl) rfl rfl Kp.true (Y.lenslice rfl Try.underlying27 rfl) ?_
      refine Jp.y 32 rfl (want_as rfl rfl rfl rfl) rfl rfl Kp.true (Y.eql rfl rfl rfl) ?_
      refine Jp.y 33 rfl (want_all rfl) rfl rfl Kp.true (Y.pickT rfl rfl rfl) ?_
      refine Jp.y 2 rfl (want_all rfl) rfl rfl Kp.true (Y.assign rfl rfl) ?_
      refine Jp.done hK22 ?_
      refine Cd.ret [] rfl (res1 rfl rfl) trivial ⟨rfl, rfl⟩
    · exact absurd ge (by simp; omega)
end Go.Proofs.Ytgfbdiibndbbjaa
