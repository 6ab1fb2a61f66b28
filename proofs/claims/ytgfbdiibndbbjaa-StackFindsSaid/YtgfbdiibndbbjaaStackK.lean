/- StackFinds. -/
import Derived.Test.YtgfbdiibndbbjaaStackJ
import Derived.Test.YtgfbdiibndbbjaaStackD
set_option linter.unusedVariables false
set_option linter.unusedSimpArgs false
set_option maxRecDepth 100000
namespace Go.Proofs.Ytgfbdiibndbbjaa
open Go
def base20 : MemG := (mapM (newM 20) 2147475456 4096 3).2
theorem base20_pg : ∀ k, k % 256 = 0 → 2147475456 ≤ k → k < 2147479552 → getPg base20.pages k = some ⟨List.replicate 256 0, 3⟩ := fun k h1 h2 h3 => by
  obtain ⟨j, hj, rfl⟩ : ∃ j, j < 16 ∧ k = 2147475456 + 256 * j := ⟨(k - 2147475456) / 256, by omega, by omega⟩
  have : j = 0 ∨ j = 1 ∨ j = 2 ∨ j = 3 ∨ j = 4 ∨ j = 5 ∨ j = 6 ∨ j = 7 ∨ j = 8 ∨ j = 9 ∨ j = 10 ∨ j = 11 ∨ j = 12 ∨ j = 13 ∨ j = 14 ∨ j = 15 := by omega
  rcases this with rfl | rfl | rfl | rfl | rfl | rfl | rfl | rfl | rfl | rfl | rfl | rfl | rfl | rfl | rfl | rfl <;> rfl
theorem laid20 {l : List Bytes} (hb : (buildP l).err = 0) (hn : l.length ≤ 20) : (textP l).length ≤ 3000 ∧ ∃ M2, layM (newM 20) l = ⟨2147475456 + spP l, placesP l l.length, 0, M2⟩ ∧ LaidM M2 (pageP l l.length) := by
  have hT : (textP l).length ≤ 3000 ∧ buildP l = ⟨pageP l l.length, 2147475456 + spP l, placesP l l.length, 0⟩ := by
    rw [buildP] at hb ⊢
    split at hb
    · rename_i hg
      split at hb
      · rename_i hT
        rw [if_pos hg, if_pos hT]; exact ⟨hT, rfl⟩
      · cases hb
    · cases hb
  obtain ⟨hT, hq⟩ := hT
  obtain ⟨f1, f2, f3⟩ := page_fit hT hn
  have hv := vecP_len l l.length
  have hl1 : (lay noughts (at0P l) (textP l)).length = 4096 := by rw [lay_length (by rw [noughts_length]; omega), noughts_length]
  have hl : (pageP l l.length).length = 4096 := by rw [pageP, lay_length (by rw [hl1]; omega), hl1]
  have hA : allM base20 2147475456 4096 0 = true := by decide +kernel
  have hM : (mapM (newM 20) 2147475456 4096 3).1 = 0 := by decide +kernel
  have hM2 : (mapM (newM 20) 2147475456 4096 3).2 = base20 := rfl
  have hW : writeM base20 2147475456 (pageP l l.length) 65536 0 = (0, wrM base20 2147475456 (pageP l l.length) 4096) := by
    rw [writeM, if_neg (by rw [hl]; omega), hl, if_neg (by rw [hA]; simp)]
  refine ⟨hT, wrM base20 2147475456 (pageP l l.length) 4096, ?_, ?_⟩
  · rw [layM, hq, hM, hM2]
    dsimp only
    rw [if_pos rfl, if_pos rfl, hW]; rfl
  · refine ⟨fun k h1 h2 h3 => ?_, fun j hj => ?_⟩
    · obtain ⟨q, q1, q2, q3⟩ := wrM_page 2147475456 (pageP l l.length) (base20_pg k h1 h2 h3) 4096
      exact ⟨q, q1, by rw [q3]; exact List.length_replicate, q2⟩
    · rw [byte_wrM (fun i hi => ⟨_, base20_pg _ (by unfold baseN; omega) (by unfold baseN; omega) (by unfold baseN; omega), List.length_replicate⟩), if_pos (by omega), Nat.add_sub_cancel_left]
theorem stackFinds_spec (s : Sl ByteArray) : Spec Try.prog 8 #[s.v] (RdStr s) [] (fun ρ ρ' v L => v = .bool true ∧ L = []) := by
  obtain ⟨A, c, xs⟩ := s
  dsimp only [Sl.v]
  refine Spec.of 131 Try.func8 rfl Try.ntmps8 [(0, _)] rfl rfl ?_
  intro cx ρ hr h0
  refine Cd.seq fun K1 hK1 => ?_
  refine Cd.plain [(0, false)] rfl rfl ?_
  refine Jp.y 2 rfl (want_all rfl) rfl rfl Kp.true (Y.assign rfl rfl) ?_
  refine Jp.done hK1 ?_
  refine Cd.seq fun K2 hK2 => ?_
  refine Cd.seq fun K3 hK3 => ?_
  refine Cd.plain [(0, false), (1, false)] rfl rfl ?_
  refine Jp.call [] [] f15_spec 19 rfl (want_all rfl) rfl rfl (Runs.fn rfl Try.call15 rfl) (by decide) (by decide) rfl trivial ?_
  rintro v1 ρ1 L1 ⟨rfl, rfl⟩
  refine ⟨rfl, fun hle1 => ⟨Kp.true, ?_⟩⟩
  have hr := RdStr.up _ _ _ hle1 hr
  refine Jp.y 20 rfl (want_all rfl) rfl rfl Kp.true (Y.not rfl rfl) ?_
  refine Jp.done hK3 ?_
  refine Cd.cond rfl (fun g20 => ?_) (fun g20 => ?_)
  · skip
    exact absurd g20 (by simp)
  try simp only [decide_eq_false_iff_not, decide_eq_true_eq, Int.not_lt, Int.not_le, Bool.not_eq_false, Bool.not_eq_true, Bool.not_true, Bool.not_false, Bool.not_eq_true', Bool.not_eq_false', beq_eq_false_iff_ne, ne_eq, beq_iff_eq, bne_iff_ne, bne_eq_false_iff_eq, Classical.not_not] at g20
  refine Cd.skip hK2 ?_
  refine Cd.seq fun K4 hK4 => ?_
  refine Cd.plain [(0, false), (1, false), (2, false), (3, false), (4, false), (5, false)] rfl rfl ?_
  refine Jp.call [] [0] (new_yes 20 (by omega)) 22 rfl (want_all rfl) rfl rfl (Runs.fn rfl Try.call19 rfl) (by decide) (by decide) rfl trivial ?_
  rintro v2 ρ2 L2 ⟨rfl, b, rfl, rfl⟩
  refine ⟨rfl, fun hle2 => ⟨Kp.true, ?_⟩⟩
  refine Jp.y 21 rfl (want_all rfl) rfl rfl Kp.true (Y.move rfl rfl) ?_
  refine Jp.y 23 rfl (want_all rfl) rfl rfl Kp.true (Y.extract rfl rfl rfl) ?_
  refine Jp.y 24 rfl (want_all rfl) rfl rfl Kp.true (Y.extract rfl rfl rfl) ?_
  refine Jp.y 3 rfl (want_all rfl) rfl rfl Kp.true (Y.assign rfl rfl) ?_
  refine Jp.y 4 rfl (want_all rfl) rfl rfl Kp.true (Y.assign rfl rfl) ?_
  refine Jp.done hK4 ?_
  refine Cd.seq fun K5 hK5 => ?_
  refine Cd.seq fun K6 hK6 => ?_
  refine Cd.plain [(0, false), (1, false)] rfl rfl ?_
  refine Jp.y 25 rfl (want_all rfl) rfl rfl Kp.true (Y.move rfl rfl) ?_
  refine Jp.call [] [] (f16_spec ⟨A, c, xs⟩) 26 rfl (want_all rfl) rfl rfl (Runs.fn rfl Try.call16 rfl) (by decide) (by decide) rfl hr ?_
  rintro v3 ρ3 L3 ⟨rfl, ⟨gr, rfl, hgr⟩, rfl⟩
  refine ⟨rfl, fun hle3 => ⟨Kp.true, ?_⟩⟩
  refine Jp.done hK6 ?_
  refine Cd.cond rfl (fun g26 => ?_) (fun g26 => ?_)
  · skip
    refine Cd.seq fun K7 hK7 => ?_
    refine Cd.plain [(0, false)] rfl rfl ?_
    refine Jp.y 2 rfl (want_all rfl) rfl rfl Kp.true (Y.assign rfl rfl) ?_
    refine Jp.done hK7 ?_
    refine Cd.ret [] rfl (res1 rfl rfl) trivial ⟨rfl, rfl⟩
  try simp only [decide_eq_false_iff_not, decide_eq_true_eq, Int.not_lt, Int.not_le, Bool.not_eq_false, Bool.not_eq_true, Bool.not_true, Bool.not_false, Bool.not_eq_true', Bool.not_eq_false', beq_eq_false_iff_ne, ne_eq, beq_iff_eq, bne_iff_ne, bne_eq_false_iff_eq, Classical.not_not] at g26
  refine Cd.skip hK5 ?_
  refine Cd.seq fun K8 hK8 => ?_
  refine Cd.plain [(0, false), (1, false), (2, false), (3, false), (4, false), (5, false), (6, false), (7, false), (8, false), (9, false)] rfl rfl ?_
  obtain ⟨hn, hs⟩ := hgr g26
  have hn : xs.length ≤ 20 := hn
  have hs : ∀ a ∈ xs, a.size ≤ 400 := hs
  have hml : (xs.map str).length = xs.length := List.length_map ..
  refine Jp.y 28 rfl (want_all rfl) rfl rfl Kp.true (Y.move rfl rfl) ?_
  refine Jp.y 29 rfl (want_all rfl) rfl rfl Kp.true (Y.move rfl rfl) ?_
  refine Jp.call [0] [0, 1] (lay_spec b (newM 20) ⟨A, c, xs⟩ hn hs) 30 rfl (want_all rfl) rfl rfl (Runs.fn rfl Try.call28 rfl) (by decide) (by decide) rfl hr ?_
  rintro v4 ρ4 L4 ⟨A4, c4, rfl, rfl⟩
  refine ⟨rfl, fun hle4 => ⟨Kp.true, ?_⟩⟩
  have hr := RdStr.up _ _ _ hle4 hr
  by_cases hb : (buildP (xs.map str)).err = 0
  · obtain ⟨hT, M2, hL, hM⟩ := laid20 hb (by omega)
    have hL : layM (newM 20) ((⟨A, c, xs⟩ : Sl ByteArray).xs.map str) = _ := hL
    rw [hL]
    dsimp only
    obtain ⟨f1, f2, f3⟩ := page_fit hT (by omega)
    have hwd : ∀ i, i < xs.length + 3 → loadM M2 (2147475456 + (spP (xs.map str) + 4 * i)) 4 1 = (wordP (xs.map str) i, 0) := fun i hi => by
      refine hM.load (by omega) (by omega) ?_ (fun r hr => page_word hT (by omega) (by omega) hr)
      unfold wordP
      split
      · omega
      · split
        · have h2 : (textP ((xs.map str).take (i - 1))).length ≤ (textP (xs.map str)).length := by
            have := congrArg (fun l => (textP l).length) (List.take_append_drop (i - 1) (xs.map str))
            simp only [textP, List.flatMap_append, List.length_append] at this
            simp only [textP]; omega
          rw [addrP]; omega
        · omega
    have hw0 := hwd 0 (by omega)
    rw [show 2147475456 + (spP (xs.map str) + 4 * 0) = 2147475456 + spP (xs.map str) by omega, show wordP (xs.map str) 0 = xs.length by rw [wordP, if_pos rfl, hml]] at hw0
    refine Jp.y 27 rfl (want_all rfl) rfl rfl Kp.true (Y.move rfl rfl) ?_
    refine Jp.y 31 rfl (want_all rfl) rfl rfl Kp.true (Y.extract rfl rfl rfl) ?_
    refine Jp.y 32 rfl (want_all rfl) rfl rfl Kp.true (Y.extract rfl rfl rfl) ?_
    refine Jp.y 33 rfl (want_all rfl) rfl rfl Kp.true (Y.extract rfl rfl rfl) ?_
    refine Jp.y 5 rfl (want_all rfl) rfl rfl Kp.true (Y.assign rfl rfl) ?_
    refine Jp.y 6 rfl (want_all rfl) rfl rfl Kp.true (Y.assign rfl rfl) ?_
    refine Jp.y 7 rfl (want_all rfl) rfl rfl Kp.true (Y.assign rfl rfl) ?_
    refine Jp.done hK8 ?_
    refine Cd.seq fun K9 hK9 => ?_
    refine Cd.seq fun K10 hK10 => ?_
    refine Cd.plain [(0, false), (1, false)] rfl rfl ?_
    refine Jp.y 34 rfl (want_all rfl) rfl rfl Kp.true (Y.move rfl rfl) ?_
    refine Jp.y 35 rfl (want_all rfl) rfl rfl Kp.true (Y.neq rfl rfl rfl) ?_
    refine Jp.done hK10 ?_
    refine Cd.cond rfl (fun g35 => ?_) (fun g35 => ?_)
    · skip
      exact absurd g35 (by simp)
    try simp only [decide_eq_false_iff_not, decide_eq_true_eq, Int.not_lt, Int.not_le, Bool.not_eq_false, Bool.not_eq_true, Bool.not_true, Bool.not_false, Bool.not_eq_true', Bool.not_eq_false', beq_eq_false_iff_ne, ne_eq, beq_iff_eq, bne_iff_ne, bne_eq_false_iff_eq, Classical.not_not] at g35
    refine Cd.skip hK9 ?_
    refine Cd.seq fun K11 hK11 => ?_
    refine Cd.plain [(0, false), (1, false), (2, false), (3, false), (4, false), (5, false), (6, false), (7, false)] rfl rfl ?_
    refine Jp.y 37 rfl (want_all rfl) rfl rfl Kp.true (Y.move rfl rfl) ?_
    refine Jp.y 38 rfl (want_all rfl) rfl rfl Kp.true (Y.move rfl rfl) ?_
    refine Jp.call [0] [0] (load_eq (by omega) hw0) 39 rfl (want_all rfl) rfl rfl (Runs.fn rfl Try.call22 rfl) (by decide) (by decide) rfl trivial ?_
    rintro v5 ρ5 L5 ⟨rfl, rfl, rfl⟩
    refine ⟨rfl, fun hle5 => ⟨Kp.true, ?_⟩⟩
    refine Jp.y 36 rfl (want_all rfl) rfl rfl Kp.true (Y.move rfl rfl) ?_
    refine Jp.y 40 rfl (want_all rfl) rfl rfl Kp.true (Y.extract rfl rfl rfl) ?_
    refine Jp.y 41 rfl (want_all rfl) rfl rfl Kp.true (Y.extract rfl rfl rfl) ?_
    refine Jp.y 8 rfl (want_all rfl) rfl rfl Kp.true (Y.assign rfl rfl) ?_
    refine Jp.y 9 rfl (want_all rfl) rfl rfl Kp.true (Y.assign rfl rfl) ?_
    refine Jp.done hK11 ?_
    refine Cd.seq fun K12 hK12 => ?_
    refine Cd.seq fun K13 hK13 => ?_
    refine Cd.plain [(0, false), (1, false), (2, false), (3, false), (4, false), (5, false), (6, false), (7, false), (8, false), (9, false), (10, false), (11, false), (12, false), (13, false)] rfl rfl ?_
    refine Jp.y 42 rfl (want_all rfl) rfl rfl Kp.true (Y.move rfl rfl) ?_
    refine Jp.y 43 rfl (want_all rfl) rfl rfl Kp.true (Y.neq rfl rfl rfl) ?_
    refine Jp.y 44 rfl (want_all rfl) rfl rfl Kp.true (Y.move rfl rfl) ?_
    refine Jp.split 44 rfl (fun g44 => ?_) (fun g44 => ?_)
    · skip
      exact absurd g44 (by first | (simp; done) | (simp; omega))
    try simp only [decide_eq_false_iff_not, decide_eq_true_eq, Int.not_lt, Int.not_le, Bool.not_eq_false, Bool.not_eq_true, Bool.not_true, Bool.not_false, Bool.not_eq_true', Bool.not_eq_false', beq_eq_false_iff_ne, ne_eq, beq_iff_eq, bne_iff_ne, bne_eq_false_iff_eq, Classical.not_not] at g44
    refine Jp.y 45 rfl (want_as rfl rfl rfl rfl) rfl rfl Kp.true (Y.move rfl rfl) ?_
    refine Jp.y 46 rfl (want_as rfl rfl rfl rfl) rfl rfl Kp.true (Y.conv_ rfl rfl Try.underlying26 Try.underlying3 (by first | exact wrap_i64 (by omega) (by omega) | rfl)) ?_
    refine Jp.y 47 rfl (want_as rfl rfl rfl rfl) rfl rfl Kp.true (Y.move rfl rfl) ?_
    refine Jp.y 48 rfl (want_as rfl rfl rfl rfl) rfl rfl Kp.true (Y.lenslice rfl Try.underlying22 rfl) ?_
    refine Jp.y 49 rfl (want_as rfl rfl rfl rfl) rfl rfl Kp.true (Y.neq rfl rfl rfl) ?_
    refine Jp.y 50 rfl (want_all rfl) rfl rfl Kp.true (Y.pickF rfl rfl rfl) ?_
    refine Jp.y 51 rfl (want_all rfl) rfl rfl Kp.true (Y.move rfl rfl) ?_
    refine Jp.split 51 rfl (fun g51 => ?_) (fun g51 => ?_)
    · skip
      exact absurd g51 (by first | (simp; done) | (simp; omega))
    try simp only [decide_eq_false_iff_not, decide_eq_true_eq, Int.not_lt, Int.not_le, Bool.not_eq_false, Bool.not_eq_true, Bool.not_true, Bool.not_false, Bool.not_eq_true', Bool.not_eq_false', beq_eq_false_iff_ne, ne_eq, beq_iff_eq, bne_iff_ne, bne_eq_false_iff_eq, Classical.not_not] at g51
    refine Jp.y 52 rfl (want_as rfl rfl rfl rfl) rfl rfl Kp.true (Y.move rfl rfl) ?_
    refine Jp.y 53 rfl (want_as rfl rfl rfl rfl) rfl rfl Kp.true (by first | exact Y.remN rfl rfl rfl (by omega) (by omega) | exact Y.rem rfl rfl rfl (by first | decide | omega)) ?_
    refine Jp.y 54 rfl (want_as rfl rfl rfl rfl) rfl rfl Kp.true (Y.neq rfl rfl rfl) ?_
    refine Jp.y 55 rfl (want_all rfl) rfl rfl Kp.true (Y.pickF rfl rfl rfl) ?_
    refine Jp.done hK13 ?_
    refine Cd.cond rfl (fun g55 => ?_) (fun g55 => ?_)
    · skip
      exact absurd g55 (by first | (simp; done) | (simp; omega))
    try simp only [decide_eq_false_iff_not, decide_eq_true_eq, Int.not_lt, Int.not_le, Bool.not_eq_false, Bool.not_eq_true, Bool.not_true, Bool.not_false, Bool.not_eq_true', Bool.not_eq_false', beq_eq_false_iff_ne, ne_eq, beq_iff_eq, bne_iff_ne, bne_eq_false_iff_eq, Classical.not_not] at g55
    refine Cd.skip hK12 ?_
    refine Cd.seq fun K14 hK14 => ?_
    refine Cd.seq fun K15 hK15 => ?_
    refine Cd.plain [(0, false)] rfl rfl ?_
    refine Jp.y 10 rfl (want_all rfl) rfl rfl Kp.true (Y.assign rfl rfl) ?_
    refine Jp.done hK15 ?_
    refine Cd.block ?_
    refine Cd.loopK (G := Nat) (fun k => k ≤ xs.length) (fun k => xs.length - k) (fun _ => _) (fun k => [(10, .int .i64 (k : Int))]) [(0, _), (3, _), (5, _)] (fun _ => []) [(0, _)] 0 (Nat.zero_le _) rfl ⟨rfl, trivial⟩ ⟨rfl, rfl, rfl, trivial⟩ trivial ⟨rfl, trivial⟩ (fun g KLa hok hLa => ?_)
    have hg : g ≤ xs.length := hok
    refine Cd.seq fun K16 hK16 => ?_
    refine Cd.seq fun K17 hK17 => ?_
    refine Cd.plain [(0, false), (1, false), (2, false), (3, false)] rfl rfl ?_
    refine Jp.y 56 rfl (want_all rfl) rfl rfl Kp.true (Y.move rfl rfl) ?_
    refine Jp.y 57 rfl (want_all rfl) rfl rfl Kp.true (Y.move rfl rfl) ?_
    refine Jp.y 58 rfl (want_all rfl) rfl rfl Kp.true (Y.lenslice rfl Try.underlying22 rfl) ?_
    refine Jp.y 59 rfl (want_all rfl) rfl rfl Kp.true (Y.lss rfl rfl rfl) ?_
    refine Jp.done hK17 ?_
    refine Cd.cond rfl (fun ga => ?_) (fun ga => ?_)
    · simp only [decide_eq_true_eq] at ga
      have hi : g < xs.length := by omega
      obtain ⟨ad, rfl⟩ := hr.some (show 0 < xs.length * 1 by omega)
      have hcell : cellH ρ5 (ad.add g) = some (.string xs[g]) := hr.cell (by simp [strsV, hi])
      have hz := hs xs[g] (List.getElem_mem hi)
      have hz2 := str_size xs[g]
      have hwg := hwd (g + 1) (by omega)
      have hwe : wordP (xs.map str) (g + 1) = addrP (xs.map str) g := by rw [wordP, if_neg (by omega), if_pos (by omega)]; rfl
      rw [hwe] at hwg
      have hrd : readM M2 (addrP (xs.map str) g) ((xs[g].size : Int) + 1) = (str xs[g] ++ [0], 0) := by
        have := hM.read hT (by omega) (i := g) (by omega)
        rw [List.getElem_map, ← hz2] at this; exact this
      have hab : addrP (xs.map str) g < 4294967296 := by
        have h2 : (textP ((xs.map str).take g)).length ≤ (textP (xs.map str)).length := by
          have := congrArg (fun l => (textP l).length) (List.take_append_drop g (xs.map str))
          simp only [textP, List.flatMap_append, List.length_append] at this
          simp only [textP]; omega
        rw [addrP]; omega
      refine Cd.skip hK16 ?_
      refine Cd.seq fun K18 hK18 => ?_
      refine Cd.block ?_
      refine Cd.seq fun K19 hK19 => ?_
      refine Cd.plain [(0, false), (1, false), (2, false), (3, false), (4, false), (5, false), (6, false), (7, false), (8, false), (9, false), (10, false), (11, false), (12, false)] rfl rfl ?_
      refine Jp.y 63 rfl (want_all rfl) rfl rfl Kp.true (Y.move rfl rfl) ?_
      refine Jp.y 64 rfl (want_all rfl) rfl rfl Kp.true (Y.move rfl rfl) ?_
      refine Jp.y 65 rfl (want_all rfl) rfl rfl Kp.true (Y.move rfl rfl) ?_
      refine Jp.y 66 rfl (want_all rfl) rfl rfl Kp.true (Y.mul_ rfl rfl rfl (by first | exact wrap_i64 (by omega) (by omega) | rfl)) ?_
      refine Jp.y 67 rfl (want_all rfl) rfl rfl Kp.true (Y.add_ rfl rfl rfl (by first | exact wrap_i64 (by omega) (by omega) | rfl)) ?_
      refine Jp.y 68 rfl (want_all rfl) rfl rfl Kp.true (Y.conv_ rfl rfl Try.underlying3 Try.underlying26 (by first | exact wrap_u32 (by omega) (by omega) | rfl)) ?_
      refine Jp.y 69 rfl (want_all rfl) rfl rfl Kp.true (Y.add_ rfl rfl rfl (by first | exact wrap_u32 (by omega) (by omega) | rfl)) ?_
      refine Jp.slot 69 rfl (show _ = Value.int .u32 ((2147475456 + (spP (xs.map str) + 4 * (g + 1)) : Nat) : Int) from congrArg (Value.int .u32) (by omega)) ?_
      refine Jp.call [0] [0] (load_eq (by omega) hwg) 70 rfl (want_all rfl) rfl rfl (Runs.fn rfl Try.call22 rfl) (by decide) (by decide) rfl trivial ?_
      rintro v6 ρ6 L6 ⟨rfl, rfl, rfl⟩
      refine ⟨rfl, fun hle6 => ⟨Kp.true, ?_⟩⟩
      refine Jp.y 62 rfl (want_all rfl) rfl rfl Kp.true (Y.move rfl rfl) ?_
      refine Jp.y 71 rfl (want_all rfl) rfl rfl Kp.true (Y.extract rfl rfl rfl) ?_
      refine Jp.y 72 rfl (want_all rfl) rfl rfl Kp.true (Y.extract rfl rfl rfl) ?_
      refine Jp.y 11 rfl (want_all rfl) rfl rfl Kp.true (Y.assign rfl rfl) ?_
      refine Jp.y 12 rfl (want_all rfl) rfl rfl Kp.true (Y.assign rfl rfl) ?_
      refine Jp.done hK19 ?_
      refine Cd.seq fun K20 hK20 => ?_
      refine Cd.plain [(0, false), (1, false), (2, false), (3, false), (4, false), (5, false), (6, false), (7, false), (8, false), (9, false), (10, false), (11, false), (12, false), (13, false)] rfl rfl ?_
      refine Jp.y 74 rfl (want_all rfl) rfl rfl Kp.true (Y.move rfl rfl) ?_
      refine Jp.y 75 rfl (want_all rfl) rfl rfl Kp.true (Y.move rfl rfl) ?_
      refine Jp.y 76 rfl (want_all rfl) rfl rfl Kp.true (Y.move rfl rfl) ?_
      refine Jp.y 77 rfl (want_all rfl) rfl rfl Kp.true (Y.move rfl rfl) ?_
      refine Jp.y 78 rfl (want_all rfl) rfl rfl Kp.true (Y.indexAddr (q := g) rfl rfl rfl Try.underlying22 Try.sizeOf9 (by omega) (by omega) (by omega)) ?_
      refine Jp.y 79 rfl (want_all rfl) rfl rfl Kp.true (Y.loadR rfl Try.isAgg9 rfl hcell) ?_
      refine Jp.y 80 rfl (want_all rfl) rfl rfl Kp.true (Y.lenstr rfl Try.underlying9 rfl) ?_
      refine Jp.y 81 rfl (want_all rfl) rfl rfl Kp.true (Y.add_ rfl rfl rfl (by first | exact wrap_i64 (by omega) (by omega) | rfl)) ?_
      refine Jp.call [0] [0, 5] (read_eq hab hrd) 82 rfl (want_all rfl) rfl rfl (Runs.fn rfl Try.call23 rfl) (by decide) (by decide) rfl trivial ?_
      rintro v7 ρ7 L7 ⟨rfl, A7, c7, rfl, rfl⟩
      refine ⟨rfl, fun hle7 => ⟨Kp.true, ?_⟩⟩
      refine Jp.y 73 rfl (want_all rfl) rfl rfl Kp.true (Y.move rfl rfl) ?_
      refine Jp.y 83 rfl (want_all rfl) rfl rfl Kp.true (Y.extract rfl rfl rfl) ?_
      refine Jp.y 84 rfl (want_all rfl) rfl rfl Kp.true (Y.extract rfl rfl rfl) ?_
      refine Jp.y 13 rfl (want_all rfl) rfl rfl Kp.true (Y.assign rfl rfl) ?_
      refine Jp.y 14 rfl (want_all rfl) rfl rfl Kp.true (Y.assign rfl rfl) ?_
      refine Jp.done hK20 ?_
      refine Cd.seq fun K21 hK21 => ?_
      refine Cd.drawn [(0, _), (5, _)] ⟨rfl, rfl, trivial⟩ [(0, true), (1, true), (2, true), (3, true), (4, true), (5, true), (6, true), (7, true), (8, true), (9, true), (10, true), (11, true), (12, true), (13, true), (14, true), (15, true)] follows (by kernel_rfl) (fun hrl => ?_)
      refine Jp.q 85 rfl (want_all rfl) rfl rfl (Y.move rfl rfl) ?_
      refine Jp.q 86 rfl (want_all rfl) rfl rfl (Y.neq rfl rfl rfl) ?_
      refine Jp.q 87 rfl (want_all rfl) rfl rfl (Y.move rfl rfl) ?_
      refine Jp.split 87 rfl (fun g87 => ?_) (fun g87 => ?_)
      · skip
        exact absurd g87 (by simp)
      try simp only [decide_eq_false_iff_not, decide_eq_true_eq, Int.not_lt, Int.not_le, Bool.not_eq_false, Bool.not_eq_true, Bool.not_true, Bool.not_false, Bool.not_eq_true', Bool.not_eq_false', beq_eq_false_iff_ne, ne_eq, beq_iff_eq, bne_iff_ne, bne_eq_false_iff_eq, Classical.not_not] at g87
      refine Jp.q 88 rfl (want_as rfl rfl rfl rfl) rfl rfl (Y.move rfl rfl) ?_
      refine Jp.q 89 rfl (want_as rfl rfl rfl rfl) rfl rfl (Y.neq rfl rfl rfl) ?_
      refine Jp.q 90 rfl (want_all rfl) rfl rfl (Y.pickF rfl rfl rfl) ?_
      refine Jp.q 91 rfl (want_all rfl) rfl rfl (Y.move rfl rfl) ?_
      refine Jp.split 91 rfl (fun g91 => ?_) (fun g91 => ?_)
      · skip
        exact absurd g91 (by simp)
      try simp only [decide_eq_false_iff_not, decide_eq_true_eq, Int.not_lt, Int.not_le, Bool.not_eq_false, Bool.not_eq_true, Bool.not_true, Bool.not_false, Bool.not_eq_true', Bool.not_eq_false', beq_eq_false_iff_ne, ne_eq, beq_iff_eq, bne_iff_ne, bne_eq_false_iff_eq, Classical.not_not] at g91
      refine Jp.q 92 rfl (want_as rfl rfl rfl rfl) rfl rfl (Y.move rfl rfl) ?_
      refine Jp.q 93 rfl (want_as rfl rfl rfl rfl) rfl rfl (Y.toStr _ rfl rfl Try.underlying25 Try.underlying9 Try.underlying5 ⟨_, _, rfl⟩ (Src.own 5 rfl)) ?_
      refine Jp.q 94 rfl (want_as rfl rfl rfl rfl) rfl rfl (Y.move rfl rfl) ?_
      refine Jp.q 95 rfl (want_as rfl rfl rfl rfl) rfl rfl (Y.move rfl rfl) ?_
      refine Jp.q 96 rfl (want_as rfl rfl rfl rfl) rfl rfl (Y.indexAddr (q := g) rfl rfl rfl Try.underlying22 Try.sizeOf9 (by omega) (by omega) (by omega)) ?_
      refine Jp.q 97 rfl (want_as rfl rfl rfl rfl) rfl rfl (Y.loadR rfl Try.isAgg9 rfl hcell) ?_
      refine Jp.q 98 rfl (want_as rfl rfl rfl rfl) rfl rfl (Y.stradd' rfl rfl rfl (show (str xs[g]).length + 1 ≤ 9223372036854775807 by omega)) ?_
      refine Jp.q 99 rfl (want_as rfl rfl rfl rfl) rfl rfl (Y.strneq rfl rfl rfl) ?_
      refine Jp.q 100 rfl (want_all rfl) rfl rfl (Y.pickF rfl rfl rfl) ?_
      refine Jp.done hK21 ?_
      refine Cd.cond rfl (fun g100 => ?_) (fun g100 => ?_)
      · skip
        exact absurd g100 (by rw [str_mkS, str_mkS, show str ⟨#[0]⟩ = [0] from rfl]; simp)
      try simp only [decide_eq_false_iff_not, decide_eq_true_eq, Int.not_lt, Int.not_le, Bool.not_eq_false, Bool.not_eq_true, Bool.not_true, Bool.not_false, Bool.not_eq_true', Bool.not_eq_false', beq_eq_false_iff_ne, ne_eq, beq_iff_eq, bne_iff_ne, bne_eq_false_iff_eq, Classical.not_not] at g100
      refine Cd.over rfl hK18 ?_
      refine Cd.plain [(0, false), (1, false), (2, false)] rfl rfl ?_
      refine Jp.y 60 rfl (want_all rfl) rfl rfl Kp.true (Y.move rfl rfl) ?_
      refine Jp.y 61 rfl (want_all rfl) rfl rfl Kp.true (Y.add_ rfl rfl rfl (by first | exact wrap_i64 (by omega) (by omega) | rfl)) ?_
      refine Jp.y 10 rfl (want_all rfl) rfl rfl Kp.true (Y.assign rfl rfl) ?_
      rw [show (g : Int) + 1 = ((g + 1 : Nat) : Int) by omega]
      refine Jp.again hLa (g + 1) (show g + 1 ≤ xs.length by omega) (show xs.length - (g + 1) < xs.length - g by omega) rfl ⟨rfl, rfl, rfl, rfl, trivial⟩ ⟨rfl, trivial⟩
    · simp only [decide_eq_false_iff_not] at ga
      obtain rfl : g = xs.length := by omega
      have hw1 := hwd (xs.length + 1) (by omega)
      have hw2 := hwd (xs.length + 2) (by omega)
      rw [show wordP (xs.map str) (xs.length + 1) = 0 by rw [wordP, if_neg (by omega), if_neg (by omega)]] at hw1
      rw [show wordP (xs.map str) (xs.length + 2) = 0 by rw [wordP, if_neg (by omega), if_neg (by omega)]] at hw2
      refine Cd.exit rfl hK14 ?_
      refine Cd.seq fun K23 hK23 => ?_
      refine Cd.plain [(0, false), (1, false), (2, false), (3, false), (4, false), (5, false), (6, false), (7, false), (8, false), (9, false), (10, false), (11, false), (12, false), (13, false)] rfl rfl ?_
      refine Jp.y 102 rfl (want_all rfl) rfl rfl Kp.true (Y.move rfl rfl) ?_
      refine Jp.y 103 rfl (want_all rfl) rfl rfl Kp.true (Y.move rfl rfl) ?_
      refine Jp.y 104 rfl (want_all rfl) rfl rfl Kp.true (Y.move rfl rfl) ?_
      refine Jp.y 105 rfl (want_all rfl) rfl rfl Kp.true (Y.lenslice rfl Try.underlying22 rfl) ?_
      refine Jp.y 106 rfl (want_all rfl) rfl rfl Kp.true (Y.mul_ rfl rfl rfl (by first | exact wrap_i64 (by omega) (by omega) | rfl)) ?_
      refine Jp.y 107 rfl (want_all rfl) rfl rfl Kp.true (Y.add_ rfl rfl rfl (by first | exact wrap_i64 (by omega) (by omega) | rfl)) ?_
      refine Jp.y 108 rfl (want_all rfl) rfl rfl Kp.true (Y.conv_ rfl rfl Try.underlying3 Try.underlying26 (by first | exact wrap_u32 (by omega) (by omega) | rfl)) ?_
      refine Jp.y 109 rfl (want_all rfl) rfl rfl Kp.true (Y.add_ rfl rfl rfl (by first | exact wrap_u32 (by omega) (by omega) | rfl)) ?_
      refine Jp.slot 109 rfl (show _ = Value.int .u32 ((2147475456 + (spP (xs.map str) + 4 * (xs.length + 1)) : Nat) : Int) from congrArg (Value.int .u32) (by omega)) ?_
      refine Jp.call [0] [0] (load_eq (by omega) hw1) 110 rfl (want_all rfl) rfl rfl (Runs.fn rfl Try.call22 rfl) (by decide) (by decide) rfl trivial ?_
      rintro v8 ρ8 L8 ⟨rfl, rfl, rfl⟩
      refine ⟨rfl, fun hle8 => ⟨Kp.true, ?_⟩⟩
      refine Jp.y 101 rfl (want_all rfl) rfl rfl Kp.true (Y.move rfl rfl) ?_
      refine Jp.y 111 rfl (want_all rfl) rfl rfl Kp.true (Y.extract rfl rfl rfl) ?_
      refine Jp.y 112 rfl (want_all rfl) rfl rfl Kp.true (Y.extract rfl rfl rfl) ?_
      refine Jp.y 15 rfl (want_all rfl) rfl rfl Kp.true (Y.assign rfl rfl) ?_
      refine Jp.y 16 rfl (want_all rfl) rfl rfl Kp.true (Y.assign rfl rfl) ?_
      refine Jp.done hK23 ?_
      refine Cd.seq fun K24 hK24 => ?_
      refine Cd.plain [(0, false), (1, false), (2, false), (3, false), (4, false), (5, false), (6, false), (7, false), (8, false), (9, false), (10, false), (11, false), (12, false), (13, false)] rfl rfl ?_
      refine Jp.y 114 rfl (want_all rfl) rfl rfl Kp.true (Y.move rfl rfl) ?_
      refine Jp.y 115 rfl (want_all rfl) rfl rfl Kp.true (Y.move rfl rfl) ?_
      refine Jp.y 116 rfl (want_all rfl) rfl rfl Kp.true (Y.move rfl rfl) ?_
      refine Jp.y 117 rfl (want_all rfl) rfl rfl Kp.true (Y.lenslice rfl Try.underlying22 rfl) ?_
      refine Jp.y 118 rfl (want_all rfl) rfl rfl Kp.true (Y.mul_ rfl rfl rfl (by first | exact wrap_i64 (by omega) (by omega) | rfl)) ?_
      refine Jp.y 119 rfl (want_all rfl) rfl rfl Kp.true (Y.add_ rfl rfl rfl (by first | exact wrap_i64 (by omega) (by omega) | rfl)) ?_
      refine Jp.y 120 rfl (want_all rfl) rfl rfl Kp.true (Y.conv_ rfl rfl Try.underlying3 Try.underlying26 (by first | exact wrap_u32 (by omega) (by omega) | rfl)) ?_
      refine Jp.y 121 rfl (want_all rfl) rfl rfl Kp.true (Y.add_ rfl rfl rfl (by first | exact wrap_u32 (by omega) (by omega) | rfl)) ?_
      refine Jp.slot 121 rfl (show _ = Value.int .u32 ((2147475456 + (spP (xs.map str) + 4 * (xs.length + 2)) : Nat) : Int) from congrArg (Value.int .u32) (by omega)) ?_
      refine Jp.call [0] [0] (load_eq (by omega) hw2) 122 rfl (want_all rfl) rfl rfl (Runs.fn rfl Try.call22 rfl) (by decide) (by decide) rfl trivial ?_
      rintro v9 ρ9 L9 ⟨rfl, rfl, rfl⟩
      refine ⟨rfl, fun hle9 => ⟨Kp.true, ?_⟩⟩
      refine Jp.y 113 rfl (want_all rfl) rfl rfl Kp.true (Y.move rfl rfl) ?_
      refine Jp.y 123 rfl (want_all rfl) rfl rfl Kp.true (Y.extract rfl rfl rfl) ?_
      refine Jp.y 124 rfl (want_all rfl) rfl rfl Kp.true (Y.extract rfl rfl rfl) ?_
      refine Jp.y 17 rfl (want_all rfl) rfl rfl Kp.true (Y.assign rfl rfl) ?_
      refine Jp.y 18 rfl (want_all rfl) rfl rfl Kp.true (Y.assign rfl rfl) ?_
      refine Jp.done hK24 ?_
      refine Cd.seq fun K25 hK25 => ?_
      refine Cd.plain [(0, false), (1, false), (2, false), (3, false), (4, false), (5, false), (6, false)] rfl rfl ?_
      refine Jp.y 125 rfl (want_all rfl) rfl rfl Kp.true (Y.move rfl rfl) ?_
      refine Jp.y 126 rfl (want_all rfl) rfl rfl Kp.true (Y.eql rfl rfl rfl) ?_
      refine Jp.y 127 rfl (want_all rfl) rfl rfl Kp.true (Y.move rfl rfl) ?_
      refine Jp.splitF 127 rfl (fun g127 => ?_) (fun g127 => ?_)
      · skip
        exact absurd g127 (by simp)
      try simp only [decide_eq_false_iff_not, decide_eq_true_eq, Int.not_lt, Int.not_le, Bool.not_eq_false, Bool.not_eq_true, Bool.not_true, Bool.not_false, Bool.not_eq_true', Bool.not_eq_false', beq_eq_false_iff_ne, ne_eq, beq_iff_eq, bne_iff_ne, bne_eq_false_iff_eq, Classical.not_not] at g127
      refine Jp.y 128 rfl (want_as rfl rfl rfl rfl) rfl rfl Kp.true (Y.move rfl rfl) ?_
      refine Jp.y 129 rfl (want_as rfl rfl rfl rfl) rfl rfl Kp.true (Y.eql rfl rfl rfl) ?_
      refine Jp.y 130 rfl (want_all rfl) rfl rfl Kp.true (Y.pickT rfl rfl rfl) ?_
      refine Jp.y 2 rfl (want_all rfl) rfl rfl Kp.true (Y.assign rfl rfl) ?_
      refine Jp.done hK25 ?_
      refine Cd.ret [] rfl (res1 rfl rfl) trivial ⟨rfl, rfl⟩
  · obtain ⟨q, hq⟩ : ∃ q, buildP (xs.map str) = q := ⟨_, rfl⟩
    have hL : layM (newM 20) ((⟨A, c, xs⟩ : Sl ByteArray).xs.map str) = ⟨0, [], q.err, newM 20⟩ := by
      show layM (newM 20) (xs.map str) = _
      rw [layM, if_neg hb, hq]
    rw [hq] at hb
    rw [hL]
    dsimp only
    refine Jp.y 27 rfl (want_all rfl) rfl rfl Kp.true (Y.move rfl rfl) ?_
    refine Jp.y 31 rfl (want_all rfl) rfl rfl Kp.true (Y.extract rfl rfl rfl) ?_
    refine Jp.y 32 rfl (want_all rfl) rfl rfl Kp.true (Y.extract rfl rfl rfl) ?_
    refine Jp.y 33 rfl (want_all rfl) rfl rfl Kp.true (Y.extract rfl rfl rfl) ?_
    refine Jp.y 5 rfl (want_all rfl) rfl rfl Kp.true (Y.assign rfl rfl) ?_
    refine Jp.y 6 rfl (want_all rfl) rfl rfl Kp.true (Y.assign rfl rfl) ?_
    refine Jp.y 7 rfl (want_all rfl) rfl rfl Kp.true (Y.assign rfl rfl) ?_
    refine Jp.done hK8 ?_
    refine Cd.seq fun K26 hK26 => ?_
    refine Cd.seq fun K27 hK27 => ?_
    refine Cd.plain [(0, false), (1, false)] rfl rfl ?_
    refine Jp.y 34 rfl (want_all rfl) rfl rfl Kp.true (Y.move rfl rfl) ?_
    refine Jp.y 35 rfl (want_all rfl) rfl rfl Kp.true (Y.neq rfl rfl rfl) ?_
    refine Jp.done hK27 ?_
    refine Cd.cond rfl (fun ge => ?_) (fun ge => ?_)
    · skip
      refine Cd.seq fun K28 hK28 => ?_
      refine Cd.plain [(0, false)] rfl rfl ?_
      refine Jp.y 2 rfl (want_all rfl) rfl rfl Kp.true (Y.assign rfl rfl) ?_
      refine Jp.done hK28 ?_
      refine Cd.ret [] rfl (res1 rfl rfl) trivial ⟨rfl, rfl⟩
    · exact absurd ge (by simp; omega)
end Go.Proofs.Ytgfbdiibndbbjaa
