/- Several texts of ours in one file. -/
import Derived.Test.YtgfbdiibndbbjaaStackX2
import Derived.Test.YtgfbdiibndbbjaaComX
import Derived.Test.YtgfbdiibndbbjaaIterX2
import Derived.Test.YtgfbdiibndbbjaaEngY
/- Contract: the reference's Stack. -/
set_option linter.unusedVariables false
set_option linter.unusedSimpArgs false
set_option maxRecDepth 100000
namespace Go.Proofs.Ytgfbdiibndbbjaa
open Go
theorem le32_leB (x : Nat) : le32 (x : Int) = leB x 4 := by
  have h8 : ∀ y : Nat, UInt8.ofNat (y % 256) = UInt8.ofNat y := fun y => UInt8.toNat_inj.1 (by simp [UInt8.toNat_ofNat'])
  simp only [le32, leB, byteAt, List.range, List.range.loop, List.map_cons, List.map_nil, Int.toNat_natCast, h8]
theorem lay_nought {a : Nat} {b : Bytes} (h : a + b.length < 4096) : lay noughts a (b ++ [0]) = lay noughts a b := by
  rw [← lay_snoc_set (by rw [noughts_length]; exact h)]
  have hl : (lay noughts a b).length = 4096 := by rw [lay_length (by rw [noughts_length]; omega), noughts_length]
  have he : (lay noughts a b)[a + b.length]'(by omega) = 0 := by
    have := lay_getD (p := noughts) (k := a) (b := b) (by rw [noughts_length]; omega) (a + b.length)
    rw [if_neg (by omega), List.getD_eq_getElem?_getD, List.getElem?_eq_getElem (by omega), Option.getD_some] at this
    rw [this, noughts, List.getD_eq_getElem?_getD, List.getElem?_replicate]; split <;> rfl
  conv => lhs; rw [← he]
  exact List.set_getElem_self _
theorem stackR_spec (s : Sl ByteArray) (hn : s.xs.length ≤ 20) (hs : ∀ a ∈ s.xs, a.size ≤ 400) : Spec Try.prog 32 #[s.v] (RdStr s) []
    (fun ρ ρ' v L => ρ' = ρ ∧ ∃ A c B d q, buildP (s.xs.map str) = q ∧ v = .tuple #[.slice A q.page.length c, .int .u32 (q.sp : Int), .slice B q.places.length d, .int .i64 (q.err : Int)] ∧ L = [(0, OwnS 5 1 A q.page.length c (bytesV q.page)), (1, OwnS 65 2 B q.places.length d (placesV q.places))]) := by
  obtain ⟨A, c, xs⟩ := s
  have hn : xs.length ≤ 20 := hn
  have hs : ∀ a ∈ xs, a.size ≤ 400 := hs
  have hml : (xs.map str).length = xs.length := List.length_map ..
  have hsl : ∀ a ∈ xs.map str, a.length ≤ 400 := fun a ha => by
    obtain ⟨x, hx, rfl⟩ := List.mem_map.1 ha
    rw [← str_size]; exact hs x hx
  have htl := textP_len hsl
  have hsn : ∀ k (hk : k < xs.length), (textP ((xs.map str).take (k + 1))).length = (textP ((xs.map str).take k)).length + (xs[k].size + 1) := fun k hk => by
    rw [textP_snoc (by rw [hml]; exact hk), List.getElem_map, str_size]; simp
  dsimp only [Sl.v]
  refine Spec.of 109 Try.func32 rfl Try.ntmps32 [(0, _)] rfl rfl ?_
  intro cx ρ hr h0
  refine Cd.seq fun K1 hK1 => ?_
  refine Cd.plain [(0, false), (1, false), (2, false), (3, false)] rfl rfl ?_
  refine Jp.y 2 rfl (want_all rfl) rfl rfl Kp.true (Y.assign rfl rfl) ?_
  refine Jp.y 3 rfl (want_all rfl) rfl rfl Kp.true (Y.assign rfl rfl) ?_
  refine Jp.y 4 rfl (want_all rfl) rfl rfl Kp.true (Y.assign rfl rfl) ?_
  refine Jp.y 5 rfl (want_all rfl) rfl rfl Kp.true (Y.assign rfl rfl) ?_
  refine Jp.done hK1 ?_
  refine Cd.seq fun K2 hK2 => ?_
  refine Cd.plain [(0, false)] rfl rfl ?_
  refine Jp.y 6 rfl (want_all rfl) rfl rfl Kp.true (Y.assign rfl rfl) ?_
  refine Jp.done hK2 ?_
  refine Cd.seq fun K3 hK3 => ?_
  refine Cd.plain [(0, false), (1, false), (2, false), (3, false)] rfl rfl ?_
  refine Jp.y 15 rfl (want_all rfl) rfl rfl Kp.true (Y.move rfl rfl) ?_
  refine Jp.y 16 rfl (want_all rfl) rfl rfl Kp.true (Y.lenslice rfl Try.underlying22 rfl) ?_
  refine Jp.y 17 rfl (want_all rfl) rfl rfl Kp.true (Y.gtr rfl rfl rfl) ?_
  refine Jp.y 7 rfl (want_all rfl) rfl rfl Kp.true (Y.assign rfl rfl) ?_
  refine Jp.done hK3 ?_
  refine Cd.seq fun K4 hK4 => ?_
  refine Cd.seq fun K5 hK5 => ?_
  refine Cd.plain [(0, false)] rfl rfl ?_
  refine Jp.y 8 rfl (want_all rfl) rfl rfl Kp.true (Y.assign rfl rfl) ?_
  refine Jp.done hK5 ?_
  refine Cd.block ?_
  refine Cd.loopK (G := Nat × Nat × Bool) (fun g => g.1 ≤ xs.length ∧ (g.2.2 = true ↔ 16 < xs.length ∨ ∃ a ∈ (xs.map str).take g.1, a.contains 0 = true) ∧ (g.2.1 ≤ 3000 → g.2.1 = (textP ((xs.map str).take g.1)).length) ∧ (3000 < g.2.1 → 3000 < (textP ((xs.map str).take g.1)).length) ∧ g.2.1 ≤ 3401) (fun g => xs.length - g.1) (fun _ => _) (fun g => [(6, .int .i64 (g.2.1 : Int)), (7, .bool g.2.2), (8, .int .i64 (g.1 : Int))]) [(0, _)] (fun g => []) [] ⟨0, 0, decide ((16 : Int) < xs.length)⟩ ⟨Nat.zero_le _, by simp; omega, fun _ => rfl, fun h => absurd h (by show ¬ 3000 < 0; decide), by show 0 ≤ 3401; decide⟩ rfl ⟨rfl, rfl, rfl, trivial⟩ ⟨rfl, trivial⟩ trivial trivial (fun g KLa hok hLa => ?_)
  obtain ⟨k, tot, bd⟩ := g
  obtain ⟨ok1, ok2, ok3, ok4, ok5⟩ := hok
  dsimp only at ok1 ok2 ok3 ok4 ok5 ⊢
  refine Cd.seq fun K6 hK6 => ?_
  refine Cd.seq fun K7 hK7 => ?_
  refine Cd.plain [(0, false), (1, false), (2, false), (3, false)] rfl rfl ?_
  refine Jp.y 18 rfl (want_all rfl) rfl rfl Kp.true (Y.move rfl rfl) ?_
  refine Jp.y 19 rfl (want_all rfl) rfl rfl Kp.true (Y.move rfl rfl) ?_
  refine Jp.y 20 rfl (want_all rfl) rfl rfl Kp.true (Y.lenslice rfl Try.underlying22 rfl) ?_
  refine Jp.y 21 rfl (want_all rfl) rfl rfl Kp.true (Y.lss rfl rfl rfl) ?_
  refine Jp.done hK7 ?_
  refine Cd.cond rfl (fun ga => ?_) (fun ga => ?_)
  · simp only [decide_eq_true_eq] at ga
    have hk : k < xs.length := by omega
    obtain ⟨ad, rfl⟩ := hr.some (show 0 < xs.length * 1 by omega)
    have hcell : cellH ρ (ad.add k) = some (.string xs[k]) := hr.cell (by simp [strsV, hk])
    have hz := hs xs[k] (List.getElem_mem hk)
    have hsk := hsn k hk
    have htk : (xs.map str).take (k + 1) = (xs.map str).take k ++ [str xs[k]] := by rw [List.take_add_one, List.getElem?_map, List.getElem?_eq_getElem hk]; rfl
    refine Cd.skip hK6 ?_
    refine Cd.seq fun K8 hK8 => ?_
    refine Cd.block ?_
    refine Cd.seq fun K9 hK9 => ?_
    refine Cd.plain [(0, false), (1, false), (2, false), (3, false), (4, false), (5, false), (6, false), (7, false), (8, false)] rfl rfl ?_
    refine Jp.y 24 rfl (want_all rfl) rfl rfl Kp.true (Y.move rfl rfl) ?_
    refine Jp.y 25 rfl (want_all rfl) rfl rfl Kp.true (Y.move rfl rfl) ?_
    refine Jp.split 25 rfl (fun g25 => ?_) (fun g25 => ?_)
    · skip
      have hpb : (true = true ↔ 16 < xs.length ∨ ∃ a ∈ (xs.map str).take (k + 1), a.contains 0 = true) := by
        refine ⟨fun _ => ?_, fun _ => rfl⟩
        rcases ok2.1 g25 with h | ⟨a, h1, h2⟩
        · exact .inl h
        · exact .inr ⟨a, by rw [htk]; exact List.mem_append_left _ h1, h2⟩
      refine Jp.skip 26 rfl (want_as rfl rfl rfl rfl) rfl rfl Kp.true ?_
      refine Jp.skip 27 rfl (want_as rfl rfl rfl rfl) rfl rfl Kp.true ?_
      refine Jp.skip 28 rfl (want_as rfl rfl rfl rfl) rfl rfl Kp.true ?_
      refine Jp.skip 29 rfl (want_as rfl rfl rfl rfl) rfl rfl Kp.true ?_
      refine Jp.skip 30 rfl (want_as rfl rfl rfl rfl) rfl rfl Kp.true ?_
      refine Jp.y 31 rfl (want_all rfl) rfl rfl Kp.true (Y.pickT rfl rfl rfl) ?_
      refine Jp.y 7 rfl (want_all rfl) rfl rfl Kp.true (Y.assign rfl rfl) ?_
      refine Jp.done hK9 ?_
      refine Cd.seq fun K10 hK10 => ?_
      refine Cd.plain [(0, false), (1, false)] rfl rfl ?_
      refine Jp.y 32 rfl (want_all rfl) rfl rfl Kp.true (Y.move rfl rfl) ?_
      refine Jp.y 33 rfl (want_all rfl) rfl rfl Kp.true (Y.leq rfl rfl rfl) ?_
      refine Jp.done hK10 ?_
      refine Cd.cond rfl (fun gt => ?_) (fun gt => ?_)
      · simp only [decide_eq_true_eq] at gt
        refine Cd.plain [(0, false), (1, false), (2, false), (3, false), (4, false), (5, false), (6, false), (7, false), (8, false)] rfl rfl ?_
        refine Jp.y 34 rfl (want_all rfl) rfl rfl Kp.true (Y.move rfl rfl) ?_
        refine Jp.y 35 rfl (want_all rfl) rfl rfl Kp.true (Y.move rfl rfl) ?_
        refine Jp.y 36 rfl (want_all rfl) rfl rfl Kp.true (Y.move rfl rfl) ?_
        refine Jp.y 37 rfl (want_all rfl) rfl rfl Kp.true (Y.indexAddr (q := k) rfl rfl rfl Try.underlying22 Try.sizeOf9 (by omega) (by omega) (by omega)) ?_
        refine Jp.y 38 rfl (want_all rfl) rfl rfl Kp.true (Y.loadR rfl Try.isAgg9 rfl hcell) ?_
        refine Jp.y 39 rfl (want_all rfl) rfl rfl Kp.true (Y.lenstr rfl Try.underlying9 rfl) ?_
        refine Jp.y 40 rfl (want_all rfl) rfl rfl Kp.true (Y.add_ rfl rfl rfl (by first | exact wrap_i64 (by omega) (by omega) | rfl)) ?_
        refine Jp.y 41 rfl (want_all rfl) rfl rfl Kp.true (Y.add_ rfl rfl rfl (by first | exact wrap_i64 (by omega) (by omega) | rfl)) ?_
        refine Jp.y 6 rfl (want_all rfl) rfl rfl Kp.true (Y.assign rfl rfl) ?_
        refine Jp.over rfl hK8 ?_
        refine Cd.plain [(0, false), (1, false), (2, false)] rfl rfl ?_
        refine Jp.slot 6 rfl (show _ = Value.int .i64 ((tot + (xs[k].size + 1) : Nat) : Int) from congrArg (Value.int .i64) (by omega)) ?_
        refine Jp.y 22 rfl (want_all rfl) rfl rfl Kp.true (Y.move rfl rfl) ?_
        refine Jp.y 23 rfl (want_all rfl) rfl rfl Kp.true (Y.add_ rfl rfl rfl (by first | exact wrap_i64 (by omega) (by omega) | rfl)) ?_
        refine Jp.y 8 rfl (want_all rfl) rfl rfl Kp.true (Y.assign rfl rfl) ?_
        rw [show (k : Int) + 1 = ((k + 1 : Nat) : Int) by omega]
        refine Jp.again hLa ⟨k + 1, tot + (xs[k].size + 1), true⟩ ⟨by show k + 1 ≤ _; omega, hpb, fun _ => by rw [hsk, ok3 (by omega)], fun h => by rw [hsk, ← ok3 (by omega)]; exact h, by show tot + (xs[k].size + 1) ≤ 3401; omega⟩ (by show xs.length - (k + 1) < xs.length - k; omega) rfl ⟨rfl, rfl, rfl, rfl, trivial⟩ trivial
      · simp only [decide_eq_false_iff_not] at gt
        refine Cd.over rfl hK8 ?_
        refine Cd.plain [(0, false), (1, false), (2, false)] rfl rfl ?_
        refine Jp.y 22 rfl (want_all rfl) rfl rfl Kp.true (Y.move rfl rfl) ?_
        refine Jp.y 23 rfl (want_all rfl) rfl rfl Kp.true (Y.add_ rfl rfl rfl (by first | exact wrap_i64 (by omega) (by omega) | rfl)) ?_
        refine Jp.y 8 rfl (want_all rfl) rfl rfl Kp.true (Y.assign rfl rfl) ?_
        rw [show (k : Int) + 1 = ((k + 1 : Nat) : Int) by omega]
        refine Jp.again hLa ⟨k + 1, tot, true⟩ ⟨by show k + 1 ≤ _; omega, hpb, fun h => absurd h (by show ¬ tot ≤ 3000; omega), fun h => by have := ok4 (by omega); rw [hsk]; omega, ok5⟩ (by show xs.length - (k + 1) < xs.length - k; omega) rfl ⟨rfl, rfl, rfl, rfl, trivial⟩ trivial
    try simp only [decide_eq_false_iff_not, decide_eq_true_eq, Int.not_lt, Int.not_le, Bool.not_eq_false, Bool.not_eq_true, Bool.not_true, Bool.not_false, Bool.not_eq_true', Bool.not_eq_false', beq_eq_false_iff_ne, ne_eq, beq_iff_eq, bne_iff_ne, bne_eq_false_iff_eq, Classical.not_not] at g25
    refine Jp.y 26 rfl (want_as rfl rfl rfl rfl) rfl rfl Kp.true (Y.move rfl rfl) ?_
    refine Jp.y 27 rfl (want_as rfl rfl rfl rfl) rfl rfl Kp.true (Y.move rfl rfl) ?_
    refine Jp.y 28 rfl (want_as rfl rfl rfl rfl) rfl rfl Kp.true (Y.indexAddr (q := k) rfl rfl rfl Try.underlying22 Try.sizeOf9 (by omega) (by omega) (by omega)) ?_
    refine Jp.y 29 rfl (want_as rfl rfl rfl rfl) rfl rfl Kp.true (Y.loadR rfl Try.isAgg9 rfl hcell) ?_
    have g25 : bd = false := by simpa using g25
    refine Jp.call [] [] (f57_spec xs[k] (by omega)) 30 rfl (want_as rfl rfl rfl rfl) rfl rfl (Runs.fn rfl Try.call57 rfl) (by decide) (by decide) rfl trivial ?_
    rintro v1 ρ1 L1 ⟨rfl, rfl, rfl⟩
    refine ⟨rfl, fun hle1 => ⟨Kp.true, ?_⟩⟩
    have hpb : ((str xs[k]).contains 0 = true ↔ 16 < xs.length ∨ ∃ a ∈ (xs.map str).take (k + 1), a.contains 0 = true) := by
      rw [htk]
      constructor
      · intro h
        exact .inr ⟨_, List.mem_append_right _ (by simp), h⟩
      · intro h
        rcases h with h | ⟨a, h1, h2⟩
        · have := ok2.2 (.inl h); rw [g25] at this; cases this
        · rcases List.mem_append.1 h1 with h1 | h1
          · have := ok2.2 (.inr ⟨a, h1, h2⟩); rw [g25] at this; cases this
          · rw [List.mem_singleton] at h1; subst h1; exact h2
    refine Jp.y 31 rfl (want_all rfl) rfl rfl Kp.true (Y.pickF rfl rfl rfl) ?_
    refine Jp.y 7 rfl (want_all rfl) rfl rfl Kp.true (Y.assign rfl rfl) ?_
    refine Jp.done hK9 ?_
    refine Cd.seq fun K11 hK11 => ?_
    refine Cd.plain [(0, false), (1, false)] rfl rfl ?_
    refine Jp.y 32 rfl (want_all rfl) rfl rfl Kp.true (Y.move rfl rfl) ?_
    refine Jp.y 33 rfl (want_all rfl) rfl rfl Kp.true (Y.leq rfl rfl rfl) ?_
    refine Jp.done hK11 ?_
    refine Cd.cond rfl (fun gt => ?_) (fun gt => ?_)
    · simp only [decide_eq_true_eq] at gt
      refine Cd.plain [(0, false), (1, false), (2, false), (3, false), (4, false), (5, false), (6, false), (7, false), (8, false)] rfl rfl ?_
      refine Jp.y 34 rfl (want_all rfl) rfl rfl Kp.true (Y.move rfl rfl) ?_
      refine Jp.y 35 rfl (want_all rfl) rfl rfl Kp.true (Y.move rfl rfl) ?_
      refine Jp.y 36 rfl (want_all rfl) rfl rfl Kp.true (Y.move rfl rfl) ?_
      refine Jp.y 37 rfl (want_all rfl) rfl rfl Kp.true (Y.indexAddr (q := k) rfl rfl rfl Try.underlying22 Try.sizeOf9 (by omega) (by omega) (by omega)) ?_
      refine Jp.y 38 rfl (want_all rfl) rfl rfl Kp.true (Y.loadR rfl Try.isAgg9 rfl hcell) ?_
      refine Jp.y 39 rfl (want_all rfl) rfl rfl Kp.true (Y.lenstr rfl Try.underlying9 rfl) ?_
      refine Jp.y 40 rfl (want_all rfl) rfl rfl Kp.true (Y.add_ rfl rfl rfl (by first | exact wrap_i64 (by omega) (by omega) | rfl)) ?_
      refine Jp.y 41 rfl (want_all rfl) rfl rfl Kp.true (Y.add_ rfl rfl rfl (by first | exact wrap_i64 (by omega) (by omega) | rfl)) ?_
      refine Jp.y 6 rfl (want_all rfl) rfl rfl Kp.true (Y.assign rfl rfl) ?_
      refine Jp.over rfl hK8 ?_
      refine Cd.plain [(0, false), (1, false), (2, false)] rfl rfl ?_
      refine Jp.slot 6 rfl (show _ = Value.int .i64 ((tot + (xs[k].size + 1) : Nat) : Int) from congrArg (Value.int .i64) (by omega)) ?_
      refine Jp.y 22 rfl (want_all rfl) rfl rfl Kp.true (Y.move rfl rfl) ?_
      refine Jp.y 23 rfl (want_all rfl) rfl rfl Kp.true (Y.add_ rfl rfl rfl (by first | exact wrap_i64 (by omega) (by omega) | rfl)) ?_
      refine Jp.y 8 rfl (want_all rfl) rfl rfl Kp.true (Y.assign rfl rfl) ?_
      rw [show (k : Int) + 1 = ((k + 1 : Nat) : Int) by omega]
      refine Jp.again hLa ⟨k + 1, tot + (xs[k].size + 1), (str xs[k]).contains 0⟩ ⟨by show k + 1 ≤ _; omega, hpb, fun _ => by rw [hsk, ok3 (by omega)], fun h => by rw [hsk, ← ok3 (by omega)]; exact h, by show tot + (xs[k].size + 1) ≤ 3401; omega⟩ (by show xs.length - (k + 1) < xs.length - k; omega) rfl ⟨rfl, rfl, rfl, rfl, trivial⟩ trivial
    · simp only [decide_eq_false_iff_not] at gt
      refine Cd.over rfl hK8 ?_
      refine Cd.plain [(0, false), (1, false), (2, false)] rfl rfl ?_
      refine Jp.y 22 rfl (want_all rfl) rfl rfl Kp.true (Y.move rfl rfl) ?_
      refine Jp.y 23 rfl (want_all rfl) rfl rfl Kp.true (Y.add_ rfl rfl rfl (by first | exact wrap_i64 (by omega) (by omega) | rfl)) ?_
      refine Jp.y 8 rfl (want_all rfl) rfl rfl Kp.true (Y.assign rfl rfl) ?_
      rw [show (k : Int) + 1 = ((k + 1 : Nat) : Int) by omega]
      refine Jp.again hLa ⟨k + 1, tot, (str xs[k]).contains 0⟩ ⟨by show k + 1 ≤ _; omega, hpb, fun h => absurd h (by show ¬ tot ≤ 3000; omega), fun h => by have := ok4 (by omega); rw [hsk]; omega, ok5⟩ (by show xs.length - (k + 1) < xs.length - k; omega) rfl ⟨rfl, rfl, rfl, rfl, trivial⟩ trivial
  · simp only [decide_eq_false_iff_not] at ga
    obtain rfl : k = xs.length := by omega
    have htake : (xs.map str).take xs.length = xs.map str := List.take_of_length_le (by omega)
    rw [htake] at ok2 ok3 ok4
    refine Cd.exit rfl hK4 ?_
    refine Cd.seq fun K12 hK12 => ?_
    refine Cd.seq fun K13 hK13 => ?_
    refine Cd.plain [(0, false)] rfl rfl ?_
    refine Jp.y 42 rfl (want_all rfl) rfl rfl Kp.true (Y.move rfl rfl) ?_
    refine Jp.done hK13 ?_
    refine Cd.cond rfl (fun gb => ?_) (fun gb => ?_)
    · have hg : goodS (xs.map str) = false := by
        rw [Bool.eq_false_iff]
        intro h
        simp only [goodS, Bool.and_eq_true, decide_eq_true_eq, List.all_eq_true, Bool.not_eq_true'] at h
        rcases ok2.1 gb with h1 | ⟨a, h1, h2⟩
        · omega
        · rw [h.1 a h1] at h2; cases h2
      refine Cd.seq fun K14 hK14 => ?_
      refine Cd.plain [(0, false), (1, false), (2, false), (3, false)] rfl rfl ?_
      refine Jp.y 2 rfl (want_all rfl) rfl rfl Kp.true (Y.assign rfl rfl) ?_
      refine Jp.y 3 rfl (want_all rfl) rfl rfl Kp.true (Y.assign rfl rfl) ?_
      refine Jp.y 4 rfl (want_all rfl) rfl rfl Kp.true (Y.assign rfl rfl) ?_
      refine Jp.y 5 rfl (want_all rfl) rfl rfl Kp.true (Y.assign rfl rfl) ?_
      refine Jp.done hK14 ?_
      refine Cd.make 0 (OwnS.nil 5 1 Hp.emp) ?_
      refine Cd.make 1 (OwnS.nil 65 2 Hp.emp) ?_
      refine Cd.ret [(0, _), (1, _)] rfl (res4 rfl rfl rfl rfl rfl) ⟨rfl, rfl, trivial⟩ ?_
      have e : buildP (xs.map str) = ⟨[], 0, [], 1⟩ := by rw [buildP, hg]; rfl
      exact ⟨rfl, none, 0, none, 0, _, e, rfl, rfl⟩
    · have hg : goodS (xs.map str) = true := by
        simp only [goodS, Bool.and_eq_true, decide_eq_true_eq, List.all_eq_true, Bool.not_eq_true']
        refine ⟨fun a ha => ?_, ?_⟩
        · rw [Bool.eq_false_iff]
          intro h
          have := ok2.2 (.inr ⟨a, ha, h⟩); rw [gb] at this; cases this
        · refine Nat.not_lt.1 fun h => ?_
          have := ok2.2 (.inl (by omega)); rw [gb] at this; cases this
      have hn16 : xs.length ≤ 16 := by
        simp only [goodS, Bool.and_eq_true, decide_eq_true_eq, List.length_map] at hg
        exact hg.2
      refine Cd.skip hK12 ?_
      refine Cd.seq fun K15 hK15 => ?_
      refine Cd.seq fun K16 hK16 => ?_
      refine Cd.plain [(0, false), (1, false)] rfl rfl ?_
      refine Jp.y 43 rfl (want_all rfl) rfl rfl Kp.true (Y.move rfl rfl) ?_
      refine Jp.y 44 rfl (want_all rfl) rfl rfl Kp.true (Y.gtr rfl rfl rfl) ?_
      refine Jp.done hK16 ?_
      refine Cd.cond rfl (fun gc => ?_) (fun gc => ?_)
      · simp only [decide_eq_true_eq] at gc
        refine Cd.seq fun K17 hK17 => ?_
        refine Cd.plain [(0, false), (1, false), (2, false), (3, false)] rfl rfl ?_
        refine Jp.y 2 rfl (want_all rfl) rfl rfl Kp.true (Y.assign rfl rfl) ?_
        refine Jp.y 3 rfl (want_all rfl) rfl rfl Kp.true (Y.assign rfl rfl) ?_
        refine Jp.y 4 rfl (want_all rfl) rfl rfl Kp.true (Y.assign rfl rfl) ?_
        refine Jp.y 5 rfl (want_all rfl) rfl rfl Kp.true (Y.assign rfl rfl) ?_
        refine Jp.done hK17 ?_
        refine Cd.make 0 (OwnS.nil 5 1 Hp.emp) ?_
        refine Cd.make 1 (OwnS.nil 65 2 Hp.emp) ?_
        refine Cd.ret [(0, _), (1, _)] rfl (res4 rfl rfl rfl rfl rfl) ⟨rfl, rfl, trivial⟩ ?_
        have e : buildP (xs.map str) = ⟨[], 0, [], 2⟩ := by rw [buildP, hg, if_pos rfl, if_neg (by have := ok4 (by omega); omega)]
        exact ⟨rfl, none, 0, none, 0, _, e, rfl, rfl⟩
      · simp only [decide_eq_false_iff_not] at gc
        have hT : tot = (textP (xs.map str)).length := ok3 (by omega)
        have hT3 : (textP (xs.map str)).length ≤ 3000 := by omega
        refine Cd.skip hK15 ?_
        refine Cd.seq fun K18 hK18 => ?_
        refine Cd.plain [(0, false), (1, false)] rfl rfl ?_
        refine Jp.makeSlice (k := 4096) 45 0 rfl (want_all rfl) rfl rfl rfl Try.underlying25 Try.sizeOf5 Try.typeInfo5 Try.zeroValue5 rfl rfl rfl (by first | rfl | omega) (by first | rfl | omega) (by simp only [Try.t5]; omega) (by omega) fun b0 => ⟨Kp.true, ?_⟩
        refine Jp.imp (j := 0) (A' := OwnS 5 1 (some ⟨b0, 0, none⟩) 4096 4096 (bytesV noughts)) rfl (fun k h => by rw [bytesV, noughts, List.map_replicate]; exact h) ?_
        have hnl := noughts_length
        obtain ⟨a0, ha0⟩ : ∃ a0, a0 = at0P (xs.map str) := ⟨_, rfl⟩
        have hat : a0 + (textP (xs.map str)).length = 4096 := by rw [ha0, at0P]; omega
        refine Jp.y 9 rfl (want_all rfl) rfl rfl Kp.true (Y.assign rfl rfl) ?_
        refine Jp.done hK18 ?_
        refine Cd.seq fun K19 hK19 => ?_
        refine Cd.plain [(0, false), (1, false), (2, false)] rfl rfl ?_
        refine Jp.y 46 rfl (want_all rfl) rfl rfl Kp.true (Y.move rfl rfl) ?_
        refine Jp.y 47 rfl (want_all rfl) rfl rfl Kp.true (Y.sub_ rfl rfl rfl (by first | exact wrap_i64 (by omega) (by omega) | rfl)) ?_
        refine Jp.y 10 rfl (want_all rfl) rfl rfl Kp.true (Y.assign rfl rfl) ?_
        refine Jp.done hK19 ?_
        refine Cd.seq fun K20 hK20 => ?_
        refine Cd.plain [(0, false), (1, false), (2, false), (3, false), (4, false), (5, false), (6, false), (7, false), (8, false)] rfl rfl ?_
        refine Jp.slot 10 rfl (show _ = Value.int .i64 (a0 : Int) from congrArg (Value.int .i64) (by omega)) ?_
        refine Jp.y 48 rfl (want_all rfl) rfl rfl Kp.true (Y.move rfl rfl) ?_
        refine Jp.y 49 rfl (want_all rfl) rfl rfl Kp.true (Y.move rfl rfl) ?_
        refine Jp.y 50 rfl (want_all rfl) rfl rfl Kp.true (Y.lenslice rfl Try.underlying22 rfl) ?_
        refine Jp.y 51 rfl (want_all rfl) rfl rfl Kp.true (Y.add_ rfl rfl rfl (by first | exact wrap_i64 (by omega) (by omega) | rfl)) ?_
        refine Jp.y 52 rfl (want_all rfl) rfl rfl Kp.true (Y.mul_ rfl rfl rfl (by first | exact wrap_i64 (by omega) (by omega) | rfl)) ?_
        refine Jp.y 53 rfl (want_all rfl) rfl rfl Kp.true (Y.sub_ rfl rfl rfl (by first | exact wrap_i64 (by omega) (by omega) | rfl)) ?_
        have e2 : ((a0 : Int) - 4 * ((xs.length : Int) + 3)) / 16 = (((a0 - 4 * (xs.length + 3)) / 16 : Nat) : Int) := by omega
        refine Jp.y 54 rfl (want_all rfl) rfl rfl Kp.true (by first | exact Y.quoN rfl rfl rfl (by omega) (by omega) (wrap_i64 (by omega) (by omega)) | exact Y.quo rfl rfl rfl (by first | decide | omega)) ?_
        rw [e2]
        obtain ⟨s0, hs0⟩ : ∃ s0, s0 = spP (xs.map str) := ⟨_, rfl⟩
        have hs1 : s0 = (a0 - 4 * (xs.length + 3)) / 16 * 16 := by rw [hs0, spP, ← ha0, List.length_map]
        refine Jp.y 55 rfl (want_all rfl) rfl rfl Kp.true (Y.mul_ rfl rfl rfl (by first | exact wrap_i64 (by omega) (by omega) | rfl)) ?_
        rw [show (((a0 - 4 * (xs.length + 3)) / 16 : Nat) : Int) * 16 = (s0 : Int) by rw [hs1]; omega]
        refine Jp.y 11 rfl (want_all rfl) rfl rfl Kp.true (Y.assign rfl rfl) ?_
        refine Jp.done hK20 ?_
        refine Cd.seq fun K21 hK21 => ?_
        refine Cd.plain [(0, false)] rfl rfl ?_
        refine Jp.y 12 rfl (want_all rfl) rfl rfl Kp.true (Y.assign rfl rfl) ?_
        refine Jp.done hK21 ?_
        refine Cd.seq fun K22 hK22 => ?_
        refine Cd.plain [(0, false), (1, false), (2, false), (3, false), (4, false)] rfl rfl ?_
        refine Jp.make 2 (show OwnS 5 1 none ([] : Bytes).length 0 (bytesV []) Hp.emp from OwnS.nil _ 1 Hp.emp) ?_
        refine Jp.y 56 rfl (want_all rfl) rfl rfl Kp.true (Y.move rfl rfl) ?_
        refine Jp.y 57 rfl (want_all rfl) rfl rfl Kp.true (Y.lenslice rfl Try.underlying22 rfl) ?_
        refine Jp.y 58 rfl (want_all rfl) rfl rfl Kp.true (Y.conv_ rfl rfl Try.underlying3 Try.underlying26 (by first | exact wrap_u32 (by omega) (by omega) | rfl)) ?_
        refine Jp.call [2] [9, 2] (w32_spec none 0 [] xs.length (by decide) (by omega)) 59 rfl (want_all rfl) rfl rfl (Runs.fn rfl Try.call58 rfl) (by decide) (by decide) rfl trivial ?_
        rintro v5 ρ5 L5 ⟨rfl, C0, e0, rfl, rfl⟩
        refine ⟨rfl, fun hle5 => ⟨Kp.true, ?_⟩⟩
        rw [List.nil_append, show leB xs.length 4 = vecP (xs.map str) 0 by rw [vecP, hml, ← le32_leB]; simp]
        refine Jp.y 13 rfl (want_all rfl) rfl rfl Kp.true (Y.assign rfl rfl) ?_
        refine Jp.done hK22 ?_
        refine Cd.seq fun K23 hK23 => ?_
        refine Cd.seq fun K24 hK24 => ?_
        refine Cd.plain [(0, false)] rfl rfl ?_
        refine Jp.y 14 rfl (want_all rfl) rfl rfl Kp.true (Y.assign rfl rfl) ?_
        refine Jp.done hK24 ?_
        refine Cd.block ?_
        refine Cd.make 1 (show OwnS 65 2 none 0 0 (placesV (placesP (xs.map str) 0)) Hp.emp from OwnS.nil _ 2 Hp.emp) ?_
        refine Cd.imp (i := 0) (A' := OwnS 5 1 (some ⟨b0, 0, none⟩) 4096 4096 (bytesV (lay noughts a0 (textP ((xs.map str).take 0))))) rfl (fun k h => by rw [List.take_zero, show textP [] = [] from rfl, lay_nil]; exact h) ?_
        have hat0 : (a0 : Int) = ((a0 + (textP ((xs.map str).take 0)).length : Nat) : Int) := rfl
        rw [hat0]
        refine Cd.loopK (G := Nat × Option Addr × Nat × Option Addr × Nat) (fun g => g.1 ≤ xs.length) (fun g => xs.length - g.1) (fun _ => _) (fun g => [(10, .int .i64 ((a0 + (textP ((xs.map str).take g.1)).length : Nat) : Int)), (12, .slice g.2.1 g.1 g.2.2.1), (13, .slice g.2.2.2.1 (vecP (xs.map str) g.1).length g.2.2.2.2), (14, .int .i64 (g.1 : Int))]) [(0, _), (9, _), (11, _)] (fun g => [(0, OwnS 5 1 (some ⟨b0, 0, none⟩) 4096 4096 (bytesV (lay noughts a0 (textP ((xs.map str).take g.1))))), (1, OwnS 65 2 g.2.1 g.1 g.2.2.1 (placesV (placesP (xs.map str) g.1))), (2, OwnS 5 1 g.2.2.2.1 (vecP (xs.map str) g.1).length g.2.2.2.2 (bytesV (vecP (xs.map str) g.1)))]) [] ⟨0, none, 0, C0, e0⟩ (Nat.zero_le _) rfl ⟨rfl, rfl, rfl, rfl, trivial⟩ ⟨rfl, rfl, rfl, trivial⟩ ⟨rfl, rfl, rfl, trivial⟩ trivial (fun g KLb hok hLb => ?_)
        obtain ⟨k, B, d, C, e⟩ := g
        dsimp only at hok ⊢
        have hvl := vecP_len (xs.map str) k
        refine Cd.seq fun K25 hK25 => ?_
        refine Cd.seq fun K26 hK26 => ?_
        refine Cd.plain [(0, false), (1, false), (2, false), (3, false)] rfl rfl ?_
        refine Jp.y 60 rfl (want_all rfl) rfl rfl Kp.true (Y.move rfl rfl) ?_
        refine Jp.y 61 rfl (want_all rfl) rfl rfl Kp.true (Y.move rfl rfl) ?_
        refine Jp.y 62 rfl (want_all rfl) rfl rfl Kp.true (Y.lenslice rfl Try.underlying22 rfl) ?_
        refine Jp.y 63 rfl (want_all rfl) rfl rfl Kp.true (Y.lss rfl rfl rfl) ?_
        refine Jp.done hK26 ?_
        refine Cd.cond rfl (fun gd => ?_) (fun gd => ?_)
        · simp only [decide_eq_true_eq] at gd
          have hk : k < xs.length := by omega
          obtain ⟨ad, rfl⟩ := hr.some (show 0 < xs.length * 1 by omega)
          have hcell : cellH ρ5 (ad.add k) = some (.string xs[k]) := hr.cell (by simp [strsV, hk])
          have hz := hs xs[k] (List.getElem_mem hk)
          have hz2 := str_size xs[k]
          have hsk := hsn k hk
          have hle : (textP ((xs.map str).take (k + 1))).length ≤ (textP (xs.map str)).length := by
            have := congrArg (fun l => (textP l).length) (List.take_append_drop (k + 1) (xs.map str))
            simp only [textP, List.flatMap_append, List.length_append] at this
            simp only [textP]; omega
          have hadr : (2147475456 : Int) + ((a0 + (textP ((xs.map str).take k)).length : Nat) : Int) = (addrP (xs.map str) k : Int) := by rw [addrP, ← ha0]; omega
          have hadl : addrP (xs.map str) k < 4294967296 := by rw [addrP, ← ha0]; omega
          refine Cd.skip hK25 ?_
          refine Cd.seq fun K27 hK27 => ?_
          refine Cd.block ?_
          refine Cd.seq fun K28 hK28 => ?_
          refine Cd.plain [(0, false), (1, false), (2, false), (3, false), (4, false), (5, false), (6, false), (7, false), (8, false), (9, false), (10, false), (11, false), (12, false)] rfl rfl ?_
          refine Jp.y 66 rfl (want_all rfl) rfl rfl Kp.true (Y.move rfl rfl) ?_
          refine Jp.y 67 rfl (want_all rfl) rfl rfl Kp.true (Y.move rfl rfl) ?_
          refine Jp.y 68 rfl (want_all rfl) rfl rfl Kp.true (Y.add_ rfl rfl rfl (by first | exact wrap_i64 (by omega) (by omega) | rfl)) ?_
          rw [hadr]
          refine Jp.y 69 rfl (want_all rfl) rfl rfl Kp.true (Y.conv_ rfl rfl Try.underlying3 Try.underlying26 (by first | exact wrap_u32 (by omega) (by omega) | rfl)) ?_
          refine Jp.y 70 rfl (want_all rfl) rfl rfl Kp.true (Y.move rfl rfl) ?_
          refine Jp.y 71 rfl (want_all rfl) rfl rfl Kp.true (Y.move rfl rfl) ?_
          refine Jp.y 72 rfl (want_all rfl) rfl rfl Kp.true (Y.indexAddr (q := k) rfl rfl rfl Try.underlying22 Try.sizeOf9 (by omega) (by omega) (by omega)) ?_
          refine Jp.y 73 rfl (want_all rfl) rfl rfl Kp.true (Y.loadR rfl Try.isAgg9 rfl hcell) ?_
          refine Jp.y 74 rfl (want_all rfl) rfl rfl Kp.true (Y.lenstr rfl Try.underlying9 rfl) ?_
          refine Jp.y 75 rfl (want_all rfl) rfl rfl Kp.true (Y.struct [(0, _), (1, _)] [_, _] rfl rfl places65 Try.zeroValue65 rfl) ?_
          refine Jp.lit 76 3 [(0, _)] [_, _] rfl (want_all rfl) rfl rfl rfl rfl Try.underlying62 Try.sizeOf65 Try.zeroValue65 rfl rfl rfl rfl rfl fun b3 => ⟨Kp.true, ?_⟩
          refine Jp.append 77 1 rfl (want_all rfl) rfl rfl rfl Try.underlying62 Try.underlying62 (.inl ⟨_, rfl⟩) Try.sizeOf65 Try.typeInfo65 Try.zeroValue65 rfl (by decide) rfl rfl rfl (Src.own 3 rfl) rfl (k + 1) (placesV (placesP (xs.map str) (k + 1))) (by first | omega | simp) (by rw [← placesV_snoc, List.getD_eq_getElem?_getD, List.getElem?_map, List.getElem?_eq_getElem hk, Option.map_some, Option.getD_some, ← str_size]) (by simp only [Try.t65]; omega) fun A6 c6 => ⟨Kp.true, ?_⟩
          refine Jp.y 12 rfl (want_all rfl) rfl rfl Kp.true (Y.assign rfl rfl) ?_
          refine Jp.done hK28 ?_
          refine Cd.seq fun K29 hK29 => ?_
          refine Cd.plain [(0, false), (1, false), (2, false), (3, false), (4, false), (5, false)] rfl rfl ?_
          refine Jp.y 78 rfl (want_all rfl) rfl rfl Kp.true (Y.move rfl rfl) ?_
          refine Jp.y 79 rfl (want_all rfl) rfl rfl Kp.true (Y.move rfl rfl) ?_
          refine Jp.y 80 rfl (want_all rfl) rfl rfl Kp.true (Y.add_ rfl rfl rfl (by first | exact wrap_i64 (by omega) (by omega) | rfl)) ?_
          rw [hadr]
          refine Jp.y 81 rfl (want_all rfl) rfl rfl Kp.true (Y.conv_ rfl rfl Try.underlying3 Try.underlying26 (by first | exact wrap_u32 (by omega) (by omega) | rfl)) ?_
          refine Jp.call [2] [9, 2] (w32_spec C e (vecP (xs.map str) k) (addrP (xs.map str) k) (by omega) hadl) 82 rfl (want_all rfl) rfl rfl (Runs.fn rfl Try.call58 rfl) (by decide) (by decide) rfl trivial ?_
          rintro v7 ρ7 L7 ⟨rfl, C2, e2', rfl, rfl⟩
          refine ⟨rfl, fun hle7 => ⟨Kp.true, ?_⟩⟩
          rw [show vecP (xs.map str) k ++ leB (addrP (xs.map str) k) 4 = vecP (xs.map str) (k + 1) by rw [vecP_snoc, le32_leB]]
          obtain ⟨o, ho⟩ : ∃ o, o = a0 + (textP ((xs.map str).take k)).length := ⟨_, rfl⟩
          rw [← ho]
          have hlp : (lay noughts a0 (textP ((xs.map str).take k))).length = 4096 := by rw [lay_length (by omega), hnl]
          have hnew : (bytesV (str xs[k])).take xs[k].size = bytesV (str xs[k]) := List.take_of_length_le (by rw [bytesV, List.length_map]; omega)
          have hpage : lay (lay noughts a0 (textP ((xs.map str).take k))) o (str xs[k]) = lay noughts a0 (textP ((xs.map str).take (k + 1))) := by
            rw [ho, lay_lay (by omega), textP_snoc (by rw [hml]; exact hk), List.getElem_map, ← List.append_assoc, lay_nought (by rw [List.length_append]; omega)]
          have hcp : (bytesV (lay noughts a0 (textP ((xs.map str).take k)))).take (o * 1) ++ (bytesV (str xs[k])).take xs[k].size ++ (bytesV (lay noughts a0 (textP ((xs.map str).take k)))).drop (o * 1 + xs[k].size * 1) = bytesV (lay noughts a0 (textP ((xs.map str).take (k + 1)))) := by
            have h5 := bytesV_lay (lay noughts a0 (textP ((xs.map str).take k))) o (str xs[k])
            rw [← hz2, hpage] at h5
            rw [hnew, Nat.mul_one, Nat.mul_one]; exact h5
          refine Jp.y 13 rfl (want_all rfl) rfl rfl Kp.true (Y.assign rfl rfl) ?_
          refine Jp.done hK29 ?_
          refine Cd.seq fun K30 hK30 => ?_
          refine Cd.drawn [(0, _)] ⟨rfl, trivial⟩ [(0, true), (1, true), (2, true), (3, true), (4, true), (5, true), (6, true), (7, false)] follows (by kernel_rfl) (fun hrl => ?_)
          refine Jp.q 83 rfl (want_all rfl) rfl rfl (Y.move rfl rfl) ?_
          refine Jp.q 84 rfl (want_all rfl) rfl rfl (Y.move rfl rfl) ?_
          refine Jp.q 85 rfl (want_all rfl) rfl rfl (Y.sliceFrom (lo := o) rfl rfl rfl Try.underlying25 Try.sizeOf5 (by omega) (by omega)) ?_
          refine Jp.q 86 rfl (want_all rfl) rfl rfl (Y.move rfl rfl) ?_
          refine Jp.q 87 rfl (want_all rfl) rfl rfl (Y.move rfl rfl) ?_
          refine Jp.q 88 rfl (want_all rfl) rfl rfl (Y.indexAddr (q := k) rfl rfl rfl Try.underlying22 Try.sizeOf9 (by omega) (by omega) (by omega)) ?_
          refine Jp.q 89 rfl (want_all rfl) rfl rfl (by first | exact Y.loadO 3 rfl Try.isAgg9 rfl rfl rfl | exact Y.loadR rfl Try.isAgg9 rfl hcell) ?_
          refine Jp.copyAt (r := xs[k].size) 90 0 (o) rfl (want_all rfl) rfl rfl rfl Try.underlying25 Try.sizeOf5 rfl rfl rfl (SrcN.str (k := xs[k].size) (Nat.le_refl _)) (by omega) (Nat.min_eq_left (by omega)) (all_take1 (bytesV_one _)) (bytesV (lay noughts a0 (textP ((xs.map str).take (k + 1))))) hcp ⟨Kp.last, ?_⟩
          refine Jp.done hK30 ?_
          refine Cd.plain [(0, false), (1, false), (2, false), (3, false), (4, false), (5, false), (6, false), (7, false), (8, false)] rfl rfl ?_
          refine Jp.y 91 rfl (want_all rfl) rfl rfl Kp.true (Y.move rfl rfl) ?_
          refine Jp.y 92 rfl (want_all rfl) rfl rfl Kp.true (Y.move rfl rfl) ?_
          refine Jp.y 93 rfl (want_all rfl) rfl rfl Kp.true (Y.move rfl rfl) ?_
          refine Jp.y 94 rfl (want_all rfl) rfl rfl Kp.true (Y.indexAddr (q := k) rfl rfl rfl Try.underlying22 Try.sizeOf9 (by omega) (by omega) (by omega)) ?_
          refine Jp.y 95 rfl (want_all rfl) rfl rfl Kp.true (by first | exact Y.loadO 3 rfl Try.isAgg9 rfl rfl rfl | exact Y.loadR rfl Try.isAgg9 rfl hcell) ?_
          refine Jp.y 96 rfl (want_all rfl) rfl rfl Kp.true (Y.lenstr rfl Try.underlying9 rfl) ?_
          refine Jp.y 97 rfl (want_all rfl) rfl rfl Kp.true (Y.add_ rfl rfl rfl (by first | exact wrap_i64 (by omega) (by omega) | rfl)) ?_
          refine Jp.y 98 rfl (want_all rfl) rfl rfl Kp.true (Y.add_ rfl rfl rfl (by first | exact wrap_i64 (by omega) (by omega) | rfl)) ?_
          refine Jp.y 10 rfl (want_all rfl) rfl rfl Kp.true (Y.assign rfl rfl) ?_
          refine Jp.over rfl hK27 ?_
          refine Cd.plain [(0, false), (1, false), (2, false)] rfl rfl ?_
          refine Jp.slot 10 rfl (show _ = Value.int .i64 ((a0 + (textP ((xs.map str).take (k + 1))).length : Nat) : Int) from congrArg (Value.int .i64) (by omega)) ?_
          refine Jp.y 64 rfl (want_all rfl) rfl rfl Kp.true (Y.move rfl rfl) ?_
          refine Jp.y 65 rfl (want_all rfl) rfl rfl Kp.true (Y.add_ rfl rfl rfl (by first | exact wrap_i64 (by omega) (by omega) | rfl)) ?_
          refine Jp.y 14 rfl (want_all rfl) rfl rfl Kp.true (Y.assign rfl rfl) ?_
          rw [show (k : Int) + 1 = ((k + 1 : Nat) : Int) by omega]
          refine Jp.again hLb ⟨k + 1, A6, c6, C2, e2'⟩ (by show k + 1 ≤ _; omega) (by show xs.length - (k + 1) < xs.length - k; omega) rfl ⟨rfl, rfl, rfl, rfl, rfl, rfl, rfl, trivial⟩ ⟨rfl, rfl, rfl, trivial⟩
        · simp only [decide_eq_false_iff_not] at gd
          obtain rfl : k = xs.length := by omega
          rw [htake]
          have hpl : (lay noughts a0 (textP (xs.map str))).length = 4096 := by rw [lay_length (by omega), hnl]
          have hcq : (bytesV (lay noughts a0 (textP (xs.map str)))).take (s0 * 1) ++ ((bytesV (vecP (xs.map str) xs.length)).take ((vecP (xs.map str) xs.length).length * 1)) ++ (bytesV (lay noughts a0 (textP (xs.map str)))).drop (s0 * 1 + (vecP (xs.map str) xs.length).length * 1) = bytesV (pageP (xs.map str) xs.length) := by
            have h5 := bytesV_lay (lay noughts a0 (textP (xs.map str))) s0 (vecP (xs.map str) xs.length)
            have h6 : (bytesV (vecP (xs.map str) xs.length)).take (vecP (xs.map str) xs.length).length = bytesV (vecP (xs.map str) xs.length) := List.take_of_length_le (by rw [bytesV, List.length_map]; exact Nat.le_refl _)
            rw [Nat.mul_one, Nat.mul_one, h6, h5, pageP, ← hs0, ← ha0]
          refine Cd.exit rfl hK23 ?_
          refine Cd.seq fun K32 hK32 => ?_
          refine Cd.plain [(0, false), (1, false), (2, false), (3, false), (4, false)] rfl rfl ?_
          refine Jp.y 99 rfl (want_all rfl) rfl rfl Kp.true (Y.move rfl rfl) ?_
          refine Jp.y 100 rfl (want_all rfl) rfl rfl Kp.true (Y.move rfl rfl) ?_
          refine Jp.y 101 rfl (want_all rfl) rfl rfl Kp.true (Y.sliceFrom (lo := s0) rfl rfl rfl Try.underlying25 Try.sizeOf5 (by omega) (by omega)) ?_
          refine Jp.y 102 rfl (want_all rfl) rfl rfl Kp.true (Y.move rfl rfl) ?_
          refine Jp.copyAt (r := (vecP (xs.map str) xs.length).length) 103 0 (s0) rfl (want_all rfl) rfl rfl rfl Try.underlying25 Try.sizeOf5 rfl rfl rfl (SrcN.own 2 rfl (k := (vecP (xs.map str) xs.length).length) (Nat.le_refl _)) (by omega) (Nat.min_eq_left (by omega)) (all_take1 (bytesV_one _)) (bytesV (pageP (xs.map str) xs.length)) hcq ⟨Kp.true, ?_⟩
          refine Jp.done hK32 ?_
          refine Cd.seq fun K33 hK33 => ?_
          refine Cd.plain [(0, false), (1, false), (2, false), (3, false), (4, false), (5, false), (6, false), (7, false), (8, false)] rfl rfl ?_
          refine Jp.y 104 rfl (want_all rfl) rfl rfl Kp.true (Y.move rfl rfl) ?_
          refine Jp.y 105 rfl (want_all rfl) rfl rfl Kp.true (Y.move rfl rfl) ?_
          refine Jp.y 106 rfl (want_all rfl) rfl rfl Kp.true (Y.add_ rfl rfl rfl (by first | exact wrap_i64 (by omega) (by omega) | rfl)) ?_
          refine Jp.y 107 rfl (want_all rfl) rfl rfl Kp.true (Y.conv_ rfl rfl Try.underlying3 Try.underlying26 (by first | exact wrap_u32 (by omega) (by omega) | rfl)) ?_
          refine Jp.y 108 rfl (want_all rfl) rfl rfl Kp.true (Y.move rfl rfl) ?_
          refine Jp.y 2 rfl (want_all rfl) rfl rfl Kp.true (Y.assign rfl rfl) ?_
          refine Jp.y 3 rfl (want_all rfl) rfl rfl Kp.true (Y.assign rfl rfl) ?_
          refine Jp.y 4 rfl (want_all rfl) rfl rfl Kp.true (Y.assign rfl rfl) ?_
          refine Jp.y 5 rfl (want_all rfl) rfl rfl Kp.true (Y.assign rfl rfl) ?_
          refine Jp.done hK33 ?_
          rw [show (2147475456 : Int) + (s0 : Int) = ((2147475456 + s0 : Nat) : Int) by omega]
          refine Cd.ret [(0, _), (1, _)] rfl (res4 rfl rfl rfl rfl rfl) ⟨rfl, rfl, trivial⟩ ?_
          have e : buildP (xs.map str) = ⟨pageP (xs.map str) xs.length, 2147475456 + s0, placesP (xs.map str) xs.length, 0⟩ := by rw [buildP, hg, if_pos rfl, if_pos hT3, hs0, hml]
          have hpp : (pageP (xs.map str) xs.length).length = 4096 := by rw [pageP, ← hs0, ← ha0, lay_length (by omega), hpl]
          refine ⟨rfl, some ⟨b0, 0, none⟩, 4096, B, d, _, e, ?_, ?_⟩
          · show _ = Value.tuple #[.slice _ (pageP (xs.map str) xs.length).length 4096, _, .slice B (placesP (xs.map str) xs.length).length d, _]
            rw [hpp, placesP_length]; rfl
          · show _ = [(0, OwnS _ 1 _ (pageP (xs.map str) xs.length).length 4096 _), (1, OwnS _ 2 B (placesP (xs.map str) xs.length).length d _)]
            rw [hpp, placesP_length]
end Go.Proofs.Ytgfbdiibndbbjaa

/- Contract of law10: StackBuilds. -/
set_option linter.unusedVariables false
set_option linter.unusedSimpArgs false
set_option maxRecDepth 100000
namespace Go.Proofs.Ytgfbdiibndbbjaa
open Go
theorem LaidM.whole {M : MemG} {page : Bytes} (h : LaidM M page) (hl : page.length = 4096) : readM M 2147475456 4096 = (page, 0) := by
  have hall : allM M 2147475456 4096 1 = true := allM_yes (by omega) fun j hj => by
    have hj : j < 16 := by simpa [allCnt] using hj
    obtain ⟨p, h1, h2, h3⟩ := h.pg (baseN 2147475456 + 256 * j) (by unfold baseN; omega) (by unfold baseN; omega) (by unfold baseN; omega)
    rw [pgOk_some h1, h3]; decide
  have hL : readL M 2147475456 4096 = page := by
    apply List.ext_getElem?
    intro j
    by_cases hj : j < 4096
    · rw [readL, List.getElem?_map, List.getElem?_range hj, Option.map_some, h.byte _ hj, List.getD_eq_getElem?_getD, List.getElem?_eq_getElem (by omega)]
      rfl
    · rw [List.getElem?_eq_none_iff.2 (by rw [readL_length]; omega), List.getElem?_eq_none_iff.2 (by omega)]
  rw [readM, if_neg (by decide), show ((4096 : Int).toNat) = 4096 from rfl, if_neg (by rw [hall]; simp), hL]
theorem buildP_ok {l : List Bytes} (h : (buildP l).err = 0) : buildP l = ⟨pageP l l.length, 2147475456 + spP l, placesP l l.length, 0⟩ := by
  rw [buildP] at h ⊢
  split at h
  · rename_i hg
    split at h
    · rename_i hT
      rw [if_pos hg, if_pos hT]
    · cases h
  · cases h
theorem buildP_no {l : List Bytes} (h : (buildP l).err ≠ 0) : (buildP l).sp = 0 ∧ (buildP l).places = [] := by
  rw [buildP] at h ⊢
  split
  · rename_i hg
    rw [if_pos hg] at h
    split
    · rename_i hT
      rw [if_pos hT] at h; exact absurd rfl h
    · exact ⟨rfl, rfl⟩
  · exact ⟨rfl, rfl⟩
theorem stackBuilds_spec (s : Sl ByteArray) : Spec Try.prog 11 #[s.v] (RdStr s) [] (fun ρ ρ' v L => v = .bool true ∧ L = []) := by
  obtain ⟨A, c, xs⟩ := s
  dsimp only [Sl.v]
  refine Spec.of 146 Try.func11 rfl Try.ntmps11 [(0, _)] rfl rfl ?_
  intro cx ρ hr h0
  refine Cd.seq fun K1 hK1 => ?_
  refine Cd.plain [(0, false)] rfl rfl ?_
  refine Jp.y 2 rfl (want_all rfl) rfl rfl Kp.true (Y.assign rfl rfl) ?_
  refine Jp.done hK1 ?_
  refine Cd.seq fun K2 hK2 => ?_
  refine Cd.seq fun K3 hK3 => ?_
  refine Cd.plain [(0, false), (1, false)] rfl rfl ?_
  refine Jp.call [] [] f15_spec 19 rfl (want_all rfl) rfl rfl (Runs.fn rfl Try.call15 rfl) (by decide) (by decide) rfl trivial ?_
  rintro v1 ρ1 L1 ⟨rfl, rfl⟩
  refine ⟨rfl, fun hle1 => ⟨Kp.true, ?_⟩⟩
  have hr := RdStr.up _ _ _ hle1 hr
  refine Jp.y 20 rfl (want_all rfl) rfl rfl Kp.true (Y.not rfl rfl) ?_
  refine Jp.done hK3 ?_
  refine Cd.cond rfl (fun g20 => ?_) (fun g20 => ?_)
  · skip
    exact absurd g20 (by simp)
  try simp only [decide_eq_false_iff_not, decide_eq_true_eq, Int.not_lt, Int.not_le, Bool.not_eq_false, Bool.not_eq_true, Bool.not_true, Bool.not_false, Bool.not_eq_true', Bool.not_eq_false', beq_eq_false_iff_ne, ne_eq, beq_iff_eq, bne_iff_ne, bne_eq_false_iff_eq, Classical.not_not] at g20
  refine Cd.skip hK2 ?_
  refine Cd.seq fun K4 hK4 => ?_
  refine Cd.seq fun K5 hK5 => ?_
  refine Cd.plain [(0, false), (1, false)] rfl rfl ?_
  refine Jp.y 21 rfl (want_all rfl) rfl rfl Kp.true (Y.move rfl rfl) ?_
  refine Jp.call [] [] (f16_spec ⟨A, c, xs⟩) 22 rfl (want_all rfl) rfl rfl (Runs.fn rfl Try.call16 rfl) (by decide) (by decide) rfl hr ?_
  rintro v2 ρ2 L2 ⟨rfl, ⟨gr, rfl, hgr⟩, rfl⟩
  refine ⟨rfl, fun hle2 => ⟨Kp.true, ?_⟩⟩
  refine Jp.done hK5 ?_
  refine Cd.cond rfl (fun g22 => ?_) (fun g22 => ?_)
  · skip
    refine Cd.seq fun K6 hK6 => ?_
    refine Cd.plain [(0, false)] rfl rfl ?_
    refine Jp.y 2 rfl (want_all rfl) rfl rfl Kp.true (Y.assign rfl rfl) ?_
    refine Jp.done hK6 ?_
    refine Cd.ret [] rfl (res1 rfl rfl) trivial ⟨rfl, rfl⟩
  try simp only [decide_eq_false_iff_not, decide_eq_true_eq, Int.not_lt, Int.not_le, Bool.not_eq_false, Bool.not_eq_true, Bool.not_true, Bool.not_false, Bool.not_eq_true', Bool.not_eq_false', beq_eq_false_iff_ne, ne_eq, beq_iff_eq, bne_iff_ne, bne_eq_false_iff_eq, Classical.not_not] at g22
  refine Cd.skip hK4 ?_
  refine Cd.seq fun K7 hK7 => ?_
  refine Cd.plain [(0, false), (1, false), (2, false), (3, false), (4, false), (5, false), (6, false), (7, false), (8, false), (9, false), (10, false)] rfl rfl ?_
  obtain ⟨hn, hs⟩ := hgr g22
  have hn : xs.length ≤ 20 := hn
  have hs : ∀ a ∈ xs, a.size ≤ 400 := hs
  have hml : (xs.map str).length = xs.length := List.length_map ..
  refine Jp.y 24 rfl (want_all rfl) rfl rfl Kp.true (Y.move rfl rfl) ?_
  refine Jp.call [] [3, 4] (f17_spec ⟨A, c, xs⟩ hn (fun a ha => Nat.le_trans (hs a ha) (by omega))) 25 rfl (want_all rfl) rfl rfl (Runs.fn rfl Try.call17 rfl) (by decide) (by decide) rfl hr ?_
  rintro v3 ρ3 L3 ⟨rfl, A3, c3, B3, d3, q, hq, rfl, rfl⟩
  refine ⟨rfl, fun hle3 => ⟨Kp.true, ?_⟩⟩
  refine Jp.y 23 rfl (want_all rfl) rfl rfl Kp.true (Y.move rfl rfl) ?_
  refine Jp.y 26 rfl (want_all rfl) rfl rfl Kp.true (Y.extract rfl rfl rfl) ?_
  refine Jp.y 27 rfl (want_all rfl) rfl rfl Kp.true (Y.extract rfl rfl rfl) ?_
  refine Jp.y 28 rfl (want_all rfl) rfl rfl Kp.true (Y.extract rfl rfl rfl) ?_
  refine Jp.y 29 rfl (want_all rfl) rfl rfl Kp.true (Y.extract rfl rfl rfl) ?_
  refine Jp.y 3 rfl (want_all rfl) rfl rfl Kp.true (Y.assign rfl rfl) ?_
  refine Jp.y 4 rfl (want_all rfl) rfl rfl Kp.true (Y.assign rfl rfl) ?_
  refine Jp.y 5 rfl (want_all rfl) rfl rfl Kp.true (Y.assign rfl rfl) ?_
  refine Jp.y 6 rfl (want_all rfl) rfl rfl Kp.true (Y.assign rfl rfl) ?_
  refine Jp.done hK7 ?_
  refine Cd.seq fun K8 hK8 => ?_
  refine Cd.plain [(0, false), (1, false), (2, false), (3, false), (4, false), (5, false), (6, false), (7, false), (8, false), (9, false), (10, false)] rfl rfl ?_
  refine Jp.y 31 rfl (want_all rfl) rfl rfl Kp.true (Y.move rfl rfl) ?_
  refine Jp.call [] [5, 6] (stackR_spec ⟨A, c, xs⟩ hn hs) 32 rfl (want_all rfl) rfl rfl (Runs.fn rfl Try.call32 rfl) (by decide) (by decide) rfl hr ?_
  rintro v4 ρ4 L4 ⟨rfl, A4, c4, B4, d4, q2, hq2, rfl, rfl⟩
  refine ⟨rfl, fun hle4 => ⟨Kp.true, ?_⟩⟩
  obtain rfl : q = q2 := hq.symm.trans hq2
  have hq : buildP (xs.map str) = q := hq
  refine Jp.y 30 rfl (want_all rfl) rfl rfl Kp.true (Y.move rfl rfl) ?_
  refine Jp.y 33 rfl (want_all rfl) rfl rfl Kp.true (Y.extract rfl rfl rfl) ?_
  refine Jp.y 34 rfl (want_all rfl) rfl rfl Kp.true (Y.extract rfl rfl rfl) ?_
  refine Jp.y 35 rfl (want_all rfl) rfl rfl Kp.true (Y.extract rfl rfl rfl) ?_
  refine Jp.y 36 rfl (want_all rfl) rfl rfl Kp.true (Y.extract rfl rfl rfl) ?_
  refine Jp.y 7 rfl (want_all rfl) rfl rfl Kp.true (Y.assign rfl rfl) ?_
  refine Jp.y 8 rfl (want_all rfl) rfl rfl Kp.true (Y.assign rfl rfl) ?_
  refine Jp.y 9 rfl (want_all rfl) rfl rfl Kp.true (Y.assign rfl rfl) ?_
  refine Jp.y 10 rfl (want_all rfl) rfl rfl Kp.true (Y.assign rfl rfl) ?_
  refine Jp.done hK8 ?_
  refine Cd.seq fun K9 hK9 => ?_
  refine Cd.seq fun K10 hK10 => ?_
  refine Cd.plain [(0, false), (1, false), (2, false), (3, false), (4, false), (5, false), (6, false), (7, false), (8, false), (9, false), (10, false), (11, false), (12, false), (13, false), (14, false), (15, false), (16, false), (17, false), (18, false), (19, false), (20, false), (21, false)] rfl rfl ?_
  refine Jp.y 37 rfl (want_all rfl) rfl rfl Kp.true (Y.move rfl rfl) ?_
  refine Jp.y 38 rfl (want_all rfl) rfl rfl Kp.true (Y.move rfl rfl) ?_
  refine Jp.y 39 rfl (want_all rfl) rfl rfl Kp.true (Y.neq rfl rfl rfl) ?_
  refine Jp.y 40 rfl (want_all rfl) rfl rfl Kp.true (Y.move rfl rfl) ?_
  refine Jp.split 40 rfl (fun g40 => ?_) (fun g40 => ?_)
  · skip
    exact absurd g40 (by simp)
  try simp only [decide_eq_false_iff_not, decide_eq_true_eq, Int.not_lt, Int.not_le, Bool.not_eq_false, Bool.not_eq_true, Bool.not_true, Bool.not_false, Bool.not_eq_true', Bool.not_eq_false', beq_eq_false_iff_ne, ne_eq, beq_iff_eq, bne_iff_ne, bne_eq_false_iff_eq, Classical.not_not] at g40
  refine Jp.y 41 rfl (want_as rfl rfl rfl rfl) rfl rfl Kp.true (Y.move rfl rfl) ?_
  refine Jp.y 42 rfl (want_as rfl rfl rfl rfl) rfl rfl Kp.true (Y.move rfl rfl) ?_
  refine Jp.y 43 rfl (want_as rfl rfl rfl rfl) rfl rfl Kp.true (Y.neq rfl rfl rfl) ?_
  refine Jp.y 44 rfl (want_all rfl) rfl rfl Kp.true (Y.pickF rfl rfl rfl) ?_
  refine Jp.y 45 rfl (want_all rfl) rfl rfl Kp.true (Y.move rfl rfl) ?_
  refine Jp.split 45 rfl (fun g45 => ?_) (fun g45 => ?_)
  · skip
    exact absurd g45 (by simp)
  try simp only [decide_eq_false_iff_not, decide_eq_true_eq, Int.not_lt, Int.not_le, Bool.not_eq_false, Bool.not_eq_true, Bool.not_true, Bool.not_false, Bool.not_eq_true', Bool.not_eq_false', beq_eq_false_iff_ne, ne_eq, beq_iff_eq, bne_iff_ne, bne_eq_false_iff_eq, Classical.not_not] at g45
  refine Jp.y 46 rfl (want_as rfl rfl rfl rfl) rfl rfl Kp.true (Y.move rfl rfl) ?_
  refine Jp.y 47 rfl (want_as rfl rfl rfl rfl) rfl rfl Kp.true (Y.toStr _ rfl rfl Try.underlying25 Try.underlying9 Try.underlying5 ⟨_, _, rfl⟩ (Src.own 3 rfl)) ?_
  refine Jp.y 48 rfl (want_as rfl rfl rfl rfl) rfl rfl Kp.true (Y.move rfl rfl) ?_
  refine Jp.y 49 rfl (want_as rfl rfl rfl rfl) rfl rfl Kp.true (Y.toStr _ rfl rfl Try.underlying25 Try.underlying9 Try.underlying5 ⟨_, _, rfl⟩ (Src.own 5 rfl)) ?_
  refine Jp.y 50 rfl (want_as rfl rfl rfl rfl) rfl rfl Kp.true (Y.strneq rfl rfl rfl) ?_
  refine Jp.y 51 rfl (want_all rfl) rfl rfl Kp.true (Y.pickF rfl rfl rfl) ?_
  refine Jp.y 52 rfl (want_all rfl) rfl rfl Kp.true (Y.move rfl rfl) ?_
  refine Jp.split 52 rfl (fun g52 => ?_) (fun g52 => ?_)
  · skip
    exact absurd g52 (by simp)
  try simp only [decide_eq_false_iff_not, decide_eq_true_eq, Int.not_lt, Int.not_le, Bool.not_eq_false, Bool.not_eq_true, Bool.not_true, Bool.not_false, Bool.not_eq_true', Bool.not_eq_false', beq_eq_false_iff_ne, ne_eq, beq_iff_eq, bne_iff_ne, bne_eq_false_iff_eq, Classical.not_not] at g52
  refine Jp.y 53 rfl (want_as rfl rfl rfl rfl) rfl rfl Kp.true (Y.move rfl rfl) ?_
  refine Jp.y 54 rfl (want_as rfl rfl rfl rfl) rfl rfl Kp.true (Y.lenslice rfl Try.underlying27 rfl) ?_
  refine Jp.y 55 rfl (want_as rfl rfl rfl rfl) rfl rfl Kp.true (Y.move rfl rfl) ?_
  refine Jp.y 56 rfl (want_as rfl rfl rfl rfl) rfl rfl Kp.true (Y.lenslice rfl Try.underlying62 rfl) ?_
  refine Jp.y 57 rfl (want_as rfl rfl rfl rfl) rfl rfl Kp.true (Y.neq rfl rfl rfl) ?_
  refine Jp.y 58 rfl (want_all rfl) rfl rfl Kp.true (Y.pickF rfl rfl rfl) ?_
  refine Jp.done hK10 ?_
  refine Cd.cond rfl (fun g58 => ?_) (fun g58 => ?_)
  · skip
    exact absurd g58 (by simp)
  try simp only [decide_eq_false_iff_not, decide_eq_true_eq, Int.not_lt, Int.not_le, Bool.not_eq_false, Bool.not_eq_true, Bool.not_true, Bool.not_false, Bool.not_eq_true', Bool.not_eq_false', beq_eq_false_iff_ne, ne_eq, beq_iff_eq, bne_iff_ne, bne_eq_false_iff_eq, Classical.not_not] at g58
  refine Cd.skip hK9 ?_
  refine Cd.seq fun K11 hK11 => ?_
  refine Cd.seq fun K12 hK12 => ?_
  refine Cd.plain [(0, false)] rfl rfl ?_
  refine Jp.y 11 rfl (want_all rfl) rfl rfl Kp.true (Y.assign rfl rfl) ?_
  refine Jp.done hK12 ?_
  refine Cd.block ?_
  refine Cd.loopK (G := Nat) (fun k => k ≤ q.places.length) (fun k => q.places.length - k) (fun _ => _) (fun k => [(11, .int .i64 (k : Int))]) [(0, _), (3, _), (4, _), (5, _), (6, _), (9, _)] (fun _ => []) [(3, _), (4, _), (5, _), (6, _)] 0 (Nat.zero_le _) rfl ⟨rfl, trivial⟩ ⟨rfl, rfl, rfl, rfl, rfl, rfl, trivial⟩ trivial ⟨rfl, rfl, rfl, rfl, trivial⟩ (fun g KLa hok hLa => ?_)
  have hg : g ≤ q.places.length := hok
  have hpl : q.places.length ≤ 100 := by
    rw [← hq, buildP]
    split
    · split
      · show (placesP _ _).length ≤ 100; rw [placesP_length]; omega
      · exact Nat.zero_le _
    · exact Nat.zero_le _
  refine Cd.seq fun K13 hK13 => ?_
  refine Cd.seq fun K14 hK14 => ?_
  refine Cd.plain [(0, false), (1, false), (2, false), (3, false)] rfl rfl ?_
  refine Jp.y 59 rfl (want_all rfl) rfl rfl Kp.true (Y.move rfl rfl) ?_
  refine Jp.y 60 rfl (want_all rfl) rfl rfl Kp.true (Y.move rfl rfl) ?_
  refine Jp.y 61 rfl (want_all rfl) rfl rfl Kp.true (Y.lenslice rfl Try.underlying27 rfl) ?_
  refine Jp.y 62 rfl (want_all rfl) rfl rfl Kp.true (Y.lss rfl rfl rfl) ?_
  refine Jp.done hK14 ?_
  refine Cd.cond rfl (fun ga => ?_) (fun ga => ?_)
  · simp only [decide_eq_true_eq] at ga
    have hi : g < q.places.length := by omega
    obtain ⟨hp0, hp1⟩ := placesV_get q.places g q.places[g] (List.getElem?_eq_getElem hi)
    refine Cd.ownAt 4 rfl (by omega) ?_
    rintro b4 rfl
    refine Cd.ownAt 6 rfl (by omega) ?_
    rintro b6 rfl
    refine Cd.skip hK13 ?_
    refine Cd.seq fun K15 hK15 => ?_
    refine Cd.block ?_
    refine Cd.seq fun K16 hK16 => ?_
    refine Cd.drawn [(4, _), (6, _)] ⟨rfl, rfl, trivial⟩ [(0, true), (1, true), (2, true), (3, true), (4, true), (5, true), (6, true), (7, true), (8, true), (9, true), (10, true), (11, true), (12, true), (13, true), (14, true), (15, true), (16, true), (17, true), (18, true), (19, true), (20, true), (21, true), (22, true), (23, true)] follows (by kernel_rfl) (fun hrl => ?_)
    refine Jp.q 65 rfl (want_all rfl) rfl rfl (Y.move rfl rfl) ?_
    refine Jp.q 66 rfl (want_all rfl) rfl rfl (Y.move rfl rfl) ?_
    refine Jp.q 67 rfl (want_all rfl) rfl rfl (Y.indexAddr (q := g * 2) rfl rfl rfl Try.underlying27 Try.sizeOf32 (by omega) (by omega) (by omega)) ?_
    refine Jp.q 68 rfl (want_all rfl) rfl rfl (by first | exact Y.fieldAddrP rfl rfl Try.underlying32 rfl Try.sizeOf26 (by decide) (show _ + 0 = _ from rfl) | exact Y.fieldAddr rfl rfl Try.underlying32 rfl Try.sizeOf26 (by decide)) ?_
    refine Jp.q 69 rfl (want_all rfl) rfl rfl (Y.loadS 4 (q := g * 2 + 0) rfl Try.isAgg26 rfl rfl rfl hp0) ?_
    refine Jp.q 70 rfl (want_all rfl) rfl rfl (Y.move rfl rfl) ?_
    refine Jp.q 71 rfl (want_all rfl) rfl rfl (Y.move rfl rfl) ?_
    refine Jp.q 72 rfl (want_all rfl) rfl rfl (Y.indexAddr (q := g * 2) rfl rfl rfl Try.underlying62 Try.sizeOf65 (by omega) (by omega) (by omega)) ?_
    refine Jp.q 73 rfl (want_all rfl) rfl rfl (by first | exact Y.fieldAddrP rfl rfl Try.underlying65 rfl Try.sizeOf26 (by decide) (show _ + 0 = _ from rfl) | exact Y.fieldAddr rfl rfl Try.underlying65 rfl Try.sizeOf26 (by decide)) ?_
    refine Jp.q 74 rfl (want_all rfl) rfl rfl (Y.loadS 6 (q := g * 2 + 0) rfl Try.isAgg26 rfl rfl rfl hp0) ?_
    refine Jp.q 75 rfl (want_all rfl) rfl rfl (Y.neq rfl rfl rfl) ?_
    refine Jp.q 76 rfl (want_all rfl) rfl rfl (Y.move rfl rfl) ?_
    refine Jp.split 76 rfl (fun g76 => ?_) (fun g76 => ?_)
    · skip
      exact absurd g76 (by simp)
    try simp only [decide_eq_false_iff_not, decide_eq_true_eq, Int.not_lt, Int.not_le, Bool.not_eq_false, Bool.not_eq_true, Bool.not_true, Bool.not_false, Bool.not_eq_true', Bool.not_eq_false', beq_eq_false_iff_ne, ne_eq, beq_iff_eq, bne_iff_ne, bne_eq_false_iff_eq, Classical.not_not] at g76
    refine Jp.q 77 rfl (want_as rfl rfl rfl rfl) rfl rfl (Y.move rfl rfl) ?_
    refine Jp.q 78 rfl (want_as rfl rfl rfl rfl) rfl rfl (Y.move rfl rfl) ?_
    refine Jp.q 79 rfl (want_as rfl rfl rfl rfl) rfl rfl (Y.indexAddr (q := g * 2) rfl rfl rfl Try.underlying27 Try.sizeOf32 (by omega) (by omega) (by omega)) ?_
    refine Jp.q 80 rfl (want_as rfl rfl rfl rfl) rfl rfl (by first | exact Y.fieldAddrP rfl rfl Try.underlying32 rfl Try.sizeOf3 (by decide) (show _ + 1 = _ from rfl) | exact Y.fieldAddr rfl rfl Try.underlying32 rfl Try.sizeOf3 (by decide)) ?_
    refine Jp.q 81 rfl (want_as rfl rfl rfl rfl) rfl rfl (Y.loadS 4 (q := g * 2 + 1) rfl Try.isAgg3 rfl rfl (Addr.add_add _ _ _).symm hp1) ?_
    refine Jp.q 82 rfl (want_as rfl rfl rfl rfl) rfl rfl (Y.move rfl rfl) ?_
    refine Jp.q 83 rfl (want_as rfl rfl rfl rfl) rfl rfl (Y.move rfl rfl) ?_
    refine Jp.q 84 rfl (want_as rfl rfl rfl rfl) rfl rfl (Y.indexAddr (q := g * 2) rfl rfl rfl Try.underlying62 Try.sizeOf65 (by omega) (by omega) (by omega)) ?_
    refine Jp.q 85 rfl (want_as rfl rfl rfl rfl) rfl rfl (by first | exact Y.fieldAddrP rfl rfl Try.underlying65 rfl Try.sizeOf3 (by decide) (show _ + 1 = _ from rfl) | exact Y.fieldAddr rfl rfl Try.underlying65 rfl Try.sizeOf3 (by decide)) ?_
    refine Jp.q 86 rfl (want_as rfl rfl rfl rfl) rfl rfl (Y.loadS 6 (q := g * 2 + 1) rfl Try.isAgg3 rfl rfl (Addr.add_add _ _ _).symm hp1) ?_
    refine Jp.q 87 rfl (want_as rfl rfl rfl rfl) rfl rfl (Y.neq rfl rfl rfl) ?_
    refine Jp.q 88 rfl (want_all rfl) rfl rfl (Y.pickF rfl rfl rfl) ?_
    refine Jp.done hK16 ?_
    refine Cd.cond rfl (fun g88 => ?_) (fun g88 => ?_)
    · skip
      exact absurd g88 (by simp)
    try simp only [decide_eq_false_iff_not, decide_eq_true_eq, Int.not_lt, Int.not_le, Bool.not_eq_false, Bool.not_eq_true, Bool.not_true, Bool.not_false, Bool.not_eq_true', Bool.not_eq_false', beq_eq_false_iff_ne, ne_eq, beq_iff_eq, bne_iff_ne, bne_eq_false_iff_eq, Classical.not_not] at g88
    refine Cd.over rfl hK15 ?_
    refine Cd.plain [(0, false), (1, false), (2, false)] rfl rfl ?_
    refine Jp.y 63 rfl (want_all rfl) rfl rfl Kp.true (Y.move rfl rfl) ?_
    refine Jp.y 64 rfl (want_all rfl) rfl rfl Kp.true (Y.add_ rfl rfl rfl (by first | exact wrap_i64 (by omega) (by omega) | rfl)) ?_
    refine Jp.y 11 rfl (want_all rfl) rfl rfl Kp.true (Y.assign rfl rfl) ?_
    rw [show (g : Int) + 1 = ((g + 1 : Nat) : Int) by omega]
    refine Jp.again hLa (g + 1) (show g + 1 ≤ _ by omega) (show q.places.length - (g + 1) < q.places.length - g by omega) rfl ⟨rfl, rfl, rfl, rfl, rfl, rfl, rfl, trivial⟩ ⟨rfl, rfl, rfl, rfl, trivial⟩
  · simp only [decide_eq_false_iff_not] at ga
    refine Cd.exit rfl hK11 ?_
    refine Cd.seq fun K18 hK18 => ?_
    refine Cd.plain [(0, false), (1, false), (2, false), (3, false), (4, false), (5, false)] rfl rfl ?_
    refine Jp.call [] [0] (new_yes 20 (by omega)) 90 rfl (want_all rfl) rfl rfl (Runs.fn rfl Try.call19 rfl) (by decide) (by decide) rfl trivial ?_
    rintro v5 ρ5 L5 ⟨rfl, b, rfl, rfl⟩
    refine ⟨rfl, fun hle5 => ⟨Kp.true, ?_⟩⟩
    refine Jp.y 89 rfl (want_all rfl) rfl rfl Kp.true (Y.move rfl rfl) ?_
    refine Jp.y 91 rfl (want_all rfl) rfl rfl Kp.true (Y.extract rfl rfl rfl) ?_
    refine Jp.y 92 rfl (want_all rfl) rfl rfl Kp.true (Y.extract rfl rfl rfl) ?_
    refine Jp.y 12 rfl (want_all rfl) rfl rfl Kp.true (Y.assign rfl rfl) ?_
    refine Jp.y 13 rfl (want_all rfl) rfl rfl Kp.true (Y.assign rfl rfl) ?_
    refine Jp.done hK18 ?_
    refine Cd.seq fun K19 hK19 => ?_
    refine Cd.plain [(0, false), (1, false), (2, false), (3, false), (4, false), (5, false), (6, false), (7, false), (8, false), (9, false)] rfl rfl ?_
    refine Jp.y 94 rfl (want_all rfl) rfl rfl Kp.true (Y.move rfl rfl) ?_
    refine Jp.y 95 rfl (want_all rfl) rfl rfl Kp.true (Y.move rfl rfl) ?_
    refine Jp.call [0] [0, 7] (lay_spec b (newM 20) ⟨A, c, xs⟩ hn (fun a ha => Nat.le_trans (hs a ha) (by omega))) 96 rfl (want_all rfl) rfl rfl (Runs.fn rfl Try.call28 rfl) (by decide) (by decide) rfl hr ?_
    rintro v6 ρ6 L6 ⟨A6, c6, rfl, rfl⟩
    refine ⟨rfl, fun hle6 => ⟨Kp.true, ?_⟩⟩
    by_cases hb : (buildP (xs.map str)).err = 0
    · obtain ⟨hT, M2, hL, hM, _⟩ := laidN base20 hb (by omega)
      have hq3 := buildP_ok hb
      rw [hq, hml] at hq3
      have hL : layM (newM 20) ((⟨A, c, xs⟩ : Sl ByteArray).xs.map str) = _ := hL
      rw [hL]
      dsimp only
      obtain ⟨f1, f2, f3⟩ := page_fit hT (by omega)
      have hv := vecP_len (xs.map str) xs.length
      have hl1 : (lay noughts (at0P (xs.map str)) (textP (xs.map str))).length = 4096 := by rw [lay_length (by rw [noughts_length]; omega), noughts_length]
      have hl : (pageP (xs.map str) xs.length).length = 4096 := by rw [pageP, lay_length (by rw [hl1]; omega), hl1]
      rw [hml] at hM ⊢
      subst hq3
      have hw := hM.whole hl
      refine Jp.y 93 rfl (want_all rfl) rfl rfl Kp.true (Y.move rfl rfl) ?_
      refine Jp.y 97 rfl (want_all rfl) rfl rfl Kp.true (Y.extract rfl rfl rfl) ?_
      refine Jp.y 98 rfl (want_all rfl) rfl rfl Kp.true (Y.extract rfl rfl rfl) ?_
      refine Jp.y 99 rfl (want_all rfl) rfl rfl Kp.true (Y.extract rfl rfl rfl) ?_
      refine Jp.y 14 rfl (want_all rfl) rfl rfl Kp.true (Y.assign rfl rfl) ?_
      refine Jp.y 15 rfl (want_all rfl) rfl rfl Kp.true (Y.assign rfl rfl) ?_
      refine Jp.y 16 rfl (want_all rfl) rfl rfl Kp.true (Y.assign rfl rfl) ?_
      refine Jp.done hK19 ?_
      refine Cd.seq fun K20 hK20 => ?_
      refine Cd.seq fun K21 hK21 => ?_
      refine Cd.plain [(0, false), (1, false), (2, false), (3, false), (4, false), (5, false), (6, false), (7, false), (8, false), (9, false), (10, false), (11, false), (12, false), (13, false), (14, false), (15, false), (16, false), (17, false), (18, false)] rfl rfl ?_
      refine Jp.y 100 rfl (want_all rfl) rfl rfl Kp.true (Y.move rfl rfl) ?_
      refine Jp.y 101 rfl (want_all rfl) rfl rfl Kp.true (Y.move rfl rfl) ?_
      refine Jp.y 102 rfl (want_all rfl) rfl rfl Kp.true (Y.neq rfl rfl rfl) ?_
      refine Jp.y 103 rfl (want_all rfl) rfl rfl Kp.true (Y.move rfl rfl) ?_
      refine Jp.split 103 rfl (fun g103 => ?_) (fun g103 => ?_)
      · skip
        exact absurd g103 (by simp)
      try simp only [decide_eq_false_iff_not, decide_eq_true_eq, Int.not_lt, Int.not_le, Bool.not_eq_false, Bool.not_eq_true, Bool.not_true, Bool.not_false, Bool.not_eq_true', Bool.not_eq_false', beq_eq_false_iff_ne, ne_eq, beq_iff_eq, bne_iff_ne, bne_eq_false_iff_eq, Classical.not_not] at g103
      refine Jp.y 104 rfl (want_as rfl rfl rfl rfl) rfl rfl Kp.true (Y.move rfl rfl) ?_
      refine Jp.y 105 rfl (want_as rfl rfl rfl rfl) rfl rfl Kp.true (Y.move rfl rfl) ?_
      refine Jp.y 106 rfl (want_as rfl rfl rfl rfl) rfl rfl Kp.true (Y.neq rfl rfl rfl) ?_
      refine Jp.y 107 rfl (want_all rfl) rfl rfl Kp.true (Y.pickF rfl rfl rfl) ?_
      refine Jp.y 108 rfl (want_all rfl) rfl rfl Kp.true (Y.move rfl rfl) ?_
      refine Jp.split 108 rfl (fun g108 => ?_) (fun g108 => ?_)
      · skip
        exact absurd g108 (by simp)
      try simp only [decide_eq_false_iff_not, decide_eq_true_eq, Int.not_lt, Int.not_le, Bool.not_eq_false, Bool.not_eq_true, Bool.not_true, Bool.not_false, Bool.not_eq_true', Bool.not_eq_false', beq_eq_false_iff_ne, ne_eq, beq_iff_eq, bne_iff_ne, bne_eq_false_iff_eq, Classical.not_not] at g108
      refine Jp.y 109 rfl (want_as rfl rfl rfl rfl) rfl rfl Kp.true (Y.move rfl rfl) ?_
      refine Jp.y 110 rfl (want_as rfl rfl rfl rfl) rfl rfl Kp.true (Y.lenslice rfl Try.underlying27 rfl) ?_
      refine Jp.y 111 rfl (want_as rfl rfl rfl rfl) rfl rfl Kp.true (Y.move rfl rfl) ?_
      refine Jp.y 112 rfl (want_as rfl rfl rfl rfl) rfl rfl Kp.true (Y.lenslice rfl Try.underlying27 rfl) ?_
      refine Jp.y 113 rfl (want_as rfl rfl rfl rfl) rfl rfl Kp.true (Y.neq rfl rfl rfl) ?_
      refine Jp.y 114 rfl (want_all rfl) rfl rfl Kp.true (Y.pickF rfl rfl rfl) ?_
      refine Jp.y 115 rfl (want_all rfl) rfl rfl Kp.true (Y.move rfl rfl) ?_
      refine Jp.split 115 rfl (fun g115 => ?_) (fun g115 => ?_)
      · skip
        exact absurd g115 (by simp)
      try simp only [decide_eq_false_iff_not, decide_eq_true_eq, Int.not_lt, Int.not_le, Bool.not_eq_false, Bool.not_eq_true, Bool.not_true, Bool.not_false, Bool.not_eq_true', Bool.not_eq_false', beq_eq_false_iff_ne, ne_eq, beq_iff_eq, bne_iff_ne, bne_eq_false_iff_eq, Classical.not_not] at g115
      refine Jp.y 116 rfl (want_as rfl rfl rfl rfl) rfl rfl Kp.true (Y.move rfl rfl) ?_
      refine Jp.y 117 rfl (want_as rfl rfl rfl rfl) rfl rfl Kp.true (Y.neq rfl rfl rfl) ?_
      refine Jp.y 118 rfl (want_all rfl) rfl rfl Kp.true (Y.pickF rfl rfl rfl) ?_
      refine Jp.done hK21 ?_
      refine Cd.cond rfl (fun g118 => ?_) (fun g118 => ?_)
      · skip
        exact absurd g118 (by simp)
      try simp only [decide_eq_false_iff_not, decide_eq_true_eq, Int.not_lt, Int.not_le, Bool.not_eq_false, Bool.not_eq_true, Bool.not_true, Bool.not_false, Bool.not_eq_true', Bool.not_eq_false', beq_eq_false_iff_ne, ne_eq, beq_iff_eq, bne_iff_ne, bne_eq_false_iff_eq, Classical.not_not] at g118
      refine Cd.skip hK20 ?_
      refine Cd.seq fun K22 hK22 => ?_
      refine Cd.plain [(0, false), (1, false), (2, false), (3, false), (4, false), (5, false), (6, false)] rfl rfl ?_
      refine Jp.y 133 rfl (want_all rfl) rfl rfl Kp.true (Y.move rfl rfl) ?_
      refine Jp.call [0] [0, 8] (read_eq (by omega) hw) 134 rfl (want_all rfl) rfl rfl (Runs.fn rfl Try.call23 rfl) (by decide) (by decide) rfl trivial ?_
      rintro v7 ρ7 L7 ⟨rfl, A7, c7, rfl, rfl⟩
      refine ⟨rfl, fun hle7 => ⟨Kp.true, ?_⟩⟩
      refine Jp.y 132 rfl (want_all rfl) rfl rfl Kp.true (Y.move rfl rfl) ?_
      refine Jp.y 135 rfl (want_all rfl) rfl rfl Kp.true (Y.extract rfl rfl rfl) ?_
      refine Jp.y 136 rfl (want_all rfl) rfl rfl Kp.true (Y.extract rfl rfl rfl) ?_
      refine Jp.y 17 rfl (want_all rfl) rfl rfl Kp.true (Y.assign rfl rfl) ?_
      refine Jp.y 18 rfl (want_all rfl) rfl rfl Kp.true (Y.assign rfl rfl) ?_
      refine Jp.done hK22 ?_
      refine Cd.seq fun K23 hK23 => ?_
      refine Cd.plain [(0, false), (1, false), (2, false), (3, false), (4, false), (5, false), (6, false), (7, false), (8, false), (9, false)] rfl rfl ?_
      refine Jp.y 137 rfl (want_all rfl) rfl rfl Kp.true (Y.move rfl rfl) ?_
      refine Jp.y 138 rfl (want_all rfl) rfl rfl Kp.true (Y.eql rfl rfl rfl) ?_
      refine Jp.y 139 rfl (want_all rfl) rfl rfl Kp.true (Y.move rfl rfl) ?_
      refine Jp.splitF 139 rfl (fun g139 => ?_) (fun g139 => ?_)
      · skip
        exact absurd g139 (by simp)
      try simp only [decide_eq_false_iff_not, decide_eq_true_eq, Int.not_lt, Int.not_le, Bool.not_eq_false, Bool.not_eq_true, Bool.not_true, Bool.not_false, Bool.not_eq_true', Bool.not_eq_false', beq_eq_false_iff_ne, ne_eq, beq_iff_eq, bne_iff_ne, bne_eq_false_iff_eq, Classical.not_not] at g139
      refine Jp.y 140 rfl (want_as rfl rfl rfl rfl) rfl rfl Kp.true (Y.move rfl rfl) ?_
      refine Jp.y 141 rfl (want_as rfl rfl rfl rfl) rfl rfl Kp.true (Y.toStr _ rfl rfl Try.underlying25 Try.underlying9 Try.underlying5 ⟨_, _, rfl⟩ (Src.own 8 rfl)) ?_
      refine Jp.y 142 rfl (want_as rfl rfl rfl rfl) rfl rfl Kp.true (Y.move rfl rfl) ?_
      refine Jp.y 143 rfl (want_as rfl rfl rfl rfl) rfl rfl Kp.true (Y.toStr _ rfl rfl Try.underlying25 Try.underlying9 Try.underlying5 ⟨_, _, rfl⟩ (Src.own 3 rfl)) ?_
      refine Jp.y 144 rfl (want_as rfl rfl rfl rfl) rfl rfl Kp.true (Y.streql rfl rfl rfl) ?_
      refine Jp.y 145 rfl (want_all rfl) rfl rfl Kp.true (Y.pickT rfl rfl rfl) ?_
      refine Jp.y 2 rfl (want_all rfl) rfl rfl Kp.true (Y.assign rfl rfl) ?_
      refine Jp.done hK23 ?_
      refine Cd.ret [] rfl (res1 rfl rfl) trivial ⟨congrArg Value.bool (by simp), rfl⟩
    · obtain ⟨hsp, hpls⟩ := buildP_no hb
      have hL : layM (newM 20) ((⟨A, c, xs⟩ : Sl ByteArray).xs.map str) = ⟨0, [], q.err, newM 20⟩ := by
        show layM (newM 20) (xs.map str) = _
        rw [layM, if_neg hb, hq]
      rw [hq] at hb hsp hpls
      rw [hL]
      dsimp only
      refine Jp.y 93 rfl (want_all rfl) rfl rfl Kp.true (Y.move rfl rfl) ?_
      refine Jp.y 97 rfl (want_all rfl) rfl rfl Kp.true (Y.extract rfl rfl rfl) ?_
      refine Jp.y 98 rfl (want_all rfl) rfl rfl Kp.true (Y.extract rfl rfl rfl) ?_
      refine Jp.y 99 rfl (want_all rfl) rfl rfl Kp.true (Y.extract rfl rfl rfl) ?_
      refine Jp.y 14 rfl (want_all rfl) rfl rfl Kp.true (Y.assign rfl rfl) ?_
      refine Jp.y 15 rfl (want_all rfl) rfl rfl Kp.true (Y.assign rfl rfl) ?_
      refine Jp.y 16 rfl (want_all rfl) rfl rfl Kp.true (Y.assign rfl rfl) ?_
      refine Jp.done hK19 ?_
      refine Cd.seq fun K24 hK24 => ?_
      refine Cd.seq fun K25 hK25 => ?_
      refine Cd.plain [(0, false), (1, false), (2, false), (3, false), (4, false), (5, false), (6, false), (7, false), (8, false), (9, false), (10, false), (11, false), (12, false), (13, false), (14, false), (15, false), (16, false), (17, false), (18, false)] rfl rfl ?_
      refine Jp.y 100 rfl (want_all rfl) rfl rfl Kp.true (Y.move rfl rfl) ?_
      refine Jp.y 101 rfl (want_all rfl) rfl rfl Kp.true (Y.move rfl rfl) ?_
      refine Jp.y 102 rfl (want_all rfl) rfl rfl Kp.true (Y.neq rfl rfl rfl) ?_
      refine Jp.y 103 rfl (want_all rfl) rfl rfl Kp.true (Y.move rfl rfl) ?_
      refine Jp.split 103 rfl (fun g103 => ?_) (fun g103 => ?_)
      · skip
        exact absurd g103 (by simp)
      try simp only [decide_eq_false_iff_not, decide_eq_true_eq, Int.not_lt, Int.not_le, Bool.not_eq_false, Bool.not_eq_true, Bool.not_true, Bool.not_false, Bool.not_eq_true', Bool.not_eq_false', beq_eq_false_iff_ne, ne_eq, beq_iff_eq, bne_iff_ne, bne_eq_false_iff_eq, Classical.not_not] at g103
      refine Jp.y 104 rfl (want_as rfl rfl rfl rfl) rfl rfl Kp.true (Y.move rfl rfl) ?_
      refine Jp.y 105 rfl (want_as rfl rfl rfl rfl) rfl rfl Kp.true (Y.move rfl rfl) ?_
      refine Jp.y 106 rfl (want_as rfl rfl rfl rfl) rfl rfl Kp.true (Y.neq rfl rfl rfl) ?_
      refine Jp.y 107 rfl (want_all rfl) rfl rfl Kp.true (Y.pickF rfl rfl rfl) ?_
      refine Jp.y 108 rfl (want_all rfl) rfl rfl Kp.true (Y.move rfl rfl) ?_
      refine Jp.split 108 rfl (fun g108 => ?_) (fun g108 => ?_)
      · skip
        exact absurd g108 (by rw [hsp]; simp)
      try simp only [decide_eq_false_iff_not, decide_eq_true_eq, Int.not_lt, Int.not_le, Bool.not_eq_false, Bool.not_eq_true, Bool.not_true, Bool.not_false, Bool.not_eq_true', Bool.not_eq_false', beq_eq_false_iff_ne, ne_eq, beq_iff_eq, bne_iff_ne, bne_eq_false_iff_eq, Classical.not_not] at g108
      refine Jp.y 109 rfl (want_as rfl rfl rfl rfl) rfl rfl Kp.true (Y.move rfl rfl) ?_
      refine Jp.y 110 rfl (want_as rfl rfl rfl rfl) rfl rfl Kp.true (Y.lenslice rfl Try.underlying27 rfl) ?_
      refine Jp.y 111 rfl (want_as rfl rfl rfl rfl) rfl rfl Kp.true (Y.move rfl rfl) ?_
      refine Jp.y 112 rfl (want_as rfl rfl rfl rfl) rfl rfl Kp.true (Y.lenslice rfl Try.underlying27 rfl) ?_
      refine Jp.y 113 rfl (want_as rfl rfl rfl rfl) rfl rfl Kp.true (Y.neq rfl rfl rfl) ?_
      refine Jp.y 114 rfl (want_all rfl) rfl rfl Kp.true (Y.pickF rfl rfl rfl) ?_
      refine Jp.y 115 rfl (want_all rfl) rfl rfl Kp.true (Y.move rfl rfl) ?_
      refine Jp.split 115 rfl (fun g115 => ?_) (fun g115 => ?_)
      · skip
        exact absurd g115 (by rw [hpls]; simp)
      try simp only [decide_eq_false_iff_not, decide_eq_true_eq, Int.not_lt, Int.not_le, Bool.not_eq_false, Bool.not_eq_true, Bool.not_true, Bool.not_false, Bool.not_eq_true', Bool.not_eq_false', beq_eq_false_iff_ne, ne_eq, beq_iff_eq, bne_iff_ne, bne_eq_false_iff_eq, Classical.not_not] at g115
      refine Jp.y 116 rfl (want_as rfl rfl rfl rfl) rfl rfl Kp.true (Y.move rfl rfl) ?_
      refine Jp.y 117 rfl (want_as rfl rfl rfl rfl) rfl rfl Kp.true (Y.neq rfl rfl rfl) ?_
      refine Jp.y 118 rfl (want_all rfl) rfl rfl Kp.true (Y.pickF rfl rfl rfl) ?_
      refine Jp.done hK25 ?_
      refine Cd.cond rfl (fun ge => ?_) (fun ge => ?_)
      · skip
        refine Cd.seq fun K26 hK26 => ?_
        refine Cd.plain [(0, false), (1, false), (2, false), (3, false), (4, false), (5, false), (6, false), (7, false), (8, false), (9, false), (10, false), (11, false), (12, false), (13, false)] rfl rfl ?_
        refine Jp.y 119 rfl (want_all rfl) rfl rfl Kp.true (Y.move rfl rfl) ?_
        refine Jp.y 120 rfl (want_all rfl) rfl rfl Kp.true (Y.move rfl rfl) ?_
        refine Jp.y 121 rfl (want_all rfl) rfl rfl Kp.true (Y.eql rfl rfl rfl) ?_
        refine Jp.y 122 rfl (want_all rfl) rfl rfl Kp.true (Y.move rfl rfl) ?_
        refine Jp.splitF 122 rfl (fun g122 => ?_) (fun g122 => ?_)
        · skip
          exact absurd g122 (by first | (simp; done) | (simp; omega))
        try simp only [decide_eq_false_iff_not, decide_eq_true_eq, Int.not_lt, Int.not_le, Bool.not_eq_false, Bool.not_eq_true, Bool.not_true, Bool.not_false, Bool.not_eq_true', Bool.not_eq_false', beq_eq_false_iff_ne, ne_eq, beq_iff_eq, bne_iff_ne, bne_eq_false_iff_eq, Classical.not_not] at g122
        refine Jp.y 123 rfl (want_as rfl rfl rfl rfl) rfl rfl Kp.true (Y.move rfl rfl) ?_
        refine Jp.y 124 rfl (want_as rfl rfl rfl rfl) rfl rfl Kp.true (Y.neq rfl rfl rfl) ?_
        refine Jp.y 125 rfl (want_all rfl) rfl rfl Kp.true (Y.pickT rfl rfl rfl) ?_
        refine Jp.y 126 rfl (want_all rfl) rfl rfl Kp.true (Y.move rfl rfl) ?_
        refine Jp.splitF 126 rfl (fun g126 => ?_) (fun g126 => ?_)
        · skip
          exact absurd g126 (by first | (simp; done) | (simp; omega))
        try simp only [decide_eq_false_iff_not, decide_eq_true_eq, Int.not_lt, Int.not_le, Bool.not_eq_false, Bool.not_eq_true, Bool.not_true, Bool.not_false, Bool.not_eq_true', Bool.not_eq_false', beq_eq_false_iff_ne, ne_eq, beq_iff_eq, bne_iff_ne, bne_eq_false_iff_eq, Classical.not_not] at g126
        refine Jp.y 127 rfl (want_as rfl rfl rfl rfl) rfl rfl Kp.true (Y.move rfl rfl) ?_
        refine Jp.call [0] [0, 9] (pages_spec b (newM 20) (sorts12 0 (by omega))) 128 rfl (want_as rfl rfl rfl rfl) rfl rfl (Runs.fn rfl Try.call29 rfl) (by decide) (by decide) rfl trivial ?_
        rintro v8 ρ8 L8 ⟨A8, c8, rfl, rfl⟩
        refine ⟨rfl, fun hle8 => ⟨Kp.true, ?_⟩⟩
        refine Jp.y 129 rfl (want_as rfl rfl rfl rfl) rfl rfl Kp.true (Y.lenslice rfl Try.underlying56 rfl) ?_
        refine Jp.y 130 rfl (want_as rfl rfl rfl rfl) rfl rfl Kp.true (Y.eql rfl rfl rfl) ?_
        refine Jp.y 131 rfl (want_all rfl) rfl rfl Kp.true (Y.pickT rfl rfl rfl) ?_
        refine Jp.y 2 rfl (want_all rfl) rfl rfl Kp.true (Y.assign rfl rfl) ?_
        refine Jp.done hK26 ?_
        refine Cd.ret [] rfl (res1 rfl rfl) trivial ⟨rfl, rfl⟩
      · exact absurd ge (by simp; omega)
end Go.Proofs.Ytgfbdiibndbbjaa

/- Contract of law10: StackKnown. -/
set_option linter.unusedVariables false
set_option linter.unusedSimpArgs false
set_option maxRecDepth 100000
namespace Go.Proofs.Ytgfbdiibndbbjaa
open Go
def xes (n : Nat) : Bytes := List.replicate n 120
theorem long_spec (n : Nat) (hn : n ≤ 100000) : Spec Try.prog 30 #[.int .i64 n] (fun _ => True) [] (fun ρ ρ' v L => ρ' = ρ ∧ v = .string (mkS (xes n)) ∧ L = []) := by
  refine Spec.of 17 Try.func30 rfl Try.ntmps30 [(0, _)] rfl rfl ?_
  intro cx ρ hr h0
  refine Cd.seq fun K1 hK1 => ?_
  refine Cd.plain [(0, false)] rfl rfl ?_
  refine Jp.y 2 rfl (want_all rfl) rfl rfl Kp.true (Y.assign rfl rfl) ?_
  refine Jp.done hK1 ?_
  refine Cd.seq fun K2 hK2 => ?_
  refine Cd.plain [(0, false), (1, false), (2, false)] rfl rfl ?_
  refine Jp.y 5 rfl (want_all rfl) rfl rfl Kp.true (Y.move rfl rfl) ?_
  refine Jp.makeSlice (k := n) 6 0 rfl (want_all rfl) rfl rfl rfl Try.underlying25 Try.sizeOf5 Try.typeInfo5 Try.zeroValue5 rfl rfl rfl (by first | rfl | omega) (by first | rfl | omega) (by simp only [Try.t5]; omega) (by omega) fun b0 => ⟨Kp.true, ?_⟩
  refine Jp.y 3 rfl (want_all rfl) rfl rfl Kp.true (Y.assign rfl rfl) ?_
  refine Jp.done hK2 ?_
  refine Cd.seq fun K3 hK3 => ?_
  refine Cd.seq fun K4 hK4 => ?_
  refine Cd.plain [(0, false)] rfl rfl ?_
  refine Jp.y 4 rfl (want_all rfl) rfl rfl Kp.true (Y.assign rfl rfl) ?_
  refine Jp.done hK4 ?_
  refine Cd.block ?_
  refine Cd.imp (i := 0) (A' := OwnS 5 1 (some ⟨b0, 0, none⟩) n n (bytesV (xes 0 ++ List.replicate (n - 0) 0))) rfl (fun k h => by rw [bytesV, xes, List.replicate_zero, List.nil_append, List.map_replicate]; exact h) ?_
  refine Cd.loopK (G := Nat) (fun k => k ≤ n) (fun k => n - k) (fun _ => _) (fun k => [(4, .int .i64 (k : Int))]) [(0, _), (3, _)] (fun k => [(0, OwnS 5 1 (some ⟨b0, 0, none⟩) n n (bytesV (xes k ++ List.replicate (n - k) 0)))]) [] 0 (Nat.zero_le _) rfl ⟨rfl, trivial⟩ ⟨rfl, rfl, trivial⟩ ⟨rfl, trivial⟩ trivial (fun g KLa hok hLa => ?_)
  have hg : g ≤ n := hok
  refine Cd.seq fun K5 hK5 => ?_
  refine Cd.seq fun K6 hK6 => ?_
  refine Cd.plain [(0, false), (1, false), (2, false)] rfl rfl ?_
  refine Jp.y 7 rfl (want_all rfl) rfl rfl Kp.true (Y.move rfl rfl) ?_
  refine Jp.y 8 rfl (want_all rfl) rfl rfl Kp.true (Y.move rfl rfl) ?_
  refine Jp.y 9 rfl (want_all rfl) rfl rfl Kp.true (Y.lss rfl rfl rfl) ?_
  refine Jp.done hK6 ?_
  refine Cd.cond rfl (fun ga => ?_) (fun ga => ?_)
  · simp only [decide_eq_true_eq] at ga
    have hl : (xes g).length = g := List.length_replicate ..
    have hst : (bytesV (xes g ++ List.replicate (n - g) 0)).set g (.int .u8 120) = bytesV (xes (g + 1) ++ List.replicate (n - (g + 1)) 0) := by
      have h5 := bytesV_set (xes g ++ List.replicate (n - g) 0) g 120
      refine h5.trans ?_
      rw [List.set_append_right _ _ (by omega), hl, Nat.sub_self, show n - g = (n - (g + 1)) + 1 by omega, List.replicate_succ, List.set_cons_zero]
      rw [xes, xes, List.replicate_succ', List.append_assoc]; rfl
    refine Cd.skip hK5 ?_
    refine Cd.seq fun K7 hK7 => ?_
    refine Cd.block ?_
    refine Cd.plain [(0, false), (1, false), (2, false), (3, false)] rfl rfl ?_
    refine Jp.y 12 rfl (want_all rfl) rfl rfl Kp.true (Y.move rfl rfl) ?_
    refine Jp.y 13 rfl (want_all rfl) rfl rfl Kp.true (Y.move rfl rfl) ?_
    refine Jp.y 14 rfl (want_all rfl) rfl rfl Kp.true (Y.indexAddr (q := g) rfl rfl rfl Try.underlying25 Try.sizeOf5 (by omega) (by omega) (by omega)) ?_
    refine Jp.storeS 0 (q := g) rfl (want_all rfl) rfl rfl Try.sizeOf5 rfl rfl rfl rfl rfl (by omega) (bytesV (xes (g + 1) ++ List.replicate (n - (g + 1)) 0)) hst Kp.true ?_
    refine Jp.over rfl hK7 ?_
    refine Cd.plain [(0, false), (1, false), (2, false)] rfl rfl ?_
    refine Jp.y 10 rfl (want_all rfl) rfl rfl Kp.true (Y.move rfl rfl) ?_
    refine Jp.y 11 rfl (want_all rfl) rfl rfl Kp.true (Y.add_ rfl rfl rfl (by first | exact wrap_i64 (by omega) (by omega) | rfl)) ?_
    refine Jp.y 4 rfl (want_all rfl) rfl rfl Kp.true (Y.assign rfl rfl) ?_
    rw [show (g : Int) + 1 = ((g + 1 : Nat) : Int) by omega]
    refine Jp.again hLa (g + 1) (show g + 1 ≤ n by omega) (show n - (g + 1) < n - g by omega) rfl ⟨rfl, rfl, rfl, trivial⟩ ⟨rfl, trivial⟩
  · simp only [decide_eq_false_iff_not] at ga
    obtain rfl : g = n := by omega
    refine Cd.imp (i := 0) (A' := OwnS 5 1 (some ⟨b0, 0, none⟩) g g (bytesV (xes g))) rfl (fun _ h => by simpa using h) ?_
    refine Cd.exit rfl hK3 ?_
    refine Cd.seq fun K8 hK8 => ?_
    refine Cd.plain [(0, false), (1, false), (2, false)] rfl rfl ?_
    refine Jp.y 15 rfl (want_all rfl) rfl rfl Kp.true (Y.move rfl rfl) ?_
    refine Jp.y 16 rfl (want_all rfl) rfl rfl Kp.true (Y.toStr _ rfl rfl Try.underlying25 Try.underlying9 Try.underlying5 ⟨_, _, rfl⟩ (Src.own 0 rfl)) ?_
    refine Jp.y 2 rfl (want_all rfl) rfl rfl Kp.true (Y.assign rfl rfl) ?_
    refine Jp.done hK8 ?_
    refine Cd.ret [] rfl (res1 rfl rfl) trivial ⟨rfl, rfl, rfl⟩
theorem full15 : (mapM (newM 15) 2147475456 4096 3).1 = 6 ∧ (mapM (newM 15) 2147475456 4096 3).2 = newM 15 := ⟨by decide +kernel, rfl⟩
theorem lay15 : layM (newM 15) [] = ⟨0, [], 6, newM 15⟩ := by
  rw [layM, if_pos (by decide), full15.1, if_neg (by decide), full15.2]
theorem lay_again {M : MemG} (h : M.pages.map (·.1) = (baseL 16).pages.map (·.1)) : layM M [] = ⟨0, [], 5, M⟩ := by
  have h1 : (withinP M 2147475456 16).length = 16 := by rw [within_keys, h]; decide +kernel
  have h2 : mapM M 2147475456 4096 3 = (5, M) := by
    have hs : stretch 2147475456 4096 = some 16 := by decide
    rw [mapM, hs]; dsimp only; rw [if_neg (by decide), if_pos (by rw [h1]; decide)]
  rw [layM, if_pos (by decide), h2, if_neg (by show ¬ (5 : Int) = 0; decide)]
theorem stackKnown_spec : Spec Try.prog 10 #[] (fun _ => True) [] (fun ρ ρ' v L => v = .bool true ∧ L = []) := by
  refine Spec.of 140 Try.func10 rfl Try.ntmps10 [] rfl rfl ?_
  intro cx ρ hr h0
  refine Cd.seq fun K9 hK9 => ?_
  refine Cd.plain [(0, false)] rfl rfl ?_
  refine Jp.y 0 rfl (want_all rfl) rfl rfl Kp.true (Y.assign rfl rfl) ?_
  refine Jp.done hK9 ?_
  refine Cd.seq fun K10 hK10 => ?_
  refine Cd.seq fun K11 hK11 => ?_
  refine Cd.plain [(0, false), (1, false)] rfl rfl ?_
  refine Jp.call [] [] f15_spec 32 rfl (want_all rfl) rfl rfl (Runs.fn rfl Try.call15 rfl) (by decide) (by decide) rfl trivial ?_
  rintro v1 ρ1 L1 ⟨rfl, rfl⟩
  refine ⟨rfl, fun hle1 => ⟨Kp.true, ?_⟩⟩
  refine Jp.y 33 rfl (want_all rfl) rfl rfl Kp.true (Y.not rfl rfl) ?_
  refine Jp.done hK11 ?_
  refine Cd.cond rfl (fun g33 => ?_) (fun g33 => ?_)
  · skip
    exact absurd g33 (by first | (simp; done) | decide +kernel)
  try simp only [decide_eq_false_iff_not, decide_eq_true_eq, Int.not_lt, Int.not_le, Bool.not_eq_false, Bool.not_eq_true, Bool.not_true, Bool.not_false, Bool.not_eq_true', Bool.not_eq_false', beq_eq_false_iff_ne, ne_eq, beq_iff_eq, bne_iff_ne, bne_eq_false_iff_eq, Classical.not_not] at g33
  refine Cd.skip hK10 ?_
  refine Cd.seq fun K12 hK12 => ?_
  refine Cd.plain [(0, false), (1, false), (2, false), (3, false), (4, false), (5, false), (6, false), (7, false), (8, false), (9, false), (10, false)] rfl rfl ?_
  refine Jp.makeSlice (k := 17) 35 1 rfl (want_all rfl) rfl rfl rfl Try.underlying22 Try.sizeOf9 Try.typeInfo9 Try.zeroValue9 rfl rfl rfl (by first | rfl | omega) (by first | rfl | omega) (by simp only [Try.t9]; omega) (by omega) fun b1 => ⟨Kp.true, ?_⟩
  refine Jp.freeze (i := 1) rfl (OwnS.up _ _ _ _ _ _) fun ρ2 l2 q2 => ?_
  have r2 : RdStr ⟨some ⟨b1, 0, none⟩, 17, List.replicate 17 ByteArray.empty⟩ ρ2 := by
    have := q2.rd
    exact this
  refine Jp.call [] [2, 3] (f17_spec ⟨some ⟨b1, 0, none⟩, 17, List.replicate 17 ByteArray.empty⟩ (by show (List.replicate 17 ByteArray.empty).length ≤ 20; decide) (by intro a ha; rw [List.eq_of_mem_replicate ha]; decide)) 36 rfl (want_all rfl) rfl rfl (Runs.fn rfl Try.call17 rfl) (by decide) (by decide) rfl r2 ?_
  rintro v3 ρ3 L3 ⟨rfl, A3, c3, B3, d3, q3, h3, rfl, rfl⟩
  refine ⟨rfl, fun hle3 => ⟨Kp.true, ?_⟩⟩
  have e3 : q3.err = 1 := by rw [← h3]; show (buildP ((List.replicate 17 ByteArray.empty).map str)).err = 1; decide +kernel
  rw [e3]
  refine Jp.y 34 rfl (want_all rfl) rfl rfl Kp.true (Y.move rfl rfl) ?_
  refine Jp.y 37 rfl (want_all rfl) rfl rfl Kp.true (Y.extract rfl rfl rfl) ?_
  refine Jp.y 38 rfl (want_all rfl) rfl rfl Kp.true (Y.extract rfl rfl rfl) ?_
  refine Jp.y 39 rfl (want_all rfl) rfl rfl Kp.true (Y.extract rfl rfl rfl) ?_
  refine Jp.y 40 rfl (want_all rfl) rfl rfl Kp.true (Y.extract rfl rfl rfl) ?_
  refine Jp.y 1 rfl (want_all rfl) rfl rfl Kp.true (Y.assign rfl rfl) ?_
  refine Jp.y 2 rfl (want_all rfl) rfl rfl Kp.true (Y.assign rfl rfl) ?_
  refine Jp.y 3 rfl (want_all rfl) rfl rfl Kp.true (Y.assign rfl rfl) ?_
  refine Jp.y 4 rfl (want_all rfl) rfl rfl Kp.true (Y.assign rfl rfl) ?_
  refine Jp.done hK12 ?_
  refine Cd.seq fun K13 hK13 => ?_
  refine Cd.plain [(0, false), (1, false), (2, false), (3, false), (4, false), (5, false), (6, false), (7, false), (8, false), (9, false), (10, false)] rfl rfl ?_
  refine Jp.lit 42 4 [(0, _)] [_] rfl (want_all rfl) rfl rfl rfl rfl Try.underlying22 Try.sizeOf9 Try.zeroValue9 rfl rfl rfl rfl rfl fun b4 => ⟨Kp.true, ?_⟩
  refine Jp.freeze (i := 4) rfl (OwnS.up _ _ _ _ _ _) fun ρ4 l4 q4 => ?_
  refine Jp.call [] [2, 3] (f17_spec ⟨some ⟨b4, 0, none⟩, 1, [⟨#[97, 0, 98]⟩]⟩ (by simp) (by intro a ha; simp at ha; subst ha; decide)) 43 rfl (want_all rfl) rfl rfl (Runs.fn rfl Try.call17 rfl) (by decide) (by decide) rfl q4.rd ?_
  rintro v5 ρ5 L5 ⟨rfl, A5, c5, B5, d5, q5, h5, rfl, rfl⟩
  refine ⟨rfl, fun hle5 => ⟨Kp.true, ?_⟩⟩
  have e5 : q5.err = 1 := by rw [← h5]; show (buildP [str ⟨#[97, 0, 98]⟩]).err = 1; decide +kernel
  rw [e5]
  refine Jp.y 41 rfl (want_all rfl) rfl rfl Kp.true (Y.move rfl rfl) ?_
  refine Jp.y 44 rfl (want_all rfl) rfl rfl Kp.true (Y.extract rfl rfl rfl) ?_
  refine Jp.y 45 rfl (want_all rfl) rfl rfl Kp.true (Y.extract rfl rfl rfl) ?_
  refine Jp.y 46 rfl (want_all rfl) rfl rfl Kp.true (Y.extract rfl rfl rfl) ?_
  refine Jp.y 47 rfl (want_all rfl) rfl rfl Kp.true (Y.extract rfl rfl rfl) ?_
  refine Jp.y 5 rfl (want_all rfl) rfl rfl Kp.true (Y.assign rfl rfl) ?_
  refine Jp.y 6 rfl (want_all rfl) rfl rfl Kp.true (Y.assign rfl rfl) ?_
  refine Jp.y 7 rfl (want_all rfl) rfl rfl Kp.true (Y.assign rfl rfl) ?_
  refine Jp.y 8 rfl (want_all rfl) rfl rfl Kp.true (Y.assign rfl rfl) ?_
  refine Jp.done hK13 ?_
  refine Cd.seq fun K14 hK14 => ?_
  refine Cd.drawnF [] trivial [] [(0, false), (1, true), (2, false), (3, false), (4, false), (5, true), (6, true), (7, true), (8, true), (9, true), (10, true), (11, true), (12, true), (13, true)] [(2, false), (0, false), (1, true), (3, false), (4, false), (5, true), (6, true), (7, true), (8, true), (9, true), (10, true), (11, true), (12, true), (13, true)] follows (by kernel_rfl) (fun hrl => ?_)
  refine JpF.split ?_ ?_
  · skip
    refine Jp.makeSlice (k := 0) 49 5 rfl (want_all rfl) rfl rfl rfl Try.underlying25 Try.sizeOf5 Try.typeInfo5 Try.zeroValue5 rfl rfl rfl (by first | rfl | omega) (by first | rfl | omega) (by simp only [Try.t5]; omega) (by omega) fun b5 => ⟨(Kp.st trivial), ?_⟩
    refine Jp.imp (j := 5) (A' := OwnS 5 1 (some ⟨b5, 0, none⟩) 0 0 (bytesV [])) rfl (fun _ h => h) ?_
    refine Jp.strong [(5, _)] ⟨rfl, trivial⟩ trivial (Hp.le_refl _) hrl ?_
    have hrl := Hp.le_trans hrl (Hp.le_refl _)
    refine Jp.q 50 rfl (want_all rfl) rfl rfl (Y.toStr _ rfl rfl Try.underlying25 Try.underlying9 Try.underlying5 ⟨_, _, rfl⟩ (Src.own 5 rfl)) ?_
    refine Jp.call [] [] (long_spec 2998 (by omega)) 51 rfl (want_all rfl) rfl rfl (Runs.fn rfl Try.call30 rfl) (by decide) (by decide) rfl trivial ?_
    rintro v6 ρ6 L6 ⟨rfl, rfl, rfl⟩
    refine ⟨rfl, fun hle6 => ⟨(Kp.st ⟨rfl, trivial⟩), ?_⟩⟩
    refine Jp.lit 52 6 [(0, _), (1, _)] [_, _] rfl (want_all rfl) rfl rfl rfl rfl Try.underlying22 Try.sizeOf9 Try.zeroValue9 rfl rfl rfl rfl rfl fun b6 => ⟨(Kp.st ⟨rfl, trivial⟩), ?_⟩
    refine Jp.freeze (i := 6) rfl (OwnS.up _ _ _ _ _ _) fun ρ6 l6 q6 => ?_
    refine Jp.call [] [2, 3] (f17_spec ⟨some ⟨b6, 0, none⟩, 2, [mkS [], mkS (xes 2998)]⟩ (by simp) (by intro a ha; simp at ha; rcases ha with rfl | rfl <;> (rw [mkS_size]; decide))) 53 rfl (want_all rfl) rfl rfl (Runs.fn rfl Try.call17 rfl) (by decide) (by decide) rfl q6.rd ?_
    rintro v7 ρ7 L7 ⟨rfl, A7, c7, B7, d7, q7, h7, rfl, rfl⟩
    refine ⟨rfl, fun hle7 => ⟨(Kp.st' ⟨rfl, trivial⟩ l6 hrl), ?_⟩⟩
    have e7 : q7.err = 0 := by rw [← h7]; show (buildP [str (mkS []), str (mkS (xes 2998))]).err = 0; rw [str_mkS, str_mkS]; decide +kernel
    rw [e7]
    refine Jp.q 48 rfl (want_all rfl) rfl rfl (Y.move rfl rfl) ?_
    refine Jp.q 54 rfl (want_all rfl) rfl rfl (Y.extract rfl rfl rfl) ?_
    refine Jp.q 55 rfl (want_all rfl) rfl rfl (Y.extract rfl rfl rfl) ?_
    refine Jp.q 56 rfl (want_all rfl) rfl rfl (Y.extract rfl rfl rfl) ?_
    refine Jp.q 57 rfl (want_all rfl) rfl rfl (Y.extract rfl rfl rfl) ?_
    refine Jp.q 9 rfl (want_all rfl) rfl rfl (Y.assign rfl rfl) ?_
    refine Jp.q 10 rfl (want_all rfl) rfl rfl (Y.assign rfl rfl) ?_
    refine Jp.q 11 rfl (want_all rfl) rfl rfl (Y.assign rfl rfl) ?_
    refine Jp.q 12 rfl (want_all rfl) rfl rfl (Y.assign rfl rfl) ?_
    refine Jp.done hK14 ?_
    refine Cd.seq fun K15 hK15 => ?_
    refine Cd.plain [(0, false), (1, false), (2, false), (3, false), (4, false), (5, false), (6, false), (7, false), (8, false), (9, false), (10, false), (11, false)] rfl rfl ?_
    refine Jp.call [] [] (long_spec 2999 (by omega)) 59 rfl (want_all rfl) rfl rfl (Runs.fn rfl Try.call30 rfl) (by decide) (by decide) rfl trivial ?_
    rintro v8 ρ8 L8 ⟨rfl, rfl, rfl⟩
    refine ⟨rfl, fun hle8 => ⟨Kp.true, ?_⟩⟩
    refine Jp.lit 60 9 [(0, _), (1, _)] [_, _] rfl (want_all rfl) rfl rfl rfl rfl Try.underlying22 Try.sizeOf9 Try.zeroValue9 rfl rfl rfl rfl rfl fun b9 => ⟨Kp.true, ?_⟩
    refine Jp.freeze (i := 9) rfl (OwnS.up _ _ _ _ _ _) fun ρ9 l9 q9 => ?_
    refine Jp.call [] [2, 3] (f17_spec ⟨some ⟨b9, 0, none⟩, 2, [⟨#[]⟩, mkS (xes 2999)]⟩ (by simp) (by intro a ha; simp at ha; rcases ha with rfl | rfl <;> first | decide | (rw [mkS_size]; decide))) 61 rfl (want_all rfl) rfl rfl (Runs.fn rfl Try.call17 rfl) (by decide) (by decide) rfl q9.rd ?_
    rintro v10 ρ10 L10 ⟨rfl, A10, c10, B10, d10, q10, h10, rfl, rfl⟩
    refine ⟨rfl, fun hle10 => ⟨Kp.true, ?_⟩⟩
    have e10 : q10.err = 2 := by rw [← h10]; show (buildP [str ⟨#[]⟩, str (mkS (xes 2999))]).err = 2; rw [str_mkS]; decide +kernel
    rw [e10]
    refine Jp.y 58 rfl (want_all rfl) rfl rfl Kp.true (Y.move rfl rfl) ?_
    refine Jp.y 62 rfl (want_all rfl) rfl rfl Kp.true (Y.extract rfl rfl rfl) ?_
    refine Jp.y 63 rfl (want_all rfl) rfl rfl Kp.true (Y.extract rfl rfl rfl) ?_
    refine Jp.y 64 rfl (want_all rfl) rfl rfl Kp.true (Y.extract rfl rfl rfl) ?_
    refine Jp.y 65 rfl (want_all rfl) rfl rfl Kp.true (Y.extract rfl rfl rfl) ?_
    refine Jp.y 13 rfl (want_all rfl) rfl rfl Kp.true (Y.assign rfl rfl) ?_
    refine Jp.y 14 rfl (want_all rfl) rfl rfl Kp.true (Y.assign rfl rfl) ?_
    refine Jp.y 15 rfl (want_all rfl) rfl rfl Kp.true (Y.assign rfl rfl) ?_
    refine Jp.y 16 rfl (want_all rfl) rfl rfl Kp.true (Y.assign rfl rfl) ?_
    refine Jp.done hK15 ?_
    refine Cd.seq fun K16 hK16 => ?_
    refine Cd.plain [(0, false), (1, false), (2, false), (3, false), (4, false), (5, false)] rfl rfl ?_
    refine Jp.call [] [0] (new_yes 15 (by omega)) 67 rfl (want_all rfl) rfl rfl (Runs.fn rfl Try.call19 rfl) (by decide) (by decide) rfl trivial ?_
    rintro v11 ρ11 L11 ⟨rfl, b, rfl, rfl⟩
    refine ⟨rfl, fun hle11 => ⟨Kp.true, ?_⟩⟩
    refine Jp.y 66 rfl (want_all rfl) rfl rfl Kp.true (Y.move rfl rfl) ?_
    refine Jp.y 68 rfl (want_all rfl) rfl rfl Kp.true (Y.extract rfl rfl rfl) ?_
    refine Jp.y 69 rfl (want_all rfl) rfl rfl Kp.true (Y.extract rfl rfl rfl) ?_
    refine Jp.y 17 rfl (want_all rfl) rfl rfl Kp.true (Y.assign rfl rfl) ?_
    refine Jp.y 18 rfl (want_all rfl) rfl rfl Kp.true (Y.assign rfl rfl) ?_
    refine Jp.done hK16 ?_
    refine Cd.seq fun K17 hK17 => ?_
    refine Cd.plain [(0, false), (1, false), (2, false), (3, false), (4, false), (5, false), (6, false), (7, false), (8, false)] rfl rfl ?_
    refine Jp.y 71 rfl (want_all rfl) rfl rfl Kp.true (Y.move rfl rfl) ?_
    refine Jp.call [0] [0, 2] (lay_spec b (newM 15) ⟨none, 0, []⟩ (by simp) (by simp)) 72 rfl (want_all rfl) rfl rfl (Runs.fn rfl Try.call28 rfl) (by decide) (by decide) rfl (RdS.nil 1 _) ?_
    rintro v12 ρ12 L12 ⟨A12, c12, rfl, rfl⟩
    refine ⟨rfl, fun hle12 => ⟨Kp.true, ?_⟩⟩
    rw [show layM (newM 15) ((⟨none, 0, []⟩ : Sl ByteArray).xs.map str) = _ from lay15]
    dsimp only
    refine Jp.y 70 rfl (want_all rfl) rfl rfl Kp.true (Y.move rfl rfl) ?_
    refine Jp.y 73 rfl (want_all rfl) rfl rfl Kp.true (Y.extract rfl rfl rfl) ?_
    refine Jp.y 74 rfl (want_all rfl) rfl rfl Kp.true (Y.extract rfl rfl rfl) ?_
    refine Jp.y 75 rfl (want_all rfl) rfl rfl Kp.true (Y.extract rfl rfl rfl) ?_
    refine Jp.y 19 rfl (want_all rfl) rfl rfl Kp.true (Y.assign rfl rfl) ?_
    refine Jp.y 20 rfl (want_all rfl) rfl rfl Kp.true (Y.assign rfl rfl) ?_
    refine Jp.y 21 rfl (want_all rfl) rfl rfl Kp.true (Y.assign rfl rfl) ?_
    refine Jp.done hK17 ?_
    refine Cd.seq fun K18 hK18 => ?_
    refine Cd.plain [(0, false), (1, false), (2, false), (3, false), (4, false), (5, false)] rfl rfl ?_
    refine Jp.call [] [1] (new_yes 16 (by omega)) 77 rfl (want_all rfl) rfl rfl (Runs.fn rfl Try.call19 rfl) (by decide) (by decide) rfl trivial ?_
    rintro v13 ρ13 L13 ⟨rfl, bb, rfl, rfl⟩
    refine ⟨rfl, fun hle13 => ⟨Kp.true, ?_⟩⟩
    obtain ⟨hT, M2, hL, hM, hk⟩ := laidN base16 (l := []) (by decide +kernel) (by simp)
    refine Jp.y 76 rfl (want_all rfl) rfl rfl Kp.true (Y.move rfl rfl) ?_
    refine Jp.y 78 rfl (want_all rfl) rfl rfl Kp.true (Y.extract rfl rfl rfl) ?_
    refine Jp.y 79 rfl (want_all rfl) rfl rfl Kp.true (Y.extract rfl rfl rfl) ?_
    refine Jp.y 22 rfl (want_all rfl) rfl rfl Kp.true (Y.assign rfl rfl) ?_
    refine Jp.y 23 rfl (want_all rfl) rfl rfl Kp.true (Y.assign rfl rfl) ?_
    refine Jp.done hK18 ?_
    refine Cd.seq fun K19 hK19 => ?_
    refine Cd.plain [(0, false), (1, false), (2, false), (3, false), (4, false), (5, false), (6, false), (7, false), (8, false)] rfl rfl ?_
    refine Jp.y 81 rfl (want_all rfl) rfl rfl Kp.true (Y.move rfl rfl) ?_
    refine Jp.call [1] [1, 2] (lay_spec bb (newM 16) ⟨none, 0, []⟩ (by simp) (by simp)) 82 rfl (want_all rfl) rfl rfl (Runs.fn rfl Try.call28 rfl) (by decide) (by decide) rfl (RdS.nil 1 _) ?_
    rintro v14 ρ14 L14 ⟨A14, c14, rfl, rfl⟩
    refine ⟨rfl, fun hle14 => ⟨Kp.true, ?_⟩⟩
    rw [show layM (newM 16) ((⟨none, 0, []⟩ : Sl ByteArray).xs.map str) = _ from hL]
    dsimp only
    refine Jp.y 80 rfl (want_all rfl) rfl rfl Kp.true (Y.move rfl rfl) ?_
    refine Jp.y 83 rfl (want_all rfl) rfl rfl Kp.true (Y.extract rfl rfl rfl) ?_
    refine Jp.y 84 rfl (want_all rfl) rfl rfl Kp.true (Y.extract rfl rfl rfl) ?_
    refine Jp.y 85 rfl (want_all rfl) rfl rfl Kp.true (Y.extract rfl rfl rfl) ?_
    refine Jp.y 24 rfl (want_all rfl) rfl rfl Kp.true (Y.assign rfl rfl) ?_
    refine Jp.y 25 rfl (want_all rfl) rfl rfl Kp.true (Y.assign rfl rfl) ?_
    refine Jp.y 26 rfl (want_all rfl) rfl rfl Kp.true (Y.assign rfl rfl) ?_
    refine Jp.done hK19 ?_
    refine Cd.seq fun K20 hK20 => ?_
    refine Cd.plain [(0, false), (1, false), (2, false), (3, false), (4, false), (5, false), (6, false), (7, false), (8, false)] rfl rfl ?_
    refine Jp.y 87 rfl (want_all rfl) rfl rfl Kp.true (Y.move rfl rfl) ?_
    refine Jp.call [1] [1, 2] (lay_spec bb M2 ⟨none, 0, []⟩ (by simp) (by simp)) 88 rfl (want_all rfl) rfl rfl (Runs.fn rfl Try.call28 rfl) (by decide) (by decide) rfl (RdS.nil 1 _) ?_
    rintro v15 ρ15 L15 ⟨A15, c15, rfl, rfl⟩
    refine ⟨rfl, fun hle15 => ⟨Kp.true, ?_⟩⟩
    rw [show layM M2 ((⟨none, 0, []⟩ : Sl ByteArray).xs.map str) = _ from lay_again hk]
    dsimp only
    obtain ⟨p, p1, p2, p3⟩ := hM.pg 2147475456 (by omega) (by omega) (by omega)
    have hperm : permM M2 2147475456 = (3, true) := by rw [permM, show baseN 2147475456 = 2147475456 by decide, p1]; dsimp only; rw [p3]; rfl
    refine Jp.y 86 rfl (want_all rfl) rfl rfl Kp.true (Y.move rfl rfl) ?_
    refine Jp.y 89 rfl (want_all rfl) rfl rfl Kp.true (Y.extract rfl rfl rfl) ?_
    refine Jp.y 90 rfl (want_all rfl) rfl rfl Kp.true (Y.extract rfl rfl rfl) ?_
    refine Jp.y 91 rfl (want_all rfl) rfl rfl Kp.true (Y.extract rfl rfl rfl) ?_
    refine Jp.y 27 rfl (want_all rfl) rfl rfl Kp.true (Y.assign rfl rfl) ?_
    refine Jp.y 28 rfl (want_all rfl) rfl rfl Kp.true (Y.assign rfl rfl) ?_
    refine Jp.y 29 rfl (want_all rfl) rfl rfl Kp.true (Y.assign rfl rfl) ?_
    refine Jp.done hK20 ?_
    refine Cd.seq fun K21 hK21 => ?_
    refine Cd.plain [(0, false), (1, false), (2, false), (3, false), (4, false), (5, false), (6, false)] rfl rfl ?_
    refine Jp.y 93 rfl (want_all rfl) rfl rfl Kp.true (Y.move rfl rfl) ?_
    refine Jp.call [1] [1] (perm_spec bb M2 2147475456 (by omega)) 94 rfl (want_all rfl) rfl rfl (Runs.fn rfl Try.call31 rfl) (by decide) (by decide) rfl trivial ?_
    rintro v16 ρ16 L16 ⟨rfl, rfl, rfl⟩
    refine ⟨rfl, fun hle16 => ⟨Kp.true, ?_⟩⟩
    rw [hperm]
    refine Jp.y 92 rfl (want_all rfl) rfl rfl Kp.true (Y.move rfl rfl) ?_
    refine Jp.y 95 rfl (want_all rfl) rfl rfl Kp.true (Y.extract rfl rfl rfl) ?_
    refine Jp.y 96 rfl (want_all rfl) rfl rfl Kp.true (Y.extract rfl rfl rfl) ?_
    refine Jp.y 30 rfl (want_all rfl) rfl rfl Kp.true (Y.assign rfl rfl) ?_
    refine Jp.y 31 rfl (want_all rfl) rfl rfl Kp.true (Y.assign rfl rfl) ?_
    refine Jp.done hK21 ?_
    refine Cd.seq fun K22 hK22 => ?_
    refine Cd.plain [(0, false), (1, false), (2, false), (3, false), (4, false), (5, false), (6, false), (7, false), (8, false), (9, false), (10, false), (11, false), (12, false), (13, false), (14, false), (15, false), (16, false), (17, false), (18, false), (19, false), (20, false), (21, false), (22, false), (23, false), (24, false), (25, false), (26, false), (27, false), (28, false), (29, false), (30, false), (31, false), (32, false), (33, false), (34, false), (35, false), (36, false), (37, false), (38, false), (39, false), (40, false), (41, false), (42, false), (43, false)] rfl rfl ?_
    refine Jp.y 97 rfl (want_all rfl) rfl rfl Kp.true (Y.move rfl rfl) ?_
    refine Jp.y 98 rfl (want_all rfl) rfl rfl Kp.true (Y.eql rfl rfl rfl) ?_
    refine Jp.y 99 rfl (want_all rfl) rfl rfl Kp.true (Y.move rfl rfl) ?_
    refine Jp.splitF 99 rfl (fun g99 => ?_) (fun g99 => ?_)
    · skip
      exact absurd g99 (by first | (simp; done) | decide +kernel)
    try simp only [decide_eq_false_iff_not, decide_eq_true_eq, Int.not_lt, Int.not_le, Bool.not_eq_false, Bool.not_eq_true, Bool.not_true, Bool.not_false, Bool.not_eq_true', Bool.not_eq_false', beq_eq_false_iff_ne, ne_eq, beq_iff_eq, bne_iff_ne, bne_eq_false_iff_eq, Classical.not_not] at g99
    refine Jp.y 100 rfl (want_as rfl rfl rfl rfl) rfl rfl Kp.true (Y.move rfl rfl) ?_
    refine Jp.y 101 rfl (want_as rfl rfl rfl rfl) rfl rfl Kp.true (Y.eql rfl rfl rfl) ?_
    refine Jp.y 102 rfl (want_all rfl) rfl rfl Kp.true (Y.pickT rfl rfl rfl) ?_
    refine Jp.y 103 rfl (want_all rfl) rfl rfl Kp.true (Y.move rfl rfl) ?_
    refine Jp.splitF 103 rfl (fun g103 => ?_) (fun g103 => ?_)
    · skip
      exact absurd g103 (by first | (simp; done) | decide +kernel)
    try simp only [decide_eq_false_iff_not, decide_eq_true_eq, Int.not_lt, Int.not_le, Bool.not_eq_false, Bool.not_eq_true, Bool.not_true, Bool.not_false, Bool.not_eq_true', Bool.not_eq_false', beq_eq_false_iff_ne, ne_eq, beq_iff_eq, bne_iff_ne, bne_eq_false_iff_eq, Classical.not_not] at g103
    refine Jp.y 104 rfl (want_as rfl rfl rfl rfl) rfl rfl Kp.true (Y.move rfl rfl) ?_
    refine Jp.y 105 rfl (want_as rfl rfl rfl rfl) rfl rfl Kp.true (Y.eql rfl rfl rfl) ?_
    refine Jp.y 106 rfl (want_all rfl) rfl rfl Kp.true (Y.pickT rfl rfl rfl) ?_
    refine Jp.y 107 rfl (want_all rfl) rfl rfl Kp.true (Y.move rfl rfl) ?_
    refine Jp.splitF 107 rfl (fun g107 => ?_) (fun g107 => ?_)
    · skip
      exact absurd g107 (by first | (simp; done) | decide +kernel)
    try simp only [decide_eq_false_iff_not, decide_eq_true_eq, Int.not_lt, Int.not_le, Bool.not_eq_false, Bool.not_eq_true, Bool.not_true, Bool.not_false, Bool.not_eq_true', Bool.not_eq_false', beq_eq_false_iff_ne, ne_eq, beq_iff_eq, bne_iff_ne, bne_eq_false_iff_eq, Classical.not_not] at g107
    refine Jp.y 108 rfl (want_as rfl rfl rfl rfl) rfl rfl Kp.true (Y.move rfl rfl) ?_
    refine Jp.y 109 rfl (want_as rfl rfl rfl rfl) rfl rfl Kp.true (Y.eql rfl rfl rfl) ?_
    refine Jp.y 110 rfl (want_all rfl) rfl rfl Kp.true (Y.pickT rfl rfl rfl) ?_
    refine Jp.y 111 rfl (want_all rfl) rfl rfl Kp.true (Y.move rfl rfl) ?_
    refine Jp.splitF 111 rfl (fun g111 => ?_) (fun g111 => ?_)
    · skip
      exact absurd g111 (by first | (simp; done) | decide +kernel)
    try simp only [decide_eq_false_iff_not, decide_eq_true_eq, Int.not_lt, Int.not_le, Bool.not_eq_false, Bool.not_eq_true, Bool.not_true, Bool.not_false, Bool.not_eq_true', Bool.not_eq_false', beq_eq_false_iff_ne, ne_eq, beq_iff_eq, bne_iff_ne, bne_eq_false_iff_eq, Classical.not_not] at g111
    refine Jp.y 112 rfl (want_as rfl rfl rfl rfl) rfl rfl Kp.true (Y.move rfl rfl) ?_
    refine Jp.y 113 rfl (want_as rfl rfl rfl rfl) rfl rfl Kp.true (Y.eql rfl rfl rfl) ?_
    refine Jp.y 114 rfl (want_all rfl) rfl rfl Kp.true (Y.pickT rfl rfl rfl) ?_
    refine Jp.y 115 rfl (want_all rfl) rfl rfl Kp.true (Y.move rfl rfl) ?_
    refine Jp.splitF 115 rfl (fun g115 => ?_) (fun g115 => ?_)
    · skip
      exact absurd g115 (by first | (simp; done) | decide +kernel)
    try simp only [decide_eq_false_iff_not, decide_eq_true_eq, Int.not_lt, Int.not_le, Bool.not_eq_false, Bool.not_eq_true, Bool.not_true, Bool.not_false, Bool.not_eq_true', Bool.not_eq_false', beq_eq_false_iff_ne, ne_eq, beq_iff_eq, bne_iff_ne, bne_eq_false_iff_eq, Classical.not_not] at g115
    refine Jp.y 116 rfl (want_as rfl rfl rfl rfl) rfl rfl Kp.true (Y.move rfl rfl) ?_
    refine Jp.call [0] [0, 2] (pages_spec b (newM 15) (sorts12 0 (by omega))) 117 rfl (want_as rfl rfl rfl rfl) rfl rfl (Runs.fn rfl Try.call29 rfl) (by decide) (by decide) rfl trivial ?_
    rintro v17 ρ17 L17 ⟨A17, c17, rfl, rfl⟩
    refine ⟨rfl, fun hle17 => ⟨Kp.true, ?_⟩⟩
    refine Jp.y 118 rfl (want_as rfl rfl rfl rfl) rfl rfl Kp.true (Y.lenslice rfl Try.underlying56 rfl) ?_
    refine Jp.y 119 rfl (want_as rfl rfl rfl rfl) rfl rfl Kp.true (Y.eql rfl rfl rfl) ?_
    refine Jp.y 120 rfl (want_all rfl) rfl rfl Kp.true (Y.pickT rfl rfl rfl) ?_
    refine Jp.y 121 rfl (want_all rfl) rfl rfl Kp.true (Y.move rfl rfl) ?_
    refine Jp.splitF 121 rfl (fun g121 => ?_) (fun g121 => ?_)
    · skip
      exact absurd g121 (by first | (simp; done) | decide +kernel)
    try simp only [decide_eq_false_iff_not, decide_eq_true_eq, Int.not_lt, Int.not_le, Bool.not_eq_false, Bool.not_eq_true, Bool.not_true, Bool.not_false, Bool.not_eq_true', Bool.not_eq_false', beq_eq_false_iff_ne, ne_eq, beq_iff_eq, bne_iff_ne, bne_eq_false_iff_eq, Classical.not_not] at g121
    refine Jp.y 122 rfl (want_as rfl rfl rfl rfl) rfl rfl Kp.true (Y.move rfl rfl) ?_
    refine Jp.y 123 rfl (want_as rfl rfl rfl rfl) rfl rfl Kp.true (Y.eql rfl rfl rfl) ?_
    refine Jp.y 124 rfl (want_all rfl) rfl rfl Kp.true (Y.pickT rfl rfl rfl) ?_
    refine Jp.y 125 rfl (want_all rfl) rfl rfl Kp.true (Y.move rfl rfl) ?_
    refine Jp.splitF 125 rfl (fun g125 => ?_) (fun g125 => ?_)
    · skip
      exact absurd g125 (by first | (simp; done) | decide +kernel)
    try simp only [decide_eq_false_iff_not, decide_eq_true_eq, Int.not_lt, Int.not_le, Bool.not_eq_false, Bool.not_eq_true, Bool.not_true, Bool.not_false, Bool.not_eq_true', Bool.not_eq_false', beq_eq_false_iff_ne, ne_eq, beq_iff_eq, bne_iff_ne, bne_eq_false_iff_eq, Classical.not_not] at g125
    refine Jp.y 126 rfl (want_as rfl rfl rfl rfl) rfl rfl Kp.true (Y.move rfl rfl) ?_
    refine Jp.y 127 rfl (want_as rfl rfl rfl rfl) rfl rfl Kp.true (Y.eql rfl rfl rfl) ?_
    refine Jp.y 128 rfl (want_all rfl) rfl rfl Kp.true (Y.pickT rfl rfl rfl) ?_
    refine Jp.y 129 rfl (want_all rfl) rfl rfl Kp.true (Y.move rfl rfl) ?_
    refine Jp.splitF 129 rfl (fun g129 => ?_) (fun g129 => ?_)
    · skip
      exact absurd g129 (by first | (simp; done) | decide +kernel)
    try simp only [decide_eq_false_iff_not, decide_eq_true_eq, Int.not_lt, Int.not_le, Bool.not_eq_false, Bool.not_eq_true, Bool.not_true, Bool.not_false, Bool.not_eq_true', Bool.not_eq_false', beq_eq_false_iff_ne, ne_eq, beq_iff_eq, bne_iff_ne, bne_eq_false_iff_eq, Classical.not_not] at g129
    refine Jp.y 130 rfl (want_as rfl rfl rfl rfl) rfl rfl Kp.true (Y.move rfl rfl) ?_
    refine Jp.y 131 rfl (want_as rfl rfl rfl rfl) rfl rfl Kp.true (Y.eql rfl rfl rfl) ?_
    refine Jp.y 132 rfl (want_all rfl) rfl rfl Kp.true (Y.pickT rfl rfl rfl) ?_
    refine Jp.y 133 rfl (want_all rfl) rfl rfl Kp.true (Y.move rfl rfl) ?_
    refine Jp.splitF 133 rfl (fun g133 => ?_) (fun g133 => ?_)
    · skip
      exact absurd g133 (by first | (simp; done) | decide +kernel)
    try simp only [decide_eq_false_iff_not, decide_eq_true_eq, Int.not_lt, Int.not_le, Bool.not_eq_false, Bool.not_eq_true, Bool.not_true, Bool.not_false, Bool.not_eq_true', Bool.not_eq_false', beq_eq_false_iff_ne, ne_eq, beq_iff_eq, bne_iff_ne, bne_eq_false_iff_eq, Classical.not_not] at g133
    refine Jp.y 134 rfl (want_as rfl rfl rfl rfl) rfl rfl Kp.true (Y.move rfl rfl) ?_
    refine Jp.y 135 rfl (want_as rfl rfl rfl rfl) rfl rfl Kp.true (Y.eql rfl rfl rfl) ?_
    refine Jp.y 136 rfl (want_all rfl) rfl rfl Kp.true (Y.pickT rfl rfl rfl) ?_
    refine Jp.y 137 rfl (want_all rfl) rfl rfl Kp.true (Y.move rfl rfl) ?_
    refine Jp.splitF 137 rfl (fun g137 => ?_) (fun g137 => ?_)
    · skip
      exact absurd g137 (by first | (simp; done) | decide +kernel)
    try simp only [decide_eq_false_iff_not, decide_eq_true_eq, Int.not_lt, Int.not_le, Bool.not_eq_false, Bool.not_eq_true, Bool.not_true, Bool.not_false, Bool.not_eq_true', Bool.not_eq_false', beq_eq_false_iff_ne, ne_eq, beq_iff_eq, bne_iff_ne, bne_eq_false_iff_eq, Classical.not_not] at g137
    refine Jp.y 138 rfl (want_as rfl rfl rfl rfl) rfl rfl Kp.true (Y.move rfl rfl) ?_
    refine Jp.y 139 rfl (want_all rfl) rfl rfl Kp.true (Y.pickT rfl rfl rfl) ?_
    refine Jp.y 0 rfl (want_all rfl) rfl rfl Kp.true (Y.assign rfl rfl) ?_
    refine Jp.done hK22 ?_
    refine Cd.ret [] rfl (res1 rfl rfl) trivial ⟨rfl, rfl⟩
  · skip
    refine Jp.call [] [] (long_spec 2998 (by omega)) 51 rfl (want_all rfl) rfl rfl (Runs.fn rfl Try.call30 rfl) (by decide) (by decide) rfl trivial ?_
    rintro v6 ρ6 L6 ⟨rfl, rfl, rfl⟩
    refine ⟨rfl, fun hle6 => ⟨(Kp.st trivial), ?_⟩⟩
    refine Jp.makeSlice (k := 0) 49 5 rfl (want_all rfl) rfl rfl rfl Try.underlying25 Try.sizeOf5 Try.typeInfo5 Try.zeroValue5 rfl rfl rfl (by first | rfl | omega) (by first | rfl | omega) (by simp only [Try.t5]; omega) (by omega) fun b5 => ⟨(Kp.st trivial), ?_⟩
    refine Jp.imp (j := 5) (A' := OwnS 5 1 (some ⟨b5, 0, none⟩) 0 0 (bytesV [])) rfl (fun _ h => h) ?_
    refine Jp.strong [(5, _)] ⟨rfl, trivial⟩ trivial (Hp.le_refl _) hrl ?_
    have hrl := Hp.le_trans hrl (Hp.le_refl _)
    refine Jp.q 50 rfl (want_all rfl) rfl rfl (Y.toStr _ rfl rfl Try.underlying25 Try.underlying9 Try.underlying5 ⟨_, _, rfl⟩ (Src.own 5 rfl)) ?_
    refine Jp.lit 52 6 [(0, _), (1, _)] [_, _] rfl (want_all rfl) rfl rfl rfl rfl Try.underlying22 Try.sizeOf9 Try.zeroValue9 rfl rfl rfl rfl rfl fun b6 => ⟨(Kp.st ⟨rfl, trivial⟩), ?_⟩
    refine Jp.freeze (i := 6) rfl (OwnS.up _ _ _ _ _ _) fun ρ6 l6 q6 => ?_
    refine Jp.call [] [2, 3] (f17_spec ⟨some ⟨b6, 0, none⟩, 2, [mkS [], mkS (xes 2998)]⟩ (by simp) (by intro a ha; simp at ha; rcases ha with rfl | rfl <;> (rw [mkS_size]; decide))) 53 rfl (want_all rfl) rfl rfl (Runs.fn rfl Try.call17 rfl) (by decide) (by decide) rfl q6.rd ?_
    rintro v7 ρ7 L7 ⟨rfl, A7, c7, B7, d7, q7, h7, rfl, rfl⟩
    refine ⟨rfl, fun hle7 => ⟨(Kp.st' ⟨rfl, trivial⟩ l6 hrl), ?_⟩⟩
    have e7 : q7.err = 0 := by rw [← h7]; show (buildP [str (mkS []), str (mkS (xes 2998))]).err = 0; rw [str_mkS, str_mkS]; decide +kernel
    rw [e7]
    refine Jp.q 48 rfl (want_all rfl) rfl rfl (Y.move rfl rfl) ?_
    refine Jp.q 54 rfl (want_all rfl) rfl rfl (Y.extract rfl rfl rfl) ?_
    refine Jp.q 55 rfl (want_all rfl) rfl rfl (Y.extract rfl rfl rfl) ?_
    refine Jp.q 56 rfl (want_all rfl) rfl rfl (Y.extract rfl rfl rfl) ?_
    refine Jp.q 57 rfl (want_all rfl) rfl rfl (Y.extract rfl rfl rfl) ?_
    refine Jp.q 9 rfl (want_all rfl) rfl rfl (Y.assign rfl rfl) ?_
    refine Jp.q 10 rfl (want_all rfl) rfl rfl (Y.assign rfl rfl) ?_
    refine Jp.q 11 rfl (want_all rfl) rfl rfl (Y.assign rfl rfl) ?_
    refine Jp.q 12 rfl (want_all rfl) rfl rfl (Y.assign rfl rfl) ?_
    refine Jp.done hK14 ?_
    refine Cd.seq fun K23 hK23 => ?_
    refine Cd.plain [(0, false), (1, false), (2, false), (3, false), (4, false), (5, false), (6, false), (7, false), (8, false), (9, false), (10, false), (11, false)] rfl rfl ?_
    refine Jp.call [] [] (long_spec 2999 (by omega)) 59 rfl (want_all rfl) rfl rfl (Runs.fn rfl Try.call30 rfl) (by decide) (by decide) rfl trivial ?_
    rintro v8 ρ8 L8 ⟨rfl, rfl, rfl⟩
    refine ⟨rfl, fun hle8 => ⟨Kp.true, ?_⟩⟩
    refine Jp.lit 60 9 [(0, _), (1, _)] [_, _] rfl (want_all rfl) rfl rfl rfl rfl Try.underlying22 Try.sizeOf9 Try.zeroValue9 rfl rfl rfl rfl rfl fun b9 => ⟨Kp.true, ?_⟩
    refine Jp.freeze (i := 9) rfl (OwnS.up _ _ _ _ _ _) fun ρ9 l9 q9 => ?_
    refine Jp.call [] [2, 3] (f17_spec ⟨some ⟨b9, 0, none⟩, 2, [⟨#[]⟩, mkS (xes 2999)]⟩ (by simp) (by intro a ha; simp at ha; rcases ha with rfl | rfl <;> first | decide | (rw [mkS_size]; decide))) 61 rfl (want_all rfl) rfl rfl (Runs.fn rfl Try.call17 rfl) (by decide) (by decide) rfl q9.rd ?_
    rintro v10 ρ10 L10 ⟨rfl, A10, c10, B10, d10, q10, h10, rfl, rfl⟩
    refine ⟨rfl, fun hle10 => ⟨Kp.true, ?_⟩⟩
    have e10 : q10.err = 2 := by rw [← h10]; show (buildP [str ⟨#[]⟩, str (mkS (xes 2999))]).err = 2; rw [str_mkS]; decide +kernel
    rw [e10]
    refine Jp.y 58 rfl (want_all rfl) rfl rfl Kp.true (Y.move rfl rfl) ?_
    refine Jp.y 62 rfl (want_all rfl) rfl rfl Kp.true (Y.extract rfl rfl rfl) ?_
    refine Jp.y 63 rfl (want_all rfl) rfl rfl Kp.true (Y.extract rfl rfl rfl) ?_
    refine Jp.y 64 rfl (want_all rfl) rfl rfl Kp.true (Y.extract rfl rfl rfl) ?_
    refine Jp.y 65 rfl (want_all rfl) rfl rfl Kp.true (Y.extract rfl rfl rfl) ?_
    refine Jp.y 13 rfl (want_all rfl) rfl rfl Kp.true (Y.assign rfl rfl) ?_
    refine Jp.y 14 rfl (want_all rfl) rfl rfl Kp.true (Y.assign rfl rfl) ?_
    refine Jp.y 15 rfl (want_all rfl) rfl rfl Kp.true (Y.assign rfl rfl) ?_
    refine Jp.y 16 rfl (want_all rfl) rfl rfl Kp.true (Y.assign rfl rfl) ?_
    refine Jp.done hK23 ?_
    refine Cd.seq fun K24 hK24 => ?_
    refine Cd.plain [(0, false), (1, false), (2, false), (3, false), (4, false), (5, false)] rfl rfl ?_
    refine Jp.call [] [0] (new_yes 15 (by omega)) 67 rfl (want_all rfl) rfl rfl (Runs.fn rfl Try.call19 rfl) (by decide) (by decide) rfl trivial ?_
    rintro v11 ρ11 L11 ⟨rfl, b, rfl, rfl⟩
    refine ⟨rfl, fun hle11 => ⟨Kp.true, ?_⟩⟩
    refine Jp.y 66 rfl (want_all rfl) rfl rfl Kp.true (Y.move rfl rfl) ?_
    refine Jp.y 68 rfl (want_all rfl) rfl rfl Kp.true (Y.extract rfl rfl rfl) ?_
    refine Jp.y 69 rfl (want_all rfl) rfl rfl Kp.true (Y.extract rfl rfl rfl) ?_
    refine Jp.y 17 rfl (want_all rfl) rfl rfl Kp.true (Y.assign rfl rfl) ?_
    refine Jp.y 18 rfl (want_all rfl) rfl rfl Kp.true (Y.assign rfl rfl) ?_
    refine Jp.done hK24 ?_
    refine Cd.seq fun K25 hK25 => ?_
    refine Cd.plain [(0, false), (1, false), (2, false), (3, false), (4, false), (5, false), (6, false), (7, false), (8, false)] rfl rfl ?_
    refine Jp.y 71 rfl (want_all rfl) rfl rfl Kp.true (Y.move rfl rfl) ?_
    refine Jp.call [0] [0, 2] (lay_spec b (newM 15) ⟨none, 0, []⟩ (by simp) (by simp)) 72 rfl (want_all rfl) rfl rfl (Runs.fn rfl Try.call28 rfl) (by decide) (by decide) rfl (RdS.nil 1 _) ?_
    rintro v12 ρ12 L12 ⟨A12, c12, rfl, rfl⟩
    refine ⟨rfl, fun hle12 => ⟨Kp.true, ?_⟩⟩
    rw [show layM (newM 15) ((⟨none, 0, []⟩ : Sl ByteArray).xs.map str) = _ from lay15]
    dsimp only
    refine Jp.y 70 rfl (want_all rfl) rfl rfl Kp.true (Y.move rfl rfl) ?_
    refine Jp.y 73 rfl (want_all rfl) rfl rfl Kp.true (Y.extract rfl rfl rfl) ?_
    refine Jp.y 74 rfl (want_all rfl) rfl rfl Kp.true (Y.extract rfl rfl rfl) ?_
    refine Jp.y 75 rfl (want_all rfl) rfl rfl Kp.true (Y.extract rfl rfl rfl) ?_
    refine Jp.y 19 rfl (want_all rfl) rfl rfl Kp.true (Y.assign rfl rfl) ?_
    refine Jp.y 20 rfl (want_all rfl) rfl rfl Kp.true (Y.assign rfl rfl) ?_
    refine Jp.y 21 rfl (want_all rfl) rfl rfl Kp.true (Y.assign rfl rfl) ?_
    refine Jp.done hK25 ?_
    refine Cd.seq fun K26 hK26 => ?_
    refine Cd.plain [(0, false), (1, false), (2, false), (3, false), (4, false), (5, false)] rfl rfl ?_
    refine Jp.call [] [1] (new_yes 16 (by omega)) 77 rfl (want_all rfl) rfl rfl (Runs.fn rfl Try.call19 rfl) (by decide) (by decide) rfl trivial ?_
    rintro v13 ρ13 L13 ⟨rfl, bb, rfl, rfl⟩
    refine ⟨rfl, fun hle13 => ⟨Kp.true, ?_⟩⟩
    obtain ⟨hT, M2, hL, hM, hk⟩ := laidN base16 (l := []) (by decide +kernel) (by simp)
    refine Jp.y 76 rfl (want_all rfl) rfl rfl Kp.true (Y.move rfl rfl) ?_
    refine Jp.y 78 rfl (want_all rfl) rfl rfl Kp.true (Y.extract rfl rfl rfl) ?_
    refine Jp.y 79 rfl (want_all rfl) rfl rfl Kp.true (Y.extract rfl rfl rfl) ?_
    refine Jp.y 22 rfl (want_all rfl) rfl rfl Kp.true (Y.assign rfl rfl) ?_
    refine Jp.y 23 rfl (want_all rfl) rfl rfl Kp.true (Y.assign rfl rfl) ?_
    refine Jp.done hK26 ?_
    refine Cd.seq fun K27 hK27 => ?_
    refine Cd.plain [(0, false), (1, false), (2, false), (3, false), (4, false), (5, false), (6, false), (7, false), (8, false)] rfl rfl ?_
    refine Jp.y 81 rfl (want_all rfl) rfl rfl Kp.true (Y.move rfl rfl) ?_
    refine Jp.call [1] [1, 2] (lay_spec bb (newM 16) ⟨none, 0, []⟩ (by simp) (by simp)) 82 rfl (want_all rfl) rfl rfl (Runs.fn rfl Try.call28 rfl) (by decide) (by decide) rfl (RdS.nil 1 _) ?_
    rintro v14 ρ14 L14 ⟨A14, c14, rfl, rfl⟩
    refine ⟨rfl, fun hle14 => ⟨Kp.true, ?_⟩⟩
    rw [show layM (newM 16) ((⟨none, 0, []⟩ : Sl ByteArray).xs.map str) = _ from hL]
    dsimp only
    refine Jp.y 80 rfl (want_all rfl) rfl rfl Kp.true (Y.move rfl rfl) ?_
    refine Jp.y 83 rfl (want_all rfl) rfl rfl Kp.true (Y.extract rfl rfl rfl) ?_
    refine Jp.y 84 rfl (want_all rfl) rfl rfl Kp.true (Y.extract rfl rfl rfl) ?_
    refine Jp.y 85 rfl (want_all rfl) rfl rfl Kp.true (Y.extract rfl rfl rfl) ?_
    refine Jp.y 24 rfl (want_all rfl) rfl rfl Kp.true (Y.assign rfl rfl) ?_
    refine Jp.y 25 rfl (want_all rfl) rfl rfl Kp.true (Y.assign rfl rfl) ?_
    refine Jp.y 26 rfl (want_all rfl) rfl rfl Kp.true (Y.assign rfl rfl) ?_
    refine Jp.done hK27 ?_
    refine Cd.seq fun K28 hK28 => ?_
    refine Cd.plain [(0, false), (1, false), (2, false), (3, false), (4, false), (5, false), (6, false), (7, false), (8, false)] rfl rfl ?_
    refine Jp.y 87 rfl (want_all rfl) rfl rfl Kp.true (Y.move rfl rfl) ?_
    refine Jp.call [1] [1, 2] (lay_spec bb M2 ⟨none, 0, []⟩ (by simp) (by simp)) 88 rfl (want_all rfl) rfl rfl (Runs.fn rfl Try.call28 rfl) (by decide) (by decide) rfl (RdS.nil 1 _) ?_
    rintro v15 ρ15 L15 ⟨A15, c15, rfl, rfl⟩
    refine ⟨rfl, fun hle15 => ⟨Kp.true, ?_⟩⟩
    rw [show layM M2 ((⟨none, 0, []⟩ : Sl ByteArray).xs.map str) = _ from lay_again hk]
    dsimp only
    obtain ⟨p, p1, p2, p3⟩ := hM.pg 2147475456 (by omega) (by omega) (by omega)
    have hperm : permM M2 2147475456 = (3, true) := by rw [permM, show baseN 2147475456 = 2147475456 by decide, p1]; dsimp only; rw [p3]; rfl
    refine Jp.y 86 rfl (want_all rfl) rfl rfl Kp.true (Y.move rfl rfl) ?_
    refine Jp.y 89 rfl (want_all rfl) rfl rfl Kp.true (Y.extract rfl rfl rfl) ?_
    refine Jp.y 90 rfl (want_all rfl) rfl rfl Kp.true (Y.extract rfl rfl rfl) ?_
    refine Jp.y 91 rfl (want_all rfl) rfl rfl Kp.true (Y.extract rfl rfl rfl) ?_
    refine Jp.y 27 rfl (want_all rfl) rfl rfl Kp.true (Y.assign rfl rfl) ?_
    refine Jp.y 28 rfl (want_all rfl) rfl rfl Kp.true (Y.assign rfl rfl) ?_
    refine Jp.y 29 rfl (want_all rfl) rfl rfl Kp.true (Y.assign rfl rfl) ?_
    refine Jp.done hK28 ?_
    refine Cd.seq fun K29 hK29 => ?_
    refine Cd.plain [(0, false), (1, false), (2, false), (3, false), (4, false), (5, false), (6, false)] rfl rfl ?_
    refine Jp.y 93 rfl (want_all rfl) rfl rfl Kp.true (Y.move rfl rfl) ?_
    refine Jp.call [1] [1] (perm_spec bb M2 2147475456 (by omega)) 94 rfl (want_all rfl) rfl rfl (Runs.fn rfl Try.call31 rfl) (by decide) (by decide) rfl trivial ?_
    rintro v16 ρ16 L16 ⟨rfl, rfl, rfl⟩
    refine ⟨rfl, fun hle16 => ⟨Kp.true, ?_⟩⟩
    rw [hperm]
    refine Jp.y 92 rfl (want_all rfl) rfl rfl Kp.true (Y.move rfl rfl) ?_
    refine Jp.y 95 rfl (want_all rfl) rfl rfl Kp.true (Y.extract rfl rfl rfl) ?_
    refine Jp.y 96 rfl (want_all rfl) rfl rfl Kp.true (Y.extract rfl rfl rfl) ?_
    refine Jp.y 30 rfl (want_all rfl) rfl rfl Kp.true (Y.assign rfl rfl) ?_
    refine Jp.y 31 rfl (want_all rfl) rfl rfl Kp.true (Y.assign rfl rfl) ?_
    refine Jp.done hK29 ?_
    refine Cd.seq fun K30 hK30 => ?_
    refine Cd.plain [(0, false), (1, false), (2, false), (3, false), (4, false), (5, false), (6, false), (7, false), (8, false), (9, false), (10, false), (11, false), (12, false), (13, false), (14, false), (15, false), (16, false), (17, false), (18, false), (19, false), (20, false), (21, false), (22, false), (23, false), (24, false), (25, false), (26, false), (27, false), (28, false), (29, false), (30, false), (31, false), (32, false), (33, false), (34, false), (35, false), (36, false), (37, false), (38, false), (39, false), (40, false), (41, false), (42, false), (43, false)] rfl rfl ?_
    refine Jp.y 97 rfl (want_all rfl) rfl rfl Kp.true (Y.move rfl rfl) ?_
    refine Jp.y 98 rfl (want_all rfl) rfl rfl Kp.true (Y.eql rfl rfl rfl) ?_
    refine Jp.y 99 rfl (want_all rfl) rfl rfl Kp.true (Y.move rfl rfl) ?_
    refine Jp.splitF 99 rfl (fun g99 => ?_) (fun g99 => ?_)
    · skip
      exact absurd g99 (by first | (simp; done) | decide +kernel)
    try simp only [decide_eq_false_iff_not, decide_eq_true_eq, Int.not_lt, Int.not_le, Bool.not_eq_false, Bool.not_eq_true, Bool.not_true, Bool.not_false, Bool.not_eq_true', Bool.not_eq_false', beq_eq_false_iff_ne, ne_eq, beq_iff_eq, bne_iff_ne, bne_eq_false_iff_eq, Classical.not_not] at g99
    refine Jp.y 100 rfl (want_as rfl rfl rfl rfl) rfl rfl Kp.true (Y.move rfl rfl) ?_
    refine Jp.y 101 rfl (want_as rfl rfl rfl rfl) rfl rfl Kp.true (Y.eql rfl rfl rfl) ?_
    refine Jp.y 102 rfl (want_all rfl) rfl rfl Kp.true (Y.pickT rfl rfl rfl) ?_
    refine Jp.y 103 rfl (want_all rfl) rfl rfl Kp.true (Y.move rfl rfl) ?_
    refine Jp.splitF 103 rfl (fun g103 => ?_) (fun g103 => ?_)
    · skip
      exact absurd g103 (by first | (simp; done) | decide +kernel)
    try simp only [decide_eq_false_iff_not, decide_eq_true_eq, Int.not_lt, Int.not_le, Bool.not_eq_false, Bool.not_eq_true, Bool.not_true, Bool.not_false, Bool.not_eq_true', Bool.not_eq_false', beq_eq_false_iff_ne, ne_eq, beq_iff_eq, bne_iff_ne, bne_eq_false_iff_eq, Classical.not_not] at g103
    refine Jp.y 104 rfl (want_as rfl rfl rfl rfl) rfl rfl Kp.true (Y.move rfl rfl) ?_
    refine Jp.y 105 rfl (want_as rfl rfl rfl rfl) rfl rfl Kp.true (Y.eql rfl rfl rfl) ?_
    refine Jp.y 106 rfl (want_all rfl) rfl rfl Kp.true (Y.pickT rfl rfl rfl) ?_
    refine Jp.y 107 rfl (want_all rfl) rfl rfl Kp.true (Y.move rfl rfl) ?_
    refine Jp.splitF 107 rfl (fun g107 => ?_) (fun g107 => ?_)
    · skip
      exact absurd g107 (by first | (simp; done) | decide +kernel)
    try simp only [decide_eq_false_iff_not, decide_eq_true_eq, Int.not_lt, Int.not_le, Bool.not_eq_false, Bool.not_eq_true, Bool.not_true, Bool.not_false, Bool.not_eq_true', Bool.not_eq_false', beq_eq_false_iff_ne, ne_eq, beq_iff_eq, bne_iff_ne, bne_eq_false_iff_eq, Classical.not_not] at g107
    refine Jp.y 108 rfl (want_as rfl rfl rfl rfl) rfl rfl Kp.true (Y.move rfl rfl) ?_
    refine Jp.y 109 rfl (want_as rfl rfl rfl rfl) rfl rfl Kp.true (Y.eql rfl rfl rfl) ?_
    refine Jp.y 110 rfl (want_all rfl) rfl rfl Kp.true (Y.pickT rfl rfl rfl) ?_
    refine Jp.y 111 rfl (want_all rfl) rfl rfl Kp.true (Y.move rfl rfl) ?_
    refine Jp.splitF 111 rfl (fun g111 => ?_) (fun g111 => ?_)
    · skip
      exact absurd g111 (by first | (simp; done) | decide +kernel)
    try simp only [decide_eq_false_iff_not, decide_eq_true_eq, Int.not_lt, Int.not_le, Bool.not_eq_false, Bool.not_eq_true, Bool.not_true, Bool.not_false, Bool.not_eq_true', Bool.not_eq_false', beq_eq_false_iff_ne, ne_eq, beq_iff_eq, bne_iff_ne, bne_eq_false_iff_eq, Classical.not_not] at g111
    refine Jp.y 112 rfl (want_as rfl rfl rfl rfl) rfl rfl Kp.true (Y.move rfl rfl) ?_
    refine Jp.y 113 rfl (want_as rfl rfl rfl rfl) rfl rfl Kp.true (Y.eql rfl rfl rfl) ?_
    refine Jp.y 114 rfl (want_all rfl) rfl rfl Kp.true (Y.pickT rfl rfl rfl) ?_
    refine Jp.y 115 rfl (want_all rfl) rfl rfl Kp.true (Y.move rfl rfl) ?_
    refine Jp.splitF 115 rfl (fun g115 => ?_) (fun g115 => ?_)
    · skip
      exact absurd g115 (by first | (simp; done) | decide +kernel)
    try simp only [decide_eq_false_iff_not, decide_eq_true_eq, Int.not_lt, Int.not_le, Bool.not_eq_false, Bool.not_eq_true, Bool.not_true, Bool.not_false, Bool.not_eq_true', Bool.not_eq_false', beq_eq_false_iff_ne, ne_eq, beq_iff_eq, bne_iff_ne, bne_eq_false_iff_eq, Classical.not_not] at g115
    refine Jp.y 116 rfl (want_as rfl rfl rfl rfl) rfl rfl Kp.true (Y.move rfl rfl) ?_
    refine Jp.call [0] [0, 2] (pages_spec b (newM 15) (sorts12 0 (by omega))) 117 rfl (want_as rfl rfl rfl rfl) rfl rfl (Runs.fn rfl Try.call29 rfl) (by decide) (by decide) rfl trivial ?_
    rintro v17 ρ17 L17 ⟨A17, c17, rfl, rfl⟩
    refine ⟨rfl, fun hle17 => ⟨Kp.true, ?_⟩⟩
    refine Jp.y 118 rfl (want_as rfl rfl rfl rfl) rfl rfl Kp.true (Y.lenslice rfl Try.underlying56 rfl) ?_
    refine Jp.y 119 rfl (want_as rfl rfl rfl rfl) rfl rfl Kp.true (Y.eql rfl rfl rfl) ?_
    refine Jp.y 120 rfl (want_all rfl) rfl rfl Kp.true (Y.pickT rfl rfl rfl) ?_
    refine Jp.y 121 rfl (want_all rfl) rfl rfl Kp.true (Y.move rfl rfl) ?_
    refine Jp.splitF 121 rfl (fun g121 => ?_) (fun g121 => ?_)
    · skip
      exact absurd g121 (by first | (simp; done) | decide +kernel)
    try simp only [decide_eq_false_iff_not, decide_eq_true_eq, Int.not_lt, Int.not_le, Bool.not_eq_false, Bool.not_eq_true, Bool.not_true, Bool.not_false, Bool.not_eq_true', Bool.not_eq_false', beq_eq_false_iff_ne, ne_eq, beq_iff_eq, bne_iff_ne, bne_eq_false_iff_eq, Classical.not_not] at g121
    refine Jp.y 122 rfl (want_as rfl rfl rfl rfl) rfl rfl Kp.true (Y.move rfl rfl) ?_
    refine Jp.y 123 rfl (want_as rfl rfl rfl rfl) rfl rfl Kp.true (Y.eql rfl rfl rfl) ?_
    refine Jp.y 124 rfl (want_all rfl) rfl rfl Kp.true (Y.pickT rfl rfl rfl) ?_
    refine Jp.y 125 rfl (want_all rfl) rfl rfl Kp.true (Y.move rfl rfl) ?_
    refine Jp.splitF 125 rfl (fun g125 => ?_) (fun g125 => ?_)
    · skip
      exact absurd g125 (by first | (simp; done) | decide +kernel)
    try simp only [decide_eq_false_iff_not, decide_eq_true_eq, Int.not_lt, Int.not_le, Bool.not_eq_false, Bool.not_eq_true, Bool.not_true, Bool.not_false, Bool.not_eq_true', Bool.not_eq_false', beq_eq_false_iff_ne, ne_eq, beq_iff_eq, bne_iff_ne, bne_eq_false_iff_eq, Classical.not_not] at g125
    refine Jp.y 126 rfl (want_as rfl rfl rfl rfl) rfl rfl Kp.true (Y.move rfl rfl) ?_
    refine Jp.y 127 rfl (want_as rfl rfl rfl rfl) rfl rfl Kp.true (Y.eql rfl rfl rfl) ?_
    refine Jp.y 128 rfl (want_all rfl) rfl rfl Kp.true (Y.pickT rfl rfl rfl) ?_
    refine Jp.y 129 rfl (want_all rfl) rfl rfl Kp.true (Y.move rfl rfl) ?_
    refine Jp.splitF 129 rfl (fun g129 => ?_) (fun g129 => ?_)
    · skip
      exact absurd g129 (by first | (simp; done) | decide +kernel)
    try simp only [decide_eq_false_iff_not, decide_eq_true_eq, Int.not_lt, Int.not_le, Bool.not_eq_false, Bool.not_eq_true, Bool.not_true, Bool.not_false, Bool.not_eq_true', Bool.not_eq_false', beq_eq_false_iff_ne, ne_eq, beq_iff_eq, bne_iff_ne, bne_eq_false_iff_eq, Classical.not_not] at g129
    refine Jp.y 130 rfl (want_as rfl rfl rfl rfl) rfl rfl Kp.true (Y.move rfl rfl) ?_
    refine Jp.y 131 rfl (want_as rfl rfl rfl rfl) rfl rfl Kp.true (Y.eql rfl rfl rfl) ?_
    refine Jp.y 132 rfl (want_all rfl) rfl rfl Kp.true (Y.pickT rfl rfl rfl) ?_
    refine Jp.y 133 rfl (want_all rfl) rfl rfl Kp.true (Y.move rfl rfl) ?_
    refine Jp.splitF 133 rfl (fun g133 => ?_) (fun g133 => ?_)
    · skip
      exact absurd g133 (by first | (simp; done) | decide +kernel)
    try simp only [decide_eq_false_iff_not, decide_eq_true_eq, Int.not_lt, Int.not_le, Bool.not_eq_false, Bool.not_eq_true, Bool.not_true, Bool.not_false, Bool.not_eq_true', Bool.not_eq_false', beq_eq_false_iff_ne, ne_eq, beq_iff_eq, bne_iff_ne, bne_eq_false_iff_eq, Classical.not_not] at g133
    refine Jp.y 134 rfl (want_as rfl rfl rfl rfl) rfl rfl Kp.true (Y.move rfl rfl) ?_
    refine Jp.y 135 rfl (want_as rfl rfl rfl rfl) rfl rfl Kp.true (Y.eql rfl rfl rfl) ?_
    refine Jp.y 136 rfl (want_all rfl) rfl rfl Kp.true (Y.pickT rfl rfl rfl) ?_
    refine Jp.y 137 rfl (want_all rfl) rfl rfl Kp.true (Y.move rfl rfl) ?_
    refine Jp.splitF 137 rfl (fun g137 => ?_) (fun g137 => ?_)
    · skip
      exact absurd g137 (by first | (simp; done) | decide +kernel)
    try simp only [decide_eq_false_iff_not, decide_eq_true_eq, Int.not_lt, Int.not_le, Bool.not_eq_false, Bool.not_eq_true, Bool.not_true, Bool.not_false, Bool.not_eq_true', Bool.not_eq_false', beq_eq_false_iff_ne, ne_eq, beq_iff_eq, bne_iff_ne, bne_eq_false_iff_eq, Classical.not_not] at g137
    refine Jp.y 138 rfl (want_as rfl rfl rfl rfl) rfl rfl Kp.true (Y.move rfl rfl) ?_
    refine Jp.y 139 rfl (want_all rfl) rfl rfl Kp.true (Y.pickT rfl rfl rfl) ?_
    refine Jp.y 0 rfl (want_all rfl) rfl rfl Kp.true (Y.assign rfl rfl) ?_
    refine Jp.done hK30 ?_
    refine Cd.ret [] rfl (res1 rfl rfl) trivial ⟨rfl, rfl⟩
end Go.Proofs.Ytgfbdiibndbbjaa

