import Derived.Test.YtgmhijlcdadaeaaZSortX1
import Derived.Test.YtgmhijlcdadaeaaZIterX2
set_option linter.unusedVariables false
set_option linter.unusedSimpArgs false
set_option maxRecDepth 100000
namespace Go.Proofs.Ytgmhijlcdadaeaa
open Go
theorem up_go {p : Nat → Bool} {d : Array Nat} {i j : Nat} (h : i ≤ j) : Go.Sort.scanUp p d j i = if p d[i]! = true then Go.Sort.scanUp p d j (i + 1) else i := by
  rw [Go.Sort.scanUp]
  simp [h]
theorem up_end {p : Nat → Bool} {d : Array Nat} {i j : Nat} (h : ¬ i ≤ j) : Go.Sort.scanUp p d j i = i := by
  rw [Go.Sort.scanUp]
  simp [h]
theorem down_go {p : Nat → Bool} {d : Array Nat} {i j : Nat} (hj : 0 < j) (h : i ≤ j) : Go.Sort.scanDown p d i j = if p d[j]! = true then Go.Sort.scanDown p d i (j - 1) else j := by
  obtain ⟨q, rfl⟩ : ∃ q, j = q + 1 := ⟨j - 1, by omega⟩
  show (if (decide (i ≤ q + 1) && p d[q + 1]!) = true then Go.Sort.scanDown p d i q else q + 1) = _
  simp [h]
theorem down_end {p : Nat → Bool} {d : Array Nat} {i j : Nat} (h : ¬ i ≤ j) : Go.Sort.scanDown p d i j = j := by
  cases j with
  | zero => rfl
  | succ q =>
    show (if (decide (i ≤ q + 1) && p d[q + 1]!) = true then Go.Sort.scanDown p d i q else q + 1) = _
    simp [h]
theorem swap_res (d : Array Nat) (i j : Nat) : (natsV .u32 (d.toList.set i d[j]!)).set j (.int .u32 (d[i]! : Int)) = natsV .u32 (Go.Sort.swp d i j).toList := by rw [natsV_set, swpL]
theorem partEq_spec (A : Option Addr) (n c : Nat) (d0 : Array Nat) (a e pv : Nat) (hd : d0.size = n) (hp1 : a ≤ pv) (hp2 : pv < e) (hen : e ≤ n) (hn : n ≤ 4096) : Spec Try.prog 134 #[.slice A n c, .int .i64 a, .int .i64 e, .int .i64 pv] (fun _ => True) [(0, rowO A n c d0)]
    (fun ρ ρ' v L => ρ' = ρ ∧ v = .int .i64 ((Go.Sort.partitionEqual ltN d0 a e pv).1 : Int) ∧ L = [(0, rowO A n c (Go.Sort.partitionEqual ltN d0 a e pv).2)]) := by
  refine Spec.of 84 Try.func134 rfl Try.ntmps134 [(0, _), (1, _), (2, _), (3, _)] rfl rfl ?_
  intro cx ρ hr h0
  obtain ⟨T, hT⟩ : ∃ T, Go.Sort.partitionEqual ltN d0 a e pv = T := ⟨_, rfl⟩
  rw [hT]
  refine Cd.ownAt 0 rfl (show 0 < n by omega) ?_
  rintro b rfl
  have ca0 := rowC (b := b) (n := n) (c := c) (d := d0) (i := a) (by omega)
  have cp := rowC (b := b) (n := n) (c := c) (d := d0) (i := pv) (by omega)
  refine Cd.seq fun K1 hK1 => ?_
  refine Cd.plain [(0, false)] rfl rfl ?_
  refine Jp.y 8 rfl (want_all rfl) rfl rfl Kp.true (Y.assign rfl rfl) ?_
  refine Jp.done hK1 ?_
  refine Cd.seq fun K2 hK2 => ?_
  refine Cd.drawn3 [(0, _)] ⟨rfl, trivial⟩ [(2, true), (3, true)] [(0, true), (1, true), (4, true), (5, true), (6, true), (7, true), (8, true), (9, true), (10, true), (11, true), (12, true)] 13 [(14, true), (15, false)] follows (by kernel_rfl) (fun hrl => ?_)
  refine Jp2.q 13 rfl (want_all rfl) rfl rfl (fun _ => (Y.move rfl rfl)) ?_
  refine Jp2.q 14 rfl (want_all rfl) rfl rfl (fun _ => (Y.move rfl rfl)) ?_
  refine Jp2.head ?_
  refine Jp.q 11 rfl (want_all rfl) rfl rfl (Y.move rfl rfl) ?_
  refine Jp.q 12 rfl (want_all rfl) rfl rfl (Y.move rfl rfl) ?_
  refine Jp.q 15 rfl (want_all rfl) rfl rfl (Y.move rfl rfl) ?_
  refine Jp.q 16 rfl (want_all rfl) rfl rfl (Y.move rfl rfl) ?_
  refine Jp.q 17 rfl (want_all rfl) rfl rfl (Y.indexAddr (q := pv) rfl rfl rfl Try.underlying26 Try.sizeOf25 (by omega) (by omega) (by omega)) ?_
  refine Jp.q 18 rfl (want_all rfl) rfl rfl (by first | exact Y.loadC 0 rfl Try.isAgg25 rfl rfl cp | exact Y.loadC 0 rfl Try.isAgg25 rfl rfl ca0) ?_
  refine Jp.q 19 rfl (want_all rfl) rfl rfl (Y.move rfl rfl) ?_
  refine Jp.q 20 rfl (want_all rfl) rfl rfl (Y.move rfl rfl) ?_
  refine Jp.q 21 rfl (want_all rfl) rfl rfl (Y.indexAddr (q := a) rfl rfl rfl Try.underlying26 Try.sizeOf25 (by omega) (by omega) (by omega)) ?_
  refine Jp.q 22 rfl (want_all rfl) rfl rfl (by first | exact Y.loadC 0 rfl Try.isAgg25 rfl rfl cp | exact Y.loadC 0 rfl Try.isAgg25 rfl rfl ca0) ?_
  refine Jp.q 23 rfl (want_all rfl) rfl rfl (Y.indexAddr (q := a) rfl rfl rfl Try.underlying26 Try.sizeOf25 (by omega) (by omega) (by omega)) ?_
  refine Jp2.tail ?_
  refine Jp2.loud ?_
  refine Jp.storeS 0 (q := a) rfl (want_all rfl) rfl rfl Try.sizeOf25 rfl rfl rfl rfl rfl (by omega) (natsV .u32 (d0.toList.set a d0[pv]!)) (natsV_set _ _ _ _) Kp.true ?_
  refine Jp2.tail ?_
  refine Jp2.q 24 rfl (want_all rfl) rfl rfl (fun _ => (Y.indexAddr (q := pv) rfl rfl rfl Try.underlying26 Try.sizeOf25 (by omega) (by omega) (by omega))) ?_
  refine Jp2.loud ?_
  refine Jp.storeS 0 (q := pv) rfl (want_all rfl) rfl rfl Try.sizeOf25 rfl rfl rfl rfl rfl (by omega) (natsV .u32 (Go.Sort.swp d0 a pv).toList) (swap_res _ _ _) Kp.true ?_
  refine Jp2.tail ?_
  refine Jp2.nil ?_
  refine Jp.done hK2 ?_
  refine Cd.seq fun K3 hK3 => ?_
  refine Cd.plain [(0, false), (1, false), (2, false), (3, false), (4, false), (5, false)] rfl rfl ?_
  refine Jp.y 25 rfl (want_all rfl) rfl rfl Kp.true (Y.move rfl rfl) ?_
  refine Jp.y 26 rfl (want_all rfl) rfl rfl Kp.true (Y.add_ rfl rfl rfl (by first | exact wrap_i64 (by omega) (by omega) | rfl)) ?_
  refine Jp.y 27 rfl (want_all rfl) rfl rfl Kp.true (Y.move rfl rfl) ?_
  refine Jp.y 28 rfl (want_all rfl) rfl rfl Kp.true (Y.sub_ rfl rfl rfl (by first | exact wrap_i64 (by omega) (by omega) | rfl)) ?_
  refine Jp.y 9 rfl (want_all rfl) rfl rfl Kp.true (Y.assign rfl rfl) ?_
  refine Jp.y 10 rfl (want_all rfl) rfl rfl Kp.true (Y.assign rfl rfl) ?_
  refine Jp.done hK3 ?_
  refine Cd.seq fun K4 hK4 => ?_
  refine Cd.block ?_
  refine Cd.slot 9 rfl (show _ = Value.int .i64 ((a + 1 : Nat) : Int) from congrArg (Value.int .i64) (by omega)) ?_
  refine Cd.slot 10 rfl (show _ = Value.int .i64 ((e - 1 : Nat) : Int) from congrArg (Value.int .i64) (by omega)) ?_
  refine Cd.loopK (G := Nat × Nat × Array Nat) (fun g => Go.Sort.partEqLoop ltN a g.1 g.2.1 g.2.2 = T ∧ a + 1 ≤ g.1 ∧ g.1 ≤ g.2.1 + 2 ∧ g.2.1 < n ∧ g.2.2.size = n) (fun g => g.2.1 + 2 - g.1) (fun _ => _) (fun g => [(9, .int .i64 (g.1 : Int)), (10, .int .i64 (g.2.1 : Int))]) [(0, _), (1, _)] (fun g => [(0, rowO (some ⟨b, 0, none⟩) n c g.2.2)]) [] ⟨a + 1, e - 1, Go.Sort.swp d0 a pv⟩ ⟨hT, Nat.le_refl _, by show a + 1 ≤ e - 1 + 2; omega, by show e - 1 < n; omega, by rw [swp_size]; exact hd⟩ rfl ⟨rfl, rfl, trivial⟩ ⟨rfl, rfl, trivial⟩ ⟨rfl, trivial⟩ trivial (fun g KLa hok hLa => ?_)
  obtain ⟨i, j, d⟩ := g
  obtain ⟨ok1, ok2, ok3, ok4, ok5⟩ := hok
  dsimp only at ok1 ok2 ok3 ok4 ok5 ⊢
  rw [Go.Sort.partEqLoop_eq] at ok1
  have ca := rowC (b := b) (n := n) (c := c) (d := d) (i := a) (by omega)
  obtain ⟨i2, hqi⟩ : ∃ i2, i2 = Go.Sort.scanUp (fun x => !ltN d[a]! x) d j i := ⟨_, rfl⟩
  rw [← hqi] at ok1
  obtain ⟨j2, hqj⟩ : ∃ j2, j2 = Go.Sort.scanDown (fun x => ltN d[a]! x) d i2 j := ⟨_, rfl⟩
  rw [← hqj] at ok1
  have hup := Go.Sort.scanUp_ge (fun x => !ltN d[a]! x) d j i
  rw [← hqi] at hup
  have hdn := Go.Sort.scanDown_le (fun x => ltN d[a]! x) d i2 j
  rw [← hqj] at hdn
  refine Cd.block ?_
  refine Cd.seq fun K5 hK5 => ?_
  refine Cd.block ?_
  refine Cd.joinG (G := Unit) (fun _ => True) (fun _ => [(9, .int .i64 (i2 : Int))]) [(0, _), (1, _), (10, _)] ⟨rfl, rfl, rfl, trivial⟩ (fun _ => []) [(0, _)] ⟨rfl, trivial⟩ hK5 (fun g hφ => ?_) (fun hj1 => ?_)
  · clear hφ
    refine Cd.seq fun K6 hK6 => ?_
    refine Cd.block ?_
    refine Cd.joinG (G := Unit) (fun _ => True) (fun _ => [(10, .int .i64 (j2 : Int))]) [(0, _), (1, _), (9, _)] ⟨rfl, rfl, rfl, trivial⟩ (fun _ => []) [(0, _)] ⟨rfl, trivial⟩ hK6 (fun g hφ => ?_) (fun hj2 => ?_)
    · clear hφ
      refine Cd.seq fun K7 hK7 => ?_
      refine Cd.seq fun K8 hK8 => ?_
      refine Cd.plain [(0, false), (1, false), (2, false)] rfl rfl ?_
      refine Jp.y 62 rfl (want_all rfl) rfl rfl Kp.true (Y.move rfl rfl) ?_
      refine Jp.y 63 rfl (want_all rfl) rfl rfl Kp.true (Y.move rfl rfl) ?_
      refine Jp.y 64 rfl (want_all rfl) rfl rfl Kp.true (Y.gtr rfl rfl rfl) ?_
      refine Jp.done hK8 ?_
      refine Cd.cond rfl (fun gx => ?_) (fun gx => ?_)
      · simp only [decide_eq_true_eq] at gx
        rw [if_pos (by omega)] at ok1
        subst ok1
        refine Cd.exit rfl hK4 ?_
        refine Cd.seq fun K9 hK9 => ?_
        refine Cd.plain [(0, false), (1, false)] rfl rfl ?_
        refine Jp.y 83 rfl (want_all rfl) rfl rfl Kp.true (Y.move rfl rfl) ?_
        refine Jp.y 8 rfl (want_all rfl) rfl rfl Kp.true (Y.assign rfl rfl) ?_
        refine Jp.done hK9 ?_
        refine Cd.ret [(0, _)] rfl (res1 rfl rfl) ⟨rfl, trivial⟩ ⟨rfl, rfl, rfl⟩
      · simp only [decide_eq_false_iff_not] at gx
        rw [if_neg (by omega)] at ok1
        have ci := rowC (b := b) (n := n) (c := c) (d := d) (i := i2) (by omega)
        have cj := rowC (b := b) (n := n) (c := c) (d := d) (i := j2) (by omega)
        refine Cd.skip hK7 ?_
        refine Cd.seq fun K10 hK10 => ?_
        refine Cd.drawn3 [(0, _)] ⟨rfl, trivial⟩ [(2, true), (3, true)] [(0, true), (1, true), (4, true), (5, true), (6, true), (7, true), (8, true), (9, true), (10, true), (11, true), (12, true)] 13 [(14, true), (15, false)] follows (by kernel_rfl) (fun hrl => ?_)
        refine Jp2.q 67 rfl (want_all rfl) rfl rfl (fun _ => (Y.move rfl rfl)) ?_
        refine Jp2.q 68 rfl (want_all rfl) rfl rfl (fun _ => (Y.move rfl rfl)) ?_
        refine Jp2.head ?_
        refine Jp.q 65 rfl (want_all rfl) rfl rfl (Y.move rfl rfl) ?_
        refine Jp.q 66 rfl (want_all rfl) rfl rfl (Y.move rfl rfl) ?_
        refine Jp.q 69 rfl (want_all rfl) rfl rfl (Y.move rfl rfl) ?_
        refine Jp.q 70 rfl (want_all rfl) rfl rfl (Y.move rfl rfl) ?_
        refine Jp.q 71 rfl (want_all rfl) rfl rfl (Y.indexAddr (q := j2) rfl rfl rfl Try.underlying26 Try.sizeOf25 (by omega) (by omega) (by omega)) ?_
        refine Jp.q 72 rfl (want_all rfl) rfl rfl (by first | exact Y.loadC 0 rfl Try.isAgg25 rfl rfl cj | exact Y.loadC 0 rfl Try.isAgg25 rfl rfl ci) ?_
        refine Jp.q 73 rfl (want_all rfl) rfl rfl (Y.move rfl rfl) ?_
        refine Jp.q 74 rfl (want_all rfl) rfl rfl (Y.move rfl rfl) ?_
        refine Jp.q 75 rfl (want_all rfl) rfl rfl (Y.indexAddr (q := i2) rfl rfl rfl Try.underlying26 Try.sizeOf25 (by omega) (by omega) (by omega)) ?_
        refine Jp.q 76 rfl (want_all rfl) rfl rfl (by first | exact Y.loadC 0 rfl Try.isAgg25 rfl rfl cj | exact Y.loadC 0 rfl Try.isAgg25 rfl rfl ci) ?_
        refine Jp.q 77 rfl (want_all rfl) rfl rfl (Y.indexAddr (q := i2) rfl rfl rfl Try.underlying26 Try.sizeOf25 (by omega) (by omega) (by omega)) ?_
        refine Jp2.tail ?_
        refine Jp2.loud ?_
        refine Jp.storeS 0 (q := i2) rfl (want_all rfl) rfl rfl Try.sizeOf25 rfl rfl rfl rfl rfl (by omega) (natsV .u32 (d.toList.set i2 d[j2]!)) (natsV_set _ _ _ _) Kp.true ?_
        refine Jp2.tail ?_
        refine Jp2.q 78 rfl (want_all rfl) rfl rfl (fun _ => (Y.indexAddr (q := j2) rfl rfl rfl Try.underlying26 Try.sizeOf25 (by omega) (by omega) (by omega))) ?_
        refine Jp2.loud ?_
        refine Jp.storeS 0 (q := j2) rfl (want_all rfl) rfl rfl Try.sizeOf25 rfl rfl rfl rfl rfl (by omega) (natsV .u32 (Go.Sort.swp d i2 j2).toList) (swap_res _ _ _) Kp.true ?_
        refine Jp2.tail ?_
        refine Jp2.nil ?_
        refine Jp.done hK10 ?_
        refine Cd.seq fun K11 hK11 => ?_
        refine Cd.plain [(0, false), (1, false), (2, false)] rfl rfl ?_
        refine Jp.y 79 rfl (want_all rfl) rfl rfl Kp.true (Y.move rfl rfl) ?_
        refine Jp.y 80 rfl (want_all rfl) rfl rfl Kp.true (Y.add_ rfl rfl rfl (by first | exact wrap_i64 (by omega) (by omega) | rfl)) ?_
        refine Jp.y 9 rfl (want_all rfl) rfl rfl Kp.true (Y.assign rfl rfl) ?_
        refine Jp.done hK11 ?_
        refine Cd.plain [(0, false), (1, false), (2, false)] rfl rfl ?_
        refine Jp.y 81 rfl (want_all rfl) rfl rfl Kp.true (Y.move rfl rfl) ?_
        refine Jp.y 82 rfl (want_all rfl) rfl rfl Kp.true (Y.sub_ rfl rfl rfl (by first | exact wrap_i64 (by omega) (by omega) | rfl)) ?_
        refine Jp.y 10 rfl (want_all rfl) rfl rfl Kp.true (Y.assign rfl rfl) ?_
        refine Jp.slot 9 rfl (show _ = Value.int .i64 ((i2 + 1 : Nat) : Int) from congrArg (Value.int .i64) (by omega)) ?_
        refine Jp.slot 10 rfl (show _ = Value.int .i64 ((j2 - 1 : Nat) : Int) from congrArg (Value.int .i64) (by omega)) ?_
        refine JpQ.again rfl hLa ⟨i2 + 1, j2 - 1, Go.Sort.swp d i2 j2⟩ ⟨ok1, by show a + 1 ≤ i2 + 1; omega, by show i2 + 1 ≤ j2 - 1 + 2; omega, by show j2 - 1 < n; omega, by rw [swp_size]; exact ok5⟩ (by show j2 - 1 + 2 - (i2 + 1) < j + 2 - i; omega) rfl ⟨rfl, rfl, rfl, rfl, trivial⟩ ⟨rfl, trivial⟩
    · skip
      refine Cd.loopK (G := Nat) (fun g => Go.Sort.scanDown (fun x => ltN d[a]! x) d i2 g = j2 ∧ g < n) (fun g => g) (fun _ => _) (fun g => [(10, .int .i64 (g : Int))]) [(0, _), (1, _), (9, _)] (fun g => []) [(0, _)] j ⟨hqj.symm, by omega⟩ rfl ⟨rfl, trivial⟩ ⟨rfl, rfl, rfl, trivial⟩ trivial ⟨rfl, trivial⟩ (fun g KLk hok hLk => ?_)
      obtain ⟨k, hk⟩ : ∃ k, k = g := ⟨_, rfl⟩
      rw [← hk] at hok ⊢
      obtain ⟨ow1, ow2⟩ := hok
      refine Cd.seq fun K12 hK12 => ?_
      refine Cd.seq fun K13 hK13 => ?_
      refine Cd.drawn [(0, _)] ⟨rfl, trivial⟩ [(0, true), (1, true), (2, true), (3, true), (4, true), (5, true), (6, true), (7, true), (8, true), (9, true), (10, true), (11, true), (12, false), (13, true)] follows (by kernel_rfl) (fun hrl => ?_)
      refine Jp.q 46 rfl (want_all rfl) rfl rfl (Y.move rfl rfl) ?_
      refine Jp.q 47 rfl (want_all rfl) rfl rfl (Y.move rfl rfl) ?_
      refine Jp.q 48 rfl (want_all rfl) rfl rfl (Y.leq rfl rfl rfl) ?_
      refine Jp.q 49 rfl (want_all rfl) rfl rfl (Y.move rfl rfl) ?_
      refine Jp.splitF 49 rfl (fun g49 => ?_) (fun g49 => ?_)
      · skip
        simp only [decide_eq_false_iff_not] at g49
        have hst : Go.Sort.scanDown (fun x => ltN d[a]! x) d i2 k = k := down_end (by omega)
        have hkr : k = j2 := by rw [← ow1, hst]
        rw [hkr]
        refine Jp.qskip 50 rfl (want_as rfl rfl rfl rfl) rfl rfl ?_
        refine Jp.qskip 51 rfl (want_as rfl rfl rfl rfl) rfl rfl ?_
        refine Jp.qskip 52 rfl (want_as rfl rfl rfl rfl) rfl rfl ?_
        refine Jp.qskip 53 rfl (want_as rfl rfl rfl rfl) rfl rfl ?_
        refine Jp.qskip 54 rfl (want_as rfl rfl rfl rfl) rfl rfl ?_
        refine Jp.qskip 55 rfl (want_as rfl rfl rfl rfl) rfl rfl ?_
        refine Jp.qskip 56 rfl (want_as rfl rfl rfl rfl) rfl rfl ?_
        refine Jp.qskip 57 rfl (want_as rfl rfl rfl rfl) rfl rfl ?_
        refine Jp.skip 58 rfl (want_as rfl rfl rfl rfl) rfl rfl (Kp.st ⟨rfl, trivial⟩) ?_
        refine Jp.q 59 rfl (want_all rfl) rfl rfl (Y.pickF rfl rfl rfl) ?_
        refine Jp.done hK13 ?_
        refine Cd.condF rfl ?_
        refine Cd.exit rfl hK6 ?_
        exact Cd.meet (hj2 () trivial) ⟨rfl, rfl, rfl, rfl, trivial⟩ ⟨rfl, trivial⟩
      try simp only [decide_eq_false_iff_not, decide_eq_true_eq, Int.not_lt, Int.not_le, Bool.not_eq_false, Bool.not_eq_true, Bool.not_true, Bool.not_false, Bool.not_eq_true', Bool.not_eq_false', beq_eq_false_iff_ne, ne_eq, beq_iff_eq, bne_iff_ne, bne_eq_false_iff_eq, Classical.not_not] at g49
      refine Jp.q 50 rfl (want_as rfl rfl rfl rfl) rfl rfl (Y.move rfl rfl) ?_
      refine Jp.q 51 rfl (want_as rfl rfl rfl rfl) rfl rfl (Y.move rfl rfl) ?_
      have hkj : i2 ≤ k := by omega
      have ck := rowC (b := b) (n := n) (c := c) (d := d) (i := k) (by omega)
      refine Jp.q 52 rfl (want_as rfl rfl rfl rfl) rfl rfl (Y.indexAddr (q := a) rfl rfl rfl Try.underlying26 Try.sizeOf25 (by omega) (by omega) (by omega)) ?_
      refine Jp.q 53 rfl (want_as rfl rfl rfl rfl) rfl rfl (by first | exact Y.loadC 0 rfl Try.isAgg25 rfl rfl ca | exact Y.loadC 0 rfl Try.isAgg25 rfl rfl ck) ?_
      refine Jp.q 54 rfl (want_as rfl rfl rfl rfl) rfl rfl (Y.move rfl rfl) ?_
      refine Jp.q 55 rfl (want_as rfl rfl rfl rfl) rfl rfl (Y.move rfl rfl) ?_
      refine Jp.q 56 rfl (want_as rfl rfl rfl rfl) rfl rfl (Y.indexAddr (q := k) rfl rfl rfl Try.underlying26 Try.sizeOf25 (by omega) (by omega) (by omega)) ?_
      refine Jp.q 57 rfl (want_as rfl rfl rfl rfl) rfl rfl (by first | exact Y.loadC 0 rfl Try.isAgg25 rfl rfl ca | exact Y.loadC 0 rfl Try.isAgg25 rfl rfl ck) ?_
      refine Jp.call [] [] (less_spec d[a]! d[k]!) 58 rfl (want_as rfl rfl rfl rfl) rfl rfl (Runs.fn rfl Try.call133 rfl) (by decide) (by decide) rfl trivial ?_
      rintro v7 ρ7 L7 ⟨rfl, rfl, rfl⟩
      refine ⟨rfl, fun hle7 => ⟨(Kp.st ⟨rfl, trivial⟩), ?_⟩⟩
      have hst : Go.Sort.scanDown (fun x => ltN d[a]! x) d i2 k = if (ltN d[a]! d[k]!) = true then Go.Sort.scanDown (fun x => ltN d[a]! x) d i2 (k - 1) else k := down_go (by omega) hkj
      refine Jp.q 59 rfl (want_all rfl) rfl rfl (Y.pickT rfl rfl rfl) ?_
      refine Jp.done hK13 ?_
      refine Cd.cond rfl (fun gl => ?_) (fun gl => ?_)
      · rw [gl, if_pos rfl] at hst
        refine Cd.skip hK12 ?_
        refine Cd.block ?_
        refine Cd.plain [(0, false), (1, false), (2, false)] rfl rfl ?_
        refine Jp.y 60 rfl (want_all rfl) rfl rfl Kp.true (Y.move rfl rfl) ?_
        refine Jp.y 61 rfl (want_all rfl) rfl rfl Kp.true (Y.sub_ rfl rfl rfl (by first | exact wrap_i64 (by omega) (by omega) | rfl)) ?_
        refine Jp.y 10 rfl (want_all rfl) rfl rfl Kp.true (Y.assign rfl rfl) ?_
        rw [show (k : Int) - 1 = ((k - 1 : Nat) : Int) by omega]
        refine JpQ.again rfl hLk (k - 1) ⟨by rw [← hst, ow1], by omega⟩ (by omega) rfl ⟨rfl, rfl, rfl, rfl, trivial⟩ ⟨rfl, trivial⟩
      · rw [gl, if_neg (by simp)] at hst
        have hkr : k = j2 := by rw [← ow1, hst]
        rw [hkr]
        refine Cd.exit rfl hK6 ?_
        exact Cd.meet (hj2 () trivial) ⟨rfl, rfl, rfl, rfl, trivial⟩ ⟨rfl, trivial⟩
  · skip
    refine Cd.loopK (G := Nat) (fun g => Go.Sort.scanUp (fun x => !ltN d[a]! x) d j g = i2 ∧ a + 1 ≤ g) (fun g => j + 1 - g) (fun _ => _) (fun g => [(9, .int .i64 (g : Int))]) [(0, _), (1, _), (10, _)] (fun g => []) [(0, _)] i ⟨hqi.symm, by omega⟩ rfl ⟨rfl, trivial⟩ ⟨rfl, rfl, rfl, trivial⟩ trivial ⟨rfl, trivial⟩ (fun g KLk hok hLk => ?_)
    obtain ⟨k, hk⟩ : ∃ k, k = g := ⟨_, rfl⟩
    rw [← hk] at hok ⊢
    obtain ⟨ow1, ow2⟩ := hok
    refine Cd.seq fun K15 hK15 => ?_
    refine Cd.seq fun K16 hK16 => ?_
    refine Cd.drawn [(0, _)] ⟨rfl, trivial⟩ [(0, true), (1, true), (2, true), (3, true), (4, true), (5, true), (6, true), (7, true), (8, true), (9, true), (10, true), (11, true), (12, false), (13, true), (14, true)] follows (by kernel_rfl) (fun hrl => ?_)
    refine Jp.q 29 rfl (want_all rfl) rfl rfl (Y.move rfl rfl) ?_
    refine Jp.q 30 rfl (want_all rfl) rfl rfl (Y.move rfl rfl) ?_
    refine Jp.q 31 rfl (want_all rfl) rfl rfl (Y.leq rfl rfl rfl) ?_
    refine Jp.q 32 rfl (want_all rfl) rfl rfl (Y.move rfl rfl) ?_
    refine Jp.splitF 32 rfl (fun g32 => ?_) (fun g32 => ?_)
    · skip
      simp only [decide_eq_false_iff_not] at g32
      have hst : Go.Sort.scanUp (fun x => !ltN d[a]! x) d j k = k := up_end (by omega)
      have hkr : k = i2 := by rw [← ow1, hst]
      rw [hkr]
      refine Jp.qskip 33 rfl (want_as rfl rfl rfl rfl) rfl rfl ?_
      refine Jp.qskip 34 rfl (want_as rfl rfl rfl rfl) rfl rfl ?_
      refine Jp.qskip 35 rfl (want_as rfl rfl rfl rfl) rfl rfl ?_
      refine Jp.qskip 36 rfl (want_as rfl rfl rfl rfl) rfl rfl ?_
      refine Jp.qskip 37 rfl (want_as rfl rfl rfl rfl) rfl rfl ?_
      refine Jp.qskip 38 rfl (want_as rfl rfl rfl rfl) rfl rfl ?_
      refine Jp.qskip 39 rfl (want_as rfl rfl rfl rfl) rfl rfl ?_
      refine Jp.qskip 40 rfl (want_as rfl rfl rfl rfl) rfl rfl ?_
      refine Jp.skip 41 rfl (want_as rfl rfl rfl rfl) rfl rfl (Kp.st ⟨rfl, trivial⟩) ?_
      refine Jp.qskip 42 rfl (want_as rfl rfl rfl rfl) rfl rfl ?_
      refine Jp.q 43 rfl (want_all rfl) rfl rfl (Y.pickF rfl rfl rfl) ?_
      refine Jp.done hK16 ?_
      refine Cd.condF rfl ?_
      refine Cd.exit rfl hK5 ?_
      exact Cd.meet (hj1 () trivial) ⟨rfl, rfl, rfl, rfl, trivial⟩ ⟨rfl, trivial⟩
    try simp only [decide_eq_false_iff_not, decide_eq_true_eq, Int.not_lt, Int.not_le, Bool.not_eq_false, Bool.not_eq_true, Bool.not_true, Bool.not_false, Bool.not_eq_true', Bool.not_eq_false', beq_eq_false_iff_ne, ne_eq, beq_iff_eq, bne_iff_ne, bne_eq_false_iff_eq, Classical.not_not] at g32
    refine Jp.q 33 rfl (want_as rfl rfl rfl rfl) rfl rfl (Y.move rfl rfl) ?_
    refine Jp.q 34 rfl (want_as rfl rfl rfl rfl) rfl rfl (Y.move rfl rfl) ?_
    have hkj : k ≤ j := by omega
    have ck := rowC (b := b) (n := n) (c := c) (d := d) (i := k) (by omega)
    refine Jp.q 35 rfl (want_as rfl rfl rfl rfl) rfl rfl (Y.indexAddr (q := a) rfl rfl rfl Try.underlying26 Try.sizeOf25 (by omega) (by omega) (by omega)) ?_
    refine Jp.q 36 rfl (want_as rfl rfl rfl rfl) rfl rfl (by first | exact Y.loadC 0 rfl Try.isAgg25 rfl rfl ca | exact Y.loadC 0 rfl Try.isAgg25 rfl rfl ck) ?_
    refine Jp.q 37 rfl (want_as rfl rfl rfl rfl) rfl rfl (Y.move rfl rfl) ?_
    refine Jp.q 38 rfl (want_as rfl rfl rfl rfl) rfl rfl (Y.move rfl rfl) ?_
    refine Jp.q 39 rfl (want_as rfl rfl rfl rfl) rfl rfl (Y.indexAddr (q := k) rfl rfl rfl Try.underlying26 Try.sizeOf25 (by omega) (by omega) (by omega)) ?_
    refine Jp.q 40 rfl (want_as rfl rfl rfl rfl) rfl rfl (by first | exact Y.loadC 0 rfl Try.isAgg25 rfl rfl ca | exact Y.loadC 0 rfl Try.isAgg25 rfl rfl ck) ?_
    refine Jp.call [] [] (less_spec d[a]! d[k]!) 41 rfl (want_as rfl rfl rfl rfl) rfl rfl (Runs.fn rfl Try.call133 rfl) (by decide) (by decide) rfl trivial ?_
    rintro v7 ρ7 L7 ⟨rfl, rfl, rfl⟩
    refine ⟨rfl, fun hle7 => ⟨(Kp.st ⟨rfl, trivial⟩), ?_⟩⟩
    have hst : Go.Sort.scanUp (fun x => !ltN d[a]! x) d j k = if (!ltN d[a]! d[k]!) = true then Go.Sort.scanUp (fun x => !ltN d[a]! x) d j (k + 1) else k := up_go hkj
    refine Jp.q 42 rfl (want_as rfl rfl rfl rfl) rfl rfl (Y.not rfl rfl) ?_
    refine Jp.q 43 rfl (want_all rfl) rfl rfl (Y.pickT rfl rfl rfl) ?_
    refine Jp.done hK16 ?_
    refine Cd.cond rfl (fun gl => ?_) (fun gl => ?_)
    · rw [gl, if_pos rfl] at hst
      refine Cd.skip hK15 ?_
      refine Cd.block ?_
      refine Cd.plain [(0, false), (1, false), (2, false)] rfl rfl ?_
      refine Jp.y 44 rfl (want_all rfl) rfl rfl Kp.true (Y.move rfl rfl) ?_
      refine Jp.y 45 rfl (want_all rfl) rfl rfl Kp.true (Y.add_ rfl rfl rfl (by first | exact wrap_i64 (by omega) (by omega) | rfl)) ?_
      refine Jp.y 9 rfl (want_all rfl) rfl rfl Kp.true (Y.assign rfl rfl) ?_
      rw [show (k : Int) + 1 = ((k + 1 : Nat) : Int) by omega]
      refine JpQ.again rfl hLk (k + 1) ⟨by rw [← hst, ow1], by omega⟩ (by omega) rfl ⟨rfl, rfl, rfl, rfl, trivial⟩ ⟨rfl, trivial⟩
    · rw [gl, if_neg (by simp)] at hst
      have hkr : k = i2 := by rw [← ow1, hst]
      rw [hkr]
      refine Cd.exit rfl hK5 ?_
      exact Cd.meet (hj1 () trivial) ⟨rfl, rfl, rfl, rfl, trivial⟩ ⟨rfl, trivial⟩
theorem part_eq (d0 : Array Nat) (a e pv : Nat) : Go.Sort.partition ltN d0 a e pv =
    if Go.Sort.scanUp (fun x => ltN x (Go.Sort.swp d0 a pv)[a]!) (Go.Sort.swp d0 a pv) (e - 1) (a + 1) > Go.Sort.scanDown (fun x => !ltN x (Go.Sort.swp d0 a pv)[a]!) (Go.Sort.swp d0 a pv) (Go.Sort.scanUp (fun x => ltN x (Go.Sort.swp d0 a pv)[a]!) (Go.Sort.swp d0 a pv) (e - 1) (a + 1)) (e - 1) then
      (Go.Sort.scanDown (fun x => !ltN x (Go.Sort.swp d0 a pv)[a]!) (Go.Sort.swp d0 a pv) (Go.Sort.scanUp (fun x => ltN x (Go.Sort.swp d0 a pv)[a]!) (Go.Sort.swp d0 a pv) (e - 1) (a + 1)) (e - 1), true, Go.Sort.swp (Go.Sort.swp d0 a pv) (Go.Sort.scanDown (fun x => !ltN x (Go.Sort.swp d0 a pv)[a]!) (Go.Sort.swp d0 a pv) (Go.Sort.scanUp (fun x => ltN x (Go.Sort.swp d0 a pv)[a]!) (Go.Sort.swp d0 a pv) (e - 1) (a + 1)) (e - 1)) a)
    else
      ((Go.Sort.partLoop ltN a (Go.Sort.scanUp (fun x => ltN x (Go.Sort.swp d0 a pv)[a]!) (Go.Sort.swp d0 a pv) (e - 1) (a + 1) + 1) (Go.Sort.scanDown (fun x => !ltN x (Go.Sort.swp d0 a pv)[a]!) (Go.Sort.swp d0 a pv) (Go.Sort.scanUp (fun x => ltN x (Go.Sort.swp d0 a pv)[a]!) (Go.Sort.swp d0 a pv) (e - 1) (a + 1)) (e - 1) - 1) (Go.Sort.swp (Go.Sort.swp d0 a pv) (Go.Sort.scanUp (fun x => ltN x (Go.Sort.swp d0 a pv)[a]!) (Go.Sort.swp d0 a pv) (e - 1) (a + 1)) (Go.Sort.scanDown (fun x => !ltN x (Go.Sort.swp d0 a pv)[a]!) (Go.Sort.swp d0 a pv) (Go.Sort.scanUp (fun x => ltN x (Go.Sort.swp d0 a pv)[a]!) (Go.Sort.swp d0 a pv) (e - 1) (a + 1)) (e - 1)))).1, false,
        Go.Sort.swp (Go.Sort.partLoop ltN a (Go.Sort.scanUp (fun x => ltN x (Go.Sort.swp d0 a pv)[a]!) (Go.Sort.swp d0 a pv) (e - 1) (a + 1) + 1) (Go.Sort.scanDown (fun x => !ltN x (Go.Sort.swp d0 a pv)[a]!) (Go.Sort.swp d0 a pv) (Go.Sort.scanUp (fun x => ltN x (Go.Sort.swp d0 a pv)[a]!) (Go.Sort.swp d0 a pv) (e - 1) (a + 1)) (e - 1) - 1) (Go.Sort.swp (Go.Sort.swp d0 a pv) (Go.Sort.scanUp (fun x => ltN x (Go.Sort.swp d0 a pv)[a]!) (Go.Sort.swp d0 a pv) (e - 1) (a + 1)) (Go.Sort.scanDown (fun x => !ltN x (Go.Sort.swp d0 a pv)[a]!) (Go.Sort.swp d0 a pv) (Go.Sort.scanUp (fun x => ltN x (Go.Sort.swp d0 a pv)[a]!) (Go.Sort.swp d0 a pv) (e - 1) (a + 1)) (e - 1)))).2 (Go.Sort.partLoop ltN a (Go.Sort.scanUp (fun x => ltN x (Go.Sort.swp d0 a pv)[a]!) (Go.Sort.swp d0 a pv) (e - 1) (a + 1) + 1) (Go.Sort.scanDown (fun x => !ltN x (Go.Sort.swp d0 a pv)[a]!) (Go.Sort.swp d0 a pv) (Go.Sort.scanUp (fun x => ltN x (Go.Sort.swp d0 a pv)[a]!) (Go.Sort.swp d0 a pv) (e - 1) (a + 1)) (e - 1) - 1) (Go.Sort.swp (Go.Sort.swp d0 a pv) (Go.Sort.scanUp (fun x => ltN x (Go.Sort.swp d0 a pv)[a]!) (Go.Sort.swp d0 a pv) (e - 1) (a + 1)) (Go.Sort.scanDown (fun x => !ltN x (Go.Sort.swp d0 a pv)[a]!) (Go.Sort.swp d0 a pv) (Go.Sort.scanUp (fun x => ltN x (Go.Sort.swp d0 a pv)[a]!) (Go.Sort.swp d0 a pv) (e - 1) (a + 1)) (e - 1)))).1 a) := rfl
theorem part_spec (A : Option Addr) (n c : Nat) (d0 : Array Nat) (a e pv : Nat) (hd : d0.size = n) (hp1 : a ≤ pv) (hp2 : pv < e) (hen : e ≤ n) (hn : n ≤ 4096) : Spec Try.prog 135 #[.slice A n c, .int .i64 a, .int .i64 e, .int .i64 pv] (fun _ => True) [(0, rowO A n c d0)]
    (fun ρ ρ' v L => ρ' = ρ ∧ v = .tuple #[.int .i64 ((Go.Sort.partition ltN d0 a e pv).1 : Int), .bool (Go.Sort.partition ltN d0 a e pv).2.1] ∧ L = [(0, rowO A n c (Go.Sort.partition ltN d0 a e pv).2.2)]) := by
  refine Spec.of 168 Try.func135 rfl Try.ntmps135 [(0, _), (1, _), (2, _), (3, _)] rfl rfl ?_
  intro cx ρ hr h0
  obtain ⟨T, hT⟩ : ∃ T, Go.Sort.partition ltN d0 a e pv = T := ⟨_, rfl⟩
  rw [hT]
  refine Cd.ownAt 0 rfl (show 0 < n by omega) ?_
  rintro b rfl
  have ca0 := rowC (b := b) (n := n) (c := c) (d := d0) (i := a) (by omega)
  have cp := rowC (b := b) (n := n) (c := c) (d := d0) (i := pv) (by omega)
  refine Cd.seq fun K18 hK18 => ?_
  refine Cd.plain [(0, false), (1, false)] rfl rfl ?_
  refine Jp.y 8 rfl (want_all rfl) rfl rfl Kp.true (Y.assign rfl rfl) ?_
  refine Jp.y 9 rfl (want_all rfl) rfl rfl Kp.true (Y.assign rfl rfl) ?_
  refine Jp.done hK18 ?_
  refine Cd.seq fun K19 hK19 => ?_
  refine Cd.drawn3 [(0, _)] ⟨rfl, trivial⟩ [(2, true), (3, true)] [(0, true), (1, true), (4, true), (5, true), (6, true), (7, true), (8, true), (9, true), (10, true), (11, true), (12, true)] 13 [(14, true), (15, false)] follows (by kernel_rfl) (fun hrl => ?_)
  refine Jp2.q 14 rfl (want_all rfl) rfl rfl (fun _ => (Y.move rfl rfl)) ?_
  refine Jp2.q 15 rfl (want_all rfl) rfl rfl (fun _ => (Y.move rfl rfl)) ?_
  refine Jp2.head ?_
  refine Jp.q 12 rfl (want_all rfl) rfl rfl (Y.move rfl rfl) ?_
  refine Jp.q 13 rfl (want_all rfl) rfl rfl (Y.move rfl rfl) ?_
  refine Jp.q 16 rfl (want_all rfl) rfl rfl (Y.move rfl rfl) ?_
  refine Jp.q 17 rfl (want_all rfl) rfl rfl (Y.move rfl rfl) ?_
  refine Jp.q 18 rfl (want_all rfl) rfl rfl (Y.indexAddr (q := pv) rfl rfl rfl Try.underlying26 Try.sizeOf25 (by omega) (by omega) (by omega)) ?_
  refine Jp.q 19 rfl (want_all rfl) rfl rfl (by first | exact Y.loadC 0 rfl Try.isAgg25 rfl rfl cp | exact Y.loadC 0 rfl Try.isAgg25 rfl rfl ca0) ?_
  refine Jp.q 20 rfl (want_all rfl) rfl rfl (Y.move rfl rfl) ?_
  refine Jp.q 21 rfl (want_all rfl) rfl rfl (Y.move rfl rfl) ?_
  refine Jp.q 22 rfl (want_all rfl) rfl rfl (Y.indexAddr (q := a) rfl rfl rfl Try.underlying26 Try.sizeOf25 (by omega) (by omega) (by omega)) ?_
  refine Jp.q 23 rfl (want_all rfl) rfl rfl (by first | exact Y.loadC 0 rfl Try.isAgg25 rfl rfl cp | exact Y.loadC 0 rfl Try.isAgg25 rfl rfl ca0) ?_
  refine Jp.q 24 rfl (want_all rfl) rfl rfl (Y.indexAddr (q := a) rfl rfl rfl Try.underlying26 Try.sizeOf25 (by omega) (by omega) (by omega)) ?_
  refine Jp2.tail ?_
  refine Jp2.loud ?_
  refine Jp.storeS 0 (q := a) rfl (want_all rfl) rfl rfl Try.sizeOf25 rfl rfl rfl rfl rfl (by omega) (natsV .u32 (d0.toList.set a d0[pv]!)) (natsV_set _ _ _ _) Kp.true ?_
  refine Jp2.tail ?_
  refine Jp2.q 25 rfl (want_all rfl) rfl rfl (fun _ => (Y.indexAddr (q := pv) rfl rfl rfl Try.underlying26 Try.sizeOf25 (by omega) (by omega) (by omega))) ?_
  refine Jp2.loud ?_
  refine Jp.storeS 0 (q := pv) rfl (want_all rfl) rfl rfl Try.sizeOf25 rfl rfl rfl rfl rfl (by omega) (natsV .u32 (Go.Sort.swp d0 a pv).toList) (swap_res _ _ _) Kp.true ?_
  refine Jp2.tail ?_
  obtain ⟨d, hd1⟩ : ∃ d, Go.Sort.swp d0 a pv = d := ⟨_, rfl⟩
  have hs1 : d.size = n := by rw [← hd1, swp_size]; exact hd
  rw [part_eq, hd1] at hT
  rw [hd1]
  obtain ⟨i2, hqi⟩ : ∃ i2, i2 = Go.Sort.scanUp (fun x => ltN x d[a]!) d (e - 1) (a + 1) := ⟨_, rfl⟩
  rw [← hqi] at hT
  obtain ⟨j2, hqj⟩ : ∃ j2, j2 = Go.Sort.scanDown (fun x => !ltN x d[a]!) d i2 (e - 1) := ⟨_, rfl⟩
  rw [← hqj] at hT
  have hup := Go.Sort.scanUp_ge (fun x => ltN x d[a]!) d (e - 1) (a + 1)
  rw [← hqi] at hup
  have hdn := Go.Sort.scanDown_le (fun x => !ltN x d[a]!) d i2 (e - 1)
  rw [← hqj] at hdn
  have ca := rowC (b := b) (n := n) (c := c) (d := d) (i := a) (by omega)
  refine Jp2.nil ?_
  refine Jp.done hK19 ?_
  refine Cd.seq fun K20 hK20 => ?_
  refine Cd.plain [(0, false), (1, false), (2, false), (3, false), (4, false), (5, false)] rfl rfl ?_
  refine Jp.y 26 rfl (want_all rfl) rfl rfl Kp.true (Y.move rfl rfl) ?_
  refine Jp.y 27 rfl (want_all rfl) rfl rfl Kp.true (Y.add_ rfl rfl rfl (by first | exact wrap_i64 (by omega) (by omega) | rfl)) ?_
  refine Jp.y 28 rfl (want_all rfl) rfl rfl Kp.true (Y.move rfl rfl) ?_
  refine Jp.y 29 rfl (want_all rfl) rfl rfl Kp.true (Y.sub_ rfl rfl rfl (by first | exact wrap_i64 (by omega) (by omega) | rfl)) ?_
  refine Jp.y 10 rfl (want_all rfl) rfl rfl Kp.true (Y.assign rfl rfl) ?_
  refine Jp.y 11 rfl (want_all rfl) rfl rfl Kp.true (Y.assign rfl rfl) ?_
  refine Jp.done hK20 ?_
  refine Cd.seq fun K21 hK21 => ?_
  refine Cd.block ?_
  refine Cd.slot 10 rfl (show _ = Value.int .i64 ((a + 1 : Nat) : Int) from congrArg (Value.int .i64) (by omega)) ?_
  refine Cd.slot 11 rfl (show _ = Value.int .i64 ((e - 1 : Nat) : Int) from congrArg (Value.int .i64) (by omega)) ?_
  refine Cd.joinG (G := Unit) (fun _ => True) (fun _ => [(10, .int .i64 (i2 : Int))]) [(0, _), (1, _), (11, _)] ⟨rfl, rfl, rfl, trivial⟩ (fun _ => []) [(0, _)] ⟨rfl, trivial⟩ hK21 (fun g hφ => ?_) (fun hj3 => ?_)
  · clear hφ
    refine Cd.seq fun K22 hK22 => ?_
    refine Cd.block ?_
    refine Cd.joinG (G := Unit) (fun _ => True) (fun _ => [(11, .int .i64 (j2 : Int))]) [(0, _), (1, _), (10, _)] ⟨rfl, rfl, rfl, trivial⟩ (fun _ => []) [(0, _)] ⟨rfl, trivial⟩ hK22 (fun g hφ => ?_) (fun hj4 => ?_)
    · clear hφ
      have cj := rowC (b := b) (n := n) (c := c) (d := d) (i := j2) (by omega)
      refine Cd.seq fun K23 hK23 => ?_
      refine Cd.seq fun K24 hK24 => ?_
      refine Cd.plain [(0, false), (1, false), (2, false)] rfl rfl ?_
      refine Jp.y 63 rfl (want_all rfl) rfl rfl Kp.true (Y.move rfl rfl) ?_
      refine Jp.y 64 rfl (want_all rfl) rfl rfl Kp.true (Y.move rfl rfl) ?_
      refine Jp.y 65 rfl (want_all rfl) rfl rfl Kp.true (Y.gtr rfl rfl rfl) ?_
      refine Jp.done hK24 ?_
      refine Cd.cond rfl (fun gx => ?_) (fun gx => ?_)
      · simp only [decide_eq_true_eq] at gx
        rw [if_pos (by omega)] at hT
        subst hT
        refine Cd.seq fun K25 hK25 => ?_
        refine Cd.drawn3 [(0, _)] ⟨rfl, trivial⟩ [(2, true), (3, true)] [(0, true), (1, true), (4, true), (5, true), (6, true), (7, true), (8, true), (9, true), (10, true), (11, true), (12, true)] 13 [(14, true), (15, false)] follows (by kernel_rfl) (fun hrl => ?_)
        refine Jp2.q 68 rfl (want_all rfl) rfl rfl (fun _ => (Y.move rfl rfl)) ?_
        refine Jp2.q 69 rfl (want_all rfl) rfl rfl (fun _ => (Y.move rfl rfl)) ?_
        refine Jp2.head ?_
        refine Jp.q 66 rfl (want_all rfl) rfl rfl (Y.move rfl rfl) ?_
        refine Jp.q 67 rfl (want_all rfl) rfl rfl (Y.move rfl rfl) ?_
        refine Jp.q 70 rfl (want_all rfl) rfl rfl (Y.move rfl rfl) ?_
        refine Jp.q 71 rfl (want_all rfl) rfl rfl (Y.move rfl rfl) ?_
        refine Jp.q 72 rfl (want_all rfl) rfl rfl (Y.indexAddr (q := a) rfl rfl rfl Try.underlying26 Try.sizeOf25 (by omega) (by omega) (by omega)) ?_
        refine Jp.q 73 rfl (want_all rfl) rfl rfl (by first | exact Y.loadC 0 rfl Try.isAgg25 rfl rfl ca | exact Y.loadC 0 rfl Try.isAgg25 rfl rfl cj) ?_
        refine Jp.q 74 rfl (want_all rfl) rfl rfl (Y.move rfl rfl) ?_
        refine Jp.q 75 rfl (want_all rfl) rfl rfl (Y.move rfl rfl) ?_
        refine Jp.q 76 rfl (want_all rfl) rfl rfl (Y.indexAddr (q := j2) rfl rfl rfl Try.underlying26 Try.sizeOf25 (by omega) (by omega) (by omega)) ?_
        refine Jp.q 77 rfl (want_all rfl) rfl rfl (by first | exact Y.loadC 0 rfl Try.isAgg25 rfl rfl ca | exact Y.loadC 0 rfl Try.isAgg25 rfl rfl cj) ?_
        refine Jp.q 78 rfl (want_all rfl) rfl rfl (Y.indexAddr (q := j2) rfl rfl rfl Try.underlying26 Try.sizeOf25 (by omega) (by omega) (by omega)) ?_
        refine Jp2.tail ?_
        refine Jp2.loud ?_
        refine Jp.storeS 0 (q := j2) rfl (want_all rfl) rfl rfl Try.sizeOf25 rfl rfl rfl rfl rfl (by omega) (natsV .u32 (d.toList.set j2 d[a]!)) (natsV_set _ _ _ _) Kp.true ?_
        refine Jp2.tail ?_
        refine Jp2.q 79 rfl (want_all rfl) rfl rfl (fun _ => (Y.indexAddr (q := a) rfl rfl rfl Try.underlying26 Try.sizeOf25 (by omega) (by omega) (by omega))) ?_
        refine Jp2.loud ?_
        refine Jp.storeS 0 (q := a) rfl (want_all rfl) rfl rfl Try.sizeOf25 rfl rfl rfl rfl rfl (by omega) (natsV .u32 (Go.Sort.swp d j2 a).toList) (swap_res _ _ _) Kp.true ?_
        refine Jp2.tail ?_
        refine Jp2.nil ?_
        refine Jp.done hK25 ?_
        refine Cd.seq fun K26 hK26 => ?_
        refine Cd.plain [(0, false), (1, false), (2, false)] rfl rfl ?_
        refine Jp.y 80 rfl (want_all rfl) rfl rfl Kp.true (Y.move rfl rfl) ?_
        refine Jp.y 8 rfl (want_all rfl) rfl rfl Kp.true (Y.assign rfl rfl) ?_
        refine Jp.y 9 rfl (want_all rfl) rfl rfl Kp.true (Y.assign rfl rfl) ?_
        refine Jp.done hK26 ?_
        refine Cd.ret [(0, _)] rfl (res2 rfl rfl rfl) ⟨rfl, trivial⟩ ⟨rfl, rfl, rfl⟩
      · simp only [decide_eq_false_iff_not] at gx
        rw [if_neg (by omega)] at hT
        have ci := rowC (b := b) (n := n) (c := c) (d := d) (i := i2) (by omega)
        refine Cd.skip hK23 ?_
        refine Cd.seq fun K27 hK27 => ?_
        refine Cd.drawn3 [(0, _)] ⟨rfl, trivial⟩ [(2, true), (3, true)] [(0, true), (1, true), (4, true), (5, true), (6, true), (7, true), (8, true), (9, true), (10, true), (11, true), (12, true)] 13 [(14, true), (15, false)] follows (by kernel_rfl) (fun hrl => ?_)
        refine Jp2.q 83 rfl (want_all rfl) rfl rfl (fun _ => (Y.move rfl rfl)) ?_
        refine Jp2.q 84 rfl (want_all rfl) rfl rfl (fun _ => (Y.move rfl rfl)) ?_
        refine Jp2.head ?_
        refine Jp.q 81 rfl (want_all rfl) rfl rfl (Y.move rfl rfl) ?_
        refine Jp.q 82 rfl (want_all rfl) rfl rfl (Y.move rfl rfl) ?_
        refine Jp.q 85 rfl (want_all rfl) rfl rfl (Y.move rfl rfl) ?_
        refine Jp.q 86 rfl (want_all rfl) rfl rfl (Y.move rfl rfl) ?_
        refine Jp.q 87 rfl (want_all rfl) rfl rfl (Y.indexAddr (q := j2) rfl rfl rfl Try.underlying26 Try.sizeOf25 (by omega) (by omega) (by omega)) ?_
        refine Jp.q 88 rfl (want_all rfl) rfl rfl (by first | exact Y.loadC 0 rfl Try.isAgg25 rfl rfl cj | exact Y.loadC 0 rfl Try.isAgg25 rfl rfl ci) ?_
        refine Jp.q 89 rfl (want_all rfl) rfl rfl (Y.move rfl rfl) ?_
        refine Jp.q 90 rfl (want_all rfl) rfl rfl (Y.move rfl rfl) ?_
        refine Jp.q 91 rfl (want_all rfl) rfl rfl (Y.indexAddr (q := i2) rfl rfl rfl Try.underlying26 Try.sizeOf25 (by omega) (by omega) (by omega)) ?_
        refine Jp.q 92 rfl (want_all rfl) rfl rfl (by first | exact Y.loadC 0 rfl Try.isAgg25 rfl rfl cj | exact Y.loadC 0 rfl Try.isAgg25 rfl rfl ci) ?_
        refine Jp.q 93 rfl (want_all rfl) rfl rfl (Y.indexAddr (q := i2) rfl rfl rfl Try.underlying26 Try.sizeOf25 (by omega) (by omega) (by omega)) ?_
        refine Jp2.tail ?_
        refine Jp2.loud ?_
        refine Jp.storeS 0 (q := i2) rfl (want_all rfl) rfl rfl Try.sizeOf25 rfl rfl rfl rfl rfl (by omega) (natsV .u32 (d.toList.set i2 d[j2]!)) (natsV_set _ _ _ _) Kp.true ?_
        refine Jp2.tail ?_
        refine Jp2.q 94 rfl (want_all rfl) rfl rfl (fun _ => (Y.indexAddr (q := j2) rfl rfl rfl Try.underlying26 Try.sizeOf25 (by omega) (by omega) (by omega))) ?_
        refine Jp2.loud ?_
        refine Jp.storeS 0 (q := j2) rfl (want_all rfl) rfl rfl Try.sizeOf25 rfl rfl rfl rfl rfl (by omega) (natsV .u32 (Go.Sort.swp d i2 j2).toList) (swap_res _ _ _) Kp.true ?_
        refine Jp2.tail ?_
        refine Jp2.nil ?_
        refine Jp.done hK27 ?_
        refine Cd.seq fun K28 hK28 => ?_
        refine Cd.plain [(0, false), (1, false), (2, false)] rfl rfl ?_
        refine Jp.y 95 rfl (want_all rfl) rfl rfl Kp.true (Y.move rfl rfl) ?_
        refine Jp.y 96 rfl (want_all rfl) rfl rfl Kp.true (Y.add_ rfl rfl rfl (by first | exact wrap_i64 (by omega) (by omega) | rfl)) ?_
        refine Jp.y 10 rfl (want_all rfl) rfl rfl Kp.true (Y.assign rfl rfl) ?_
        refine Jp.done hK28 ?_
        refine Cd.seq fun K29 hK29 => ?_
        refine Cd.plain [(0, false), (1, false), (2, false)] rfl rfl ?_
        refine Jp.y 97 rfl (want_all rfl) rfl rfl Kp.true (Y.move rfl rfl) ?_
        refine Jp.y 98 rfl (want_all rfl) rfl rfl Kp.true (Y.sub_ rfl rfl rfl (by first | exact wrap_i64 (by omega) (by omega) | rfl)) ?_
        refine Jp.y 11 rfl (want_all rfl) rfl rfl Kp.true (Y.assign rfl rfl) ?_
        refine Jp.done hK29 ?_
        refine Cd.seq fun K30 hK30 => ?_
        refine Cd.block ?_
        refine Cd.slot 10 rfl (show _ = Value.int .i64 ((i2 + 1 : Nat) : Int) from congrArg (Value.int .i64) (by omega)) ?_
        refine Cd.slot 11 rfl (show _ = Value.int .i64 ((j2 - 1 : Nat) : Int) from congrArg (Value.int .i64) (by omega)) ?_
        obtain ⟨U, hU⟩ : ∃ U, Go.Sort.partLoop ltN a (i2 + 1) (j2 - 1) (Go.Sort.swp d i2 j2) = U := ⟨_, rfl⟩
        rw [hU] at hT
        clear hqi hqj ci cj ca ca0 cp
        refine Cd.imp (i := 0) rfl (fun h hh => (show rowO (some ⟨b, 0, none⟩) n c (Go.Sort.swp d i2 j2) h from hh)) ?_
        refine Cd.joinG (G := Nat × Array Nat) (fun g => g = U ∧ g.1 < n ∧ g.2.size = n) (fun g => [(11, .int .i64 (g.1 : Int))]) [(0, _), (1, _)] ⟨rfl, rfl, trivial⟩ (fun g => [(0, rowO (some ⟨b, 0, none⟩) n c g.2)]) [] trivial hK30 (fun g hφ => ?_) (fun hj5 => ?_)
        · obtain ⟨p1, p2, p3⟩ := hφ
          subst p1
          obtain ⟨jz, dz⟩ := g
          dsimp only at p2 p3 hT ⊢
          have ca := rowC (b := b) (n := n) (c := c) (d := dz) (i := a) (by omega)
          have cj := rowC (b := b) (n := n) (c := c) (d := dz) (i := jz) (by omega)
          refine Cd.seq fun K31 hK31 => ?_
          refine Cd.drawn3 [(0, _)] ⟨rfl, trivial⟩ [(2, true), (3, true)] [(0, true), (1, true), (4, true), (5, true), (6, true), (7, true), (8, true), (9, true), (10, true), (11, true), (12, true)] 13 [(14, true), (15, false)] follows (by kernel_rfl) (fun hrl => ?_)
          refine Jp2.q 155 rfl (want_all rfl) rfl rfl (fun _ => (Y.move rfl rfl)) ?_
          refine Jp2.q 156 rfl (want_all rfl) rfl rfl (fun _ => (Y.move rfl rfl)) ?_
          refine Jp2.head ?_
          refine Jp.q 153 rfl (want_all rfl) rfl rfl (Y.move rfl rfl) ?_
          refine Jp.q 154 rfl (want_all rfl) rfl rfl (Y.move rfl rfl) ?_
          refine Jp.q 157 rfl (want_all rfl) rfl rfl (Y.move rfl rfl) ?_
          refine Jp.q 158 rfl (want_all rfl) rfl rfl (Y.move rfl rfl) ?_
          refine Jp.q 159 rfl (want_all rfl) rfl rfl (Y.indexAddr (q := a) rfl rfl rfl Try.underlying26 Try.sizeOf25 (by omega) (by omega) (by omega)) ?_
          refine Jp.q 160 rfl (want_all rfl) rfl rfl (by first | exact Y.loadC 0 rfl Try.isAgg25 rfl rfl ca | exact Y.loadC 0 rfl Try.isAgg25 rfl rfl cj) ?_
          refine Jp.q 161 rfl (want_all rfl) rfl rfl (Y.move rfl rfl) ?_
          refine Jp.q 162 rfl (want_all rfl) rfl rfl (Y.move rfl rfl) ?_
          refine Jp.q 163 rfl (want_all rfl) rfl rfl (Y.indexAddr (q := jz) rfl rfl rfl Try.underlying26 Try.sizeOf25 (by omega) (by omega) (by omega)) ?_
          refine Jp.q 164 rfl (want_all rfl) rfl rfl (by first | exact Y.loadC 0 rfl Try.isAgg25 rfl rfl ca | exact Y.loadC 0 rfl Try.isAgg25 rfl rfl cj) ?_
          refine Jp.q 165 rfl (want_all rfl) rfl rfl (Y.indexAddr (q := jz) rfl rfl rfl Try.underlying26 Try.sizeOf25 (by omega) (by omega) (by omega)) ?_
          refine Jp2.tail ?_
          refine Jp2.loud ?_
          refine Jp.storeS 0 (q := jz) rfl (want_all rfl) rfl rfl Try.sizeOf25 rfl rfl rfl rfl rfl (by omega) (natsV .u32 (dz.toList.set jz dz[a]!)) (natsV_set _ _ _ _) Kp.true ?_
          refine Jp2.tail ?_
          refine Jp2.q 166 rfl (want_all rfl) rfl rfl (fun _ => (Y.indexAddr (q := a) rfl rfl rfl Try.underlying26 Try.sizeOf25 (by omega) (by omega) (by omega))) ?_
          refine Jp2.loud ?_
          refine Jp.storeS 0 (q := a) rfl (want_all rfl) rfl rfl Try.sizeOf25 rfl rfl rfl rfl rfl (by omega) (natsV .u32 (Go.Sort.swp dz jz a).toList) (swap_res _ _ _) Kp.true ?_
          refine Jp2.tail ?_
          refine Jp2.nil ?_
          refine Jp.done hK31 ?_
          refine Cd.seq fun K32 hK32 => ?_
          refine Cd.plain [(0, false), (1, false), (2, false)] rfl rfl ?_
          refine Jp.y 167 rfl (want_all rfl) rfl rfl Kp.true (Y.move rfl rfl) ?_
          refine Jp.y 8 rfl (want_all rfl) rfl rfl Kp.true (Y.assign rfl rfl) ?_
          refine Jp.y 9 rfl (want_all rfl) rfl rfl Kp.true (Y.assign rfl rfl) ?_
          refine Jp.done hK32 ?_
          subst hT
          refine Cd.ret [(0, _)] rfl (res2 rfl rfl rfl) ⟨rfl, trivial⟩ ⟨rfl, rfl, rfl⟩
        · skip
          refine Cd.loopK (G := Nat × Nat × Array Nat) (fun g => Go.Sort.partLoop ltN a g.1 g.2.1 g.2.2 = U ∧ a + 1 ≤ g.1 ∧ g.1 ≤ g.2.1 + 2 ∧ g.2.1 < n ∧ g.2.2.size = n) (fun g => g.2.1 + 2 - g.1) (fun _ => _) (fun g => [(10, .int .i64 (g.1 : Int)), (11, .int .i64 (g.2.1 : Int))]) [(0, _), (1, _)] (fun g => [(0, rowO (some ⟨b, 0, none⟩) n c g.2.2)]) [] ⟨i2 + 1, j2 - 1, Go.Sort.swp d i2 j2⟩ ⟨hU, by show a + 1 ≤ i2 + 1; omega, by show i2 + 1 ≤ j2 - 1 + 2; omega, by show j2 - 1 < n; omega, by rw [swp_size]; exact hs1⟩ rfl ⟨rfl, rfl, trivial⟩ ⟨rfl, rfl, trivial⟩ ⟨rfl, trivial⟩ trivial (fun g KLf hok hLf => ?_)
          clear gx hT hU hs1 hd1 hup hdn d i2 j2
          obtain ⟨i, j, d⟩ := g
          obtain ⟨ok1, ok2, ok3, ok4, ok5⟩ := hok
          dsimp only at ok1 ok2 ok3 ok4 ok5 ⊢
          rw [Go.Sort.partLoop_eq] at ok1
          have ca := rowC (b := b) (n := n) (c := c) (d := d) (i := a) (by omega)
          obtain ⟨i2, hqi⟩ : ∃ i2, i2 = Go.Sort.scanUp (fun x => ltN x d[a]!) d j i := ⟨_, rfl⟩
          rw [← hqi] at ok1
          obtain ⟨j2, hqj⟩ : ∃ j2, j2 = Go.Sort.scanDown (fun x => !ltN x d[a]!) d i2 j := ⟨_, rfl⟩
          rw [← hqj] at ok1
          have hup := Go.Sort.scanUp_ge (fun x => ltN x d[a]!) d j i
          rw [← hqi] at hup
          have hdn := Go.Sort.scanDown_le (fun x => !ltN x d[a]!) d i2 j
          rw [← hqj] at hdn
          refine Cd.block ?_
          refine Cd.seq fun K33 hK33 => ?_
          refine Cd.block ?_
          refine Cd.joinG (G := Unit) (fun _ => True) (fun _ => [(10, .int .i64 (i2 : Int))]) [(0, _), (1, _), (11, _)] ⟨rfl, rfl, rfl, trivial⟩ (fun _ => []) [(0, _)] ⟨rfl, trivial⟩ hK33 (fun g hφ => ?_) (fun hj6 => ?_)
          · clear hφ
            refine Cd.seq fun K34 hK34 => ?_
            refine Cd.block ?_
            refine Cd.joinG (G := Unit) (fun _ => True) (fun _ => [(11, .int .i64 (j2 : Int))]) [(0, _), (1, _), (10, _)] ⟨rfl, rfl, rfl, trivial⟩ (fun _ => []) [(0, _)] ⟨rfl, trivial⟩ hK34 (fun g hφ => ?_) (fun hj7 => ?_)
            · clear hφ
              refine Cd.seq fun K35 hK35 => ?_
              refine Cd.seq fun K36 hK36 => ?_
              refine Cd.plain [(0, false), (1, false), (2, false)] rfl rfl ?_
              refine Jp.y 132 rfl (want_all rfl) rfl rfl Kp.true (Y.move rfl rfl) ?_
              refine Jp.y 133 rfl (want_all rfl) rfl rfl Kp.true (Y.move rfl rfl) ?_
              refine Jp.y 134 rfl (want_all rfl) rfl rfl Kp.true (Y.gtr rfl rfl rfl) ?_
              refine Jp.done hK36 ?_
              refine Cd.cond rfl (fun gx => ?_) (fun gx => ?_)
              · simp only [decide_eq_true_eq] at gx
                rw [if_pos (by omega)] at ok1
                refine Cd.exit rfl hK30 ?_
                exact Cd.meet (hj5 (j2, d) ⟨ok1, by show j2 < n; omega, ok5⟩) ⟨rfl, rfl, rfl, trivial⟩ ⟨rfl, trivial⟩
              · simp only [decide_eq_false_iff_not] at gx
                rw [if_neg (by omega)] at ok1
                have ci := rowC (b := b) (n := n) (c := c) (d := d) (i := i2) (by omega)
                have cj := rowC (b := b) (n := n) (c := c) (d := d) (i := j2) (by omega)
                refine Cd.skip hK35 ?_
                refine Cd.seq fun K37 hK37 => ?_
                refine Cd.drawn3 [(0, _)] ⟨rfl, trivial⟩ [(2, true), (3, true)] [(0, true), (1, true), (4, true), (5, true), (6, true), (7, true), (8, true), (9, true), (10, true), (11, true), (12, true)] 13 [(14, true), (15, false)] follows (by kernel_rfl) (fun hrl => ?_)
                refine Jp2.q 137 rfl (want_all rfl) rfl rfl (fun _ => (Y.move rfl rfl)) ?_
                refine Jp2.q 138 rfl (want_all rfl) rfl rfl (fun _ => (Y.move rfl rfl)) ?_
                refine Jp2.head ?_
                refine Jp.q 135 rfl (want_all rfl) rfl rfl (Y.move rfl rfl) ?_
                refine Jp.q 136 rfl (want_all rfl) rfl rfl (Y.move rfl rfl) ?_
                refine Jp.q 139 rfl (want_all rfl) rfl rfl (Y.move rfl rfl) ?_
                refine Jp.q 140 rfl (want_all rfl) rfl rfl (Y.move rfl rfl) ?_
                refine Jp.q 141 rfl (want_all rfl) rfl rfl (Y.indexAddr (q := j2) rfl rfl rfl Try.underlying26 Try.sizeOf25 (by omega) (by omega) (by omega)) ?_
                refine Jp.q 142 rfl (want_all rfl) rfl rfl (by first | exact Y.loadC 0 rfl Try.isAgg25 rfl rfl cj | exact Y.loadC 0 rfl Try.isAgg25 rfl rfl ci) ?_
                refine Jp.q 143 rfl (want_all rfl) rfl rfl (Y.move rfl rfl) ?_
                refine Jp.q 144 rfl (want_all rfl) rfl rfl (Y.move rfl rfl) ?_
                refine Jp.q 145 rfl (want_all rfl) rfl rfl (Y.indexAddr (q := i2) rfl rfl rfl Try.underlying26 Try.sizeOf25 (by omega) (by omega) (by omega)) ?_
                refine Jp.q 146 rfl (want_all rfl) rfl rfl (by first | exact Y.loadC 0 rfl Try.isAgg25 rfl rfl cj | exact Y.loadC 0 rfl Try.isAgg25 rfl rfl ci) ?_
                refine Jp.q 147 rfl (want_all rfl) rfl rfl (Y.indexAddr (q := i2) rfl rfl rfl Try.underlying26 Try.sizeOf25 (by omega) (by omega) (by omega)) ?_
                refine Jp2.tail ?_
                refine Jp2.loud ?_
                refine Jp.storeS 0 (q := i2) rfl (want_all rfl) rfl rfl Try.sizeOf25 rfl rfl rfl rfl rfl (by omega) (natsV .u32 (d.toList.set i2 d[j2]!)) (natsV_set _ _ _ _) Kp.true ?_
                refine Jp2.tail ?_
                refine Jp2.q 148 rfl (want_all rfl) rfl rfl (fun _ => (Y.indexAddr (q := j2) rfl rfl rfl Try.underlying26 Try.sizeOf25 (by omega) (by omega) (by omega))) ?_
                refine Jp2.loud ?_
                refine Jp.storeS 0 (q := j2) rfl (want_all rfl) rfl rfl Try.sizeOf25 rfl rfl rfl rfl rfl (by omega) (natsV .u32 (Go.Sort.swp d i2 j2).toList) (swap_res _ _ _) Kp.true ?_
                refine Jp2.tail ?_
                refine Jp2.nil ?_
                refine Jp.done hK37 ?_
                refine Cd.seq fun K38 hK38 => ?_
                refine Cd.plain [(0, false), (1, false), (2, false)] rfl rfl ?_
                refine Jp.y 149 rfl (want_all rfl) rfl rfl Kp.true (Y.move rfl rfl) ?_
                refine Jp.y 150 rfl (want_all rfl) rfl rfl Kp.true (Y.add_ rfl rfl rfl (by first | exact wrap_i64 (by omega) (by omega) | rfl)) ?_
                refine Jp.y 10 rfl (want_all rfl) rfl rfl Kp.true (Y.assign rfl rfl) ?_
                refine Jp.done hK38 ?_
                refine Cd.plain [(0, false), (1, false), (2, false)] rfl rfl ?_
                refine Jp.y 151 rfl (want_all rfl) rfl rfl Kp.true (Y.move rfl rfl) ?_
                refine Jp.y 152 rfl (want_all rfl) rfl rfl Kp.true (Y.sub_ rfl rfl rfl (by first | exact wrap_i64 (by omega) (by omega) | rfl)) ?_
                refine Jp.y 11 rfl (want_all rfl) rfl rfl Kp.true (Y.assign rfl rfl) ?_
                refine Jp.slot 10 rfl (show _ = Value.int .i64 ((i2 + 1 : Nat) : Int) from congrArg (Value.int .i64) (by omega)) ?_
                refine Jp.slot 11 rfl (show _ = Value.int .i64 ((j2 - 1 : Nat) : Int) from congrArg (Value.int .i64) (by omega)) ?_
                refine JpQ.again rfl hLf ⟨i2 + 1, j2 - 1, Go.Sort.swp d i2 j2⟩ ⟨ok1, by show a + 1 ≤ i2 + 1; omega, by show i2 + 1 ≤ j2 - 1 + 2; omega, by show j2 - 1 < n; omega, by rw [swp_size]; exact ok5⟩ (by show j2 - 1 + 2 - (i2 + 1) < j + 2 - i; omega) rfl ⟨rfl, rfl, rfl, rfl, trivial⟩ ⟨rfl, trivial⟩
            · skip
              refine Cd.loopK (G := Nat) (fun g => Go.Sort.scanDown (fun x => !ltN x d[a]!) d i2 g = j2 ∧ g < n) (fun g => g) (fun _ => _) (fun g => [(11, .int .i64 (g : Int))]) [(0, _), (1, _), (10, _)] (fun g => []) [(0, _)] j ⟨hqj.symm, by omega⟩ rfl ⟨rfl, trivial⟩ ⟨rfl, rfl, rfl, trivial⟩ trivial ⟨rfl, trivial⟩ (fun g KLk hok hLk => ?_)
              obtain ⟨k, hk⟩ : ∃ k, k = g := ⟨_, rfl⟩
              rw [← hk] at hok ⊢
              obtain ⟨ow1, ow2⟩ := hok
              refine Cd.seq fun K39 hK39 => ?_
              refine Cd.seq fun K40 hK40 => ?_
              refine Cd.drawn [(0, _)] ⟨rfl, trivial⟩ [(0, true), (1, true), (2, true), (3, true), (4, true), (5, true), (6, true), (7, true), (8, true), (9, true), (10, true), (11, true), (12, false), (13, true), (14, true)] follows (by kernel_rfl) (fun hrl => ?_)
              refine Jp.q 115 rfl (want_all rfl) rfl rfl (Y.move rfl rfl) ?_
              refine Jp.q 116 rfl (want_all rfl) rfl rfl (Y.move rfl rfl) ?_
              refine Jp.q 117 rfl (want_all rfl) rfl rfl (Y.leq rfl rfl rfl) ?_
              refine Jp.q 118 rfl (want_all rfl) rfl rfl (Y.move rfl rfl) ?_
              refine Jp.splitF 118 rfl (fun g118 => ?_) (fun g118 => ?_)
              · skip
                simp only [decide_eq_false_iff_not] at g118
                have hst : Go.Sort.scanDown (fun x => !ltN x d[a]!) d i2 k = k := down_end (by omega)
                have hkr : k = j2 := by rw [← ow1, hst]
                rw [hkr]
                refine Jp.qskip 119 rfl (want_as rfl rfl rfl rfl) rfl rfl ?_
                refine Jp.qskip 120 rfl (want_as rfl rfl rfl rfl) rfl rfl ?_
                refine Jp.qskip 121 rfl (want_as rfl rfl rfl rfl) rfl rfl ?_
                refine Jp.qskip 122 rfl (want_as rfl rfl rfl rfl) rfl rfl ?_
                refine Jp.qskip 123 rfl (want_as rfl rfl rfl rfl) rfl rfl ?_
                refine Jp.qskip 124 rfl (want_as rfl rfl rfl rfl) rfl rfl ?_
                refine Jp.qskip 125 rfl (want_as rfl rfl rfl rfl) rfl rfl ?_
                refine Jp.qskip 126 rfl (want_as rfl rfl rfl rfl) rfl rfl ?_
                refine Jp.skip 127 rfl (want_as rfl rfl rfl rfl) rfl rfl (Kp.st ⟨rfl, trivial⟩) ?_
                refine Jp.qskip 128 rfl (want_as rfl rfl rfl rfl) rfl rfl ?_
                refine Jp.q 129 rfl (want_all rfl) rfl rfl (Y.pickF rfl rfl rfl) ?_
                refine Jp.done hK40 ?_
                refine Cd.condF rfl ?_
                refine Cd.exit rfl hK34 ?_
                exact Cd.meet (hj7 () trivial) ⟨rfl, rfl, rfl, rfl, trivial⟩ ⟨rfl, trivial⟩
              try simp only [decide_eq_false_iff_not, decide_eq_true_eq, Int.not_lt, Int.not_le, Bool.not_eq_false, Bool.not_eq_true, Bool.not_true, Bool.not_false, Bool.not_eq_true', Bool.not_eq_false', beq_eq_false_iff_ne, ne_eq, beq_iff_eq, bne_iff_ne, bne_eq_false_iff_eq, Classical.not_not] at g118
              refine Jp.q 119 rfl (want_as rfl rfl rfl rfl) rfl rfl (Y.move rfl rfl) ?_
              refine Jp.q 120 rfl (want_as rfl rfl rfl rfl) rfl rfl (Y.move rfl rfl) ?_
              have hkj : i2 ≤ k := by omega
              have ck := rowC (b := b) (n := n) (c := c) (d := d) (i := k) (by omega)
              refine Jp.q 121 rfl (want_as rfl rfl rfl rfl) rfl rfl (Y.indexAddr (q := k) rfl rfl rfl Try.underlying26 Try.sizeOf25 (by omega) (by omega) (by omega)) ?_
              refine Jp.q 122 rfl (want_as rfl rfl rfl rfl) rfl rfl (by first | exact Y.loadC 0 rfl Try.isAgg25 rfl rfl ck | exact Y.loadC 0 rfl Try.isAgg25 rfl rfl ca) ?_
              refine Jp.q 123 rfl (want_as rfl rfl rfl rfl) rfl rfl (Y.move rfl rfl) ?_
              refine Jp.q 124 rfl (want_as rfl rfl rfl rfl) rfl rfl (Y.move rfl rfl) ?_
              refine Jp.q 125 rfl (want_as rfl rfl rfl rfl) rfl rfl (Y.indexAddr (q := a) rfl rfl rfl Try.underlying26 Try.sizeOf25 (by omega) (by omega) (by omega)) ?_
              refine Jp.q 126 rfl (want_as rfl rfl rfl rfl) rfl rfl (by first | exact Y.loadC 0 rfl Try.isAgg25 rfl rfl ck | exact Y.loadC 0 rfl Try.isAgg25 rfl rfl ca) ?_
              refine Jp.call [] [] (less_spec d[k]! d[a]!) 127 rfl (want_as rfl rfl rfl rfl) rfl rfl (Runs.fn rfl Try.call133 rfl) (by decide) (by decide) rfl trivial ?_
              rintro v7 ρ7 L7 ⟨rfl, rfl, rfl⟩
              refine ⟨rfl, fun hle7 => ⟨(Kp.st ⟨rfl, trivial⟩), ?_⟩⟩
              have hst : Go.Sort.scanDown (fun x => !ltN x d[a]!) d i2 k = if (!ltN d[k]! d[a]!) = true then Go.Sort.scanDown (fun x => !ltN x d[a]!) d i2 (k - 1) else k := down_go (by omega) hkj
              refine Jp.q 128 rfl (want_as rfl rfl rfl rfl) rfl rfl (Y.not rfl rfl) ?_
              refine Jp.q 129 rfl (want_all rfl) rfl rfl (Y.pickT rfl rfl rfl) ?_
              refine Jp.done hK40 ?_
              refine Cd.cond rfl (fun gl => ?_) (fun gl => ?_)
              · rw [gl, if_pos rfl] at hst
                refine Cd.skip hK39 ?_
                refine Cd.block ?_
                refine Cd.plain [(0, false), (1, false), (2, false)] rfl rfl ?_
                refine Jp.y 130 rfl (want_all rfl) rfl rfl Kp.true (Y.move rfl rfl) ?_
                refine Jp.y 131 rfl (want_all rfl) rfl rfl Kp.true (Y.sub_ rfl rfl rfl (by first | exact wrap_i64 (by omega) (by omega) | rfl)) ?_
                refine Jp.y 11 rfl (want_all rfl) rfl rfl Kp.true (Y.assign rfl rfl) ?_
                rw [show (k : Int) - 1 = ((k - 1 : Nat) : Int) by omega]
                refine JpQ.again rfl hLk (k - 1) ⟨by rw [← hst, ow1], by omega⟩ (by omega) rfl ⟨rfl, rfl, rfl, rfl, trivial⟩ ⟨rfl, trivial⟩
              · rw [gl, if_neg (by simp)] at hst
                have hkr : k = j2 := by rw [← ow1, hst]
                rw [hkr]
                refine Cd.exit rfl hK34 ?_
                exact Cd.meet (hj7 () trivial) ⟨rfl, rfl, rfl, rfl, trivial⟩ ⟨rfl, trivial⟩
          · skip
            refine Cd.loopK (G := Nat) (fun g => Go.Sort.scanUp (fun x => ltN x d[a]!) d j g = i2 ∧ a + 1 ≤ g) (fun g => j + 1 - g) (fun _ => _) (fun g => [(10, .int .i64 (g : Int))]) [(0, _), (1, _), (11, _)] (fun g => []) [(0, _)] i ⟨hqi.symm, by omega⟩ rfl ⟨rfl, trivial⟩ ⟨rfl, rfl, rfl, trivial⟩ trivial ⟨rfl, trivial⟩ (fun g KLk hok hLk => ?_)
            obtain ⟨k, hk⟩ : ∃ k, k = g := ⟨_, rfl⟩
            rw [← hk] at hok ⊢
            obtain ⟨ow1, ow2⟩ := hok
            refine Cd.seq fun K42 hK42 => ?_
            refine Cd.seq fun K43 hK43 => ?_
            refine Cd.drawn [(0, _)] ⟨rfl, trivial⟩ [(0, true), (1, true), (2, true), (3, true), (4, true), (5, true), (6, true), (7, true), (8, true), (9, true), (10, true), (11, true), (12, false), (13, true)] follows (by kernel_rfl) (fun hrl => ?_)
            refine Jp.q 99 rfl (want_all rfl) rfl rfl (Y.move rfl rfl) ?_
            refine Jp.q 100 rfl (want_all rfl) rfl rfl (Y.move rfl rfl) ?_
            refine Jp.q 101 rfl (want_all rfl) rfl rfl (Y.leq rfl rfl rfl) ?_
            refine Jp.q 102 rfl (want_all rfl) rfl rfl (Y.move rfl rfl) ?_
            refine Jp.splitF 102 rfl (fun g102 => ?_) (fun g102 => ?_)
            · skip
              simp only [decide_eq_false_iff_not] at g102
              have hst : Go.Sort.scanUp (fun x => ltN x d[a]!) d j k = k := up_end (by omega)
              have hkr : k = i2 := by rw [← ow1, hst]
              rw [hkr]
              refine Jp.qskip 103 rfl (want_as rfl rfl rfl rfl) rfl rfl ?_
              refine Jp.qskip 104 rfl (want_as rfl rfl rfl rfl) rfl rfl ?_
              refine Jp.qskip 105 rfl (want_as rfl rfl rfl rfl) rfl rfl ?_
              refine Jp.qskip 106 rfl (want_as rfl rfl rfl rfl) rfl rfl ?_
              refine Jp.qskip 107 rfl (want_as rfl rfl rfl rfl) rfl rfl ?_
              refine Jp.qskip 108 rfl (want_as rfl rfl rfl rfl) rfl rfl ?_
              refine Jp.qskip 109 rfl (want_as rfl rfl rfl rfl) rfl rfl ?_
              refine Jp.qskip 110 rfl (want_as rfl rfl rfl rfl) rfl rfl ?_
              refine Jp.skip 111 rfl (want_as rfl rfl rfl rfl) rfl rfl (Kp.st ⟨rfl, trivial⟩) ?_
              refine Jp.q 112 rfl (want_all rfl) rfl rfl (Y.pickF rfl rfl rfl) ?_
              refine Jp.done hK43 ?_
              refine Cd.condF rfl ?_
              refine Cd.exit rfl hK33 ?_
              exact Cd.meet (hj6 () trivial) ⟨rfl, rfl, rfl, rfl, trivial⟩ ⟨rfl, trivial⟩
            try simp only [decide_eq_false_iff_not, decide_eq_true_eq, Int.not_lt, Int.not_le, Bool.not_eq_false, Bool.not_eq_true, Bool.not_true, Bool.not_false, Bool.not_eq_true', Bool.not_eq_false', beq_eq_false_iff_ne, ne_eq, beq_iff_eq, bne_iff_ne, bne_eq_false_iff_eq, Classical.not_not] at g102
            refine Jp.q 103 rfl (want_as rfl rfl rfl rfl) rfl rfl (Y.move rfl rfl) ?_
            refine Jp.q 104 rfl (want_as rfl rfl rfl rfl) rfl rfl (Y.move rfl rfl) ?_
            have hkj : k ≤ j := by omega
            have ck := rowC (b := b) (n := n) (c := c) (d := d) (i := k) (by omega)
            refine Jp.q 105 rfl (want_as rfl rfl rfl rfl) rfl rfl (Y.indexAddr (q := k) rfl rfl rfl Try.underlying26 Try.sizeOf25 (by omega) (by omega) (by omega)) ?_
            refine Jp.q 106 rfl (want_as rfl rfl rfl rfl) rfl rfl (by first | exact Y.loadC 0 rfl Try.isAgg25 rfl rfl ck | exact Y.loadC 0 rfl Try.isAgg25 rfl rfl ca) ?_
            refine Jp.q 107 rfl (want_as rfl rfl rfl rfl) rfl rfl (Y.move rfl rfl) ?_
            refine Jp.q 108 rfl (want_as rfl rfl rfl rfl) rfl rfl (Y.move rfl rfl) ?_
            refine Jp.q 109 rfl (want_as rfl rfl rfl rfl) rfl rfl (Y.indexAddr (q := a) rfl rfl rfl Try.underlying26 Try.sizeOf25 (by omega) (by omega) (by omega)) ?_
            refine Jp.q 110 rfl (want_as rfl rfl rfl rfl) rfl rfl (by first | exact Y.loadC 0 rfl Try.isAgg25 rfl rfl ck | exact Y.loadC 0 rfl Try.isAgg25 rfl rfl ca) ?_
            refine Jp.call [] [] (less_spec d[k]! d[a]!) 111 rfl (want_as rfl rfl rfl rfl) rfl rfl (Runs.fn rfl Try.call133 rfl) (by decide) (by decide) rfl trivial ?_
            rintro v7 ρ7 L7 ⟨rfl, rfl, rfl⟩
            refine ⟨rfl, fun hle7 => ⟨(Kp.st ⟨rfl, trivial⟩), ?_⟩⟩
            have hst : Go.Sort.scanUp (fun x => ltN x d[a]!) d j k = if (ltN d[k]! d[a]!) = true then Go.Sort.scanUp (fun x => ltN x d[a]!) d j (k + 1) else k := up_go hkj
            refine Jp.q 112 rfl (want_all rfl) rfl rfl (Y.pickT rfl rfl rfl) ?_
            refine Jp.done hK43 ?_
            refine Cd.cond rfl (fun gl => ?_) (fun gl => ?_)
            · rw [gl, if_pos rfl] at hst
              refine Cd.skip hK42 ?_
              refine Cd.block ?_
              refine Cd.plain [(0, false), (1, false), (2, false)] rfl rfl ?_
              refine Jp.y 113 rfl (want_all rfl) rfl rfl Kp.true (Y.move rfl rfl) ?_
              refine Jp.y 114 rfl (want_all rfl) rfl rfl Kp.true (Y.add_ rfl rfl rfl (by first | exact wrap_i64 (by omega) (by omega) | rfl)) ?_
              refine Jp.y 10 rfl (want_all rfl) rfl rfl Kp.true (Y.assign rfl rfl) ?_
              rw [show (k : Int) + 1 = ((k + 1 : Nat) : Int) by omega]
              refine JpQ.again rfl hLk (k + 1) ⟨by rw [← hst, ow1], by omega⟩ (by omega) rfl ⟨rfl, rfl, rfl, rfl, trivial⟩ ⟨rfl, trivial⟩
            · rw [gl, if_neg (by simp)] at hst
              have hkr : k = i2 := by rw [← ow1, hst]
              rw [hkr]
              refine Cd.exit rfl hK33 ?_
              exact Cd.meet (hj6 () trivial) ⟨rfl, rfl, rfl, rfl, trivial⟩ ⟨rfl, trivial⟩
    · skip
      refine Cd.loopK (G := Nat) (fun g => Go.Sort.scanDown (fun x => !ltN x d[a]!) d i2 g = j2 ∧ g < n) (fun g => g) (fun _ => _) (fun g => [(11, .int .i64 (g : Int))]) [(0, _), (1, _), (10, _)] (fun g => []) [(0, _)] (e - 1) ⟨hqj.symm, by omega⟩ rfl ⟨rfl, trivial⟩ ⟨rfl, rfl, rfl, trivial⟩ trivial ⟨rfl, trivial⟩ (fun g KLk hok hLk => ?_)
      obtain ⟨k, hk⟩ : ∃ k, k = g := ⟨_, rfl⟩
      rw [← hk] at hok ⊢
      obtain ⟨ow1, ow2⟩ := hok
      refine Cd.seq fun K45 hK45 => ?_
      refine Cd.seq fun K46 hK46 => ?_
      refine Cd.drawn [(0, _)] ⟨rfl, trivial⟩ [(0, true), (1, true), (2, true), (3, true), (4, true), (5, true), (6, true), (7, true), (8, true), (9, true), (10, true), (11, true), (12, false), (13, true), (14, true)] follows (by kernel_rfl) (fun hrl => ?_)
      refine Jp.q 46 rfl (want_all rfl) rfl rfl (Y.move rfl rfl) ?_
      refine Jp.q 47 rfl (want_all rfl) rfl rfl (Y.move rfl rfl) ?_
      refine Jp.q 48 rfl (want_all rfl) rfl rfl (Y.leq rfl rfl rfl) ?_
      refine Jp.q 49 rfl (want_all rfl) rfl rfl (Y.move rfl rfl) ?_
      refine Jp.splitF 49 rfl (fun g49 => ?_) (fun g49 => ?_)
      · skip
        simp only [decide_eq_false_iff_not] at g49
        have hst : Go.Sort.scanDown (fun x => !ltN x d[a]!) d i2 k = k := down_end (by omega)
        have hkr : k = j2 := by rw [← ow1, hst]
        rw [hkr]
        refine Jp.qskip 50 rfl (want_as rfl rfl rfl rfl) rfl rfl ?_
        refine Jp.qskip 51 rfl (want_as rfl rfl rfl rfl) rfl rfl ?_
        refine Jp.qskip 52 rfl (want_as rfl rfl rfl rfl) rfl rfl ?_
        refine Jp.qskip 53 rfl (want_as rfl rfl rfl rfl) rfl rfl ?_
        refine Jp.qskip 54 rfl (want_as rfl rfl rfl rfl) rfl rfl ?_
        refine Jp.qskip 55 rfl (want_as rfl rfl rfl rfl) rfl rfl ?_
        refine Jp.qskip 56 rfl (want_as rfl rfl rfl rfl) rfl rfl ?_
        refine Jp.qskip 57 rfl (want_as rfl rfl rfl rfl) rfl rfl ?_
        refine Jp.skip 58 rfl (want_as rfl rfl rfl rfl) rfl rfl (Kp.st ⟨rfl, trivial⟩) ?_
        refine Jp.qskip 59 rfl (want_as rfl rfl rfl rfl) rfl rfl ?_
        refine Jp.q 60 rfl (want_all rfl) rfl rfl (Y.pickF rfl rfl rfl) ?_
        refine Jp.done hK46 ?_
        refine Cd.condF rfl ?_
        refine Cd.exit rfl hK22 ?_
        exact Cd.meet (hj4 () trivial) ⟨rfl, rfl, rfl, rfl, trivial⟩ ⟨rfl, trivial⟩
      try simp only [decide_eq_false_iff_not, decide_eq_true_eq, Int.not_lt, Int.not_le, Bool.not_eq_false, Bool.not_eq_true, Bool.not_true, Bool.not_false, Bool.not_eq_true', Bool.not_eq_false', beq_eq_false_iff_ne, ne_eq, beq_iff_eq, bne_iff_ne, bne_eq_false_iff_eq, Classical.not_not] at g49
      refine Jp.q 50 rfl (want_as rfl rfl rfl rfl) rfl rfl (Y.move rfl rfl) ?_
      refine Jp.q 51 rfl (want_as rfl rfl rfl rfl) rfl rfl (Y.move rfl rfl) ?_
      have hkj : i2 ≤ k := by omega
      have ck := rowC (b := b) (n := n) (c := c) (d := d) (i := k) (by omega)
      refine Jp.q 52 rfl (want_as rfl rfl rfl rfl) rfl rfl (Y.indexAddr (q := k) rfl rfl rfl Try.underlying26 Try.sizeOf25 (by omega) (by omega) (by omega)) ?_
      refine Jp.q 53 rfl (want_as rfl rfl rfl rfl) rfl rfl (by first | exact Y.loadC 0 rfl Try.isAgg25 rfl rfl ck | exact Y.loadC 0 rfl Try.isAgg25 rfl rfl ca) ?_
      refine Jp.q 54 rfl (want_as rfl rfl rfl rfl) rfl rfl (Y.move rfl rfl) ?_
      refine Jp.q 55 rfl (want_as rfl rfl rfl rfl) rfl rfl (Y.move rfl rfl) ?_
      refine Jp.q 56 rfl (want_as rfl rfl rfl rfl) rfl rfl (Y.indexAddr (q := a) rfl rfl rfl Try.underlying26 Try.sizeOf25 (by omega) (by omega) (by omega)) ?_
      refine Jp.q 57 rfl (want_as rfl rfl rfl rfl) rfl rfl (by first | exact Y.loadC 0 rfl Try.isAgg25 rfl rfl ck | exact Y.loadC 0 rfl Try.isAgg25 rfl rfl ca) ?_
      refine Jp.call [] [] (less_spec d[k]! d[a]!) 58 rfl (want_as rfl rfl rfl rfl) rfl rfl (Runs.fn rfl Try.call133 rfl) (by decide) (by decide) rfl trivial ?_
      rintro v7 ρ7 L7 ⟨rfl, rfl, rfl⟩
      refine ⟨rfl, fun hle7 => ⟨(Kp.st ⟨rfl, trivial⟩), ?_⟩⟩
      have hst : Go.Sort.scanDown (fun x => !ltN x d[a]!) d i2 k = if (!ltN d[k]! d[a]!) = true then Go.Sort.scanDown (fun x => !ltN x d[a]!) d i2 (k - 1) else k := down_go (by omega) hkj
      refine Jp.q 59 rfl (want_as rfl rfl rfl rfl) rfl rfl (Y.not rfl rfl) ?_
      refine Jp.q 60 rfl (want_all rfl) rfl rfl (Y.pickT rfl rfl rfl) ?_
      refine Jp.done hK46 ?_
      refine Cd.cond rfl (fun gl => ?_) (fun gl => ?_)
      · rw [gl, if_pos rfl] at hst
        refine Cd.skip hK45 ?_
        refine Cd.block ?_
        refine Cd.plain [(0, false), (1, false), (2, false)] rfl rfl ?_
        refine Jp.y 61 rfl (want_all rfl) rfl rfl Kp.true (Y.move rfl rfl) ?_
        refine Jp.y 62 rfl (want_all rfl) rfl rfl Kp.true (Y.sub_ rfl rfl rfl (by first | exact wrap_i64 (by omega) (by omega) | rfl)) ?_
        refine Jp.y 11 rfl (want_all rfl) rfl rfl Kp.true (Y.assign rfl rfl) ?_
        rw [show (k : Int) - 1 = ((k - 1 : Nat) : Int) by omega]
        refine JpQ.again rfl hLk (k - 1) ⟨by rw [← hst, ow1], by omega⟩ (by omega) rfl ⟨rfl, rfl, rfl, rfl, trivial⟩ ⟨rfl, trivial⟩
      · rw [gl, if_neg (by simp)] at hst
        have hkr : k = j2 := by rw [← ow1, hst]
        rw [hkr]
        refine Cd.exit rfl hK22 ?_
        exact Cd.meet (hj4 () trivial) ⟨rfl, rfl, rfl, rfl, trivial⟩ ⟨rfl, trivial⟩
  · skip
    refine Cd.loopK (G := Nat) (fun g => Go.Sort.scanUp (fun x => ltN x d[a]!) d (e - 1) g = i2 ∧ a + 1 ≤ g) (fun g => (e - 1) + 1 - g) (fun _ => _) (fun g => [(10, .int .i64 (g : Int))]) [(0, _), (1, _), (11, _)] (fun g => []) [(0, _)] (a + 1) ⟨hqi.symm, by omega⟩ rfl ⟨rfl, trivial⟩ ⟨rfl, rfl, rfl, trivial⟩ trivial ⟨rfl, trivial⟩ (fun g KLk hok hLk => ?_)
    obtain ⟨k, hk⟩ : ∃ k, k = g := ⟨_, rfl⟩
    rw [← hk] at hok ⊢
    obtain ⟨ow1, ow2⟩ := hok
    refine Cd.seq fun K48 hK48 => ?_
    refine Cd.seq fun K49 hK49 => ?_
    refine Cd.drawn [(0, _)] ⟨rfl, trivial⟩ [(0, true), (1, true), (2, true), (3, true), (4, true), (5, true), (6, true), (7, true), (8, true), (9, true), (10, true), (11, true), (12, false), (13, true)] follows (by kernel_rfl) (fun hrl => ?_)
    refine Jp.q 30 rfl (want_all rfl) rfl rfl (Y.move rfl rfl) ?_
    refine Jp.q 31 rfl (want_all rfl) rfl rfl (Y.move rfl rfl) ?_
    refine Jp.q 32 rfl (want_all rfl) rfl rfl (Y.leq rfl rfl rfl) ?_
    refine Jp.q 33 rfl (want_all rfl) rfl rfl (Y.move rfl rfl) ?_
    refine Jp.splitF 33 rfl (fun g33 => ?_) (fun g33 => ?_)
    · skip
      simp only [decide_eq_false_iff_not] at g33
      have hst : Go.Sort.scanUp (fun x => ltN x d[a]!) d (e - 1) k = k := up_end (by omega)
      have hkr : k = i2 := by rw [← ow1, hst]
      rw [hkr]
      refine Jp.qskip 34 rfl (want_as rfl rfl rfl rfl) rfl rfl ?_
      refine Jp.qskip 35 rfl (want_as rfl rfl rfl rfl) rfl rfl ?_
      refine Jp.qskip 36 rfl (want_as rfl rfl rfl rfl) rfl rfl ?_
      refine Jp.qskip 37 rfl (want_as rfl rfl rfl rfl) rfl rfl ?_
      refine Jp.qskip 38 rfl (want_as rfl rfl rfl rfl) rfl rfl ?_
      refine Jp.qskip 39 rfl (want_as rfl rfl rfl rfl) rfl rfl ?_
      refine Jp.qskip 40 rfl (want_as rfl rfl rfl rfl) rfl rfl ?_
      refine Jp.qskip 41 rfl (want_as rfl rfl rfl rfl) rfl rfl ?_
      refine Jp.skip 42 rfl (want_as rfl rfl rfl rfl) rfl rfl (Kp.st ⟨rfl, trivial⟩) ?_
      refine Jp.q 43 rfl (want_all rfl) rfl rfl (Y.pickF rfl rfl rfl) ?_
      refine Jp.done hK49 ?_
      refine Cd.condF rfl ?_
      refine Cd.exit rfl hK21 ?_
      exact Cd.meet (hj3 () trivial) ⟨rfl, rfl, rfl, rfl, trivial⟩ ⟨rfl, trivial⟩
    try simp only [decide_eq_false_iff_not, decide_eq_true_eq, Int.not_lt, Int.not_le, Bool.not_eq_false, Bool.not_eq_true, Bool.not_true, Bool.not_false, Bool.not_eq_true', Bool.not_eq_false', beq_eq_false_iff_ne, ne_eq, beq_iff_eq, bne_iff_ne, bne_eq_false_iff_eq, Classical.not_not] at g33
    refine Jp.q 34 rfl (want_as rfl rfl rfl rfl) rfl rfl (Y.move rfl rfl) ?_
    refine Jp.q 35 rfl (want_as rfl rfl rfl rfl) rfl rfl (Y.move rfl rfl) ?_
    have hkj : k ≤ (e - 1) := by omega
    have ck := rowC (b := b) (n := n) (c := c) (d := d) (i := k) (by omega)
    refine Jp.q 36 rfl (want_as rfl rfl rfl rfl) rfl rfl (Y.indexAddr (q := k) rfl rfl rfl Try.underlying26 Try.sizeOf25 (by omega) (by omega) (by omega)) ?_
    refine Jp.q 37 rfl (want_as rfl rfl rfl rfl) rfl rfl (by first | exact Y.loadC 0 rfl Try.isAgg25 rfl rfl ck | exact Y.loadC 0 rfl Try.isAgg25 rfl rfl ca) ?_
    refine Jp.q 38 rfl (want_as rfl rfl rfl rfl) rfl rfl (Y.move rfl rfl) ?_
    refine Jp.q 39 rfl (want_as rfl rfl rfl rfl) rfl rfl (Y.move rfl rfl) ?_
    refine Jp.q 40 rfl (want_as rfl rfl rfl rfl) rfl rfl (Y.indexAddr (q := a) rfl rfl rfl Try.underlying26 Try.sizeOf25 (by omega) (by omega) (by omega)) ?_
    refine Jp.q 41 rfl (want_as rfl rfl rfl rfl) rfl rfl (by first | exact Y.loadC 0 rfl Try.isAgg25 rfl rfl ck | exact Y.loadC 0 rfl Try.isAgg25 rfl rfl ca) ?_
    refine Jp.call [] [] (less_spec d[k]! d[a]!) 42 rfl (want_as rfl rfl rfl rfl) rfl rfl (Runs.fn rfl Try.call133 rfl) (by decide) (by decide) rfl trivial ?_
    rintro v7 ρ7 L7 ⟨rfl, rfl, rfl⟩
    refine ⟨rfl, fun hle7 => ⟨(Kp.st ⟨rfl, trivial⟩), ?_⟩⟩
    have hst : Go.Sort.scanUp (fun x => ltN x d[a]!) d (e - 1) k = if (ltN d[k]! d[a]!) = true then Go.Sort.scanUp (fun x => ltN x d[a]!) d (e - 1) (k + 1) else k := up_go hkj
    refine Jp.q 43 rfl (want_all rfl) rfl rfl (Y.pickT rfl rfl rfl) ?_
    refine Jp.done hK49 ?_
    refine Cd.cond rfl (fun gl => ?_) (fun gl => ?_)
    · rw [gl, if_pos rfl] at hst
      refine Cd.skip hK48 ?_
      refine Cd.block ?_
      refine Cd.plain [(0, false), (1, false), (2, false)] rfl rfl ?_
      refine Jp.y 44 rfl (want_all rfl) rfl rfl Kp.true (Y.move rfl rfl) ?_
      refine Jp.y 45 rfl (want_all rfl) rfl rfl Kp.true (Y.add_ rfl rfl rfl (by first | exact wrap_i64 (by omega) (by omega) | rfl)) ?_
      refine Jp.y 10 rfl (want_all rfl) rfl rfl Kp.true (Y.assign rfl rfl) ?_
      rw [show (k : Int) + 1 = ((k + 1 : Nat) : Int) by omega]
      refine JpQ.again rfl hLk (k + 1) ⟨by rw [← hst, ow1], by omega⟩ (by omega) rfl ⟨rfl, rfl, rfl, rfl, trivial⟩ ⟨rfl, trivial⟩
    · rw [gl, if_neg (by simp)] at hst
      have hkr : k = i2 := by rw [← ow1, hst]
      rw [hkr]
      refine Cd.exit rfl hK21 ?_
      exact Cd.meet (hj3 () trivial) ⟨rfl, rfl, rfl, rfl, trivial⟩ ⟨rfl, trivial⟩
end Go.Proofs.Ytgmhijlcdadaeaa
set_option linter.unusedVariables false
set_option linter.unusedSimpArgs false
set_option maxRecDepth 100000
namespace Go.Proofs.Ytgmhijlcdadaeaa
open Go
def PdqOk (n a e : Nat) (d0 : Array Nat) (a1 e1 l1 : Nat) (d : Array Nat) : Prop := a1 ≤ e1 ∧ e1 ≤ n ∧ e1 - a1 ≤ e - a ∧ l1 ≤ 64 ∧ d.size = n ∧ Go.Sort.Below ltN a1 e1 d ∧ ∀ R, Go.Sort.PermIn a1 e1 d R → Go.Sort.SortedIn ltN a1 e1 R → Go.Sort.PermIn a e d0 R ∧ Go.Sort.SortedIn ltN a e R
theorem PdqOk.step {n a e : Nat} {d0 : Array Nat} {a1 e1 l1 l2 : Nat} {d d1 : Array Nat} (h : PdqOk n a e d0 a1 e1 l1 d) (hp : Go.Sort.PermIn a1 e1 d d1) (hl : l2 ≤ 64) : PdqOk n a e d0 a1 e1 l2 d1 := by
  obtain ⟨h1, h2, h3, h4, h5, h6, h7⟩ := h
  exact ⟨h1, h2, h3, hl, by rw [hp.1]; exact h5, h6.perm (by omega) hp, fun R hR hs => h7 R (Go.Sort.permIn_trans _ _ _ _ _ hp hR) hs⟩
theorem PdqOk.eqs {n a e : Nat} {d0 : Array Nat} {a1 e1 l1 : Nat} {d : Array Nat} (h : PdqOk n a e d0 a1 e1 l1 d) {p : Nat} (ha0 : 0 < a1) (hp1 : a1 ≤ p) (hp2 : p < e1) (hnl : ltN d[a1 - 1]! d[p]! = false) {T : Nat × Array Nat} (hT : Go.Sort.partitionEqual ltN d a1 e1 p = T) :
    a1 < T.1 ∧ PdqOk n a e d0 T.1 e1 l1 T.2 := by
  obtain ⟨h1, h2, h3, h4, h5, h6, h7⟩ := h
  obtain ⟨m, d4⟩ := T
  obtain ⟨q1, q2, q3, q4, q5⟩ := Go.Sort.round_eq swoN (Go.Sort.partitionEqual_holds ltN) ha0 hp1 hp2 (by omega) h6 hnl hT
  refine ⟨q1, q2, h2, by show e1 - m ≤ e - a; omega, h4, by rw [q3]; exact h5, q4, fun R hR hs => ?_⟩
  obtain ⟨r1, r2⟩ := q5 R hR hs
  exact h7 R r1 r2
theorem PdqOk.parts {n a e : Nat} {d0 : Array Nat} {a1 e1 l1 : Nat} {d : Array Nat} (h : PdqOk n a e d0 a1 e1 l1 d) {p : Nat} (hp1 : a1 ≤ p) (hp2 : p < e1) {T : Nat × Bool × Array Nat} (hT : Go.Sort.partition ltN d a1 e1 p = T) :
    a1 ≤ T.1 ∧ T.1 < e1 ∧ T.2.2.size = n ∧ Go.Sort.Below ltN a1 T.1 T.2.2 ∧ Go.Sort.Below ltN (T.1 + 1) e1 T.2.2 ∧
    (∀ L, Go.Sort.PermIn a1 T.1 T.2.2 L → Go.Sort.SortedIn ltN a1 T.1 L → PdqOk n a e d0 (T.1 + 1) e1 l1 L) ∧
    (∀ L, Go.Sort.PermIn (T.1 + 1) e1 T.2.2 L → Go.Sort.SortedIn ltN (T.1 + 1) e1 L → PdqOk n a e d0 a1 T.1 l1 L) := by
  obtain ⟨h1, h2, h3, h4, h5, h6, h7⟩ := h
  obtain ⟨m, ap, d4⟩ := T
  obtain ⟨q1, q2, q3, q4, q5, q6, q7⟩ := Go.Sort.round_part swoN (Go.Sort.partition_holds ltN) hp1 hp2 (by omega) h6 hT
  refine ⟨q1, q2, by rw [q3]; exact h5, q4, q5, fun L hL hs => ?_, fun L hL hs => ?_⟩
  · obtain ⟨r1, r2⟩ := q6 L hL hs
    refine ⟨by omega, h2, by omega, h4, by rw [hL.1, q3]; exact h5, r1, fun R hR hs => ?_⟩
    obtain ⟨s1, s2⟩ := r2 R hR hs
    exact h7 R s1 s2
  · obtain ⟨r1, r2⟩ := q7 L hL hs
    refine ⟨q1, by show m ≤ n; omega, by show m - a1 ≤ e - a; omega, h4, by rw [hL.1, q3]; exact h5, r1, fun R hR hs => ?_⟩
    obtain ⟨s1, s2⟩ := r2 R hR hs
    exact h7 R s1 s2
theorem pdq_spec : ∀ (m : Nat) (A : Option Addr) (n c : Nat) (d0 : Array Nat) (a e lim : Nat), e - a ≤ m → d0.size = n → a ≤ e → e ≤ n → n ≤ 4096 → lim ≤ 64 → Go.Sort.Below ltN a e d0 → Spec Try.prog 125 #[.slice A n c, .int .i64 a, .int .i64 e, .int .i64 lim] (fun _ => True) [(0, rowO A n c d0)]
    (fun ρ ρ' v L => ρ' = ρ ∧ v = .tuple #[] ∧ ∃ R : Array Nat, Go.Sort.PermIn a e d0 R ∧ Go.Sort.SortedIn ltN a e R ∧ L = [(0, rowO A n c R)]) := by
  intro m
  induction m using Nat.strongRecOn with
  | _ m ih =>
  intro A n c d0 a e lim hm hd hae hen hn hlim hB
  refine Spec.of 134 Try.func125 rfl Try.ntmps125 [(0, _), (1, _), (2, _), (3, _)] rfl rfl ?_
  intro cx ρ hr h0
  refine Cd.seq fun K1 hK1 => ?_
  refine Cd.plain [(0, false)] rfl rfl ?_
  refine Jp.y 8 rfl (want_all rfl) rfl rfl Kp.true (Y.assign rfl rfl) ?_
  refine Jp.done hK1 ?_
  refine Cd.seq fun K2 hK2 => ?_
  refine Cd.plain [(0, false)] rfl rfl ?_
  refine Jp.y 9 rfl (want_all rfl) rfl rfl Kp.true (Y.assign rfl rfl) ?_
  refine Jp.done hK2 ?_
  refine Cd.block ?_
  refine Cd.loopK (G := Nat × Nat × Nat × Bool × Bool × Array Nat) (fun g => PdqOk n a e d0 g.1 g.2.1 g.2.2.1 g.2.2.2.2.2) (fun g => g.2.1 - g.1) (fun _ => _) (fun g => [(1, .int .i64 (g.1 : Int)), (2, .int .i64 (g.2.1 : Int)), (3, .int .i64 (g.2.2.1 : Int)), (8, .bool g.2.2.2.1), (9, .bool g.2.2.2.2.1)]) [(0, _)] (fun g => [(0, rowO A n c g.2.2.2.2.2)]) [] ⟨a, e, lim, true, true, d0⟩ ⟨hae, hen, Nat.le_refl _, hlim, hd, hB, fun R h1 h2 => ⟨h1, h2⟩⟩ rfl ⟨rfl, rfl, rfl, rfl, rfl, trivial⟩ ⟨rfl, trivial⟩ ⟨rfl, trivial⟩ trivial (fun g KLa hok hLa => ?_)
  obtain ⟨a1, e1, l1, wb, wp, d⟩ := g
  dsimp only at hok ⊢
  obtain ⟨o1, o2, o3, o4, o5, o6, o7⟩ := id hok
  refine Cd.block ?_
  refine Cd.seq fun K3 hK3 => ?_
  refine Cd.plain [(0, false), (1, false), (2, false), (3, false)] rfl rfl ?_
  refine Jp.y 19 rfl (want_all rfl) rfl rfl Kp.true (Y.move rfl rfl) ?_
  refine Jp.y 20 rfl (want_all rfl) rfl rfl Kp.true (Y.move rfl rfl) ?_
  refine Jp.y 21 rfl (want_all rfl) rfl rfl Kp.true (Y.sub_ rfl rfl rfl (by first | exact wrap_i64 (by omega) (by omega) | rfl)) ?_
  refine Jp.y 10 rfl (want_all rfl) rfl rfl Kp.true (Y.assign rfl rfl) ?_
  refine Jp.done hK3 ?_
  refine Cd.seq fun K4 hK4 => ?_
  refine Cd.seq fun K5 hK5 => ?_
  refine Cd.plain [(0, false), (1, false)] rfl rfl ?_
  refine Jp.y 22 rfl (want_all rfl) rfl rfl Kp.true (Y.move rfl rfl) ?_
  refine Jp.y 23 rfl (want_all rfl) rfl rfl Kp.true (Y.leq rfl rfl rfl) ?_
  refine Jp.done hK5 ?_
  refine Cd.slot 10 rfl (show _ = Value.int .i64 ((e1 - a1 : Nat) : Int) from congrArg (Value.int .i64) (by omega)) ?_
  refine Cd.cond rfl (fun ga => ?_) (fun ga => ?_)
  · skip
    refine Cd.seq fun K6 hK6 => ?_
    refine Cd.plain [(0, false), (1, false), (2, false), (3, false)] rfl rfl ?_
    refine Jp.y 24 rfl (want_all rfl) rfl rfl Kp.true (Y.move rfl rfl) ?_
    refine Jp.y 25 rfl (want_all rfl) rfl rfl Kp.true (Y.move rfl rfl) ?_
    refine Jp.y 26 rfl (want_all rfl) rfl rfl Kp.true (Y.move rfl rfl) ?_
    refine Jp.call [0] [0] (insSort_spec A n c d a1 e1 o5 o1 o2 hn) 27 rfl (want_all rfl) rfl rfl (Runs.fn rfl Try.call127 rfl) (by decide) (by decide) rfl trivial ?_
    rintro v1 ρ1 L1 ⟨rfl, rfl, rfl⟩
    refine ⟨rfl, fun hle1 => ⟨Kp.true, ?_⟩⟩
    refine Jp.done hK6 ?_
    obtain ⟨p1, p2⟩ := Go.Sort.insertionSort_holds swoN d a1 e1 o1 (by omega)
    obtain ⟨p3, p4⟩ := o7 _ p1 p2
    refine Cd.ret [(0, _)] rfl (res0 rfl) ⟨rfl, trivial⟩ ⟨rfl, rfl, _, p3, p4, rfl⟩
  · simp only [decide_eq_false_iff_not] at ga
    refine Cd.skip hK4 ?_
    refine Cd.seq fun K7 hK7 => ?_
    refine Cd.seq fun K8 hK8 => ?_
    refine Cd.plain [(0, false), (1, false)] rfl rfl ?_
    refine Jp.y 28 rfl (want_all rfl) rfl rfl Kp.true (Y.move rfl rfl) ?_
    refine Jp.y 29 rfl (want_all rfl) rfl rfl Kp.true (Y.eql rfl rfl rfl) ?_
    refine Jp.done hK8 ?_
    refine Cd.cond rfl (fun gb => ?_) (fun gb => ?_)
    · skip
      refine Cd.seq fun K9 hK9 => ?_
      refine Cd.plain [(0, false), (1, false), (2, false), (3, false)] rfl rfl ?_
      refine Jp.y 30 rfl (want_all rfl) rfl rfl Kp.true (Y.move rfl rfl) ?_
      refine Jp.y 31 rfl (want_all rfl) rfl rfl Kp.true (Y.move rfl rfl) ?_
      refine Jp.y 32 rfl (want_all rfl) rfl rfl Kp.true (Y.move rfl rfl) ?_
      refine Jp.call [0] [0] (heap_spec A n c d a1 e1 o5 (by omega) o2 hn) 33 rfl (want_all rfl) rfl rfl (Runs.fn rfl Try.call128 rfl) (by decide) (by decide) rfl trivial ?_
      rintro v2 ρ2 L2 ⟨rfl, rfl, rfl⟩
      refine ⟨rfl, fun hle2 => ⟨Kp.true, ?_⟩⟩
      refine Jp.done hK9 ?_
      obtain ⟨p1, p2⟩ := Go.Sort.heapSort_holds swoN d a1 e1 o1 (by omega)
      obtain ⟨p3, p4⟩ := o7 _ p1 p2
      refine Cd.ret [(0, _)] rfl (res0 rfl) ⟨rfl, trivial⟩ ⟨rfl, rfl, _, p3, p4, rfl⟩
    · have hl0 : ¬ l1 = 0 := by
        have : ¬ (l1 : Int) = 0 := by simpa using gb
        omega
      refine Cd.skip hK7 ?_
      refine Cd.seq fun K10 hK10 => ?_
      refine Cd.seq fun K11 hK11 => ?_
      refine Cd.plain [(0, false), (1, false)] rfl rfl ?_
      refine Jp.y 34 rfl (want_all rfl) rfl rfl Kp.true (Y.move rfl rfl) ?_
      refine Jp.y 35 rfl (want_all rfl) rfl rfl Kp.true (Y.not rfl rfl) ?_
      refine Jp.done hK11 ?_
      refine Cd.joinG (G := Nat × Array Nat) (fun y => PdqOk n a e d0 a1 e1 y.1 y.2) (fun y => [(3, .int .i64 (y.1 : Int))]) [(0, _), (1, _), (2, _), (8, _), (9, _), (10, _)] ⟨rfl, rfl, rfl, rfl, rfl, rfl, trivial⟩ (fun y => [(0, rowO A n c y.2)]) [] trivial hK10 (fun g hφ => ?_) (fun hj1 => ?_)
      · clear o4 o5 o6 o7 hok hl0 gb
        obtain ⟨l2, d1⟩ := g
        dsimp only at hφ ⊢
        obtain ⟨o1, o2, o3, o4, o5, o6, o7⟩ := id hφ
        refine Cd.seq fun K12 hK12 => ?_
        refine Cd.plain [(0, false), (1, false), (2, false), (3, false), (4, false), (5, false), (6, false), (7, false), (8, false)] rfl rfl ?_
        refine Jp.y 43 rfl (want_all rfl) rfl rfl Kp.true (Y.move rfl rfl) ?_
        refine Jp.y 44 rfl (want_all rfl) rfl rfl Kp.true (Y.move rfl rfl) ?_
        refine Jp.y 45 rfl (want_all rfl) rfl rfl Kp.true (Y.move rfl rfl) ?_
        refine Jp.call [0] [0] (choose_spec A n c d1 a1 e1 o5 (by omega) o2 hn) 46 rfl (want_all rfl) rfl rfl (Runs.fn rfl Try.call130 rfl) (by decide) (by decide) rfl trivial ?_
        rintro v3 ρ3 L3 ⟨rfl, p, h, hp1, hp2, rfl, rfl⟩
        refine ⟨rfl, fun hle3 => ⟨Kp.true, ?_⟩⟩
        refine Jp.y 42 rfl (want_all rfl) rfl rfl Kp.true (Y.move rfl rfl) ?_
        refine Jp.y 47 rfl (want_all rfl) rfl rfl Kp.true (Y.extract rfl rfl rfl) ?_
        refine Jp.y 48 rfl (want_all rfl) rfl rfl Kp.true (Y.extract rfl rfl rfl) ?_
        refine Jp.y 11 rfl (want_all rfl) rfl rfl Kp.true (Y.assign rfl rfl) ?_
        refine Jp.y 12 rfl (want_all rfl) rfl rfl Kp.true (Y.assign rfl rfl) ?_
        refine Jp.done hK12 ?_
        refine Cd.seq fun K13 hK13 => ?_
        refine Cd.seq fun K14 hK14 => ?_
        refine Cd.plain [(0, false), (1, false)] rfl rfl ?_
        refine Jp.y 49 rfl (want_all rfl) rfl rfl Kp.true (Y.move rfl rfl) ?_
        refine Jp.y 50 rfl (want_all rfl) rfl rfl Kp.true (Y.eql rfl rfl rfl) ?_
        refine Jp.done hK14 ?_
        refine Cd.joinG (G := Nat × Int × Array Nat) (fun y => PdqOk n a e d0 a1 e1 l2 y.2.2 ∧ a1 ≤ y.1 ∧ y.1 < e1) (fun y => [(11, .int .i64 (y.1 : Int)), (12, .int .i64 y.2.1)]) [(0, _), (1, _), (2, _), (3, _), (8, _), (9, _), (10, _)] ⟨rfl, rfl, rfl, rfl, rfl, rfl, rfl, trivial⟩ (fun y => [(0, rowO A n c y.2.2)]) [] trivial hK13 (fun g hφ => ?_) (fun hj2 => ?_)
        · clear o4 o5 o6 o7 hp1 hp2
          obtain ⟨p2, h2, d2⟩ := g
          dsimp only at hφ ⊢
          rename_i hφ1
          obtain ⟨hφ2, hp1, hp2⟩ := hφ
          clear hφ1
          obtain ⟨o1, o2, o3, o4, o5, o6, o7⟩ := id hφ2
          refine Cd.seq fun K15 hK15 => ?_
          refine Cd.seq fun K16 hK16 => ?_
          refine Cd.plain [(0, false), (1, false), (2, false), (3, false), (4, false), (5, false), (6, false), (7, false)] rfl rfl ?_
          refine Jp.y 61 rfl (want_all rfl) rfl rfl Kp.true (Y.move rfl rfl) ?_
          refine Jp.y 62 rfl (want_all rfl) rfl rfl Kp.true (Y.move rfl rfl) ?_
          refine Jp.joinG (G := Array Nat) (fun y => PdqOk n a e d0 a1 e1 l2 y) (fun y => []) [(0, _), (1, _), (2, _), (3, _), (8, _), (9, _), (10, _), (11, _)] ⟨rfl, rfl, rfl, rfl, rfl, rfl, rfl, rfl, trivial⟩ (fun y => [(0, rowO A n c y)]) [] trivial hK15 (fun g hφ => ?_) (fun hj3 => ?_)
          · obtain ⟨d3, hd3⟩ : ∃ d3, d3 = g := ⟨_, rfl⟩
            rw [← hd3] at hφ ⊢
            clear hd3 o4 o5 o6 o7 hφ2
            obtain ⟨o1, o2, o3, o4, o5, o6, o7⟩ := id hφ
            have hok3 := hφ
            refine Cd.ownAt 0 rfl (show 0 < n by omega) ?_
            rintro b rfl
            refine Cd.seq fun K17 hK17 => ?_
            refine Cd.seq fun K18 hK18 => ?_
            refine Cd.drawn [(0, _)] ⟨rfl, trivial⟩ [(0, true), (1, true), (2, true), (3, true), (4, true), (5, true), (6, true), (7, true), (8, true), (9, true), (10, true), (11, true), (12, false), (13, true), (14, true)] follows (by kernel_rfl) (fun hrl => ?_)
            refine Jp.q 73 rfl (want_all rfl) rfl rfl (Y.move rfl rfl) ?_
            refine Jp.q 74 rfl (want_all rfl) rfl rfl (Y.gtr rfl rfl rfl) ?_
            refine Jp.q 75 rfl (want_all rfl) rfl rfl (Y.move rfl rfl) ?_
            refine Jp.joinG (G := Unit) (fun y => True) (fun y => []) [(0, _), (1, _), (2, _), (3, _), (10, _), (11, _)] ⟨rfl, rfl, rfl, rfl, rfl, rfl, trivial⟩ (fun y => []) [(0, _)] ⟨rfl, trivial⟩ hK17 (fun g hφ => ?_) (fun hj4 => ?_)
            · skip
              obtain ⟨T, hT⟩ : ∃ T, Go.Sort.partition ltN d3 a1 e1 p2 = T := ⟨_, rfl⟩
              have hps := part_spec (some ⟨b, 0, none⟩) n c d3 a1 e1 p2 o5 hp1 hp2 o2 hn
              rw [hT] at hps
              obtain ⟨t1, t2, t3, t4, t5, t6, t7⟩ := PdqOk.parts hok3 hp1 hp2 hT
              refine Cd.seq fun K20 hK20 => ?_
              refine Cd.plain [(0, false), (1, false), (2, false), (3, false), (4, false), (5, false), (6, false), (7, false), (8, false), (9, false)] rfl rfl ?_
              refine Jp.y 95 rfl (want_all rfl) rfl rfl Kp.true (Y.move rfl rfl) ?_
              refine Jp.y 96 rfl (want_all rfl) rfl rfl Kp.true (Y.move rfl rfl) ?_
              refine Jp.y 97 rfl (want_all rfl) rfl rfl Kp.true (Y.move rfl rfl) ?_
              refine Jp.y 98 rfl (want_all rfl) rfl rfl Kp.true (Y.move rfl rfl) ?_
              refine Jp.call [0] [0] (hps) 99 rfl (want_all rfl) rfl rfl (Runs.fn rfl Try.call135 rfl) (by decide) (by decide) rfl trivial ?_
              rintro v8 ρ8 L8 ⟨rfl, rfl, rfl⟩
              refine ⟨rfl, fun hle8 => ⟨Kp.true, ?_⟩⟩
              refine Jp.y 94 rfl (want_all rfl) rfl rfl Kp.true (Y.move rfl rfl) ?_
              refine Jp.y 100 rfl (want_all rfl) rfl rfl Kp.true (Y.extract rfl rfl rfl) ?_
              refine Jp.y 101 rfl (want_all rfl) rfl rfl Kp.true (Y.extract rfl rfl rfl) ?_
              refine Jp.y 14 rfl (want_all rfl) rfl rfl Kp.true (Y.assign rfl rfl) ?_
              refine Jp.y 15 rfl (want_all rfl) rfl rfl Kp.true (Y.assign rfl rfl) ?_
              refine Jp.done hK20 ?_
              refine Cd.seq fun K21 hK21 => ?_
              refine Cd.plain [(0, false), (1, false)] rfl rfl ?_
              refine Jp.y 102 rfl (want_all rfl) rfl rfl Kp.true (Y.move rfl rfl) ?_
              refine Jp.y 9 rfl (want_all rfl) rfl rfl Kp.true (Y.assign rfl rfl) ?_
              refine Jp.done hK21 ?_
              refine Cd.seq fun K22 hK22 => ?_
              refine Cd.plain [(0, false), (1, false), (2, false), (3, false), (4, false), (5, false), (6, false), (7, false)] rfl rfl ?_
              refine Jp.y 103 rfl (want_all rfl) rfl rfl Kp.true (Y.move rfl rfl) ?_
              refine Jp.y 104 rfl (want_all rfl) rfl rfl Kp.true (Y.move rfl rfl) ?_
              refine Jp.y 105 rfl (want_all rfl) rfl rfl Kp.true (Y.sub_ rfl rfl rfl (by first | exact wrap_i64 (by omega) (by omega) | rfl)) ?_
              refine Jp.y 106 rfl (want_all rfl) rfl rfl Kp.true (Y.move rfl rfl) ?_
              refine Jp.y 107 rfl (want_all rfl) rfl rfl Kp.true (Y.move rfl rfl) ?_
              refine Jp.y 108 rfl (want_all rfl) rfl rfl Kp.true (Y.sub_ rfl rfl rfl (by first | exact wrap_i64 (by omega) (by omega) | rfl)) ?_
              refine Jp.y 16 rfl (want_all rfl) rfl rfl Kp.true (Y.assign rfl rfl) ?_
              refine Jp.y 17 rfl (want_all rfl) rfl rfl Kp.true (Y.assign rfl rfl) ?_
              refine Jp.done hK22 ?_
              refine Cd.seq fun K23 hK23 => ?_
              refine Cd.plain [(0, false), (1, false), (2, false)] rfl rfl ?_
              refine Jp.slot 16 rfl (show _ = Value.int .i64 ((T.1 - a1 : Nat) : Int) from congrArg (Value.int .i64) (by omega)) ?_
              refine Jp.slot 17 rfl (show _ = Value.int .i64 ((e1 - T.1 : Nat) : Int) from congrArg (Value.int .i64) (by omega)) ?_
              refine Jp.y 109 rfl (want_all rfl) rfl rfl Kp.true (Y.move rfl rfl) ?_
              refine Jp.y 110 rfl (want_all rfl) rfl rfl Kp.true (by first | exact Y.quoN rfl rfl rfl (by omega) (by omega) (wrap_i64 (by omega) (by omega)) | exact Y.quo rfl rfl rfl (by first | decide | omega)) ?_
              refine Jp.y 18 rfl (want_all rfl) rfl rfl Kp.true (Y.assign rfl rfl) ?_
              refine Jp.done hK23 ?_
              refine Cd.seq fun K24 hK24 => ?_
              refine Cd.plain [(0, false), (1, false), (2, false)] rfl rfl ?_
              refine Jp.y 111 rfl (want_all rfl) rfl rfl Kp.true (Y.move rfl rfl) ?_
              refine Jp.y 112 rfl (want_all rfl) rfl rfl Kp.true (Y.move rfl rfl) ?_
              refine Jp.y 113 rfl (want_all rfl) rfl rfl Kp.true (Y.lss rfl rfl rfl) ?_
              refine Jp.done hK24 ?_
              refine Cd.cond rfl (fun gl => ?_) (fun gl => ?_)
              · skip
                refine Cd.seq fun K25 hK25 => ?_
                refine Cd.plain [(0, false), (1, false), (2, false), (3, false)] rfl rfl ?_
                refine Jp.y 114 rfl (want_all rfl) rfl rfl Kp.true (Y.move rfl rfl) ?_
                refine Jp.y 115 rfl (want_all rfl) rfl rfl Kp.true (Y.move rfl rfl) ?_
                refine Jp.y 116 rfl (want_all rfl) rfl rfl Kp.true (Y.geq rfl rfl rfl) ?_
                refine Jp.y 8 rfl (want_all rfl) rfl rfl Kp.true (Y.assign rfl rfl) ?_
                refine Jp.done hK25 ?_
                refine Cd.seq fun K26 hK26 => ?_
                refine Cd.plain [(0, false), (1, false), (2, false), (3, false), (4, false)] rfl rfl ?_
                refine Jp.y 117 rfl (want_all rfl) rfl rfl Kp.true (Y.move rfl rfl) ?_
                refine Jp.y 118 rfl (want_all rfl) rfl rfl Kp.true (Y.move rfl rfl) ?_
                refine Jp.y 119 rfl (want_all rfl) rfl rfl Kp.true (Y.move rfl rfl) ?_
                refine Jp.y 120 rfl (want_all rfl) rfl rfl Kp.true (Y.move rfl rfl) ?_
                refine Jp.call [0] [0] (ih (T.1 - a1) (by omega) _ n c T.2.2 a1 T.1 l2 (Nat.le_refl _) t3 t1 (by omega) hn o4 t4) 121 rfl (want_all rfl) rfl rfl (Runs.fn rfl Try.call125 rfl) (by decide) (by decide) rfl trivial ?_
                rintro v9 ρ9 L9 ⟨rfl, rfl, R, r1, r2, rfl⟩
                refine ⟨rfl, fun hle9 => ⟨Kp.true, ?_⟩⟩
                refine Jp.done hK26 ?_
                refine Cd.plain [(0, false), (1, false), (2, false)] rfl rfl ?_
                refine Jp.y 122 rfl (want_all rfl) rfl rfl Kp.true (Y.move rfl rfl) ?_
                refine Jp.y 123 rfl (want_all rfl) rfl rfl Kp.true (Y.add_ rfl rfl rfl (by first | exact wrap_i64 (by omega) (by omega) | rfl)) ?_
                refine Jp.y 1 rfl (want_all rfl) rfl rfl Kp.true (Y.assign rfl rfl) ?_
                refine Jp.slot 1 rfl (show _ = Value.int .i64 ((T.1 + 1 : Nat) : Int) from congrArg (Value.int .i64) (by omega)) ?_
                refine JpQ.again rfl hLa ⟨T.1 + 1, e1, l2, _, T.2.1, R⟩ (t6 R r1 r2) (by show e1 - (T.1 + 1) < e1 - a1; omega) rfl ⟨rfl, rfl, rfl, rfl, rfl, rfl, trivial⟩ ⟨rfl, trivial⟩
              · skip
                refine Cd.seq fun K27 hK27 => ?_
                refine Cd.plain [(0, false), (1, false), (2, false), (3, false)] rfl rfl ?_
                refine Jp.y 124 rfl (want_all rfl) rfl rfl Kp.true (Y.move rfl rfl) ?_
                refine Jp.y 125 rfl (want_all rfl) rfl rfl Kp.true (Y.move rfl rfl) ?_
                refine Jp.y 126 rfl (want_all rfl) rfl rfl Kp.true (Y.geq rfl rfl rfl) ?_
                refine Jp.y 8 rfl (want_all rfl) rfl rfl Kp.true (Y.assign rfl rfl) ?_
                refine Jp.done hK27 ?_
                refine Cd.seq fun K28 hK28 => ?_
                refine Cd.plain [(0, false), (1, false), (2, false), (3, false), (4, false), (5, false)] rfl rfl ?_
                refine Jp.y 127 rfl (want_all rfl) rfl rfl Kp.true (Y.move rfl rfl) ?_
                refine Jp.y 128 rfl (want_all rfl) rfl rfl Kp.true (Y.move rfl rfl) ?_
                refine Jp.y 129 rfl (want_all rfl) rfl rfl Kp.true (Y.add_ rfl rfl rfl (by first | exact wrap_i64 (by omega) (by omega) | rfl)) ?_
                refine Jp.y 130 rfl (want_all rfl) rfl rfl Kp.true (Y.move rfl rfl) ?_
                refine Jp.y 131 rfl (want_all rfl) rfl rfl Kp.true (Y.move rfl rfl) ?_
                refine Jp.call [0] [0] (ih (e1 - (T.1 + 1)) (by omega) _ n c T.2.2 (T.1 + 1) e1 l2 (Nat.le_refl _) t3 (by omega) o2 hn o4 t5) 132 rfl (want_all rfl) rfl rfl (Runs.fn rfl Try.call125 rfl) (by decide) (by decide) rfl trivial ?_
                rintro v10 ρ10 L10 ⟨rfl, rfl, R, r1, r2, rfl⟩
                refine ⟨rfl, fun hle10 => ⟨Kp.true, ?_⟩⟩
                refine Jp.done hK28 ?_
                refine Cd.plain [(0, false), (1, false)] rfl rfl ?_
                refine Jp.y 133 rfl (want_all rfl) rfl rfl Kp.true (Y.move rfl rfl) ?_
                refine Jp.y 2 rfl (want_all rfl) rfl rfl Kp.true (Y.assign rfl rfl) ?_
                refine JpQ.again rfl hLa ⟨a1, T.1, l2, _, T.2.1, R⟩ (t7 R r1 r2) (by show T.1 - a1 < e1 - a1; omega) rfl ⟨rfl, rfl, rfl, rfl, rfl, rfl, trivial⟩ ⟨rfl, trivial⟩
            · skip
              refine Jp.splitF 75 rfl (fun g75 => ?_) (fun g75 => ?_)
              · skip
                refine Jp.qskip 76 rfl (want_as rfl rfl rfl rfl) rfl rfl ?_
                refine Jp.qskip 77 rfl (want_as rfl rfl rfl rfl) rfl rfl ?_
                refine Jp.qskip 78 rfl (want_as rfl rfl rfl rfl) rfl rfl ?_
                refine Jp.qskip 79 rfl (want_as rfl rfl rfl rfl) rfl rfl ?_
                refine Jp.qskip 80 rfl (want_as rfl rfl rfl rfl) rfl rfl ?_
                refine Jp.qskip 81 rfl (want_as rfl rfl rfl rfl) rfl rfl ?_
                refine Jp.qskip 82 rfl (want_as rfl rfl rfl rfl) rfl rfl ?_
                refine Jp.qskip 83 rfl (want_as rfl rfl rfl rfl) rfl rfl ?_
                refine Jp.qskip 84 rfl (want_as rfl rfl rfl rfl) rfl rfl ?_
                refine Jp.skip 85 rfl (want_as rfl rfl rfl rfl) rfl rfl (Kp.st ⟨rfl, trivial⟩) ?_
                refine Jp.qskip 86 rfl (want_as rfl rfl rfl rfl) rfl rfl ?_
                refine Jp.q 87 rfl (want_all rfl) rfl rfl (Y.pickF rfl rfl rfl) ?_
                refine Jp.done hK18 ?_
                refine Cd.condF rfl ?_
                refine Cd.skip hK17 ?_
                exact Cd.meet (hj4 () trivial) ⟨rfl, rfl, rfl, rfl, rfl, rfl, trivial⟩ ⟨rfl, trivial⟩
              try simp only [decide_eq_false_iff_not, decide_eq_true_eq, Int.not_lt, Int.not_le, Bool.not_eq_false, Bool.not_eq_true, Bool.not_true, Bool.not_false, Bool.not_eq_true', Bool.not_eq_false', beq_eq_false_iff_ne, ne_eq, beq_iff_eq, bne_iff_ne, bne_eq_false_iff_eq, Classical.not_not] at g75
              refine Jp.q 76 rfl (want_as rfl rfl rfl rfl) rfl rfl (Y.move rfl rfl) ?_
              refine Jp.q 77 rfl (want_as rfl rfl rfl rfl) rfl rfl (Y.move rfl rfl) ?_
              refine Jp.q 78 rfl (want_as rfl rfl rfl rfl) rfl rfl (Y.sub_ rfl rfl rfl (by first | exact wrap_i64 (by omega) (by omega) | rfl)) ?_
              have ha0 : 0 < a1 := by omega
              have ck := rowC (b := b) (n := n) (c := c) (d := d3) (i := a1 - 1) (by omega)
              have cj := rowC (b := b) (n := n) (c := c) (d := d3) (i := p2) (by omega)
              refine Jp.q 79 rfl (want_as rfl rfl rfl rfl) rfl rfl (Y.indexAddr (q := a1 - 1) rfl rfl rfl Try.underlying26 Try.sizeOf25 (by omega) (by omega) (by omega)) ?_
              refine Jp.q 80 rfl (want_as rfl rfl rfl rfl) rfl rfl (by first | exact Y.loadC 0 rfl Try.isAgg25 rfl rfl ck | exact Y.loadC 0 rfl Try.isAgg25 rfl rfl cj) ?_
              refine Jp.q 81 rfl (want_as rfl rfl rfl rfl) rfl rfl (Y.move rfl rfl) ?_
              refine Jp.q 82 rfl (want_as rfl rfl rfl rfl) rfl rfl (Y.move rfl rfl) ?_
              refine Jp.q 83 rfl (want_as rfl rfl rfl rfl) rfl rfl (Y.indexAddr (q := p2) rfl rfl rfl Try.underlying26 Try.sizeOf25 (by omega) (by omega) (by omega)) ?_
              refine Jp.q 84 rfl (want_as rfl rfl rfl rfl) rfl rfl (by first | exact Y.loadC 0 rfl Try.isAgg25 rfl rfl ck | exact Y.loadC 0 rfl Try.isAgg25 rfl rfl cj) ?_
              refine Jp.call [] [] (less_spec d3[a1 - 1]! d3[p2]!) 85 rfl (want_as rfl rfl rfl rfl) rfl rfl (Runs.fn rfl Try.call133 rfl) (by decide) (by decide) rfl trivial ?_
              rintro v11 ρ11 L11 ⟨rfl, rfl, rfl⟩
              refine ⟨rfl, fun hle11 => ⟨(Kp.st ⟨rfl, trivial⟩), ?_⟩⟩
              refine Jp.q 86 rfl (want_as rfl rfl rfl rfl) rfl rfl (Y.not rfl rfl) ?_
              refine Jp.q 87 rfl (want_all rfl) rfl rfl (Y.pickT rfl rfl rfl) ?_
              refine Jp.done hK18 ?_
              refine Cd.cond rfl (fun gx => ?_) (fun gx => ?_)
              · obtain ⟨T, hT⟩ : ∃ T, Go.Sort.partitionEqual ltN d3 a1 e1 p2 = T := ⟨_, rfl⟩
                have hps := partEq_spec (some ⟨b, 0, none⟩) n c d3 a1 e1 p2 o5 hp1 hp2 o2 hn
                rw [hT] at hps
                obtain ⟨t1, t2⟩ := PdqOk.eqs hok3 ha0 hp1 hp2 (by simpa using gx) hT
                refine Cd.seq fun K29 hK29 => ?_
                refine Cd.plain [(0, false), (1, false), (2, false), (3, false), (4, false), (5, false)] rfl rfl ?_
                refine Jp.y 88 rfl (want_all rfl) rfl rfl Kp.true (Y.move rfl rfl) ?_
                refine Jp.y 89 rfl (want_all rfl) rfl rfl Kp.true (Y.move rfl rfl) ?_
                refine Jp.y 90 rfl (want_all rfl) rfl rfl Kp.true (Y.move rfl rfl) ?_
                refine Jp.y 91 rfl (want_all rfl) rfl rfl Kp.true (Y.move rfl rfl) ?_
                refine Jp.call [0] [0] (hps) 92 rfl (want_all rfl) rfl rfl (Runs.fn rfl Try.call134 rfl) (by decide) (by decide) rfl trivial ?_
                rintro v12 ρ12 L12 ⟨rfl, rfl, rfl⟩
                refine ⟨rfl, fun hle12 => ⟨Kp.true, ?_⟩⟩
                refine Jp.y 13 rfl (want_all rfl) rfl rfl Kp.true (Y.assign rfl rfl) ?_
                refine Jp.done hK29 ?_
                refine Cd.seq fun K30 hK30 => ?_
                refine Cd.plain [(0, false), (1, false)] rfl rfl ?_
                refine Jp.y 93 rfl (want_all rfl) rfl rfl Kp.true (Y.move rfl rfl) ?_
                refine Jp.y 1 rfl (want_all rfl) rfl rfl Kp.true (Y.assign rfl rfl) ?_
                refine Jp.done hK30 ?_
                refine Cdx.again rfl hLa ⟨T.1, e1, l2, wb, wp, T.2⟩ t2 (by show e1 - T.1 < e1 - a1; omega) rfl ⟨rfl, rfl, rfl, rfl, rfl, rfl, trivial⟩ ⟨rfl, trivial⟩
              · skip
                refine Cd.skip hK17 ?_
                exact Cd.meet (hj4 () trivial) ⟨rfl, rfl, rfl, rfl, rfl, rfl, trivial⟩ ⟨rfl, trivial⟩
          · skip
            refine Jp.splitF 62 rfl (fun g62 => ?_) (fun g62 => ?_)
            · skip
              refine Jp.skip 63 rfl (want_as rfl rfl rfl rfl) rfl rfl Kp.true ?_
              refine Jp.y 64 rfl (want_all rfl) rfl rfl Kp.true (Y.pickF rfl rfl rfl) ?_
              refine Jp.y 65 rfl (want_all rfl) rfl rfl Kp.true (Y.move rfl rfl) ?_
              refine Jp.skip 66 rfl (want_as rfl rfl rfl rfl) rfl rfl Kp.true ?_
              refine Jp.skip 67 rfl (want_as rfl rfl rfl rfl) rfl rfl Kp.true ?_
              refine Jp.y 68 rfl (want_all rfl) rfl rfl Kp.true (Y.pickF rfl rfl rfl) ?_
              refine Jp.done hK16 ?_
              refine Cd.condF rfl ?_
              refine Cd.skip hK15 ?_
              exact Cd.meet (hj3 d2 hφ2) ⟨rfl, rfl, rfl, rfl, rfl, rfl, rfl, rfl, trivial⟩ ⟨rfl, trivial⟩
            try simp only [decide_eq_false_iff_not, decide_eq_true_eq, Int.not_lt, Int.not_le, Bool.not_eq_false, Bool.not_eq_true, Bool.not_true, Bool.not_false, Bool.not_eq_true', Bool.not_eq_false', beq_eq_false_iff_ne, ne_eq, beq_iff_eq, bne_iff_ne, bne_eq_false_iff_eq, Classical.not_not] at g62
            refine Jp.y 63 rfl (want_as rfl rfl rfl rfl) rfl rfl Kp.true (Y.move rfl rfl) ?_
            refine Jp.y 64 rfl (want_all rfl) rfl rfl Kp.true (Y.pickT rfl rfl rfl) ?_
            refine Jp.y 65 rfl (want_all rfl) rfl rfl Kp.true (Y.move rfl rfl) ?_
            refine Jp.splitF 65 rfl (fun g65 => ?_) (fun g65 => ?_)
            · skip
              refine Jp.skip 66 rfl (want_as rfl rfl rfl rfl) rfl rfl Kp.true ?_
              refine Jp.skip 67 rfl (want_as rfl rfl rfl rfl) rfl rfl Kp.true ?_
              refine Jp.y 68 rfl (want_all rfl) rfl rfl Kp.true (Y.pickF rfl rfl rfl) ?_
              refine Jp.done hK16 ?_
              refine Cd.condF rfl ?_
              refine Cd.skip hK15 ?_
              exact Cd.meet (hj3 d2 hφ2) ⟨rfl, rfl, rfl, rfl, rfl, rfl, rfl, rfl, trivial⟩ ⟨rfl, trivial⟩
            try simp only [decide_eq_false_iff_not, decide_eq_true_eq, Int.not_lt, Int.not_le, Bool.not_eq_false, Bool.not_eq_true, Bool.not_true, Bool.not_false, Bool.not_eq_true', Bool.not_eq_false', beq_eq_false_iff_ne, ne_eq, beq_iff_eq, bne_iff_ne, bne_eq_false_iff_eq, Classical.not_not] at g65
            refine Jp.y 66 rfl (want_as rfl rfl rfl rfl) rfl rfl Kp.true (Y.move rfl rfl) ?_
            refine Jp.y 67 rfl (want_as rfl rfl rfl rfl) rfl rfl Kp.true (Y.eql rfl rfl rfl) ?_
            refine Jp.y 68 rfl (want_all rfl) rfl rfl Kp.true (Y.pickT rfl rfl rfl) ?_
            refine Jp.done hK16 ?_
            refine Cd.condF' rfl (fun g68 => ?_) (fun g68 => ?_)
            · skip
              refine Cd.skip hK15 ?_
              exact Cd.meet (hj3 d2 hφ2) ⟨rfl, rfl, rfl, rfl, rfl, rfl, rfl, rfl, trivial⟩ ⟨rfl, trivial⟩
            try simp only [decide_eq_false_iff_not, decide_eq_true_eq, Int.not_lt, Int.not_le, Bool.not_eq_false, Bool.not_eq_true, Bool.not_true, Bool.not_false, Bool.not_eq_true', Bool.not_eq_false', beq_eq_false_iff_ne, ne_eq, beq_iff_eq, bne_iff_ne, bne_eq_false_iff_eq, Classical.not_not] at g68
            refine Cd.seq fun K31 hK31 => ?_
            refine Cd.plain [(0, false), (1, false), (2, false), (3, false)] rfl rfl ?_
            refine Jp.y 69 rfl (want_all rfl) rfl rfl Kp.true (Y.move rfl rfl) ?_
            refine Jp.y 70 rfl (want_all rfl) rfl rfl Kp.true (Y.move rfl rfl) ?_
            refine Jp.y 71 rfl (want_all rfl) rfl rfl Kp.true (Y.move rfl rfl) ?_
            refine Jp.call [0] [0] (partial_spec A n c d2 a1 e1 o5 (by omega) o2 hn) 72 rfl (want_all rfl) rfl rfl (Runs.fn rfl Try.call132 rfl) (by decide) (by decide) rfl trivial ?_
            rintro v6 ρ6 L6 ⟨rfl, rfl, rfl⟩
            refine ⟨rfl, fun hle6 => ⟨Kp.true, ?_⟩⟩
            obtain ⟨U, hU⟩ : ∃ U, Go.Sort.partialInsertionSort ltN d2 a1 e1 = U := ⟨_, rfl⟩
            have hp := Go.Sort.partialInsertionSort_holds swoN d2 a1 e1 (by omega) (by omega) o6
            rw [hU] at hp ⊢
            obtain ⟨hpa, hpb⟩ := hp
            refine Jp.done hK31 ?_
            refine Cd.cond rfl (fun gp => ?_) (fun gp => ?_)
            · skip
              obtain ⟨p3, p4⟩ := o7 _ hpa (hpb gp)
              refine Cd.ret [(0, _)] rfl (res0 rfl) ⟨rfl, trivial⟩ ⟨rfl, rfl, _, p3, p4, rfl⟩
            · skip
              refine Cd.skip hK15 ?_
              exact Cd.meet (hj3 U.1 (PdqOk.step hφ2 hpa o4)) ⟨rfl, rfl, rfl, rfl, rfl, rfl, rfl, rfl, trivial⟩ ⟨rfl, trivial⟩
        · skip
          refine Cd.cond rfl (fun gh => ?_) (fun gh => ?_)
          · have hrv := Go.Sort.reverseRange_holds d1 a1 e1 o1 (by omega)
            refine Cd.seq fun K32 hK32 => ?_
            refine Cd.plain [(0, false), (1, false), (2, false), (3, false)] rfl rfl ?_
            refine Jp.y 51 rfl (want_all rfl) rfl rfl Kp.true (Y.move rfl rfl) ?_
            refine Jp.y 52 rfl (want_all rfl) rfl rfl Kp.true (Y.move rfl rfl) ?_
            refine Jp.y 53 rfl (want_all rfl) rfl rfl Kp.true (Y.move rfl rfl) ?_
            refine Jp.call [0] [0] (reverse_spec A n c d1 a1 e1 o5 (by omega) o2 hn) 54 rfl (want_all rfl) rfl rfl (Runs.fn rfl Try.call131 rfl) (by decide) (by decide) rfl trivial ?_
            rintro v5 ρ5 L5 ⟨rfl, rfl, rfl⟩
            refine ⟨rfl, fun hle5 => ⟨Kp.true, ?_⟩⟩
            refine Jp.done hK32 ?_
            refine Cd.seq fun K33 hK33 => ?_
            refine Cd.plain [(0, false), (1, false), (2, false), (3, false), (4, false), (5, false), (6, false)] rfl rfl ?_
            refine Jp.y 55 rfl (want_all rfl) rfl rfl Kp.true (Y.move rfl rfl) ?_
            refine Jp.y 56 rfl (want_all rfl) rfl rfl Kp.true (Y.sub_ rfl rfl rfl (by first | exact wrap_i64 (by omega) (by omega) | rfl)) ?_
            refine Jp.y 57 rfl (want_all rfl) rfl rfl Kp.true (Y.move rfl rfl) ?_
            refine Jp.y 58 rfl (want_all rfl) rfl rfl Kp.true (Y.move rfl rfl) ?_
            refine Jp.y 59 rfl (want_all rfl) rfl rfl Kp.true (Y.sub_ rfl rfl rfl (by first | exact wrap_i64 (by omega) (by omega) | rfl)) ?_
            refine Jp.y 60 rfl (want_all rfl) rfl rfl Kp.true (Y.sub_ rfl rfl rfl (by first | exact wrap_i64 (by omega) (by omega) | rfl)) ?_
            refine Jp.y 11 rfl (want_all rfl) rfl rfl Kp.true (Y.assign rfl rfl) ?_
            refine Jp.done hK33 ?_
            refine Cd.plain [(0, false)] rfl rfl ?_
            refine Jp.y 12 rfl (want_all rfl) rfl rfl Kp.true (Y.assign rfl rfl) ?_
            refine Jp.done hK13 ?_
            refine Cd.slot 11 rfl (show _ = Value.int .i64 ((e1 - 1 - (p - a1) : Nat) : Int) from congrArg (Value.int .i64) (by omega)) ?_
            exact Cd.meet (hj2 (e1 - 1 - (p - a1), 1, Go.Sort.reverseRange d1 a1 e1) ⟨PdqOk.step (l2 := l2) hφ hrv o4, by show a1 ≤ e1 - 1 - (p - a1); omega, by show e1 - 1 - (p - a1) < e1; omega⟩) ⟨rfl, rfl, rfl, rfl, rfl, rfl, rfl, rfl, rfl, trivial⟩ ⟨rfl, trivial⟩
          · skip
            refine Cd.skip hK13 ?_
            exact Cd.meet (hj2 (p, h, d1) ⟨hφ, hp1, hp2⟩) ⟨rfl, rfl, rfl, rfl, rfl, rfl, rfl, rfl, rfl, trivial⟩ ⟨rfl, trivial⟩
      · skip
        refine Cd.cond rfl (fun gw => ?_) (fun gw => ?_)
        · skip
          refine Cd.seq fun K34 hK34 => ?_
          refine Cd.plain [(0, false), (1, false), (2, false), (3, false)] rfl rfl ?_
          refine Jp.y 36 rfl (want_all rfl) rfl rfl Kp.true (Y.move rfl rfl) ?_
          refine Jp.y 37 rfl (want_all rfl) rfl rfl Kp.true (Y.move rfl rfl) ?_
          refine Jp.y 38 rfl (want_all rfl) rfl rfl Kp.true (Y.move rfl rfl) ?_
          refine Jp.call [0] [0] (break_spec A n c d a1 e1 o5 (by omega) o2 hn) 39 rfl (want_all rfl) rfl rfl (Runs.fn rfl Try.call129 rfl) (by decide) (by decide) rfl trivial ?_
          rintro v4 ρ4 L4 ⟨rfl, d1, hp, rfl, rfl⟩
          refine ⟨rfl, fun hle4 => ⟨Kp.true, ?_⟩⟩
          refine Jp.done hK34 ?_
          refine Cd.plain [(0, false), (1, false), (2, false)] rfl rfl ?_
          refine Jp.y 40 rfl (want_all rfl) rfl rfl Kp.true (Y.move rfl rfl) ?_
          refine Jp.y 41 rfl (want_all rfl) rfl rfl Kp.true (Y.sub_ rfl rfl rfl (by first | exact wrap_i64 (by omega) (by omega) | rfl)) ?_
          refine Jp.y 3 rfl (want_all rfl) rfl rfl Kp.true (Y.assign rfl rfl) ?_
          refine Jp.done hK10 ?_
          refine Cd.slot 3 rfl (show _ = Value.int .i64 ((l1 - 1 : Nat) : Int) from congrArg (Value.int .i64) (by omega)) ?_
          exact Cd.meet (hj1 (l1 - 1, d1) (PdqOk.step (l2 := l1 - 1) hok hp (by omega))) ⟨rfl, rfl, rfl, rfl, rfl, rfl, rfl, trivial⟩ ⟨rfl, trivial⟩
        · skip
          refine Cd.skip hK10 ?_
          exact Cd.meet (hj1 (l1, d) hok) ⟨rfl, rfl, rfl, rfl, rfl, rfl, rfl, trivial⟩ ⟨rfl, trivial⟩
theorem sorts4096 (n : Nat) (hn : n ≤ 4096) : SortsTo n := fun A c d hd => by
  refine Spec.of 11 Try.func111 rfl Try.ntmps111 [(0, _)] rfl rfl ?_
  intro cx ρ hr h0
  refine Cd.seq fun K35 hK35 => ?_
  refine Cd.plain [(0, false), (1, false), (2, false)] rfl rfl ?_
  refine Jp.y 3 rfl (want_all rfl) rfl rfl Kp.true (Y.move rfl rfl) ?_
  refine Jp.y 4 rfl (want_all rfl) rfl rfl Kp.true (Y.lenslice rfl Try.underlying26 rfl) ?_
  refine Jp.y 2 rfl (want_all rfl) rfl rfl Kp.true (Y.assign rfl rfl) ?_
  refine Jp.done hK35 ?_
  refine Cd.plain [(0, false), (1, false), (2, false), (3, false), (4, false), (5, false)] rfl rfl ?_
  refine Jp.y 5 rfl (want_all rfl) rfl rfl Kp.true (Y.move rfl rfl) ?_
  refine Jp.y 6 rfl (want_all rfl) rfl rfl Kp.true (Y.move rfl rfl) ?_
  refine Jp.y 7 rfl (want_all rfl) rfl rfl Kp.true (Y.move rfl rfl) ?_
  refine Jp.y 8 rfl (want_all rfl) rfl rfl Kp.true (Y.conv_ rfl rfl Try.underlying3 Try.underlying103 (by first | exact wrap_u64 (by omega) (by omega) | rfl)) ?_
  refine Jp.call [] [] (len_spec n (by omega)) 9 rfl (want_all rfl) rfl rfl (Runs.fn rfl Try.call126 rfl) (by decide) (by decide) rfl trivial ?_
  rintro v1 ρ1 L1 ⟨rfl, ⟨k, hk, rfl⟩, rfl⟩
  refine ⟨rfl, fun hle1 => ⟨Kp.true, ?_⟩⟩
  refine Jp.call [0] [0] (pdq_spec n A n c d 0 n k (Nat.le_refl _) hd (Nat.zero_le _) (Nat.le_refl _) hn hk (Or.inl rfl)) 10 rfl (want_all rfl) rfl rfl (Runs.fn rfl Try.call125 rfl) (by decide) (by decide) rfl trivial ?_
  rintro v2 ρ2 L2 ⟨rfl, rfl, R, h1, h2, rfl⟩
  refine ⟨rfl, fun hle2 => ⟨Kp.true, ?_⟩⟩
  obtain ⟨h3, h4⟩ := permIn_perm (by rw [hd]; exact h1)
  refine Jp.end [(0, _)] rfl (res0 rfl) ⟨rfl, trivial⟩ ⟨rfl, rfl, R, h4, by rw [h3, hd]; exact h2, rfl⟩
end Go.Proofs.Ytgmhijlcdadaeaa
