/- Sorting by insertion. -/
import Derived.Test.YtgfbdiibndbbjaaCom
import Derived.Sort.Defs
set_option linter.unusedVariables false
set_option linter.unusedSimpArgs false
set_option maxRecDepth 100000
namespace Go.Proofs.Ytgfbdiibndbbjaa
open Go
def ltN (x y : Nat) : Bool := decide (x < y)
theorem isNaN_spec (x : Int) : Spec Try.prog 95 #[.int .u32 x] (fun _ => True) [] (fun ρ ρ' v L => ρ' = ρ ∧ v = .bool false ∧ L = []) := by
  refine Spec.of 6 Try.func95 rfl Try.ntmps95 [(0, _)] rfl rfl ?_
  intro cx ρ hr h0
  refine Cd.seq fun K1 hK1 => ?_
  refine Cd.plain [(0, false)] rfl rfl ?_
  refine Jp.y 2 rfl (want_all rfl) rfl rfl Kp.true (Y.assign rfl rfl) ?_
  refine Jp.done hK1 ?_
  refine Cd.seq fun K2 hK2 => ?_
  refine Cd.plain [(0, false), (1, false), (2, false), (3, false)] rfl rfl ?_
  refine Jp.y 3 rfl (want_all rfl) rfl rfl Kp.true (Y.move rfl rfl) ?_
  refine Jp.y 4 rfl (want_all rfl) rfl rfl Kp.true (Y.move rfl rfl) ?_
  refine Jp.y 5 rfl (want_all rfl) rfl rfl Kp.true (Y.neq rfl rfl rfl) ?_
  refine Jp.y 2 rfl (want_all rfl) rfl rfl Kp.true (Y.assign rfl rfl) ?_
  refine Jp.done hK2 ?_
  refine Cd.ret [] rfl (res1 rfl rfl) trivial ⟨rfl, by simp, rfl⟩
theorem less_spec (x y : Nat) : Spec Try.prog 85 #[.int .u32 x, .int .u32 y] (fun _ => True) [] (fun ρ ρ' v L => ρ' = ρ ∧ v = .bool (ltN x y) ∧ L = []) := by
  refine Spec.of 17 Try.func85 rfl Try.ntmps85 [(0, _), (1, _)] rfl rfl ?_
  intro cx ρ hr h0
  refine Cd.seq fun K3 hK3 => ?_
  refine Cd.plain [(0, false)] rfl rfl ?_
  refine Jp.y 4 rfl (want_all rfl) rfl rfl Kp.true (Y.assign rfl rfl) ?_
  refine Jp.done hK3 ?_
  refine Cd.seq fun K4 hK4 => ?_
  refine Cd.plain [(0, false), (1, false), (2, false), (3, false), (4, false), (5, false), (6, false), (7, false), (8, false), (9, false), (10, false), (11, false), (12, false)] rfl rfl ?_
  refine Jp.y 5 rfl (want_all rfl) rfl rfl Kp.true (Y.move rfl rfl) ?_
  refine Jp.call [] [] (isNaN_spec x) 6 rfl (want_all rfl) rfl rfl (Runs.fn rfl Try.call95 rfl) (by decide) (by decide) rfl trivial ?_
  rintro v1 ρ1 L1 ⟨rfl, rfl, rfl⟩
  refine ⟨rfl, fun hle1 => ⟨Kp.true, ?_⟩⟩
  refine Jp.y 7 rfl (want_all rfl) rfl rfl Kp.true (Y.move rfl rfl) ?_
  refine Jp.split 7 rfl (fun g7 => ?_) (fun g7 => ?_)
  · skip
    cases g7
  try simp only [decide_eq_false_iff_not, decide_eq_true_eq, Int.not_lt, Int.not_le, Bool.not_eq_false, Bool.not_eq_true, Bool.not_true, Bool.not_false, Bool.not_eq_true', Bool.not_eq_false', beq_eq_false_iff_ne, ne_eq, beq_iff_eq, bne_iff_ne, bne_eq_false_iff_eq, Classical.not_not] at g7
  refine Jp.skip 8 rfl (want_as rfl rfl rfl rfl) rfl rfl Kp.true ?_
  refine Jp.skip 9 rfl (want_as rfl rfl rfl rfl) rfl rfl Kp.true ?_
  refine Jp.skip 10 rfl (want_as rfl rfl rfl rfl) rfl rfl Kp.true ?_
  refine Jp.y 11 rfl (want_all rfl) rfl rfl Kp.true (Y.pickF rfl rfl rfl) ?_
  refine Jp.y 12 rfl (want_all rfl) rfl rfl Kp.true (Y.move rfl rfl) ?_
  refine Jp.y 13 rfl (want_as rfl rfl rfl rfl) rfl rfl Kp.true (Y.move rfl rfl) ?_
  refine Jp.y 14 rfl (want_as rfl rfl rfl rfl) rfl rfl Kp.true (Y.move rfl rfl) ?_
  refine Jp.y 15 rfl (want_as rfl rfl rfl rfl) rfl rfl Kp.true (Y.lss rfl rfl rfl) ?_
  refine Jp.y 16 rfl (want_all rfl) rfl rfl Kp.true (Y.pickF rfl rfl rfl) ?_
  refine Jp.y 4 rfl (want_all rfl) rfl rfl Kp.true (Y.assign rfl rfl) ?_
  refine Jp.done hK4 ?_
  refine Cd.ret [] rfl (res1 rfl rfl) trivial ⟨rfl, congrArg Value.bool (decide_eq_decide.2 (by omega)), rfl⟩
theorem natsV_get (k : IntKind) {l : List Nat} {q x : Nat} (h : l[q]? = some x) : (natsV k l)[q]? = some (.int k x) := by rw [natsV, List.getElem?_map, h]; rfl
theorem natsV_set (k : IntKind) (l : List Nat) (q x : Nat) : (natsV k l).set q (.int k x) = natsV k (l.set q x) := by rw [natsV, natsV, List.map_set]
theorem swp_list (d : Array Nat) {i j : Nat} (hi : i < d.size) (hj : j < d.size) : (Go.Sort.swp d i j).toList = (d.toList.set i d[j]).set j d[i] := by
  simp [Go.Sort.swp, hi, hj]
theorem swp_size (d : Array Nat) (i j : Nat) : (Go.Sort.swp d i j).size = d.size := by simp [Go.Sort.swp]
def rowO (A : Option Addr) (n c : Nat) (d : Array Nat) : HProp := OwnS 26 1 A n c (natsV .u32 d.toList)
theorem insSort_spec (A : Option Addr) (n c : Nat) (d0 : Array Nat) (a e : Nat) (hd : d0.size = n) (hae : a ≤ e) (hen : e ≤ n) (hn : n ≤ 4096) : Spec Try.prog 79 #[.slice A n c, .int .i64 a, .int .i64 e] (fun _ => True) [(0, rowO A n c d0)]
    (fun ρ ρ' v L => ρ' = ρ ∧ v = .tuple #[] ∧ L = [(0, rowO A n c (Go.Sort.insertionSort ltN d0 a e))]) := by
  refine Spec.of 49 Try.func79 rfl Try.ntmps79 [(0, _), (1, _), (2, _)] rfl rfl ?_
  intro cx ρ hr h0
  refine Cd.seq fun K5 hK5 => ?_
  refine Cd.plain [(0, false), (1, false), (2, false)] rfl rfl ?_
  refine Jp.y 8 rfl (want_all rfl) rfl rfl Kp.true (Y.move rfl rfl) ?_
  refine Jp.y 9 rfl (want_all rfl) rfl rfl Kp.true (Y.add_ rfl rfl rfl (by first | exact wrap_i64 (by omega) (by omega) | rfl)) ?_
  refine Jp.y 6 rfl (want_all rfl) rfl rfl Kp.true (Y.assign rfl rfl) ?_
  refine Jp.done hK5 ?_
  refine Cd.block ?_
  refine Cd.loopK (G := Nat × Array Nat) (fun g => Go.Sort.insOuter ltN a e g.1 g.2 = Go.Sort.insertionSort ltN d0 a e ∧ a + 1 ≤ g.1 ∧ g.1 ≤ e + 1 ∧ g.2.size = n) (fun g => e + 1 - g.1) (fun _ => _) (fun g => [(6, .int .i64 g.1)]) [(0, _), (1, _), (2, _)] (fun g => [(0, rowO A n c g.2)]) [] ⟨a + 1, d0⟩ ⟨rfl, Nat.le_refl _, (by show a + 1 ≤ e + 1; omega), hd⟩ rfl ⟨rfl, trivial⟩ ⟨rfl, rfl, rfl, trivial⟩ ⟨rfl, trivial⟩ trivial (fun g KLa hok hLa => ?_)
  obtain ⟨i, d⟩ := g
  obtain ⟨ok1, ok2, ok3, ok4⟩ := hok
  dsimp only at ok1 ok2 ok3 ok4 ⊢
  refine Cd.seq fun K6 hK6 => ?_
  refine Cd.seq fun K7 hK7 => ?_
  refine Cd.plain [(0, false), (1, false), (2, false)] rfl rfl ?_
  refine Jp.y 10 rfl (want_all rfl) rfl rfl Kp.true (Y.move rfl rfl) ?_
  refine Jp.y 11 rfl (want_all rfl) rfl rfl Kp.true (Y.move rfl rfl) ?_
  refine Jp.y 12 rfl (want_all rfl) rfl rfl Kp.true (Y.lss rfl rfl rfl) ?_
  refine Jp.done hK7 ?_
  refine Cd.cond rfl (fun ga => ?_) (fun ga => ?_)
  · simp only [decide_eq_true_eq] at ga
    have hie : i < e := by omega
    rw [Go.Sort.insOuter, if_pos hie] at ok1
    obtain ⟨d2, hd2⟩ : ∃ d2, d2 = Go.Sort.insInner ltN a i d := ⟨_, rfl⟩
    rw [← hd2] at ok1
    refine Cd.skip hK6 ?_
    refine Cd.seq fun K8 hK8 => ?_
    refine Cd.block ?_
    refine Cd.seq fun K9 hK9 => ?_
    refine Cd.plain [(0, false), (1, false)] rfl rfl ?_
    refine Jp.y 15 rfl (want_all rfl) rfl rfl Kp.true (Y.move rfl rfl) ?_
    refine Jp.y 7 rfl (want_all rfl) rfl rfl Kp.true (Y.assign rfl rfl) ?_
    refine Jp.done hK9 ?_
    refine Cd.block ?_
    refine Cd.loopK (G := Nat × Array Nat) (fun g => Go.Sort.insInner ltN a g.1 g.2 = d2 ∧ a ≤ g.1 ∧ g.1 ≤ i ∧ g.2.size = n) (fun g => g.1) (fun _ => _) (fun g => [(7, .int .i64 g.1)]) [(0, _), (1, _), (2, _), (6, _)] (fun g => [(0, rowO A n c g.2)]) [] ⟨i, d⟩ ⟨hd2.symm, (by show a ≤ i; omega), Nat.le_refl _, ok4⟩ rfl ⟨rfl, trivial⟩ ⟨rfl, rfl, rfl, rfl, trivial⟩ ⟨rfl, trivial⟩ trivial (fun g KLb hok hLb => ?_)
    obtain ⟨j, dj⟩ := g
    obtain ⟨oj1, oj2, oj3, oj4⟩ := hok
    dsimp only at oj1 oj2 oj3 oj4 ⊢
    refine Cd.seq fun K10 hK10 => ?_
    refine Cd.seq fun K11 hK11 => ?_
    refine Cd.drawn [(0, _)] ⟨rfl, trivial⟩ [(0, true), (1, true), (2, true), (3, true), (4, true), (5, true), (6, true), (7, true), (8, true), (9, true), (10, true), (11, true), (12, true), (13, false), (14, true)] follows (by kernel_rfl) (fun hrl => ?_)
    refine Jp.q 16 rfl (want_all rfl) rfl rfl (Y.move rfl rfl) ?_
    refine Jp.q 17 rfl (want_all rfl) rfl rfl (Y.move rfl rfl) ?_
    refine Jp.q 18 rfl (want_all rfl) rfl rfl (Y.gtr rfl rfl rfl) ?_
    refine Jp.q 19 rfl (want_all rfl) rfl rfl (Y.move rfl rfl) ?_
    refine Jp.splitF 19 rfl (fun g19 => ?_) (fun g19 => ?_)
    · skip
      try simp only [decide_eq_false_iff_not, decide_eq_true_eq, Int.not_lt, Int.not_le, Bool.not_eq_false, Bool.not_eq_true, Bool.not_true, Bool.not_false, Bool.not_eq_true', Bool.not_eq_false', beq_eq_false_iff_ne, ne_eq, beq_iff_eq, bne_iff_ne, bne_eq_false_iff_eq, Classical.not_not] at g19
      have e1 : Go.Sort.insInner ltN a j dj = dj := by
        cases j with
        | zero => rfl
        | succ j => rw [Go.Sort.insInner, if_neg (by simp; omega)]
      rw [e1] at oj1
      subst oj1
      refine Jp.qskip 20 rfl (want_as rfl rfl rfl rfl) rfl rfl ?_
      refine Jp.qskip 21 rfl (want_as rfl rfl rfl rfl) rfl rfl ?_
      refine Jp.qskip 22 rfl (want_as rfl rfl rfl rfl) rfl rfl ?_
      refine Jp.qskip 23 rfl (want_as rfl rfl rfl rfl) rfl rfl ?_
      refine Jp.qskip 24 rfl (want_as rfl rfl rfl rfl) rfl rfl ?_
      refine Jp.qskip 25 rfl (want_as rfl rfl rfl rfl) rfl rfl ?_
      refine Jp.qskip 26 rfl (want_as rfl rfl rfl rfl) rfl rfl ?_
      refine Jp.qskip 27 rfl (want_as rfl rfl rfl rfl) rfl rfl ?_
      refine Jp.qskip 28 rfl (want_as rfl rfl rfl rfl) rfl rfl ?_
      refine Jp.skip 29 rfl (want_as rfl rfl rfl rfl) rfl rfl (Kp.st ⟨rfl, trivial⟩) ?_
      refine Jp.q 30 rfl (want_all rfl) rfl rfl (Y.pickF rfl rfl rfl) ?_
      refine Jp.done hK11 ?_
      refine Cd.condF rfl ?_
      refine Cd.exit rfl hK8 ?_
      refine Cd.plain [(0, false), (1, false), (2, false)] rfl rfl ?_
      refine Jp.y 13 rfl (want_all rfl) rfl rfl Kp.true (Y.move rfl rfl) ?_
      refine Jp.y 14 rfl (want_all rfl) rfl rfl Kp.true (Y.add_ rfl rfl rfl (by first | exact wrap_i64 (by omega) (by omega) | rfl)) ?_
      refine Jp.y 6 rfl (want_all rfl) rfl rfl Kp.true (Y.assign rfl rfl) ?_
      refine Jp.again hLa ⟨i + 1, dj⟩ ⟨ok1, by show a + 1 ≤ i + 1; omega, by show i + 1 ≤ e + 1; omega, oj4⟩ (by show e + 1 - (i + 1) < e + 1 - i; omega) rfl ⟨rfl, rfl, rfl, rfl, trivial⟩ ⟨rfl, trivial⟩
    try simp only [decide_eq_false_iff_not, decide_eq_true_eq, Int.not_lt, Int.not_le, Bool.not_eq_false, Bool.not_eq_true, Bool.not_true, Bool.not_false, Bool.not_eq_true', Bool.not_eq_false', beq_eq_false_iff_ne, ne_eq, beq_iff_eq, bne_iff_ne, bne_eq_false_iff_eq, Classical.not_not] at g19
    refine Jp.q 20 rfl (want_as rfl rfl rfl rfl) rfl rfl (Y.move rfl rfl) ?_
    obtain ⟨q, rfl⟩ : ∃ q, j = q + 1 := ⟨j - 1, by omega⟩
    have hq1 : q + 1 < dj.size := by omega
    have hq0 : q < dj.size := by omega
    have v1 : dj.toList[q + 1]? = some dj[q + 1] := by simp
    have v0 : dj.toList[q]? = some dj[q] := by simp
    refine Jp.ownAt 0 rfl (show 0 < n by omega) ?_
    rintro b rfl
    have c1 : HasC (rowO (some ⟨b, 0, none⟩) n c dj) _ _ := OwnS.hasC (natsV_get .u32 v1)
    have c0 : HasC (rowO (some ⟨b, 0, none⟩) n c dj) _ _ := OwnS.hasC (natsV_get .u32 v0)
    have hin : Go.Sort.insInner ltN a (q + 1) dj = if (decide (q + 1 > a) && ltN dj[q + 1] dj[q]) = true then Go.Sort.insInner ltN a q (Go.Sort.swp dj (q + 1) q) else dj := by
      rw [Go.Sort.insInner]
      simp [hq1, hq0]
    have hqa : decide (q + 1 > a) = true := decide_eq_true (by omega)
    rw [hqa, Bool.true_and] at hin
    refine Jp.q 21 rfl (want_as rfl rfl rfl rfl) rfl rfl (Y.move rfl rfl) ?_
    refine Jp.q 22 rfl (want_as rfl rfl rfl rfl) rfl rfl (Y.indexAddr (q := q + 1) rfl rfl rfl Try.underlying56 Try.sizeOf26 (by omega) (by omega) (by omega)) ?_
    refine Jp.q 23 rfl (want_as rfl rfl rfl rfl) rfl rfl (by first | exact Y.loadC 0 rfl Try.isAgg26 rfl rfl c1 | exact Y.loadC 0 rfl Try.isAgg26 rfl rfl c0) ?_
    refine Jp.q 24 rfl (want_as rfl rfl rfl rfl) rfl rfl (Y.move rfl rfl) ?_
    refine Jp.q 25 rfl (want_as rfl rfl rfl rfl) rfl rfl (Y.move rfl rfl) ?_
    refine Jp.q 26 rfl (want_as rfl rfl rfl rfl) rfl rfl (Y.sub_ rfl rfl rfl (by first | exact wrap_i64 (by omega) (by omega) | rfl)) ?_
    refine Jp.q 27 rfl (want_as rfl rfl rfl rfl) rfl rfl (Y.indexAddr (q := q) rfl rfl rfl Try.underlying56 Try.sizeOf26 (by omega) (by omega) (by omega)) ?_
    refine Jp.q 28 rfl (want_as rfl rfl rfl rfl) rfl rfl (by first | exact Y.loadC 0 rfl Try.isAgg26 rfl rfl c1 | exact Y.loadC 0 rfl Try.isAgg26 rfl rfl c0) ?_
    refine Jp.call [] [] (less_spec dj[q + 1] dj[q]) 29 rfl (want_as rfl rfl rfl rfl) rfl rfl (Runs.fn rfl Try.call85 rfl) (by decide) (by decide) rfl trivial ?_
    rintro v1 ρ1 L1 ⟨rfl, rfl, rfl⟩
    refine ⟨rfl, fun hle1 => ⟨(Kp.st ⟨rfl, trivial⟩), ?_⟩⟩
    refine Jp.q 30 rfl (want_all rfl) rfl rfl (Y.pickT rfl rfl rfl) ?_
    refine Jp.done hK11 ?_
    refine Cd.cond rfl (fun gb => ?_) (fun gb => ?_)
    · rw [gb, if_pos rfl] at hin
      refine Cd.skip hK10 ?_
      refine Cd.seq fun K13 hK13 => ?_
      refine Cd.block ?_
      refine Cd.drawn3 [(0, _)] ⟨rfl, trivial⟩ [(2, true), (3, true), (4, true)] [(0, true), (1, true), (5, true), (6, true), (7, true), (8, true), (9, true), (10, true), (11, true), (12, true), (13, true), (14, true)] 15 [(16, true), (17, false)] follows (by kernel_rfl) (fun hrl => ?_)
      refine Jp2.q 35 rfl (want_all rfl) rfl rfl (fun _ => (Y.move rfl rfl)) ?_
      refine Jp2.q 36 rfl (want_all rfl) rfl rfl (fun _ => (Y.move rfl rfl)) ?_
      refine Jp2.q 37 rfl (want_all rfl) rfl rfl (fun _ => (Y.sub_ rfl rfl rfl (by first | exact wrap_i64 (by omega) (by omega) | rfl))) ?_
      refine Jp2.head ?_
      refine Jp.q 33 rfl (want_all rfl) rfl rfl (Y.move rfl rfl) ?_
      refine Jp.q 34 rfl (want_all rfl) rfl rfl (Y.move rfl rfl) ?_
      refine Jp.q 38 rfl (want_all rfl) rfl rfl (Y.move rfl rfl) ?_
      refine Jp.q 39 rfl (want_all rfl) rfl rfl (Y.move rfl rfl) ?_
      refine Jp.q 40 rfl (want_all rfl) rfl rfl (Y.sub_ rfl rfl rfl (by first | exact wrap_i64 (by omega) (by omega) | rfl)) ?_
      refine Jp.q 41 rfl (want_all rfl) rfl rfl (Y.indexAddr (q := q) rfl rfl rfl Try.underlying56 Try.sizeOf26 (by omega) (by omega) (by omega)) ?_
      refine Jp.q 42 rfl (want_all rfl) rfl rfl (by first | exact Y.loadC 0 rfl Try.isAgg26 rfl rfl c0 | exact Y.loadC 0 rfl Try.isAgg26 rfl rfl c1) ?_
      refine Jp.q 43 rfl (want_all rfl) rfl rfl (Y.move rfl rfl) ?_
      refine Jp.q 44 rfl (want_all rfl) rfl rfl (Y.move rfl rfl) ?_
      refine Jp.q 45 rfl (want_all rfl) rfl rfl (Y.indexAddr (q := q + 1) rfl rfl rfl Try.underlying56 Try.sizeOf26 (by omega) (by omega) (by omega)) ?_
      refine Jp.q 46 rfl (want_all rfl) rfl rfl (by first | exact Y.loadC 0 rfl Try.isAgg26 rfl rfl c0 | exact Y.loadC 0 rfl Try.isAgg26 rfl rfl c1) ?_
      refine Jp.q 47 rfl (want_all rfl) rfl rfl (Y.indexAddr (q := q + 1) rfl rfl rfl Try.underlying56 Try.sizeOf26 (by omega) (by omega) (by omega)) ?_
      refine Jp2.tail ?_
      refine Jp2.loud ?_
      refine Jp.storeS 0 (q := q + 1) rfl (want_all rfl) rfl rfl Try.sizeOf26 rfl rfl rfl rfl rfl (by omega) (natsV .u32 (dj.toList.set (q + 1) dj[q])) (natsV_set _ _ _ _) Kp.true ?_
      refine Jp2.tail ?_
      refine Jp2.q 48 rfl (want_all rfl) rfl rfl (fun _ => (Y.indexAddr (q := q) rfl rfl rfl Try.underlying56 Try.sizeOf26 (by omega) (by omega) (by omega))) ?_
      refine Jp2.loud ?_
      refine Jp.storeS 0 (q := q) rfl (want_all rfl) rfl rfl Try.sizeOf26 rfl rfl rfl rfl rfl (by omega) (natsV .u32 (Go.Sort.swp dj (q + 1) q).toList) (by rw [natsV_set, swp_list dj hq1 hq0]) Kp.true ?_
      refine Jp2.tail ?_
      refine Jp2.nil ?_
      refine Jp.over rfl hK13 ?_
      refine Cd.plain [(0, false), (1, false), (2, false)] rfl rfl ?_
      refine Jp.y 31 rfl (want_all rfl) rfl rfl Kp.true (Y.move rfl rfl) ?_
      refine Jp.y 32 rfl (want_all rfl) rfl rfl Kp.true (Y.sub_ rfl rfl rfl (by first | exact wrap_i64 (by omega) (by omega) | rfl)) ?_
      refine Jp.y 7 rfl (want_all rfl) rfl rfl Kp.true (Y.assign rfl rfl) ?_
      refine Jp.slot 7 rfl (congrArg (Value.int .i64) (show ((q + 1 : Nat) : Int) - 1 = (q : Int) by omega)) ?_
      refine Jp.again hLb ⟨q, Go.Sort.swp dj (q + 1) q⟩ ⟨by rw [← oj1, hin], by show a ≤ q; omega, by show q ≤ i; omega, by rw [swp_size]; exact oj4⟩ (by show q < q + 1; omega) rfl ⟨rfl, rfl, rfl, rfl, rfl, trivial⟩ ⟨rfl, trivial⟩
    · rw [gb] at hin
      rw [if_neg (by simp)] at hin
      rw [hin] at oj1
      subst oj1
      refine Cd.exit rfl hK8 ?_
      refine Cd.plain [(0, false), (1, false), (2, false)] rfl rfl ?_
      refine Jp.y 13 rfl (want_all rfl) rfl rfl Kp.true (Y.move rfl rfl) ?_
      refine Jp.y 14 rfl (want_all rfl) rfl rfl Kp.true (Y.add_ rfl rfl rfl (by first | exact wrap_i64 (by omega) (by omega) | rfl)) ?_
      refine Jp.y 6 rfl (want_all rfl) rfl rfl Kp.true (Y.assign rfl rfl) ?_
      refine Jp.again hLa ⟨i + 1, dj⟩ ⟨ok1, by show a + 1 ≤ i + 1; omega, by show i + 1 ≤ e + 1; omega, oj4⟩ (by show e + 1 - (i + 1) < e + 1 - i; omega) rfl ⟨rfl, rfl, rfl, rfl, trivial⟩ ⟨rfl, trivial⟩
  · simp only [decide_eq_false_iff_not] at ga
    have : ¬ i < e := by omega
    rw [Go.Sort.insOuter, if_neg this] at ok1
    subst ok1
    refine Cdx.end [(0, _)] rfl (res0 rfl) ⟨rfl, trivial⟩ ⟨rfl, rfl, rfl⟩
end Go.Proofs.Ytgfbdiibndbbjaa
