/- Law 4: ShadowClean. -/
import Derived.Test.YtgmhijlcdadaeaaShN
set_option linter.unusedVariables false
set_option linter.unusedSimpArgs false
set_option maxRecDepth 100000
namespace Go.Proofs.Ytgmhijlcdadaeaa
open Go
structure ActS where
  op : Int
  n : Int
  a : Nat
  l : Nat
  b : Sl UInt8
  t : List UInt8
def ActS.cells (x : ActS) : List Value := [.int .i64 x.op] ++ [.int .i64 x.n] ++ [.int .u32 (x.a : Int)] ++ [.int .u8 (x.l : Int)] ++ [x.b.v] ++ bytesV x.t
structure ActS.Rd (x : ActS) (h : Hp) : Prop where
  op : (Lit.int .i64 x.op).wf = true
  n : (Lit.int .i64 x.n).wf = true
  a : x.a < 4294967296
  l : x.l < 256
  b : RdB x.b h
  t : x.t.length = 4
theorem ActS.up (x : ActS) : Up x.Rd := fun h k l r => ⟨r.op, r.n, r.a, r.l, RdB.up _ h k l r.b, r.t⟩
def RdActSs (s : Sl ActS) : HProp := RdRows 9 ActS.cells ActS.Rd s
theorem RdActSs.up (s : Sl ActS) : Up (RdActSs s) := RdRows.up ActS.up s
theorem ActS.len (x : ActS) (h : x.t.length = 4) : x.cells.length = 9 := by
  unfold ActS.cells; simp [bytesV, h]
theorem flat_len {α : Type} {m : Nat} {c : α → List Value} : ∀ {l : List α}, (∀ x ∈ l, (c x).length = m) → (l.flatMap c).length = l.length * m
  | [], _ => by simp
  | x :: l, h => by
    rw [List.flatMap_cons, List.length_append, h x (List.mem_cons_self ..), flat_len fun y hy => h y (List.mem_cons_of_mem _ hy), List.length_cons, Nat.succ_mul]
    omega
theorem flat_get {α : Type} {m : Nat} {c : α → List Value} : ∀ {l : List α} {k j : Nat} {x : α} {v : Value}, (∀ x ∈ l, (c x).length = m) → l[k]? = some x → (c x)[j]? = some v → (l.flatMap c)[k * m + j]? = some v
  | [], _, _, _, _, _, e, _ => by simp at e
  | y :: l, 0, j, x, v, h, e, hv => by
    simp only [List.getElem?_cons_zero, Option.some.injEq] at e
    subst e
    have := (List.getElem?_eq_some_iff.1 hv).1
    rw [List.flatMap_cons, Nat.zero_mul, Nat.zero_add, List.getElem?_append_left this]
    exact hv
  | y :: l, k + 1, j, x, v, h, e, hv => by
    have hy := h y (List.mem_cons_self ..)
    rw [List.flatMap_cons, Nat.succ_mul, List.getElem?_append_right (by omega), hy, show k * m + m + j - m = k * m + j by omega]
    exact flat_get (fun z hz => h z (List.mem_cons_of_mem _ hz)) (by simpa using e) hv
theorem RdRows.atM {α : Type} {m : Nat} {c : α → List Value} {I : α → HProp} {s : Sl α} {h : Hp} (hm : ∀ x ∈ s.xs, (c x).length = m) (hm0 : 0 < m) (r : RdRows m c I s h) {k : Nat} {x : α} (e : s.xs[k]? = some x) : ∃ ad, s.A = some ad ∧ Cells h (ad.add (k * m)) (c x) ∧ I x h := by
  have hk := (List.getElem?_eq_some_iff.1 e).1
  obtain ⟨ad, hA⟩ := r.1.some (Nat.mul_pos (by omega) hm0)
  refine ⟨ad, hA, fun j v hv => ?_, r.2 x (List.mem_of_getElem? e)⟩
  obtain ⟨ad', hA', hc⟩ := r.1.2.2 (k * m + j) v (flat_get hm e hv)
  rw [hA] at hA'
  injection hA' with hA'
  subst hA'
  rw [add_add]
  exact hc
theorem setM_lab {S : ShG} (h : ShOk S.pages) {a : Nat} {bs : Bytes} (ha : a ≤ 4294967296) {x : Nat} (hx : labL (setM S a bs).2.pages x ≠ 0) : labL S.pages x ≠ 0 ∨ (a ≤ x ∧ x < a + bs.length) := by
  unfold setM at hx
  split at hx
  · exact .inl hx
  · dsimp only at hx
    rw [labL_lay h (by rw [List.length_take]; omega)] at hx
    split at hx
    · rename_i hc
      rw [List.length_take] at hc
      exact .inr (by omega)
    · exact .inl hx
theorem any_clear {S : ShG} (h : ShOk S.pages) {a : Nat} (ha : a < 4294967296) (n : Int) : anyM (clearM S a n) a n = 0 := by
  have he : endN a n = a + (endN a n - a) := by unfold endN; omega
  have hl : endN a n ≤ 4294967296 := by unfold endN; omega
  rw [anyM_gen (S := clearM S a n) (clear_ok h a _) he (by omega)]
  have : ∀ l : Bytes, (∀ y ∈ l, y = 0) → orL l = 0 := by
    intro l
    induction l with
    | nil => intro _; rfl
    | cons x l ih => intro h; rw [orL_cons, h x (List.mem_cons_self ..), ih fun y hy => h y (List.mem_cons_of_mem _ hy)]; rfl
  refine this _ fun y hy => ?_
  obtain ⟨i, hi, rfl⟩ := List.mem_map.1 hy
  have hi := List.mem_range.1 hi
  show labL (clearP S.pages a (endN a n)) (a + i) = 0
  rw [labL_clear h, if_pos (by omega)]
theorem clear_lab {S : ShG} (h : ShOk S.pages) {a : Nat} {n : Int} {x : Nat} (hx : labL (clearM S a n).pages x ≠ 0) : labL S.pages x ≠ 0 ∧ ¬ (a ≤ x ∧ x < endN a n) := by
  have hx : labL (clearP S.pages a (endN a n)) x ≠ 0 := hx
  rw [labL_clear h] at hx
  split at hx
  · exact absurd rfl hx
  · rename_i hc; exact ⟨hx, hc⟩
theorem clean_nil {l : List (Nat × Pg)} (h : ShOk l) (hz : ∀ x, x < 4294967296 → labL l x = 0) : l = [] := lab_ext h shOk_nil fun x hx => by rw [hz x hx]; rfl
def Near (xs : List ActS) (lo hi x : Nat) : Prop := ∃ j y, lo ≤ j ∧ j < hi ∧ xs[j]? = some y ∧ y.a ≤ x ∧ x < y.a + 300
theorem shadowClean_spec (l : Sl ActS) : Spec Try.prog 11 #[l.v] (RdActSs l) [] (fun ρ ρ' v L => v = .bool true ∧ L = []) := by
  obtain ⟨A, c, xs⟩ := l
  dsimp only [Sl.v]
  refine Spec.of 97 Try.func11 rfl Try.ntmps11 [(0, _)] rfl rfl ?_
  intro cx ρ hr h0
  have hrs := hr
  have lx : xs.length ≤ 281474976710656 := hrs.1.2.1.2
  refine Cd.seq fun K1 hK1 => ?_
  refine Cd.plain [(0, false)] rfl rfl ?_
  refine Jp.y 2 rfl (want_all rfl) rfl rfl Kp.true (Y.assign rfl rfl) ?_
  refine Jp.done hK1 ?_
  refine Cd.seq fun K2 hK2 => ?_
  refine Cd.seq fun K3 hK3 => ?_
  refine Cd.plain [(0, false), (1, false)] rfl rfl ?_
  refine Jp.call [] [] awake4_spec 7 rfl (want_all rfl) rfl rfl (Runs.fn rfl Try.call25 rfl) (by decide) (by decide) rfl trivial ?_
  rintro v1 ρ1 L1 ⟨rfl, rfl⟩
  refine ⟨rfl, fun hle1 => ⟨Kp.true, ?_⟩⟩
  have hrs := RdActSs.up _ _ _ hle1 hrs
  refine Jp.y 8 rfl (want_all rfl) rfl rfl Kp.true (Y.not rfl rfl) ?_
  refine Jp.done hK3 ?_
  refine Cd.cond rfl (fun g8 => ?_) (fun g8 => ?_)
  · skip
    exact absurd g8 (by simp)
  try simp only [decide_eq_false_iff_not, decide_eq_true_eq, Int.not_lt, Int.not_le, Bool.not_eq_false, Bool.not_eq_true, Bool.not_true, Bool.not_false, Bool.not_eq_true', Bool.not_eq_false', beq_eq_false_iff_ne, ne_eq, beq_iff_eq, bne_iff_ne, bne_eq_false_iff_eq, Classical.not_not] at g8
  refine Cd.skip hK2 ?_
  refine Cd.seq fun K4 hK4 => ?_
  refine Cd.seq fun K5 hK5 => ?_
  refine Cd.plain [(0, false), (1, false), (2, false)] rfl rfl ?_
  refine Jp.y 9 rfl (want_all rfl) rfl rfl Kp.true (Y.move rfl rfl) ?_
  refine Jp.y 10 rfl (want_all rfl) rfl rfl Kp.true (Y.lenslice rfl Try.underlying70 rfl) ?_
  refine Jp.y 11 rfl (want_all rfl) rfl rfl Kp.true (Y.gtr rfl rfl rfl) ?_
  refine Jp.done hK5 ?_
  refine Cd.cond rfl (fun g11 => ?_) (fun g11 => ?_)
  · skip
    refine Cd.seq fun K6 hK6 => ?_
    refine Cd.plain [(0, false)] rfl rfl ?_
    refine Jp.y 2 rfl (want_all rfl) rfl rfl Kp.true (Y.assign rfl rfl) ?_
    refine Jp.done hK6 ?_
    refine Cd.ret [] rfl (res1 rfl rfl) trivial ⟨rfl, rfl⟩
  try simp only [decide_eq_false_iff_not, decide_eq_true_eq, Int.not_lt, Int.not_le, Bool.not_eq_false, Bool.not_eq_true, Bool.not_true, Bool.not_false, Bool.not_eq_true', Bool.not_eq_false', beq_eq_false_iff_ne, ne_eq, beq_iff_eq, bne_iff_ne, bne_eq_false_iff_eq, Classical.not_not] at g11
  refine Cd.skip hK4 ?_
  refine Cd.seq fun K7 hK7 => ?_
  refine Cd.plain [(0, false), (1, false), (2, false), (3, false), (4, false), (5, false)] rfl rfl ?_
  have hm : ∀ x ∈ xs, x.cells.length = 9 := fun x hx => x.len (hrs.2 x hx).t
  refine Jp.call [] [1] (shNew_yes 100 (by omega)) 13 rfl (want_all rfl) rfl rfl (Runs.fn rfl Try.call26 rfl) (by decide) (by decide) rfl trivial ?_
  rintro v2 ρ2 L2 ⟨rfl, b, rfl, rfl⟩
  refine ⟨rfl, fun hle2 => ⟨Kp.true, ?_⟩⟩
  refine Jp.y 12 rfl (want_all rfl) rfl rfl Kp.true (Y.move rfl rfl) ?_
  refine Jp.y 14 rfl (want_all rfl) rfl rfl Kp.true (Y.extract rfl rfl rfl) ?_
  refine Jp.y 15 rfl (want_all rfl) rfl rfl Kp.true (Y.extract rfl rfl rfl) ?_
  refine Jp.y 3 rfl (want_all rfl) rfl rfl Kp.true (Y.assign rfl rfl) ?_
  refine Jp.y 4 rfl (want_all rfl) rfl rfl Kp.true (Y.assign rfl rfl) ?_
  refine Jp.done hK7 ?_
  refine Cd.seq fun K8 hK8 => ?_
  refine Cd.seq fun K9 hK9 => ?_
  refine Cd.plain [(0, false)] rfl rfl ?_
  refine Jp.y 5 rfl (want_all rfl) rfl rfl Kp.true (Y.assign rfl rfl) ?_
  refine Jp.done hK9 ?_
  refine Cd.block ?_
  refine Cd.joinG (G := ShG) (fun S => ∀ x, x < 4294967296 → labL S.pages x ≠ 0 → Near xs 0 xs.length x) (fun _ => []) [(0, _), (3, _)] ⟨rfl, rfl, trivial⟩ (fun S => [(1, ShO b S)]) [] trivial hK8 (fun g hφ => ?_) (fun hj1 => ?_)
  · obtain ⟨S0, hS0⟩ : ∃ S, S = g := ⟨_, rfl⟩
    rw [← hS0] at hφ ⊢
    refine Cd.seq fun K10 hK10 => ?_
    refine Cd.seq fun K11 hK11 => ?_
    refine Cd.plain [(0, false)] rfl rfl ?_
    refine Jp.y 6 rfl (want_all rfl) rfl rfl Kp.true (Y.assign rfl rfl) ?_
    refine Jp.done hK11 ?_
    refine Cd.block ?_
    refine Cd.loopK (G := Nat × ShG) (fun g => g.1 ≤ xs.length ∧ ∀ x, x < 4294967296 → labL g.2.pages x ≠ 0 → Near xs g.1 xs.length x) (fun g => xs.length - g.1) (fun _ => _) (fun g => [(6, .int .i64 (g.1 : Int))]) [(0, _), (3, _)] (fun g => [(1, ShO b g.2)]) [] ⟨0, S0⟩ ⟨Nat.zero_le _, hφ⟩ rfl ⟨rfl, trivial⟩ ⟨rfl, rfl, trivial⟩ ⟨rfl, trivial⟩ trivial (fun g KLa hok hLa => ?_)
    obtain ⟨i, S⟩ := g
    obtain ⟨ok1, ok2⟩ := hok
    dsimp only at ok1 ok2 ⊢
    refine Cd.know (A := ShO b S) 1 rfl ShO.ok fun hok => ?_
    obtain ⟨hS1, _⟩ := hok
    refine Cd.seq fun K12 hK12 => ?_
    refine Cd.seq fun K13 hK13 => ?_
    refine Cd.plain [(0, false), (1, false), (2, false), (3, false)] rfl rfl ?_
    refine Jp.y 80 rfl (want_all rfl) rfl rfl Kp.true (Y.move rfl rfl) ?_
    refine Jp.y 81 rfl (want_all rfl) rfl rfl Kp.true (Y.move rfl rfl) ?_
    refine Jp.y 82 rfl (want_all rfl) rfl rfl Kp.true (Y.lenslice rfl Try.underlying70 rfl) ?_
    refine Jp.y 83 rfl (want_all rfl) rfl rfl Kp.true (Y.lss rfl rfl rfl) ?_
    refine Jp.done hK13 ?_
    refine Cd.cond rfl (fun ga => ?_) (fun ga => ?_)
    · have hi : i < xs.length := by simp at ga; omega
      have hx : xs[i]? = some xs[i] := List.getElem?_eq_getElem hi
      obtain ⟨x, hxe⟩ : ∃ x, x = xs[i] := ⟨_, rfl⟩
      rw [← hxe] at hx
      obtain ⟨ad, hA, hcx, hrx⟩ := hrs.atM hm (by decide) hx
      have hA : A = some ad := hA
      subst hA
      have hal := hrx.a
      refine Cd.skip hK12 ?_
      refine Cd.seq fun K14 hK14 => ?_
      refine Cd.block ?_
      refine Cd.plain [(0, false), (1, false), (2, false), (3, false), (4, false), (5, false), (6, false)] rfl rfl ?_
      refine Jp.y 86 rfl (want_all rfl) rfl rfl Kp.true (Y.move rfl rfl) ?_
      refine Jp.y 87 rfl (want_all rfl) rfl rfl Kp.true (Y.move rfl rfl) ?_
      refine Jp.y 88 rfl (want_all rfl) rfl rfl Kp.true (Y.move rfl rfl) ?_
      refine Jp.y 89 rfl (want_all rfl) rfl rfl Kp.true (Y.indexAddr (q := i * 9) rfl rfl rfl Try.underlying70 Try.sizeOf72 (by omega) (by omega) (by omega)) ?_
      refine Jp.y 90 rfl (want_all rfl) rfl rfl Kp.true (by first | exact Y.fieldAddrP rfl rfl Try.underlying72 rfl Try.sizeOf25 (by decide) (show _ + 2 = _ from rfl) | exact Y.fieldAddr rfl rfl Try.underlying72 rfl Try.sizeOf25 (by decide)) ?_
      refine Jp.y 91 rfl (want_all rfl) rfl rfl Kp.true (Y.loadR rfl Try.isAgg25 rfl (hcx 2 _ rfl)) ?_
      refine Jp.call [1] [1] (shClear_spec b S x.a 300 hal (by omega)) 92 rfl (want_all rfl) rfl rfl (Runs.fn rfl Try.call34 rfl) (by decide) (by decide) rfl trivial ?_
      rintro v3 ρ3 L3 ⟨rfl, rfl, rfl⟩
      refine ⟨rfl, fun hle3 => ⟨Kp.true, ?_⟩⟩
      refine Jp.over rfl hK14 ?_
      refine Cd.plain [(0, false), (1, false), (2, false)] rfl rfl ?_
      refine Jp.y 84 rfl (want_all rfl) rfl rfl Kp.true (Y.move rfl rfl) ?_
      refine Jp.y 85 rfl (want_all rfl) rfl rfl Kp.true (Y.add_ rfl rfl rfl (by first | exact wrap_i64 (by omega) (by omega) | rfl)) ?_
      refine Jp.y 6 rfl (want_all rfl) rfl rfl Kp.true (Y.assign rfl rfl) ?_
      rw [show (i : Int) + 1 = ((i + 1 : Nat) : Int) by omega]
      refine Jp.again hLa ⟨i + 1, clearM S x.a 300⟩ ⟨hi, ?_⟩ (by show xs.length - (i + 1) < xs.length - i; omega) rfl ⟨rfl, rfl, rfl, trivial⟩ ⟨rfl, trivial⟩
      intro z hz hz0
      obtain ⟨h1, h2⟩ := clear_lab hS1 hz0
      obtain ⟨j, y, j1, j2, j3, j4, j5⟩ := ok2 z hz h1
      by_cases e : j = i
      · subst e
        rw [hx] at j3
        injection j3 with j3
        subst j3
        exfalso
        apply h2
        unfold endN
        omega
      · exact ⟨j, y, by show i + 1 ≤ j; omega, j2, j3, j4, j5⟩
    · have hi : i = xs.length := by simp at ga; omega
      have hnil : S.pages = [] := clean_nil hS1 fun x hx => by
        by_cases h : labL S.pages x = 0
        · exact h
        · obtain ⟨j, y, h1, h2, _⟩ := ok2 x hx h
          omega
      refine Cd.exit rfl hK10 ?_
      refine Cd.seq fun K15 hK15 => ?_
      refine Cd.plain [(0, false), (1, false), (2, false), (3, false), (4, false)] rfl rfl ?_
      refine Jp.y 93 rfl (want_all rfl) rfl rfl Kp.true (Y.move rfl rfl) ?_
      refine Jp.call [1] [1, 2] (shDirty_spec b S) 94 rfl (want_all rfl) rfl rfl (Runs.fn rfl Try.call27 rfl) (by decide) (by decide) rfl trivial ?_
      rintro v3 ρ3 L3 ⟨A3, c3, rfl, rfl⟩
      refine ⟨rfl, fun hle3 => ⟨Kp.true, ?_⟩⟩
      rw [hnil]
      refine Jp.y 95 rfl (want_all rfl) rfl rfl Kp.true (Y.lenslice rfl Try.underlying26 rfl) ?_
      refine Jp.y 96 rfl (want_all rfl) rfl rfl Kp.true (Y.eql rfl rfl rfl) ?_
      refine Jp.y 2 rfl (want_all rfl) rfl rfl Kp.true (Y.assign rfl rfl) ?_
      refine Jp.done hK15 ?_
      refine Cd.ret [] rfl (res1 rfl rfl) trivial ⟨rfl, rfl⟩
  · skip
    refine Cd.loopK (G := Nat × ShG) (fun g => g.1 ≤ xs.length ∧ ∀ x, x < 4294967296 → labL g.2.pages x ≠ 0 → Near xs 0 xs.length x) (fun g => xs.length - g.1) (fun _ => _) (fun g => [(5, .int .i64 (g.1 : Int))]) [(0, _), (3, _)] (fun g => [(1, ShO b g.2)]) [] ⟨0, ⟨100, []⟩⟩ ⟨Nat.zero_le _, fun x _ h => absurd rfl h⟩ rfl ⟨rfl, trivial⟩ ⟨rfl, rfl, trivial⟩ ⟨rfl, trivial⟩ trivial (fun g KLa hok hLa => ?_)
    obtain ⟨i, S⟩ := g
    obtain ⟨ok1, ok2⟩ := hok
    dsimp only at ok1 ok2 ⊢
    refine Cd.know (A := ShO b S) 1 rfl ShO.ok fun hok => ?_
    obtain ⟨hS1, _⟩ := hok
    refine Cd.seq fun K16 hK16 => ?_
    refine Cd.seq fun K17 hK17 => ?_
    refine Cd.plain [(0, false), (1, false), (2, false), (3, false)] rfl rfl ?_
    refine Jp.y 16 rfl (want_all rfl) rfl rfl Kp.true (Y.move rfl rfl) ?_
    refine Jp.y 17 rfl (want_all rfl) rfl rfl Kp.true (Y.move rfl rfl) ?_
    refine Jp.y 18 rfl (want_all rfl) rfl rfl Kp.true (Y.lenslice rfl Try.underlying70 rfl) ?_
    refine Jp.y 19 rfl (want_all rfl) rfl rfl Kp.true (Y.lss rfl rfl rfl) ?_
    refine Jp.done hK17 ?_
    refine Cd.cond rfl (fun ga => ?_) (fun ga => ?_)
    · have hi : i < xs.length := by simp at ga; omega
      have hx : xs[i]? = some xs[i] := List.getElem?_eq_getElem hi
      obtain ⟨x, hxe⟩ : ∃ x, x = xs[i] := ⟨_, rfl⟩
      rw [← hxe] at hx
      obtain ⟨ad, hA, hcx, hrx⟩ := hrs.atM hm (by decide) hx
      have hA : A = some ad := hA
      subst hA
      have hal := hrx.a
      have hrb : RdB x.b _ := hrx.b
      have hbl : x.b.xs.length ≤ 281474976710656 := hrb.2.1.2
      refine Cd.skip hK16 ?_
      refine Cd.seq fun K18 hK18 => ?_
      refine Cd.block ?_
      refine Cd.seq fun K19 hK19 => ?_
      refine Cd.seq fun K20 hK20 => ?_
      refine Cd.plain [(0, false), (1, false), (2, false), (3, false), (4, false), (5, false), (6, false)] rfl rfl ?_
      refine Jp.y 22 rfl (want_all rfl) rfl rfl Kp.true (Y.move rfl rfl) ?_
      refine Jp.y 23 rfl (want_all rfl) rfl rfl Kp.true (Y.move rfl rfl) ?_
      refine Jp.y 24 rfl (want_all rfl) rfl rfl Kp.true (Y.indexAddr (q := i * 9) rfl rfl rfl Try.underlying70 Try.sizeOf72 (by omega) (by omega) (by omega)) ?_
      refine Jp.y 25 rfl (want_all rfl) rfl rfl Kp.true (by first | exact Y.fieldAddrP rfl rfl Try.underlying72 rfl Try.sizeOf38 (by decide) (show _ + 4 = _ from rfl) | exact Y.fieldAddr rfl rfl Try.underlying72 rfl Try.sizeOf38 (by decide)) ?_
      refine Jp.y 26 rfl (want_all rfl) rfl rfl Kp.true (by first | exact Y.loadR rfl Try.isAgg38 rfl (hcx 4 _ rfl) | exact Y.loadR rfl Try.isAgg38 rfl (hcx 2 _ rfl)) ?_
      refine Jp.y 27 rfl (want_all rfl) rfl rfl Kp.true (Y.lenslice rfl Try.underlying38 rfl) ?_
      refine Jp.y 28 rfl (want_all rfl) rfl rfl Kp.true (Y.gtr rfl rfl rfl) ?_
      refine Jp.done hK20 ?_
      refine Cd.cond rfl (fun gl => ?_) (fun gl => ?_)
      · skip
        refine Cd.seq fun K21 hK21 => ?_
        refine Cd.plain [(0, false)] rfl rfl ?_
        refine Jp.y 2 rfl (want_all rfl) rfl rfl Kp.true (Y.assign rfl rfl) ?_
        refine Jp.done hK21 ?_
        refine Cd.ret [] rfl (res1 rfl rfl) trivial ⟨rfl, rfl⟩
      · have hl300 : x.b.xs.length ≤ 300 := by simp at gl; omega
        refine Cd.skip hK19 ?_
        refine Cd.seq fun K22 hK22 => ?_
        refine Cd.drawn [] trivial [(0, true), (1, true), (2, true), (3, true), (4, true), (5, true), (6, true), (7, true), (8, true), (9, true), (10, true), (11, false)] follows (by kernel_rfl) (fun hrl => ?_)
        refine Jp.q 29 rfl (want_all rfl) rfl rfl (Y.move rfl rfl) ?_
        refine Jp.q 30 rfl (want_all rfl) rfl rfl (Y.move rfl rfl) ?_
        refine Jp.q 31 rfl (want_all rfl) rfl rfl (Y.move rfl rfl) ?_
        refine Jp.q 32 rfl (want_all rfl) rfl rfl (Y.indexAddr (q := i * 9) rfl rfl rfl Try.underlying70 Try.sizeOf72 (by omega) (by omega) (by omega)) ?_
        refine Jp.q 33 rfl (want_all rfl) rfl rfl (by first | exact Y.fieldAddrP rfl rfl Try.underlying72 rfl Try.sizeOf25 (by decide) (show _ + 2 = _ from rfl) | exact Y.fieldAddr rfl rfl Try.underlying72 rfl Try.sizeOf25 (by decide)) ?_
        refine Jp.q 34 rfl (want_all rfl) rfl rfl (by first | exact Y.loadR rfl Try.isAgg25 rfl (hcx 4 _ rfl) | exact Y.loadR rfl Try.isAgg25 rfl (hcx 2 _ rfl)) ?_
        refine Jp.q 35 rfl (want_all rfl) rfl rfl (Y.move rfl rfl) ?_
        refine Jp.q 36 rfl (want_all rfl) rfl rfl (Y.move rfl rfl) ?_
        refine Jp.q 37 rfl (want_all rfl) rfl rfl (Y.indexAddr (q := i * 9) rfl rfl rfl Try.underlying70 Try.sizeOf72 (by omega) (by omega) (by omega)) ?_
        refine Jp.q 38 rfl (want_all rfl) rfl rfl (by first | exact Y.fieldAddrP rfl rfl Try.underlying72 rfl Try.sizeOf38 (by decide) (show _ + 4 = _ from rfl) | exact Y.fieldAddr rfl rfl Try.underlying72 rfl Try.sizeOf38 (by decide)) ?_
        refine Jp.q 39 rfl (want_all rfl) rfl rfl (by first | exact Y.loadR rfl Try.isAgg38 rfl (hcx 4 _ rfl) | exact Y.loadR rfl Try.isAgg38 rfl (hcx 2 _ rfl)) ?_
        refine Jp.call [1] [1] (shSet_spec b S x.a x.b hal (by omega)) 40 rfl (want_all rfl) rfl rfl (Runs.fn rfl Try.call30 rfl) (by decide) (by decide) rfl hrb ?_
        rintro v3 ρ3 L3 ⟨rfl, rfl, rfl⟩
        refine ⟨rfl, fun hle3 => ⟨Kp.last, ?_⟩⟩
        have hS2 := setM_ok (S := S) hS1 x.b.xs (show x.a ≤ 4294967296 by omega)
        refine Jp.done hK22 ?_
        refine Cd.seq fun K24 hK24 => ?_
        refine Cd.drawn [] trivial [(0, true), (1, true), (2, true), (3, true), (4, true), (5, true), (6, true), (7, true), (8, true), (9, true), (10, true), (11, true), (12, false)] follows (by kernel_rfl) (fun hrl => ?_)
        refine Jp.q 41 rfl (want_all rfl) rfl rfl (Y.move rfl rfl) ?_
        refine Jp.q 42 rfl (want_all rfl) rfl rfl (Y.move rfl rfl) ?_
        refine Jp.q 43 rfl (want_all rfl) rfl rfl (Y.move rfl rfl) ?_
        refine Jp.q 44 rfl (want_all rfl) rfl rfl (Y.indexAddr (q := i * 9) rfl rfl rfl Try.underlying70 Try.sizeOf72 (by omega) (by omega) (by omega)) ?_
        refine Jp.q 45 rfl (want_all rfl) rfl rfl (by first | exact Y.fieldAddrP rfl rfl Try.underlying72 rfl Try.sizeOf25 (by decide) (show _ + 2 = _ from rfl) | exact Y.fieldAddr rfl rfl Try.underlying72 rfl Try.sizeOf25 (by decide)) ?_
        refine Jp.q 46 rfl (want_all rfl) rfl rfl (by first | exact Y.loadR rfl Try.isAgg25 rfl (hcx 4 _ rfl) | exact Y.loadR rfl Try.isAgg25 rfl (hcx 2 _ rfl)) ?_
        refine Jp.q 47 rfl (want_all rfl) rfl rfl (Y.move rfl rfl) ?_
        refine Jp.q 48 rfl (want_all rfl) rfl rfl (Y.move rfl rfl) ?_
        refine Jp.q 49 rfl (want_all rfl) rfl rfl (Y.indexAddr (q := i * 9) rfl rfl rfl Try.underlying70 Try.sizeOf72 (by omega) (by omega) (by omega)) ?_
        refine Jp.q 50 rfl (want_all rfl) rfl rfl (by first | exact Y.fieldAddrP rfl rfl Try.underlying72 rfl Try.sizeOf38 (by decide) (show _ + 4 = _ from rfl) | exact Y.fieldAddr rfl rfl Try.underlying72 rfl Try.sizeOf38 (by decide)) ?_
        refine Jp.q 51 rfl (want_all rfl) rfl rfl (by first | exact Y.loadR rfl Try.isAgg38 rfl (hcx 4 _ rfl) | exact Y.loadR rfl Try.isAgg38 rfl (hcx 2 _ rfl)) ?_
        refine Jp.q 52 rfl (want_all rfl) rfl rfl (Y.lenslice rfl Try.underlying38 rfl) ?_
        refine Jp.call [1] [1] (shClear_spec b (setM S x.a x.b.xs).2 x.a (x.b.xs.length : Int) hal (by omega)) 53 rfl (want_all rfl) rfl rfl (Runs.fn rfl Try.call34 rfl) (by decide) (by decide) rfl trivial ?_
        rintro v4 ρ4 L4 ⟨rfl, rfl, rfl⟩
        refine ⟨rfl, fun hle4 => ⟨Kp.last, ?_⟩⟩
        refine Jp.done hK24 ?_
        refine Cd.seq fun K26 hK26 => ?_
        refine Cd.seq fun K27 hK27 => ?_
        refine Cd.drawn [] trivial [(0, true), (1, true), (2, true), (3, true), (4, true), (5, true), (6, true), (7, true), (8, true), (9, true), (10, true), (11, true), (12, false), (13, true)] follows (by kernel_rfl) (fun hrl => ?_)
        refine Jp.q 54 rfl (want_all rfl) rfl rfl (Y.move rfl rfl) ?_
        refine Jp.q 55 rfl (want_all rfl) rfl rfl (Y.move rfl rfl) ?_
        refine Jp.q 56 rfl (want_all rfl) rfl rfl (Y.move rfl rfl) ?_
        refine Jp.q 57 rfl (want_all rfl) rfl rfl (Y.indexAddr (q := i * 9) rfl rfl rfl Try.underlying70 Try.sizeOf72 (by omega) (by omega) (by omega)) ?_
        refine Jp.q 58 rfl (want_all rfl) rfl rfl (by first | exact Y.fieldAddrP rfl rfl Try.underlying72 rfl Try.sizeOf25 (by decide) (show _ + 2 = _ from rfl) | exact Y.fieldAddr rfl rfl Try.underlying72 rfl Try.sizeOf25 (by decide)) ?_
        refine Jp.q 59 rfl (want_all rfl) rfl rfl (by first | exact Y.loadR rfl Try.isAgg25 rfl (hcx 4 _ rfl) | exact Y.loadR rfl Try.isAgg25 rfl (hcx 2 _ rfl)) ?_
        refine Jp.q 60 rfl (want_all rfl) rfl rfl (Y.move rfl rfl) ?_
        refine Jp.q 61 rfl (want_all rfl) rfl rfl (Y.move rfl rfl) ?_
        refine Jp.q 62 rfl (want_all rfl) rfl rfl (Y.indexAddr (q := i * 9) rfl rfl rfl Try.underlying70 Try.sizeOf72 (by omega) (by omega) (by omega)) ?_
        refine Jp.q 63 rfl (want_all rfl) rfl rfl (by first | exact Y.fieldAddrP rfl rfl Try.underlying72 rfl Try.sizeOf38 (by decide) (show _ + 4 = _ from rfl) | exact Y.fieldAddr rfl rfl Try.underlying72 rfl Try.sizeOf38 (by decide)) ?_
        refine Jp.q 64 rfl (want_all rfl) rfl rfl (by first | exact Y.loadR rfl Try.isAgg38 rfl (hcx 4 _ rfl) | exact Y.loadR rfl Try.isAgg38 rfl (hcx 2 _ rfl)) ?_
        refine Jp.q 65 rfl (want_all rfl) rfl rfl (Y.lenslice rfl Try.underlying38 rfl) ?_
        refine Jp.call [1] [1] (shAny_spec b (clearM (setM S x.a x.b.xs).2 x.a (x.b.xs.length : Int)) x.a (x.b.xs.length : Int) hal (by omega)) 66 rfl (want_all rfl) rfl rfl (Runs.fn rfl Try.call33 rfl) (by decide) (by decide) rfl trivial ?_
        rintro v5 ρ5 L5 ⟨rfl, rfl, rfl⟩
        refine ⟨rfl, fun hle5 => ⟨(Kp.st trivial), ?_⟩⟩
        rw [any_clear hS2 hal]
        refine Jp.q 67 rfl (want_all rfl) rfl rfl (Y.neq rfl rfl rfl) ?_
        refine Jp.done hK27 ?_
        refine Cd.cond rfl (fun gz => ?_) (fun gz => ?_)
        · exact absurd gz (by simp)
        · have hS3 : ShOk (clearM (setM S x.a x.b.xs).2 x.a (x.b.xs.length : Int)).pages := clear_ok hS2 _ _
          refine Cd.skip hK26 ?_
          refine Cd.drawn [] trivial [(0, true), (1, true), (2, true), (3, true), (4, true), (5, true), (6, true), (7, true), (8, true), (9, true), (10, true), (11, false)] follows (by kernel_rfl) (fun hrl => ?_)
          refine Jp.q 68 rfl (want_all rfl) rfl rfl (Y.move rfl rfl) ?_
          refine Jp.q 69 rfl (want_all rfl) rfl rfl (Y.move rfl rfl) ?_
          refine Jp.q 70 rfl (want_all rfl) rfl rfl (Y.move rfl rfl) ?_
          refine Jp.q 71 rfl (want_all rfl) rfl rfl (Y.indexAddr (q := i * 9) rfl rfl rfl Try.underlying70 Try.sizeOf72 (by omega) (by omega) (by omega)) ?_
          refine Jp.q 72 rfl (want_all rfl) rfl rfl (by first | exact Y.fieldAddrP rfl rfl Try.underlying72 rfl Try.sizeOf25 (by decide) (show _ + 2 = _ from rfl) | exact Y.fieldAddr rfl rfl Try.underlying72 rfl Try.sizeOf25 (by decide)) ?_
          refine Jp.q 73 rfl (want_all rfl) rfl rfl (by first | exact Y.loadR rfl Try.isAgg25 rfl (hcx 4 _ rfl) | exact Y.loadR rfl Try.isAgg25 rfl (hcx 2 _ rfl)) ?_
          refine Jp.q 74 rfl (want_all rfl) rfl rfl (Y.move rfl rfl) ?_
          refine Jp.q 75 rfl (want_all rfl) rfl rfl (Y.move rfl rfl) ?_
          refine Jp.q 76 rfl (want_all rfl) rfl rfl (Y.indexAddr (q := i * 9) rfl rfl rfl Try.underlying70 Try.sizeOf72 (by omega) (by omega) (by omega)) ?_
          refine Jp.q 77 rfl (want_all rfl) rfl rfl (by first | exact Y.fieldAddrP rfl rfl Try.underlying72 rfl Try.sizeOf38 (by decide) (show _ + 4 = _ from rfl) | exact Y.fieldAddr rfl rfl Try.underlying72 rfl Try.sizeOf38 (by decide)) ?_
          refine Jp.q 78 rfl (want_all rfl) rfl rfl (by first | exact Y.loadR rfl Try.isAgg38 rfl (hcx 4 _ rfl) | exact Y.loadR rfl Try.isAgg38 rfl (hcx 2 _ rfl)) ?_
          refine Jp.call [1] [1] (shSet_spec b (clearM (setM S x.a x.b.xs).2 x.a (x.b.xs.length : Int)) x.a x.b hal (by omega)) 79 rfl (want_all rfl) rfl rfl (Runs.fn rfl Try.call30 rfl) (by decide) (by decide) rfl hrb ?_
          rintro v6 ρ6 L6 ⟨rfl, rfl, rfl⟩
          refine ⟨rfl, fun hle6 => ⟨Kp.last, ?_⟩⟩
          refine Jp.over rfl hK18 ?_
          refine Cd.plain [(0, false), (1, false), (2, false)] rfl rfl ?_
          refine Jp.y 20 rfl (want_all rfl) rfl rfl Kp.true (Y.move rfl rfl) ?_
          refine Jp.y 21 rfl (want_all rfl) rfl rfl Kp.true (Y.add_ rfl rfl rfl (by first | exact wrap_i64 (by omega) (by omega) | rfl)) ?_
          refine Jp.y 5 rfl (want_all rfl) rfl rfl Kp.true (Y.assign rfl rfl) ?_
          rw [show (i : Int) + 1 = ((i + 1 : Nat) : Int) by omega]
          refine Jp.again hLa ⟨i + 1, _⟩ ⟨hi, ?_⟩ (by show xs.length - (i + 1) < xs.length - i; omega) rfl ⟨rfl, rfl, rfl, trivial⟩ ⟨rfl, trivial⟩
          intro z hz hz0
          rcases setM_lab hS3 (by omega) hz0 with h | h
          · rcases setM_lab hS1 (by omega) (clear_lab hS2 h).1 with h | h
            · exact ok2 z hz h
            · exact ⟨i, x, by omega, hi, hx, h.1, by omega⟩
          · exact ⟨i, x, by omega, hi, hx, h.1, by omega⟩
    · have hi : i = xs.length := by simp at ga; omega
      refine Cd.exit rfl hK8 ?_
      exact Cd.meet (hj1 S ok2) ⟨rfl, rfl, trivial⟩ ⟨rfl, trivial⟩
end Go.Proofs.Ytgmhijlcdadaeaa
