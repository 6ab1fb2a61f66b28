/- Several texts of ours in one file. -/
import Derived.Test.YtgfbdiibndbbjaaComX
import Derived.Test.YtgfbdiibndbbjaaMemX2
/- Contracts: put, good. -/
set_option linter.unusedVariables false
set_option linter.unusedSimpArgs false
set_option maxRecDepth 100000
namespace Go.Proofs.Ytgfbdiibndbbjaa
open Go
theorem shr_byte {x : Int} (h0 : 0 ≤ x) {j : Nat} (hj : j < 4) : IntKind.u8.wrap (x.fdiv (2 ^ (min (8 * (j : Int)).toNat IntKind.u32.bits))) = ((byteAt x j).toNat : Int) := by
  obtain ⟨n, rfl⟩ := Int.eq_ofNat_of_zero_le h0
  rw [byteAt_toNat, Int.toNat_natCast]
  have h1 : ((n : Int).fdiv (2 ^ (min (8 * (j : Int)).toNat IntKind.u32.bits))) = ((n / 2 ^ (8 * j) : Nat) : Int) := by
    have e : min (8 * (j : Int)).toNat IntKind.u32.bits = 8 * j := by
      have : IntKind.u32.bits = 32 := rfl
      omega
    rw [e, Int.fdiv_eq_ediv_of_nonneg _ (by exact Int.pow_nonneg (by omega))]
    simp
  rw [h1]
  simp only [IntKind.wrap, IntKind.bits, IntKind.signed]
  simp
theorem le32_take (x : Int) {j : Nat} (hj : j < 4) : (le32 x).take (j + 1) = (le32 x).take j ++ [byteAt x j] := by
  rcases (show j = 0 ∨ j = 1 ∨ j = 2 ∨ j = 3 by omega) with rfl | rfl | rfl | rfl <;> rfl
theorem f48_spec (A : Option Addr) (c : Nat) (pg : Bytes) (at0 : Nat) (x : Int) (hx : 0 ≤ x) (hl : pg.length = 4096) (hp : at0 + 4 ≤ 4096) : Spec Try.prog 48 #[.slice A 4096 c, .int .i64 at0, .int .u32 x] (fun _ => True) [(0, OwnS 5 1 A 4096 c (bytesV pg))]
    (fun ρ ρ' v L => ρ' = ρ ∧ v = .tuple #[] ∧ L = [(0, OwnS 5 1 A 4096 c (bytesV (lay pg at0 (le32 x))))]) := by
  refine Spec.of 21 Try.func48 rfl Try.ntmps48 [(0, _), (1, _), (2, _)] rfl rfl ?_
  intro cx ρ hr h0
  refine Cd.seq fun K1 hK1 => ?_
  refine Cd.plain [(0, false)] rfl rfl ?_
  refine Jp.y 7 rfl (want_all rfl) rfl rfl Kp.true (Y.move rfl rfl) ?_
  refine Jp.done hK1 ?_
  refine Cd.block ?_
  refine Cd.ownAt 0 rfl (by omega) ?_
  rintro b rfl
  refine Cd.imp (i := 0) (A' := OwnS 5 1 (some ⟨b, 0, none⟩) 4096 c (bytesV (lay pg at0 ((le32 x).take 0)))) rfl (fun k h => by rw [List.take_zero, lay_nil]; exact h) ?_
  refine Cd.loop (G := Nat) (fun j => j ≤ 4) (fun j => 4 - j) (fun _ => ρ) (fun j => [(0, .slice (some ⟨b, 0, none⟩) 4096 c), (1, .int .i64 at0), (2, .int .u32 x), (7, .int .i64 j)]) (fun j => [(0, OwnS 5 1 (some ⟨b, 0, none⟩) 4096 c (bytesV (lay pg at0 ((le32 x).take j))))]) 0 (by omega) rfl ⟨rfl, rfl, rfl, rfl, trivial⟩ ⟨rfl, trivial⟩ (fun g KLa hok hLa => ?_)
  refine Cd.seq fun K2 hK2 => ?_
  refine Cd.plain [(0, false)] rfl rfl ?_
  refine Jp.y 8 rfl (want_all rfl) rfl rfl Kp.true (Y.lss rfl rfl rfl) ?_
  refine Jp.done hK2 ?_
  refine Cd.seq fun K3 hK3 => ?_
  refine Cd.cond rfl (fun ga => ?_) (fun ga => ?_)
  · simp only [decide_eq_true_eq] at ga
    have hg : g < 4 := by omega
    have hll : ((le32 x).take g).length = g := by rw [List.length_take]; simp [le32]; omega
    refine Cd.skip hK3 ?_
    refine Cd.seq fun K4 hK4 => ?_
    refine Cd.block ?_
    refine Cd.seq fun K5 hK5 => ?_
    refine Cd.plain [(0, false), (1, false)] rfl rfl ?_
    refine Jp.y 9 rfl (want_all rfl) rfl rfl Kp.true (Y.move rfl rfl) ?_
    refine Jp.y 6 rfl (want_all rfl) rfl rfl Kp.true (Y.assign rfl rfl) ?_
    refine Jp.done hK5 ?_
    refine Cd.plain [(0, false), (1, false), (2, false), (3, false), (4, false), (5, false), (6, false), (7, false), (8, false), (9, false), (10, false)] rfl rfl ?_
    refine Jp.y 10 rfl (want_all rfl) rfl rfl Kp.true (Y.move rfl rfl) ?_
    refine Jp.y 11 rfl (want_all rfl) rfl rfl Kp.true (Y.move rfl rfl) ?_
    refine Jp.y 12 rfl (want_all rfl) rfl rfl Kp.true (Y.move rfl rfl) ?_
    refine Jp.y 13 rfl (want_all rfl) rfl rfl Kp.true (Y.add_ rfl rfl rfl (by first | exact wrap_i64 (by omega) (by omega) | rfl)) ?_
    refine Jp.y 14 rfl (want_all rfl) rfl rfl Kp.true (Y.move rfl rfl) ?_
    refine Jp.y 15 rfl (want_all rfl) rfl rfl Kp.true (Y.move rfl rfl) ?_
    refine Jp.y 16 rfl (want_all rfl) rfl rfl Kp.true (Y.mul_ rfl rfl rfl (by first | exact wrap_i64 (by omega) (by omega) | rfl)) ?_
    refine Jp.y 17 rfl (want_all rfl) rfl rfl Kp.true (Y.shr rfl rfl rfl (by first | decide | omega)) ?_
    refine Jp.y 18 rfl (want_all rfl) rfl rfl Kp.true (Y.conv_ rfl rfl Try.underlying26 Try.underlying5 (by first | exact wrap_u8 (by omega) (by omega) | rfl)) ?_
    refine Jp.y 19 rfl (want_all rfl) rfl rfl Kp.true (Y.indexAddr (q := at0 + g) rfl rfl rfl Try.underlying25 Try.sizeOf5 (by omega) (by omega) (by omega)) ?_
    refine Jp.storeS 0 (q := at0 + g) rfl (want_all rfl) rfl rfl Try.sizeOf5 rfl rfl rfl rfl rfl (by omega) (bytesV (lay pg at0 ((le32 x).take (g + 1)))) (by rw [shr_byte hx hg, bytesV_set, le32_take x hg, ← lay_snoc_set (by rw [hll, hl]; omega), hll]) Kp.true ?_
    refine Jp.over rfl hK4 ?_
    refine Cd.plain [(0, false), (1, false)] rfl rfl ?_
    refine Jp.y 20 rfl (want_all rfl) rfl rfl Kp.true (Y.add_ rfl rfl rfl (by first | exact wrap_i64 (by omega) (by omega) | rfl)) ?_
    refine Jp.y 7 rfl (want_all rfl) rfl rfl Kp.true (Y.move rfl rfl) ?_
    refine Jp.again hLa (g + 1) (by omega) (by omega) rfl ⟨rfl, rfl, rfl, rfl, trivial⟩ ⟨rfl, trivial⟩
  · simp only [decide_eq_false_iff_not] at ga
    obtain rfl : g = 4 := by omega
    refine Cdx.end [(0, _)] rfl (res0 rfl) ⟨rfl, trivial⟩ ⟨rfl, rfl, rfl⟩
end Go.Proofs.Ytgfbdiibndbbjaa

/- Contracts: good, great. -/
set_option linter.unusedVariables false
set_option linter.unusedSimpArgs false
set_option maxRecDepth 100000
namespace Go.Proofs.Ytgfbdiibndbbjaa
open Go
def goodS (l : List Bytes) : Bool := l.all (fun a => !a.contains 0) && decide (l.length ≤ 16)
theorem f47_spec (s : Sl ByteArray) : Spec Try.prog 47 #[s.v] (RdStr s) [] (fun ρ ρ' v L => ρ' = ρ ∧ v = .bool (goodS (s.xs.map str)) ∧ L = []) := by
  obtain ⟨A, c, xs⟩ := s
  dsimp only [Sl.v]
  refine Spec.of 18 Try.func47 rfl Try.ntmps47 [(0, _)] rfl rfl ?_
  intro cx ρ hr h0
  have ls : xs.length ≤ 281474976710656 := hr.2.1.2
  refine Cd.seq fun K1 hK1 => ?_
  refine Cd.plain [(0, false)] rfl rfl ?_
  refine Jp.y 2 rfl (want_all rfl) rfl rfl Kp.true (Y.assign rfl rfl) ?_
  refine Jp.done hK1 ?_
  refine Cd.seq fun K2 hK2 => ?_
  refine Cd.seq fun K3 hK3 => ?_
  refine Cd.plain [(0, false), (1, false), (2, false)] rfl rfl ?_
  refine Jp.y 5 rfl (want_all rfl) rfl rfl Kp.true (Y.move rfl rfl) ?_
  refine Jp.y 6 rfl (want_all rfl) rfl rfl Kp.true (Y.lenslice rfl Try.underlying22 rfl) ?_
  refine Jp.y 7 rfl (want_all rfl) rfl rfl Kp.true (Y.move rfl rfl) ?_
  refine Jp.done hK3 ?_
  refine Cd.block ?_
  refine Cd.loop (G := Nat) (fun k => k ≤ xs.length ∧ ∀ j x, j < k → xs[j]? = some x → (str x).contains 0 = false) (fun k => xs.length - k) (fun _ => ρ) (fun k => [(0, .slice A xs.length c), (5, .slice A xs.length c), (6, .int .i64 xs.length), (7, .int .i64 k)]) (fun _ => []) 0 ⟨Nat.zero_le _, fun j x h => by omega⟩ rfl ⟨rfl, rfl, rfl, rfl, trivial⟩ trivial (fun g KLa hok hLa => ?_)
  obtain ⟨ok1, ok2⟩ := hok
  refine Cd.seq fun K4 hK4 => ?_
  refine Cd.plain [(0, false)] rfl rfl ?_
  refine Jp.y 8 rfl (want_all rfl) rfl rfl Kp.true (Y.lss rfl rfl rfl) ?_
  refine Jp.done hK4 ?_
  refine Cd.seq fun K5 hK5 => ?_
  refine Cd.cond rfl (fun ga => ?_) (fun ga => ?_)
  · simp only [decide_eq_true_eq] at ga
    have hg : g < xs.length := by omega
    have hgx : xs[g]? = some xs[g] := by simp [hg]
    obtain ⟨ad, rfl⟩ := hr.some (show 0 < xs.length * 1 by omega)
    have hcell : cellH ρ (ad.add g) = some (.string xs[g]) := hr.cell (by simp [strsV, hg])
    refine Cd.skip hK5 ?_
    refine Cd.seq fun K6 hK6 => ?_
    refine Cd.block ?_
    refine Cd.seq fun K7 hK7 => ?_
    refine Cd.plain [(0, false), (1, false), (2, false)] rfl rfl ?_
    refine Jp.y 9 rfl (want_all rfl) rfl rfl Kp.true (Y.indexAddr (q := g) rfl rfl rfl Try.underlying22 Try.sizeOf9 (by omega) (by omega) (by omega)) ?_
    refine Jp.y 10 rfl (want_all rfl) rfl rfl Kp.true (Y.loadR rfl Try.isAgg9 rfl hcell) ?_
    refine Jp.y 4 rfl (want_all rfl) rfl rfl Kp.true (Y.assign rfl rfl) ?_
    refine Jp.done hK7 ?_
    refine Cd.seq fun K8 hK8 => ?_
    refine Cd.plain [(0, false), (1, false), (2, false)] rfl rfl ?_
    refine Jp.y 11 rfl (want_all rfl) rfl rfl Kp.true (Y.move rfl rfl) ?_
    refine Jp.call [] [] (f69_spec xs[g] 0) 12 rfl (want_all rfl) rfl rfl (Runs.fn rfl Try.call69 rfl) (by decide) (by decide) rfl trivial ?_
    rintro v1 ρ1 L1 ⟨rfl, rfl, rfl⟩
    refine ⟨rfl, fun hle1 => ⟨Kp.true, ?_⟩⟩
    refine Jp.y 13 rfl (want_all rfl) rfl rfl Kp.true (Y.geq rfl rfl rfl) ?_
    refine Jp.done hK8 ?_
    refine Cd.cond rfl (fun gb => ?_) (fun gb => ?_)
    · simp only [decide_eq_true_eq] at gb
      refine Cd.seq fun K9 hK9 => ?_
      refine Cd.plain [(0, false)] rfl rfl ?_
      refine Jp.y 2 rfl (want_all rfl) rfl rfl Kp.true (Y.assign rfl rfl) ?_
      refine Jp.done hK9 ?_
      refine Cd.ret [] rfl (res1 rfl rfl) trivial ⟨rfl, congrArg Value.bool ?_, rfl⟩
      have h1 : ¬ Lib.indexByte xs[g].data.toList 0 < 0 := by simpa using gb
      rw [idx_neg, Bool.not_eq_false] at h1
      have h2 : (str xs[g]).contains 0 = true := h1
      have h3 : (xs.map str).all (fun a => !a.contains 0) = false := by
        rw [Bool.eq_false_iff]
        intro h
        have := List.all_eq_true.1 h (str xs[g]) (List.mem_map.2 ⟨_, List.getElem_mem hg, rfl⟩)
        rw [h2] at this; cases this
      rw [goodS, h3]; rfl
    · simp only [decide_eq_false_iff_not] at gb
      refine Cd.over rfl hK6 ?_
      refine Cd.plain [(0, false), (1, false)] rfl rfl ?_
      refine Jp.y 14 rfl (want_all rfl) rfl rfl Kp.true (Y.add_ rfl rfl rfl (by first | exact wrap_i64 (by omega) (by omega) | rfl)) ?_
      refine Jp.y 7 rfl (want_all rfl) rfl rfl Kp.true (Y.move rfl rfl) ?_
      refine Jp.again hLa (g + 1) ⟨by omega, fun j x hj hx => ?_⟩ (by omega) rfl ⟨rfl, rfl, rfl, rfl, trivial⟩ trivial
      by_cases hjg : j < g
      · exact ok2 j x hjg hx
      · have : j = g := by omega
        subst this
        rw [hgx] at hx
        injection hx with hx
        subst hx
        have h1 : Lib.indexByte xs[j].data.toList 0 < 0 := by simpa using gb
        rw [idx_neg] at h1
        exact h1
  · simp only [decide_eq_false_iff_not] at ga
    refine Cd.exit rfl hK2 ?_
    refine Cd.seq fun K10 hK10 => ?_
    refine Cd.plain [(0, false), (1, false), (2, false), (3, false)] rfl rfl ?_
    refine Jp.y 15 rfl (want_all rfl) rfl rfl Kp.true (Y.move rfl rfl) ?_
    refine Jp.y 16 rfl (want_all rfl) rfl rfl Kp.true (Y.lenslice rfl Try.underlying22 rfl) ?_
    refine Jp.y 17 rfl (want_all rfl) rfl rfl Kp.true (Y.leq rfl rfl rfl) ?_
    refine Jp.y 2 rfl (want_all rfl) rfl rfl Kp.true (Y.assign rfl rfl) ?_
    refine Jp.done hK10 ?_
    refine Cd.ret [] rfl (res1 rfl rfl) trivial ⟨rfl, congrArg Value.bool ?_, rfl⟩
    have h1 : (xs.map str).all (fun a => !a.contains 0) = true := by
      rw [List.all_map]
      exact out_all (p := fun x => !(str x).contains 0) (fun j x hj hx => by rw [ok2 j x hj hx]; rfl) (by omega)
    rw [goodS, h1, Bool.true_and, List.length_map]
    exact decide_eq_decide.2 (by omega)
end Go.Proofs.Ytgfbdiibndbbjaa

/- Contract: Build. -/
set_option linter.unusedVariables false
set_option linter.unusedSimpArgs false
set_option maxRecDepth 100000
namespace Go.Proofs.Ytgfbdiibndbbjaa
open Go
/-! ### Plain data -/
def textP (l : List Bytes) : Bytes := l.flatMap fun a => a ++ [0]
def at0P (l : List Bytes) : Nat := 4096 - (textP l).length
def spP (l : List Bytes) : Nat := (at0P l - 4 * (l.length + 3)) / 16 * 16
def addrP (l : List Bytes) (i : Nat) : Nat := 2147475456 + at0P l + (textP (l.take i)).length
def vecP (l : List Bytes) (k : Nat) : Bytes := le32 l.length ++ (List.range k).flatMap fun i => le32 (addrP l i)
def noughts : Bytes := List.replicate 4096 0
def pageP (l : List Bytes) (k : Nat) : Bytes := lay (lay noughts (at0P l) (textP l)) (spP l) (vecP l k)
def placesP (l : List Bytes) (k : Nat) : List (Nat × Nat) := (List.range k).map fun i => (addrP l i, (l.getD i []).length)
structure Built where
  page : Bytes
  sp : Nat
  places : List (Nat × Nat)
  err : Nat
def buildP (l : List Bytes) : Built := if goodS l then (if (textP l).length ≤ 3000 then ⟨pageP l l.length, 2147475456 + spP l, placesP l l.length, 0⟩ else ⟨[], 0, [], 2⟩) else ⟨[], 0, [], 1⟩
def placesV (l : List (Nat × Nat)) : List Value := l.flatMap fun x => [.int .u32 (x.1 : Int), .int .i64 (x.2 : Int)]
theorem noughts_length : noughts.length = 4096 := List.length_replicate ..
theorem textP_snoc {l : List Bytes} {k : Nat} (hk : k < l.length) : textP (l.take (k + 1)) = textP (l.take k) ++ (l[k] ++ [0]) := by
  rw [List.take_add_one, List.getElem?_eq_getElem hk, textP, textP, List.flatMap_append]; simp
theorem textP_len {l : List Bytes} {m : Nat} (h : ∀ a ∈ l, a.length ≤ m) : ∀ k, (textP (l.take k)).length ≤ k * (m + 1) := by
  intro k
  induction k with
  | zero => simp [textP]
  | succ k ih =>
    by_cases hk : k < l.length
    · rw [textP_snoc hk]
      have := h _ (List.getElem_mem hk)
      rw [Nat.succ_mul]
      simp only [List.length_append, List.length_singleton]; omega
    · rw [Nat.succ_mul, List.take_of_length_le (by omega)]; rw [List.take_of_length_le (by omega)] at ih; omega
theorem vecP_len (l : List Bytes) : ∀ k, (vecP l k).length = 4 * (k + 1) := by
  intro k
  induction k with
  | zero => rfl
  | succ k ih =>
    rw [vecP, List.range_succ, List.flatMap_append, ← List.append_assoc, List.length_append]
    rw [vecP] at ih
    rw [ih]; simp [le32]; omega
theorem vecP_snoc (l : List Bytes) (k : Nat) : vecP l (k + 1) = vecP l k ++ le32 (addrP l k) := by
  rw [vecP, vecP, List.range_succ, List.flatMap_append, ← List.append_assoc]; simp
theorem placesP_snoc (l : List Bytes) (k : Nat) : placesP l (k + 1) = placesP l k ++ [(addrP l k, (l.getD k []).length)] := by
  rw [placesP, placesP, List.range_succ, List.map_append]; rfl
theorem placesV_snoc (l : List Bytes) (k : Nat) : placesV (placesP l k) ++ [.int .u32 (addrP l k : Int), .int .i64 ((l.getD k []).length : Int)] = placesV (placesP l (k + 1)) := by
  rw [placesP_snoc, placesV, placesV, List.flatMap_append]; rfl
theorem placesP_length (l : List Bytes) (k : Nat) : (placesP l k).length = k := by rw [placesP, List.length_map, List.length_range]
theorem pageP_snoc {l : List Bytes} {k : Nat} (h : spP l + 4 * (k + 1) ≤ 4096) (hp : (lay noughts (at0P l) (textP l)).length = 4096) : lay (pageP l k) (spP l + 4 * (k + 1)) (le32 (addrP l k)) = pageP l (k + 1) := by
  have := lay_lay (p := lay noughts (at0P l) (textP l)) (k := spP l) (a := vecP l k) (b := le32 (addrP l k)) (by rw [vecP_len, hp]; exact h)
  rw [vecP_len] at this
  rw [pageP, this, pageP, vecP_snoc]
theorem f17_spec (s : Sl ByteArray) (hn : s.xs.length ≤ 20) (hs : ∀ a ∈ s.xs, a.size ≤ 4000) : Spec Try.prog 17 #[s.v] (RdStr s) []
    (fun ρ ρ' v L => ρ' = ρ ∧ ∃ A c B d q, buildP (s.xs.map str) = q ∧ v = .tuple #[.slice A q.page.length c, .int .u32 (q.sp : Int), .slice B q.places.length d, .int .i64 (q.err : Int)] ∧ L = [(0, OwnS 5 1 A q.page.length c (bytesV q.page)), (1, OwnS 32 2 B q.places.length d (placesV q.places))]) := by
  obtain ⟨A, c, xs⟩ := s
  have hn : xs.length ≤ 20 := hn
  have hs : ∀ a ∈ xs, a.size ≤ 4000 := hs
  have hsl : ∀ a ∈ xs.map str, a.length ≤ 4000 := fun a ha => by
    obtain ⟨x, hx, rfl⟩ := List.mem_map.1 ha
    rw [← str_size]; exact hs x hx
  have htl := textP_len hsl
  dsimp only [Sl.v]
  refine Spec.of 93 Try.func17 rfl Try.ntmps17 [(0, _)] rfl rfl ?_
  intro cx ρ hr h0
  refine Cd.seq fun K1 hK1 => ?_
  refine Cd.plain [(0, false), (1, false), (2, false), (3, false)] rfl rfl ?_
  refine Jp.y 2 rfl (want_all rfl) rfl rfl Kp.true (Y.assign rfl rfl) ?_
  refine Jp.y 3 rfl (want_all rfl) rfl rfl Kp.true (Y.assign rfl rfl) ?_
  refine Jp.y 4 rfl (want_all rfl) rfl rfl Kp.true (Y.assign rfl rfl) ?_
  refine Jp.y 5 rfl (want_all rfl) rfl rfl Kp.true (Y.assign rfl rfl) ?_
  refine Jp.done hK1 ?_
  refine Cd.seq fun K2 hK2 => ?_
  refine Cd.seq fun K3 hK3 => ?_
  refine Cd.plain [(0, false), (1, false), (2, false)] rfl rfl ?_
  refine Jp.y 16 rfl (want_all rfl) rfl rfl Kp.true (Y.move rfl rfl) ?_
  refine Jp.call [] [] (f47_spec ⟨A, c, xs⟩) 17 rfl (want_all rfl) rfl rfl (Runs.fn rfl Try.call47 rfl) (by decide) (by decide) rfl hr ?_
  rintro v1 ρ1 L1 ⟨rfl, rfl, rfl⟩
  refine ⟨rfl, fun hle1 => ⟨Kp.true, ?_⟩⟩
  refine Jp.y 18 rfl (want_all rfl) rfl rfl Kp.true (Y.not rfl rfl) ?_
  refine Jp.done hK3 ?_
  refine Cd.cond rfl (fun ga => ?_) (fun ga => ?_)
  · rw [Bool.not_eq_true'] at ga
    refine Cd.seq fun K4 hK4 => ?_
    refine Cd.plain [(0, false), (1, false), (2, false), (3, false)] rfl rfl ?_
    refine Jp.y 2 rfl (want_all rfl) rfl rfl Kp.true (Y.assign rfl rfl) ?_
    refine Jp.y 3 rfl (want_all rfl) rfl rfl Kp.true (Y.assign rfl rfl) ?_
    refine Jp.y 4 rfl (want_all rfl) rfl rfl Kp.true (Y.assign rfl rfl) ?_
    refine Jp.y 5 rfl (want_all rfl) rfl rfl Kp.true (Y.assign rfl rfl) ?_
    refine Jp.done hK4 ?_
    refine Cd.make 0 (OwnS.nil 5 1 Hp.emp) ?_
    refine Cd.make 1 (OwnS.nil 32 2 Hp.emp) ?_
    refine Cd.ret [(0, _), (1, _)] rfl (res4 rfl rfl rfl rfl rfl) ⟨rfl, rfl, trivial⟩ ?_
    have e : buildP (xs.map str) = ⟨[], 0, [], 1⟩ := by rw [buildP, ga]; rfl
    exact ⟨rfl, none, 0, none, 0, _, e, rfl, rfl⟩
  · rw [Bool.not_eq_false'] at ga
    refine Cd.skip hK2 ?_
    refine Cd.seq fun K5 hK5 => ?_
    refine Cd.plain [(0, false)] rfl rfl ?_
    refine Jp.y 6 rfl (want_all rfl) rfl rfl Kp.true (Y.assign rfl rfl) ?_
    refine Jp.done hK5 ?_
    refine Cd.seq fun K6 hK6 => ?_
    refine Cd.seq fun K7 hK7 => ?_
    refine Cd.plain [(0, false), (1, false), (2, false)] rfl rfl ?_
    refine Jp.y 19 rfl (want_all rfl) rfl rfl Kp.true (Y.move rfl rfl) ?_
    refine Jp.y 20 rfl (want_all rfl) rfl rfl Kp.true (Y.lenslice rfl Try.underlying22 rfl) ?_
    refine Jp.y 21 rfl (want_all rfl) rfl rfl Kp.true (Y.move rfl rfl) ?_
    refine Jp.done hK7 ?_
    refine Cd.block ?_
    refine Cd.loop (G := Nat) (fun k => k ≤ xs.length) (fun k => xs.length - k) (fun _ => ρ1) (fun k => [(0, .slice A xs.length c), (19, .slice A xs.length c), (20, .int .i64 xs.length), (21, .int .i64 k), (6, .string (mkS (textP ((xs.map str).take k))))]) (fun _ => []) 0 (Nat.zero_le _) rfl ⟨rfl, rfl, rfl, rfl, rfl, trivial⟩ trivial (fun g KLa hok hLa => ?_)
    refine Cd.seq fun K8 hK8 => ?_
    refine Cd.plain [(0, false)] rfl rfl ?_
    refine Jp.y 22 rfl (want_all rfl) rfl rfl Kp.true (Y.lss rfl rfl rfl) ?_
    refine Jp.done hK8 ?_
    refine Cd.seq fun K9 hK9 => ?_
    refine Cd.cond rfl (fun gb => ?_) (fun gb => ?_)
    · simp only [decide_eq_true_eq] at gb
      have hg : g < xs.length := by omega
      have hgx : xs[g]? = some xs[g] := by simp [hg]
      obtain ⟨ad, rfl⟩ := hr.some (show 0 < xs.length * 1 by omega)
      have hcell : cellH ρ1 (ad.add g) = some (.string xs[g]) := hr.cell (by simp [strsV, hg])
      have hz := hs xs[g] (List.getElem_mem hg)
      have hz2 := str_size xs[g]
      have hz3 := htl g
      refine Cd.skip hK9 ?_
      refine Cd.seq fun K10 hK10 => ?_
      refine Cd.block ?_
      refine Cd.seq fun K11 hK11 => ?_
      refine Cd.plain [(0, false), (1, false), (2, false)] rfl rfl ?_
      refine Jp.y 23 rfl (want_all rfl) rfl rfl Kp.true (Y.indexAddr (q := g) rfl rfl rfl Try.underlying22 Try.sizeOf9 (by omega) (by omega) (by omega)) ?_
      refine Jp.y 24 rfl (want_all rfl) rfl rfl Kp.true (Y.loadR rfl Try.isAgg9 rfl hcell) ?_
      refine Jp.y 8 rfl (want_all rfl) rfl rfl Kp.true (Y.assign rfl rfl) ?_
      refine Jp.done hK11 ?_
      refine Cd.plain [(0, false), (1, false), (2, false), (3, false), (4, false)] rfl rfl ?_
      refine Jp.y 25 rfl (want_all rfl) rfl rfl Kp.true (Y.move rfl rfl) ?_
      refine Jp.y 26 rfl (want_all rfl) rfl rfl Kp.true (Y.move rfl rfl) ?_
      refine Jp.y 27 rfl (want_all rfl) rfl rfl Kp.true (Y.stradd' rfl rfl rfl (show (str xs[g]).length + 1 ≤ 9223372036854775807 by omega)) ?_
      refine Jp.y 28 rfl (want_all rfl) rfl rfl Kp.true (Y.stradd' rfl rfl rfl (by rw [str_mkS, str_mkS, List.length_append]; show _ + (_ + 1) ≤ 9223372036854775807; omega)) ?_
      refine Jp.y 6 rfl (want_all rfl) rfl rfl Kp.true (Y.assign rfl rfl) ?_
      refine Jp.over rfl hK10 ?_
      refine Cd.plain [(0, false), (1, false)] rfl rfl ?_
      refine Jp.y 29 rfl (want_all rfl) rfl rfl Kp.true (Y.add_ rfl rfl rfl (by first | exact wrap_i64 (by omega) (by omega) | rfl)) ?_
      refine Jp.y 21 rfl (want_all rfl) rfl rfl Kp.true (Y.move rfl rfl) ?_
      have e1 : mkS (str (mkS (textP ((xs.map str).take g))) ++ str (mkS (str xs[g] ++ str ⟨#[0]⟩))) = mkS (textP ((xs.map str).take (g + 1))) := by
        rw [textP_snoc (by simpa using hg), str_mkS, str_mkS]; simp; rfl
      rw [e1]
      refine Jp.again hLa (g + 1) (by omega) (by omega) rfl ⟨rfl, rfl, rfl, rfl, rfl, trivial⟩ trivial
    · simp only [decide_eq_false_iff_not] at gb
      have hgn : g = xs.length := by omega
      rw [List.take_of_length_le (by rw [List.length_map]; omega)]
      have hT := htl xs.length
      rw [List.take_of_length_le (by rw [List.length_map]; omega)] at hT
      have hsz : (mkS (textP (xs.map str))).size = (textP (xs.map str)).length := mkS_size _
      refine Cd.exit rfl hK6 ?_
      refine Cd.seq fun K12 hK12 => ?_
      refine Cd.seq fun K13 hK13 => ?_
      refine Cd.plain [(0, false), (1, false), (2, false)] rfl rfl ?_
      refine Jp.y 30 rfl (want_all rfl) rfl rfl Kp.true (Y.move rfl rfl) ?_
      refine Jp.y 31 rfl (want_all rfl) rfl rfl Kp.true (Y.lenstr rfl Try.underlying9 rfl) ?_
      refine Jp.y 32 rfl (want_all rfl) rfl rfl Kp.true (Y.gtr rfl rfl rfl) ?_
      refine Jp.done hK13 ?_
      refine Cd.cond rfl (fun gc => ?_) (fun gc => ?_)
      · simp only [decide_eq_true_eq] at gc
        refine Cd.seq fun K14 hK14 => ?_
        refine Cd.plain [(0, false), (1, false), (2, false), (3, false)] rfl rfl ?_
        refine Jp.y 2 rfl (want_all rfl) rfl rfl Kp.true (Y.assign rfl rfl) ?_
        refine Jp.y 3 rfl (want_all rfl) rfl rfl Kp.true (Y.assign rfl rfl) ?_
        refine Jp.y 4 rfl (want_all rfl) rfl rfl Kp.true (Y.assign rfl rfl) ?_
        refine Jp.y 5 rfl (want_all rfl) rfl rfl Kp.true (Y.assign rfl rfl) ?_
        refine Jp.done hK14 ?_
        refine Cd.make 0 (OwnS.nil 5 1 Hp.emp) ?_
        refine Cd.make 1 (OwnS.nil 32 2 Hp.emp) ?_
        refine Cd.ret [(0, _), (1, _)] rfl (res4 rfl rfl rfl rfl rfl) ⟨rfl, rfl, trivial⟩ ?_
        have e : buildP (xs.map str) = ⟨[], 0, [], 2⟩ := by rw [buildP, ga, if_pos rfl, if_neg (by omega)]
        exact ⟨rfl, none, 0, none, 0, _, e, rfl, rfl⟩
      · simp only [decide_eq_false_iff_not] at gc
        have hT3 : (textP (xs.map str)).length ≤ 3000 := by omega
        have hn16 : xs.length ≤ 16 := by
          simp only [goodS, Bool.and_eq_true, decide_eq_true_eq, List.length_map] at ga
          exact ga.2
        refine Cd.skip hK12 ?_
        refine Cd.seq fun K15 hK15 => ?_
        refine Cd.plain [(0, false), (1, false)] rfl rfl ?_
        refine Jp.makeSlice (k := 4096) 33 0 rfl (want_all rfl) rfl rfl rfl Try.underlying25 Try.sizeOf5 Try.typeInfo5 Try.zeroValue5 rfl rfl rfl (by first | rfl | omega) (by first | rfl | omega) (by simp only [Try.t5]; omega) (by omega) fun b0 => ⟨Kp.true, ?_⟩
        refine Jp.imp (j := 0) (A' := OwnS 5 1 (some ⟨b0, 0, none⟩) 4096 4096 (bytesV noughts)) rfl (fun k h => by rw [bytesV, noughts, List.map_replicate]; exact h) ?_
        have hnl := noughts_length
        refine Jp.y 9 rfl (want_all rfl) rfl rfl Kp.true (Y.assign rfl rfl) ?_
        refine Jp.done hK15 ?_
        refine Cd.seq fun K16 hK16 => ?_
        refine Cd.plain [(0, false), (1, false), (2, false), (3, false)] rfl rfl ?_
        refine Jp.y 34 rfl (want_all rfl) rfl rfl Kp.true (Y.move rfl rfl) ?_
        refine Jp.y 35 rfl (want_all rfl) rfl rfl Kp.true (Y.lenstr rfl Try.underlying9 rfl) ?_
        refine Jp.y 36 rfl (want_all rfl) rfl rfl Kp.true (Y.sub_ rfl rfl rfl (by first | exact wrap_i64 (by omega) (by omega) | rfl)) ?_
        refine Jp.y 10 rfl (want_all rfl) rfl rfl Kp.true (Y.assign rfl rfl) ?_
        refine Jp.done hK16 ?_
        refine Cd.seq fun K17 hK17 => ?_
        refine Cd.plain [(0, false), (1, false), (2, false), (3, false), (4, false)] rfl rfl ?_
        have e0 : (4096 : Int) - ((mkS (textP (xs.map str))).size : Int) = (at0P (xs.map str) : Int) := by rw [hsz, at0P]; omega
        rw [e0]
        have hat : at0P (xs.map str) + (textP (xs.map str)).length = 4096 := by rw [at0P]; omega
        obtain ⟨a0, ha0⟩ : ∃ a0, a0 = at0P (xs.map str) := ⟨_, rfl⟩
        rw [← ha0] at hat ⊢
        have hnew : (bytesV (str (mkS (textP (xs.map str))))).take (textP (xs.map str)).length = bytesV (textP (xs.map str)) := by rw [str_mkS, List.take_of_length_le (by rw [bytesV, List.length_map]; exact Nat.le_refl _)]
        have hlp : (lay noughts a0 (textP (xs.map str))).length = 4096 := by rw [lay_length (by omega), hnl]
        refine Jp.y 37 rfl (want_all rfl) rfl rfl Kp.true (Y.move rfl rfl) ?_
        refine Jp.y 38 rfl (want_all rfl) rfl rfl Kp.true (Y.move rfl rfl) ?_
        refine Jp.y 39 rfl (want_all rfl) rfl rfl Kp.true (Y.sliceFrom (lo := a0) rfl rfl rfl Try.underlying25 Try.sizeOf5 (by omega) (by omega)) ?_
        refine Jp.y 40 rfl (want_all rfl) rfl rfl Kp.true (Y.move rfl rfl) ?_
        refine Jp.copyAt (r := (textP (xs.map str)).length) 41 0 (a0) rfl (want_all rfl) rfl rfl rfl Try.underlying25 Try.sizeOf5 rfl rfl rfl (SrcN.str (k := (textP (xs.map str)).length) (by rw [hsz]; exact Nat.le_refl _)) (by omega) (by rw [hsz]; exact Nat.min_eq_left (by omega)) (all_take1 (bytesV_one _)) (bytesV (lay noughts a0 (textP (xs.map str)))) (by rw [hnew, Nat.mul_one, Nat.mul_one, bytesV_lay]) ⟨Kp.true, ?_⟩
        refine Jp.done hK17 ?_
        refine Cd.seq fun K18 hK18 => ?_
        refine Cd.plain [(0, false), (1, false), (2, false), (3, false), (4, false), (5, false), (6, false), (7, false), (8, false)] rfl rfl ?_
        refine Jp.y 42 rfl (want_all rfl) rfl rfl Kp.true (Y.move rfl rfl) ?_
        refine Jp.y 43 rfl (want_all rfl) rfl rfl Kp.true (Y.move rfl rfl) ?_
        refine Jp.y 44 rfl (want_all rfl) rfl rfl Kp.true (Y.lenslice rfl Try.underlying22 rfl) ?_
        refine Jp.y 45 rfl (want_all rfl) rfl rfl Kp.true (Y.add_ rfl rfl rfl (by first | exact wrap_i64 (by omega) (by omega) | rfl)) ?_
        refine Jp.y 46 rfl (want_all rfl) rfl rfl Kp.true (Y.mul_ rfl rfl rfl (by first | exact wrap_i64 (by omega) (by omega) | rfl)) ?_
        refine Jp.y 47 rfl (want_all rfl) rfl rfl Kp.true (Y.sub_ rfl rfl rfl (by first | exact wrap_i64 (by omega) (by omega) | rfl)) ?_
        refine Jp.y 48 rfl (want_all rfl) rfl rfl Kp.true (by first | exact Y.quoN rfl rfl rfl (by omega) (by omega) (wrap_i64 (by omega) (by omega)) | exact Y.quo rfl rfl rfl (by first | decide | omega)) ?_
        have e2 : ((a0 : Int) - 4 * ((xs.length : Int) + 3)) / 16 = (((a0 - 4 * (xs.length + 3)) / 16 : Nat) : Int) := by omega
        rw [e2]
        refine Jp.y 49 rfl (want_all rfl) rfl rfl Kp.true (Y.mul_ rfl rfl rfl (by first | exact wrap_i64 (by omega) (by omega) | rfl)) ?_
        obtain ⟨s0, hs0⟩ : ∃ s0, s0 = spP (xs.map str) := ⟨_, rfl⟩
        have hs1 : s0 = (a0 - 4 * (xs.length + 3)) / 16 * 16 := by rw [hs0, spP, ← ha0, List.length_map]
        rw [show (((a0 - 4 * (xs.length + 3)) / 16 : Nat) : Int) * 16 = (s0 : Int) by rw [hs1]; omega]
        refine Jp.y 11 rfl (want_all rfl) rfl rfl Kp.true (Y.assign rfl rfl) ?_
        refine Jp.done hK18 ?_
        refine Cd.seq fun K19 hK19 => ?_
        refine Cd.plain [(0, false), (1, false), (2, false), (3, false), (4, false), (5, false)] rfl rfl ?_
        refine Jp.y 50 rfl (want_all rfl) rfl rfl Kp.true (Y.move rfl rfl) ?_
        refine Jp.y 51 rfl (want_all rfl) rfl rfl Kp.true (Y.move rfl rfl) ?_
        refine Jp.y 52 rfl (want_all rfl) rfl rfl Kp.true (Y.move rfl rfl) ?_
        refine Jp.y 53 rfl (want_all rfl) rfl rfl Kp.true (Y.lenslice rfl Try.underlying22 rfl) ?_
        refine Jp.y 54 rfl (want_all rfl) rfl rfl Kp.true (Y.conv_ rfl rfl Try.underlying3 Try.underlying26 (by first | exact wrap_u32 (by omega) (by omega) | rfl)) ?_
        refine Jp.call [0] [0] (f48_spec (some ⟨b0, 0, none⟩) 4096 (lay noughts a0 (textP (xs.map str))) s0 xs.length (by omega) hlp (by omega)) 55 rfl (want_all rfl) rfl rfl (Runs.fn rfl Try.call48 rfl) (by decide) (by decide) rfl trivial ?_
        rintro v5 ρ5 L5 ⟨rfl, rfl, rfl⟩
        refine ⟨rfl, fun hle5 => ⟨Kp.true, ?_⟩⟩
        have hpl : (lay noughts (at0P (xs.map str)) (textP (xs.map str))).length = 4096 := by rw [← ha0]; exact hlp
        have hml : (xs.map str).length = xs.length := List.length_map ..
        refine Jp.imp (j := 0) (A' := OwnS 5 1 (some ⟨b0, 0, none⟩) 4096 4096 (bytesV (pageP (xs.map str) 0))) rfl (fun k h => by rw [pageP, ← hs0, ← ha0, show vecP (xs.map str) 0 = le32 (xs.length : Int) by rw [vecP, hml]; simp]; exact h) ?_
        refine Jp.done hK19 ?_
        refine Cd.seq fun K20 hK20 => ?_
        refine Cd.plain [(0, false)] rfl rfl ?_
        refine Jp.y 12 rfl (want_all rfl) rfl rfl Kp.true (Y.assign rfl rfl) ?_
        refine Jp.done hK20 ?_
        refine Cd.seq fun K21 hK21 => ?_
        refine Cd.seq fun K22 hK22 => ?_
        refine Cd.plain [(0, false), (1, false), (2, false)] rfl rfl ?_
        refine Jp.y 56 rfl (want_all rfl) rfl rfl Kp.true (Y.move rfl rfl) ?_
        refine Jp.y 57 rfl (want_all rfl) rfl rfl Kp.true (Y.lenslice rfl Try.underlying22 rfl) ?_
        refine Jp.y 58 rfl (want_all rfl) rfl rfl Kp.true (Y.move rfl rfl) ?_
        refine Jp.done hK22 ?_
        refine Cd.block ?_
        refine Cd.make 1 (show OwnS 32 2 none 0 0 (placesV (placesP (xs.map str) 0)) Hp.emp from OwnS.nil 32 2 Hp.emp) ?_
        have hat0 : (a0 : Int) = ((a0 + (textP ((xs.map str).take 0)).length : Nat) : Int) := rfl
        rw [hat0]
        refine Cd.loop (G := Nat × Option Addr × Nat) (fun g => g.1 ≤ xs.length) (fun g => xs.length - g.1) (fun _ => ρ5) (fun g => [(9, .slice (some ⟨b0, 0, none⟩) 4096 4096), (10, .int .i64 ((a0 + (textP ((xs.map str).take g.1)).length : Nat) : Int)), (11, .int .i64 s0), (12, .slice g.2.1 g.1 g.2.2), (56, .slice A xs.length c), (57, .int .i64 xs.length), (58, .int .i64 g.1)]) (fun g => [(0, OwnS 5 1 (some ⟨b0, 0, none⟩) 4096 4096 (bytesV (pageP (xs.map str) g.1))), (1, OwnS 32 2 g.2.1 g.1 g.2.2 (placesV (placesP (xs.map str) g.1)))]) (0, none, 0) (Nat.zero_le _) rfl ⟨rfl, rfl, rfl, rfl, rfl, rfl, rfl, trivial⟩ ⟨rfl, rfl, trivial⟩ (fun g KLb hok hLb => ?_)
        obtain ⟨k, B, d⟩ := g
        dsimp only at hok ⊢
        refine Cd.seq fun K23 hK23 => ?_
        refine Cd.plain [(0, false)] rfl rfl ?_
        refine Jp.y 59 rfl (want_all rfl) rfl rfl Kp.true (Y.lss rfl rfl rfl) ?_
        refine Jp.done hK23 ?_
        refine Cd.seq fun K24 hK24 => ?_
        refine Cd.cond rfl (fun gd => ?_) (fun gd => ?_)
        · simp only [decide_eq_true_eq] at gd
          have hk : k < xs.length := by omega
          obtain ⟨ad, rfl⟩ := hr.some (show 0 < xs.length * 1 by omega)
          have hcell : cellH ρ5 (ad.add k) = some (.string xs[k]) := hr.cell (by simp [strsV, hk])
          have hz := hs xs[k] (List.getElem_mem hk)
          have hz2 := str_size xs[k]
          have hz3 := htl k
          have hsn := textP_snoc (l := xs.map str) (k := k) (by rw [hml]; exact hk)
          have hsn2 : (textP ((xs.map str).take (k + 1))).length = (textP ((xs.map str).take k)).length + (xs[k].size + 1) := by rw [hsn, List.getElem_map, hz2]; simp
          have hle : (textP ((xs.map str).take k)).length ≤ (textP (xs.map str)).length := by
            have := congrArg (fun l => (textP l).length) (List.take_append_drop k (xs.map str))
            simp only [textP, List.flatMap_append, List.length_append] at this
            simp only [textP]; omega
          have hadr : (2147475456 : Int) + ((a0 + (textP ((xs.map str).take k)).length : Nat) : Int) = (addrP (xs.map str) k : Int) := by rw [addrP, ← ha0]; omega
          refine Cd.skip hK24 ?_
          refine Cd.seq fun K25 hK25 => ?_
          refine Cd.block ?_
          refine Cd.seq fun K26 hK26 => ?_
          refine Cd.plain [(0, false), (1, false), (2, false), (3, false), (4, false)] rfl rfl ?_
          refine Jp.y 60 rfl (want_all rfl) rfl rfl Kp.true (Y.move rfl rfl) ?_
          refine Jp.y 61 rfl (want_all rfl) rfl rfl Kp.true (Y.indexAddr (q := k) rfl rfl rfl Try.underlying22 Try.sizeOf9 (by omega) (by omega) (by omega)) ?_
          refine Jp.y 62 rfl (want_all rfl) rfl rfl Kp.true (Y.loadR rfl Try.isAgg9 rfl hcell) ?_
          refine Jp.y 13 rfl (want_all rfl) rfl rfl Kp.true (Y.assign rfl rfl) ?_
          refine Jp.y 14 rfl (want_all rfl) rfl rfl Kp.true (Y.assign rfl rfl) ?_
          refine Jp.done hK26 ?_
          refine Cd.seq fun K27 hK27 => ?_
          refine Cd.plain [(0, false), (1, false), (2, false), (3, false), (4, false), (5, false), (6, false), (7, false)] rfl rfl ?_
          refine Jp.y 63 rfl (want_all rfl) rfl rfl Kp.true (Y.move rfl rfl) ?_
          refine Jp.y 64 rfl (want_all rfl) rfl rfl Kp.true (Y.conv_ rfl rfl Try.underlying3 Try.underlying26 (by first | exact wrap_u32 (by omega) (by omega) | rfl)) ?_
          refine Jp.y 65 rfl (want_all rfl) rfl rfl Kp.true (Y.add_ rfl rfl rfl (by first | exact wrap_u32 (by omega) (by omega) | rfl)) ?_
          refine Jp.y 66 rfl (want_all rfl) rfl rfl Kp.true (Y.move rfl rfl) ?_
          refine Jp.y 67 rfl (want_all rfl) rfl rfl Kp.true (Y.lenstr rfl Try.underlying9 rfl) ?_
          refine Jp.y 68 rfl (want_all rfl) rfl rfl Kp.true (Y.struct [(0, _), (1, _)] [_, _] rfl rfl places32 Try.zeroValue32 rfl) ?_
          refine Jp.alloc 2 15 rfl (want_all rfl) rfl rfl rfl Try.zeroValue32 fun b2 => ⟨Kp.true, ?_⟩
          first | refine Jp.storeAgg 2 rfl (want_all rfl) rfl rfl Try.sizeOf32 rfl rfl rfl rfl rfl rfl (fun k _ _ => noFr0 k) Kp.true ?_
          refine Jp.done hK27 ?_
          refine Cd.seq fun K28 hK28 => ?_
          refine Cd.plain [(0, false), (1, false), (2, false), (3, false), (4, false), (5, false), (6, false), (7, false), (8, false)] rfl rfl ?_
          rw [hadr]
          refine Jp.y 69 rfl (want_all rfl) rfl rfl Kp.true (Y.move rfl rfl) ?_
          refine Jp.y 70 rfl (want_all rfl) rfl rfl Kp.true (Y.move rfl rfl) ?_
          refine Jp.y 71 rfl (want_all rfl) rfl rfl Kp.true (Y.move rfl rfl) ?_
          refine Jp.y 72 rfl (want_all rfl) rfl rfl Kp.true (Y.add_ rfl rfl rfl (by first | exact wrap_i64 (by omega) (by omega) | rfl)) ?_
          refine Jp.y 73 rfl (want_all rfl) rfl rfl Kp.true (Y.mul_ rfl rfl rfl (by first | exact wrap_i64 (by omega) (by omega) | rfl)) ?_
          refine Jp.y 74 rfl (want_all rfl) rfl rfl Kp.true (Y.add_ rfl rfl rfl (by first | exact wrap_i64 (by omega) (by omega) | rfl)) ?_
          refine Jp.y 75 rfl (want_all rfl) rfl rfl Kp.true (by first | exact Y.fieldAddrP rfl rfl Try.underlying32 rfl Try.sizeOf26 (by decide) (show _ + 0 = _ from rfl) | exact Y.fieldAddr rfl rfl Try.underlying32 rfl Try.sizeOf26 (by decide)) ?_
          refine Jp.y 76 rfl (want_all rfl) rfl rfl Kp.true (by first | exact Y.loadO 2 rfl Try.isAgg26 rfl rfl rfl | exact Y.loadR rfl Try.isAgg26 rfl hcell) ?_
          refine Jp.call [0] [0] (f48_spec (some ⟨b0, 0, none⟩) 4096 (pageP (xs.map str) k) (s0 + 4 * (k + 1)) (addrP (xs.map str) k) (by omega) (by rw [pageP, lay_length (by rw [vecP_len, hpl, ← hs0]; omega), hpl]) (by omega)) 77 rfl (want_all rfl) rfl rfl (Runs.fn rfl Try.call48 rfl) (by decide) (by decide) rfl trivial ?_
          rintro v6 ρ6 L6 ⟨rfl, rfl, rfl⟩
          refine ⟨rfl, fun hle6 => ⟨Kp.true, ?_⟩⟩
          rw [show s0 + 4 * (k + 1) = spP (xs.map str) + 4 * (k + 1) by rw [hs0], pageP_snoc (by rw [← hs0]; omega) hpl]
          refine Jp.done hK28 ?_
          refine Cd.seq fun K29 hK29 => ?_
          refine Cd.plain [(0, false), (1, false), (2, false), (3, false), (4, false)] rfl rfl ?_
          refine Jp.y 78 rfl (want_all rfl) rfl rfl Kp.true (Y.move rfl rfl) ?_
          refine Jp.y 79 rfl (want_all rfl) rfl rfl Kp.true (by first | exact Y.loadAggO 2 rfl Try.isAgg32 Try.sizeOf32 rfl rfl rfl) ?_
          refine Jp.lit 80 3 [(0, _)] [_, _] rfl (want_all rfl) rfl rfl rfl rfl Try.underlying27 Try.sizeOf32 Try.zeroValue32 rfl rfl rfl rfl rfl fun b3 => ⟨Kp.true, ?_⟩
          refine Jp.append 81 1 rfl (want_all rfl) rfl rfl rfl Try.underlying27 Try.underlying27 (.inl ⟨_, rfl⟩) Try.sizeOf32 Try.typeInfo32 Try.zeroValue32 rfl (by decide) rfl rfl rfl (Src.own 3 rfl) rfl (k + 1) (placesV (placesP (xs.map str) (k + 1))) (by first | omega | simp) (by rw [← placesV_snoc, List.getD_eq_getElem?_getD, List.getElem?_map, List.getElem?_eq_getElem hk, Option.map_some, Option.getD_some, ← str_size]) (by simp only [Try.t32]; omega) fun A6 c6 => ⟨Kp.true, ?_⟩
          refine Jp.y 12 rfl (want_all rfl) rfl rfl Kp.true (Y.assign rfl rfl) ?_
          refine Jp.done hK29 ?_
          refine Cd.plain [(0, false), (1, false), (2, false), (3, false), (4, false), (5, false)] rfl rfl ?_
          refine Jp.y 82 rfl (want_all rfl) rfl rfl Kp.true (Y.move rfl rfl) ?_
          refine Jp.y 83 rfl (want_all rfl) rfl rfl Kp.true (Y.move rfl rfl) ?_
          refine Jp.y 84 rfl (want_all rfl) rfl rfl Kp.true (Y.lenstr rfl Try.underlying9 rfl) ?_
          refine Jp.y 85 rfl (want_all rfl) rfl rfl Kp.true (Y.add_ rfl rfl rfl (by first | exact wrap_i64 (by omega) (by omega) | rfl)) ?_
          refine Jp.y 86 rfl (want_all rfl) rfl rfl Kp.true (Y.add_ rfl rfl rfl (by first | exact wrap_i64 (by omega) (by omega) | rfl)) ?_
          rw [show ((a0 + (textP ((xs.map str).take k)).length : Nat) : Int) + ((xs[k].size : Int) + 1) = ((a0 + (textP ((xs.map str).take (k + 1))).length : Nat) : Int) by rw [hsn2]; omega]
          refine Jp.y 10 rfl (want_all rfl) rfl rfl Kp.true (Y.assign rfl rfl) ?_
          refine Jp.over rfl hK25 ?_
          refine Cd.plain [(0, false), (1, false)] rfl rfl ?_
          refine Jp.y 87 rfl (want_all rfl) rfl rfl Kp.true (Y.add_ rfl rfl rfl (by first | exact wrap_i64 (by omega) (by omega) | rfl)) ?_
          refine Jp.y 58 rfl (want_all rfl) rfl rfl Kp.true (Y.move rfl rfl) ?_
          refine Jp.again hLb (k + 1, A6, c6) (by dsimp only; omega) (by dsimp only; omega) rfl ⟨rfl, rfl, rfl, rfl, rfl, rfl, rfl, trivial⟩ ⟨rfl, rfl, trivial⟩
        · simp only [decide_eq_false_iff_not] at gd
          obtain rfl : xs.length = k := by omega
          refine Cd.exit rfl hK21 ?_
          refine Cd.seq fun K30 hK30 => ?_
          refine Cd.plain [(0, false), (1, false), (2, false), (3, false), (4, false), (5, false), (6, false), (7, false), (8, false)] rfl rfl ?_
          refine Jp.y 88 rfl (want_all rfl) rfl rfl Kp.true (Y.move rfl rfl) ?_
          refine Jp.y 89 rfl (want_all rfl) rfl rfl Kp.true (Y.move rfl rfl) ?_
          refine Jp.y 90 rfl (want_all rfl) rfl rfl Kp.true (Y.conv_ rfl rfl Try.underlying3 Try.underlying26 (by first | exact wrap_u32 (by omega) (by omega) | rfl)) ?_
          refine Jp.y 91 rfl (want_all rfl) rfl rfl Kp.true (Y.add_ rfl rfl rfl (by first | exact wrap_u32 (by omega) (by omega) | rfl)) ?_
          refine Jp.y 92 rfl (want_all rfl) rfl rfl Kp.true (Y.move rfl rfl) ?_
          refine Jp.y 2 rfl (want_all rfl) rfl rfl Kp.true (Y.assign rfl rfl) ?_
          refine Jp.y 3 rfl (want_all rfl) rfl rfl Kp.true (Y.assign rfl rfl) ?_
          refine Jp.y 4 rfl (want_all rfl) rfl rfl Kp.true (Y.assign rfl rfl) ?_
          refine Jp.y 5 rfl (want_all rfl) rfl rfl Kp.true (Y.assign rfl rfl) ?_
          refine Jp.done hK30 ?_
          rw [show (2147475456 : Int) + (s0 : Int) = ((2147475456 + s0 : Nat) : Int) by omega]
          refine Cd.ret [(0, _), (1, _)] rfl (res4 rfl rfl rfl rfl rfl) ⟨rfl, rfl, trivial⟩ ?_
          have e : buildP (xs.map str) = ⟨pageP (xs.map str) xs.length, 2147475456 + s0, placesP (xs.map str) xs.length, 0⟩ := by rw [buildP, ga, if_pos rfl, if_pos hT3, hs0, hml]
          have hpp : (pageP (xs.map str) xs.length).length = 4096 := by rw [pageP, lay_length (by rw [vecP_len, hpl, ← hs0]; omega), hpl]
          refine ⟨rfl, some ⟨b0, 0, none⟩, 4096, B, d, _, e, ?_, ?_⟩
          · show _ = Value.tuple #[.slice _ (pageP (xs.map str) xs.length).length 4096, _, .slice B (placesP (xs.map str) xs.length).length d, _]
            rw [hpp, placesP_length]; rfl
          · show _ = [(0, OwnS _ 1 _ (pageP (xs.map str) xs.length).length 4096 _), (1, OwnS _ 2 B (placesP (xs.map str) xs.length).length d _)]
            rw [hpp, placesP_length]
end Go.Proofs.Ytgfbdiibndbbjaa

/- Contract: Lay. -/
set_option linter.unusedVariables false
set_option linter.unusedSimpArgs false
set_option maxRecDepth 100000
namespace Go.Proofs.Ytgfbdiibndbbjaa
open Go
structure Laid where
  sp : Nat
  places : List (Nat × Nat)
  err : Int
  mem : MemG
def layM (M : MemG) (l : List Bytes) : Laid :=
  if (buildP l).err = 0 then
    (if (mapM M 2147475456 4096 3).1 = 0 then
      (if (writeM (mapM M 2147475456 4096 3).2 2147475456 (buildP l).page 65536 0).1 = 0 then ⟨(buildP l).sp, (buildP l).places, 0, (writeM (mapM M 2147475456 4096 3).2 2147475456 (buildP l).page 65536 0).2⟩
       else ⟨0, [], (writeM (mapM M 2147475456 4096 3).2 2147475456 (buildP l).page 65536 0).1, (writeM (mapM M 2147475456 4096 3).2 2147475456 (buildP l).page 65536 0).2⟩)
     else ⟨0, [], (mapM M 2147475456 4096 3).1, (mapM M 2147475456 4096 3).2⟩)
  else ⟨0, [], (buildP l).err, M⟩
theorem lay_spec (b : Nat) (M : MemG) (s : Sl ByteArray) (hn : s.xs.length ≤ 20) (hs : ∀ a ∈ s.xs, a.size ≤ 4000) : Spec Try.prog 28 #[.pointer (some ⟨b, 0, none⟩), s.v] (RdStr s) [(0, MemO b M)]
    (fun ρ ρ' v L => ∃ A c, v = .tuple #[.int .u32 ((layM M (s.xs.map str)).sp : Int), .slice A (layM M (s.xs.map str)).places.length c, .int .i64 (layM M (s.xs.map str)).err] ∧ L = [(0, MemO b (layM M (s.xs.map str)).mem), (1, OwnS 32 2 A (layM M (s.xs.map str)).places.length c (placesV (layM M (s.xs.map str)).places))]) := by
  refine Spec.of 36 Try.func28 rfl Try.ntmps28 [(0, _), (1, _)] rfl rfl ?_
  intro cx ρ hr h0
  refine Cd.seq fun K1 hK1 => ?_
  refine Cd.plain [(0, false), (1, false), (2, false)] rfl rfl ?_
  refine Jp.y 4 rfl (want_all rfl) rfl rfl Kp.true (Y.assign rfl rfl) ?_
  refine Jp.y 5 rfl (want_all rfl) rfl rfl Kp.true (Y.assign rfl rfl) ?_
  refine Jp.y 6 rfl (want_all rfl) rfl rfl Kp.true (Y.assign rfl rfl) ?_
  refine Jp.done hK1 ?_
  refine Cd.seq fun K2 hK2 => ?_
  refine Cd.plain [(0, false), (1, false), (2, false), (3, false), (4, false), (5, false), (6, false), (7, false), (8, false), (9, false), (10, false)] rfl rfl ?_
  refine Jp.y 14 rfl (want_all rfl) rfl rfl Kp.true (Y.move rfl rfl) ?_
  refine Jp.call [] [3, 1] (f17_spec s hn hs) 15 rfl (want_all rfl) rfl rfl (Runs.fn rfl Try.call17 rfl) (by decide) (by decide) rfl hr ?_
  rintro v1 ρ1 L1 ⟨rfl, A, c, B, d, q, hq, rfl, rfl⟩
  refine ⟨rfl, fun hle1 => ⟨Kp.true, ?_⟩⟩
  have hr := RdStr.up _ _ _ hle1 hr
  refine Jp.y 13 rfl (want_all rfl) rfl rfl Kp.true (Y.move rfl rfl) ?_
  refine Jp.y 16 rfl (want_all rfl) rfl rfl Kp.true (Y.extract rfl rfl rfl) ?_
  refine Jp.y 17 rfl (want_all rfl) rfl rfl Kp.true (Y.extract rfl rfl rfl) ?_
  refine Jp.y 18 rfl (want_all rfl) rfl rfl Kp.true (Y.extract rfl rfl rfl) ?_
  refine Jp.y 19 rfl (want_all rfl) rfl rfl Kp.true (Y.extract rfl rfl rfl) ?_
  refine Jp.y 7 rfl (want_all rfl) rfl rfl Kp.true (Y.assign rfl rfl) ?_
  refine Jp.y 8 rfl (want_all rfl) rfl rfl Kp.true (Y.assign rfl rfl) ?_
  refine Jp.y 9 rfl (want_all rfl) rfl rfl Kp.true (Y.assign rfl rfl) ?_
  refine Jp.y 10 rfl (want_all rfl) rfl rfl Kp.true (Y.assign rfl rfl) ?_
  refine Jp.done hK2 ?_
  refine Cd.seq fun K3 hK3 => ?_
  refine Cd.seq fun K4 hK4 => ?_
  refine Cd.plain [(0, false), (1, false)] rfl rfl ?_
  refine Jp.y 20 rfl (want_all rfl) rfl rfl Kp.true (Y.move rfl rfl) ?_
  refine Jp.y 21 rfl (want_all rfl) rfl rfl Kp.true (Y.neq rfl rfl rfl) ?_
  refine Jp.done hK4 ?_
  refine Cd.cond rfl (fun h1 => ?_) (fun h1 => ?_)
  · have h1 : (q.err : Int) ≠ 0 := by simpa using h1
    have hL : layM M (s.xs.map str) = ⟨0, [], q.err, M⟩ := by rw [layM, hq, if_neg (by omega)]
    refine Cd.make 1 (A := OwnS 32 2 none 0 0 (placesV [])) (OwnS.nil _ _ _) ?_
    refine Cd.seq fun K5 hK5 => ?_
    refine Cd.plain [(0, false), (1, false), (2, false), (3, false)] rfl rfl ?_
    refine Jp.y 22 rfl (want_all rfl) rfl rfl Kp.true (Y.move rfl rfl) ?_
    refine Jp.y 4 rfl (want_all rfl) rfl rfl Kp.true (Y.assign rfl rfl) ?_
    refine Jp.y 5 rfl (want_all rfl) rfl rfl Kp.true (Y.assign rfl rfl) ?_
    refine Jp.y 6 rfl (want_all rfl) rfl rfl Kp.true (Y.assign rfl rfl) ?_
    refine Jp.done hK5 ?_
    refine Cd.ret [(0, _), (1, _)] rfl (res3 rfl rfl rfl rfl) ⟨rfl, rfl, trivial⟩ ⟨none, 0, by rw [hL]; rfl, by rw [hL]; rfl⟩
  · have h1 : (q.err : Int) = 0 := by simpa using h1
    refine Cd.skip hK3 ?_
    refine Cd.seq fun K6 hK6 => ?_
    refine Cd.seq fun K7 hK7 => ?_
    refine Cd.plain [(0, false), (1, false), (2, false)] rfl rfl ?_
    refine Jp.y 23 rfl (want_all rfl) rfl rfl Kp.true (Y.move rfl rfl) ?_
    refine Jp.call [0] [0] (map_eq (M := M) (a := 2147475456) (n := 4096) (perm := 3) (by omega) (by omega) rfl rfl) 24 rfl (want_all rfl) rfl rfl (Runs.fn rfl Try.call20 rfl) (by decide) (by decide) rfl trivial ?_
    rintro v2 ρ2 L2 ⟨rfl, rfl, rfl⟩
    refine ⟨rfl, fun hle2 => ⟨Kp.true, ?_⟩⟩
    refine Jp.y 11 rfl (want_all rfl) rfl rfl Kp.true (Y.assign rfl rfl) ?_
    refine Jp.done hK7 ?_
    refine Cd.seq fun K8 hK8 => ?_
    refine Cd.plain [(0, false), (1, false)] rfl rfl ?_
    refine Jp.y 25 rfl (want_all rfl) rfl rfl Kp.true (Y.move rfl rfl) ?_
    refine Jp.y 26 rfl (want_all rfl) rfl rfl Kp.true (Y.neq rfl rfl rfl) ?_
    refine Jp.done hK8 ?_
    refine Cd.cond rfl (fun h2 => ?_) (fun h2 => ?_)
    · have h2 : (mapM M 2147475456 4096 3).1 ≠ 0 := by simpa using h2
      have hL : layM M (s.xs.map str) = ⟨0, [], (mapM M 2147475456 4096 3).1, (mapM M 2147475456 4096 3).2⟩ := by rw [layM, hq, if_pos (by omega), if_neg h2]
      refine Cd.make 1 (A := OwnS 32 2 none 0 0 (placesV [])) (OwnS.nil _ _ _) ?_
      refine Cd.seq fun K9 hK9 => ?_
      refine Cd.plain [(0, false), (1, false), (2, false), (3, false)] rfl rfl ?_
      refine Jp.y 27 rfl (want_all rfl) rfl rfl Kp.true (Y.move rfl rfl) ?_
      refine Jp.y 4 rfl (want_all rfl) rfl rfl Kp.true (Y.assign rfl rfl) ?_
      refine Jp.y 5 rfl (want_all rfl) rfl rfl Kp.true (Y.assign rfl rfl) ?_
      refine Jp.y 6 rfl (want_all rfl) rfl rfl Kp.true (Y.assign rfl rfl) ?_
      refine Jp.done hK9 ?_
      refine Cd.ret [(0, _), (1, _)] rfl (res3 rfl rfl rfl rfl) ⟨rfl, rfl, trivial⟩ ⟨none, 0, by rw [hL]; rfl, by rw [hL]; rfl⟩
    · have h2 : (mapM M 2147475456 4096 3).1 = 0 := by simpa using h2
      refine Cd.freeze (i := 3) rfl (OwnS.up _ _ _ _ _ _) fun ρ5 l5 q5 => ?_
      refine Cd.skip hK6 ?_
      refine Cd.seq fun K10 hK10 => ?_
      refine Cd.seq fun K11 hK11 => ?_
      refine Cd.plain [(0, false), (1, false), (2, false), (3, false)] rfl rfl ?_
      refine Jp.y 28 rfl (want_all rfl) rfl rfl Kp.true (Y.move rfl rfl) ?_
      refine Jp.y 29 rfl (want_all rfl) rfl rfl Kp.true (Y.move rfl rfl) ?_
      refine Jp.call [0] [0] (poke_eq (M := (mapM M 2147475456 4096 3).2) (a := 2147475456) (s := ⟨A, c, q.page⟩) (e := (writeM (mapM M 2147475456 4096 3).2 2147475456 q.page 65536 0).1) (M' := (writeM (mapM M 2147475456 4096 3).2 2147475456 q.page 65536 0).2) (by omega) (Prod.ext rfl rfl)) 30 rfl (want_all rfl) rfl rfl (Runs.fn rfl Try.call34 rfl) (by decide) (by decide) rfl q5.rd ?_
      rintro v3 ρ3 L3 ⟨rfl, rfl, rfl⟩
      refine ⟨rfl, fun hle3 => ⟨Kp.true, ?_⟩⟩
      refine Jp.y 12 rfl (want_all rfl) rfl rfl Kp.true (Y.assign rfl rfl) ?_
      refine Jp.done hK11 ?_
      refine Cd.seq fun K12 hK12 => ?_
      refine Cd.plain [(0, false), (1, false)] rfl rfl ?_
      refine Jp.y 31 rfl (want_all rfl) rfl rfl Kp.true (Y.move rfl rfl) ?_
      refine Jp.y 32 rfl (want_all rfl) rfl rfl Kp.true (Y.neq rfl rfl rfl) ?_
      refine Jp.done hK12 ?_
      refine Cd.cond rfl (fun h3 => ?_) (fun h3 => ?_)
      · have h3 : (writeM (mapM M 2147475456 4096 3).2 2147475456 q.page 65536 0).1 ≠ 0 := by simpa using h3
        have hL : layM M (s.xs.map str) = ⟨0, [], (writeM (mapM M 2147475456 4096 3).2 2147475456 q.page 65536 0).1, (writeM (mapM M 2147475456 4096 3).2 2147475456 q.page 65536 0).2⟩ := by rw [layM, hq, if_pos (by omega), if_pos h2, if_neg h3]
        refine Cd.make 1 (A := OwnS 32 2 none 0 0 (placesV [])) (OwnS.nil _ _ _) ?_
        refine Cd.seq fun K13 hK13 => ?_
        refine Cd.plain [(0, false), (1, false), (2, false), (3, false)] rfl rfl ?_
        refine Jp.y 33 rfl (want_all rfl) rfl rfl Kp.true (Y.move rfl rfl) ?_
        refine Jp.y 4 rfl (want_all rfl) rfl rfl Kp.true (Y.assign rfl rfl) ?_
        refine Jp.y 5 rfl (want_all rfl) rfl rfl Kp.true (Y.assign rfl rfl) ?_
        refine Jp.y 6 rfl (want_all rfl) rfl rfl Kp.true (Y.assign rfl rfl) ?_
        refine Jp.done hK13 ?_
        refine Cd.ret [(0, _), (1, _)] rfl (res3 rfl rfl rfl rfl) ⟨rfl, rfl, trivial⟩ ⟨none, 0, by rw [hL]; rfl, by rw [hL]; rfl⟩
      · have h3 : (writeM (mapM M 2147475456 4096 3).2 2147475456 q.page 65536 0).1 = 0 := by simpa using h3
        have hL : layM M (s.xs.map str) = ⟨q.sp, q.places, 0, (writeM (mapM M 2147475456 4096 3).2 2147475456 q.page 65536 0).2⟩ := by rw [layM, hq, if_pos (by omega), if_pos h2, if_pos h3]
        refine Cd.skip hK10 ?_
        refine Cd.seq fun K14 hK14 => ?_
        refine Cd.plain [(0, false), (1, false), (2, false), (3, false), (4, false)] rfl rfl ?_
        refine Jp.y 34 rfl (want_all rfl) rfl rfl Kp.true (Y.move rfl rfl) ?_
        refine Jp.y 35 rfl (want_all rfl) rfl rfl Kp.true (Y.move rfl rfl) ?_
        refine Jp.y 4 rfl (want_all rfl) rfl rfl Kp.true (Y.assign rfl rfl) ?_
        refine Jp.y 5 rfl (want_all rfl) rfl rfl Kp.true (Y.assign rfl rfl) ?_
        refine Jp.y 6 rfl (want_all rfl) rfl rfl Kp.true (Y.assign rfl rfl) ?_
        refine Jp.done hK14 ?_
        refine Cd.ret [(0, _), (1, _)] rfl (res3 rfl rfl rfl rfl) ⟨rfl, rfl, trivial⟩ ⟨B, d, by rw [hL], by rw [hL]⟩
end Go.Proofs.Ytgfbdiibndbbjaa

