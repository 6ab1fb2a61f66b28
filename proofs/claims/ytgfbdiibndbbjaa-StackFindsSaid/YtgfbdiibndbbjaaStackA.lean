/- Contracts: put, good. -/
import Derived.Test.YtgfbdiibndbbjaaStackW
set_option linter.unusedVariables false
set_option linter.unusedSimpArgs false
set_option maxRecDepth 100000
namespace Go.Proofs.Ytgfbdiibndbbjaa
open Go
theorem shr_byte {x : Int} (h0 : 0 ≤ x) {j : Nat} (hj : j < 4) : IntKind.u8.wrap (x.fdiv (2 ^ (min (8 * (j : Int)).toNat IntKind.u32.bits))) = ((byteAt x j).toNat : Int) := by
  obtain ⟨n, rfl⟩ := Int.eq_ofNat_of_zero_le h0
  rw [byteAt_toNat, Int.toNat_natCast]
  have h1 : ((n : Int).fdiv (2 ^ (min (8 * (j : Int)).toNat IntKind.u32.bits))) = ((n / 2 ^ (8 * j) : Nat) : Int) := by
    have e : min (8 * (j : Int)).toNat IntKind.u32.bits = 8 * j := by
      have : IntKind.u32.bits = 32 := rfl
      omega
    rw [e, Int.fdiv_eq_ediv_of_nonneg _ (by exact Int.pow_nonneg (by omega))]
    simp
  rw [h1]
  simp only [IntKind.wrap, IntKind.bits, IntKind.signed]
  simp
theorem le32_take (x : Int) {j : Nat} (hj : j < 4) : (le32 x).take (j + 1) = (le32 x).take j ++ [byteAt x j] := by
  rcases (show j = 0 ∨ j = 1 ∨ j = 2 ∨ j = 3 by omega) with rfl | rfl | rfl | rfl <;> rfl
theorem f48_spec (A : Option Addr) (c : Nat) (pg : Bytes) (at0 : Nat) (x : Int) (hx : 0 ≤ x) (hl : pg.length = 4096) (hp : at0 + 4 ≤ 4096) : Spec Try.prog 48 #[.slice A 4096 c, .int .i64 at0, .int .u32 x] (fun _ => True) [(0, OwnS 5 1 A 4096 c (bytesV pg))]
    (fun ρ ρ' v L => ρ' = ρ ∧ v = .tuple #[] ∧ L = [(0, OwnS 5 1 A 4096 c (bytesV (lay pg at0 (le32 x))))]) := by
  refine Spec.of 21 Try.func48 rfl Try.ntmps48 [(0, _), (1, _), (2, _)] rfl rfl ?_
  intro cx ρ hr h0
  refine Cd.seq fun K1 hK1 => ?_
  refine Cd.plain [(0, false)] rfl rfl ?_
  refine Jp.y 7 rfl (want_all rfl) rfl rfl Kp.true (Y.move rfl rfl) ?_
  refine Jp.done hK1 ?_
  refine Cd.block ?_
  refine Cd.ownAt 0 rfl (by omega) ?_
  rintro b rfl
  refine Cd.imp (i := 0) (A' := OwnS 5 1 (some ⟨b, 0, none⟩) 4096 c (bytesV (lay pg at0 ((le32 x).take 0)))) rfl (fun k h => by rw [List.take_zero, lay_nil]; exact h) ?_
  refine Cd.loop (G := Nat) (fun j => j ≤ 4) (fun j => 4 - j) (fun _ => ρ) (fun j => [(0, .slice (some ⟨b, 0, none⟩) 4096 c), (1, .int .i64 at0), (2, .int .u32 x), (7, .int .i64 j)]) (fun j => [(0, OwnS 5 1 (some ⟨b, 0, none⟩) 4096 c (bytesV (lay pg at0 ((le32 x).take j))))]) 0 (by omega) rfl ⟨rfl, rfl, rfl, rfl, trivial⟩ ⟨rfl, trivial⟩ (fun g KLa hok hLa => ?_)
  refine Cd.seq fun K2 hK2 => ?_
  refine Cd.plain [(0, false)] rfl rfl ?_
  refine Jp.y 8 rfl (want_all rfl) rfl rfl Kp.true (Y.lss rfl rfl rfl) ?_
  refine Jp.done hK2 ?_
  refine Cd.seq fun K3 hK3 => ?_
  refine Cd.cond rfl (fun ga => ?_) (fun ga => ?_)
  · simp only [decide_eq_true_eq] at ga
    have hg : g < 4 := by omega
    have hll : ((le32 x).take g).length = g := by rw [List.length_take]; simp [le32]; omega
    refine Cd.skip hK3 ?_
    refine Cd.seq fun K4 hK4 => ?_
    refine Cd.block ?_
    refine Cd.seq fun K5 hK5 => ?_
    refine Cd.plain [(0, false), (1, false)] rfl rfl ?_
    refine Jp.y 9 rfl (want_all rfl) rfl rfl Kp.true (Y.move rfl rfl) ?_
    refine Jp.y 6 rfl (want_all rfl) rfl rfl Kp.true (Y.assign rfl rfl) ?_
    refine Jp.done hK5 ?_
    refine Cd.plain [(0, false), (1, false), (2, false), (3, false), (4, false), (5, false), (6, false), (7, false), (8, false), (9, false), (10, false)] rfl rfl ?_
    refine Jp.y 10 rfl (want_all rfl) rfl rfl Kp.true (Y.move rfl rfl) ?_
    refine Jp.y 11 rfl (want_all rfl) rfl rfl Kp.true (Y.move rfl rfl) ?_
    refine Jp.y 12 rfl (want_all rfl) rfl rfl Kp.true (Y.move rfl rfl) ?_
    refine Jp.y 13 rfl (want_all rfl) rfl rfl Kp.true (Y.add_ rfl rfl rfl (by first | exact wrap_i64 (by omega) (by omega) | rfl)) ?_
    refine Jp.y 14 rfl (want_all rfl) rfl rfl Kp.true (Y.move rfl rfl) ?_
    refine Jp.y 15 rfl (want_all rfl) rfl rfl Kp.true (Y.move rfl rfl) ?_
    refine Jp.y 16 rfl (want_all rfl) rfl rfl Kp.true (Y.mul_ rfl rfl rfl (by first | exact wrap_i64 (by omega) (by omega) | rfl)) ?_
    refine Jp.y 17 rfl (want_all rfl) rfl rfl Kp.true (Y.shr rfl rfl rfl (by first | decide | omega)) ?_
    refine Jp.y 18 rfl (want_all rfl) rfl rfl Kp.true (Y.conv_ rfl rfl Try.underlying26 Try.underlying5 (by first | exact wrap_u8 (by omega) (by omega) | rfl)) ?_
    refine Jp.y 19 rfl (want_all rfl) rfl rfl Kp.true (Y.indexAddr (q := at0 + g) rfl rfl rfl Try.underlying25 Try.sizeOf5 (by omega) (by omega) (by omega)) ?_
    refine Jp.storeS 0 (q := at0 + g) rfl (want_all rfl) rfl rfl Try.sizeOf5 rfl rfl rfl rfl rfl (by omega) (bytesV (lay pg at0 ((le32 x).take (g + 1)))) (by rw [shr_byte hx hg, bytesV_set, le32_take x hg, ← lay_snoc_set (by rw [hll, hl]; omega), hll]) Kp.true ?_
    refine Jp.over rfl hK4 ?_
    refine Cd.plain [(0, false), (1, false)] rfl rfl ?_
    refine Jp.y 20 rfl (want_all rfl) rfl rfl Kp.true (Y.add_ rfl rfl rfl (by first | exact wrap_i64 (by omega) (by omega) | rfl)) ?_
    refine Jp.y 7 rfl (want_all rfl) rfl rfl Kp.true (Y.move rfl rfl) ?_
    refine Jp.again hLa (g + 1) (by omega) (by omega) rfl ⟨rfl, rfl, rfl, rfl, trivial⟩ ⟨rfl, trivial⟩
  · simp only [decide_eq_false_iff_not] at ga
    obtain rfl : g = 4 := by omega
    refine Cdx.end [(0, _)] rfl (res0 rfl) ⟨rfl, trivial⟩ ⟨rfl, rfl, rfl⟩
end Go.Proofs.Ytgfbdiibndbbjaa
