import Derived.Test.YtjfgefdcngpplaaZR5C
set_option linter.unusedVariables false
set_option linter.unusedSimpArgs false
set_option maxRecDepth 100000
namespace Go.Proofs.Ytjfgefdcngpplaa
open Go
def orU (a b : Int) : Int := bitsB .or .u32 a b
def anU (a b : Int) : Int := bitsB .and .u32 a b
theorem orU_nat {a b : Nat} (ha : a < 4294967296) (hb : b < 4294967296) : orU (a : Int) (b : Int) = ((a ||| b : Nat) : Int) := bits_or32 ha hb
theorem anU_nat {a : Nat} (k : Nat) (ha : a < 4294967296) (hk : k < 32) : anU (a : Int) ((2 ^ k - 1 : Nat) : Int) = ((a % 2 ^ k : Nat) : Int) := rand_nat k ha hk
theorem raw_J {w : Nat} (hw : w < 4294967296) : orU (orU (orU (rshl (rshr (w : Int) (31 : Nat)) (20 : Nat)) (rshl (anU (rshr (w : Int) (12 : Nat)) ((2 ^ 8 - 1 : Nat) : Int)) (12 : Nat))) (rshl (anU (rshr (w : Int) (20 : Nat)) ((2 ^ 1 - 1 : Nat) : Int)) (11 : Nat))) (rshl (anU (rshr (w : Int) (21 : Nat)) ((2 ^ 10 - 1 : Nat) : Int)) (1 : Nat)) =
    ((w / 2 ^ 31 * 2 ^ 20 + w / 2 ^ 12 % 2 ^ 8 * 2 ^ 12 + w / 2 ^ 20 % 2 ^ 1 * 2 ^ 11 + w / 2 ^ 21 % 2 ^ 10 * 2 ^ 1 : Nat) : Int) := by
  rw [rshr_nat w 31 (by decide), rshr_nat w 12 (by decide), rshr_nat w 20 (by decide), rshr_nat w 21 (by decide), anU_nat 8 (by omega) (by decide), anU_nat 1 (by omega) (by decide), anU_nat 10 (by omega) (by decide)]
  obtain ⟨h, hh⟩ : ∃ h, w / 2 ^ 31 = h := ⟨_, rfl⟩
  obtain ⟨a, ha⟩ : ∃ a, w / 2 ^ 12 % 2 ^ 8 = a := ⟨_, rfl⟩
  obtain ⟨c, hc⟩ : ∃ c, w / 2 ^ 20 % 2 ^ 1 = c := ⟨_, rfl⟩
  obtain ⟨d, hd⟩ : ∃ d, w / 2 ^ 21 % 2 ^ 10 = d := ⟨_, rfl⟩
  have lh : h < 2 := by omega
  have la : a < 256 := by omega
  have lc : c < 2 := by omega
  have ld : d < 1024 := by omega
  rw [hh, ha, hc, hd, rshl_nat (by decide) (by omega), rshl_nat (by decide) (by omega), rshl_nat (by decide) (by omega), rshl_nat (by decide) (by omega)]
  have o1 : h * 2 ^ 20 ||| a * 2 ^ 12 = h * 2 ^ 20 + a * 2 ^ 12 := or_hi (by omega)
  have o2 : (h * 2 ^ 20 + a * 2 ^ 12) ||| c * 2 ^ 11 = h * 2 ^ 20 + a * 2 ^ 12 + c * 2 ^ 11 := by
    have := or_hi (a := h * 2 ^ 8 + a) (b := c * 2 ^ 11) (i := 12) (by omega)
    rw [show (h * 2 ^ 8 + a) * 2 ^ 12 = h * 2 ^ 20 + a * 2 ^ 12 by omega] at this
    exact this
  have o3 : (h * 2 ^ 20 + a * 2 ^ 12 + c * 2 ^ 11) ||| d * 2 ^ 1 = h * 2 ^ 20 + a * 2 ^ 12 + c * 2 ^ 11 + d * 2 ^ 1 := by
    have := or_hi (a := h * 2 ^ 9 + a * 2 + c) (b := d * 2 ^ 1) (i := 11) (by omega)
    rw [show (h * 2 ^ 9 + a * 2 + c) * 2 ^ 11 = h * 2 ^ 20 + a * 2 ^ 12 + c * 2 ^ 11 by omega] at this
    exact this
  rw [orU_nat (by omega) (by omega), o1, orU_nat (by omega) (by omega), o2, orU_nat (by omega) (by omega), o3]
theorem raw_B {w : Nat} (hw : w < 4294967296) : orU (orU (orU (rshl (rshr (w : Int) (31 : Nat)) (12 : Nat)) (rshl (anU (rshr (w : Int) (7 : Nat)) ((2 ^ 1 - 1 : Nat) : Int)) (11 : Nat))) (rshl (anU (rshr (w : Int) (25 : Nat)) ((2 ^ 6 - 1 : Nat) : Int)) (5 : Nat))) (rshl (anU (rshr (w : Int) (8 : Nat)) ((2 ^ 4 - 1 : Nat) : Int)) (1 : Nat)) =
    ((w / 2 ^ 31 * 2 ^ 12 + w / 2 ^ 7 % 2 ^ 1 * 2 ^ 11 + w / 2 ^ 25 % 2 ^ 6 * 2 ^ 5 + w / 2 ^ 8 % 2 ^ 4 * 2 ^ 1 : Nat) : Int) := by
  rw [rshr_nat w 31 (by decide), rshr_nat w 7 (by decide), rshr_nat w 25 (by decide), rshr_nat w 8 (by decide), anU_nat 1 (by omega) (by decide), anU_nat 6 (by omega) (by decide), anU_nat 4 (by omega) (by decide)]
  obtain ⟨h, hh⟩ : ∃ h, w / 2 ^ 31 = h := ⟨_, rfl⟩
  obtain ⟨a, ha⟩ : ∃ a, w / 2 ^ 7 % 2 ^ 1 = a := ⟨_, rfl⟩
  obtain ⟨c, hc⟩ : ∃ c, w / 2 ^ 25 % 2 ^ 6 = c := ⟨_, rfl⟩
  obtain ⟨d, hd⟩ : ∃ d, w / 2 ^ 8 % 2 ^ 4 = d := ⟨_, rfl⟩
  have lh : h < 2 := by omega
  have la : a < 2 := by omega
  have lc : c < 64 := by omega
  have ld : d < 16 := by omega
  rw [hh, ha, hc, hd, rshl_nat (by decide) (by omega), rshl_nat (by decide) (by omega), rshl_nat (by decide) (by omega), rshl_nat (by decide) (by omega)]
  have o1 : h * 2 ^ 12 ||| a * 2 ^ 11 = h * 2 ^ 12 + a * 2 ^ 11 := or_hi (by omega)
  have o2 : (h * 2 ^ 12 + a * 2 ^ 11) ||| c * 2 ^ 5 = h * 2 ^ 12 + a * 2 ^ 11 + c * 2 ^ 5 := by
    have := or_hi (a := h * 2 + a) (b := c * 2 ^ 5) (i := 11) (by omega)
    rw [show (h * 2 + a) * 2 ^ 11 = h * 2 ^ 12 + a * 2 ^ 11 by omega] at this
    exact this
  have o3 : (h * 2 ^ 12 + a * 2 ^ 11 + c * 2 ^ 5) ||| d * 2 ^ 1 = h * 2 ^ 12 + a * 2 ^ 11 + c * 2 ^ 5 + d * 2 ^ 1 := by
    have := or_hi (a := h * 2 ^ 7 + a * 2 ^ 6 + c) (b := d * 2 ^ 1) (i := 5) (by omega)
    rw [show (h * 2 ^ 7 + a * 2 ^ 6 + c) * 2 ^ 5 = h * 2 ^ 12 + a * 2 ^ 11 + c * 2 ^ 5 by omega] at this
    exact this
  rw [orU_nat (by omega) (by omega), o1, orU_nat (by omega) (by omega), o2, orU_nat (by omega) (by omega), o3]
theorem raw_S {w : Nat} (hw : w < 4294967296) : orU (rshl (rshr (w : Int) (25 : Nat)) (5 : Nat)) (anU (rshr (w : Int) (7 : Nat)) ((2 ^ 5 - 1 : Nat) : Int)) = ((w / 2 ^ 25 * 2 ^ 5 + w / 2 ^ 7 % 2 ^ 5 : Nat) : Int) := by
  rw [rshr_nat w 25 (by decide), rshr_nat w 7 (by decide), anU_nat 5 (by omega) (by decide), rshl_nat (by decide) (by omega), orU_nat (by omega) (by omega), or_hi (by omega)]
theorem cut_nat {w : Nat} (hw : w < 4294967296) (n k : Nat) (hn : n ≤ 32) (hk : k < 32) : anU (rshr (w : Int) (n : Int)) ((2 ^ k - 1 : Nat) : Int) = ((w / 2 ^ n % 2 ^ k : Nat) : Int) := by
  have : w / 2 ^ n ≤ w := Nat.div_le_self ..
  rw [rshr_nat w n hn, anU_nat k (by omega) hk]
section
attribute [local irreducible] bitsB IntKind.wrap s32 immIP immSP immBP immJP signedP
theorem decode5_spec (w : Nat) (hw : w < 4294967296) : Spec Try.prog 32 #[.int .u32 w] (fun _ => True) [] (fun ρ ρ' v L => ρ' = ρ ∧ v = .agg (decP w).cells.toArray ∧ L = []) := by
  have hm : bitsB .and .u32 (w : Int) 4294963200 = ((w - w % 4096 : Nat) : Int) := by
    have := bits_and32 (b := 4294963200) hw (by omega)
    rw [and_hi12 w hw] at this
    exact this
  have hK := kindP_Q w
  have hI := imm_I hw
  have hS := imm_S hw
  have hJ := imm_J hw
  have hB := imm_B hw
  have vI := signed_spec (w / 2 ^ 20) 12 (by decide) (by omega)
  have vS := signed_spec (w / 2 ^ 25 * 2 ^ 5 + w / 2 ^ 7 % 2 ^ 5) 12 (by decide) (by omega)
  have vJ := signed_spec (w / 2 ^ 31 * 2 ^ 20 + w / 2 ^ 12 % 2 ^ 8 * 2 ^ 12 + w / 2 ^ 20 % 2 ^ 1 * 2 ^ 11 + w / 2 ^ 21 % 2 ^ 10 * 2 ^ 1) 21 (by decide) (by omega)
  have vB := signed_spec (w / 2 ^ 31 * 2 ^ 12 + w / 2 ^ 7 % 2 ^ 1 * 2 ^ 11 + w / 2 ^ 25 % 2 ^ 6 * 2 ^ 5 + w / 2 ^ 8 % 2 ^ 4 * 2 ^ 1) 13 (by decide) (by omega)
  have rJ := raw_J hw
  have rB := raw_B hw
  have rS := raw_S hw
  rw [← hI] at vI
  rw [← hS] at vS
  rw [← hJ] at vJ
  rw [← hB] at vB
  clear hI hS hJ hB
  obtain ⟨NJ, hNJ⟩ : ∃ n, w / 2 ^ 31 * 2 ^ 20 + w / 2 ^ 12 % 2 ^ 8 * 2 ^ 12 + w / 2 ^ 20 % 2 ^ 1 * 2 ^ 11 + w / 2 ^ 21 % 2 ^ 10 * 2 ^ 1 = n := ⟨_, rfl⟩
  obtain ⟨NB, hNB⟩ : ∃ n, w / 2 ^ 31 * 2 ^ 12 + w / 2 ^ 7 % 2 ^ 1 * 2 ^ 11 + w / 2 ^ 25 % 2 ^ 6 * 2 ^ 5 + w / 2 ^ 8 % 2 ^ 4 * 2 ^ 1 = n := ⟨_, rfl⟩
  obtain ⟨NS, hNS⟩ : ∃ n, w / 2 ^ 25 * 2 ^ 5 + w / 2 ^ 7 % 2 ^ 5 = n := ⟨_, rfl⟩
  rw [hNJ] at vJ rJ
  rw [hNB] at vB rB
  rw [hNS] at vS rS
  clear hNJ hNB hNS
  have rI := rshr_nat w 20 (by decide)
  obtain ⟨NI, hNI⟩ : ∃ n, w / 2 ^ 20 = n := ⟨_, rfl⟩
  have c0 := anU_nat 7 hw (by decide)
  have c12 := cut_nat hw 12 3 (by decide) (by decide)
  have c25 := rshr_nat w 25 (by decide)
  have c7 := cut_nat hw 7 5 (by decide) (by decide)
  have c15 := cut_nat hw 15 5 (by decide) (by decide)
  have c20 := cut_nat hw 20 5 (by decide) (by decide)
  obtain ⟨o, ho⟩ : ∃ x, w % 2 ^ 7 = x := ⟨_, rfl⟩
  obtain ⟨f, hf⟩ : ∃ x, w / 2 ^ 12 % 2 ^ 3 = x := ⟨_, rfl⟩
  obtain ⟨t, ht⟩ : ∃ x, w / 2 ^ 25 = x := ⟨_, rfl⟩
  obtain ⟨x7, h7⟩ : ∃ x, w / 2 ^ 7 % 2 ^ 5 = x := ⟨_, rfl⟩
  obtain ⟨x15, h15⟩ : ∃ x, w / 2 ^ 15 % 2 ^ 5 = x := ⟨_, rfl⟩
  obtain ⟨x20, h20⟩ : ∃ x, w / 2 ^ 20 % 2 ^ 5 = x := ⟨_, rfl⟩
  have hf8 : f < 8 := by omega
  have ht7 : w / 2 ^ 25 % 2 ^ 7 = t := by omega
  have ho7 : w % 128 = o := ho
  have l7 : x7 < 32 := by omega
  have l15 : x15 < 32 := by omega
  have l20 : x20 < 32 := by omega
  rw [ho7, hf, ht7] at hK
  have hD : ∀ k, kindP w = k → decP w = if k = 0 ∨ 46 ≤ k then ⟨k, 0, 0, 0, 0⟩ else if k ≤ 2 then ⟨k, x7, 0, 0, s32 (w - w % 4096)⟩ else
      if k = 3 then ⟨k, x7, 0, 0, immJP w⟩ else if 5 ≤ k ∧ k ≤ 10 then ⟨k, 0, x15, x20, immBP w⟩ else
      if 16 ≤ k ∧ k ≤ 18 then ⟨k, 0, x15, x20, immSP w⟩ else
      if 25 ≤ k ∧ k ≤ 27 then ⟨k, x7, x15, 0, (x20 : Int)⟩ else
      if 28 ≤ k then ⟨k, x7, x15, x20, 0⟩ else ⟨k, x7, x15, 0, immIP w⟩ := fun k hk => by rw [← hk, ← h7, ← h15, ← h20]; rfl
  rw [ho] at c0
  rw [hf] at c12
  rw [ht] at c25
  rw [h7] at c7
  rw [h15] at c15
  rw [h20] at c20
  rw [hNI] at vI rI
  obtain ⟨D, hDe⟩ : ∃ D, decP w = D := ⟨_, rfl⟩
  rw [hDe] at hD ⊢
  clear hDe ho hf ht h7 h15 h20 ht7 ho7 hNI
  refine Spec.of 194 Try.func32 rfl Try.ntmps32 [(0, _)] rfl rfl ?_
  intro cx ρ hr h0
  refine Cd.seq fun K1 hK1 => ?_
  refine Cd.plain [(0, false)] rfl rfl ?_
  refine Jp.alloc 2 2 rfl (want_all rfl) rfl rfl rfl Try.zeroValue48 fun b2 => ⟨Kp.true, ?_⟩
  refine Jp.done hK1 ?_
  refine Cd.seq fun K2 hK2 => ?_
  refine Cd.seq fun K3 hK3 => ?_
  refine Cd.plain [(0, false), (1, false)] rfl rfl ?_
  refine Jp.y 13 rfl (want_all rfl) rfl rfl Kp.true (Y.move rfl rfl) ?_
  refine Jp.y 14 rfl (want_all rfl) rfl rfl Kp.true (Y.eql rfl rfl rfl) ?_
  refine Jp.done hK3 ?_
  refine Cd.cond rfl (fun ga => ?_) (fun ga => ?_)
  · have hz : w = 115 := by simp at ga; omega
    subst hz
    refine Cd.seq fun K4 hK4 => ?_
    refine Cd.plain [(0, false), (1, false)] rfl rfl ?_
    refine Jp.y 15 rfl (want_all rfl) rfl rfl Kp.true (Y.struct [(0, _)] [_, _, _, _, _] rfl rfl places48 Try.zeroValue48 rfl) ?_
    first | refine Jp.storeAll 2 rfl (want_all rfl) rfl rfl Try.sizeOf48 rfl rfl (by first | rfl | assumption) (by first | rfl | assumption) rfl (by first | rfl | assumption) (fun k _ _ => noFr0 k) Kp.true ?_ | refine Jp.storeAll 2 rfl (want_all rfl) rfl rfl Try.sizeOf48 rfl rfl (by first | rfl | assumption) (by first | rfl | assumption) rfl (by first | rfl | assumption) (fun k _ _ => noFr0 k) Kp.true ?_
    refine Jp.done hK4 ?_
    refine Cd.ret [] rfl (by first | exact resC1 2 rfl rfl Try.isAgg48 Try.sizeOf48 rfl (by first | rfl | assumption) | exact resC1 2 rfl rfl Try.isAgg48 Try.sizeOf48 rfl (by first | rfl | assumption)) trivial ⟨rfl, by rw [hD 48 rfl]; rfl, rfl⟩
  · skip
    refine Cd.skip hK2 ?_
    refine Cd.seq fun K5 hK5 => ?_
    refine Cd.seq fun K6 hK6 => ?_
    refine Cd.plain [(0, false), (1, false)] rfl rfl ?_
    refine Jp.y 16 rfl (want_all rfl) rfl rfl Kp.true (Y.move rfl rfl) ?_
    refine Jp.y 17 rfl (want_all rfl) rfl rfl Kp.true (Y.eql rfl rfl rfl) ?_
    refine Jp.done hK6 ?_
    refine Cd.cond rfl (fun gb => ?_) (fun gb => ?_)
    · have hz : w = 1048691 := by simp at gb; omega
      subst hz
      refine Cd.seq fun K7 hK7 => ?_
      refine Cd.plain [(0, false), (1, false)] rfl rfl ?_
      refine Jp.y 18 rfl (want_all rfl) rfl rfl Kp.true (Y.struct [(0, _)] [_, _, _, _, _] rfl rfl places48 Try.zeroValue48 rfl) ?_
      first | refine Jp.storeAll 2 rfl (want_all rfl) rfl rfl Try.sizeOf48 rfl rfl (by first | rfl | assumption) (by first | rfl | assumption) rfl (by first | rfl | assumption) (fun k _ _ => noFr0 k) Kp.true ?_ | refine Jp.storeAll 2 rfl (want_all rfl) rfl rfl Try.sizeOf48 rfl rfl (by first | rfl | assumption) (by first | rfl | assumption) rfl (by first | rfl | assumption) (fun k _ _ => noFr0 k) Kp.true ?_
      refine Jp.done hK7 ?_
      refine Cd.ret [] rfl (by first | exact resC1 2 rfl rfl Try.isAgg48 Try.sizeOf48 rfl (by first | rfl | assumption) | exact resC1 2 rfl rfl Try.isAgg48 Try.sizeOf48 rfl (by first | rfl | assumption)) trivial ⟨rfl, by rw [hD 49 rfl]; rfl, rfl⟩
    · have hz : systemP w = 0 := by
        simp at ga gb
        unfold systemP
        rw [if_neg (by omega), if_neg (by omega)]
      rw [hz] at hK
      refine Cd.skip hK5 ?_
      refine Cd.seq fun K8 hK8 => ?_
      refine Cd.plain [(0, false), (1, false), (2, false), (3, false), (4, false), (5, false), (6, false), (7, false), (8, false), (9, false)] rfl rfl ?_
      refine Jp.y 19 rfl (want_all rfl) rfl rfl Kp.true (Y.move rfl rfl) ?_
      refine Jp.y 20 rfl (want_all rfl) rfl rfl Kp.true (Y.bits rfl rfl rfl rfl) ?_
      refine Jp.slot 20 rfl (show _ = Value.int .u32 (o : Int) from congrArg (Value.int .u32) c0) ?_
      refine Jp.y 21 rfl (want_all rfl) rfl rfl Kp.true (Y.move rfl rfl) ?_
      refine Jp.y 22 rfl (want_all rfl) rfl rfl Kp.true (Y.shr rfl rfl rfl (by first | decide | omega)) ?_
      refine Jp.y 23 rfl (want_all rfl) rfl rfl Kp.true (Y.bits rfl rfl rfl rfl) ?_
      refine Jp.slot 23 rfl (show _ = Value.int .u32 (f : Int) from congrArg (Value.int .u32) c12) ?_
      refine Jp.y 24 rfl (want_all rfl) rfl rfl Kp.true (Y.move rfl rfl) ?_
      refine Jp.y 25 rfl (want_all rfl) rfl rfl Kp.true (Y.shr rfl rfl rfl (by first | decide | omega)) ?_
      refine Jp.slot 25 rfl (show _ = Value.int .u32 (t : Int) from congrArg (Value.int .u32) c25) ?_
      refine Jp.y 3 rfl (want_all rfl) rfl rfl Kp.true (Y.assign rfl rfl) ?_
      refine Jp.y 4 rfl (want_all rfl) rfl rfl Kp.true (Y.assign rfl rfl) ?_
      refine Jp.y 5 rfl (want_all rfl) rfl rfl Kp.true (Y.assign rfl rfl) ?_
      refine Jp.done hK8 ?_
      refine Cd.seq fun K9 hK9 => ?_
      refine Cd.plain [(0, false), (1, false), (2, false), (3, false), (4, false), (5, false), (6, false), (7, false), (8, false), (9, false), (10, false), (11, false), (12, false), (13, false), (14, false)] rfl rfl ?_
      refine Jp.y 26 rfl (want_all rfl) rfl rfl Kp.true (Y.move rfl rfl) ?_
      refine Jp.y 27 rfl (want_all rfl) rfl rfl Kp.true (Y.shr rfl rfl rfl (by first | decide | omega)) ?_
      refine Jp.y 28 rfl (want_all rfl) rfl rfl Kp.true (Y.bits rfl rfl rfl rfl) ?_
      refine Jp.slot 28 rfl (show _ = Value.int .u32 (x7 : Int) from congrArg (Value.int .u32) c7) ?_
      refine Jp.y 29 rfl (want_all rfl) rfl rfl Kp.true (Y.conv_ rfl rfl Try.underlying23 Try.underlying3 (by first | exact wrap_i64 (by omega) (by omega) | rfl)) ?_
      refine Jp.y 30 rfl (want_all rfl) rfl rfl Kp.true (Y.move rfl rfl) ?_
      refine Jp.y 31 rfl (want_all rfl) rfl rfl Kp.true (Y.shr rfl rfl rfl (by first | decide | omega)) ?_
      refine Jp.y 32 rfl (want_all rfl) rfl rfl Kp.true (Y.bits rfl rfl rfl rfl) ?_
      refine Jp.slot 32 rfl (show _ = Value.int .u32 (x15 : Int) from congrArg (Value.int .u32) c15) ?_
      refine Jp.y 33 rfl (want_all rfl) rfl rfl Kp.true (Y.conv_ rfl rfl Try.underlying23 Try.underlying3 (by first | exact wrap_i64 (by omega) (by omega) | rfl)) ?_
      refine Jp.y 34 rfl (want_all rfl) rfl rfl Kp.true (Y.move rfl rfl) ?_
      refine Jp.y 35 rfl (want_all rfl) rfl rfl Kp.true (Y.shr rfl rfl rfl (by first | decide | omega)) ?_
      refine Jp.y 36 rfl (want_all rfl) rfl rfl Kp.true (Y.bits rfl rfl rfl rfl) ?_
      refine Jp.slot 36 rfl (show _ = Value.int .u32 (x20 : Int) from congrArg (Value.int .u32) c20) ?_
      refine Jp.y 37 rfl (want_all rfl) rfl rfl Kp.true (Y.conv_ rfl rfl Try.underlying23 Try.underlying3 (by first | exact wrap_i64 (by omega) (by omega) | rfl)) ?_
      refine Jp.y 6 rfl (want_all rfl) rfl rfl Kp.true (Y.assign rfl rfl) ?_
      refine Jp.y 7 rfl (want_all rfl) rfl rfl Kp.true (Y.assign rfl rfl) ?_
      refine Jp.y 8 rfl (want_all rfl) rfl rfl Kp.true (Y.assign rfl rfl) ?_
      refine Jp.done hK9 ?_
      refine Cd.seq fun K10 hK10 => ?_
      refine Cd.seq fun K11 hK11 => ?_
      refine Cd.plain [(0, false)] rfl rfl ?_
      refine Jp.y 9 rfl (want_all rfl) rfl rfl Kp.true (Y.assign rfl rfl) ?_
      refine Jp.done hK11 ?_
      refine Cd.block ?_
      refine Cd.loopK (G := Nat) (fun g => (1 ≤ g ∧ g ≤ 48) ∧ ∀ j, 1 ≤ j → j < g → suits j o f t = false) (fun g => 48 - g) (fun _ => _) (fun g => [(9, .int .i64 (g : Int))]) [(0, _), (2, _), (3, _), (4, _), (5, _), (6, _), (7, _), (8, _)] (fun g => []) [(2, _)] 1 ⟨by omega, fun j h1 h2 => by omega⟩ rfl ⟨rfl, trivial⟩ ⟨rfl, rfl, rfl, rfl, rfl, rfl, rfl, rfl, trivial⟩ trivial ⟨rfl, trivial⟩ (fun g KLa hok hLa => ?_)
      obtain ⟨⟨ok1, ok2⟩, ok3⟩ := hok
      refine Cd.seq fun K12 hK12 => ?_
      refine Cd.seq fun K13 hK13 => ?_
      refine Cd.plain [(0, false), (1, false)] rfl rfl ?_
      refine Jp.y 38 rfl (want_all rfl) rfl rfl Kp.true (Y.move rfl rfl) ?_
      refine Jp.y 39 rfl (want_all rfl) rfl rfl Kp.true (Y.leq rfl rfl rfl) ?_
      refine Jp.done hK13 ?_
      refine Cd.cond rfl (fun gc => ?_) (fun gc => ?_)
      · have hg : g ≤ 47 := by simp at gc; omega
        have hF := form_spec g ⟨ok1, hg⟩
        have hsu := suits_iff g o f t
        have hsk := suits_kind (o := o) (f := f) (t := t) 0 ok1 hg
        unfold formV at hF
        obtain ⟨F, hFe⟩ : ∃ F, formP g = F := ⟨_, rfl⟩
        rw [hFe] at hF hsu
        obtain ⟨fa, fb, fc⟩ := F
        dsimp only at hF hsu
        refine Cd.skip hK12 ?_
        refine Cd.seq fun K14 hK14 => ?_
        refine Cd.block ?_
        refine Cd.seq fun K15 hK15 => ?_
        refine Cd.plain [(0, false), (1, false), (2, false), (3, false), (4, false), (5, false), (6, false), (7, false), (8, false)] rfl rfl ?_
        refine Jp.y 43 rfl (want_all rfl) rfl rfl Kp.true (Y.move rfl rfl) ?_
        refine Jp.call [] [] hF 44 rfl (want_all rfl) rfl rfl (Runs.fn rfl Try.call43 rfl) (by decide) (by decide) rfl trivial ?_
        rintro v1 ρ1 L1 ⟨rfl, rfl, rfl⟩
        refine ⟨rfl, fun hle1 => ⟨Kp.true, ?_⟩⟩
        refine Jp.y 42 rfl (want_all rfl) rfl rfl Kp.true (Y.move rfl rfl) ?_
        refine Jp.y 45 rfl (want_all rfl) rfl rfl Kp.true (Y.extract rfl rfl rfl) ?_
        refine Jp.y 46 rfl (want_all rfl) rfl rfl Kp.true (Y.extract rfl rfl rfl) ?_
        refine Jp.y 47 rfl (want_all rfl) rfl rfl Kp.true (Y.extract rfl rfl rfl) ?_
        refine Jp.y 10 rfl (want_all rfl) rfl rfl Kp.true (Y.assign rfl rfl) ?_
        refine Jp.y 11 rfl (want_all rfl) rfl rfl Kp.true (Y.assign rfl rfl) ?_
        refine Jp.y 12 rfl (want_all rfl) rfl rfl Kp.true (Y.assign rfl rfl) ?_
        refine Jp.done hK15 ?_
        refine Cd.seq fun K16 hK16 => ?_
        refine Cd.seq fun K17 hK17 => ?_
        refine Cd.plain [(0, false), (1, false), (2, false), (3, false), (4, false), (5, false), (6, false), (7, false), (8, false), (9, false), (10, false), (11, false), (12, false), (13, false), (14, false), (15, false), (16, false), (17, false), (18, false), (19, false), (20, false), (21, false), (22, false), (23, false), (24, false)] rfl rfl ?_
        refine Jp.y 48 rfl (want_all rfl) rfl rfl Kp.true (Y.move rfl rfl) ?_
        refine Jp.y 49 rfl (want_all rfl) rfl rfl Kp.true (Y.move rfl rfl) ?_
        refine Jp.y 50 rfl (want_all rfl) rfl rfl Kp.true (Y.neq rfl rfl rfl) ?_
        refine Jp.y 51 rfl (want_all rfl) rfl rfl Kp.true (Y.move rfl rfl) ?_
        refine Jp.joinK (φ := suits g o f t = true) hK16 [(0, _), (2, _), (6, _), (7, _), (8, _), (9, _)] ⟨rfl, rfl, rfl, rfl, rfl, rfl, trivial⟩ [(2, _)] ⟨rfl, trivial⟩ (fun hφ => ?_) (fun hj1 => ?_)
        · have hk : kindP w = g := hK.trans (hsk hφ)
          have hD := hD g hk
          refine Cd.seq fun K18 hK18 => ?_
          refine Cd.block ?_
          refine Cd.seq fun K19 hK19 => ?_
          refine Cd.plain [(0, false), (1, false), (2, false)] rfl rfl ?_
          refine Jp.y 74 rfl (want_all rfl) rfl rfl Kp.true (Y.move rfl rfl) ?_
          refine Jp.y 75 rfl (want_all rfl) rfl rfl Kp.true (Y.leq rfl rfl rfl) ?_
          refine Jp.y 73 rfl (want_all rfl) rfl rfl Kp.true (Y.assign rfl rfl) ?_
          refine Jp.done hK19 ?_
          refine Cd.cond rfl (fun g73 => ?_) (fun g73 => ?_)
          · skip
            try simp only [decide_eq_false_iff_not, decide_eq_true_eq, Int.not_lt, Int.not_le, Bool.not_eq_false, Bool.not_eq_true, Bool.not_true, Bool.not_false, Bool.not_eq_true', Bool.not_eq_false', beq_eq_false_iff_ne, ne_eq, beq_iff_eq, bne_iff_ne, bne_eq_false_iff_eq, Classical.not_not] at g73
            refine Cd.seq fun K20 hK20 => ?_
            refine Cd.plain [(0, false), (1, false), (2, false), (3, false), (4, false), (5, false), (6, false)] rfl rfl ?_
            refine Jp.y 76 rfl (want_all rfl) rfl rfl Kp.true (Y.move rfl rfl) ?_
            refine Jp.y 77 rfl (want_all rfl) rfl rfl Kp.true (Y.move rfl rfl) ?_
            refine Jp.y 78 rfl (want_all rfl) rfl rfl Kp.true (Y.move rfl rfl) ?_
            refine Jp.y 79 rfl (want_all rfl) rfl rfl Kp.true (Y.bits rfl rfl rfl rfl) ?_
            refine Jp.slot 79 rfl (show _ = Value.int .u32 ((w - w % 4096 : Nat) : Int) from congrArg (Value.int .u32) hm) ?_
            refine Jp.y 80 rfl (want_all rfl) rfl rfl Kp.true (Y.conv_ rfl rfl Try.underlying23 Try.underlying21 (by first | exact wrap_i32 (by omega) (by omega) | rfl)) ?_
            refine Jp.slot 80 rfl (show _ = Value.int .i32 (s32 (w - w % 4096)) from congrArg (Value.int .i32) (by unfold s32; rfl)) ?_
            refine Jp.y 81 rfl (want_all rfl) rfl rfl Kp.true (Y.struct [(0, _), (1, _), (4, _)] [_, _, _, _, _] rfl rfl places48 Try.zeroValue48 rfl) ?_
            first | refine Jp.storeAll 2 rfl (want_all rfl) rfl rfl Try.sizeOf48 rfl rfl (by first | rfl | assumption) (by first | rfl | assumption) rfl (by first | rfl | assumption) (fun k _ _ => noFr0 k) Kp.true ?_ | refine Jp.storeAll 2 rfl (want_all rfl) rfl rfl Try.sizeOf48 rfl rfl (by first | rfl | assumption) (by first | rfl | assumption) rfl (by first | rfl | assumption) (fun k _ _ => noFr0 k) Kp.true ?_
            refine Jp.done hK20 ?_
            refine Cd.ret [] rfl (by first | exact resC1 2 rfl rfl Try.isAgg48 Try.sizeOf48 rfl (by first | rfl | assumption) | exact resC1 2 rfl rfl Try.isAgg48 Try.sizeOf48 rfl (by first | rfl | assumption)) trivial ⟨rfl, by first | (exfalso; omega) | (rw [hD]; (repeat first | rw [if_pos (by omega)] | rw [if_neg (by omega)]); rfl), rfl⟩
          · skip
            try simp only [decide_eq_false_iff_not, decide_eq_true_eq, Int.not_lt, Int.not_le, Bool.not_eq_false, Bool.not_eq_true, Bool.not_true, Bool.not_false, Bool.not_eq_true', Bool.not_eq_false', beq_eq_false_iff_ne, ne_eq, beq_iff_eq, bne_iff_ne, bne_eq_false_iff_eq, Classical.not_not] at g73
            refine Cd.seq fun K21 hK21 => ?_
            refine Cd.plain [(0, false), (1, false), (2, false)] rfl rfl ?_
            refine Jp.y 83 rfl (want_all rfl) rfl rfl Kp.true (Y.move rfl rfl) ?_
            refine Jp.y 84 rfl (want_all rfl) rfl rfl Kp.true (Y.eql rfl rfl rfl) ?_
            refine Jp.y 82 rfl (want_all rfl) rfl rfl Kp.true (Y.assign rfl rfl) ?_
            refine Jp.done hK21 ?_
            refine Cd.cond rfl (fun g82 => ?_) (fun g82 => ?_)
            · skip
              try simp only [decide_eq_false_iff_not, decide_eq_true_eq, Int.not_lt, Int.not_le, Bool.not_eq_false, Bool.not_eq_true, Bool.not_true, Bool.not_false, Bool.not_eq_true', Bool.not_eq_false', beq_eq_false_iff_ne, ne_eq, beq_iff_eq, bne_iff_ne, bne_eq_false_iff_eq, Classical.not_not] at g82
              refine Cd.seq fun K22 hK22 => ?_
              refine Cd.plain [(0, false), (1, false), (2, false), (3, false), (4, false), (5, false), (6, false), (7, false), (8, false), (9, false), (10, false), (11, false), (12, false), (13, false), (14, false), (15, false), (16, false), (17, false), (18, false), (19, false), (20, false), (21, false), (22, false)] rfl rfl ?_
              refine Jp.y 85 rfl (want_all rfl) rfl rfl Kp.true (Y.move rfl rfl) ?_
              refine Jp.y 86 rfl (want_all rfl) rfl rfl Kp.true (Y.move rfl rfl) ?_
              refine Jp.y 87 rfl (want_all rfl) rfl rfl Kp.true (Y.move rfl rfl) ?_
              refine Jp.y 88 rfl (want_all rfl) rfl rfl Kp.true (Y.shr rfl rfl rfl (by first | decide | omega)) ?_
              refine Jp.y 89 rfl (want_all rfl) rfl rfl Kp.true (Y.shl rfl rfl rfl (by first | decide | omega)) ?_
              refine Jp.y 90 rfl (want_all rfl) rfl rfl Kp.true (Y.move rfl rfl) ?_
              refine Jp.y 91 rfl (want_all rfl) rfl rfl Kp.true (Y.shr rfl rfl rfl (by first | decide | omega)) ?_
              refine Jp.y 92 rfl (want_all rfl) rfl rfl Kp.true (Y.bits rfl rfl rfl rfl) ?_
              refine Jp.y 93 rfl (want_all rfl) rfl rfl Kp.true (Y.shl rfl rfl rfl (by first | decide | omega)) ?_
              refine Jp.y 94 rfl (want_all rfl) rfl rfl Kp.true (Y.bits rfl rfl rfl rfl) ?_
              refine Jp.y 95 rfl (want_all rfl) rfl rfl Kp.true (Y.move rfl rfl) ?_
              refine Jp.y 96 rfl (want_all rfl) rfl rfl Kp.true (Y.shr rfl rfl rfl (by first | decide | omega)) ?_
              refine Jp.y 97 rfl (want_all rfl) rfl rfl Kp.true (Y.bits rfl rfl rfl rfl) ?_
              refine Jp.y 98 rfl (want_all rfl) rfl rfl Kp.true (Y.shl rfl rfl rfl (by first | decide | omega)) ?_
              refine Jp.y 99 rfl (want_all rfl) rfl rfl Kp.true (Y.bits rfl rfl rfl rfl) ?_
              refine Jp.y 100 rfl (want_all rfl) rfl rfl Kp.true (Y.move rfl rfl) ?_
              refine Jp.y 101 rfl (want_all rfl) rfl rfl Kp.true (Y.shr rfl rfl rfl (by first | decide | omega)) ?_
              refine Jp.y 102 rfl (want_all rfl) rfl rfl Kp.true (Y.bits rfl rfl rfl rfl) ?_
              refine Jp.y 103 rfl (want_all rfl) rfl rfl Kp.true (Y.shl rfl rfl rfl (by first | decide | omega)) ?_
              refine Jp.y 104 rfl (want_all rfl) rfl rfl Kp.true (Y.bits rfl rfl rfl rfl) ?_
              refine Jp.slot 104 rfl (show _ = Value.int .u32 (NJ : Int) from congrArg (Value.int .u32) rJ) ?_
              refine Jp.call [] [] vJ 105 rfl (want_all rfl) rfl rfl (Runs.fn rfl Try.call44 rfl) (by decide) (by decide) rfl trivial ?_
              rintro v2 ρ2 L2 ⟨rfl, rfl, rfl⟩
              refine ⟨rfl, fun hle2 => ⟨Kp.true, ?_⟩⟩
              refine Jp.y 106 rfl (want_all rfl) rfl rfl Kp.true (Y.struct [(0, _), (1, _), (4, _)] [_, _, _, _, _] rfl rfl places48 Try.zeroValue48 rfl) ?_
              first | refine Jp.storeAll 2 rfl (want_all rfl) rfl rfl Try.sizeOf48 rfl rfl (by first | rfl | assumption) (by first | rfl | assumption) rfl (by first | rfl | assumption) (fun k _ _ => noFr0 k) Kp.true ?_ | refine Jp.storeAll 2 rfl (want_all rfl) rfl rfl Try.sizeOf48 rfl rfl (by first | rfl | assumption) (by first | rfl | assumption) rfl (by first | rfl | assumption) (fun k _ _ => noFr0 k) Kp.true ?_
              refine Jp.done hK22 ?_
              refine Cd.ret [] rfl (by first | exact resC1 2 rfl rfl Try.isAgg48 Try.sizeOf48 rfl (by first | rfl | assumption) | exact resC1 2 rfl rfl Try.isAgg48 Try.sizeOf48 rfl (by first | rfl | assumption)) trivial ⟨rfl, by first | (exfalso; omega) | (rw [hD]; (repeat first | rw [if_pos (by omega)] | rw [if_neg (by omega)]); rfl), rfl⟩
            · skip
              try simp only [decide_eq_false_iff_not, decide_eq_true_eq, Int.not_lt, Int.not_le, Bool.not_eq_false, Bool.not_eq_true, Bool.not_true, Bool.not_false, Bool.not_eq_true', Bool.not_eq_false', beq_eq_false_iff_ne, ne_eq, beq_iff_eq, bne_iff_ne, bne_eq_false_iff_eq, Classical.not_not] at g82
              refine Cd.seq fun K23 hK23 => ?_
              refine Cd.plain [(0, false), (1, false), (2, false), (3, false), (4, false), (5, false), (6, false), (7, false), (8, false), (9, false), (10, false), (11, false), (12, false), (13, false), (14, false), (15, false), (16, false), (17, false), (18, false)] rfl rfl ?_
              refine Jp.y 108 rfl (want_all rfl) rfl rfl Kp.true (Y.move rfl rfl) ?_
              refine Jp.y 109 rfl (want_all rfl) rfl rfl Kp.true (Y.eql rfl rfl rfl) ?_
              refine Jp.y 110 rfl (want_all rfl) rfl rfl Kp.true (Y.move rfl rfl) ?_
              refine Jp.split 110 rfl (fun g110 => ?_) (fun g110 => ?_)
              · skip
                try simp only [decide_eq_false_iff_not, decide_eq_true_eq, Int.not_lt, Int.not_le, Bool.not_eq_false, Bool.not_eq_true, Bool.not_true, Bool.not_false, Bool.not_eq_true', Bool.not_eq_false', beq_eq_false_iff_ne, ne_eq, beq_iff_eq, bne_iff_ne, bne_eq_false_iff_eq, Classical.not_not] at g110
                refine Jp.skip 111 rfl (want_as rfl rfl rfl rfl) rfl rfl Kp.true ?_
                refine Jp.skip 112 rfl (want_as rfl rfl rfl rfl) rfl rfl Kp.true ?_
                refine Jp.skip 113 rfl (want_as rfl rfl rfl rfl) rfl rfl Kp.true ?_
                refine Jp.skip 114 rfl (want_un rfl rfl rfl) rfl rfl Kp.true ?_
                refine Jp.skip 115 rfl (want_un rfl rfl rfl) rfl rfl Kp.true ?_
                refine Jp.skip 116 rfl (want_as rfl rfl rfl rfl) rfl rfl Kp.true ?_
                refine Jp.y 117 rfl (want_all rfl) rfl rfl Kp.true (Y.pickT rfl rfl rfl) ?_
                refine Jp.y 118 rfl (want_all rfl) rfl rfl Kp.true (Y.move rfl rfl) ?_
                refine Jp.skip 119 rfl (want_as rfl rfl rfl rfl) rfl rfl Kp.true ?_
                refine Jp.skip 120 rfl (want_as rfl rfl rfl rfl) rfl rfl Kp.true ?_
                refine Jp.skip 121 rfl (want_as rfl rfl rfl rfl) rfl rfl Kp.true ?_
                refine Jp.skip 122 rfl (want_un rfl rfl rfl) rfl rfl Kp.true ?_
                refine Jp.skip 123 rfl (want_un rfl rfl rfl) rfl rfl Kp.true ?_
                refine Jp.skip 124 rfl (want_as rfl rfl rfl rfl) rfl rfl Kp.true ?_
                refine Jp.y 125 rfl (want_all rfl) rfl rfl Kp.true (Y.pickT rfl rfl rfl) ?_
                refine Jp.y 107 rfl (want_all rfl) rfl rfl Kp.true (Y.assign rfl rfl) ?_
                refine Jp.done hK23 ?_
                refine Cd.condT rfl ?_
                refine Cd.seq fun K24 hK24 => ?_
                refine Cd.plain [(0, false), (1, false), (2, false), (3, false), (4, false), (5, false), (6, false), (7, false)] rfl rfl ?_
                refine Jp.y 126 rfl (want_all rfl) rfl rfl Kp.true (Y.move rfl rfl) ?_
                refine Jp.y 127 rfl (want_all rfl) rfl rfl Kp.true (Y.move rfl rfl) ?_
                refine Jp.y 128 rfl (want_all rfl) rfl rfl Kp.true (Y.move rfl rfl) ?_
                refine Jp.y 129 rfl (want_all rfl) rfl rfl Kp.true (Y.move rfl rfl) ?_
                refine Jp.y 130 rfl (want_all rfl) rfl rfl Kp.true (Y.shr rfl rfl rfl (by first | decide | omega)) ?_
                refine Jp.slot 130 rfl (show _ = Value.int .u32 (NI : Int) from congrArg (Value.int .u32) rI) ?_
                refine Jp.call [] [] vI 131 rfl (want_all rfl) rfl rfl (Runs.fn rfl Try.call44 rfl) (by decide) (by decide) rfl trivial ?_
                rintro v2 ρ2 L2 ⟨rfl, rfl, rfl⟩
                refine ⟨rfl, fun hle2 => ⟨Kp.true, ?_⟩⟩
                refine Jp.y 132 rfl (want_all rfl) rfl rfl Kp.true (Y.struct [(0, _), (1, _), (2, _), (4, _)] [_, _, _, _, _] rfl rfl places48 Try.zeroValue48 rfl) ?_
                first | refine Jp.storeAll 2 rfl (want_all rfl) rfl rfl Try.sizeOf48 rfl rfl (by first | rfl | assumption) (by first | rfl | assumption) rfl (by first | rfl | assumption) (fun k _ _ => noFr0 k) Kp.true ?_ | refine Jp.storeAll 2 rfl (want_all rfl) rfl rfl Try.sizeOf48 rfl rfl (by first | rfl | assumption) (by first | rfl | assumption) rfl (by first | rfl | assumption) (fun k _ _ => noFr0 k) Kp.true ?_
                refine Jp.done hK24 ?_
                refine Cd.ret [] rfl (by first | exact resC1 2 rfl rfl Try.isAgg48 Try.sizeOf48 rfl (by first | rfl | assumption) | exact resC1 2 rfl rfl Try.isAgg48 Try.sizeOf48 rfl (by first | rfl | assumption)) trivial ⟨rfl, by first | (exfalso; omega) | (rw [hD]; (repeat first | rw [if_pos (by omega)] | rw [if_neg (by omega)]); rfl), rfl⟩
              · skip
                try simp only [decide_eq_false_iff_not, decide_eq_true_eq, Int.not_lt, Int.not_le, Bool.not_eq_false, Bool.not_eq_true, Bool.not_true, Bool.not_false, Bool.not_eq_true', Bool.not_eq_false', beq_eq_false_iff_ne, ne_eq, beq_iff_eq, bne_iff_ne, bne_eq_false_iff_eq, Classical.not_not] at g110
                refine Jp.y 111 rfl (want_as rfl rfl rfl rfl) rfl rfl Kp.true (Y.move rfl rfl) ?_
                refine Jp.y 112 rfl (want_as rfl rfl rfl rfl) rfl rfl Kp.true (Y.geq rfl rfl rfl) ?_
                refine Jp.y 113 rfl (want_as rfl rfl rfl rfl) rfl rfl Kp.true (Y.move rfl rfl) ?_
                refine Jp.split 113 rfl (fun g113 => ?_) (fun g113 => ?_)
                · skip
                  try simp only [decide_eq_false_iff_not, decide_eq_true_eq, Int.not_lt, Int.not_le, Bool.not_eq_false, Bool.not_eq_true, Bool.not_true, Bool.not_false, Bool.not_eq_true', Bool.not_eq_false', beq_eq_false_iff_ne, ne_eq, beq_iff_eq, bne_iff_ne, bne_eq_false_iff_eq, Classical.not_not] at g113
                  refine Jp.y 114 rfl (want_as rfl rfl rfl rfl) rfl rfl Kp.true (Y.move rfl rfl) ?_
                  refine Jp.y 115 rfl (want_as rfl rfl rfl rfl) rfl rfl Kp.true (Y.leq rfl rfl rfl) ?_
                  refine Jp.y 116 rfl (want_as rfl rfl rfl rfl) rfl rfl Kp.true (Y.pickT rfl rfl rfl) ?_
                  refine Jp.y 117 rfl (want_all rfl) rfl rfl Kp.true (Y.pickF rfl rfl rfl) ?_
                  refine Jp.y 118 rfl (want_all rfl) rfl rfl Kp.true (Y.move rfl rfl) ?_
                  refine Jp.split 118 rfl (fun g118 => ?_) (fun g118 => ?_)
                  · skip
                    try simp only [decide_eq_false_iff_not, decide_eq_true_eq, Int.not_lt, Int.not_le, Bool.not_eq_false, Bool.not_eq_true, Bool.not_true, Bool.not_false, Bool.not_eq_true', Bool.not_eq_false', beq_eq_false_iff_ne, ne_eq, beq_iff_eq, bne_iff_ne, bne_eq_false_iff_eq, Classical.not_not] at g118
                    refine Jp.skip 119 rfl (want_as rfl rfl rfl rfl) rfl rfl Kp.true ?_
                    refine Jp.skip 120 rfl (want_as rfl rfl rfl rfl) rfl rfl Kp.true ?_
                    refine Jp.skip 121 rfl (want_as rfl rfl rfl rfl) rfl rfl Kp.true ?_
                    refine Jp.skip 122 rfl (want_un rfl rfl rfl) rfl rfl Kp.true ?_
                    refine Jp.skip 123 rfl (want_un rfl rfl rfl) rfl rfl Kp.true ?_
                    refine Jp.skip 124 rfl (want_as rfl rfl rfl rfl) rfl rfl Kp.true ?_
                    refine Jp.y 125 rfl (want_all rfl) rfl rfl Kp.true (Y.pickT rfl rfl rfl) ?_
                    refine Jp.y 107 rfl (want_all rfl) rfl rfl Kp.true (Y.assign rfl rfl) ?_
                    refine Jp.done hK23 ?_
                    refine Cd.condT rfl ?_
                    refine Cd.seq fun K25 hK25 => ?_
                    refine Cd.plain [(0, false), (1, false), (2, false), (3, false), (4, false), (5, false), (6, false), (7, false)] rfl rfl ?_
                    refine Jp.y 126 rfl (want_all rfl) rfl rfl Kp.true (Y.move rfl rfl) ?_
                    refine Jp.y 127 rfl (want_all rfl) rfl rfl Kp.true (Y.move rfl rfl) ?_
                    refine Jp.y 128 rfl (want_all rfl) rfl rfl Kp.true (Y.move rfl rfl) ?_
                    refine Jp.y 129 rfl (want_all rfl) rfl rfl Kp.true (Y.move rfl rfl) ?_
                    refine Jp.y 130 rfl (want_all rfl) rfl rfl Kp.true (Y.shr rfl rfl rfl (by first | decide | omega)) ?_
                    refine Jp.slot 130 rfl (show _ = Value.int .u32 (NI : Int) from congrArg (Value.int .u32) rI) ?_
                    refine Jp.call [] [] vI 131 rfl (want_all rfl) rfl rfl (Runs.fn rfl Try.call44 rfl) (by decide) (by decide) rfl trivial ?_
                    rintro v2 ρ2 L2 ⟨rfl, rfl, rfl⟩
                    refine ⟨rfl, fun hle2 => ⟨Kp.true, ?_⟩⟩
                    refine Jp.y 132 rfl (want_all rfl) rfl rfl Kp.true (Y.struct [(0, _), (1, _), (2, _), (4, _)] [_, _, _, _, _] rfl rfl places48 Try.zeroValue48 rfl) ?_
                    first | refine Jp.storeAll 2 rfl (want_all rfl) rfl rfl Try.sizeOf48 rfl rfl (by first | rfl | assumption) (by first | rfl | assumption) rfl (by first | rfl | assumption) (fun k _ _ => noFr0 k) Kp.true ?_ | refine Jp.storeAll 2 rfl (want_all rfl) rfl rfl Try.sizeOf48 rfl rfl (by first | rfl | assumption) (by first | rfl | assumption) rfl (by first | rfl | assumption) (fun k _ _ => noFr0 k) Kp.true ?_
                    refine Jp.done hK25 ?_
                    refine Cd.ret [] rfl (by first | exact resC1 2 rfl rfl Try.isAgg48 Try.sizeOf48 rfl (by first | rfl | assumption) | exact resC1 2 rfl rfl Try.isAgg48 Try.sizeOf48 rfl (by first | rfl | assumption)) trivial ⟨rfl, by first | (exfalso; omega) | (rw [hD]; (repeat first | rw [if_pos (by omega)] | rw [if_neg (by omega)]); rfl), rfl⟩
                  · skip
                    try simp only [decide_eq_false_iff_not, decide_eq_true_eq, Int.not_lt, Int.not_le, Bool.not_eq_false, Bool.not_eq_true, Bool.not_true, Bool.not_false, Bool.not_eq_true', Bool.not_eq_false', beq_eq_false_iff_ne, ne_eq, beq_iff_eq, bne_iff_ne, bne_eq_false_iff_eq, Classical.not_not] at g118
                    refine Jp.y 119 rfl (want_as rfl rfl rfl rfl) rfl rfl Kp.true (Y.move rfl rfl) ?_
                    refine Jp.y 120 rfl (want_as rfl rfl rfl rfl) rfl rfl Kp.true (Y.geq rfl rfl rfl) ?_
                    refine Jp.y 121 rfl (want_as rfl rfl rfl rfl) rfl rfl Kp.true (Y.move rfl rfl) ?_
                    refine Jp.split 121 rfl (fun g121 => ?_) (fun g121 => ?_)
                    · skip
                      try simp only [decide_eq_false_iff_not, decide_eq_true_eq, Int.not_lt, Int.not_le, Bool.not_eq_false, Bool.not_eq_true, Bool.not_true, Bool.not_false, Bool.not_eq_true', Bool.not_eq_false', beq_eq_false_iff_ne, ne_eq, beq_iff_eq, bne_iff_ne, bne_eq_false_iff_eq, Classical.not_not] at g121
                      refine Jp.y 122 rfl (want_as rfl rfl rfl rfl) rfl rfl Kp.true (Y.move rfl rfl) ?_
                      refine Jp.y 123 rfl (want_as rfl rfl rfl rfl) rfl rfl Kp.true (Y.leq rfl rfl rfl) ?_
                      refine Jp.y 124 rfl (want_as rfl rfl rfl rfl) rfl rfl Kp.true (Y.pickT rfl rfl rfl) ?_
                      refine Jp.y 125 rfl (want_all rfl) rfl rfl Kp.true (Y.pickF rfl rfl rfl) ?_
                      refine Jp.y 107 rfl (want_all rfl) rfl rfl Kp.true (Y.assign rfl rfl) ?_
                      refine Jp.done hK23 ?_
                      refine Cd.cond rfl (fun g107 => ?_) (fun g107 => ?_)
                      · skip
                        try simp only [decide_eq_false_iff_not, decide_eq_true_eq, Int.not_lt, Int.not_le, Bool.not_eq_false, Bool.not_eq_true, Bool.not_true, Bool.not_false, Bool.not_eq_true', Bool.not_eq_false', beq_eq_false_iff_ne, ne_eq, beq_iff_eq, bne_iff_ne, bne_eq_false_iff_eq, Classical.not_not] at g107
                        refine Cd.seq fun K26 hK26 => ?_
                        refine Cd.plain [(0, false), (1, false), (2, false), (3, false), (4, false), (5, false), (6, false), (7, false)] rfl rfl ?_
                        refine Jp.y 126 rfl (want_all rfl) rfl rfl Kp.true (Y.move rfl rfl) ?_
                        refine Jp.y 127 rfl (want_all rfl) rfl rfl Kp.true (Y.move rfl rfl) ?_
                        refine Jp.y 128 rfl (want_all rfl) rfl rfl Kp.true (Y.move rfl rfl) ?_
                        refine Jp.y 129 rfl (want_all rfl) rfl rfl Kp.true (Y.move rfl rfl) ?_
                        refine Jp.y 130 rfl (want_all rfl) rfl rfl Kp.true (Y.shr rfl rfl rfl (by first | decide | omega)) ?_
                        refine Jp.slot 130 rfl (show _ = Value.int .u32 (NI : Int) from congrArg (Value.int .u32) rI) ?_
                        refine Jp.call [] [] vI 131 rfl (want_all rfl) rfl rfl (Runs.fn rfl Try.call44 rfl) (by decide) (by decide) rfl trivial ?_
                        rintro v2 ρ2 L2 ⟨rfl, rfl, rfl⟩
                        refine ⟨rfl, fun hle2 => ⟨Kp.true, ?_⟩⟩
                        refine Jp.y 132 rfl (want_all rfl) rfl rfl Kp.true (Y.struct [(0, _), (1, _), (2, _), (4, _)] [_, _, _, _, _] rfl rfl places48 Try.zeroValue48 rfl) ?_
                        first | refine Jp.storeAll 2 rfl (want_all rfl) rfl rfl Try.sizeOf48 rfl rfl (by first | rfl | assumption) (by first | rfl | assumption) rfl (by first | rfl | assumption) (fun k _ _ => noFr0 k) Kp.true ?_ | refine Jp.storeAll 2 rfl (want_all rfl) rfl rfl Try.sizeOf48 rfl rfl (by first | rfl | assumption) (by first | rfl | assumption) rfl (by first | rfl | assumption) (fun k _ _ => noFr0 k) Kp.true ?_
                        refine Jp.done hK26 ?_
                        refine Cd.ret [] rfl (by first | exact resC1 2 rfl rfl Try.isAgg48 Try.sizeOf48 rfl (by first | rfl | assumption) | exact resC1 2 rfl rfl Try.isAgg48 Try.sizeOf48 rfl (by first | rfl | assumption)) trivial ⟨rfl, by first | (exfalso; omega) | (rw [hD]; (repeat first | rw [if_pos (by omega)] | rw [if_neg (by omega)]); rfl), rfl⟩
                      · skip
                        try simp only [decide_eq_false_iff_not, decide_eq_true_eq, Int.not_lt, Int.not_le, Bool.not_eq_false, Bool.not_eq_true, Bool.not_true, Bool.not_false, Bool.not_eq_true', Bool.not_eq_false', beq_eq_false_iff_ne, ne_eq, beq_iff_eq, bne_iff_ne, bne_eq_false_iff_eq, Classical.not_not] at g107
                        refine Cd.seq fun K27 hK27 => ?_
                        refine Cd.plain [(0, false), (1, false), (2, false)] rfl rfl ?_
                        refine Jp.y 134 rfl (want_all rfl) rfl rfl Kp.true (Y.move rfl rfl) ?_
                        refine Jp.y 135 rfl (want_all rfl) rfl rfl Kp.true (Y.leq rfl rfl rfl) ?_
                        refine Jp.y 133 rfl (want_all rfl) rfl rfl Kp.true (Y.assign rfl rfl) ?_
                        refine Jp.done hK27 ?_
                        refine Cd.cond rfl (fun g133 => ?_) (fun g133 => ?_)
                        · skip
                          try simp only [decide_eq_false_iff_not, decide_eq_true_eq, Int.not_lt, Int.not_le, Bool.not_eq_false, Bool.not_eq_true, Bool.not_true, Bool.not_false, Bool.not_eq_true', Bool.not_eq_false', beq_eq_false_iff_ne, ne_eq, beq_iff_eq, bne_iff_ne, bne_eq_false_iff_eq, Classical.not_not] at g133
                          refine Cd.seq fun K28 hK28 => ?_
                          refine Cd.plain [(0, false), (1, false), (2, false), (3, false), (4, false), (5, false), (6, false), (7, false), (8, false), (9, false), (10, false), (11, false), (12, false), (13, false), (14, false), (15, false), (16, false), (17, false), (18, false), (19, false), (20, false), (21, false), (22, false), (23, false)] rfl rfl ?_
                          refine Jp.y 136 rfl (want_all rfl) rfl rfl Kp.true (Y.move rfl rfl) ?_
                          refine Jp.y 137 rfl (want_all rfl) rfl rfl Kp.true (Y.move rfl rfl) ?_
                          refine Jp.y 138 rfl (want_all rfl) rfl rfl Kp.true (Y.move rfl rfl) ?_
                          refine Jp.y 139 rfl (want_all rfl) rfl rfl Kp.true (Y.move rfl rfl) ?_
                          refine Jp.y 140 rfl (want_all rfl) rfl rfl Kp.true (Y.shr rfl rfl rfl (by first | decide | omega)) ?_
                          refine Jp.y 141 rfl (want_all rfl) rfl rfl Kp.true (Y.shl rfl rfl rfl (by first | decide | omega)) ?_
                          refine Jp.y 142 rfl (want_all rfl) rfl rfl Kp.true (Y.move rfl rfl) ?_
                          refine Jp.y 143 rfl (want_all rfl) rfl rfl Kp.true (Y.shr rfl rfl rfl (by first | decide | omega)) ?_
                          refine Jp.y 144 rfl (want_all rfl) rfl rfl Kp.true (Y.bits rfl rfl rfl rfl) ?_
                          refine Jp.y 145 rfl (want_all rfl) rfl rfl Kp.true (Y.shl rfl rfl rfl (by first | decide | omega)) ?_
                          refine Jp.y 146 rfl (want_all rfl) rfl rfl Kp.true (Y.bits rfl rfl rfl rfl) ?_
                          refine Jp.y 147 rfl (want_all rfl) rfl rfl Kp.true (Y.move rfl rfl) ?_
                          refine Jp.y 148 rfl (want_all rfl) rfl rfl Kp.true (Y.shr rfl rfl rfl (by first | decide | omega)) ?_
                          refine Jp.y 149 rfl (want_all rfl) rfl rfl Kp.true (Y.bits rfl rfl rfl rfl) ?_
                          refine Jp.y 150 rfl (want_all rfl) rfl rfl Kp.true (Y.shl rfl rfl rfl (by first | decide | omega)) ?_
                          refine Jp.y 151 rfl (want_all rfl) rfl rfl Kp.true (Y.bits rfl rfl rfl rfl) ?_
                          refine Jp.y 152 rfl (want_all rfl) rfl rfl Kp.true (Y.move rfl rfl) ?_
                          refine Jp.y 153 rfl (want_all rfl) rfl rfl Kp.true (Y.shr rfl rfl rfl (by first | decide | omega)) ?_
                          refine Jp.y 154 rfl (want_all rfl) rfl rfl Kp.true (Y.bits rfl rfl rfl rfl) ?_
                          refine Jp.y 155 rfl (want_all rfl) rfl rfl Kp.true (Y.shl rfl rfl rfl (by first | decide | omega)) ?_
                          refine Jp.y 156 rfl (want_all rfl) rfl rfl Kp.true (Y.bits rfl rfl rfl rfl) ?_
                          refine Jp.slot 156 rfl (show _ = Value.int .u32 (NB : Int) from congrArg (Value.int .u32) rB) ?_
                          refine Jp.call [] [] vB 157 rfl (want_all rfl) rfl rfl (Runs.fn rfl Try.call44 rfl) (by decide) (by decide) rfl trivial ?_
                          rintro v2 ρ2 L2 ⟨rfl, rfl, rfl⟩
                          refine ⟨rfl, fun hle2 => ⟨Kp.true, ?_⟩⟩
                          refine Jp.y 158 rfl (want_all rfl) rfl rfl Kp.true (Y.struct [(0, _), (2, _), (3, _), (4, _)] [_, _, _, _, _] rfl rfl places48 Try.zeroValue48 rfl) ?_
                          first | refine Jp.storeAll 2 rfl (want_all rfl) rfl rfl Try.sizeOf48 rfl rfl (by first | rfl | assumption) (by first | rfl | assumption) rfl (by first | rfl | assumption) (fun k _ _ => noFr0 k) Kp.true ?_ | refine Jp.storeAll 2 rfl (want_all rfl) rfl rfl Try.sizeOf48 rfl rfl (by first | rfl | assumption) (by first | rfl | assumption) rfl (by first | rfl | assumption) (fun k _ _ => noFr0 k) Kp.true ?_
                          refine Jp.done hK28 ?_
                          refine Cd.ret [] rfl (by first | exact resC1 2 rfl rfl Try.isAgg48 Try.sizeOf48 rfl (by first | rfl | assumption) | exact resC1 2 rfl rfl Try.isAgg48 Try.sizeOf48 rfl (by first | rfl | assumption)) trivial ⟨rfl, by first | (exfalso; omega) | (rw [hD]; (repeat first | rw [if_pos (by omega)] | rw [if_neg (by omega)]); rfl), rfl⟩
                        · skip
                          try simp only [decide_eq_false_iff_not, decide_eq_true_eq, Int.not_lt, Int.not_le, Bool.not_eq_false, Bool.not_eq_true, Bool.not_true, Bool.not_false, Bool.not_eq_true', Bool.not_eq_false', beq_eq_false_iff_ne, ne_eq, beq_iff_eq, bne_iff_ne, bne_eq_false_iff_eq, Classical.not_not] at g133
                          refine Cd.seq fun K29 hK29 => ?_
                          refine Cd.plain [(0, false), (1, false), (2, false)] rfl rfl ?_
                          refine Jp.y 160 rfl (want_all rfl) rfl rfl Kp.true (Y.move rfl rfl) ?_
                          refine Jp.y 161 rfl (want_all rfl) rfl rfl Kp.true (Y.leq rfl rfl rfl) ?_
                          refine Jp.y 159 rfl (want_all rfl) rfl rfl Kp.true (Y.assign rfl rfl) ?_
                          refine Jp.done hK29 ?_
                          refine Cd.cond rfl (fun g159 => ?_) (fun g159 => ?_)
                          · skip
                            try simp only [decide_eq_false_iff_not, decide_eq_true_eq, Int.not_lt, Int.not_le, Bool.not_eq_false, Bool.not_eq_true, Bool.not_true, Bool.not_false, Bool.not_eq_true', Bool.not_eq_false', beq_eq_false_iff_ne, ne_eq, beq_iff_eq, bne_iff_ne, bne_eq_false_iff_eq, Classical.not_not] at g159
                            refine Cd.seq fun K30 hK30 => ?_
                            refine Cd.plain [(0, false), (1, false), (2, false), (3, false), (4, false), (5, false), (6, false), (7, false), (8, false), (9, false), (10, false), (11, false), (12, false)] rfl rfl ?_
                            refine Jp.y 162 rfl (want_all rfl) rfl rfl Kp.true (Y.move rfl rfl) ?_
                            refine Jp.y 163 rfl (want_all rfl) rfl rfl Kp.true (Y.move rfl rfl) ?_
                            refine Jp.y 164 rfl (want_all rfl) rfl rfl Kp.true (Y.move rfl rfl) ?_
                            refine Jp.y 165 rfl (want_all rfl) rfl rfl Kp.true (Y.move rfl rfl) ?_
                            refine Jp.y 166 rfl (want_all rfl) rfl rfl Kp.true (Y.shr rfl rfl rfl (by first | decide | omega)) ?_
                            refine Jp.y 167 rfl (want_all rfl) rfl rfl Kp.true (Y.shl rfl rfl rfl (by first | decide | omega)) ?_
                            refine Jp.y 168 rfl (want_all rfl) rfl rfl Kp.true (Y.move rfl rfl) ?_
                            refine Jp.y 169 rfl (want_all rfl) rfl rfl Kp.true (Y.shr rfl rfl rfl (by first | decide | omega)) ?_
                            refine Jp.y 170 rfl (want_all rfl) rfl rfl Kp.true (Y.bits rfl rfl rfl rfl) ?_
                            refine Jp.y 171 rfl (want_all rfl) rfl rfl Kp.true (Y.bits rfl rfl rfl rfl) ?_
                            refine Jp.slot 171 rfl (show _ = Value.int .u32 (NS : Int) from congrArg (Value.int .u32) rS) ?_
                            refine Jp.call [] [] vS 172 rfl (want_all rfl) rfl rfl (Runs.fn rfl Try.call44 rfl) (by decide) (by decide) rfl trivial ?_
                            rintro v2 ρ2 L2 ⟨rfl, rfl, rfl⟩
                            refine ⟨rfl, fun hle2 => ⟨Kp.true, ?_⟩⟩
                            refine Jp.y 173 rfl (want_all rfl) rfl rfl Kp.true (Y.struct [(0, _), (2, _), (3, _), (4, _)] [_, _, _, _, _] rfl rfl places48 Try.zeroValue48 rfl) ?_
                            first | refine Jp.storeAll 2 rfl (want_all rfl) rfl rfl Try.sizeOf48 rfl rfl (by first | rfl | assumption) (by first | rfl | assumption) rfl (by first | rfl | assumption) (fun k _ _ => noFr0 k) Kp.true ?_ | refine Jp.storeAll 2 rfl (want_all rfl) rfl rfl Try.sizeOf48 rfl rfl (by first | rfl | assumption) (by first | rfl | assumption) rfl (by first | rfl | assumption) (fun k _ _ => noFr0 k) Kp.true ?_
                            refine Jp.done hK30 ?_
                            refine Cd.ret [] rfl (by first | exact resC1 2 rfl rfl Try.isAgg48 Try.sizeOf48 rfl (by first | rfl | assumption) | exact resC1 2 rfl rfl Try.isAgg48 Try.sizeOf48 rfl (by first | rfl | assumption)) trivial ⟨rfl, by first | (exfalso; omega) | (rw [hD]; (repeat first | rw [if_pos (by omega)] | rw [if_neg (by omega)]); rfl), rfl⟩
                          · skip
                            try simp only [decide_eq_false_iff_not, decide_eq_true_eq, Int.not_lt, Int.not_le, Bool.not_eq_false, Bool.not_eq_true, Bool.not_true, Bool.not_false, Bool.not_eq_true', Bool.not_eq_false', beq_eq_false_iff_ne, ne_eq, beq_iff_eq, bne_iff_ne, bne_eq_false_iff_eq, Classical.not_not] at g159
                            refine Cd.seq fun K31 hK31 => ?_
                            refine Cd.plain [(0, false), (1, false), (2, false)] rfl rfl ?_
                            refine Jp.y 175 rfl (want_all rfl) rfl rfl Kp.true (Y.move rfl rfl) ?_
                            refine Jp.y 176 rfl (want_all rfl) rfl rfl Kp.true (Y.leq rfl rfl rfl) ?_
                            refine Jp.y 174 rfl (want_all rfl) rfl rfl Kp.true (Y.assign rfl rfl) ?_
                            refine Jp.done hK31 ?_
                            refine Cd.cond rfl (fun g174 => ?_) (fun g174 => ?_)
                            · skip
                              try simp only [decide_eq_false_iff_not, decide_eq_true_eq, Int.not_lt, Int.not_le, Bool.not_eq_false, Bool.not_eq_true, Bool.not_true, Bool.not_false, Bool.not_eq_true', Bool.not_eq_false', beq_eq_false_iff_ne, ne_eq, beq_iff_eq, bne_iff_ne, bne_eq_false_iff_eq, Classical.not_not] at g174
                              refine Cd.seq fun K32 hK32 => ?_
                              refine Cd.plain [(0, false), (1, false), (2, false), (3, false), (4, false), (5, false), (6, false)] rfl rfl ?_
                              refine Jp.y 177 rfl (want_all rfl) rfl rfl Kp.true (Y.move rfl rfl) ?_
                              refine Jp.y 178 rfl (want_all rfl) rfl rfl Kp.true (Y.move rfl rfl) ?_
                              refine Jp.y 179 rfl (want_all rfl) rfl rfl Kp.true (Y.move rfl rfl) ?_
                              refine Jp.y 180 rfl (want_all rfl) rfl rfl Kp.true (Y.move rfl rfl) ?_
                              refine Jp.y 181 rfl (want_all rfl) rfl rfl Kp.true (Y.conv_ rfl rfl Try.underlying3 Try.underlying21 (by first | exact wrap_i32 (by omega) (by omega) | rfl)) ?_
                              refine Jp.y 182 rfl (want_all rfl) rfl rfl Kp.true (Y.struct [(0, _), (1, _), (2, _), (4, _)] [_, _, _, _, _] rfl rfl places48 Try.zeroValue48 rfl) ?_
                              first | refine Jp.storeAll 2 rfl (want_all rfl) rfl rfl Try.sizeOf48 rfl rfl (by first | rfl | assumption) (by first | rfl | assumption) rfl (by first | rfl | assumption) (fun k _ _ => noFr0 k) Kp.true ?_ | refine Jp.storeAll 2 rfl (want_all rfl) rfl rfl Try.sizeOf48 rfl rfl (by first | rfl | assumption) (by first | rfl | assumption) rfl (by first | rfl | assumption) (fun k _ _ => noFr0 k) Kp.true ?_
                              refine Jp.done hK32 ?_
                              refine Cd.ret [] rfl (by first | exact resC1 2 rfl rfl Try.isAgg48 Try.sizeOf48 rfl (by first | rfl | assumption) | exact resC1 2 rfl rfl Try.isAgg48 Try.sizeOf48 rfl (by first | rfl | assumption)) trivial ⟨rfl, by first | (exfalso; omega) | (rw [hD]; (repeat first | rw [if_pos (by omega)] | rw [if_neg (by omega)]); rfl), rfl⟩
                            · skip
                              try simp only [decide_eq_false_iff_not, decide_eq_true_eq, Int.not_lt, Int.not_le, Bool.not_eq_false, Bool.not_eq_true, Bool.not_true, Bool.not_false, Bool.not_eq_true', Bool.not_eq_false', beq_eq_false_iff_ne, ne_eq, beq_iff_eq, bne_iff_ne, bne_eq_false_iff_eq, Classical.not_not] at g174
                              refine Cd.seq fun K33 hK33 => ?_
                              refine Cd.plain [(0, false), (1, false), (2, false)] rfl rfl ?_
                              refine Jp.y 184 rfl (want_all rfl) rfl rfl Kp.true (Y.move rfl rfl) ?_
                              refine Jp.y 185 rfl (want_all rfl) rfl rfl Kp.true (Y.leq rfl rfl rfl) ?_
                              refine Jp.y 183 rfl (want_all rfl) rfl rfl Kp.true (Y.assign rfl rfl) ?_
                              refine Jp.done hK33 ?_
                              refine Cd.cond rfl (fun g183 => ?_) (fun g183 => ?_)
                              · skip
                                try simp only [decide_eq_false_iff_not, decide_eq_true_eq, Int.not_lt, Int.not_le, Bool.not_eq_false, Bool.not_eq_true, Bool.not_true, Bool.not_false, Bool.not_eq_true', Bool.not_eq_false', beq_eq_false_iff_ne, ne_eq, beq_iff_eq, bne_iff_ne, bne_eq_false_iff_eq, Classical.not_not] at g183
                                refine Cd.seq fun K34 hK34 => ?_
                                refine Cd.plain [(0, false), (1, false), (2, false), (3, false), (4, false), (5, false)] rfl rfl ?_
                                refine Jp.y 186 rfl (want_all rfl) rfl rfl Kp.true (Y.move rfl rfl) ?_
                                refine Jp.y 187 rfl (want_all rfl) rfl rfl Kp.true (Y.move rfl rfl) ?_
                                refine Jp.y 188 rfl (want_all rfl) rfl rfl Kp.true (Y.move rfl rfl) ?_
                                refine Jp.y 189 rfl (want_all rfl) rfl rfl Kp.true (Y.move rfl rfl) ?_
                                refine Jp.y 190 rfl (want_all rfl) rfl rfl Kp.true (Y.struct [(0, _), (1, _), (2, _), (3, _)] [_, _, _, _, _] rfl rfl places48 Try.zeroValue48 rfl) ?_
                                first | refine Jp.storeAll 2 rfl (want_all rfl) rfl rfl Try.sizeOf48 rfl rfl (by first | rfl | assumption) (by first | rfl | assumption) rfl (by first | rfl | assumption) (fun k _ _ => noFr0 k) Kp.true ?_ | refine Jp.storeAll 2 rfl (want_all rfl) rfl rfl Try.sizeOf48 rfl rfl (by first | rfl | assumption) (by first | rfl | assumption) rfl (by first | rfl | assumption) (fun k _ _ => noFr0 k) Kp.true ?_
                                refine Jp.done hK34 ?_
                                refine Cd.ret [] rfl (by first | exact resC1 2 rfl rfl Try.isAgg48 Try.sizeOf48 rfl (by first | rfl | assumption) | exact resC1 2 rfl rfl Try.isAgg48 Try.sizeOf48 rfl (by first | rfl | assumption)) trivial ⟨rfl, by first | (exfalso; omega) | (rw [hD]; (repeat first | rw [if_pos (by omega)] | rw [if_neg (by omega)]); rfl), rfl⟩
                              · skip
                                try simp only [decide_eq_false_iff_not, decide_eq_true_eq, Int.not_lt, Int.not_le, Bool.not_eq_false, Bool.not_eq_true, Bool.not_true, Bool.not_false, Bool.not_eq_true', Bool.not_eq_false', beq_eq_false_iff_ne, ne_eq, beq_iff_eq, bne_iff_ne, bne_eq_false_iff_eq, Classical.not_not] at g183
                                refine Cd.over rfl hK18 ?_
                                refine Cd.seq fun K35 hK35 => ?_
                                refine Cd.plain [(0, false), (1, false), (2, false)] rfl rfl ?_
                                refine Jp.y 191 rfl (want_all rfl) rfl rfl Kp.true (Y.move rfl rfl) ?_
                                refine Jp.y 192 rfl (want_all rfl) rfl rfl Kp.true (Y.struct [(0, _)] [_, _, _, _, _] rfl rfl places48 Try.zeroValue48 rfl) ?_
                                first | refine Jp.storeAll 2 rfl (want_all rfl) rfl rfl Try.sizeOf48 rfl rfl (by first | rfl | assumption) (by first | rfl | assumption) rfl (by first | rfl | assumption) (fun k _ _ => noFr0 k) Kp.true ?_ | refine Jp.storeAll 2 rfl (want_all rfl) rfl rfl Try.sizeOf48 rfl rfl (by first | rfl | assumption) (by first | rfl | assumption) rfl (by first | rfl | assumption) (fun k _ _ => noFr0 k) Kp.true ?_
                                refine Jp.done hK35 ?_
                                refine Cd.ret [] rfl (by first | exact resC1 2 rfl rfl Try.isAgg48 Try.sizeOf48 rfl (by first | rfl | assumption) | exact resC1 2 rfl rfl Try.isAgg48 Try.sizeOf48 rfl (by first | rfl | assumption)) trivial ⟨rfl, by first | (exfalso; omega) | (rw [hD]; (repeat first | rw [if_pos (by omega)] | rw [if_neg (by omega)]); rfl), rfl⟩
                    · skip
                      try simp only [decide_eq_false_iff_not, decide_eq_true_eq, Int.not_lt, Int.not_le, Bool.not_eq_false, Bool.not_eq_true, Bool.not_true, Bool.not_false, Bool.not_eq_true', Bool.not_eq_false', beq_eq_false_iff_ne, ne_eq, beq_iff_eq, bne_iff_ne, bne_eq_false_iff_eq, Classical.not_not] at g121
                      refine Jp.skip 122 rfl (want_as rfl rfl rfl rfl) rfl rfl Kp.true ?_
                      refine Jp.skip 123 rfl (want_as rfl rfl rfl rfl) rfl rfl Kp.true ?_
                      refine Jp.y 124 rfl (want_as rfl rfl rfl rfl) rfl rfl Kp.true (Y.pickF rfl rfl rfl) ?_
                      refine Jp.y 125 rfl (want_all rfl) rfl rfl Kp.true (Y.pickF rfl rfl rfl) ?_
                      refine Jp.y 107 rfl (want_all rfl) rfl rfl Kp.true (Y.assign rfl rfl) ?_
                      refine Jp.done hK23 ?_
                      refine Cd.condF rfl ?_
                      refine Cd.seq fun K36 hK36 => ?_
                      refine Cd.plain [(0, false), (1, false), (2, false)] rfl rfl ?_
                      refine Jp.y 134 rfl (want_all rfl) rfl rfl Kp.true (Y.move rfl rfl) ?_
                      refine Jp.y 135 rfl (want_all rfl) rfl rfl Kp.true (Y.leq rfl rfl rfl) ?_
                      refine Jp.y 133 rfl (want_all rfl) rfl rfl Kp.true (Y.assign rfl rfl) ?_
                      refine Jp.done hK36 ?_
                      refine Cd.cond rfl (fun g133 => ?_) (fun g133 => ?_)
                      · skip
                        try simp only [decide_eq_false_iff_not, decide_eq_true_eq, Int.not_lt, Int.not_le, Bool.not_eq_false, Bool.not_eq_true, Bool.not_true, Bool.not_false, Bool.not_eq_true', Bool.not_eq_false', beq_eq_false_iff_ne, ne_eq, beq_iff_eq, bne_iff_ne, bne_eq_false_iff_eq, Classical.not_not] at g133
                        refine Cd.seq fun K37 hK37 => ?_
                        refine Cd.plain [(0, false), (1, false), (2, false), (3, false), (4, false), (5, false), (6, false), (7, false), (8, false), (9, false), (10, false), (11, false), (12, false), (13, false), (14, false), (15, false), (16, false), (17, false), (18, false), (19, false), (20, false), (21, false), (22, false), (23, false)] rfl rfl ?_
                        refine Jp.y 136 rfl (want_all rfl) rfl rfl Kp.true (Y.move rfl rfl) ?_
                        refine Jp.y 137 rfl (want_all rfl) rfl rfl Kp.true (Y.move rfl rfl) ?_
                        refine Jp.y 138 rfl (want_all rfl) rfl rfl Kp.true (Y.move rfl rfl) ?_
                        refine Jp.y 139 rfl (want_all rfl) rfl rfl Kp.true (Y.move rfl rfl) ?_
                        refine Jp.y 140 rfl (want_all rfl) rfl rfl Kp.true (Y.shr rfl rfl rfl (by first | decide | omega)) ?_
                        refine Jp.y 141 rfl (want_all rfl) rfl rfl Kp.true (Y.shl rfl rfl rfl (by first | decide | omega)) ?_
                        refine Jp.y 142 rfl (want_all rfl) rfl rfl Kp.true (Y.move rfl rfl) ?_
                        refine Jp.y 143 rfl (want_all rfl) rfl rfl Kp.true (Y.shr rfl rfl rfl (by first | decide | omega)) ?_
                        refine Jp.y 144 rfl (want_all rfl) rfl rfl Kp.true (Y.bits rfl rfl rfl rfl) ?_
                        refine Jp.y 145 rfl (want_all rfl) rfl rfl Kp.true (Y.shl rfl rfl rfl (by first | decide | omega)) ?_
                        refine Jp.y 146 rfl (want_all rfl) rfl rfl Kp.true (Y.bits rfl rfl rfl rfl) ?_
                        refine Jp.y 147 rfl (want_all rfl) rfl rfl Kp.true (Y.move rfl rfl) ?_
                        refine Jp.y 148 rfl (want_all rfl) rfl rfl Kp.true (Y.shr rfl rfl rfl (by first | decide | omega)) ?_
                        refine Jp.y 149 rfl (want_all rfl) rfl rfl Kp.true (Y.bits rfl rfl rfl rfl) ?_
                        refine Jp.y 150 rfl (want_all rfl) rfl rfl Kp.true (Y.shl rfl rfl rfl (by first | decide | omega)) ?_
                        refine Jp.y 151 rfl (want_all rfl) rfl rfl Kp.true (Y.bits rfl rfl rfl rfl) ?_
                        refine Jp.y 152 rfl (want_all rfl) rfl rfl Kp.true (Y.move rfl rfl) ?_
                        refine Jp.y 153 rfl (want_all rfl) rfl rfl Kp.true (Y.shr rfl rfl rfl (by first | decide | omega)) ?_
                        refine Jp.y 154 rfl (want_all rfl) rfl rfl Kp.true (Y.bits rfl rfl rfl rfl) ?_
                        refine Jp.y 155 rfl (want_all rfl) rfl rfl Kp.true (Y.shl rfl rfl rfl (by first | decide | omega)) ?_
                        refine Jp.y 156 rfl (want_all rfl) rfl rfl Kp.true (Y.bits rfl rfl rfl rfl) ?_
                        refine Jp.slot 156 rfl (show _ = Value.int .u32 (NB : Int) from congrArg (Value.int .u32) rB) ?_
                        refine Jp.call [] [] vB 157 rfl (want_all rfl) rfl rfl (Runs.fn rfl Try.call44 rfl) (by decide) (by decide) rfl trivial ?_
                        rintro v2 ρ2 L2 ⟨rfl, rfl, rfl⟩
                        refine ⟨rfl, fun hle2 => ⟨Kp.true, ?_⟩⟩
                        refine Jp.y 158 rfl (want_all rfl) rfl rfl Kp.true (Y.struct [(0, _), (2, _), (3, _), (4, _)] [_, _, _, _, _] rfl rfl places48 Try.zeroValue48 rfl) ?_
                        first | refine Jp.storeAll 2 rfl (want_all rfl) rfl rfl Try.sizeOf48 rfl rfl (by first | rfl | assumption) (by first | rfl | assumption) rfl (by first | rfl | assumption) (fun k _ _ => noFr0 k) Kp.true ?_ | refine Jp.storeAll 2 rfl (want_all rfl) rfl rfl Try.sizeOf48 rfl rfl (by first | rfl | assumption) (by first | rfl | assumption) rfl (by first | rfl | assumption) (fun k _ _ => noFr0 k) Kp.true ?_
                        refine Jp.done hK37 ?_
                        refine Cd.ret [] rfl (by first | exact resC1 2 rfl rfl Try.isAgg48 Try.sizeOf48 rfl (by first | rfl | assumption) | exact resC1 2 rfl rfl Try.isAgg48 Try.sizeOf48 rfl (by first | rfl | assumption)) trivial ⟨rfl, by first | (exfalso; omega) | (rw [hD]; (repeat first | rw [if_pos (by omega)] | rw [if_neg (by omega)]); rfl), rfl⟩
                      · skip
                        try simp only [decide_eq_false_iff_not, decide_eq_true_eq, Int.not_lt, Int.not_le, Bool.not_eq_false, Bool.not_eq_true, Bool.not_true, Bool.not_false, Bool.not_eq_true', Bool.not_eq_false', beq_eq_false_iff_ne, ne_eq, beq_iff_eq, bne_iff_ne, bne_eq_false_iff_eq, Classical.not_not] at g133
                        refine Cd.seq fun K38 hK38 => ?_
                        refine Cd.plain [(0, false), (1, false), (2, false)] rfl rfl ?_
                        refine Jp.y 160 rfl (want_all rfl) rfl rfl Kp.true (Y.move rfl rfl) ?_
                        refine Jp.y 161 rfl (want_all rfl) rfl rfl Kp.true (Y.leq rfl rfl rfl) ?_
                        refine Jp.y 159 rfl (want_all rfl) rfl rfl Kp.true (Y.assign rfl rfl) ?_
                        refine Jp.done hK38 ?_
                        refine Cd.cond rfl (fun g159 => ?_) (fun g159 => ?_)
                        · skip
                          try simp only [decide_eq_false_iff_not, decide_eq_true_eq, Int.not_lt, Int.not_le, Bool.not_eq_false, Bool.not_eq_true, Bool.not_true, Bool.not_false, Bool.not_eq_true', Bool.not_eq_false', beq_eq_false_iff_ne, ne_eq, beq_iff_eq, bne_iff_ne, bne_eq_false_iff_eq, Classical.not_not] at g159
                          refine Cd.seq fun K39 hK39 => ?_
                          refine Cd.plain [(0, false), (1, false), (2, false), (3, false), (4, false), (5, false), (6, false), (7, false), (8, false), (9, false), (10, false), (11, false), (12, false)] rfl rfl ?_
                          refine Jp.y 162 rfl (want_all rfl) rfl rfl Kp.true (Y.move rfl rfl) ?_
                          refine Jp.y 163 rfl (want_all rfl) rfl rfl Kp.true (Y.move rfl rfl) ?_
                          refine Jp.y 164 rfl (want_all rfl) rfl rfl Kp.true (Y.move rfl rfl) ?_
                          refine Jp.y 165 rfl (want_all rfl) rfl rfl Kp.true (Y.move rfl rfl) ?_
                          refine Jp.y 166 rfl (want_all rfl) rfl rfl Kp.true (Y.shr rfl rfl rfl (by first | decide | omega)) ?_
                          refine Jp.y 167 rfl (want_all rfl) rfl rfl Kp.true (Y.shl rfl rfl rfl (by first | decide | omega)) ?_
                          refine Jp.y 168 rfl (want_all rfl) rfl rfl Kp.true (Y.move rfl rfl) ?_
                          refine Jp.y 169 rfl (want_all rfl) rfl rfl Kp.true (Y.shr rfl rfl rfl (by first | decide | omega)) ?_
                          refine Jp.y 170 rfl (want_all rfl) rfl rfl Kp.true (Y.bits rfl rfl rfl rfl) ?_
                          refine Jp.y 171 rfl (want_all rfl) rfl rfl Kp.true (Y.bits rfl rfl rfl rfl) ?_
                          refine Jp.slot 171 rfl (show _ = Value.int .u32 (NS : Int) from congrArg (Value.int .u32) rS) ?_
                          refine Jp.call [] [] vS 172 rfl (want_all rfl) rfl rfl (Runs.fn rfl Try.call44 rfl) (by decide) (by decide) rfl trivial ?_
                          rintro v2 ρ2 L2 ⟨rfl, rfl, rfl⟩
                          refine ⟨rfl, fun hle2 => ⟨Kp.true, ?_⟩⟩
                          refine Jp.y 173 rfl (want_all rfl) rfl rfl Kp.true (Y.struct [(0, _), (2, _), (3, _), (4, _)] [_, _, _, _, _] rfl rfl places48 Try.zeroValue48 rfl) ?_
                          first | refine Jp.storeAll 2 rfl (want_all rfl) rfl rfl Try.sizeOf48 rfl rfl (by first | rfl | assumption) (by first | rfl | assumption) rfl (by first | rfl | assumption) (fun k _ _ => noFr0 k) Kp.true ?_ | refine Jp.storeAll 2 rfl (want_all rfl) rfl rfl Try.sizeOf48 rfl rfl (by first | rfl | assumption) (by first | rfl | assumption) rfl (by first | rfl | assumption) (fun k _ _ => noFr0 k) Kp.true ?_
                          refine Jp.done hK39 ?_
                          refine Cd.ret [] rfl (by first | exact resC1 2 rfl rfl Try.isAgg48 Try.sizeOf48 rfl (by first | rfl | assumption) | exact resC1 2 rfl rfl Try.isAgg48 Try.sizeOf48 rfl (by first | rfl | assumption)) trivial ⟨rfl, by first | (exfalso; omega) | (rw [hD]; (repeat first | rw [if_pos (by omega)] | rw [if_neg (by omega)]); rfl), rfl⟩
                        · skip
                          try simp only [decide_eq_false_iff_not, decide_eq_true_eq, Int.not_lt, Int.not_le, Bool.not_eq_false, Bool.not_eq_true, Bool.not_true, Bool.not_false, Bool.not_eq_true', Bool.not_eq_false', beq_eq_false_iff_ne, ne_eq, beq_iff_eq, bne_iff_ne, bne_eq_false_iff_eq, Classical.not_not] at g159
                          refine Cd.seq fun K40 hK40 => ?_
                          refine Cd.plain [(0, false), (1, false), (2, false)] rfl rfl ?_
                          refine Jp.y 175 rfl (want_all rfl) rfl rfl Kp.true (Y.move rfl rfl) ?_
                          refine Jp.y 176 rfl (want_all rfl) rfl rfl Kp.true (Y.leq rfl rfl rfl) ?_
                          refine Jp.y 174 rfl (want_all rfl) rfl rfl Kp.true (Y.assign rfl rfl) ?_
                          refine Jp.done hK40 ?_
                          refine Cd.cond rfl (fun g174 => ?_) (fun g174 => ?_)
                          · skip
                            try simp only [decide_eq_false_iff_not, decide_eq_true_eq, Int.not_lt, Int.not_le, Bool.not_eq_false, Bool.not_eq_true, Bool.not_true, Bool.not_false, Bool.not_eq_true', Bool.not_eq_false', beq_eq_false_iff_ne, ne_eq, beq_iff_eq, bne_iff_ne, bne_eq_false_iff_eq, Classical.not_not] at g174
                            refine Cd.seq fun K41 hK41 => ?_
                            refine Cd.plain [(0, false), (1, false), (2, false), (3, false), (4, false), (5, false), (6, false)] rfl rfl ?_
                            refine Jp.y 177 rfl (want_all rfl) rfl rfl Kp.true (Y.move rfl rfl) ?_
                            refine Jp.y 178 rfl (want_all rfl) rfl rfl Kp.true (Y.move rfl rfl) ?_
                            refine Jp.y 179 rfl (want_all rfl) rfl rfl Kp.true (Y.move rfl rfl) ?_
                            refine Jp.y 180 rfl (want_all rfl) rfl rfl Kp.true (Y.move rfl rfl) ?_
                            refine Jp.y 181 rfl (want_all rfl) rfl rfl Kp.true (Y.conv_ rfl rfl Try.underlying3 Try.underlying21 (by first | exact wrap_i32 (by omega) (by omega) | rfl)) ?_
                            refine Jp.y 182 rfl (want_all rfl) rfl rfl Kp.true (Y.struct [(0, _), (1, _), (2, _), (4, _)] [_, _, _, _, _] rfl rfl places48 Try.zeroValue48 rfl) ?_
                            first | refine Jp.storeAll 2 rfl (want_all rfl) rfl rfl Try.sizeOf48 rfl rfl (by first | rfl | assumption) (by first | rfl | assumption) rfl (by first | rfl | assumption) (fun k _ _ => noFr0 k) Kp.true ?_ | refine Jp.storeAll 2 rfl (want_all rfl) rfl rfl Try.sizeOf48 rfl rfl (by first | rfl | assumption) (by first | rfl | assumption) rfl (by first | rfl | assumption) (fun k _ _ => noFr0 k) Kp.true ?_
                            refine Jp.done hK41 ?_
                            refine Cd.ret [] rfl (by first | exact resC1 2 rfl rfl Try.isAgg48 Try.sizeOf48 rfl (by first | rfl | assumption) | exact resC1 2 rfl rfl Try.isAgg48 Try.sizeOf48 rfl (by first | rfl | assumption)) trivial ⟨rfl, by first | (exfalso; omega) | (rw [hD]; (repeat first | rw [if_pos (by omega)] | rw [if_neg (by omega)]); rfl), rfl⟩
                          · skip
                            try simp only [decide_eq_false_iff_not, decide_eq_true_eq, Int.not_lt, Int.not_le, Bool.not_eq_false, Bool.not_eq_true, Bool.not_true, Bool.not_false, Bool.not_eq_true', Bool.not_eq_false', beq_eq_false_iff_ne, ne_eq, beq_iff_eq, bne_iff_ne, bne_eq_false_iff_eq, Classical.not_not] at g174
                            refine Cd.seq fun K42 hK42 => ?_
                            refine Cd.plain [(0, false), (1, false), (2, false)] rfl rfl ?_
                            refine Jp.y 184 rfl (want_all rfl) rfl rfl Kp.true (Y.move rfl rfl) ?_
                            refine Jp.y 185 rfl (want_all rfl) rfl rfl Kp.true (Y.leq rfl rfl rfl) ?_
                            refine Jp.y 183 rfl (want_all rfl) rfl rfl Kp.true (Y.assign rfl rfl) ?_
                            refine Jp.done hK42 ?_
                            refine Cd.cond rfl (fun g183 => ?_) (fun g183 => ?_)
                            · skip
                              try simp only [decide_eq_false_iff_not, decide_eq_true_eq, Int.not_lt, Int.not_le, Bool.not_eq_false, Bool.not_eq_true, Bool.not_true, Bool.not_false, Bool.not_eq_true', Bool.not_eq_false', beq_eq_false_iff_ne, ne_eq, beq_iff_eq, bne_iff_ne, bne_eq_false_iff_eq, Classical.not_not] at g183
                              refine Cd.seq fun K43 hK43 => ?_
                              refine Cd.plain [(0, false), (1, false), (2, false), (3, false), (4, false), (5, false)] rfl rfl ?_
                              refine Jp.y 186 rfl (want_all rfl) rfl rfl Kp.true (Y.move rfl rfl) ?_
                              refine Jp.y 187 rfl (want_all rfl) rfl rfl Kp.true (Y.move rfl rfl) ?_
                              refine Jp.y 188 rfl (want_all rfl) rfl rfl Kp.true (Y.move rfl rfl) ?_
                              refine Jp.y 189 rfl (want_all rfl) rfl rfl Kp.true (Y.move rfl rfl) ?_
                              refine Jp.y 190 rfl (want_all rfl) rfl rfl Kp.true (Y.struct [(0, _), (1, _), (2, _), (3, _)] [_, _, _, _, _] rfl rfl places48 Try.zeroValue48 rfl) ?_
                              first | refine Jp.storeAll 2 rfl (want_all rfl) rfl rfl Try.sizeOf48 rfl rfl (by first | rfl | assumption) (by first | rfl | assumption) rfl (by first | rfl | assumption) (fun k _ _ => noFr0 k) Kp.true ?_ | refine Jp.storeAll 2 rfl (want_all rfl) rfl rfl Try.sizeOf48 rfl rfl (by first | rfl | assumption) (by first | rfl | assumption) rfl (by first | rfl | assumption) (fun k _ _ => noFr0 k) Kp.true ?_
                              refine Jp.done hK43 ?_
                              refine Cd.ret [] rfl (by first | exact resC1 2 rfl rfl Try.isAgg48 Try.sizeOf48 rfl (by first | rfl | assumption) | exact resC1 2 rfl rfl Try.isAgg48 Try.sizeOf48 rfl (by first | rfl | assumption)) trivial ⟨rfl, by first | (exfalso; omega) | (rw [hD]; (repeat first | rw [if_pos (by omega)] | rw [if_neg (by omega)]); rfl), rfl⟩
                            · skip
                              try simp only [decide_eq_false_iff_not, decide_eq_true_eq, Int.not_lt, Int.not_le, Bool.not_eq_false, Bool.not_eq_true, Bool.not_true, Bool.not_false, Bool.not_eq_true', Bool.not_eq_false', beq_eq_false_iff_ne, ne_eq, beq_iff_eq, bne_iff_ne, bne_eq_false_iff_eq, Classical.not_not] at g183
                              refine Cd.over rfl hK18 ?_
                              refine Cd.seq fun K44 hK44 => ?_
                              refine Cd.plain [(0, false), (1, false), (2, false)] rfl rfl ?_
                              refine Jp.y 191 rfl (want_all rfl) rfl rfl Kp.true (Y.move rfl rfl) ?_
                              refine Jp.y 192 rfl (want_all rfl) rfl rfl Kp.true (Y.struct [(0, _)] [_, _, _, _, _] rfl rfl places48 Try.zeroValue48 rfl) ?_
                              first | refine Jp.storeAll 2 rfl (want_all rfl) rfl rfl Try.sizeOf48 rfl rfl (by first | rfl | assumption) (by first | rfl | assumption) rfl (by first | rfl | assumption) (fun k _ _ => noFr0 k) Kp.true ?_ | refine Jp.storeAll 2 rfl (want_all rfl) rfl rfl Try.sizeOf48 rfl rfl (by first | rfl | assumption) (by first | rfl | assumption) rfl (by first | rfl | assumption) (fun k _ _ => noFr0 k) Kp.true ?_
                              refine Jp.done hK44 ?_
                              refine Cd.ret [] rfl (by first | exact resC1 2 rfl rfl Try.isAgg48 Try.sizeOf48 rfl (by first | rfl | assumption) | exact resC1 2 rfl rfl Try.isAgg48 Try.sizeOf48 rfl (by first | rfl | assumption)) trivial ⟨rfl, by first | (exfalso; omega) | (rw [hD]; (repeat first | rw [if_pos (by omega)] | rw [if_neg (by omega)]); rfl), rfl⟩
                · skip
                  try simp only [decide_eq_false_iff_not, decide_eq_true_eq, Int.not_lt, Int.not_le, Bool.not_eq_false, Bool.not_eq_true, Bool.not_true, Bool.not_false, Bool.not_eq_true', Bool.not_eq_false', beq_eq_false_iff_ne, ne_eq, beq_iff_eq, bne_iff_ne, bne_eq_false_iff_eq, Classical.not_not] at g113
                  refine Jp.skip 114 rfl (want_as rfl rfl rfl rfl) rfl rfl Kp.true ?_
                  refine Jp.skip 115 rfl (want_as rfl rfl rfl rfl) rfl rfl Kp.true ?_
                  refine Jp.y 116 rfl (want_as rfl rfl rfl rfl) rfl rfl Kp.true (Y.pickF rfl rfl rfl) ?_
                  refine Jp.y 117 rfl (want_all rfl) rfl rfl Kp.true (Y.pickF rfl rfl rfl) ?_
                  refine Jp.y 118 rfl (want_all rfl) rfl rfl Kp.true (Y.move rfl rfl) ?_
                  refine Jp.y 119 rfl (want_as rfl rfl rfl rfl) rfl rfl Kp.true (Y.move rfl rfl) ?_
                  refine Jp.y 120 rfl (want_as rfl rfl rfl rfl) rfl rfl Kp.true (Y.geq rfl rfl rfl) ?_
                  refine Jp.y 121 rfl (want_as rfl rfl rfl rfl) rfl rfl Kp.true (Y.move rfl rfl) ?_
                  refine Jp.split 121 rfl (fun g121 => ?_) (fun g121 => ?_)
                  · skip
                    try simp only [decide_eq_false_iff_not, decide_eq_true_eq, Int.not_lt, Int.not_le, Bool.not_eq_false, Bool.not_eq_true, Bool.not_true, Bool.not_false, Bool.not_eq_true', Bool.not_eq_false', beq_eq_false_iff_ne, ne_eq, beq_iff_eq, bne_iff_ne, bne_eq_false_iff_eq, Classical.not_not] at g121
                    refine Jp.y 122 rfl (want_as rfl rfl rfl rfl) rfl rfl Kp.true (Y.move rfl rfl) ?_
                    refine Jp.y 123 rfl (want_as rfl rfl rfl rfl) rfl rfl Kp.true (Y.leq rfl rfl rfl) ?_
                    refine Jp.y 124 rfl (want_as rfl rfl rfl rfl) rfl rfl Kp.true (Y.pickT rfl rfl rfl) ?_
                    refine Jp.y 125 rfl (want_all rfl) rfl rfl Kp.true (Y.pickF rfl rfl rfl) ?_
                    refine Jp.y 107 rfl (want_all rfl) rfl rfl Kp.true (Y.assign rfl rfl) ?_
                    refine Jp.done hK23 ?_
                    refine Cd.cond rfl (fun g107 => ?_) (fun g107 => ?_)
                    · skip
                      try simp only [decide_eq_false_iff_not, decide_eq_true_eq, Int.not_lt, Int.not_le, Bool.not_eq_false, Bool.not_eq_true, Bool.not_true, Bool.not_false, Bool.not_eq_true', Bool.not_eq_false', beq_eq_false_iff_ne, ne_eq, beq_iff_eq, bne_iff_ne, bne_eq_false_iff_eq, Classical.not_not] at g107
                      refine Cd.seq fun K45 hK45 => ?_
                      refine Cd.plain [(0, false), (1, false), (2, false), (3, false), (4, false), (5, false), (6, false), (7, false)] rfl rfl ?_
                      refine Jp.y 126 rfl (want_all rfl) rfl rfl Kp.true (Y.move rfl rfl) ?_
                      refine Jp.y 127 rfl (want_all rfl) rfl rfl Kp.true (Y.move rfl rfl) ?_
                      refine Jp.y 128 rfl (want_all rfl) rfl rfl Kp.true (Y.move rfl rfl) ?_
                      refine Jp.y 129 rfl (want_all rfl) rfl rfl Kp.true (Y.move rfl rfl) ?_
                      refine Jp.y 130 rfl (want_all rfl) rfl rfl Kp.true (Y.shr rfl rfl rfl (by first | decide | omega)) ?_
                      refine Jp.slot 130 rfl (show _ = Value.int .u32 (NI : Int) from congrArg (Value.int .u32) rI) ?_
                      refine Jp.call [] [] vI 131 rfl (want_all rfl) rfl rfl (Runs.fn rfl Try.call44 rfl) (by decide) (by decide) rfl trivial ?_
                      rintro v2 ρ2 L2 ⟨rfl, rfl, rfl⟩
                      refine ⟨rfl, fun hle2 => ⟨Kp.true, ?_⟩⟩
                      refine Jp.y 132 rfl (want_all rfl) rfl rfl Kp.true (Y.struct [(0, _), (1, _), (2, _), (4, _)] [_, _, _, _, _] rfl rfl places48 Try.zeroValue48 rfl) ?_
                      first | refine Jp.storeAll 2 rfl (want_all rfl) rfl rfl Try.sizeOf48 rfl rfl (by first | rfl | assumption) (by first | rfl | assumption) rfl (by first | rfl | assumption) (fun k _ _ => noFr0 k) Kp.true ?_ | refine Jp.storeAll 2 rfl (want_all rfl) rfl rfl Try.sizeOf48 rfl rfl (by first | rfl | assumption) (by first | rfl | assumption) rfl (by first | rfl | assumption) (fun k _ _ => noFr0 k) Kp.true ?_
                      refine Jp.done hK45 ?_
                      refine Cd.ret [] rfl (by first | exact resC1 2 rfl rfl Try.isAgg48 Try.sizeOf48 rfl (by first | rfl | assumption) | exact resC1 2 rfl rfl Try.isAgg48 Try.sizeOf48 rfl (by first | rfl | assumption)) trivial ⟨rfl, by first | (exfalso; omega) | (rw [hD]; (repeat first | rw [if_pos (by omega)] | rw [if_neg (by omega)]); rfl), rfl⟩
                    · skip
                      try simp only [decide_eq_false_iff_not, decide_eq_true_eq, Int.not_lt, Int.not_le, Bool.not_eq_false, Bool.not_eq_true, Bool.not_true, Bool.not_false, Bool.not_eq_true', Bool.not_eq_false', beq_eq_false_iff_ne, ne_eq, beq_iff_eq, bne_iff_ne, bne_eq_false_iff_eq, Classical.not_not] at g107
                      refine Cd.seq fun K46 hK46 => ?_
                      refine Cd.plain [(0, false), (1, false), (2, false)] rfl rfl ?_
                      refine Jp.y 134 rfl (want_all rfl) rfl rfl Kp.true (Y.move rfl rfl) ?_
                      refine Jp.y 135 rfl (want_all rfl) rfl rfl Kp.true (Y.leq rfl rfl rfl) ?_
                      refine Jp.y 133 rfl (want_all rfl) rfl rfl Kp.true (Y.assign rfl rfl) ?_
                      refine Jp.done hK46 ?_
                      refine Cd.cond rfl (fun g133 => ?_) (fun g133 => ?_)
                      · skip
                        try simp only [decide_eq_false_iff_not, decide_eq_true_eq, Int.not_lt, Int.not_le, Bool.not_eq_false, Bool.not_eq_true, Bool.not_true, Bool.not_false, Bool.not_eq_true', Bool.not_eq_false', beq_eq_false_iff_ne, ne_eq, beq_iff_eq, bne_iff_ne, bne_eq_false_iff_eq, Classical.not_not] at g133
                        refine Cd.seq fun K47 hK47 => ?_
                        refine Cd.plain [(0, false), (1, false), (2, false), (3, false), (4, false), (5, false), (6, false), (7, false), (8, false), (9, false), (10, false), (11, false), (12, false), (13, false), (14, false), (15, false), (16, false), (17, false), (18, false), (19, false), (20, false), (21, false), (22, false), (23, false)] rfl rfl ?_
                        refine Jp.y 136 rfl (want_all rfl) rfl rfl Kp.true (Y.move rfl rfl) ?_
                        refine Jp.y 137 rfl (want_all rfl) rfl rfl Kp.true (Y.move rfl rfl) ?_
                        refine Jp.y 138 rfl (want_all rfl) rfl rfl Kp.true (Y.move rfl rfl) ?_
                        refine Jp.y 139 rfl (want_all rfl) rfl rfl Kp.true (Y.move rfl rfl) ?_
                        refine Jp.y 140 rfl (want_all rfl) rfl rfl Kp.true (Y.shr rfl rfl rfl (by first | decide | omega)) ?_
                        refine Jp.y 141 rfl (want_all rfl) rfl rfl Kp.true (Y.shl rfl rfl rfl (by first | decide | omega)) ?_
                        refine Jp.y 142 rfl (want_all rfl) rfl rfl Kp.true (Y.move rfl rfl) ?_
                        refine Jp.y 143 rfl (want_all rfl) rfl rfl Kp.true (Y.shr rfl rfl rfl (by first | decide | omega)) ?_
                        refine Jp.y 144 rfl (want_all rfl) rfl rfl Kp.true (Y.bits rfl rfl rfl rfl) ?_
                        refine Jp.y 145 rfl (want_all rfl) rfl rfl Kp.true (Y.shl rfl rfl rfl (by first | decide | omega)) ?_
                        refine Jp.y 146 rfl (want_all rfl) rfl rfl Kp.true (Y.bits rfl rfl rfl rfl) ?_
                        refine Jp.y 147 rfl (want_all rfl) rfl rfl Kp.true (Y.move rfl rfl) ?_
                        refine Jp.y 148 rfl (want_all rfl) rfl rfl Kp.true (Y.shr rfl rfl rfl (by first | decide | omega)) ?_
                        refine Jp.y 149 rfl (want_all rfl) rfl rfl Kp.true (Y.bits rfl rfl rfl rfl) ?_
                        refine Jp.y 150 rfl (want_all rfl) rfl rfl Kp.true (Y.shl rfl rfl rfl (by first | decide | omega)) ?_
                        refine Jp.y 151 rfl (want_all rfl) rfl rfl Kp.true (Y.bits rfl rfl rfl rfl) ?_
                        refine Jp.y 152 rfl (want_all rfl) rfl rfl Kp.true (Y.move rfl rfl) ?_
                        refine Jp.y 153 rfl (want_all rfl) rfl rfl Kp.true (Y.shr rfl rfl rfl (by first | decide | omega)) ?_
                        refine Jp.y 154 rfl (want_all rfl) rfl rfl Kp.true (Y.bits rfl rfl rfl rfl) ?_
                        refine Jp.y 155 rfl (want_all rfl) rfl rfl Kp.true (Y.shl rfl rfl rfl (by first | decide | omega)) ?_
                        refine Jp.y 156 rfl (want_all rfl) rfl rfl Kp.true (Y.bits rfl rfl rfl rfl) ?_
                        refine Jp.slot 156 rfl (show _ = Value.int .u32 (NB : Int) from congrArg (Value.int .u32) rB) ?_
                        refine Jp.call [] [] vB 157 rfl (want_all rfl) rfl rfl (Runs.fn rfl Try.call44 rfl) (by decide) (by decide) rfl trivial ?_
                        rintro v2 ρ2 L2 ⟨rfl, rfl, rfl⟩
                        refine ⟨rfl, fun hle2 => ⟨Kp.true, ?_⟩⟩
                        refine Jp.y 158 rfl (want_all rfl) rfl rfl Kp.true (Y.struct [(0, _), (2, _), (3, _), (4, _)] [_, _, _, _, _] rfl rfl places48 Try.zeroValue48 rfl) ?_
                        first | refine Jp.storeAll 2 rfl (want_all rfl) rfl rfl Try.sizeOf48 rfl rfl (by first | rfl | assumption) (by first | rfl | assumption) rfl (by first | rfl | assumption) (fun k _ _ => noFr0 k) Kp.true ?_ | refine Jp.storeAll 2 rfl (want_all rfl) rfl rfl Try.sizeOf48 rfl rfl (by first | rfl | assumption) (by first | rfl | assumption) rfl (by first | rfl | assumption) (fun k _ _ => noFr0 k) Kp.true ?_
                        refine Jp.done hK47 ?_
                        refine Cd.ret [] rfl (by first | exact resC1 2 rfl rfl Try.isAgg48 Try.sizeOf48 rfl (by first | rfl | assumption) | exact resC1 2 rfl rfl Try.isAgg48 Try.sizeOf48 rfl (by first | rfl | assumption)) trivial ⟨rfl, by first | (exfalso; omega) | (rw [hD]; (repeat first | rw [if_pos (by omega)] | rw [if_neg (by omega)]); rfl), rfl⟩
                      · skip
                        try simp only [decide_eq_false_iff_not, decide_eq_true_eq, Int.not_lt, Int.not_le, Bool.not_eq_false, Bool.not_eq_true, Bool.not_true, Bool.not_false, Bool.not_eq_true', Bool.not_eq_false', beq_eq_false_iff_ne, ne_eq, beq_iff_eq, bne_iff_ne, bne_eq_false_iff_eq, Classical.not_not] at g133
                        refine Cd.seq fun K48 hK48 => ?_
                        refine Cd.plain [(0, false), (1, false), (2, false)] rfl rfl ?_
                        refine Jp.y 160 rfl (want_all rfl) rfl rfl Kp.true (Y.move rfl rfl) ?_
                        refine Jp.y 161 rfl (want_all rfl) rfl rfl Kp.true (Y.leq rfl rfl rfl) ?_
                        refine Jp.y 159 rfl (want_all rfl) rfl rfl Kp.true (Y.assign rfl rfl) ?_
                        refine Jp.done hK48 ?_
                        refine Cd.cond rfl (fun g159 => ?_) (fun g159 => ?_)
                        · skip
                          try simp only [decide_eq_false_iff_not, decide_eq_true_eq, Int.not_lt, Int.not_le, Bool.not_eq_false, Bool.not_eq_true, Bool.not_true, Bool.not_false, Bool.not_eq_true', Bool.not_eq_false', beq_eq_false_iff_ne, ne_eq, beq_iff_eq, bne_iff_ne, bne_eq_false_iff_eq, Classical.not_not] at g159
                          refine Cd.seq fun K49 hK49 => ?_
                          refine Cd.plain [(0, false), (1, false), (2, false), (3, false), (4, false), (5, false), (6, false), (7, false), (8, false), (9, false), (10, false), (11, false), (12, false)] rfl rfl ?_
                          refine Jp.y 162 rfl (want_all rfl) rfl rfl Kp.true (Y.move rfl rfl) ?_
                          refine Jp.y 163 rfl (want_all rfl) rfl rfl Kp.true (Y.move rfl rfl) ?_
                          refine Jp.y 164 rfl (want_all rfl) rfl rfl Kp.true (Y.move rfl rfl) ?_
                          refine Jp.y 165 rfl (want_all rfl) rfl rfl Kp.true (Y.move rfl rfl) ?_
                          refine Jp.y 166 rfl (want_all rfl) rfl rfl Kp.true (Y.shr rfl rfl rfl (by first | decide | omega)) ?_
                          refine Jp.y 167 rfl (want_all rfl) rfl rfl Kp.true (Y.shl rfl rfl rfl (by first | decide | omega)) ?_
                          refine Jp.y 168 rfl (want_all rfl) rfl rfl Kp.true (Y.move rfl rfl) ?_
                          refine Jp.y 169 rfl (want_all rfl) rfl rfl Kp.true (Y.shr rfl rfl rfl (by first | decide | omega)) ?_
                          refine Jp.y 170 rfl (want_all rfl) rfl rfl Kp.true (Y.bits rfl rfl rfl rfl) ?_
                          refine Jp.y 171 rfl (want_all rfl) rfl rfl Kp.true (Y.bits rfl rfl rfl rfl) ?_
                          refine Jp.slot 171 rfl (show _ = Value.int .u32 (NS : Int) from congrArg (Value.int .u32) rS) ?_
                          refine Jp.call [] [] vS 172 rfl (want_all rfl) rfl rfl (Runs.fn rfl Try.call44 rfl) (by decide) (by decide) rfl trivial ?_
                          rintro v2 ρ2 L2 ⟨rfl, rfl, rfl⟩
                          refine ⟨rfl, fun hle2 => ⟨Kp.true, ?_⟩⟩
                          refine Jp.y 173 rfl (want_all rfl) rfl rfl Kp.true (Y.struct [(0, _), (2, _), (3, _), (4, _)] [_, _, _, _, _] rfl rfl places48 Try.zeroValue48 rfl) ?_
                          first | refine Jp.storeAll 2 rfl (want_all rfl) rfl rfl Try.sizeOf48 rfl rfl (by first | rfl | assumption) (by first | rfl | assumption) rfl (by first | rfl | assumption) (fun k _ _ => noFr0 k) Kp.true ?_ | refine Jp.storeAll 2 rfl (want_all rfl) rfl rfl Try.sizeOf48 rfl rfl (by first | rfl | assumption) (by first | rfl | assumption) rfl (by first | rfl | assumption) (fun k _ _ => noFr0 k) Kp.true ?_
                          refine Jp.done hK49 ?_
                          refine Cd.ret [] rfl (by first | exact resC1 2 rfl rfl Try.isAgg48 Try.sizeOf48 rfl (by first | rfl | assumption) | exact resC1 2 rfl rfl Try.isAgg48 Try.sizeOf48 rfl (by first | rfl | assumption)) trivial ⟨rfl, by first | (exfalso; omega) | (rw [hD]; (repeat first | rw [if_pos (by omega)] | rw [if_neg (by omega)]); rfl), rfl⟩
                        · skip
                          try simp only [decide_eq_false_iff_not, decide_eq_true_eq, Int.not_lt, Int.not_le, Bool.not_eq_false, Bool.not_eq_true, Bool.not_true, Bool.not_false, Bool.not_eq_true', Bool.not_eq_false', beq_eq_false_iff_ne, ne_eq, beq_iff_eq, bne_iff_ne, bne_eq_false_iff_eq, Classical.not_not] at g159
                          refine Cd.seq fun K50 hK50 => ?_
                          refine Cd.plain [(0, false), (1, false), (2, false)] rfl rfl ?_
                          refine Jp.y 175 rfl (want_all rfl) rfl rfl Kp.true (Y.move rfl rfl) ?_
                          refine Jp.y 176 rfl (want_all rfl) rfl rfl Kp.true (Y.leq rfl rfl rfl) ?_
                          refine Jp.y 174 rfl (want_all rfl) rfl rfl Kp.true (Y.assign rfl rfl) ?_
                          refine Jp.done hK50 ?_
                          refine Cd.cond rfl (fun g174 => ?_) (fun g174 => ?_)
                          · skip
                            try simp only [decide_eq_false_iff_not, decide_eq_true_eq, Int.not_lt, Int.not_le, Bool.not_eq_false, Bool.not_eq_true, Bool.not_true, Bool.not_false, Bool.not_eq_true', Bool.not_eq_false', beq_eq_false_iff_ne, ne_eq, beq_iff_eq, bne_iff_ne, bne_eq_false_iff_eq, Classical.not_not] at g174
                            refine Cd.seq fun K51 hK51 => ?_
                            refine Cd.plain [(0, false), (1, false), (2, false), (3, false), (4, false), (5, false), (6, false)] rfl rfl ?_
                            refine Jp.y 177 rfl (want_all rfl) rfl rfl Kp.true (Y.move rfl rfl) ?_
                            refine Jp.y 178 rfl (want_all rfl) rfl rfl Kp.true (Y.move rfl rfl) ?_
                            refine Jp.y 179 rfl (want_all rfl) rfl rfl Kp.true (Y.move rfl rfl) ?_
                            refine Jp.y 180 rfl (want_all rfl) rfl rfl Kp.true (Y.move rfl rfl) ?_
                            refine Jp.y 181 rfl (want_all rfl) rfl rfl Kp.true (Y.conv_ rfl rfl Try.underlying3 Try.underlying21 (by first | exact wrap_i32 (by omega) (by omega) | rfl)) ?_
                            refine Jp.y 182 rfl (want_all rfl) rfl rfl Kp.true (Y.struct [(0, _), (1, _), (2, _), (4, _)] [_, _, _, _, _] rfl rfl places48 Try.zeroValue48 rfl) ?_
                            first | refine Jp.storeAll 2 rfl (want_all rfl) rfl rfl Try.sizeOf48 rfl rfl (by first | rfl | assumption) (by first | rfl | assumption) rfl (by first | rfl | assumption) (fun k _ _ => noFr0 k) Kp.true ?_ | refine Jp.storeAll 2 rfl (want_all rfl) rfl rfl Try.sizeOf48 rfl rfl (by first | rfl | assumption) (by first | rfl | assumption) rfl (by first | rfl | assumption) (fun k _ _ => noFr0 k) Kp.true ?_
                            refine Jp.done hK51 ?_
                            refine Cd.ret [] rfl (by first | exact resC1 2 rfl rfl Try.isAgg48 Try.sizeOf48 rfl (by first | rfl | assumption) | exact resC1 2 rfl rfl Try.isAgg48 Try.sizeOf48 rfl (by first | rfl | assumption)) trivial ⟨rfl, by first | (exfalso; omega) | (rw [hD]; (repeat first | rw [if_pos (by omega)] | rw [if_neg (by omega)]); rfl), rfl⟩
                          · skip
                            try simp only [decide_eq_false_iff_not, decide_eq_true_eq, Int.not_lt, Int.not_le, Bool.not_eq_false, Bool.not_eq_true, Bool.not_true, Bool.not_false, Bool.not_eq_true', Bool.not_eq_false', beq_eq_false_iff_ne, ne_eq, beq_iff_eq, bne_iff_ne, bne_eq_false_iff_eq, Classical.not_not] at g174
                            refine Cd.seq fun K52 hK52 => ?_
                            refine Cd.plain [(0, false), (1, false), (2, false)] rfl rfl ?_
                            refine Jp.y 184 rfl (want_all rfl) rfl rfl Kp.true (Y.move rfl rfl) ?_
                            refine Jp.y 185 rfl (want_all rfl) rfl rfl Kp.true (Y.leq rfl rfl rfl) ?_
                            refine Jp.y 183 rfl (want_all rfl) rfl rfl Kp.true (Y.assign rfl rfl) ?_
                            refine Jp.done hK52 ?_
                            refine Cd.cond rfl (fun g183 => ?_) (fun g183 => ?_)
                            · skip
                              try simp only [decide_eq_false_iff_not, decide_eq_true_eq, Int.not_lt, Int.not_le, Bool.not_eq_false, Bool.not_eq_true, Bool.not_true, Bool.not_false, Bool.not_eq_true', Bool.not_eq_false', beq_eq_false_iff_ne, ne_eq, beq_iff_eq, bne_iff_ne, bne_eq_false_iff_eq, Classical.not_not] at g183
                              refine Cd.seq fun K53 hK53 => ?_
                              refine Cd.plain [(0, false), (1, false), (2, false), (3, false), (4, false), (5, false)] rfl rfl ?_
                              refine Jp.y 186 rfl (want_all rfl) rfl rfl Kp.true (Y.move rfl rfl) ?_
                              refine Jp.y 187 rfl (want_all rfl) rfl rfl Kp.true (Y.move rfl rfl) ?_
                              refine Jp.y 188 rfl (want_all rfl) rfl rfl Kp.true (Y.move rfl rfl) ?_
                              refine Jp.y 189 rfl (want_all rfl) rfl rfl Kp.true (Y.move rfl rfl) ?_
                              refine Jp.y 190 rfl (want_all rfl) rfl rfl Kp.true (Y.struct [(0, _), (1, _), (2, _), (3, _)] [_, _, _, _, _] rfl rfl places48 Try.zeroValue48 rfl) ?_
                              first | refine Jp.storeAll 2 rfl (want_all rfl) rfl rfl Try.sizeOf48 rfl rfl (by first | rfl | assumption) (by first | rfl | assumption) rfl (by first | rfl | assumption) (fun k _ _ => noFr0 k) Kp.true ?_ | refine Jp.storeAll 2 rfl (want_all rfl) rfl rfl Try.sizeOf48 rfl rfl (by first | rfl | assumption) (by first | rfl | assumption) rfl (by first | rfl | assumption) (fun k _ _ => noFr0 k) Kp.true ?_
                              refine Jp.done hK53 ?_
                              refine Cd.ret [] rfl (by first | exact resC1 2 rfl rfl Try.isAgg48 Try.sizeOf48 rfl (by first | rfl | assumption) | exact resC1 2 rfl rfl Try.isAgg48 Try.sizeOf48 rfl (by first | rfl | assumption)) trivial ⟨rfl, by first | (exfalso; omega) | (rw [hD]; (repeat first | rw [if_pos (by omega)] | rw [if_neg (by omega)]); rfl), rfl⟩
                            · skip
                              try simp only [decide_eq_false_iff_not, decide_eq_true_eq, Int.not_lt, Int.not_le, Bool.not_eq_false, Bool.not_eq_true, Bool.not_true, Bool.not_false, Bool.not_eq_true', Bool.not_eq_false', beq_eq_false_iff_ne, ne_eq, beq_iff_eq, bne_iff_ne, bne_eq_false_iff_eq, Classical.not_not] at g183
                              refine Cd.over rfl hK18 ?_
                              refine Cd.seq fun K54 hK54 => ?_
                              refine Cd.plain [(0, false), (1, false), (2, false)] rfl rfl ?_
                              refine Jp.y 191 rfl (want_all rfl) rfl rfl Kp.true (Y.move rfl rfl) ?_
                              refine Jp.y 192 rfl (want_all rfl) rfl rfl Kp.true (Y.struct [(0, _)] [_, _, _, _, _] rfl rfl places48 Try.zeroValue48 rfl) ?_
                              first | refine Jp.storeAll 2 rfl (want_all rfl) rfl rfl Try.sizeOf48 rfl rfl (by first | rfl | assumption) (by first | rfl | assumption) rfl (by first | rfl | assumption) (fun k _ _ => noFr0 k) Kp.true ?_ | refine Jp.storeAll 2 rfl (want_all rfl) rfl rfl Try.sizeOf48 rfl rfl (by first | rfl | assumption) (by first | rfl | assumption) rfl (by first | rfl | assumption) (fun k _ _ => noFr0 k) Kp.true ?_
                              refine Jp.done hK54 ?_
                              refine Cd.ret [] rfl (by first | exact resC1 2 rfl rfl Try.isAgg48 Try.sizeOf48 rfl (by first | rfl | assumption) | exact resC1 2 rfl rfl Try.isAgg48 Try.sizeOf48 rfl (by first | rfl | assumption)) trivial ⟨rfl, by first | (exfalso; omega) | (rw [hD]; (repeat first | rw [if_pos (by omega)] | rw [if_neg (by omega)]); rfl), rfl⟩
                  · skip
                    try simp only [decide_eq_false_iff_not, decide_eq_true_eq, Int.not_lt, Int.not_le, Bool.not_eq_false, Bool.not_eq_true, Bool.not_true, Bool.not_false, Bool.not_eq_true', Bool.not_eq_false', beq_eq_false_iff_ne, ne_eq, beq_iff_eq, bne_iff_ne, bne_eq_false_iff_eq, Classical.not_not] at g121
                    refine Jp.skip 122 rfl (want_as rfl rfl rfl rfl) rfl rfl Kp.true ?_
                    refine Jp.skip 123 rfl (want_as rfl rfl rfl rfl) rfl rfl Kp.true ?_
                    refine Jp.y 124 rfl (want_as rfl rfl rfl rfl) rfl rfl Kp.true (Y.pickF rfl rfl rfl) ?_
                    refine Jp.y 125 rfl (want_all rfl) rfl rfl Kp.true (Y.pickF rfl rfl rfl) ?_
                    refine Jp.y 107 rfl (want_all rfl) rfl rfl Kp.true (Y.assign rfl rfl) ?_
                    refine Jp.done hK23 ?_
                    refine Cd.condF rfl ?_
                    refine Cd.seq fun K55 hK55 => ?_
                    refine Cd.plain [(0, false), (1, false), (2, false)] rfl rfl ?_
                    refine Jp.y 134 rfl (want_all rfl) rfl rfl Kp.true (Y.move rfl rfl) ?_
                    refine Jp.y 135 rfl (want_all rfl) rfl rfl Kp.true (Y.leq rfl rfl rfl) ?_
                    refine Jp.y 133 rfl (want_all rfl) rfl rfl Kp.true (Y.assign rfl rfl) ?_
                    refine Jp.done hK55 ?_
                    refine Cd.cond rfl (fun g133 => ?_) (fun g133 => ?_)
                    · skip
                      try simp only [decide_eq_false_iff_not, decide_eq_true_eq, Int.not_lt, Int.not_le, Bool.not_eq_false, Bool.not_eq_true, Bool.not_true, Bool.not_false, Bool.not_eq_true', Bool.not_eq_false', beq_eq_false_iff_ne, ne_eq, beq_iff_eq, bne_iff_ne, bne_eq_false_iff_eq, Classical.not_not] at g133
                      refine Cd.seq fun K56 hK56 => ?_
                      refine Cd.plain [(0, false), (1, false), (2, false), (3, false), (4, false), (5, false), (6, false), (7, false), (8, false), (9, false), (10, false), (11, false), (12, false), (13, false), (14, false), (15, false), (16, false), (17, false), (18, false), (19, false), (20, false), (21, false), (22, false), (23, false)] rfl rfl ?_
                      refine Jp.y 136 rfl (want_all rfl) rfl rfl Kp.true (Y.move rfl rfl) ?_
                      refine Jp.y 137 rfl (want_all rfl) rfl rfl Kp.true (Y.move rfl rfl) ?_
                      refine Jp.y 138 rfl (want_all rfl) rfl rfl Kp.true (Y.move rfl rfl) ?_
                      refine Jp.y 139 rfl (want_all rfl) rfl rfl Kp.true (Y.move rfl rfl) ?_
                      refine Jp.y 140 rfl (want_all rfl) rfl rfl Kp.true (Y.shr rfl rfl rfl (by first | decide | omega)) ?_
                      refine Jp.y 141 rfl (want_all rfl) rfl rfl Kp.true (Y.shl rfl rfl rfl (by first | decide | omega)) ?_
                      refine Jp.y 142 rfl (want_all rfl) rfl rfl Kp.true (Y.move rfl rfl) ?_
                      refine Jp.y 143 rfl (want_all rfl) rfl rfl Kp.true (Y.shr rfl rfl rfl (by first | decide | omega)) ?_
                      refine Jp.y 144 rfl (want_all rfl) rfl rfl Kp.true (Y.bits rfl rfl rfl rfl) ?_
                      refine Jp.y 145 rfl (want_all rfl) rfl rfl Kp.true (Y.shl rfl rfl rfl (by first | decide | omega)) ?_
                      refine Jp.y 146 rfl (want_all rfl) rfl rfl Kp.true (Y.bits rfl rfl rfl rfl) ?_
                      refine Jp.y 147 rfl (want_all rfl) rfl rfl Kp.true (Y.move rfl rfl) ?_
                      refine Jp.y 148 rfl (want_all rfl) rfl rfl Kp.true (Y.shr rfl rfl rfl (by first | decide | omega)) ?_
                      refine Jp.y 149 rfl (want_all rfl) rfl rfl Kp.true (Y.bits rfl rfl rfl rfl) ?_
                      refine Jp.y 150 rfl (want_all rfl) rfl rfl Kp.true (Y.shl rfl rfl rfl (by first | decide | omega)) ?_
                      refine Jp.y 151 rfl (want_all rfl) rfl rfl Kp.true (Y.bits rfl rfl rfl rfl) ?_
                      refine Jp.y 152 rfl (want_all rfl) rfl rfl Kp.true (Y.move rfl rfl) ?_
                      refine Jp.y 153 rfl (want_all rfl) rfl rfl Kp.true (Y.shr rfl rfl rfl (by first | decide | omega)) ?_
                      refine Jp.y 154 rfl (want_all rfl) rfl rfl Kp.true (Y.bits rfl rfl rfl rfl) ?_
                      refine Jp.y 155 rfl (want_all rfl) rfl rfl Kp.true (Y.shl rfl rfl rfl (by first | decide | omega)) ?_
                      refine Jp.y 156 rfl (want_all rfl) rfl rfl Kp.true (Y.bits rfl rfl rfl rfl) ?_
                      refine Jp.slot 156 rfl (show _ = Value.int .u32 (NB : Int) from congrArg (Value.int .u32) rB) ?_
                      refine Jp.call [] [] vB 157 rfl (want_all rfl) rfl rfl (Runs.fn rfl Try.call44 rfl) (by decide) (by decide) rfl trivial ?_
                      rintro v2 ρ2 L2 ⟨rfl, rfl, rfl⟩
                      refine ⟨rfl, fun hle2 => ⟨Kp.true, ?_⟩⟩
                      refine Jp.y 158 rfl (want_all rfl) rfl rfl Kp.true (Y.struct [(0, _), (2, _), (3, _), (4, _)] [_, _, _, _, _] rfl rfl places48 Try.zeroValue48 rfl) ?_
                      first | refine Jp.storeAll 2 rfl (want_all rfl) rfl rfl Try.sizeOf48 rfl rfl (by first | rfl | assumption) (by first | rfl | assumption) rfl (by first | rfl | assumption) (fun k _ _ => noFr0 k) Kp.true ?_ | refine Jp.storeAll 2 rfl (want_all rfl) rfl rfl Try.sizeOf48 rfl rfl (by first | rfl | assumption) (by first | rfl | assumption) rfl (by first | rfl | assumption) (fun k _ _ => noFr0 k) Kp.true ?_
                      refine Jp.done hK56 ?_
                      refine Cd.ret [] rfl (by first | exact resC1 2 rfl rfl Try.isAgg48 Try.sizeOf48 rfl (by first | rfl | assumption) | exact resC1 2 rfl rfl Try.isAgg48 Try.sizeOf48 rfl (by first | rfl | assumption)) trivial ⟨rfl, by first | (exfalso; omega) | (rw [hD]; (repeat first | rw [if_pos (by omega)] | rw [if_neg (by omega)]); rfl), rfl⟩
                    · skip
                      try simp only [decide_eq_false_iff_not, decide_eq_true_eq, Int.not_lt, Int.not_le, Bool.not_eq_false, Bool.not_eq_true, Bool.not_true, Bool.not_false, Bool.not_eq_true', Bool.not_eq_false', beq_eq_false_iff_ne, ne_eq, beq_iff_eq, bne_iff_ne, bne_eq_false_iff_eq, Classical.not_not] at g133
                      refine Cd.seq fun K57 hK57 => ?_
                      refine Cd.plain [(0, false), (1, false), (2, false)] rfl rfl ?_
                      refine Jp.y 160 rfl (want_all rfl) rfl rfl Kp.true (Y.move rfl rfl) ?_
                      refine Jp.y 161 rfl (want_all rfl) rfl rfl Kp.true (Y.leq rfl rfl rfl) ?_
                      refine Jp.y 159 rfl (want_all rfl) rfl rfl Kp.true (Y.assign rfl rfl) ?_
                      refine Jp.done hK57 ?_
                      refine Cd.cond rfl (fun g159 => ?_) (fun g159 => ?_)
                      · skip
                        try simp only [decide_eq_false_iff_not, decide_eq_true_eq, Int.not_lt, Int.not_le, Bool.not_eq_false, Bool.not_eq_true, Bool.not_true, Bool.not_false, Bool.not_eq_true', Bool.not_eq_false', beq_eq_false_iff_ne, ne_eq, beq_iff_eq, bne_iff_ne, bne_eq_false_iff_eq, Classical.not_not] at g159
                        refine Cd.seq fun K58 hK58 => ?_
                        refine Cd.plain [(0, false), (1, false), (2, false), (3, false), (4, false), (5, false), (6, false), (7, false), (8, false), (9, false), (10, false), (11, false), (12, false)] rfl rfl ?_
                        refine Jp.y 162 rfl (want_all rfl) rfl rfl Kp.true (Y.move rfl rfl) ?_
                        refine Jp.y 163 rfl (want_all rfl) rfl rfl Kp.true (Y.move rfl rfl) ?_
                        refine Jp.y 164 rfl (want_all rfl) rfl rfl Kp.true (Y.move rfl rfl) ?_
                        refine Jp.y 165 rfl (want_all rfl) rfl rfl Kp.true (Y.move rfl rfl) ?_
                        refine Jp.y 166 rfl (want_all rfl) rfl rfl Kp.true (Y.shr rfl rfl rfl (by first | decide | omega)) ?_
                        refine Jp.y 167 rfl (want_all rfl) rfl rfl Kp.true (Y.shl rfl rfl rfl (by first | decide | omega)) ?_
                        refine Jp.y 168 rfl (want_all rfl) rfl rfl Kp.true (Y.move rfl rfl) ?_
                        refine Jp.y 169 rfl (want_all rfl) rfl rfl Kp.true (Y.shr rfl rfl rfl (by first | decide | omega)) ?_
                        refine Jp.y 170 rfl (want_all rfl) rfl rfl Kp.true (Y.bits rfl rfl rfl rfl) ?_
                        refine Jp.y 171 rfl (want_all rfl) rfl rfl Kp.true (Y.bits rfl rfl rfl rfl) ?_
                        refine Jp.slot 171 rfl (show _ = Value.int .u32 (NS : Int) from congrArg (Value.int .u32) rS) ?_
                        refine Jp.call [] [] vS 172 rfl (want_all rfl) rfl rfl (Runs.fn rfl Try.call44 rfl) (by decide) (by decide) rfl trivial ?_
                        rintro v2 ρ2 L2 ⟨rfl, rfl, rfl⟩
                        refine ⟨rfl, fun hle2 => ⟨Kp.true, ?_⟩⟩
                        refine Jp.y 173 rfl (want_all rfl) rfl rfl Kp.true (Y.struct [(0, _), (2, _), (3, _), (4, _)] [_, _, _, _, _] rfl rfl places48 Try.zeroValue48 rfl) ?_
                        first | refine Jp.storeAll 2 rfl (want_all rfl) rfl rfl Try.sizeOf48 rfl rfl (by first | rfl | assumption) (by first | rfl | assumption) rfl (by first | rfl | assumption) (fun k _ _ => noFr0 k) Kp.true ?_ | refine Jp.storeAll 2 rfl (want_all rfl) rfl rfl Try.sizeOf48 rfl rfl (by first | rfl | assumption) (by first | rfl | assumption) rfl (by first | rfl | assumption) (fun k _ _ => noFr0 k) Kp.true ?_
                        refine Jp.done hK58 ?_
                        refine Cd.ret [] rfl (by first | exact resC1 2 rfl rfl Try.isAgg48 Try.sizeOf48 rfl (by first | rfl | assumption) | exact resC1 2 rfl rfl Try.isAgg48 Try.sizeOf48 rfl (by first | rfl | assumption)) trivial ⟨rfl, by first | (exfalso; omega) | (rw [hD]; (repeat first | rw [if_pos (by omega)] | rw [if_neg (by omega)]); rfl), rfl⟩
                      · skip
                        try simp only [decide_eq_false_iff_not, decide_eq_true_eq, Int.not_lt, Int.not_le, Bool.not_eq_false, Bool.not_eq_true, Bool.not_true, Bool.not_false, Bool.not_eq_true', Bool.not_eq_false', beq_eq_false_iff_ne, ne_eq, beq_iff_eq, bne_iff_ne, bne_eq_false_iff_eq, Classical.not_not] at g159
                        refine Cd.seq fun K59 hK59 => ?_
                        refine Cd.plain [(0, false), (1, false), (2, false)] rfl rfl ?_
                        refine Jp.y 175 rfl (want_all rfl) rfl rfl Kp.true (Y.move rfl rfl) ?_
                        refine Jp.y 176 rfl (want_all rfl) rfl rfl Kp.true (Y.leq rfl rfl rfl) ?_
                        refine Jp.y 174 rfl (want_all rfl) rfl rfl Kp.true (Y.assign rfl rfl) ?_
                        refine Jp.done hK59 ?_
                        refine Cd.cond rfl (fun g174 => ?_) (fun g174 => ?_)
                        · skip
                          try simp only [decide_eq_false_iff_not, decide_eq_true_eq, Int.not_lt, Int.not_le, Bool.not_eq_false, Bool.not_eq_true, Bool.not_true, Bool.not_false, Bool.not_eq_true', Bool.not_eq_false', beq_eq_false_iff_ne, ne_eq, beq_iff_eq, bne_iff_ne, bne_eq_false_iff_eq, Classical.not_not] at g174
                          refine Cd.seq fun K60 hK60 => ?_
                          refine Cd.plain [(0, false), (1, false), (2, false), (3, false), (4, false), (5, false), (6, false)] rfl rfl ?_
                          refine Jp.y 177 rfl (want_all rfl) rfl rfl Kp.true (Y.move rfl rfl) ?_
                          refine Jp.y 178 rfl (want_all rfl) rfl rfl Kp.true (Y.move rfl rfl) ?_
                          refine Jp.y 179 rfl (want_all rfl) rfl rfl Kp.true (Y.move rfl rfl) ?_
                          refine Jp.y 180 rfl (want_all rfl) rfl rfl Kp.true (Y.move rfl rfl) ?_
                          refine Jp.y 181 rfl (want_all rfl) rfl rfl Kp.true (Y.conv_ rfl rfl Try.underlying3 Try.underlying21 (by first | exact wrap_i32 (by omega) (by omega) | rfl)) ?_
                          refine Jp.y 182 rfl (want_all rfl) rfl rfl Kp.true (Y.struct [(0, _), (1, _), (2, _), (4, _)] [_, _, _, _, _] rfl rfl places48 Try.zeroValue48 rfl) ?_
                          first | refine Jp.storeAll 2 rfl (want_all rfl) rfl rfl Try.sizeOf48 rfl rfl (by first | rfl | assumption) (by first | rfl | assumption) rfl (by first | rfl | assumption) (fun k _ _ => noFr0 k) Kp.true ?_ | refine Jp.storeAll 2 rfl (want_all rfl) rfl rfl Try.sizeOf48 rfl rfl (by first | rfl | assumption) (by first | rfl | assumption) rfl (by first | rfl | assumption) (fun k _ _ => noFr0 k) Kp.true ?_
                          refine Jp.done hK60 ?_
                          refine Cd.ret [] rfl (by first | exact resC1 2 rfl rfl Try.isAgg48 Try.sizeOf48 rfl (by first | rfl | assumption) | exact resC1 2 rfl rfl Try.isAgg48 Try.sizeOf48 rfl (by first | rfl | assumption)) trivial ⟨rfl, by first | (exfalso; omega) | (rw [hD]; (repeat first | rw [if_pos (by omega)] | rw [if_neg (by omega)]); rfl), rfl⟩
                        · skip
                          try simp only [decide_eq_false_iff_not, decide_eq_true_eq, Int.not_lt, Int.not_le, Bool.not_eq_false, Bool.not_eq_true, Bool.not_true, Bool.not_false, Bool.not_eq_true', Bool.not_eq_false', beq_eq_false_iff_ne, ne_eq, beq_iff_eq, bne_iff_ne, bne_eq_false_iff_eq, Classical.not_not] at g174
                          refine Cd.seq fun K61 hK61 => ?_
                          refine Cd.plain [(0, false), (1, false), (2, false)] rfl rfl ?_
                          refine Jp.y 184 rfl (want_all rfl) rfl rfl Kp.true (Y.move rfl rfl) ?_
                          refine Jp.y 185 rfl (want_all rfl) rfl rfl Kp.true (Y.leq rfl rfl rfl) ?_
                          refine Jp.y 183 rfl (want_all rfl) rfl rfl Kp.true (Y.assign rfl rfl) ?_
                          refine Jp.done hK61 ?_
                          refine Cd.cond rfl (fun g183 => ?_) (fun g183 => ?_)
                          · skip
                            try simp only [decide_eq_false_iff_not, decide_eq_true_eq, Int.not_lt, Int.not_le, Bool.not_eq_false, Bool.not_eq_true, Bool.not_true, Bool.not_false, Bool.not_eq_true', Bool.not_eq_false', beq_eq_false_iff_ne, ne_eq, beq_iff_eq, bne_iff_ne, bne_eq_false_iff_eq, Classical.not_not] at g183
                            refine Cd.seq fun K62 hK62 => ?_
                            refine Cd.plain [(0, false), (1, false), (2, false), (3, false), (4, false), (5, false)] rfl rfl ?_
                            refine Jp.y 186 rfl (want_all rfl) rfl rfl Kp.true (Y.move rfl rfl) ?_
                            refine Jp.y 187 rfl (want_all rfl) rfl rfl Kp.true (Y.move rfl rfl) ?_
                            refine Jp.y 188 rfl (want_all rfl) rfl rfl Kp.true (Y.move rfl rfl) ?_
                            refine Jp.y 189 rfl (want_all rfl) rfl rfl Kp.true (Y.move rfl rfl) ?_
                            refine Jp.y 190 rfl (want_all rfl) rfl rfl Kp.true (Y.struct [(0, _), (1, _), (2, _), (3, _)] [_, _, _, _, _] rfl rfl places48 Try.zeroValue48 rfl) ?_
                            first | refine Jp.storeAll 2 rfl (want_all rfl) rfl rfl Try.sizeOf48 rfl rfl (by first | rfl | assumption) (by first | rfl | assumption) rfl (by first | rfl | assumption) (fun k _ _ => noFr0 k) Kp.true ?_ | refine Jp.storeAll 2 rfl (want_all rfl) rfl rfl Try.sizeOf48 rfl rfl (by first | rfl | assumption) (by first | rfl | assumption) rfl (by first | rfl | assumption) (fun k _ _ => noFr0 k) Kp.true ?_
                            refine Jp.done hK62 ?_
                            refine Cd.ret [] rfl (by first | exact resC1 2 rfl rfl Try.isAgg48 Try.sizeOf48 rfl (by first | rfl | assumption) | exact resC1 2 rfl rfl Try.isAgg48 Try.sizeOf48 rfl (by first | rfl | assumption)) trivial ⟨rfl, by first | (exfalso; omega) | (rw [hD]; (repeat first | rw [if_pos (by omega)] | rw [if_neg (by omega)]); rfl), rfl⟩
                          · skip
                            try simp only [decide_eq_false_iff_not, decide_eq_true_eq, Int.not_lt, Int.not_le, Bool.not_eq_false, Bool.not_eq_true, Bool.not_true, Bool.not_false, Bool.not_eq_true', Bool.not_eq_false', beq_eq_false_iff_ne, ne_eq, beq_iff_eq, bne_iff_ne, bne_eq_false_iff_eq, Classical.not_not] at g183
                            refine Cd.over rfl hK18 ?_
                            refine Cd.seq fun K63 hK63 => ?_
                            refine Cd.plain [(0, false), (1, false), (2, false)] rfl rfl ?_
                            refine Jp.y 191 rfl (want_all rfl) rfl rfl Kp.true (Y.move rfl rfl) ?_
                            refine Jp.y 192 rfl (want_all rfl) rfl rfl Kp.true (Y.struct [(0, _)] [_, _, _, _, _] rfl rfl places48 Try.zeroValue48 rfl) ?_
                            first | refine Jp.storeAll 2 rfl (want_all rfl) rfl rfl Try.sizeOf48 rfl rfl (by first | rfl | assumption) (by first | rfl | assumption) rfl (by first | rfl | assumption) (fun k _ _ => noFr0 k) Kp.true ?_ | refine Jp.storeAll 2 rfl (want_all rfl) rfl rfl Try.sizeOf48 rfl rfl (by first | rfl | assumption) (by first | rfl | assumption) rfl (by first | rfl | assumption) (fun k _ _ => noFr0 k) Kp.true ?_
                            refine Jp.done hK63 ?_
                            refine Cd.ret [] rfl (by first | exact resC1 2 rfl rfl Try.isAgg48 Try.sizeOf48 rfl (by first | rfl | assumption) | exact resC1 2 rfl rfl Try.isAgg48 Try.sizeOf48 rfl (by first | rfl | assumption)) trivial ⟨rfl, by first | (exfalso; omega) | (rw [hD]; (repeat first | rw [if_pos (by omega)] | rw [if_neg (by omega)]); rfl), rfl⟩
        · skip
          refine Jp.split 51 rfl (fun g51 => ?_) (fun g51 => ?_)
          · skip
            try simp only [decide_eq_false_iff_not, decide_eq_true_eq, Int.not_lt, Int.not_le, Bool.not_eq_false, Bool.not_eq_true, Bool.not_true, Bool.not_false, Bool.not_eq_true', Bool.not_eq_false', beq_eq_false_iff_ne, ne_eq, beq_iff_eq, bne_iff_ne, bne_eq_false_iff_eq, Classical.not_not] at g51
            refine Jp.skip 52 rfl (want_as rfl rfl rfl rfl) rfl rfl Kp.true ?_
            refine Jp.skip 53 rfl (want_as rfl rfl rfl rfl) rfl rfl Kp.true ?_
            refine Jp.skip 54 rfl (want_as rfl rfl rfl rfl) rfl rfl Kp.true ?_
            refine Jp.skip 55 rfl (want_un rfl rfl rfl) rfl rfl Kp.true ?_
            refine Jp.skip 56 rfl (want_un rfl rfl rfl) rfl rfl Kp.true ?_
            refine Jp.skip 57 rfl (want_un rfl rfl rfl) rfl rfl Kp.true ?_
            refine Jp.skip 58 rfl (want_as rfl rfl rfl rfl) rfl rfl Kp.true ?_
            refine Jp.y 59 rfl (want_all rfl) rfl rfl Kp.true (Y.pickT rfl rfl rfl) ?_
            refine Jp.y 60 rfl (want_all rfl) rfl rfl Kp.true (Y.move rfl rfl) ?_
            refine Jp.skip 61 rfl (want_as rfl rfl rfl rfl) rfl rfl Kp.true ?_
            refine Jp.skip 62 rfl (want_as rfl rfl rfl rfl) rfl rfl Kp.true ?_
            refine Jp.skip 63 rfl (want_as rfl rfl rfl rfl) rfl rfl Kp.true ?_
            refine Jp.skip 64 rfl (want_un rfl rfl rfl) rfl rfl Kp.true ?_
            refine Jp.skip 65 rfl (want_un rfl rfl rfl) rfl rfl Kp.true ?_
            refine Jp.skip 66 rfl (want_as rfl rfl rfl rfl) rfl rfl Kp.true ?_
            refine Jp.skip 67 rfl (want_as rfl rfl rfl rfl) rfl rfl Kp.true ?_
            refine Jp.skip 68 rfl (want_un rfl rfl rfl) rfl rfl Kp.true ?_
            refine Jp.skip 69 rfl (want_un rfl rfl rfl) rfl rfl Kp.true ?_
            refine Jp.skip 70 rfl (want_un rfl rfl rfl) rfl rfl Kp.true ?_
            refine Jp.skip 71 rfl (want_as rfl rfl rfl rfl) rfl rfl Kp.true ?_
            refine Jp.y 72 rfl (want_all rfl) rfl rfl Kp.true (Y.pickT rfl rfl rfl) ?_
            refine Jp.done hK17 ?_
            refine Cd.condT rfl ?_
            refine Cd.exit rfl hK14 ?_
            refine Cd.plain [(0, false), (1, false), (2, false)] rfl rfl ?_
            refine Jp.y 40 rfl (want_all rfl) rfl rfl Kp.true (Y.move rfl rfl) ?_
            refine Jp.y 41 rfl (want_all rfl) rfl rfl Kp.true (Y.add_ rfl rfl rfl (by first | exact wrap_i64 (by omega) (by omega) | rfl)) ?_
            refine Jp.y 9 rfl (want_all rfl) rfl rfl Kp.true (Y.assign rfl rfl) ?_
            rw [show (g : Int) + 1 = ((g + 1 : Nat) : Int) by omega]
            refine Jp.again hLa (g + 1) ⟨⟨by omega, by omega⟩, fun j h1 h2 => if hj : j < g then ok3 j h1 hj else by (rw [show j = g by omega]; rw [Bool.eq_false_iff, ne_eq, hsu]; omega)⟩ (by omega) rfl ⟨rfl, rfl, rfl, rfl, rfl, rfl, rfl, rfl, rfl, trivial⟩ ⟨rfl, trivial⟩
          · skip
            try simp only [decide_eq_false_iff_not, decide_eq_true_eq, Int.not_lt, Int.not_le, Bool.not_eq_false, Bool.not_eq_true, Bool.not_true, Bool.not_false, Bool.not_eq_true', Bool.not_eq_false', beq_eq_false_iff_ne, ne_eq, beq_iff_eq, bne_iff_ne, bne_eq_false_iff_eq, Classical.not_not] at g51
            refine Jp.y 52 rfl (want_as rfl rfl rfl rfl) rfl rfl Kp.true (Y.move rfl rfl) ?_
            refine Jp.y 53 rfl (want_as rfl rfl rfl rfl) rfl rfl Kp.true (Y.gtr rfl rfl rfl) ?_
            refine Jp.y 54 rfl (want_as rfl rfl rfl rfl) rfl rfl Kp.true (Y.move rfl rfl) ?_
            refine Jp.split 54 rfl (fun g54 => ?_) (fun g54 => ?_)
            · skip
              try simp only [decide_eq_false_iff_not, decide_eq_true_eq, Int.not_lt, Int.not_le, Bool.not_eq_false, Bool.not_eq_true, Bool.not_true, Bool.not_false, Bool.not_eq_true', Bool.not_eq_false', beq_eq_false_iff_ne, ne_eq, beq_iff_eq, bne_iff_ne, bne_eq_false_iff_eq, Classical.not_not] at g54
              refine Jp.y 55 rfl (want_as rfl rfl rfl rfl) rfl rfl Kp.true (Y.move rfl rfl) ?_
              refine Jp.y 56 rfl (want_as rfl rfl rfl rfl) rfl rfl Kp.true (Y.move rfl rfl) ?_
              refine Jp.y 57 rfl (want_as rfl rfl rfl rfl) rfl rfl Kp.true (Y.neq rfl rfl rfl) ?_
              refine Jp.y 58 rfl (want_as rfl rfl rfl rfl) rfl rfl Kp.true (Y.pickT rfl rfl rfl) ?_
              refine Jp.y 59 rfl (want_all rfl) rfl rfl Kp.true (Y.pickF rfl rfl rfl) ?_
              refine Jp.y 60 rfl (want_all rfl) rfl rfl Kp.true (Y.move rfl rfl) ?_
              refine Jp.split 60 rfl (fun g60 => ?_) (fun g60 => ?_)
              · skip
                try simp only [decide_eq_false_iff_not, decide_eq_true_eq, Int.not_lt, Int.not_le, Bool.not_eq_false, Bool.not_eq_true, Bool.not_true, Bool.not_false, Bool.not_eq_true', Bool.not_eq_false', beq_eq_false_iff_ne, ne_eq, beq_iff_eq, bne_iff_ne, bne_eq_false_iff_eq, Classical.not_not] at g60
                refine Jp.skip 61 rfl (want_as rfl rfl rfl rfl) rfl rfl Kp.true ?_
                refine Jp.skip 62 rfl (want_as rfl rfl rfl rfl) rfl rfl Kp.true ?_
                refine Jp.skip 63 rfl (want_as rfl rfl rfl rfl) rfl rfl Kp.true ?_
                refine Jp.skip 64 rfl (want_un rfl rfl rfl) rfl rfl Kp.true ?_
                refine Jp.skip 65 rfl (want_un rfl rfl rfl) rfl rfl Kp.true ?_
                refine Jp.skip 66 rfl (want_as rfl rfl rfl rfl) rfl rfl Kp.true ?_
                refine Jp.skip 67 rfl (want_as rfl rfl rfl rfl) rfl rfl Kp.true ?_
                refine Jp.skip 68 rfl (want_un rfl rfl rfl) rfl rfl Kp.true ?_
                refine Jp.skip 69 rfl (want_un rfl rfl rfl) rfl rfl Kp.true ?_
                refine Jp.skip 70 rfl (want_un rfl rfl rfl) rfl rfl Kp.true ?_
                refine Jp.skip 71 rfl (want_as rfl rfl rfl rfl) rfl rfl Kp.true ?_
                refine Jp.y 72 rfl (want_all rfl) rfl rfl Kp.true (Y.pickT rfl rfl rfl) ?_
                refine Jp.done hK17 ?_
                refine Cd.condT rfl ?_
                refine Cd.exit rfl hK14 ?_
                refine Cd.plain [(0, false), (1, false), (2, false)] rfl rfl ?_
                refine Jp.y 40 rfl (want_all rfl) rfl rfl Kp.true (Y.move rfl rfl) ?_
                refine Jp.y 41 rfl (want_all rfl) rfl rfl Kp.true (Y.add_ rfl rfl rfl (by first | exact wrap_i64 (by omega) (by omega) | rfl)) ?_
                refine Jp.y 9 rfl (want_all rfl) rfl rfl Kp.true (Y.assign rfl rfl) ?_
                rw [show (g : Int) + 1 = ((g + 1 : Nat) : Int) by omega]
                refine Jp.again hLa (g + 1) ⟨⟨by omega, by omega⟩, fun j h1 h2 => if hj : j < g then ok3 j h1 hj else by (rw [show j = g by omega]; rw [Bool.eq_false_iff, ne_eq, hsu]; omega)⟩ (by omega) rfl ⟨rfl, rfl, rfl, rfl, rfl, rfl, rfl, rfl, rfl, trivial⟩ ⟨rfl, trivial⟩
              · skip
                try simp only [decide_eq_false_iff_not, decide_eq_true_eq, Int.not_lt, Int.not_le, Bool.not_eq_false, Bool.not_eq_true, Bool.not_true, Bool.not_false, Bool.not_eq_true', Bool.not_eq_false', beq_eq_false_iff_ne, ne_eq, beq_iff_eq, bne_iff_ne, bne_eq_false_iff_eq, Classical.not_not] at g60
                refine Jp.y 61 rfl (want_as rfl rfl rfl rfl) rfl rfl Kp.true (Y.move rfl rfl) ?_
                refine Jp.y 62 rfl (want_as rfl rfl rfl rfl) rfl rfl Kp.true (Y.geq rfl rfl rfl) ?_
                refine Jp.y 63 rfl (want_as rfl rfl rfl rfl) rfl rfl Kp.true (Y.move rfl rfl) ?_
                refine Jp.split 63 rfl (fun g63 => ?_) (fun g63 => ?_)
                · skip
                  try simp only [decide_eq_false_iff_not, decide_eq_true_eq, Int.not_lt, Int.not_le, Bool.not_eq_false, Bool.not_eq_true, Bool.not_true, Bool.not_false, Bool.not_eq_true', Bool.not_eq_false', beq_eq_false_iff_ne, ne_eq, beq_iff_eq, bne_iff_ne, bne_eq_false_iff_eq, Classical.not_not] at g63
                  refine Jp.y 64 rfl (want_as rfl rfl rfl rfl) rfl rfl Kp.true (Y.move rfl rfl) ?_
                  refine Jp.y 65 rfl (want_as rfl rfl rfl rfl) rfl rfl Kp.true (Y.leq rfl rfl rfl) ?_
                  refine Jp.y 66 rfl (want_as rfl rfl rfl rfl) rfl rfl Kp.true (Y.pickT rfl rfl rfl) ?_
                  refine Jp.y 67 rfl (want_as rfl rfl rfl rfl) rfl rfl Kp.true (Y.move rfl rfl) ?_
                  refine Jp.split 67 rfl (fun g67 => ?_) (fun g67 => ?_)
                  · skip
                    try simp only [decide_eq_false_iff_not, decide_eq_true_eq, Int.not_lt, Int.not_le, Bool.not_eq_false, Bool.not_eq_true, Bool.not_true, Bool.not_false, Bool.not_eq_true', Bool.not_eq_false', beq_eq_false_iff_ne, ne_eq, beq_iff_eq, bne_iff_ne, bne_eq_false_iff_eq, Classical.not_not] at g67
                    refine Jp.y 68 rfl (want_as rfl rfl rfl rfl) rfl rfl Kp.true (Y.move rfl rfl) ?_
                    refine Jp.y 69 rfl (want_as rfl rfl rfl rfl) rfl rfl Kp.true (Y.move rfl rfl) ?_
                    refine Jp.y 70 rfl (want_as rfl rfl rfl rfl) rfl rfl Kp.true (Y.neq rfl rfl rfl) ?_
                    refine Jp.y 71 rfl (want_as rfl rfl rfl rfl) rfl rfl Kp.true (Y.pickT rfl rfl rfl) ?_
                    refine Jp.y 72 rfl (want_all rfl) rfl rfl Kp.true (Y.pickF rfl rfl rfl) ?_
                    refine Jp.done hK17 ?_
                    refine Cd.cond rfl (fun g72 => ?_) (fun g72 => ?_)
                    · skip
                      try simp only [decide_eq_false_iff_not, decide_eq_true_eq, Int.not_lt, Int.not_le, Bool.not_eq_false, Bool.not_eq_true, Bool.not_true, Bool.not_false, Bool.not_eq_true', Bool.not_eq_false', beq_eq_false_iff_ne, ne_eq, beq_iff_eq, bne_iff_ne, bne_eq_false_iff_eq, Classical.not_not] at g72
                      refine Cd.exit rfl hK14 ?_
                      refine Cd.plain [(0, false), (1, false), (2, false)] rfl rfl ?_
                      refine Jp.y 40 rfl (want_all rfl) rfl rfl Kp.true (Y.move rfl rfl) ?_
                      refine Jp.y 41 rfl (want_all rfl) rfl rfl Kp.true (Y.add_ rfl rfl rfl (by first | exact wrap_i64 (by omega) (by omega) | rfl)) ?_
                      refine Jp.y 9 rfl (want_all rfl) rfl rfl Kp.true (Y.assign rfl rfl) ?_
                      rw [show (g : Int) + 1 = ((g + 1 : Nat) : Int) by omega]
                      refine Jp.again hLa (g + 1) ⟨⟨by omega, by omega⟩, fun j h1 h2 => if hj : j < g then ok3 j h1 hj else by (rw [show j = g by omega]; rw [Bool.eq_false_iff, ne_eq, hsu]; omega)⟩ (by omega) rfl ⟨rfl, rfl, rfl, rfl, rfl, rfl, rfl, rfl, rfl, trivial⟩ ⟨rfl, trivial⟩
                    · skip
                      try simp only [decide_eq_false_iff_not, decide_eq_true_eq, Int.not_lt, Int.not_le, Bool.not_eq_false, Bool.not_eq_true, Bool.not_true, Bool.not_false, Bool.not_eq_true', Bool.not_eq_false', beq_eq_false_iff_ne, ne_eq, beq_iff_eq, bne_iff_ne, bne_eq_false_iff_eq, Classical.not_not] at g72
                      refine Cd.skip hK16 ?_
                      exact Cd.meet (hj1 (by rw [hsu]; omega)) ⟨rfl, rfl, rfl, rfl, rfl, rfl, trivial⟩ ⟨rfl, trivial⟩
                  · skip
                    try simp only [decide_eq_false_iff_not, decide_eq_true_eq, Int.not_lt, Int.not_le, Bool.not_eq_false, Bool.not_eq_true, Bool.not_true, Bool.not_false, Bool.not_eq_true', Bool.not_eq_false', beq_eq_false_iff_ne, ne_eq, beq_iff_eq, bne_iff_ne, bne_eq_false_iff_eq, Classical.not_not] at g67
                    refine Jp.skip 68 rfl (want_as rfl rfl rfl rfl) rfl rfl Kp.true ?_
                    refine Jp.skip 69 rfl (want_as rfl rfl rfl rfl) rfl rfl Kp.true ?_
                    refine Jp.skip 70 rfl (want_as rfl rfl rfl rfl) rfl rfl Kp.true ?_
                    refine Jp.y 71 rfl (want_as rfl rfl rfl rfl) rfl rfl Kp.true (Y.pickF rfl rfl rfl) ?_
                    refine Jp.y 72 rfl (want_all rfl) rfl rfl Kp.true (Y.pickF rfl rfl rfl) ?_
                    refine Jp.done hK17 ?_
                    refine Cd.condF rfl ?_
                    refine Cd.skip hK16 ?_
                    exact Cd.meet (hj1 (by rw [hsu]; omega)) ⟨rfl, rfl, rfl, rfl, rfl, rfl, trivial⟩ ⟨rfl, trivial⟩
                · skip
                  try simp only [decide_eq_false_iff_not, decide_eq_true_eq, Int.not_lt, Int.not_le, Bool.not_eq_false, Bool.not_eq_true, Bool.not_true, Bool.not_false, Bool.not_eq_true', Bool.not_eq_false', beq_eq_false_iff_ne, ne_eq, beq_iff_eq, bne_iff_ne, bne_eq_false_iff_eq, Classical.not_not] at g63
                  refine Jp.skip 64 rfl (want_as rfl rfl rfl rfl) rfl rfl Kp.true ?_
                  refine Jp.skip 65 rfl (want_as rfl rfl rfl rfl) rfl rfl Kp.true ?_
                  refine Jp.y 66 rfl (want_as rfl rfl rfl rfl) rfl rfl Kp.true (Y.pickF rfl rfl rfl) ?_
                  refine Jp.y 67 rfl (want_as rfl rfl rfl rfl) rfl rfl Kp.true (Y.move rfl rfl) ?_
                  refine Jp.skip 68 rfl (want_as rfl rfl rfl rfl) rfl rfl Kp.true ?_
                  refine Jp.skip 69 rfl (want_as rfl rfl rfl rfl) rfl rfl Kp.true ?_
                  refine Jp.skip 70 rfl (want_as rfl rfl rfl rfl) rfl rfl Kp.true ?_
                  refine Jp.y 71 rfl (want_as rfl rfl rfl rfl) rfl rfl Kp.true (Y.pickF rfl rfl rfl) ?_
                  refine Jp.y 72 rfl (want_all rfl) rfl rfl Kp.true (Y.pickF rfl rfl rfl) ?_
                  refine Jp.done hK17 ?_
                  refine Cd.condF rfl ?_
                  refine Cd.skip hK16 ?_
                  exact Cd.meet (hj1 (by rw [hsu]; omega)) ⟨rfl, rfl, rfl, rfl, rfl, rfl, trivial⟩ ⟨rfl, trivial⟩
            · skip
              try simp only [decide_eq_false_iff_not, decide_eq_true_eq, Int.not_lt, Int.not_le, Bool.not_eq_false, Bool.not_eq_true, Bool.not_true, Bool.not_false, Bool.not_eq_true', Bool.not_eq_false', beq_eq_false_iff_ne, ne_eq, beq_iff_eq, bne_iff_ne, bne_eq_false_iff_eq, Classical.not_not] at g54
              refine Jp.skip 55 rfl (want_as rfl rfl rfl rfl) rfl rfl Kp.true ?_
              refine Jp.skip 56 rfl (want_as rfl rfl rfl rfl) rfl rfl Kp.true ?_
              refine Jp.skip 57 rfl (want_as rfl rfl rfl rfl) rfl rfl Kp.true ?_
              refine Jp.y 58 rfl (want_as rfl rfl rfl rfl) rfl rfl Kp.true (Y.pickF rfl rfl rfl) ?_
              refine Jp.y 59 rfl (want_all rfl) rfl rfl Kp.true (Y.pickF rfl rfl rfl) ?_
              refine Jp.y 60 rfl (want_all rfl) rfl rfl Kp.true (Y.move rfl rfl) ?_
              refine Jp.y 61 rfl (want_as rfl rfl rfl rfl) rfl rfl Kp.true (Y.move rfl rfl) ?_
              refine Jp.y 62 rfl (want_as rfl rfl rfl rfl) rfl rfl Kp.true (Y.geq rfl rfl rfl) ?_
              refine Jp.y 63 rfl (want_as rfl rfl rfl rfl) rfl rfl Kp.true (Y.move rfl rfl) ?_
              refine Jp.split 63 rfl (fun g63 => ?_) (fun g63 => ?_)
              · skip
                try simp only [decide_eq_false_iff_not, decide_eq_true_eq, Int.not_lt, Int.not_le, Bool.not_eq_false, Bool.not_eq_true, Bool.not_true, Bool.not_false, Bool.not_eq_true', Bool.not_eq_false', beq_eq_false_iff_ne, ne_eq, beq_iff_eq, bne_iff_ne, bne_eq_false_iff_eq, Classical.not_not] at g63
                refine Jp.y 64 rfl (want_as rfl rfl rfl rfl) rfl rfl Kp.true (Y.move rfl rfl) ?_
                refine Jp.y 65 rfl (want_as rfl rfl rfl rfl) rfl rfl Kp.true (Y.leq rfl rfl rfl) ?_
                refine Jp.y 66 rfl (want_as rfl rfl rfl rfl) rfl rfl Kp.true (Y.pickT rfl rfl rfl) ?_
                refine Jp.y 67 rfl (want_as rfl rfl rfl rfl) rfl rfl Kp.true (Y.move rfl rfl) ?_
                refine Jp.split 67 rfl (fun g67 => ?_) (fun g67 => ?_)
                · skip
                  try simp only [decide_eq_false_iff_not, decide_eq_true_eq, Int.not_lt, Int.not_le, Bool.not_eq_false, Bool.not_eq_true, Bool.not_true, Bool.not_false, Bool.not_eq_true', Bool.not_eq_false', beq_eq_false_iff_ne, ne_eq, beq_iff_eq, bne_iff_ne, bne_eq_false_iff_eq, Classical.not_not] at g67
                  refine Jp.y 68 rfl (want_as rfl rfl rfl rfl) rfl rfl Kp.true (Y.move rfl rfl) ?_
                  refine Jp.y 69 rfl (want_as rfl rfl rfl rfl) rfl rfl Kp.true (Y.move rfl rfl) ?_
                  refine Jp.y 70 rfl (want_as rfl rfl rfl rfl) rfl rfl Kp.true (Y.neq rfl rfl rfl) ?_
                  refine Jp.y 71 rfl (want_as rfl rfl rfl rfl) rfl rfl Kp.true (Y.pickT rfl rfl rfl) ?_
                  refine Jp.y 72 rfl (want_all rfl) rfl rfl Kp.true (Y.pickF rfl rfl rfl) ?_
                  refine Jp.done hK17 ?_
                  refine Cd.cond rfl (fun g72 => ?_) (fun g72 => ?_)
                  · skip
                    try simp only [decide_eq_false_iff_not, decide_eq_true_eq, Int.not_lt, Int.not_le, Bool.not_eq_false, Bool.not_eq_true, Bool.not_true, Bool.not_false, Bool.not_eq_true', Bool.not_eq_false', beq_eq_false_iff_ne, ne_eq, beq_iff_eq, bne_iff_ne, bne_eq_false_iff_eq, Classical.not_not] at g72
                    refine Cd.exit rfl hK14 ?_
                    refine Cd.plain [(0, false), (1, false), (2, false)] rfl rfl ?_
                    refine Jp.y 40 rfl (want_all rfl) rfl rfl Kp.true (Y.move rfl rfl) ?_
                    refine Jp.y 41 rfl (want_all rfl) rfl rfl Kp.true (Y.add_ rfl rfl rfl (by first | exact wrap_i64 (by omega) (by omega) | rfl)) ?_
                    refine Jp.y 9 rfl (want_all rfl) rfl rfl Kp.true (Y.assign rfl rfl) ?_
                    rw [show (g : Int) + 1 = ((g + 1 : Nat) : Int) by omega]
                    refine Jp.again hLa (g + 1) ⟨⟨by omega, by omega⟩, fun j h1 h2 => if hj : j < g then ok3 j h1 hj else by (rw [show j = g by omega]; rw [Bool.eq_false_iff, ne_eq, hsu]; omega)⟩ (by omega) rfl ⟨rfl, rfl, rfl, rfl, rfl, rfl, rfl, rfl, rfl, trivial⟩ ⟨rfl, trivial⟩
                  · skip
                    try simp only [decide_eq_false_iff_not, decide_eq_true_eq, Int.not_lt, Int.not_le, Bool.not_eq_false, Bool.not_eq_true, Bool.not_true, Bool.not_false, Bool.not_eq_true', Bool.not_eq_false', beq_eq_false_iff_ne, ne_eq, beq_iff_eq, bne_iff_ne, bne_eq_false_iff_eq, Classical.not_not] at g72
                    refine Cd.skip hK16 ?_
                    exact Cd.meet (hj1 (by rw [hsu]; omega)) ⟨rfl, rfl, rfl, rfl, rfl, rfl, trivial⟩ ⟨rfl, trivial⟩
                · skip
                  try simp only [decide_eq_false_iff_not, decide_eq_true_eq, Int.not_lt, Int.not_le, Bool.not_eq_false, Bool.not_eq_true, Bool.not_true, Bool.not_false, Bool.not_eq_true', Bool.not_eq_false', beq_eq_false_iff_ne, ne_eq, beq_iff_eq, bne_iff_ne, bne_eq_false_iff_eq, Classical.not_not] at g67
                  refine Jp.skip 68 rfl (want_as rfl rfl rfl rfl) rfl rfl Kp.true ?_
                  refine Jp.skip 69 rfl (want_as rfl rfl rfl rfl) rfl rfl Kp.true ?_
                  refine Jp.skip 70 rfl (want_as rfl rfl rfl rfl) rfl rfl Kp.true ?_
                  refine Jp.y 71 rfl (want_as rfl rfl rfl rfl) rfl rfl Kp.true (Y.pickF rfl rfl rfl) ?_
                  refine Jp.y 72 rfl (want_all rfl) rfl rfl Kp.true (Y.pickF rfl rfl rfl) ?_
                  refine Jp.done hK17 ?_
                  refine Cd.condF rfl ?_
                  refine Cd.skip hK16 ?_
                  exact Cd.meet (hj1 (by rw [hsu]; omega)) ⟨rfl, rfl, rfl, rfl, rfl, rfl, trivial⟩ ⟨rfl, trivial⟩
              · skip
                try simp only [decide_eq_false_iff_not, decide_eq_true_eq, Int.not_lt, Int.not_le, Bool.not_eq_false, Bool.not_eq_true, Bool.not_true, Bool.not_false, Bool.not_eq_true', Bool.not_eq_false', beq_eq_false_iff_ne, ne_eq, beq_iff_eq, bne_iff_ne, bne_eq_false_iff_eq, Classical.not_not] at g63
                refine Jp.skip 64 rfl (want_as rfl rfl rfl rfl) rfl rfl Kp.true ?_
                refine Jp.skip 65 rfl (want_as rfl rfl rfl rfl) rfl rfl Kp.true ?_
                refine Jp.y 66 rfl (want_as rfl rfl rfl rfl) rfl rfl Kp.true (Y.pickF rfl rfl rfl) ?_
                refine Jp.y 67 rfl (want_as rfl rfl rfl rfl) rfl rfl Kp.true (Y.move rfl rfl) ?_
                refine Jp.skip 68 rfl (want_as rfl rfl rfl rfl) rfl rfl Kp.true ?_
                refine Jp.skip 69 rfl (want_as rfl rfl rfl rfl) rfl rfl Kp.true ?_
                refine Jp.skip 70 rfl (want_as rfl rfl rfl rfl) rfl rfl Kp.true ?_
                refine Jp.y 71 rfl (want_as rfl rfl rfl rfl) rfl rfl Kp.true (Y.pickF rfl rfl rfl) ?_
                refine Jp.y 72 rfl (want_all rfl) rfl rfl Kp.true (Y.pickF rfl rfl rfl) ?_
                refine Jp.done hK17 ?_
                refine Cd.condF rfl ?_
                refine Cd.skip hK16 ?_
                exact Cd.meet (hj1 (by rw [hsu]; omega)) ⟨rfl, rfl, rfl, rfl, rfl, rfl, trivial⟩ ⟨rfl, trivial⟩
      · have hg : g = 48 := by simp at gc; omega
        have hk : kindP w = 0 := by
          rw [hK]
          by_cases hq : kindQ o f t 0 = 0
          · exact hq
          · obtain ⟨h1, h2⟩ := kind_suits hf8 hq
            rw [ok3 _ (by omega) (by omega)] at h1
            cases h1
        refine Cd.exit rfl hK10 ?_
        refine Cd.seq fun K64 hK64 => ?_
        refine Cd.plain [(0, false), (1, false)] rfl rfl ?_
        refine Jp.y 193 rfl (want_all rfl) rfl rfl Kp.true (Y.struct [] [_, _, _, _, _] rfl rfl places48 Try.zeroValue48 rfl) ?_
        first | refine Jp.storeAll 2 rfl (want_all rfl) rfl rfl Try.sizeOf48 rfl rfl (by first | rfl | assumption) (by first | rfl | assumption) rfl (by first | rfl | assumption) (fun k _ _ => noFr0 k) Kp.true ?_ | refine Jp.storeAll 2 rfl (want_all rfl) rfl rfl Try.sizeOf48 rfl rfl (by first | rfl | assumption) (by first | rfl | assumption) rfl (by first | rfl | assumption) (fun k _ _ => noFr0 k) Kp.true ?_
        refine Jp.done hK64 ?_
        refine Cd.ret [] rfl (by first | exact resC1 2 rfl rfl Try.isAgg48 Try.sizeOf48 rfl (by first | rfl | assumption) | exact resC1 2 rfl rfl Try.isAgg48 Try.sizeOf48 rfl (by first | rfl | assumption)) trivial ⟨rfl, by rw [hD 0 hk]; rfl, rfl⟩
end
end Go.Proofs.Ytjfgefdcngpplaa
