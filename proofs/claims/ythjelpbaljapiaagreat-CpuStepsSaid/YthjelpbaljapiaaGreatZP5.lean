import Derived.Test.YthjelpbaljapiaaGreatZP4
import Derived.Test.YthjelpbaljapiaaGreatZP2
import Derived.Test.YthjelpbaljapiaaGreatZP3
set_option linter.unusedVariables false
set_option linter.unusedSimpArgs false
set_option maxRecDepth 100000
namespace Go.Proofs.YthjelpbaljapiaaGreat
open _root_.Go.Proofs.Tryz
open Go
def orU (a b : Int) : Int:=qbu .or .u32 a b
def anU (a b : Int) : Int:=qbu .and .u32 a b
theorem qfz {a b : Nat} (ha : a < 4294967296) (hb : b < 4294967296) : orU (a : Int) (b : Int) = ((a ||| b : Nat) : Int):=qas ha hb
theorem qel {a : Nat} (k : Nat) (ha : a < 4294967296) (hk : k < 32) : anU (a : Int) ((2 ^ k - 1 : Nat) : Int) = ((a % 2 ^ k : Nat) : Int):=rand_nat k ha hk
theorem raw_J {w : Nat} (hw : w < 4294967296) : orU (orU (orU (rshl (rshr (w : Int) (31 : Nat)) (20 : Nat)) (rshl (anU (rshr (w : Int) (12 : Nat)) ((2 ^ 8 - 1 : Nat) : Int)) (12 : Nat))) (rshl (anU (rshr (w : Int) (20 : Nat)) ((2 ^ 1 - 1 : Nat) : Int)) (11 : Nat))) (rshl (anU (rshr (w : Int) (21 : Nat)) ((2 ^ 10 - 1 : Nat) : Int)) (1 : Nat)) =
  ((w / 2 ^ 31 * 2 ^ 20 + w / 2 ^ 12 % 2 ^ 8 * 2 ^ 12 + w / 2 ^ 20 % 2 ^ 1 * 2 ^ 11 + w / 2 ^ 21 % 2 ^ 10 * 2 ^ 1 : Nat) : Int):=by
 rw [qcq w 31 (by decide),qcq w 12 (by decide),qcq w 20 (by decide),qcq w 21 (by decide),qel 8 (by omega) (by decide),qel 1 (by omega) (by decide),qel 10 (by omega) (by decide)]
 obtain ⟨h,hh⟩ : ∃ h,w / 2 ^ 31 = h:=⟨_,rfl⟩
 obtain ⟨a,ha⟩ : ∃ a,w / 2 ^ 12 % 2 ^ 8 = a:=⟨_,rfl⟩
 obtain ⟨c,hc⟩ : ∃ c,w / 2 ^ 20 % 2 ^ 1 = c:=⟨_,rfl⟩
 obtain ⟨d,hd⟩ : ∃ d,w / 2 ^ 21 % 2 ^ 10 = d:=⟨_,rfl⟩
 have lh : h < 2:=by omega
 have la : a < 256:=by omega
 have lc : c < 2:=by omega
 have ld : d < 1024:=by omega
 rw [hh,ha,hc,hd,qdi (by decide) (by omega),qdi (by decide) (by omega),qdi (by decide) (by omega),qdi (by decide) (by omega)]
 have o1 : h * 2 ^ 20 ||| a * 2 ^ 12 = h * 2 ^ 20 + a * 2 ^ 12:=or_hi (by omega)
 have o2 : (h * 2 ^ 20 + a * 2 ^ 12) ||| c * 2 ^ 11 = h * 2 ^ 20 + a * 2 ^ 12 + c * 2 ^ 11:=by
  have:=or_hi (a:=h * 2 ^ 8 + a) (b:=c * 2 ^ 11) (i:=12) (by omega)
  rw [show (h * 2 ^ 8 + a) * 2 ^ 12 = h * 2 ^ 20 + a * 2 ^ 12 by omega] at this
  exact this
 have o3 : (h * 2 ^ 20 + a * 2 ^ 12 + c * 2 ^ 11) ||| d * 2 ^ 1 = h * 2 ^ 20 + a * 2 ^ 12 + c * 2 ^ 11 + d * 2 ^ 1:=by
  have:=or_hi (a:=h * 2 ^ 9 + a * 2 + c) (b:=d * 2 ^ 1) (i:=11) (by omega)
  rw [show (h * 2 ^ 9 + a * 2 + c) * 2 ^ 11 = h * 2 ^ 20 + a * 2 ^ 12 + c * 2 ^ 11 by omega] at this
  exact this
 rw [qfz (by omega) (by omega),o1,qfz (by omega) (by omega),o2,qfz (by omega) (by omega),o3]
theorem raw_B {w : Nat} (hw : w < 4294967296) : orU (orU (orU (rshl (rshr (w : Int) (31 : Nat)) (12 : Nat)) (rshl (anU (rshr (w : Int) (7 : Nat)) ((2 ^ 1 - 1 : Nat) : Int)) (11 : Nat))) (rshl (anU (rshr (w : Int) (25 : Nat)) ((2 ^ 6 - 1 : Nat) : Int)) (5 : Nat))) (rshl (anU (rshr (w : Int) (8 : Nat)) ((2 ^ 4 - 1 : Nat) : Int)) (1 : Nat)) =
  ((w / 2 ^ 31 * 2 ^ 12 + w / 2 ^ 7 % 2 ^ 1 * 2 ^ 11 + w / 2 ^ 25 % 2 ^ 6 * 2 ^ 5 + w / 2 ^ 8 % 2 ^ 4 * 2 ^ 1 : Nat) : Int):=by
 rw [qcq w 31 (by decide),qcq w 7 (by decide),qcq w 25 (by decide),qcq w 8 (by decide),qel 1 (by omega) (by decide),qel 6 (by omega) (by decide),qel 4 (by omega) (by decide)]
 obtain ⟨h,hh⟩ : ∃ h,w / 2 ^ 31 = h:=⟨_,rfl⟩
 obtain ⟨a,ha⟩ : ∃ a,w / 2 ^ 7 % 2 ^ 1 = a:=⟨_,rfl⟩
 obtain ⟨c,hc⟩ : ∃ c,w / 2 ^ 25 % 2 ^ 6 = c:=⟨_,rfl⟩
 obtain ⟨d,hd⟩ : ∃ d,w / 2 ^ 8 % 2 ^ 4 = d:=⟨_,rfl⟩
 have lh : h < 2:=by omega
 have la : a < 2:=by omega
 have lc : c < 64:=by omega
 have ld : d < 16:=by omega
 rw [hh,ha,hc,hd,qdi (by decide) (by omega),qdi (by decide) (by omega),qdi (by decide) (by omega),qdi (by decide) (by omega)]
 have o1 : h * 2 ^ 12 ||| a * 2 ^ 11 = h * 2 ^ 12 + a * 2 ^ 11:=or_hi (by omega)
 have o2 : (h * 2 ^ 12 + a * 2 ^ 11) ||| c * 2 ^ 5 = h * 2 ^ 12 + a * 2 ^ 11 + c * 2 ^ 5:=by
  have:=or_hi (a:=h * 2 + a) (b:=c * 2 ^ 5) (i:=11) (by omega)
  rw [show (h * 2 + a) * 2 ^ 11 = h * 2 ^ 12 + a * 2 ^ 11 by omega] at this
  exact this
 have o3 : (h * 2 ^ 12 + a * 2 ^ 11 + c * 2 ^ 5) ||| d * 2 ^ 1 = h * 2 ^ 12 + a * 2 ^ 11 + c * 2 ^ 5 + d * 2 ^ 1:=by
  have:=or_hi (a:=h * 2 ^ 7 + a * 2 ^ 6 + c) (b:=d * 2 ^ 1) (i:=5) (by omega)
  rw [show (h * 2 ^ 7 + a * 2 ^ 6 + c) * 2 ^ 5 = h * 2 ^ 12 + a * 2 ^ 11 + c * 2 ^ 5 by omega] at this
  exact this
 rw [qfz (by omega) (by omega),o1,qfz (by omega) (by omega),o2,qfz (by omega) (by omega),o3]
theorem raw_S {w : Nat} (hw : w < 4294967296) : orU (rshl (rshr (w : Int) (25 : Nat)) (5 : Nat)) (anU (rshr (w : Int) (7 : Nat)) ((2 ^ 5 - 1 : Nat) : Int)) = ((w / 2 ^ 25 * 2 ^ 5 + w / 2 ^ 7 % 2 ^ 5 : Nat) : Int):=by
 rw [qcq w 25 (by decide),qcq w 7 (by decide),qel 5 (by omega) (by decide),qdi (by decide) (by omega),qfz (by omega) (by omega),or_hi (by omega)]
theorem cut_nat {w : Nat} (hw : w < 4294967296) (n k : Nat) (hn : n ≤ 32) (hk : k < 32) : anU (rshr (w : Int) (n : Int)) ((2 ^ k - 1 : Nat) : Int) = ((w / 2 ^ n % 2 ^ k : Nat) : Int):=by
 have : w / 2 ^ n ≤ w:=Nat.div_le_self ..
 rw [qcq w n hn,qel k (by omega) hk]
section
attribute [local irreducible] qbu IntKind.wrap s32 immIP immSP immBP immJP qfx
theorem decode5_spec (w : Nat) (hw : w < 4294967296) : Spec Tryz.prog 23 #[.int .u32 w] (fun _=>True) [] (fun ρ ρ' v L=>ρ' = ρ ∧ v = .agg (decP w).cells.toArray ∧ L = []):=by
 have hm : qbu .and .u32 (w : Int) 4294963200 = ((w - w % 4096 : Nat) : Int):=by
  have:=qbz (b:=4294963200) hw (by omega)
  rw [and_hi12 w hw] at this
  exact this
 have hK:=kindP_Q w
 have hI:=imm_I hw
 have hS:=imm_S hw
 have hJ:=imm_J hw
 have hB:=imm_B hw
 have vI:=qeh (w / 2 ^ 20) 12 (by decide) (by omega)
 have vS:=qeh (w / 2 ^ 25 * 2 ^ 5 + w / 2 ^ 7 % 2 ^ 5) 12 (by decide) (by omega)
 have vJ:=qeh (w / 2 ^ 31 * 2 ^ 20 + w / 2 ^ 12 % 2 ^ 8 * 2 ^ 12 + w / 2 ^ 20 % 2 ^ 1 * 2 ^ 11 + w / 2 ^ 21 % 2 ^ 10 * 2 ^ 1) 21 (by decide) (by omega)
 have vB:=qeh (w / 2 ^ 31 * 2 ^ 12 + w / 2 ^ 7 % 2 ^ 1 * 2 ^ 11 + w / 2 ^ 25 % 2 ^ 6 * 2 ^ 5 + w / 2 ^ 8 % 2 ^ 4 * 2 ^ 1) 13 (by decide) (by omega)
 have rJ:=raw_J hw
 have rB:=raw_B hw
 have rS:=raw_S hw
 rw [← hI] at vI
 rw [← hS] at vS
 rw [← hJ] at vJ
 rw [← hB] at vB
 clear hI hS hJ hB
 obtain ⟨NJ,hNJ⟩ : ∃ n,w / 2 ^ 31 * 2 ^ 20 + w / 2 ^ 12 % 2 ^ 8 * 2 ^ 12 + w / 2 ^ 20 % 2 ^ 1 * 2 ^ 11 + w / 2 ^ 21 % 2 ^ 10 * 2 ^ 1 = n:=⟨_,rfl⟩
 obtain ⟨NB,hNB⟩ : ∃ n,w / 2 ^ 31 * 2 ^ 12 + w / 2 ^ 7 % 2 ^ 1 * 2 ^ 11 + w / 2 ^ 25 % 2 ^ 6 * 2 ^ 5 + w / 2 ^ 8 % 2 ^ 4 * 2 ^ 1 = n:=⟨_,rfl⟩
 obtain ⟨NS,hNS⟩ : ∃ n,w / 2 ^ 25 * 2 ^ 5 + w / 2 ^ 7 % 2 ^ 5 = n:=⟨_,rfl⟩
 rw [hNJ] at vJ rJ
 rw [hNB] at vB rB
 rw [hNS] at vS rS
 clear hNJ hNB hNS
 have rI:=qcq w 20 (by decide)
 obtain ⟨NI,hNI⟩ : ∃ n,w / 2 ^ 20 = n:=⟨_,rfl⟩
 have c0:=qel 7 hw (by decide)
 have c12:=cut_nat hw 12 3 (by decide) (by decide)
 have c25:=qcq w 25 (by decide)
 have c7:=cut_nat hw 7 5 (by decide) (by decide)
 have c15:=cut_nat hw 15 5 (by decide) (by decide)
 have c20:=cut_nat hw 20 5 (by decide) (by decide)
 obtain ⟨o,ho⟩ : ∃ x,w % 2 ^ 7 = x:=⟨_,rfl⟩
 obtain ⟨f,hf⟩ : ∃ x,w / 2 ^ 12 % 2 ^ 3 = x:=⟨_,rfl⟩
 obtain ⟨t,ht⟩ : ∃ x,w / 2 ^ 25 = x:=⟨_,rfl⟩
 obtain ⟨x7,h7⟩ : ∃ x,w / 2 ^ 7 % 2 ^ 5 = x:=⟨_,rfl⟩
 obtain ⟨x15,h15⟩ : ∃ x,w / 2 ^ 15 % 2 ^ 5 = x:=⟨_,rfl⟩
 obtain ⟨x20,h20⟩ : ∃ x,w / 2 ^ 20 % 2 ^ 5 = x:=⟨_,rfl⟩
 have hf8 : f < 8:=by omega
 have ht7 : w / 2 ^ 25 % 2 ^ 7 = t:=by omega
 have ho7 : w % 128 = o:=ho
 have l7 : x7 < 32:=by omega
 have l15 : x15 < 32:=by omega
 have l20 : x20 < 32:=by omega
 rw [ho7,hf,ht7] at hK
 have hD : ∀ k,kindP w = k → decP w = if k = 0 ∨ 46 ≤ k then ⟨k,0,0,0,0⟩ else if k ≤ 2 then ⟨k,x7,0,0,s32 (w - w % 4096)⟩ else
   if k = 3 then ⟨k,x7,0,0,immJP w⟩ else if 5 ≤ k ∧ k ≤ 10 then ⟨k,0,x15,x20,immBP w⟩ else
   if 16 ≤ k ∧ k ≤ 18 then ⟨k,0,x15,x20,immSP w⟩ else
   if 25 ≤ k ∧ k ≤ 27 then ⟨k,x7,x15,0,(x20 : Int)⟩ else
   if 28 ≤ k then ⟨k,x7,x15,x20,0⟩ else ⟨k,x7,x15,0,immIP w⟩:=fun k hk=>by rw [← hk,← h7,← h15,← h20]; rfl
 rw [ho] at c0
 rw [hf] at c12
 rw [ht] at c25
 rw [h7] at c7
 rw [h15] at c15
 rw [h20] at c20
 rw [hNI] at vI rI
 obtain ⟨D,hDe⟩ : ∃ D,decP w = D:=⟨_,rfl⟩
 rw [hDe] at hD ⊢
 clear hDe ho hf ht h7 h15 h20 ht7 ho7 hNI
 refine Spec.of 194 Tryz.func23 rfl Tryz.ntmps23 [(0,_)] rfl rfl ?_
 intro cx ρ hr h0
 refine Cd.seq fun K1 hK1=>?_
 refine Cd.qac [(0,false)] rfl rfl ?_
 refine Jp.alloc 2 2 rfl (qaa rfl) rfl rfl rfl zeroValue40 fun b2=>⟨Kp.true,?_⟩
 refine Jp.qae hK1 ?_
 refine Cd.seq fun K2 hK2=>?_
 refine Cd.seq fun K3 hK3=>?_
 refine Cd.qac [(0,false),(1,false)] rfl rfl ?_
 refine Jp.y 13 rfl (qaa rfl) rfl rfl Kp.true (Y.move rfl rfl) ?_
 refine Jp.y 14 rfl (qaa rfl) rfl rfl Kp.true (Y.eql rfl rfl rfl) ?_
 refine Jp.qae hK3 ?_
 refine Cd.qal rfl (fun ga=>?_) (fun ga=>?_)
 ·have hz : w = 115:=by simp at ga; omega
  subst hz
  refine Cd.seq fun K4 hK4=>?_
  refine Cd.qac [(0,false),(1,false)] rfl rfl ?_
  refine Jp.y 15 rfl (qaa rfl) rfl rfl Kp.true (Y.struct [(0,_)] [_,_,_,_,_] rfl rfl qbe zeroValue40 rfl) ?_
  refine Jp.qaf 2 rfl (qaa rfl) rfl rfl sizeOf40 rfl rfl (by first | rfl | assumption) (by first | rfl | assumption) rfl (by first | rfl | assumption) (fun k _ _=>qam k) Kp.true ?_
  refine Jp.qae hK4 ?_
  refine Cd.ret [] rfl (by exact qcx 2 rfl rfl isAgg40 sizeOf40 rfl (by first | rfl | assumption)) trivial ⟨rfl,by rw [hD 48 rfl]; rfl,rfl⟩
 ·skip
  refine Cd.qbi hK2 ?_
  refine Cd.seq fun K5 hK5=>?_
  refine Cd.seq fun K6 hK6=>?_
  refine Cd.qac [(0,false),(1,false)] rfl rfl ?_
  refine Jp.y 16 rfl (qaa rfl) rfl rfl Kp.true (Y.move rfl rfl) ?_
  refine Jp.y 17 rfl (qaa rfl) rfl rfl Kp.true (Y.eql rfl rfl rfl) ?_
  refine Jp.qae hK6 ?_
  refine Cd.qal rfl (fun gb=>?_) (fun gb=>?_)
  ·have hz : w = 1048691:=by simp at gb; omega
   subst hz
   refine Cd.seq fun K7 hK7=>?_
   refine Cd.qac [(0,false),(1,false)] rfl rfl ?_
   refine Jp.y 18 rfl (qaa rfl) rfl rfl Kp.true (Y.struct [(0,_)] [_,_,_,_,_] rfl rfl qbe zeroValue40 rfl) ?_
   refine Jp.qaf 2 rfl (qaa rfl) rfl rfl sizeOf40 rfl rfl (by first | rfl | assumption) (by first | rfl | assumption) rfl (by first | rfl | assumption) (fun k _ _=>qam k) Kp.true ?_
   refine Jp.qae hK7 ?_
   refine Cd.ret [] rfl (by exact qcx 2 rfl rfl isAgg40 sizeOf40 rfl (by first | rfl | assumption)) trivial ⟨rfl,by rw [hD 49 rfl]; rfl,rfl⟩
  ·have hz : systemP w = 0:=by
    simp at ga gb
    unfold systemP
    rw [if_neg (by omega),if_neg (by omega)]
   rw [hz] at hK
   refine Cd.qbi hK5 ?_
   refine Cd.seq fun K8 hK8=>?_
   refine Cd.qac [(0,false),(1,false),(2,false),(3,false),(4,false),(5,false),(6,false),(7,false),(8,false),(9,false)] rfl rfl ?_
   refine Jp.y 19 rfl (qaa rfl) rfl rfl Kp.true (Y.move rfl rfl) ?_
   refine Jp.y 20 rfl (qaa rfl) rfl rfl Kp.true (Y.bits rfl rfl rfl rfl) ?_
   refine Jp.slot 20 rfl (show _ = Value.int .u32 (o : Int) from congrArg (Value.int .u32) c0) ?_
   refine Jp.y 21 rfl (qaa rfl) rfl rfl Kp.true (Y.move rfl rfl) ?_
   refine Jp.y 22 rfl (qaa rfl) rfl rfl Kp.true (Y.shr rfl rfl rfl (by first | decide | omega)) ?_
   refine Jp.y 23 rfl (qaa rfl) rfl rfl Kp.true (Y.bits rfl rfl rfl rfl) ?_
   refine Jp.slot 23 rfl (show _ = Value.int .u32 (f : Int) from congrArg (Value.int .u32) c12) ?_
   refine Jp.y 24 rfl (qaa rfl) rfl rfl Kp.true (Y.move rfl rfl) ?_
   refine Jp.y 25 rfl (qaa rfl) rfl rfl Kp.true (Y.shr rfl rfl rfl (by first | decide | omega)) ?_
   refine Jp.slot 25 rfl (show _ = Value.int .u32 (t : Int) from congrArg (Value.int .u32) c25) ?_
   refine Jp.y 3 rfl (qaa rfl) rfl rfl Kp.true (Y.assign rfl rfl) ?_
   refine Jp.y 4 rfl (qaa rfl) rfl rfl Kp.true (Y.assign rfl rfl) ?_
   refine Jp.y 5 rfl (qaa rfl) rfl rfl Kp.true (Y.assign rfl rfl) ?_
   refine Jp.qae hK8 ?_
   refine Cd.seq fun K9 hK9=>?_
   refine Cd.qac [(0,false),(1,false),(2,false),(3,false),(4,false),(5,false),(6,false),(7,false),(8,false),(9,false),(10,false),(11,false),(12,false),(13,false),(14,false)] rfl rfl ?_
   refine Jp.y 26 rfl (qaa rfl) rfl rfl Kp.true (Y.move rfl rfl) ?_
   refine Jp.y 27 rfl (qaa rfl) rfl rfl Kp.true (Y.shr rfl rfl rfl (by first | decide | omega)) ?_
   refine Jp.y 28 rfl (qaa rfl) rfl rfl Kp.true (Y.bits rfl rfl rfl rfl) ?_
   refine Jp.slot 28 rfl (show _ = Value.int .u32 (x7 : Int) from congrArg (Value.int .u32) c7) ?_
   refine Jp.y 29 rfl (qaa rfl) rfl rfl Kp.true (Y.qap rfl rfl underlying24 underlying3 (by exact qag (by omega) (by omega))) ?_
   refine Jp.y 30 rfl (qaa rfl) rfl rfl Kp.true (Y.move rfl rfl) ?_
   refine Jp.y 31 rfl (qaa rfl) rfl rfl Kp.true (Y.shr rfl rfl rfl (by first | decide | omega)) ?_
   refine Jp.y 32 rfl (qaa rfl) rfl rfl Kp.true (Y.bits rfl rfl rfl rfl) ?_
   refine Jp.slot 32 rfl (show _ = Value.int .u32 (x15 : Int) from congrArg (Value.int .u32) c15) ?_
   refine Jp.y 33 rfl (qaa rfl) rfl rfl Kp.true (Y.qap rfl rfl underlying24 underlying3 (by exact qag (by omega) (by omega))) ?_
   refine Jp.y 34 rfl (qaa rfl) rfl rfl Kp.true (Y.move rfl rfl) ?_
   refine Jp.y 35 rfl (qaa rfl) rfl rfl Kp.true (Y.shr rfl rfl rfl (by first | decide | omega)) ?_
   refine Jp.y 36 rfl (qaa rfl) rfl rfl Kp.true (Y.bits rfl rfl rfl rfl) ?_
   refine Jp.slot 36 rfl (show _ = Value.int .u32 (x20 : Int) from congrArg (Value.int .u32) c20) ?_
   refine Jp.y 37 rfl (qaa rfl) rfl rfl Kp.true (Y.qap rfl rfl underlying24 underlying3 (by exact qag (by omega) (by omega))) ?_
   refine Jp.y 6 rfl (qaa rfl) rfl rfl Kp.true (Y.assign rfl rfl) ?_
   refine Jp.y 7 rfl (qaa rfl) rfl rfl Kp.true (Y.assign rfl rfl) ?_
   refine Jp.y 8 rfl (qaa rfl) rfl rfl Kp.true (Y.assign rfl rfl) ?_
   refine Jp.qae hK9 ?_
   refine Cd.seq fun K10 hK10=>?_
   refine Cd.seq fun K11 hK11=>?_
   refine Cd.qac [(0,false)] rfl rfl ?_
   refine Jp.y 9 rfl (qaa rfl) rfl rfl Kp.true (Y.assign rfl rfl) ?_
   refine Jp.qae hK11 ?_
   refine Cd.block ?_
   refine Cd.qdw (G:=Nat) (fun g=>(1 ≤ g ∧ g ≤ 48) ∧ ∀ j,1 ≤ j → j < g → suits j o f t = false) (fun g=>48 - g) (fun _=>_) (fun g=>[(9,.int .i64 (g : Int))]) [(0,_),(2,_),(3,_),(4,_),(5,_),(6,_),(7,_),(8,_)] (fun g=>[]) [(2,_)] 1 ⟨by omega,fun j h1 h2=>by omega⟩ rfl ⟨rfl,trivial⟩ ⟨rfl,rfl,rfl,rfl,rfl,rfl,rfl,rfl,trivial⟩ trivial ⟨rfl,trivial⟩ (fun g KLa hok hLa=>?_)
   obtain ⟨⟨ok1,ok2⟩,ok3⟩:=hok
   refine Cd.seq fun K12 hK12=>?_
   refine Cd.seq fun K13 hK13=>?_
   refine Cd.qac [(0,false),(1,false)] rfl rfl ?_
   refine Jp.y 38 rfl (qaa rfl) rfl rfl Kp.true (Y.move rfl rfl) ?_
   refine Jp.y 39 rfl (qaa rfl) rfl rfl Kp.true (Y.leq rfl rfl rfl) ?_
   refine Jp.qae hK13 ?_
   refine Cd.qal rfl (fun gc=>?_) (fun gc=>?_)
   ·have hg : g ≤ 47:=by simp at gc; omega
    have hF:=form_spec g ⟨ok1,hg⟩
    have hsu:=suits_iff g o f t
    have hsk:=suits_kind (o:=o) (f:=f) (t:=t) 0 ok1 hg
    unfold formV at hF
    obtain ⟨F,hFe⟩ : ∃ F,qfm g = F:=⟨_,rfl⟩
    rw [hFe] at hF hsu
    obtain ⟨fa,fb,fc⟩:=F
    dsimp only at hF hsu
    refine Cd.qbi hK12 ?_
    refine Cd.seq fun K14 hK14=>?_
    refine Cd.block ?_
    refine Cd.seq fun K15 hK15=>?_
    refine Cd.qac [(0,false),(1,false),(2,false),(3,false),(4,false),(5,false),(6,false),(7,false),(8,false)] rfl rfl ?_
    refine Jp.y 43 rfl (qaa rfl) rfl rfl Kp.true (Y.move rfl rfl) ?_
    refine Jp.call [] [] hF 44 rfl (qaa rfl) rfl rfl (Runs.fn rfl call49 rfl) (by decide) (by decide) rfl trivial ?_
    rintro v1 ρ1 L1 ⟨rfl,rfl,rfl⟩
    refine ⟨rfl,fun hle1=>⟨Kp.true,?_⟩⟩
    refine Jp.y 42 rfl (qaa rfl) rfl rfl Kp.true (Y.move rfl rfl) ?_
    refine Jp.y 45 rfl (qaa rfl) rfl rfl Kp.true (Y.extract rfl rfl rfl) ?_
    refine Jp.y 46 rfl (qaa rfl) rfl rfl Kp.true (Y.extract rfl rfl rfl) ?_
    refine Jp.y 47 rfl (qaa rfl) rfl rfl Kp.true (Y.extract rfl rfl rfl) ?_
    refine Jp.y 10 rfl (qaa rfl) rfl rfl Kp.true (Y.assign rfl rfl) ?_
    refine Jp.y 11 rfl (qaa rfl) rfl rfl Kp.true (Y.assign rfl rfl) ?_
    refine Jp.y 12 rfl (qaa rfl) rfl rfl Kp.true (Y.assign rfl rfl) ?_
    refine Jp.qae hK15 ?_
    refine Cd.seq fun K16 hK16=>?_
    refine Cd.seq fun K17 hK17=>?_
    refine Cd.qac [(0,false),(1,false),(2,false),(3,false),(4,false),(5,false),(6,false),(7,false),(8,false),(9,false),(10,false),(11,false),(12,false),(13,false),(14,false),(15,false),(16,false),(17,false),(18,false),(19,false),(20,false),(21,false),(22,false),(23,false),(24,false)] rfl rfl ?_
    refine Jp.y 48 rfl (qaa rfl) rfl rfl Kp.true (Y.move rfl rfl) ?_
    refine Jp.y 49 rfl (qaa rfl) rfl rfl Kp.true (Y.move rfl rfl) ?_
    refine Jp.y 50 rfl (qaa rfl) rfl rfl Kp.true (Y.neq rfl rfl rfl) ?_
    refine Jp.y 51 rfl (qaa rfl) rfl rfl Kp.true (Y.move rfl rfl) ?_
    refine Jp.joinK (φ:=suits g o f t = true) hK16 [(0,_),(2,_),(6,_),(7,_),(8,_),(9,_)] ⟨rfl,rfl,rfl,rfl,rfl,rfl,trivial⟩ [(2,_)] ⟨rfl,trivial⟩ (fun hφ=>?_) (fun hj1=>?_)
    ·have hk : kindP w = g:=hK.trans (hsk hφ)
     have hD:=hD g hk
     refine Cd.seq fun K18 hK18=>?_
     refine Cd.block ?_
     refine Cd.seq fun K19 hK19=>?_
     refine Cd.qac [(0,false),(1,false),(2,false)] rfl rfl ?_
     refine Jp.y 74 rfl (qaa rfl) rfl rfl Kp.true (Y.move rfl rfl) ?_
     refine Jp.y 75 rfl (qaa rfl) rfl rfl Kp.true (Y.leq rfl rfl rfl) ?_
     refine Jp.y 73 rfl (qaa rfl) rfl rfl Kp.true (Y.assign rfl rfl) ?_
     refine Jp.qae hK19 ?_
     refine Cd.qal rfl (fun g73=>?_) (fun g73=>?_)
     ·skip
      try simp only [sG0] at g73
      refine Cd.seq fun K20 hK20=>?_
      refine Cd.qac [(0,false),(1,false),(2,false),(3,false),(4,false),(5,false),(6,false)] rfl rfl ?_
      refine Jp.y 76 rfl (qaa rfl) rfl rfl Kp.true (Y.move rfl rfl) ?_
      refine Jp.y 77 rfl (qaa rfl) rfl rfl Kp.true (Y.move rfl rfl) ?_
      refine Jp.y 78 rfl (qaa rfl) rfl rfl Kp.true (Y.move rfl rfl) ?_
      refine Jp.y 79 rfl (qaa rfl) rfl rfl Kp.true (Y.bits rfl rfl rfl rfl) ?_
      refine Jp.slot 79 rfl (show _ = Value.int .u32 ((w - w % 4096 : Nat) : Int) from congrArg (Value.int .u32) hm) ?_
      refine Jp.y 80 rfl (qaa rfl) rfl rfl Kp.true (Y.qap rfl rfl underlying24 underlying21 (by rfl)) ?_
      refine Jp.slot 80 rfl (show _ = Value.int .i32 (s32 (w - w % 4096)) from congrArg (Value.int .i32) (by unfold s32; rfl)) ?_
      refine Jp.y 81 rfl (qaa rfl) rfl rfl Kp.true (Y.struct [(0,_),(1,_),(4,_)] [_,_,_,_,_] rfl rfl qbe zeroValue40 rfl) ?_
      refine Jp.qaf 2 rfl (qaa rfl) rfl rfl sizeOf40 rfl rfl (by first | rfl | assumption) (by first | rfl | assumption) rfl (by first | rfl | assumption) (fun k _ _=>qam k) Kp.true ?_
      refine Jp.qae hK20 ?_
      refine Cd.ret [] rfl (by exact qcx 2 rfl rfl isAgg40 sizeOf40 rfl (by first | rfl | assumption)) trivial ⟨rfl,by (rw [hD]; (repeat first | rw [if_pos (by omega)] | rw [if_neg (by omega)]); rfl),rfl⟩
     ·skip
      try simp only [sG0] at g73
      refine Cd.seq fun K21 hK21=>?_
      refine Cd.qac [(0,false),(1,false),(2,false)] rfl rfl ?_
      refine Jp.y 83 rfl (qaa rfl) rfl rfl Kp.true (Y.move rfl rfl) ?_
      refine Jp.y 84 rfl (qaa rfl) rfl rfl Kp.true (Y.eql rfl rfl rfl) ?_
      refine Jp.y 82 rfl (qaa rfl) rfl rfl Kp.true (Y.assign rfl rfl) ?_
      refine Jp.qae hK21 ?_
      refine Cd.qal rfl (fun g82=>?_) (fun g82=>?_)
      ·skip
       try simp only [sG0] at g82
       refine Cd.seq fun K22 hK22=>?_
       refine Cd.qac [(0,false),(1,false),(2,false),(3,false),(4,false),(5,false),(6,false),(7,false),(8,false),(9,false),(10,false),(11,false),(12,false),(13,false),(14,false),(15,false),(16,false),(17,false),(18,false),(19,false),(20,false),(21,false),(22,false)] rfl rfl ?_
       refine Jp.y 85 rfl (qaa rfl) rfl rfl Kp.true (Y.move rfl rfl) ?_
       refine Jp.y 86 rfl (qaa rfl) rfl rfl Kp.true (Y.move rfl rfl) ?_
       refine Jp.y 87 rfl (qaa rfl) rfl rfl Kp.true (Y.move rfl rfl) ?_
       refine Jp.y 88 rfl (qaa rfl) rfl rfl Kp.true (Y.shr rfl rfl rfl (by first | decide | omega)) ?_
       refine Jp.y 89 rfl (qaa rfl) rfl rfl Kp.true (Y.shl rfl rfl rfl (by first | decide | omega)) ?_
       refine Jp.y 90 rfl (qaa rfl) rfl rfl Kp.true (Y.move rfl rfl) ?_
       refine Jp.y 91 rfl (qaa rfl) rfl rfl Kp.true (Y.shr rfl rfl rfl (by first | decide | omega)) ?_
       refine Jp.y 92 rfl (qaa rfl) rfl rfl Kp.true (Y.bits rfl rfl rfl rfl) ?_
       refine Jp.y 93 rfl (qaa rfl) rfl rfl Kp.true (Y.shl rfl rfl rfl (by first | decide | omega)) ?_
       refine Jp.y 94 rfl (qaa rfl) rfl rfl Kp.true (Y.bits rfl rfl rfl rfl) ?_
       refine Jp.y 95 rfl (qaa rfl) rfl rfl Kp.true (Y.move rfl rfl) ?_
       refine Jp.y 96 rfl (qaa rfl) rfl rfl Kp.true (Y.shr rfl rfl rfl (by first | decide | omega)) ?_
       refine Jp.y 97 rfl (qaa rfl) rfl rfl Kp.true (Y.bits rfl rfl rfl rfl) ?_
       refine Jp.y 98 rfl (qaa rfl) rfl rfl Kp.true (Y.shl rfl rfl rfl (by first | decide | omega)) ?_
       refine Jp.y 99 rfl (qaa rfl) rfl rfl Kp.true (Y.bits rfl rfl rfl rfl) ?_
       refine Jp.y 100 rfl (qaa rfl) rfl rfl Kp.true (Y.move rfl rfl) ?_
       refine Jp.y 101 rfl (qaa rfl) rfl rfl Kp.true (Y.shr rfl rfl rfl (by first | decide | omega)) ?_
       refine Jp.y 102 rfl (qaa rfl) rfl rfl Kp.true (Y.bits rfl rfl rfl rfl) ?_
       refine Jp.y 103 rfl (qaa rfl) rfl rfl Kp.true (Y.shl rfl rfl rfl (by first | decide | omega)) ?_
       refine Jp.y 104 rfl (qaa rfl) rfl rfl Kp.true (Y.bits rfl rfl rfl rfl) ?_
       refine Jp.slot 104 rfl (show _ = Value.int .u32 (NJ : Int) from congrArg (Value.int .u32) rJ) ?_
       refine Jp.call [] [] vJ 105 rfl (qaa rfl) rfl rfl (Runs.fn rfl call50 rfl) (by decide) (by decide) rfl trivial ?_
       rintro v2 ρ2 L2 ⟨rfl,rfl,rfl⟩
       refine ⟨rfl,fun hle2=>⟨Kp.true,?_⟩⟩
       refine Jp.y 106 rfl (qaa rfl) rfl rfl Kp.true (Y.struct [(0,_),(1,_),(4,_)] [_,_,_,_,_] rfl rfl qbe zeroValue40 rfl) ?_
       refine Jp.qaf 2 rfl (qaa rfl) rfl rfl sizeOf40 rfl rfl (by first | rfl | assumption) (by first | rfl | assumption) rfl (by first | rfl | assumption) (fun k _ _=>qam k) Kp.true ?_
       refine Jp.qae hK22 ?_
       refine Cd.ret [] rfl (by exact qcx 2 rfl rfl isAgg40 sizeOf40 rfl (by first | rfl | assumption)) trivial ⟨rfl,by (rw [hD]; (repeat first | rw [if_pos (by omega)] | rw [if_neg (by omega)]); rfl),rfl⟩
      ·skip
       try simp only [sG0] at g82
       refine Cd.seq fun K23 hK23=>?_
       refine Cd.qac [(0,false),(1,false),(2,false),(3,false),(4,false),(5,false),(6,false),(7,false),(8,false),(9,false),(10,false),(11,false),(12,false),(13,false),(14,false),(15,false),(16,false),(17,false),(18,false)] rfl rfl ?_
       refine Jp.y 108 rfl (qaa rfl) rfl rfl Kp.true (Y.move rfl rfl) ?_
       refine Jp.y 109 rfl (qaa rfl) rfl rfl Kp.true (Y.eql rfl rfl rfl) ?_
       refine Jp.y 110 rfl (qaa rfl) rfl rfl Kp.true (Y.move rfl rfl) ?_
       refine Jp.split 110 rfl (fun g110=>?_) (fun g110=>?_)
       ·skip
        try simp only [sG0] at g110
        refine Jp.qak 111 rfl (qab rfl rfl rfl rfl) rfl rfl Kp.true ?_
        refine Jp.qak 112 rfl (qab rfl rfl rfl rfl) rfl rfl Kp.true ?_
        refine Jp.qak 113 rfl (qab rfl rfl rfl rfl) rfl rfl Kp.true ?_
        refine Jp.qak 114 rfl (qbl rfl rfl rfl) rfl rfl Kp.true ?_
        refine Jp.qak 115 rfl (qbl rfl rfl rfl) rfl rfl Kp.true ?_
        refine Jp.qak 116 rfl (qab rfl rfl rfl rfl) rfl rfl Kp.true ?_
        refine Jp.y 117 rfl (qaa rfl) rfl rfl Kp.true (Y.qat rfl rfl rfl) ?_
        refine Jp.y 118 rfl (qaa rfl) rfl rfl Kp.true (Y.move rfl rfl) ?_
        refine Jp.qak 119 rfl (qab rfl rfl rfl rfl) rfl rfl Kp.true ?_
        refine Jp.qak 120 rfl (qab rfl rfl rfl rfl) rfl rfl Kp.true ?_
        refine Jp.qak 121 rfl (qab rfl rfl rfl rfl) rfl rfl Kp.true ?_
        refine Jp.qak 122 rfl (qbl rfl rfl rfl) rfl rfl Kp.true ?_
        refine Jp.qak 123 rfl (qbl rfl rfl rfl) rfl rfl Kp.true ?_
        refine Jp.qak 124 rfl (qab rfl rfl rfl rfl) rfl rfl Kp.true ?_
        refine Jp.y 125 rfl (qaa rfl) rfl rfl Kp.true (Y.qat rfl rfl rfl) ?_
        refine Jp.y 107 rfl (qaa rfl) rfl rfl Kp.true (Y.assign rfl rfl) ?_
        refine Jp.qae hK23 ?_
        refine Cd.qcw rfl ?_
        refine Cd.seq fun K24 hK24=>?_
        refine Cd.qac [(0,false),(1,false),(2,false),(3,false),(4,false),(5,false),(6,false),(7,false)] rfl rfl ?_
        refine Jp.y 126 rfl (qaa rfl) rfl rfl Kp.true (Y.move rfl rfl) ?_
        refine Jp.y 127 rfl (qaa rfl) rfl rfl Kp.true (Y.move rfl rfl) ?_
        refine Jp.y 128 rfl (qaa rfl) rfl rfl Kp.true (Y.move rfl rfl) ?_
        refine Jp.y 129 rfl (qaa rfl) rfl rfl Kp.true (Y.move rfl rfl) ?_
        refine Jp.y 130 rfl (qaa rfl) rfl rfl Kp.true (Y.shr rfl rfl rfl (by first | decide | omega)) ?_
        refine Jp.slot 130 rfl (show _ = Value.int .u32 (NI : Int) from congrArg (Value.int .u32) rI) ?_
        refine Jp.call [] [] vI 131 rfl (qaa rfl) rfl rfl (Runs.fn rfl call50 rfl) (by decide) (by decide) rfl trivial ?_
        rintro v2 ρ2 L2 ⟨rfl,rfl,rfl⟩
        refine ⟨rfl,fun hle2=>⟨Kp.true,?_⟩⟩
        refine Jp.y 132 rfl (qaa rfl) rfl rfl Kp.true (Y.struct [(0,_),(1,_),(2,_),(4,_)] [_,_,_,_,_] rfl rfl qbe zeroValue40 rfl) ?_
        refine Jp.qaf 2 rfl (qaa rfl) rfl rfl sizeOf40 rfl rfl (by first | rfl | assumption) (by first | rfl | assumption) rfl (by first | rfl | assumption) (fun k _ _=>qam k) Kp.true ?_
        refine Jp.qae hK24 ?_
        refine Cd.ret [] rfl (by exact qcx 2 rfl rfl isAgg40 sizeOf40 rfl (by first | rfl | assumption)) trivial ⟨rfl,by (rw [hD]; (repeat first | rw [if_pos (by omega)] | rw [if_neg (by omega)]); rfl),rfl⟩
       ·skip
        try simp only [sG0] at g110
        refine Jp.y 111 rfl (qab rfl rfl rfl rfl) rfl rfl Kp.true (Y.move rfl rfl) ?_
        refine Jp.y 112 rfl (qab rfl rfl rfl rfl) rfl rfl Kp.true (Y.geq rfl rfl rfl) ?_
        refine Jp.y 113 rfl (qab rfl rfl rfl rfl) rfl rfl Kp.true (Y.move rfl rfl) ?_
        refine Jp.split 113 rfl (fun g113=>?_) (fun g113=>?_)
        ·skip
         try simp only [sG0] at g113
         refine Jp.y 114 rfl (qab rfl rfl rfl rfl) rfl rfl Kp.true (Y.move rfl rfl) ?_
         refine Jp.y 115 rfl (qab rfl rfl rfl rfl) rfl rfl Kp.true (Y.leq rfl rfl rfl) ?_
         refine Jp.y 116 rfl (qab rfl rfl rfl rfl) rfl rfl Kp.true (Y.qat rfl rfl rfl) ?_
         refine Jp.y 117 rfl (qaa rfl) rfl rfl Kp.true (Y.qao rfl rfl rfl) ?_
         refine Jp.y 118 rfl (qaa rfl) rfl rfl Kp.true (Y.move rfl rfl) ?_
         refine Jp.split 118 rfl (fun g118=>?_) (fun g118=>?_)
         ·skip
          try simp only [sG0] at g118
          refine Jp.qak 119 rfl (qab rfl rfl rfl rfl) rfl rfl Kp.true ?_
          refine Jp.qak 120 rfl (qab rfl rfl rfl rfl) rfl rfl Kp.true ?_
          refine Jp.qak 121 rfl (qab rfl rfl rfl rfl) rfl rfl Kp.true ?_
          refine Jp.qak 122 rfl (qbl rfl rfl rfl) rfl rfl Kp.true ?_
          refine Jp.qak 123 rfl (qbl rfl rfl rfl) rfl rfl Kp.true ?_
          refine Jp.qak 124 rfl (qab rfl rfl rfl rfl) rfl rfl Kp.true ?_
          refine Jp.y 125 rfl (qaa rfl) rfl rfl Kp.true (Y.qat rfl rfl rfl) ?_
          refine Jp.y 107 rfl (qaa rfl) rfl rfl Kp.true (Y.assign rfl rfl) ?_
          refine Jp.qae hK23 ?_
          refine Cd.qcw rfl ?_
          refine Cd.seq fun K25 hK25=>?_
          refine Cd.qac [(0,false),(1,false),(2,false),(3,false),(4,false),(5,false),(6,false),(7,false)] rfl rfl ?_
          refine Jp.y 126 rfl (qaa rfl) rfl rfl Kp.true (Y.move rfl rfl) ?_
          refine Jp.y 127 rfl (qaa rfl) rfl rfl Kp.true (Y.move rfl rfl) ?_
          refine Jp.y 128 rfl (qaa rfl) rfl rfl Kp.true (Y.move rfl rfl) ?_
          refine Jp.y 129 rfl (qaa rfl) rfl rfl Kp.true (Y.move rfl rfl) ?_
          refine Jp.y 130 rfl (qaa rfl) rfl rfl Kp.true (Y.shr rfl rfl rfl (by first | decide | omega)) ?_
          refine Jp.slot 130 rfl (show _ = Value.int .u32 (NI : Int) from congrArg (Value.int .u32) rI) ?_
          refine Jp.call [] [] vI 131 rfl (qaa rfl) rfl rfl (Runs.fn rfl call50 rfl) (by decide) (by decide) rfl trivial ?_
          rintro v2 ρ2 L2 ⟨rfl,rfl,rfl⟩
          refine ⟨rfl,fun hle2=>⟨Kp.true,?_⟩⟩
          refine Jp.y 132 rfl (qaa rfl) rfl rfl Kp.true (Y.struct [(0,_),(1,_),(2,_),(4,_)] [_,_,_,_,_] rfl rfl qbe zeroValue40 rfl) ?_
          refine Jp.qaf 2 rfl (qaa rfl) rfl rfl sizeOf40 rfl rfl (by first | rfl | assumption) (by first | rfl | assumption) rfl (by first | rfl | assumption) (fun k _ _=>qam k) Kp.true ?_
          refine Jp.qae hK25 ?_
          refine Cd.ret [] rfl (by exact qcx 2 rfl rfl isAgg40 sizeOf40 rfl (by first | rfl | assumption)) trivial ⟨rfl,by (rw [hD]; (repeat first | rw [if_pos (by omega)] | rw [if_neg (by omega)]); rfl),rfl⟩
         ·skip
          try simp only [sG0] at g118
          refine Jp.y 119 rfl (qab rfl rfl rfl rfl) rfl rfl Kp.true (Y.move rfl rfl) ?_
          refine Jp.y 120 rfl (qab rfl rfl rfl rfl) rfl rfl Kp.true (Y.geq rfl rfl rfl) ?_
          refine Jp.y 121 rfl (qab rfl rfl rfl rfl) rfl rfl Kp.true (Y.move rfl rfl) ?_
          refine Jp.split 121 rfl (fun g121=>?_) (fun g121=>?_)
          ·skip
           try simp only [sG0] at g121
           refine Jp.y 122 rfl (qab rfl rfl rfl rfl) rfl rfl Kp.true (Y.move rfl rfl) ?_
           refine Jp.y 123 rfl (qab rfl rfl rfl rfl) rfl rfl Kp.true (Y.leq rfl rfl rfl) ?_
           refine Jp.y 124 rfl (qab rfl rfl rfl rfl) rfl rfl Kp.true (Y.qat rfl rfl rfl) ?_
           refine Jp.y 125 rfl (qaa rfl) rfl rfl Kp.true (Y.qao rfl rfl rfl) ?_
           refine Jp.y 107 rfl (qaa rfl) rfl rfl Kp.true (Y.assign rfl rfl) ?_
           refine Jp.qae hK23 ?_
           refine Cd.qal rfl (fun g107=>?_) (fun g107=>?_)
           ·skip
            try simp only [sG0] at g107
            refine Cd.seq fun K26 hK26=>?_
            refine Cd.qac [(0,false),(1,false),(2,false),(3,false),(4,false),(5,false),(6,false),(7,false)] rfl rfl ?_
            refine Jp.y 126 rfl (qaa rfl) rfl rfl Kp.true (Y.move rfl rfl) ?_
            refine Jp.y 127 rfl (qaa rfl) rfl rfl Kp.true (Y.move rfl rfl) ?_
            refine Jp.y 128 rfl (qaa rfl) rfl rfl Kp.true (Y.move rfl rfl) ?_
            refine Jp.y 129 rfl (qaa rfl) rfl rfl Kp.true (Y.move rfl rfl) ?_
            refine Jp.y 130 rfl (qaa rfl) rfl rfl Kp.true (Y.shr rfl rfl rfl (by first | decide | omega)) ?_
            refine Jp.slot 130 rfl (show _ = Value.int .u32 (NI : Int) from congrArg (Value.int .u32) rI) ?_
            refine Jp.call [] [] vI 131 rfl (qaa rfl) rfl rfl (Runs.fn rfl call50 rfl) (by decide) (by decide) rfl trivial ?_
            rintro v2 ρ2 L2 ⟨rfl,rfl,rfl⟩
            refine ⟨rfl,fun hle2=>⟨Kp.true,?_⟩⟩
            refine Jp.y 132 rfl (qaa rfl) rfl rfl Kp.true (Y.struct [(0,_),(1,_),(2,_),(4,_)] [_,_,_,_,_] rfl rfl qbe zeroValue40 rfl) ?_
            refine Jp.qaf 2 rfl (qaa rfl) rfl rfl sizeOf40 rfl rfl (by first | rfl | assumption) (by first | rfl | assumption) rfl (by first | rfl | assumption) (fun k _ _=>qam k) Kp.true ?_
            refine Jp.qae hK26 ?_
            refine Cd.ret [] rfl (by exact qcx 2 rfl rfl isAgg40 sizeOf40 rfl (by first | rfl | assumption)) trivial ⟨rfl,by (rw [hD]; (repeat first | rw [if_pos (by omega)] | rw [if_neg (by omega)]); rfl),rfl⟩
           ·skip
            try simp only [sG0] at g107
            refine Cd.seq fun K27 hK27=>?_
            refine Cd.qac [(0,false),(1,false),(2,false)] rfl rfl ?_
            refine Jp.y 134 rfl (qaa rfl) rfl rfl Kp.true (Y.move rfl rfl) ?_
            refine Jp.y 135 rfl (qaa rfl) rfl rfl Kp.true (Y.leq rfl rfl rfl) ?_
            refine Jp.y 133 rfl (qaa rfl) rfl rfl Kp.true (Y.assign rfl rfl) ?_
            refine Jp.qae hK27 ?_
            refine Cd.qal rfl (fun g133=>?_) (fun g133=>?_)
            ·skip
             try simp only [sG0] at g133
             refine Cd.seq fun K28 hK28=>?_
             refine Cd.qac [(0,false),(1,false),(2,false),(3,false),(4,false),(5,false),(6,false),(7,false),(8,false),(9,false),(10,false),(11,false),(12,false),(13,false),(14,false),(15,false),(16,false),(17,false),(18,false),(19,false),(20,false),(21,false),(22,false),(23,false)] rfl rfl ?_
             refine Jp.y 136 rfl (qaa rfl) rfl rfl Kp.true (Y.move rfl rfl) ?_
             refine Jp.y 137 rfl (qaa rfl) rfl rfl Kp.true (Y.move rfl rfl) ?_
             refine Jp.y 138 rfl (qaa rfl) rfl rfl Kp.true (Y.move rfl rfl) ?_
             refine Jp.y 139 rfl (qaa rfl) rfl rfl Kp.true (Y.move rfl rfl) ?_
             refine Jp.y 140 rfl (qaa rfl) rfl rfl Kp.true (Y.shr rfl rfl rfl (by first | decide | omega)) ?_
             refine Jp.y 141 rfl (qaa rfl) rfl rfl Kp.true (Y.shl rfl rfl rfl (by first | decide | omega)) ?_
             refine Jp.y 142 rfl (qaa rfl) rfl rfl Kp.true (Y.move rfl rfl) ?_
             refine Jp.y 143 rfl (qaa rfl) rfl rfl Kp.true (Y.shr rfl rfl rfl (by first | decide | omega)) ?_
             refine Jp.y 144 rfl (qaa rfl) rfl rfl Kp.true (Y.bits rfl rfl rfl rfl) ?_
             refine Jp.y 145 rfl (qaa rfl) rfl rfl Kp.true (Y.shl rfl rfl rfl (by first | decide | omega)) ?_
             refine Jp.y 146 rfl (qaa rfl) rfl rfl Kp.true (Y.bits rfl rfl rfl rfl) ?_
             refine Jp.y 147 rfl (qaa rfl) rfl rfl Kp.true (Y.move rfl rfl) ?_
             refine Jp.y 148 rfl (qaa rfl) rfl rfl Kp.true (Y.shr rfl rfl rfl (by first | decide | omega)) ?_
             refine Jp.y 149 rfl (qaa rfl) rfl rfl Kp.true (Y.bits rfl rfl rfl rfl) ?_
             refine Jp.y 150 rfl (qaa rfl) rfl rfl Kp.true (Y.shl rfl rfl rfl (by first | decide | omega)) ?_
             refine Jp.y 151 rfl (qaa rfl) rfl rfl Kp.true (Y.bits rfl rfl rfl rfl) ?_
             refine Jp.y 152 rfl (qaa rfl) rfl rfl Kp.true (Y.move rfl rfl) ?_
             refine Jp.y 153 rfl (qaa rfl) rfl rfl Kp.true (Y.shr rfl rfl rfl (by first | decide | omega)) ?_
             refine Jp.y 154 rfl (qaa rfl) rfl rfl Kp.true (Y.bits rfl rfl rfl rfl) ?_
             refine Jp.y 155 rfl (qaa rfl) rfl rfl Kp.true (Y.shl rfl rfl rfl (by first | decide | omega)) ?_
             refine Jp.y 156 rfl (qaa rfl) rfl rfl Kp.true (Y.bits rfl rfl rfl rfl) ?_
             refine Jp.slot 156 rfl (show _ = Value.int .u32 (NB : Int) from congrArg (Value.int .u32) rB) ?_
             refine Jp.call [] [] vB 157 rfl (qaa rfl) rfl rfl (Runs.fn rfl call50 rfl) (by decide) (by decide) rfl trivial ?_
             rintro v2 ρ2 L2 ⟨rfl,rfl,rfl⟩
             refine ⟨rfl,fun hle2=>⟨Kp.true,?_⟩⟩
             refine Jp.y 158 rfl (qaa rfl) rfl rfl Kp.true (Y.struct [(0,_),(2,_),(3,_),(4,_)] [_,_,_,_,_] rfl rfl qbe zeroValue40 rfl) ?_
             refine Jp.qaf 2 rfl (qaa rfl) rfl rfl sizeOf40 rfl rfl (by first | rfl | assumption) (by first | rfl | assumption) rfl (by first | rfl | assumption) (fun k _ _=>qam k) Kp.true ?_
             refine Jp.qae hK28 ?_
             refine Cd.ret [] rfl (by exact qcx 2 rfl rfl isAgg40 sizeOf40 rfl (by first | rfl | assumption)) trivial ⟨rfl,by (exfalso; omega),rfl⟩
            ·skip
             try simp only [sG0] at g133
             refine Cd.seq fun K29 hK29=>?_
             refine Cd.qac [(0,false),(1,false),(2,false)] rfl rfl ?_
             refine Jp.y 160 rfl (qaa rfl) rfl rfl Kp.true (Y.move rfl rfl) ?_
             refine Jp.y 161 rfl (qaa rfl) rfl rfl Kp.true (Y.leq rfl rfl rfl) ?_
             refine Jp.y 159 rfl (qaa rfl) rfl rfl Kp.true (Y.assign rfl rfl) ?_
             refine Jp.qae hK29 ?_
             refine Cd.qal rfl (fun g159=>?_) (fun g159=>?_)
             ·skip
              try simp only [sG0] at g159
              refine Cd.seq fun K30 hK30=>?_
              refine Cd.qac [(0,false),(1,false),(2,false),(3,false),(4,false),(5,false),(6,false),(7,false),(8,false),(9,false),(10,false),(11,false),(12,false)] rfl rfl ?_
              refine Jp.y 162 rfl (qaa rfl) rfl rfl Kp.true (Y.move rfl rfl) ?_
              refine Jp.y 163 rfl (qaa rfl) rfl rfl Kp.true (Y.move rfl rfl) ?_
              refine Jp.y 164 rfl (qaa rfl) rfl rfl Kp.true (Y.move rfl rfl) ?_
              refine Jp.y 165 rfl (qaa rfl) rfl rfl Kp.true (Y.move rfl rfl) ?_
              refine Jp.y 166 rfl (qaa rfl) rfl rfl Kp.true (Y.shr rfl rfl rfl (by first | decide | omega)) ?_
              refine Jp.y 167 rfl (qaa rfl) rfl rfl Kp.true (Y.shl rfl rfl rfl (by first | decide | omega)) ?_
              refine Jp.y 168 rfl (qaa rfl) rfl rfl Kp.true (Y.move rfl rfl) ?_
              refine Jp.y 169 rfl (qaa rfl) rfl rfl Kp.true (Y.shr rfl rfl rfl (by first | decide | omega)) ?_
              refine Jp.y 170 rfl (qaa rfl) rfl rfl Kp.true (Y.bits rfl rfl rfl rfl) ?_
              refine Jp.y 171 rfl (qaa rfl) rfl rfl Kp.true (Y.bits rfl rfl rfl rfl) ?_
              refine Jp.slot 171 rfl (show _ = Value.int .u32 (NS : Int) from congrArg (Value.int .u32) rS) ?_
              refine Jp.call [] [] vS 172 rfl (qaa rfl) rfl rfl (Runs.fn rfl call50 rfl) (by decide) (by decide) rfl trivial ?_
              rintro v2 ρ2 L2 ⟨rfl,rfl,rfl⟩
              refine ⟨rfl,fun hle2=>⟨Kp.true,?_⟩⟩
              refine Jp.y 173 rfl (qaa rfl) rfl rfl Kp.true (Y.struct [(0,_),(2,_),(3,_),(4,_)] [_,_,_,_,_] rfl rfl qbe zeroValue40 rfl) ?_
              refine Jp.qaf 2 rfl (qaa rfl) rfl rfl sizeOf40 rfl rfl (by first | rfl | assumption) (by first | rfl | assumption) rfl (by first | rfl | assumption) (fun k _ _=>qam k) Kp.true ?_
              refine Jp.qae hK30 ?_
              refine Cd.ret [] rfl (by exact qcx 2 rfl rfl isAgg40 sizeOf40 rfl (by first | rfl | assumption)) trivial ⟨rfl,by (exfalso; omega),rfl⟩
             ·skip
              try simp only [sG0] at g159
              refine Cd.seq fun K31 hK31=>?_
              refine Cd.qac [(0,false),(1,false),(2,false)] rfl rfl ?_
              refine Jp.y 175 rfl (qaa rfl) rfl rfl Kp.true (Y.move rfl rfl) ?_
              refine Jp.y 176 rfl (qaa rfl) rfl rfl Kp.true (Y.leq rfl rfl rfl) ?_
              refine Jp.y 174 rfl (qaa rfl) rfl rfl Kp.true (Y.assign rfl rfl) ?_
              refine Jp.qae hK31 ?_
              refine Cd.qal rfl (fun g174=>?_) (fun g174=>?_)
              ·skip
               try simp only [sG0] at g174
               refine Cd.seq fun K32 hK32=>?_
               refine Cd.qac [(0,false),(1,false),(2,false),(3,false),(4,false),(5,false),(6,false)] rfl rfl ?_
               refine Jp.y 177 rfl (qaa rfl) rfl rfl Kp.true (Y.move rfl rfl) ?_
               refine Jp.y 178 rfl (qaa rfl) rfl rfl Kp.true (Y.move rfl rfl) ?_
               refine Jp.y 179 rfl (qaa rfl) rfl rfl Kp.true (Y.move rfl rfl) ?_
               refine Jp.y 180 rfl (qaa rfl) rfl rfl Kp.true (Y.move rfl rfl) ?_
               refine Jp.y 181 rfl (qaa rfl) rfl rfl Kp.true (Y.qap rfl rfl underlying3 underlying21 (by exact qcl (by omega) (by omega))) ?_
               refine Jp.y 182 rfl (qaa rfl) rfl rfl Kp.true (Y.struct [(0,_),(1,_),(2,_),(4,_)] [_,_,_,_,_] rfl rfl qbe zeroValue40 rfl) ?_
               refine Jp.qaf 2 rfl (qaa rfl) rfl rfl sizeOf40 rfl rfl (by first | rfl | assumption) (by first | rfl | assumption) rfl (by first | rfl | assumption) (fun k _ _=>qam k) Kp.true ?_
               refine Jp.qae hK32 ?_
               refine Cd.ret [] rfl (by exact qcx 2 rfl rfl isAgg40 sizeOf40 rfl (by first | rfl | assumption)) trivial ⟨rfl,by (rw [hD]; (repeat first | rw [if_pos (by omega)] | rw [if_neg (by omega)]); rfl),rfl⟩
              ·skip
               try simp only [sG0] at g174
               refine Cd.seq fun K33 hK33=>?_
               refine Cd.qac [(0,false),(1,false),(2,false)] rfl rfl ?_
               refine Jp.y 184 rfl (qaa rfl) rfl rfl Kp.true (Y.move rfl rfl) ?_
               refine Jp.y 185 rfl (qaa rfl) rfl rfl Kp.true (Y.leq rfl rfl rfl) ?_
               refine Jp.y 183 rfl (qaa rfl) rfl rfl Kp.true (Y.assign rfl rfl) ?_
               refine Jp.qae hK33 ?_
               refine Cd.qal rfl (fun g183=>?_) (fun g183=>?_)
               ·skip
                try simp only [sG0] at g183
                refine Cd.seq fun K34 hK34=>?_
                refine Cd.qac [(0,false),(1,false),(2,false),(3,false),(4,false),(5,false)] rfl rfl ?_
                refine Jp.y 186 rfl (qaa rfl) rfl rfl Kp.true (Y.move rfl rfl) ?_
                refine Jp.y 187 rfl (qaa rfl) rfl rfl Kp.true (Y.move rfl rfl) ?_
                refine Jp.y 188 rfl (qaa rfl) rfl rfl Kp.true (Y.move rfl rfl) ?_
                refine Jp.y 189 rfl (qaa rfl) rfl rfl Kp.true (Y.move rfl rfl) ?_
                refine Jp.y 190 rfl (qaa rfl) rfl rfl Kp.true (Y.struct [(0,_),(1,_),(2,_),(3,_)] [_,_,_,_,_] rfl rfl qbe zeroValue40 rfl) ?_
                refine Jp.qaf 2 rfl (qaa rfl) rfl rfl sizeOf40 rfl rfl (by first | rfl | assumption) (by first | rfl | assumption) rfl (by first | rfl | assumption) (fun k _ _=>qam k) Kp.true ?_
                refine Jp.qae hK34 ?_
                refine Cd.ret [] rfl (by exact qcx 2 rfl rfl isAgg40 sizeOf40 rfl (by first | rfl | assumption)) trivial ⟨rfl,by (rw [hD]; (repeat first | rw [if_pos (by omega)] | rw [if_neg (by omega)]); rfl),rfl⟩
               ·skip
                try simp only [sG0] at g183
                refine Cd.over rfl hK18 ?_
                refine Cd.seq fun K35 hK35=>?_
                refine Cd.qac [(0,false),(1,false),(2,false)] rfl rfl ?_
                refine Jp.y 191 rfl (qaa rfl) rfl rfl Kp.true (Y.move rfl rfl) ?_
                refine Jp.y 192 rfl (qaa rfl) rfl rfl Kp.true (Y.struct [(0,_)] [_,_,_,_,_] rfl rfl qbe zeroValue40 rfl) ?_
                refine Jp.qaf 2 rfl (qaa rfl) rfl rfl sizeOf40 rfl rfl (by first | rfl | assumption) (by first | rfl | assumption) rfl (by first | rfl | assumption) (fun k _ _=>qam k) Kp.true ?_
                refine Jp.qae hK35 ?_
                refine Cd.ret [] rfl (by exact qcx 2 rfl rfl isAgg40 sizeOf40 rfl (by first | rfl | assumption)) trivial ⟨rfl,by (rw [hD]; (repeat first | rw [if_pos (by omega)] | rw [if_neg (by omega)]); rfl),rfl⟩
          ·skip
           try simp only [sG0] at g121
           refine Jp.qak 122 rfl (qab rfl rfl rfl rfl) rfl rfl Kp.true ?_
           refine Jp.qak 123 rfl (qab rfl rfl rfl rfl) rfl rfl Kp.true ?_
           refine Jp.y 124 rfl (qab rfl rfl rfl rfl) rfl rfl Kp.true (Y.qao rfl rfl rfl) ?_
           refine Jp.y 125 rfl (qaa rfl) rfl rfl Kp.true (Y.qao rfl rfl rfl) ?_
           refine Jp.y 107 rfl (qaa rfl) rfl rfl Kp.true (Y.assign rfl rfl) ?_
           refine Jp.qae hK23 ?_
           refine Cd.qbg rfl ?_
           refine Cd.seq fun K36 hK36=>?_
           refine Cd.qac [(0,false),(1,false),(2,false)] rfl rfl ?_
           refine Jp.y 134 rfl (qaa rfl) rfl rfl Kp.true (Y.move rfl rfl) ?_
           refine Jp.y 135 rfl (qaa rfl) rfl rfl Kp.true (Y.leq rfl rfl rfl) ?_
           refine Jp.y 133 rfl (qaa rfl) rfl rfl Kp.true (Y.assign rfl rfl) ?_
           refine Jp.qae hK36 ?_
           refine Cd.qal rfl (fun g133=>?_) (fun g133=>?_)
           ·skip
            try simp only [sG0] at g133
            refine Cd.seq fun K37 hK37=>?_
            refine Cd.qac [(0,false),(1,false),(2,false),(3,false),(4,false),(5,false),(6,false),(7,false),(8,false),(9,false),(10,false),(11,false),(12,false),(13,false),(14,false),(15,false),(16,false),(17,false),(18,false),(19,false),(20,false),(21,false),(22,false),(23,false)] rfl rfl ?_
            refine Jp.y 136 rfl (qaa rfl) rfl rfl Kp.true (Y.move rfl rfl) ?_
            refine Jp.y 137 rfl (qaa rfl) rfl rfl Kp.true (Y.move rfl rfl) ?_
            refine Jp.y 138 rfl (qaa rfl) rfl rfl Kp.true (Y.move rfl rfl) ?_
            refine Jp.y 139 rfl (qaa rfl) rfl rfl Kp.true (Y.move rfl rfl) ?_
            refine Jp.y 140 rfl (qaa rfl) rfl rfl Kp.true (Y.shr rfl rfl rfl (by first | decide | omega)) ?_
            refine Jp.y 141 rfl (qaa rfl) rfl rfl Kp.true (Y.shl rfl rfl rfl (by first | decide | omega)) ?_
            refine Jp.y 142 rfl (qaa rfl) rfl rfl Kp.true (Y.move rfl rfl) ?_
            refine Jp.y 143 rfl (qaa rfl) rfl rfl Kp.true (Y.shr rfl rfl rfl (by first | decide | omega)) ?_
            refine Jp.y 144 rfl (qaa rfl) rfl rfl Kp.true (Y.bits rfl rfl rfl rfl) ?_
            refine Jp.y 145 rfl (qaa rfl) rfl rfl Kp.true (Y.shl rfl rfl rfl (by first | decide | omega)) ?_
            refine Jp.y 146 rfl (qaa rfl) rfl rfl Kp.true (Y.bits rfl rfl rfl rfl) ?_
            refine Jp.y 147 rfl (qaa rfl) rfl rfl Kp.true (Y.move rfl rfl) ?_
            refine Jp.y 148 rfl (qaa rfl) rfl rfl Kp.true (Y.shr rfl rfl rfl (by first | decide | omega)) ?_
            refine Jp.y 149 rfl (qaa rfl) rfl rfl Kp.true (Y.bits rfl rfl rfl rfl) ?_
            refine Jp.y 150 rfl (qaa rfl) rfl rfl Kp.true (Y.shl rfl rfl rfl (by first | decide | omega)) ?_
            refine Jp.y 151 rfl (qaa rfl) rfl rfl Kp.true (Y.bits rfl rfl rfl rfl) ?_
            refine Jp.y 152 rfl (qaa rfl) rfl rfl Kp.true (Y.move rfl rfl) ?_
            refine Jp.y 153 rfl (qaa rfl) rfl rfl Kp.true (Y.shr rfl rfl rfl (by first | decide | omega)) ?_
            refine Jp.y 154 rfl (qaa rfl) rfl rfl Kp.true (Y.bits rfl rfl rfl rfl) ?_
            refine Jp.y 155 rfl (qaa rfl) rfl rfl Kp.true (Y.shl rfl rfl rfl (by first | decide | omega)) ?_
            refine Jp.y 156 rfl (qaa rfl) rfl rfl Kp.true (Y.bits rfl rfl rfl rfl) ?_
            refine Jp.slot 156 rfl (show _ = Value.int .u32 (NB : Int) from congrArg (Value.int .u32) rB) ?_
            refine Jp.call [] [] vB 157 rfl (qaa rfl) rfl rfl (Runs.fn rfl call50 rfl) (by decide) (by decide) rfl trivial ?_
            rintro v2 ρ2 L2 ⟨rfl,rfl,rfl⟩
            refine ⟨rfl,fun hle2=>⟨Kp.true,?_⟩⟩
            refine Jp.y 158 rfl (qaa rfl) rfl rfl Kp.true (Y.struct [(0,_),(2,_),(3,_),(4,_)] [_,_,_,_,_] rfl rfl qbe zeroValue40 rfl) ?_
            refine Jp.qaf 2 rfl (qaa rfl) rfl rfl sizeOf40 rfl rfl (by first | rfl | assumption) (by first | rfl | assumption) rfl (by first | rfl | assumption) (fun k _ _=>qam k) Kp.true ?_
            refine Jp.qae hK37 ?_
            refine Cd.ret [] rfl (by exact qcx 2 rfl rfl isAgg40 sizeOf40 rfl (by first | rfl | assumption)) trivial ⟨rfl,by (exfalso; omega),rfl⟩
           ·skip
            try simp only [sG0] at g133
            refine Cd.seq fun K38 hK38=>?_
            refine Cd.qac [(0,false),(1,false),(2,false)] rfl rfl ?_
            refine Jp.y 160 rfl (qaa rfl) rfl rfl Kp.true (Y.move rfl rfl) ?_
            refine Jp.y 161 rfl (qaa rfl) rfl rfl Kp.true (Y.leq rfl rfl rfl) ?_
            refine Jp.y 159 rfl (qaa rfl) rfl rfl Kp.true (Y.assign rfl rfl) ?_
            refine Jp.qae hK38 ?_
            refine Cd.qal rfl (fun g159=>?_) (fun g159=>?_)
            ·skip
             try simp only [sG0] at g159
             refine Cd.seq fun K39 hK39=>?_
             refine Cd.qac [(0,false),(1,false),(2,false),(3,false),(4,false),(5,false),(6,false),(7,false),(8,false),(9,false),(10,false),(11,false),(12,false)] rfl rfl ?_
             refine Jp.y 162 rfl (qaa rfl) rfl rfl Kp.true (Y.move rfl rfl) ?_
             refine Jp.y 163 rfl (qaa rfl) rfl rfl Kp.true (Y.move rfl rfl) ?_
             refine Jp.y 164 rfl (qaa rfl) rfl rfl Kp.true (Y.move rfl rfl) ?_
             refine Jp.y 165 rfl (qaa rfl) rfl rfl Kp.true (Y.move rfl rfl) ?_
             refine Jp.y 166 rfl (qaa rfl) rfl rfl Kp.true (Y.shr rfl rfl rfl (by first | decide | omega)) ?_
             refine Jp.y 167 rfl (qaa rfl) rfl rfl Kp.true (Y.shl rfl rfl rfl (by first | decide | omega)) ?_
             refine Jp.y 168 rfl (qaa rfl) rfl rfl Kp.true (Y.move rfl rfl) ?_
             refine Jp.y 169 rfl (qaa rfl) rfl rfl Kp.true (Y.shr rfl rfl rfl (by first | decide | omega)) ?_
             refine Jp.y 170 rfl (qaa rfl) rfl rfl Kp.true (Y.bits rfl rfl rfl rfl) ?_
             refine Jp.y 171 rfl (qaa rfl) rfl rfl Kp.true (Y.bits rfl rfl rfl rfl) ?_
             refine Jp.slot 171 rfl (show _ = Value.int .u32 (NS : Int) from congrArg (Value.int .u32) rS) ?_
             refine Jp.call [] [] vS 172 rfl (qaa rfl) rfl rfl (Runs.fn rfl call50 rfl) (by decide) (by decide) rfl trivial ?_
             rintro v2 ρ2 L2 ⟨rfl,rfl,rfl⟩
             refine ⟨rfl,fun hle2=>⟨Kp.true,?_⟩⟩
             refine Jp.y 173 rfl (qaa rfl) rfl rfl Kp.true (Y.struct [(0,_),(2,_),(3,_),(4,_)] [_,_,_,_,_] rfl rfl qbe zeroValue40 rfl) ?_
             refine Jp.qaf 2 rfl (qaa rfl) rfl rfl sizeOf40 rfl rfl (by first | rfl | assumption) (by first | rfl | assumption) rfl (by first | rfl | assumption) (fun k _ _=>qam k) Kp.true ?_
             refine Jp.qae hK39 ?_
             refine Cd.ret [] rfl (by exact qcx 2 rfl rfl isAgg40 sizeOf40 rfl (by first | rfl | assumption)) trivial ⟨rfl,by (rw [hD]; (repeat first | rw [if_pos (by omega)] | rw [if_neg (by omega)]); rfl),rfl⟩
            ·skip
             try simp only [sG0] at g159
             refine Cd.seq fun K40 hK40=>?_
             refine Cd.qac [(0,false),(1,false),(2,false)] rfl rfl ?_
             refine Jp.y 175 rfl (qaa rfl) rfl rfl Kp.true (Y.move rfl rfl) ?_
             refine Jp.y 176 rfl (qaa rfl) rfl rfl Kp.true (Y.leq rfl rfl rfl) ?_
             refine Jp.y 174 rfl (qaa rfl) rfl rfl Kp.true (Y.assign rfl rfl) ?_
             refine Jp.qae hK40 ?_
             refine Cd.qal rfl (fun g174=>?_) (fun g174=>?_)
             ·skip
              try simp only [sG0] at g174
              refine Cd.seq fun K41 hK41=>?_
              refine Cd.qac [(0,false),(1,false),(2,false),(3,false),(4,false),(5,false),(6,false)] rfl rfl ?_
              refine Jp.y 177 rfl (qaa rfl) rfl rfl Kp.true (Y.move rfl rfl) ?_
              refine Jp.y 178 rfl (qaa rfl) rfl rfl Kp.true (Y.move rfl rfl) ?_
              refine Jp.y 179 rfl (qaa rfl) rfl rfl Kp.true (Y.move rfl rfl) ?_
              refine Jp.y 180 rfl (qaa rfl) rfl rfl Kp.true (Y.move rfl rfl) ?_
              refine Jp.y 181 rfl (qaa rfl) rfl rfl Kp.true (Y.qap rfl rfl underlying3 underlying21 (by exact qcl (by omega) (by omega))) ?_
              refine Jp.y 182 rfl (qaa rfl) rfl rfl Kp.true (Y.struct [(0,_),(1,_),(2,_),(4,_)] [_,_,_,_,_] rfl rfl qbe zeroValue40 rfl) ?_
              refine Jp.qaf 2 rfl (qaa rfl) rfl rfl sizeOf40 rfl rfl (by first | rfl | assumption) (by first | rfl | assumption) rfl (by first | rfl | assumption) (fun k _ _=>qam k) Kp.true ?_
              refine Jp.qae hK41 ?_
              refine Cd.ret [] rfl (by exact qcx 2 rfl rfl isAgg40 sizeOf40 rfl (by first | rfl | assumption)) trivial ⟨rfl,by (exfalso; omega),rfl⟩
             ·skip
              try simp only [sG0] at g174
              refine Cd.seq fun K42 hK42=>?_
              refine Cd.qac [(0,false),(1,false),(2,false)] rfl rfl ?_
              refine Jp.y 184 rfl (qaa rfl) rfl rfl Kp.true (Y.move rfl rfl) ?_
              refine Jp.y 185 rfl (qaa rfl) rfl rfl Kp.true (Y.leq rfl rfl rfl) ?_
              refine Jp.y 183 rfl (qaa rfl) rfl rfl Kp.true (Y.assign rfl rfl) ?_
              refine Jp.qae hK42 ?_
              refine Cd.qal rfl (fun g183=>?_) (fun g183=>?_)
              ·skip
               try simp only [sG0] at g183
               refine Cd.seq fun K43 hK43=>?_
               refine Cd.qac [(0,false),(1,false),(2,false),(3,false),(4,false),(5,false)] rfl rfl ?_
               refine Jp.y 186 rfl (qaa rfl) rfl rfl Kp.true (Y.move rfl rfl) ?_
               refine Jp.y 187 rfl (qaa rfl) rfl rfl Kp.true (Y.move rfl rfl) ?_
               refine Jp.y 188 rfl (qaa rfl) rfl rfl Kp.true (Y.move rfl rfl) ?_
               refine Jp.y 189 rfl (qaa rfl) rfl rfl Kp.true (Y.move rfl rfl) ?_
               refine Jp.y 190 rfl (qaa rfl) rfl rfl Kp.true (Y.struct [(0,_),(1,_),(2,_),(3,_)] [_,_,_,_,_] rfl rfl qbe zeroValue40 rfl) ?_
               refine Jp.qaf 2 rfl (qaa rfl) rfl rfl sizeOf40 rfl rfl (by first | rfl | assumption) (by first | rfl | assumption) rfl (by first | rfl | assumption) (fun k _ _=>qam k) Kp.true ?_
               refine Jp.qae hK43 ?_
               refine Cd.ret [] rfl (by exact qcx 2 rfl rfl isAgg40 sizeOf40 rfl (by first | rfl | assumption)) trivial ⟨rfl,by (exfalso; omega),rfl⟩
              ·skip
               try simp only [sG0] at g183
               refine Cd.over rfl hK18 ?_
               refine Cd.seq fun K44 hK44=>?_
               refine Cd.qac [(0,false),(1,false),(2,false)] rfl rfl ?_
               refine Jp.y 191 rfl (qaa rfl) rfl rfl Kp.true (Y.move rfl rfl) ?_
               refine Jp.y 192 rfl (qaa rfl) rfl rfl Kp.true (Y.struct [(0,_)] [_,_,_,_,_] rfl rfl qbe zeroValue40 rfl) ?_
               refine Jp.qaf 2 rfl (qaa rfl) rfl rfl sizeOf40 rfl rfl (by first | rfl | assumption) (by first | rfl | assumption) rfl (by first | rfl | assumption) (fun k _ _=>qam k) Kp.true ?_
               refine Jp.qae hK44 ?_
               refine Cd.ret [] rfl (by exact qcx 2 rfl rfl isAgg40 sizeOf40 rfl (by first | rfl | assumption)) trivial ⟨rfl,by (exfalso; omega),rfl⟩
        ·skip
         try simp only [sG0] at g113
         refine Jp.qak 114 rfl (qab rfl rfl rfl rfl) rfl rfl Kp.true ?_
         refine Jp.qak 115 rfl (qab rfl rfl rfl rfl) rfl rfl Kp.true ?_
         refine Jp.y 116 rfl (qab rfl rfl rfl rfl) rfl rfl Kp.true (Y.qao rfl rfl rfl) ?_
         refine Jp.y 117 rfl (qaa rfl) rfl rfl Kp.true (Y.qao rfl rfl rfl) ?_
         refine Jp.y 118 rfl (qaa rfl) rfl rfl Kp.true (Y.move rfl rfl) ?_
         refine Jp.y 119 rfl (qab rfl rfl rfl rfl) rfl rfl Kp.true (Y.move rfl rfl) ?_
         refine Jp.y 120 rfl (qab rfl rfl rfl rfl) rfl rfl Kp.true (Y.geq rfl rfl rfl) ?_
         refine Jp.y 121 rfl (qab rfl rfl rfl rfl) rfl rfl Kp.true (Y.move rfl rfl) ?_
         refine Jp.split 121 rfl (fun g121=>?_) (fun g121=>?_)
         ·skip
          try simp only [sG0] at g121
          refine Jp.y 122 rfl (qab rfl rfl rfl rfl) rfl rfl Kp.true (Y.move rfl rfl) ?_
          refine Jp.y 123 rfl (qab rfl rfl rfl rfl) rfl rfl Kp.true (Y.leq rfl rfl rfl) ?_
          refine Jp.y 124 rfl (qab rfl rfl rfl rfl) rfl rfl Kp.true (Y.qat rfl rfl rfl) ?_
          refine Jp.y 125 rfl (qaa rfl) rfl rfl Kp.true (Y.qao rfl rfl rfl) ?_
          refine Jp.y 107 rfl (qaa rfl) rfl rfl Kp.true (Y.assign rfl rfl) ?_
          refine Jp.qae hK23 ?_
          refine Cd.qal rfl (fun g107=>?_) (fun g107=>?_)
          ·skip
           try simp only [sG0] at g107
           refine Cd.seq fun K45 hK45=>?_
           refine Cd.qac [(0,false),(1,false),(2,false),(3,false),(4,false),(5,false),(6,false),(7,false)] rfl rfl ?_
           refine Jp.y 126 rfl (qaa rfl) rfl rfl Kp.true (Y.move rfl rfl) ?_
           refine Jp.y 127 rfl (qaa rfl) rfl rfl Kp.true (Y.move rfl rfl) ?_
           refine Jp.y 128 rfl (qaa rfl) rfl rfl Kp.true (Y.move rfl rfl) ?_
           refine Jp.y 129 rfl (qaa rfl) rfl rfl Kp.true (Y.move rfl rfl) ?_
           refine Jp.y 130 rfl (qaa rfl) rfl rfl Kp.true (Y.shr rfl rfl rfl (by first | decide | omega)) ?_
           refine Jp.slot 130 rfl (show _ = Value.int .u32 (NI : Int) from congrArg (Value.int .u32) rI) ?_
           refine Jp.call [] [] vI 131 rfl (qaa rfl) rfl rfl (Runs.fn rfl call50 rfl) (by decide) (by decide) rfl trivial ?_
           rintro v2 ρ2 L2 ⟨rfl,rfl,rfl⟩
           refine ⟨rfl,fun hle2=>⟨Kp.true,?_⟩⟩
           refine Jp.y 132 rfl (qaa rfl) rfl rfl Kp.true (Y.struct [(0,_),(1,_),(2,_),(4,_)] [_,_,_,_,_] rfl rfl qbe zeroValue40 rfl) ?_
           refine Jp.qaf 2 rfl (qaa rfl) rfl rfl sizeOf40 rfl rfl (by first | rfl | assumption) (by first | rfl | assumption) rfl (by first | rfl | assumption) (fun k _ _=>qam k) Kp.true ?_
           refine Jp.qae hK45 ?_
           refine Cd.ret [] rfl (by exact qcx 2 rfl rfl isAgg40 sizeOf40 rfl (by first | rfl | assumption)) trivial ⟨rfl,by (exfalso; omega),rfl⟩
          ·skip
           try simp only [sG0] at g107
           refine Cd.seq fun K46 hK46=>?_
           refine Cd.qac [(0,false),(1,false),(2,false)] rfl rfl ?_
           refine Jp.y 134 rfl (qaa rfl) rfl rfl Kp.true (Y.move rfl rfl) ?_
           refine Jp.y 135 rfl (qaa rfl) rfl rfl Kp.true (Y.leq rfl rfl rfl) ?_
           refine Jp.y 133 rfl (qaa rfl) rfl rfl Kp.true (Y.assign rfl rfl) ?_
           refine Jp.qae hK46 ?_
           refine Cd.qal rfl (fun g133=>?_) (fun g133=>?_)
           ·skip
            try simp only [sG0] at g133
            refine Cd.seq fun K47 hK47=>?_
            refine Cd.qac [(0,false),(1,false),(2,false),(3,false),(4,false),(5,false),(6,false),(7,false),(8,false),(9,false),(10,false),(11,false),(12,false),(13,false),(14,false),(15,false),(16,false),(17,false),(18,false),(19,false),(20,false),(21,false),(22,false),(23,false)] rfl rfl ?_
            refine Jp.y 136 rfl (qaa rfl) rfl rfl Kp.true (Y.move rfl rfl) ?_
            refine Jp.y 137 rfl (qaa rfl) rfl rfl Kp.true (Y.move rfl rfl) ?_
            refine Jp.y 138 rfl (qaa rfl) rfl rfl Kp.true (Y.move rfl rfl) ?_
            refine Jp.y 139 rfl (qaa rfl) rfl rfl Kp.true (Y.move rfl rfl) ?_
            refine Jp.y 140 rfl (qaa rfl) rfl rfl Kp.true (Y.shr rfl rfl rfl (by first | decide | omega)) ?_
            refine Jp.y 141 rfl (qaa rfl) rfl rfl Kp.true (Y.shl rfl rfl rfl (by first | decide | omega)) ?_
            refine Jp.y 142 rfl (qaa rfl) rfl rfl Kp.true (Y.move rfl rfl) ?_
            refine Jp.y 143 rfl (qaa rfl) rfl rfl Kp.true (Y.shr rfl rfl rfl (by first | decide | omega)) ?_
            refine Jp.y 144 rfl (qaa rfl) rfl rfl Kp.true (Y.bits rfl rfl rfl rfl) ?_
            refine Jp.y 145 rfl (qaa rfl) rfl rfl Kp.true (Y.shl rfl rfl rfl (by first | decide | omega)) ?_
            refine Jp.y 146 rfl (qaa rfl) rfl rfl Kp.true (Y.bits rfl rfl rfl rfl) ?_
            refine Jp.y 147 rfl (qaa rfl) rfl rfl Kp.true (Y.move rfl rfl) ?_
            refine Jp.y 148 rfl (qaa rfl) rfl rfl Kp.true (Y.shr rfl rfl rfl (by first | decide | omega)) ?_
            refine Jp.y 149 rfl (qaa rfl) rfl rfl Kp.true (Y.bits rfl rfl rfl rfl) ?_
            refine Jp.y 150 rfl (qaa rfl) rfl rfl Kp.true (Y.shl rfl rfl rfl (by first | decide | omega)) ?_
            refine Jp.y 151 rfl (qaa rfl) rfl rfl Kp.true (Y.bits rfl rfl rfl rfl) ?_
            refine Jp.y 152 rfl (qaa rfl) rfl rfl Kp.true (Y.move rfl rfl) ?_
            refine Jp.y 153 rfl (qaa rfl) rfl rfl Kp.true (Y.shr rfl rfl rfl (by first | decide | omega)) ?_
            refine Jp.y 154 rfl (qaa rfl) rfl rfl Kp.true (Y.bits rfl rfl rfl rfl) ?_
            refine Jp.y 155 rfl (qaa rfl) rfl rfl Kp.true (Y.shl rfl rfl rfl (by first | decide | omega)) ?_
            refine Jp.y 156 rfl (qaa rfl) rfl rfl Kp.true (Y.bits rfl rfl rfl rfl) ?_
            refine Jp.slot 156 rfl (show _ = Value.int .u32 (NB : Int) from congrArg (Value.int .u32) rB) ?_
            refine Jp.call [] [] vB 157 rfl (qaa rfl) rfl rfl (Runs.fn rfl call50 rfl) (by decide) (by decide) rfl trivial ?_
            rintro v2 ρ2 L2 ⟨rfl,rfl,rfl⟩
            refine ⟨rfl,fun hle2=>⟨Kp.true,?_⟩⟩
            refine Jp.y 158 rfl (qaa rfl) rfl rfl Kp.true (Y.struct [(0,_),(2,_),(3,_),(4,_)] [_,_,_,_,_] rfl rfl qbe zeroValue40 rfl) ?_
            refine Jp.qaf 2 rfl (qaa rfl) rfl rfl sizeOf40 rfl rfl (by first | rfl | assumption) (by first | rfl | assumption) rfl (by first | rfl | assumption) (fun k _ _=>qam k) Kp.true ?_
            refine Jp.qae hK47 ?_
            refine Cd.ret [] rfl (by exact qcx 2 rfl rfl isAgg40 sizeOf40 rfl (by first | rfl | assumption)) trivial ⟨rfl,by (exfalso; omega),rfl⟩
           ·skip
            try simp only [sG0] at g133
            refine Cd.seq fun K48 hK48=>?_
            refine Cd.qac [(0,false),(1,false),(2,false)] rfl rfl ?_
            refine Jp.y 160 rfl (qaa rfl) rfl rfl Kp.true (Y.move rfl rfl) ?_
            refine Jp.y 161 rfl (qaa rfl) rfl rfl Kp.true (Y.leq rfl rfl rfl) ?_
            refine Jp.y 159 rfl (qaa rfl) rfl rfl Kp.true (Y.assign rfl rfl) ?_
            refine Jp.qae hK48 ?_
            refine Cd.qal rfl (fun g159=>?_) (fun g159=>?_)
            ·skip
             try simp only [sG0] at g159
             refine Cd.seq fun K49 hK49=>?_
             refine Cd.qac [(0,false),(1,false),(2,false),(3,false),(4,false),(5,false),(6,false),(7,false),(8,false),(9,false),(10,false),(11,false),(12,false)] rfl rfl ?_
             refine Jp.y 162 rfl (qaa rfl) rfl rfl Kp.true (Y.move rfl rfl) ?_
             refine Jp.y 163 rfl (qaa rfl) rfl rfl Kp.true (Y.move rfl rfl) ?_
             refine Jp.y 164 rfl (qaa rfl) rfl rfl Kp.true (Y.move rfl rfl) ?_
             refine Jp.y 165 rfl (qaa rfl) rfl rfl Kp.true (Y.move rfl rfl) ?_
             refine Jp.y 166 rfl (qaa rfl) rfl rfl Kp.true (Y.shr rfl rfl rfl (by first | decide | omega)) ?_
             refine Jp.y 167 rfl (qaa rfl) rfl rfl Kp.true (Y.shl rfl rfl rfl (by first | decide | omega)) ?_
             refine Jp.y 168 rfl (qaa rfl) rfl rfl Kp.true (Y.move rfl rfl) ?_
             refine Jp.y 169 rfl (qaa rfl) rfl rfl Kp.true (Y.shr rfl rfl rfl (by first | decide | omega)) ?_
             refine Jp.y 170 rfl (qaa rfl) rfl rfl Kp.true (Y.bits rfl rfl rfl rfl) ?_
             refine Jp.y 171 rfl (qaa rfl) rfl rfl Kp.true (Y.bits rfl rfl rfl rfl) ?_
             refine Jp.slot 171 rfl (show _ = Value.int .u32 (NS : Int) from congrArg (Value.int .u32) rS) ?_
             refine Jp.call [] [] vS 172 rfl (qaa rfl) rfl rfl (Runs.fn rfl call50 rfl) (by decide) (by decide) rfl trivial ?_
             rintro v2 ρ2 L2 ⟨rfl,rfl,rfl⟩
             refine ⟨rfl,fun hle2=>⟨Kp.true,?_⟩⟩
             refine Jp.y 173 rfl (qaa rfl) rfl rfl Kp.true (Y.struct [(0,_),(2,_),(3,_),(4,_)] [_,_,_,_,_] rfl rfl qbe zeroValue40 rfl) ?_
             refine Jp.qaf 2 rfl (qaa rfl) rfl rfl sizeOf40 rfl rfl (by first | rfl | assumption) (by first | rfl | assumption) rfl (by first | rfl | assumption) (fun k _ _=>qam k) Kp.true ?_
             refine Jp.qae hK49 ?_
             refine Cd.ret [] rfl (by exact qcx 2 rfl rfl isAgg40 sizeOf40 rfl (by first | rfl | assumption)) trivial ⟨rfl,by (exfalso; omega),rfl⟩
            ·skip
             try simp only [sG0] at g159
             refine Cd.seq fun K50 hK50=>?_
             refine Cd.qac [(0,false),(1,false),(2,false)] rfl rfl ?_
             refine Jp.y 175 rfl (qaa rfl) rfl rfl Kp.true (Y.move rfl rfl) ?_
             refine Jp.y 176 rfl (qaa rfl) rfl rfl Kp.true (Y.leq rfl rfl rfl) ?_
             refine Jp.y 174 rfl (qaa rfl) rfl rfl Kp.true (Y.assign rfl rfl) ?_
             refine Jp.qae hK50 ?_
             refine Cd.qal rfl (fun g174=>?_) (fun g174=>?_)
             ·skip
              try simp only [sG0] at g174
              refine Cd.seq fun K51 hK51=>?_
              refine Cd.qac [(0,false),(1,false),(2,false),(3,false),(4,false),(5,false),(6,false)] rfl rfl ?_
              refine Jp.y 177 rfl (qaa rfl) rfl rfl Kp.true (Y.move rfl rfl) ?_
              refine Jp.y 178 rfl (qaa rfl) rfl rfl Kp.true (Y.move rfl rfl) ?_
              refine Jp.y 179 rfl (qaa rfl) rfl rfl Kp.true (Y.move rfl rfl) ?_
              refine Jp.y 180 rfl (qaa rfl) rfl rfl Kp.true (Y.move rfl rfl) ?_
              refine Jp.y 181 rfl (qaa rfl) rfl rfl Kp.true (Y.qap rfl rfl underlying3 underlying21 (by exact qcl (by omega) (by omega))) ?_
              refine Jp.y 182 rfl (qaa rfl) rfl rfl Kp.true (Y.struct [(0,_),(1,_),(2,_),(4,_)] [_,_,_,_,_] rfl rfl qbe zeroValue40 rfl) ?_
              refine Jp.qaf 2 rfl (qaa rfl) rfl rfl sizeOf40 rfl rfl (by first | rfl | assumption) (by first | rfl | assumption) rfl (by first | rfl | assumption) (fun k _ _=>qam k) Kp.true ?_
              refine Jp.qae hK51 ?_
              refine Cd.ret [] rfl (by exact qcx 2 rfl rfl isAgg40 sizeOf40 rfl (by first | rfl | assumption)) trivial ⟨rfl,by (exfalso; omega),rfl⟩
             ·skip
              try simp only [sG0] at g174
              refine Cd.seq fun K52 hK52=>?_
              refine Cd.qac [(0,false),(1,false),(2,false)] rfl rfl ?_
              refine Jp.y 184 rfl (qaa rfl) rfl rfl Kp.true (Y.move rfl rfl) ?_
              refine Jp.y 185 rfl (qaa rfl) rfl rfl Kp.true (Y.leq rfl rfl rfl) ?_
              refine Jp.y 183 rfl (qaa rfl) rfl rfl Kp.true (Y.assign rfl rfl) ?_
              refine Jp.qae hK52 ?_
              refine Cd.qal rfl (fun g183=>?_) (fun g183=>?_)
              ·skip
               try simp only [sG0] at g183
               refine Cd.seq fun K53 hK53=>?_
               refine Cd.qac [(0,false),(1,false),(2,false),(3,false),(4,false),(5,false)] rfl rfl ?_
               refine Jp.y 186 rfl (qaa rfl) rfl rfl Kp.true (Y.move rfl rfl) ?_
               refine Jp.y 187 rfl (qaa rfl) rfl rfl Kp.true (Y.move rfl rfl) ?_
               refine Jp.y 188 rfl (qaa rfl) rfl rfl Kp.true (Y.move rfl rfl) ?_
               refine Jp.y 189 rfl (qaa rfl) rfl rfl Kp.true (Y.move rfl rfl) ?_
               refine Jp.y 190 rfl (qaa rfl) rfl rfl Kp.true (Y.struct [(0,_),(1,_),(2,_),(3,_)] [_,_,_,_,_] rfl rfl qbe zeroValue40 rfl) ?_
               refine Jp.qaf 2 rfl (qaa rfl) rfl rfl sizeOf40 rfl rfl (by first | rfl | assumption) (by first | rfl | assumption) rfl (by first | rfl | assumption) (fun k _ _=>qam k) Kp.true ?_
               refine Jp.qae hK53 ?_
               refine Cd.ret [] rfl (by exact qcx 2 rfl rfl isAgg40 sizeOf40 rfl (by first | rfl | assumption)) trivial ⟨rfl,by (exfalso; omega),rfl⟩
              ·skip
               try simp only [sG0] at g183
               refine Cd.over rfl hK18 ?_
               refine Cd.seq fun K54 hK54=>?_
               refine Cd.qac [(0,false),(1,false),(2,false)] rfl rfl ?_
               refine Jp.y 191 rfl (qaa rfl) rfl rfl Kp.true (Y.move rfl rfl) ?_
               refine Jp.y 192 rfl (qaa rfl) rfl rfl Kp.true (Y.struct [(0,_)] [_,_,_,_,_] rfl rfl qbe zeroValue40 rfl) ?_
               refine Jp.qaf 2 rfl (qaa rfl) rfl rfl sizeOf40 rfl rfl (by first | rfl | assumption) (by first | rfl | assumption) rfl (by first | rfl | assumption) (fun k _ _=>qam k) Kp.true ?_
               refine Jp.qae hK54 ?_
               refine Cd.ret [] rfl (by exact qcx 2 rfl rfl isAgg40 sizeOf40 rfl (by first | rfl | assumption)) trivial ⟨rfl,by (exfalso; omega),rfl⟩
         ·skip
          try simp only [sG0] at g121
          refine Jp.qak 122 rfl (qab rfl rfl rfl rfl) rfl rfl Kp.true ?_
          refine Jp.qak 123 rfl (qab rfl rfl rfl rfl) rfl rfl Kp.true ?_
          refine Jp.y 124 rfl (qab rfl rfl rfl rfl) rfl rfl Kp.true (Y.qao rfl rfl rfl) ?_
          refine Jp.y 125 rfl (qaa rfl) rfl rfl Kp.true (Y.qao rfl rfl rfl) ?_
          refine Jp.y 107 rfl (qaa rfl) rfl rfl Kp.true (Y.assign rfl rfl) ?_
          refine Jp.qae hK23 ?_
          refine Cd.qbg rfl ?_
          refine Cd.seq fun K55 hK55=>?_
          refine Cd.qac [(0,false),(1,false),(2,false)] rfl rfl ?_
          refine Jp.y 134 rfl (qaa rfl) rfl rfl Kp.true (Y.move rfl rfl) ?_
          refine Jp.y 135 rfl (qaa rfl) rfl rfl Kp.true (Y.leq rfl rfl rfl) ?_
          refine Jp.y 133 rfl (qaa rfl) rfl rfl Kp.true (Y.assign rfl rfl) ?_
          refine Jp.qae hK55 ?_
          refine Cd.qal rfl (fun g133=>?_) (fun g133=>?_)
          ·skip
           try simp only [sG0] at g133
           refine Cd.seq fun K56 hK56=>?_
           refine Cd.qac [(0,false),(1,false),(2,false),(3,false),(4,false),(5,false),(6,false),(7,false),(8,false),(9,false),(10,false),(11,false),(12,false),(13,false),(14,false),(15,false),(16,false),(17,false),(18,false),(19,false),(20,false),(21,false),(22,false),(23,false)] rfl rfl ?_
           refine Jp.y 136 rfl (qaa rfl) rfl rfl Kp.true (Y.move rfl rfl) ?_
           refine Jp.y 137 rfl (qaa rfl) rfl rfl Kp.true (Y.move rfl rfl) ?_
           refine Jp.y 138 rfl (qaa rfl) rfl rfl Kp.true (Y.move rfl rfl) ?_
           refine Jp.y 139 rfl (qaa rfl) rfl rfl Kp.true (Y.move rfl rfl) ?_
           refine Jp.y 140 rfl (qaa rfl) rfl rfl Kp.true (Y.shr rfl rfl rfl (by first | decide | omega)) ?_
           refine Jp.y 141 rfl (qaa rfl) rfl rfl Kp.true (Y.shl rfl rfl rfl (by first | decide | omega)) ?_
           refine Jp.y 142 rfl (qaa rfl) rfl rfl Kp.true (Y.move rfl rfl) ?_
           refine Jp.y 143 rfl (qaa rfl) rfl rfl Kp.true (Y.shr rfl rfl rfl (by first | decide | omega)) ?_
           refine Jp.y 144 rfl (qaa rfl) rfl rfl Kp.true (Y.bits rfl rfl rfl rfl) ?_
           refine Jp.y 145 rfl (qaa rfl) rfl rfl Kp.true (Y.shl rfl rfl rfl (by first | decide | omega)) ?_
           refine Jp.y 146 rfl (qaa rfl) rfl rfl Kp.true (Y.bits rfl rfl rfl rfl) ?_
           refine Jp.y 147 rfl (qaa rfl) rfl rfl Kp.true (Y.move rfl rfl) ?_
           refine Jp.y 148 rfl (qaa rfl) rfl rfl Kp.true (Y.shr rfl rfl rfl (by first | decide | omega)) ?_
           refine Jp.y 149 rfl (qaa rfl) rfl rfl Kp.true (Y.bits rfl rfl rfl rfl) ?_
           refine Jp.y 150 rfl (qaa rfl) rfl rfl Kp.true (Y.shl rfl rfl rfl (by first | decide | omega)) ?_
           refine Jp.y 151 rfl (qaa rfl) rfl rfl Kp.true (Y.bits rfl rfl rfl rfl) ?_
           refine Jp.y 152 rfl (qaa rfl) rfl rfl Kp.true (Y.move rfl rfl) ?_
           refine Jp.y 153 rfl (qaa rfl) rfl rfl Kp.true (Y.shr rfl rfl rfl (by first | decide | omega)) ?_
           refine Jp.y 154 rfl (qaa rfl) rfl rfl Kp.true (Y.bits rfl rfl rfl rfl) ?_
           refine Jp.y 155 rfl (qaa rfl) rfl rfl Kp.true (Y.shl rfl rfl rfl (by first | decide | omega)) ?_
           refine Jp.y 156 rfl (qaa rfl) rfl rfl Kp.true (Y.bits rfl rfl rfl rfl) ?_
           refine Jp.slot 156 rfl (show _ = Value.int .u32 (NB : Int) from congrArg (Value.int .u32) rB) ?_
           refine Jp.call [] [] vB 157 rfl (qaa rfl) rfl rfl (Runs.fn rfl call50 rfl) (by decide) (by decide) rfl trivial ?_
           rintro v2 ρ2 L2 ⟨rfl,rfl,rfl⟩
           refine ⟨rfl,fun hle2=>⟨Kp.true,?_⟩⟩
           refine Jp.y 158 rfl (qaa rfl) rfl rfl Kp.true (Y.struct [(0,_),(2,_),(3,_),(4,_)] [_,_,_,_,_] rfl rfl qbe zeroValue40 rfl) ?_
           refine Jp.qaf 2 rfl (qaa rfl) rfl rfl sizeOf40 rfl rfl (by first | rfl | assumption) (by first | rfl | assumption) rfl (by first | rfl | assumption) (fun k _ _=>qam k) Kp.true ?_
           refine Jp.qae hK56 ?_
           refine Cd.ret [] rfl (by exact qcx 2 rfl rfl isAgg40 sizeOf40 rfl (by first | rfl | assumption)) trivial ⟨rfl,by (rw [hD]; (repeat first | rw [if_pos (by omega)] | rw [if_neg (by omega)]); rfl),rfl⟩
          ·skip
           try simp only [sG0] at g133
           refine Cd.seq fun K57 hK57=>?_
           refine Cd.qac [(0,false),(1,false),(2,false)] rfl rfl ?_
           refine Jp.y 160 rfl (qaa rfl) rfl rfl Kp.true (Y.move rfl rfl) ?_
           refine Jp.y 161 rfl (qaa rfl) rfl rfl Kp.true (Y.leq rfl rfl rfl) ?_
           refine Jp.y 159 rfl (qaa rfl) rfl rfl Kp.true (Y.assign rfl rfl) ?_
           refine Jp.qae hK57 ?_
           refine Cd.qal rfl (fun g159=>?_) (fun g159=>?_)
           ·skip
            try simp only [sG0] at g159
            refine Cd.seq fun K58 hK58=>?_
            refine Cd.qac [(0,false),(1,false),(2,false),(3,false),(4,false),(5,false),(6,false),(7,false),(8,false),(9,false),(10,false),(11,false),(12,false)] rfl rfl ?_
            refine Jp.y 162 rfl (qaa rfl) rfl rfl Kp.true (Y.move rfl rfl) ?_
            refine Jp.y 163 rfl (qaa rfl) rfl rfl Kp.true (Y.move rfl rfl) ?_
            refine Jp.y 164 rfl (qaa rfl) rfl rfl Kp.true (Y.move rfl rfl) ?_
            refine Jp.y 165 rfl (qaa rfl) rfl rfl Kp.true (Y.move rfl rfl) ?_
            refine Jp.y 166 rfl (qaa rfl) rfl rfl Kp.true (Y.shr rfl rfl rfl (by first | decide | omega)) ?_
            refine Jp.y 167 rfl (qaa rfl) rfl rfl Kp.true (Y.shl rfl rfl rfl (by first | decide | omega)) ?_
            refine Jp.y 168 rfl (qaa rfl) rfl rfl Kp.true (Y.move rfl rfl) ?_
            refine Jp.y 169 rfl (qaa rfl) rfl rfl Kp.true (Y.shr rfl rfl rfl (by first | decide | omega)) ?_
            refine Jp.y 170 rfl (qaa rfl) rfl rfl Kp.true (Y.bits rfl rfl rfl rfl) ?_
            refine Jp.y 171 rfl (qaa rfl) rfl rfl Kp.true (Y.bits rfl rfl rfl rfl) ?_
            refine Jp.slot 171 rfl (show _ = Value.int .u32 (NS : Int) from congrArg (Value.int .u32) rS) ?_
            refine Jp.call [] [] vS 172 rfl (qaa rfl) rfl rfl (Runs.fn rfl call50 rfl) (by decide) (by decide) rfl trivial ?_
            rintro v2 ρ2 L2 ⟨rfl,rfl,rfl⟩
            refine ⟨rfl,fun hle2=>⟨Kp.true,?_⟩⟩
            refine Jp.y 173 rfl (qaa rfl) rfl rfl Kp.true (Y.struct [(0,_),(2,_),(3,_),(4,_)] [_,_,_,_,_] rfl rfl qbe zeroValue40 rfl) ?_
            refine Jp.qaf 2 rfl (qaa rfl) rfl rfl sizeOf40 rfl rfl (by first | rfl | assumption) (by first | rfl | assumption) rfl (by first | rfl | assumption) (fun k _ _=>qam k) Kp.true ?_
            refine Jp.qae hK58 ?_
            refine Cd.ret [] rfl (by exact qcx 2 rfl rfl isAgg40 sizeOf40 rfl (by first | rfl | assumption)) trivial ⟨rfl,by (exfalso; omega),rfl⟩
           ·skip
            try simp only [sG0] at g159
            refine Cd.seq fun K59 hK59=>?_
            refine Cd.qac [(0,false),(1,false),(2,false)] rfl rfl ?_
            refine Jp.y 175 rfl (qaa rfl) rfl rfl Kp.true (Y.move rfl rfl) ?_
            refine Jp.y 176 rfl (qaa rfl) rfl rfl Kp.true (Y.leq rfl rfl rfl) ?_
            refine Jp.y 174 rfl (qaa rfl) rfl rfl Kp.true (Y.assign rfl rfl) ?_
            refine Jp.qae hK59 ?_
            refine Cd.qal rfl (fun g174=>?_) (fun g174=>?_)
            ·skip
             try simp only [sG0] at g174
             refine Cd.seq fun K60 hK60=>?_
             refine Cd.qac [(0,false),(1,false),(2,false),(3,false),(4,false),(5,false),(6,false)] rfl rfl ?_
             refine Jp.y 177 rfl (qaa rfl) rfl rfl Kp.true (Y.move rfl rfl) ?_
             refine Jp.y 178 rfl (qaa rfl) rfl rfl Kp.true (Y.move rfl rfl) ?_
             refine Jp.y 179 rfl (qaa rfl) rfl rfl Kp.true (Y.move rfl rfl) ?_
             refine Jp.y 180 rfl (qaa rfl) rfl rfl Kp.true (Y.move rfl rfl) ?_
             refine Jp.y 181 rfl (qaa rfl) rfl rfl Kp.true (Y.qap rfl rfl underlying3 underlying21 (by exact qcl (by omega) (by omega))) ?_
             refine Jp.y 182 rfl (qaa rfl) rfl rfl Kp.true (Y.struct [(0,_),(1,_),(2,_),(4,_)] [_,_,_,_,_] rfl rfl qbe zeroValue40 rfl) ?_
             refine Jp.qaf 2 rfl (qaa rfl) rfl rfl sizeOf40 rfl rfl (by first | rfl | assumption) (by first | rfl | assumption) rfl (by first | rfl | assumption) (fun k _ _=>qam k) Kp.true ?_
             refine Jp.qae hK60 ?_
             refine Cd.ret [] rfl (by exact qcx 2 rfl rfl isAgg40 sizeOf40 rfl (by first | rfl | assumption)) trivial ⟨rfl,by (exfalso; omega),rfl⟩
            ·skip
             try simp only [sG0] at g174
             refine Cd.seq fun K61 hK61=>?_
             refine Cd.qac [(0,false),(1,false),(2,false)] rfl rfl ?_
             refine Jp.y 184 rfl (qaa rfl) rfl rfl Kp.true (Y.move rfl rfl) ?_
             refine Jp.y 185 rfl (qaa rfl) rfl rfl Kp.true (Y.leq rfl rfl rfl) ?_
             refine Jp.y 183 rfl (qaa rfl) rfl rfl Kp.true (Y.assign rfl rfl) ?_
             refine Jp.qae hK61 ?_
             refine Cd.qal rfl (fun g183=>?_) (fun g183=>?_)
             ·skip
              try simp only [sG0] at g183
              refine Cd.seq fun K62 hK62=>?_
              refine Cd.qac [(0,false),(1,false),(2,false),(3,false),(4,false),(5,false)] rfl rfl ?_
              refine Jp.y 186 rfl (qaa rfl) rfl rfl Kp.true (Y.move rfl rfl) ?_
              refine Jp.y 187 rfl (qaa rfl) rfl rfl Kp.true (Y.move rfl rfl) ?_
              refine Jp.y 188 rfl (qaa rfl) rfl rfl Kp.true (Y.move rfl rfl) ?_
              refine Jp.y 189 rfl (qaa rfl) rfl rfl Kp.true (Y.move rfl rfl) ?_
              refine Jp.y 190 rfl (qaa rfl) rfl rfl Kp.true (Y.struct [(0,_),(1,_),(2,_),(3,_)] [_,_,_,_,_] rfl rfl qbe zeroValue40 rfl) ?_
              refine Jp.qaf 2 rfl (qaa rfl) rfl rfl sizeOf40 rfl rfl (by first | rfl | assumption) (by first | rfl | assumption) rfl (by first | rfl | assumption) (fun k _ _=>qam k) Kp.true ?_
              refine Jp.qae hK62 ?_
              refine Cd.ret [] rfl (by exact qcx 2 rfl rfl isAgg40 sizeOf40 rfl (by first | rfl | assumption)) trivial ⟨rfl,by (exfalso; omega),rfl⟩
             ·skip
              try simp only [sG0] at g183
              refine Cd.over rfl hK18 ?_
              refine Cd.seq fun K63 hK63=>?_
              refine Cd.qac [(0,false),(1,false),(2,false)] rfl rfl ?_
              refine Jp.y 191 rfl (qaa rfl) rfl rfl Kp.true (Y.move rfl rfl) ?_
              refine Jp.y 192 rfl (qaa rfl) rfl rfl Kp.true (Y.struct [(0,_)] [_,_,_,_,_] rfl rfl qbe zeroValue40 rfl) ?_
              refine Jp.qaf 2 rfl (qaa rfl) rfl rfl sizeOf40 rfl rfl (by first | rfl | assumption) (by first | rfl | assumption) rfl (by first | rfl | assumption) (fun k _ _=>qam k) Kp.true ?_
              refine Jp.qae hK63 ?_
              refine Cd.ret [] rfl (by exact qcx 2 rfl rfl isAgg40 sizeOf40 rfl (by first | rfl | assumption)) trivial ⟨rfl,by (exfalso; omega),rfl⟩
    ·skip
     refine Jp.split 51 rfl (fun g51=>?_) (fun g51=>?_)
     ·skip
      try simp only [sG0] at g51
      refine Jp.qak 52 rfl (qab rfl rfl rfl rfl) rfl rfl Kp.true ?_
      refine Jp.qak 53 rfl (qab rfl rfl rfl rfl) rfl rfl Kp.true ?_
      refine Jp.qak 54 rfl (qab rfl rfl rfl rfl) rfl rfl Kp.true ?_
      refine Jp.qak 55 rfl (qbl rfl rfl rfl) rfl rfl Kp.true ?_
      refine Jp.qak 56 rfl (qbl rfl rfl rfl) rfl rfl Kp.true ?_
      refine Jp.qak 57 rfl (qbl rfl rfl rfl) rfl rfl Kp.true ?_
      refine Jp.qak 58 rfl (qab rfl rfl rfl rfl) rfl rfl Kp.true ?_
      refine Jp.y 59 rfl (qaa rfl) rfl rfl Kp.true (Y.qat rfl rfl rfl) ?_
      refine Jp.y 60 rfl (qaa rfl) rfl rfl Kp.true (Y.move rfl rfl) ?_
      refine Jp.qak 61 rfl (qab rfl rfl rfl rfl) rfl rfl Kp.true ?_
      refine Jp.qak 62 rfl (qab rfl rfl rfl rfl) rfl rfl Kp.true ?_
      refine Jp.qak 63 rfl (qab rfl rfl rfl rfl) rfl rfl Kp.true ?_
      refine Jp.qak 64 rfl (qbl rfl rfl rfl) rfl rfl Kp.true ?_
      refine Jp.qak 65 rfl (qbl rfl rfl rfl) rfl rfl Kp.true ?_
      refine Jp.qak 66 rfl (qab rfl rfl rfl rfl) rfl rfl Kp.true ?_
      refine Jp.qak 67 rfl (qab rfl rfl rfl rfl) rfl rfl Kp.true ?_
      refine Jp.qak 68 rfl (qbl rfl rfl rfl) rfl rfl Kp.true ?_
      refine Jp.qak 69 rfl (qbl rfl rfl rfl) rfl rfl Kp.true ?_
      refine Jp.qak 70 rfl (qbl rfl rfl rfl) rfl rfl Kp.true ?_
      refine Jp.qak 71 rfl (qab rfl rfl rfl rfl) rfl rfl Kp.true ?_
      refine Jp.y 72 rfl (qaa rfl) rfl rfl Kp.true (Y.qat rfl rfl rfl) ?_
      refine Jp.qae hK17 ?_
      refine Cd.qcw rfl ?_
      refine Cd.exit rfl hK14 ?_
      refine Cd.qac [(0,false),(1,false),(2,false)] rfl rfl ?_
      refine Jp.y 40 rfl (qaa rfl) rfl rfl Kp.true (Y.move rfl rfl) ?_
      refine Jp.y 41 rfl (qaa rfl) rfl rfl Kp.true (Y.qbx rfl rfl rfl (by exact qag (by omega) (by omega))) ?_
      refine Jp.y 9 rfl (qaa rfl) rfl rfl Kp.true (Y.assign rfl rfl) ?_
      rw [show (g : Int) + 1 = ((g + 1 : Nat) : Int) by omega]
      refine Jp.again hLa (g + 1) ⟨⟨by omega,by omega⟩,fun j h1 h2=>if hj : j < g then ok3 j h1 hj else by (rw [show j = g by omega]; rw [Bool.eq_false_iff,ne_eq,hsu]; omega)⟩ (by omega) rfl ⟨rfl,rfl,rfl,rfl,rfl,rfl,rfl,rfl,rfl,trivial⟩ ⟨rfl,trivial⟩
     ·skip
      try simp only [sG0] at g51
      refine Jp.y 52 rfl (qab rfl rfl rfl rfl) rfl rfl Kp.true (Y.move rfl rfl) ?_
      refine Jp.y 53 rfl (qab rfl rfl rfl rfl) rfl rfl Kp.true (Y.gtr rfl rfl rfl) ?_
      refine Jp.y 54 rfl (qab rfl rfl rfl rfl) rfl rfl Kp.true (Y.move rfl rfl) ?_
      refine Jp.split 54 rfl (fun g54=>?_) (fun g54=>?_)
      ·skip
       try simp only [sG0] at g54
       refine Jp.y 55 rfl (qab rfl rfl rfl rfl) rfl rfl Kp.true (Y.move rfl rfl) ?_
       refine Jp.y 56 rfl (qab rfl rfl rfl rfl) rfl rfl Kp.true (Y.move rfl rfl) ?_
       refine Jp.y 57 rfl (qab rfl rfl rfl rfl) rfl rfl Kp.true (Y.neq rfl rfl rfl) ?_
       refine Jp.y 58 rfl (qab rfl rfl rfl rfl) rfl rfl Kp.true (Y.qat rfl rfl rfl) ?_
       refine Jp.y 59 rfl (qaa rfl) rfl rfl Kp.true (Y.qao rfl rfl rfl) ?_
       refine Jp.y 60 rfl (qaa rfl) rfl rfl Kp.true (Y.move rfl rfl) ?_
       refine Jp.split 60 rfl (fun g60=>?_) (fun g60=>?_)
       ·skip
        try simp only [sG0] at g60
        refine Jp.qak 61 rfl (qab rfl rfl rfl rfl) rfl rfl Kp.true ?_
        refine Jp.qak 62 rfl (qab rfl rfl rfl rfl) rfl rfl Kp.true ?_
        refine Jp.qak 63 rfl (qab rfl rfl rfl rfl) rfl rfl Kp.true ?_
        refine Jp.qak 64 rfl (qbl rfl rfl rfl) rfl rfl Kp.true ?_
        refine Jp.qak 65 rfl (qbl rfl rfl rfl) rfl rfl Kp.true ?_
        refine Jp.qak 66 rfl (qab rfl rfl rfl rfl) rfl rfl Kp.true ?_
        refine Jp.qak 67 rfl (qab rfl rfl rfl rfl) rfl rfl Kp.true ?_
        refine Jp.qak 68 rfl (qbl rfl rfl rfl) rfl rfl Kp.true ?_
        refine Jp.qak 69 rfl (qbl rfl rfl rfl) rfl rfl Kp.true ?_
        refine Jp.qak 70 rfl (qbl rfl rfl rfl) rfl rfl Kp.true ?_
        refine Jp.qak 71 rfl (qab rfl rfl rfl rfl) rfl rfl Kp.true ?_
        refine Jp.y 72 rfl (qaa rfl) rfl rfl Kp.true (Y.qat rfl rfl rfl) ?_
        refine Jp.qae hK17 ?_
        refine Cd.qcw rfl ?_
        refine Cd.exit rfl hK14 ?_
        refine Cd.qac [(0,false),(1,false),(2,false)] rfl rfl ?_
        refine Jp.y 40 rfl (qaa rfl) rfl rfl Kp.true (Y.move rfl rfl) ?_
        refine Jp.y 41 rfl (qaa rfl) rfl rfl Kp.true (Y.qbx rfl rfl rfl (by exact qag (by omega) (by omega))) ?_
        refine Jp.y 9 rfl (qaa rfl) rfl rfl Kp.true (Y.assign rfl rfl) ?_
        rw [show (g : Int) + 1 = ((g + 1 : Nat) : Int) by omega]
        refine Jp.again hLa (g + 1) ⟨⟨by omega,by omega⟩,fun j h1 h2=>if hj : j < g then ok3 j h1 hj else by (rw [show j = g by omega]; rw [Bool.eq_false_iff,ne_eq,hsu]; omega)⟩ (by omega) rfl ⟨rfl,rfl,rfl,rfl,rfl,rfl,rfl,rfl,rfl,trivial⟩ ⟨rfl,trivial⟩
       ·skip
        try simp only [sG0] at g60
        refine Jp.y 61 rfl (qab rfl rfl rfl rfl) rfl rfl Kp.true (Y.move rfl rfl) ?_
        refine Jp.y 62 rfl (qab rfl rfl rfl rfl) rfl rfl Kp.true (Y.geq rfl rfl rfl) ?_
        refine Jp.y 63 rfl (qab rfl rfl rfl rfl) rfl rfl Kp.true (Y.move rfl rfl) ?_
        refine Jp.split 63 rfl (fun g63=>?_) (fun g63=>?_)
        ·skip
         try simp only [sG0] at g63
         refine Jp.y 64 rfl (qab rfl rfl rfl rfl) rfl rfl Kp.true (Y.move rfl rfl) ?_
         refine Jp.y 65 rfl (qab rfl rfl rfl rfl) rfl rfl Kp.true (Y.leq rfl rfl rfl) ?_
         refine Jp.y 66 rfl (qab rfl rfl rfl rfl) rfl rfl Kp.true (Y.qat rfl rfl rfl) ?_
         refine Jp.y 67 rfl (qab rfl rfl rfl rfl) rfl rfl Kp.true (Y.move rfl rfl) ?_
         refine Jp.split 67 rfl (fun g67=>?_) (fun g67=>?_)
         ·skip
          try simp only [sG0] at g67
          refine Jp.y 68 rfl (qab rfl rfl rfl rfl) rfl rfl Kp.true (Y.move rfl rfl) ?_
          refine Jp.y 69 rfl (qab rfl rfl rfl rfl) rfl rfl Kp.true (Y.move rfl rfl) ?_
          refine Jp.y 70 rfl (qab rfl rfl rfl rfl) rfl rfl Kp.true (Y.neq rfl rfl rfl) ?_
          refine Jp.y 71 rfl (qab rfl rfl rfl rfl) rfl rfl Kp.true (Y.qat rfl rfl rfl) ?_
          refine Jp.y 72 rfl (qaa rfl) rfl rfl Kp.true (Y.qao rfl rfl rfl) ?_
          refine Jp.qae hK17 ?_
          refine Cd.qal rfl (fun g72=>?_) (fun g72=>?_)
          ·skip
           try simp only [sG0] at g72
           refine Cd.exit rfl hK14 ?_
           refine Cd.qac [(0,false),(1,false),(2,false)] rfl rfl ?_
           refine Jp.y 40 rfl (qaa rfl) rfl rfl Kp.true (Y.move rfl rfl) ?_
           refine Jp.y 41 rfl (qaa rfl) rfl rfl Kp.true (Y.qbx rfl rfl rfl (by exact qag (by omega) (by omega))) ?_
           refine Jp.y 9 rfl (qaa rfl) rfl rfl Kp.true (Y.assign rfl rfl) ?_
           rw [show (g : Int) + 1 = ((g + 1 : Nat) : Int) by omega]
           refine Jp.again hLa (g + 1) ⟨⟨by omega,by omega⟩,fun j h1 h2=>if hj : j < g then ok3 j h1 hj else by (rw [show j = g by omega]; rw [Bool.eq_false_iff,ne_eq,hsu]; omega)⟩ (by omega) rfl ⟨rfl,rfl,rfl,rfl,rfl,rfl,rfl,rfl,rfl,trivial⟩ ⟨rfl,trivial⟩
          ·skip
           try simp only [sG0] at g72
           refine Cd.qbi hK16 ?_
           exact Cd.qdz (hj1 (by rw [hsu]; omega)) ⟨rfl,rfl,rfl,rfl,rfl,rfl,trivial⟩ ⟨rfl,trivial⟩
         ·skip
          try simp only [sG0] at g67
          refine Jp.qak 68 rfl (qab rfl rfl rfl rfl) rfl rfl Kp.true ?_
          refine Jp.qak 69 rfl (qab rfl rfl rfl rfl) rfl rfl Kp.true ?_
          refine Jp.qak 70 rfl (qab rfl rfl rfl rfl) rfl rfl Kp.true ?_
          refine Jp.y 71 rfl (qab rfl rfl rfl rfl) rfl rfl Kp.true (Y.qao rfl rfl rfl) ?_
          refine Jp.y 72 rfl (qaa rfl) rfl rfl Kp.true (Y.qao rfl rfl rfl) ?_
          refine Jp.qae hK17 ?_
          refine Cd.qbg rfl ?_
          refine Cd.qbi hK16 ?_
          exact Cd.qdz (hj1 (by rw [hsu]; omega)) ⟨rfl,rfl,rfl,rfl,rfl,rfl,trivial⟩ ⟨rfl,trivial⟩
        ·skip
         try simp only [sG0] at g63
         refine Jp.qak 64 rfl (qab rfl rfl rfl rfl) rfl rfl Kp.true ?_
         refine Jp.qak 65 rfl (qab rfl rfl rfl rfl) rfl rfl Kp.true ?_
         refine Jp.y 66 rfl (qab rfl rfl rfl rfl) rfl rfl Kp.true (Y.qao rfl rfl rfl) ?_
         refine Jp.y 67 rfl (qab rfl rfl rfl rfl) rfl rfl Kp.true (Y.move rfl rfl) ?_
         refine Jp.qak 68 rfl (qab rfl rfl rfl rfl) rfl rfl Kp.true ?_
         refine Jp.qak 69 rfl (qab rfl rfl rfl rfl) rfl rfl Kp.true ?_
         refine Jp.qak 70 rfl (qab rfl rfl rfl rfl) rfl rfl Kp.true ?_
         refine Jp.y 71 rfl (qab rfl rfl rfl rfl) rfl rfl Kp.true (Y.qao rfl rfl rfl) ?_
         refine Jp.y 72 rfl (qaa rfl) rfl rfl Kp.true (Y.qao rfl rfl rfl) ?_
         refine Jp.qae hK17 ?_
         refine Cd.qbg rfl ?_
         refine Cd.qbi hK16 ?_
         exact Cd.qdz (hj1 (by rw [hsu]; omega)) ⟨rfl,rfl,rfl,rfl,rfl,rfl,trivial⟩ ⟨rfl,trivial⟩
      ·skip
       try simp only [sG0] at g54
       refine Jp.qak 55 rfl (qab rfl rfl rfl rfl) rfl rfl Kp.true ?_
       refine Jp.qak 56 rfl (qab rfl rfl rfl rfl) rfl rfl Kp.true ?_
       refine Jp.qak 57 rfl (qab rfl rfl rfl rfl) rfl rfl Kp.true ?_
       refine Jp.y 58 rfl (qab rfl rfl rfl rfl) rfl rfl Kp.true (Y.qao rfl rfl rfl) ?_
       refine Jp.y 59 rfl (qaa rfl) rfl rfl Kp.true (Y.qao rfl rfl rfl) ?_
       refine Jp.y 60 rfl (qaa rfl) rfl rfl Kp.true (Y.move rfl rfl) ?_
       refine Jp.y 61 rfl (qab rfl rfl rfl rfl) rfl rfl Kp.true (Y.move rfl rfl) ?_
       refine Jp.y 62 rfl (qab rfl rfl rfl rfl) rfl rfl Kp.true (Y.geq rfl rfl rfl) ?_
       refine Jp.y 63 rfl (qab rfl rfl rfl rfl) rfl rfl Kp.true (Y.move rfl rfl) ?_
       refine Jp.split 63 rfl (fun g63=>?_) (fun g63=>?_)
       ·skip
        try simp only [sG0] at g63
        refine Jp.y 64 rfl (qab rfl rfl rfl rfl) rfl rfl Kp.true (Y.move rfl rfl) ?_
        refine Jp.y 65 rfl (qab rfl rfl rfl rfl) rfl rfl Kp.true (Y.leq rfl rfl rfl) ?_
        refine Jp.y 66 rfl (qab rfl rfl rfl rfl) rfl rfl Kp.true (Y.qat rfl rfl rfl) ?_
        refine Jp.y 67 rfl (qab rfl rfl rfl rfl) rfl rfl Kp.true (Y.move rfl rfl) ?_
        refine Jp.split 67 rfl (fun g67=>?_) (fun g67=>?_)
        ·skip
         try simp only [sG0] at g67
         refine Jp.y 68 rfl (qab rfl rfl rfl rfl) rfl rfl Kp.true (Y.move rfl rfl) ?_
         refine Jp.y 69 rfl (qab rfl rfl rfl rfl) rfl rfl Kp.true (Y.move rfl rfl) ?_
         refine Jp.y 70 rfl (qab rfl rfl rfl rfl) rfl rfl Kp.true (Y.neq rfl rfl rfl) ?_
         refine Jp.y 71 rfl (qab rfl rfl rfl rfl) rfl rfl Kp.true (Y.qat rfl rfl rfl) ?_
         refine Jp.y 72 rfl (qaa rfl) rfl rfl Kp.true (Y.qao rfl rfl rfl) ?_
         refine Jp.qae hK17 ?_
         refine Cd.qal rfl (fun g72=>?_) (fun g72=>?_)
         ·skip
          try simp only [sG0] at g72
          refine Cd.exit rfl hK14 ?_
          refine Cd.qac [(0,false),(1,false),(2,false)] rfl rfl ?_
          refine Jp.y 40 rfl (qaa rfl) rfl rfl Kp.true (Y.move rfl rfl) ?_
          refine Jp.y 41 rfl (qaa rfl) rfl rfl Kp.true (Y.qbx rfl rfl rfl (by exact qag (by omega) (by omega))) ?_
          refine Jp.y 9 rfl (qaa rfl) rfl rfl Kp.true (Y.assign rfl rfl) ?_
          rw [show (g : Int) + 1 = ((g + 1 : Nat) : Int) by omega]
          refine Jp.again hLa (g + 1) ⟨⟨by omega,by omega⟩,fun j h1 h2=>if hj : j < g then ok3 j h1 hj else by (rw [show j = g by omega]; rw [Bool.eq_false_iff,ne_eq,hsu]; omega)⟩ (by omega) rfl ⟨rfl,rfl,rfl,rfl,rfl,rfl,rfl,rfl,rfl,trivial⟩ ⟨rfl,trivial⟩
         ·skip
          try simp only [sG0] at g72
          refine Cd.qbi hK16 ?_
          exact Cd.qdz (hj1 (by rw [hsu]; omega)) ⟨rfl,rfl,rfl,rfl,rfl,rfl,trivial⟩ ⟨rfl,trivial⟩
        ·skip
         try simp only [sG0] at g67
         refine Jp.qak 68 rfl (qab rfl rfl rfl rfl) rfl rfl Kp.true ?_
         refine Jp.qak 69 rfl (qab rfl rfl rfl rfl) rfl rfl Kp.true ?_
         refine Jp.qak 70 rfl (qab rfl rfl rfl rfl) rfl rfl Kp.true ?_
         refine Jp.y 71 rfl (qab rfl rfl rfl rfl) rfl rfl Kp.true (Y.qao rfl rfl rfl) ?_
         refine Jp.y 72 rfl (qaa rfl) rfl rfl Kp.true (Y.qao rfl rfl rfl) ?_
         refine Jp.qae hK17 ?_
         refine Cd.qbg rfl ?_
         refine Cd.qbi hK16 ?_
         exact Cd.qdz (hj1 (by rw [hsu]; omega)) ⟨rfl,rfl,rfl,rfl,rfl,rfl,trivial⟩ ⟨rfl,trivial⟩
       ·skip
        try simp only [sG0] at g63
        refine Jp.qak 64 rfl (qab rfl rfl rfl rfl) rfl rfl Kp.true ?_
        refine Jp.qak 65 rfl (qab rfl rfl rfl rfl) rfl rfl Kp.true ?_
        refine Jp.y 66 rfl (qab rfl rfl rfl rfl) rfl rfl Kp.true (Y.qao rfl rfl rfl) ?_
        refine Jp.y 67 rfl (qab rfl rfl rfl rfl) rfl rfl Kp.true (Y.move rfl rfl) ?_
        refine Jp.qak 68 rfl (qab rfl rfl rfl rfl) rfl rfl Kp.true ?_
        refine Jp.qak 69 rfl (qab rfl rfl rfl rfl) rfl rfl Kp.true ?_
        refine Jp.qak 70 rfl (qab rfl rfl rfl rfl) rfl rfl Kp.true ?_
        refine Jp.y 71 rfl (qab rfl rfl rfl rfl) rfl rfl Kp.true (Y.qao rfl rfl rfl) ?_
        refine Jp.y 72 rfl (qaa rfl) rfl rfl Kp.true (Y.qao rfl rfl rfl) ?_
        refine Jp.qae hK17 ?_
        refine Cd.qbg rfl ?_
        refine Cd.qbi hK16 ?_
        exact Cd.qdz (hj1 (by rw [hsu]; omega)) ⟨rfl,rfl,rfl,rfl,rfl,rfl,trivial⟩ ⟨rfl,trivial⟩
   ·have hg : g = 48:=by simp at gc; omega
    have hk : kindP w = 0:=by
     rw [hK]
     by_cases hq : kindQ o f t 0 = 0
     ·exact hq
     ·obtain ⟨h1,h2⟩:=kind_suits hf8 hq
      rw [ok3 _ (by omega) (by omega)] at h1
      cases h1
    refine Cd.exit rfl hK10 ?_
    refine Cd.seq fun K64 hK64=>?_
    refine Cd.qac [(0,false),(1,false)] rfl rfl ?_
    refine Jp.y 193 rfl (qaa rfl) rfl rfl Kp.true (Y.struct [] [_,_,_,_,_] rfl rfl qbe zeroValue40 rfl) ?_
    refine Jp.qaf 2 rfl (qaa rfl) rfl rfl sizeOf40 rfl rfl (by first | rfl | assumption) (by first | rfl | assumption) rfl (by first | rfl | assumption) (fun k _ _=>qam k) Kp.true ?_
    refine Jp.qae hK64 ?_
    refine Cd.ret [] rfl (by exact qcx 2 rfl rfl isAgg40 sizeOf40 rfl (by first | rfl | assumption)) trivial ⟨rfl,by rw [hD 0 hk]; rfl,rfl⟩
end
end Go.Proofs.YthjelpbaljapiaaGreat

namespace Go.Proofs.YthjelpbaljapiaaGreat
open Go
structure ShG where
 budget : Nat
 pages : List (Nat × Pg)
def cntB (b : qbt) : Nat:=b.countP (· != 0)
structure ShPgOk (x : Nat × Pg) : Prop where
 al : x.1 % 256 = 0
 lt : x.1 < 4294967296
 len : x.2.b.length = 256
 cnt : x.2.perm = cntB x.2.b
 pos : 0 < x.2.perm
structure ShOk (l : List (Nat × Pg)) : Prop where
 rising : Rising l
 page : ∀ x ∈ l,ShPgOk x
def labL (l : List (Nat × Pg)) (a : Nat) : UInt8:=match qbc l (qan a) with
 | some p=>p.b.getD (a % 256) 0
 | none=>0
def zeroB : qbt:=List.replicate 256 0
def remPg (l : List (Nat × Pg)) (k : Nat) : List (Nat × Pg):=l.filter fun x=>x.1 != k
def putPg (l : List (Nat × Pg)) (k : Nat) (b : qbt) : List (Nat × Pg):=match qbc l k with
 | some _=>if cntB b = 0 then remPg l k else qcb l k ⟨b,cntB b⟩
 | none=>if cntB b = 0 then l else qeq k ⟨b,cntB b⟩ l
def bOf (l : List (Nat × Pg)) (k : Nat) : qbt:=match qbc l k with
 | some p=>p.b
 | none=>zeroB
def oneP (l : List (Nat × Pg)) (a : Nat) (v : UInt8) : List (Nat × Pg):=putPg l (qan a) ((bOf l (qan a)).set (a % 256) v)
def layP (l : List (Nat × Pg)) : Nat → qbt → List (Nat × Pg)
 | _,[]=>l
 | a,v :: bs=>layP (oneP l a v) (a + 1) bs
theorem ShOk.get {l : List (Nat × Pg)} (h : ShOk l) {k : Nat} {p : Pg} (e : qbc l k = some p) : ShPgOk (k,p):=h.page _ (qcf e)
theorem cntB_zero {b : qbt} : cntB b = 0 ↔ ∀ x ∈ b,x = 0:=by
 rw [cntB,List.countP_eq_zero]; simp
theorem zeroB_cnt : cntB zeroB = 0:=by
 rw [cntB_zero]; intro x hx; exact (List.mem_replicate.1 hx).2
theorem qet : zeroB.length = 256:=List.length_replicate
theorem zeroB_get (j : Nat) : zeroB.getD j 0 = 0:=by
 rw [List.getD_eq_getElem?_getD]
 cases h : zeroB[j]? with
 | none=>rfl
 | some x=>exact (List.mem_replicate.1 (List.mem_of_getElem? h)).2
theorem base_le (a : Nat) : qan a ≤ a:=by unfold qan; omega
def sizedP (size : Int) : Nat:=if size < 0 ∨ 4 < size then 4 else size.toNat
def endN (a : Nat) (n : Int) : Nat:=a + min n.toNat (4294967296 - a)
def setM (S : ShG) (a : Nat) (bs : qbt) : Int × ShG:=if S.budget < (layP S.pages a (bs.take (4294967296 - a))).length then (6,S) else (0,⟨S.budget,layP S.pages a (bs.take (4294967296 - a))⟩)
def fillM (S : ShG) (a : Nat) (n : Int) (v : UInt8) : Int × ShG:=if 1048576 < n then (1,S) else setM S a (List.replicate n.toNat v)
def putM (S : ShG) (a : Nat) (size : Int) (t : qbt) : Int × ShG:=setM S a (t.take (sizedP size))
def tagM (S : ShG) (a : Nat) (size : Int) : qbt:=(List.range 4).map fun i=>if i < sizedP size ∧ a + i < 4294967296 then labL S.pages (a + i) else 0
def cutP (k a e : Nat) (b : qbt) : qbt:=(b.take (min (k + 256) e - k)).drop (max k a - k)
def orL (l : qbt) : UInt8:=l.foldl (· ||| ·) 0
def anyM (S : ShG) (a : Nat) (n : Int) : UInt8:=orL (S.pages.flatMap fun x=>cutP x.1 a (endN a n) x.2.b)
def clrB (k a e : Nat) (b : qbt) : qbt:=b.zipIdx.map fun x=>if a ≤ k + x.2 ∧ k + x.2 < e then 0 else x.1
def clearP (l : List (Nat × Pg)) (a e : Nat) : List (Nat × Pg):=(l.map fun x=>(x.1,(⟨clrB x.1 a e x.2.b,cntB (clrB x.1 a e x.2.b)⟩ : Pg))).filter fun x=>x.2.perm != 0
def clearM (S : ShG) (a : Nat) (n : Int) : ShG:=⟨S.budget,clearP S.pages a (endN a n)⟩
end Go.Proofs.YthjelpbaljapiaaGreat

namespace Go.Proofs.YthjelpbaljapiaaGreat
open Go
structure ShX where
 pb : Nat
 pm : qdp
 blk : Nat → Nat
def shPtr (blk : Nat → Nat) (k : Nat) : Value:=.pointer (some ⟨blk k,0,none⟩)
def pmOf (l : List (Nat × Pg)) (blk : Nat → Nat) : qdp:=l.map fun p=>((p.1 : Int),shPtr blk p.1)
structure ShF (S : ShG) (x : ShX) : Prop where
 ok : ShOk S.pages
 room : S.pages.length ≤ S.budget
 budget : S.budget ≤ 4096
 pages : x.pm.Perm (pmOf S.pages x.blk)
theorem pmOf_nodup {l : List (Nat × Pg)} (h : (l.map (·.1)).Nodup) (blk : Nat → Nat) : ((pmOf l blk).map (·.1)).Nodup:=by
 unfold pmOf
 rw [List.map_map]
 have e : ((fun x=>x.1) ∘ fun p : Nat × Pg=>((p.1 : Int),shPtr blk p.1)) = (fun k : Nat=>(k : Int)) ∘ fun p=>p.1:=rfl
 rw [e,← List.map_map]
 rw [List.Nodup,List.pairwise_map]
 exact h.imp fun h=>by omega
theorem pm_get {l : List (Nat × Pg)} {pm : qdp} {blk : Nat → Nat} (hn : (l.map (·.1)).Nodup) (hp : pm.Perm (pmOf l blk)) (k : Nat) : mget pm (k : Int) = (qbc l k).map fun _=>shPtr blk k:=by
 rw [mget_perm hp (pmOf_nodup hn blk)]
 exact mget_pages (shPtr blk) k
theorem ShF.get {S : ShG} {x : ShX} (f : ShF S x) (k : Nat) : mget x.pm (k : Int) = (qbc S.pages k).map fun _=>shPtr x.blk k:=pm_get f.ok.rising.nodup f.pages k
section
variable {P : Program} {n : Nat} {cx : Cx} {ρ : Hp} {E : Env} {L : Own} {ops : Array Oper} {Q : Exit → Act → World → Prop} {S' : World → Prop} {π : List (Nat × Bool)}
end
def partP (p a e : Nat) : Nat × Nat:=if min (p + 256) e ≤ max p a then (0,0) else (max p a - p,min (p + 256) e - p)
end Go.Proofs.YthjelpbaljapiaaGreat

namespace Go.Proofs.YthjelpbaljapiaaGreat
open Go
theorem rs_len {α : Type} {m : Nat} {c : α → List Value} : ∀ {l : List α},(∀ x ∈ l,(c x).length = m) → (l.flatMap c).length = l.length * m
 | [],_=>by simp
 | x :: l,h=>by
  rw [List.flatMap_cons,List.length_append,h x (List.mem_cons_self ..),rs_len fun y hy=>h y (List.mem_cons_of_mem _ hy),List.length_cons,Nat.succ_mul]
  omega
theorem qfq {α : Type} {m : Nat} {c : α → List Value} : ∀ {l : List α} {k j : Nat} {x : α} {v : Value},(∀ x ∈ l,(c x).length = m) → l[k]? = some x → (c x)[j]? = some v → (l.flatMap c)[k * m + j]? = some v
 | [],_,_,_,_,_,e,_=>by simp at e
 | y :: l,0,j,x,v,h,e,hv=>by
  simp only [List.getElem?_cons_zero,Option.some.injEq] at e
  subst e
  have:=(List.getElem?_eq_some_iff.1 hv).1
  rw [List.flatMap_cons,Nat.zero_mul,Nat.zero_add,List.getElem?_append_left this]
  exact hv
 | y :: l,k + 1,j,x,v,h,e,hv=>by
  have hy:=h y (List.mem_cons_self ..)
  rw [List.flatMap_cons,Nat.succ_mul,List.getElem?_append_right (by omega),hy,show k * m + m + j - m = k * m + j by omega]
  exact qfq (fun z hz=>h z (List.mem_cons_of_mem _ hz)) (by simpa using e) hv
theorem rs_set {α : Type} {m : Nat} {c : α → List Value} : ∀ {l : List α} {k j : Nat} {x x' : α} {v : Value},(∀ x ∈ l,(c x).length = m) → l[k]? = some x → j < m → (c x).set j v = c x' → (l.flatMap c).set (k * m + j) v = (l.set k x').flatMap c
 | [],_,_,_,_,_,_,e,_,_=>by simp at e
 | y :: l,0,j,x,x',v,h,e,hj,hv=>by
  simp only [List.getElem?_cons_zero,Option.some.injEq] at e
  subst e
  rw [List.flatMap_cons,Nat.zero_mul,Nat.zero_add,List.set_append_left _ _ (by rw [h y (List.mem_cons_self ..)]; exact hj),hv]
  rfl
 | y :: l,k + 1,j,x,x',v,h,e,hj,hv=>by
  have hy:=h y (List.mem_cons_self ..)
  rw [List.flatMap_cons,Nat.succ_mul,List.set_append_right _ _ (by omega),hy,show k * m + m + j - m = k * m + j by omega,rs_set (fun z hz=>h z (List.mem_cons_of_mem _ hz)) (by simpa using e) hj hv]
  rfl
def lbC (x : Nat × Pg) : List Value:=.int .u32 (x.1 : Int) :: qbf x.2.b
section
variable {P : Program} {n : Nat} {cx : Cx} {ρ : Hp} {E : Env} {L : Own} {ops : Array Oper} {Q : Exit → Act → World → Prop} {S' : World → Prop} {π : List (Nat × Bool)}
end
def qec (l : List (Nat × Pg)) (k : Nat) : Nat:=l.findIdx fun x=>x.1 == k
theorem qee (x : Nat × Pg) (l : List (Nat × Pg)) (k : Nat) : qec (x :: l) k = if x.1 = k then 0 else qec l k + 1:=by
 unfold qec
 rw [List.findIdx_cons]
 by_cases h : x.1 = k
 ·simp [h]
 ·have : (x.1 == k) = false:=by simpa using h
  rw [this,if_neg h]; rfl
theorem findN_get : ∀ (l : List (Nat × Pg)) (k : Nat),qbc l k = (l[qec l k]?).map (·.2) ∧ (∀ x,l[qec l k]? = some x → x.1 = k) ∧ qec l k ≤ l.length
 | [],k=>by simp [qec,qbc]
 | (j,p) :: l,k=>by
  have ih:=findN_get l k
  rw [qee]
  simp only [qbc]
  by_cases h : j = k
  ·simp [h]
  ·rw [if_neg h,if_neg h,List.getElem?_cons_succ,List.length_cons]
   exact ⟨ih.1,ih.2.1,by omega⟩
theorem findN_step : ∀ (l : List (Nat × Pg)) (k i : Nat),i ≤ qec l k → ∀ x,l[i]? = some x → (x.1 = k ↔ i = qec l k)
 | [],k,i,_,x,h=>by simp at h
 | y :: l,k,0,_,x,h=>by
  simp at h; subst h
  rw [qee]
  by_cases e : y.1 = k
  ·simp [e]
  ·rw [if_neg e]; simp [e]
 | y :: l,k,i + 1,hi,x,h=>by
  rw [qee] at hi ⊢
  by_cases e : y.1 = k
  ·rw [if_pos e] at hi; omega
  ·rw [if_neg e] at hi ⊢
   have:=findN_step l k i (by omega) x (by simpa using h)
   omega
end Go.Proofs.YthjelpbaljapiaaGreat

namespace Go.Proofs.YthjelpbaljapiaaGreat
open Go
theorem splL_run : ∀ (vs cur : List Value) (k : Nat),k + vs.length ≤ cur.length → splL cur k vs = cur.take k ++ vs ++ cur.drop (k + vs.length)
 | [],cur,k,_=>by simp [splL]
 | v :: vs,cur,k,h=>by
  rw [List.length_cons] at h
  rw [splL,splL_run vs (cur.set k v) (k + 1) (by rw [List.length_set]; omega),List.length_cons]
  have h1 : (cur.set k v).take (k + 1) = cur.take k ++ [v]:=by
   rw [List.take_succ_eq_append_getElem (by rw [List.length_set]; omega),List.take_set_of_le (Nat.le_refl k),List.getElem_set_self]
  rw [h1,List.drop_set_of_lt (by omega),show k + 1 + vs.length = k + (vs.length + 1) by omega,List.append_assoc,List.append_assoc,List.append_assoc]
  rfl
theorem fill_one {m : Nat} {cells zs : List Value} (hc : cells.length = m) : fillL (fun i=>some (i * m,m)) (litZ (1 * m) m zs) [(0,.agg cells.toArray)] = some cells:=by
 have hl : (litZ (1 * m) m zs).length = m:=by simp [litZ]
 have e : (Value.agg cells.toArray).cells.toList = cells:=by simp [Value.cells]
 have h1 : Nat.beq m m = true:=by simp
 have h2 : Nat.ble (0 * m + m) m = true:=by simp
 unfold fillL
 dsimp only
 rw [e,hl,hc,h1,h2]
 rw [Bool.and_self,cond_true,splL_run cells _ (0 * m) (by omega),hc]
 unfold fillL
 congr 1
 rw [Nat.zero_mul,List.take_zero,Nat.zero_add,List.drop_of_length_le (by omega),List.nil_append,List.append_nil]
theorem ins_at : ∀ {l : List (Nat × Pg)} {k : Nat} (p : Pg),Rising l → k ∉ l.map (·.1) → qeq k p l = l.take (l.takeWhile fun x=>decide (x.1 < k)).length ++ (k,p) :: l.drop (l.takeWhile fun x=>decide (x.1 < k)).length
 | [],k,p,_,_=>rfl
 | x :: l,k,p,h,hk=>by
  obtain ⟨h1,h2⟩:=List.pairwise_cons.1 h
  simp only [List.map_cons,List.mem_cons,not_or] at hk
  by_cases e : x.1 < k
  ·rw [qeq,if_neg (by omega),List.takeWhile_cons_of_pos (by simpa using e),List.length_cons,List.take_succ_cons,List.drop_succ_cons,ins_at p h2 hk.2]; rfl
  ·rw [qeq,if_pos (by have:=hk.1; omega),List.takeWhile_cons_of_neg (by simpa using e)]; rfl
theorem set_at : ∀ {l : List (Nat × Pg)} {k : Nat} {p q : Pg},(l.map (·.1)).Nodup → l[qec l k]? = some (k,q) → qcb l k p = l.set (qec l k) (k,p)
 | [],k,p,q,_,h=>by simp at h
 | x :: l,k,p,q,hn,h=>by
  rw [List.map_cons,List.nodup_cons] at hn
  rw [qee] at h ⊢
  unfold qcb
  by_cases e : x.1 = k
  ·rw [if_pos e,List.map_cons,if_pos e,List.set_cons_zero]
   congr 1
   have : l.map (fun y=>if y.1 = k then (k,p) else y) = l.map id:=List.map_congr_left fun y hy=>if_neg fun e2=>hn.1 (by rw [e,← e2]; exact List.mem_map.2 ⟨y,hy,rfl⟩)
   rw [this,List.map_id]
  ·rw [if_neg e] at h ⊢
   rw [List.getElem?_cons_succ] at h
   rw [List.map_cons,if_neg e,List.set_cons_succ]
   congr 1
   exact set_at hn.2 h
theorem rem_at : ∀ {l : List (Nat × Pg)} {k : Nat} {q : Pg},(l.map (·.1)).Nodup → l[qec l k]? = some (k,q) → remPg l k = l.take (qec l k) ++ l.drop (qec l k + 1)
 | [],k,q,_,h=>by simp at h
 | x :: l,k,q,hn,h=>by
  rw [List.map_cons,List.nodup_cons] at hn
  rw [qee] at h ⊢
  unfold remPg
  by_cases e : x.1 = k
  ·rw [if_pos e,List.filter_cons_of_neg (by simpa using e),List.filter_eq_self.2]
   ·rfl
   ·intro y hy
    have : y.1 ≠ k:=fun e2=>hn.1 (by rw [e,← e2]; exact List.mem_map.2 ⟨y,hy,rfl⟩)
    simpa using this
  ·rw [if_neg e] at h ⊢
   rw [List.getElem?_cons_succ] at h
   rw [List.filter_cons_of_pos (by simpa using e),List.take_succ_cons,List.drop_succ_cons,List.cons_append]
   congr 1
   exact rem_at hn.2 h
theorem sh_few {l : List (Nat × Pg)} (h : ShOk l) : l.length ≤ 16777216:=by
 have key : ∀ (N : Nat) (l : List Nat),l.Nodup → (∀ x ∈ l,x < N) → l.length ≤ N:=by
  intro N
  induction N with
  | zero=>intro l _ h; cases l with
   | nil=>exact Nat.le_refl _
   | cons x l=>exact absurd (h x (List.mem_cons_self ..)) (by omega)
  | succ N ih =>
   intro l hn h
   have h1:=ih (l.erase N) (hn.erase N) fun x hx=>by
    have:=(hn.mem_erase_iff).1 hx
    have:=h x this.2
    omega
   have h2 : l.length ≤ (l.erase N).length + 1:=by rw [List.length_erase]; split <;> omega
   omega
 have h2 := key 16777216 (l.map fun x => x.1 / 256) (by
  rw [List.Nodup,List.pairwise_map]
  have hr : l.Pairwise fun x y=>x.1 ≠ y.1:=h.rising.imp fun h=>by omega
  refine (List.Pairwise.and_mem.1 hr).imp fun {x y} hxy=>?_
  obtain ⟨hx,hy,hne⟩:=hxy
  have a1:=(h.page x hx).al
  have a2:=(h.page y hy).al
  omega) fun x hx => by
   obtain ⟨y,hy,rfl⟩:=List.mem_map.1 hx
   have:=(h.page y hy).lt
   omega
 simpa using h2
end Go.Proofs.YthjelpbaljapiaaGreat

namespace Go.Proofs.YthjelpbaljapiaaGreat
open Go
def c1 (v : UInt8) : Nat:=if v = 0 then 0 else 1
theorem cntB_set : ∀ {b : qbt} {j : Nat} {v : UInt8} (h : j < b.length),cntB (b.set j v) + c1 b[j] = cntB b + c1 v
 | [],j,v,h=>by simp at h
 | x :: b,0,v,h=>by
  unfold cntB c1
  simp only [List.set_cons_zero,List.countP_cons,List.getElem_cons_zero]
  by_cases h1 : v = 0 <;> by_cases h2 : x = 0 <;> simp [h1,h2] <;> omega
 | x :: b,j + 1,v,h=>by
  have:=cntB_set (b:=b) (j:=j) (v:=v) (by simpa using h)
  unfold cntB at this ⊢
  simp only [List.set_cons_succ,List.countP_cons,List.getElem_cons_succ]
  omega
def cOf (l : List (Nat × Pg)) (y : Nat × Pg) : Int:=(if 0 < y.2.perm then 1 else 0) - (if (qbc l y.1).isSome then 1 else 0)
def moreP (l now : List (Nat × Pg)) : Int:=(now.map (cOf l)).sum
end Go.Proofs.YthjelpbaljapiaaGreat

namespace Go.Proofs.YthjelpbaljapiaaGreat
open Go
structure NowOk (now : List (Nat × Pg)) : Prop where
 nodup : (now.map (·.1)).Nodup
 al : ∀ y ∈ now,y.1 % 256 = 0 ∧ y.1 < 4294967296
 len : ∀ y ∈ now,y.2.b.length = 256
 cnt : ∀ y ∈ now,y.2.perm = cntB y.2.b
def nowB (l now : List (Nat × Pg)) (k : Nat) : qbt:=match qbc now k with
 | some p=>p.b
 | none=>bOf l k
def nowPut (now : List (Nat × Pg)) (k : Nat) (p : Pg) : List (Nat × Pg):=match qbc now k with
 | some _=>qcb now k p
 | none=>now ++ [(k,p)]
def pgB (b : qbt) : Pg:=⟨b,cntB b⟩
def now1 (l now : List (Nat × Pg)) (x : Nat) (v : UInt8) : List (Nat × Pg):=nowPut now (qan x) (pgB ((nowB l now (qan x)).set (x % 256) v))
def nowP (l : List (Nat × Pg)) (a : Nat) (bs : qbt) : Nat → List (Nat × Pg)
 | 0=>[]
 | i + 1=>now1 l (nowP l a bs i) (a + i) (bs.getD i 0)
def labN (l now : List (Nat × Pg)) (x : Nat) : UInt8:=(nowB l now (qan x)).getD (x % 256) 0
def putAll (l now : List (Nat × Pg)) : List (Nat × Pg):=now.foldl (fun l y=>putPg l y.1 y.2.b) l
end Go.Proofs.YthjelpbaljapiaaGreat

namespace Go.Proofs.YthjelpbaljapiaaGreat
open Go
def qfl (l : List (Nat × Pg)) (a : Nat) : Nat:=(l.takeWhile fun x=>decide (x.1 < a)).length
theorem posA_le (l : List (Nat × Pg)) (a : Nat) : qfl l a ≤ l.length:=by
 unfold qfl
 induction l with
 | nil=>simp
 | cons x l ih =>
  rw [List.takeWhile_cons]
  split <;> simp <;> omega
theorem posA_step : ∀ {l : List (Nat × Pg)} {a i : Nat},i ≤ qfl l a → ∀ x,l[i]? = some x → (x.1 < a ↔ i < qfl l a)
 | [],a,i,_,x,h=>by simp at h
 | y :: l,a,i,hi,x,h=>by
  unfold qfl at hi ⊢
  by_cases e : y.1 < a
  ·rw [List.takeWhile_cons_of_pos (by simpa using e)] at hi ⊢
   rw [List.length_cons] at hi ⊢
   cases i with
   | zero=>simp at h; subst h; simp [e]
   | succ i =>
    have:=posA_step (l:=l) (a:=a) (i:=i) (by unfold qfl; omega) x (by simpa using h)
    unfold qfl at this
    omega
  ·rw [List.takeWhile_cons_of_neg (by simpa using e)] at hi ⊢
   simp at hi
   subst hi
   simp at h; subst h; simp; omega
theorem posA_base : ∀ {l : List (Nat × Pg)} {a : Nat},(∀ x ∈ l,x.1 % 256 = 0 ∧ x.1 ≠ qan a) → qfl l a = qfl l (qan a)
 | [],a,_=>rfl
 | x :: l,a,h=>by
  have ih:=posA_base (l:=l) (a:=a) fun y hy=>h y (List.mem_cons_of_mem _ hy)
  have hx:=h x (List.mem_cons_self ..)
  unfold qfl at ih ⊢
  have e : decide (x.1 < a) = decide (x.1 < qan a):=by
   rw [Bool.eq_iff_iff,decide_eq_true_eq,decide_eq_true_eq]
   unfold qan at hx ⊢
   omega
  rw [List.takeWhile_cons,List.takeWhile_cons,e]
  split
  ·rw [List.length_cons,List.length_cons,ih]
  ·rfl
theorem one_none {l : List (Nat × Pg)} {a : Nat} {v : UInt8} (h : qbc l (qan a) = none) : oneP l a v = if v = 0 then l else qeq (qan a) (pgB (zeroB.set (a % 256) v)) l:=by
 have hm : a % 256 < 256:=Nat.mod_lt _ (by decide)
 have hc : cntB (zeroB.set (a % 256) v) = c1 v:=by
  have:=cntB_set (b:=zeroB) (j:=a % 256) (v:=v) (by rw [qet]; exact hm)
  have h0 : zeroB[a % 256]'(by rw [qet]; exact hm) = 0:=by
   have:=zeroB_get (a % 256)
   rw [List.getD_eq_getElem?_getD,List.getElem?_eq_getElem (by rw [qet]; exact hm)] at this
   exact this
  rw [h0,zeroB_cnt] at this
  have e : c1 0 = 0:=rfl
  omega
 unfold oneP putPg bOf
 rw [h]
 dsimp only
 rw [hc]
 unfold c1
 by_cases hv : v = 0
 ·rw [if_pos hv,if_pos rfl,if_pos hv]
 ·rw [if_neg hv,if_neg (by decide),if_neg hv]
  unfold pgB
  rw [hc]; unfold c1; rw [if_neg hv]
theorem one_some {l : List (Nat × Pg)} {a : Nat} {v : UInt8} {p : Pg} (h : qbc l (qan a) = some p) : oneP l a v = if cntB (p.b.set (a % 256) v) = 0 then remPg l (qan a) else qcb l (qan a) (pgB (p.b.set (a % 256) v)):=by
 unfold oneP putPg bOf
 rw [h]; rfl
def zPg : Pg:=⟨zeroB,0⟩
structure OneJ (l : List (Nat × Pg)) (a : Nat) (v : UInt8) (l1 : List (Nat × Pg)) (i : Nat) : Prop where
 many : l1.length ≤ 16777217
 rows : ∀ y ∈ l1,y.2.b.length = 256
 at' : ∃ q,l1[i]? = some (qan a,q) ∧ q.b = bOf l (qan a)
 full : cntB ((bOf l (qan a)).set (a % 256) v) ≠ 0 → l1.set i (qan a,pgB ((bOf l (qan a)).set (a % 256) v)) = oneP l a v
 gone : cntB ((bOf l (qan a)).set (a % 256) v) = 0 → l1.take i ++ l1.drop (i + 1) = oneP l a v
theorem OneJ.some {l : List (Nat × Pg)} (h : ShOk l) {a : Nat} {v : UInt8} {p : Pg} (hg : qbc l (qan a) = some p) : OneJ l a v l (qec l (qan a)):=by
 obtain ⟨g1,g2,g3⟩:=findN_get l (qan a)
 rw [hg] at g1
 obtain ⟨y,hy,hy2⟩:=Option.map_eq_some_iff.1 g1.symm
 have hy1:=g2 y hy
 have hyk : l[qec l (qan a)]? = Option.some (qan a,p):=by rw [hy,← hy1,← hy2]
 have hb : bOf l (qan a) = p.b:=by unfold bOf; rw [hg]
 refine ⟨by have:=sh_few h; omega,fun y hy=>(h.page y hy).len,⟨p,hyk,hb.symm⟩,fun hc=>?_,fun hc=>?_⟩
 ·rw [hb] at hc ⊢
  rw [one_some hg,if_neg hc]
  exact (set_at h.rising.nodup hyk).symm
 ·rw [hb] at hc
  rw [one_some hg,if_pos hc]
  exact (rem_at h.rising.nodup hyk).symm
theorem OneJ.none {l : List (Nat × Pg)} (h : ShOk l) {a : Nat} {v : UInt8} (hg : qbc l (qan a) = none) (hv : v ≠ 0) : OneJ l a v (l.take (qfl l a) ++ (qan a,zPg) :: l.drop (qfl l a)) (qfl l a):=by
 have hm : a % 256 < 256:=Nat.mod_lt _ (by decide)
 have hk:=getPg_none.1 hg
 have hp:=posA_le l a
 have hpa:=posA_base (l:=l) (a:=a) fun x hx=>⟨(h.page x hx).al,fun e=>hk (List.mem_map.2 ⟨x,hx,e⟩)⟩
 have hb : bOf l (qan a) = zeroB:=by unfold bOf; rw [hg]
 have hl : (l.take (qfl l a)).length = qfl l a:=by rw [List.length_take]; omega
 have hone:=one_none (v:=v) hg
 rw [if_neg hv] at hone
 have hcz : cntB (zeroB.set (a % 256) v) ≠ 0:=fun e=>by
  have h0:=cntB_zero.1 e
  have : (zeroB.set (a % 256) v)[a % 256]? = Option.some v:=List.getElem?_set_self (by rw [qet]; exact hm)
  exact hv (h0 v (List.mem_of_getElem? this))
 refine ⟨?_,fun y hy=>?_,⟨zPg,?_,hb.symm⟩,fun hc=>?_,fun hc=>?_⟩
 ·have:=sh_few h
  rw [List.length_append,List.length_cons,hl,List.length_drop]; omega
 ·rcases List.mem_append.1 hy with h1 | h1
  ·exact (h.page y (List.mem_of_mem_take h1)).len
  ·rcases List.mem_cons.1 h1 with rfl | h1
   ·exact qet
   ·exact (h.page y (List.mem_of_mem_drop h1)).len
 ·rw [List.getElem?_append_right (by omega),hl,Nat.sub_self]; rfl
 ·rw [hb,hone,ins_at _ h.rising hk,List.set_append_right _ _ (by omega),hl,Nat.sub_self,List.set_cons_zero]
  rw [hpa]; rfl
 ·rw [hb] at hc; exact absurd hc hcz
end Go.Proofs.YthjelpbaljapiaaGreat

namespace Go.Proofs.YthjelpbaljapiaaGreat
open Go
def qbm (x : Nat × Pg) : List Value:=.int .u32 (x.1 : Int) :: .int .i64 (x.2.perm : Int) :: qbf x.2.b
def qdb (x : Nat × Nat) : List Value:=[.int .u32 (x.1 : Int),.int .u32 (x.2 : Int)]
structure RefX where
 A : Option Addr
 c : Nat
 B : Option Addr
 d : Nat
 g : List (Nat × Nat)
def qgl : List (Nat × Nat) → Nat → Nat
 | [],_=>0
 | (x,n) :: l,k=>if x = k then n else qgl l k
structure GenF (G : Nat → Nat) (g : List (Nat × Nat)) : Prop where
 gens : ∀ k,G k = qgl g k
 once : (g.map (·.1)).Nodup
 rng : ∀ y ∈ g,y.1 % 256 = 0 ∧ y.1 < 4294967296 ∧ y.2 < 4294967296
structure RefF (M : MemG) (x : RefX) : Prop where
 ok : MemOk M
 gen : GenF M.gens x.g
def qfa (B : Int) (A : Option Addr) (k c : Nat) (C : Option Addr) (m d : Nat) : Obj:=.cells #[.int .i64 B,.slice A k c,.slice C m d] 60
def RefO (b : Nat) (M : MemG) : qaz:=Ex fun x : RefX=>Fact (RefF M x) (Sep (Pt b (qfa M.budget x.A M.pages.length x.c x.B x.g.length x.d)) (Sep (OwnS 64 258 x.A M.pages.length x.c (M.pages.flatMap qbm)) (OwnS 133 2 x.B x.g.length x.d (x.g.flatMap qdb))))
theorem qda {x : Nat × Pg} (h : x.2.b.length = 256) : (qbm x).length = 258:=by simp [qbm,qbf,h]
theorem refPg_base (x : Nat × Pg) : (qbm x)[0]? = some (.int .u32 (x.1 : Int)):=rfl
theorem refPg_perm (x : Nat × Pg) : (qbm x)[1]? = some (.int .i64 (x.2.perm : Int)):=rfl
theorem refPg_byte {x : Nat × Pg} (h : x.2.b.length = 256) {j : Nat} (hj : j < 256) : (qbm x)[2 + j]? = some (.int .u8 ((x.2.b.getD j 0).toNat : Int)):=by
 rw [qbm,show 2 + j = (j + 1) + 1 by omega,List.getElem?_cons_succ,List.getElem?_cons_succ,qbf,List.getElem?_map,List.getD_eq_getElem?_getD,List.getElem?_eq_getElem (by omega)]
 rfl
theorem RefF.rows {M : MemG} {x : RefX} (f : RefF M x) : ∀ y ∈ M.pages,(qbm y).length = 258:=fun y hy=>qda (f.ok.page y hy).len
theorem gRows (g : List (Nat × Nat)) : ∀ y ∈ g,(qdb y).length = 2:=fun _ _=>rfl
theorem GenF.few {G : Nat → Nat} {g : List (Nat × Nat)} (f : GenF G g) : g.length ≤ 16777216:=by
 have key : ∀ (N : Nat) (l : List Nat),l.Nodup → (∀ x ∈ l,x < N) → l.length ≤ N:=by
  intro N
  induction N with
  | zero=>intro l _ h; cases l with
   | nil=>exact Nat.le_refl _
   | cons x l=>exact absurd (h x (List.mem_cons_self ..)) (by omega)
  | succ N ih =>
   intro l hn h
   have h1:=ih (l.erase N) (hn.erase N) fun x hx=>by
    have:=(hn.mem_erase_iff).1 hx
    have:=h x this.2
    omega
   have h2 : l.length ≤ (l.erase N).length + 1:=by rw [List.length_erase]; split <;> omega
   omega
 have h := key 16777216 (g.map fun y => y.1 / 256) (by
  have h1:=f.once
  rw [List.Nodup,List.pairwise_map] at h1 ⊢
  refine (List.Pairwise.and_mem.1 h1).imp fun {a b} h=>?_
  have h2:=f.rng a h.1
  have h3:=f.rng b h.2.1
  have h4:=h.2.2
  omega) fun k hk => by
   obtain ⟨y,hy,rfl⟩:=List.mem_map.1 hk
   have:=f.rng y hy
   omega
 simpa using h
section
variable {P : Program} {n : Nat} {cx : Cx} {ρ : Hp} {E : Env} {L : Own} {ops : Array Oper} {Q : Exit → Act → World → Prop} {S' : World → Prop} {π : List (Nat × Bool)}
theorem St.refOpen {w : World} (hs : St cx ρ L w) {b : Nat} {M : MemG} (j j1 j2 : Nat) (hd : [j,j1,j2].Nodup) (e : look L j = some (RefO b M)) :
  ∃ x,RefF M x ∧ St cx ρ ((j,Pt b (qfa M.budget x.A M.pages.length x.c x.B x.g.length x.d)) :: (j1,OwnS 64 258 x.A M.pages.length x.c (M.pages.flatMap qbm)) :: (j2,OwnS 133 2 x.B x.g.length x.d (x.g.flatMap qdb)) :: L) w:=by
 obtain ⟨x,h1⟩:=hs.ex' e
 obtain ⟨hf,h2⟩:=h1.fact (j:=j) (by rw [qah,if_pos rfl])
 simp only [List.nodup_cons,List.mem_cons,not_or,List.not_mem_nil,not_false_eq_true,List.nodup_nil,and_true] at hd
 obtain ⟨⟨d1,d2⟩,d4⟩:=hd
 have h3:=h2.part (j:=j) (k:=j1) d1 (by rw [qah,if_pos rfl])
 have h4:=h3.part (j:=j1) (k:=j2) d4 (by rw [qah,if_neg d1,qah,if_pos rfl])
 refine ⟨x,hf,h4.subF fun q C hq=>?_⟩
 simp only [qah] at hq ⊢
 by_cases q0 : j = q <;> by_cases q1 : j1 = q <;> by_cases q2 : j2 = q <;> simp only [q0,q1,q2,if_true,if_false] at hq ⊢ <;> first | exact hq | (exfalso; omega)
theorem St.refClose {w : World} (hs : St cx ρ L w) {b : Nat} {M : MemG} {A : Option Addr} {c : Nat} {B : Option Addr} {d : Nat} {g : List (Nat × Nat)} (j j1 j2 : Nat) (hd : [j,j1,j2].Nodup) (hf : RefF M ⟨A,c,B,d,g⟩) (e : look L j = some (Pt b (qfa M.budget A M.pages.length c B g.length d))) (e1 : look L j1 = some (OwnS 64 258 A M.pages.length c (M.pages.flatMap qbm))) (e2 : look L j2 = some (OwnS 133 2 B g.length d (g.flatMap qdb))) :
  St cx ρ ((j,RefO b M) :: (j1,Emp) :: (j2,Emp) :: L) w:=by
 simp only [List.nodup_cons,List.mem_cons,not_or,List.not_mem_nil,not_false_eq_true,List.nodup_nil,and_true] at hd
 obtain ⟨⟨d1,d2⟩,d4⟩:=hd
 have h4:=hs.glue (j:=j1) (k:=j2) d4 e1 e2
 have h5:=h4.glue (j:=j) (k:=j1) d1 (by rw [qah,if_neg (Ne.symm d1),qah,if_neg (Ne.symm d2)]; exact e) (by rw [qah,if_pos rfl])
 have h6:=h5.imp (i:=j) (A':=RefO b M) (by rw [qah,if_pos rfl]) fun k hk=>⟨⟨A,c,B,d,g⟩,hf,hk⟩
 refine h6.subF fun q C hq=>?_
 simp only [qah] at hq ⊢
 by_cases q0 : j = q <;> by_cases q1 : j1 = q <;> by_cases q2 : j2 = q <;> simp only [q0,q1,q2,if_true,if_false] at hq ⊢ <;> first | exact hq | (exfalso; omega)
theorem Cd.refOpen {d : Code} {b : Nat} {M : MemG} (j j1 j2 : Nat) (hd : [j,j1,j2].Nodup) (e : look L j = some (RefO b M))
  (h : ∀ A c B d' g,RefF M ⟨A,c,B,d',g⟩ → Cd P Q n cx ρ E ((j,Pt b (qfa M.budget A M.pages.length c B g.length d')) :: (j1,OwnS 64 258 A M.pages.length c (M.pages.flatMap qbm)) :: (j2,OwnS 133 2 B g.length d' (g.flatMap qdb)) :: L) d) : Cd P Q n cx ρ E L d:=fun a w ha hs =>
 let ⟨x,hf,h2⟩:=hs.refOpen j j1 j2 hd e; h x.A x.c x.B x.d x.g hf a w ha h2
theorem Jp.refOpen {b : Nat} {M : MemG} (j j1 j2 : Nat) (hd : [j,j1,j2].Nodup) (e : look L j = some (RefO b M))
  (h : ∀ A c B d' g,RefF M ⟨A,c,B,d',g⟩ → Jp P ops Q S' n cx π ρ E ((j,Pt b (qfa M.budget A M.pages.length c B g.length d')) :: (j1,OwnS 64 258 A M.pages.length c (M.pages.flatMap qbm)) :: (j2,OwnS 133 2 B g.length d' (g.flatMap qdb)) :: L)) : Jp P ops Q S' n cx π ρ E L:=fun a w ha hs =>
 let ⟨x,hf,h2⟩:=hs.refOpen j j1 j2 hd e; h x.A x.c x.B x.d x.g hf a w ha h2
theorem Cd.refClose {d : Code} {b : Nat} {M : MemG} {A : Option Addr} {c : Nat} {B : Option Addr} {d' : Nat} {g : List (Nat × Nat)} (j j1 j2 : Nat) (hd : [j,j1,j2].Nodup) (hf : RefF M ⟨A,c,B,d',g⟩) (e : look L j = some (Pt b (qfa M.budget A M.pages.length c B g.length d'))) (e1 : look L j1 = some (OwnS 64 258 A M.pages.length c (M.pages.flatMap qbm))) (e2 : look L j2 = some (OwnS 133 2 B g.length d' (g.flatMap qdb)))
  (h : Cd P Q n cx ρ E ((j,RefO b M) :: (j1,Emp) :: (j2,Emp) :: L) d) : Cd P Q n cx ρ E L d:=fun a w ha hs=>h a w ha (hs.refClose j j1 j2 hd hf e e1 e2)
theorem Jp.refClose {b : Nat} {M : MemG} {A : Option Addr} {c : Nat} {B : Option Addr} {d' : Nat} {g : List (Nat × Nat)} (j j1 j2 : Nat) (hd : [j,j1,j2].Nodup) (hf : RefF M ⟨A,c,B,d',g⟩) (e : look L j = some (Pt b (qfa M.budget A M.pages.length c B g.length d'))) (e1 : look L j1 = some (OwnS 64 258 A M.pages.length c (M.pages.flatMap qbm))) (e2 : look L j2 = some (OwnS 133 2 B g.length d' (g.flatMap qdb)))
  (h : Jp P ops Q S' n cx π ρ E ((j,RefO b M) :: (j1,Emp) :: (j2,Emp) :: L)) : Jp P ops Q S' n cx π ρ E L:=fun a w ha hs=>h a w ha (hs.refClose j j1 j2 hd hf e e1 e2)
end
theorem RefO.ok {b : Nat} {M : MemG} : ∀ h,RefO b M h → MemOk M:=fun h ⟨x,hf,_⟩=>hf.ok
theorem pos_get : ∀ {l : List (Nat × Pg)},Rising l → ∀ k,qbc l k = (l[qfl l k]?).bind fun x=>if x.1 = k then some x.2 else none
 | [],_,k=>rfl
 | y :: l,h,k=>by
  obtain ⟨y,p⟩:=y
  obtain ⟨h1,h2⟩:=List.pairwise_cons.1 h
  have ih:=pos_get h2 k
  unfold qfl at ih ⊢
  by_cases hy : y < k
  ·rw [List.takeWhile_cons_of_pos (by simpa using hy),qbc,if_neg (by omega),ih,List.length_cons,List.getElem?_cons_succ]
  ·rw [List.takeWhile_cons_of_neg (by simpa using hy),qbc]
   simp only [List.length_nil,List.getElem?_cons_zero,Option.bind_some]
   by_cases e : y = k
   ·simp [e]
   ·rw [if_neg e,if_neg e]
    refine getPg_none.2 fun hm=>?_
    obtain ⟨x,hx,e2⟩:=List.mem_map.1 hm
    have:=h1 x hx
    have : y < x.1:=this
    omega
theorem qfk {l : List (Nat × Pg)} (h : Rising l) {k : Nat} {p : Pg} (hg : qbc l k = some p) : l[qfl l k]? = some (k,p):=by
 have:=pos_get h k
 rw [hg] at this
 cases hx : l[qfl l k]? with
 | none=>rw [hx] at this; cases this
 | some x =>
  rw [hx] at this
  simp only [Option.bind_some] at this
  split at this
  ·rename_i e
   injection this with this
   obtain ⟨x1,x2⟩:=x
   dsimp only at e this
   rw [e,this]
  ·cases this
theorem pos_set {l : List (Nat × Pg)} (h : Rising l) {k : Nat} {p q : Pg} (hg : qbc l k = some q) : qcb l k p = l.set (qfl l k) (k,p):=by
 have h1:=qfk h hg
 have h2:=findN_get l k
 have h3 : qec l k = qfl l k:=by
  have h4:=findN_step l k (qfl l k)
  rcases Nat.lt_trichotomy (qec l k) (qfl l k) with hlt | he | hgt
  ·exfalso
   have hfl : qec l k < l.length:=by have:=(List.getElem?_eq_some_iff.1 h1).1; omega
   have h5:=h2.2.1 l[qec l k] (List.getElem?_eq_getElem hfl)
   have h6:=List.pairwise_iff_getElem.1 h (qec l k) (qfl l k) hfl (List.getElem?_eq_some_iff.1 h1).1 hlt
   have h7:=(List.getElem?_eq_some_iff.1 h1).2
   rw [h7] at h6
   dsimp only at h6
   omega
  ·exact he
  ·have:=(h4 (by omega) _ h1).1 rfl; omega
 rw [← h3] at h1 ⊢
 exact set_at h.nodup h1
end Go.Proofs.YthjelpbaljapiaaGreat

namespace Go.Proofs.YthjelpbaljapiaaGreat
open _root_.Go.Proofs.Tryz
open Go
theorem HasC.two {A : qaz} {ad : Addr} {k j : Nat} {v : Value} (h : HasC A (ad.add (k + j)) v) : HasC A ((ad.add k).add j) v:=by
 have : (ad.add k).add j = ad.add (k + j):=by cases ad; unfold Addr.add; by_cases hk : k = 0 <;> by_cases hj : j = 0 <;> simp [hk,hj,Nat.add_assoc]
 rw [this]; exact h
theorem refAt_spec (b : Nat) (M : MemG) (a : Nat) (ha : a < 4294967296) : Spec Tryz.prog 76 #[.pointer (some ⟨b,0,none⟩),.int .u32 a] (fun _=>True) [(0,RefO b M)]
  (fun ρ ρ' v L=>ρ' = ρ ∧ v = .tuple #[.int .i64 (qfl M.pages (qan a) : Int),.bool (qbc M.pages (qan a)).isSome] ∧ L = [(0,RefO b M)]):=by
 refine Spec.of 53 Tryz.func76 rfl Tryz.ntmps76 [(0,_),(1,_)] rfl rfl ?_
 intro cx ρ hr h0
 refine Cd.refOpen 0 1 2 (by decide) rfl fun A c B d gl hf=>?_
 have hroom:=hf.ok.room
 have hbud:=hf.ok.budget.2
 have hrows:=hf.rows
 obtain ⟨k,hk⟩ : ∃ k,qan a = k:=⟨_,rfl⟩
 have hkl:=base_le a
 rw [hk] at hkl ⊢
 have hget:=pos_get hf.ok.rising k
 obtain ⟨p,hp⟩ : ∃ p,qfl M.pages k = p:=⟨_,rfl⟩
 have hpl:=posA_le M.pages k
 have hstep:=fun i (hi : i ≤ qfl M.pages k)=>posA_step (l:=M.pages) (a:=k) (i:=i) hi
 have hlt : ∀ y ∈ M.pages,y.1 < 4294967296:=fun y hy=>(hf.ok.page y hy).lt
 rw [hp] at hpl hstep hget ⊢
 refine Cd.seq fun K1 hK1=>?_
 refine Cd.qac [(0,false),(1,false)] rfl rfl ?_
 refine Jp.y 4 rfl (qaa rfl) rfl rfl Kp.true (Y.assign rfl rfl) ?_
 refine Jp.y 5 rfl (qaa rfl) rfl rfl Kp.true (Y.assign rfl rfl) ?_
 refine Jp.qae hK1 ?_
 refine Cd.seq fun K2 hK2=>?_
 refine Cd.qac [(0,false),(1,false),(2,false),(3,false),(4,false)] rfl rfl ?_
 refine Jp.y 8 rfl (qaa rfl) rfl rfl Kp.true (Y.move rfl rfl) ?_
 refine Jp.y 9 rfl (qaa rfl) rfl rfl Kp.true (Y.move rfl rfl) ?_
 refine Jp.y 10 rfl (qaa rfl) rfl rfl Kp.true (by exact Y.remN rfl rfl rfl (by omega) (by omega)) ?_
 refine Jp.y 11 rfl (qaa rfl) rfl rfl Kp.true (Y.qdo rfl rfl rfl (by exact qax (by omega) (by omega))) ?_
 refine Jp.y 6 rfl (qaa rfl) rfl rfl Kp.true (Y.assign rfl rfl) ?_
 refine Jp.qae hK2 ?_
 refine Cd.seq fun K3 hK3=>?_
 refine Cd.qac [(0,false)] rfl rfl ?_
 refine Jp.y 7 rfl (qaa rfl) rfl rfl Kp.true (Y.assign rfl rfl) ?_
 refine Jp.qae hK3 ?_
 refine Cd.seq fun K4 hK4=>?_
 refine Cd.block ?_
 refine Cd.slot 6 rfl (show _ = Value.int .u32 (k : Int) from congrArg (Value.int .u32) (by rw [← hk]; unfold qan; omega)) ?_
 refine Cd.joinG (G:=Unit) (fun _=>True) (fun _=>[(7,.int .i64 (p : Int))]) [(0,_),(6,_)] ⟨rfl,rfl,trivial⟩ (fun _=>[]) [(0,_),(1,_),(2,_)] ⟨rfl,rfl,rfl,trivial⟩ hK4 (fun g hφ=>?_) (fun hj1=>?_)
 ·clear hφ
  refine Cd.seq fun K5 hK5=>?_
  refine Cd.drawn [(0,_),(1,_),(2,_)] ⟨rfl,rfl,rfl,trivial⟩ [(0,true),(1,true),(2,true),(3,true),(4,true),(5,true),(6,true),(7,true),(8,true),(9,true),(10,true),(11,true),(12,true),(13,true),(14,true),(15,true),(16,true),(17,true),(18,true),(19,true),(20,true),(21,true)] follows (by kernel_rfl) (fun hrl=>?_)
  refine Jp.q 33 rfl (qaa rfl) rfl rfl (Y.move rfl rfl) ?_
  refine Jp.q 34 rfl (qaa rfl) rfl rfl (Y.move rfl rfl) ?_
  refine Jp.q 35 rfl (qaa rfl) rfl rfl (Y.move rfl rfl) ?_
  refine Jp.q 36 rfl (qaa rfl) rfl rfl (Y.qau rfl rfl) ?_
  refine Jp.q 37 rfl (qaa rfl) rfl rfl (by exact Y.qad rfl rfl underlying60 rfl sizeOf57 (by decide) (show _ + 1 = _ from rfl)) ?_
  refine Jp.q 38 rfl (qaa rfl) rfl rfl (Y.qaq 0 rfl isAgg57 rfl rfl rfl) ?_
  refine Jp.q 39 rfl (qaa rfl) rfl rfl (Y.qcd rfl underlying57 rfl) ?_
  refine Jp.q 40 rfl (qaa rfl) rfl rfl (Y.lss rfl rfl rfl) ?_
  by_cases hin : p < M.pages.length
  ·have hx : M.pages[p]? = some M.pages[p]:=List.getElem?_eq_getElem hin
   obtain ⟨y,hy⟩ : ∃ y,y = M.pages[p]:=⟨_,rfl⟩
   rw [← hy] at hx
   rw [hx] at hget
   have hyl:=hlt y (List.mem_of_getElem? hx)
   refine Jp.ownAt 1 rfl (show 0 < M.pages.length by omega) ?_
   rintro b1 rfl
   have c0:=OwnS.hasC (e:=64) (m:=258) (k:=M.pages.length) (c:=c) (ad:=⟨b1,0,none⟩) (qfq hrows hx (refPg_base y))
   refine Jp.slot 40 rfl (show _ = Value.bool true from congrArg Value.bool (decide_eq_true (by omega))) ?_
   refine Jp.q 41 rfl (qaa rfl) rfl rfl (Y.move rfl rfl) ?_
   refine Jp.slot 41 rfl (show _ = Value.bool true from rfl) ?_
   refine Jp.q 42 rfl (qab rfl rfl rfl rfl) rfl rfl (Y.move rfl rfl) ?_
   refine Jp.q 43 rfl (qab rfl rfl rfl rfl) rfl rfl (Y.qau rfl rfl) ?_
   refine Jp.q 44 rfl (qab rfl rfl rfl rfl) rfl rfl (by exact Y.qad rfl rfl underlying60 rfl sizeOf57 (by decide) (show _ + 1 = _ from rfl)) ?_
   refine Jp.q 45 rfl (qab rfl rfl rfl rfl) rfl rfl (by exact Y.qaq 0 rfl isAgg57 rfl rfl rfl) ?_
   refine Jp.q 46 rfl (qab rfl rfl rfl rfl) rfl rfl (Y.move rfl rfl) ?_
   refine Jp.q 47 rfl (qab rfl rfl rfl rfl) rfl rfl (Y.qar (q:=p * 258) rfl rfl rfl underlying57 sizeOf64 (by omega) (by omega) (by omega)) ?_
   refine Jp.q 48 rfl (qab rfl rfl rfl rfl) rfl rfl (by exact Y.qdn rfl rfl underlying64 rfl sizeOf24 (by decide)) ?_
   refine Jp.q 49 rfl (qab rfl rfl rfl rfl) rfl rfl (by exact Y.qbs 1 rfl isAgg24 rfl rfl c0) ?_
   refine Jp.q 50 rfl (qab rfl rfl rfl rfl) rfl rfl (Y.move rfl rfl) ?_
   refine Jp.q 51 rfl (qab rfl rfl rfl rfl) rfl rfl (Y.eql rfl rfl rfl) ?_
   refine Jp.q 52 rfl (qaa rfl) rfl rfl (Y.qat rfl rfl rfl) ?_
   refine Jp.q 4 rfl (qaa rfl) rfl rfl (Y.assign rfl rfl) ?_
   refine Jp.q 5 rfl (qaa rfl) rfl rfl (Y.assign rfl rfl) ?_
   refine Jp.qae hK5 ?_
   refine Cd.refClose (b:=b) (M:=M) 0 1 2 (by decide) hf rfl rfl rfl ?_
   refine Cd.ret [(0,_)] rfl (qbd rfl rfl rfl) ⟨rfl,trivial⟩ ⟨rfl,by rw [hget]; by_cases e : y.1 = k <;> simp [e] <;> omega,rfl⟩
  ·rw [List.getElem?_eq_none (by omega)] at hget
   refine Jp.slot 40 rfl (show _ = Value.bool false from congrArg Value.bool (decide_eq_false (by omega))) ?_
   refine Jp.q 41 rfl (qaa rfl) rfl rfl (Y.move rfl rfl) ?_
   refine Jp.slot 41 rfl (show _ = Value.bool false from rfl) ?_
   refine Jp.qdt 42 rfl (qab rfl rfl rfl rfl) rfl rfl ?_
   refine Jp.qdt 43 rfl (qab rfl rfl rfl rfl) rfl rfl ?_
   refine Jp.qdt 44 rfl (qab rfl rfl rfl rfl) rfl rfl ?_
   refine Jp.qdt 45 rfl (qab rfl rfl rfl rfl) rfl rfl ?_
   refine Jp.qdt 46 rfl (qab rfl rfl rfl rfl) rfl rfl ?_
   refine Jp.qdt 47 rfl (qab rfl rfl rfl rfl) rfl rfl ?_
   refine Jp.qdt 48 rfl (qab rfl rfl rfl rfl) rfl rfl ?_
   refine Jp.qdt 49 rfl (qab rfl rfl rfl rfl) rfl rfl ?_
   refine Jp.qdt 50 rfl (qab rfl rfl rfl rfl) rfl rfl ?_
   refine Jp.qdt 51 rfl (qab rfl rfl rfl rfl) rfl rfl ?_
   refine Jp.q 52 rfl (qaa rfl) rfl rfl (Y.qao rfl rfl rfl) ?_
   refine Jp.q 4 rfl (qaa rfl) rfl rfl (Y.assign rfl rfl) ?_
   refine Jp.q 5 rfl (qaa rfl) rfl rfl (Y.assign rfl rfl) ?_
   refine Jp.qae hK5 ?_
   refine Cd.refClose (b:=b) (M:=M) 0 1 2 (by decide) hf rfl rfl rfl ?_
   refine Cd.ret [(0,_)] rfl (qbd rfl rfl rfl) ⟨rfl,trivial⟩ ⟨rfl,by rw [hget]; rfl,rfl⟩
 ·skip
  refine Cd.qdw (G:=Nat) (fun i=>i ≤ p) (fun i=>p - i) (fun _=>_) (fun i=>[(7,.int .i64 (i : Int))]) [(0,_),(6,_)] (fun i=>[]) [(0,_),(1,_),(2,_)] 0 (Nat.zero_le _) rfl ⟨rfl,trivial⟩ ⟨rfl,rfl,trivial⟩ trivial ⟨rfl,rfl,rfl,trivial⟩ (fun g KLa hok hLa=>?_)
  obtain ⟨i,hi⟩ : ∃ i,i = g:=⟨_,rfl⟩
  rw [← hi] at hok ⊢
  have hst:=hstep i hok
  refine Cd.seq fun K7 hK7=>?_
  refine Cd.seq fun K8 hK8=>?_
  refine Cd.qac [(0,false),(1,false),(2,false),(3,false),(4,false),(5,false),(6,false),(7,false),(8,false),(9,false),(10,false),(11,false),(12,false),(13,false),(14,false),(15,false),(16,false),(17,false),(18,false)] rfl rfl ?_
  refine Jp.y 12 rfl (qaa rfl) rfl rfl Kp.true (Y.move rfl rfl) ?_
  refine Jp.y 13 rfl (qaa rfl) rfl rfl Kp.true (Y.move rfl rfl) ?_
  refine Jp.y 14 rfl (qaa rfl) rfl rfl Kp.true (Y.qau rfl rfl) ?_
  refine Jp.y 15 rfl (qaa rfl) rfl rfl Kp.true (by exact Y.qad rfl rfl underlying60 rfl sizeOf57 (by decide) (show _ + 1 = _ from rfl)) ?_
  refine Jp.y 16 rfl (qaa rfl) rfl rfl Kp.true (by exact Y.qaq 0 rfl isAgg57 rfl rfl rfl) ?_
  refine Jp.y 17 rfl (qaa rfl) rfl rfl Kp.true (Y.qcd rfl underlying57 rfl) ?_
  refine Jp.y 18 rfl (qaa rfl) rfl rfl Kp.true (Y.lss rfl rfl rfl) ?_
  by_cases hil : i < M.pages.length
  ·have hx : M.pages[i]? = some M.pages[i]:=List.getElem?_eq_getElem hil
   obtain ⟨y,hy⟩ : ∃ y,y = M.pages[i]:=⟨_,rfl⟩
   rw [← hy] at hx
   have hst:=hst y hx
   have hyl:=hlt y (List.mem_of_getElem? hx)
   refine Jp.ownAt 1 rfl (show 0 < M.pages.length by omega) ?_
   rintro b1 rfl
   have c0:=OwnS.hasC (e:=64) (m:=258) (k:=M.pages.length) (c:=c) (ad:=⟨b1,0,none⟩) (qfq hrows hx (refPg_base y))
   refine Jp.slot 18 rfl (show _ = Value.bool true from congrArg Value.bool (decide_eq_true (by omega))) ?_
   refine Jp.y 19 rfl (qaa rfl) rfl rfl Kp.true (Y.move rfl rfl) ?_
   refine Jp.slot 19 rfl (show _ = Value.bool true from rfl) ?_
   refine Jp.y 20 rfl (qab rfl rfl rfl rfl) rfl rfl Kp.true (Y.move rfl rfl) ?_
   refine Jp.y 21 rfl (qab rfl rfl rfl rfl) rfl rfl Kp.true (Y.qau rfl rfl) ?_
   refine Jp.y 22 rfl (qab rfl rfl rfl rfl) rfl rfl Kp.true (by exact Y.qad rfl rfl underlying60 rfl sizeOf57 (by decide) (show _ + 1 = _ from rfl)) ?_
   refine Jp.y 23 rfl (qab rfl rfl rfl rfl) rfl rfl Kp.true (by exact Y.qaq 0 rfl isAgg57 rfl rfl rfl) ?_
   refine Jp.y 24 rfl (qab rfl rfl rfl rfl) rfl rfl Kp.true (Y.move rfl rfl) ?_
   refine Jp.y 25 rfl (qab rfl rfl rfl rfl) rfl rfl Kp.true (Y.qar (q:=i * 258) rfl rfl rfl underlying57 sizeOf64 (by omega) (by omega) (by omega)) ?_
   refine Jp.y 26 rfl (qab rfl rfl rfl rfl) rfl rfl Kp.true (by exact Y.qdn rfl rfl underlying64 rfl sizeOf24 (by decide)) ?_
   refine Jp.y 27 rfl (qab rfl rfl rfl rfl) rfl rfl Kp.true (by exact Y.qbs 1 rfl isAgg24 rfl rfl c0) ?_
   refine Jp.y 28 rfl (qab rfl rfl rfl rfl) rfl rfl Kp.true (Y.move rfl rfl) ?_
   refine Jp.y 29 rfl (qab rfl rfl rfl rfl) rfl rfl Kp.true (Y.lss rfl rfl rfl) ?_
   refine Jp.y 30 rfl (qaa rfl) rfl rfl Kp.true (Y.qat rfl rfl rfl) ?_
   refine Jp.qae hK8 ?_
   refine Cd.qal rfl (fun gl=>?_) (fun gl=>?_)
   ·have hlp : i < p:=hst.1 (by simp at gl; omega)
    refine Cd.qbi hK7 ?_
    refine Cd.block ?_
    refine Cd.qac [(0,false),(1,false),(2,false)] rfl rfl ?_
    refine Jp.y 31 rfl (qaa rfl) rfl rfl Kp.true (Y.move rfl rfl) ?_
    refine Jp.y 32 rfl (qaa rfl) rfl rfl Kp.true (Y.qbx rfl rfl rfl (by exact qag (by omega) (by omega))) ?_
    refine Jp.y 7 rfl (qaa rfl) rfl rfl Kp.true (Y.assign rfl rfl) ?_
    rw [show (i : Int) + 1 = ((i + 1 : Nat) : Int) by omega]
    refine JpQ.again rfl hLa (i + 1) (by omega) (by omega) rfl ⟨rfl,rfl,rfl,trivial⟩ ⟨rfl,rfl,rfl,trivial⟩
   ·have hip : i = p:=by
     have : ¬ y.1 < k:=by simp at gl; omega
     omega
    rw [hip]
    refine Cd.exit rfl hK4 ?_
    exact Cd.qdz (hj1 () trivial) ⟨rfl,rfl,rfl,trivial⟩ ⟨rfl,rfl,rfl,trivial⟩
  ·have hip : i = p:=by omega
   refine Jp.slot 18 rfl (show _ = Value.bool false from congrArg Value.bool (decide_eq_false (by omega))) ?_
   refine Jp.y 19 rfl (qaa rfl) rfl rfl Kp.true (Y.move rfl rfl) ?_
   refine Jp.slot 19 rfl (show _ = Value.bool false from rfl) ?_
   rw [hip]
   refine Jp.qak 20 rfl (qab rfl rfl rfl rfl) rfl rfl Kp.true ?_
   refine Jp.qak 21 rfl (qab rfl rfl rfl rfl) rfl rfl Kp.true ?_
   refine Jp.qak 22 rfl (qab rfl rfl rfl rfl) rfl rfl Kp.true ?_
   refine Jp.qak 23 rfl (qab rfl rfl rfl rfl) rfl rfl Kp.true ?_
   refine Jp.qak 24 rfl (qab rfl rfl rfl rfl) rfl rfl Kp.true ?_
   refine Jp.qak 25 rfl (qab rfl rfl rfl rfl) rfl rfl Kp.true ?_
   refine Jp.qak 26 rfl (qab rfl rfl rfl rfl) rfl rfl Kp.true ?_
   refine Jp.qak 27 rfl (qab rfl rfl rfl rfl) rfl rfl Kp.true ?_
   refine Jp.qak 28 rfl (qab rfl rfl rfl rfl) rfl rfl Kp.true ?_
   refine Jp.qak 29 rfl (qab rfl rfl rfl rfl) rfl rfl Kp.true ?_
   refine Jp.y 30 rfl (qaa rfl) rfl rfl Kp.true (Y.qao rfl rfl rfl) ?_
   refine Jp.qae hK8 ?_
   refine Cd.qbg rfl ?_
   refine Cd.exit rfl hK4 ?_
   exact Cd.qdz (hj1 () trivial) ⟨rfl,rfl,rfl,trivial⟩ ⟨rfl,rfl,rfl,trivial⟩
theorem gFind_step : ∀ (l : List (Nat × Nat)) (k i : Nat),i ≤ (l.findIdx fun x=>x.1 == k) → ∀ x,l[i]? = some x → (x.1 = k ↔ i = l.findIdx fun x=>x.1 == k)
 | [],k,i,_,x,h=>by simp at h
 | y :: l,k,0,_,x,h=>by
  simp at h; subst h
  rw [List.findIdx_cons]
  by_cases e : y.1 = k
  ·simp [e]
  ·have : (y.1 == k) = false:=by simpa using e
   rw [this]; simp [e]
 | y :: l,k,i + 1,hi,x,h=>by
  rw [List.findIdx_cons] at hi ⊢
  by_cases e : y.1 = k
  ·simp [e] at hi
  ·have e2 : (y.1 == k) = false:=by simpa using e
   rw [e2] at hi ⊢
   simp only [cond_false] at hi ⊢
   have:=gFind_step l k i (by omega) x (by simpa using h)
   omega
theorem refGen_base (x : Nat × Nat) : (qdb x)[0]? = some (.int .u32 (x.1 : Int)):=rfl
theorem refGen_n (x : Nat × Nat) : (qdb x)[1]? = some (.int .u32 (x.2 : Int)):=rfl
def stretchI (a n : Nat) : Int:=match qeb a n with
 | none=>-1
 | some p=>p
end Go.Proofs.YthjelpbaljapiaaGreat

namespace Go.Proofs.YthjelpbaljapiaaGreat
open _root_.Go.Proofs.Tryz
open Go
section
variable {P : Program} {n : Nat} {cx : Cx} {ρ ρs : Hp} {E : Env} {L : Own} {ops : Array Oper} {Q : Exit → Act → World → Prop} {S' : World → Prop} {π : List (Nat × Bool)}
theorem Cd.down {d : Code} (hle : Hp.le ρs ρ) (h0 : Hp.le cx.r0 ρs) (h : Cd P Q n cx ρs E L d) : Cd P Q n cx ρ E L d:=fun a w ha hs=>h a w ha (hs.down hle h0)
theorem Jp.down (hle : Hp.le ρs ρ) (h0 : Hp.le cx.r0 ρs) (h : Jp P ops Q S' n cx π ρs E L) : Jp P ops Q S' n cx π ρ E L:=fun a w ha hs=>h a w ha (hs.down hle h0)
end
theorem gLook_set : ∀ {g : List (Nat × Nat)} {f k n n' : Nat},(g.map (·.1)).Nodup → g[f]? = some (k,n) → ∀ x,qgl (g.set f (k,n')) x = if x = k then n' else qgl g x
 | [],_,_,_,_,_,h,_=>by simp at h
 | y :: l,0,k,n,n',hn,h,x=>by
  simp only [List.getElem?_cons_zero,Option.some.injEq] at h
  subst h
  rw [List.set_cons_zero,qgl,qgl]
  by_cases e : k = x
  ·simp [e]
  ·rw [if_neg e,if_neg e,if_neg (Ne.symm e)]
 | (y,m) :: l,f + 1,k,n,n',hn,h,x=>by
  rw [List.map_cons,List.nodup_cons] at hn
  rw [List.getElem?_cons_succ] at h
  have ih:=gLook_set (n':=n') hn.2 h x
  rw [List.set_cons_succ,qgl,qgl,ih]
  have hne : y ≠ k:=fun e=>hn.1 (List.mem_map.2 ⟨(k,n),List.mem_of_getElem? h,e.symm⟩)
  by_cases e : y = x
  ·rw [if_pos e,if_pos e,if_neg (by omega)]
  ·rw [if_neg e,if_neg e]
theorem gLook_app : ∀ {g : List (Nat × Nat)} {k n : Nat},k ∉ g.map (·.1) → ∀ x,qgl (g ++ [(k,n)]) x = if x = k then n else qgl g x
 | [],k,n,_,x=>by
  show (if k = x then n else 0) = _
  by_cases e : x = k
  ·rw [if_pos e,if_pos e.symm]
  ·rw [if_neg e,if_neg (Ne.symm e)]; rfl
 | (y,m) :: l,k,n,h,x=>by
  rw [List.map_cons,List.mem_cons,not_or] at h
  rw [List.cons_append,qgl,qgl,gLook_app h.2 x]
  have hy : k ≠ y:=h.1
  by_cases e : y = x
  ·rw [if_pos e,if_pos e,if_neg (by omega)]
  ·rw [if_neg e,if_neg e]
theorem gLook_none : ∀ {g : List (Nat × Nat)} {k : Nat},k ∉ g.map (·.1) → qgl g k = 0
 | [],k,_=>rfl
 | (y,m) :: l,k,h=>by
  rw [List.map_cons,List.mem_cons,not_or] at h
  have hy : k ≠ y:=h.1
  rw [qgl,if_neg (Ne.symm hy),gLook_none h.2]
theorem GenF.set {G : Nat → Nat} {g : List (Nat × Nat)} (h : GenF G g) {f k n : Nat} (hx : g[f]? = some (k,n)) : GenF (YthjelpbaljapiaaGreat.bump G k) (g.set f (k,(n + 1) % 4294967296)):=by
 have hG : G k = n:=by
  have h1:=h.gens k
  have h2:=gLook_set (n':=n) h.once hx k
  rw [if_pos rfl] at h2
  have h3 : g.set f (k,n) = g:=by
   obtain ⟨h4,h5⟩:=List.getElem?_eq_some_iff.1 hx
   rw [← h5]; exact List.set_getElem_self h4
  rw [h3] at h2
  rw [h1,h2]
 refine ⟨fun x=>?_,?_,fun y hy=>?_⟩
 ·rw [gLook_set h.once hx x,YthjelpbaljapiaaGreat.bump,hG,h.gens x]
 ·have : (g.set f (k,(n + 1) % 4294967296)).map (·.1) = g.map (·.1):=by
   rw [List.map_set]
   obtain ⟨h4,h5⟩:=List.getElem?_eq_some_iff.1 hx
   have : (g.map (·.1))[f]'(by rw [List.length_map]; exact h4) = k:=by rw [List.getElem_map,h5]
   show (g.map (·.1)).set f k = _
   rw [← this]; exact List.set_getElem_self _
  rw [this]; exact h.once
 ·rcases List.mem_or_eq_of_mem_set hy with h1 | h1
  ·exact h.rng y h1
  ·have:=h.rng _ (List.mem_of_getElem? hx)
   rw [h1]
   dsimp only at this ⊢
   omega
theorem GenF.app {G : Nat → Nat} {g : List (Nat × Nat)} (h : GenF G g) {k : Nat} (hk : k ∉ g.map (·.1)) (ha : k % 256 = 0) (hl : k < 4294967296) : GenF (YthjelpbaljapiaaGreat.bump G k) (g ++ [(k,1)]):=by
 have hG : G k = 0:=by rw [h.gens k,gLook_none hk]
 refine ⟨fun x=>?_,?_,fun y hy=>?_⟩
 ·rw [gLook_app hk x,YthjelpbaljapiaaGreat.bump,hG,h.gens x]
 ·rw [List.map_append,List.nodup_append]
  refine ⟨h.once,by simp,?_⟩
  intro a ha' b hb e
  simp at hb
  subst e hb
  exact hk ha'
 ·rcases List.mem_append.1 hy with h1 | h1
  ·exact h.rng y h1
  ·simp at h1
   rw [h1]
   dsimp only
   omega
theorem gens_one {g : List (Nat × Nat)} : (g.flatMap qdb).all one = true:=by
 rw [List.all_eq_true]
 intro v hv
 obtain ⟨x,_,hx⟩:=List.mem_flatMap.1 hv
 simp [qdb] at hx
 rcases hx with rfl | rfl <;> rfl
theorem pgs_one {l : List (Nat × Pg)} : (l.flatMap qbm).all one = true:=by
 rw [List.all_eq_true]
 intro v hv
 obtain ⟨x,_,hx⟩:=List.mem_flatMap.1 hv
 rcases List.mem_cons.1 hx with rfl | hx
 ·rfl
 ·rcases List.mem_cons.1 hx with rfl | hx
  ·rfl
  ·obtain ⟨y,_,rfl⟩:=List.mem_map.1 hx; rfl
theorem refBump_spec (b : Nat) (M : MemG) (a : Nat) (ha : a < 4294967296) : Spec Tryz.prog 58 #[.pointer (some ⟨b,0,none⟩),.int .u32 a] (fun _=>True) [(0,RefO b M)]
  (fun ρ ρ' v L=>ρ' = ρ ∧ v = .tuple #[] ∧ L = [(0,RefO b { M with gens:=YthjelpbaljapiaaGreat.bump M.gens (qan a) })]):=by
 refine Spec.of 53 Tryz.func58 rfl Tryz.ntmps58 [(0,_),(1,_)] rfl rfl ?_
 intro cx ρ hr h0
 refine Cd.refOpen 0 1 2 (by decide) rfl fun A c B d gl hf=>?_
 have hmany:=hf.gen.few
 have hrng:=hf.gen.rng
 have hgen:=hf.gen
 dsimp only at hmany hrng hgen
 have hrows:=gRows gl
 obtain ⟨k,hk⟩ : ∃ k,qan a = k:=⟨_,rfl⟩
 have hkl:=base_le a
 have hka : k % 256 = 0:=by rw [← hk]; unfold qan; omega
 rw [hk] at hkl ⊢
 have hstep:=fun i=>gFind_step gl k i
 have hfl : (gl.findIdx fun x=>x.1 == k) ≤ gl.length:=List.findIdx_le_length
 have hno : (gl.findIdx fun x=>x.1 == k) = gl.length → k ∉ gl.map (·.1):=fun e hm=>by
  obtain ⟨y,hy,e2⟩:=List.mem_map.1 hm
  have:=List.findIdx_lt_length_of_exists (p:=fun x : Nat × Nat=>x.1 == k) (xs:=gl) ⟨y,hy,by simpa using e2⟩
  omega
 obtain ⟨f,hfn⟩ : ∃ f,(gl.findIdx fun x=>x.1 == k) = f:=⟨_,rfl⟩
 rw [hfn] at hstep hfl hno
 refine Cd.seq fun K1 hK1=>?_
 refine Cd.qac [(0,false),(1,false),(2,false),(3,false),(4,false)] rfl rfl ?_
 refine Jp.y 6 rfl (qaa rfl) rfl rfl Kp.true (Y.move rfl rfl) ?_
 refine Jp.y 7 rfl (qaa rfl) rfl rfl Kp.true (Y.move rfl rfl) ?_
 refine Jp.y 8 rfl (qaa rfl) rfl rfl Kp.true (by exact Y.remN rfl rfl rfl (by omega) (by omega)) ?_
 refine Jp.y 9 rfl (qaa rfl) rfl rfl Kp.true (Y.qdo rfl rfl rfl (by exact qax (by omega) (by omega))) ?_
 refine Jp.y 4 rfl (qaa rfl) rfl rfl Kp.true (Y.assign rfl rfl) ?_
 refine Jp.qae hK1 ?_
 refine Cd.seq fun K2 hK2=>?_
 refine Cd.seq fun K3 hK3=>?_
 refine Cd.qac [(0,false)] rfl rfl ?_
 refine Jp.y 5 rfl (qaa rfl) rfl rfl Kp.true (Y.assign rfl rfl) ?_
 refine Jp.qae hK3 ?_
 refine Cd.block ?_
 refine Cd.slot 4 rfl (show _ = Value.int .u32 (k : Int) from congrArg (Value.int .u32) (by rw [← hk]; unfold qan; omega)) ?_
 refine Cd.qdw (G:=Nat) (fun i=>i ≤ f) (fun i=>f - i) (fun _=>_) (fun i=>[(5,.int .i64 (i : Int))]) [(0,_),(4,_)] (fun i=>[]) [(0,_),(1,_),(2,_)] 0 (Nat.zero_le _) rfl ⟨rfl,trivial⟩ ⟨rfl,rfl,trivial⟩ trivial ⟨rfl,rfl,rfl,trivial⟩ (fun g KLa hok hLa=>?_)
 obtain ⟨i,hi⟩ : ∃ i,i = g:=⟨_,rfl⟩
 rw [← hi] at hok ⊢
 refine Cd.seq fun K4 hK4=>?_
 refine Cd.seq fun K5 hK5=>?_
 refine Cd.qac [(0,false),(1,false),(2,false),(3,false),(4,false),(5,false),(6,false)] rfl rfl ?_
 refine Jp.y 10 rfl (qaa rfl) rfl rfl Kp.true (Y.move rfl rfl) ?_
 refine Jp.y 11 rfl (qaa rfl) rfl rfl Kp.true (Y.move rfl rfl) ?_
 refine Jp.y 12 rfl (qaa rfl) rfl rfl Kp.true (Y.qau rfl rfl) ?_
 refine Jp.y 13 rfl (qaa rfl) rfl rfl Kp.true (by exact Y.qad rfl rfl underlying60 rfl sizeOf58 (by decide) (show _ + 2 = _ from rfl)) ?_
 refine Jp.y 14 rfl (qaa rfl) rfl rfl Kp.true (Y.qaq 0 rfl isAgg58 rfl rfl rfl) ?_
 refine Jp.y 15 rfl (qaa rfl) rfl rfl Kp.true (Y.qcd rfl underlying58 rfl) ?_
 refine Jp.y 16 rfl (qaa rfl) rfl rfl Kp.true (Y.lss rfl rfl rfl) ?_
 refine Jp.qae hK5 ?_
 refine Cd.qal rfl (fun ga=>?_) (fun ga=>?_)
 ·have hil : i < gl.length:=by simp at ga; omega
  have hx : gl[i]? = some gl[i]:=List.getElem?_eq_getElem hil
  obtain ⟨⟨yk,yn⟩,hy⟩ : ∃ y,y = gl[i]:=⟨_,rfl⟩
  rw [← hy] at hx
  have hst:=hstep i (by omega) _ hx
  have hyl:=hrng _ (List.mem_of_getElem? hx)
  dsimp only at hst hyl
  refine Cd.ownAt 2 rfl (show 0 < gl.length by omega) ?_
  rintro b1 rfl
  have c0:=OwnS.hasC (e:=133) (m:=2) (k:=gl.length) (c:=d) (ad:=⟨b1,0,none⟩) (qfq hrows hx (refGen_base (yk,yn)))
  have c1:=(OwnS.hasC (e:=133) (m:=2) (k:=gl.length) (c:=d) (ad:=⟨b1,0,none⟩) (qfq hrows hx (refGen_n (yk,yn)))).two
  refine Cd.qbi hK4 ?_
  refine Cd.seq fun K6 hK6=>?_
  refine Cd.block ?_
  refine Cd.seq fun K7 hK7=>?_
  refine Cd.qac [(0,false),(1,false),(2,false),(3,false),(4,false),(5,false),(6,false),(7,false),(8,false),(9,false)] rfl rfl ?_
  refine Jp.y 19 rfl (qaa rfl) rfl rfl Kp.true (Y.move rfl rfl) ?_
  refine Jp.y 20 rfl (qaa rfl) rfl rfl Kp.true (Y.qau rfl rfl) ?_
  refine Jp.y 21 rfl (qaa rfl) rfl rfl Kp.true (by exact Y.qad rfl rfl underlying60 rfl sizeOf58 (by decide) (show _ + 2 = _ from rfl)) ?_
  refine Jp.y 22 rfl (qaa rfl) rfl rfl Kp.true (by exact Y.qaq 0 rfl isAgg58 rfl rfl rfl) ?_
  refine Jp.y 23 rfl (qaa rfl) rfl rfl Kp.true (Y.move rfl rfl) ?_
  refine Jp.y 24 rfl (qaa rfl) rfl rfl Kp.true (Y.qar (q:=i * 2) rfl rfl rfl underlying58 sizeOf133 (by omega) (by omega) (by omega)) ?_
  refine Jp.y 25 rfl (qaa rfl) rfl rfl Kp.true (by exact Y.qdn rfl rfl underlying133 rfl sizeOf24 (by decide)) ?_
  refine Jp.y 26 rfl (qaa rfl) rfl rfl Kp.true (by exact Y.qbs 2 rfl isAgg24 rfl rfl c0) ?_
  refine Jp.y 27 rfl (qaa rfl) rfl rfl Kp.true (Y.move rfl rfl) ?_
  refine Jp.y 28 rfl (qaa rfl) rfl rfl Kp.true (Y.eql rfl rfl rfl) ?_
  refine Jp.qae hK7 ?_
  refine Cd.qal rfl (fun gb=>?_) (fun gb=>?_)
  ·have hib : yk = k:=by simp at gb; omega
   rw [hib] at hx
   have hg2:=hgen.set hx
   obtain ⟨n',hn'⟩ : ∃ n',(yn + 1) % 4294967296 = n':=⟨_,rfl⟩
   rw [hn'] at hg2
   obtain ⟨g2,hg2e⟩ : ∃ g2,gl.set i (k,n') = g2:=⟨_,rfl⟩
   have hlen : g2.length = gl.length:=by rw [← hg2e,List.length_set]
   have hset : (gl.flatMap qdb).set (i * 2 + 1) (.int .u32 (n' : Int)) = g2.flatMap qdb:=by
    rw [← hg2e]
    exact rs_set hrows hx (by omega) rfl
   rw [hg2e] at hg2
   refine Cd.seq fun K8 hK8=>?_
   refine Cd.qac [(0,false),(1,false),(2,false),(3,false),(4,false),(5,false),(6,false),(7,false),(8,false),(9,false),(10,false),(11,false)] rfl rfl ?_
   refine Jp.y 29 rfl (qaa rfl) rfl rfl Kp.true (Y.move rfl rfl) ?_
   refine Jp.y 30 rfl (qaa rfl) rfl rfl Kp.true (Y.qau rfl rfl) ?_
   refine Jp.y 31 rfl (qaa rfl) rfl rfl Kp.true (by exact Y.qad rfl rfl underlying60 rfl sizeOf58 (by decide) (show _ + 2 = _ from rfl)) ?_
   refine Jp.y 32 rfl (qaa rfl) rfl rfl Kp.true (by exact Y.qaq 0 rfl isAgg58 rfl rfl rfl) ?_
   refine Jp.y 33 rfl (qaa rfl) rfl rfl Kp.true (Y.move rfl rfl) ?_
   refine Jp.y 34 rfl (qaa rfl) rfl rfl Kp.true (Y.qar (q:=i * 2) rfl rfl rfl underlying58 sizeOf133 (by omega) (by omega) (by omega)) ?_
   refine Jp.y 35 rfl (qaa rfl) rfl rfl Kp.true (by exact Y.qdn rfl rfl underlying133 rfl sizeOf24 (by decide)) ?_
   refine Jp.y 36 rfl (qaa rfl) rfl rfl Kp.true (by exact Y.qbs 2 rfl isAgg24 rfl rfl c1) ?_
   refine Jp.y 37 rfl (qaa rfl) rfl rfl Kp.true (Y.qbx rfl rfl rfl (by rfl)) ?_
   refine Jp.slot 37 rfl (show _ = Value.int .u32 (n' : Int) from congrArg (Value.int .u32) (by rw [← hn',← qeu]; rfl)) ?_
   refine Jp.y 38 rfl (qaa rfl) rfl rfl Kp.true (Y.qar (q:=i * 2) rfl rfl rfl underlying58 sizeOf133 (by omega) (by omega) (by omega)) ?_
   refine Jp.slot 38 rfl (show _ = Value.pointer (some ⟨b1,i * 2,none⟩) by rw [qcs,Nat.zero_add]) ?_
   refine Jp.y 39 rfl (qaa rfl) rfl rfl Kp.true (by exact Y.qad rfl rfl underlying133 rfl sizeOf24 (by decide) (show _ + 1 = _ from rfl)) ?_
   refine Jp.storeS 2 (q:=i * 2 + 1) rfl (qaa rfl) rfl rfl sizeOf24 rfl rfl rfl rfl (by rw [qcs,Nat.zero_add]) (by omega) (g2.flatMap qdb) hset Kp.true ?_
   rw [← hlen]
   refine Jp.qae hK8 ?_
   refine Cd.refClose (b:=b) (M:={ M with gens:=YthjelpbaljapiaaGreat.bump M.gens k }) (A:=A) (c:=c) (g:=g2) 0 1 2 (by decide) ⟨hf.ok.bump k,hg2⟩ rfl rfl rfl ?_
   refine Cd.ret [(0,_)] rfl (res0 rfl) ⟨rfl,trivial⟩ ⟨rfl,rfl,rfl⟩
  ·have hib : i ≠ f:=fun e=>by
    have:=hst.2 e
    simp at gb; omega
   refine Cd.over rfl hK6 ?_
   refine Cd.qac [(0,false),(1,false),(2,false)] rfl rfl ?_
   refine Jp.y 17 rfl (qaa rfl) rfl rfl Kp.true (Y.move rfl rfl) ?_
   refine Jp.y 18 rfl (qaa rfl) rfl rfl Kp.true (Y.qbx rfl rfl rfl (by exact qag (by omega) (by omega))) ?_
   refine Jp.y 5 rfl (qaa rfl) rfl rfl Kp.true (Y.assign rfl rfl) ?_
   rw [show (i : Int) + 1 = ((i + 1 : Nat) : Int) by omega]
   refine Jp.again hLa (i + 1) (by omega) (by omega) rfl ⟨rfl,rfl,rfl,trivial⟩ ⟨rfl,rfl,rfl,trivial⟩
 ·have hil : ¬ i < gl.length:=by simpa using ga
  have hkn:=hno (by omega)
  have hg2:=hgen.app hkn hka (by omega)
  have hfew2:=hg2.few
  rw [List.length_append,List.length_cons,List.length_nil] at hfew2
  refine Cd.freeze (i:=2) rfl (OwnS.up _ _ _ _ _ _) fun ρ7 hle7 hA7=>?_
  have hR:=hA7.rd
  have hroomc:=hA7.rd.2.1.1
  have hlen : (gl ++ [(k,1)]).length = gl.length + 1:=by simp
  refine Cd.exit rfl hK2 ?_
  refine Cd.qac [(0,false),(1,false),(2,false),(3,false),(4,false),(5,false),(6,false),(7,false),(8,false),(9,false),(10,false),(11,false),(12,false),(13,false)] rfl rfl ?_
  refine Jp.y 40 rfl (qaa rfl) rfl rfl Kp.true (Y.move rfl rfl) ?_
  refine Jp.lit 41 3 [] [] rfl (qaa rfl) rfl rfl rfl rfl underlying58 sizeOf133 zeroValue133 rfl rfl rfl rfl rfl fun b2=>⟨Kp.true,?_⟩
  refine Jp.y 42 rfl (qaa rfl) rfl rfl Kp.true (Y.move rfl rfl) ?_
  refine Jp.y 43 rfl (qaa rfl) rfl rfl Kp.true (Y.qau rfl rfl) ?_
  refine Jp.y 44 rfl (qaa rfl) rfl rfl Kp.true (by exact Y.qad rfl rfl underlying60 rfl sizeOf58 (by decide) (show _ + 2 = _ from rfl)) ?_
  refine Jp.y 45 rfl (qaa rfl) rfl rfl Kp.true (by exact Y.qaq 0 rfl isAgg58 rfl rfl rfl) ?_
  refine Jp.append 46 3 rfl (qaa rfl) rfl rfl rfl underlying58 underlying58 (.inl ⟨_,rfl⟩) sizeOf133 Tryz.typeInfo133 zeroValue133 rfl (by decide) rfl rfl rfl (Src.rd hR) gens_one (gl.length) ((gl.flatMap qdb)) (by first | omega | simp) (by simp) (by simp only [Tryz.t133]; omega) fun A8 c8=>⟨Kp.true,?_⟩
  refine Jp.y 47 rfl (qaa rfl) rfl rfl Kp.true (Y.move rfl rfl) ?_
  refine Jp.y 48 rfl (qaa rfl) rfl rfl Kp.true (Y.struct [(0,_),(1,_)] (qdb (k,1)) rfl rfl places133 zeroValue133 rfl) ?_
  refine Jp.lit 49 4 [(0,_)] (qdb (k,1)) rfl (qaa rfl) rfl rfl rfl rfl underlying58 sizeOf133 zeroValue133 rfl rfl (fill_one rfl) rfl rfl fun b3=>⟨Kp.true,?_⟩
  refine Jp.append 50 3 rfl (qaa rfl) rfl rfl rfl underlying58 underlying58 (.inl ⟨_,rfl⟩) sizeOf133 Tryz.typeInfo133 zeroValue133 rfl (by decide) rfl rfl rfl (Src.own 4 rfl) rfl ((gl ++ [(k,1)]).length) (((gl ++ [(k,1)]).flatMap qdb)) (by first | omega | simp) (by rw [List.flatMap_append]; rfl) (by simp only [Tryz.t133]; omega) fun A9 c9=>⟨Kp.true,?_⟩
  refine Jp.y 51 rfl (qaa rfl) rfl rfl Kp.true (Y.qau rfl rfl) ?_
  refine Jp.y 52 rfl (qaa rfl) rfl rfl Kp.true (by exact Y.qad rfl rfl underlying60 rfl sizeOf58 (by decide) (show _ + 2 = _ from rfl)) ?_
  refine Jp.store 0 rfl (qaa rfl) rfl rfl sizeOf58 rfl rfl rfl rfl rfl rfl Kp.true ?_
  refine Jp.refClose (b:=b) (M:={ M with gens:=YthjelpbaljapiaaGreat.bump M.gens k }) (A:=A) (c:=c) (g:=gl ++ [(k,1)]) 0 1 3 (by decide) ⟨hf.ok.bump k,hg2⟩ rfl rfl rfl ?_
  refine Jp.down hle7 (by rw [h0]; exact Hp.le_refl _) ?_
  refine Jp.end [(0,_)] rfl (res0 rfl) ⟨rfl,trivial⟩ ⟨rfl,rfl,rfl⟩
end Go.Proofs.YthjelpbaljapiaaGreat

namespace Go.Proofs.YthjelpbaljapiaaGreat
open Go
end Go.Proofs.YthjelpbaljapiaaGreat

namespace Go.Proofs.YthjelpbaljapiaaGreat
open Go
end Go.Proofs.YthjelpbaljapiaaGreat
