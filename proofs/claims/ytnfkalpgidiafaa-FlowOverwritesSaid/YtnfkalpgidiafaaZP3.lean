import Derived.Test.YtnfkalpgidiafaaZP2
import Derived.Test.YtnfkalpgidiafaaZP1
set_option linter.unusedVariables false
set_option linter.unusedSimpArgs false
set_option maxRecDepth 100000
namespace Go.Proofs.Ytnfkalpgidiafaa
open _root_.Go.Proofs.Try
open Go
def srcI (k p n : Nat) : Int:=if k = 2 then (p : Int) - n else if k = 7 then min ((p : Int) + n) 31 else (p : Int) + n
theorem tupIB {x y : Int} {b c : Bool} (h : x = y) (h2 : b = c) : Value.tuple #[.int .i64 x,.bool b] = .tuple #[.int .i64 y,.bool c]:=by rw [h,h2]
theorem source_spec (k p n : Nat) (hp : p < 32) (hn : n < 32) : Spec Try.prog 85 #[.int .i64 k,.int .i64 p,.int .i64 n] (fun _=>True) []
  (fun ρ ρ' v L=>ρ' = ρ ∧ v = .tuple #[.int .i64 (srcI k p n),.bool (decide (0 ≤ srcI k p n ∧ srcI k p n < 32))] ∧ L = []):=by
 refine Spec.of 28 Try.func85 rfl Try.ntmps85 [(0,_),(1,_),(2,_)] rfl rfl ?_
 intro cx ρ hr h0
 have h2 : k = 2 → srcI k p n = (p : Int) - n:=fun h=>if_pos h
 have h7 : k = 7 → srcI k p n = min ((p : Int) + n) 31:=fun h=>by rw [srcI,if_neg (by omega),if_pos h]
 have h6 : ¬ k = 2 → ¬ k = 7 → srcI k p n = (p : Int) + n:=fun h h'=>by rw [srcI,if_neg h,if_neg h']
 obtain ⟨S,hS⟩ : ∃ S,srcI k p n = S:=⟨_,rfl⟩
 rw [hS] at h2 h7 h6 ⊢
 refine Cd.seq fun K1 hK1=>?_
 refine Cd.qac [(0,false),(1,false)] rfl rfl ?_
 refine Jp.y 6 rfl (qaa rfl) rfl rfl Kp.true (Y.assign rfl rfl) ?_
 refine Jp.y 7 rfl (qaa rfl) rfl rfl Kp.true (Y.assign rfl rfl) ?_
 refine Jp.qae hK1 ?_
 refine Cd.seq fun K2 hK2=>?_
 refine Cd.qac [(0,false),(1,false),(2,false),(3,false)] rfl rfl ?_
 refine Jp.y 9 rfl (qaa rfl) rfl rfl Kp.true (Y.move rfl rfl) ?_
 refine Jp.y 10 rfl (qaa rfl) rfl rfl Kp.true (Y.move rfl rfl) ?_
 refine Jp.y 11 rfl (qaa rfl) rfl rfl Kp.true (Y.qcd rfl rfl rfl (by exact qaj (by omega) (by omega))) ?_
 refine Jp.y 8 rfl (qaa rfl) rfl rfl Kp.true (Y.assign rfl rfl) ?_
 refine Jp.qae hK2 ?_
 refine Cd.seq fun K3 hK3=>?_
 refine Cd.seq fun K4 hK4=>?_
 refine Cd.qac [(0,false),(1,false)] rfl rfl ?_
 refine Jp.y 12 rfl (qaa rfl) rfl rfl Kp.true (Y.move rfl rfl) ?_
 refine Jp.y 13 rfl (qaa rfl) rfl rfl Kp.true (Y.eql rfl rfl rfl) ?_
 refine Jp.qae hK4 ?_
 refine Cd.qaq rfl (fun g13=>?_) (fun g13=>?_)
 ·skip
  try simp only [sG0] at g13
  refine Cd.qac [(0,false),(1,false),(2,false),(3,false)] rfl rfl ?_
  refine Jp.y 14 rfl (qaa rfl) rfl rfl Kp.true (Y.move rfl rfl) ?_
  refine Jp.y 15 rfl (qaa rfl) rfl rfl Kp.true (Y.move rfl rfl) ?_
  refine Jp.y 16 rfl (qaa rfl) rfl rfl Kp.true (Y.qfy rfl rfl rfl (by exact qaj (by omega) (by omega))) ?_
  refine Jp.y 8 rfl (qaa rfl) rfl rfl Kp.true (Y.assign rfl rfl) ?_
  refine Jp.qae hK3 ?_
  refine Cd.seq fun K5 hK5=>?_
  refine Cd.seq fun K6 hK6=>?_
  refine Cd.qac [(0,false),(1,false)] rfl rfl ?_
  refine Jp.y 17 rfl (qaa rfl) rfl rfl Kp.true (Y.move rfl rfl) ?_
  refine Jp.y 18 rfl (qaa rfl) rfl rfl Kp.true (Y.eql rfl rfl rfl) ?_
  refine Jp.qae hK6 ?_
  refine Cd.qaq rfl (fun g18=>?_) (fun g18=>?_)
  ·skip
   try simp only [sG0] at g18
   refine Cd.qac [(0,false),(1,false),(2,false)] rfl rfl ?_
   refine Jp.y 19 rfl (qaa rfl) rfl rfl Kp.true (Y.move rfl rfl) ?_
   refine Jp.y 20 rfl (qaa rfl) rfl rfl Kp.true (Y.min2 rfl rfl rfl) ?_
   refine Jp.y 8 rfl (qaa rfl) rfl rfl Kp.true (Y.assign rfl rfl) ?_
   refine Jp.qae hK5 ?_
   refine Cd.seq fun K7 hK7=>?_
   refine Cd.qac [(0,false),(1,false),(2,false),(3,false),(4,false),(5,false),(6,false),(7,false),(8,false)] rfl rfl ?_
   refine Jp.y 21 rfl (qaa rfl) rfl rfl Kp.true (Y.move rfl rfl) ?_
   refine Jp.y 22 rfl (qaa rfl) rfl rfl Kp.true (Y.move rfl rfl) ?_
   refine Jp.y 23 rfl (qaa rfl) rfl rfl Kp.true (Y.geq rfl rfl rfl) ?_
   refine Jp.y 24 rfl (qaa rfl) rfl rfl Kp.true (Y.move rfl rfl) ?_
   refine Jp.split 24 rfl (fun g24=>?_) (fun g24=>?_)
   ·skip
    try simp only [sG0] at g24
    refine Jp.y 25 rfl (qab rfl rfl rfl rfl) rfl rfl Kp.true (Y.move rfl rfl) ?_
    refine Jp.y 26 rfl (qab rfl rfl rfl rfl) rfl rfl Kp.true (Y.lss rfl rfl rfl) ?_
    refine Jp.y 27 rfl (qaa rfl) rfl rfl Kp.true (Y.qba rfl rfl rfl) ?_
    refine Jp.y 6 rfl (qaa rfl) rfl rfl Kp.true (Y.assign rfl rfl) ?_
    refine Jp.y 7 rfl (qaa rfl) rfl rfl Kp.true (Y.assign rfl rfl) ?_
    refine Jp.qae hK7 ?_
    refine Cd.ret [] rfl (qbr rfl rfl rfl) trivial ⟨rfl, by
     (exfalso; omega), rfl⟩
   ·skip
    try simp only [sG0] at g24
    refine Jp.qat 25 rfl (qab rfl rfl rfl rfl) rfl rfl Kp.true ?_
    refine Jp.qat 26 rfl (qab rfl rfl rfl rfl) rfl rfl Kp.true ?_
    refine Jp.y 27 rfl (qaa rfl) rfl rfl Kp.true (Y.qaz rfl rfl rfl) ?_
    refine Jp.y 6 rfl (qaa rfl) rfl rfl Kp.true (Y.assign rfl rfl) ?_
    refine Jp.y 7 rfl (qaa rfl) rfl rfl Kp.true (Y.assign rfl rfl) ?_
    refine Jp.qae hK7 ?_
    refine Cd.ret [] rfl (qbr rfl rfl rfl) trivial ⟨rfl, by
     (exfalso; omega), rfl⟩
  ·skip
   try simp only [sG0] at g18
   refine Cd.qbw hK5 ?_
   refine Cd.seq fun K8 hK8=>?_
   refine Cd.qac [(0,false),(1,false),(2,false),(3,false),(4,false),(5,false),(6,false),(7,false),(8,false)] rfl rfl ?_
   refine Jp.y 21 rfl (qaa rfl) rfl rfl Kp.true (Y.move rfl rfl) ?_
   refine Jp.y 22 rfl (qaa rfl) rfl rfl Kp.true (Y.move rfl rfl) ?_
   refine Jp.y 23 rfl (qaa rfl) rfl rfl Kp.true (Y.geq rfl rfl rfl) ?_
   refine Jp.y 24 rfl (qaa rfl) rfl rfl Kp.true (Y.move rfl rfl) ?_
   refine Jp.split 24 rfl (fun g24=>?_) (fun g24=>?_)
   ·skip
    try simp only [sG0] at g24
    refine Jp.y 25 rfl (qab rfl rfl rfl rfl) rfl rfl Kp.true (Y.move rfl rfl) ?_
    refine Jp.y 26 rfl (qab rfl rfl rfl rfl) rfl rfl Kp.true (Y.lss rfl rfl rfl) ?_
    refine Jp.y 27 rfl (qaa rfl) rfl rfl Kp.true (Y.qba rfl rfl rfl) ?_
    refine Jp.y 6 rfl (qaa rfl) rfl rfl Kp.true (Y.assign rfl rfl) ?_
    refine Jp.y 7 rfl (qaa rfl) rfl rfl Kp.true (Y.assign rfl rfl) ?_
    refine Jp.qae hK8 ?_
    refine Cd.ret [] rfl (qbr rfl rfl rfl) trivial ⟨rfl, by
     exact tupIB (by omega) (by rw [Bool.eq_iff_iff]; simp only [decide_eq_true_eq, Bool.false_eq_true, false_iff, true_iff]; omega), rfl⟩
   ·skip
    try simp only [sG0] at g24
    refine Jp.qat 25 rfl (qab rfl rfl rfl rfl) rfl rfl Kp.true ?_
    refine Jp.qat 26 rfl (qab rfl rfl rfl rfl) rfl rfl Kp.true ?_
    refine Jp.y 27 rfl (qaa rfl) rfl rfl Kp.true (Y.qaz rfl rfl rfl) ?_
    refine Jp.y 6 rfl (qaa rfl) rfl rfl Kp.true (Y.assign rfl rfl) ?_
    refine Jp.y 7 rfl (qaa rfl) rfl rfl Kp.true (Y.assign rfl rfl) ?_
    refine Jp.qae hK8 ?_
    refine Cd.ret [] rfl (qbr rfl rfl rfl) trivial ⟨rfl, by
     exact tupIB (by omega) (by rw [Bool.eq_iff_iff]; simp only [decide_eq_true_eq, Bool.false_eq_true, false_iff, true_iff]; omega), rfl⟩
 ·skip
  try simp only [sG0] at g13
  refine Cd.qbw hK3 ?_
  refine Cd.seq fun K9 hK9=>?_
  refine Cd.seq fun K10 hK10=>?_
  refine Cd.qac [(0,false),(1,false)] rfl rfl ?_
  refine Jp.y 17 rfl (qaa rfl) rfl rfl Kp.true (Y.move rfl rfl) ?_
  refine Jp.y 18 rfl (qaa rfl) rfl rfl Kp.true (Y.eql rfl rfl rfl) ?_
  refine Jp.qae hK10 ?_
  refine Cd.qaq rfl (fun g18=>?_) (fun g18=>?_)
  ·skip
   try simp only [sG0] at g18
   refine Cd.qac [(0,false),(1,false),(2,false)] rfl rfl ?_
   refine Jp.y 19 rfl (qaa rfl) rfl rfl Kp.true (Y.move rfl rfl) ?_
   refine Jp.y 20 rfl (qaa rfl) rfl rfl Kp.true (Y.min2 rfl rfl rfl) ?_
   refine Jp.y 8 rfl (qaa rfl) rfl rfl Kp.true (Y.assign rfl rfl) ?_
   refine Jp.qae hK9 ?_
   refine Cd.seq fun K11 hK11=>?_
   refine Cd.qac [(0,false),(1,false),(2,false),(3,false),(4,false),(5,false),(6,false),(7,false),(8,false)] rfl rfl ?_
   refine Jp.y 21 rfl (qaa rfl) rfl rfl Kp.true (Y.move rfl rfl) ?_
   refine Jp.y 22 rfl (qaa rfl) rfl rfl Kp.true (Y.move rfl rfl) ?_
   refine Jp.y 23 rfl (qaa rfl) rfl rfl Kp.true (Y.geq rfl rfl rfl) ?_
   refine Jp.y 24 rfl (qaa rfl) rfl rfl Kp.true (Y.move rfl rfl) ?_
   refine Jp.split 24 rfl (fun g24=>?_) (fun g24=>?_)
   ·skip
    try simp only [sG0] at g24
    refine Jp.y 25 rfl (qab rfl rfl rfl rfl) rfl rfl Kp.true (Y.move rfl rfl) ?_
    refine Jp.y 26 rfl (qab rfl rfl rfl rfl) rfl rfl Kp.true (Y.lss rfl rfl rfl) ?_
    refine Jp.y 27 rfl (qaa rfl) rfl rfl Kp.true (Y.qba rfl rfl rfl) ?_
    refine Jp.y 6 rfl (qaa rfl) rfl rfl Kp.true (Y.assign rfl rfl) ?_
    refine Jp.y 7 rfl (qaa rfl) rfl rfl Kp.true (Y.assign rfl rfl) ?_
    refine Jp.qae hK11 ?_
    refine Cd.ret [] rfl (qbr rfl rfl rfl) trivial ⟨rfl, by
     exact tupIB (by omega) (by rw [Bool.eq_iff_iff]; simp only [decide_eq_true_eq, Bool.false_eq_true, false_iff, true_iff]; omega), rfl⟩
   ·skip
    try simp only [sG0] at g24
    refine Jp.qat 25 rfl (qab rfl rfl rfl rfl) rfl rfl Kp.true ?_
    refine Jp.qat 26 rfl (qab rfl rfl rfl rfl) rfl rfl Kp.true ?_
    refine Jp.y 27 rfl (qaa rfl) rfl rfl Kp.true (Y.qaz rfl rfl rfl) ?_
    refine Jp.y 6 rfl (qaa rfl) rfl rfl Kp.true (Y.assign rfl rfl) ?_
    refine Jp.y 7 rfl (qaa rfl) rfl rfl Kp.true (Y.assign rfl rfl) ?_
    refine Jp.qae hK11 ?_
    refine Cd.ret [] rfl (qbr rfl rfl rfl) trivial ⟨rfl, by
     (exfalso; omega), rfl⟩
  ·skip
   try simp only [sG0] at g18
   refine Cd.qbw hK9 ?_
   refine Cd.seq fun K12 hK12=>?_
   refine Cd.qac [(0,false),(1,false),(2,false),(3,false),(4,false),(5,false),(6,false),(7,false),(8,false)] rfl rfl ?_
   refine Jp.y 21 rfl (qaa rfl) rfl rfl Kp.true (Y.move rfl rfl) ?_
   refine Jp.y 22 rfl (qaa rfl) rfl rfl Kp.true (Y.move rfl rfl) ?_
   refine Jp.y 23 rfl (qaa rfl) rfl rfl Kp.true (Y.geq rfl rfl rfl) ?_
   refine Jp.y 24 rfl (qaa rfl) rfl rfl Kp.true (Y.move rfl rfl) ?_
   refine Jp.split 24 rfl (fun g24=>?_) (fun g24=>?_)
   ·skip
    try simp only [sG0] at g24
    refine Jp.y 25 rfl (qab rfl rfl rfl rfl) rfl rfl Kp.true (Y.move rfl rfl) ?_
    refine Jp.y 26 rfl (qab rfl rfl rfl rfl) rfl rfl Kp.true (Y.lss rfl rfl rfl) ?_
    refine Jp.y 27 rfl (qaa rfl) rfl rfl Kp.true (Y.qba rfl rfl rfl) ?_
    refine Jp.y 6 rfl (qaa rfl) rfl rfl Kp.true (Y.assign rfl rfl) ?_
    refine Jp.y 7 rfl (qaa rfl) rfl rfl Kp.true (Y.assign rfl rfl) ?_
    refine Jp.qae hK12 ?_
    refine Cd.ret [] rfl (qbr rfl rfl rfl) trivial ⟨rfl, by
     exact tupIB (by omega) (by rw [Bool.eq_iff_iff]; simp only [decide_eq_true_eq, Bool.false_eq_true, false_iff, true_iff]; omega), rfl⟩
   ·skip
    try simp only [sG0] at g24
    refine Jp.qat 25 rfl (qab rfl rfl rfl rfl) rfl rfl Kp.true ?_
    refine Jp.qat 26 rfl (qab rfl rfl rfl rfl) rfl rfl Kp.true ?_
    refine Jp.y 27 rfl (qaa rfl) rfl rfl Kp.true (Y.qaz rfl rfl rfl) ?_
    refine Jp.y 6 rfl (qaa rfl) rfl rfl Kp.true (Y.assign rfl rfl) ?_
    refine Jp.y 7 rfl (qaa rfl) rfl rfl Kp.true (Y.assign rfl rfl) ?_
    refine Jp.qae hK12 ?_
    refine Cd.ret [] rfl (qbr rfl rfl rfl) trivial ⟨rfl, by
     (exfalso; omega), rfl⟩
theorem byte_of (a k : Nat) (hk : k < 4) : IntKind.u8.wrap ((a : Int).fdiv (2 ^ (min (8 * (k : Int)).toNat IntKind.u32.bits))) = ((a / 2 ^ (8 * k) % 256 : Nat) : Int):=by
 rw [show (8 : Int) * k = ((8 * k : Nat) : Int) by omega,shr32 a (8 * k) (by omega)]
 simp only [IntKind.wrap,IntKind.bits,IntKind.signed]
 simp
def skipM (a b : Nat) (s t : qam) (k : Nat) : Prop:=((s.getD k 0).toNat = 0 ∧ a / 2 ^ (8 * k) % 256 = 0) ∨ ((t.getD k 0).toNat = 0 ∧ b / 2 ^ (8 * k) % 256 = 0)
instance (a b : Nat) (s t : qam) (k : Nat) : Decidable (skipM a b s t k):=by unfold skipM; infer_instance
def mkN (a b : Nat) (s t : qam) : Nat → qam
 | 0=>[0,0,0,0]
 | k + 1=>if skipM a b s t k then mkN a b s t k else (mkN a b s t k).set k (s.getD k 0 ||| t.getD k 0)
theorem mkN_len (a b : Nat) (s t : qam) : ∀ k,(mkN a b s t k).length = 4
 | 0=>rfl
 | k + 1=>by
  rw [mkN]
  split
  ·exact mkN_len a b s t k
  ·rw [List.length_set]; exact mkN_len a b s t k
theorem masked_spec (a b : Nat) (s t : qam) (ha : a < 4294967296) (hb : b < 4294967296) (hs : s.length = 4) (ht : t.length = 4) : Spec Try.prog 70 #[.int .u32 a,.int .u32 b,.agg (qaf s).toArray,.agg (qaf t).toArray] (fun _=>True) []
  (fun ρ ρ' v L=>ρ' = ρ ∧ v = .agg (qaf (mkN a b s t 4)).toArray ∧ L = []):=by
 refine Spec.of 55 Try.func70 rfl Try.ntmps70 [(0,_),(1,_),(2,_),(3,_)] rfl rfl ?_
 intro cx ρ hr h0
 have hjl : (qaf (mkN a b s t 4)).length = 4:=by rw [qbc,mkN_len]
 have hjo:=qbd (mkN a b s t 4)
 refine Cd.seq fun K13 hK13=>?_
 refine Cd.qac [(0,false),(1,false),(2,false)] rfl rfl ?_
 refine Jp.box 6 6 rfl (qaa rfl) rfl rfl rfl rfl fun b6=>⟨Kp.true,?_⟩
 refine Jp.box 7 7 rfl (qaa rfl) rfl rfl rfl rfl fun b7=>⟨Kp.true,?_⟩
 refine Jp.alloc 8 8 rfl (qaa rfl) rfl rfl rfl zeroValue41 fun b8=>⟨Kp.true,?_⟩
 refine Jp.qae hK13 ?_
 refine Cd.seq fun K14 hK14=>?_
 refine Cd.qac [(0,false)] rfl rfl ?_
 refine Jp.alloc 9 9 rfl (qaa rfl) rfl rfl rfl zeroValue41 fun b9=>⟨Kp.true,?_⟩
 refine Jp.qae hK14 ?_
 refine Cd.seq fun K15 hK15=>?_
 refine Cd.seq fun K16 hK16=>?_
 refine Cd.qac [(0,false)] rfl rfl ?_
 refine Jp.y 13 rfl (qaa rfl) rfl rfl Kp.true (Y.move rfl rfl) ?_
 refine Jp.qae hK16 ?_
 refine Cd.block ?_
 refine Cd.imp (i:=9) rfl (fun h hh=>(show Pt b9 (.cells (qaf (mkN a b s t 0)).toArray 41) h from hh)) ?_
 refine Cd.qfl (G:=Nat) (fun k=>k ≤ 4) (fun k=>4 - k) (fun _=>_) (fun k=>[(13,.int .i64 (k : Int))]) [(0,_),(1,_),(6,_),(7,_),(8,_),(9,_)] (fun k=>[(9,Pt b9 (.cells (qaf (mkN a b s t k)).toArray 41))]) [(6,_),(7,_),(8,_)] 0 (Nat.zero_le _) rfl ⟨rfl,trivial⟩ ⟨rfl,rfl,rfl,rfl,rfl,rfl,trivial⟩ ⟨rfl,trivial⟩ ⟨rfl,rfl,rfl,trivial⟩ (fun g KLz hok hLz=>?_)
 obtain ⟨k,hk⟩ : ∃ k,k = g:=⟨_,rfl⟩
 rw [← hk] at hok ⊢
 have hk3 : k ≤ 4:=hok
 have hl:=mkN_len a b s t k
 refine Cd.seq fun K17 hK17=>?_
 refine Cd.qac [(0,false)] rfl rfl ?_
 refine Jp.y 14 rfl (qaa rfl) rfl rfl Kp.true (Y.lss rfl rfl rfl) ?_
 refine Jp.qae hK17 ?_
 refine Cd.seq fun K18 hK18=>?_
 refine Cd.qaq rfl (fun ga=>?_) (fun ga=>?_)
 ·have hk4 : k < 4:=by simp at ga; omega
  have hx:=qff (l:=s) (i:=k) (by omega)
  have hy:=qff (l:=t) (i:=k) (by omega)
  have hsk : skipM a b s t k ↔ ((s.getD k 0).toNat = 0 ∧ a / 2 ^ (8 * k) % 256 = 0) ∨ ((t.getD k 0).toNat = 0 ∧ b / 2 ^ (8 * k) % 256 = 0):=Iff.rfl
  have hyes : skipM a b s t k → mkN a b s t (k + 1) = mkN a b s t k:=fun h=>if_pos h
  have hno : ¬ skipM a b s t k → (mkN a b s t k).set k (s.getD k 0 ||| t.getD k 0) = mkN a b s t (k + 1):=fun h=>(if_neg h).symm
  obtain ⟨x,hxe⟩ : ∃ x,s.getD k 0 = x:=⟨_,rfl⟩
  obtain ⟨y,hye⟩ : ∃ y,t.getD k 0 = y:=⟨_,rfl⟩
  rw [hxe] at hx hsk hno
  rw [hye] at hy hsk hno
  have hba:=byte_of a k hk4
  have hbb:=byte_of b k hk4
  obtain ⟨xa,hxa⟩ : ∃ x,a / 2 ^ (8 * k) % 256 = x:=⟨_,rfl⟩
  obtain ⟨xb,hxb⟩ : ∃ x,b / 2 ^ (8 * k) % 256 = x:=⟨_,rfl⟩
  rw [hxa] at hsk hba
  rw [hxb] at hsk hbb
  refine Cd.qbw hK18 ?_
  refine Cd.seq fun K19 hK19=>?_
  refine Cd.block ?_
  refine Cd.seq fun K20 hK20=>?_
  refine Cd.qac [(0,false),(1,false)] rfl rfl ?_
  refine Jp.y 15 rfl (qaa rfl) rfl rfl Kp.true (Y.move rfl rfl) ?_
  refine Jp.y 10 rfl (qaa rfl) rfl rfl Kp.true (Y.assign rfl rfl) ?_
  refine Jp.qae hK20 ?_
  refine Cd.seq fun K21 hK21=>?_
  refine Cd.drawn [] trivial [(0,true),(1,true),(2,true),(3,true),(4,true),(5,true),(6,true),(7,true),(8,true),(9,true),(10,true),(11,true)] follows (by kernel_rfl) (fun hrl=>?_)
  refine Jp.q 16 rfl (qaa rfl) rfl rfl (Y.move rfl rfl) ?_
  refine Jp.q 17 rfl (qaa rfl) rfl rfl (Y.move rfl rfl) ?_
  refine Jp.q 18 rfl (qaa rfl) rfl rfl (Y.mul_ rfl rfl rfl (by exact qaj (by omega) (by omega))) ?_
  refine Jp.q 19 rfl (qaa rfl) rfl rfl (Y.shr rfl rfl rfl (by first | decide | omega)) ?_
  refine Jp.q 20 rfl (qaa rfl) rfl rfl (Y.qav rfl rfl underlying31 underlying5 (by rfl)) ?_
  refine Jp.q 21 rfl (qaa rfl) rfl rfl (Y.move rfl rfl) ?_
  refine Jp.q 22 rfl (qaa rfl) rfl rfl (Y.move rfl rfl) ?_
  refine Jp.q 23 rfl (qaa rfl) rfl rfl (Y.mul_ rfl rfl rfl (by exact qaj (by omega) (by omega))) ?_
  refine Jp.q 24 rfl (qaa rfl) rfl rfl (Y.shr rfl rfl rfl (by first | decide | omega)) ?_
  refine Jp.q 25 rfl (qaa rfl) rfl rfl (Y.qav rfl rfl underlying31 underlying5 (by rfl)) ?_
  refine Jp.q 11 rfl (qaa rfl) rfl rfl (Y.assign rfl rfl) ?_
  refine Jp.q 12 rfl (qaa rfl) rfl rfl (Y.assign rfl rfl) ?_
  refine Jp.qae hK21 ?_
  refine Cd.seq fun K23 hK23=>?_
  refine Cd.seq fun K24 hK24=>?_
  refine Cd.qac [(0,false),(1,false),(2,false),(3,false),(4,false),(5,false),(6,false),(7,false),(8,false),(9,false),(10,false),(11,false),(12,false),(13,false),(14,false),(15,false),(16,false),(17,false)] rfl rfl ?_
  refine Jp.slot 11 rfl (show _ = Value.int .u8 (xa : Int) from congrArg (Value.int .u8) hba) ?_
  refine Jp.slot 12 rfl (show _ = Value.int .u8 (xb : Int) from congrArg (Value.int .u8) hbb) ?_
  refine Jp.y 26 rfl (qaa rfl) rfl rfl Kp.true (Y.move rfl rfl) ?_
  refine Jp.y 27 rfl (qaa rfl) rfl rfl Kp.true (Y.qal (q:=k) rfl rfl rfl underlying41 sizeOf5 (by omega) (by omega) (by omega)) ?_
  refine Jp.y 28 rfl (qaa rfl) rfl rfl Kp.true (by exact Y.qbk 6 rfl isAgg5 rfl rfl (HasC.pt (qbf hx))) ?_
  refine Jp.y 29 rfl (qaa rfl) rfl rfl Kp.true (Y.eql rfl rfl rfl) ?_
  refine Jp.y 30 rfl (qaa rfl) rfl rfl Kp.true (Y.move rfl rfl) ?_
  refine Jp.split 30 rfl (fun g30=>?_) (fun g30=>?_)
  ·skip
   try simp only [sG0] at g30
   refine Jp.y 31 rfl (qab rfl rfl rfl rfl) rfl rfl Kp.true (Y.move rfl rfl) ?_
   refine Jp.y 32 rfl (qab rfl rfl rfl rfl) rfl rfl Kp.true (Y.eql rfl rfl rfl) ?_
   refine Jp.y 33 rfl (qaa rfl) rfl rfl Kp.true (Y.qba rfl rfl rfl) ?_
   refine Jp.y 34 rfl (qaa rfl) rfl rfl Kp.true (Y.move rfl rfl) ?_
   refine Jp.split 34 rfl (fun g34=>?_) (fun g34=>?_)
   ·skip
    try simp only [sG0] at g34
    refine Jp.qat 35 rfl (qab rfl rfl rfl rfl) rfl rfl Kp.true ?_
    refine Jp.qat 36 rfl (qab rfl rfl rfl rfl) rfl rfl Kp.true ?_
    refine Jp.qat 37 rfl (qab rfl rfl rfl rfl) rfl rfl Kp.true ?_
    refine Jp.qat 38 rfl (qab rfl rfl rfl rfl) rfl rfl Kp.true ?_
    refine Jp.qat 39 rfl (qab rfl rfl rfl rfl) rfl rfl Kp.true ?_
    refine Jp.qat 40 rfl (qdg rfl rfl rfl) rfl rfl Kp.true ?_
    refine Jp.qat 41 rfl (qdg rfl rfl rfl) rfl rfl Kp.true ?_
    refine Jp.qat 42 rfl (qab rfl rfl rfl rfl) rfl rfl Kp.true ?_
    refine Jp.y 43 rfl (qaa rfl) rfl rfl Kp.true (Y.qba rfl rfl rfl) ?_
    refine Jp.qae hK24 ?_
    refine Cd.qdk rfl ?_
    refine Cd.exit rfl hK19 ?_
    rw [← hyes (by rw [hsk]; omega)]
    refine Cd.qac [(0,false),(1,false)] rfl rfl ?_
    refine Jp.y 53 rfl (qaa rfl) rfl rfl Kp.true (Y.qcd rfl rfl rfl (by exact qaj (by omega) (by omega))) ?_
    refine Jp.y 13 rfl (qaa rfl) rfl rfl Kp.true (Y.move rfl rfl) ?_
    rw [show (k : Int) + 1 = ((k + 1 : Nat) : Int) by omega]
    refine Jp.again hLz (k + 1) hk4 (by omega) rfl ⟨rfl,rfl,rfl,rfl,rfl,rfl,rfl,trivial⟩ ⟨rfl,rfl,rfl,rfl,trivial⟩
   ·skip
    try simp only [sG0] at g34
    refine Jp.y 35 rfl (qab rfl rfl rfl rfl) rfl rfl Kp.true (Y.move rfl rfl) ?_
    refine Jp.y 36 rfl (qab rfl rfl rfl rfl) rfl rfl Kp.true (Y.qal (q:=k) rfl rfl rfl underlying41 sizeOf5 (by omega) (by omega) (by omega)) ?_
    refine Jp.y 37 rfl (qab rfl rfl rfl rfl) rfl rfl Kp.true (by exact Y.qbk 7 rfl isAgg5 rfl rfl (HasC.pt (qbf hy))) ?_
    refine Jp.y 38 rfl (qab rfl rfl rfl rfl) rfl rfl Kp.true (Y.eql rfl rfl rfl) ?_
    refine Jp.y 39 rfl (qab rfl rfl rfl rfl) rfl rfl Kp.true (Y.move rfl rfl) ?_
    refine Jp.split 39 rfl (fun g39=>?_) (fun g39=>?_)
    ·skip
     try simp only [sG0] at g39
     refine Jp.y 40 rfl (qab rfl rfl rfl rfl) rfl rfl Kp.true (Y.move rfl rfl) ?_
     refine Jp.y 41 rfl (qab rfl rfl rfl rfl) rfl rfl Kp.true (Y.eql rfl rfl rfl) ?_
     refine Jp.y 42 rfl (qab rfl rfl rfl rfl) rfl rfl Kp.true (Y.qba rfl rfl rfl) ?_
     refine Jp.y 43 rfl (qaa rfl) rfl rfl Kp.true (Y.qaz rfl rfl rfl) ?_
     refine Jp.qae hK24 ?_
     refine Cd.qaq rfl (fun g43=>?_) (fun g43=>?_)
     ·skip
      try simp only [sG0] at g43
      refine Cd.exit rfl hK19 ?_
      rw [← hyes (by rw [hsk]; omega)]
      refine Cd.qac [(0,false),(1,false)] rfl rfl ?_
      refine Jp.y 53 rfl (qaa rfl) rfl rfl Kp.true (Y.qcd rfl rfl rfl (by exact qaj (by omega) (by omega))) ?_
      refine Jp.y 13 rfl (qaa rfl) rfl rfl Kp.true (Y.move rfl rfl) ?_
      rw [show (k : Int) + 1 = ((k + 1 : Nat) : Int) by omega]
      refine Jp.again hLz (k + 1) hk4 (by omega) rfl ⟨rfl,rfl,rfl,rfl,rfl,rfl,rfl,trivial⟩ ⟨rfl,rfl,rfl,rfl,trivial⟩
     ·skip
      try simp only [sG0] at g43
      refine Cd.qbw hK23 ?_
      refine Cd.drawn3 [(6,_),(7,_),(9,_)] ⟨rfl,rfl,rfl,trivial⟩ [] [(0,true),(1,true),(2,true),(3,true),(4,true),(5,true),(6,true),(7,true),(8,true)] 9 [] follows (by kernel_rfl) (fun hrl=>?_)
      refine Jp2.head ?_
      refine Jp.q 44 rfl (qaa rfl) rfl rfl (Y.move rfl rfl) ?_
      refine Jp.q 45 rfl (qaa rfl) rfl rfl (Y.move rfl rfl) ?_
      refine Jp.q 46 rfl (qaa rfl) rfl rfl (Y.qal (q:=k) rfl rfl rfl underlying41 sizeOf5 (by omega) (by omega) (by omega)) ?_
      refine Jp.q 47 rfl (qaa rfl) rfl rfl (by exact Y.qbk 6 rfl isAgg5 rfl rfl (HasC.pt (qbf hx))) ?_
      refine Jp.q 48 rfl (qaa rfl) rfl rfl (Y.move rfl rfl) ?_
      refine Jp.q 49 rfl (qaa rfl) rfl rfl (Y.qal (q:=k) rfl rfl rfl underlying41 sizeOf5 (by omega) (by omega) (by omega)) ?_
      refine Jp.q 50 rfl (qaa rfl) rfl rfl (by exact Y.qbk 7 rfl isAgg5 rfl rfl (HasC.pt (qbf hy))) ?_
      refine Jp.q 51 rfl (qaa rfl) rfl rfl (Y.bits rfl rfl rfl rfl) ?_
      refine Jp.slot 51 rfl (show _ = Value.int .u8 ((x ||| y : UInt8).toNat : Int) from congrArg (Value.int .u8) (or8 x y)) ?_
      refine Jp.q 52 rfl (qaa rfl) rfl rfl (Y.qal (q:=k) rfl rfl rfl underlying41 sizeOf5 (by omega) (by omega) (by omega)) ?_
      refine Jp2.tail ?_
      refine Jp2.loud ?_
      refine Jp.qcx 9 (Pt b9 (.cells (qaf (mkN a b s t (k + 1))).toArray 41)) rfl (qaa rfl) rfl rfl sizeOf5 rfl rfl rfl rfl rfl (SetC.tag (x ||| y) hl hk4 (hno (by rw [hsk]; omega))) Kp.true ?_
      refine Jp2.tail ?_
      refine Jp2.nil ?_
      refine Jp.over rfl hK19 ?_
      refine Cd.qac [(0,false),(1,false)] rfl rfl ?_
      refine Jp.y 53 rfl (qaa rfl) rfl rfl Kp.true (Y.qcd rfl rfl rfl (by exact qaj (by omega) (by omega))) ?_
      refine Jp.y 13 rfl (qaa rfl) rfl rfl Kp.true (Y.move rfl rfl) ?_
      rw [show (k : Int) + 1 = ((k + 1 : Nat) : Int) by omega]
      refine Jp.again hLz (k + 1) hk4 (by omega) rfl ⟨rfl,rfl,rfl,rfl,rfl,rfl,rfl,trivial⟩ ⟨rfl,rfl,rfl,rfl,trivial⟩
    ·skip
     try simp only [sG0] at g39
     refine Jp.qat 40 rfl (qab rfl rfl rfl rfl) rfl rfl Kp.true ?_
     refine Jp.qat 41 rfl (qab rfl rfl rfl rfl) rfl rfl Kp.true ?_
     refine Jp.y 42 rfl (qab rfl rfl rfl rfl) rfl rfl Kp.true (Y.qaz rfl rfl rfl) ?_
     refine Jp.y 43 rfl (qaa rfl) rfl rfl Kp.true (Y.qaz rfl rfl rfl) ?_
     refine Jp.qae hK24 ?_
     refine Cd.qbu rfl ?_
     refine Cd.qbw hK23 ?_
     refine Cd.drawn3 [(6,_),(7,_),(9,_)] ⟨rfl,rfl,rfl,trivial⟩ [] [(0,true),(1,true),(2,true),(3,true),(4,true),(5,true),(6,true),(7,true),(8,true)] 9 [] follows (by kernel_rfl) (fun hrl=>?_)
     refine Jp2.head ?_
     refine Jp.q 44 rfl (qaa rfl) rfl rfl (Y.move rfl rfl) ?_
     refine Jp.q 45 rfl (qaa rfl) rfl rfl (Y.move rfl rfl) ?_
     refine Jp.q 46 rfl (qaa rfl) rfl rfl (Y.qal (q:=k) rfl rfl rfl underlying41 sizeOf5 (by omega) (by omega) (by omega)) ?_
     refine Jp.q 47 rfl (qaa rfl) rfl rfl (by exact Y.qbk 6 rfl isAgg5 rfl rfl (HasC.pt (qbf hx))) ?_
     refine Jp.q 48 rfl (qaa rfl) rfl rfl (Y.move rfl rfl) ?_
     refine Jp.q 49 rfl (qaa rfl) rfl rfl (Y.qal (q:=k) rfl rfl rfl underlying41 sizeOf5 (by omega) (by omega) (by omega)) ?_
     refine Jp.q 50 rfl (qaa rfl) rfl rfl (by exact Y.qbk 7 rfl isAgg5 rfl rfl (HasC.pt (qbf hy))) ?_
     refine Jp.q 51 rfl (qaa rfl) rfl rfl (Y.bits rfl rfl rfl rfl) ?_
     refine Jp.slot 51 rfl (show _ = Value.int .u8 ((x ||| y : UInt8).toNat : Int) from congrArg (Value.int .u8) (or8 x y)) ?_
     refine Jp.q 52 rfl (qaa rfl) rfl rfl (Y.qal (q:=k) rfl rfl rfl underlying41 sizeOf5 (by omega) (by omega) (by omega)) ?_
     refine Jp2.tail ?_
     refine Jp2.loud ?_
     refine Jp.qcx 9 (Pt b9 (.cells (qaf (mkN a b s t (k + 1))).toArray 41)) rfl (qaa rfl) rfl rfl sizeOf5 rfl rfl rfl rfl rfl (SetC.tag (x ||| y) hl hk4 (hno (by rw [hsk]; omega))) Kp.true ?_
     refine Jp2.tail ?_
     refine Jp2.nil ?_
     refine Jp.over rfl hK19 ?_
     refine Cd.qac [(0,false),(1,false)] rfl rfl ?_
     refine Jp.y 53 rfl (qaa rfl) rfl rfl Kp.true (Y.qcd rfl rfl rfl (by exact qaj (by omega) (by omega))) ?_
     refine Jp.y 13 rfl (qaa rfl) rfl rfl Kp.true (Y.move rfl rfl) ?_
     rw [show (k : Int) + 1 = ((k + 1 : Nat) : Int) by omega]
     refine Jp.again hLz (k + 1) hk4 (by omega) rfl ⟨rfl,rfl,rfl,rfl,rfl,rfl,rfl,trivial⟩ ⟨rfl,rfl,rfl,rfl,trivial⟩
  ·skip
   try simp only [sG0] at g30
   refine Jp.qat 31 rfl (qab rfl rfl rfl rfl) rfl rfl Kp.true ?_
   refine Jp.qat 32 rfl (qab rfl rfl rfl rfl) rfl rfl Kp.true ?_
   refine Jp.y 33 rfl (qaa rfl) rfl rfl Kp.true (Y.qaz rfl rfl rfl) ?_
   refine Jp.y 34 rfl (qaa rfl) rfl rfl Kp.true (Y.move rfl rfl) ?_
   refine Jp.y 35 rfl (qab rfl rfl rfl rfl) rfl rfl Kp.true (Y.move rfl rfl) ?_
   refine Jp.y 36 rfl (qab rfl rfl rfl rfl) rfl rfl Kp.true (Y.qal (q:=k) rfl rfl rfl underlying41 sizeOf5 (by omega) (by omega) (by omega)) ?_
   refine Jp.y 37 rfl (qab rfl rfl rfl rfl) rfl rfl Kp.true (by exact Y.qbk 7 rfl isAgg5 rfl rfl (HasC.pt (qbf hy))) ?_
   refine Jp.y 38 rfl (qab rfl rfl rfl rfl) rfl rfl Kp.true (Y.eql rfl rfl rfl) ?_
   refine Jp.y 39 rfl (qab rfl rfl rfl rfl) rfl rfl Kp.true (Y.move rfl rfl) ?_
   refine Jp.split 39 rfl (fun g39=>?_) (fun g39=>?_)
   ·skip
    try simp only [sG0] at g39
    refine Jp.y 40 rfl (qab rfl rfl rfl rfl) rfl rfl Kp.true (Y.move rfl rfl) ?_
    refine Jp.y 41 rfl (qab rfl rfl rfl rfl) rfl rfl Kp.true (Y.eql rfl rfl rfl) ?_
    refine Jp.y 42 rfl (qab rfl rfl rfl rfl) rfl rfl Kp.true (Y.qba rfl rfl rfl) ?_
    refine Jp.y 43 rfl (qaa rfl) rfl rfl Kp.true (Y.qaz rfl rfl rfl) ?_
    refine Jp.qae hK24 ?_
    refine Cd.qaq rfl (fun g43=>?_) (fun g43=>?_)
    ·skip
     try simp only [sG0] at g43
     refine Cd.exit rfl hK19 ?_
     rw [← hyes (by rw [hsk]; omega)]
     refine Cd.qac [(0,false),(1,false)] rfl rfl ?_
     refine Jp.y 53 rfl (qaa rfl) rfl rfl Kp.true (Y.qcd rfl rfl rfl (by exact qaj (by omega) (by omega))) ?_
     refine Jp.y 13 rfl (qaa rfl) rfl rfl Kp.true (Y.move rfl rfl) ?_
     rw [show (k : Int) + 1 = ((k + 1 : Nat) : Int) by omega]
     refine Jp.again hLz (k + 1) hk4 (by omega) rfl ⟨rfl,rfl,rfl,rfl,rfl,rfl,rfl,trivial⟩ ⟨rfl,rfl,rfl,rfl,trivial⟩
    ·skip
     try simp only [sG0] at g43
     refine Cd.qbw hK23 ?_
     refine Cd.drawn3 [(6,_),(7,_),(9,_)] ⟨rfl,rfl,rfl,trivial⟩ [] [(0,true),(1,true),(2,true),(3,true),(4,true),(5,true),(6,true),(7,true),(8,true)] 9 [] follows (by kernel_rfl) (fun hrl=>?_)
     refine Jp2.head ?_
     refine Jp.q 44 rfl (qaa rfl) rfl rfl (Y.move rfl rfl) ?_
     refine Jp.q 45 rfl (qaa rfl) rfl rfl (Y.move rfl rfl) ?_
     refine Jp.q 46 rfl (qaa rfl) rfl rfl (Y.qal (q:=k) rfl rfl rfl underlying41 sizeOf5 (by omega) (by omega) (by omega)) ?_
     refine Jp.q 47 rfl (qaa rfl) rfl rfl (by exact Y.qbk 6 rfl isAgg5 rfl rfl (HasC.pt (qbf hx))) ?_
     refine Jp.q 48 rfl (qaa rfl) rfl rfl (Y.move rfl rfl) ?_
     refine Jp.q 49 rfl (qaa rfl) rfl rfl (Y.qal (q:=k) rfl rfl rfl underlying41 sizeOf5 (by omega) (by omega) (by omega)) ?_
     refine Jp.q 50 rfl (qaa rfl) rfl rfl (by exact Y.qbk 7 rfl isAgg5 rfl rfl (HasC.pt (qbf hy))) ?_
     refine Jp.q 51 rfl (qaa rfl) rfl rfl (Y.bits rfl rfl rfl rfl) ?_
     refine Jp.slot 51 rfl (show _ = Value.int .u8 ((x ||| y : UInt8).toNat : Int) from congrArg (Value.int .u8) (or8 x y)) ?_
     refine Jp.q 52 rfl (qaa rfl) rfl rfl (Y.qal (q:=k) rfl rfl rfl underlying41 sizeOf5 (by omega) (by omega) (by omega)) ?_
     refine Jp2.tail ?_
     refine Jp2.loud ?_
     refine Jp.qcx 9 (Pt b9 (.cells (qaf (mkN a b s t (k + 1))).toArray 41)) rfl (qaa rfl) rfl rfl sizeOf5 rfl rfl rfl rfl rfl (SetC.tag (x ||| y) hl hk4 (hno (by rw [hsk]; omega))) Kp.true ?_
     refine Jp2.tail ?_
     refine Jp2.nil ?_
     refine Jp.over rfl hK19 ?_
     refine Cd.qac [(0,false),(1,false)] rfl rfl ?_
     refine Jp.y 53 rfl (qaa rfl) rfl rfl Kp.true (Y.qcd rfl rfl rfl (by exact qaj (by omega) (by omega))) ?_
     refine Jp.y 13 rfl (qaa rfl) rfl rfl Kp.true (Y.move rfl rfl) ?_
     rw [show (k : Int) + 1 = ((k + 1 : Nat) : Int) by omega]
     refine Jp.again hLz (k + 1) hk4 (by omega) rfl ⟨rfl,rfl,rfl,rfl,rfl,rfl,rfl,trivial⟩ ⟨rfl,rfl,rfl,rfl,trivial⟩
   ·skip
    try simp only [sG0] at g39
    refine Jp.qat 40 rfl (qab rfl rfl rfl rfl) rfl rfl Kp.true ?_
    refine Jp.qat 41 rfl (qab rfl rfl rfl rfl) rfl rfl Kp.true ?_
    refine Jp.y 42 rfl (qab rfl rfl rfl rfl) rfl rfl Kp.true (Y.qaz rfl rfl rfl) ?_
    refine Jp.y 43 rfl (qaa rfl) rfl rfl Kp.true (Y.qaz rfl rfl rfl) ?_
    refine Jp.qae hK24 ?_
    refine Cd.qbu rfl ?_
    refine Cd.qbw hK23 ?_
    refine Cd.drawn3 [(6,_),(7,_),(9,_)] ⟨rfl,rfl,rfl,trivial⟩ [] [(0,true),(1,true),(2,true),(3,true),(4,true),(5,true),(6,true),(7,true),(8,true)] 9 [] follows (by kernel_rfl) (fun hrl=>?_)
    refine Jp2.head ?_
    refine Jp.q 44 rfl (qaa rfl) rfl rfl (Y.move rfl rfl) ?_
    refine Jp.q 45 rfl (qaa rfl) rfl rfl (Y.move rfl rfl) ?_
    refine Jp.q 46 rfl (qaa rfl) rfl rfl (Y.qal (q:=k) rfl rfl rfl underlying41 sizeOf5 (by omega) (by omega) (by omega)) ?_
    refine Jp.q 47 rfl (qaa rfl) rfl rfl (by exact Y.qbk 6 rfl isAgg5 rfl rfl (HasC.pt (qbf hx))) ?_
    refine Jp.q 48 rfl (qaa rfl) rfl rfl (Y.move rfl rfl) ?_
    refine Jp.q 49 rfl (qaa rfl) rfl rfl (Y.qal (q:=k) rfl rfl rfl underlying41 sizeOf5 (by omega) (by omega) (by omega)) ?_
    refine Jp.q 50 rfl (qaa rfl) rfl rfl (by exact Y.qbk 7 rfl isAgg5 rfl rfl (HasC.pt (qbf hy))) ?_
    refine Jp.q 51 rfl (qaa rfl) rfl rfl (Y.bits rfl rfl rfl rfl) ?_
    refine Jp.slot 51 rfl (show _ = Value.int .u8 ((x ||| y : UInt8).toNat : Int) from congrArg (Value.int .u8) (or8 x y)) ?_
    refine Jp.q 52 rfl (qaa rfl) rfl rfl (Y.qal (q:=k) rfl rfl rfl underlying41 sizeOf5 (by omega) (by omega) (by omega)) ?_
    refine Jp2.tail ?_
    refine Jp2.loud ?_
    refine Jp.qcx 9 (Pt b9 (.cells (qaf (mkN a b s t (k + 1))).toArray 41)) rfl (qaa rfl) rfl rfl sizeOf5 rfl rfl rfl rfl rfl (SetC.tag (x ||| y) hl hk4 (hno (by rw [hsk]; omega))) Kp.true ?_
    refine Jp2.tail ?_
    refine Jp2.nil ?_
    refine Jp.over rfl hK19 ?_
    refine Cd.qac [(0,false),(1,false)] rfl rfl ?_
    refine Jp.y 53 rfl (qaa rfl) rfl rfl Kp.true (Y.qcd rfl rfl rfl (by exact qaj (by omega) (by omega))) ?_
    refine Jp.y 13 rfl (qaa rfl) rfl rfl Kp.true (Y.move rfl rfl) ?_
    rw [show (k : Int) + 1 = ((k + 1 : Nat) : Int) by omega]
    refine Jp.again hLz (k + 1) hk4 (by omega) rfl ⟨rfl,rfl,rfl,rfl,rfl,rfl,rfl,trivial⟩ ⟨rfl,rfl,rfl,rfl,trivial⟩
 ·have hk4 : k = 4:=by simp at ga; omega
  rw [hk4]
  refine Cd.exit rfl hK15 ?_
  refine Cd.seq fun K25 hK25=>?_
  refine Cd.qac [(0,false),(1,false)] rfl rfl ?_
  refine Jp.y 54 rfl (qaa rfl) rfl rfl Kp.true (by exact Y.qag 9 rfl isAgg41 sizeOf41 rfl rfl (by first | rfl | assumption)) ?_
  refine Jp.qah 8 rfl (qaa rfl) rfl rfl sizeOf41 rfl rfl (by first | rfl | assumption) (by first | rfl | assumption) rfl (by first | rfl | assumption) (fun k _ _=>qap k) Kp.true ?_
  refine Jp.qae hK25 ?_
  refine Cd.ret [] rfl (by exact qer 8 rfl rfl isAgg41 sizeOf41 rfl (by first | rfl | assumption)) trivial ⟨rfl,rfl,rfl⟩
end Go.Proofs.Ytnfkalpgidiafaa

namespace Go.Proofs.Ytnfkalpgidiafaa
open _root_.Go.Proofs.Try
open Go
def shN (k n : Nat) (s : qam) : Nat → qam
 | 0=>[0,0,0,0]
 | p + 1=>if 0 ≤ srcI k p n ∧ srcI k p n < 32 then (shN k n s p).set (p / 8) ((shN k n s p).getD (p / 8) 0 ||| s.getD ((srcI k p n).toNat / 8) 0) else shN k n s p
theorem shN_len (k n : Nat) (s : qam) : ∀ p,(shN k n s p).length = 4
 | 0=>rfl
 | p + 1=>by
  rw [shN]
  split
  ·rw [List.length_set]; exact shN_len k n s p
  ·exact shN_len k n s p
theorem qfc (k n : Nat) (s : qam) (hn : n < 32) (hs : s.length = 4) : Spec Try.prog 72 #[.int .i64 k,.int .i64 n,.agg (qaf s).toArray] (fun _=>True) []
  (fun ρ ρ' v L=>ρ' = ρ ∧ v = .agg (qaf (shN k n s 32)).toArray ∧ L = []):=by
 refine Spec.of 34 Try.func72 rfl Try.ntmps72 [(0,_),(1,_),(2,_)] rfl rfl ?_
 intro cx ρ hr h0
 have hjl : (qaf (shN k n s 32)).length = 4:=by rw [qbc,shN_len]
 have hjo:=qbd (shN k n s 32)
 refine Cd.seq fun K1 hK1=>?_
 refine Cd.qac [(0,false),(1,false)] rfl rfl ?_
 refine Jp.box 5 5 rfl (qaa rfl) rfl rfl rfl rfl fun b5=>⟨Kp.true,?_⟩
 refine Jp.alloc 6 6 rfl (qaa rfl) rfl rfl rfl zeroValue41 fun b6=>⟨Kp.true,?_⟩
 refine Jp.qae hK1 ?_
 refine Cd.seq fun K2 hK2=>?_
 refine Cd.qac [(0,false)] rfl rfl ?_
 refine Jp.alloc 7 7 rfl (qaa rfl) rfl rfl rfl zeroValue41 fun b7=>⟨Kp.true,?_⟩
 refine Jp.qae hK2 ?_
 refine Cd.seq fun K3 hK3=>?_
 refine Cd.seq fun K4 hK4=>?_
 refine Cd.qac [(0,false)] rfl rfl ?_
 refine Jp.y 11 rfl (qaa rfl) rfl rfl Kp.true (Y.move rfl rfl) ?_
 refine Jp.qae hK4 ?_
 refine Cd.block ?_
 refine Cd.imp (i:=7) rfl (fun h hh=>(show Pt b7 (.cells (qaf (shN k n s 0)).toArray 41) h from hh)) ?_
 refine Cd.qfl (G:=Nat) (fun p=>p ≤ 32) (fun p=>32 - p) (fun _=>_) (fun p=>[(11,.int .i64 (p : Int))]) [(0,_),(1,_),(5,_),(6,_),(7,_)] (fun p=>[(7,Pt b7 (.cells (qaf (shN k n s p)).toArray 41))]) [(5,_),(6,_)] 0 (Nat.zero_le _) rfl ⟨rfl,trivial⟩ ⟨rfl,rfl,rfl,rfl,rfl,trivial⟩ ⟨rfl,trivial⟩ ⟨rfl,rfl,trivial⟩ (fun g KLz hok hLz=>?_)
 obtain ⟨p,hp⟩ : ∃ p,p = g:=⟨_,rfl⟩
 rw [← hp] at hok ⊢
 have hp3 : p ≤ 32:=hok
 have hl:=shN_len k n s p
 refine Cd.seq fun K5 hK5=>?_
 refine Cd.qac [(0,false)] rfl rfl ?_
 refine Jp.y 12 rfl (qaa rfl) rfl rfl Kp.true (Y.lss rfl rfl rfl) ?_
 refine Jp.qae hK5 ?_
 refine Cd.seq fun K6 hK6=>?_
 refine Cd.qaq rfl (fun ga=>?_) (fun ga=>?_)
 ·have hp4 : p < 32:=by simp at ga; omega
  have hyes : (0 ≤ srcI k p n ∧ srcI k p n < 32) → (shN k n s p).set (p / 8) ((shN k n s p).getD (p / 8) 0 ||| s.getD ((srcI k p n).toNat / 8) 0) = shN k n s (p + 1):=fun h=>(if_pos h).symm
  have hno : ¬ (0 ≤ srcI k p n ∧ srcI k p n < 32) → shN k n s p = shN k n s (p + 1):=fun h=>(if_neg h).symm
  have hS:=source_spec k p n hp4 hn
  obtain ⟨S,hSe⟩ : ∃ S,srcI k p n = S:=⟨_,rfl⟩
  rw [hSe] at hS hyes hno
  refine Cd.qbw hK6 ?_
  refine Cd.seq fun K7 hK7=>?_
  refine Cd.block ?_
  refine Cd.seq fun K8 hK8=>?_
  refine Cd.qac [(0,false),(1,false)] rfl rfl ?_
  refine Jp.y 13 rfl (qaa rfl) rfl rfl Kp.true (Y.move rfl rfl) ?_
  refine Jp.y 8 rfl (qaa rfl) rfl rfl Kp.true (Y.assign rfl rfl) ?_
  refine Jp.qae hK8 ?_
  refine Cd.seq fun K9 hK9=>?_
  refine Cd.qac [(0,false),(1,false),(2,false),(3,false),(4,false),(5,false),(6,false),(7,false),(8,false)] rfl rfl ?_
  refine Jp.y 15 rfl (qaa rfl) rfl rfl Kp.true (Y.move rfl rfl) ?_
  refine Jp.y 16 rfl (qaa rfl) rfl rfl Kp.true (Y.move rfl rfl) ?_
  refine Jp.y 17 rfl (qaa rfl) rfl rfl Kp.true (Y.move rfl rfl) ?_
  refine Jp.call [] [] hS 18 rfl (qaa rfl) rfl rfl (Runs.fn rfl call85 rfl) (by decide) (by decide) rfl trivial ?_
  rintro v1 ρ1 L1 ⟨rfl,rfl,rfl⟩
  refine ⟨rfl,fun hle1=>⟨Kp.true,?_⟩⟩
  refine Jp.y 14 rfl (qaa rfl) rfl rfl Kp.true (Y.move rfl rfl) ?_
  refine Jp.y 19 rfl (qaa rfl) rfl rfl Kp.true (Y.extract rfl rfl rfl) ?_
  refine Jp.y 20 rfl (qaa rfl) rfl rfl Kp.true (Y.extract rfl rfl rfl) ?_
  refine Jp.y 9 rfl (qaa rfl) rfl rfl Kp.true (Y.assign rfl rfl) ?_
  refine Jp.y 10 rfl (qaa rfl) rfl rfl Kp.true (Y.assign rfl rfl) ?_
  refine Jp.qae hK9 ?_
  refine Cd.seq fun K10 hK10=>?_
  refine Cd.qac [(0,false)] rfl rfl ?_
  refine Jp.y 21 rfl (qaa rfl) rfl rfl Kp.true (Y.move rfl rfl) ?_
  refine Jp.qae hK10 ?_
  refine Cd.qaq rfl (fun gs=>?_) (fun gs=>?_)
  ·have hq:=of_decide_eq_true gs
   have hyes:=hyes hq
   clear hno
   obtain ⟨q,rfl⟩:=Int.eq_ofNat_of_zero_le hq.1
   rw [Int.toNat_natCast] at hyes
   have hx:=qff (l:=shN k n s p) (i:=p / 8) (by omega)
   have hy:=qff (l:=s) (i:=q / 8) (by omega)
   refine Cd.drawn3 [(5,_),(7,_)] ⟨rfl,rfl,trivial⟩ [] [(0,true),(1,true),(2,true),(3,true),(4,true),(5,true),(6,true),(7,true),(8,true),(9,true)] 10 [] follows (by kernel_rfl) (fun hrl=>?_)
   refine Jp2.head ?_
   refine Jp.q 22 rfl (qaa rfl) rfl rfl (Y.move rfl rfl) ?_
   refine Jp.q 23 rfl (qaa rfl) rfl rfl (by exact Y.quoN rfl rfl rfl (by omega) (by omega) (qaj (by omega) (by omega))) ?_
   refine Jp.slot 23 rfl (show _ = Value.int .i64 ((p / 8 : Nat) : Int) from congrArg (Value.int .i64) (by omega)) ?_
   refine Jp.q 24 rfl (qaa rfl) rfl rfl (Y.qal (q:=p / 8) rfl rfl rfl underlying41 sizeOf5 (by omega) (by omega) (by omega)) ?_
   refine Jp.q 25 rfl (qaa rfl) rfl rfl (by exact Y.qbk 7 rfl isAgg5 rfl rfl (HasC.pt (qbf hx))) ?_
   refine Jp.q 26 rfl (qaa rfl) rfl rfl (Y.move rfl rfl) ?_
   refine Jp.q 27 rfl (qaa rfl) rfl rfl (by exact Y.quoN rfl rfl rfl (by omega) (by omega) (qaj (by omega) (by omega))) ?_
   refine Jp.slot 27 rfl (show _ = Value.int .i64 ((q / 8 : Nat) : Int) from congrArg (Value.int .i64) (by omega)) ?_
   refine Jp.q 28 rfl (qaa rfl) rfl rfl (Y.qal (q:=q / 8) rfl rfl rfl underlying41 sizeOf5 (by omega) (by omega) (by omega)) ?_
   refine Jp.q 29 rfl (qaa rfl) rfl rfl (by exact Y.qbk 5 rfl isAgg5 rfl rfl (HasC.pt (qbf hy))) ?_
   refine Jp.q 30 rfl (qaa rfl) rfl rfl (Y.bits rfl rfl rfl rfl) ?_
   refine Jp.slot 30 rfl (show _ = Value.int .u8 (((shN k n s p).getD (p / 8) 0 ||| s.getD (q / 8) 0 : UInt8).toNat : Int) from congrArg (Value.int .u8) (or8 _ _)) ?_
   refine Jp.q 31 rfl (qaa rfl) rfl rfl (Y.qal (q:=p / 8) rfl rfl rfl underlying41 sizeOf5 (by omega) (by omega) (by omega)) ?_
   refine Jp2.tail ?_
   refine Jp2.loud ?_
   refine Jp.qcx 7 (Pt b7 (.cells (qaf (shN k n s (p + 1))).toArray 41)) rfl (qaa rfl) rfl rfl sizeOf5 rfl rfl rfl rfl rfl (SetC.tag _ hl (by omega) hyes) Kp.true ?_
   refine Jp2.tail ?_
   refine Jp2.nil ?_
   refine Jp.over rfl hK7 ?_
   refine Cd.qac [(0,false),(1,false)] rfl rfl ?_
   refine Jp.y 32 rfl (qaa rfl) rfl rfl Kp.true (Y.qcd rfl rfl rfl (by exact qaj (by omega) (by omega))) ?_
   refine Jp.y 11 rfl (qaa rfl) rfl rfl Kp.true (Y.move rfl rfl) ?_
   rw [show (p : Int) + 1 = ((p + 1 : Nat) : Int) by omega]
   refine Jp.again hLz (p + 1) hp4 (by omega) rfl ⟨rfl,rfl,rfl,rfl,rfl,rfl,trivial⟩ ⟨rfl,rfl,rfl,trivial⟩
  ·have hq:=of_decide_eq_false gs
   rw [hno hq]
   refine Cd.over rfl hK7 ?_
   refine Cd.qac [(0,false),(1,false)] rfl rfl ?_
   refine Jp.y 32 rfl (qaa rfl) rfl rfl Kp.true (Y.qcd rfl rfl rfl (by exact qaj (by omega) (by omega))) ?_
   refine Jp.y 11 rfl (qaa rfl) rfl rfl Kp.true (Y.move rfl rfl) ?_
   rw [show (p : Int) + 1 = ((p + 1 : Nat) : Int) by omega]
   refine Jp.again hLz (p + 1) hp4 (by omega) rfl ⟨rfl,rfl,rfl,rfl,rfl,rfl,trivial⟩ ⟨rfl,rfl,rfl,trivial⟩
 ·have hp4 : p = 32:=by simp at ga; omega
  rw [hp4]
  refine Cd.exit rfl hK3 ?_
  refine Cd.seq fun K11 hK11=>?_
  refine Cd.qac [(0,false),(1,false)] rfl rfl ?_
  refine Jp.y 33 rfl (qaa rfl) rfl rfl Kp.true (by exact Y.qag 7 rfl isAgg41 sizeOf41 rfl rfl (by first | rfl | assumption)) ?_
  refine Jp.qah 6 rfl (qaa rfl) rfl rfl sizeOf41 rfl rfl (by first | rfl | assumption) (by first | rfl | assumption) rfl (by first | rfl | assumption) (fun k _ _=>qap k) Kp.true ?_
  refine Jp.qae hK11 ?_
  refine Cd.ret [] rfl (by exact qer 6 rfl rfl isAgg41 sizeOf41 rfl (by first | rfl | assumption)) trivial ⟨rfl,rfl,rfl⟩
end Go.Proofs.Ytnfkalpgidiafaa

namespace Go.Proofs.Ytnfkalpgidiafaa
open _root_.Go.Proofs.Try
open Go
def qfg (k b : Nat) (a : Nat) (s t : qam) : qam :=
 if k = 5 ∨ k = 8 then qdj s t else if k = 9 then mkN a b s t 4 else if k = 0 ∨ k = 1 ∨ k = 10 then upT (qdj s t) else
 if k = 2 ∨ k = 6 ∨ k = 7 then (if (t.getD 0 0).toNat = 0 then shN k (b % 32) s 32 else List.replicate 4 (allT s ||| t.getD 0 0)) else
 if k = 3 ∨ k = 4 then [allT s ||| allT t,0,0,0] else List.replicate 4 (allT s ||| allT t)
theorem flowT_len (k b a : Nat) {s t : qam} (hs : s.length = 4) (ht : t.length = 4) : (qfg k b a s t).length = 4:=by
 unfold qfg
 repeat' split
 all_goals first | exact qdu hs ht | exact mkN_len .. | exact shN_len .. | rfl | (rw [upT,upN_len]; exact qdu hs ht)
theorem qhd (k a b : Nat) (s t : qam) (hk : k ≤ 17) (ha : a < 4294967296) (hb : b < 4294967296) (hs : s.length = 4) (ht : t.length = 4) :
  Spec Try.prog 51 #[.int .i64 k,.int .u32 a,.int .u32 b,.agg (qaf s).toArray,.agg (qaf t).toArray] (fun _=>True) []
  (fun ρ ρ' v L=>ρ' = ρ ∧ v = .tuple #[.agg (qaf (qfg k b a s t)).toArray,.int .i64 0] ∧ L = []):=by
 refine Spec.of 79 Try.func51 rfl Try.ntmps51 [(0,_),(1,_),(2,_),(3,_),(4,_)] rfl rfl ?_
 intro cx ρ hr h0
 have hF5 : Unit → (k = 5 ∨ k = 8) → qfg k b a s t = qdj s t:=fun _ h=>if_pos h
 have hF9 : Unit → k = 9 → qfg k b a s t = mkN a b s t 4:=fun _ h=>by rw [qfg,if_neg (by omega),if_pos h]
 have hF0 : Unit → (k = 0 ∨ k = 1 ∨ k = 10) → qfg k b a s t = upT (qdj s t):=fun _ h=>by rw [qfg,if_neg (by omega),if_neg (by omega),if_pos h]
 have hF2 : Unit → (k = 2 ∨ k = 6 ∨ k = 7) → (t.getD 0 0).toNat = 0 → qfg k b a s t = shN k (b % 32) s 32:=fun _ h h'=>by rw [qfg,if_neg (by omega),if_neg (by omega),if_neg (by omega),if_pos h,if_pos h']
 have hF3 : Unit → (k = 2 ∨ k = 6 ∨ k = 7) → ¬ (t.getD 0 0).toNat = 0 → qfg k b a s t = List.replicate 4 (allT s ||| t.getD 0 0):=fun _ h h'=>by rw [qfg,if_neg (by omega),if_neg (by omega),if_neg (by omega),if_pos h,if_neg h']
 have hF4 : Unit → (k = 3 ∨ k = 4) → qfg k b a s t = [allT s ||| allT t,0,0,0]:=fun _ h=>by rw [qfg,if_neg (by omega),if_neg (by omega),if_neg (by omega),if_neg (by omega),if_pos h]
 have hF7 : Unit → ¬ (k ≤ 10) → qfg k b a s t = List.replicate 4 (allT s ||| allT t):=fun _ h=>by rw [qfg,if_neg (by omega),if_neg (by omega),if_neg (by omega),if_neg (by omega),if_neg (by omega)]
 have hFl:=flowT_len k b a hs ht
 have hjT:=qdu hs ht
 have l1 : (qaf (qdj s t)).length = 4:=by rw [qbc,hjT]
 have o1:=qbd (qdj s t)
 have l2 : (qaf (mkN a b s t 4)).length = 4:=by rw [qbc,mkN_len]
 have o2:=qbd (mkN a b s t 4)
 have l3 : (qaf (upT (qdj s t))).length = 4:=by rw [qbc,upT,upN_len,hjT]
 have o3:=qbd (upT (qdj s t))
 have l4 : (qaf (shN k (b % 32) s 32)).length = 4:=by rw [qbc,shN_len]
 have o4:=qbd (shN k (b % 32) s 32)
 have l5 : (qaf s).length = 4:=by rw [qbc,hs]
 have l6 : (qaf t).length = 4:=by rw [qbc,ht]
 have hy:=qff (l:=t) (i:=0) (by omega)
 have hm : b % 32 < 32:=Nat.mod_lt _ (by decide)
 obtain ⟨y,hye⟩ : ∃ y,t.getD 0 0 = y:=⟨_,rfl⟩
 rw [hye] at hy hF2 hF3
 refine Cd.seq fun K1 hK1=>?_
 refine Cd.qac [(0,false),(1,false),(2,false),(3,false)] rfl rfl ?_
 refine Jp.box 8 8 rfl (qaa rfl) rfl rfl rfl rfl fun b8=>⟨Kp.true,?_⟩
 refine Jp.box 9 9 rfl (qaa rfl) rfl rfl rfl rfl fun b9=>⟨Kp.true,?_⟩
 refine Jp.alloc 10 10 rfl (qaa rfl) rfl rfl rfl zeroValue41 fun b10=>⟨Kp.true,?_⟩
 refine Jp.y 11 rfl (qaa rfl) rfl rfl Kp.true (Y.assign rfl rfl) ?_
 refine Jp.qae hK1 ?_
 refine Cd.seq fun K2 hK2=>?_
 refine Cd.seq fun K3 hK3=>?_
 refine Cd.qac [(0,false),(1,false),(2,false),(3,false),(4,false),(5,false),(6,false),(7,false),(8,false)] rfl rfl ?_
 refine Jp.y 16 rfl (qaa rfl) rfl rfl Kp.true (Y.move rfl rfl) ?_
 refine Jp.y 17 rfl (qaa rfl) rfl rfl Kp.true (Y.move rfl rfl) ?_
 refine Jp.y 18 rfl (qaa rfl) rfl rfl Kp.true (Y.move rfl rfl) ?_
 refine Jp.call [] [] (do_spec k a b hk ha hb) 19 rfl (qaa rfl) rfl rfl (Runs.fn rfl call69 rfl) (by decide) (by decide) rfl trivial ?_
 rintro v1 ρ1 L1 ⟨rfl,rfl,rfl⟩
 refine ⟨rfl,fun hle1=>⟨Kp.true,?_⟩⟩
 refine Jp.y 15 rfl (qaa rfl) rfl rfl Kp.true (Y.move rfl rfl) ?_
 refine Jp.y 20 rfl (qaa rfl) rfl rfl Kp.true (Y.extract rfl rfl rfl) ?_
 refine Jp.y 21 rfl (qaa rfl) rfl rfl Kp.true (Y.extract rfl rfl rfl) ?_
 refine Jp.y 12 rfl (qaa rfl) rfl rfl Kp.true (Y.assign rfl rfl) ?_
 refine Jp.y 13 rfl (qaa rfl) rfl rfl Kp.true (Y.assign rfl rfl) ?_
 refine Jp.qae hK3 ?_
 refine Cd.seq fun K4 hK4=>?_
 refine Cd.qac [(0,false),(1,false)] rfl rfl ?_
 refine Jp.y 22 rfl (qaa rfl) rfl rfl Kp.true (Y.move rfl rfl) ?_
 refine Jp.y 23 rfl (qaa rfl) rfl rfl Kp.true (Y.neq rfl rfl rfl) ?_
 refine Jp.qae hK4 ?_
 refine Cd.qaq rfl (fun ge=>?_) (fun ge=>?_)
 ·exact absurd ge (by simp)
 ·skip
  refine Cd.qbw hK2 ?_
  refine Cd.seq fun K5 hK5=>?_
  refine Cd.drawn [(8,_),(9,_)] ⟨rfl,rfl,trivial⟩ [(0,true),(2,true),(1,false),(3,false),(4,true),(5,true)] follows (by kernel_rfl) (fun hrl=>?_)
  refine Jp.q 26 rfl (qaa rfl) rfl rfl (by exact Y.qag 8 rfl isAgg41 sizeOf41 rfl rfl (by first | rfl | assumption)) ?_
  refine Jp.q 28 rfl (qaa rfl) rfl rfl (by exact Y.qag 9 rfl isAgg41 sizeOf41 rfl rfl (by first | rfl | assumption)) ?_
  refine Jp.call [] [] (qcm s hs) 27 rfl (qaa rfl) rfl rfl (Runs.fn rfl call39 rfl) (by decide) (by decide) rfl trivial ?_
  rintro v2 ρ2 L2 ⟨rfl,rfl,rfl⟩
  refine ⟨rfl,fun hle2=>⟨(Kp.st ⟨rfl,rfl,trivial⟩),?_⟩⟩
  refine Jp.call [] [] (qcm t ht) 29 rfl (qaa rfl) rfl rfl (Runs.fn rfl call39 rfl) (by decide) (by decide) rfl trivial ?_
  rintro v3 ρ3 L3 ⟨rfl,rfl,rfl⟩
  refine ⟨rfl,fun hle3=>⟨(Kp.st ⟨rfl,rfl,trivial⟩),?_⟩⟩
  refine Jp.q 30 rfl (qaa rfl) rfl rfl (Y.bits rfl rfl rfl rfl) ?_
  refine Jp.q 14 rfl (qaa rfl) rfl rfl (Y.assign rfl rfl) ?_
  refine Jp.qae hK5 ?_
  refine Cd.seq fun K7 hK7=>?_
  refine Cd.seq fun K8 hK8=>?_
  refine Cd.qac [(0,false)] rfl rfl ?_
  refine Jp.slot 14 rfl (show _ = Value.int .u8 ((allT s ||| allT t : UInt8).toNat : Int) from congrArg (Value.int .u8) (or8 _ _)) ?_
  refine Jp.y 31 rfl (qaa rfl) rfl rfl Kp.true (Y.move rfl rfl) ?_
  refine Jp.qae hK8 ?_
  refine Cd.block ?_
  refine Cd.seq fun K9 hK9=>?_
  refine Cd.seq fun K10 hK10=>?_
  refine Cd.qac [(0,false),(1,false)] rfl rfl ?_
  refine Jp.y 33 rfl (qaa rfl) rfl rfl Kp.true (Y.eql rfl rfl rfl) ?_
  refine Jp.y 32 rfl (qaa rfl) rfl rfl Kp.true (Y.assign rfl rfl) ?_
  refine Jp.qae hK10 ?_
  refine Cd.qaq rfl (fun g32=>?_) (fun g32=>?_)
  ·skip
   refine Cd.slot 32 rfl (show _ = Value.bool true from congrArg Value.bool g32) ?_
   try simp only [sG0] at g32
   refine Cd.qbw hK9 ?_
   refine Cd.qdk rfl ?_
   refine Cd.seq fun K11 hK11=>?_
   refine Cd.qac [(0,false),(1,false),(2,false),(3,false),(4,false)] rfl rfl ?_
   refine Jp.y 35 rfl (qaa rfl) rfl rfl Kp.true (by exact Y.qag 8 rfl isAgg41 sizeOf41 rfl rfl (by first | rfl | assumption)) ?_
   refine Jp.y 36 rfl (qaa rfl) rfl rfl Kp.true (by exact Y.qag 9 rfl isAgg41 sizeOf41 rfl rfl (by first | rfl | assumption)) ?_
   refine Jp.call [] [] (qdt s t hs ht) 37 rfl (qaa rfl) rfl rfl (Runs.fn rfl call45 rfl) (by decide) (by decide) rfl trivial ?_
   rintro v101 ρ101 L101 ⟨rfl,rfl,rfl⟩
   refine ⟨rfl,fun hle101=>⟨Kp.true,?_⟩⟩
   refine Jp.qah 10 rfl (qaa rfl) rfl rfl sizeOf41 rfl rfl (by first | rfl | assumption) (by first | rfl | assumption) rfl (by first | rfl | assumption) (fun k _ _=>qap k) Kp.true ?_
   refine Jp.y 11 rfl (qaa rfl) rfl rfl Kp.true (Y.assign rfl rfl) ?_
   refine Jp.qae hK11 ?_
   refine Cd.ret [] rfl (by exact qgd 10 rfl rfl isAgg41 sizeOf41 rfl (by first | rfl | assumption) rfl) trivial ⟨rfl, by
    (rw [hF5 () (by omega)]; done), rfl⟩
  ·skip
   try simp only [sG0] at g32
   refine Cd.qac [(0,false),(1,false)] rfl rfl ?_
   refine Jp.y 34 rfl (qaa rfl) rfl rfl Kp.true (Y.eql rfl rfl rfl) ?_
   refine Jp.y 32 rfl (qaa rfl) rfl rfl Kp.true (Y.assign rfl rfl) ?_
   refine Jp.qae hK9 ?_
   refine Cd.qaq rfl (fun g32=>?_) (fun g32=>?_)
   ·skip
    try simp only [sG0] at g32
    refine Cd.seq fun K12 hK12=>?_
    refine Cd.qac [(0,false),(1,false),(2,false),(3,false),(4,false)] rfl rfl ?_
    refine Jp.y 35 rfl (qaa rfl) rfl rfl Kp.true (by exact Y.qag 8 rfl isAgg41 sizeOf41 rfl rfl (by first | rfl | assumption)) ?_
    refine Jp.y 36 rfl (qaa rfl) rfl rfl Kp.true (by exact Y.qag 9 rfl isAgg41 sizeOf41 rfl rfl (by first | rfl | assumption)) ?_
    refine Jp.call [] [] (qdt s t hs ht) 37 rfl (qaa rfl) rfl rfl (Runs.fn rfl call45 rfl) (by decide) (by decide) rfl trivial ?_
    rintro v102 ρ102 L102 ⟨rfl,rfl,rfl⟩
    refine ⟨rfl,fun hle102=>⟨Kp.true,?_⟩⟩
    refine Jp.qah 10 rfl (qaa rfl) rfl rfl sizeOf41 rfl rfl (by first | rfl | assumption) (by first | rfl | assumption) rfl (by first | rfl | assumption) (fun k _ _=>qap k) Kp.true ?_
    refine Jp.y 11 rfl (qaa rfl) rfl rfl Kp.true (Y.assign rfl rfl) ?_
    refine Jp.qae hK12 ?_
    refine Cd.ret [] rfl (by exact qgd 10 rfl rfl isAgg41 sizeOf41 rfl (by first | rfl | assumption) rfl) trivial ⟨rfl, by
     (rw [hF5 () (by omega)]; done), rfl⟩
   ·skip
    try simp only [sG0] at g32
    refine Cd.seq fun K13 hK13=>?_
    refine Cd.qac [(0,false),(1,false)] rfl rfl ?_
    refine Jp.y 39 rfl (qaa rfl) rfl rfl Kp.true (Y.eql rfl rfl rfl) ?_
    refine Jp.y 38 rfl (qaa rfl) rfl rfl Kp.true (Y.assign rfl rfl) ?_
    refine Jp.qae hK13 ?_
    refine Cd.qaq rfl (fun g38=>?_) (fun g38=>?_)
    ·skip
     try simp only [sG0] at g38
     refine Cd.seq fun K14 hK14=>?_
     refine Cd.qac [(0,false),(1,false),(2,false),(3,false),(4,false),(5,false),(6,false)] rfl rfl ?_
     refine Jp.y 40 rfl (qaa rfl) rfl rfl Kp.true (Y.move rfl rfl) ?_
     refine Jp.y 41 rfl (qaa rfl) rfl rfl Kp.true (Y.move rfl rfl) ?_
     refine Jp.y 42 rfl (qaa rfl) rfl rfl Kp.true (by exact Y.qag 8 rfl isAgg41 sizeOf41 rfl rfl (by first | rfl | assumption)) ?_
     refine Jp.y 43 rfl (qaa rfl) rfl rfl Kp.true (by exact Y.qag 9 rfl isAgg41 sizeOf41 rfl rfl (by first | rfl | assumption)) ?_
     refine Jp.call [] [] (masked_spec a b s t ha hb hs ht) 44 rfl (qaa rfl) rfl rfl (Runs.fn rfl call70 rfl) (by decide) (by decide) rfl trivial ?_
     rintro v103 ρ103 L103 ⟨rfl,rfl,rfl⟩
     refine ⟨rfl,fun hle103=>⟨Kp.true,?_⟩⟩
     refine Jp.qah 10 rfl (qaa rfl) rfl rfl sizeOf41 rfl rfl (by first | rfl | assumption) (by first | rfl | assumption) rfl (by first | rfl | assumption) (fun k _ _=>qap k) Kp.true ?_
     refine Jp.y 11 rfl (qaa rfl) rfl rfl Kp.true (Y.assign rfl rfl) ?_
     refine Jp.qae hK14 ?_
     refine Cd.ret [] rfl (by exact qgd 10 rfl rfl isAgg41 sizeOf41 rfl (by first | rfl | assumption) rfl) trivial ⟨rfl, by
      (rw [hF9 () (by omega)]; done), rfl⟩
    ·skip
     try simp only [sG0] at g38
     refine Cd.seq fun K15 hK15=>?_
     refine Cd.seq fun K16 hK16=>?_
     refine Cd.qac [(0,false),(1,false)] rfl rfl ?_
     refine Jp.y 46 rfl (qaa rfl) rfl rfl Kp.true (Y.eql rfl rfl rfl) ?_
     refine Jp.y 45 rfl (qaa rfl) rfl rfl Kp.true (Y.assign rfl rfl) ?_
     refine Jp.qae hK16 ?_
     refine Cd.qaq rfl (fun g45=>?_) (fun g45=>?_)
     ·skip
      refine Cd.slot 45 rfl (show _ = Value.bool true from congrArg Value.bool g45) ?_
      try simp only [sG0] at g45
      refine Cd.qbw hK15 ?_
      refine Cd.qdk rfl ?_
      refine Cd.seq fun K17 hK17=>?_
      refine Cd.qac [(0,false),(1,false),(2,false),(3,false),(4,false),(5,false)] rfl rfl ?_
      refine Jp.y 49 rfl (qaa rfl) rfl rfl Kp.true (by exact Y.qag 8 rfl isAgg41 sizeOf41 rfl rfl (by first | rfl | assumption)) ?_
      refine Jp.y 50 rfl (qaa rfl) rfl rfl Kp.true (by exact Y.qag 9 rfl isAgg41 sizeOf41 rfl rfl (by first | rfl | assumption)) ?_
      refine Jp.call [] [] (qdt s t hs ht) 51 rfl (qaa rfl) rfl rfl (Runs.fn rfl call45 rfl) (by decide) (by decide) rfl trivial ?_
      rintro v104 ρ104 L104 ⟨rfl,rfl,rfl⟩
      refine ⟨rfl,fun hle104=>⟨Kp.true,?_⟩⟩
      refine Jp.call [] [] (up_spec (qdj s t) hjT) 52 rfl (qaa rfl) rfl rfl (Runs.fn rfl call71 rfl) (by decide) (by decide) rfl trivial ?_
      rintro v105 ρ105 L105 ⟨rfl,rfl,rfl⟩
      refine ⟨rfl,fun hle105=>⟨Kp.true,?_⟩⟩
      refine Jp.qah 10 rfl (qaa rfl) rfl rfl sizeOf41 rfl rfl (by first | rfl | assumption) (by first | rfl | assumption) rfl (by first | rfl | assumption) (fun k _ _=>qap k) Kp.true ?_
      refine Jp.y 11 rfl (qaa rfl) rfl rfl Kp.true (Y.assign rfl rfl) ?_
      refine Jp.qae hK17 ?_
      refine Cd.ret [] rfl (by exact qgd 10 rfl rfl isAgg41 sizeOf41 rfl (by first | rfl | assumption) rfl) trivial ⟨rfl, by
       (rw [hF0 () (by omega)]; done), rfl⟩
     ·skip
      try simp only [sG0] at g45
      refine Cd.seq fun K18 hK18=>?_
      refine Cd.qac [(0,false),(1,false)] rfl rfl ?_
      refine Jp.y 47 rfl (qaa rfl) rfl rfl Kp.true (Y.eql rfl rfl rfl) ?_
      refine Jp.y 45 rfl (qaa rfl) rfl rfl Kp.true (Y.assign rfl rfl) ?_
      refine Jp.qae hK18 ?_
      refine Cd.qaq rfl (fun g45=>?_) (fun g45=>?_)
      ·skip
       refine Cd.slot 45 rfl (show _ = Value.bool true from congrArg Value.bool g45) ?_
       try simp only [sG0] at g45
       refine Cd.qbw hK15 ?_
       refine Cd.qdk rfl ?_
       refine Cd.seq fun K19 hK19=>?_
       refine Cd.qac [(0,false),(1,false),(2,false),(3,false),(4,false),(5,false)] rfl rfl ?_
       refine Jp.y 49 rfl (qaa rfl) rfl rfl Kp.true (by exact Y.qag 8 rfl isAgg41 sizeOf41 rfl rfl (by first | rfl | assumption)) ?_
       refine Jp.y 50 rfl (qaa rfl) rfl rfl Kp.true (by exact Y.qag 9 rfl isAgg41 sizeOf41 rfl rfl (by first | rfl | assumption)) ?_
       refine Jp.call [] [] (qdt s t hs ht) 51 rfl (qaa rfl) rfl rfl (Runs.fn rfl call45 rfl) (by decide) (by decide) rfl trivial ?_
       rintro v106 ρ106 L106 ⟨rfl,rfl,rfl⟩
       refine ⟨rfl,fun hle106=>⟨Kp.true,?_⟩⟩
       refine Jp.call [] [] (up_spec (qdj s t) hjT) 52 rfl (qaa rfl) rfl rfl (Runs.fn rfl call71 rfl) (by decide) (by decide) rfl trivial ?_
       rintro v107 ρ107 L107 ⟨rfl,rfl,rfl⟩
       refine ⟨rfl,fun hle107=>⟨Kp.true,?_⟩⟩
       refine Jp.qah 10 rfl (qaa rfl) rfl rfl sizeOf41 rfl rfl (by first | rfl | assumption) (by first | rfl | assumption) rfl (by first | rfl | assumption) (fun k _ _=>qap k) Kp.true ?_
       refine Jp.y 11 rfl (qaa rfl) rfl rfl Kp.true (Y.assign rfl rfl) ?_
       refine Jp.qae hK19 ?_
       refine Cd.ret [] rfl (by exact qgd 10 rfl rfl isAgg41 sizeOf41 rfl (by first | rfl | assumption) rfl) trivial ⟨rfl, by
        (rw [hF0 () (by omega)]; done), rfl⟩
      ·skip
       try simp only [sG0] at g45
       refine Cd.qac [(0,false),(1,false)] rfl rfl ?_
       refine Jp.y 48 rfl (qaa rfl) rfl rfl Kp.true (Y.eql rfl rfl rfl) ?_
       refine Jp.y 45 rfl (qaa rfl) rfl rfl Kp.true (Y.assign rfl rfl) ?_
       refine Jp.qae hK15 ?_
       refine Cd.qaq rfl (fun g45=>?_) (fun g45=>?_)
       ·skip
        try simp only [sG0] at g45
        refine Cd.seq fun K20 hK20=>?_
        refine Cd.qac [(0,false),(1,false),(2,false),(3,false),(4,false),(5,false)] rfl rfl ?_
        refine Jp.y 49 rfl (qaa rfl) rfl rfl Kp.true (by exact Y.qag 8 rfl isAgg41 sizeOf41 rfl rfl (by first | rfl | assumption)) ?_
        refine Jp.y 50 rfl (qaa rfl) rfl rfl Kp.true (by exact Y.qag 9 rfl isAgg41 sizeOf41 rfl rfl (by first | rfl | assumption)) ?_
        refine Jp.call [] [] (qdt s t hs ht) 51 rfl (qaa rfl) rfl rfl (Runs.fn rfl call45 rfl) (by decide) (by decide) rfl trivial ?_
        rintro v108 ρ108 L108 ⟨rfl,rfl,rfl⟩
        refine ⟨rfl,fun hle108=>⟨Kp.true,?_⟩⟩
        refine Jp.call [] [] (up_spec (qdj s t) hjT) 52 rfl (qaa rfl) rfl rfl (Runs.fn rfl call71 rfl) (by decide) (by decide) rfl trivial ?_
        rintro v109 ρ109 L109 ⟨rfl,rfl,rfl⟩
        refine ⟨rfl,fun hle109=>⟨Kp.true,?_⟩⟩
        refine Jp.qah 10 rfl (qaa rfl) rfl rfl sizeOf41 rfl rfl (by first | rfl | assumption) (by first | rfl | assumption) rfl (by first | rfl | assumption) (fun k _ _=>qap k) Kp.true ?_
        refine Jp.y 11 rfl (qaa rfl) rfl rfl Kp.true (Y.assign rfl rfl) ?_
        refine Jp.qae hK20 ?_
        refine Cd.ret [] rfl (by exact qgd 10 rfl rfl isAgg41 sizeOf41 rfl (by first | rfl | assumption) rfl) trivial ⟨rfl, by
         (rw [hF0 () (by omega)]; done), rfl⟩
       ·skip
        try simp only [sG0] at g45
        refine Cd.seq fun K21 hK21=>?_
        refine Cd.seq fun K22 hK22=>?_
        refine Cd.qac [(0,false),(1,false)] rfl rfl ?_
        refine Jp.y 54 rfl (qaa rfl) rfl rfl Kp.true (Y.eql rfl rfl rfl) ?_
        refine Jp.y 53 rfl (qaa rfl) rfl rfl Kp.true (Y.assign rfl rfl) ?_
        refine Jp.qae hK22 ?_
        refine Cd.qaq rfl (fun g53=>?_) (fun g53=>?_)
        ·skip
         refine Cd.slot 53 rfl (show _ = Value.bool true from congrArg Value.bool g53) ?_
         try simp only [sG0] at g53
         refine Cd.qbw hK21 ?_
         refine Cd.qdk rfl ?_
         refine Cd.seq fun K23 hK23=>?_
         refine Cd.seq fun K24 hK24=>?_
         refine Cd.qac [(0,false),(1,false),(2,false)] rfl rfl ?_
         refine Jp.y 57 rfl (qaa rfl) rfl rfl Kp.true (Y.qal rfl rfl rfl underlying41 sizeOf5 (by first | decide | omega) (by first | decide | omega) rfl) ?_
         refine Jp.y 58 rfl (qaa rfl) rfl rfl Kp.true (by exact Y.qbk 9 rfl isAgg5 rfl rfl (HasC.pt (qbf hy))) ?_
         refine Jp.y 59 rfl (qaa rfl) rfl rfl Kp.true (Y.neq rfl rfl rfl) ?_
         refine Jp.qae hK24 ?_
         refine Cd.qaq rfl (fun g59=>?_) (fun g59=>?_)
         ·skip
          try simp only [sG0] at g59
          refine Cd.seq fun K25 hK25=>?_
          refine Cd.drawn [(8,_),(9,_)] ⟨rfl,rfl,trivial⟩ [(0,true),(2,true),(3,true),(1,false),(4,true),(5,false),(6,false),(7,true)] follows (by kernel_rfl) (fun hrl=>?_)
          refine Jp.q 60 rfl (qaa rfl) rfl rfl (by exact Y.qag 8 rfl isAgg41 sizeOf41 rfl rfl (by first | rfl | assumption)) ?_
          refine Jp.q 62 rfl (qaa rfl) rfl rfl (Y.qal rfl rfl rfl underlying41 sizeOf5 (by first | decide | omega) (by first | decide | omega) rfl) ?_
          refine Jp.q 63 rfl (qaa rfl) rfl rfl (by exact Y.qbk 9 rfl isAgg5 rfl rfl (HasC.pt (qbf hy))) ?_
          refine Jp.call [] [] (qcm s hs) 61 rfl (qaa rfl) rfl rfl (Runs.fn rfl call39 rfl) (by decide) (by decide) rfl trivial ?_
          rintro v4 ρ4 L4 ⟨rfl,rfl,rfl⟩
          refine ⟨rfl,fun hle4=>⟨(Kp.st ⟨rfl,rfl,trivial⟩),?_⟩⟩
          refine Jp.q 64 rfl (qaa rfl) rfl rfl (Y.bits rfl rfl rfl rfl) ?_
          refine Jp.slot 64 rfl (show _ = Value.int .u8 ((allT s ||| y : UInt8).toNat : Int) from congrArg (Value.int .u8) (or8 _ _)) ?_
          refine Jp.call [] [] (qfh (allT s ||| y)) 65 rfl (qaa rfl) rfl rfl (Runs.fn rfl call68 rfl) (by decide) (by decide) rfl trivial ?_
          rintro v5 ρ5 L5 ⟨rfl,rfl,rfl⟩
          refine ⟨rfl,fun hle5=>⟨(Kp.st ⟨rfl,rfl,trivial⟩),?_⟩⟩
          refine Jp.qah 10 rfl (qaa rfl) rfl rfl sizeOf41 rfl rfl (by first | rfl | assumption) (by first | rfl | assumption) rfl (by first | rfl | assumption) (fun k _ _=>qap k) (Kp.st ⟨rfl,rfl,trivial⟩) ?_
          refine Jp.q 11 rfl (qaa rfl) rfl rfl (Y.assign rfl rfl) ?_
          refine Jp.qae hK25 ?_
          refine Cd.ret [] rfl (by exact qgd 10 rfl rfl isAgg41 sizeOf41 rfl (by first | rfl | assumption) rfl) trivial ⟨rfl, by
           (rw [hF3 () (by omega) (by omega)]; done), rfl⟩
         ·skip
          try simp only [sG0] at g59
          refine Cd.qbw hK23 ?_
          refine Cd.seq fun K27 hK27=>?_
          refine Cd.qac [(0,false),(1,false),(2,false),(3,false),(4,false),(5,false),(6,false),(7,false)] rfl rfl ?_
          refine Jp.y 66 rfl (qaa rfl) rfl rfl Kp.true (Y.move rfl rfl) ?_
          refine Jp.y 67 rfl (qaa rfl) rfl rfl Kp.true (Y.move rfl rfl) ?_
          refine Jp.y 68 rfl (qaa rfl) rfl rfl Kp.true (by exact Y.remN rfl rfl rfl (by omega) (by omega)) ?_
          refine Jp.y 69 rfl (qaa rfl) rfl rfl Kp.true (Y.qav rfl rfl underlying31 underlying3 (by exact qaj (by omega) (by omega))) ?_
          refine Jp.y 70 rfl (qaa rfl) rfl rfl Kp.true (by exact Y.qag 8 rfl isAgg41 sizeOf41 rfl rfl (by first | rfl | assumption)) ?_
          refine Jp.slot 69 rfl (show _ = Value.int .i64 ((b % 32 : Nat) : Int) from congrArg (Value.int .i64) (by omega)) ?_
          refine Jp.call [] [] (qfc k (b % 32) s hm hs) 71 rfl (qaa rfl) rfl rfl (Runs.fn rfl call72 rfl) (by decide) (by decide) rfl trivial ?_
          rintro v4 ρ4 L4 ⟨rfl,rfl,rfl⟩
          refine ⟨rfl,fun hle4=>⟨Kp.true,?_⟩⟩
          refine Jp.qah 10 rfl (qaa rfl) rfl rfl sizeOf41 rfl rfl (by first | rfl | assumption) (by first | rfl | assumption) rfl (by first | rfl | assumption) (fun k _ _=>qap k) Kp.true ?_
          refine Jp.y 11 rfl (qaa rfl) rfl rfl Kp.true (Y.assign rfl rfl) ?_
          refine Jp.qae hK27 ?_
          refine Cd.ret [] rfl (by exact qgd 10 rfl rfl isAgg41 sizeOf41 rfl (by first | rfl | assumption) rfl) trivial ⟨rfl, by
           (rw [hF2 () (by omega) (by omega)]; done), rfl⟩
        ·skip
         try simp only [sG0] at g53
         refine Cd.seq fun K28 hK28=>?_
         refine Cd.qac [(0,false),(1,false)] rfl rfl ?_
         refine Jp.y 55 rfl (qaa rfl) rfl rfl Kp.true (Y.eql rfl rfl rfl) ?_
         refine Jp.y 53 rfl (qaa rfl) rfl rfl Kp.true (Y.assign rfl rfl) ?_
         refine Jp.qae hK28 ?_
         refine Cd.qaq rfl (fun g53=>?_) (fun g53=>?_)
         ·skip
          refine Cd.slot 53 rfl (show _ = Value.bool true from congrArg Value.bool g53) ?_
          try simp only [sG0] at g53
          refine Cd.qbw hK21 ?_
          refine Cd.qdk rfl ?_
          refine Cd.seq fun K29 hK29=>?_
          refine Cd.seq fun K30 hK30=>?_
          refine Cd.qac [(0,false),(1,false),(2,false)] rfl rfl ?_
          refine Jp.y 57 rfl (qaa rfl) rfl rfl Kp.true (Y.qal rfl rfl rfl underlying41 sizeOf5 (by first | decide | omega) (by first | decide | omega) rfl) ?_
          refine Jp.y 58 rfl (qaa rfl) rfl rfl Kp.true (by exact Y.qbk 9 rfl isAgg5 rfl rfl (HasC.pt (qbf hy))) ?_
          refine Jp.y 59 rfl (qaa rfl) rfl rfl Kp.true (Y.neq rfl rfl rfl) ?_
          refine Jp.qae hK30 ?_
          refine Cd.qaq rfl (fun g59=>?_) (fun g59=>?_)
          ·skip
           try simp only [sG0] at g59
           refine Cd.seq fun K31 hK31=>?_
           refine Cd.drawn [(8,_),(9,_)] ⟨rfl,rfl,trivial⟩ [(0,true),(2,true),(3,true),(1,false),(4,true),(5,false),(6,false),(7,true)] follows (by kernel_rfl) (fun hrl=>?_)
           refine Jp.q 60 rfl (qaa rfl) rfl rfl (by exact Y.qag 8 rfl isAgg41 sizeOf41 rfl rfl (by first | rfl | assumption)) ?_
           refine Jp.q 62 rfl (qaa rfl) rfl rfl (Y.qal rfl rfl rfl underlying41 sizeOf5 (by first | decide | omega) (by first | decide | omega) rfl) ?_
           refine Jp.q 63 rfl (qaa rfl) rfl rfl (by exact Y.qbk 9 rfl isAgg5 rfl rfl (HasC.pt (qbf hy))) ?_
           refine Jp.call [] [] (qcm s hs) 61 rfl (qaa rfl) rfl rfl (Runs.fn rfl call39 rfl) (by decide) (by decide) rfl trivial ?_
           rintro v4 ρ4 L4 ⟨rfl,rfl,rfl⟩
           refine ⟨rfl,fun hle4=>⟨(Kp.st ⟨rfl,rfl,trivial⟩),?_⟩⟩
           refine Jp.q 64 rfl (qaa rfl) rfl rfl (Y.bits rfl rfl rfl rfl) ?_
           refine Jp.slot 64 rfl (show _ = Value.int .u8 ((allT s ||| y : UInt8).toNat : Int) from congrArg (Value.int .u8) (or8 _ _)) ?_
           refine Jp.call [] [] (qfh (allT s ||| y)) 65 rfl (qaa rfl) rfl rfl (Runs.fn rfl call68 rfl) (by decide) (by decide) rfl trivial ?_
           rintro v5 ρ5 L5 ⟨rfl,rfl,rfl⟩
           refine ⟨rfl,fun hle5=>⟨(Kp.st ⟨rfl,rfl,trivial⟩),?_⟩⟩
           refine Jp.qah 10 rfl (qaa rfl) rfl rfl sizeOf41 rfl rfl (by first | rfl | assumption) (by first | rfl | assumption) rfl (by first | rfl | assumption) (fun k _ _=>qap k) (Kp.st ⟨rfl,rfl,trivial⟩) ?_
           refine Jp.q 11 rfl (qaa rfl) rfl rfl (Y.assign rfl rfl) ?_
           refine Jp.qae hK31 ?_
           refine Cd.ret [] rfl (by exact qgd 10 rfl rfl isAgg41 sizeOf41 rfl (by first | rfl | assumption) rfl) trivial ⟨rfl, by
            (rw [hF3 () (by omega) (by omega)]; done), rfl⟩
          ·skip
           try simp only [sG0] at g59
           refine Cd.qbw hK29 ?_
           refine Cd.seq fun K33 hK33=>?_
           refine Cd.qac [(0,false),(1,false),(2,false),(3,false),(4,false),(5,false),(6,false),(7,false)] rfl rfl ?_
           refine Jp.y 66 rfl (qaa rfl) rfl rfl Kp.true (Y.move rfl rfl) ?_
           refine Jp.y 67 rfl (qaa rfl) rfl rfl Kp.true (Y.move rfl rfl) ?_
           refine Jp.y 68 rfl (qaa rfl) rfl rfl Kp.true (by exact Y.remN rfl rfl rfl (by omega) (by omega)) ?_
           refine Jp.y 69 rfl (qaa rfl) rfl rfl Kp.true (Y.qav rfl rfl underlying31 underlying3 (by exact qaj (by omega) (by omega))) ?_
           refine Jp.y 70 rfl (qaa rfl) rfl rfl Kp.true (by exact Y.qag 8 rfl isAgg41 sizeOf41 rfl rfl (by first | rfl | assumption)) ?_
           refine Jp.slot 69 rfl (show _ = Value.int .i64 ((b % 32 : Nat) : Int) from congrArg (Value.int .i64) (by omega)) ?_
           refine Jp.call [] [] (qfc k (b % 32) s hm hs) 71 rfl (qaa rfl) rfl rfl (Runs.fn rfl call72 rfl) (by decide) (by decide) rfl trivial ?_
           rintro v4 ρ4 L4 ⟨rfl,rfl,rfl⟩
           refine ⟨rfl,fun hle4=>⟨Kp.true,?_⟩⟩
           refine Jp.qah 10 rfl (qaa rfl) rfl rfl sizeOf41 rfl rfl (by first | rfl | assumption) (by first | rfl | assumption) rfl (by first | rfl | assumption) (fun k _ _=>qap k) Kp.true ?_
           refine Jp.y 11 rfl (qaa rfl) rfl rfl Kp.true (Y.assign rfl rfl) ?_
           refine Jp.qae hK33 ?_
           refine Cd.ret [] rfl (by exact qgd 10 rfl rfl isAgg41 sizeOf41 rfl (by first | rfl | assumption) rfl) trivial ⟨rfl, by
            (rw [hF2 () (by omega) (by omega)]; done), rfl⟩
         ·skip
          try simp only [sG0] at g53
          refine Cd.qac [(0,false),(1,false)] rfl rfl ?_
          refine Jp.y 56 rfl (qaa rfl) rfl rfl Kp.true (Y.eql rfl rfl rfl) ?_
          refine Jp.y 53 rfl (qaa rfl) rfl rfl Kp.true (Y.assign rfl rfl) ?_
          refine Jp.qae hK21 ?_
          refine Cd.qaq rfl (fun g53=>?_) (fun g53=>?_)
          ·skip
           try simp only [sG0] at g53
           refine Cd.seq fun K34 hK34=>?_
           refine Cd.seq fun K35 hK35=>?_
           refine Cd.qac [(0,false),(1,false),(2,false)] rfl rfl ?_
           refine Jp.y 57 rfl (qaa rfl) rfl rfl Kp.true (Y.qal rfl rfl rfl underlying41 sizeOf5 (by first | decide | omega) (by first | decide | omega) rfl) ?_
           refine Jp.y 58 rfl (qaa rfl) rfl rfl Kp.true (by exact Y.qbk 9 rfl isAgg5 rfl rfl (HasC.pt (qbf hy))) ?_
           refine Jp.y 59 rfl (qaa rfl) rfl rfl Kp.true (Y.neq rfl rfl rfl) ?_
           refine Jp.qae hK35 ?_
           refine Cd.qaq rfl (fun g59=>?_) (fun g59=>?_)
           ·skip
            try simp only [sG0] at g59
            refine Cd.seq fun K36 hK36=>?_
            refine Cd.drawn [(8,_),(9,_)] ⟨rfl,rfl,trivial⟩ [(0,true),(2,true),(3,true),(1,false),(4,true),(5,false),(6,false),(7,true)] follows (by kernel_rfl) (fun hrl=>?_)
            refine Jp.q 60 rfl (qaa rfl) rfl rfl (by exact Y.qag 8 rfl isAgg41 sizeOf41 rfl rfl (by first | rfl | assumption)) ?_
            refine Jp.q 62 rfl (qaa rfl) rfl rfl (Y.qal rfl rfl rfl underlying41 sizeOf5 (by first | decide | omega) (by first | decide | omega) rfl) ?_
            refine Jp.q 63 rfl (qaa rfl) rfl rfl (by exact Y.qbk 9 rfl isAgg5 rfl rfl (HasC.pt (qbf hy))) ?_
            refine Jp.call [] [] (qcm s hs) 61 rfl (qaa rfl) rfl rfl (Runs.fn rfl call39 rfl) (by decide) (by decide) rfl trivial ?_
            rintro v4 ρ4 L4 ⟨rfl,rfl,rfl⟩
            refine ⟨rfl,fun hle4=>⟨(Kp.st ⟨rfl,rfl,trivial⟩),?_⟩⟩
            refine Jp.q 64 rfl (qaa rfl) rfl rfl (Y.bits rfl rfl rfl rfl) ?_
            refine Jp.slot 64 rfl (show _ = Value.int .u8 ((allT s ||| y : UInt8).toNat : Int) from congrArg (Value.int .u8) (or8 _ _)) ?_
            refine Jp.call [] [] (qfh (allT s ||| y)) 65 rfl (qaa rfl) rfl rfl (Runs.fn rfl call68 rfl) (by decide) (by decide) rfl trivial ?_
            rintro v5 ρ5 L5 ⟨rfl,rfl,rfl⟩
            refine ⟨rfl,fun hle5=>⟨(Kp.st ⟨rfl,rfl,trivial⟩),?_⟩⟩
            refine Jp.qah 10 rfl (qaa rfl) rfl rfl sizeOf41 rfl rfl (by first | rfl | assumption) (by first | rfl | assumption) rfl (by first | rfl | assumption) (fun k _ _=>qap k) (Kp.st ⟨rfl,rfl,trivial⟩) ?_
            refine Jp.q 11 rfl (qaa rfl) rfl rfl (Y.assign rfl rfl) ?_
            refine Jp.qae hK36 ?_
            refine Cd.ret [] rfl (by exact qgd 10 rfl rfl isAgg41 sizeOf41 rfl (by first | rfl | assumption) rfl) trivial ⟨rfl, by
             (rw [hF3 () (by omega) (by omega)]; done), rfl⟩
           ·skip
            try simp only [sG0] at g59
            refine Cd.qbw hK34 ?_
            refine Cd.seq fun K38 hK38=>?_
            refine Cd.qac [(0,false),(1,false),(2,false),(3,false),(4,false),(5,false),(6,false),(7,false)] rfl rfl ?_
            refine Jp.y 66 rfl (qaa rfl) rfl rfl Kp.true (Y.move rfl rfl) ?_
            refine Jp.y 67 rfl (qaa rfl) rfl rfl Kp.true (Y.move rfl rfl) ?_
            refine Jp.y 68 rfl (qaa rfl) rfl rfl Kp.true (by exact Y.remN rfl rfl rfl (by omega) (by omega)) ?_
            refine Jp.y 69 rfl (qaa rfl) rfl rfl Kp.true (Y.qav rfl rfl underlying31 underlying3 (by exact qaj (by omega) (by omega))) ?_
            refine Jp.y 70 rfl (qaa rfl) rfl rfl Kp.true (by exact Y.qag 8 rfl isAgg41 sizeOf41 rfl rfl (by first | rfl | assumption)) ?_
            refine Jp.slot 69 rfl (show _ = Value.int .i64 ((b % 32 : Nat) : Int) from congrArg (Value.int .i64) (by omega)) ?_
            refine Jp.call [] [] (qfc k (b % 32) s hm hs) 71 rfl (qaa rfl) rfl rfl (Runs.fn rfl call72 rfl) (by decide) (by decide) rfl trivial ?_
            rintro v4 ρ4 L4 ⟨rfl,rfl,rfl⟩
            refine ⟨rfl,fun hle4=>⟨Kp.true,?_⟩⟩
            refine Jp.qah 10 rfl (qaa rfl) rfl rfl sizeOf41 rfl rfl (by first | rfl | assumption) (by first | rfl | assumption) rfl (by first | rfl | assumption) (fun k _ _=>qap k) Kp.true ?_
            refine Jp.y 11 rfl (qaa rfl) rfl rfl Kp.true (Y.assign rfl rfl) ?_
            refine Jp.qae hK38 ?_
            refine Cd.ret [] rfl (by exact qgd 10 rfl rfl isAgg41 sizeOf41 rfl (by first | rfl | assumption) rfl) trivial ⟨rfl, by
             (rw [hF2 () (by omega) (by omega)]; done), rfl⟩
          ·skip
           try simp only [sG0] at g53
           refine Cd.seq fun K39 hK39=>?_
           refine Cd.seq fun K40 hK40=>?_
           refine Cd.qac [(0,false),(1,false)] rfl rfl ?_
           refine Jp.y 73 rfl (qaa rfl) rfl rfl Kp.true (Y.eql rfl rfl rfl) ?_
           refine Jp.y 72 rfl (qaa rfl) rfl rfl Kp.true (Y.assign rfl rfl) ?_
           refine Jp.qae hK40 ?_
           refine Cd.qaq rfl (fun g72=>?_) (fun g72=>?_)
           ·skip
            refine Cd.slot 72 rfl (show _ = Value.bool true from congrArg Value.bool g72) ?_
            try simp only [sG0] at g72
            refine Cd.qbw hK39 ?_
            refine Cd.qdk rfl ?_
            refine Cd.seq fun K41 hK41=>?_
            refine Cd.qac [(0,false),(1,false),(2,false),(3,false)] rfl rfl ?_
            refine Jp.y 75 rfl (qaa rfl) rfl rfl Kp.true (Y.move rfl rfl) ?_
            refine Jp.y 76 rfl (qaa rfl) rfl rfl Kp.true (Y.array [(0,_)] [_,_,_,_] rfl rfl underlying41 sizeOf5 zeroValue41 rfl) ?_
            refine Jp.qah 10 rfl (qaa rfl) rfl rfl sizeOf41 rfl rfl (by first | rfl | assumption) (by first | rfl | assumption) rfl (by first | rfl | assumption) (fun k _ _=>qap k) Kp.true ?_
            refine Jp.y 11 rfl (qaa rfl) rfl rfl Kp.true (Y.assign rfl rfl) ?_
            refine Jp.qae hK41 ?_
            refine Cd.ret [] rfl (by exact qgd 10 rfl rfl isAgg41 sizeOf41 rfl (by first | rfl | assumption) rfl) trivial ⟨rfl, by
             (rw [hF4 () (by omega)]; rfl), rfl⟩
           ·skip
            try simp only [sG0] at g72
            refine Cd.qac [(0,false),(1,false)] rfl rfl ?_
            refine Jp.y 74 rfl (qaa rfl) rfl rfl Kp.true (Y.eql rfl rfl rfl) ?_
            refine Jp.y 72 rfl (qaa rfl) rfl rfl Kp.true (Y.assign rfl rfl) ?_
            refine Jp.qae hK39 ?_
            refine Cd.qaq rfl (fun g72=>?_) (fun g72=>?_)
            ·skip
             try simp only [sG0] at g72
             refine Cd.seq fun K42 hK42=>?_
             refine Cd.qac [(0,false),(1,false),(2,false),(3,false)] rfl rfl ?_
             refine Jp.y 75 rfl (qaa rfl) rfl rfl Kp.true (Y.move rfl rfl) ?_
             refine Jp.y 76 rfl (qaa rfl) rfl rfl Kp.true (Y.array [(0,_)] [_,_,_,_] rfl rfl underlying41 sizeOf5 zeroValue41 rfl) ?_
             refine Jp.qah 10 rfl (qaa rfl) rfl rfl sizeOf41 rfl rfl (by first | rfl | assumption) (by first | rfl | assumption) rfl (by first | rfl | assumption) (fun k _ _=>qap k) Kp.true ?_
             refine Jp.y 11 rfl (qaa rfl) rfl rfl Kp.true (Y.assign rfl rfl) ?_
             refine Jp.qae hK42 ?_
             refine Cd.ret [] rfl (by exact qgd 10 rfl rfl isAgg41 sizeOf41 rfl (by first | rfl | assumption) rfl) trivial ⟨rfl, by
              (rw [hF4 () (by omega)]; rfl), rfl⟩
            ·skip
             try simp only [sG0] at g72
             refine Cd.over rfl hK7 ?_
             refine Cd.seq fun K43 hK43=>?_
             refine Cd.qac [(0,false),(1,false),(2,false),(3,false)] rfl rfl ?_
             refine Jp.y 77 rfl (qaa rfl) rfl rfl Kp.true (Y.move rfl rfl) ?_
             refine Jp.call [] [] (qfh (allT s ||| allT t)) 78 rfl (qaa rfl) rfl rfl (Runs.fn rfl call68 rfl) (by decide) (by decide) rfl trivial ?_
             rintro v110 ρ110 L110 ⟨rfl,rfl,rfl⟩
             refine ⟨rfl,fun hle110=>⟨Kp.true,?_⟩⟩
             refine Jp.qah 10 rfl (qaa rfl) rfl rfl sizeOf41 rfl rfl (by first | rfl | assumption) (by first | rfl | assumption) rfl (by first | rfl | assumption) (fun k _ _=>qap k) Kp.true ?_
             refine Jp.y 11 rfl (qaa rfl) rfl rfl Kp.true (Y.assign rfl rfl) ?_
             refine Jp.qae hK43 ?_
             refine Cd.ret [] rfl (by exact qgd 10 rfl rfl isAgg41 sizeOf41 rfl (by first | rfl | assumption) rfl) trivial ⟨rfl, by
              (rw [hF7 () (by omega)]; done), rfl⟩
end Go.Proofs.Ytnfkalpgidiafaa

namespace Go.Proofs.Ytnfkalpgidiafaa
open Go
section
variable {P : Program} {n : Nat} {cx : Cx} {ρ : Hp} {E : Env} {L : Own} {o : Oper}
theorem Y.qfr (j : Nat) {x : Operand} {t : TypeId} {b off m : Nat} {cs : List Value} {T : TypeId} {fr : Nat × Nat} (es : List Value) (hop : o.op = .load t x) (hA : ∀ w,(isAgg t).run P w = .ok true w) (hz : ∀ w,(sizeOf t).run P w = .ok m w) (hx : evE E x = some (.pointer (some ⟨b,off,none⟩)))
  (hj : look L j = some (Pt b (.cells cs.toArray T fr))) (hm : es.length = m) (hv : ∀ p v,es[p]? = some v → cs[off + p]? = some v) : Y P n cx ρ E L o (.agg es.toArray):=fun ac w ha hs=>by
 have hb:=hs.pt hj
 have hc : ∀ k v,es[k]? = some v → w.cell? ((⟨b,off,none⟩ : Addr).add k) = some v:=fun k v e=>by rw [qdf]; simp [World.cell?,hb,hv k v e]
 simp only [execOp,hop,ha.ev hx,Sem.run_bind,qeo hA hz hm hc,Result.andThen_ok,Sem.run_pure]
theorem cellVar (j : Nat) {w : World} (hs : St cx ρ L w) {t : TypeId} {b m : Nat} {cs : List Value} {T : TypeId} {fr : Nat × Nat} (hA : ∀ w,(isAgg t).run P w = .ok true w) (hz : ∀ w,(sizeOf t).run P w = .ok m w) (hj : look L j = some (Pt b (.cells cs.toArray T fr))) (hm : cs.length = m) : (loadVar t ⟨b,0,none⟩).run P w = .ok (.agg cs.toArray) w:=by
 have hb:=hs.pt hj
 have hc : ∀ k v,cs[k]? = some v → w.cell? ((⟨b,0,none⟩ : Addr).add k) = some v:=fun k v e=>by rw [qdf]; simp [World.cell?,hb,e]
 subst hm
 simp only [loadVar,Sem.run_bind,Sem.run_pure,Result.andThen_ok,hA,hz,if_true,run_loadCells_list w _ cs hc]
theorem resCCTCT (j1 j2 j3 : Nat) {fn : Func} {s1 s2 s3 u v : Tmp} {t1 t2 t3 : TypeId} {b1 b2 b3 m1 m2 m3 : Nat} {c1 c2 c3 : List Value} {T1 T2 T3 : TypeId} {f1 f2 f3 : Nat × Nat} {x y : Value} (h : fn.results = #[.cell s1 t1,.cell s2 t2,.tmp u,.cell s3 t3,.tmp v])
  (e1 : look E s1 = some (.pointer (some ⟨b1,0,none⟩))) (e2 : look E s2 = some (.pointer (some ⟨b2,0,none⟩))) (eu : look E u = some x) (e3 : look E s3 = some (.pointer (some ⟨b3,0,none⟩))) (ev : look E v = some y)
  (A1 : ∀ w,(isAgg t1).run P w = .ok true w) (z1 : ∀ w,(sizeOf t1).run P w = .ok m1 w) (A2 : ∀ w,(isAgg t2).run P w = .ok true w) (z2 : ∀ w,(sizeOf t2).run P w = .ok m2 w) (A3 : ∀ w,(isAgg t3).run P w = .ok true w) (z3 : ∀ w,(sizeOf t3).run P w = .ok m3 w)
  (p1 : look L j1 = some (Pt b1 (.cells c1.toArray T1 f1))) (l1 : c1.length = m1) (p2 : look L j2 = some (Pt b2 (.cells c2.toArray T2 f2))) (l2 : c2.length = m2) (p3 : look L j3 = some (Pt b3 (.cells c3.toArray T3 f3))) (l3 : c3.length = m3) :
  ∀ a w,At n E a → St cx ρ L w → (results fn a.tmps).run P w = .ok (.tuple #[.agg c1.toArray,.agg c2.toArray,x,.agg c3.toArray,y]) w:=fun a w ha hs=>by
 have g1:=ha.slot s1 _ e1
 have g2:=ha.slot s2 _ e2
 have g3:=ha.slot s3 _ e3
 have gu:=ha.slot u _ eu
 have gv:=ha.slot v _ ev
 have h1:=cellVar j1 hs A1 z1 p1 l1
 have h2:=cellVar j2 hs A2 z2 p2 l2
 have h3:=cellVar j3 hs A3 z3 p3 l3
 simp [results,h,g1,g2,g3,gu,gv,asAddr,h1,h2,h3]
end
end Go.Proofs.Ytnfkalpgidiafaa

namespace Go.Proofs.Ytnfkalpgidiafaa
open _root_.Go.Proofs.Try
open Go
structure Pg where
 b : List UInt8
 perm : Nat
structure MemG where
 budget : Nat
 pages : List (Nat × Pg)
 gens : Nat → Nat
def qan : List (Nat × Pg) → Nat → Option Pg
 | [],_=>none
 | (x,p) :: l,k=>if x = k then some p else qan l k
def qbx (l : List (Nat × Pg)) (k : Nat) (p : Pg) : List (Nat × Pg):=l.map fun x=>if x.1 = k then (k,p) else x
def qgh (k : Nat) (p : Pg) : List (Nat × Pg) → List (Nat × Pg)
 | []=>[(k,p)]
 | x :: l=>if k < x.1 then (k,p) :: x :: l else x :: qgh k p l
def Rising (l : List (Nat × Pg)) : Prop:=l.Pairwise fun x y=>x.1 < y.1
structure PgOk (x : Nat × Pg) : Prop where
 al : x.1 % 256 = 0
 lt : x.1 < 4294967296
 len : x.2.b.length = 256
 perm : x.2.perm ≤ 7
structure MemOk (M : MemG) : Prop where
 rising : Rising M.pages
 page : ∀ x ∈ M.pages,PgOk x
 gens : ∀ k,M.gens k < 4294967296
 room : M.pages.length ≤ M.budget
 budget : 1 ≤ M.budget ∧ M.budget ≤ 4096
def qar (a : Nat) : Nat:=a - a % 256
def bump (g : Nat → Nat) (k : Nat) : Nat → Nat:=fun x=>if x = k then (g k + 1) % 4294967296 else g x
def may (perm : Nat) (need : Int) : Bool:=qcc .and .i64 perm need == need
def qem (a n : Nat) : Option Nat:=if 0 < n ∧ a % 256 = 0 ∧ a + (n + 255) / 256 * 256 ≤ 4294967296 then some ((n + 255) / 256) else none
def inS (a many k : Nat) : Bool:=decide (a ≤ k) && decide (k < a + many * 256)
def qeb (M : MemG) (a many : Nat) : List Nat:=(M.pages.filter fun x=>inS a many x.1).map (·.1)
def qdy (a : Nat) (size : Int) : Bool:=(size == 1 || size == 2 || size == 4) && ((a : Int) % size == 0)
def qcu (M : MemG) (a : Nat) (size need : Int) : Int:=if qdy a size = false then 3 else match qan M.pages (qar a) with
 | none=>1
 | some p=>if may p.perm need then 0 else 2
def qdp (M : MemG) (a : Nat) (size need : Int) : Nat × Int := if qcu M a size need = 0 then (match qan M.pages (qar a) with
 | some p=>leN ((p.b.drop (a % 256)).take size.toNat)
 | none => 0, 0) else (0, qcu M a size need)
def stPg (p : Pg) (off n v : Nat) : Pg:=⟨lay p.b off (leB v n),p.perm⟩
def qfb (M : MemG) (a : Nat) (size : Int) (v : Nat) : Int × MemG := if qcu M a size 2 = 0 then (0, match qan M.pages (qar a) with
 | some p=>{ M with pages:=qbx M.pages (qar a) (stPg p (a % 256) size.toNat v),gens:=bump M.gens (qar a) }
 | none => M) else (qcu M a size 2, M)
def permM (M : MemG) (a : Nat) : Int × Bool:=match qan M.pages (qar a) with
 | some p=>(p.perm,true)
 | none=>(0,false)
def newM (budget : Nat) : MemG:=⟨budget,[],fun _=>0⟩
def qdn (M : MemG) (a perm : Nat) : Nat → MemG
 | 0=>M
 | i + 1=>{ qdn M a perm i with pages:=qgh (a + 256 * i) ⟨List.replicate 256 0,perm⟩ (qdn M a perm i).pages,gens:=bump (qdn M a perm i).gens (a + 256 * i) }
def mapM (M : MemG) (a n : Nat) (perm : Int) : Int × MemG:=match qem a n with
 | none=>(1,M)
 | some many=>if perm < 0 ∨ 7 < perm then (1,M) else if 0 < (qeb M a many).length then (5,M) else if M.budget - M.pages.length < many then (6,M) else (0,qdn M a perm.toNat many)
theorem qbb {l : List (Nat × Pg)} {k : Nat} {p : Pg} (h : qan l k = some p) : (k,p) ∈ l:=by
 induction l with
 | nil=>cases h
 | cons x l ih =>
  obtain ⟨x,q⟩:=x
  simp only [qan] at h
  split at h
  ·rename_i e; subst e; injection h with h; subst h; exact List.mem_cons_self ..
  ·exact List.mem_cons_of_mem _ (ih h)
theorem Rising.nodup {l : List (Nat × Pg)} (h : Rising l) : (l.map (·.1)).Nodup:=by
 rw [List.Nodup,List.pairwise_map]
 exact h.imp fun h=>by omega
theorem qci {l : List (Nat × Pg)} (hn : (l.map (·.1)).Nodup) {k : Nat} {p : Pg} (h : (k,p) ∈ l) : qan l k = some p:=by
 induction l with
 | nil=>cases h
 | cons x l ih =>
  obtain ⟨x,q⟩:=x
  rw [List.map_cons,List.nodup_cons] at hn
  simp only [qan]
  rcases List.mem_cons.1 h with h0 | h0
  ·injection h0 with h1 h2; subst h1 h2; simp
  ·rw [if_neg,ih hn.2 h0]
   intro e; subst e
   exact hn.1 (List.mem_map.2 ⟨(x,p),h0,rfl⟩)
theorem qbi {l : List (Nat × Pg)} {k : Nat} : qan l k = none ↔ k ∉ l.map (·.1):=by
 induction l with
 | nil=>simp [qan]
 | cons x l ih =>
  obtain ⟨x,q⟩:=x
  simp only [qan]
  by_cases h : x = k
  ·subst h; simp
  ·rw [if_neg h,ih]; simp [Ne.symm h]
theorem mget_pages {l : List (Nat × Pg)} (f : Nat → Value) (k : Nat) : qgv (l.map fun p=>((p.1 : Int),f p.1)) (k : Int) = (qan l k).map fun _=>f k:=by
 induction l with
 | nil=>rfl
 | cons x l ih =>
  obtain ⟨x,q⟩:=x
  rw [List.map_cons,qcg,ih]
  simp only [qan]
  by_cases h : x = k
  ·subst h; simp
  ·rw [if_neg h,if_neg (by omega)]
theorem qfm (l : List (Nat × Pg)) (k : Nat) (p : Pg) : (qbx l k p).map (·.1) = l.map (·.1):=by
 rw [qbx,List.map_map]
 apply List.map_congr_left
 intro x _
 simp only [Function.comp]
 split
 ·rename_i h; exact h.symm
 ·rfl
theorem setPg_map {α : Type} (l : List (Nat × Pg)) (k : Nat) (p : Pg) (f : Nat → α) : (qbx l k p).map (fun x=>f x.1) = l.map fun x=>f x.1:=by
 have:=congrArg (List.map f) (qfm l k p)
 rw [List.map_map,List.map_map] at this
 exact this
theorem setPg_set (l : List (Nat × Pg)) (k : Nat) (p q : Pg) : qbx (qbx l k p) k q = qbx l k q:=by
 rw [qbx,qbx,qbx,List.map_map]
 apply List.map_congr_left
 intro x _
 simp only [Function.comp]
 by_cases h : x.1 = k <;> simp [h]
theorem setPg_same {l : List (Nat × Pg)} {k : Nat} {p : Pg} (hn : (l.map (·.1)).Nodup) (h : qan l k = some p) : qbx l k p = l:=by
 have : qbx l k p = l.map id:=List.map_congr_left fun x hx=>by
  split
  ·rename_i e
   have h2 : qan l x.1 = some x.2:=qci hn hx
   rw [e,h] at h2
   injection h2 with h2
   subst h2
   rw [← e]; rfl
  ·rfl
 rw [this,List.map_id]
theorem qha (l : List (Nat × Pg)) (k : Nat) (p : Pg) (k' : Nat) : qan (qbx l k p) k' = if k' = k then (qan l k).map (fun _=>p) else qan l k':=by
 induction l with
 | nil=>simp [qbx,qan]
 | cons x l ih =>
  obtain ⟨x,q⟩:=x
  have e : qbx ((x,q) :: l) k p = (if x = k then (k,p) else (x,q)) :: qbx l k p:=rfl
  rw [e]
  by_cases h : x = k
  ·subst h
   simp only [if_true,qan]
   by_cases h' : k' = x
   ·subst h'; simp
   ·rw [if_neg (Ne.symm h'),ih,if_neg h',if_neg h',if_neg (Ne.symm h')]
  ·rw [if_neg h]
   simp only [qan]
   by_cases h' : x = k'
   ·subst h'; simp [h]
   ·rw [if_neg h',if_neg h',ih]; by_cases h2 : k' = k
    ·subst h2; simp [h]
    ·simp [h2]
theorem Rising.set {l : List (Nat × Pg)} (h : Rising l) (k : Nat) (p : Pg) : Rising (qbx l k p):=by
 have e:=qfm l k p
 have h1 : (l.map (·.1)).Pairwise (· < ·):=List.pairwise_map.2 h
 rw [← e] at h1
 exact List.pairwise_map.1 h1
theorem MemOk.set {M : MemG} (h : MemOk M) {k : Nat} {p p' : Pg} (hg : qan M.pages k = some p) (h1 : p'.b.length = 256) (h2 : p'.perm ≤ 7) : MemOk { M with pages:=qbx M.pages k p' }:=by
 refine ⟨h.rising.set k p',fun x hx=>?_,h.gens,?_,h.budget⟩
 ·obtain ⟨y,hy,rfl⟩:=List.mem_map.1 hx
  have:=h.page y hy
  split
  ·rename_i e
   exact ⟨by rw [← e]; exact this.al,by rw [← e]; exact this.lt,h1,h2⟩
  ·exact this
 ·show (qbx M.pages k p').length ≤ _
  rw [qbx,List.length_map]; exact h.room
theorem MemOk.bump {M : MemG} (h : MemOk M) (k : Nat) : MemOk { M with gens:=bump M.gens k } :=
 ⟨h.rising, h.page, fun x => by
  show Ytnfkalpgidiafaa.bump M.gens k x < _
  unfold Ytnfkalpgidiafaa.bump
  split
  ·omega
  ·exact h.gens x, h.room, h.budget⟩
theorem qbq (k : Nat) (p : Pg) (l : List (Nat × Pg)) : (qgh k p l).Perm ((k,p) :: l):=by
 induction l with
 | nil=>exact List.Perm.refl _
 | cons x l ih =>
  simp only [qgh]
  split
  ·exact List.Perm.refl _
  ·exact (ih.cons x).trans (List.Perm.swap ..)
theorem Rising.ins {l : List (Nat × Pg)} (h : Rising l) {k : Nat} (p : Pg) (hk : k ∉ l.map (·.1)) : Rising (qgh k p l):=by
 induction l with
 | nil=>exact List.pairwise_singleton ..
 | cons x l ih =>
  have hx:=List.pairwise_cons.1 h
  simp only [List.map_cons,List.mem_cons,not_or] at hk
  simp only [qgh]
  split
  ·rename_i hlt
   refine List.pairwise_cons.2 ⟨fun y hy=>?_,h⟩
   rcases List.mem_cons.1 hy with rfl | hy
   ·exact hlt
   ·exact Nat.lt_trans hlt (hx.1 y hy)
  ·rename_i hge
   refine List.pairwise_cons.2 ⟨fun y hy=>?_,ih hx.2 hk.2⟩
   have hm:=(qbq k p l).mem_iff.1 hy
   rcases List.mem_cons.1 hm with rfl | hm
   ·show x.1 < k; have:=hk.1; omega
   ·exact hx.1 y hm
theorem MemOk.ins {M : MemG} (h : MemOk M) {k : Nat} {p : Pg} (hk : k ∉ M.pages.map (·.1)) (h1 : k % 256 = 0) (h2 : k < 4294967296) (h3 : p.b.length = 256) (h4 : p.perm ≤ 7) (hr : M.pages.length < M.budget) : MemOk { M with pages:=qgh k p M.pages }:=by
 refine ⟨h.rising.ins p hk,fun x hx=>?_,h.gens,?_,h.budget⟩
 ·have hm:=(qbq k p M.pages).mem_iff.1 hx
  rcases List.mem_cons.1 hm with rfl | hm
  ·exact ⟨h1,h2,h3,h4⟩
  ·exact h.page x hm
 ·show (qgh k p M.pages).length ≤ M.budget
  rw [(qbq k p M.pages).length_eq,List.length_cons]; omega
theorem qhh (M : MemG) (a perm i : Nat) : (qdn M a perm i).budget = M.budget:=by
 induction i with
 | zero=>rfl
 | succ i ih=>exact ih
theorem addPgs_length (M : MemG) (a perm i : Nat) : (qdn M a perm i).pages.length = M.pages.length + i:=by
 induction i with
 | zero=>rfl
 | succ i ih =>
  show (qgh _ _ _).length = _
  rw [(qbq _ _ _).length_eq,List.length_cons,ih]; omega
theorem addPgs_mem {M : MemG} {a perm i k : Nat} (h : k ∈ (qdn M a perm i).pages.map (·.1)) : k ∈ M.pages.map (·.1) ∨ ∃ j,j < i ∧ k = a + 256 * j:=by
 induction i with
 | zero=>exact .inl h
 | succ i ih =>
  have h2 : k ∈ ((a + 256 * i,(⟨List.replicate 256 0,perm⟩ : Pg)) :: (qdn M a perm i).pages).map (·.1):=((qbq _ _ _).map _).mem_iff.1 h
  rw [List.map_cons,List.mem_cons] at h2
  rcases h2 with h2 | h2
  ·exact .inr ⟨i,by omega,h2⟩
  ·rcases ih h2 with h3 | ⟨j,h3,h4⟩
   ·exact .inl h3
   ·exact .inr ⟨j,by omega,h4⟩
theorem within_none {M : MemG} {a many : Nat} (h : (qeb M a many).length = 0) {k : Nat} (hk : inS a many k = true) : k ∉ M.pages.map (·.1):=by
 intro hm
 obtain ⟨x,hx,rfl⟩:=List.mem_map.1 hm
 have : x.1 ∈ qeb M a many:=List.mem_map.2 ⟨x,List.mem_filter.2 ⟨hx,hk⟩,rfl⟩
 rw [List.length_eq_zero_iff.1 h] at this
 cases this
end Go.Proofs.Ytnfkalpgidiafaa
set_option linter.unusedVariables false
set_option linter.unusedSimpArgs false
set_option maxRecDepth 100000
namespace Go.Proofs.Ytnfkalpgidiafaa
open _root_.Go.Proofs.Try
open Go
theorem qcw (a : Nat) (ha : a < 4294967296) : Spec Try.prog 58 #[.int .u32 a] (fun _=>True) [] (fun ρ ρ' v L=>ρ' = ρ ∧ v = .int .u32 (qar a) ∧ L = []):=by
 refine Spec.of 7 Try.func58 rfl Try.ntmps58 [(0,_)] rfl rfl ?_
 intro cx ρ hr h0
 refine Cd.seq fun K1 hK1=>?_
 refine Cd.qac [(0,false)] rfl rfl ?_
 refine Jp.y 2 rfl (qaa rfl) rfl rfl Kp.true (Y.assign rfl rfl) ?_
 refine Jp.qae hK1 ?_
 refine Cd.seq fun K2 hK2=>?_
 refine Cd.qac [(0,false),(1,false),(2,false),(3,false),(4,false)] rfl rfl ?_
 refine Jp.y 3 rfl (qaa rfl) rfl rfl Kp.true (Y.move rfl rfl) ?_
 refine Jp.y 4 rfl (qaa rfl) rfl rfl Kp.true (Y.move rfl rfl) ?_
 refine Jp.y 5 rfl (qaa rfl) rfl rfl Kp.true (by exact Y.remN rfl rfl rfl (by omega) (by omega)) ?_
 refine Jp.y 6 rfl (qaa rfl) rfl rfl Kp.true (Y.qfy rfl rfl rfl (qau (by omega) (by omega))) ?_
 refine Jp.y 2 rfl (qaa rfl) rfl rfl Kp.true (Y.assign rfl rfl) ?_
 refine Jp.qae hK2 ?_
 refine Cd.ret [] rfl (qbe rfl rfl) trivial ⟨rfl,congrArg (Value.int .u32) (by unfold qar; omega),rfl⟩
theorem stretch_spec (a n : Nat) (ha : a < 4294967296) (hn : n < 4294967296) : Spec Try.prog 28 #[.int .u32 a,.int .u32 n] (fun _=>True) [] (fun ρ ρ' v L=>ρ' = ρ ∧ v = .tuple #[.int .u64 (((n + 255) / 256 : Nat) : Int),.bool (qem a n).isSome] ∧ L = []):=by
 refine Spec.of 28 Try.func28 rfl Try.ntmps28 [(0,_),(1,_)] rfl rfl ?_
 intro cx ρ hr h0
 refine Cd.seq fun K3 hK3=>?_
 refine Cd.qac [(0,false),(1,false)] rfl rfl ?_
 refine Jp.y 4 rfl (qaa rfl) rfl rfl Kp.true (Y.assign rfl rfl) ?_
 refine Jp.y 5 rfl (qaa rfl) rfl rfl Kp.true (Y.assign rfl rfl) ?_
 refine Jp.qae hK3 ?_
 refine Cd.seq fun K4 hK4=>?_
 refine Cd.qac [(0,false),(1,false),(2,false),(3,false),(4,false),(5,false)] rfl rfl ?_
 refine Jp.y 7 rfl (qaa rfl) rfl rfl Kp.true (Y.move rfl rfl) ?_
 refine Jp.y 8 rfl (qaa rfl) rfl rfl Kp.true (Y.qav rfl rfl underlying31 underlying93 (by exact qbh (by omega) (by omega))) ?_
 refine Jp.y 9 rfl (qaa rfl) rfl rfl Kp.true (Y.qcd rfl rfl rfl (by exact qbh (by omega) (by omega))) ?_
 refine Jp.y 10 rfl (qaa rfl) rfl rfl Kp.true (Y.qfy rfl rfl rfl (by exact qbh (by omega) (by omega))) ?_
 refine Jp.y 11 rfl (qaa rfl) rfl rfl Kp.true (by exact Y.quoN rfl rfl rfl (by omega) (by omega) (qbh (by omega) (by omega))) ?_
 refine Jp.y 6 rfl (qaa rfl) rfl rfl Kp.true (Y.assign rfl rfl) ?_
 refine Jp.qae hK4 ?_
 refine Cd.seq fun K5 hK5=>?_
 refine Cd.qac [(0,false),(1,false),(2,false),(3,false),(4,false),(5,false),(6,false),(7,false),(8,false),(9,false),(10,false),(11,false),(12,false),(13,false),(14,false),(15,false),(16,false),(17,false)] rfl rfl ?_
 refine Jp.y 12 rfl (qaa rfl) rfl rfl Kp.true (Y.move rfl rfl) ?_
 refine Jp.y 13 rfl (qaa rfl) rfl rfl Kp.true (Y.move rfl rfl) ?_
 refine Jp.y 14 rfl (qaa rfl) rfl rfl Kp.true (Y.gtr rfl rfl rfl) ?_
 refine Jp.y 15 rfl (qaa rfl) rfl rfl Kp.true (Y.move rfl rfl) ?_
 refine Jp.split 15 rfl (fun g15=>?_) (fun g15=>?_)
 ·skip
  try simp only [sG0] at g15
  refine Jp.y 16 rfl (qab rfl rfl rfl rfl) rfl rfl Kp.true (Y.move rfl rfl) ?_
  refine Jp.y 17 rfl (qab rfl rfl rfl rfl) rfl rfl Kp.true (by exact Y.remN rfl rfl rfl (by omega) (by omega)) ?_
  refine Jp.y 18 rfl (qab rfl rfl rfl rfl) rfl rfl Kp.true (Y.eql rfl rfl rfl) ?_
  refine Jp.y 19 rfl (qaa rfl) rfl rfl Kp.true (Y.qba rfl rfl rfl) ?_
  refine Jp.y 20 rfl (qaa rfl) rfl rfl Kp.true (Y.move rfl rfl) ?_
  refine Jp.split 20 rfl (fun g20=>?_) (fun g20=>?_)
  ·skip
   try simp only [sG0] at g20
   refine Jp.y 21 rfl (qab rfl rfl rfl rfl) rfl rfl Kp.true (Y.move rfl rfl) ?_
   refine Jp.y 22 rfl (qab rfl rfl rfl rfl) rfl rfl Kp.true (Y.qav rfl rfl underlying31 underlying93 (by exact qbh (by omega) (by omega))) ?_
   refine Jp.y 23 rfl (qab rfl rfl rfl rfl) rfl rfl Kp.true (Y.move rfl rfl) ?_
   refine Jp.y 24 rfl (qab rfl rfl rfl rfl) rfl rfl Kp.true (Y.mul_ rfl rfl rfl (by exact qbh (by omega) (by omega))) ?_
   refine Jp.y 25 rfl (qab rfl rfl rfl rfl) rfl rfl Kp.true (Y.qcd rfl rfl rfl (by exact qbh (by omega) (by omega))) ?_
   refine Jp.y 26 rfl (qab rfl rfl rfl rfl) rfl rfl Kp.true (Y.leq rfl rfl rfl) ?_
   refine Jp.y 27 rfl (qaa rfl) rfl rfl Kp.true (Y.qba rfl rfl rfl) ?_
   refine Jp.y 4 rfl (qaa rfl) rfl rfl Kp.true (Y.assign rfl rfl) ?_
   refine Jp.y 5 rfl (qaa rfl) rfl rfl Kp.true (Y.assign rfl rfl) ?_
   refine Jp.qae hK5 ?_
   refine Cd.ret [] rfl (qbr rfl rfl rfl) trivial ⟨rfl,?_,rfl⟩
   rw [qem]; split <;> simp <;> omega
  ·skip
   try simp only [sG0] at g20
   refine Jp.qat 21 rfl (qab rfl rfl rfl rfl) rfl rfl Kp.true ?_
   refine Jp.qat 22 rfl (qab rfl rfl rfl rfl) rfl rfl Kp.true ?_
   refine Jp.qat 23 rfl (qab rfl rfl rfl rfl) rfl rfl Kp.true ?_
   refine Jp.qat 24 rfl (qab rfl rfl rfl rfl) rfl rfl Kp.true ?_
   refine Jp.qat 25 rfl (qab rfl rfl rfl rfl) rfl rfl Kp.true ?_
   refine Jp.qat 26 rfl (qab rfl rfl rfl rfl) rfl rfl Kp.true ?_
   refine Jp.y 27 rfl (qaa rfl) rfl rfl Kp.true (Y.qaz rfl rfl rfl) ?_
   refine Jp.y 4 rfl (qaa rfl) rfl rfl Kp.true (Y.assign rfl rfl) ?_
   refine Jp.y 5 rfl (qaa rfl) rfl rfl Kp.true (Y.assign rfl rfl) ?_
   refine Jp.qae hK5 ?_
   refine Cd.ret [] rfl (qbr rfl rfl rfl) trivial ⟨rfl,?_,rfl⟩
   rw [qem]; split <;> simp <;> omega
 ·skip
  try simp only [sG0] at g15
  refine Jp.qat 16 rfl (qab rfl rfl rfl rfl) rfl rfl Kp.true ?_
  refine Jp.qat 17 rfl (qab rfl rfl rfl rfl) rfl rfl Kp.true ?_
  refine Jp.qat 18 rfl (qab rfl rfl rfl rfl) rfl rfl Kp.true ?_
  refine Jp.y 19 rfl (qaa rfl) rfl rfl Kp.true (Y.qaz rfl rfl rfl) ?_
  refine Jp.y 20 rfl (qaa rfl) rfl rfl Kp.true (Y.move rfl rfl) ?_
  refine Jp.qat 21 rfl (qab rfl rfl rfl rfl) rfl rfl Kp.true ?_
  refine Jp.qat 22 rfl (qab rfl rfl rfl rfl) rfl rfl Kp.true ?_
  refine Jp.qat 23 rfl (qab rfl rfl rfl rfl) rfl rfl Kp.true ?_
  refine Jp.qat 24 rfl (qab rfl rfl rfl rfl) rfl rfl Kp.true ?_
  refine Jp.qat 25 rfl (qab rfl rfl rfl rfl) rfl rfl Kp.true ?_
  refine Jp.qat 26 rfl (qab rfl rfl rfl rfl) rfl rfl Kp.true ?_
  refine Jp.y 27 rfl (qaa rfl) rfl rfl Kp.true (Y.qaz rfl rfl rfl) ?_
  refine Jp.y 4 rfl (qaa rfl) rfl rfl Kp.true (Y.assign rfl rfl) ?_
  refine Jp.y 5 rfl (qaa rfl) rfl rfl Kp.true (Y.assign rfl rfl) ?_
  refine Jp.qae hK5 ?_
  refine Cd.ret [] rfl (qbr rfl rfl rfl) trivial ⟨rfl,?_,rfl⟩
  rw [qem]; split <;> simp <;> omega
end Go.Proofs.Ytnfkalpgidiafaa
set_option linter.unusedVariables false
set_option linter.unusedSimpArgs false
set_option maxRecDepth 100000
namespace Go.Proofs.Ytnfkalpgidiafaa
open _root_.Go.Proofs.Try
open Go
structure MemX where
 pb : Nat
 gb : Nat
 pm : qcp
 gm : qcp
 blk : Nat → Nat
def pgPtr (x : MemX) (k : Nat) : Value:=.pointer (some ⟨x.blk k,0,none⟩)
structure MemF (M : MemG) (x : MemX) : Prop where
 ok : MemOk M
 pages : x.pm.Perm (M.pages.map fun p=>((p.1 : Int),pgPtr x p.1))
 gens : ∀ k : Nat,(qgv x.gm k).getD (.int .u32 0) = .int .u32 (M.gens k)
def qay (p : Pg) : List Value:=qaf p.b ++ [.int .i64 p.perm]
def pageO (p : Pg) : Obj:=.cells (qay p).toArray 99
def qct (M : MemG) (x : MemX) : Obj:=.cells #[.int .i64 M.budget,.map (some x.pb),.map (some x.gb)] 92
def qbm (M : MemG) (x : MemX) : List (Nat × Obj):=M.pages.map fun p=>(x.blk p.1,pageO p.2)
def qfz (b : Nat) (M : MemG) : qax:=Ex fun x : MemX=>Fact (MemF M x) (Sep (Pt b (qct M x)) (Sep (qda .u32 x.pb x.pm) (Sep (qda .u32 x.gb x.gm) (Blks (qbm M x)))))
theorem MemF.get {M : MemG} {x : MemX} (f : MemF M x) (k : Nat) : qgv x.pm (k : Int) = (qan M.pages k).map fun _=>pgPtr x k:=by
 rw [mget_perm f.pages,mget_pages (pgPtr x)]
 have h:=f.ok.rising.nodup
 rw [List.map_map]
 have e : ((fun x=>x.1) ∘ fun p : Nat × Pg=>((p.1 : Int),pgPtr x p.1)) = (fun k : Nat=>(k : Int)) ∘ fun p=>p.1:=rfl
 rw [e,← List.map_map]
 rw [List.Nodup,List.pairwise_map]
 exact h.imp fun h=>by omega
section
variable {P : Program} {n : Nat} {cx : Cx} {ρ : Hp} {E : Env} {L : Own} {ops : Array Oper} {Q : Exit → Act → World → Prop} {S' : World → Prop} {π : List (Nat × Bool)}
theorem St.memOpen {w : World} (hs : St cx ρ L w) {b : Nat} {M : MemG} (j j1 j2 j3 : Nat) (hd : [j,j1,j2,j3].Nodup) (e : look L j = some (qfz b M)) :
  ∃ x,MemF M x ∧ St cx ρ ((j,Pt b (qct M x)) :: (j1,qda .u32 x.pb x.pm) :: (j2,qda .u32 x.gb x.gm) :: (j3,Blks (qbm M x)) :: L) w:=by
 obtain ⟨x,h1⟩:=hs.ex' e
 obtain ⟨hf,h2⟩:=h1.fact (j:=j) (by rw [qai,if_pos rfl])
 simp only [List.nodup_cons,List.mem_cons,not_or,List.not_mem_nil,not_false_eq_true,List.nodup_nil,and_true] at hd
 obtain ⟨⟨d1,d2,d3⟩,⟨d4,d5⟩,d6⟩:=hd
 have h3:=h2.part (j:=j) (k:=j1) d1 (by rw [qai,if_pos rfl])
 have h4:=h3.part (j:=j1) (k:=j2) d4 (by rw [qai,if_neg d1,qai,if_pos rfl])
 have h5:=h4.part (j:=j2) (k:=j3) d6 (by rw [qai,if_neg d4,qai,if_pos rfl])
 refine ⟨x,hf,h5.subF fun q C hq=>?_⟩
 simp only [qai] at hq ⊢
 by_cases q0 : j = q <;> by_cases q1 : j1 = q <;> by_cases q2 : j2 = q <;> by_cases q3 : j3 = q <;> simp only [q0,q1,q2,q3,if_true,if_false] at hq ⊢ <;> first | exact hq | (exfalso; omega)
theorem St.memClose {w : World} (hs : St cx ρ L w) {b : Nat} {M : MemG} {x : MemX} (j j1 j2 j3 : Nat) (hd : [j,j1,j2,j3].Nodup) (hf : MemF M x) (e : look L j = some (Pt b (qct M x))) (e1 : look L j1 = some (qda .u32 x.pb x.pm)) (e2 : look L j2 = some (qda .u32 x.gb x.gm)) (e3 : look L j3 = some (Blks (qbm M x))) :
  St cx ρ ((j,qfz b M) :: (j1,Emp) :: (j2,Emp) :: (j3,Emp) :: L) w:=by
 simp only [List.nodup_cons,List.mem_cons,not_or,List.not_mem_nil,not_false_eq_true,List.nodup_nil,and_true] at hd
 obtain ⟨⟨d1,d2,d3⟩,⟨d4,d5⟩,d6⟩:=hd
 have h3:=hs.glue (j:=j2) (k:=j3) d6 e2 e3
 have h4:=h3.glue (j:=j1) (k:=j2) d4 (by rw [qai,if_neg (Ne.symm d4),qai,if_neg (Ne.symm d5)]; exact e1) (by rw [qai,if_pos rfl])
 have h5:=h4.glue (j:=j) (k:=j1) d1 (by rw [qai,if_neg (Ne.symm d1),qai,if_neg (Ne.symm d2),qai,if_neg (Ne.symm d2),qai,if_neg (Ne.symm d3)]; exact e) (by rw [qai,if_pos rfl])
 have h6:=h5.imp (i:=j) (A':=qfz b M) (by rw [qai,if_pos rfl]) fun k hk=>⟨x,hf,hk⟩
 refine h6.subF fun q C hq=>?_
 simp only [qai] at hq ⊢
 by_cases q0 : j = q <;> by_cases q1 : j1 = q <;> by_cases q2 : j2 = q <;> by_cases q3 : j3 = q <;> simp only [q0,q1,q2,q3,if_true,if_false] at hq ⊢ <;> first | exact hq | (exfalso; omega)
theorem Cd.memOpen {d : Code} {b : Nat} {M : MemG} (j j1 j2 j3 : Nat) (hd : [j,j1,j2,j3].Nodup) (e : look L j = some (qfz b M))
  (h : ∀ x,MemF M x → Cd P Q n cx ρ E ((j,Pt b (qct M x)) :: (j1,qda .u32 x.pb x.pm) :: (j2,qda .u32 x.gb x.gm) :: (j3,Blks (qbm M x)) :: L) d) : Cd P Q n cx ρ E L d:=fun a w ha hs =>
 let ⟨x,hf,h2⟩:=hs.memOpen j j1 j2 j3 hd e; h x hf a w ha h2
theorem Cd.memClose {d : Code} {b : Nat} {M : MemG} {x : MemX} (j j1 j2 j3 : Nat) (hd : [j,j1,j2,j3].Nodup) (hf : MemF M x) (e : look L j = some (Pt b (qct M x))) (e1 : look L j1 = some (qda .u32 x.pb x.pm)) (e2 : look L j2 = some (qda .u32 x.gb x.gm)) (e3 : look L j3 = some (Blks (qbm M x)))
  (h : Cd P Q n cx ρ E ((j,qfz b M) :: (j1,Emp) :: (j2,Emp) :: (j3,Emp) :: L) d) : Cd P Q n cx ρ E L d:=fun a w ha hs=>h a w ha (hs.memClose j j1 j2 j3 hd hf e e1 e2 e3)
end
end Go.Proofs.Ytnfkalpgidiafaa
set_option linter.unusedVariables false
set_option linter.unusedSimpArgs false
set_option maxRecDepth 100000
namespace Go.Proofs.Ytnfkalpgidiafaa
open _root_.Go.Proofs.Try
open Go
theorem within_spec (b : Nat) (M : MemG) (x : MemX) (hf : MemF M x) (a many : Nat) (ha : a < 4294967296) (hm : many ≤ 16777216) : Spec Try.prog 29 #[.pointer (some ⟨b,0,none⟩),.int .u32 a,.int .u64 many] (fun _=>True) [(0,Pt b (qct M x)),(1,qda .u32 x.pb x.pm)]
  (fun ρ ρ' v L=>ρ' = ρ ∧ ∃ l A c,l.Perm (qeb M a many) ∧ v = .slice A l.length c ∧ L = [(0,Pt b (qct M x)),(1,qda .u32 x.pb x.pm),(2,OwnS 31 1 A l.length c (qcf .u32 l))]):=by
 refine Spec.of 36 Try.func29 rfl Try.ntmps29 [(0,_),(1,_),(2,_)] rfl rfl ?_
 intro cx ρ hr h0
 have hlen:=hf.pages.length_eq
 have hroom:=hf.ok.room
 have hbud:=hf.ok.budget.2
 refine Cd.make 2 (A:=OwnS 31 1 none 0 0 []) (OwnS.nil _ _ _) ?_
 refine Cd.seq fun K1 hK1=>?_
 refine Cd.qac [(0,false)] rfl rfl ?_
 refine Jp.y 6 rfl (qaa rfl) rfl rfl Kp.true (Y.assign rfl rfl) ?_
 refine Jp.qae hK1 ?_
 refine Cd.seq fun K2 hK2=>?_
 refine Cd.qac [(0,false)] rfl rfl ?_
 refine Jp.y 7 rfl (qaa rfl) rfl rfl Kp.true (Y.assign rfl rfl) ?_
 refine Jp.qae hK2 ?_
 refine Cd.seq fun K3 hK3=>?_
 refine Cd.seq fun K4 hK4=>?_
 refine Cd.qac [(0,false),(1,false),(2,false),(3,false),(4,false)] rfl rfl ?_
 refine Jp.y 9 rfl (qaa rfl) rfl rfl Kp.true (Y.move rfl rfl) ?_
 refine Jp.y 10 rfl (qaa rfl) rfl rfl Kp.true (Y.qao rfl rfl) ?_
 refine Jp.y 11 rfl (qaa rfl) rfl rfl Kp.true (by exact Y.qad rfl rfl underlying92 rfl sizeOf89 (by decide) (show _ + 1 = _ from rfl)) ?_
 refine Jp.y 12 rfl (qaa rfl) rfl rfl Kp.true (Y.qaw 0 rfl isAgg89 rfl rfl rfl) ?_
 first | refine Jp.range 13 1 50 (by decide) rfl (qaa rfl) rfl rfl rfl rfl underlying89 rfl fun r1=>⟨Kp.true,?_⟩
 refine Jp.qae hK4 ?_
 refine Cd.block ?_
 obtain ⟨K,hK⟩ : ∃ K : qcp → List Nat,K = fun l=>(l.filter fun y=>inS a many y.1.toNat).map fun y=>y.1.toNat:=⟨_,rfl⟩
 have hstart : (K x.pm).Perm (qeb M a many):=by
  rw [hK,qeb]
  refine ((hf.pages.filter _).map _).trans ?_
  rw [List.filter_map,List.map_map]
  exact List.Perm.of_eq rfl
 have hwl : (qeb M a many).length ≤ 4096:=by
  rw [qeb,List.length_map]
  exact Nat.le_trans (List.length_filter_le _ _) (Nat.le_trans hroom hbud)
 refine Cd.qfl (G:=qcp × List Nat × Option Addr × Nat × Option (Int × Value)) (fun g=>(g.2.1 ++ K g.1).Perm (qeb M a many) ∧ ∀ y ∈ g.1,y ∈ x.pm) (fun g=>g.1.length) (fun _=>_) (fun g=>[(7,.slice g.2.2.1 g.2.1.length g.2.2.2.1)]) [(1,_),(2,_),(13,_)] (fun g=>[(1,RangeO .u32 x.pb r1 x.pm g.1 g.2.2.2.2),(2,OwnS 31 1 g.2.2.1 g.2.1.length g.2.2.2.1 (qcf .u32 g.2.1))]) [(0,_)] ⟨x.pm,[],none,0,none⟩ ⟨hstart,fun y h=>h⟩ rfl ⟨rfl,trivial⟩ ⟨rfl,rfl,rfl,trivial⟩ ⟨rfl,rfl,trivial⟩ ⟨rfl,trivial⟩ (fun g KLa hok hLa=>?_)
 obtain ⟨left,l,A,c,cur⟩:=g
 obtain ⟨ok1,ok2⟩:=hok
 dsimp only at ok1 ok2 ⊢
 refine Cd.seq fun K5 hK5=>?_
 refine Cd.qac [(0,false),(1,false)] rfl rfl ?_
 refine Jp.next 14 1 rfl (qaa rfl) rfl rfl (fun _=>rfl) rfl rfl (fun hn=>⟨Kp.true,?_⟩) (fun q y hq=>⟨Kp.true,?_⟩)
 ·skip
  refine Jp.y 15 rfl (qaa rfl) rfl rfl Kp.true (Y.extract rfl rfl rfl) ?_
  refine Jp.qae hK5 ?_
  refine Cd.seq fun K6 hK6=>?_
  refine Cd.qbu rfl ?_
  refine Cd.exit rfl hK3 ?_
  refine Cd.seq fun K7 hK7=>?_
  refine Cd.qac [(0,false),(1,false)] rfl rfl ?_
  refine Jp.y 35 rfl (qaa rfl) rfl rfl Kp.true (Y.move rfl rfl) ?_
  refine Jp.y 6 rfl (qaa rfl) rfl rfl Kp.true (Y.assign rfl rfl) ?_
  refine Jp.qae hK7 ?_
  refine Cd.imp (i:=1) rfl RangeO.map ?_
  subst hn
  refine Cd.ret [(0,_),(1,_),(2,_)] rfl (qbe rfl rfl) ⟨rfl,rfl,rfl,trivial⟩ ⟨rfl,l,A,c,?_,rfl,rfl⟩
  simpa [hK] using ok1
 ·have hy:=ok2 y (List.mem_of_getElem? hq)
  obtain ⟨p,hp,hpy⟩:=List.mem_map.1 (hf.pages.mem_iff.1 hy)
  have hpo:=hf.ok.page p hp
  have hplt:=hpo.lt
  have hpe:=perm_erase hq
  have hql:=(List.getElem?_eq_some_iff.1 hq).1
  have hel : (left.eraseIdx q).length < left.length:=by rw [List.length_eraseIdx]; split <;> omega
  have hsub : ∀ z ∈ left.eraseIdx q,z ∈ x.pm:=fun z hz=>ok2 z (List.mem_of_mem_eraseIdx hz)
  have hKl : (l ++ K left).length ≤ 4096:=by rw [ok1.length_eq]; exact hwl
  rw [List.length_append] at hKl
  subst hpy
  refine Jp.y 15 rfl (qaa rfl) rfl rfl Kp.true (Y.extract rfl rfl rfl) ?_
  refine Jp.qae hK5 ?_
  refine Cd.seq fun K8 hK8=>?_
  refine Cd.qdk rfl ?_
  refine Cd.qbw hK8 ?_
  refine Cd.block ?_
  refine Cd.seq fun K9 hK9=>?_
  refine Cd.qac [(0,false),(1,false),(2,false)] rfl rfl ?_
  refine Jp.y 16 rfl (qaa rfl) rfl rfl Kp.true (by first | exact Y.entry 1 rfl rfl rfl) ?_
  refine Jp.y 17 rfl (qaa rfl) rfl rfl Kp.true (Y.extract rfl rfl rfl) ?_
  refine Jp.y 8 rfl (qaa rfl) rfl rfl Kp.true (Y.assign rfl rfl) ?_
  refine Jp.qae hK9 ?_
  refine Cd.seq fun K10 hK10=>?_
  refine Cd.qac [(0,false),(1,false),(2,false),(3,false),(4,false),(5,false),(6,false),(7,false),(8,false),(9,false),(10,false),(11,false),(12,false)] rfl rfl ?_
  refine Jp.y 18 rfl (qaa rfl) rfl rfl Kp.true (Y.move rfl rfl) ?_
  refine Jp.y 19 rfl (qaa rfl) rfl rfl Kp.true (Y.move rfl rfl) ?_
  refine Jp.y 20 rfl (qaa rfl) rfl rfl Kp.true (Y.geq rfl rfl rfl) ?_
  refine Jp.y 21 rfl (qaa rfl) rfl rfl Kp.true (Y.move rfl rfl) ?_
  refine Jp.splitF 21 rfl (fun g21=>?_) (fun g21=>?_)
  ·skip
   refine Jp.qat 22 rfl (qab rfl rfl rfl rfl) rfl rfl Kp.true ?_
   refine Jp.qat 23 rfl (qab rfl rfl rfl rfl) rfl rfl Kp.true ?_
   refine Jp.qat 24 rfl (qab rfl rfl rfl rfl) rfl rfl Kp.true ?_
   refine Jp.qat 25 rfl (qab rfl rfl rfl rfl) rfl rfl Kp.true ?_
   refine Jp.qat 26 rfl (qab rfl rfl rfl rfl) rfl rfl Kp.true ?_
   refine Jp.qat 27 rfl (qab rfl rfl rfl rfl) rfl rfl Kp.true ?_
   refine Jp.qat 28 rfl (qab rfl rfl rfl rfl) rfl rfl Kp.true ?_
   refine Jp.qat 29 rfl (qab rfl rfl rfl rfl) rfl rfl Kp.true ?_
   refine Jp.y 30 rfl (qaa rfl) rfl rfl Kp.true (Y.qaz rfl rfl rfl) ?_
   refine Jp.qae hK10 ?_
   refine Cd.qbu rfl ?_
   refine CdQ.again rfl hLa ⟨left.eraseIdx q,l,A,c,_⟩ ⟨(List.Perm.append_left l ?_).trans ok1,hsub⟩ hel rfl ⟨rfl,rfl,rfl,rfl,trivial⟩ ⟨rfl,rfl,rfl,trivial⟩
   have hin : inS a many p.1 = false:=by simp only [decide_eq_false_iff_not] at g21; simp only [inS,Bool.and_eq_false_iff,decide_eq_false_iff_not]; omega
   rw [hK]
   refine (((hpe.filter _).map _).trans ?_).symm
   rw [List.filter_cons_of_neg (by simp [hin])]
  try simp only [sG0] at g21
  refine Jp.y 22 rfl (qab rfl rfl rfl rfl) rfl rfl Kp.true (Y.move rfl rfl) ?_
  refine Jp.y 23 rfl (qab rfl rfl rfl rfl) rfl rfl Kp.true (Y.qav rfl rfl underlying31 underlying93 (by exact qbh (by omega) (by omega))) ?_
  refine Jp.y 24 rfl (qab rfl rfl rfl rfl) rfl rfl Kp.true (Y.move rfl rfl) ?_
  refine Jp.y 25 rfl (qab rfl rfl rfl rfl) rfl rfl Kp.true (Y.qav rfl rfl underlying31 underlying93 (by exact qbh (by omega) (by omega))) ?_
  refine Jp.y 26 rfl (qab rfl rfl rfl rfl) rfl rfl Kp.true (Y.move rfl rfl) ?_
  refine Jp.y 27 rfl (qab rfl rfl rfl rfl) rfl rfl Kp.true (Y.mul_ rfl rfl rfl (by exact qbh (by omega) (by omega))) ?_
  refine Jp.y 28 rfl (qab rfl rfl rfl rfl) rfl rfl Kp.true (Y.qcd rfl rfl rfl (by exact qbh (by omega) (by omega))) ?_
  refine Jp.y 29 rfl (qab rfl rfl rfl rfl) rfl rfl Kp.true (Y.lss rfl rfl rfl) ?_
  refine Jp.y 30 rfl (qaa rfl) rfl rfl Kp.true (Y.qba rfl rfl rfl) ?_
  refine Jp.qae hK10 ?_
  refine Cd.condF' rfl (fun g30=>?_) (fun g30=>?_)
  ·skip
   refine CdQ.again rfl hLa ⟨left.eraseIdx q,l,A,c,_⟩ ⟨(List.Perm.append_left l ?_).trans ok1,hsub⟩ hel rfl ⟨rfl,rfl,rfl,rfl,trivial⟩ ⟨rfl,rfl,rfl,trivial⟩
   have hin : inS a many p.1 = false:=by simp only [decide_eq_false_iff_not] at g30; simp only [inS,Bool.and_eq_false_iff,decide_eq_false_iff_not]; omega
   rw [hK]
   refine (((hpe.filter _).map _).trans ?_).symm
   rw [List.filter_cons_of_neg (by simp [hin])]
  try simp only [sG0] at g30
  refine Cd.qac [(0,false),(1,false),(2,false),(3,false),(4,false)] rfl rfl ?_
  refine Jp.y 31 rfl (qaa rfl) rfl rfl Kp.true (Y.move rfl rfl) ?_
  refine Jp.y 32 rfl (qaa rfl) rfl rfl Kp.true (Y.move rfl rfl) ?_
  refine Jp.lit 33 51 [(0,_)] [_] rfl (qaa rfl) rfl rfl rfl rfl underlying35 sizeOf31 zeroValue31 rfl rfl rfl rfl rfl fun b51=>⟨Kp.true,?_⟩
  have hin : inS a many p.1 = true:=by simp only [inS,Bool.and_eq_true,decide_eq_true_eq]; omega
  have hKp : (K left).Perm (p.1 :: K (left.eraseIdx q)):=by
   rw [hK]
   refine ((hpe.filter _).map _).trans ?_
   rw [List.filter_cons_of_pos (by simp [hin])]
   exact List.Perm.of_eq rfl
  have hKpl:=hKp.length_eq
  rw [List.length_cons] at hKpl
  refine Jp.append 34 2 rfl (qaa rfl) rfl rfl rfl underlying35 underlying35 (.inl ⟨_,rfl⟩) sizeOf31 Try.typeInfo31 zeroValue31 rfl (by decide) rfl rfl rfl (Src.own 51 rfl) rfl ((l.length + 1)) ((qcf .u32 (l ++ [p.1]))) (by first | omega | simp) (by simp [qcf]) (by simp only [Try.t31]; omega) fun AN cN=>⟨Kp.true,?_⟩
  refine Jp.y 7 rfl (qaa rfl) rfl rfl Kp.true (Y.assign rfl rfl) ?_
  rw [show l.length + 1 = (l ++ [p.1]).length by simp]
  refine JpQ.again rfl hLa ⟨left.eraseIdx q,l ++ [p.1],AN,cN,_⟩ ⟨?_,hsub⟩ hel rfl ⟨rfl,rfl,rfl,rfl,trivial⟩ ⟨rfl,rfl,rfl,trivial⟩
  rw [List.append_assoc]
  exact (List.Perm.append_left l (hKp.symm)).trans ok1
theorem qby (p : Pg) (h : p.b.length = 256) : (qay p).toArray[256]? = some (.int .i64 p.perm):=by
 simp [qay,qaf,h]
theorem MemF.blk {M : MemG} {x : MemX} {k : Nat} {p : Pg} (h : qan M.pages k = some p) : (x.blk k,pageO p) ∈ qbm M x:=List.mem_map.2 ⟨(k,p),qbb h,rfl⟩
theorem look_spec (b : Nat) (M : MemG) (x : MemX) (hf : MemF M x) (a : Nat) (size need : Int) (ha : a < 4294967296) : Spec Try.prog 65 #[.pointer (some ⟨b,0,none⟩),.int .u32 a,.int .i64 size,.int .i64 need] (fun _=>True) [(0,Pt b (qct M x)),(1,qda .u32 x.pb x.pm),(2,Blks (qbm M x))]
    (fun ρ ρ' v L=>ρ' = ρ ∧ v = .tuple #[.pointer (if qcu M a size need = 0 then some ⟨x.blk (qar a),0,none⟩ else none),.int .i64 (qcu M a size need)] ∧ L = [(0,Pt b (qct M x)),(1,qda .u32 x.pb x.pm),(2,Blks (qbm M x))]):=by
  refine Spec.of 48 Try.func65 rfl Try.ntmps65 [(0,_),(1,_),(2,_),(3,_)] rfl rfl ?_
  intro cx ρ hr h0
  refine Cd.seq fun K11 hK11=>?_
  refine Cd.qac [(0,false),(1,false)] rfl rfl ?_
  refine Jp.y 8 rfl (qaa rfl) rfl rfl Kp.true (Y.assign rfl rfl) ?_
  refine Jp.y 9 rfl (qaa rfl) rfl rfl Kp.true (Y.assign rfl rfl) ?_
  refine Jp.qae hK11 ?_
  refine Cd.seq fun K12 hK12=>?_
  refine Cd.seq fun K13 hK13=>?_
  refine Cd.qac [(0,false),(1,false),(2,false),(3,false),(4,false),(5,false),(6,false),(7,false),(8,false),(9,false),(10,false),(11,false),(12,false),(13,false),(14,false),(15,false),(16,false)] rfl rfl ?_
  refine Jp.y 11 rfl (qaa rfl) rfl rfl Kp.true (Y.move rfl rfl) ?_
  refine Jp.y 12 rfl (qaa rfl) rfl rfl Kp.true (Y.neq rfl rfl rfl) ?_
  refine Jp.y 13 rfl (qaa rfl) rfl rfl Kp.true (Y.move rfl rfl) ?_
  refine Jp.split 13 rfl (fun g13=>?_) (fun g13=>?_)
  · skip
    try simp only [sG0] at g13
    refine Jp.y 14 rfl (qab rfl rfl rfl rfl) rfl rfl Kp.true (Y.move rfl rfl) ?_
    refine Jp.y 15 rfl (qab rfl rfl rfl rfl) rfl rfl Kp.true (Y.neq rfl rfl rfl) ?_
    refine Jp.y 16 rfl (qaa rfl) rfl rfl Kp.true (Y.qba rfl rfl rfl) ?_
    refine Jp.y 17 rfl (qaa rfl) rfl rfl Kp.true (Y.move rfl rfl) ?_
    refine Jp.split 17 rfl (fun g17=>?_) (fun g17=>?_)
    · skip
      try simp only [sG0] at g17
      refine Jp.y 18 rfl (qab rfl rfl rfl rfl) rfl rfl Kp.true (Y.move rfl rfl) ?_
      refine Jp.y 19 rfl (qab rfl rfl rfl rfl) rfl rfl Kp.true (Y.neq rfl rfl rfl) ?_
      refine Jp.y 20 rfl (qaa rfl) rfl rfl Kp.true (Y.qba rfl rfl rfl) ?_
      refine Jp.y 21 rfl (qaa rfl) rfl rfl Kp.true (Y.move rfl rfl) ?_
      refine Jp.split 21 rfl (fun g21=>?_) (fun g21=>?_)
      · skip
        try simp only [sG0] at g21
        refine Jp.qat 22 rfl (qab rfl rfl rfl rfl) rfl rfl Kp.true ?_
        refine Jp.qat 23 rfl (qab rfl rfl rfl rfl) rfl rfl Kp.true ?_
        refine Jp.qat 24 rfl (qab rfl rfl rfl rfl) rfl rfl Kp.true ?_
        refine Jp.qat 25 rfl (qab rfl rfl rfl rfl) rfl rfl Kp.true ?_
        refine Jp.qat 26 rfl (qab rfl rfl rfl rfl) rfl rfl Kp.true ?_
        refine Jp.y 27 rfl (qaa rfl) rfl rfl Kp.true (Y.qba rfl rfl rfl) ?_
        refine Jp.qae hK13 ?_
        refine Cd.qdk rfl ?_
        refine Cd.seq fun K14 hK14=>?_
        refine Cd.qac [(0,false),(1,false)] rfl rfl ?_
        refine Jp.y 8 rfl (qaa rfl) rfl rfl Kp.true (Y.assign rfl rfl) ?_
        refine Jp.y 9 rfl (qaa rfl) rfl rfl Kp.true (Y.assign rfl rfl) ?_
        refine Jp.qae hK14 ?_
        refine Cd.ret [(0,_),(1,_),(2,_)] rfl (qbr rfl rfl rfl) ⟨rfl,rfl,rfl,trivial⟩ ⟨rfl,?_,rfl⟩
        have h3 : qcu M a size need = 3:=by
          rw [qcu,if_pos]
          simp only [qdy,Bool.and_eq_false_iff,Bool.or_eq_false_iff,beq_eq_false_iff_ne,ne_eq]
          omega
        rw [h3]; rfl
      · skip
        try simp only [sG0] at g21
        refine Jp.y 22 rfl (qab rfl rfl rfl rfl) rfl rfl Kp.true (Y.move rfl rfl) ?_
        refine Jp.y 23 rfl (qab rfl rfl rfl rfl) rfl rfl Kp.true (Y.move rfl rfl) ?_
        refine Jp.y 24 rfl (qab rfl rfl rfl rfl) rfl rfl Kp.true (Y.qav rfl rfl underlying3 underlying31 (by exact qau (by omega) (by omega))) ?_
        refine Jp.y 25 rfl (qab rfl rfl rfl rfl) rfl rfl Kp.true (by exact Y.remN rfl rfl rfl (by omega) (by omega)) ?_
        refine Jp.y 26 rfl (qab rfl rfl rfl rfl) rfl rfl Kp.true (Y.neq rfl rfl rfl) ?_
        refine Jp.y 27 rfl (qaa rfl) rfl rfl Kp.true (Y.qaz rfl rfl rfl) ?_
        refine Jp.qae hK13 ?_
        refine Cd.qaq rfl (fun g27=>?_) (fun g27=>?_)
        · skip
          try simp only [sG0] at g27
          refine Cd.seq fun K15 hK15=>?_
          refine Cd.qac [(0,false),(1,false)] rfl rfl ?_
          refine Jp.y 8 rfl (qaa rfl) rfl rfl Kp.true (Y.assign rfl rfl) ?_
          refine Jp.y 9 rfl (qaa rfl) rfl rfl Kp.true (Y.assign rfl rfl) ?_
          refine Jp.qae hK15 ?_
          refine Cd.ret [(0,_),(1,_),(2,_)] rfl (qbr rfl rfl rfl) ⟨rfl,rfl,rfl,trivial⟩ ⟨rfl,?_,rfl⟩
          have h3 : qcu M a size need = 3:=by
            rw [qcu,if_pos]
            simp only [qdy,Bool.and_eq_false_iff,Bool.or_eq_false_iff,beq_eq_false_iff_ne,ne_eq]
            omega
          rw [h3]; rfl
        · skip
          try simp only [sG0] at g27
          refine Cd.qbw hK12 ?_
          refine Cd.seq fun K16 hK16=>?_
          have hs : qdy a size = true:=by
            simp only [qdy,Bool.and_eq_true,Bool.or_eq_true,beq_iff_eq]
            omega
          refine Cd.drawn [(0,_),(1,_)] ⟨rfl,rfl,trivial⟩ [(0,true),(1,true),(2,true),(3,true),(4,true),(5,false),(6,true),(7,true)] follows (by kernel_rfl) (fun hrl=>?_)
          refine Jp.q 28 rfl (qaa rfl) rfl rfl (Y.move rfl rfl) ?_
          refine Jp.q 29 rfl (qaa rfl) rfl rfl (Y.qao rfl rfl) ?_
          refine Jp.q 30 rfl (qaa rfl) rfl rfl (by exact Y.qad rfl rfl underlying92 rfl sizeOf89 (by decide) (show _ + 1 = _ from rfl)) ?_
          refine Jp.q 31 rfl (qaa rfl) rfl rfl (Y.qaw 0 rfl isAgg89 rfl rfl rfl) ?_
          refine Jp.q 32 rfl (qaa rfl) rfl rfl (Y.move rfl rfl) ?_
          refine Jp.call [] [] (qcw a ha) 33 rfl (qaa rfl) rfl rfl (Runs.fn rfl call58 rfl) (by decide) (by decide) rfl trivial ?_
          rintro v101 ρ101 L101 ⟨rfl,rfl,rfl⟩
          refine ⟨rfl,fun hle101=>⟨(Kp.st ⟨rfl,rfl,trivial⟩),?_⟩⟩
          refine Jp.q 34 rfl (qaa rfl) rfl rfl (by first | exact Y.lookup 1 rfl rfl rfl underlying89 underlying31 zeroValue97 rfl) ?_
          refine Jp.q 10 rfl (qaa rfl) rfl rfl (Y.assign rfl rfl) ?_
          refine Jp.qae hK16 ?_
          refine Cd.seq fun K18 hK18=>?_
          refine Cd.block ?_
          refine Cd.seq fun K19 hK19=>?_
          refine Cd.qac [(0,false),(1,false),(2,false)] rfl rfl ?_
          have hget:=hf.get (qar a)
          rcases hg : qan M.pages (qar a) with _ | p
          · have hlk : qcu M a size need = 1:=by rw [qcu,if_neg (by rw [hs]; simp),hg]
            rw [hg] at hget
            refine Jp.slot 10 rfl (show _ = Value.pointer none by rw [hget]; rfl) ?_
            refine Jp.y 36 rfl (qaa rfl) rfl rfl Kp.true (Y.move rfl rfl) ?_
            refine Jp.y 37 rfl (qaa rfl) rfl rfl Kp.true (Y.qfj rfl underlying97 rfl rfl) ?_
            refine Jp.y 35 rfl (qaa rfl) rfl rfl Kp.true (Y.assign rfl rfl) ?_
            refine Jp.qae hK19 ?_
            refine Cd.qaq rfl (fun g35=>?_) (fun g35=>?_)
            · skip
              try simp only [sG0] at g35
              skip
              refine Cd.seq fun K20 hK20=>?_
              refine Cd.qac [(0,false),(1,false)] rfl rfl ?_
              refine Jp.y 8 rfl (qaa rfl) rfl rfl Kp.true (Y.assign rfl rfl) ?_
              refine Jp.y 9 rfl (qaa rfl) rfl rfl Kp.true (Y.assign rfl rfl) ?_
              refine Jp.qae hK20 ?_
              refine Cd.ret [(0,_),(1,_),(2,_)] rfl (qbr rfl rfl rfl) ⟨rfl,rfl,rfl,trivial⟩ ⟨rfl,?_,rfl⟩
              (rw [hlk]; rfl)
            · skip
              try simp only [sG0] at g35
              (simp at g35; done)
          · have hlk : qcu M a size need = if may p.perm need then 0 else 2:=by rw [qcu,if_neg (by rw [hs]; simp),hg]
            rw [hg] at hget
            refine Jp.slot 10 rfl (show _ = Value.pointer (some ⟨x.blk (qar a),0,none⟩) by rw [hget]; rfl) ?_
            have hpo:=hf.ok.page _ (qbb hg)
            have hcell:=Blks.cell (MemF.blk (x:=x) hg) (qby p hpo.len)
            refine Jp.y 36 rfl (qaa rfl) rfl rfl Kp.true (Y.move rfl rfl) ?_
            refine Jp.y 37 rfl (qaa rfl) rfl rfl Kp.true (Y.qfj rfl underlying97 rfl rfl) ?_
            refine Jp.y 35 rfl (qaa rfl) rfl rfl Kp.true (Y.assign rfl rfl) ?_
            refine Jp.qae hK19 ?_
            refine Cd.qaq rfl (fun g35=>?_) (fun g35=>?_)
            · skip
              try simp only [sG0] at g35
              (simp at g35; done)
            · skip
              try simp only [sG0] at g35
              skip
              refine Cd.seq fun K25 hK25=>?_
              refine Cd.qac [(0,false),(1,false),(2,false),(3,false),(4,false),(5,false),(6,false),(7,false),(8,false)] rfl rfl ?_
              refine Jp.y 39 rfl (qaa rfl) rfl rfl Kp.true (Y.move rfl rfl) ?_
              refine Jp.y 40 rfl (qaa rfl) rfl rfl Kp.true (Y.qao rfl rfl) ?_
              refine Jp.y 41 rfl (qaa rfl) rfl rfl Kp.true (by exact Y.qad rfl rfl underlying99 rfl sizeOf3 (by decide) (show _ + 256 = _ from rfl)) ?_
              refine Jp.y 42 rfl (qaa rfl) rfl rfl Kp.true (by exact Y.qbk 2 rfl isAgg3 rfl rfl hcell) ?_
              refine Jp.y 43 rfl (qaa rfl) rfl rfl Kp.true (Y.move rfl rfl) ?_
              refine Jp.y 44 rfl (qaa rfl) rfl rfl Kp.true (Y.bits rfl rfl rfl rfl) ?_
              refine Jp.y 45 rfl (qaa rfl) rfl rfl Kp.true (Y.move rfl rfl) ?_
              refine Jp.y 46 rfl (qaa rfl) rfl rfl Kp.true (Y.neq rfl rfl rfl) ?_
              refine Jp.y 38 rfl (qaa rfl) rfl rfl Kp.true (Y.assign rfl rfl) ?_
              refine Jp.qae hK25 ?_
              refine Cd.qaq rfl (fun g38=>?_) (fun g38=>?_)
              · skip
                try simp only [sG0] at g38
                skip
                refine Cd.seq fun K26 hK26=>?_
                refine Cd.qac [(0,false),(1,false)] rfl rfl ?_
                refine Jp.y 8 rfl (qaa rfl) rfl rfl Kp.true (Y.assign rfl rfl) ?_
                refine Jp.y 9 rfl (qaa rfl) rfl rfl Kp.true (Y.assign rfl rfl) ?_
                refine Jp.qae hK26 ?_
                refine Cd.ret [(0,_),(1,_),(2,_)] rfl (qbr rfl rfl rfl) ⟨rfl,rfl,rfl,trivial⟩ ⟨rfl,?_,rfl⟩
                (have hm : may p.perm need = false := by simpa [may] using g38
                 simp [hlk, hm])
              · skip
                try simp only [sG0] at g38
                skip
                refine Cd.over rfl hK18 ?_
                refine Cd.seq fun K27 hK27=>?_
                refine Cd.qac [(0,false),(1,false),(2,false)] rfl rfl ?_
                refine Jp.y 47 rfl (qaa rfl) rfl rfl Kp.true (Y.move rfl rfl) ?_
                refine Jp.y 8 rfl (qaa rfl) rfl rfl Kp.true (Y.assign rfl rfl) ?_
                refine Jp.y 9 rfl (qaa rfl) rfl rfl Kp.true (Y.assign rfl rfl) ?_
                refine Jp.qae hK27 ?_
                refine Cd.ret [(0,_),(1,_),(2,_)] rfl (qbr rfl rfl rfl) ⟨rfl,rfl,rfl,trivial⟩ ⟨rfl,?_,rfl⟩
                (have hm : may p.perm need = true := by simpa [may] using g38
                 simp [hlk, hm])
    · skip
      try simp only [sG0] at g17
      refine Jp.qat 18 rfl (qab rfl rfl rfl rfl) rfl rfl Kp.true ?_
      refine Jp.qat 19 rfl (qab rfl rfl rfl rfl) rfl rfl Kp.true ?_
      refine Jp.y 20 rfl (qaa rfl) rfl rfl Kp.true (Y.qaz rfl rfl rfl) ?_
      refine Jp.y 21 rfl (qaa rfl) rfl rfl Kp.true (Y.move rfl rfl) ?_
      refine Jp.y 22 rfl (qab rfl rfl rfl rfl) rfl rfl Kp.true (Y.move rfl rfl) ?_
      refine Jp.y 23 rfl (qab rfl rfl rfl rfl) rfl rfl Kp.true (Y.move rfl rfl) ?_
      refine Jp.y 24 rfl (qab rfl rfl rfl rfl) rfl rfl Kp.true (Y.qav rfl rfl underlying3 underlying31 (by exact qau (by omega) (by omega))) ?_
      refine Jp.y 25 rfl (qab rfl rfl rfl rfl) rfl rfl Kp.true (by exact Y.remN rfl rfl rfl (by omega) (by omega)) ?_
      refine Jp.y 26 rfl (qab rfl rfl rfl rfl) rfl rfl Kp.true (Y.neq rfl rfl rfl) ?_
      refine Jp.y 27 rfl (qaa rfl) rfl rfl Kp.true (Y.qaz rfl rfl rfl) ?_
      refine Jp.qae hK13 ?_
      refine Cd.qaq rfl (fun g27=>?_) (fun g27=>?_)
      · skip
        try simp only [sG0] at g27
        refine Cd.seq fun K28 hK28=>?_
        refine Cd.qac [(0,false),(1,false)] rfl rfl ?_
        refine Jp.y 8 rfl (qaa rfl) rfl rfl Kp.true (Y.assign rfl rfl) ?_
        refine Jp.y 9 rfl (qaa rfl) rfl rfl Kp.true (Y.assign rfl rfl) ?_
        refine Jp.qae hK28 ?_
        refine Cd.ret [(0,_),(1,_),(2,_)] rfl (qbr rfl rfl rfl) ⟨rfl,rfl,rfl,trivial⟩ ⟨rfl,?_,rfl⟩
        have h3 : qcu M a size need = 3:=by
          rw [qcu,if_pos]
          simp only [qdy,Bool.and_eq_false_iff,Bool.or_eq_false_iff,beq_eq_false_iff_ne,ne_eq]
          omega
        rw [h3]; rfl
      · skip
        try simp only [sG0] at g27
        refine Cd.qbw hK12 ?_
        refine Cd.seq fun K29 hK29=>?_
        have hs : qdy a size = true:=by
          simp only [qdy,Bool.and_eq_true,Bool.or_eq_true,beq_iff_eq]
          omega
        refine Cd.drawn [(0,_),(1,_)] ⟨rfl,rfl,trivial⟩ [(0,true),(1,true),(2,true),(3,true),(4,true),(5,false),(6,true),(7,true)] follows (by kernel_rfl) (fun hrl=>?_)
        refine Jp.q 28 rfl (qaa rfl) rfl rfl (Y.move rfl rfl) ?_
        refine Jp.q 29 rfl (qaa rfl) rfl rfl (Y.qao rfl rfl) ?_
        refine Jp.q 30 rfl (qaa rfl) rfl rfl (by exact Y.qad rfl rfl underlying92 rfl sizeOf89 (by decide) (show _ + 1 = _ from rfl)) ?_
        refine Jp.q 31 rfl (qaa rfl) rfl rfl (by exact Y.qaw 0 rfl isAgg89 rfl rfl rfl) ?_
        refine Jp.q 32 rfl (qaa rfl) rfl rfl (Y.move rfl rfl) ?_
        refine Jp.call [] [] (qcw a ha) 33 rfl (qaa rfl) rfl rfl (Runs.fn rfl call58 rfl) (by decide) (by decide) rfl trivial ?_
        rintro v102 ρ102 L102 ⟨rfl,rfl,rfl⟩
        refine ⟨rfl,fun hle102=>⟨(Kp.st ⟨rfl,rfl,trivial⟩),?_⟩⟩
        refine Jp.q 34 rfl (qaa rfl) rfl rfl (by first | exact Y.lookup 1 rfl rfl rfl underlying89 underlying31 zeroValue97 rfl) ?_
        refine Jp.q 10 rfl (qaa rfl) rfl rfl (Y.assign rfl rfl) ?_
        refine Jp.qae hK29 ?_
        refine Cd.seq fun K31 hK31=>?_
        refine Cd.block ?_
        refine Cd.seq fun K32 hK32=>?_
        refine Cd.qac [(0,false),(1,false),(2,false)] rfl rfl ?_
        have hget:=hf.get (qar a)
        rcases hg : qan M.pages (qar a) with _ | p
        · have hlk : qcu M a size need = 1:=by rw [qcu,if_neg (by rw [hs]; simp),hg]
          rw [hg] at hget
          refine Jp.slot 10 rfl (show _ = Value.pointer none by rw [hget]; rfl) ?_
          refine Jp.y 36 rfl (qaa rfl) rfl rfl Kp.true (Y.move rfl rfl) ?_
          refine Jp.y 37 rfl (qaa rfl) rfl rfl Kp.true (Y.qfj rfl underlying97 rfl rfl) ?_
          refine Jp.y 35 rfl (qaa rfl) rfl rfl Kp.true (Y.assign rfl rfl) ?_
          refine Jp.qae hK32 ?_
          refine Cd.qaq rfl (fun g35=>?_) (fun g35=>?_)
          · skip
            try simp only [sG0] at g35
            skip
            refine Cd.seq fun K33 hK33=>?_
            refine Cd.qac [(0,false),(1,false)] rfl rfl ?_
            refine Jp.y 8 rfl (qaa rfl) rfl rfl Kp.true (Y.assign rfl rfl) ?_
            refine Jp.y 9 rfl (qaa rfl) rfl rfl Kp.true (Y.assign rfl rfl) ?_
            refine Jp.qae hK33 ?_
            refine Cd.ret [(0,_),(1,_),(2,_)] rfl (qbr rfl rfl rfl) ⟨rfl,rfl,rfl,trivial⟩ ⟨rfl,?_,rfl⟩
            (rw [hlk]; rfl)
          · skip
            try simp only [sG0] at g35
            (simp at g35; done)
        · have hlk : qcu M a size need = if may p.perm need then 0 else 2:=by rw [qcu,if_neg (by rw [hs]; simp),hg]
          rw [hg] at hget
          refine Jp.slot 10 rfl (show _ = Value.pointer (some ⟨x.blk (qar a),0,none⟩) by rw [hget]; rfl) ?_
          have hpo:=hf.ok.page _ (qbb hg)
          have hcell:=Blks.cell (MemF.blk (x:=x) hg) (qby p hpo.len)
          refine Jp.y 36 rfl (qaa rfl) rfl rfl Kp.true (Y.move rfl rfl) ?_
          refine Jp.y 37 rfl (qaa rfl) rfl rfl Kp.true (Y.qfj rfl underlying97 rfl rfl) ?_
          refine Jp.y 35 rfl (qaa rfl) rfl rfl Kp.true (Y.assign rfl rfl) ?_
          refine Jp.qae hK32 ?_
          refine Cd.qaq rfl (fun g35=>?_) (fun g35=>?_)
          · skip
            try simp only [sG0] at g35
            (simp at g35; done)
          · skip
            try simp only [sG0] at g35
            skip
            refine Cd.seq fun K38 hK38=>?_
            refine Cd.qac [(0,false),(1,false),(2,false),(3,false),(4,false),(5,false),(6,false),(7,false),(8,false)] rfl rfl ?_
            refine Jp.y 39 rfl (qaa rfl) rfl rfl Kp.true (Y.move rfl rfl) ?_
            refine Jp.y 40 rfl (qaa rfl) rfl rfl Kp.true (Y.qao rfl rfl) ?_
            refine Jp.y 41 rfl (qaa rfl) rfl rfl Kp.true (by exact Y.qad rfl rfl underlying99 rfl sizeOf3 (by decide) (show _ + 256 = _ from rfl)) ?_
            refine Jp.y 42 rfl (qaa rfl) rfl rfl Kp.true (by exact Y.qbk 2 rfl isAgg3 rfl rfl hcell) ?_
            refine Jp.y 43 rfl (qaa rfl) rfl rfl Kp.true (Y.move rfl rfl) ?_
            refine Jp.y 44 rfl (qaa rfl) rfl rfl Kp.true (Y.bits rfl rfl rfl rfl) ?_
            refine Jp.y 45 rfl (qaa rfl) rfl rfl Kp.true (Y.move rfl rfl) ?_
            refine Jp.y 46 rfl (qaa rfl) rfl rfl Kp.true (Y.neq rfl rfl rfl) ?_
            refine Jp.y 38 rfl (qaa rfl) rfl rfl Kp.true (Y.assign rfl rfl) ?_
            refine Jp.qae hK38 ?_
            refine Cd.qaq rfl (fun g38=>?_) (fun g38=>?_)
            · skip
              try simp only [sG0] at g38
              skip
              refine Cd.seq fun K39 hK39=>?_
              refine Cd.qac [(0,false),(1,false)] rfl rfl ?_
              refine Jp.y 8 rfl (qaa rfl) rfl rfl Kp.true (Y.assign rfl rfl) ?_
              refine Jp.y 9 rfl (qaa rfl) rfl rfl Kp.true (Y.assign rfl rfl) ?_
              refine Jp.qae hK39 ?_
              refine Cd.ret [(0,_),(1,_),(2,_)] rfl (qbr rfl rfl rfl) ⟨rfl,rfl,rfl,trivial⟩ ⟨rfl,?_,rfl⟩
              (have hm : may p.perm need = false := by simpa [may] using g38
               simp [hlk, hm])
            · skip
              try simp only [sG0] at g38
              skip
              refine Cd.over rfl hK31 ?_
              refine Cd.seq fun K40 hK40=>?_
              refine Cd.qac [(0,false),(1,false),(2,false)] rfl rfl ?_
              refine Jp.y 47 rfl (qaa rfl) rfl rfl Kp.true (Y.move rfl rfl) ?_
              refine Jp.y 8 rfl (qaa rfl) rfl rfl Kp.true (Y.assign rfl rfl) ?_
              refine Jp.y 9 rfl (qaa rfl) rfl rfl Kp.true (Y.assign rfl rfl) ?_
              refine Jp.qae hK40 ?_
              refine Cd.ret [(0,_),(1,_),(2,_)] rfl (qbr rfl rfl rfl) ⟨rfl,rfl,rfl,trivial⟩ ⟨rfl,?_,rfl⟩
              (have hm : may p.perm need = true := by simpa [may] using g38
               simp [hlk, hm])
  · skip
    try simp only [sG0] at g13
    refine Jp.qat 14 rfl (qab rfl rfl rfl rfl) rfl rfl Kp.true ?_
    refine Jp.qat 15 rfl (qab rfl rfl rfl rfl) rfl rfl Kp.true ?_
    refine Jp.y 16 rfl (qaa rfl) rfl rfl Kp.true (Y.qaz rfl rfl rfl) ?_
    refine Jp.y 17 rfl (qaa rfl) rfl rfl Kp.true (Y.move rfl rfl) ?_
    refine Jp.qat 18 rfl (qab rfl rfl rfl rfl) rfl rfl Kp.true ?_
    refine Jp.qat 19 rfl (qab rfl rfl rfl rfl) rfl rfl Kp.true ?_
    refine Jp.y 20 rfl (qaa rfl) rfl rfl Kp.true (Y.qaz rfl rfl rfl) ?_
    refine Jp.y 21 rfl (qaa rfl) rfl rfl Kp.true (Y.move rfl rfl) ?_
    refine Jp.y 22 rfl (qab rfl rfl rfl rfl) rfl rfl Kp.true (Y.move rfl rfl) ?_
    refine Jp.y 23 rfl (qab rfl rfl rfl rfl) rfl rfl Kp.true (Y.move rfl rfl) ?_
    refine Jp.y 24 rfl (qab rfl rfl rfl rfl) rfl rfl Kp.true (Y.qav rfl rfl underlying3 underlying31 (by exact qau (by omega) (by omega))) ?_
    refine Jp.y 25 rfl (qab rfl rfl rfl rfl) rfl rfl Kp.true (by exact Y.remN rfl rfl rfl (by omega) (by omega)) ?_
    refine Jp.y 26 rfl (qab rfl rfl rfl rfl) rfl rfl Kp.true (Y.neq rfl rfl rfl) ?_
    refine Jp.y 27 rfl (qaa rfl) rfl rfl Kp.true (Y.qaz rfl rfl rfl) ?_
    refine Jp.qae hK13 ?_
    refine Cd.qaq rfl (fun g27=>?_) (fun g27=>?_)
    · skip
      try simp only [sG0] at g27
      refine Cd.seq fun K41 hK41=>?_
      refine Cd.qac [(0,false),(1,false)] rfl rfl ?_
      refine Jp.y 8 rfl (qaa rfl) rfl rfl Kp.true (Y.assign rfl rfl) ?_
      refine Jp.y 9 rfl (qaa rfl) rfl rfl Kp.true (Y.assign rfl rfl) ?_
      refine Jp.qae hK41 ?_
      refine Cd.ret [(0,_),(1,_),(2,_)] rfl (qbr rfl rfl rfl) ⟨rfl,rfl,rfl,trivial⟩ ⟨rfl,?_,rfl⟩
      have h3 : qcu M a size need = 3:=by
        rw [qcu,if_pos]
        simp only [qdy,Bool.and_eq_false_iff,Bool.or_eq_false_iff,beq_eq_false_iff_ne,ne_eq]
        omega
      rw [h3]; rfl
    · skip
      try simp only [sG0] at g27
      refine Cd.qbw hK12 ?_
      refine Cd.seq fun K42 hK42=>?_
      have hs : qdy a size = true:=by
        simp only [qdy,Bool.and_eq_true,Bool.or_eq_true,beq_iff_eq]
        omega
      refine Cd.drawn [(0,_),(1,_)] ⟨rfl,rfl,trivial⟩ [(0,true),(1,true),(2,true),(3,true),(4,true),(5,false),(6,true),(7,true)] follows (by kernel_rfl) (fun hrl=>?_)
      refine Jp.q 28 rfl (qaa rfl) rfl rfl (Y.move rfl rfl) ?_
      refine Jp.q 29 rfl (qaa rfl) rfl rfl (Y.qao rfl rfl) ?_
      refine Jp.q 30 rfl (qaa rfl) rfl rfl (by exact Y.qad rfl rfl underlying92 rfl sizeOf89 (by decide) (show _ + 1 = _ from rfl)) ?_
      refine Jp.q 31 rfl (qaa rfl) rfl rfl (by exact Y.qaw 0 rfl isAgg89 rfl rfl rfl) ?_
      refine Jp.q 32 rfl (qaa rfl) rfl rfl (Y.move rfl rfl) ?_
      refine Jp.call [] [] (qcw a ha) 33 rfl (qaa rfl) rfl rfl (Runs.fn rfl call58 rfl) (by decide) (by decide) rfl trivial ?_
      rintro v103 ρ103 L103 ⟨rfl,rfl,rfl⟩
      refine ⟨rfl,fun hle103=>⟨(Kp.st ⟨rfl,rfl,trivial⟩),?_⟩⟩
      refine Jp.q 34 rfl (qaa rfl) rfl rfl (by first | exact Y.lookup 1 rfl rfl rfl underlying89 underlying31 zeroValue97 rfl) ?_
      refine Jp.q 10 rfl (qaa rfl) rfl rfl (Y.assign rfl rfl) ?_
      refine Jp.qae hK42 ?_
      refine Cd.seq fun K44 hK44=>?_
      refine Cd.block ?_
      refine Cd.seq fun K45 hK45=>?_
      refine Cd.qac [(0,false),(1,false),(2,false)] rfl rfl ?_
      have hget:=hf.get (qar a)
      rcases hg : qan M.pages (qar a) with _ | p
      · have hlk : qcu M a size need = 1:=by rw [qcu,if_neg (by rw [hs]; simp),hg]
        rw [hg] at hget
        refine Jp.slot 10 rfl (show _ = Value.pointer none by rw [hget]; rfl) ?_
        refine Jp.y 36 rfl (qaa rfl) rfl rfl Kp.true (Y.move rfl rfl) ?_
        refine Jp.y 37 rfl (qaa rfl) rfl rfl Kp.true (Y.qfj rfl underlying97 rfl rfl) ?_
        refine Jp.y 35 rfl (qaa rfl) rfl rfl Kp.true (Y.assign rfl rfl) ?_
        refine Jp.qae hK45 ?_
        refine Cd.qaq rfl (fun g35=>?_) (fun g35=>?_)
        · skip
          try simp only [sG0] at g35
          skip
          refine Cd.seq fun K46 hK46=>?_
          refine Cd.qac [(0,false),(1,false)] rfl rfl ?_
          refine Jp.y 8 rfl (qaa rfl) rfl rfl Kp.true (Y.assign rfl rfl) ?_
          refine Jp.y 9 rfl (qaa rfl) rfl rfl Kp.true (Y.assign rfl rfl) ?_
          refine Jp.qae hK46 ?_
          refine Cd.ret [(0,_),(1,_),(2,_)] rfl (qbr rfl rfl rfl) ⟨rfl,rfl,rfl,trivial⟩ ⟨rfl,?_,rfl⟩
          (rw [hlk]; rfl)
        · skip
          try simp only [sG0] at g35
          (simp at g35; done)
      · have hlk : qcu M a size need = if may p.perm need then 0 else 2:=by rw [qcu,if_neg (by rw [hs]; simp),hg]
        rw [hg] at hget
        refine Jp.slot 10 rfl (show _ = Value.pointer (some ⟨x.blk (qar a),0,none⟩) by rw [hget]; rfl) ?_
        have hpo:=hf.ok.page _ (qbb hg)
        have hcell:=Blks.cell (MemF.blk (x:=x) hg) (qby p hpo.len)
        refine Jp.y 36 rfl (qaa rfl) rfl rfl Kp.true (Y.move rfl rfl) ?_
        refine Jp.y 37 rfl (qaa rfl) rfl rfl Kp.true (Y.qfj rfl underlying97 rfl rfl) ?_
        refine Jp.y 35 rfl (qaa rfl) rfl rfl Kp.true (Y.assign rfl rfl) ?_
        refine Jp.qae hK45 ?_
        refine Cd.qaq rfl (fun g35=>?_) (fun g35=>?_)
        · skip
          try simp only [sG0] at g35
          (simp at g35; done)
        · skip
          try simp only [sG0] at g35
          skip
          refine Cd.seq fun K51 hK51=>?_
          refine Cd.qac [(0,false),(1,false),(2,false),(3,false),(4,false),(5,false),(6,false),(7,false),(8,false)] rfl rfl ?_
          refine Jp.y 39 rfl (qaa rfl) rfl rfl Kp.true (Y.move rfl rfl) ?_
          refine Jp.y 40 rfl (qaa rfl) rfl rfl Kp.true (Y.qao rfl rfl) ?_
          refine Jp.y 41 rfl (qaa rfl) rfl rfl Kp.true (by exact Y.qad rfl rfl underlying99 rfl sizeOf3 (by decide) (show _ + 256 = _ from rfl)) ?_
          refine Jp.y 42 rfl (qaa rfl) rfl rfl Kp.true (by exact Y.qbk 2 rfl isAgg3 rfl rfl hcell) ?_
          refine Jp.y 43 rfl (qaa rfl) rfl rfl Kp.true (Y.move rfl rfl) ?_
          refine Jp.y 44 rfl (qaa rfl) rfl rfl Kp.true (Y.bits rfl rfl rfl rfl) ?_
          refine Jp.y 45 rfl (qaa rfl) rfl rfl Kp.true (Y.move rfl rfl) ?_
          refine Jp.y 46 rfl (qaa rfl) rfl rfl Kp.true (Y.neq rfl rfl rfl) ?_
          refine Jp.y 38 rfl (qaa rfl) rfl rfl Kp.true (Y.assign rfl rfl) ?_
          refine Jp.qae hK51 ?_
          refine Cd.qaq rfl (fun g38=>?_) (fun g38=>?_)
          · skip
            try simp only [sG0] at g38
            skip
            refine Cd.seq fun K52 hK52=>?_
            refine Cd.qac [(0,false),(1,false)] rfl rfl ?_
            refine Jp.y 8 rfl (qaa rfl) rfl rfl Kp.true (Y.assign rfl rfl) ?_
            refine Jp.y 9 rfl (qaa rfl) rfl rfl Kp.true (Y.assign rfl rfl) ?_
            refine Jp.qae hK52 ?_
            refine Cd.ret [(0,_),(1,_),(2,_)] rfl (qbr rfl rfl rfl) ⟨rfl,rfl,rfl,trivial⟩ ⟨rfl,?_,rfl⟩
            (have hm : may p.perm need = false := by simpa [may] using g38
             simp [hlk, hm])
          · skip
            try simp only [sG0] at g38
            skip
            refine Cd.over rfl hK44 ?_
            refine Cd.seq fun K53 hK53=>?_
            refine Cd.qac [(0,false),(1,false),(2,false)] rfl rfl ?_
            refine Jp.y 47 rfl (qaa rfl) rfl rfl Kp.true (Y.move rfl rfl) ?_
            refine Jp.y 8 rfl (qaa rfl) rfl rfl Kp.true (Y.assign rfl rfl) ?_
            refine Jp.y 9 rfl (qaa rfl) rfl rfl Kp.true (Y.assign rfl rfl) ?_
            refine Jp.qae hK53 ?_
            refine Cd.ret [(0,_),(1,_),(2,_)] rfl (qbr rfl rfl rfl) ⟨rfl,rfl,rfl,trivial⟩ ⟨rfl,?_,rfl⟩
            (have hm : may p.perm need = true := by simpa [may] using g38
             simp [hlk, hm])
end Go.Proofs.Ytnfkalpgidiafaa
set_option linter.unusedVariables false
set_option linter.unusedSimpArgs false
set_option maxRecDepth 100000
namespace Go.Proofs.Ytnfkalpgidiafaa
open _root_.Go.Proofs.Try
open Go
theorem qgk (n : Nat) : IntKind.u32.wrap (n : Int) = ((n % 4294967296 : Nat) : Int):=by
 simp only [IntKind.wrap,IntKind.bits,IntKind.signed]
 simp
theorem qcs {α β : Type} {f : α → β} : ∀ {l : List α},(l.map f).Nodup → ∀ {x y : α},x ∈ l → y ∈ l → f x = f y → x = y:=by
 intro l
 induction l with
 | nil=>intro _ x y h; cases h
 | cons z l ih =>
  intro hn x y hx hy e
  rw [List.map_cons,List.nodup_cons] at hn
  rcases List.mem_cons.1 hx with h1 | h1 <;> rcases List.mem_cons.1 hy with h2 | h2
  ·rw [h1,h2]
  ·subst h1; exact absurd (e ▸ List.mem_map.2 ⟨y,h2,rfl⟩) hn.1
  ·subst h2; exact absurd (e ▸ List.mem_map.2 ⟨x,h1,rfl⟩) hn.1
  ·exact ih hn.2 h1 h2 e
theorem MemF.set {M : MemG} {x : MemX} (f : MemF M x) {k : Nat} {p p' : Pg} (hg : qan M.pages k = some p) (h1 : p'.b.length = 256) (h2 : p'.perm ≤ 7) : MemF { M with pages:=qbx M.pages k p' } x :=
 ⟨f.ok.set hg h1 h2, by
  show x.pm.Perm ((qbx M.pages k p').map fun p=>((p.1 : Int),pgPtr x p.1))
  rw [setPg_map _ _ _ fun k=>((k : Int),pgPtr x k)]
  exact f.pages, f.gens⟩
theorem MemF.bump {M : MemG} {x : MemX} (f : MemF M x) (k : Nat) : MemF { M with gens:=Ytnfkalpgidiafaa.bump M.gens k } { x with gm:=qgg x.gm k (.int .u32 (((M.gens k + 1) % 4294967296 : Nat) : Int)) } :=
 ⟨f.ok.bump k, f.pages, fun k' => by
  show (qgv (qgg x.gm k _) k').getD _ = .int .u32 ((Ytnfkalpgidiafaa.bump M.gens k k' : Nat) : Int)
  rw [mget_mset,Ytnfkalpgidiafaa.bump]
  by_cases h : k' = k
  ·subst h; simp
  ·rw [if_neg h, if_neg (by omega)]; exact f.gens k'⟩
theorem updB_blks {M : MemG} {x : MemX} (hn : ((qbm M x).map (·.1)).Nodup) {k : Nat} {p p' : Pg} (hg : qan M.pages k = some p) : qgm (qbm M x) (x.blk k) (pageO p') = qbm { M with pages:=qbx M.pages k p' } x:=by
 rw [qgm,qbm,qbm,qbx,List.map_map,List.map_map]
 apply List.map_congr_left
 intro y hy
 simp only [Function.comp]
 by_cases h : y.1 = k
 ·simp [h]
 ·rw [if_neg h,if_neg]
  intro e
  rw [qbm,List.map_map] at hn
  exact h (congrArg (·.1) (qcs (f:=fun p : Nat × Pg=>x.blk p.1) hn hy (qbb hg) e))
theorem new_spec (budget : Int) : Spec Try.prog 14 #[.int .i64 budget] (fun _=>True) []
  (fun ρ ρ' v L=>ρ' = ρ ∧ if 1 ≤ budget ∧ budget ≤ 4096 then ∃ b,v = .tuple #[.pointer (some ⟨b,0,none⟩),.int .i64 0] ∧ L = [(0,qfz b (newM budget.toNat))] else v = .tuple #[.pointer none,.int .i64 1] ∧ L = []):=by
 refine Spec.of 15 Try.func14 rfl Try.ntmps14 [(0,_)] rfl rfl ?_
 intro cx ρ hr h0
 refine Cd.seq fun K1 hK1=>?_
 refine Cd.qac [(0,false),(1,false)] rfl rfl ?_
 refine Jp.y 2 rfl (qaa rfl) rfl rfl Kp.true (Y.assign rfl rfl) ?_
 refine Jp.y 3 rfl (qaa rfl) rfl rfl Kp.true (Y.assign rfl rfl) ?_
 refine Jp.qae hK1 ?_
 refine Cd.seq fun K2 hK2=>?_
 refine Cd.seq fun K3 hK3=>?_
 refine Cd.qac [(0,false),(1,false),(2,false),(3,false),(4,false),(5,false)] rfl rfl ?_
 refine Jp.y 4 rfl (qaa rfl) rfl rfl Kp.true (Y.move rfl rfl) ?_
 refine Jp.y 5 rfl (qaa rfl) rfl rfl Kp.true (Y.lss rfl rfl rfl) ?_
 refine Jp.y 6 rfl (qaa rfl) rfl rfl Kp.true (Y.move rfl rfl) ?_
 refine Jp.split 6 rfl (fun g6=>?_) (fun g6=>?_)
 ·skip
  try simp only [sG0] at g6
  refine Jp.qat 7 rfl (qab rfl rfl rfl rfl) rfl rfl Kp.true ?_
  refine Jp.qat 8 rfl (qab rfl rfl rfl rfl) rfl rfl Kp.true ?_
  refine Jp.y 9 rfl (qaa rfl) rfl rfl Kp.true (Y.qba rfl rfl rfl) ?_
  refine Jp.qae hK3 ?_
  refine Cd.qdk rfl ?_
  refine Cd.seq fun K4 hK4=>?_
  refine Cd.qac [(0,false),(1,false)] rfl rfl ?_
  refine Jp.y 2 rfl (qaa rfl) rfl rfl Kp.true (Y.assign rfl rfl) ?_
  refine Jp.y 3 rfl (qaa rfl) rfl rfl Kp.true (Y.assign rfl rfl) ?_
  refine Jp.qae hK4 ?_
  refine Cd.ret [] rfl (qbr rfl rfl rfl) trivial ⟨rfl,?_⟩
  rw [if_neg (by omega)]
  exact ⟨rfl,rfl⟩
 try simp only [sG0] at g6
 refine Jp.y 7 rfl (qab rfl rfl rfl rfl) rfl rfl Kp.true (Y.move rfl rfl) ?_
 refine Jp.y 8 rfl (qab rfl rfl rfl rfl) rfl rfl Kp.true (Y.gtr rfl rfl rfl) ?_
 refine Jp.y 9 rfl (qaa rfl) rfl rfl Kp.true (Y.qaz rfl rfl rfl) ?_
 refine Jp.qae hK3 ?_
 refine Cd.qaq rfl (fun g9=>?_) (fun g9=>?_)
 ·skip
  try simp only [sG0] at g9
  refine Cd.seq fun K5 hK5=>?_
  refine Cd.qac [(0,false),(1,false)] rfl rfl ?_
  refine Jp.y 2 rfl (qaa rfl) rfl rfl Kp.true (Y.assign rfl rfl) ?_
  refine Jp.y 3 rfl (qaa rfl) rfl rfl Kp.true (Y.assign rfl rfl) ?_
  refine Jp.qae hK5 ?_
  refine Cd.ret [] rfl (qbr rfl rfl rfl) trivial ⟨rfl,?_⟩
  rw [if_neg (by omega)]
  exact ⟨rfl,rfl⟩
 try simp only [sG0] at g9
 refine Cd.qbw hK2 ?_
 refine Cd.seq fun K6 hK6=>?_
 refine Cd.qac [(0,false),(1,false),(2,false),(3,false),(4,false),(5,false),(6,false)] rfl rfl ?_
 refine Jp.y 10 rfl (qaa rfl) rfl rfl Kp.true (Y.move rfl rfl) ?_
 refine Jp.makeMap 11 1 .u32 rfl (qaa rfl) rfl rfl rfl fun b1=>⟨Kp.true,?_⟩
 refine Jp.makeMap 12 2 .u32 rfl (qaa rfl) rfl rfl rfl fun b2=>⟨Kp.true,?_⟩
 refine Jp.y 13 rfl (qaa rfl) rfl rfl Kp.true (Y.struct [(0,_),(1,_),(2,_)] [_,_,_] rfl rfl places92 zeroValue92 rfl) ?_
 refine Jp.box 0 14 rfl (qaa rfl) rfl rfl rfl rfl fun b0=>⟨Kp.true,?_⟩
 refine Jp.y 2 rfl (qaa rfl) rfl rfl Kp.true (Y.assign rfl rfl) ?_
 refine Jp.y 3 rfl (qaa rfl) rfl rfl Kp.true (Y.assign rfl rfl) ?_
 refine Jp.qae hK6 ?_
 obtain ⟨m,rfl⟩:=Int.eq_ofNat_of_zero_le (show 0 ≤ budget by omega)
 refine Cd.make 53 Blks.nil ?_
 have hok : MemOk (newM m):=⟨List.Pairwise.nil,fun x h=>(List.not_mem_nil h).elim,fun k=>(by show 0 < 4294967296; omega),Nat.zero_le _,(by show 1 ≤ m ∧ m ≤ 4096; omega)⟩
 refine Cd.memClose (M:=newM m) (x:=⟨b1,b2,[],[],fun _=>0⟩) 0 1 2 53 (by decide) ⟨hok,List.Perm.refl _,fun k=>rfl⟩ rfl rfl rfl rfl ?_
 refine Cd.ret [(0,_)] rfl (qbr rfl rfl rfl) ⟨rfl,trivial⟩ ⟨rfl,?_⟩
 rw [if_pos (by omega)]
 exact ⟨b0,rfl,rfl⟩
end Go.Proofs.Ytnfkalpgidiafaa
set_option linter.unusedVariables false
set_option linter.unusedSimpArgs false
set_option maxRecDepth 100000
namespace Go.Proofs.Ytnfkalpgidiafaa
open _root_.Go.Proofs.Try
open Go
theorem lookM_ok {M : MemG} {a : Nat} {size need : Int} (h : qcu M a size need = 0) : qdy a size = true ∧ ∃ p,qan M.pages (qar a) = some p ∧ may p.perm need = true:=by
 rw [qcu] at h
 split at h
 ·omega
 ·rename_i hs
  refine ⟨by simpa using hs,?_⟩
  split at h
  ·omega
  ·rename_i p hp
   refine ⟨p,hp,?_⟩
   split at h
   ·assumption
   ·omega
theorem sizeOk_nat {a : Nat} {size : Int} (h : qdy a size = true) : ∃ n : Nat,size = n ∧ (n = 1 ∨ n = 2 ∨ n = 4) ∧ a % 256 + n ≤ 256:=by
 simp only [qdy,Bool.and_eq_true,Bool.or_eq_true,beq_iff_eq] at h
 obtain ⟨(h1 | h1) | h1,h2⟩:=h
 ·exact ⟨1,h1,by omega,by omega⟩
 ·subst h1; exact ⟨2,rfl,by omega,by omega⟩
 ·subst h1; exact ⟨4,rfl,by omega,by omega⟩
theorem qed (p : Pg) {j : Nat} (h : p.b.length = 256) (hj : j < 256) : (qay p).toArray[j]? = some (.int .u8 ((p.b[j]'(by omega)).toNat : Int)):=by
 have hj' : j < p.b.length:=by omega
 rw [qay,List.getElem?_toArray,List.getElem?_append_left (by rw [qaf,List.length_map]; exact hj'),qaf,List.getElem?_map,List.getElem?_eq_getElem hj']; rfl
theorem load_spec (b : Nat) (M : MemG) (a : Nat) (size need : Int) (ha : a < 4294967296) : Spec Try.prog 37 #[.pointer (some ⟨b,0,none⟩),.int .u32 a,.int .i64 size,.int .i64 need] (fun _=>True) [(0,qfz b M)]
  (fun ρ ρ' v L=>ρ' = ρ ∧ v = .tuple #[.int .u32 (qdp M a size need).1,.int .i64 (qdp M a size need).2] ∧ L = [(0,qfz b M)]):=by
 refine Spec.of 47 Try.func37 rfl Try.ntmps37 [(0,_),(1,_),(2,_),(3,_)] rfl rfl ?_
 intro cx ρ hr h0
 refine Cd.memOpen 0 1 2 3 (by decide) rfl fun x hf=>?_
 refine Cd.seq fun K1 hK1=>?_
 refine Cd.qac [(0,false),(1,false)] rfl rfl ?_
 refine Jp.y 8 rfl (qaa rfl) rfl rfl Kp.true (Y.assign rfl rfl) ?_
 refine Jp.y 9 rfl (qaa rfl) rfl rfl Kp.true (Y.assign rfl rfl) ?_
 refine Jp.qae hK1 ?_
 refine Cd.seq fun K2 hK2=>?_
 refine Cd.qac [(0,false),(1,false),(2,false),(3,false),(4,false),(5,false),(6,false),(7,false),(8,false),(9,false)] rfl rfl ?_
 refine Jp.y 15 rfl (qaa rfl) rfl rfl Kp.true (Y.move rfl rfl) ?_
 refine Jp.y 16 rfl (qaa rfl) rfl rfl Kp.true (Y.move rfl rfl) ?_
 refine Jp.y 17 rfl (qaa rfl) rfl rfl Kp.true (Y.move rfl rfl) ?_
 refine Jp.y 18 rfl (qaa rfl) rfl rfl Kp.true (Y.move rfl rfl) ?_
 refine Jp.call [0,1,3] [0,1,3] (look_spec b M x hf a size need ha) 19 rfl (qaa rfl) rfl rfl (Runs.fn rfl call65 rfl) (by decide) (by decide) rfl trivial ?_
 rintro v101 ρ101 L101 ⟨rfl,rfl,rfl⟩
 refine ⟨rfl,fun hle101=>⟨Kp.true,?_⟩⟩
 refine Jp.y 14 rfl (qaa rfl) rfl rfl Kp.true (Y.move rfl rfl) ?_
 refine Jp.y 20 rfl (qaa rfl) rfl rfl Kp.true (Y.extract rfl rfl rfl) ?_
 refine Jp.y 21 rfl (qaa rfl) rfl rfl Kp.true (Y.extract rfl rfl rfl) ?_
 refine Jp.y 10 rfl (qaa rfl) rfl rfl Kp.true (Y.assign rfl rfl) ?_
 refine Jp.y 11 rfl (qaa rfl) rfl rfl Kp.true (Y.assign rfl rfl) ?_
 refine Jp.qae hK2 ?_
 refine Cd.seq fun K3 hK3=>?_
 refine Cd.seq fun K4 hK4=>?_
 refine Cd.qac [(0,false),(1,false)] rfl rfl ?_
 refine Jp.y 22 rfl (qaa rfl) rfl rfl Kp.true (Y.move rfl rfl) ?_
 refine Jp.y 23 rfl (qaa rfl) rfl rfl Kp.true (Y.neq rfl rfl rfl) ?_
 refine Jp.qae hK4 ?_
 refine Cd.qaq rfl (fun g23=>?_) (fun g23=>?_)
 ·skip
  try simp only [sG0] at g23
  refine Cd.seq fun K5 hK5=>?_
  refine Cd.qac [(0,false),(1,false),(2,false)] rfl rfl ?_
  refine Jp.y 24 rfl (qaa rfl) rfl rfl Kp.true (Y.move rfl rfl) ?_
  refine Jp.y 8 rfl (qaa rfl) rfl rfl Kp.true (Y.assign rfl rfl) ?_
  refine Jp.y 9 rfl (qaa rfl) rfl rfl Kp.true (Y.assign rfl rfl) ?_
  refine Jp.qae hK5 ?_
  refine Cd.memClose 0 1 2 3 (by decide) hf rfl rfl rfl rfl ?_
  refine Cd.ret [(0,_)] rfl (qbr rfl rfl rfl) ⟨rfl,trivial⟩ ⟨rfl,?_,rfl⟩
  rw [qdp,if_neg g23]; rfl
 try simp only [sG0] at g23
 refine Cd.qbw hK3 ?_
 refine Cd.seq fun K6 hK6=>?_
 refine Cd.qac [(0,false)] rfl rfl ?_
 obtain ⟨hs,p,hg,hm⟩:=lookM_ok g23
 obtain ⟨n,rfl,hn1,hn2⟩:=sizeOk_nat hs
 have hpo:=hf.ok.page _ (qbb hg)
 have hlen : p.b.length = 256:=hpo.len
 have hV : qdp M a n need = (leN ((p.b.drop (a % 256)).take n),0):=by rw [qdp,if_pos g23,hg]; rfl
 refine Jp.slot 10 rfl (show _ = Value.pointer (some ⟨x.blk (qar a),0,none⟩) by rw [if_pos g23]) ?_
 refine Jp.y 12 rfl (qaa rfl) rfl rfl Kp.true (Y.assign rfl rfl) ?_
 refine Jp.qae hK6 ?_
 refine Cd.seq fun K7 hK7=>?_
 refine Cd.seq fun K8 hK8=>?_
 refine Cd.qac [(0,false),(1,false),(2,false)] rfl rfl ?_
 refine Jp.y 25 rfl (qaa rfl) rfl rfl Kp.true (Y.move rfl rfl) ?_
 refine Jp.y 26 rfl (qaa rfl) rfl rfl Kp.true (Y.qav rfl rfl underlying3 underlying31 (by exact qau (by omega) (by omega))) ?_
 refine Jp.y 27 rfl (qaa rfl) rfl rfl Kp.true (Y.move rfl rfl) ?_
 refine Jp.qae hK8 ?_
 refine Cd.block ?_
 refine Cd.qfl (G:=Nat) (fun k=>k ≤ n) (fun k=>n - k) (fun _=>_) (fun k=>[(12,.int .u32 (leN ((p.b.drop (a % 256)).take k))),(27,.int .u32 k)]) [(1,_),(10,_),(26,_)] (fun _=>[]) [(0,_),(1,_),(2,_),(3,_)] 0 (Nat.zero_le _) rfl ⟨rfl,rfl,trivial⟩ ⟨rfl,rfl,rfl,trivial⟩ trivial ⟨rfl,rfl,rfl,rfl,trivial⟩ (fun g KLa hok hLa=>?_)
 refine Cd.seq fun K9 hK9=>?_
 refine Cd.qac [(0,false)] rfl rfl ?_
 refine Jp.y 28 rfl (qaa rfl) rfl rfl Kp.true (Y.lss rfl rfl rfl) ?_
 refine Jp.qae hK9 ?_
 refine Cd.seq fun K10 hK10=>?_
 refine Cd.qaq rfl (fun ga=>?_) (fun ga=>?_)
 ·simp only [decide_eq_true_eq] at ga
  have hgn : g < n:=by omega
  have hj : a % 256 + g < 256:=by omega
  have hcell:=Blks.cell (MemF.blk (x:=x) hg) (qed p hlen hj)
  have hb:=(p.b[a % 256 + g]'(by omega)).toNat_lt
  refine Cd.qbw hK10 ?_
  refine Cd.seq fun K11 hK11=>?_
  refine Cd.block ?_
  refine Cd.seq fun K12 hK12=>?_
  refine Cd.qac [(0,false),(1,false)] rfl rfl ?_
  refine Jp.y 29 rfl (qaa rfl) rfl rfl Kp.true (Y.move rfl rfl) ?_
  refine Jp.y 13 rfl (qaa rfl) rfl rfl Kp.true (Y.assign rfl rfl) ?_
  refine Jp.qae hK12 ?_
  refine Cd.qac [(0,false),(1,false),(2,false),(3,false),(4,false),(5,false),(6,false),(7,false),(8,false),(9,false),(10,false),(11,false),(12,false),(13,false),(14,false),(15,false)] rfl rfl ?_
  refine Jp.y 30 rfl (qaa rfl) rfl rfl Kp.true (Y.move rfl rfl) ?_
  refine Jp.y 31 rfl (qaa rfl) rfl rfl Kp.true (Y.move rfl rfl) ?_
  refine Jp.y 32 rfl (qaa rfl) rfl rfl Kp.true (Y.move rfl rfl) ?_
  refine Jp.y 33 rfl (qaa rfl) rfl rfl Kp.true (by exact Y.remN rfl rfl rfl (by omega) (by omega)) ?_
  refine Jp.y 34 rfl (qaa rfl) rfl rfl Kp.true (Y.move rfl rfl) ?_
  refine Jp.y 35 rfl (qaa rfl) rfl rfl Kp.true (Y.qcd rfl rfl rfl (by exact qau (by omega) (by omega))) ?_
  refine Jp.y 36 rfl (qaa rfl) rfl rfl Kp.true (Y.qao rfl rfl) ?_
  refine Jp.y 37 rfl (qaa rfl) rfl rfl Kp.true (by exact Y.qad rfl rfl underlying99 rfl sizeOf84 (by decide) (show _ + 0 = _ from rfl)) ?_
  refine Jp.y 38 rfl (qaa rfl) rfl rfl Kp.true (Y.qal (q:=a % 256 + g) rfl rfl rfl underlying84 sizeOf5 (by omega) (by omega) (by omega)) ?_
  refine Jp.y 39 rfl (qaa rfl) rfl rfl Kp.true (by exact Y.qbk 3 rfl isAgg5 rfl rfl hcell) ?_
  refine Jp.y 40 rfl (qaa rfl) rfl rfl Kp.true (Y.qav rfl rfl underlying5 underlying31 (by exact qau (by omega) (by omega))) ?_
  refine Jp.y 41 rfl (qaa rfl) rfl rfl Kp.true (Y.move rfl rfl) ?_
  refine Jp.y 42 rfl (qaa rfl) rfl rfl Kp.true (Y.mul_ rfl rfl rfl (by exact qau (by omega) (by omega))) ?_
  refine Jp.y 43 rfl (qaa rfl) rfl rfl Kp.true (Y.shl rfl rfl rfl (by first | decide | omega)) ?_
  refine Jp.y 44 rfl (qaa rfl) rfl rfl Kp.true (Y.bits rfl rfl rfl rfl) ?_
  refine Jp.y 12 rfl (qaa rfl) rfl rfl Kp.true (Y.assign rfl rfl) ?_
  refine Jp.over rfl hK11 ?_
  refine Cd.qac [(0,false),(1,false)] rfl rfl ?_
  refine Jp.slot 12 rfl (congrArg (Value.int .u32) (le_or2 (i:=g) (by rw [List.length_take,List.length_drop]; omega) (by omega))) ?_
  have e : (p.b.drop (a % 256)).take g ++ [p.b[a % 256 + g]'(by omega)] = (p.b.drop (a % 256)).take (g + 1):=by
   rw [List.take_succ_eq_append_getElem (by rw [List.length_drop]; omega),List.getElem_drop]
  rw [e]
  refine Jp.y 45 rfl (qaa rfl) rfl rfl Kp.true (Y.qcd rfl rfl rfl (by exact qau (by omega) (by omega))) ?_
  refine Jp.y 27 rfl (qaa rfl) rfl rfl Kp.true (Y.move rfl rfl) ?_
  refine Jp.again hLa (g + 1) (by omega) (by omega) rfl ⟨rfl,rfl,rfl,rfl,rfl,trivial⟩ ⟨rfl,rfl,rfl,rfl,trivial⟩
 ·simp only [decide_eq_false_iff_not] at ga
  obtain rfl : g = n:=by omega
  refine Cd.exit rfl hK7 ?_
  refine Cd.seq fun K13 hK13=>?_
  refine Cd.qac [(0,false),(1,false),(2,false)] rfl rfl ?_
  refine Jp.y 46 rfl (qaa rfl) rfl rfl Kp.true (Y.move rfl rfl) ?_
  refine Jp.y 8 rfl (qaa rfl) rfl rfl Kp.true (Y.assign rfl rfl) ?_
  refine Jp.y 9 rfl (qaa rfl) rfl rfl Kp.true (Y.assign rfl rfl) ?_
  refine Jp.qae hK13 ?_
  refine Cd.memClose 0 1 2 3 (by decide) hf rfl rfl rfl rfl ?_
  refine Cd.ret [(0,_)] rfl (qbr rfl rfl rfl) ⟨rfl,trivial⟩ ⟨rfl,?_,rfl⟩
  rw [hV]
theorem pageCells_lay (p : Pg) {off k v : Nat} (h : p.b.length = 256) (hk : off + k < 256) : (qay (stPg p off k v)).toArray.setIfInBounds (off + k) (.int .u8 ((UInt8.ofNat (v / 2 ^ (8 * k))).toNat : Int)) = (qay (stPg p off (k + 1) v)).toArray:=by
 rw [List.setIfInBounds_toArray]
 congr 1
 have hl : (lay p.b off (leB v k)).length = 256:=by rw [lay_length (by rw [qei]; omega),h]
 rw [qay,List.set_append_left _ _ (by rw [qaf,List.length_map]; show off + k < (lay p.b off (leB v k)).length; omega),bytesV_set]
 show qaf ((lay p.b off (leB v k)).set (off + k) _) ++ _ = _
 have:=lay_snoc_set (p:=p.b) (k:=off) (a:=leB v k) (x:=UInt8.ofNat (v / 2 ^ (8 * k))) (by rw [qei]; omega)
 rw [qei] at this
 rw [this,← leB_succ]; rfl
theorem stPg_len {p : Pg} {off k v : Nat} (h : p.b.length = 256) (hk : off + k ≤ 256) : (stPg p off k v).b.length = 256:=by
 show (lay p.b off (leB v k)).length = 256
 rw [lay_length (by rw [qei]; omega),h]
def stMem (M : MemG) (key : Nat) (p : Pg) (off k v : Nat) : MemG:={ M with pages:=qbx M.pages key (stPg p off k v) }
theorem store_spec (b : Nat) (M : MemG) (a : Nat) (size : Int) (v : Nat) (ha : a < 4294967296) (hv : v < 4294967296) : Spec Try.prog 74 #[.pointer (some ⟨b,0,none⟩),.int .u32 a,.int .i64 size,.int .u32 v] (fun _=>True) [(0,qfz b M)]
  (fun ρ ρ' r L=>ρ' = ρ ∧ r = .int .i64 (qfb M a size v).1 ∧ L = [(0,qfz b (qfb M a size v).2)]):=by
 refine Spec.of 49 Try.func74 rfl Try.ntmps74 [(0,_),(1,_),(2,_),(3,_)] rfl rfl ?_
 intro cx ρ hr h0
 refine Cd.memOpen 0 1 2 3 (by decide) rfl fun x hf=>?_
 refine Cd.seq fun K14 hK14=>?_
 refine Cd.qac [(0,false)] rfl rfl ?_
 refine Jp.y 8 rfl (qaa rfl) rfl rfl Kp.true (Y.assign rfl rfl) ?_
 refine Jp.qae hK14 ?_
 refine Cd.seq fun K15 hK15=>?_
 refine Cd.qac [(0,false),(1,false),(2,false),(3,false),(4,false),(5,false),(6,false),(7,false),(8,false)] rfl rfl ?_
 refine Jp.y 13 rfl (qaa rfl) rfl rfl Kp.true (Y.move rfl rfl) ?_
 refine Jp.y 14 rfl (qaa rfl) rfl rfl Kp.true (Y.move rfl rfl) ?_
 refine Jp.y 15 rfl (qaa rfl) rfl rfl Kp.true (Y.move rfl rfl) ?_
 refine Jp.call [0,1,3] [0,1,3] (look_spec b M x hf a size 2 ha) 16 rfl (qaa rfl) rfl rfl (Runs.fn rfl call65 rfl) (by decide) (by decide) rfl trivial ?_
 rintro v102 ρ102 L102 ⟨rfl,rfl,rfl⟩
 refine ⟨rfl,fun hle102=>⟨Kp.true,?_⟩⟩
 refine Jp.y 12 rfl (qaa rfl) rfl rfl Kp.true (Y.move rfl rfl) ?_
 refine Jp.y 17 rfl (qaa rfl) rfl rfl Kp.true (Y.extract rfl rfl rfl) ?_
 refine Jp.y 18 rfl (qaa rfl) rfl rfl Kp.true (Y.extract rfl rfl rfl) ?_
 refine Jp.y 9 rfl (qaa rfl) rfl rfl Kp.true (Y.assign rfl rfl) ?_
 refine Jp.y 10 rfl (qaa rfl) rfl rfl Kp.true (Y.assign rfl rfl) ?_
 refine Jp.qae hK15 ?_
 refine Cd.seq fun K16 hK16=>?_
 refine Cd.seq fun K17 hK17=>?_
 refine Cd.qac [(0,false),(1,false)] rfl rfl ?_
 refine Jp.y 19 rfl (qaa rfl) rfl rfl Kp.true (Y.move rfl rfl) ?_
 refine Jp.y 20 rfl (qaa rfl) rfl rfl Kp.true (Y.neq rfl rfl rfl) ?_
 refine Jp.qae hK17 ?_
 refine Cd.qaq rfl (fun g20=>?_) (fun g20=>?_)
 ·skip
  try simp only [sG0] at g20
  refine Cd.seq fun K18 hK18=>?_
  refine Cd.qac [(0,false),(1,false)] rfl rfl ?_
  refine Jp.y 21 rfl (qaa rfl) rfl rfl Kp.true (Y.move rfl rfl) ?_
  refine Jp.y 8 rfl (qaa rfl) rfl rfl Kp.true (Y.assign rfl rfl) ?_
  refine Jp.qae hK18 ?_
  refine Cd.memClose 0 1 2 3 (by decide) hf rfl rfl rfl rfl ?_
  have hV : qfb M a size v = (qcu M a size 2,M):=by rw [qfb,if_neg g20]
  refine Cd.ret [(0,_)] rfl (qbe rfl rfl) ⟨rfl,trivial⟩ ⟨rfl,by rw [hV],by rw [hV]⟩
 try simp only [sG0] at g20
 refine Cd.qbw hK16 ?_
 refine Cd.seq fun K19 hK19=>?_
 refine Cd.seq fun K20 hK20=>?_
 refine Cd.qac [(0,false),(1,false),(2,false)] rfl rfl ?_
 obtain ⟨hs,p,hg,hm⟩:=lookM_ok g20
 obtain ⟨n,rfl,hn1,hn2⟩:=sizeOk_nat hs
 have hpo:=hf.ok.page _ (qbb hg)
 have hlen : p.b.length = 256:=hpo.len
 have hV : qfb M a n v = (0,{ M with pages:=qbx M.pages (qar a) (stPg p (a % 256) n v),gens:=bump M.gens (qar a) }):=by rw [qfb,if_pos g20,hg]; rfl
 refine Jp.know (φ:=((qbm M x).map (·.1)).Nodup) (A:=Blks (qbm M x)) 3 rfl (fun _ h=>h.1) fun hnd=>?_
 refine Jp.slot 9 rfl (show _ = Value.pointer (some ⟨x.blk (qar a),0,none⟩) by rw [if_pos g20]) ?_
 have hnk : ∀ k,((qbm (stMem M (qar a) p (a % 256) k v) x).map (·.1)).Nodup:=fun k=>by
  rw [qbm,List.map_map]
  show ((qbx M.pages (qar a) _).map fun y=>x.blk y.1).Nodup
  rw [setPg_map]
  rw [qbm,List.map_map] at hnd
  exact hnd
 have hst0 : qbm M x = qbm (stMem M (qar a) p (a % 256) 0 v) x:=by
  have : stPg p (a % 256) 0 v = p:=by show (⟨lay p.b (a % 256) [],p.perm⟩ : Pg) = p; rw [lay_nil]
  rw [stMem,this,setPg_same hf.ok.rising.nodup hg]
 rw [hst0]
 refine Jp.y 22 rfl (qaa rfl) rfl rfl Kp.true (Y.move rfl rfl) ?_
 refine Jp.y 23 rfl (qaa rfl) rfl rfl Kp.true (Y.qav rfl rfl underlying3 underlying31 (by exact qau (by omega) (by omega))) ?_
 refine Jp.y 24 rfl (qaa rfl) rfl rfl Kp.true (Y.move rfl rfl) ?_
 refine Jp.qae hK20 ?_
 refine Cd.block ?_
 refine Cd.qfl (G:=Nat) (fun k=>k ≤ n) (fun k=>n - k) (fun _=>_) (fun k=>[(24,.int .u32 k)]) [(0,_),(1,_),(3,_),(9,_),(23,_)] (fun k=>[(3,Blks (qbm (stMem M (qar a) p (a % 256) k v) x))]) [(0,_),(1,_),(2,_)] 0 (Nat.zero_le _) rfl ⟨rfl,trivial⟩ ⟨rfl,rfl,rfl,rfl,rfl,trivial⟩ ⟨rfl,trivial⟩ ⟨rfl,rfl,rfl,trivial⟩ (fun g KLa hok hLa=>?_)
 have hgk : qan (stMem M (qar a) p (a % 256) g v).pages (qar a) = some (stPg p (a % 256) g v):=by
  show qan (qbx _ _ _) _ = _
  rw [qha,if_pos rfl,hg]; rfl
 refine Cd.seq fun K21 hK21=>?_
 refine Cd.qac [(0,false)] rfl rfl ?_
 refine Jp.y 25 rfl (qaa rfl) rfl rfl Kp.true (Y.lss rfl rfl rfl) ?_
 refine Jp.qae hK21 ?_
 refine Cd.seq fun K22 hK22=>?_
 refine Cd.qaq rfl (fun ga=>?_) (fun ga=>?_)
 ·simp only [decide_eq_true_eq] at ga
  have hgn : g < n:=by omega
  refine Cd.qbw hK22 ?_
  refine Cd.seq fun K23 hK23=>?_
  refine Cd.block ?_
  refine Cd.seq fun K24 hK24=>?_
  refine Cd.qac [(0,false),(1,false)] rfl rfl ?_
  refine Jp.y 26 rfl (qaa rfl) rfl rfl Kp.true (Y.move rfl rfl) ?_
  refine Jp.y 11 rfl (qaa rfl) rfl rfl Kp.true (Y.assign rfl rfl) ?_
  refine Jp.qae hK24 ?_
  refine Cd.qac [(0,false),(1,false),(2,false),(3,false),(4,false),(5,false),(6,false),(7,false),(8,false),(9,false),(10,false),(11,false),(12,false),(13,false)] rfl rfl ?_
  refine Jp.y 27 rfl (qaa rfl) rfl rfl Kp.true (Y.move rfl rfl) ?_
  refine Jp.y 28 rfl (qaa rfl) rfl rfl Kp.true (Y.move rfl rfl) ?_
  refine Jp.y 29 rfl (qaa rfl) rfl rfl Kp.true (by exact Y.remN rfl rfl rfl (by omega) (by omega)) ?_
  refine Jp.y 30 rfl (qaa rfl) rfl rfl Kp.true (Y.move rfl rfl) ?_
  refine Jp.y 31 rfl (qaa rfl) rfl rfl Kp.true (Y.qcd rfl rfl rfl (by exact qau (by omega) (by omega))) ?_
  refine Jp.y 32 rfl (qaa rfl) rfl rfl Kp.true (Y.move rfl rfl) ?_
  refine Jp.y 33 rfl (qaa rfl) rfl rfl Kp.true (Y.move rfl rfl) ?_
  refine Jp.y 34 rfl (qaa rfl) rfl rfl Kp.true (Y.mul_ rfl rfl rfl (by exact qau (by omega) (by omega))) ?_
  refine Jp.y 35 rfl (qaa rfl) rfl rfl Kp.true (Y.shr rfl rfl rfl (by first | decide | omega)) ?_
  refine Jp.y 36 rfl (qaa rfl) rfl rfl Kp.true (Y.qav rfl rfl underlying31 underlying5 (by rfl)) ?_
  refine Jp.y 37 rfl (qaa rfl) rfl rfl Kp.true (Y.qao rfl rfl) ?_
  refine Jp.y 38 rfl (qaa rfl) rfl rfl Kp.true (by exact Y.qad rfl rfl underlying99 rfl sizeOf84 (by decide) (show _ + 0 = _ from rfl)) ?_
  refine Jp.y 39 rfl (qaa rfl) rfl rfl Kp.true (Y.qal (q:=a % 256 + g) rfl rfl rfl underlying84 sizeOf5 (by omega) (by omega) (by omega)) ?_
  refine Jp.slot 36 rfl (congrArg (Value.int .u8) (shr8 v g (by omega))) ?_
  refine Jp.qcx 3 (Blks (qbm (stMem M (qar a) p (a % 256) (g + 1) v) x)) rfl (qaa rfl) rfl rfl sizeOf5 rfl rfl rfl rfl rfl (Blks.set (MemF.blk hgk) (by simp [qay,qaf,stPg_len hlen (show a % 256 + g ≤ 256 by omega)]; omega) (qap _) (by rw [pageCells_lay p hlen (by omega)]; exact (updB_blks (M:=stMem M (qar a) p (a % 256) g v) (x:=x) (hnk g) hgk).trans (by rw [stMem,stMem,setPg_set]))) Kp.true ?_
  refine Jp.over rfl hK23 ?_
  refine Cd.qac [(0,false),(1,false)] rfl rfl ?_
  refine Jp.y 40 rfl (qaa rfl) rfl rfl Kp.true (Y.qcd rfl rfl rfl (by exact qau (by omega) (by omega))) ?_
  refine Jp.y 24 rfl (qaa rfl) rfl rfl Kp.true (Y.move rfl rfl) ?_
  refine Jp.again hLa (g + 1) (by omega) (by omega) rfl ⟨rfl,rfl,rfl,rfl,rfl,rfl,trivial⟩ ⟨rfl,rfl,rfl,rfl,trivial⟩
 ·simp only [decide_eq_false_iff_not] at ga
  obtain rfl : g = n:=by omega
  have hf2 : MemF (stMem M (qar a) p (a % 256) g v) x:=hf.set hg (stPg_len hlen hn2) hpo.perm
  have hf3:=hf2.bump (qar a)
  refine Cd.exit rfl hK19 ?_
  refine Cd.seq fun K25 hK25=>?_
  refine Cd.drawn [(0,_),(2,_)] ⟨rfl,rfl,trivial⟩ [(0,true),(1,true),(2,true),(3,true),(4,true),(5,false),(6,true),(7,true),(8,false)] follows (by kernel_rfl) (fun hrl=>?_)
  refine Jp.q 41 rfl (qaa rfl) rfl rfl (Y.move rfl rfl) ?_
  refine Jp.q 42 rfl (qaa rfl) rfl rfl (Y.qao rfl rfl) ?_
  refine Jp.q 43 rfl (qaa rfl) rfl rfl (by exact Y.qad rfl rfl underlying92 rfl sizeOf90 (by decide) (show _ + 2 = _ from rfl)) ?_
  refine Jp.q 44 rfl (qaa rfl) rfl rfl (Y.qaw 0 rfl isAgg90 rfl rfl rfl) ?_
  refine Jp.q 45 rfl (qaa rfl) rfl rfl (Y.move rfl rfl) ?_
  refine Jp.call [] [] (qcw a ha) 46 rfl (qaa rfl) rfl rfl (Runs.fn rfl call58 rfl) (by decide) (by decide) rfl trivial ?_
  rintro v103 ρ103 L103 ⟨rfl,rfl,rfl⟩
  refine ⟨rfl,fun hle103=>⟨(Kp.st ⟨rfl,rfl,trivial⟩),?_⟩⟩
  refine Jp.q 47 rfl (qaa rfl) rfl rfl (by first | exact Y.lookup 2 rfl rfl rfl underlying90 underlying31 zeroValue31 rfl) ?_
  refine Jp.slot 47 rfl ((hf.gens _)) ?_
  refine Jp.q 48 rfl (qaa rfl) rfl rfl (Y.qcd rfl rfl rfl (qgk (M.gens (qar a) + 1))) ?_
  first | refine Jp.mapUpdate 2 rfl (qaa rfl) rfl rfl rfl rfl rfl underlying90 underlying31 rfl Kp.last ?_
  refine Jp.qae hK25 ?_
  refine Cd.seq fun K27 hK27=>?_
  refine Cd.qac [(0,false)] rfl rfl ?_
  refine Jp.y 8 rfl (qaa rfl) rfl rfl Kp.true (Y.assign rfl rfl) ?_
  refine Jp.qae hK27 ?_
  refine Cd.memClose 0 1 2 3 (by decide) hf3 rfl rfl rfl rfl ?_
  refine Cd.ret [(0,_)] rfl (qbe rfl rfl) ⟨rfl,trivial⟩ ⟨rfl,by rw [hV],by rw [hV]; rfl⟩
end Go.Proofs.Ytnfkalpgidiafaa
set_option linter.unusedVariables false
set_option linter.unusedSimpArgs false
set_option maxRecDepth 100000
namespace Go.Proofs.Ytnfkalpgidiafaa
open _root_.Go.Proofs.Try
open Go
theorem MemF.ins {M : MemG} {x : MemX} (f : MemF M x) {k : Nat} {p : Pg} (b : Nat) (hk : k ∉ M.pages.map (·.1)) (h : MemOk { M with pages:=qgh k p M.pages }) :
  MemF { M with pages:=qgh k p M.pages } { x with pm:=qgg x.pm k (.pointer (some ⟨b,0,none⟩)),blk:=fun k'=>if k' = k then b else x.blk k' }:=by
 refine ⟨h,?_,f.gens⟩
 have h1 : (k : Int) ∉ (M.pages.map fun p=>((p.1 : Int),pgPtr x p.1)).map (·.1):=by
  rw [List.map_map]
  intro hm
  obtain ⟨y,hy,e⟩:=List.mem_map.1 hm
  have : y.1 = k:=Int.ofNat.inj e
  exact hk (this ▸ List.mem_map.2 ⟨y,hy,rfl⟩)
 refine (mset_perm f.pages h1).trans ?_
 refine (List.Perm.trans ?_ ((qbq k p M.pages).map _).symm)
 rw [List.map_cons]
 have e : (M.pages.map fun p=>((p.1 : Int),pgPtr x p.1)) = M.pages.map fun p=>((p.1 : Int),pgPtr { x with pm:=qgg x.pm k (.pointer (some ⟨b,0,none⟩)),blk:=fun k'=>if k' = k then b else x.blk k' } p.1):=by
  apply List.map_congr_left
  intro y hy
  have : ¬ y.1 = k:=fun e=>hk (e ▸ List.mem_map.2 ⟨y,hy,rfl⟩)
  simp [pgPtr,this]
 rw [e]
 simp [pgPtr]
theorem blks_ins {M : MemG} {x : MemX} {k : Nat} {p : Pg} (b : Nat) (pm : qcp) (hk : k ∉ M.pages.map (·.1)) : ((b,pageO p) :: qbm M x).Perm (qbm { M with pages:=qgh k p M.pages } { x with pm:=pm,blk:=fun k'=>if k' = k then b else x.blk k' }):=by
 refine (List.Perm.trans ?_ ((qbq k p M.pages).map _).symm)
 rw [List.map_cons]
 have e : qbm M x = M.pages.map fun q=>((if q.1 = k then b else x.blk q.1),pageO q.2):=by
  apply List.map_congr_left
  intro y hy
  have : ¬ y.1 = k:=fun e=>hk (e ▸ List.mem_map.2 ⟨y,hy,rfl⟩)
  simp [this]
 rw [e]
 simp
theorem map_spec (b : Nat) (M : MemG) (a n : Nat) (perm : Int) (ha : a < 4294967296) (hn : n < 4294967296) : Spec Try.prog 15 #[.pointer (some ⟨b,0,none⟩),.int .u32 a,.int .u32 n,.int .i64 perm] (fun _=>True) [(0,qfz b M)]
  (fun ρ ρ' r L=>ρ' = ρ ∧ r = .int .i64 (mapM M a n perm).1 ∧ L = [(0,qfz b (mapM M a n perm).2)]):=by
 refine Spec.of 76 Try.func15 rfl Try.ntmps15 [(0,_),(1,_),(2,_),(3,_)] rfl rfl ?_
 intro cx ρ hr h0
 refine Cd.memOpen 0 1 2 3 (by decide) rfl fun x hf=>?_
 have hroom:=hf.ok.room
 have hbud:=hf.ok.budget
 have hlen : x.pm.length = M.pages.length:=by rw [hf.pages.length_eq,List.length_map]
 refine Cd.seq fun K1 hK1=>?_
 refine Cd.qac [(0,false)] rfl rfl ?_
 refine Jp.y 8 rfl (qaa rfl) rfl rfl Kp.true (Y.assign rfl rfl) ?_
 refine Jp.qae hK1 ?_
 refine Cd.seq fun K2 hK2=>?_
 refine Cd.qac [(0,false),(1,false),(2,false),(3,false),(4,false),(5,false),(6,false),(7,false)] rfl rfl ?_
 refine Jp.y 14 rfl (qaa rfl) rfl rfl Kp.true (Y.move rfl rfl) ?_
 refine Jp.y 15 rfl (qaa rfl) rfl rfl Kp.true (Y.move rfl rfl) ?_
 refine Jp.call [] [] (stretch_spec a n ha hn) 16 rfl (qaa rfl) rfl rfl (Runs.fn rfl call28 rfl) (by decide) (by decide) rfl trivial ?_
 rintro v1 ρ1 L1 ⟨rfl,rfl,rfl⟩
 refine ⟨rfl,fun hle1=>⟨Kp.true,?_⟩⟩
 refine Jp.y 13 rfl (qaa rfl) rfl rfl Kp.true (Y.move rfl rfl) ?_
 refine Jp.y 17 rfl (qaa rfl) rfl rfl Kp.true (Y.extract rfl rfl rfl) ?_
 refine Jp.y 18 rfl (qaa rfl) rfl rfl Kp.true (Y.extract rfl rfl rfl) ?_
 refine Jp.y 9 rfl (qaa rfl) rfl rfl Kp.true (Y.assign rfl rfl) ?_
 refine Jp.y 10 rfl (qaa rfl) rfl rfl Kp.true (Y.assign rfl rfl) ?_
 refine Jp.qae hK2 ?_
 refine Cd.seq fun K3 hK3=>?_
 refine Cd.block ?_
 refine Cd.seq fun K4 hK4=>?_
 refine Cd.qac [(0,false),(1,false),(2,false),(3,false),(4,false),(5,false),(6,false),(7,false),(8,false),(9,false),(10,false)] rfl rfl ?_
 refine Jp.y 20 rfl (qaa rfl) rfl rfl Kp.true (Y.move rfl rfl) ?_
 refine Jp.y 21 rfl (qaa rfl) rfl rfl Kp.true (Y.not rfl rfl) ?_
 refine Jp.y 22 rfl (qaa rfl) rfl rfl Kp.true (Y.move rfl rfl) ?_
 refine Jp.split 22 rfl (fun g22=>?_) (fun g22=>?_)
 ·skip
  try simp only [sG0] at g22
  refine Jp.qat 23 rfl (qab rfl rfl rfl rfl) rfl rfl Kp.true ?_
  refine Jp.qat 24 rfl (qab rfl rfl rfl rfl) rfl rfl Kp.true ?_
  refine Jp.y 25 rfl (qaa rfl) rfl rfl Kp.true (Y.qba rfl rfl rfl) ?_
  refine Jp.y 26 rfl (qaa rfl) rfl rfl Kp.true (Y.move rfl rfl) ?_
  refine Jp.qat 27 rfl (qab rfl rfl rfl rfl) rfl rfl Kp.true ?_
  refine Jp.qat 28 rfl (qab rfl rfl rfl rfl) rfl rfl Kp.true ?_
  refine Jp.y 29 rfl (qaa rfl) rfl rfl Kp.true (Y.qba rfl rfl rfl) ?_
  refine Jp.y 19 rfl (qaa rfl) rfl rfl Kp.true (Y.assign rfl rfl) ?_
  refine Jp.qae hK4 ?_
  refine Cd.qdk rfl ?_
  refine Cd.seq fun K5 hK5=>?_
  refine Cd.qac [(0,false)] rfl rfl ?_
  refine Jp.y 8 rfl (qaa rfl) rfl rfl Kp.true (Y.assign rfl rfl) ?_
  refine Jp.qae hK5 ?_
  refine Cd.memClose 0 1 2 3 (by decide) hf rfl rfl rfl rfl ?_
  have hV : mapM M a n perm = (1,M):=by
   rw [mapM]
   split
   ·rfl
   ·rename_i many hm
    rw [if_pos (by (rw [hm] at g22; cases g22; done))]
  refine Cd.ret [(0,_)] rfl (qbe rfl rfl) ⟨rfl,trivial⟩ ⟨rfl,by rw [hV],by rw [hV]⟩
 try simp only [sG0] at g22
 refine Jp.y 23 rfl (qab rfl rfl rfl rfl) rfl rfl Kp.true (Y.move rfl rfl) ?_
 refine Jp.y 24 rfl (qab rfl rfl rfl rfl) rfl rfl Kp.true (Y.lss rfl rfl rfl) ?_
 refine Jp.y 25 rfl (qaa rfl) rfl rfl Kp.true (Y.qaz rfl rfl rfl) ?_
 refine Jp.y 26 rfl (qaa rfl) rfl rfl Kp.true (Y.move rfl rfl) ?_
 refine Jp.split 26 rfl (fun g26=>?_) (fun g26=>?_)
 ·skip
  try simp only [sG0] at g26
  refine Jp.qat 27 rfl (qab rfl rfl rfl rfl) rfl rfl Kp.true ?_
  refine Jp.qat 28 rfl (qab rfl rfl rfl rfl) rfl rfl Kp.true ?_
  refine Jp.y 29 rfl (qaa rfl) rfl rfl Kp.true (Y.qba rfl rfl rfl) ?_
  refine Jp.y 19 rfl (qaa rfl) rfl rfl Kp.true (Y.assign rfl rfl) ?_
  refine Jp.qae hK4 ?_
  refine Cd.qdk rfl ?_
  refine Cd.seq fun K6 hK6=>?_
  refine Cd.qac [(0,false)] rfl rfl ?_
  refine Jp.y 8 rfl (qaa rfl) rfl rfl Kp.true (Y.assign rfl rfl) ?_
  refine Jp.qae hK6 ?_
  refine Cd.memClose 0 1 2 3 (by decide) hf rfl rfl rfl rfl ?_
  have hV : mapM M a n perm = (1,M):=by
   rw [mapM]
   split
   ·rfl
   ·rename_i many hm
    rw [if_pos (by omega)]
  refine Cd.ret [(0,_)] rfl (qbe rfl rfl) ⟨rfl,trivial⟩ ⟨rfl,by rw [hV],by rw [hV]⟩
 try simp only [sG0] at g26
 refine Jp.y 27 rfl (qab rfl rfl rfl rfl) rfl rfl Kp.true (Y.move rfl rfl) ?_
 refine Jp.y 28 rfl (qab rfl rfl rfl rfl) rfl rfl Kp.true (Y.gtr rfl rfl rfl) ?_
 refine Jp.y 29 rfl (qaa rfl) rfl rfl Kp.true (Y.qaz rfl rfl rfl) ?_
 refine Jp.y 19 rfl (qaa rfl) rfl rfl Kp.true (Y.assign rfl rfl) ?_
 refine Jp.qae hK4 ?_
 refine Cd.qaq rfl (fun g19=>?_) (fun g19=>?_)
 ·skip
  try simp only [sG0] at g19
  refine Cd.seq fun K7 hK7=>?_
  refine Cd.qac [(0,false)] rfl rfl ?_
  refine Jp.y 8 rfl (qaa rfl) rfl rfl Kp.true (Y.assign rfl rfl) ?_
  refine Jp.qae hK7 ?_
  refine Cd.memClose 0 1 2 3 (by decide) hf rfl rfl rfl rfl ?_
  have hV : mapM M a n perm = (1,M):=by
   rw [mapM]
   split
   ·rfl
   ·rename_i many hm
    rw [if_pos (by omega)]
  refine Cd.ret [(0,_)] rfl (qbe rfl rfl) ⟨rfl,trivial⟩ ⟨rfl,by rw [hV],by rw [hV]⟩
 try simp only [sG0] at g19
 refine Cd.seq fun K8 hK8=>?_
 refine Cd.qac [(0,false),(1,false),(2,false),(3,false),(4,false),(5,false),(6,false)] rfl rfl ?_
 obtain ⟨many,hm⟩:=Option.isSome_iff_exists.1 g22
 have hmany : (n + 255) / 256 = many:=by
  rw [qem] at hm
  split at hm
  ·injection hm
  ·cases hm
 rw [hmany]
 have hst : a % 256 = 0 ∧ a + many * 256 ≤ 4294967296 ∧ 0 < many:=by
  rw [qem] at hm
  split at hm
  ·rename_i h; injection hm with hm; omega
  ·cases hm
 refine Jp.y 31 rfl (qaa rfl) rfl rfl Kp.true (Y.move rfl rfl) ?_
 refine Jp.y 32 rfl (qaa rfl) rfl rfl Kp.true (Y.move rfl rfl) ?_
 refine Jp.y 33 rfl (qaa rfl) rfl rfl Kp.true (Y.move rfl rfl) ?_
 refine Jp.call [0,1] [0,1,9] (within_spec b M x hf a many ha (by omega)) 34 rfl (qaa rfl) rfl rfl (Runs.fn rfl call29 rfl) (by decide) (by decide) rfl trivial ?_
 rintro v2 ρ2 L2 ⟨rfl,l,Al,cl,hl,rfl,rfl⟩
 refine ⟨rfl,fun hle2=>⟨Kp.true,?_⟩⟩
 have hll:=hl.length_eq
 refine Jp.y 35 rfl (qaa rfl) rfl rfl Kp.true (Y.qck rfl underlying35 rfl) ?_
 refine Jp.y 36 rfl (qaa rfl) rfl rfl Kp.true (Y.gtr rfl rfl rfl) ?_
 refine Jp.y 30 rfl (qaa rfl) rfl rfl Kp.true (Y.assign rfl rfl) ?_
 refine Jp.qae hK8 ?_
 refine Cd.qaq rfl (fun g30=>?_) (fun g30=>?_)
 ·skip
  try simp only [sG0] at g30
  refine Cd.seq fun K9 hK9=>?_
  refine Cd.qac [(0,false)] rfl rfl ?_
  refine Jp.y 8 rfl (qaa rfl) rfl rfl Kp.true (Y.assign rfl rfl) ?_
  refine Jp.qae hK9 ?_
  refine Cd.memClose 0 1 2 3 (by decide) hf rfl rfl rfl rfl ?_
  have hV : mapM M a n perm = (5,M):=by rw [mapM,hm]; dsimp only; rw [if_neg (by omega),if_pos (by omega)]
  refine Cd.ret [(0,_)] rfl (qbe rfl rfl) ⟨rfl,trivial⟩ ⟨rfl,by rw [hV],by rw [hV]⟩
 try simp only [sG0] at g30
 refine Cd.seq fun K10 hK10=>?_
 refine Cd.drawn [(0,_),(1,_)] ⟨rfl,rfl,trivial⟩ [(0,true),(1,true),(2,true),(3,true),(4,true),(5,true),(6,true),(7,true),(8,true),(9,true),(10,true),(11,true),(12,true),(13,true)] follows (by kernel_rfl) (fun hrl=>?_)
 refine Jp.q 38 rfl (qaa rfl) rfl rfl (Y.move rfl rfl) ?_
 refine Jp.q 39 rfl (qaa rfl) rfl rfl (Y.move rfl rfl) ?_
 refine Jp.q 40 rfl (qaa rfl) rfl rfl (Y.qao rfl rfl) ?_
 refine Jp.q 41 rfl (qaa rfl) rfl rfl (by exact Y.qad rfl rfl underlying92 rfl sizeOf3 (by decide) (show _ + 0 = _ from rfl)) ?_
 refine Jp.q 42 rfl (qaa rfl) rfl rfl (Y.qaw 0 rfl isAgg3 rfl rfl rfl) ?_
 refine Jp.q 43 rfl (qaa rfl) rfl rfl (Y.move rfl rfl) ?_
 refine Jp.q 44 rfl (qaa rfl) rfl rfl (Y.qao rfl rfl) ?_
 refine Jp.q 45 rfl (qaa rfl) rfl rfl (by exact Y.qad rfl rfl underlying92 rfl sizeOf89 (by decide) (show _ + 1 = _ from rfl)) ?_
 refine Jp.q 46 rfl (qaa rfl) rfl rfl (Y.qaw 0 rfl isAgg89 rfl rfl rfl) ?_
 refine Jp.q 47 rfl (qaa rfl) rfl rfl (by first | exact Y.lenmap 1 rfl underlying89 rfl rfl) ?_
 refine Jp.q 48 rfl (qaa rfl) rfl rfl (Y.qfy rfl rfl rfl (by exact qaj (by omega) (by omega))) ?_
 refine Jp.q 49 rfl (qaa rfl) rfl rfl (Y.qav rfl rfl underlying3 underlying93 (by exact qbh (by omega) (by omega))) ?_
 refine Jp.q 50 rfl (qaa rfl) rfl rfl (Y.gtr rfl rfl rfl) ?_
 refine Jp.q 37 rfl (qaa rfl) rfl rfl (Y.assign rfl rfl) ?_
 refine Jp.qae hK10 ?_
 refine Cd.qaq rfl (fun g37=>?_) (fun g37=>?_)
 ·skip
  try simp only [sG0] at g37
  refine Cd.seq fun K12 hK12=>?_
  refine Cd.qac [(0,false)] rfl rfl ?_
  refine Jp.y 8 rfl (qaa rfl) rfl rfl Kp.true (Y.assign rfl rfl) ?_
  refine Jp.qae hK12 ?_
  refine Cd.memClose 0 1 2 3 (by decide) hf rfl rfl rfl rfl ?_
  have hV : mapM M a n perm = (6,M):=by rw [mapM,hm]; dsimp only; rw [if_neg (by omega),if_neg (by omega),if_pos (by omega)]
  refine Cd.ret [(0,_)] rfl (qbe rfl rfl) ⟨rfl,trivial⟩ ⟨rfl,by rw [hV],by rw [hV]⟩
 try simp only [sG0] at g37
 refine Cd.over rfl hK3 ?_
 refine Cd.seq fun K13 hK13=>?_
 refine Cd.seq fun K14 hK14=>?_
 refine Cd.qac [(0,false),(1,false),(2,false)] rfl rfl ?_
 refine Jp.y 51 rfl (qaa rfl) rfl rfl Kp.true (Y.move rfl rfl) ?_
 refine Jp.y 52 rfl (qaa rfl) rfl rfl Kp.true (Y.qav rfl rfl underlying93 underlying31 (by exact qau (by omega) (by omega))) ?_
 refine Jp.y 53 rfl (qaa rfl) rfl rfl Kp.true (Y.move rfl rfl) ?_
 refine Jp.qae hK14 ?_
 refine Cd.block ?_
 obtain ⟨pn,rfl⟩:=Int.eq_ofNat_of_zero_le g26
 have hV : mapM M a n pn = (0,qdn M a pn many):=by rw [mapM,hm]; dsimp only; rw [if_neg (by omega),if_neg (by omega),if_neg (by omega)]; rfl
 have hnone : ∀ i,i < many → a + 256 * i ∉ (qdn M a pn i).pages.map (·.1):=fun i hi h=>by
  rcases addPgs_mem h with h | ⟨j,hj,h⟩
  ·exact within_none (a:=a) (many:=many) (by omega) (by simp only [inS,Bool.and_eq_true,decide_eq_true_eq]; omega) h
  ·omega
 refine Cd.qfl (G:=Nat × MemX) (fun g=>g.1 ≤ many ∧ MemF (qdn M a pn g.1) g.2 ∧ g.2.pb = x.pb ∧ g.2.gb = x.gb) (fun g=>many - g.1) (fun _=>_) (fun g=>[(53,.int .u32 g.1)]) [(0,_),(1,_),(3,_),(52,_)] (fun g=>[(1,qda .u32 x.pb g.2.pm),(2,qda .u32 x.gb g.2.gm),(3,Blks (qbm (qdn M a pn g.1) g.2))]) [(0,_)] ⟨0,x⟩ ⟨Nat.zero_le _,hf,rfl,rfl⟩ rfl ⟨rfl,trivial⟩ ⟨rfl,rfl,rfl,rfl,trivial⟩ ⟨rfl,rfl,rfl,trivial⟩ ⟨rfl,trivial⟩ (fun g KLa hok hLa=>?_)
 obtain ⟨i,y⟩:=g
 obtain ⟨ok1,ok2,ok3,ok4⟩:=hok
 dsimp only at ok1 ok2 ok3 ok4 ⊢
 refine Cd.seq fun K15 hK15=>?_
 refine Cd.qac [(0,false)] rfl rfl ?_
 refine Jp.y 54 rfl (qaa rfl) rfl rfl Kp.true (Y.lss rfl rfl rfl) ?_
 refine Jp.qae hK15 ?_
 refine Cd.seq fun K16 hK16=>?_
 refine Cd.qaq rfl (fun ga=>?_) (fun ga=>?_)
 ·simp only [decide_eq_true_eq] at ga
  have hi : i < many:=by omega
  have hno:=hnone i hi
  have hmo : MemOk { qdn M a pn i with pages:=qgh (a + 256 * i) ⟨List.replicate 256 0,pn⟩ (qdn M a pn i).pages } :=
   ok2.ok.ins hno (by omega) (by omega) (by simp) (by show pn ≤ 7; omega) (by rw [addPgs_length,qhh]; omega)
  refine Cd.qbw hK16 ?_
  refine Cd.seq fun K17 hK17=>?_
  refine Cd.block ?_
  refine Cd.seq fun K18 hK18=>?_
  refine Cd.qac [(0,false),(1,false)] rfl rfl ?_
  refine Jp.y 55 rfl (qaa rfl) rfl rfl Kp.true (Y.move rfl rfl) ?_
  refine Jp.y 11 rfl (qaa rfl) rfl rfl Kp.true (Y.assign rfl rfl) ?_
  refine Jp.qae hK18 ?_
  refine Cd.seq fun K19 hK19=>?_
  refine Cd.qac [(0,false),(1,false),(2,false),(3,false),(4,false)] rfl rfl ?_
  refine Jp.y 56 rfl (qaa rfl) rfl rfl Kp.true (Y.move rfl rfl) ?_
  refine Jp.y 57 rfl (qaa rfl) rfl rfl Kp.true (Y.move rfl rfl) ?_
  refine Jp.y 58 rfl (qaa rfl) rfl rfl Kp.true (Y.mul_ rfl rfl rfl (by exact qau (by omega) (by omega))) ?_
  refine Jp.y 59 rfl (qaa rfl) rfl rfl Kp.true (Y.qcd rfl rfl rfl (by exact qau (by omega) (by omega))) ?_
  refine Jp.y 12 rfl (qaa rfl) rfl rfl Kp.true (Y.assign rfl rfl) ?_
  refine Jp.qae hK19 ?_
  refine Cd.seq fun K20 hK20=>?_
  refine Cd.qac [(0,false),(1,false),(2,false),(3,false),(4,false),(5,false),(6,false),(7,false),(8,false)] rfl rfl ?_
  refine Jp.slot 12 rfl (congrArg (Value.int .u32) (show ((a : Int) + i * 256) = ((a + 256 * i : Nat) : Int) by omega)) ?_
  refine Jp.y 60 rfl (qaa rfl) rfl rfl Kp.true (Y.move rfl rfl) ?_
  refine Jp.y 61 rfl (qaa rfl) rfl rfl Kp.true (Y.qao rfl rfl) ?_
  refine Jp.y 62 rfl (qaa rfl) rfl rfl Kp.true (by exact Y.qad rfl rfl underlying92 rfl sizeOf89 (by decide) (show _ + 1 = _ from rfl)) ?_
  refine Jp.y 63 rfl (qaa rfl) rfl rfl Kp.true (Y.qaw 0 rfl isAgg89 rfl rfl rfl) ?_
  refine Jp.y 64 rfl (qaa rfl) rfl rfl Kp.true (Y.move rfl rfl) ?_
  refine Jp.y 65 rfl (qaa rfl) rfl rfl Kp.true (Y.move rfl rfl) ?_
  refine Jp.y 66 rfl (qaa rfl) rfl rfl Kp.true (Y.struct [(1,_)] [_,_,_,_,_,_,_,_,_,_,_,_,_,_,_,_,_,_,_,_,_,_,_,_,_,_,_,_,_,_,_,_,_,_,_,_,_,_,_,_,_,_,_,_,_,_,_,_,_,_,_,_,_,_,_,_,_,_,_,_,_,_,_,_,_,_,_,_,_,_,_,_,_,_,_,_,_,_,_,_,_,_,_,_,_,_,_,_,_,_,_,_,_,_,_,_,_,_,_,_,_,_,_,_,_,_,_,_,_,_,_,_,_,_,_,_,_,_,_,_,_,_,_,_,_,_,_,_,_,_,_,_,_,_,_,_,_,_,_,_,_,_,_,_,_,_,_,_,_,_,_,_,_,_,_,_,_,_,_,_,_,_,_,_,_,_,_,_,_,_,_,_,_,_,_,_,_,_,_,_,_,_,_,_,_,_,_,_,_,_,_,_,_,_,_,_,_,_,_,_,_,_,_,_,_,_,_,_,_,_,_,_,_,_,_,_,_,_,_,_,_,_,_,_,_,_,_,_,_,_,_,_,_,_,_,_,_,_,_,_,_,_,_,_,_,_,_,_,_,_,_,_,_,_,_,_,_] rfl rfl places99 zeroValue99 rfl) ?_
  refine Jp.slot 66 rfl (show _ = Value.agg (qay ⟨List.replicate 256 0,pn⟩).toArray by rfl) ?_
  refine Jp.box 50 67 rfl (qaa rfl) rfl rfl rfl rfl fun b50=>⟨Kp.true,?_⟩
  first | refine Jp.mapUpdate 1 rfl (qaa rfl) rfl rfl rfl rfl rfl underlying89 underlying31 rfl Kp.true ?_
  refine Jp.qae hK20 ?_
  refine Cd.qac [(0,false),(1,false),(2,false),(3,false),(4,false),(5,false),(6,false),(7,false)] rfl rfl ?_
  refine Jp.joinB (ob:=pageO ⟨List.replicate 256 0,pn⟩) 3 50 (by decide) rfl rfl ?_
  refine Jp.imp (j:=3) rfl (Blks.perm (blks_ins (p:=⟨List.replicate 256 0,pn⟩) b50 (qgg y.pm ((a + 256 * i : Nat) : Int) (.pointer (some ⟨b50,0,none⟩))) hno)) ?_
  have hf2:=ok2.ins (p:=⟨List.replicate 256 0,pn⟩) b50 hno hmo
  have hf3:=hf2.bump (a + 256 * i)
  refine Jp.y 68 rfl (qaa rfl) rfl rfl Kp.true (Y.move rfl rfl) ?_
  refine Jp.y 69 rfl (qaa rfl) rfl rfl Kp.true (Y.qao rfl rfl) ?_
  refine Jp.y 70 rfl (qaa rfl) rfl rfl Kp.true (by exact Y.qad rfl rfl underlying92 rfl sizeOf90 (by decide) (show _ + 2 = _ from rfl)) ?_
  refine Jp.y 71 rfl (qaa rfl) rfl rfl Kp.true (by exact Y.qaw 0 rfl isAgg90 rfl rfl rfl) ?_
  refine Jp.y 72 rfl (qaa rfl) rfl rfl Kp.true (Y.move rfl rfl) ?_
  refine Jp.y 73 rfl (qaa rfl) rfl rfl Kp.true (by first | exact Y.lookup 2 rfl rfl rfl underlying90 underlying31 zeroValue31 rfl) ?_
  refine Jp.slot 73 rfl ((ok2.gens _)) ?_
  refine Jp.y 74 rfl (qaa rfl) rfl rfl Kp.true (Y.qcd rfl rfl rfl (qgk ((qdn M a pn i).gens (a + 256 * i) + 1))) ?_
  first | refine Jp.mapUpdate 2 rfl (qaa rfl) rfl rfl rfl rfl rfl underlying90 underlying31 rfl Kp.true ?_
  refine Jp.over rfl hK17 ?_
  refine Cd.qac [(0,false),(1,false)] rfl rfl ?_
  refine Jp.y 75 rfl (qaa rfl) rfl rfl Kp.true (Y.qcd rfl rfl rfl (qau (by omega) (by omega))) ?_
  refine Jp.y 53 rfl (qaa rfl) rfl rfl Kp.true (Y.move rfl rfl) ?_
  refine Jp.again hLa ⟨i + 1,_⟩ ⟨hi,hf3,ok3,ok4⟩ (by show many - (i + 1) < many - i; omega) rfl ⟨rfl,rfl,rfl,rfl,rfl,trivial⟩ ⟨rfl,rfl,rfl,rfl,trivial⟩
 ·simp only [decide_eq_false_iff_not] at ga
  obtain rfl : i = many:=by omega
  refine Cd.exit rfl hK13 ?_
  refine Cd.seq fun K21 hK21=>?_
  refine Cd.qac [(0,false)] rfl rfl ?_
  refine Jp.y 8 rfl (qaa rfl) rfl rfl Kp.true (Y.assign rfl rfl) ?_
  refine Jp.qae hK21 ?_
  have e : qct (qdn M a pn i) y = qct M x:=by rw [qct,qct,qhh,ok3,ok4]
  refine Cd.memClose (b:=b) (x:=y) 0 1 2 3 (by decide) ok2 (by rw [e]; rfl) (by rw [ok3]; rfl) (by rw [ok4]; rfl) rfl ?_
  refine Cd.ret [(0,_)] rfl (qbe rfl rfl) ⟨rfl,trivial⟩ ⟨rfl,by rw [hV],by rw [hV]⟩
end Go.Proofs.Ytnfkalpgidiafaa
set_option linter.unusedVariables false
set_option linter.unusedSimpArgs false
set_option maxRecDepth 100000
namespace Go.Proofs.Ytnfkalpgidiafaa
open _root_.Go.Proofs.Try
open Go
theorem new_yes (m : Nat) (h : 1 ≤ m ∧ m ≤ 4096) : Spec Try.prog 14 #[.int .i64 m] (fun _=>True) [] (fun ρ ρ' v L=>ρ' = ρ ∧ ∃ b,v = .tuple #[.pointer (some ⟨b,0,none⟩),.int .i64 0] ∧ L = [(0,qfz b (newM m))]) :=
 (new_spec m).mono (fun _ h=>h) fun ρ ρ' v l hp=>by
  obtain ⟨h1,h2⟩:=hp
  rw [if_pos (by omega)] at h2
  exact ⟨h1,h2⟩
end Go.Proofs.Ytnfkalpgidiafaa
set_option linter.unusedVariables false
set_option linter.unusedSimpArgs false
set_option maxRecDepth 100000
namespace Go.Proofs.Ytnfkalpgidiafaa
open _root_.Go.Proofs.Try
open Go
def oneM (bud : Nat) (bs : qam) (g : Nat → Nat) : MemG:=⟨bud,[(0,⟨bs,3⟩)],g⟩
end Go.Proofs.Ytnfkalpgidiafaa
