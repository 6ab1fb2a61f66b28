import Derived.Test.YtnfkalpgidiafaaGreatZP1
import Derived.Test.YtnfkalpgidiafaaGreatZP0
set_option linter.unusedVariables false
set_option linter.unusedSimpArgs false
set_option maxRecDepth 100000
namespace Go.Proofs.YtnfkalpgidiafaaGreat
open _root_.Go.Proofs.Tryz
open Go
theorem qcc (w f m : Nat) (hw : w < 4294967296) (hf : f ≤ 31) (hm : m ≤ 31) : Spec Tryz.prog 73 #[.int .u32 w,.int .i64 f,.int .i64 m] (fun _=>True) [] (fun ρ ρ' v L=>ρ' = ρ ∧ v = .int .i64 ((w / 2 ^ f % 2 ^ m : Nat) : Int) ∧ L = []):=by
 refine Spec.of 15 Tryz.func73 rfl Tryz.ntmps73 [(0,_),(1,_),(2,_)] rfl rfl ?_
 intro cx ρ hr h0
 have h1 : 2 ^ m ≤ 2 ^ 31:=Nat.pow_le_pow_right (by omega) hm
 have h2 : 1 ≤ 2 ^ m:=Nat.one_le_two_pow
 have h3 : w / 2 ^ f ≤ w:=Nat.div_le_self ..
 have h4 : w / 2 ^ f % 2 ^ m < 2 ^ m:=Nat.mod_lt _ (by omega)
 have hs : IntKind.u32.wrap (((1 : Nat) : Int) * 2 ^ (min (m : Int).toNat IntKind.u32.bits)) = ((1 * 2 ^ m : Nat) : Int):=shl32 (by omega) (by omega)
 refine Cd.seq fun K1 hK1=>?_
 refine Cd.qac [(0,false)] rfl rfl ?_
 refine Jp.y 6 rfl (qaa rfl) rfl rfl Kp.true (Y.assign rfl rfl) ?_
 refine Jp.qae hK1 ?_
 refine Cd.seq fun K2 hK2=>?_
 refine Cd.drawn [] trivial [(0,true),(1,true),(2,true),(3,true),(4,true),(5,true),(6,true),(7,true),(8,true)] follows (by kernel_rfl) (fun hrl=>?_)
 refine Jp.q 7 rfl (qaa rfl) rfl rfl (Y.move rfl rfl) ?_
 refine Jp.q 8 rfl (qaa rfl) rfl rfl (Y.move rfl rfl) ?_
 refine Jp.q 9 rfl (qaa rfl) rfl rfl (Y.shr rfl rfl rfl (by first | decide | omega)) ?_
 refine Jp.q 10 rfl (qaa rfl) rfl rfl (Y.move rfl rfl) ?_
 refine Jp.q 11 rfl (qaa rfl) rfl rfl (Y.shl rfl rfl rfl (by first | decide | omega)) ?_
 refine Jp.slot 9 rfl (show _ = Value.int .u32 ((w / 2 ^ f : Nat) : Int) from congrArg (Value.int .u32) (shr32 w f (by omega))) ?_
 refine Jp.slot 11 rfl (show _ = Value.int .u32 ((2 ^ m : Nat) : Int) from congrArg (Value.int .u32) (by rw [Nat.one_mul] at hs; exact hs)) ?_
 refine Jp.q 12 rfl (qaa rfl) rfl rfl (Y.qfm rfl rfl rfl (by exact qba (by omega) (by omega))) ?_
 refine Jp.slot 12 rfl (show _ = Value.int .u32 ((2 ^ m - 1 : Nat) : Int) from congrArg (Value.int .u32) (by omega)) ?_
 refine Jp.q 13 rfl (qaa rfl) rfl rfl (Y.bits rfl rfl rfl rfl) ?_
 refine Jp.slot 13 rfl (show _ = Value.int .u32 ((w / 2 ^ f % 2 ^ m : Nat) : Int) from congrArg (Value.int .u32) (by rw [qdx (by omega) (by omega),Nat.and_two_pow_sub_one_eq_mod])) ?_
 refine Jp.q 14 rfl (qaa rfl) rfl rfl (Y.qaw rfl rfl underlying24 underlying3 (by exact qaj (by omega) (by omega))) ?_
 refine Jp.q 6 rfl (qaa rfl) rfl rfl (Y.assign rfl rfl) ?_
 refine Jp.qae hK2 ?_
 refine Cd.ret [] rfl (qbd rfl rfl) trivial ⟨rfl,rfl,rfl⟩
def branchP (f : Nat) : Nat:=[5,6,0,0,7,8,9,10].getD f 0
def loadP (f : Nat) : Nat:=[11,12,13,0,14,15,0,0].getD f 0
def storeP (f : Nat) : Nat:=[16,17,18,0,0,0,0,0].getD f 0
def immKP (f top : Nat) : Nat:=if f = 1 ∧ top = 0 then 25 else if f = 5 ∧ top = 0 then 26 else if f = 5 ∧ top = 32 then 27 else [19,0,20,21,22,0,23,24].getD f 0
def regKP (f top : Nat) : Nat:=if top = 0 then [28,30,31,32,33,34,36,37].getD f 0 else if top = 1 then 38 + f else if top = 32 ∧ f = 0 then 29 else if top = 32 ∧ f = 5 then 35 else 0
def systemP (w : Nat) : Nat:=if w = 115 then 48 else if w = 1048691 then 49 else 0
theorem branchK_spec (f : Nat) (hf : f < 8) : Spec Tryz.prog 92 #[.int .i64 f] (fun _=>True) [] (fun ρ ρ' v L=>ρ' = ρ ∧ v = .int .i64 ((branchP f : Nat) : Int) ∧ L = []):=by
 refine Spec.of 6 Tryz.func92 rfl Tryz.ntmps92 [(0,_)] rfl rfl ?_
 intro cx ρ hr h0
 have hidx : (#[Value.int .i64 5,Value.int .i64 6,Value.int .i64 0,Value.int .i64 0,Value.int .i64 7,Value.int .i64 8,Value.int .i64 9,Value.int .i64 10] : Array Value)[(f : Int).toNat * 1]? = some (.int .i64 ((branchP f : Nat) : Int)):=by
  rcases (show f = 0 ∨ f = 1 ∨ f = 2 ∨ f = 3 ∨ f = 4 ∨ f = 5 ∨ f = 6 ∨ f = 7 by omega) with rfl | rfl | rfl | rfl | rfl | rfl | rfl | rfl <;> rfl
 refine Cd.seq fun K4 hK4=>?_
 refine Cd.qac [(0,false)] rfl rfl ?_
 refine Jp.y 2 rfl (qaa rfl) rfl rfl Kp.true (Y.assign rfl rfl) ?_
 refine Jp.qae hK4 ?_
 refine Cd.seq fun K5 hK5=>?_
 refine Cd.qac [(0,false),(1,false),(2,false),(3,false)] rfl rfl ?_
 refine Jp.y 3 rfl (qaa rfl) rfl rfl Kp.true (Y.array [(0,_),(1,_),(2,_),(3,_),(4,_),(5,_),(6,_),(7,_)] [_,_,_,_,_,_,_,_] rfl rfl underlying188 sizeOf3 zeroValue188 rfl) ?_
 refine Jp.y 4 rfl (qaa rfl) rfl rfl Kp.true (Y.move rfl rfl) ?_
 refine Jp.y 5 rfl (qaa rfl) rfl rfl Kp.true (Y.qcm (v:=.int .i64 ((branchP f : Nat) : Int)) rfl underlying188 sizeOf3 isAgg3 rfl rfl (by omega) (by omega) hidx) ?_
 refine Jp.y 2 rfl (qaa rfl) rfl rfl Kp.true (Y.assign rfl rfl) ?_
 refine Jp.qae hK5 ?_
 refine Cd.ret [] rfl (qbd rfl rfl) trivial ⟨rfl,rfl,rfl⟩
theorem loadK_spec (f : Nat) (hf : f < 8) : Spec Tryz.prog 93 #[.int .i64 f] (fun _=>True) [] (fun ρ ρ' v L=>ρ' = ρ ∧ v = .int .i64 ((loadP f : Nat) : Int) ∧ L = []):=by
 refine Spec.of 6 Tryz.func93 rfl Tryz.ntmps93 [(0,_)] rfl rfl ?_
 intro cx ρ hr h0
 have hidx : (#[Value.int .i64 11,Value.int .i64 12,Value.int .i64 13,Value.int .i64 0,Value.int .i64 14,Value.int .i64 15,Value.int .i64 0,Value.int .i64 0] : Array Value)[(f : Int).toNat * 1]? = some (.int .i64 ((loadP f : Nat) : Int)):=by
  rcases (show f = 0 ∨ f = 1 ∨ f = 2 ∨ f = 3 ∨ f = 4 ∨ f = 5 ∨ f = 6 ∨ f = 7 by omega) with rfl | rfl | rfl | rfl | rfl | rfl | rfl | rfl <;> rfl
 refine Cd.seq fun K6 hK6=>?_
 refine Cd.qac [(0,false)] rfl rfl ?_
 refine Jp.y 2 rfl (qaa rfl) rfl rfl Kp.true (Y.assign rfl rfl) ?_
 refine Jp.qae hK6 ?_
 refine Cd.seq fun K7 hK7=>?_
 refine Cd.qac [(0,false),(1,false),(2,false),(3,false)] rfl rfl ?_
 refine Jp.y 3 rfl (qaa rfl) rfl rfl Kp.true (Y.array [(0,_),(1,_),(2,_),(3,_),(4,_),(5,_),(6,_),(7,_)] [_,_,_,_,_,_,_,_] rfl rfl underlying188 sizeOf3 zeroValue188 rfl) ?_
 refine Jp.y 4 rfl (qaa rfl) rfl rfl Kp.true (Y.move rfl rfl) ?_
 refine Jp.y 5 rfl (qaa rfl) rfl rfl Kp.true (Y.qcm (v:=.int .i64 ((loadP f : Nat) : Int)) rfl underlying188 sizeOf3 isAgg3 rfl rfl (by omega) (by omega) hidx) ?_
 refine Jp.y 2 rfl (qaa rfl) rfl rfl Kp.true (Y.assign rfl rfl) ?_
 refine Jp.qae hK7 ?_
 refine Cd.ret [] rfl (qbd rfl rfl) trivial ⟨rfl,rfl,rfl⟩
theorem storeK_spec (f : Nat) (hf : f < 8) : Spec Tryz.prog 94 #[.int .i64 f] (fun _=>True) [] (fun ρ ρ' v L=>ρ' = ρ ∧ v = .int .i64 ((storeP f : Nat) : Int) ∧ L = []):=by
 refine Spec.of 6 Tryz.func94 rfl Tryz.ntmps94 [(0,_)] rfl rfl ?_
 intro cx ρ hr h0
 have hidx : (#[Value.int .i64 16,Value.int .i64 17,Value.int .i64 18,Value.int .i64 0,Value.int .i64 0,Value.int .i64 0,Value.int .i64 0,Value.int .i64 0] : Array Value)[(f : Int).toNat * 1]? = some (.int .i64 ((storeP f : Nat) : Int)):=by
  rcases (show f = 0 ∨ f = 1 ∨ f = 2 ∨ f = 3 ∨ f = 4 ∨ f = 5 ∨ f = 6 ∨ f = 7 by omega) with rfl | rfl | rfl | rfl | rfl | rfl | rfl | rfl <;> rfl
 refine Cd.seq fun K8 hK8=>?_
 refine Cd.qac [(0,false)] rfl rfl ?_
 refine Jp.y 2 rfl (qaa rfl) rfl rfl Kp.true (Y.assign rfl rfl) ?_
 refine Jp.qae hK8 ?_
 refine Cd.seq fun K9 hK9=>?_
 refine Cd.qac [(0,false),(1,false),(2,false),(3,false)] rfl rfl ?_
 refine Jp.y 3 rfl (qaa rfl) rfl rfl Kp.true (Y.array [(0,_),(1,_),(2,_)] [_,_,_,_,_,_,_,_] rfl rfl underlying188 sizeOf3 zeroValue188 rfl) ?_
 refine Jp.y 4 rfl (qaa rfl) rfl rfl Kp.true (Y.move rfl rfl) ?_
 refine Jp.y 5 rfl (qaa rfl) rfl rfl Kp.true (Y.qcm (v:=.int .i64 ((storeP f : Nat) : Int)) rfl underlying188 sizeOf3 isAgg3 rfl rfl (by omega) (by omega) hidx) ?_
 refine Jp.y 2 rfl (qaa rfl) rfl rfl Kp.true (Y.assign rfl rfl) ?_
 refine Jp.qae hK9 ?_
 refine Cd.ret [] rfl (qbd rfl rfl) trivial ⟨rfl,rfl,rfl⟩
theorem immK_spec (f top : Nat) (hf : f < 8) : Spec Tryz.prog 95 #[.int .i64 f,.int .i64 top] (fun _=>True) [] (fun ρ ρ' v L=>ρ' = ρ ∧ v = .int .i64 ((immKP f top : Nat) : Int) ∧ L = []):=by
 refine Spec.of 29 Tryz.func95 rfl Tryz.ntmps95 [(0,_),(1,_)] rfl rfl ?_
 intro cx ρ hr h0
 have hidx : (#[Value.int .i64 19,Value.int .i64 0,Value.int .i64 20,Value.int .i64 21,Value.int .i64 22,Value.int .i64 0,Value.int .i64 23,Value.int .i64 24] : Array Value)[(f : Int).toNat * 1]? = some (.int .i64 (([19,0,20,21,22,0,23,24].getD f 0 : Nat) : Int)):=by
  rcases (show f = 0 ∨ f = 1 ∨ f = 2 ∨ f = 3 ∨ f = 4 ∨ f = 5 ∨ f = 6 ∨ f = 7 by omega) with rfl | rfl | rfl | rfl | rfl | rfl | rfl | rfl <;> rfl
 refine Cd.seq fun K10 hK10=>?_
 refine Cd.qac [(0,false)] rfl rfl ?_
 refine Jp.y 4 rfl (qaa rfl) rfl rfl Kp.true (Y.assign rfl rfl) ?_
 refine Jp.qae hK10 ?_
 refine Cd.seq fun K11 hK11=>?_
 refine Cd.block ?_
 refine Cd.seq fun K12 hK12=>?_
 refine Cd.qac [(0,false),(1,false),(2,false),(3,false),(4,false),(5,false),(6,false)] rfl rfl ?_
 refine Jp.y 6 rfl (qaa rfl) rfl rfl Kp.true (Y.move rfl rfl) ?_
 refine Jp.y 7 rfl (qaa rfl) rfl rfl Kp.true (Y.eql rfl rfl rfl) ?_
 refine Jp.y 8 rfl (qaa rfl) rfl rfl Kp.true (Y.move rfl rfl) ?_
 refine Jp.split 8 rfl (fun g8=>?_) (fun g8=>?_)
 ·skip
  try simp only [sG0] at g8
  refine Jp.y 9 rfl (qab rfl rfl rfl rfl) rfl rfl Kp.true (Y.move rfl rfl) ?_
  refine Jp.y 10 rfl (qab rfl rfl rfl rfl) rfl rfl Kp.true (Y.eql rfl rfl rfl) ?_
  refine Jp.y 11 rfl (qaa rfl) rfl rfl Kp.true (Y.qav rfl rfl rfl) ?_
  refine Jp.y 5 rfl (qaa rfl) rfl rfl Kp.true (Y.assign rfl rfl) ?_
  refine Jp.qae hK12 ?_
  refine Cd.qar rfl (fun g5=>?_) (fun g5=>?_)
  ·skip
   try simp only [sG0] at g5
   refine Cd.seq fun K13 hK13=>?_
   refine Cd.qac [(0,false)] rfl rfl ?_
   refine Jp.y 4 rfl (qaa rfl) rfl rfl Kp.true (Y.assign rfl rfl) ?_
   refine Jp.qae hK13 ?_
   refine Cd.ret [] rfl (qbd rfl rfl) trivial ⟨rfl,congrArg (Value.int .i64) (by (unfold immKP; repeat first | rfl | rw [if_pos (by omega)] | rw [if_neg (by omega)])),rfl⟩
  ·skip
   try simp only [sG0] at g5
   refine Cd.seq fun K14 hK14=>?_
   refine Cd.qac [(0,false),(1,false),(2,false),(3,false),(4,false),(5,false),(6,false)] rfl rfl ?_
   refine Jp.y 13 rfl (qaa rfl) rfl rfl Kp.true (Y.move rfl rfl) ?_
   refine Jp.y 14 rfl (qaa rfl) rfl rfl Kp.true (Y.eql rfl rfl rfl) ?_
   refine Jp.y 15 rfl (qaa rfl) rfl rfl Kp.true (Y.move rfl rfl) ?_
   refine Jp.split 15 rfl (fun g15=>?_) (fun g15=>?_)
   ·skip
    try simp only [sG0] at g15
    refine Jp.y 16 rfl (qab rfl rfl rfl rfl) rfl rfl Kp.true (Y.move rfl rfl) ?_
    refine Jp.y 17 rfl (qab rfl rfl rfl rfl) rfl rfl Kp.true (Y.eql rfl rfl rfl) ?_
    refine Jp.y 18 rfl (qaa rfl) rfl rfl Kp.true (Y.qav rfl rfl rfl) ?_
    refine Jp.y 12 rfl (qaa rfl) rfl rfl Kp.true (Y.assign rfl rfl) ?_
    refine Jp.qae hK14 ?_
    refine Cd.qar rfl (fun g12=>?_) (fun g12=>?_)
    ·skip
     try simp only [sG0] at g12
     refine Cd.seq fun K15 hK15=>?_
     refine Cd.qac [(0,false)] rfl rfl ?_
     refine Jp.y 4 rfl (qaa rfl) rfl rfl Kp.true (Y.assign rfl rfl) ?_
     refine Jp.qae hK15 ?_
     refine Cd.ret [] rfl (qbd rfl rfl) trivial ⟨rfl,congrArg (Value.int .i64) (by (exfalso; omega)),rfl⟩
    ·skip
     try simp only [sG0] at g12
     refine Cd.seq fun K16 hK16=>?_
     refine Cd.qac [(0,false),(1,false),(2,false),(3,false),(4,false),(5,false),(6,false)] rfl rfl ?_
     refine Jp.y 20 rfl (qaa rfl) rfl rfl Kp.true (Y.move rfl rfl) ?_
     refine Jp.y 21 rfl (qaa rfl) rfl rfl Kp.true (Y.eql rfl rfl rfl) ?_
     refine Jp.y 22 rfl (qaa rfl) rfl rfl Kp.true (Y.move rfl rfl) ?_
     refine Jp.split 22 rfl (fun g22=>?_) (fun g22=>?_)
     ·skip
      try simp only [sG0] at g22
      refine Jp.y 23 rfl (qab rfl rfl rfl rfl) rfl rfl Kp.true (Y.move rfl rfl) ?_
      refine Jp.y 24 rfl (qab rfl rfl rfl rfl) rfl rfl Kp.true (Y.eql rfl rfl rfl) ?_
      refine Jp.y 25 rfl (qaa rfl) rfl rfl Kp.true (Y.qav rfl rfl rfl) ?_
      refine Jp.y 19 rfl (qaa rfl) rfl rfl Kp.true (Y.assign rfl rfl) ?_
      refine Jp.qae hK16 ?_
      refine Cd.qar rfl (fun g19=>?_) (fun g19=>?_)
      ·skip
       try simp only [sG0] at g19
       refine Cd.seq fun K17 hK17=>?_
       refine Cd.qac [(0,false)] rfl rfl ?_
       refine Jp.y 4 rfl (qaa rfl) rfl rfl Kp.true (Y.assign rfl rfl) ?_
       refine Jp.qae hK17 ?_
       refine Cd.ret [] rfl (qbd rfl rfl) trivial ⟨rfl,congrArg (Value.int .i64) (by (exfalso; omega)),rfl⟩
      ·skip
       try simp only [sG0] at g19
       refine Cd.over rfl hK11 ?_
       refine Cd.seq fun K18 hK18=>?_
       refine Cd.qac [(0,false),(1,false),(2,false),(3,false)] rfl rfl ?_
       refine Jp.y 26 rfl (qaa rfl) rfl rfl Kp.true (Y.array [(0,_),(1,_),(2,_),(3,_),(4,_),(5,_),(6,_),(7,_)] [_,_,_,_,_,_,_,_] rfl rfl underlying188 sizeOf3 zeroValue188 rfl) ?_
       refine Jp.y 27 rfl (qaa rfl) rfl rfl Kp.true (Y.move rfl rfl) ?_
       refine Jp.y 28 rfl (qaa rfl) rfl rfl Kp.true (Y.qcm (v:=.int .i64 (([19,0,20,21,22,0,23,24].getD f 0 : Nat) : Int)) rfl underlying188 sizeOf3 isAgg3 rfl rfl (by omega) (by omega) hidx) ?_
       refine Jp.y 4 rfl (qaa rfl) rfl rfl Kp.true (Y.assign rfl rfl) ?_
       refine Jp.qae hK18 ?_
       refine Cd.ret [] rfl (qbd rfl rfl) trivial ⟨rfl,congrArg (Value.int .i64) (by unfold immKP; rw [if_neg (by omega),if_neg (by omega),if_neg (by omega)]),rfl⟩
     ·skip
      try simp only [sG0] at g22
      refine Jp.qaq 23 rfl (qab rfl rfl rfl rfl) rfl rfl Kp.true ?_
      refine Jp.qaq 24 rfl (qab rfl rfl rfl rfl) rfl rfl Kp.true ?_
      refine Jp.y 25 rfl (qaa rfl) rfl rfl Kp.true (Y.qay rfl rfl rfl) ?_
      refine Jp.y 19 rfl (qaa rfl) rfl rfl Kp.true (Y.assign rfl rfl) ?_
      refine Jp.qae hK16 ?_
      refine Cd.qbz rfl ?_
      refine Cd.over rfl hK11 ?_
      refine Cd.seq fun K19 hK19=>?_
      refine Cd.qac [(0,false),(1,false),(2,false),(3,false)] rfl rfl ?_
      refine Jp.y 26 rfl (qaa rfl) rfl rfl Kp.true (Y.array [(0,_),(1,_),(2,_),(3,_),(4,_),(5,_),(6,_),(7,_)] [_,_,_,_,_,_,_,_] rfl rfl underlying188 sizeOf3 zeroValue188 rfl) ?_
      refine Jp.y 27 rfl (qaa rfl) rfl rfl Kp.true (Y.move rfl rfl) ?_
      refine Jp.y 28 rfl (qaa rfl) rfl rfl Kp.true (Y.qcm (v:=.int .i64 (([19,0,20,21,22,0,23,24].getD f 0 : Nat) : Int)) rfl underlying188 sizeOf3 isAgg3 rfl rfl (by omega) (by omega) hidx) ?_
      refine Jp.y 4 rfl (qaa rfl) rfl rfl Kp.true (Y.assign rfl rfl) ?_
      refine Jp.qae hK19 ?_
      refine Cd.ret [] rfl (qbd rfl rfl) trivial ⟨rfl,congrArg (Value.int .i64) (by unfold immKP; rw [if_neg (by omega),if_neg (by omega),if_neg (by omega)]),rfl⟩
   ·skip
    try simp only [sG0] at g15
    refine Jp.qaq 16 rfl (qab rfl rfl rfl rfl) rfl rfl Kp.true ?_
    refine Jp.qaq 17 rfl (qab rfl rfl rfl rfl) rfl rfl Kp.true ?_
    refine Jp.y 18 rfl (qaa rfl) rfl rfl Kp.true (Y.qay rfl rfl rfl) ?_
    refine Jp.y 12 rfl (qaa rfl) rfl rfl Kp.true (Y.assign rfl rfl) ?_
    refine Jp.qae hK14 ?_
    refine Cd.qbz rfl ?_
    refine Cd.seq fun K20 hK20=>?_
    refine Cd.qac [(0,false),(1,false),(2,false),(3,false),(4,false),(5,false),(6,false)] rfl rfl ?_
    refine Jp.y 20 rfl (qaa rfl) rfl rfl Kp.true (Y.move rfl rfl) ?_
    refine Jp.y 21 rfl (qaa rfl) rfl rfl Kp.true (Y.eql rfl rfl rfl) ?_
    refine Jp.y 22 rfl (qaa rfl) rfl rfl Kp.true (Y.move rfl rfl) ?_
    refine Jp.split 22 rfl (fun g22=>?_) (fun g22=>?_)
    ·skip
     try simp only [sG0] at g22
     refine Jp.y 23 rfl (qab rfl rfl rfl rfl) rfl rfl Kp.true (Y.move rfl rfl) ?_
     refine Jp.y 24 rfl (qab rfl rfl rfl rfl) rfl rfl Kp.true (Y.eql rfl rfl rfl) ?_
     refine Jp.y 25 rfl (qaa rfl) rfl rfl Kp.true (Y.qav rfl rfl rfl) ?_
     refine Jp.y 19 rfl (qaa rfl) rfl rfl Kp.true (Y.assign rfl rfl) ?_
     refine Jp.qae hK20 ?_
     refine Cd.qar rfl (fun g19=>?_) (fun g19=>?_)
     ·skip
      try simp only [sG0] at g19
      refine Cd.seq fun K21 hK21=>?_
      refine Cd.qac [(0,false)] rfl rfl ?_
      refine Jp.y 4 rfl (qaa rfl) rfl rfl Kp.true (Y.assign rfl rfl) ?_
      refine Jp.qae hK21 ?_
      refine Cd.ret [] rfl (qbd rfl rfl) trivial ⟨rfl,congrArg (Value.int .i64) (by (exfalso; omega)),rfl⟩
     ·skip
      try simp only [sG0] at g19
      refine Cd.over rfl hK11 ?_
      refine Cd.seq fun K22 hK22=>?_
      refine Cd.qac [(0,false),(1,false),(2,false),(3,false)] rfl rfl ?_
      refine Jp.y 26 rfl (qaa rfl) rfl rfl Kp.true (Y.array [(0,_),(1,_),(2,_),(3,_),(4,_),(5,_),(6,_),(7,_)] [_,_,_,_,_,_,_,_] rfl rfl underlying188 sizeOf3 zeroValue188 rfl) ?_
      refine Jp.y 27 rfl (qaa rfl) rfl rfl Kp.true (Y.move rfl rfl) ?_
      refine Jp.y 28 rfl (qaa rfl) rfl rfl Kp.true (Y.qcm (v:=.int .i64 (([19,0,20,21,22,0,23,24].getD f 0 : Nat) : Int)) rfl underlying188 sizeOf3 isAgg3 rfl rfl (by omega) (by omega) hidx) ?_
      refine Jp.y 4 rfl (qaa rfl) rfl rfl Kp.true (Y.assign rfl rfl) ?_
      refine Jp.qae hK22 ?_
      refine Cd.ret [] rfl (qbd rfl rfl) trivial ⟨rfl,congrArg (Value.int .i64) (by unfold immKP; rw [if_neg (by omega),if_neg (by omega),if_neg (by omega)]),rfl⟩
    ·skip
     try simp only [sG0] at g22
     refine Jp.qaq 23 rfl (qab rfl rfl rfl rfl) rfl rfl Kp.true ?_
     refine Jp.qaq 24 rfl (qab rfl rfl rfl rfl) rfl rfl Kp.true ?_
     refine Jp.y 25 rfl (qaa rfl) rfl rfl Kp.true (Y.qay rfl rfl rfl) ?_
     refine Jp.y 19 rfl (qaa rfl) rfl rfl Kp.true (Y.assign rfl rfl) ?_
     refine Jp.qae hK20 ?_
     refine Cd.qbz rfl ?_
     refine Cd.over rfl hK11 ?_
     refine Cd.seq fun K23 hK23=>?_
     refine Cd.qac [(0,false),(1,false),(2,false),(3,false)] rfl rfl ?_
     refine Jp.y 26 rfl (qaa rfl) rfl rfl Kp.true (Y.array [(0,_),(1,_),(2,_),(3,_),(4,_),(5,_),(6,_),(7,_)] [_,_,_,_,_,_,_,_] rfl rfl underlying188 sizeOf3 zeroValue188 rfl) ?_
     refine Jp.y 27 rfl (qaa rfl) rfl rfl Kp.true (Y.move rfl rfl) ?_
     refine Jp.y 28 rfl (qaa rfl) rfl rfl Kp.true (Y.qcm (v:=.int .i64 (([19,0,20,21,22,0,23,24].getD f 0 : Nat) : Int)) rfl underlying188 sizeOf3 isAgg3 rfl rfl (by omega) (by omega) hidx) ?_
     refine Jp.y 4 rfl (qaa rfl) rfl rfl Kp.true (Y.assign rfl rfl) ?_
     refine Jp.qae hK23 ?_
     refine Cd.ret [] rfl (qbd rfl rfl) trivial ⟨rfl,congrArg (Value.int .i64) (by unfold immKP; rw [if_neg (by omega),if_neg (by omega),if_neg (by omega)]),rfl⟩
 ·skip
  try simp only [sG0] at g8
  refine Jp.qaq 9 rfl (qab rfl rfl rfl rfl) rfl rfl Kp.true ?_
  refine Jp.qaq 10 rfl (qab rfl rfl rfl rfl) rfl rfl Kp.true ?_
  refine Jp.y 11 rfl (qaa rfl) rfl rfl Kp.true (Y.qay rfl rfl rfl) ?_
  refine Jp.y 5 rfl (qaa rfl) rfl rfl Kp.true (Y.assign rfl rfl) ?_
  refine Jp.qae hK12 ?_
  refine Cd.qbz rfl ?_
  refine Cd.seq fun K24 hK24=>?_
  refine Cd.qac [(0,false),(1,false),(2,false),(3,false),(4,false),(5,false),(6,false)] rfl rfl ?_
  refine Jp.y 13 rfl (qaa rfl) rfl rfl Kp.true (Y.move rfl rfl) ?_
  refine Jp.y 14 rfl (qaa rfl) rfl rfl Kp.true (Y.eql rfl rfl rfl) ?_
  refine Jp.y 15 rfl (qaa rfl) rfl rfl Kp.true (Y.move rfl rfl) ?_
  refine Jp.split 15 rfl (fun g15=>?_) (fun g15=>?_)
  ·skip
   try simp only [sG0] at g15
   refine Jp.y 16 rfl (qab rfl rfl rfl rfl) rfl rfl Kp.true (Y.move rfl rfl) ?_
   refine Jp.y 17 rfl (qab rfl rfl rfl rfl) rfl rfl Kp.true (Y.eql rfl rfl rfl) ?_
   refine Jp.y 18 rfl (qaa rfl) rfl rfl Kp.true (Y.qav rfl rfl rfl) ?_
   refine Jp.y 12 rfl (qaa rfl) rfl rfl Kp.true (Y.assign rfl rfl) ?_
   refine Jp.qae hK24 ?_
   refine Cd.qar rfl (fun g12=>?_) (fun g12=>?_)
   ·skip
    try simp only [sG0] at g12
    refine Cd.seq fun K25 hK25=>?_
    refine Cd.qac [(0,false)] rfl rfl ?_
    refine Jp.y 4 rfl (qaa rfl) rfl rfl Kp.true (Y.assign rfl rfl) ?_
    refine Jp.qae hK25 ?_
    refine Cd.ret [] rfl (qbd rfl rfl) trivial ⟨rfl,congrArg (Value.int .i64) (by (unfold immKP; repeat first | rfl | rw [if_pos (by omega)] | rw [if_neg (by omega)])),rfl⟩
   ·skip
    try simp only [sG0] at g12
    refine Cd.seq fun K26 hK26=>?_
    refine Cd.qac [(0,false),(1,false),(2,false),(3,false),(4,false),(5,false),(6,false)] rfl rfl ?_
    refine Jp.y 20 rfl (qaa rfl) rfl rfl Kp.true (Y.move rfl rfl) ?_
    refine Jp.y 21 rfl (qaa rfl) rfl rfl Kp.true (Y.eql rfl rfl rfl) ?_
    refine Jp.y 22 rfl (qaa rfl) rfl rfl Kp.true (Y.move rfl rfl) ?_
    refine Jp.split 22 rfl (fun g22=>?_) (fun g22=>?_)
    ·skip
     try simp only [sG0] at g22
     refine Jp.y 23 rfl (qab rfl rfl rfl rfl) rfl rfl Kp.true (Y.move rfl rfl) ?_
     refine Jp.y 24 rfl (qab rfl rfl rfl rfl) rfl rfl Kp.true (Y.eql rfl rfl rfl) ?_
     refine Jp.y 25 rfl (qaa rfl) rfl rfl Kp.true (Y.qav rfl rfl rfl) ?_
     refine Jp.y 19 rfl (qaa rfl) rfl rfl Kp.true (Y.assign rfl rfl) ?_
     refine Jp.qae hK26 ?_
     refine Cd.qar rfl (fun g19=>?_) (fun g19=>?_)
     ·skip
      try simp only [sG0] at g19
      refine Cd.seq fun K27 hK27=>?_
      refine Cd.qac [(0,false)] rfl rfl ?_
      refine Jp.y 4 rfl (qaa rfl) rfl rfl Kp.true (Y.assign rfl rfl) ?_
      refine Jp.qae hK27 ?_
      refine Cd.ret [] rfl (qbd rfl rfl) trivial ⟨rfl,congrArg (Value.int .i64) (by (unfold immKP; repeat first | rfl | rw [if_pos (by omega)] | rw [if_neg (by omega)])),rfl⟩
     ·skip
      try simp only [sG0] at g19
      refine Cd.over rfl hK11 ?_
      refine Cd.seq fun K28 hK28=>?_
      refine Cd.qac [(0,false),(1,false),(2,false),(3,false)] rfl rfl ?_
      refine Jp.y 26 rfl (qaa rfl) rfl rfl Kp.true (Y.array [(0,_),(1,_),(2,_),(3,_),(4,_),(5,_),(6,_),(7,_)] [_,_,_,_,_,_,_,_] rfl rfl underlying188 sizeOf3 zeroValue188 rfl) ?_
      refine Jp.y 27 rfl (qaa rfl) rfl rfl Kp.true (Y.move rfl rfl) ?_
      refine Jp.y 28 rfl (qaa rfl) rfl rfl Kp.true (Y.qcm (v:=.int .i64 (([19,0,20,21,22,0,23,24].getD f 0 : Nat) : Int)) rfl underlying188 sizeOf3 isAgg3 rfl rfl (by omega) (by omega) hidx) ?_
      refine Jp.y 4 rfl (qaa rfl) rfl rfl Kp.true (Y.assign rfl rfl) ?_
      refine Jp.qae hK28 ?_
      refine Cd.ret [] rfl (qbd rfl rfl) trivial ⟨rfl,congrArg (Value.int .i64) (by unfold immKP; rw [if_neg (by omega),if_neg (by omega),if_neg (by omega)]),rfl⟩
    ·skip
     try simp only [sG0] at g22
     refine Jp.qaq 23 rfl (qab rfl rfl rfl rfl) rfl rfl Kp.true ?_
     refine Jp.qaq 24 rfl (qab rfl rfl rfl rfl) rfl rfl Kp.true ?_
     refine Jp.y 25 rfl (qaa rfl) rfl rfl Kp.true (Y.qay rfl rfl rfl) ?_
     refine Jp.y 19 rfl (qaa rfl) rfl rfl Kp.true (Y.assign rfl rfl) ?_
     refine Jp.qae hK26 ?_
     refine Cd.qbz rfl ?_
     refine Cd.over rfl hK11 ?_
     refine Cd.seq fun K29 hK29=>?_
     refine Cd.qac [(0,false),(1,false),(2,false),(3,false)] rfl rfl ?_
     refine Jp.y 26 rfl (qaa rfl) rfl rfl Kp.true (Y.array [(0,_),(1,_),(2,_),(3,_),(4,_),(5,_),(6,_),(7,_)] [_,_,_,_,_,_,_,_] rfl rfl underlying188 sizeOf3 zeroValue188 rfl) ?_
     refine Jp.y 27 rfl (qaa rfl) rfl rfl Kp.true (Y.move rfl rfl) ?_
     refine Jp.y 28 rfl (qaa rfl) rfl rfl Kp.true (Y.qcm (v:=.int .i64 (([19,0,20,21,22,0,23,24].getD f 0 : Nat) : Int)) rfl underlying188 sizeOf3 isAgg3 rfl rfl (by omega) (by omega) hidx) ?_
     refine Jp.y 4 rfl (qaa rfl) rfl rfl Kp.true (Y.assign rfl rfl) ?_
     refine Jp.qae hK29 ?_
     refine Cd.ret [] rfl (qbd rfl rfl) trivial ⟨rfl,congrArg (Value.int .i64) (by unfold immKP; rw [if_neg (by omega),if_neg (by omega),if_neg (by omega)]),rfl⟩
  ·skip
   try simp only [sG0] at g15
   refine Jp.qaq 16 rfl (qab rfl rfl rfl rfl) rfl rfl Kp.true ?_
   refine Jp.qaq 17 rfl (qab rfl rfl rfl rfl) rfl rfl Kp.true ?_
   refine Jp.y 18 rfl (qaa rfl) rfl rfl Kp.true (Y.qay rfl rfl rfl) ?_
   refine Jp.y 12 rfl (qaa rfl) rfl rfl Kp.true (Y.assign rfl rfl) ?_
   refine Jp.qae hK24 ?_
   refine Cd.qbz rfl ?_
   refine Cd.seq fun K30 hK30=>?_
   refine Cd.qac [(0,false),(1,false),(2,false),(3,false),(4,false),(5,false),(6,false)] rfl rfl ?_
   refine Jp.y 20 rfl (qaa rfl) rfl rfl Kp.true (Y.move rfl rfl) ?_
   refine Jp.y 21 rfl (qaa rfl) rfl rfl Kp.true (Y.eql rfl rfl rfl) ?_
   refine Jp.y 22 rfl (qaa rfl) rfl rfl Kp.true (Y.move rfl rfl) ?_
   refine Jp.split 22 rfl (fun g22=>?_) (fun g22=>?_)
   ·skip
    try simp only [sG0] at g22
    refine Jp.y 23 rfl (qab rfl rfl rfl rfl) rfl rfl Kp.true (Y.move rfl rfl) ?_
    refine Jp.y 24 rfl (qab rfl rfl rfl rfl) rfl rfl Kp.true (Y.eql rfl rfl rfl) ?_
    refine Jp.y 25 rfl (qaa rfl) rfl rfl Kp.true (Y.qav rfl rfl rfl) ?_
    refine Jp.y 19 rfl (qaa rfl) rfl rfl Kp.true (Y.assign rfl rfl) ?_
    refine Jp.qae hK30 ?_
    refine Cd.qar rfl (fun g19=>?_) (fun g19=>?_)
    ·skip
     try simp only [sG0] at g19
     refine Cd.seq fun K31 hK31=>?_
     refine Cd.qac [(0,false)] rfl rfl ?_
     refine Jp.y 4 rfl (qaa rfl) rfl rfl Kp.true (Y.assign rfl rfl) ?_
     refine Jp.qae hK31 ?_
     refine Cd.ret [] rfl (qbd rfl rfl) trivial ⟨rfl,congrArg (Value.int .i64) (by (exfalso; omega)),rfl⟩
    ·skip
     try simp only [sG0] at g19
     refine Cd.over rfl hK11 ?_
     refine Cd.seq fun K32 hK32=>?_
     refine Cd.qac [(0,false),(1,false),(2,false),(3,false)] rfl rfl ?_
     refine Jp.y 26 rfl (qaa rfl) rfl rfl Kp.true (Y.array [(0,_),(1,_),(2,_),(3,_),(4,_),(5,_),(6,_),(7,_)] [_,_,_,_,_,_,_,_] rfl rfl underlying188 sizeOf3 zeroValue188 rfl) ?_
     refine Jp.y 27 rfl (qaa rfl) rfl rfl Kp.true (Y.move rfl rfl) ?_
     refine Jp.y 28 rfl (qaa rfl) rfl rfl Kp.true (Y.qcm (v:=.int .i64 (([19,0,20,21,22,0,23,24].getD f 0 : Nat) : Int)) rfl underlying188 sizeOf3 isAgg3 rfl rfl (by omega) (by omega) hidx) ?_
     refine Jp.y 4 rfl (qaa rfl) rfl rfl Kp.true (Y.assign rfl rfl) ?_
     refine Jp.qae hK32 ?_
     refine Cd.ret [] rfl (qbd rfl rfl) trivial ⟨rfl,congrArg (Value.int .i64) (by unfold immKP; rw [if_neg (by omega),if_neg (by omega),if_neg (by omega)]),rfl⟩
   ·skip
    try simp only [sG0] at g22
    refine Jp.qaq 23 rfl (qab rfl rfl rfl rfl) rfl rfl Kp.true ?_
    refine Jp.qaq 24 rfl (qab rfl rfl rfl rfl) rfl rfl Kp.true ?_
    refine Jp.y 25 rfl (qaa rfl) rfl rfl Kp.true (Y.qay rfl rfl rfl) ?_
    refine Jp.y 19 rfl (qaa rfl) rfl rfl Kp.true (Y.assign rfl rfl) ?_
    refine Jp.qae hK30 ?_
    refine Cd.qbz rfl ?_
    refine Cd.over rfl hK11 ?_
    refine Cd.seq fun K33 hK33=>?_
    refine Cd.qac [(0,false),(1,false),(2,false),(3,false)] rfl rfl ?_
    refine Jp.y 26 rfl (qaa rfl) rfl rfl Kp.true (Y.array [(0,_),(1,_),(2,_),(3,_),(4,_),(5,_),(6,_),(7,_)] [_,_,_,_,_,_,_,_] rfl rfl underlying188 sizeOf3 zeroValue188 rfl) ?_
    refine Jp.y 27 rfl (qaa rfl) rfl rfl Kp.true (Y.move rfl rfl) ?_
    refine Jp.y 28 rfl (qaa rfl) rfl rfl Kp.true (Y.qcm (v:=.int .i64 (([19,0,20,21,22,0,23,24].getD f 0 : Nat) : Int)) rfl underlying188 sizeOf3 isAgg3 rfl rfl (by omega) (by omega) hidx) ?_
    refine Jp.y 4 rfl (qaa rfl) rfl rfl Kp.true (Y.assign rfl rfl) ?_
    refine Jp.qae hK33 ?_
    refine Cd.ret [] rfl (qbd rfl rfl) trivial ⟨rfl,congrArg (Value.int .i64) (by unfold immKP; rw [if_neg (by omega),if_neg (by omega),if_neg (by omega)]),rfl⟩
theorem qfo (w : Nat) : Spec Tryz.prog 97 #[.int .u32 w] (fun _=>True) [] (fun ρ ρ' v L=>ρ' = ρ ∧ v = .int .i64 ((systemP w : Nat) : Int) ∧ L = []):=by
 refine Spec.of 8 Tryz.func97 rfl Tryz.ntmps97 [(0,_)] rfl rfl ?_
 intro cx ρ hr h0
 refine Cd.seq fun K34 hK34=>?_
 refine Cd.qac [(0,false)] rfl rfl ?_
 refine Jp.y 2 rfl (qaa rfl) rfl rfl Kp.true (Y.assign rfl rfl) ?_
 refine Jp.qae hK34 ?_
 refine Cd.seq fun K35 hK35=>?_
 refine Cd.seq fun K36 hK36=>?_
 refine Cd.qac [(0,false)] rfl rfl ?_
 refine Jp.y 3 rfl (qaa rfl) rfl rfl Kp.true (Y.move rfl rfl) ?_
 refine Jp.qae hK36 ?_
 refine Cd.block ?_
 refine Cd.seq fun K37 hK37=>?_
 refine Cd.qac [(0,false),(1,false)] rfl rfl ?_
 refine Jp.y 5 rfl (qaa rfl) rfl rfl Kp.true (Y.eql rfl rfl rfl) ?_
 refine Jp.y 4 rfl (qaa rfl) rfl rfl Kp.true (Y.assign rfl rfl) ?_
 refine Jp.qae hK37 ?_
 refine Cd.qar rfl (fun g4=>?_) (fun g4=>?_)
 ·skip
  try simp only [sG0] at g4
  refine Cd.seq fun K38 hK38=>?_
  refine Cd.qac [(0,false)] rfl rfl ?_
  refine Jp.y 2 rfl (qaa rfl) rfl rfl Kp.true (Y.assign rfl rfl) ?_
  refine Jp.qae hK38 ?_
  refine Cd.ret [] rfl (qbd rfl rfl) trivial ⟨rfl,congrArg (Value.int .i64) (by (unfold systemP; repeat first | rfl | rw [if_pos (by omega)] | rw [if_neg (by omega)])),rfl⟩
 ·skip
  try simp only [sG0] at g4
  refine Cd.seq fun K39 hK39=>?_
  refine Cd.qac [(0,false),(1,false)] rfl rfl ?_
  refine Jp.y 7 rfl (qaa rfl) rfl rfl Kp.true (Y.eql rfl rfl rfl) ?_
  refine Jp.y 6 rfl (qaa rfl) rfl rfl Kp.true (Y.assign rfl rfl) ?_
  refine Jp.qae hK39 ?_
  refine Cd.qar rfl (fun g6=>?_) (fun g6=>?_)
  ·skip
   try simp only [sG0] at g6
   refine Cd.seq fun K40 hK40=>?_
   refine Cd.qac [(0,false)] rfl rfl ?_
   refine Jp.y 2 rfl (qaa rfl) rfl rfl Kp.true (Y.assign rfl rfl) ?_
   refine Jp.qae hK40 ?_
   refine Cd.ret [] rfl (qbd rfl rfl) trivial ⟨rfl,congrArg (Value.int .i64) (by (unfold systemP; repeat first | rfl | rw [if_pos (by omega)] | rw [if_neg (by omega)])),rfl⟩
  ·skip
   try simp only [sG0] at g6
   refine Cd.over rfl hK35 ?_
   refine Cd.seq fun K41 hK41=>?_
   refine Cd.qac [(0,false)] rfl rfl ?_
   refine Jp.y 2 rfl (qaa rfl) rfl rfl Kp.true (Y.assign rfl rfl) ?_
   refine Jp.qae hK41 ?_
   refine Cd.ret [] rfl (qbd rfl rfl) trivial ⟨rfl,congrArg (Value.int .i64) (by (unfold systemP; repeat first | rfl | rw [if_pos (by omega)] | rw [if_neg (by omega)])),rfl⟩
theorem regK_spec (f top : Nat) (hf : f < 8) (ht : top < 128) : Spec Tryz.prog 96 #[.int .i64 f,.int .i64 top] (fun _=>True) [] (fun ρ ρ' v L=>ρ' = ρ ∧ v = .int .i64 ((regKP f top : Nat) : Int) ∧ L = []):=by
 refine Spec.of 30 Tryz.func96 rfl Tryz.ntmps96 [(0,_),(1,_)] rfl rfl ?_
 intro cx ρ hr h0
 have hidx : (#[Value.int .i64 28,Value.int .i64 30,Value.int .i64 31,Value.int .i64 32,Value.int .i64 33,Value.int .i64 34,Value.int .i64 36,Value.int .i64 37] : Array Value)[(f : Int).toNat * 1]? = some (.int .i64 (([28,30,31,32,33,34,36,37].getD f 0 : Nat) : Int)):=by
  rcases (show f = 0 ∨ f = 1 ∨ f = 2 ∨ f = 3 ∨ f = 4 ∨ f = 5 ∨ f = 6 ∨ f = 7 by omega) with rfl | rfl | rfl | rfl | rfl | rfl | rfl | rfl <;> rfl
 refine Cd.seq fun K42 hK42=>?_
 refine Cd.qac [(0,false)] rfl rfl ?_
 refine Jp.y 4 rfl (qaa rfl) rfl rfl Kp.true (Y.assign rfl rfl) ?_
 refine Jp.qae hK42 ?_
 refine Cd.seq fun K43 hK43=>?_
 refine Cd.block ?_
 refine Cd.seq fun K44 hK44=>?_
 refine Cd.qac [(0,false),(1,false),(2,false)] rfl rfl ?_
 refine Jp.y 6 rfl (qaa rfl) rfl rfl Kp.true (Y.move rfl rfl) ?_
 refine Jp.y 7 rfl (qaa rfl) rfl rfl Kp.true (Y.eql rfl rfl rfl) ?_
 refine Jp.y 5 rfl (qaa rfl) rfl rfl Kp.true (Y.assign rfl rfl) ?_
 refine Jp.qae hK44 ?_
 refine Cd.qar rfl (fun g5=>?_) (fun g5=>?_)
 ·skip
  try simp only [sG0] at g5
  refine Cd.seq fun K45 hK45=>?_
  refine Cd.qac [(0,false),(1,false),(2,false),(3,false)] rfl rfl ?_
  refine Jp.y 8 rfl (qaa rfl) rfl rfl Kp.true (Y.array [(0,_),(1,_),(2,_),(3,_),(4,_),(5,_),(6,_),(7,_)] [_,_,_,_,_,_,_,_] rfl rfl underlying188 sizeOf3 zeroValue188 rfl) ?_
  refine Jp.y 9 rfl (qaa rfl) rfl rfl Kp.true (Y.move rfl rfl) ?_
  refine Jp.y 10 rfl (qaa rfl) rfl rfl Kp.true (Y.qcm (v:=.int .i64 (([28,30,31,32,33,34,36,37].getD f 0 : Nat) : Int)) rfl underlying188 sizeOf3 isAgg3 rfl rfl (by omega) (by omega) hidx) ?_
  refine Jp.y 4 rfl (qaa rfl) rfl rfl Kp.true (Y.assign rfl rfl) ?_
  refine Jp.qae hK45 ?_
  refine Cd.ret [] rfl (qbd rfl rfl) trivial ⟨rfl,congrArg (Value.int .i64) (by unfold regKP; rw [if_pos (by omega)]),rfl⟩
 ·skip
  try simp only [sG0] at g5
  refine Cd.seq fun K46 hK46=>?_
  refine Cd.qac [(0,false),(1,false),(2,false)] rfl rfl ?_
  refine Jp.y 12 rfl (qaa rfl) rfl rfl Kp.true (Y.move rfl rfl) ?_
  refine Jp.y 13 rfl (qaa rfl) rfl rfl Kp.true (Y.eql rfl rfl rfl) ?_
  refine Jp.y 11 rfl (qaa rfl) rfl rfl Kp.true (Y.assign rfl rfl) ?_
  refine Jp.qae hK46 ?_
  refine Cd.qar rfl (fun g11=>?_) (fun g11=>?_)
  ·skip
   try simp only [sG0] at g11
   refine Cd.seq fun K47 hK47=>?_
   refine Cd.qac [(0,false),(1,false),(2,false)] rfl rfl ?_
   refine Jp.y 14 rfl (qaa rfl) rfl rfl Kp.true (Y.move rfl rfl) ?_
   refine Jp.y 15 rfl (qaa rfl) rfl rfl Kp.true (Y.qcj rfl rfl rfl (by exact qaj (by omega) (by omega))) ?_
   refine Jp.y 4 rfl (qaa rfl) rfl rfl Kp.true (Y.assign rfl rfl) ?_
   refine Jp.qae hK47 ?_
   refine Cd.ret [] rfl (qbd rfl rfl) trivial ⟨rfl,congrArg (Value.int .i64) (by (unfold regKP; repeat first | rfl | rw [if_pos (by omega)] | rw [if_neg (by omega)])),rfl⟩
  ·skip
   try simp only [sG0] at g11
   refine Cd.seq fun K48 hK48=>?_
   refine Cd.qac [(0,false),(1,false),(2,false),(3,false),(4,false),(5,false),(6,false)] rfl rfl ?_
   refine Jp.y 17 rfl (qaa rfl) rfl rfl Kp.true (Y.move rfl rfl) ?_
   refine Jp.y 18 rfl (qaa rfl) rfl rfl Kp.true (Y.eql rfl rfl rfl) ?_
   refine Jp.y 19 rfl (qaa rfl) rfl rfl Kp.true (Y.move rfl rfl) ?_
   refine Jp.split 19 rfl (fun g19=>?_) (fun g19=>?_)
   ·skip
    try simp only [sG0] at g19
    refine Jp.y 20 rfl (qab rfl rfl rfl rfl) rfl rfl Kp.true (Y.move rfl rfl) ?_
    refine Jp.y 21 rfl (qab rfl rfl rfl rfl) rfl rfl Kp.true (Y.eql rfl rfl rfl) ?_
    refine Jp.y 22 rfl (qaa rfl) rfl rfl Kp.true (Y.qav rfl rfl rfl) ?_
    refine Jp.y 16 rfl (qaa rfl) rfl rfl Kp.true (Y.assign rfl rfl) ?_
    refine Jp.qae hK48 ?_
    refine Cd.qar rfl (fun g16=>?_) (fun g16=>?_)
    ·skip
     try simp only [sG0] at g16
     refine Cd.seq fun K49 hK49=>?_
     refine Cd.qac [(0,false)] rfl rfl ?_
     refine Jp.y 4 rfl (qaa rfl) rfl rfl Kp.true (Y.assign rfl rfl) ?_
     refine Jp.qae hK49 ?_
     refine Cd.ret [] rfl (qbd rfl rfl) trivial ⟨rfl,congrArg (Value.int .i64) (by (unfold regKP; repeat first | rfl | rw [if_pos (by omega)] | rw [if_neg (by omega)])),rfl⟩
    ·skip
     try simp only [sG0] at g16
     refine Cd.seq fun K50 hK50=>?_
     refine Cd.qac [(0,false),(1,false),(2,false),(3,false),(4,false),(5,false),(6,false)] rfl rfl ?_
     refine Jp.y 24 rfl (qaa rfl) rfl rfl Kp.true (Y.move rfl rfl) ?_
     refine Jp.y 25 rfl (qaa rfl) rfl rfl Kp.true (Y.eql rfl rfl rfl) ?_
     refine Jp.y 26 rfl (qaa rfl) rfl rfl Kp.true (Y.move rfl rfl) ?_
     refine Jp.split 26 rfl (fun g26=>?_) (fun g26=>?_)
     ·skip
      try simp only [sG0] at g26
      refine Jp.y 27 rfl (qab rfl rfl rfl rfl) rfl rfl Kp.true (Y.move rfl rfl) ?_
      refine Jp.y 28 rfl (qab rfl rfl rfl rfl) rfl rfl Kp.true (Y.eql rfl rfl rfl) ?_
      refine Jp.y 29 rfl (qaa rfl) rfl rfl Kp.true (Y.qav rfl rfl rfl) ?_
      refine Jp.y 23 rfl (qaa rfl) rfl rfl Kp.true (Y.assign rfl rfl) ?_
      refine Jp.qae hK50 ?_
      refine Cd.qar rfl (fun g23=>?_) (fun g23=>?_)
      ·skip
       try simp only [sG0] at g23
       refine Cd.seq fun K51 hK51=>?_
       refine Cd.qac [(0,false)] rfl rfl ?_
       refine Jp.y 4 rfl (qaa rfl) rfl rfl Kp.true (Y.assign rfl rfl) ?_
       refine Jp.qae hK51 ?_
       refine Cd.ret [] rfl (qbd rfl rfl) trivial ⟨rfl,congrArg (Value.int .i64) (by (unfold regKP; repeat first | rfl | rw [if_pos (by omega)] | rw [if_neg (by omega)])),rfl⟩
      ·skip
       try simp only [sG0] at g23
       refine Cd.over rfl hK43 ?_
       refine Cd.seq fun K52 hK52=>?_
       refine Cd.qac [(0,false)] rfl rfl ?_
       refine Jp.y 4 rfl (qaa rfl) rfl rfl Kp.true (Y.assign rfl rfl) ?_
       refine Jp.qae hK52 ?_
       refine Cd.ret [] rfl (qbd rfl rfl) trivial ⟨rfl,congrArg (Value.int .i64) (by (unfold regKP; repeat first | rfl | rw [if_pos (by omega)] | rw [if_neg (by omega)])),rfl⟩
     ·skip
      try simp only [sG0] at g26
      refine Jp.qaq 27 rfl (qab rfl rfl rfl rfl) rfl rfl Kp.true ?_
      refine Jp.qaq 28 rfl (qab rfl rfl rfl rfl) rfl rfl Kp.true ?_
      refine Jp.y 29 rfl (qaa rfl) rfl rfl Kp.true (Y.qay rfl rfl rfl) ?_
      refine Jp.y 23 rfl (qaa rfl) rfl rfl Kp.true (Y.assign rfl rfl) ?_
      refine Jp.qae hK50 ?_
      refine Cd.qbz rfl ?_
      refine Cd.over rfl hK43 ?_
      refine Cd.seq fun K53 hK53=>?_
      refine Cd.qac [(0,false)] rfl rfl ?_
      refine Jp.y 4 rfl (qaa rfl) rfl rfl Kp.true (Y.assign rfl rfl) ?_
      refine Jp.qae hK53 ?_
      refine Cd.ret [] rfl (qbd rfl rfl) trivial ⟨rfl,congrArg (Value.int .i64) (by (exfalso; omega)),rfl⟩
   ·skip
    try simp only [sG0] at g19
    refine Jp.qaq 20 rfl (qab rfl rfl rfl rfl) rfl rfl Kp.true ?_
    refine Jp.qaq 21 rfl (qab rfl rfl rfl rfl) rfl rfl Kp.true ?_
    refine Jp.y 22 rfl (qaa rfl) rfl rfl Kp.true (Y.qay rfl rfl rfl) ?_
    refine Jp.y 16 rfl (qaa rfl) rfl rfl Kp.true (Y.assign rfl rfl) ?_
    refine Jp.qae hK48 ?_
    refine Cd.qbz rfl ?_
    refine Cd.seq fun K54 hK54=>?_
    refine Cd.qac [(0,false),(1,false),(2,false),(3,false),(4,false),(5,false),(6,false)] rfl rfl ?_
    refine Jp.y 24 rfl (qaa rfl) rfl rfl Kp.true (Y.move rfl rfl) ?_
    refine Jp.y 25 rfl (qaa rfl) rfl rfl Kp.true (Y.eql rfl rfl rfl) ?_
    refine Jp.y 26 rfl (qaa rfl) rfl rfl Kp.true (Y.move rfl rfl) ?_
    refine Jp.split 26 rfl (fun g26=>?_) (fun g26=>?_)
    ·skip
     try simp only [sG0] at g26
     refine Jp.y 27 rfl (qab rfl rfl rfl rfl) rfl rfl Kp.true (Y.move rfl rfl) ?_
     refine Jp.y 28 rfl (qab rfl rfl rfl rfl) rfl rfl Kp.true (Y.eql rfl rfl rfl) ?_
     refine Jp.y 29 rfl (qaa rfl) rfl rfl Kp.true (Y.qav rfl rfl rfl) ?_
     refine Jp.y 23 rfl (qaa rfl) rfl rfl Kp.true (Y.assign rfl rfl) ?_
     refine Jp.qae hK54 ?_
     refine Cd.qar rfl (fun g23=>?_) (fun g23=>?_)
     ·skip
      try simp only [sG0] at g23
      refine Cd.seq fun K55 hK55=>?_
      refine Cd.qac [(0,false)] rfl rfl ?_
      refine Jp.y 4 rfl (qaa rfl) rfl rfl Kp.true (Y.assign rfl rfl) ?_
      refine Jp.qae hK55 ?_
      refine Cd.ret [] rfl (qbd rfl rfl) trivial ⟨rfl,congrArg (Value.int .i64) (by (exfalso; omega)),rfl⟩
     ·skip
      try simp only [sG0] at g23
      refine Cd.over rfl hK43 ?_
      refine Cd.seq fun K56 hK56=>?_
      refine Cd.qac [(0,false)] rfl rfl ?_
      refine Jp.y 4 rfl (qaa rfl) rfl rfl Kp.true (Y.assign rfl rfl) ?_
      refine Jp.qae hK56 ?_
      refine Cd.ret [] rfl (qbd rfl rfl) trivial ⟨rfl,congrArg (Value.int .i64) (by (exfalso; omega)),rfl⟩
    ·skip
     try simp only [sG0] at g26
     refine Jp.qaq 27 rfl (qab rfl rfl rfl rfl) rfl rfl Kp.true ?_
     refine Jp.qaq 28 rfl (qab rfl rfl rfl rfl) rfl rfl Kp.true ?_
     refine Jp.y 29 rfl (qaa rfl) rfl rfl Kp.true (Y.qay rfl rfl rfl) ?_
     refine Jp.y 23 rfl (qaa rfl) rfl rfl Kp.true (Y.assign rfl rfl) ?_
     refine Jp.qae hK54 ?_
     refine Cd.qbz rfl ?_
     refine Cd.over rfl hK43 ?_
     refine Cd.seq fun K57 hK57=>?_
     refine Cd.qac [(0,false)] rfl rfl ?_
     refine Jp.y 4 rfl (qaa rfl) rfl rfl Kp.true (Y.assign rfl rfl) ?_
     refine Jp.qae hK57 ?_
     refine Cd.ret [] rfl (qbd rfl rfl) trivial ⟨rfl,congrArg (Value.int .i64) (by (unfold regKP; repeat first | rfl | rw [if_pos (by omega)] | rw [if_neg (by omega)])),rfl⟩
def kindP (w : Nat) : Nat :=
 if w % 128 = 55 then 1 else if w % 128 = 23 then 2 else if w % 128 = 111 then 3 else
 if w % 128 = 103 then (if w / 2 ^ 12 % 2 ^ 3 = 0 then 4 else systemP w) else
 if w % 128 = 99 then branchP (w / 2 ^ 12 % 2 ^ 3) else if w % 128 = 3 then loadP (w / 2 ^ 12 % 2 ^ 3) else if w % 128 = 35 then storeP (w / 2 ^ 12 % 2 ^ 3) else
 if w % 128 = 19 then immKP (w / 2 ^ 12 % 2 ^ 3) (w / 2 ^ 25 % 2 ^ 7) else if w % 128 = 51 then regKP (w / 2 ^ 12 % 2 ^ 3) (w / 2 ^ 25 % 2 ^ 7) else
 if w % 128 = 15 then (if w / 2 ^ 12 % 2 ^ 3 < 2 then 46 + w / 2 ^ 12 % 2 ^ 3 else systemP w) else systemP w
theorem kindOf_spec (w : Nat) (hw : w < 4294967296) : Spec Tryz.prog 72 #[.int .u32 w] (fun _=>True) [] (fun ρ ρ' v L=>ρ' = ρ ∧ v = .int .i64 ((kindP w : Nat) : Int) ∧ L = []):=by
 refine Spec.of 51 Tryz.func72 rfl Tryz.ntmps72 [(0,_)] rfl rfl ?_
 intro cx ρ hr h0
 have hm : qci .and .u32 (w : Int) ((127 : Nat) : Int) = ((w % 128 : Nat) : Int):=by rw [qdx hw (by omega),show 127 = 2 ^ 7 - 1 from rfl,Nat.and_two_pow_sub_one_eq_mod]
 refine Cd.seq fun K58 hK58=>?_
 refine Cd.qac [(0,false)] rfl rfl ?_
 refine Jp.y 2 rfl (qaa rfl) rfl rfl Kp.true (Y.assign rfl rfl) ?_
 refine Jp.qae hK58 ?_
 refine Cd.seq fun K59 hK59=>?_
 refine Cd.qac [(0,false),(1,false),(2,false),(3,false),(4,false),(5,false)] rfl rfl ?_
 refine Jp.y 5 rfl (qaa rfl) rfl rfl Kp.true (Y.move rfl rfl) ?_
 refine Jp.call [] [] (qcc w 12 3 hw (by omega) (by omega)) 6 rfl (qaa rfl) rfl rfl (Runs.fn rfl call73 rfl) (by decide) (by decide) rfl trivial ?_
 rintro v1 ρ1 L1 ⟨rfl,rfl,rfl⟩
 refine ⟨rfl,fun hle1=>⟨Kp.true,?_⟩⟩
 refine Jp.y 7 rfl (qaa rfl) rfl rfl Kp.true (Y.move rfl rfl) ?_
 refine Jp.call [] [] (qcc w 25 7 hw (by omega) (by omega)) 8 rfl (qaa rfl) rfl rfl (Runs.fn rfl call73 rfl) (by decide) (by decide) rfl trivial ?_
 rintro v2 ρ2 L2 ⟨rfl,rfl,rfl⟩
 refine ⟨rfl,fun hle2=>⟨Kp.true,?_⟩⟩
 obtain ⟨f,hf⟩ : ∃ f,w / 2 ^ 12 % 2 ^ 3 = f:=⟨_,rfl⟩
 obtain ⟨top,ht⟩ : ∃ top,w / 2 ^ 25 % 2 ^ 7 = top:=⟨_,rfl⟩
 obtain ⟨c,hc⟩ : ∃ c,w % 128 = c:=⟨_,rfl⟩
 have hf8 : f < 8:=by rw [← hf]; exact Nat.mod_lt _ (by decide)
 have ht8 : top < 128:=by rw [← ht]; exact Nat.mod_lt _ (by decide)
 have hK : kindP w = if c = 55 then 1 else if c = 23 then 2 else if c = 111 then 3 else
   if c = 103 then (if f = 0 then 4 else systemP w) else
   if c = 99 then branchP f else if c = 3 then loadP f else if c = 35 then storeP f else
   if c = 19 then immKP f top else if c = 51 then regKP f top else
   if c = 15 then (if f < 2 then 46 + f else systemP w) else systemP w:=by rw [← hf,← ht,← hc]; rfl
 rw [hf,ht]
 rw [hc] at hm
 refine Jp.y 3 rfl (qaa rfl) rfl rfl Kp.true (Y.assign rfl rfl) ?_
 refine Jp.y 4 rfl (qaa rfl) rfl rfl Kp.true (Y.assign rfl rfl) ?_
 refine Jp.qae hK59 ?_
 refine Cd.seq fun K60 hK60=>?_
 refine Cd.seq fun K61 hK61=>?_
 refine Cd.qac [(0,false),(1,false)] rfl rfl ?_
 refine Jp.y 9 rfl (qaa rfl) rfl rfl Kp.true (Y.move rfl rfl) ?_
 refine Jp.y 10 rfl (qaa rfl) rfl rfl Kp.true (Y.bits rfl rfl rfl rfl) ?_
 refine Jp.qae hK61 ?_
 refine Cd.block ?_
 refine Cd.seq fun K62 hK62=>?_
 refine Cd.qac [(0,false),(1,false)] rfl rfl ?_
 refine Jp.slot 10 rfl (show _ = Value.int .u32 (c : Int) from congrArg (Value.int .u32) hm) ?_
 refine Jp.y 12 rfl (qaa rfl) rfl rfl Kp.true (Y.eql rfl rfl rfl) ?_
 refine Jp.y 11 rfl (qaa rfl) rfl rfl Kp.true (Y.assign rfl rfl) ?_
 refine Jp.qae hK62 ?_
 refine Cd.qar rfl (fun g11=>?_) (fun g11=>?_)
 ·skip
  try simp only [sG0] at g11
  refine Cd.seq fun K63 hK63=>?_
  refine Cd.qac [(0,false)] rfl rfl ?_
  refine Jp.y 2 rfl (qaa rfl) rfl rfl Kp.true (Y.assign rfl rfl) ?_
  refine Jp.qae hK63 ?_
  refine Cd.ret [] rfl (qbd rfl rfl) trivial ⟨rfl,congrArg (Value.int .i64) (by (rw [hK]; repeat first | rfl | omega | rw [if_pos (by omega)] | rw [if_neg (by omega)])),rfl⟩
 ·skip
  try simp only [sG0] at g11
  refine Cd.seq fun K64 hK64=>?_
  refine Cd.qac [(0,false),(1,false)] rfl rfl ?_
  refine Jp.y 14 rfl (qaa rfl) rfl rfl Kp.true (Y.eql rfl rfl rfl) ?_
  refine Jp.y 13 rfl (qaa rfl) rfl rfl Kp.true (Y.assign rfl rfl) ?_
  refine Jp.qae hK64 ?_
  refine Cd.qar rfl (fun g13=>?_) (fun g13=>?_)
  ·skip
   try simp only [sG0] at g13
   refine Cd.seq fun K65 hK65=>?_
   refine Cd.qac [(0,false)] rfl rfl ?_
   refine Jp.y 2 rfl (qaa rfl) rfl rfl Kp.true (Y.assign rfl rfl) ?_
   refine Jp.qae hK65 ?_
   refine Cd.ret [] rfl (qbd rfl rfl) trivial ⟨rfl,congrArg (Value.int .i64) (by (rw [hK]; repeat first | rfl | omega | rw [if_pos (by omega)] | rw [if_neg (by omega)])),rfl⟩
  ·skip
   try simp only [sG0] at g13
   refine Cd.seq fun K66 hK66=>?_
   refine Cd.qac [(0,false),(1,false)] rfl rfl ?_
   refine Jp.y 16 rfl (qaa rfl) rfl rfl Kp.true (Y.eql rfl rfl rfl) ?_
   refine Jp.y 15 rfl (qaa rfl) rfl rfl Kp.true (Y.assign rfl rfl) ?_
   refine Jp.qae hK66 ?_
   refine Cd.qar rfl (fun g15=>?_) (fun g15=>?_)
   ·skip
    try simp only [sG0] at g15
    refine Cd.seq fun K67 hK67=>?_
    refine Cd.qac [(0,false)] rfl rfl ?_
    refine Jp.y 2 rfl (qaa rfl) rfl rfl Kp.true (Y.assign rfl rfl) ?_
    refine Jp.qae hK67 ?_
    refine Cd.ret [] rfl (qbd rfl rfl) trivial ⟨rfl,congrArg (Value.int .i64) (by (rw [hK]; repeat first | rfl | omega | rw [if_pos (by omega)] | rw [if_neg (by omega)])),rfl⟩
   ·skip
    try simp only [sG0] at g15
    refine Cd.seq fun K68 hK68=>?_
    refine Cd.qac [(0,false),(1,false)] rfl rfl ?_
    refine Jp.y 18 rfl (qaa rfl) rfl rfl Kp.true (Y.eql rfl rfl rfl) ?_
    refine Jp.y 17 rfl (qaa rfl) rfl rfl Kp.true (Y.assign rfl rfl) ?_
    refine Jp.qae hK68 ?_
    refine Cd.qar rfl (fun g17=>?_) (fun g17=>?_)
    ·skip
     try simp only [sG0] at g17
     refine Cd.seq fun K69 hK69=>?_
     refine Cd.qac [(0,false),(1,false)] rfl rfl ?_
     refine Jp.y 19 rfl (qaa rfl) rfl rfl Kp.true (Y.move rfl rfl) ?_
     refine Jp.y 20 rfl (qaa rfl) rfl rfl Kp.true (Y.eql rfl rfl rfl) ?_
     refine Jp.qae hK69 ?_
     refine Cd.qar rfl (fun g20=>?_) (fun g20=>?_)
     ·skip
      try simp only [sG0] at g20
      refine Cd.seq fun K70 hK70=>?_
      refine Cd.qac [(0,false)] rfl rfl ?_
      refine Jp.y 2 rfl (qaa rfl) rfl rfl Kp.true (Y.assign rfl rfl) ?_
      refine Jp.qae hK70 ?_
      refine Cd.ret [] rfl (qbd rfl rfl) trivial ⟨rfl,congrArg (Value.int .i64) (by (rw [hK]; repeat first | rfl | omega | rw [if_pos (by omega)] | rw [if_neg (by omega)])),rfl⟩
     ·skip
      try simp only [sG0] at g20
      refine Cd.over rfl hK60 ?_
      refine Cd.seq fun K71 hK71=>?_
      refine Cd.qac [(0,false),(1,false),(2,false)] rfl rfl ?_
      refine Jp.y 49 rfl (qaa rfl) rfl rfl Kp.true (Y.move rfl rfl) ?_
      refine Jp.call [] [] (qfo w) 50 rfl (qaa rfl) rfl rfl (Runs.fn rfl call97 rfl) (by decide) (by decide) rfl trivial ?_
      rintro v101 ρ101 L101 ⟨rfl,rfl,rfl⟩
      refine ⟨rfl,fun hle101=>⟨Kp.true,?_⟩⟩
      refine Jp.y 2 rfl (qaa rfl) rfl rfl Kp.true (Y.assign rfl rfl) ?_
      refine Jp.qae hK71 ?_
      refine Cd.ret [] rfl (qbd rfl rfl) trivial ⟨rfl,congrArg (Value.int .i64) (by (rw [hK]; repeat first | rfl | omega | rw [if_pos (by omega)] | rw [if_neg (by omega)])),rfl⟩
    ·skip
     try simp only [sG0] at g17
     refine Cd.seq fun K72 hK72=>?_
     refine Cd.qac [(0,false),(1,false)] rfl rfl ?_
     refine Jp.y 22 rfl (qaa rfl) rfl rfl Kp.true (Y.eql rfl rfl rfl) ?_
     refine Jp.y 21 rfl (qaa rfl) rfl rfl Kp.true (Y.assign rfl rfl) ?_
     refine Jp.qae hK72 ?_
     refine Cd.qar rfl (fun g21=>?_) (fun g21=>?_)
     ·skip
      try simp only [sG0] at g21
      refine Cd.seq fun K73 hK73=>?_
      refine Cd.qac [(0,false),(1,false),(2,false)] rfl rfl ?_
      refine Jp.y 23 rfl (qaa rfl) rfl rfl Kp.true (Y.move rfl rfl) ?_
      refine Jp.call [] [] (branchK_spec f hf8) 24 rfl (qaa rfl) rfl rfl (Runs.fn rfl call92 rfl) (by decide) (by decide) rfl trivial ?_
      rintro v102 ρ102 L102 ⟨rfl,rfl,rfl⟩
      refine ⟨rfl,fun hle102=>⟨Kp.true,?_⟩⟩
      refine Jp.y 2 rfl (qaa rfl) rfl rfl Kp.true (Y.assign rfl rfl) ?_
      refine Jp.qae hK73 ?_
      refine Cd.ret [] rfl (qbd rfl rfl) trivial ⟨rfl,congrArg (Value.int .i64) (by (rw [hK]; repeat first | rfl | omega | rw [if_pos (by omega)] | rw [if_neg (by omega)])),rfl⟩
     ·skip
      try simp only [sG0] at g21
      refine Cd.seq fun K74 hK74=>?_
      refine Cd.qac [(0,false),(1,false)] rfl rfl ?_
      refine Jp.y 26 rfl (qaa rfl) rfl rfl Kp.true (Y.eql rfl rfl rfl) ?_
      refine Jp.y 25 rfl (qaa rfl) rfl rfl Kp.true (Y.assign rfl rfl) ?_
      refine Jp.qae hK74 ?_
      refine Cd.qar rfl (fun g25=>?_) (fun g25=>?_)
      ·skip
       try simp only [sG0] at g25
       refine Cd.seq fun K75 hK75=>?_
       refine Cd.qac [(0,false),(1,false),(2,false)] rfl rfl ?_
       refine Jp.y 27 rfl (qaa rfl) rfl rfl Kp.true (Y.move rfl rfl) ?_
       refine Jp.call [] [] (loadK_spec f hf8) 28 rfl (qaa rfl) rfl rfl (Runs.fn rfl call93 rfl) (by decide) (by decide) rfl trivial ?_
       rintro v103 ρ103 L103 ⟨rfl,rfl,rfl⟩
       refine ⟨rfl,fun hle103=>⟨Kp.true,?_⟩⟩
       refine Jp.y 2 rfl (qaa rfl) rfl rfl Kp.true (Y.assign rfl rfl) ?_
       refine Jp.qae hK75 ?_
       refine Cd.ret [] rfl (qbd rfl rfl) trivial ⟨rfl,congrArg (Value.int .i64) (by (rw [hK]; repeat first | rfl | omega | rw [if_pos (by omega)] | rw [if_neg (by omega)])),rfl⟩
      ·skip
       try simp only [sG0] at g25
       refine Cd.seq fun K76 hK76=>?_
       refine Cd.qac [(0,false),(1,false)] rfl rfl ?_
       refine Jp.y 30 rfl (qaa rfl) rfl rfl Kp.true (Y.eql rfl rfl rfl) ?_
       refine Jp.y 29 rfl (qaa rfl) rfl rfl Kp.true (Y.assign rfl rfl) ?_
       refine Jp.qae hK76 ?_
       refine Cd.qar rfl (fun g29=>?_) (fun g29=>?_)
       ·skip
        try simp only [sG0] at g29
        refine Cd.seq fun K77 hK77=>?_
        refine Cd.qac [(0,false),(1,false),(2,false)] rfl rfl ?_
        refine Jp.y 31 rfl (qaa rfl) rfl rfl Kp.true (Y.move rfl rfl) ?_
        refine Jp.call [] [] (storeK_spec f hf8) 32 rfl (qaa rfl) rfl rfl (Runs.fn rfl call94 rfl) (by decide) (by decide) rfl trivial ?_
        rintro v104 ρ104 L104 ⟨rfl,rfl,rfl⟩
        refine ⟨rfl,fun hle104=>⟨Kp.true,?_⟩⟩
        refine Jp.y 2 rfl (qaa rfl) rfl rfl Kp.true (Y.assign rfl rfl) ?_
        refine Jp.qae hK77 ?_
        refine Cd.ret [] rfl (qbd rfl rfl) trivial ⟨rfl,congrArg (Value.int .i64) (by (rw [hK]; repeat first | rfl | omega | rw [if_pos (by omega)] | rw [if_neg (by omega)])),rfl⟩
       ·skip
        try simp only [sG0] at g29
        refine Cd.seq fun K78 hK78=>?_
        refine Cd.qac [(0,false),(1,false)] rfl rfl ?_
        refine Jp.y 34 rfl (qaa rfl) rfl rfl Kp.true (Y.eql rfl rfl rfl) ?_
        refine Jp.y 33 rfl (qaa rfl) rfl rfl Kp.true (Y.assign rfl rfl) ?_
        refine Jp.qae hK78 ?_
        refine Cd.qar rfl (fun g33=>?_) (fun g33=>?_)
        ·skip
         try simp only [sG0] at g33
         refine Cd.seq fun K79 hK79=>?_
         refine Cd.qac [(0,false),(1,false),(2,false),(3,false)] rfl rfl ?_
         refine Jp.y 35 rfl (qaa rfl) rfl rfl Kp.true (Y.move rfl rfl) ?_
         refine Jp.y 36 rfl (qaa rfl) rfl rfl Kp.true (Y.move rfl rfl) ?_
         refine Jp.call [] [] (immK_spec f top hf8) 37 rfl (qaa rfl) rfl rfl (Runs.fn rfl call95 rfl) (by decide) (by decide) rfl trivial ?_
         rintro v105 ρ105 L105 ⟨rfl,rfl,rfl⟩
         refine ⟨rfl,fun hle105=>⟨Kp.true,?_⟩⟩
         refine Jp.y 2 rfl (qaa rfl) rfl rfl Kp.true (Y.assign rfl rfl) ?_
         refine Jp.qae hK79 ?_
         refine Cd.ret [] rfl (qbd rfl rfl) trivial ⟨rfl,congrArg (Value.int .i64) (by (rw [hK]; repeat first | rfl | omega | rw [if_pos (by omega)] | rw [if_neg (by omega)])),rfl⟩
        ·skip
         try simp only [sG0] at g33
         refine Cd.seq fun K80 hK80=>?_
         refine Cd.qac [(0,false),(1,false)] rfl rfl ?_
         refine Jp.y 39 rfl (qaa rfl) rfl rfl Kp.true (Y.eql rfl rfl rfl) ?_
         refine Jp.y 38 rfl (qaa rfl) rfl rfl Kp.true (Y.assign rfl rfl) ?_
         refine Jp.qae hK80 ?_
         refine Cd.qar rfl (fun g38=>?_) (fun g38=>?_)
         ·skip
          try simp only [sG0] at g38
          refine Cd.seq fun K81 hK81=>?_
          refine Cd.qac [(0,false),(1,false),(2,false),(3,false)] rfl rfl ?_
          refine Jp.y 40 rfl (qaa rfl) rfl rfl Kp.true (Y.move rfl rfl) ?_
          refine Jp.y 41 rfl (qaa rfl) rfl rfl Kp.true (Y.move rfl rfl) ?_
          refine Jp.call [] [] (regK_spec f top hf8 ht8) 42 rfl (qaa rfl) rfl rfl (Runs.fn rfl call96 rfl) (by decide) (by decide) rfl trivial ?_
          rintro v106 ρ106 L106 ⟨rfl,rfl,rfl⟩
          refine ⟨rfl,fun hle106=>⟨Kp.true,?_⟩⟩
          refine Jp.y 2 rfl (qaa rfl) rfl rfl Kp.true (Y.assign rfl rfl) ?_
          refine Jp.qae hK81 ?_
          refine Cd.ret [] rfl (qbd rfl rfl) trivial ⟨rfl,congrArg (Value.int .i64) (by (rw [hK]; repeat first | rfl | omega | rw [if_pos (by omega)] | rw [if_neg (by omega)])),rfl⟩
         ·skip
          try simp only [sG0] at g38
          refine Cd.seq fun K82 hK82=>?_
          refine Cd.qac [(0,false),(1,false)] rfl rfl ?_
          refine Jp.y 44 rfl (qaa rfl) rfl rfl Kp.true (Y.eql rfl rfl rfl) ?_
          refine Jp.y 43 rfl (qaa rfl) rfl rfl Kp.true (Y.assign rfl rfl) ?_
          refine Jp.qae hK82 ?_
          refine Cd.qar rfl (fun g43=>?_) (fun g43=>?_)
          ·skip
           try simp only [sG0] at g43
           refine Cd.seq fun K83 hK83=>?_
           refine Cd.qac [(0,false),(1,false)] rfl rfl ?_
           refine Jp.y 45 rfl (qaa rfl) rfl rfl Kp.true (Y.move rfl rfl) ?_
           refine Jp.y 46 rfl (qaa rfl) rfl rfl Kp.true (Y.lss rfl rfl rfl) ?_
           refine Jp.qae hK83 ?_
           refine Cd.qar rfl (fun g46=>?_) (fun g46=>?_)
           ·skip
            try simp only [sG0] at g46
            refine Cd.seq fun K84 hK84=>?_
            refine Cd.qac [(0,false),(1,false),(2,false)] rfl rfl ?_
            refine Jp.y 47 rfl (qaa rfl) rfl rfl Kp.true (Y.move rfl rfl) ?_
            refine Jp.y 48 rfl (qaa rfl) rfl rfl Kp.true (Y.qcj rfl rfl rfl (by exact qaj (by omega) (by omega))) ?_
            refine Jp.y 2 rfl (qaa rfl) rfl rfl Kp.true (Y.assign rfl rfl) ?_
            refine Jp.qae hK84 ?_
            refine Cd.ret [] rfl (qbd rfl rfl) trivial ⟨rfl,congrArg (Value.int .i64) (by (rw [hK]; repeat first | rfl | omega | rw [if_pos (by omega)] | rw [if_neg (by omega)])),rfl⟩
           ·skip
            try simp only [sG0] at g46
            refine Cd.over rfl hK60 ?_
            refine Cd.seq fun K85 hK85=>?_
            refine Cd.qac [(0,false),(1,false),(2,false)] rfl rfl ?_
            refine Jp.y 49 rfl (qaa rfl) rfl rfl Kp.true (Y.move rfl rfl) ?_
            refine Jp.call [] [] (qfo w) 50 rfl (qaa rfl) rfl rfl (Runs.fn rfl call97 rfl) (by decide) (by decide) rfl trivial ?_
            rintro v107 ρ107 L107 ⟨rfl,rfl,rfl⟩
            refine ⟨rfl,fun hle107=>⟨Kp.true,?_⟩⟩
            refine Jp.y 2 rfl (qaa rfl) rfl rfl Kp.true (Y.assign rfl rfl) ?_
            refine Jp.qae hK85 ?_
            refine Cd.ret [] rfl (qbd rfl rfl) trivial ⟨rfl,congrArg (Value.int .i64) (by (rw [hK]; repeat first | rfl | omega | rw [if_pos (by omega)] | rw [if_neg (by omega)])),rfl⟩
          ·skip
           try simp only [sG0] at g43
           refine Cd.over rfl hK60 ?_
           refine Cd.seq fun K86 hK86=>?_
           refine Cd.qac [(0,false),(1,false),(2,false)] rfl rfl ?_
           refine Jp.y 49 rfl (qaa rfl) rfl rfl Kp.true (Y.move rfl rfl) ?_
           refine Jp.call [] [] (qfo w) 50 rfl (qaa rfl) rfl rfl (Runs.fn rfl call97 rfl) (by decide) (by decide) rfl trivial ?_
           rintro v108 ρ108 L108 ⟨rfl,rfl,rfl⟩
           refine ⟨rfl,fun hle108=>⟨Kp.true,?_⟩⟩
           refine Jp.y 2 rfl (qaa rfl) rfl rfl Kp.true (Y.assign rfl rfl) ?_
           refine Jp.qae hK86 ?_
           refine Cd.ret [] rfl (qbd rfl rfl) trivial ⟨rfl,congrArg (Value.int .i64) (by (rw [hK]; repeat first | rfl | omega | rw [if_pos (by omega)] | rw [if_neg (by omega)])),rfl⟩
end Go.Proofs.YtnfkalpgidiafaaGreat

namespace Go.Proofs.YtnfkalpgidiafaaGreat
open Go
section
variable {P : Program} {n : Nat} {cx : Cx} {ρ : Hp} {E : Env} {L : Own}
theorem resCC (j k : Nat) {fn : Func} {s s' : Tmp} {t t' : TypeId} {b b' m m' : Nat} {cs cs' : List Value} {T T' : TypeId} {fr fr' : Nat × Nat} (h : fn.results = #[.cell s t,.cell s' t']) (he : look E s = some (.pointer (some ⟨b,0,none⟩))) (he' : look E s' = some (.pointer (some ⟨b',0,none⟩)))
  (hA : ∀ w,(isAgg t).run P w = .ok true w) (hz : ∀ w,(sizeOf t).run P w = .ok m w) (hA' : ∀ w,(isAgg t').run P w = .ok true w) (hz' : ∀ w,(sizeOf t').run P w = .ok m' w)
  (hj : look L j = some (Pt b (.cells cs.toArray T fr))) (hm : cs.length = m) (hk : look L k = some (Pt b' (.cells cs'.toArray T' fr'))) (hm' : cs'.length = m') : ∀ a w,At n E a → St cx ρ L w → (results fn a.tmps).run P w = .ok (.tuple #[.agg cs.toArray,.agg cs'.toArray]) w:=fun a w ha hs=>by
 have h1:=ha.slot s _ he
 have h3:=ha.slot s' _ he'
 have hb:=hs.pt hj
 have hb':=hs.pt hk
 have hc : ∀ k v,cs[k]? = some v → w.cell? ((⟨b,0,none⟩ : Addr).add k) = some v:=fun k v e=>by rw [qcy]; simp [World.cell?,hb,e]
 have hc' : ∀ k v,cs'[k]? = some v → w.cell? ((⟨b',0,none⟩ : Addr).add k) = some v:=fun k v e=>by rw [qcy]; simp [World.cell?,hb',e]
 subst hm hm'
 have h2 : (loadVar t ⟨b,0,none⟩).run P w = .ok (.agg cs.toArray) w:=by
  simp only [loadVar,Sem.run_bind,Sem.run_pure,Result.andThen_ok,hA,hz,if_true,run_loadCells_list w _ cs hc]
 have h4 : (loadVar t' ⟨b',0,none⟩).run P w = .ok (.agg cs'.toArray) w:=by
  simp only [loadVar,Sem.run_bind,Sem.run_pure,Result.andThen_ok,hA',hz',if_true,run_loadCells_list w _ cs' hc']
 simp [results,h,h1,h3,asAddr,h2,h4]
end
end Go.Proofs.YtnfkalpgidiafaaGreat

namespace Go.Proofs.YtnfkalpgidiafaaGreat
open _root_.Go.Proofs.Tryz
open Go
def s32 (w : Nat) : Int:=IntKind.i32.wrap (w : Int)
def immIP (w : Nat) : Int:=(s32 w).fdiv (2 ^ 20)
theorem qdl (w : Nat) (hw : w < 4294967296) : Spec Tryz.prog 77 #[.int .u32 w] (fun _=>True) [] (fun ρ ρ' v L=>ρ' = ρ ∧ v = .int .i32 (immIP w) ∧ L = []):=by
 refine Spec.of 6 Tryz.func77 rfl Tryz.ntmps77 [(0,_)] rfl rfl ?_
 intro cx ρ hr h0
 refine Cd.seq fun K1 hK1=>?_
 refine Cd.qac [(0,false)] rfl rfl ?_
 refine Jp.y 2 rfl (qaa rfl) rfl rfl Kp.true (Y.assign rfl rfl) ?_
 refine Jp.qae hK1 ?_
 refine Cd.seq fun K2 hK2=>?_
 refine Cd.qac [(0,false),(1,false),(2,false),(3,false)] rfl rfl ?_
 refine Jp.y 3 rfl (qaa rfl) rfl rfl Kp.true (Y.move rfl rfl) ?_
 refine Jp.y 4 rfl (qaa rfl) rfl rfl Kp.true (Y.qaw rfl rfl underlying24 underlying21 (by rfl)) ?_
 refine Jp.slot 4 rfl (show _ = Value.int .i32 (s32 w) from rfl) ?_
 refine Jp.y 5 rfl (qaa rfl) rfl rfl Kp.true (Y.shr rfl rfl rfl (by first | decide | omega)) ?_
 refine Jp.y 2 rfl (qaa rfl) rfl rfl Kp.true (Y.assign rfl rfl) ?_
 refine Jp.qae hK2 ?_
 refine Cd.ret [] rfl (qbd rfl rfl) trivial ⟨rfl,rfl,rfl⟩
def immSP (w : Nat) : Int:=qci .or .i32 (IntKind.i32.wrap ((s32 w).fdiv (2 ^ 25) * 2 ^ 5)) ((w / 2 ^ 7 % 2 ^ 5 : Nat) : Int)
theorem immS_spec (w : Nat) (hw : w < 4294967296) : Spec Tryz.prog 76 #[.int .u32 w] (fun _=>True) [] (fun ρ ρ' v L=>ρ' = ρ ∧ v = .int .i32 (immSP w) ∧ L = []):=by
 refine Spec.of 11 Tryz.func76 rfl Tryz.ntmps76 [(0,_)] rfl rfl ?_
 intro cx ρ hr h0
 have h1 : w / 2 ^ 7 % 2 ^ 5 < 2 ^ 5:=Nat.mod_lt _ (by decide)
 refine Cd.seq fun K3 hK3=>?_
 refine Cd.qac [(0,false)] rfl rfl ?_
 refine Jp.y 2 rfl (qaa rfl) rfl rfl Kp.true (Y.assign rfl rfl) ?_
 refine Jp.qae hK3 ?_
 refine Cd.seq fun K4 hK4=>?_
 refine Cd.qac [(0,false),(1,false),(2,false),(3,false),(4,false),(5,false),(6,false),(7,false),(8,false)] rfl rfl ?_
 refine Jp.y 3 rfl (qaa rfl) rfl rfl Kp.true (Y.move rfl rfl) ?_
 refine Jp.y 4 rfl (qaa rfl) rfl rfl Kp.true (Y.qaw rfl rfl underlying24 underlying21 (by rfl)) ?_
 refine Jp.slot 4 rfl (show _ = Value.int .i32 (s32 w) from rfl) ?_
 refine Jp.y 5 rfl (qaa rfl) rfl rfl Kp.true (Y.shr rfl rfl rfl (by first | decide | omega)) ?_
 refine Jp.y 6 rfl (qaa rfl) rfl rfl Kp.true (Y.shl rfl rfl rfl (by first | decide | omega)) ?_
 refine Jp.y 7 rfl (qaa rfl) rfl rfl Kp.true (Y.move rfl rfl) ?_
 refine Jp.call [] [] (qcc w 7 5 hw (by omega) (by omega)) 8 rfl (qaa rfl) rfl rfl (Runs.fn rfl call73 rfl) (by decide) (by decide) rfl trivial ?_
 rintro v1 ρ1 L1 ⟨rfl,rfl,rfl⟩
 refine ⟨rfl,fun hle1=>⟨Kp.true,?_⟩⟩
 refine Jp.y 9 rfl (qaa rfl) rfl rfl Kp.true (Y.qaw rfl rfl underlying3 underlying21 (by exact qhd (by omega) (by omega))) ?_
 refine Jp.y 10 rfl (qaa rfl) rfl rfl Kp.true (Y.bits rfl rfl rfl rfl) ?_
 refine Jp.y 2 rfl (qaa rfl) rfl rfl Kp.true (Y.assign rfl rfl) ?_
 refine Jp.qae hK4 ?_
 refine Cd.ret [] rfl (qbd rfl rfl) trivial ⟨rfl,rfl,rfl⟩
def immTP (w e f1 n1 s1 f2 n2 s2 f3 n3 : Nat) : Int:=qci .or .i32 (IntKind.i32.wrap ((s32 w).fdiv (2 ^ 31) * 2 ^ e))
 (IntKind.i32.wrap (qci .or .i64 (qci .or .i64 (IntKind.i64.wrap (((w / 2 ^ f1 % 2 ^ n1 : Nat) : Int) * 2 ^ s1)) (IntKind.i64.wrap (((w / 2 ^ f2 % 2 ^ n2 : Nat) : Int) * 2 ^ s2))) (IntKind.i64.wrap (((w / 2 ^ f3 % 2 ^ n3 : Nat) : Int) * 2 ^ 1))))
def immBP (w : Nat) : Int:=immTP w 12 7 1 11 25 6 5 8 4
def immJP (w : Nat) : Int:=immTP w 20 12 8 12 20 1 11 21 10
theorem immB_spec (w : Nat) (hw : w < 4294967296) : Spec Tryz.prog 75 #[.int .u32 w] (fun _=>True) [] (fun ρ ρ' v L=>ρ' = ρ ∧ v = .int .i32 (immBP w) ∧ L = []):=by
 refine Spec.of 20 Tryz.func75 rfl Tryz.ntmps75 [(0,_)] rfl rfl ?_
 intro cx ρ hr h0
 refine Cd.seq fun K5 hK5=>?_
 refine Cd.qac [(0,false)] rfl rfl ?_
 refine Jp.y 2 rfl (qaa rfl) rfl rfl Kp.true (Y.assign rfl rfl) ?_
 refine Jp.qae hK5 ?_
 refine Cd.seq fun K6 hK6=>?_
 refine Cd.qac [(0,false),(1,false),(2,false),(3,false),(4,false),(5,false),(6,false),(7,false),(8,false),(9,false),(10,false),(11,false),(12,false),(13,false),(14,false),(15,false),(16,false),(17,false)] rfl rfl ?_
 refine Jp.y 3 rfl (qaa rfl) rfl rfl Kp.true (Y.move rfl rfl) ?_
 refine Jp.y 4 rfl (qaa rfl) rfl rfl Kp.true (Y.qaw rfl rfl underlying24 underlying21 (by rfl)) ?_
 refine Jp.slot 4 rfl (show _ = Value.int .i32 (s32 w) from rfl) ?_
 refine Jp.y 5 rfl (qaa rfl) rfl rfl Kp.true (Y.shr rfl rfl rfl (by first | decide | omega)) ?_
 refine Jp.y 6 rfl (qaa rfl) rfl rfl Kp.true (Y.shl rfl rfl rfl (by first | decide | omega)) ?_
 refine Jp.y 7 rfl (qaa rfl) rfl rfl Kp.true (Y.move rfl rfl) ?_
 refine Jp.call [] [] (qcc w 7 1 hw (by omega) (by omega)) 8 rfl (qaa rfl) rfl rfl (Runs.fn rfl call73 rfl) (by decide) (by decide) rfl trivial ?_
 rintro v1 ρ1 L1 ⟨rfl,rfl,rfl⟩
 refine ⟨rfl,fun hle1=>⟨Kp.true,?_⟩⟩
 refine Jp.y 9 rfl (qaa rfl) rfl rfl Kp.true (Y.shl rfl rfl rfl (by first | decide | omega)) ?_
 refine Jp.y 10 rfl (qaa rfl) rfl rfl Kp.true (Y.move rfl rfl) ?_
 refine Jp.call [] [] (qcc w 25 6 hw (by omega) (by omega)) 11 rfl (qaa rfl) rfl rfl (Runs.fn rfl call73 rfl) (by decide) (by decide) rfl trivial ?_
 rintro v2 ρ2 L2 ⟨rfl,rfl,rfl⟩
 refine ⟨rfl,fun hle2=>⟨Kp.true,?_⟩⟩
 refine Jp.y 12 rfl (qaa rfl) rfl rfl Kp.true (Y.shl rfl rfl rfl (by first | decide | omega)) ?_
 refine Jp.y 13 rfl (qaa rfl) rfl rfl Kp.true (Y.bits rfl rfl rfl rfl) ?_
 refine Jp.y 14 rfl (qaa rfl) rfl rfl Kp.true (Y.move rfl rfl) ?_
 refine Jp.call [] [] (qcc w 8 4 hw (by omega) (by omega)) 15 rfl (qaa rfl) rfl rfl (Runs.fn rfl call73 rfl) (by decide) (by decide) rfl trivial ?_
 rintro v3 ρ3 L3 ⟨rfl,rfl,rfl⟩
 refine ⟨rfl,fun hle3=>⟨Kp.true,?_⟩⟩
 refine Jp.y 16 rfl (qaa rfl) rfl rfl Kp.true (Y.shl rfl rfl rfl (by first | decide | omega)) ?_
 refine Jp.y 17 rfl (qaa rfl) rfl rfl Kp.true (Y.bits rfl rfl rfl rfl) ?_
 refine Jp.y 18 rfl (qaa rfl) rfl rfl Kp.true (Y.qaw rfl rfl underlying3 underlying21 (by rfl)) ?_
 refine Jp.y 19 rfl (qaa rfl) rfl rfl Kp.true (Y.bits rfl rfl rfl rfl) ?_
 refine Jp.y 2 rfl (qaa rfl) rfl rfl Kp.true (Y.assign rfl rfl) ?_
 refine Jp.qae hK6 ?_
 refine Cd.ret [] rfl (qbd rfl rfl) trivial ⟨rfl,rfl,rfl⟩
theorem immJ_spec (w : Nat) (hw : w < 4294967296) : Spec Tryz.prog 74 #[.int .u32 w] (fun _=>True) [] (fun ρ ρ' v L=>ρ' = ρ ∧ v = .int .i32 (immJP w) ∧ L = []):=by
 refine Spec.of 20 Tryz.func74 rfl Tryz.ntmps74 [(0,_)] rfl rfl ?_
 intro cx ρ hr h0
 refine Cd.seq fun K7 hK7=>?_
 refine Cd.qac [(0,false)] rfl rfl ?_
 refine Jp.y 2 rfl (qaa rfl) rfl rfl Kp.true (Y.assign rfl rfl) ?_
 refine Jp.qae hK7 ?_
 refine Cd.seq fun K8 hK8=>?_
 refine Cd.qac [(0,false),(1,false),(2,false),(3,false),(4,false),(5,false),(6,false),(7,false),(8,false),(9,false),(10,false),(11,false),(12,false),(13,false),(14,false),(15,false),(16,false),(17,false)] rfl rfl ?_
 refine Jp.y 3 rfl (qaa rfl) rfl rfl Kp.true (Y.move rfl rfl) ?_
 refine Jp.y 4 rfl (qaa rfl) rfl rfl Kp.true (Y.qaw rfl rfl underlying24 underlying21 (by rfl)) ?_
 refine Jp.slot 4 rfl (show _ = Value.int .i32 (s32 w) from rfl) ?_
 refine Jp.y 5 rfl (qaa rfl) rfl rfl Kp.true (Y.shr rfl rfl rfl (by first | decide | omega)) ?_
 refine Jp.y 6 rfl (qaa rfl) rfl rfl Kp.true (Y.shl rfl rfl rfl (by first | decide | omega)) ?_
 refine Jp.y 7 rfl (qaa rfl) rfl rfl Kp.true (Y.move rfl rfl) ?_
 refine Jp.call [] [] (qcc w 12 8 hw (by omega) (by omega)) 8 rfl (qaa rfl) rfl rfl (Runs.fn rfl call73 rfl) (by decide) (by decide) rfl trivial ?_
 rintro v1 ρ1 L1 ⟨rfl,rfl,rfl⟩
 refine ⟨rfl,fun hle1=>⟨Kp.true,?_⟩⟩
 refine Jp.y 9 rfl (qaa rfl) rfl rfl Kp.true (Y.shl rfl rfl rfl (by first | decide | omega)) ?_
 refine Jp.y 10 rfl (qaa rfl) rfl rfl Kp.true (Y.move rfl rfl) ?_
 refine Jp.call [] [] (qcc w 20 1 hw (by omega) (by omega)) 11 rfl (qaa rfl) rfl rfl (Runs.fn rfl call73 rfl) (by decide) (by decide) rfl trivial ?_
 rintro v2 ρ2 L2 ⟨rfl,rfl,rfl⟩
 refine ⟨rfl,fun hle2=>⟨Kp.true,?_⟩⟩
 refine Jp.y 12 rfl (qaa rfl) rfl rfl Kp.true (Y.shl rfl rfl rfl (by first | decide | omega)) ?_
 refine Jp.y 13 rfl (qaa rfl) rfl rfl Kp.true (Y.bits rfl rfl rfl rfl) ?_
 refine Jp.y 14 rfl (qaa rfl) rfl rfl Kp.true (Y.move rfl rfl) ?_
 refine Jp.call [] [] (qcc w 21 10 hw (by omega) (by omega)) 15 rfl (qaa rfl) rfl rfl (Runs.fn rfl call73 rfl) (by decide) (by decide) rfl trivial ?_
 rintro v3 ρ3 L3 ⟨rfl,rfl,rfl⟩
 refine ⟨rfl,fun hle3=>⟨Kp.true,?_⟩⟩
 refine Jp.y 16 rfl (qaa rfl) rfl rfl Kp.true (Y.shl rfl rfl rfl (by first | decide | omega)) ?_
 refine Jp.y 17 rfl (qaa rfl) rfl rfl Kp.true (Y.bits rfl rfl rfl rfl) ?_
 refine Jp.y 18 rfl (qaa rfl) rfl rfl Kp.true (Y.qaw rfl rfl underlying3 underlying21 (by rfl)) ?_
 refine Jp.y 19 rfl (qaa rfl) rfl rfl Kp.true (Y.bits rfl rfl rfl rfl) ?_
 refine Jp.y 2 rfl (qaa rfl) rfl rfl Kp.true (Y.assign rfl rfl) ?_
 refine Jp.qae hK8 ?_
 refine Cd.ret [] rfl (qbd rfl rfl) trivial ⟨rfl,rfl,rfl⟩
structure InsP where
 op : Nat
 rd : Nat
 r1 : Nat
 r2 : Nat
 imm : Int
def InsP.cells (i : InsP) : List Value:=[.int .i64 (i.op : Int),.int .i64 (i.rd : Int),.int .i64 (i.r1 : Int),.int .i64 (i.r2 : Int),.int .i32 i.imm]
def decP (w : Nat) : InsP :=
 if kindP w = 0 ∨ 46 ≤ kindP w then ⟨kindP w,0,0,0,0⟩ else if kindP w ≤ 2 then ⟨kindP w,w / 2 ^ 7 % 2 ^ 5,0,0,s32 (w - w % 4096)⟩ else
 if kindP w = 3 then ⟨kindP w,w / 2 ^ 7 % 2 ^ 5,0,0,immJP w⟩ else if 5 ≤ kindP w ∧ kindP w ≤ 10 then ⟨kindP w,0,w / 2 ^ 15 % 2 ^ 5,w / 2 ^ 20 % 2 ^ 5,immBP w⟩ else
 if 16 ≤ kindP w ∧ kindP w ≤ 18 then ⟨kindP w,0,w / 2 ^ 15 % 2 ^ 5,w / 2 ^ 20 % 2 ^ 5,immSP w⟩ else
 if 25 ≤ kindP w ∧ kindP w ≤ 27 then ⟨kindP w,w / 2 ^ 7 % 2 ^ 5,w / 2 ^ 15 % 2 ^ 5,0,((w / 2 ^ 20 % 2 ^ 5 : Nat) : Int)⟩ else
 if 28 ≤ kindP w then ⟨kindP w,w / 2 ^ 7 % 2 ^ 5,w / 2 ^ 15 % 2 ^ 5,w / 2 ^ 20 % 2 ^ 5,0⟩ else ⟨kindP w,w / 2 ^ 7 % 2 ^ 5,w / 2 ^ 15 % 2 ^ 5,0,immIP w⟩
theorem and_hi12 (v : Nat) (hv : v < 4294967296) : v &&& 4294963200 = v - v % 4096:=by
 have h : v - v % 4096 = v / 2 ^ 12 * 2 ^ 12:=by omega
 rw [h]
 apply Nat.eq_of_testBit_eq
 intro i
 rw [Nat.testBit_and,Nat.testBit_mul_two_pow,Nat.testBit_div_two_pow,show (4294963200 : Nat) = 1048575 * 2 ^ 12 from rfl,Nat.testBit_mul_two_pow,show (1048575 : Nat) = 2 ^ 20 - 1 from rfl,Nat.testBit_two_pow_sub_one]
 by_cases h8 : 12 ≤ i
 ·rw [show i - 12 + 12 = i by omega]
  by_cases h32 : i < 32
  ·simp [h8,show i - 12 < 20 by omega]
  ·have : v.testBit i = false := Nat.testBit_lt_two_pow (Nat.lt_of_lt_of_le hv (by
    have:=Nat.pow_le_pow_right (n:=2) (by omega) (show 32 ≤ i by omega)
    omega))
   simp [this]
 ·simp [h8]
section
attribute [local irreducible] qci IntKind.wrap s32 immIP immSP immBP immJP
theorem decode_spec (w : Nat) (hw : w < 4294967296) : Spec Tryz.prog 36 #[.int .u32 w] (fun _=>True) [] (fun ρ ρ' v L=>ρ' = ρ ∧ v = .agg (decP w).cells.toArray ∧ L = []):=by
 refine Spec.of 102 Tryz.func36 rfl Tryz.ntmps36 [(0,_)] rfl rfl ?_
 intro cx ρ hr h0
 have hm : qci .and .u32 (w : Int) 4294963200 = ((w - w % 4096 : Nat) : Int):=by
  have:=qdx (b:=4294963200) hw (by omega)
  rw [and_hi12 w hw] at this
  exact this
 obtain ⟨k,hk⟩ : ∃ k,kindP w = k:=⟨_,rfl⟩
 obtain ⟨x7,h7⟩ : ∃ x,w / 2 ^ 7 % 2 ^ 5 = x:=⟨_,rfl⟩
 obtain ⟨x15,h15⟩ : ∃ x,w / 2 ^ 15 % 2 ^ 5 = x:=⟨_,rfl⟩
 obtain ⟨x20,h20⟩ : ∃ x,w / 2 ^ 20 % 2 ^ 5 = x:=⟨_,rfl⟩
 have l20 : x20 < 32:=by rw [← h20]; exact Nat.mod_lt _ (by decide)
 have hD : decP w = if k = 0 ∨ 46 ≤ k then ⟨k,0,0,0,0⟩ else if k ≤ 2 then ⟨k,x7,0,0,s32 (w - w % 4096)⟩ else
   if k = 3 then ⟨k,x7,0,0,immJP w⟩ else if 5 ≤ k ∧ k ≤ 10 then ⟨k,0,x15,x20,immBP w⟩ else
   if 16 ≤ k ∧ k ≤ 18 then ⟨k,0,x15,x20,immSP w⟩ else
   if 25 ≤ k ∧ k ≤ 27 then ⟨k,x7,x15,0,(x20 : Int)⟩ else
   if 28 ≤ k then ⟨k,x7,x15,x20,0⟩ else ⟨k,x7,x15,0,immIP w⟩:=by rw [← hk,← h7,← h15,← h20]; rfl
 obtain ⟨D,hDe⟩ : ∃ D,decP w = D:=⟨_,rfl⟩
 rw [hDe] at hD ⊢
 clear hDe
 refine Cd.seq fun K9 hK9=>?_
 refine Cd.qac [(0,false)] rfl rfl ?_
 refine Jp.alloc 2 2 rfl (qaa rfl) rfl rfl rfl zeroValue60 fun b2=>⟨Kp.true,?_⟩
 refine Jp.qae hK9 ?_
 refine Cd.seq fun K10 hK10=>?_
 refine Cd.qac [(0,false),(1,false),(2,false),(3,false),(4,false)] rfl rfl ?_
 refine Jp.y 8 rfl (qaa rfl) rfl rfl Kp.true (Y.move rfl rfl) ?_
 refine Jp.call [] [] (kindOf_spec w hw) 9 rfl (qaa rfl) rfl rfl (Runs.fn rfl call72 rfl) (by decide) (by decide) rfl trivial ?_
 rintro v1 ρ1 L1 ⟨rfl,rfl,rfl⟩
 refine ⟨rfl,fun hle1=>⟨Kp.true,?_⟩⟩
 rw [hk]
 refine Jp.y 10 rfl (qaa rfl) rfl rfl Kp.true (Y.struct [(0,_)] [_,_,_,_,_] rfl rfl places60 zeroValue60 rfl) ?_
 refine Jp.alloc 3 3 rfl (qaa rfl) rfl rfl rfl zeroValue60 fun b3=>⟨Kp.true,?_⟩
 refine Jp.qcb 3 rfl (qaa rfl) rfl rfl sizeOf60 rfl rfl rfl rfl rfl rfl (fun k _ _=>qas k) Kp.true ?_
 refine Jp.qae hK10 ?_
 refine Cd.seq fun K11 hK11=>?_
 refine Cd.qac [(0,false),(1,false),(2,false),(3,false),(4,false),(5,false),(6,false),(7,false),(8,false)] rfl rfl ?_
 refine Jp.y 11 rfl (qaa rfl) rfl rfl Kp.true (Y.move rfl rfl) ?_
 refine Jp.call [] [] (qcc w 7 5 hw (by omega) (by omega)) 12 rfl (qaa rfl) rfl rfl (Runs.fn rfl call73 rfl) (by decide) (by decide) rfl trivial ?_
 rintro v2 ρ2 L2 ⟨rfl,rfl,rfl⟩
 refine ⟨rfl,fun hle2=>⟨Kp.true,?_⟩⟩
 refine Jp.y 13 rfl (qaa rfl) rfl rfl Kp.true (Y.move rfl rfl) ?_
 refine Jp.call [] [] (qcc w 15 5 hw (by omega) (by omega)) 14 rfl (qaa rfl) rfl rfl (Runs.fn rfl call73 rfl) (by decide) (by decide) rfl trivial ?_
 rintro v3 ρ3 L3 ⟨rfl,rfl,rfl⟩
 refine ⟨rfl,fun hle3=>⟨Kp.true,?_⟩⟩
 refine Jp.y 15 rfl (qaa rfl) rfl rfl Kp.true (Y.move rfl rfl) ?_
 refine Jp.call [] [] (qcc w 20 5 hw (by omega) (by omega)) 16 rfl (qaa rfl) rfl rfl (Runs.fn rfl call73 rfl) (by decide) (by decide) rfl trivial ?_
 rintro v4 ρ4 L4 ⟨rfl,rfl,rfl⟩
 refine ⟨rfl,fun hle4=>⟨Kp.true,?_⟩⟩
 rw [h7,h15,h20]
 refine Jp.imp (j:=3) rfl (fun h hh=>(show Pt b3 (.cells #[Value.int .i64 (k : Int),Value.int .i64 0,Value.int .i64 0,Value.int .i64 0,Value.int .i32 0] 60) h from hh)) ?_
 refine Jp.y 4 rfl (qaa rfl) rfl rfl Kp.true (Y.assign rfl rfl) ?_
 refine Jp.y 5 rfl (qaa rfl) rfl rfl Kp.true (Y.assign rfl rfl) ?_
 refine Jp.y 6 rfl (qaa rfl) rfl rfl Kp.true (Y.assign rfl rfl) ?_
 refine Jp.qae hK11 ?_
 refine Cd.seq fun K12 hK12=>?_
 refine Cd.seq fun K13 hK13=>?_
 refine Cd.qac [(0,false),(1,false),(2,false)] rfl rfl ?_
 refine Jp.y 17 rfl (qaa rfl) rfl rfl Kp.true (by exact Y.qad rfl rfl underlying60 rfl sizeOf3 (by decide) (show _ + 0 = _ from rfl)) ?_
 refine Jp.y 18 rfl (qaa rfl) rfl rfl Kp.true (by exact Y.qau 3 rfl isAgg3 rfl rfl rfl) ?_
 refine Jp.y 7 rfl (qaa rfl) rfl rfl Kp.true (Y.assign rfl rfl) ?_
 refine Jp.qae hK13 ?_
 refine Cd.block ?_
 refine Cd.seq fun K14 hK14=>?_
 refine Cd.qac [(0,false),(1,false),(2,false),(3,false),(4,false),(5,false),(6,false)] rfl rfl ?_
 refine Jp.y 27 rfl (qaa rfl) rfl rfl Kp.true (Y.move rfl rfl) ?_
 refine Jp.y 28 rfl (qaa rfl) rfl rfl Kp.true (Y.eql rfl rfl rfl) ?_
 refine Jp.y 29 rfl (qaa rfl) rfl rfl Kp.true (Y.move rfl rfl) ?_
 refine Jp.joinG (G:=Unit) (fun _=>True) (fun _=>[]) [(2,_),(3,_)] ⟨rfl,rfl,trivial⟩ (fun _=>[(3,Pt b3 (.cells D.cells.toArray 60))]) [(2,_)] ⟨rfl,trivial⟩ hK12 (fun g hφ=>?_) (fun hj1=>?_)
 ·skip
  refine Cd.seq fun K15 hK15=>?_
  refine Cd.qac [(0,false),(1,false)] rfl rfl ?_
  refine Jp.y 101 rfl (qaa rfl) rfl rfl Kp.true (by exact Y.qah 3 rfl isAgg60 sizeOf60 rfl rfl rfl) ?_
  refine Jp.qcb 2 rfl (qaa rfl) rfl rfl sizeOf60 rfl rfl rfl rfl rfl rfl (fun k _ _=>qas k) Kp.true ?_
  refine Jp.qae hK15 ?_
  refine Cd.ret [] rfl (by exact qfb 2 rfl rfl isAgg60 sizeOf60 rfl rfl) trivial ⟨rfl,rfl,rfl⟩
 ·skip
  refine Jp.split 29 rfl (fun g29=>?_) (fun g29=>?_)
  ·skip
   try simp only [sG0] at g29
   refine Jp.qaq 30 rfl (qab rfl rfl rfl rfl) rfl rfl Kp.true ?_
   refine Jp.qaq 31 rfl (qab rfl rfl rfl rfl) rfl rfl Kp.true ?_
   refine Jp.y 32 rfl (qaa rfl) rfl rfl Kp.true (Y.qav rfl rfl rfl) ?_
   refine Jp.y 26 rfl (qaa rfl) rfl rfl Kp.true (Y.assign rfl rfl) ?_
   refine Jp.qae hK14 ?_
   refine Cd.qcw rfl ?_
   refine Cd.over rfl hK12 ?_
   refine Cd.imp (i:=3) rfl (fun h hh=>(show Pt b3 (.cells D.cells.toArray 60) h from by ((try rw [hm] at hh); rw [hD]; (repeat first | rw [if_pos (by omega)] | rw [if_neg (by omega)]); (try unfold s32); exact hh))) ?_
   exact Cd.qcz (hj1 () trivial) ⟨rfl,rfl,trivial⟩ ⟨rfl,rfl,trivial⟩
  ·skip
   try simp only [sG0] at g29
   refine Jp.y 30 rfl (qab rfl rfl rfl rfl) rfl rfl Kp.true (Y.move rfl rfl) ?_
   refine Jp.y 31 rfl (qab rfl rfl rfl rfl) rfl rfl Kp.true (Y.geq rfl rfl rfl) ?_
   refine Jp.y 32 rfl (qaa rfl) rfl rfl Kp.true (Y.qay rfl rfl rfl) ?_
   refine Jp.y 26 rfl (qaa rfl) rfl rfl Kp.true (Y.assign rfl rfl) ?_
   refine Jp.qae hK14 ?_
   refine Cd.qar rfl (fun g26=>?_) (fun g26=>?_)
   ·skip
    refine Cd.slot 26 rfl (show _ = Value.bool true from congrArg Value.bool g26) ?_
    try simp only [sG0] at g26
    refine Cd.over rfl hK12 ?_
    refine Cd.imp (i:=3) rfl (fun h hh=>(show Pt b3 (.cells D.cells.toArray 60) h from by ((try rw [hm] at hh); rw [hD]; (repeat first | rw [if_pos (by omega)] | rw [if_neg (by omega)]); (try unfold s32); exact hh))) ?_
    exact Cd.qcz (hj1 () trivial) ⟨rfl,rfl,trivial⟩ ⟨rfl,rfl,trivial⟩
   ·skip
    try simp only [sG0] at g26
    refine Cd.seq fun K16 hK16=>?_
    refine Cd.qac [(0,false),(1,false),(2,false)] rfl rfl ?_
    refine Jp.y 34 rfl (qaa rfl) rfl rfl Kp.true (Y.move rfl rfl) ?_
    refine Jp.y 35 rfl (qaa rfl) rfl rfl Kp.true (Y.leq rfl rfl rfl) ?_
    refine Jp.y 33 rfl (qaa rfl) rfl rfl Kp.true (Y.assign rfl rfl) ?_
    refine Jp.qae hK16 ?_
    refine Cd.qar rfl (fun g33=>?_) (fun g33=>?_)
    ·skip
     try simp only [sG0] at g33
     refine Cd.qac [(0,false),(1,false),(2,false),(3,false),(4,false),(5,false),(6,false),(7,false)] rfl rfl ?_
     refine Jp.y 36 rfl (qaa rfl) rfl rfl Kp.true (Y.move rfl rfl) ?_
     refine Jp.y 37 rfl (qaa rfl) rfl rfl Kp.true (Y.move rfl rfl) ?_
     refine Jp.y 38 rfl (qaa rfl) rfl rfl Kp.true (Y.bits rfl rfl rfl rfl) ?_
     refine Jp.y 39 rfl (qaa rfl) rfl rfl Kp.true (Y.qaw rfl rfl underlying24 underlying21 (by rfl)) ?_
     refine Jp.y 40 rfl (qaa rfl) rfl rfl Kp.true (by exact Y.qad rfl rfl underlying60 rfl sizeOf3 (by decide) (show _ + 1 = _ from rfl)) ?_
     refine Jp.store 3 rfl (qaa rfl) rfl rfl sizeOf3 rfl rfl rfl rfl rfl rfl Kp.true ?_
     refine Jp.y 41 rfl (qaa rfl) rfl rfl Kp.true (by exact Y.qad rfl rfl underlying60 rfl sizeOf21 (by decide) (show _ + 4 = _ from rfl)) ?_
     refine Jp.store 3 rfl (qaa rfl) rfl rfl sizeOf21 rfl rfl rfl rfl rfl rfl Kp.true ?_
     refine Jp.over rfl hK12 ?_
     refine Cd.imp (i:=3) rfl (fun h hh=>(show Pt b3 (.cells D.cells.toArray 60) h from by ((try rw [hm] at hh); rw [hD]; (repeat first | rw [if_pos (by omega)] | rw [if_neg (by omega)]); (try unfold s32); exact hh))) ?_
     exact Cd.qcz (hj1 () trivial) ⟨rfl,rfl,trivial⟩ ⟨rfl,rfl,trivial⟩
    ·skip
     try simp only [sG0] at g33
     refine Cd.seq fun K17 hK17=>?_
     refine Cd.qac [(0,false),(1,false),(2,false)] rfl rfl ?_
     refine Jp.y 43 rfl (qaa rfl) rfl rfl Kp.true (Y.move rfl rfl) ?_
     refine Jp.y 44 rfl (qaa rfl) rfl rfl Kp.true (Y.eql rfl rfl rfl) ?_
     refine Jp.y 42 rfl (qaa rfl) rfl rfl Kp.true (Y.assign rfl rfl) ?_
     refine Jp.qae hK17 ?_
     refine Cd.qar rfl (fun g42=>?_) (fun g42=>?_)
     ·skip
      try simp only [sG0] at g42
      refine Cd.qac [(0,false),(1,false),(2,false),(3,false),(4,false),(5,false),(6,false)] rfl rfl ?_
      refine Jp.y 45 rfl (qaa rfl) rfl rfl Kp.true (Y.move rfl rfl) ?_
      refine Jp.y 46 rfl (qaa rfl) rfl rfl Kp.true (Y.move rfl rfl) ?_
      refine Jp.call [] [] (immJ_spec w hw) 47 rfl (qaa rfl) rfl rfl (Runs.fn rfl call74 rfl) (by decide) (by decide) rfl trivial ?_
      rintro v101 ρ101 L101 ⟨rfl,rfl,rfl⟩
      refine ⟨rfl,fun hle101=>⟨Kp.true,?_⟩⟩
      refine Jp.y 48 rfl (qaa rfl) rfl rfl Kp.true (by exact Y.qad rfl rfl underlying60 rfl sizeOf3 (by decide) (show _ + 1 = _ from rfl)) ?_
      refine Jp.store 3 rfl (qaa rfl) rfl rfl sizeOf3 rfl rfl rfl rfl rfl rfl Kp.true ?_
      refine Jp.y 49 rfl (qaa rfl) rfl rfl Kp.true (by exact Y.qad rfl rfl underlying60 rfl sizeOf21 (by decide) (show _ + 4 = _ from rfl)) ?_
      refine Jp.store 3 rfl (qaa rfl) rfl rfl sizeOf21 rfl rfl rfl rfl rfl rfl Kp.true ?_
      refine Jp.over rfl hK12 ?_
      refine Cd.imp (i:=3) rfl (fun h hh=>(show Pt b3 (.cells D.cells.toArray 60) h from by ((try rw [hm] at hh); rw [hD]; (repeat first | rw [if_pos (by omega)] | rw [if_neg (by omega)]); (try unfold s32); exact hh))) ?_
      exact Cd.qcz (hj1 () trivial) ⟨rfl,rfl,trivial⟩ ⟨rfl,rfl,trivial⟩
     ·skip
      try simp only [sG0] at g42
      refine Cd.seq fun K18 hK18=>?_
      refine Cd.qac [(0,false),(1,false),(2,false),(3,false),(4,false),(5,false),(6,false)] rfl rfl ?_
      refine Jp.y 51 rfl (qaa rfl) rfl rfl Kp.true (Y.move rfl rfl) ?_
      refine Jp.y 52 rfl (qaa rfl) rfl rfl Kp.true (Y.geq rfl rfl rfl) ?_
      refine Jp.y 53 rfl (qaa rfl) rfl rfl Kp.true (Y.move rfl rfl) ?_
      refine Jp.split 53 rfl (fun g53=>?_) (fun g53=>?_)
      ·skip
       try simp only [sG0] at g53
       refine Jp.y 54 rfl (qab rfl rfl rfl rfl) rfl rfl Kp.true (Y.move rfl rfl) ?_
       refine Jp.y 55 rfl (qab rfl rfl rfl rfl) rfl rfl Kp.true (Y.leq rfl rfl rfl) ?_
       refine Jp.y 56 rfl (qaa rfl) rfl rfl Kp.true (Y.qav rfl rfl rfl) ?_
       refine Jp.y 50 rfl (qaa rfl) rfl rfl Kp.true (Y.assign rfl rfl) ?_
       refine Jp.qae hK18 ?_
       refine Cd.qar rfl (fun g50=>?_) (fun g50=>?_)
       ·skip
        try simp only [sG0] at g50
        refine Cd.qac [(0,false),(1,false),(2,false),(3,false),(4,false),(5,false),(6,false),(7,false),(8,false),(9,false)] rfl rfl ?_
        refine Jp.y 57 rfl (qaa rfl) rfl rfl Kp.true (Y.move rfl rfl) ?_
        refine Jp.y 58 rfl (qaa rfl) rfl rfl Kp.true (Y.move rfl rfl) ?_
        refine Jp.y 59 rfl (qaa rfl) rfl rfl Kp.true (Y.move rfl rfl) ?_
        refine Jp.call [] [] (immB_spec w hw) 60 rfl (qaa rfl) rfl rfl (Runs.fn rfl call75 rfl) (by decide) (by decide) rfl trivial ?_
        rintro v102 ρ102 L102 ⟨rfl,rfl,rfl⟩
        refine ⟨rfl,fun hle102=>⟨Kp.true,?_⟩⟩
        refine Jp.y 61 rfl (qaa rfl) rfl rfl Kp.true (by exact Y.qad rfl rfl underlying60 rfl sizeOf3 (by decide) (show _ + 2 = _ from rfl)) ?_
        refine Jp.store 3 rfl (qaa rfl) rfl rfl sizeOf3 rfl rfl rfl rfl rfl rfl Kp.true ?_
        refine Jp.y 62 rfl (qaa rfl) rfl rfl Kp.true (by exact Y.qad rfl rfl underlying60 rfl sizeOf3 (by decide) (show _ + 3 = _ from rfl)) ?_
        refine Jp.store 3 rfl (qaa rfl) rfl rfl sizeOf3 rfl rfl rfl rfl rfl rfl Kp.true ?_
        refine Jp.y 63 rfl (qaa rfl) rfl rfl Kp.true (by exact Y.qad rfl rfl underlying60 rfl sizeOf21 (by decide) (show _ + 4 = _ from rfl)) ?_
        refine Jp.store 3 rfl (qaa rfl) rfl rfl sizeOf21 rfl rfl rfl rfl rfl rfl Kp.true ?_
        refine Jp.over rfl hK12 ?_
        refine Cd.imp (i:=3) rfl (fun h hh=>(show Pt b3 (.cells D.cells.toArray 60) h from by ((try rw [hm] at hh); rw [hD]; (repeat first | rw [if_pos (by omega)] | rw [if_neg (by omega)]); (try unfold s32); exact hh))) ?_
        exact Cd.qcz (hj1 () trivial) ⟨rfl,rfl,trivial⟩ ⟨rfl,rfl,trivial⟩
       ·skip
        try simp only [sG0] at g50
        refine Cd.seq fun K19 hK19=>?_
        refine Cd.qac [(0,false),(1,false),(2,false),(3,false),(4,false),(5,false),(6,false)] rfl rfl ?_
        refine Jp.y 65 rfl (qaa rfl) rfl rfl Kp.true (Y.move rfl rfl) ?_
        refine Jp.y 66 rfl (qaa rfl) rfl rfl Kp.true (Y.geq rfl rfl rfl) ?_
        refine Jp.y 67 rfl (qaa rfl) rfl rfl Kp.true (Y.move rfl rfl) ?_
        refine Jp.split 67 rfl (fun g67=>?_) (fun g67=>?_)
        ·skip
         try simp only [sG0] at g67
         refine Jp.y 68 rfl (qab rfl rfl rfl rfl) rfl rfl Kp.true (Y.move rfl rfl) ?_
         refine Jp.y 69 rfl (qab rfl rfl rfl rfl) rfl rfl Kp.true (Y.leq rfl rfl rfl) ?_
         refine Jp.y 70 rfl (qaa rfl) rfl rfl Kp.true (Y.qav rfl rfl rfl) ?_
         refine Jp.y 64 rfl (qaa rfl) rfl rfl Kp.true (Y.assign rfl rfl) ?_
         refine Jp.qae hK19 ?_
         refine Cd.qar rfl (fun g64=>?_) (fun g64=>?_)
         ·skip
          try simp only [sG0] at g64
          refine Cd.qac [(0,false),(1,false),(2,false),(3,false),(4,false),(5,false),(6,false),(7,false),(8,false),(9,false)] rfl rfl ?_
          refine Jp.y 71 rfl (qaa rfl) rfl rfl Kp.true (Y.move rfl rfl) ?_
          refine Jp.y 72 rfl (qaa rfl) rfl rfl Kp.true (Y.move rfl rfl) ?_
          refine Jp.y 73 rfl (qaa rfl) rfl rfl Kp.true (Y.move rfl rfl) ?_
          refine Jp.call [] [] (immS_spec w hw) 74 rfl (qaa rfl) rfl rfl (Runs.fn rfl call76 rfl) (by decide) (by decide) rfl trivial ?_
          rintro v103 ρ103 L103 ⟨rfl,rfl,rfl⟩
          refine ⟨rfl,fun hle103=>⟨Kp.true,?_⟩⟩
          refine Jp.y 75 rfl (qaa rfl) rfl rfl Kp.true (by exact Y.qad rfl rfl underlying60 rfl sizeOf3 (by decide) (show _ + 2 = _ from rfl)) ?_
          refine Jp.store 3 rfl (qaa rfl) rfl rfl sizeOf3 rfl rfl rfl rfl rfl rfl Kp.true ?_
          refine Jp.y 76 rfl (qaa rfl) rfl rfl Kp.true (by exact Y.qad rfl rfl underlying60 rfl sizeOf3 (by decide) (show _ + 3 = _ from rfl)) ?_
          refine Jp.store 3 rfl (qaa rfl) rfl rfl sizeOf3 rfl rfl rfl rfl rfl rfl Kp.true ?_
          refine Jp.y 77 rfl (qaa rfl) rfl rfl Kp.true (by exact Y.qad rfl rfl underlying60 rfl sizeOf21 (by decide) (show _ + 4 = _ from rfl)) ?_
          refine Jp.store 3 rfl (qaa rfl) rfl rfl sizeOf21 rfl rfl rfl rfl rfl rfl Kp.true ?_
          refine Jp.over rfl hK12 ?_
          refine Cd.imp (i:=3) rfl (fun h hh=>(show Pt b3 (.cells D.cells.toArray 60) h from by ((try rw [hm] at hh); rw [hD]; (repeat first | rw [if_pos (by omega)] | rw [if_neg (by omega)]); (try unfold s32); exact hh))) ?_
          exact Cd.qcz (hj1 () trivial) ⟨rfl,rfl,trivial⟩ ⟨rfl,rfl,trivial⟩
         ·skip
          try simp only [sG0] at g64
          refine Cd.seq fun K20 hK20=>?_
          refine Cd.qac [(0,false),(1,false),(2,false),(3,false),(4,false),(5,false),(6,false)] rfl rfl ?_
          refine Jp.y 79 rfl (qaa rfl) rfl rfl Kp.true (Y.move rfl rfl) ?_
          refine Jp.y 80 rfl (qaa rfl) rfl rfl Kp.true (Y.geq rfl rfl rfl) ?_
          refine Jp.y 81 rfl (qaa rfl) rfl rfl Kp.true (Y.move rfl rfl) ?_
          refine Jp.split 81 rfl (fun g81=>?_) (fun g81=>?_)
          ·skip
           try simp only [sG0] at g81
           refine Jp.y 82 rfl (qab rfl rfl rfl rfl) rfl rfl Kp.true (Y.move rfl rfl) ?_
           refine Jp.y 83 rfl (qab rfl rfl rfl rfl) rfl rfl Kp.true (Y.leq rfl rfl rfl) ?_
           refine Jp.y 84 rfl (qaa rfl) rfl rfl Kp.true (Y.qav rfl rfl rfl) ?_
           refine Jp.y 78 rfl (qaa rfl) rfl rfl Kp.true (Y.assign rfl rfl) ?_
           refine Jp.qae hK20 ?_
           refine Cd.qar rfl (fun g78=>?_) (fun g78=>?_)
           ·skip
            try simp only [sG0] at g78
            refine Cd.qac [(0,false),(1,false),(2,false),(3,false),(4,false),(5,false),(6,false),(7,false),(8,false),(9,false)] rfl rfl ?_
            refine Jp.y 85 rfl (qaa rfl) rfl rfl Kp.true (Y.move rfl rfl) ?_
            refine Jp.y 86 rfl (qaa rfl) rfl rfl Kp.true (Y.move rfl rfl) ?_
            refine Jp.y 87 rfl (qaa rfl) rfl rfl Kp.true (Y.move rfl rfl) ?_
            refine Jp.y 88 rfl (qaa rfl) rfl rfl Kp.true (Y.qaw rfl rfl underlying3 underlying21 (by exact qhd (by omega) (by omega))) ?_
            refine Jp.y 89 rfl (qaa rfl) rfl rfl Kp.true (by exact Y.qad rfl rfl underlying60 rfl sizeOf3 (by decide) (show _ + 1 = _ from rfl)) ?_
            refine Jp.store 3 rfl (qaa rfl) rfl rfl sizeOf3 rfl rfl rfl rfl rfl rfl Kp.true ?_
            refine Jp.y 90 rfl (qaa rfl) rfl rfl Kp.true (by exact Y.qad rfl rfl underlying60 rfl sizeOf3 (by decide) (show _ + 2 = _ from rfl)) ?_
            refine Jp.store 3 rfl (qaa rfl) rfl rfl sizeOf3 rfl rfl rfl rfl rfl rfl Kp.true ?_
            refine Jp.y 91 rfl (qaa rfl) rfl rfl Kp.true (by exact Y.qad rfl rfl underlying60 rfl sizeOf21 (by decide) (show _ + 4 = _ from rfl)) ?_
            refine Jp.store 3 rfl (qaa rfl) rfl rfl sizeOf21 rfl rfl rfl rfl rfl rfl Kp.true ?_
            refine Jp.over rfl hK12 ?_
            refine Cd.imp (i:=3) rfl (fun h hh=>(show Pt b3 (.cells D.cells.toArray 60) h from by ((try rw [hm] at hh); rw [hD]; (repeat first | rw [if_pos (by omega)] | rw [if_neg (by omega)]); (try unfold s32); exact hh))) ?_
            exact Cd.qcz (hj1 () trivial) ⟨rfl,rfl,trivial⟩ ⟨rfl,rfl,trivial⟩
           ·skip
            try simp only [sG0] at g78
            refine Cd.seq fun K21 hK21=>?_
            refine Cd.qac [(0,false),(1,false),(2,false)] rfl rfl ?_
            refine Jp.y 93 rfl (qaa rfl) rfl rfl Kp.true (Y.move rfl rfl) ?_
            refine Jp.y 94 rfl (qaa rfl) rfl rfl Kp.true (Y.geq rfl rfl rfl) ?_
            refine Jp.y 92 rfl (qaa rfl) rfl rfl Kp.true (Y.assign rfl rfl) ?_
            refine Jp.qae hK21 ?_
            refine Cd.qar rfl (fun g92=>?_) (fun g92=>?_)
            ·skip
             try simp only [sG0] at g92
             refine Cd.qac [(0,false),(1,false),(2,false),(3,false),(4,false),(5,false),(6,false),(7,false),(8,false)] rfl rfl ?_
             refine Jp.y 95 rfl (qaa rfl) rfl rfl Kp.true (Y.move rfl rfl) ?_
             refine Jp.y 96 rfl (qaa rfl) rfl rfl Kp.true (Y.move rfl rfl) ?_
             refine Jp.y 97 rfl (qaa rfl) rfl rfl Kp.true (Y.move rfl rfl) ?_
             refine Jp.y 98 rfl (qaa rfl) rfl rfl Kp.true (by exact Y.qad rfl rfl underlying60 rfl sizeOf3 (by decide) (show _ + 1 = _ from rfl)) ?_
             refine Jp.store 3 rfl (qaa rfl) rfl rfl sizeOf3 rfl rfl rfl rfl rfl rfl Kp.true ?_
             refine Jp.y 99 rfl (qaa rfl) rfl rfl Kp.true (by exact Y.qad rfl rfl underlying60 rfl sizeOf3 (by decide) (show _ + 2 = _ from rfl)) ?_
             refine Jp.store 3 rfl (qaa rfl) rfl rfl sizeOf3 rfl rfl rfl rfl rfl rfl Kp.true ?_
             refine Jp.y 100 rfl (qaa rfl) rfl rfl Kp.true (by exact Y.qad rfl rfl underlying60 rfl sizeOf3 (by decide) (show _ + 3 = _ from rfl)) ?_
             refine Jp.store 3 rfl (qaa rfl) rfl rfl sizeOf3 rfl rfl rfl rfl rfl rfl Kp.true ?_
             refine Jp.over rfl hK12 ?_
             refine Cd.imp (i:=3) rfl (fun h hh=>(show Pt b3 (.cells D.cells.toArray 60) h from by ((try rw [hm] at hh); rw [hD]; (repeat first | rw [if_pos (by omega)] | rw [if_neg (by omega)]); (try unfold s32); exact hh))) ?_
             exact Cd.qcz (hj1 () trivial) ⟨rfl,rfl,trivial⟩ ⟨rfl,rfl,trivial⟩
            ·skip
             try simp only [sG0] at g92
             refine Cd.qac [(0,false),(1,false),(2,false),(3,false),(4,false),(5,false),(6,false),(7,false),(8,false),(9,false)] rfl rfl ?_
             refine Jp.y 19 rfl (qaa rfl) rfl rfl Kp.true (Y.move rfl rfl) ?_
             refine Jp.y 20 rfl (qaa rfl) rfl rfl Kp.true (Y.move rfl rfl) ?_
             refine Jp.y 21 rfl (qaa rfl) rfl rfl Kp.true (Y.move rfl rfl) ?_
             refine Jp.call [] [] (qdl w hw) 22 rfl (qaa rfl) rfl rfl (Runs.fn rfl call77 rfl) (by decide) (by decide) rfl trivial ?_
             rintro v104 ρ104 L104 ⟨rfl,rfl,rfl⟩
             refine ⟨rfl,fun hle104=>⟨Kp.true,?_⟩⟩
             refine Jp.y 23 rfl (qaa rfl) rfl rfl Kp.true (by exact Y.qad rfl rfl underlying60 rfl sizeOf3 (by decide) (show _ + 1 = _ from rfl)) ?_
             refine Jp.store 3 rfl (qaa rfl) rfl rfl sizeOf3 rfl rfl rfl rfl rfl rfl Kp.true ?_
             refine Jp.y 24 rfl (qaa rfl) rfl rfl Kp.true (by exact Y.qad rfl rfl underlying60 rfl sizeOf3 (by decide) (show _ + 2 = _ from rfl)) ?_
             refine Jp.store 3 rfl (qaa rfl) rfl rfl sizeOf3 rfl rfl rfl rfl rfl rfl Kp.true ?_
             refine Jp.y 25 rfl (qaa rfl) rfl rfl Kp.true (by exact Y.qad rfl rfl underlying60 rfl sizeOf21 (by decide) (show _ + 4 = _ from rfl)) ?_
             refine Jp.store 3 rfl (qaa rfl) rfl rfl sizeOf21 rfl rfl rfl rfl rfl rfl Kp.true ?_
             refine Jp.over rfl hK12 ?_
             refine Cd.imp (i:=3) rfl (fun h hh=>(show Pt b3 (.cells D.cells.toArray 60) h from by (exfalso; omega))) ?_
             exact Cd.qcz (hj1 () trivial) ⟨rfl,rfl,trivial⟩ ⟨rfl,rfl,trivial⟩
          ·skip
           try simp only [sG0] at g81
           refine Jp.qaq 82 rfl (qab rfl rfl rfl rfl) rfl rfl Kp.true ?_
           refine Jp.qaq 83 rfl (qab rfl rfl rfl rfl) rfl rfl Kp.true ?_
           refine Jp.y 84 rfl (qaa rfl) rfl rfl Kp.true (Y.qay rfl rfl rfl) ?_
           refine Jp.y 78 rfl (qaa rfl) rfl rfl Kp.true (Y.assign rfl rfl) ?_
           refine Jp.qae hK20 ?_
           refine Cd.qbz rfl ?_
           refine Cd.seq fun K22 hK22=>?_
           refine Cd.qac [(0,false),(1,false),(2,false)] rfl rfl ?_
           refine Jp.y 93 rfl (qaa rfl) rfl rfl Kp.true (Y.move rfl rfl) ?_
           refine Jp.y 94 rfl (qaa rfl) rfl rfl Kp.true (Y.geq rfl rfl rfl) ?_
           refine Jp.y 92 rfl (qaa rfl) rfl rfl Kp.true (Y.assign rfl rfl) ?_
           refine Jp.qae hK22 ?_
           refine Cd.qar rfl (fun g92=>?_) (fun g92=>?_)
           ·skip
            try simp only [sG0] at g92
            refine Cd.qac [(0,false),(1,false),(2,false),(3,false),(4,false),(5,false),(6,false),(7,false),(8,false)] rfl rfl ?_
            refine Jp.y 95 rfl (qaa rfl) rfl rfl Kp.true (Y.move rfl rfl) ?_
            refine Jp.y 96 rfl (qaa rfl) rfl rfl Kp.true (Y.move rfl rfl) ?_
            refine Jp.y 97 rfl (qaa rfl) rfl rfl Kp.true (Y.move rfl rfl) ?_
            refine Jp.y 98 rfl (qaa rfl) rfl rfl Kp.true (by exact Y.qad rfl rfl underlying60 rfl sizeOf3 (by decide) (show _ + 1 = _ from rfl)) ?_
            refine Jp.store 3 rfl (qaa rfl) rfl rfl sizeOf3 rfl rfl rfl rfl rfl rfl Kp.true ?_
            refine Jp.y 99 rfl (qaa rfl) rfl rfl Kp.true (by exact Y.qad rfl rfl underlying60 rfl sizeOf3 (by decide) (show _ + 2 = _ from rfl)) ?_
            refine Jp.store 3 rfl (qaa rfl) rfl rfl sizeOf3 rfl rfl rfl rfl rfl rfl Kp.true ?_
            refine Jp.y 100 rfl (qaa rfl) rfl rfl Kp.true (by exact Y.qad rfl rfl underlying60 rfl sizeOf3 (by decide) (show _ + 3 = _ from rfl)) ?_
            refine Jp.store 3 rfl (qaa rfl) rfl rfl sizeOf3 rfl rfl rfl rfl rfl rfl Kp.true ?_
            refine Jp.over rfl hK12 ?_
            refine Cd.imp (i:=3) rfl (fun h hh=>(show Pt b3 (.cells D.cells.toArray 60) h from by (exfalso; omega))) ?_
            exact Cd.qcz (hj1 () trivial) ⟨rfl,rfl,trivial⟩ ⟨rfl,rfl,trivial⟩
           ·skip
            try simp only [sG0] at g92
            refine Cd.qac [(0,false),(1,false),(2,false),(3,false),(4,false),(5,false),(6,false),(7,false),(8,false),(9,false)] rfl rfl ?_
            refine Jp.y 19 rfl (qaa rfl) rfl rfl Kp.true (Y.move rfl rfl) ?_
            refine Jp.y 20 rfl (qaa rfl) rfl rfl Kp.true (Y.move rfl rfl) ?_
            refine Jp.y 21 rfl (qaa rfl) rfl rfl Kp.true (Y.move rfl rfl) ?_
            refine Jp.call [] [] (qdl w hw) 22 rfl (qaa rfl) rfl rfl (Runs.fn rfl call77 rfl) (by decide) (by decide) rfl trivial ?_
            rintro v105 ρ105 L105 ⟨rfl,rfl,rfl⟩
            refine ⟨rfl,fun hle105=>⟨Kp.true,?_⟩⟩
            refine Jp.y 23 rfl (qaa rfl) rfl rfl Kp.true (by exact Y.qad rfl rfl underlying60 rfl sizeOf3 (by decide) (show _ + 1 = _ from rfl)) ?_
            refine Jp.store 3 rfl (qaa rfl) rfl rfl sizeOf3 rfl rfl rfl rfl rfl rfl Kp.true ?_
            refine Jp.y 24 rfl (qaa rfl) rfl rfl Kp.true (by exact Y.qad rfl rfl underlying60 rfl sizeOf3 (by decide) (show _ + 2 = _ from rfl)) ?_
            refine Jp.store 3 rfl (qaa rfl) rfl rfl sizeOf3 rfl rfl rfl rfl rfl rfl Kp.true ?_
            refine Jp.y 25 rfl (qaa rfl) rfl rfl Kp.true (by exact Y.qad rfl rfl underlying60 rfl sizeOf21 (by decide) (show _ + 4 = _ from rfl)) ?_
            refine Jp.store 3 rfl (qaa rfl) rfl rfl sizeOf21 rfl rfl rfl rfl rfl rfl Kp.true ?_
            refine Jp.over rfl hK12 ?_
            refine Cd.imp (i:=3) rfl (fun h hh=>(show Pt b3 (.cells D.cells.toArray 60) h from by ((try rw [hm] at hh); rw [hD]; (repeat first | rw [if_pos (by omega)] | rw [if_neg (by omega)]); (try unfold s32); exact hh))) ?_
            exact Cd.qcz (hj1 () trivial) ⟨rfl,rfl,trivial⟩ ⟨rfl,rfl,trivial⟩
        ·skip
         try simp only [sG0] at g67
         refine Jp.qaq 68 rfl (qab rfl rfl rfl rfl) rfl rfl Kp.true ?_
         refine Jp.qaq 69 rfl (qab rfl rfl rfl rfl) rfl rfl Kp.true ?_
         refine Jp.y 70 rfl (qaa rfl) rfl rfl Kp.true (Y.qay rfl rfl rfl) ?_
         refine Jp.y 64 rfl (qaa rfl) rfl rfl Kp.true (Y.assign rfl rfl) ?_
         refine Jp.qae hK19 ?_
         refine Cd.qbz rfl ?_
         refine Cd.seq fun K23 hK23=>?_
         refine Cd.qac [(0,false),(1,false),(2,false),(3,false),(4,false),(5,false),(6,false)] rfl rfl ?_
         refine Jp.y 79 rfl (qaa rfl) rfl rfl Kp.true (Y.move rfl rfl) ?_
         refine Jp.y 80 rfl (qaa rfl) rfl rfl Kp.true (Y.geq rfl rfl rfl) ?_
         refine Jp.y 81 rfl (qaa rfl) rfl rfl Kp.true (Y.move rfl rfl) ?_
         refine Jp.split 81 rfl (fun g81=>?_) (fun g81=>?_)
         ·skip
          try simp only [sG0] at g81
          refine Jp.y 82 rfl (qab rfl rfl rfl rfl) rfl rfl Kp.true (Y.move rfl rfl) ?_
          refine Jp.y 83 rfl (qab rfl rfl rfl rfl) rfl rfl Kp.true (Y.leq rfl rfl rfl) ?_
          refine Jp.y 84 rfl (qaa rfl) rfl rfl Kp.true (Y.qav rfl rfl rfl) ?_
          refine Jp.y 78 rfl (qaa rfl) rfl rfl Kp.true (Y.assign rfl rfl) ?_
          refine Jp.qae hK23 ?_
          refine Cd.qar rfl (fun g78=>?_) (fun g78=>?_)
          ·skip
           try simp only [sG0] at g78
           refine Cd.qac [(0,false),(1,false),(2,false),(3,false),(4,false),(5,false),(6,false),(7,false),(8,false),(9,false)] rfl rfl ?_
           refine Jp.y 85 rfl (qaa rfl) rfl rfl Kp.true (Y.move rfl rfl) ?_
           refine Jp.y 86 rfl (qaa rfl) rfl rfl Kp.true (Y.move rfl rfl) ?_
           refine Jp.y 87 rfl (qaa rfl) rfl rfl Kp.true (Y.move rfl rfl) ?_
           refine Jp.y 88 rfl (qaa rfl) rfl rfl Kp.true (Y.qaw rfl rfl underlying3 underlying21 (by exact qhd (by omega) (by omega))) ?_
           refine Jp.y 89 rfl (qaa rfl) rfl rfl Kp.true (by exact Y.qad rfl rfl underlying60 rfl sizeOf3 (by decide) (show _ + 1 = _ from rfl)) ?_
           refine Jp.store 3 rfl (qaa rfl) rfl rfl sizeOf3 rfl rfl rfl rfl rfl rfl Kp.true ?_
           refine Jp.y 90 rfl (qaa rfl) rfl rfl Kp.true (by exact Y.qad rfl rfl underlying60 rfl sizeOf3 (by decide) (show _ + 2 = _ from rfl)) ?_
           refine Jp.store 3 rfl (qaa rfl) rfl rfl sizeOf3 rfl rfl rfl rfl rfl rfl Kp.true ?_
           refine Jp.y 91 rfl (qaa rfl) rfl rfl Kp.true (by exact Y.qad rfl rfl underlying60 rfl sizeOf21 (by decide) (show _ + 4 = _ from rfl)) ?_
           refine Jp.store 3 rfl (qaa rfl) rfl rfl sizeOf21 rfl rfl rfl rfl rfl rfl Kp.true ?_
           refine Jp.over rfl hK12 ?_
           refine Cd.imp (i:=3) rfl (fun h hh=>(show Pt b3 (.cells D.cells.toArray 60) h from by (exfalso; omega))) ?_
           exact Cd.qcz (hj1 () trivial) ⟨rfl,rfl,trivial⟩ ⟨rfl,rfl,trivial⟩
          ·skip
           try simp only [sG0] at g78
           refine Cd.seq fun K24 hK24=>?_
           refine Cd.qac [(0,false),(1,false),(2,false)] rfl rfl ?_
           refine Jp.y 93 rfl (qaa rfl) rfl rfl Kp.true (Y.move rfl rfl) ?_
           refine Jp.y 94 rfl (qaa rfl) rfl rfl Kp.true (Y.geq rfl rfl rfl) ?_
           refine Jp.y 92 rfl (qaa rfl) rfl rfl Kp.true (Y.assign rfl rfl) ?_
           refine Jp.qae hK24 ?_
           refine Cd.qar rfl (fun g92=>?_) (fun g92=>?_)
           ·skip
            try simp only [sG0] at g92
            refine Cd.qac [(0,false),(1,false),(2,false),(3,false),(4,false),(5,false),(6,false),(7,false),(8,false)] rfl rfl ?_
            refine Jp.y 95 rfl (qaa rfl) rfl rfl Kp.true (Y.move rfl rfl) ?_
            refine Jp.y 96 rfl (qaa rfl) rfl rfl Kp.true (Y.move rfl rfl) ?_
            refine Jp.y 97 rfl (qaa rfl) rfl rfl Kp.true (Y.move rfl rfl) ?_
            refine Jp.y 98 rfl (qaa rfl) rfl rfl Kp.true (by exact Y.qad rfl rfl underlying60 rfl sizeOf3 (by decide) (show _ + 1 = _ from rfl)) ?_
            refine Jp.store 3 rfl (qaa rfl) rfl rfl sizeOf3 rfl rfl rfl rfl rfl rfl Kp.true ?_
            refine Jp.y 99 rfl (qaa rfl) rfl rfl Kp.true (by exact Y.qad rfl rfl underlying60 rfl sizeOf3 (by decide) (show _ + 2 = _ from rfl)) ?_
            refine Jp.store 3 rfl (qaa rfl) rfl rfl sizeOf3 rfl rfl rfl rfl rfl rfl Kp.true ?_
            refine Jp.y 100 rfl (qaa rfl) rfl rfl Kp.true (by exact Y.qad rfl rfl underlying60 rfl sizeOf3 (by decide) (show _ + 3 = _ from rfl)) ?_
            refine Jp.store 3 rfl (qaa rfl) rfl rfl sizeOf3 rfl rfl rfl rfl rfl rfl Kp.true ?_
            refine Jp.over rfl hK12 ?_
            refine Cd.imp (i:=3) rfl (fun h hh=>(show Pt b3 (.cells D.cells.toArray 60) h from by (exfalso; omega))) ?_
            exact Cd.qcz (hj1 () trivial) ⟨rfl,rfl,trivial⟩ ⟨rfl,rfl,trivial⟩
           ·skip
            try simp only [sG0] at g92
            refine Cd.qac [(0,false),(1,false),(2,false),(3,false),(4,false),(5,false),(6,false),(7,false),(8,false),(9,false)] rfl rfl ?_
            refine Jp.y 19 rfl (qaa rfl) rfl rfl Kp.true (Y.move rfl rfl) ?_
            refine Jp.y 20 rfl (qaa rfl) rfl rfl Kp.true (Y.move rfl rfl) ?_
            refine Jp.y 21 rfl (qaa rfl) rfl rfl Kp.true (Y.move rfl rfl) ?_
            refine Jp.call [] [] (qdl w hw) 22 rfl (qaa rfl) rfl rfl (Runs.fn rfl call77 rfl) (by decide) (by decide) rfl trivial ?_
            rintro v106 ρ106 L106 ⟨rfl,rfl,rfl⟩
            refine ⟨rfl,fun hle106=>⟨Kp.true,?_⟩⟩
            refine Jp.y 23 rfl (qaa rfl) rfl rfl Kp.true (by exact Y.qad rfl rfl underlying60 rfl sizeOf3 (by decide) (show _ + 1 = _ from rfl)) ?_
            refine Jp.store 3 rfl (qaa rfl) rfl rfl sizeOf3 rfl rfl rfl rfl rfl rfl Kp.true ?_
            refine Jp.y 24 rfl (qaa rfl) rfl rfl Kp.true (by exact Y.qad rfl rfl underlying60 rfl sizeOf3 (by decide) (show _ + 2 = _ from rfl)) ?_
            refine Jp.store 3 rfl (qaa rfl) rfl rfl sizeOf3 rfl rfl rfl rfl rfl rfl Kp.true ?_
            refine Jp.y 25 rfl (qaa rfl) rfl rfl Kp.true (by exact Y.qad rfl rfl underlying60 rfl sizeOf21 (by decide) (show _ + 4 = _ from rfl)) ?_
            refine Jp.store 3 rfl (qaa rfl) rfl rfl sizeOf21 rfl rfl rfl rfl rfl rfl Kp.true ?_
            refine Jp.over rfl hK12 ?_
            refine Cd.imp (i:=3) rfl (fun h hh=>(show Pt b3 (.cells D.cells.toArray 60) h from by (exfalso; omega))) ?_
            exact Cd.qcz (hj1 () trivial) ⟨rfl,rfl,trivial⟩ ⟨rfl,rfl,trivial⟩
         ·skip
          try simp only [sG0] at g81
          refine Jp.qaq 82 rfl (qab rfl rfl rfl rfl) rfl rfl Kp.true ?_
          refine Jp.qaq 83 rfl (qab rfl rfl rfl rfl) rfl rfl Kp.true ?_
          refine Jp.y 84 rfl (qaa rfl) rfl rfl Kp.true (Y.qay rfl rfl rfl) ?_
          refine Jp.y 78 rfl (qaa rfl) rfl rfl Kp.true (Y.assign rfl rfl) ?_
          refine Jp.qae hK23 ?_
          refine Cd.qbz rfl ?_
          refine Cd.seq fun K25 hK25=>?_
          refine Cd.qac [(0,false),(1,false),(2,false)] rfl rfl ?_
          refine Jp.y 93 rfl (qaa rfl) rfl rfl Kp.true (Y.move rfl rfl) ?_
          refine Jp.y 94 rfl (qaa rfl) rfl rfl Kp.true (Y.geq rfl rfl rfl) ?_
          refine Jp.y 92 rfl (qaa rfl) rfl rfl Kp.true (Y.assign rfl rfl) ?_
          refine Jp.qae hK25 ?_
          refine Cd.qar rfl (fun g92=>?_) (fun g92=>?_)
          ·skip
           try simp only [sG0] at g92
           refine Cd.qac [(0,false),(1,false),(2,false),(3,false),(4,false),(5,false),(6,false),(7,false),(8,false)] rfl rfl ?_
           refine Jp.y 95 rfl (qaa rfl) rfl rfl Kp.true (Y.move rfl rfl) ?_
           refine Jp.y 96 rfl (qaa rfl) rfl rfl Kp.true (Y.move rfl rfl) ?_
           refine Jp.y 97 rfl (qaa rfl) rfl rfl Kp.true (Y.move rfl rfl) ?_
           refine Jp.y 98 rfl (qaa rfl) rfl rfl Kp.true (by exact Y.qad rfl rfl underlying60 rfl sizeOf3 (by decide) (show _ + 1 = _ from rfl)) ?_
           refine Jp.store 3 rfl (qaa rfl) rfl rfl sizeOf3 rfl rfl rfl rfl rfl rfl Kp.true ?_
           refine Jp.y 99 rfl (qaa rfl) rfl rfl Kp.true (by exact Y.qad rfl rfl underlying60 rfl sizeOf3 (by decide) (show _ + 2 = _ from rfl)) ?_
           refine Jp.store 3 rfl (qaa rfl) rfl rfl sizeOf3 rfl rfl rfl rfl rfl rfl Kp.true ?_
           refine Jp.y 100 rfl (qaa rfl) rfl rfl Kp.true (by exact Y.qad rfl rfl underlying60 rfl sizeOf3 (by decide) (show _ + 3 = _ from rfl)) ?_
           refine Jp.store 3 rfl (qaa rfl) rfl rfl sizeOf3 rfl rfl rfl rfl rfl rfl Kp.true ?_
           refine Jp.over rfl hK12 ?_
           refine Cd.imp (i:=3) rfl (fun h hh=>(show Pt b3 (.cells D.cells.toArray 60) h from by (exfalso; omega))) ?_
           exact Cd.qcz (hj1 () trivial) ⟨rfl,rfl,trivial⟩ ⟨rfl,rfl,trivial⟩
          ·skip
           try simp only [sG0] at g92
           refine Cd.qac [(0,false),(1,false),(2,false),(3,false),(4,false),(5,false),(6,false),(7,false),(8,false),(9,false)] rfl rfl ?_
           refine Jp.y 19 rfl (qaa rfl) rfl rfl Kp.true (Y.move rfl rfl) ?_
           refine Jp.y 20 rfl (qaa rfl) rfl rfl Kp.true (Y.move rfl rfl) ?_
           refine Jp.y 21 rfl (qaa rfl) rfl rfl Kp.true (Y.move rfl rfl) ?_
           refine Jp.call [] [] (qdl w hw) 22 rfl (qaa rfl) rfl rfl (Runs.fn rfl call77 rfl) (by decide) (by decide) rfl trivial ?_
           rintro v107 ρ107 L107 ⟨rfl,rfl,rfl⟩
           refine ⟨rfl,fun hle107=>⟨Kp.true,?_⟩⟩
           refine Jp.y 23 rfl (qaa rfl) rfl rfl Kp.true (by exact Y.qad rfl rfl underlying60 rfl sizeOf3 (by decide) (show _ + 1 = _ from rfl)) ?_
           refine Jp.store 3 rfl (qaa rfl) rfl rfl sizeOf3 rfl rfl rfl rfl rfl rfl Kp.true ?_
           refine Jp.y 24 rfl (qaa rfl) rfl rfl Kp.true (by exact Y.qad rfl rfl underlying60 rfl sizeOf3 (by decide) (show _ + 2 = _ from rfl)) ?_
           refine Jp.store 3 rfl (qaa rfl) rfl rfl sizeOf3 rfl rfl rfl rfl rfl rfl Kp.true ?_
           refine Jp.y 25 rfl (qaa rfl) rfl rfl Kp.true (by exact Y.qad rfl rfl underlying60 rfl sizeOf21 (by decide) (show _ + 4 = _ from rfl)) ?_
           refine Jp.store 3 rfl (qaa rfl) rfl rfl sizeOf21 rfl rfl rfl rfl rfl rfl Kp.true ?_
           refine Jp.over rfl hK12 ?_
           refine Cd.imp (i:=3) rfl (fun h hh=>(show Pt b3 (.cells D.cells.toArray 60) h from by ((try rw [hm] at hh); rw [hD]; (repeat first | rw [if_pos (by omega)] | rw [if_neg (by omega)]); (try unfold s32); exact hh))) ?_
           exact Cd.qcz (hj1 () trivial) ⟨rfl,rfl,trivial⟩ ⟨rfl,rfl,trivial⟩
      ·skip
       try simp only [sG0] at g53
       refine Jp.qaq 54 rfl (qab rfl rfl rfl rfl) rfl rfl Kp.true ?_
       refine Jp.qaq 55 rfl (qab rfl rfl rfl rfl) rfl rfl Kp.true ?_
       refine Jp.y 56 rfl (qaa rfl) rfl rfl Kp.true (Y.qay rfl rfl rfl) ?_
       refine Jp.y 50 rfl (qaa rfl) rfl rfl Kp.true (Y.assign rfl rfl) ?_
       refine Jp.qae hK18 ?_
       refine Cd.qbz rfl ?_
       refine Cd.seq fun K26 hK26=>?_
       refine Cd.qac [(0,false),(1,false),(2,false),(3,false),(4,false),(5,false),(6,false)] rfl rfl ?_
       refine Jp.y 65 rfl (qaa rfl) rfl rfl Kp.true (Y.move rfl rfl) ?_
       refine Jp.y 66 rfl (qaa rfl) rfl rfl Kp.true (Y.geq rfl rfl rfl) ?_
       refine Jp.y 67 rfl (qaa rfl) rfl rfl Kp.true (Y.move rfl rfl) ?_
       refine Jp.split 67 rfl (fun g67=>?_) (fun g67=>?_)
       ·skip
        try simp only [sG0] at g67
        refine Jp.y 68 rfl (qab rfl rfl rfl rfl) rfl rfl Kp.true (Y.move rfl rfl) ?_
        refine Jp.y 69 rfl (qab rfl rfl rfl rfl) rfl rfl Kp.true (Y.leq rfl rfl rfl) ?_
        refine Jp.y 70 rfl (qaa rfl) rfl rfl Kp.true (Y.qav rfl rfl rfl) ?_
        refine Jp.y 64 rfl (qaa rfl) rfl rfl Kp.true (Y.assign rfl rfl) ?_
        refine Jp.qae hK26 ?_
        refine Cd.qar rfl (fun g64=>?_) (fun g64=>?_)
        ·skip
         try simp only [sG0] at g64
         refine Cd.qac [(0,false),(1,false),(2,false),(3,false),(4,false),(5,false),(6,false),(7,false),(8,false),(9,false)] rfl rfl ?_
         refine Jp.y 71 rfl (qaa rfl) rfl rfl Kp.true (Y.move rfl rfl) ?_
         refine Jp.y 72 rfl (qaa rfl) rfl rfl Kp.true (Y.move rfl rfl) ?_
         refine Jp.y 73 rfl (qaa rfl) rfl rfl Kp.true (Y.move rfl rfl) ?_
         refine Jp.call [] [] (immS_spec w hw) 74 rfl (qaa rfl) rfl rfl (Runs.fn rfl call76 rfl) (by decide) (by decide) rfl trivial ?_
         rintro v108 ρ108 L108 ⟨rfl,rfl,rfl⟩
         refine ⟨rfl,fun hle108=>⟨Kp.true,?_⟩⟩
         refine Jp.y 75 rfl (qaa rfl) rfl rfl Kp.true (by exact Y.qad rfl rfl underlying60 rfl sizeOf3 (by decide) (show _ + 2 = _ from rfl)) ?_
         refine Jp.store 3 rfl (qaa rfl) rfl rfl sizeOf3 rfl rfl rfl rfl rfl rfl Kp.true ?_
         refine Jp.y 76 rfl (qaa rfl) rfl rfl Kp.true (by exact Y.qad rfl rfl underlying60 rfl sizeOf3 (by decide) (show _ + 3 = _ from rfl)) ?_
         refine Jp.store 3 rfl (qaa rfl) rfl rfl sizeOf3 rfl rfl rfl rfl rfl rfl Kp.true ?_
         refine Jp.y 77 rfl (qaa rfl) rfl rfl Kp.true (by exact Y.qad rfl rfl underlying60 rfl sizeOf21 (by decide) (show _ + 4 = _ from rfl)) ?_
         refine Jp.store 3 rfl (qaa rfl) rfl rfl sizeOf21 rfl rfl rfl rfl rfl rfl Kp.true ?_
         refine Jp.over rfl hK12 ?_
         refine Cd.imp (i:=3) rfl (fun h hh=>(show Pt b3 (.cells D.cells.toArray 60) h from by (exfalso; omega))) ?_
         exact Cd.qcz (hj1 () trivial) ⟨rfl,rfl,trivial⟩ ⟨rfl,rfl,trivial⟩
        ·skip
         try simp only [sG0] at g64
         refine Cd.seq fun K27 hK27=>?_
         refine Cd.qac [(0,false),(1,false),(2,false),(3,false),(4,false),(5,false),(6,false)] rfl rfl ?_
         refine Jp.y 79 rfl (qaa rfl) rfl rfl Kp.true (Y.move rfl rfl) ?_
         refine Jp.y 80 rfl (qaa rfl) rfl rfl Kp.true (Y.geq rfl rfl rfl) ?_
         refine Jp.y 81 rfl (qaa rfl) rfl rfl Kp.true (Y.move rfl rfl) ?_
         refine Jp.split 81 rfl (fun g81=>?_) (fun g81=>?_)
         ·skip
          try simp only [sG0] at g81
          refine Jp.y 82 rfl (qab rfl rfl rfl rfl) rfl rfl Kp.true (Y.move rfl rfl) ?_
          refine Jp.y 83 rfl (qab rfl rfl rfl rfl) rfl rfl Kp.true (Y.leq rfl rfl rfl) ?_
          refine Jp.y 84 rfl (qaa rfl) rfl rfl Kp.true (Y.qav rfl rfl rfl) ?_
          refine Jp.y 78 rfl (qaa rfl) rfl rfl Kp.true (Y.assign rfl rfl) ?_
          refine Jp.qae hK27 ?_
          refine Cd.qar rfl (fun g78=>?_) (fun g78=>?_)
          ·skip
           try simp only [sG0] at g78
           refine Cd.qac [(0,false),(1,false),(2,false),(3,false),(4,false),(5,false),(6,false),(7,false),(8,false),(9,false)] rfl rfl ?_
           refine Jp.y 85 rfl (qaa rfl) rfl rfl Kp.true (Y.move rfl rfl) ?_
           refine Jp.y 86 rfl (qaa rfl) rfl rfl Kp.true (Y.move rfl rfl) ?_
           refine Jp.y 87 rfl (qaa rfl) rfl rfl Kp.true (Y.move rfl rfl) ?_
           refine Jp.y 88 rfl (qaa rfl) rfl rfl Kp.true (Y.qaw rfl rfl underlying3 underlying21 (by exact qhd (by omega) (by omega))) ?_
           refine Jp.y 89 rfl (qaa rfl) rfl rfl Kp.true (by exact Y.qad rfl rfl underlying60 rfl sizeOf3 (by decide) (show _ + 1 = _ from rfl)) ?_
           refine Jp.store 3 rfl (qaa rfl) rfl rfl sizeOf3 rfl rfl rfl rfl rfl rfl Kp.true ?_
           refine Jp.y 90 rfl (qaa rfl) rfl rfl Kp.true (by exact Y.qad rfl rfl underlying60 rfl sizeOf3 (by decide) (show _ + 2 = _ from rfl)) ?_
           refine Jp.store 3 rfl (qaa rfl) rfl rfl sizeOf3 rfl rfl rfl rfl rfl rfl Kp.true ?_
           refine Jp.y 91 rfl (qaa rfl) rfl rfl Kp.true (by exact Y.qad rfl rfl underlying60 rfl sizeOf21 (by decide) (show _ + 4 = _ from rfl)) ?_
           refine Jp.store 3 rfl (qaa rfl) rfl rfl sizeOf21 rfl rfl rfl rfl rfl rfl Kp.true ?_
           refine Jp.over rfl hK12 ?_
           refine Cd.imp (i:=3) rfl (fun h hh=>(show Pt b3 (.cells D.cells.toArray 60) h from by (exfalso; omega))) ?_
           exact Cd.qcz (hj1 () trivial) ⟨rfl,rfl,trivial⟩ ⟨rfl,rfl,trivial⟩
          ·skip
           try simp only [sG0] at g78
           refine Cd.seq fun K28 hK28=>?_
           refine Cd.qac [(0,false),(1,false),(2,false)] rfl rfl ?_
           refine Jp.y 93 rfl (qaa rfl) rfl rfl Kp.true (Y.move rfl rfl) ?_
           refine Jp.y 94 rfl (qaa rfl) rfl rfl Kp.true (Y.geq rfl rfl rfl) ?_
           refine Jp.y 92 rfl (qaa rfl) rfl rfl Kp.true (Y.assign rfl rfl) ?_
           refine Jp.qae hK28 ?_
           refine Cd.qar rfl (fun g92=>?_) (fun g92=>?_)
           ·skip
            try simp only [sG0] at g92
            refine Cd.qac [(0,false),(1,false),(2,false),(3,false),(4,false),(5,false),(6,false),(7,false),(8,false)] rfl rfl ?_
            refine Jp.y 95 rfl (qaa rfl) rfl rfl Kp.true (Y.move rfl rfl) ?_
            refine Jp.y 96 rfl (qaa rfl) rfl rfl Kp.true (Y.move rfl rfl) ?_
            refine Jp.y 97 rfl (qaa rfl) rfl rfl Kp.true (Y.move rfl rfl) ?_
            refine Jp.y 98 rfl (qaa rfl) rfl rfl Kp.true (by exact Y.qad rfl rfl underlying60 rfl sizeOf3 (by decide) (show _ + 1 = _ from rfl)) ?_
            refine Jp.store 3 rfl (qaa rfl) rfl rfl sizeOf3 rfl rfl rfl rfl rfl rfl Kp.true ?_
            refine Jp.y 99 rfl (qaa rfl) rfl rfl Kp.true (by exact Y.qad rfl rfl underlying60 rfl sizeOf3 (by decide) (show _ + 2 = _ from rfl)) ?_
            refine Jp.store 3 rfl (qaa rfl) rfl rfl sizeOf3 rfl rfl rfl rfl rfl rfl Kp.true ?_
            refine Jp.y 100 rfl (qaa rfl) rfl rfl Kp.true (by exact Y.qad rfl rfl underlying60 rfl sizeOf3 (by decide) (show _ + 3 = _ from rfl)) ?_
            refine Jp.store 3 rfl (qaa rfl) rfl rfl sizeOf3 rfl rfl rfl rfl rfl rfl Kp.true ?_
            refine Jp.over rfl hK12 ?_
            refine Cd.imp (i:=3) rfl (fun h hh=>(show Pt b3 (.cells D.cells.toArray 60) h from by (exfalso; omega))) ?_
            exact Cd.qcz (hj1 () trivial) ⟨rfl,rfl,trivial⟩ ⟨rfl,rfl,trivial⟩
           ·skip
            try simp only [sG0] at g92
            refine Cd.qac [(0,false),(1,false),(2,false),(3,false),(4,false),(5,false),(6,false),(7,false),(8,false),(9,false)] rfl rfl ?_
            refine Jp.y 19 rfl (qaa rfl) rfl rfl Kp.true (Y.move rfl rfl) ?_
            refine Jp.y 20 rfl (qaa rfl) rfl rfl Kp.true (Y.move rfl rfl) ?_
            refine Jp.y 21 rfl (qaa rfl) rfl rfl Kp.true (Y.move rfl rfl) ?_
            refine Jp.call [] [] (qdl w hw) 22 rfl (qaa rfl) rfl rfl (Runs.fn rfl call77 rfl) (by decide) (by decide) rfl trivial ?_
            rintro v109 ρ109 L109 ⟨rfl,rfl,rfl⟩
            refine ⟨rfl,fun hle109=>⟨Kp.true,?_⟩⟩
            refine Jp.y 23 rfl (qaa rfl) rfl rfl Kp.true (by exact Y.qad rfl rfl underlying60 rfl sizeOf3 (by decide) (show _ + 1 = _ from rfl)) ?_
            refine Jp.store 3 rfl (qaa rfl) rfl rfl sizeOf3 rfl rfl rfl rfl rfl rfl Kp.true ?_
            refine Jp.y 24 rfl (qaa rfl) rfl rfl Kp.true (by exact Y.qad rfl rfl underlying60 rfl sizeOf3 (by decide) (show _ + 2 = _ from rfl)) ?_
            refine Jp.store 3 rfl (qaa rfl) rfl rfl sizeOf3 rfl rfl rfl rfl rfl rfl Kp.true ?_
            refine Jp.y 25 rfl (qaa rfl) rfl rfl Kp.true (by exact Y.qad rfl rfl underlying60 rfl sizeOf21 (by decide) (show _ + 4 = _ from rfl)) ?_
            refine Jp.store 3 rfl (qaa rfl) rfl rfl sizeOf21 rfl rfl rfl rfl rfl rfl Kp.true ?_
            refine Jp.over rfl hK12 ?_
            refine Cd.imp (i:=3) rfl (fun h hh=>(show Pt b3 (.cells D.cells.toArray 60) h from by (exfalso; omega))) ?_
            exact Cd.qcz (hj1 () trivial) ⟨rfl,rfl,trivial⟩ ⟨rfl,rfl,trivial⟩
         ·skip
          try simp only [sG0] at g81
          refine Jp.qaq 82 rfl (qab rfl rfl rfl rfl) rfl rfl Kp.true ?_
          refine Jp.qaq 83 rfl (qab rfl rfl rfl rfl) rfl rfl Kp.true ?_
          refine Jp.y 84 rfl (qaa rfl) rfl rfl Kp.true (Y.qay rfl rfl rfl) ?_
          refine Jp.y 78 rfl (qaa rfl) rfl rfl Kp.true (Y.assign rfl rfl) ?_
          refine Jp.qae hK27 ?_
          refine Cd.qbz rfl ?_
          refine Cd.seq fun K29 hK29=>?_
          refine Cd.qac [(0,false),(1,false),(2,false)] rfl rfl ?_
          refine Jp.y 93 rfl (qaa rfl) rfl rfl Kp.true (Y.move rfl rfl) ?_
          refine Jp.y 94 rfl (qaa rfl) rfl rfl Kp.true (Y.geq rfl rfl rfl) ?_
          refine Jp.y 92 rfl (qaa rfl) rfl rfl Kp.true (Y.assign rfl rfl) ?_
          refine Jp.qae hK29 ?_
          refine Cd.qar rfl (fun g92=>?_) (fun g92=>?_)
          ·skip
           try simp only [sG0] at g92
           refine Cd.qac [(0,false),(1,false),(2,false),(3,false),(4,false),(5,false),(6,false),(7,false),(8,false)] rfl rfl ?_
           refine Jp.y 95 rfl (qaa rfl) rfl rfl Kp.true (Y.move rfl rfl) ?_
           refine Jp.y 96 rfl (qaa rfl) rfl rfl Kp.true (Y.move rfl rfl) ?_
           refine Jp.y 97 rfl (qaa rfl) rfl rfl Kp.true (Y.move rfl rfl) ?_
           refine Jp.y 98 rfl (qaa rfl) rfl rfl Kp.true (by exact Y.qad rfl rfl underlying60 rfl sizeOf3 (by decide) (show _ + 1 = _ from rfl)) ?_
           refine Jp.store 3 rfl (qaa rfl) rfl rfl sizeOf3 rfl rfl rfl rfl rfl rfl Kp.true ?_
           refine Jp.y 99 rfl (qaa rfl) rfl rfl Kp.true (by exact Y.qad rfl rfl underlying60 rfl sizeOf3 (by decide) (show _ + 2 = _ from rfl)) ?_
           refine Jp.store 3 rfl (qaa rfl) rfl rfl sizeOf3 rfl rfl rfl rfl rfl rfl Kp.true ?_
           refine Jp.y 100 rfl (qaa rfl) rfl rfl Kp.true (by exact Y.qad rfl rfl underlying60 rfl sizeOf3 (by decide) (show _ + 3 = _ from rfl)) ?_
           refine Jp.store 3 rfl (qaa rfl) rfl rfl sizeOf3 rfl rfl rfl rfl rfl rfl Kp.true ?_
           refine Jp.over rfl hK12 ?_
           refine Cd.imp (i:=3) rfl (fun h hh=>(show Pt b3 (.cells D.cells.toArray 60) h from by (exfalso; omega))) ?_
           exact Cd.qcz (hj1 () trivial) ⟨rfl,rfl,trivial⟩ ⟨rfl,rfl,trivial⟩
          ·skip
           try simp only [sG0] at g92
           refine Cd.qac [(0,false),(1,false),(2,false),(3,false),(4,false),(5,false),(6,false),(7,false),(8,false),(9,false)] rfl rfl ?_
           refine Jp.y 19 rfl (qaa rfl) rfl rfl Kp.true (Y.move rfl rfl) ?_
           refine Jp.y 20 rfl (qaa rfl) rfl rfl Kp.true (Y.move rfl rfl) ?_
           refine Jp.y 21 rfl (qaa rfl) rfl rfl Kp.true (Y.move rfl rfl) ?_
           refine Jp.call [] [] (qdl w hw) 22 rfl (qaa rfl) rfl rfl (Runs.fn rfl call77 rfl) (by decide) (by decide) rfl trivial ?_
           rintro v110 ρ110 L110 ⟨rfl,rfl,rfl⟩
           refine ⟨rfl,fun hle110=>⟨Kp.true,?_⟩⟩
           refine Jp.y 23 rfl (qaa rfl) rfl rfl Kp.true (by exact Y.qad rfl rfl underlying60 rfl sizeOf3 (by decide) (show _ + 1 = _ from rfl)) ?_
           refine Jp.store 3 rfl (qaa rfl) rfl rfl sizeOf3 rfl rfl rfl rfl rfl rfl Kp.true ?_
           refine Jp.y 24 rfl (qaa rfl) rfl rfl Kp.true (by exact Y.qad rfl rfl underlying60 rfl sizeOf3 (by decide) (show _ + 2 = _ from rfl)) ?_
           refine Jp.store 3 rfl (qaa rfl) rfl rfl sizeOf3 rfl rfl rfl rfl rfl rfl Kp.true ?_
           refine Jp.y 25 rfl (qaa rfl) rfl rfl Kp.true (by exact Y.qad rfl rfl underlying60 rfl sizeOf21 (by decide) (show _ + 4 = _ from rfl)) ?_
           refine Jp.store 3 rfl (qaa rfl) rfl rfl sizeOf21 rfl rfl rfl rfl rfl rfl Kp.true ?_
           refine Jp.over rfl hK12 ?_
           refine Cd.imp (i:=3) rfl (fun h hh=>(show Pt b3 (.cells D.cells.toArray 60) h from by (exfalso; omega))) ?_
           exact Cd.qcz (hj1 () trivial) ⟨rfl,rfl,trivial⟩ ⟨rfl,rfl,trivial⟩
       ·skip
        try simp only [sG0] at g67
        refine Jp.qaq 68 rfl (qab rfl rfl rfl rfl) rfl rfl Kp.true ?_
        refine Jp.qaq 69 rfl (qab rfl rfl rfl rfl) rfl rfl Kp.true ?_
        refine Jp.y 70 rfl (qaa rfl) rfl rfl Kp.true (Y.qay rfl rfl rfl) ?_
        refine Jp.y 64 rfl (qaa rfl) rfl rfl Kp.true (Y.assign rfl rfl) ?_
        refine Jp.qae hK26 ?_
        refine Cd.qbz rfl ?_
        refine Cd.seq fun K30 hK30=>?_
        refine Cd.qac [(0,false),(1,false),(2,false),(3,false),(4,false),(5,false),(6,false)] rfl rfl ?_
        refine Jp.y 79 rfl (qaa rfl) rfl rfl Kp.true (Y.move rfl rfl) ?_
        refine Jp.y 80 rfl (qaa rfl) rfl rfl Kp.true (Y.geq rfl rfl rfl) ?_
        refine Jp.y 81 rfl (qaa rfl) rfl rfl Kp.true (Y.move rfl rfl) ?_
        refine Jp.split 81 rfl (fun g81=>?_) (fun g81=>?_)
        ·skip
         try simp only [sG0] at g81
         refine Jp.y 82 rfl (qab rfl rfl rfl rfl) rfl rfl Kp.true (Y.move rfl rfl) ?_
         refine Jp.y 83 rfl (qab rfl rfl rfl rfl) rfl rfl Kp.true (Y.leq rfl rfl rfl) ?_
         refine Jp.y 84 rfl (qaa rfl) rfl rfl Kp.true (Y.qav rfl rfl rfl) ?_
         refine Jp.y 78 rfl (qaa rfl) rfl rfl Kp.true (Y.assign rfl rfl) ?_
         refine Jp.qae hK30 ?_
         refine Cd.qar rfl (fun g78=>?_) (fun g78=>?_)
         ·skip
          try simp only [sG0] at g78
          refine Cd.qac [(0,false),(1,false),(2,false),(3,false),(4,false),(5,false),(6,false),(7,false),(8,false),(9,false)] rfl rfl ?_
          refine Jp.y 85 rfl (qaa rfl) rfl rfl Kp.true (Y.move rfl rfl) ?_
          refine Jp.y 86 rfl (qaa rfl) rfl rfl Kp.true (Y.move rfl rfl) ?_
          refine Jp.y 87 rfl (qaa rfl) rfl rfl Kp.true (Y.move rfl rfl) ?_
          refine Jp.y 88 rfl (qaa rfl) rfl rfl Kp.true (Y.qaw rfl rfl underlying3 underlying21 (by exact qhd (by omega) (by omega))) ?_
          refine Jp.y 89 rfl (qaa rfl) rfl rfl Kp.true (by exact Y.qad rfl rfl underlying60 rfl sizeOf3 (by decide) (show _ + 1 = _ from rfl)) ?_
          refine Jp.store 3 rfl (qaa rfl) rfl rfl sizeOf3 rfl rfl rfl rfl rfl rfl Kp.true ?_
          refine Jp.y 90 rfl (qaa rfl) rfl rfl Kp.true (by exact Y.qad rfl rfl underlying60 rfl sizeOf3 (by decide) (show _ + 2 = _ from rfl)) ?_
          refine Jp.store 3 rfl (qaa rfl) rfl rfl sizeOf3 rfl rfl rfl rfl rfl rfl Kp.true ?_
          refine Jp.y 91 rfl (qaa rfl) rfl rfl Kp.true (by exact Y.qad rfl rfl underlying60 rfl sizeOf21 (by decide) (show _ + 4 = _ from rfl)) ?_
          refine Jp.store 3 rfl (qaa rfl) rfl rfl sizeOf21 rfl rfl rfl rfl rfl rfl Kp.true ?_
          refine Jp.over rfl hK12 ?_
          refine Cd.imp (i:=3) rfl (fun h hh=>(show Pt b3 (.cells D.cells.toArray 60) h from by (exfalso; omega))) ?_
          exact Cd.qcz (hj1 () trivial) ⟨rfl,rfl,trivial⟩ ⟨rfl,rfl,trivial⟩
         ·skip
          try simp only [sG0] at g78
          refine Cd.seq fun K31 hK31=>?_
          refine Cd.qac [(0,false),(1,false),(2,false)] rfl rfl ?_
          refine Jp.y 93 rfl (qaa rfl) rfl rfl Kp.true (Y.move rfl rfl) ?_
          refine Jp.y 94 rfl (qaa rfl) rfl rfl Kp.true (Y.geq rfl rfl rfl) ?_
          refine Jp.y 92 rfl (qaa rfl) rfl rfl Kp.true (Y.assign rfl rfl) ?_
          refine Jp.qae hK31 ?_
          refine Cd.qar rfl (fun g92=>?_) (fun g92=>?_)
          ·skip
           try simp only [sG0] at g92
           refine Cd.qac [(0,false),(1,false),(2,false),(3,false),(4,false),(5,false),(6,false),(7,false),(8,false)] rfl rfl ?_
           refine Jp.y 95 rfl (qaa rfl) rfl rfl Kp.true (Y.move rfl rfl) ?_
           refine Jp.y 96 rfl (qaa rfl) rfl rfl Kp.true (Y.move rfl rfl) ?_
           refine Jp.y 97 rfl (qaa rfl) rfl rfl Kp.true (Y.move rfl rfl) ?_
           refine Jp.y 98 rfl (qaa rfl) rfl rfl Kp.true (by exact Y.qad rfl rfl underlying60 rfl sizeOf3 (by decide) (show _ + 1 = _ from rfl)) ?_
           refine Jp.store 3 rfl (qaa rfl) rfl rfl sizeOf3 rfl rfl rfl rfl rfl rfl Kp.true ?_
           refine Jp.y 99 rfl (qaa rfl) rfl rfl Kp.true (by exact Y.qad rfl rfl underlying60 rfl sizeOf3 (by decide) (show _ + 2 = _ from rfl)) ?_
           refine Jp.store 3 rfl (qaa rfl) rfl rfl sizeOf3 rfl rfl rfl rfl rfl rfl Kp.true ?_
           refine Jp.y 100 rfl (qaa rfl) rfl rfl Kp.true (by exact Y.qad rfl rfl underlying60 rfl sizeOf3 (by decide) (show _ + 3 = _ from rfl)) ?_
           refine Jp.store 3 rfl (qaa rfl) rfl rfl sizeOf3 rfl rfl rfl rfl rfl rfl Kp.true ?_
           refine Jp.over rfl hK12 ?_
           refine Cd.imp (i:=3) rfl (fun h hh=>(show Pt b3 (.cells D.cells.toArray 60) h from by (exfalso; omega))) ?_
           exact Cd.qcz (hj1 () trivial) ⟨rfl,rfl,trivial⟩ ⟨rfl,rfl,trivial⟩
          ·skip
           try simp only [sG0] at g92
           refine Cd.qac [(0,false),(1,false),(2,false),(3,false),(4,false),(5,false),(6,false),(7,false),(8,false),(9,false)] rfl rfl ?_
           refine Jp.y 19 rfl (qaa rfl) rfl rfl Kp.true (Y.move rfl rfl) ?_
           refine Jp.y 20 rfl (qaa rfl) rfl rfl Kp.true (Y.move rfl rfl) ?_
           refine Jp.y 21 rfl (qaa rfl) rfl rfl Kp.true (Y.move rfl rfl) ?_
           refine Jp.call [] [] (qdl w hw) 22 rfl (qaa rfl) rfl rfl (Runs.fn rfl call77 rfl) (by decide) (by decide) rfl trivial ?_
           rintro v111 ρ111 L111 ⟨rfl,rfl,rfl⟩
           refine ⟨rfl,fun hle111=>⟨Kp.true,?_⟩⟩
           refine Jp.y 23 rfl (qaa rfl) rfl rfl Kp.true (by exact Y.qad rfl rfl underlying60 rfl sizeOf3 (by decide) (show _ + 1 = _ from rfl)) ?_
           refine Jp.store 3 rfl (qaa rfl) rfl rfl sizeOf3 rfl rfl rfl rfl rfl rfl Kp.true ?_
           refine Jp.y 24 rfl (qaa rfl) rfl rfl Kp.true (by exact Y.qad rfl rfl underlying60 rfl sizeOf3 (by decide) (show _ + 2 = _ from rfl)) ?_
           refine Jp.store 3 rfl (qaa rfl) rfl rfl sizeOf3 rfl rfl rfl rfl rfl rfl Kp.true ?_
           refine Jp.y 25 rfl (qaa rfl) rfl rfl Kp.true (by exact Y.qad rfl rfl underlying60 rfl sizeOf21 (by decide) (show _ + 4 = _ from rfl)) ?_
           refine Jp.store 3 rfl (qaa rfl) rfl rfl sizeOf21 rfl rfl rfl rfl rfl rfl Kp.true ?_
           refine Jp.over rfl hK12 ?_
           refine Cd.imp (i:=3) rfl (fun h hh=>(show Pt b3 (.cells D.cells.toArray 60) h from by (exfalso; omega))) ?_
           exact Cd.qcz (hj1 () trivial) ⟨rfl,rfl,trivial⟩ ⟨rfl,rfl,trivial⟩
        ·skip
         try simp only [sG0] at g81
         refine Jp.qaq 82 rfl (qab rfl rfl rfl rfl) rfl rfl Kp.true ?_
         refine Jp.qaq 83 rfl (qab rfl rfl rfl rfl) rfl rfl Kp.true ?_
         refine Jp.y 84 rfl (qaa rfl) rfl rfl Kp.true (Y.qay rfl rfl rfl) ?_
         refine Jp.y 78 rfl (qaa rfl) rfl rfl Kp.true (Y.assign rfl rfl) ?_
         refine Jp.qae hK30 ?_
         refine Cd.qbz rfl ?_
         refine Cd.seq fun K32 hK32=>?_
         refine Cd.qac [(0,false),(1,false),(2,false)] rfl rfl ?_
         refine Jp.y 93 rfl (qaa rfl) rfl rfl Kp.true (Y.move rfl rfl) ?_
         refine Jp.y 94 rfl (qaa rfl) rfl rfl Kp.true (Y.geq rfl rfl rfl) ?_
         refine Jp.y 92 rfl (qaa rfl) rfl rfl Kp.true (Y.assign rfl rfl) ?_
         refine Jp.qae hK32 ?_
         refine Cd.qar rfl (fun g92=>?_) (fun g92=>?_)
         ·skip
          try simp only [sG0] at g92
          refine Cd.qac [(0,false),(1,false),(2,false),(3,false),(4,false),(5,false),(6,false),(7,false),(8,false)] rfl rfl ?_
          refine Jp.y 95 rfl (qaa rfl) rfl rfl Kp.true (Y.move rfl rfl) ?_
          refine Jp.y 96 rfl (qaa rfl) rfl rfl Kp.true (Y.move rfl rfl) ?_
          refine Jp.y 97 rfl (qaa rfl) rfl rfl Kp.true (Y.move rfl rfl) ?_
          refine Jp.y 98 rfl (qaa rfl) rfl rfl Kp.true (by exact Y.qad rfl rfl underlying60 rfl sizeOf3 (by decide) (show _ + 1 = _ from rfl)) ?_
          refine Jp.store 3 rfl (qaa rfl) rfl rfl sizeOf3 rfl rfl rfl rfl rfl rfl Kp.true ?_
          refine Jp.y 99 rfl (qaa rfl) rfl rfl Kp.true (by exact Y.qad rfl rfl underlying60 rfl sizeOf3 (by decide) (show _ + 2 = _ from rfl)) ?_
          refine Jp.store 3 rfl (qaa rfl) rfl rfl sizeOf3 rfl rfl rfl rfl rfl rfl Kp.true ?_
          refine Jp.y 100 rfl (qaa rfl) rfl rfl Kp.true (by exact Y.qad rfl rfl underlying60 rfl sizeOf3 (by decide) (show _ + 3 = _ from rfl)) ?_
          refine Jp.store 3 rfl (qaa rfl) rfl rfl sizeOf3 rfl rfl rfl rfl rfl rfl Kp.true ?_
          refine Jp.over rfl hK12 ?_
          refine Cd.imp (i:=3) rfl (fun h hh=>(show Pt b3 (.cells D.cells.toArray 60) h from by (exfalso; omega))) ?_
          exact Cd.qcz (hj1 () trivial) ⟨rfl,rfl,trivial⟩ ⟨rfl,rfl,trivial⟩
         ·skip
          try simp only [sG0] at g92
          refine Cd.qac [(0,false),(1,false),(2,false),(3,false),(4,false),(5,false),(6,false),(7,false),(8,false),(9,false)] rfl rfl ?_
          refine Jp.y 19 rfl (qaa rfl) rfl rfl Kp.true (Y.move rfl rfl) ?_
          refine Jp.y 20 rfl (qaa rfl) rfl rfl Kp.true (Y.move rfl rfl) ?_
          refine Jp.y 21 rfl (qaa rfl) rfl rfl Kp.true (Y.move rfl rfl) ?_
          refine Jp.call [] [] (qdl w hw) 22 rfl (qaa rfl) rfl rfl (Runs.fn rfl call77 rfl) (by decide) (by decide) rfl trivial ?_
          rintro v112 ρ112 L112 ⟨rfl,rfl,rfl⟩
          refine ⟨rfl,fun hle112=>⟨Kp.true,?_⟩⟩
          refine Jp.y 23 rfl (qaa rfl) rfl rfl Kp.true (by exact Y.qad rfl rfl underlying60 rfl sizeOf3 (by decide) (show _ + 1 = _ from rfl)) ?_
          refine Jp.store 3 rfl (qaa rfl) rfl rfl sizeOf3 rfl rfl rfl rfl rfl rfl Kp.true ?_
          refine Jp.y 24 rfl (qaa rfl) rfl rfl Kp.true (by exact Y.qad rfl rfl underlying60 rfl sizeOf3 (by decide) (show _ + 2 = _ from rfl)) ?_
          refine Jp.store 3 rfl (qaa rfl) rfl rfl sizeOf3 rfl rfl rfl rfl rfl rfl Kp.true ?_
          refine Jp.y 25 rfl (qaa rfl) rfl rfl Kp.true (by exact Y.qad rfl rfl underlying60 rfl sizeOf21 (by decide) (show _ + 4 = _ from rfl)) ?_
          refine Jp.store 3 rfl (qaa rfl) rfl rfl sizeOf21 rfl rfl rfl rfl rfl rfl Kp.true ?_
          refine Jp.over rfl hK12 ?_
          refine Cd.imp (i:=3) rfl (fun h hh=>(show Pt b3 (.cells D.cells.toArray 60) h from by ((try rw [hm] at hh); rw [hD]; (repeat first | rw [if_pos (by omega)] | rw [if_neg (by omega)]); (try unfold s32); exact hh))) ?_
          exact Cd.qcz (hj1 () trivial) ⟨rfl,rfl,trivial⟩ ⟨rfl,rfl,trivial⟩
end
end Go.Proofs.YtnfkalpgidiafaaGreat
