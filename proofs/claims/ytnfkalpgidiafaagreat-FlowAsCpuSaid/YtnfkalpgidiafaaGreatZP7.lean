import Derived.Test.YtnfkalpgidiafaaGreatZP5
import Derived.Test.YtnfkalpgidiafaaGreatZP4
import Derived.Test.YtnfkalpgidiafaaGreatZP1
import Derived.Test.YtnfkalpgidiafaaGreatZP3
import Derived.Test.YtnfkalpgidiafaaGreatZP6
set_option linter.unusedVariables false
set_option linter.unusedSimpArgs false
set_option maxRecDepth 100000
namespace Go.Proofs.YtnfkalpgidiafaaGreat
open _root_.Go.Proofs.Tryz
open Go
def placeP (v : Int) (n : Nat) : Nat:=u32 ((u32 v * 2 ^ n : Nat) : Int)
theorem qak (v : Int) (n : Nat) : placeP v n < 4294967296:=u32_lt _
theorem qat (v : Int) (n : Nat) (hn : n < 32) : Spec Tryz.prog 69 #[.int .i64 v,.int .i64 n] (fun _=>True) [] (fun ρ ρ' r L=>ρ' = ρ ∧ r = .int .u32 (placeP v n : Int) ∧ L = []):=by
 refine Spec.of 9 Tryz.func69 rfl Tryz.ntmps69 [(0,_),(1,_)] rfl rfl ?_
 intro cx ρ hr h0
 refine Cd.seq fun K1 hK1=>?_
 refine Cd.qac [(0,false)] rfl rfl ?_
 refine Jp.y 4 rfl (qaa rfl) rfl rfl Kp.true (Y.assign rfl rfl) ?_
 refine Jp.qae hK1 ?_
 refine Cd.seq fun K2 hK2=>?_
 refine Cd.qac [(0,false),(1,false),(2,false),(3,false),(4,false)] rfl rfl ?_
 refine Jp.y 5 rfl (qaa rfl) rfl rfl Kp.true (Y.move rfl rfl) ?_
 refine Jp.y 6 rfl (qaa rfl) rfl rfl Kp.true (Y.qaw rfl rfl underlying3 underlying24 (by rfl)) ?_
 refine Jp.y 7 rfl (qaa rfl) rfl rfl Kp.true (Y.move rfl rfl) ?_
 refine Jp.slot 6 rfl (show _ = Value.int .u32 (u32 v : Int) from congrArg (Value.int .u32) (qce v)) ?_
 refine Jp.y 8 rfl (qaa rfl) rfl rfl Kp.true (Y.shl rfl rfl rfl (by first | decide | omega)) ?_
 refine Jp.y 4 rfl (qaa rfl) rfl rfl Kp.true (Y.assign rfl rfl) ?_
 refine Jp.qae hK2 ?_
 refine Cd.ret [] rfl (qbd rfl rfl) trivial ⟨rfl,congrArg (Value.int .u32) (shl_u (u32 v) n hn),rfl⟩
def codeT : List (Nat × Nat × Nat) := [(0, 0, 0), (55, 0, 0), (23, 0, 0), (111, 0, 0), (103, 0, 0),
 (99,0,0),(99,1,0),(99,4,0),(99,5,0),(99,6,0),(99,7,0),(3,0,0),(3,1,0),(3,2,0),(3,4,0),(3,5,0),(35,0,0),(35,1,0),(35,2,0),
 (19,0,0),(19,2,0),(19,3,0),(19,4,0),(19,6,0),(19,7,0),(19,1,0),(19,5,0),(19,5,32),
 (51,0,0),(51,0,32),(51,1,0),(51,2,0),(51,3,0),(51,4,0),(51,5,0),(51,5,32),(51,6,0),(51,7,0),
 (51, 0, 1), (51, 1, 1), (51, 2, 1), (51, 3, 1), (51, 4, 1), (51, 5, 1), (51, 6, 1), (51, 7, 1)]
def qec (op : Nat) : Nat × Nat × Nat:=codeT.getD op (0,0,0)
def codeV (op : Nat) : Value:=.tuple #[.int .i64 ((qec op).1 : Int),.int .i64 ((qec op).2.1 : Int),.int .i64 ((qec op).2.2 : Int)]
theorem code_spec (op : Nat) (h : 1 ≤ op ∧ op ≤ 45) : Spec Tryz.prog 68 #[.int .i64 op] (fun _=>True) [] (fun ρ ρ' v L=>ρ' = ρ ∧ v = codeV op ∧ L = []):=by
  refine Spec.of 67 Tryz.func68 rfl Tryz.ntmps68 [(0,_)] rfl rfl ?_
  intro cx ρ hr h0
  refine Cd.seq fun K3 hK3=>?_
  refine Cd.qac [(0,false),(1,false),(2,false)] rfl rfl ?_
  refine Jp.y 2 rfl (qaa rfl) rfl rfl Kp.true (Y.assign rfl rfl) ?_
  refine Jp.y 3 rfl (qaa rfl) rfl rfl Kp.true (Y.assign rfl rfl) ?_
  refine Jp.y 4 rfl (qaa rfl) rfl rfl Kp.true (Y.assign rfl rfl) ?_
  refine Jp.qae hK3 ?_
  refine Cd.seq fun K4 hK4=>?_
  refine Cd.block ?_
  refine Cd.seq fun K5 hK5=>?_
  refine Cd.qac [(0,false),(1,false),(2,false)] rfl rfl ?_
  refine Jp.y 6 rfl (qaa rfl) rfl rfl Kp.true (Y.move rfl rfl) ?_
  refine Jp.y 7 rfl (qaa rfl) rfl rfl Kp.true (Y.eql rfl rfl rfl) ?_
  refine Jp.y 5 rfl (qaa rfl) rfl rfl Kp.true (Y.assign rfl rfl) ?_
  refine Jp.qae hK5 ?_
  refine Cd.qar rfl (fun g5=>?_) (fun g5=>?_)
  · skip
    try simp only [sG0] at g5
    refine Cd.seq fun K6 hK6=>?_
    refine Cd.qac [(0,false),(1,false),(2,false)] rfl rfl ?_
    refine Jp.y 2 rfl (qaa rfl) rfl rfl Kp.true (Y.assign rfl rfl) ?_
    refine Jp.y 3 rfl (qaa rfl) rfl rfl Kp.true (Y.assign rfl rfl) ?_
    refine Jp.y 4 rfl (qaa rfl) rfl rfl Kp.true (Y.assign rfl rfl) ?_
    refine Jp.qae hK6 ?_
    refine Cd.ret [] rfl (res3 rfl rfl rfl rfl) trivial ⟨rfl, by
      (obtain rfl : op = 1 := by omega
       rfl), rfl⟩
  · skip
    try simp only [sG0] at g5
    refine Cd.seq fun K7 hK7=>?_
    refine Cd.qac [(0,false),(1,false),(2,false)] rfl rfl ?_
    refine Jp.y 9 rfl (qaa rfl) rfl rfl Kp.true (Y.move rfl rfl) ?_
    refine Jp.y 10 rfl (qaa rfl) rfl rfl Kp.true (Y.eql rfl rfl rfl) ?_
    refine Jp.y 8 rfl (qaa rfl) rfl rfl Kp.true (Y.assign rfl rfl) ?_
    refine Jp.qae hK7 ?_
    refine Cd.qar rfl (fun g8=>?_) (fun g8=>?_)
    · skip
      try simp only [sG0] at g8
      refine Cd.seq fun K8 hK8=>?_
      refine Cd.qac [(0,false),(1,false),(2,false)] rfl rfl ?_
      refine Jp.y 2 rfl (qaa rfl) rfl rfl Kp.true (Y.assign rfl rfl) ?_
      refine Jp.y 3 rfl (qaa rfl) rfl rfl Kp.true (Y.assign rfl rfl) ?_
      refine Jp.y 4 rfl (qaa rfl) rfl rfl Kp.true (Y.assign rfl rfl) ?_
      refine Jp.qae hK8 ?_
      refine Cd.ret [] rfl (res3 rfl rfl rfl rfl) trivial ⟨rfl, by
        (obtain rfl : op = 2 := by omega
         rfl), rfl⟩
    · skip
      try simp only [sG0] at g8
      refine Cd.seq fun K9 hK9=>?_
      refine Cd.qac [(0,false),(1,false),(2,false)] rfl rfl ?_
      refine Jp.y 12 rfl (qaa rfl) rfl rfl Kp.true (Y.move rfl rfl) ?_
      refine Jp.y 13 rfl (qaa rfl) rfl rfl Kp.true (Y.eql rfl rfl rfl) ?_
      refine Jp.y 11 rfl (qaa rfl) rfl rfl Kp.true (Y.assign rfl rfl) ?_
      refine Jp.qae hK9 ?_
      refine Cd.qar rfl (fun g11=>?_) (fun g11=>?_)
      · skip
        try simp only [sG0] at g11
        refine Cd.seq fun K10 hK10=>?_
        refine Cd.qac [(0,false),(1,false),(2,false)] rfl rfl ?_
        refine Jp.y 2 rfl (qaa rfl) rfl rfl Kp.true (Y.assign rfl rfl) ?_
        refine Jp.y 3 rfl (qaa rfl) rfl rfl Kp.true (Y.assign rfl rfl) ?_
        refine Jp.y 4 rfl (qaa rfl) rfl rfl Kp.true (Y.assign rfl rfl) ?_
        refine Jp.qae hK10 ?_
        refine Cd.ret [] rfl (res3 rfl rfl rfl rfl) trivial ⟨rfl, by
          (obtain rfl : op = 3 := by omega
           rfl), rfl⟩
      · skip
        try simp only [sG0] at g11
        refine Cd.seq fun K11 hK11=>?_
        refine Cd.qac [(0,false),(1,false),(2,false)] rfl rfl ?_
        refine Jp.y 15 rfl (qaa rfl) rfl rfl Kp.true (Y.move rfl rfl) ?_
        refine Jp.y 16 rfl (qaa rfl) rfl rfl Kp.true (Y.eql rfl rfl rfl) ?_
        refine Jp.y 14 rfl (qaa rfl) rfl rfl Kp.true (Y.assign rfl rfl) ?_
        refine Jp.qae hK11 ?_
        refine Cd.qar rfl (fun g14=>?_) (fun g14=>?_)
        · skip
          try simp only [sG0] at g14
          refine Cd.seq fun K12 hK12=>?_
          refine Cd.qac [(0,false),(1,false),(2,false)] rfl rfl ?_
          refine Jp.y 2 rfl (qaa rfl) rfl rfl Kp.true (Y.assign rfl rfl) ?_
          refine Jp.y 3 rfl (qaa rfl) rfl rfl Kp.true (Y.assign rfl rfl) ?_
          refine Jp.y 4 rfl (qaa rfl) rfl rfl Kp.true (Y.assign rfl rfl) ?_
          refine Jp.qae hK12 ?_
          refine Cd.ret [] rfl (res3 rfl rfl rfl rfl) trivial ⟨rfl, by
            (obtain rfl : op = 4 := by omega
             rfl), rfl⟩
        · skip
          try simp only [sG0] at g14
          refine Cd.seq fun K13 hK13=>?_
          refine Cd.qac [(0,false),(1,false),(2,false)] rfl rfl ?_
          refine Jp.y 18 rfl (qaa rfl) rfl rfl Kp.true (Y.move rfl rfl) ?_
          refine Jp.y 19 rfl (qaa rfl) rfl rfl Kp.true (Y.leq rfl rfl rfl) ?_
          refine Jp.y 17 rfl (qaa rfl) rfl rfl Kp.true (Y.assign rfl rfl) ?_
          refine Jp.qae hK13 ?_
          refine Cd.qar rfl (fun g17=>?_) (fun g17=>?_)
          · skip
            try simp only [sG0] at g17
            refine Cd.seq fun K14 hK14=>?_
            have hidx : (#[Value.int .i64 0,Value.int .i64 1,Value.int .i64 4,Value.int .i64 5,Value.int .i64 6,Value.int .i64 7] : Array Value)[((op : Int) - 5).toNat * 1]? = some (.int .i64 ((qec op).2.1 : Int)):=by
              rcases (show op = 5 ∨ op = 6 ∨ op = 7 ∨ op = 8 ∨ op = 9 ∨ op = 10 by omega) with rfl | rfl | rfl | rfl | rfl | rfl <;> rfl
            refine Cd.drawn [] trivial [(0,true),(1,true),(2,true),(3,true),(4,true),(5,true),(6,true)] follows (by kernel_rfl) (fun hrl=>?_)
            refine Jp.q 20 rfl (qaa rfl) rfl rfl (Y.array [(0,_),(1,_),(2,_),(3,_),(4,_),(5,_)] [_,_,_,_,_,_] rfl rfl underlying169 sizeOf3 zeroValue169 rfl) ?_
            refine Jp.q 21 rfl (qaa rfl) rfl rfl (Y.move rfl rfl) ?_
            refine Jp.q 22 rfl (qaa rfl) rfl rfl (Y.qfm rfl rfl rfl (by exact qaj (by omega) (by omega))) ?_
            refine Jp.q 23 rfl (qaa rfl) rfl rfl (Y.qcm (v:=.int .i64 ((qec op).2.1 : Int)) rfl underlying169 sizeOf3 isAgg3 rfl rfl (by omega) (by omega) hidx) ?_
            refine Jp.q 2 rfl (qaa rfl) rfl rfl (Y.assign rfl rfl) ?_
            refine Jp.q 3 rfl (qaa rfl) rfl rfl (Y.assign rfl rfl) ?_
            refine Jp.q 4 rfl (qaa rfl) rfl rfl (Y.assign rfl rfl) ?_
            refine Jp.qae hK14 ?_
            refine Cd.ret [] rfl (res3 rfl rfl rfl rfl) trivial ⟨rfl,by rcases (show op = 5 ∨ op = 6 ∨ op = 7 ∨ op = 8 ∨ op = 9 ∨ op = 10 by omega) with rfl | rfl | rfl | rfl | rfl | rfl <;> rfl,rfl⟩
          · skip
            try simp only [sG0] at g17
            refine Cd.seq fun K16 hK16=>?_
            refine Cd.qac [(0,false),(1,false),(2,false)] rfl rfl ?_
            refine Jp.y 25 rfl (qaa rfl) rfl rfl Kp.true (Y.move rfl rfl) ?_
            refine Jp.y 26 rfl (qaa rfl) rfl rfl Kp.true (Y.leq rfl rfl rfl) ?_
            refine Jp.y 24 rfl (qaa rfl) rfl rfl Kp.true (Y.assign rfl rfl) ?_
            refine Jp.qae hK16 ?_
            refine Cd.qar rfl (fun g24=>?_) (fun g24=>?_)
            · skip
              try simp only [sG0] at g24
              refine Cd.seq fun K17 hK17=>?_
              have hidx : (#[Value.int .i64 0,Value.int .i64 1,Value.int .i64 2,Value.int .i64 4,Value.int .i64 5] : Array Value)[((op : Int) - 11).toNat * 1]? = some (.int .i64 ((qec op).2.1 : Int)):=by
                rcases (show op = 11 ∨ op = 12 ∨ op = 13 ∨ op = 14 ∨ op = 15 by omega) with rfl | rfl | rfl | rfl | rfl <;> rfl
              refine Cd.drawn [] trivial [(0,true),(1,true),(2,true),(3,true),(4,true),(5,true),(6,true)] follows (by kernel_rfl) (fun hrl=>?_)
              refine Jp.q 27 rfl (qaa rfl) rfl rfl (Y.array [(0,_),(1,_),(2,_),(3,_),(4,_)] [_,_,_,_,_] rfl rfl underlying170 sizeOf3 zeroValue170 rfl) ?_
              refine Jp.q 28 rfl (qaa rfl) rfl rfl (Y.move rfl rfl) ?_
              refine Jp.q 29 rfl (qaa rfl) rfl rfl (Y.qfm rfl rfl rfl (by exact qaj (by omega) (by omega))) ?_
              refine Jp.q 30 rfl (qaa rfl) rfl rfl (Y.qcm (v:=.int .i64 ((qec op).2.1 : Int)) rfl underlying170 sizeOf3 isAgg3 rfl rfl (by omega) (by omega) hidx) ?_
              refine Jp.q 2 rfl (qaa rfl) rfl rfl (Y.assign rfl rfl) ?_
              refine Jp.q 3 rfl (qaa rfl) rfl rfl (Y.assign rfl rfl) ?_
              refine Jp.q 4 rfl (qaa rfl) rfl rfl (Y.assign rfl rfl) ?_
              refine Jp.qae hK17 ?_
              refine Cd.ret [] rfl (res3 rfl rfl rfl rfl) trivial ⟨rfl,by rcases (show op = 11 ∨ op = 12 ∨ op = 13 ∨ op = 14 ∨ op = 15 by omega) with rfl | rfl | rfl | rfl | rfl <;> rfl,rfl⟩
            · skip
              try simp only [sG0] at g24
              refine Cd.seq fun K19 hK19=>?_
              refine Cd.qac [(0,false),(1,false),(2,false)] rfl rfl ?_
              refine Jp.y 32 rfl (qaa rfl) rfl rfl Kp.true (Y.move rfl rfl) ?_
              refine Jp.y 33 rfl (qaa rfl) rfl rfl Kp.true (Y.leq rfl rfl rfl) ?_
              refine Jp.y 31 rfl (qaa rfl) rfl rfl Kp.true (Y.assign rfl rfl) ?_
              refine Jp.qae hK19 ?_
              refine Cd.qar rfl (fun g31=>?_) (fun g31=>?_)
              · skip
                try simp only [sG0] at g31
                refine Cd.seq fun K20 hK20=>?_
                refine Cd.qac [(0,false),(1,false),(2,false),(3,false),(4,false)] rfl rfl ?_
                refine Jp.y 34 rfl (qaa rfl) rfl rfl Kp.true (Y.move rfl rfl) ?_
                refine Jp.y 35 rfl (qaa rfl) rfl rfl Kp.true (Y.qfm rfl rfl rfl (by exact qaj (by omega) (by omega))) ?_
                refine Jp.y 2 rfl (qaa rfl) rfl rfl Kp.true (Y.assign rfl rfl) ?_
                refine Jp.y 3 rfl (qaa rfl) rfl rfl Kp.true (Y.assign rfl rfl) ?_
                refine Jp.y 4 rfl (qaa rfl) rfl rfl Kp.true (Y.assign rfl rfl) ?_
                refine Jp.qae hK20 ?_
                refine Cd.ret [] rfl (res3 rfl rfl rfl rfl) trivial ⟨rfl, by
                  (rcases (show op = 16 ∨ op = 17 ∨ op = 18 by omega) with rfl | rfl | rfl <;> rfl), rfl⟩
              · skip
                try simp only [sG0] at g31
                refine Cd.seq fun K21 hK21=>?_
                refine Cd.qac [(0,false),(1,false),(2,false)] rfl rfl ?_
                refine Jp.y 37 rfl (qaa rfl) rfl rfl Kp.true (Y.move rfl rfl) ?_
                refine Jp.y 38 rfl (qaa rfl) rfl rfl Kp.true (Y.leq rfl rfl rfl) ?_
                refine Jp.y 36 rfl (qaa rfl) rfl rfl Kp.true (Y.assign rfl rfl) ?_
                refine Jp.qae hK21 ?_
                refine Cd.qar rfl (fun g36=>?_) (fun g36=>?_)
                · skip
                  try simp only [sG0] at g36
                  refine Cd.seq fun K22 hK22=>?_
                  have hidx : (#[Value.int .i64 0,Value.int .i64 2,Value.int .i64 3,Value.int .i64 4,Value.int .i64 6,Value.int .i64 7] : Array Value)[((op : Int) - 19).toNat * 1]? = some (.int .i64 ((qec op).2.1 : Int)):=by
                    rcases (show op = 19 ∨ op = 20 ∨ op = 21 ∨ op = 22 ∨ op = 23 ∨ op = 24 by omega) with rfl | rfl | rfl | rfl | rfl | rfl <;> rfl
                  refine Cd.drawn [] trivial [(0,true),(1,true),(2,true),(3,true),(4,true),(5,true),(6,true)] follows (by kernel_rfl) (fun hrl=>?_)
                  refine Jp.q 39 rfl (qaa rfl) rfl rfl (Y.array [(0,_),(1,_),(2,_),(3,_),(4,_),(5,_)] [_,_,_,_,_,_] rfl rfl underlying169 sizeOf3 zeroValue169 rfl) ?_
                  refine Jp.q 40 rfl (qaa rfl) rfl rfl (Y.move rfl rfl) ?_
                  refine Jp.q 41 rfl (qaa rfl) rfl rfl (Y.qfm rfl rfl rfl (by exact qaj (by omega) (by omega))) ?_
                  refine Jp.q 42 rfl (qaa rfl) rfl rfl (Y.qcm (v:=.int .i64 ((qec op).2.1 : Int)) rfl underlying169 sizeOf3 isAgg3 rfl rfl (by omega) (by omega) hidx) ?_
                  refine Jp.q 2 rfl (qaa rfl) rfl rfl (Y.assign rfl rfl) ?_
                  refine Jp.q 3 rfl (qaa rfl) rfl rfl (Y.assign rfl rfl) ?_
                  refine Jp.q 4 rfl (qaa rfl) rfl rfl (Y.assign rfl rfl) ?_
                  refine Jp.qae hK22 ?_
                  refine Cd.ret [] rfl (res3 rfl rfl rfl rfl) trivial ⟨rfl,by rcases (show op = 19 ∨ op = 20 ∨ op = 21 ∨ op = 22 ∨ op = 23 ∨ op = 24 by omega) with rfl | rfl | rfl | rfl | rfl | rfl <;> rfl,rfl⟩
                · skip
                  try simp only [sG0] at g36
                  refine Cd.seq fun K24 hK24=>?_
                  refine Cd.qac [(0,false),(1,false),(2,false)] rfl rfl ?_
                  refine Jp.y 44 rfl (qaa rfl) rfl rfl Kp.true (Y.move rfl rfl) ?_
                  refine Jp.y 45 rfl (qaa rfl) rfl rfl Kp.true (Y.leq rfl rfl rfl) ?_
                  refine Jp.y 43 rfl (qaa rfl) rfl rfl Kp.true (Y.assign rfl rfl) ?_
                  refine Jp.qae hK24 ?_
                  refine Cd.qar rfl (fun g43=>?_) (fun g43=>?_)
                  · skip
                    try simp only [sG0] at g43
                    refine Cd.seq fun K25 hK25=>?_
                    have hcs : op = 25 ∨ op = 26 ∨ op = 27:=by omega
                    have hidx : (#[Value.int .i64 1,Value.int .i64 5,Value.int .i64 5] : Array Value)[((op : Int) - 25).toNat * 1]? = some (.int .i64 ((qec op).2.1 : Int)):=by
                      rcases hcs with rfl | rfl | rfl <;> rfl
                    have hidx2 : (#[Value.int .i64 0,Value.int .i64 0,Value.int .i64 32] : Array Value)[((op : Int) - 25).toNat * 1]? = some (.int .i64 ((qec op).2.2 : Int)):=by
                      rcases hcs with rfl | rfl | rfl <;> rfl
                    refine Cd.drawn [] trivial [(0,true),(1,true),(2,true),(3,true),(4,true),(5,true),(6,true),(7,true),(8,true),(9,true),(10,true)] follows (by kernel_rfl) (fun hrl=>?_)
                    refine Jp.q 46 rfl (qaa rfl) rfl rfl (Y.array [(0,_),(1,_),(2,_)] [_,_,_] rfl rfl underlying171 sizeOf3 zeroValue171 rfl) ?_
                    refine Jp.q 47 rfl (qaa rfl) rfl rfl (Y.move rfl rfl) ?_
                    refine Jp.q 48 rfl (qaa rfl) rfl rfl (Y.qfm rfl rfl rfl (by exact qaj (by omega) (by omega))) ?_
                    refine Jp.q 49 rfl (qaa rfl) rfl rfl (Y.qcm (v:=.int .i64 ((qec op).2.1 : Int)) rfl underlying171 sizeOf3 isAgg3 rfl rfl (by omega) (by omega) hidx) ?_
                    refine Jp.q 50 rfl (qaa rfl) rfl rfl (Y.array [(0,_),(1,_),(2,_)] [_,_,_] rfl rfl underlying171 sizeOf3 zeroValue171 rfl) ?_
                    refine Jp.q 51 rfl (qaa rfl) rfl rfl (Y.move rfl rfl) ?_
                    refine Jp.q 52 rfl (qaa rfl) rfl rfl (Y.qfm rfl rfl rfl (by exact qaj (by omega) (by omega))) ?_
                    refine Jp.q 53 rfl (qaa rfl) rfl rfl (Y.qcm (v:=.int .i64 ((qec op).2.2 : Int)) rfl underlying171 sizeOf3 isAgg3 rfl rfl (by omega) (by omega) hidx2) ?_
                    refine Jp.q 2 rfl (qaa rfl) rfl rfl (Y.assign rfl rfl) ?_
                    refine Jp.q 3 rfl (qaa rfl) rfl rfl (Y.assign rfl rfl) ?_
                    refine Jp.q 4 rfl (qaa rfl) rfl rfl (Y.assign rfl rfl) ?_
                    refine Jp.qae hK25 ?_
                    refine Cd.ret [] rfl (res3 rfl rfl rfl rfl) trivial ⟨rfl,by rcases hcs with rfl | rfl | rfl <;> rfl,rfl⟩
                  · skip
                    try simp only [sG0] at g43
                    refine Cd.seq fun K27 hK27=>?_
                    refine Cd.qac [(0,false),(1,false),(2,false)] rfl rfl ?_
                    refine Jp.y 55 rfl (qaa rfl) rfl rfl Kp.true (Y.move rfl rfl) ?_
                    refine Jp.y 56 rfl (qaa rfl) rfl rfl Kp.true (Y.leq rfl rfl rfl) ?_
                    refine Jp.y 54 rfl (qaa rfl) rfl rfl Kp.true (Y.assign rfl rfl) ?_
                    refine Jp.qae hK27 ?_
                    refine Cd.qar rfl (fun g54=>?_) (fun g54=>?_)
                    · skip
                      try simp only [sG0] at g54
                      refine Cd.seq fun K28 hK28=>?_
                      have hcs : op = 28 ∨ op = 29 ∨ op = 30 ∨ op = 31 ∨ op = 32 ∨ op = 33 ∨ op = 34 ∨ op = 35 ∨ op = 36 ∨ op = 37:=by omega
                      have hidx : (#[Value.int .i64 0,Value.int .i64 0,Value.int .i64 1,Value.int .i64 2,Value.int .i64 3,Value.int .i64 4,Value.int .i64 5,Value.int .i64 5,Value.int .i64 6,Value.int .i64 7] : Array Value)[((op : Int) - 28).toNat * 1]? = some (.int .i64 ((qec op).2.1 : Int)):=by
                        rcases hcs with rfl | rfl | rfl | rfl | rfl | rfl | rfl | rfl | rfl | rfl <;> rfl
                      have hidx2 : (#[Value.int .i64 0,Value.int .i64 32,Value.int .i64 0,Value.int .i64 0,Value.int .i64 0,Value.int .i64 0,Value.int .i64 0,Value.int .i64 32,Value.int .i64 0,Value.int .i64 0] : Array Value)[((op : Int) - 28).toNat * 1]? = some (.int .i64 ((qec op).2.2 : Int)):=by
                        rcases hcs with rfl | rfl | rfl | rfl | rfl | rfl | rfl | rfl | rfl | rfl <;> rfl
                      refine Cd.drawn [] trivial [(0,true),(1,true),(2,true),(3,true),(4,true),(5,true),(6,true),(7,true),(8,true),(9,true),(10,true)] follows (by kernel_rfl) (fun hrl=>?_)
                      refine Jp.q 57 rfl (qaa rfl) rfl rfl (Y.array [(0,_),(1,_),(2,_),(3,_),(4,_),(5,_),(6,_),(7,_),(8,_),(9,_)] [_,_,_,_,_,_,_,_,_,_] rfl rfl underlying158 sizeOf3 zeroValue158 rfl) ?_
                      refine Jp.q 58 rfl (qaa rfl) rfl rfl (Y.move rfl rfl) ?_
                      refine Jp.q 59 rfl (qaa rfl) rfl rfl (Y.qfm rfl rfl rfl (by exact qaj (by omega) (by omega))) ?_
                      refine Jp.q 60 rfl (qaa rfl) rfl rfl (Y.qcm (v:=.int .i64 ((qec op).2.1 : Int)) rfl underlying158 sizeOf3 isAgg3 rfl rfl (by omega) (by omega) hidx) ?_
                      refine Jp.q 61 rfl (qaa rfl) rfl rfl (Y.array [(0,_),(1,_),(2,_),(3,_),(4,_),(5,_),(6,_),(7,_),(8,_),(9,_)] [_,_,_,_,_,_,_,_,_,_] rfl rfl underlying158 sizeOf3 zeroValue158 rfl) ?_
                      refine Jp.q 62 rfl (qaa rfl) rfl rfl (Y.move rfl rfl) ?_
                      refine Jp.q 63 rfl (qaa rfl) rfl rfl (Y.qfm rfl rfl rfl (by exact qaj (by omega) (by omega))) ?_
                      refine Jp.q 64 rfl (qaa rfl) rfl rfl (Y.qcm (v:=.int .i64 ((qec op).2.2 : Int)) rfl underlying158 sizeOf3 isAgg3 rfl rfl (by omega) (by omega) hidx2) ?_
                      refine Jp.q 2 rfl (qaa rfl) rfl rfl (Y.assign rfl rfl) ?_
                      refine Jp.q 3 rfl (qaa rfl) rfl rfl (Y.assign rfl rfl) ?_
                      refine Jp.q 4 rfl (qaa rfl) rfl rfl (Y.assign rfl rfl) ?_
                      refine Jp.qae hK28 ?_
                      refine Cd.ret [] rfl (res3 rfl rfl rfl rfl) trivial ⟨rfl,by rcases hcs with rfl | rfl | rfl | rfl | rfl | rfl | rfl | rfl | rfl | rfl <;> rfl,rfl⟩
                    · skip
                      try simp only [sG0] at g54
                      refine Cd.over rfl hK4 ?_
                      refine Cd.seq fun K30 hK30=>?_
                      refine Cd.qac [(0,false),(1,false),(2,false),(3,false),(4,false)] rfl rfl ?_
                      refine Jp.y 65 rfl (qaa rfl) rfl rfl Kp.true (Y.move rfl rfl) ?_
                      refine Jp.y 66 rfl (qaa rfl) rfl rfl Kp.true (Y.qfm rfl rfl rfl (by exact qaj (by omega) (by omega))) ?_
                      refine Jp.y 2 rfl (qaa rfl) rfl rfl Kp.true (Y.assign rfl rfl) ?_
                      refine Jp.y 3 rfl (qaa rfl) rfl rfl Kp.true (Y.assign rfl rfl) ?_
                      refine Jp.y 4 rfl (qaa rfl) rfl rfl Kp.true (Y.assign rfl rfl) ?_
                      refine Jp.qae hK30 ?_
                      refine Cd.ret [] rfl (res3 rfl rfl rfl rfl) trivial ⟨rfl, by
                        (rcases (show op = 38 ∨ op = 39 ∨ op = 40 ∨ op = 41 ∨ op = 42 ∨ op = 43 ∨ op = 44 ∨ op = 45 by omega) with rfl | rfl | rfl | rfl | rfl | rfl | rfl | rfl <;> rfl), rfl⟩
def cutI (v : Int) (n : Nat) (m : Int) : Int:=qci .and .i64 (v.fdiv (2 ^ n)) m
def bitsP (op : Nat) (v : Int) : Nat :=
 if op ≤ 2 then u32 v - u32 v % 4096 else if op = 3 then placeP (cutI v 20 1) 31 ||| placeP (cutI v 1 1023) 21 ||| placeP (cutI v 11 1) 20 ||| placeP (cutI v 12 255) 12 else
 if 5 ≤ op ∧ op ≤ 10 then placeP (cutI v 12 1) 31 ||| placeP (cutI v 5 63) 25 ||| placeP (cutI v 1 15) 8 ||| placeP (cutI v 11 1) 7 else
 if 16 ≤ op ∧ op ≤ 18 then placeP (cutI v 5 127) 25 ||| placeP (qci .and .i64 v 31) 7 else if 25 ≤ op ∧ op ≤ 27 then placeP (qci .and .i64 v 31) 20 else
 if 28 ≤ op then 0 else placeP (qci .and .i64 v 4095) 20
theorem qfj {a b : Nat} (ha : a < 4294967296) (hb : b < 4294967296) : a ||| b < 4294967296:=Nat.or_lt_two_pow (n:=32) ha hb
theorem or4_u {a b c d : Nat} (ha : a < 4294967296) (hb : b < 4294967296) (hc : c < 4294967296) (hd : d < 4294967296) : qci .or .u32 (qci .or .u32 (qci .or .u32 (a : Int) b) c) d = ((a ||| b ||| c ||| d : Nat) : Int):=by
 rw [qbn ha hb,qbn (qfj ha hb) hc,qbn (qfj (qfj ha hb) hc) hd]
section
attribute [local irreducible] qci IntKind.wrap u32
theorem bits_spec (op : Nat) (v : Int) (hv : -2147483648 ≤ v ∧ v ≤ 2147483647) : Spec Tryz.prog 70 #[.int .i64 op,.int .i32 v] (fun _=>True) [] (fun ρ ρ' r L=>ρ' = ρ ∧ r = .int .u32 (bitsP op v : Int) ∧ L = []):=by
 refine Spec.of 93 Tryz.func70 rfl Tryz.ntmps70 [(0,_),(1,_)] rfl rfl ?_
 intro cx ρ hr h0
 obtain ⟨hv1,hv2⟩:=hv
 have hm : qci .and .u32 (IntKind.u32.wrap v) 4294963200 = ((u32 v - u32 v % 4096 : Nat) : Int):=by
  have h:=qdx (b:=4294963200) (u32_lt v) (by omega)
  rw [and_hi12 _ (u32_lt v)] at h
  rw [qce]; exact h
 refine Cd.seq fun K31 hK31=>?_
 refine Cd.qac [(0,false)] rfl rfl ?_
 refine Jp.y 4 rfl (qaa rfl) rfl rfl Kp.true (Y.assign rfl rfl) ?_
 refine Jp.qae hK31 ?_
 refine Cd.seq fun K32 hK32=>?_
 refine Cd.qac [(0,false),(1,false),(2,false)] rfl rfl ?_
 refine Jp.y 6 rfl (qaa rfl) rfl rfl Kp.true (Y.move rfl rfl) ?_
 refine Jp.y 7 rfl (qaa rfl) rfl rfl Kp.true (Y.qaw rfl rfl underlying21 underlying3 (by exact qaj (by omega) (by omega))) ?_
 refine Jp.y 5 rfl (qaa rfl) rfl rfl Kp.true (Y.assign rfl rfl) ?_
 refine Jp.qae hK32 ?_
 refine Cd.seq fun K33 hK33=>?_
 refine Cd.block ?_
 refine Cd.seq fun K34 hK34=>?_
 refine Cd.qac [(0,false),(1,false),(2,false)] rfl rfl ?_
 refine Jp.y 9 rfl (qaa rfl) rfl rfl Kp.true (Y.move rfl rfl) ?_
 refine Jp.y 10 rfl (qaa rfl) rfl rfl Kp.true (Y.leq rfl rfl rfl) ?_
 refine Jp.y 8 rfl (qaa rfl) rfl rfl Kp.true (Y.assign rfl rfl) ?_
 refine Jp.qae hK34 ?_
 refine Cd.qar rfl (fun g8=>?_) (fun g8=>?_)
 ·skip
  try simp only [sG0] at g8
  refine Cd.seq fun K35 hK35=>?_
  refine Cd.qac [(0,false),(1,false),(2,false),(3,false)] rfl rfl ?_
  refine Jp.y 11 rfl (qaa rfl) rfl rfl Kp.true (Y.move rfl rfl) ?_
  refine Jp.y 12 rfl (qaa rfl) rfl rfl Kp.true (Y.qaw rfl rfl underlying21 underlying24 (by rfl)) ?_
  refine Jp.y 13 rfl (qaa rfl) rfl rfl Kp.true (Y.bits rfl rfl rfl rfl) ?_
  refine Jp.y 4 rfl (qaa rfl) rfl rfl Kp.true (Y.assign rfl rfl) ?_
  refine Jp.qae hK35 ?_
  refine Cd.ret [] rfl (qbd rfl rfl) trivial ⟨rfl, congrArg (Value.int .u32) (by
   (rw [bitsP]; repeat first | exact hm | exact or4_u (qak _ _) (qak _ _) (qak _ _) (qak _ _) | exact qbn (qak _ _) (qak _ _) | rfl | rw [if_pos (by omega)] | rw [if_neg (by omega)])), rfl⟩
 ·skip
  try simp only [sG0] at g8
  refine Cd.seq fun K36 hK36=>?_
  refine Cd.qac [(0,false),(1,false),(2,false)] rfl rfl ?_
  refine Jp.y 15 rfl (qaa rfl) rfl rfl Kp.true (Y.move rfl rfl) ?_
  refine Jp.y 16 rfl (qaa rfl) rfl rfl Kp.true (Y.eql rfl rfl rfl) ?_
  refine Jp.y 14 rfl (qaa rfl) rfl rfl Kp.true (Y.assign rfl rfl) ?_
  refine Jp.qae hK36 ?_
  refine Cd.qar rfl (fun g14=>?_) (fun g14=>?_)
  ·skip
   try simp only [sG0] at g14
   refine Cd.seq fun K37 hK37=>?_
   refine Cd.qac [(0,false),(1,false),(2,false),(3,false),(4,false),(5,false),(6,false),(7,false),(8,false),(9,false),(10,false),(11,false),(12,false),(13,false),(14,false),(15,false),(16,false),(17,false),(18,false),(19,false)] rfl rfl ?_
   refine Jp.y 17 rfl (qaa rfl) rfl rfl Kp.true (Y.move rfl rfl) ?_
   refine Jp.y 18 rfl (qaa rfl) rfl rfl Kp.true (Y.shr rfl rfl rfl (by first | decide | omega)) ?_
   refine Jp.y 19 rfl (qaa rfl) rfl rfl Kp.true (Y.bits rfl rfl rfl rfl) ?_
   refine Jp.call [] [] (qat _ _ (by decide)) 20 rfl (qaa rfl) rfl rfl (Runs.fn rfl call69 rfl) (by decide) (by decide) rfl trivial ?_
   rintro v101 ρ101 L101 ⟨rfl,rfl,rfl⟩
   refine ⟨rfl,fun hle101=>⟨Kp.true,?_⟩⟩
   refine Jp.y 21 rfl (qaa rfl) rfl rfl Kp.true (Y.move rfl rfl) ?_
   refine Jp.y 22 rfl (qaa rfl) rfl rfl Kp.true (Y.shr rfl rfl rfl (by first | decide | omega)) ?_
   refine Jp.y 23 rfl (qaa rfl) rfl rfl Kp.true (Y.bits rfl rfl rfl rfl) ?_
   refine Jp.call [] [] (qat _ _ (by decide)) 24 rfl (qaa rfl) rfl rfl (Runs.fn rfl call69 rfl) (by decide) (by decide) rfl trivial ?_
   rintro v102 ρ102 L102 ⟨rfl,rfl,rfl⟩
   refine ⟨rfl,fun hle102=>⟨Kp.true,?_⟩⟩
   refine Jp.y 25 rfl (qaa rfl) rfl rfl Kp.true (Y.bits rfl rfl rfl rfl) ?_
   refine Jp.y 26 rfl (qaa rfl) rfl rfl Kp.true (Y.move rfl rfl) ?_
   refine Jp.y 27 rfl (qaa rfl) rfl rfl Kp.true (Y.shr rfl rfl rfl (by first | decide | omega)) ?_
   refine Jp.y 28 rfl (qaa rfl) rfl rfl Kp.true (Y.bits rfl rfl rfl rfl) ?_
   refine Jp.call [] [] (qat _ _ (by decide)) 29 rfl (qaa rfl) rfl rfl (Runs.fn rfl call69 rfl) (by decide) (by decide) rfl trivial ?_
   rintro v103 ρ103 L103 ⟨rfl,rfl,rfl⟩
   refine ⟨rfl,fun hle103=>⟨Kp.true,?_⟩⟩
   refine Jp.y 30 rfl (qaa rfl) rfl rfl Kp.true (Y.bits rfl rfl rfl rfl) ?_
   refine Jp.y 31 rfl (qaa rfl) rfl rfl Kp.true (Y.move rfl rfl) ?_
   refine Jp.y 32 rfl (qaa rfl) rfl rfl Kp.true (Y.shr rfl rfl rfl (by first | decide | omega)) ?_
   refine Jp.y 33 rfl (qaa rfl) rfl rfl Kp.true (Y.bits rfl rfl rfl rfl) ?_
   refine Jp.call [] [] (qat _ _ (by decide)) 34 rfl (qaa rfl) rfl rfl (Runs.fn rfl call69 rfl) (by decide) (by decide) rfl trivial ?_
   rintro v104 ρ104 L104 ⟨rfl,rfl,rfl⟩
   refine ⟨rfl,fun hle104=>⟨Kp.true,?_⟩⟩
   refine Jp.y 35 rfl (qaa rfl) rfl rfl Kp.true (Y.bits rfl rfl rfl rfl) ?_
   refine Jp.y 4 rfl (qaa rfl) rfl rfl Kp.true (Y.assign rfl rfl) ?_
   refine Jp.qae hK37 ?_
   refine Cd.ret [] rfl (qbd rfl rfl) trivial ⟨rfl, congrArg (Value.int .u32) (by
    (rw [bitsP]; repeat first | exact hm | exact or4_u (qak _ _) (qak _ _) (qak _ _) (qak _ _) | exact qbn (qak _ _) (qak _ _) | rfl | rw [if_pos (by omega)] | rw [if_neg (by omega)])), rfl⟩
  ·skip
   try simp only [sG0] at g14
   refine Cd.seq fun K38 hK38=>?_
   refine Cd.qac [(0,false),(1,false),(2,false),(3,false),(4,false),(5,false),(6,false)] rfl rfl ?_
   refine Jp.y 37 rfl (qaa rfl) rfl rfl Kp.true (Y.move rfl rfl) ?_
   refine Jp.y 38 rfl (qaa rfl) rfl rfl Kp.true (Y.geq rfl rfl rfl) ?_
   refine Jp.y 39 rfl (qaa rfl) rfl rfl Kp.true (Y.move rfl rfl) ?_
   refine Jp.split 39 rfl (fun g39=>?_) (fun g39=>?_)
   ·skip
    try simp only [sG0] at g39
    refine Jp.y 40 rfl (qab rfl rfl rfl rfl) rfl rfl Kp.true (Y.move rfl rfl) ?_
    refine Jp.y 41 rfl (qab rfl rfl rfl rfl) rfl rfl Kp.true (Y.leq rfl rfl rfl) ?_
    refine Jp.y 42 rfl (qaa rfl) rfl rfl Kp.true (Y.qav rfl rfl rfl) ?_
    refine Jp.y 36 rfl (qaa rfl) rfl rfl Kp.true (Y.assign rfl rfl) ?_
    refine Jp.qae hK38 ?_
    refine Cd.qar rfl (fun g36=>?_) (fun g36=>?_)
    ·skip
     try simp only [sG0] at g36
     refine Cd.seq fun K39 hK39=>?_
     refine Cd.qac [(0,false),(1,false),(2,false),(3,false),(4,false),(5,false),(6,false),(7,false),(8,false),(9,false),(10,false),(11,false),(12,false),(13,false),(14,false),(15,false),(16,false),(17,false),(18,false),(19,false)] rfl rfl ?_
     refine Jp.y 43 rfl (qaa rfl) rfl rfl Kp.true (Y.move rfl rfl) ?_
     refine Jp.y 44 rfl (qaa rfl) rfl rfl Kp.true (Y.shr rfl rfl rfl (by first | decide | omega)) ?_
     refine Jp.y 45 rfl (qaa rfl) rfl rfl Kp.true (Y.bits rfl rfl rfl rfl) ?_
     refine Jp.call [] [] (qat _ _ (by decide)) 46 rfl (qaa rfl) rfl rfl (Runs.fn rfl call69 rfl) (by decide) (by decide) rfl trivial ?_
     rintro v105 ρ105 L105 ⟨rfl,rfl,rfl⟩
     refine ⟨rfl,fun hle105=>⟨Kp.true,?_⟩⟩
     refine Jp.y 47 rfl (qaa rfl) rfl rfl Kp.true (Y.move rfl rfl) ?_
     refine Jp.y 48 rfl (qaa rfl) rfl rfl Kp.true (Y.shr rfl rfl rfl (by first | decide | omega)) ?_
     refine Jp.y 49 rfl (qaa rfl) rfl rfl Kp.true (Y.bits rfl rfl rfl rfl) ?_
     refine Jp.call [] [] (qat _ _ (by decide)) 50 rfl (qaa rfl) rfl rfl (Runs.fn rfl call69 rfl) (by decide) (by decide) rfl trivial ?_
     rintro v106 ρ106 L106 ⟨rfl,rfl,rfl⟩
     refine ⟨rfl,fun hle106=>⟨Kp.true,?_⟩⟩
     refine Jp.y 51 rfl (qaa rfl) rfl rfl Kp.true (Y.bits rfl rfl rfl rfl) ?_
     refine Jp.y 52 rfl (qaa rfl) rfl rfl Kp.true (Y.move rfl rfl) ?_
     refine Jp.y 53 rfl (qaa rfl) rfl rfl Kp.true (Y.shr rfl rfl rfl (by first | decide | omega)) ?_
     refine Jp.y 54 rfl (qaa rfl) rfl rfl Kp.true (Y.bits rfl rfl rfl rfl) ?_
     refine Jp.call [] [] (qat _ _ (by decide)) 55 rfl (qaa rfl) rfl rfl (Runs.fn rfl call69 rfl) (by decide) (by decide) rfl trivial ?_
     rintro v107 ρ107 L107 ⟨rfl,rfl,rfl⟩
     refine ⟨rfl,fun hle107=>⟨Kp.true,?_⟩⟩
     refine Jp.y 56 rfl (qaa rfl) rfl rfl Kp.true (Y.bits rfl rfl rfl rfl) ?_
     refine Jp.y 57 rfl (qaa rfl) rfl rfl Kp.true (Y.move rfl rfl) ?_
     refine Jp.y 58 rfl (qaa rfl) rfl rfl Kp.true (Y.shr rfl rfl rfl (by first | decide | omega)) ?_
     refine Jp.y 59 rfl (qaa rfl) rfl rfl Kp.true (Y.bits rfl rfl rfl rfl) ?_
     refine Jp.call [] [] (qat _ _ (by decide)) 60 rfl (qaa rfl) rfl rfl (Runs.fn rfl call69 rfl) (by decide) (by decide) rfl trivial ?_
     rintro v108 ρ108 L108 ⟨rfl,rfl,rfl⟩
     refine ⟨rfl,fun hle108=>⟨Kp.true,?_⟩⟩
     refine Jp.y 61 rfl (qaa rfl) rfl rfl Kp.true (Y.bits rfl rfl rfl rfl) ?_
     refine Jp.y 4 rfl (qaa rfl) rfl rfl Kp.true (Y.assign rfl rfl) ?_
     refine Jp.qae hK39 ?_
     refine Cd.ret [] rfl (qbd rfl rfl) trivial ⟨rfl, congrArg (Value.int .u32) (by
      (rw [bitsP]; repeat first | exact hm | exact or4_u (qak _ _) (qak _ _) (qak _ _) (qak _ _) | exact qbn (qak _ _) (qak _ _) | rfl | rw [if_pos (by omega)] | rw [if_neg (by omega)])), rfl⟩
    ·skip
     try simp only [sG0] at g36
     refine Cd.seq fun K40 hK40=>?_
     refine Cd.qac [(0,false),(1,false),(2,false),(3,false),(4,false),(5,false),(6,false)] rfl rfl ?_
     refine Jp.y 63 rfl (qaa rfl) rfl rfl Kp.true (Y.move rfl rfl) ?_
     refine Jp.y 64 rfl (qaa rfl) rfl rfl Kp.true (Y.geq rfl rfl rfl) ?_
     refine Jp.y 65 rfl (qaa rfl) rfl rfl Kp.true (Y.move rfl rfl) ?_
     refine Jp.split 65 rfl (fun g65=>?_) (fun g65=>?_)
     ·skip
      try simp only [sG0] at g65
      refine Jp.y 66 rfl (qab rfl rfl rfl rfl) rfl rfl Kp.true (Y.move rfl rfl) ?_
      refine Jp.y 67 rfl (qab rfl rfl rfl rfl) rfl rfl Kp.true (Y.leq rfl rfl rfl) ?_
      refine Jp.y 68 rfl (qaa rfl) rfl rfl Kp.true (Y.qav rfl rfl rfl) ?_
      refine Jp.y 62 rfl (qaa rfl) rfl rfl Kp.true (Y.assign rfl rfl) ?_
      refine Jp.qae hK40 ?_
      refine Cd.qar rfl (fun g62=>?_) (fun g62=>?_)
      ·skip
       try simp only [sG0] at g62
       refine Cd.seq fun K41 hK41=>?_
       refine Cd.qac [(0,false),(1,false),(2,false),(3,false),(4,false),(5,false),(6,false),(7,false),(8,false)] rfl rfl ?_
       refine Jp.y 69 rfl (qaa rfl) rfl rfl Kp.true (Y.move rfl rfl) ?_
       refine Jp.y 70 rfl (qaa rfl) rfl rfl Kp.true (Y.shr rfl rfl rfl (by first | decide | omega)) ?_
       refine Jp.y 71 rfl (qaa rfl) rfl rfl Kp.true (Y.bits rfl rfl rfl rfl) ?_
       refine Jp.call [] [] (qat _ _ (by decide)) 72 rfl (qaa rfl) rfl rfl (Runs.fn rfl call69 rfl) (by decide) (by decide) rfl trivial ?_
       rintro v109 ρ109 L109 ⟨rfl,rfl,rfl⟩
       refine ⟨rfl,fun hle109=>⟨Kp.true,?_⟩⟩
       refine Jp.y 73 rfl (qaa rfl) rfl rfl Kp.true (Y.move rfl rfl) ?_
       refine Jp.y 74 rfl (qaa rfl) rfl rfl Kp.true (Y.bits rfl rfl rfl rfl) ?_
       refine Jp.call [] [] (qat _ _ (by decide)) 75 rfl (qaa rfl) rfl rfl (Runs.fn rfl call69 rfl) (by decide) (by decide) rfl trivial ?_
       rintro v110 ρ110 L110 ⟨rfl,rfl,rfl⟩
       refine ⟨rfl,fun hle110=>⟨Kp.true,?_⟩⟩
       refine Jp.y 76 rfl (qaa rfl) rfl rfl Kp.true (Y.bits rfl rfl rfl rfl) ?_
       refine Jp.y 4 rfl (qaa rfl) rfl rfl Kp.true (Y.assign rfl rfl) ?_
       refine Jp.qae hK41 ?_
       refine Cd.ret [] rfl (qbd rfl rfl) trivial ⟨rfl, congrArg (Value.int .u32) (by
        (rw [bitsP]; repeat first | exact hm | exact or4_u (qak _ _) (qak _ _) (qak _ _) (qak _ _) | exact qbn (qak _ _) (qak _ _) | rfl | rw [if_pos (by omega)] | rw [if_neg (by omega)])), rfl⟩
      ·skip
       try simp only [sG0] at g62
       refine Cd.seq fun K42 hK42=>?_
       refine Cd.qac [(0,false),(1,false),(2,false),(3,false),(4,false),(5,false),(6,false)] rfl rfl ?_
       refine Jp.y 78 rfl (qaa rfl) rfl rfl Kp.true (Y.move rfl rfl) ?_
       refine Jp.y 79 rfl (qaa rfl) rfl rfl Kp.true (Y.geq rfl rfl rfl) ?_
       refine Jp.y 80 rfl (qaa rfl) rfl rfl Kp.true (Y.move rfl rfl) ?_
       refine Jp.split 80 rfl (fun g80=>?_) (fun g80=>?_)
       ·skip
        try simp only [sG0] at g80
        refine Jp.y 81 rfl (qab rfl rfl rfl rfl) rfl rfl Kp.true (Y.move rfl rfl) ?_
        refine Jp.y 82 rfl (qab rfl rfl rfl rfl) rfl rfl Kp.true (Y.leq rfl rfl rfl) ?_
        refine Jp.y 83 rfl (qaa rfl) rfl rfl Kp.true (Y.qav rfl rfl rfl) ?_
        refine Jp.y 77 rfl (qaa rfl) rfl rfl Kp.true (Y.assign rfl rfl) ?_
        refine Jp.qae hK42 ?_
        refine Cd.qar rfl (fun g77=>?_) (fun g77=>?_)
        ·skip
         try simp only [sG0] at g77
         refine Cd.seq fun K43 hK43=>?_
         refine Cd.qac [(0,false),(1,false),(2,false),(3,false)] rfl rfl ?_
         refine Jp.y 84 rfl (qaa rfl) rfl rfl Kp.true (Y.move rfl rfl) ?_
         refine Jp.y 85 rfl (qaa rfl) rfl rfl Kp.true (Y.bits rfl rfl rfl rfl) ?_
         refine Jp.call [] [] (qat _ _ (by decide)) 86 rfl (qaa rfl) rfl rfl (Runs.fn rfl call69 rfl) (by decide) (by decide) rfl trivial ?_
         rintro v111 ρ111 L111 ⟨rfl,rfl,rfl⟩
         refine ⟨rfl,fun hle111=>⟨Kp.true,?_⟩⟩
         refine Jp.y 4 rfl (qaa rfl) rfl rfl Kp.true (Y.assign rfl rfl) ?_
         refine Jp.qae hK43 ?_
         refine Cd.ret [] rfl (qbd rfl rfl) trivial ⟨rfl, congrArg (Value.int .u32) (by
          (rw [bitsP]; repeat first | exact hm | exact or4_u (qak _ _) (qak _ _) (qak _ _) (qak _ _) | exact qbn (qak _ _) (qak _ _) | rfl | rw [if_pos (by omega)] | rw [if_neg (by omega)])), rfl⟩
        ·skip
         try simp only [sG0] at g77
         refine Cd.seq fun K44 hK44=>?_
         refine Cd.qac [(0,false),(1,false),(2,false)] rfl rfl ?_
         refine Jp.y 88 rfl (qaa rfl) rfl rfl Kp.true (Y.move rfl rfl) ?_
         refine Jp.y 89 rfl (qaa rfl) rfl rfl Kp.true (Y.geq rfl rfl rfl) ?_
         refine Jp.y 87 rfl (qaa rfl) rfl rfl Kp.true (Y.assign rfl rfl) ?_
         refine Jp.qae hK44 ?_
         refine Cd.qar rfl (fun g87=>?_) (fun g87=>?_)
         ·skip
          try simp only [sG0] at g87
          refine Cd.seq fun K45 hK45=>?_
          refine Cd.qac [(0,false)] rfl rfl ?_
          refine Jp.y 4 rfl (qaa rfl) rfl rfl Kp.true (Y.assign rfl rfl) ?_
          refine Jp.qae hK45 ?_
          refine Cd.ret [] rfl (qbd rfl rfl) trivial ⟨rfl, congrArg (Value.int .u32) (by
           (rw [bitsP]; repeat first | exact hm | exact or4_u (qak _ _) (qak _ _) (qak _ _) (qak _ _) | exact qbn (qak _ _) (qak _ _) | rfl | rw [if_pos (by omega)] | rw [if_neg (by omega)])), rfl⟩
         ·skip
          try simp only [sG0] at g87
          refine Cd.over rfl hK33 ?_
          refine Cd.seq fun K46 hK46=>?_
          refine Cd.qac [(0,false),(1,false),(2,false),(3,false)] rfl rfl ?_
          refine Jp.y 90 rfl (qaa rfl) rfl rfl Kp.true (Y.move rfl rfl) ?_
          refine Jp.y 91 rfl (qaa rfl) rfl rfl Kp.true (Y.bits rfl rfl rfl rfl) ?_
          refine Jp.call [] [] (qat _ _ (by decide)) 92 rfl (qaa rfl) rfl rfl (Runs.fn rfl call69 rfl) (by decide) (by decide) rfl trivial ?_
          rintro v112 ρ112 L112 ⟨rfl,rfl,rfl⟩
          refine ⟨rfl,fun hle112=>⟨Kp.true,?_⟩⟩
          refine Jp.y 4 rfl (qaa rfl) rfl rfl Kp.true (Y.assign rfl rfl) ?_
          refine Jp.qae hK46 ?_
          refine Cd.ret [] rfl (qbd rfl rfl) trivial ⟨rfl, congrArg (Value.int .u32) (by
           (exfalso; omega)), rfl⟩
       ·skip
        try simp only [sG0] at g80
        refine Jp.qaq 81 rfl (qab rfl rfl rfl rfl) rfl rfl Kp.true ?_
        refine Jp.qaq 82 rfl (qab rfl rfl rfl rfl) rfl rfl Kp.true ?_
        refine Jp.y 83 rfl (qaa rfl) rfl rfl Kp.true (Y.qay rfl rfl rfl) ?_
        refine Jp.y 77 rfl (qaa rfl) rfl rfl Kp.true (Y.assign rfl rfl) ?_
        refine Jp.qae hK42 ?_
        refine Cd.qbz rfl ?_
        refine Cd.seq fun K47 hK47=>?_
        refine Cd.qac [(0,false),(1,false),(2,false)] rfl rfl ?_
        refine Jp.y 88 rfl (qaa rfl) rfl rfl Kp.true (Y.move rfl rfl) ?_
        refine Jp.y 89 rfl (qaa rfl) rfl rfl Kp.true (Y.geq rfl rfl rfl) ?_
        refine Jp.y 87 rfl (qaa rfl) rfl rfl Kp.true (Y.assign rfl rfl) ?_
        refine Jp.qae hK47 ?_
        refine Cd.qar rfl (fun g87=>?_) (fun g87=>?_)
        ·skip
         try simp only [sG0] at g87
         refine Cd.seq fun K48 hK48=>?_
         refine Cd.qac [(0,false)] rfl rfl ?_
         refine Jp.y 4 rfl (qaa rfl) rfl rfl Kp.true (Y.assign rfl rfl) ?_
         refine Jp.qae hK48 ?_
         refine Cd.ret [] rfl (qbd rfl rfl) trivial ⟨rfl, congrArg (Value.int .u32) (by
          (exfalso; omega)), rfl⟩
        ·skip
         try simp only [sG0] at g87
         refine Cd.over rfl hK33 ?_
         refine Cd.seq fun K49 hK49=>?_
         refine Cd.qac [(0,false),(1,false),(2,false),(3,false)] rfl rfl ?_
         refine Jp.y 90 rfl (qaa rfl) rfl rfl Kp.true (Y.move rfl rfl) ?_
         refine Jp.y 91 rfl (qaa rfl) rfl rfl Kp.true (Y.bits rfl rfl rfl rfl) ?_
         refine Jp.call [] [] (qat _ _ (by decide)) 92 rfl (qaa rfl) rfl rfl (Runs.fn rfl call69 rfl) (by decide) (by decide) rfl trivial ?_
         rintro v113 ρ113 L113 ⟨rfl,rfl,rfl⟩
         refine ⟨rfl,fun hle113=>⟨Kp.true,?_⟩⟩
         refine Jp.y 4 rfl (qaa rfl) rfl rfl Kp.true (Y.assign rfl rfl) ?_
         refine Jp.qae hK49 ?_
         refine Cd.ret [] rfl (qbd rfl rfl) trivial ⟨rfl, congrArg (Value.int .u32) (by
          (rw [bitsP]; repeat first | exact hm | exact or4_u (qak _ _) (qak _ _) (qak _ _) (qak _ _) | exact qbn (qak _ _) (qak _ _) | rfl | rw [if_pos (by omega)] | rw [if_neg (by omega)])), rfl⟩
     ·skip
      try simp only [sG0] at g65
      refine Jp.qaq 66 rfl (qab rfl rfl rfl rfl) rfl rfl Kp.true ?_
      refine Jp.qaq 67 rfl (qab rfl rfl rfl rfl) rfl rfl Kp.true ?_
      refine Jp.y 68 rfl (qaa rfl) rfl rfl Kp.true (Y.qay rfl rfl rfl) ?_
      refine Jp.y 62 rfl (qaa rfl) rfl rfl Kp.true (Y.assign rfl rfl) ?_
      refine Jp.qae hK40 ?_
      refine Cd.qbz rfl ?_
      refine Cd.seq fun K50 hK50=>?_
      refine Cd.qac [(0,false),(1,false),(2,false),(3,false),(4,false),(5,false),(6,false)] rfl rfl ?_
      refine Jp.y 78 rfl (qaa rfl) rfl rfl Kp.true (Y.move rfl rfl) ?_
      refine Jp.y 79 rfl (qaa rfl) rfl rfl Kp.true (Y.geq rfl rfl rfl) ?_
      refine Jp.y 80 rfl (qaa rfl) rfl rfl Kp.true (Y.move rfl rfl) ?_
      refine Jp.split 80 rfl (fun g80=>?_) (fun g80=>?_)
      ·skip
       try simp only [sG0] at g80
       refine Jp.y 81 rfl (qab rfl rfl rfl rfl) rfl rfl Kp.true (Y.move rfl rfl) ?_
       refine Jp.y 82 rfl (qab rfl rfl rfl rfl) rfl rfl Kp.true (Y.leq rfl rfl rfl) ?_
       refine Jp.y 83 rfl (qaa rfl) rfl rfl Kp.true (Y.qav rfl rfl rfl) ?_
       refine Jp.y 77 rfl (qaa rfl) rfl rfl Kp.true (Y.assign rfl rfl) ?_
       refine Jp.qae hK50 ?_
       refine Cd.qar rfl (fun g77=>?_) (fun g77=>?_)
       ·skip
        try simp only [sG0] at g77
        refine Cd.seq fun K51 hK51=>?_
        refine Cd.qac [(0,false),(1,false),(2,false),(3,false)] rfl rfl ?_
        refine Jp.y 84 rfl (qaa rfl) rfl rfl Kp.true (Y.move rfl rfl) ?_
        refine Jp.y 85 rfl (qaa rfl) rfl rfl Kp.true (Y.bits rfl rfl rfl rfl) ?_
        refine Jp.call [] [] (qat _ _ (by decide)) 86 rfl (qaa rfl) rfl rfl (Runs.fn rfl call69 rfl) (by decide) (by decide) rfl trivial ?_
        rintro v114 ρ114 L114 ⟨rfl,rfl,rfl⟩
        refine ⟨rfl,fun hle114=>⟨Kp.true,?_⟩⟩
        refine Jp.y 4 rfl (qaa rfl) rfl rfl Kp.true (Y.assign rfl rfl) ?_
        refine Jp.qae hK51 ?_
        refine Cd.ret [] rfl (qbd rfl rfl) trivial ⟨rfl, congrArg (Value.int .u32) (by
         (exfalso; omega)), rfl⟩
       ·skip
        try simp only [sG0] at g77
        refine Cd.seq fun K52 hK52=>?_
        refine Cd.qac [(0,false),(1,false),(2,false)] rfl rfl ?_
        refine Jp.y 88 rfl (qaa rfl) rfl rfl Kp.true (Y.move rfl rfl) ?_
        refine Jp.y 89 rfl (qaa rfl) rfl rfl Kp.true (Y.geq rfl rfl rfl) ?_
        refine Jp.y 87 rfl (qaa rfl) rfl rfl Kp.true (Y.assign rfl rfl) ?_
        refine Jp.qae hK52 ?_
        refine Cd.qar rfl (fun g87=>?_) (fun g87=>?_)
        ·skip
         try simp only [sG0] at g87
         refine Cd.seq fun K53 hK53=>?_
         refine Cd.qac [(0,false)] rfl rfl ?_
         refine Jp.y 4 rfl (qaa rfl) rfl rfl Kp.true (Y.assign rfl rfl) ?_
         refine Jp.qae hK53 ?_
         refine Cd.ret [] rfl (qbd rfl rfl) trivial ⟨rfl, congrArg (Value.int .u32) (by
          (exfalso; omega)), rfl⟩
        ·skip
         try simp only [sG0] at g87
         refine Cd.over rfl hK33 ?_
         refine Cd.seq fun K54 hK54=>?_
         refine Cd.qac [(0,false),(1,false),(2,false),(3,false)] rfl rfl ?_
         refine Jp.y 90 rfl (qaa rfl) rfl rfl Kp.true (Y.move rfl rfl) ?_
         refine Jp.y 91 rfl (qaa rfl) rfl rfl Kp.true (Y.bits rfl rfl rfl rfl) ?_
         refine Jp.call [] [] (qat _ _ (by decide)) 92 rfl (qaa rfl) rfl rfl (Runs.fn rfl call69 rfl) (by decide) (by decide) rfl trivial ?_
         rintro v115 ρ115 L115 ⟨rfl,rfl,rfl⟩
         refine ⟨rfl,fun hle115=>⟨Kp.true,?_⟩⟩
         refine Jp.y 4 rfl (qaa rfl) rfl rfl Kp.true (Y.assign rfl rfl) ?_
         refine Jp.qae hK54 ?_
         refine Cd.ret [] rfl (qbd rfl rfl) trivial ⟨rfl, congrArg (Value.int .u32) (by
          (exfalso; omega)), rfl⟩
      ·skip
       try simp only [sG0] at g80
       refine Jp.qaq 81 rfl (qab rfl rfl rfl rfl) rfl rfl Kp.true ?_
       refine Jp.qaq 82 rfl (qab rfl rfl rfl rfl) rfl rfl Kp.true ?_
       refine Jp.y 83 rfl (qaa rfl) rfl rfl Kp.true (Y.qay rfl rfl rfl) ?_
       refine Jp.y 77 rfl (qaa rfl) rfl rfl Kp.true (Y.assign rfl rfl) ?_
       refine Jp.qae hK50 ?_
       refine Cd.qbz rfl ?_
       refine Cd.seq fun K55 hK55=>?_
       refine Cd.qac [(0,false),(1,false),(2,false)] rfl rfl ?_
       refine Jp.y 88 rfl (qaa rfl) rfl rfl Kp.true (Y.move rfl rfl) ?_
       refine Jp.y 89 rfl (qaa rfl) rfl rfl Kp.true (Y.geq rfl rfl rfl) ?_
       refine Jp.y 87 rfl (qaa rfl) rfl rfl Kp.true (Y.assign rfl rfl) ?_
       refine Jp.qae hK55 ?_
       refine Cd.qar rfl (fun g87=>?_) (fun g87=>?_)
       ·skip
        try simp only [sG0] at g87
        refine Cd.seq fun K56 hK56=>?_
        refine Cd.qac [(0,false)] rfl rfl ?_
        refine Jp.y 4 rfl (qaa rfl) rfl rfl Kp.true (Y.assign rfl rfl) ?_
        refine Jp.qae hK56 ?_
        refine Cd.ret [] rfl (qbd rfl rfl) trivial ⟨rfl, congrArg (Value.int .u32) (by
         (exfalso; omega)), rfl⟩
       ·skip
        try simp only [sG0] at g87
        refine Cd.over rfl hK33 ?_
        refine Cd.seq fun K57 hK57=>?_
        refine Cd.qac [(0,false),(1,false),(2,false),(3,false)] rfl rfl ?_
        refine Jp.y 90 rfl (qaa rfl) rfl rfl Kp.true (Y.move rfl rfl) ?_
        refine Jp.y 91 rfl (qaa rfl) rfl rfl Kp.true (Y.bits rfl rfl rfl rfl) ?_
        refine Jp.call [] [] (qat _ _ (by decide)) 92 rfl (qaa rfl) rfl rfl (Runs.fn rfl call69 rfl) (by decide) (by decide) rfl trivial ?_
        rintro v116 ρ116 L116 ⟨rfl,rfl,rfl⟩
        refine ⟨rfl,fun hle116=>⟨Kp.true,?_⟩⟩
        refine Jp.y 4 rfl (qaa rfl) rfl rfl Kp.true (Y.assign rfl rfl) ?_
        refine Jp.qae hK57 ?_
        refine Cd.ret [] rfl (qbd rfl rfl) trivial ⟨rfl, congrArg (Value.int .u32) (by
         (rw [bitsP]; repeat first | exact hm | exact or4_u (qak _ _) (qak _ _) (qak _ _) (qak _ _) | exact qbn (qak _ _) (qak _ _) | rfl | rw [if_pos (by omega)] | rw [if_neg (by omega)])), rfl⟩
   ·skip
    try simp only [sG0] at g39
    refine Jp.qaq 40 rfl (qab rfl rfl rfl rfl) rfl rfl Kp.true ?_
    refine Jp.qaq 41 rfl (qab rfl rfl rfl rfl) rfl rfl Kp.true ?_
    refine Jp.y 42 rfl (qaa rfl) rfl rfl Kp.true (Y.qay rfl rfl rfl) ?_
    refine Jp.y 36 rfl (qaa rfl) rfl rfl Kp.true (Y.assign rfl rfl) ?_
    refine Jp.qae hK38 ?_
    refine Cd.qbz rfl ?_
    refine Cd.seq fun K58 hK58=>?_
    refine Cd.qac [(0,false),(1,false),(2,false),(3,false),(4,false),(5,false),(6,false)] rfl rfl ?_
    refine Jp.y 63 rfl (qaa rfl) rfl rfl Kp.true (Y.move rfl rfl) ?_
    refine Jp.y 64 rfl (qaa rfl) rfl rfl Kp.true (Y.geq rfl rfl rfl) ?_
    refine Jp.y 65 rfl (qaa rfl) rfl rfl Kp.true (Y.move rfl rfl) ?_
    refine Jp.split 65 rfl (fun g65=>?_) (fun g65=>?_)
    ·skip
     try simp only [sG0] at g65
     refine Jp.y 66 rfl (qab rfl rfl rfl rfl) rfl rfl Kp.true (Y.move rfl rfl) ?_
     refine Jp.y 67 rfl (qab rfl rfl rfl rfl) rfl rfl Kp.true (Y.leq rfl rfl rfl) ?_
     refine Jp.y 68 rfl (qaa rfl) rfl rfl Kp.true (Y.qav rfl rfl rfl) ?_
     refine Jp.y 62 rfl (qaa rfl) rfl rfl Kp.true (Y.assign rfl rfl) ?_
     refine Jp.qae hK58 ?_
     refine Cd.qar rfl (fun g62=>?_) (fun g62=>?_)
     ·skip
      try simp only [sG0] at g62
      refine Cd.seq fun K59 hK59=>?_
      refine Cd.qac [(0,false),(1,false),(2,false),(3,false),(4,false),(5,false),(6,false),(7,false),(8,false)] rfl rfl ?_
      refine Jp.y 69 rfl (qaa rfl) rfl rfl Kp.true (Y.move rfl rfl) ?_
      refine Jp.y 70 rfl (qaa rfl) rfl rfl Kp.true (Y.shr rfl rfl rfl (by first | decide | omega)) ?_
      refine Jp.y 71 rfl (qaa rfl) rfl rfl Kp.true (Y.bits rfl rfl rfl rfl) ?_
      refine Jp.call [] [] (qat _ _ (by decide)) 72 rfl (qaa rfl) rfl rfl (Runs.fn rfl call69 rfl) (by decide) (by decide) rfl trivial ?_
      rintro v117 ρ117 L117 ⟨rfl,rfl,rfl⟩
      refine ⟨rfl,fun hle117=>⟨Kp.true,?_⟩⟩
      refine Jp.y 73 rfl (qaa rfl) rfl rfl Kp.true (Y.move rfl rfl) ?_
      refine Jp.y 74 rfl (qaa rfl) rfl rfl Kp.true (Y.bits rfl rfl rfl rfl) ?_
      refine Jp.call [] [] (qat _ _ (by decide)) 75 rfl (qaa rfl) rfl rfl (Runs.fn rfl call69 rfl) (by decide) (by decide) rfl trivial ?_
      rintro v118 ρ118 L118 ⟨rfl,rfl,rfl⟩
      refine ⟨rfl,fun hle118=>⟨Kp.true,?_⟩⟩
      refine Jp.y 76 rfl (qaa rfl) rfl rfl Kp.true (Y.bits rfl rfl rfl rfl) ?_
      refine Jp.y 4 rfl (qaa rfl) rfl rfl Kp.true (Y.assign rfl rfl) ?_
      refine Jp.qae hK59 ?_
      refine Cd.ret [] rfl (qbd rfl rfl) trivial ⟨rfl, congrArg (Value.int .u32) (by
       (exfalso; omega)), rfl⟩
     ·skip
      try simp only [sG0] at g62
      refine Cd.seq fun K60 hK60=>?_
      refine Cd.qac [(0,false),(1,false),(2,false),(3,false),(4,false),(5,false),(6,false)] rfl rfl ?_
      refine Jp.y 78 rfl (qaa rfl) rfl rfl Kp.true (Y.move rfl rfl) ?_
      refine Jp.y 79 rfl (qaa rfl) rfl rfl Kp.true (Y.geq rfl rfl rfl) ?_
      refine Jp.y 80 rfl (qaa rfl) rfl rfl Kp.true (Y.move rfl rfl) ?_
      refine Jp.split 80 rfl (fun g80=>?_) (fun g80=>?_)
      ·skip
       try simp only [sG0] at g80
       refine Jp.y 81 rfl (qab rfl rfl rfl rfl) rfl rfl Kp.true (Y.move rfl rfl) ?_
       refine Jp.y 82 rfl (qab rfl rfl rfl rfl) rfl rfl Kp.true (Y.leq rfl rfl rfl) ?_
       refine Jp.y 83 rfl (qaa rfl) rfl rfl Kp.true (Y.qav rfl rfl rfl) ?_
       refine Jp.y 77 rfl (qaa rfl) rfl rfl Kp.true (Y.assign rfl rfl) ?_
       refine Jp.qae hK60 ?_
       refine Cd.qar rfl (fun g77=>?_) (fun g77=>?_)
       ·skip
        try simp only [sG0] at g77
        refine Cd.seq fun K61 hK61=>?_
        refine Cd.qac [(0,false),(1,false),(2,false),(3,false)] rfl rfl ?_
        refine Jp.y 84 rfl (qaa rfl) rfl rfl Kp.true (Y.move rfl rfl) ?_
        refine Jp.y 85 rfl (qaa rfl) rfl rfl Kp.true (Y.bits rfl rfl rfl rfl) ?_
        refine Jp.call [] [] (qat _ _ (by decide)) 86 rfl (qaa rfl) rfl rfl (Runs.fn rfl call69 rfl) (by decide) (by decide) rfl trivial ?_
        rintro v119 ρ119 L119 ⟨rfl,rfl,rfl⟩
        refine ⟨rfl,fun hle119=>⟨Kp.true,?_⟩⟩
        refine Jp.y 4 rfl (qaa rfl) rfl rfl Kp.true (Y.assign rfl rfl) ?_
        refine Jp.qae hK61 ?_
        refine Cd.ret [] rfl (qbd rfl rfl) trivial ⟨rfl, congrArg (Value.int .u32) (by
         (exfalso; omega)), rfl⟩
       ·skip
        try simp only [sG0] at g77
        refine Cd.seq fun K62 hK62=>?_
        refine Cd.qac [(0,false),(1,false),(2,false)] rfl rfl ?_
        refine Jp.y 88 rfl (qaa rfl) rfl rfl Kp.true (Y.move rfl rfl) ?_
        refine Jp.y 89 rfl (qaa rfl) rfl rfl Kp.true (Y.geq rfl rfl rfl) ?_
        refine Jp.y 87 rfl (qaa rfl) rfl rfl Kp.true (Y.assign rfl rfl) ?_
        refine Jp.qae hK62 ?_
        refine Cd.qar rfl (fun g87=>?_) (fun g87=>?_)
        ·skip
         try simp only [sG0] at g87
         refine Cd.seq fun K63 hK63=>?_
         refine Cd.qac [(0,false)] rfl rfl ?_
         refine Jp.y 4 rfl (qaa rfl) rfl rfl Kp.true (Y.assign rfl rfl) ?_
         refine Jp.qae hK63 ?_
         refine Cd.ret [] rfl (qbd rfl rfl) trivial ⟨rfl, congrArg (Value.int .u32) (by
          (exfalso; omega)), rfl⟩
        ·skip
         try simp only [sG0] at g87
         refine Cd.over rfl hK33 ?_
         refine Cd.seq fun K64 hK64=>?_
         refine Cd.qac [(0,false),(1,false),(2,false),(3,false)] rfl rfl ?_
         refine Jp.y 90 rfl (qaa rfl) rfl rfl Kp.true (Y.move rfl rfl) ?_
         refine Jp.y 91 rfl (qaa rfl) rfl rfl Kp.true (Y.bits rfl rfl rfl rfl) ?_
         refine Jp.call [] [] (qat _ _ (by decide)) 92 rfl (qaa rfl) rfl rfl (Runs.fn rfl call69 rfl) (by decide) (by decide) rfl trivial ?_
         rintro v120 ρ120 L120 ⟨rfl,rfl,rfl⟩
         refine ⟨rfl,fun hle120=>⟨Kp.true,?_⟩⟩
         refine Jp.y 4 rfl (qaa rfl) rfl rfl Kp.true (Y.assign rfl rfl) ?_
         refine Jp.qae hK64 ?_
         refine Cd.ret [] rfl (qbd rfl rfl) trivial ⟨rfl, congrArg (Value.int .u32) (by
          (exfalso; omega)), rfl⟩
      ·skip
       try simp only [sG0] at g80
       refine Jp.qaq 81 rfl (qab rfl rfl rfl rfl) rfl rfl Kp.true ?_
       refine Jp.qaq 82 rfl (qab rfl rfl rfl rfl) rfl rfl Kp.true ?_
       refine Jp.y 83 rfl (qaa rfl) rfl rfl Kp.true (Y.qay rfl rfl rfl) ?_
       refine Jp.y 77 rfl (qaa rfl) rfl rfl Kp.true (Y.assign rfl rfl) ?_
       refine Jp.qae hK60 ?_
       refine Cd.qbz rfl ?_
       refine Cd.seq fun K65 hK65=>?_
       refine Cd.qac [(0,false),(1,false),(2,false)] rfl rfl ?_
       refine Jp.y 88 rfl (qaa rfl) rfl rfl Kp.true (Y.move rfl rfl) ?_
       refine Jp.y 89 rfl (qaa rfl) rfl rfl Kp.true (Y.geq rfl rfl rfl) ?_
       refine Jp.y 87 rfl (qaa rfl) rfl rfl Kp.true (Y.assign rfl rfl) ?_
       refine Jp.qae hK65 ?_
       refine Cd.qar rfl (fun g87=>?_) (fun g87=>?_)
       ·skip
        try simp only [sG0] at g87
        refine Cd.seq fun K66 hK66=>?_
        refine Cd.qac [(0,false)] rfl rfl ?_
        refine Jp.y 4 rfl (qaa rfl) rfl rfl Kp.true (Y.assign rfl rfl) ?_
        refine Jp.qae hK66 ?_
        refine Cd.ret [] rfl (qbd rfl rfl) trivial ⟨rfl, congrArg (Value.int .u32) (by
         (exfalso; omega)), rfl⟩
       ·skip
        try simp only [sG0] at g87
        refine Cd.over rfl hK33 ?_
        refine Cd.seq fun K67 hK67=>?_
        refine Cd.qac [(0,false),(1,false),(2,false),(3,false)] rfl rfl ?_
        refine Jp.y 90 rfl (qaa rfl) rfl rfl Kp.true (Y.move rfl rfl) ?_
        refine Jp.y 91 rfl (qaa rfl) rfl rfl Kp.true (Y.bits rfl rfl rfl rfl) ?_
        refine Jp.call [] [] (qat _ _ (by decide)) 92 rfl (qaa rfl) rfl rfl (Runs.fn rfl call69 rfl) (by decide) (by decide) rfl trivial ?_
        rintro v121 ρ121 L121 ⟨rfl,rfl,rfl⟩
        refine ⟨rfl,fun hle121=>⟨Kp.true,?_⟩⟩
        refine Jp.y 4 rfl (qaa rfl) rfl rfl Kp.true (Y.assign rfl rfl) ?_
        refine Jp.qae hK67 ?_
        refine Cd.ret [] rfl (qbd rfl rfl) trivial ⟨rfl, congrArg (Value.int .u32) (by
         (exfalso; omega)), rfl⟩
    ·skip
     try simp only [sG0] at g65
     refine Jp.qaq 66 rfl (qab rfl rfl rfl rfl) rfl rfl Kp.true ?_
     refine Jp.qaq 67 rfl (qab rfl rfl rfl rfl) rfl rfl Kp.true ?_
     refine Jp.y 68 rfl (qaa rfl) rfl rfl Kp.true (Y.qay rfl rfl rfl) ?_
     refine Jp.y 62 rfl (qaa rfl) rfl rfl Kp.true (Y.assign rfl rfl) ?_
     refine Jp.qae hK58 ?_
     refine Cd.qbz rfl ?_
     refine Cd.seq fun K68 hK68=>?_
     refine Cd.qac [(0,false),(1,false),(2,false),(3,false),(4,false),(5,false),(6,false)] rfl rfl ?_
     refine Jp.y 78 rfl (qaa rfl) rfl rfl Kp.true (Y.move rfl rfl) ?_
     refine Jp.y 79 rfl (qaa rfl) rfl rfl Kp.true (Y.geq rfl rfl rfl) ?_
     refine Jp.y 80 rfl (qaa rfl) rfl rfl Kp.true (Y.move rfl rfl) ?_
     refine Jp.split 80 rfl (fun g80=>?_) (fun g80=>?_)
     ·skip
      try simp only [sG0] at g80
      refine Jp.y 81 rfl (qab rfl rfl rfl rfl) rfl rfl Kp.true (Y.move rfl rfl) ?_
      refine Jp.y 82 rfl (qab rfl rfl rfl rfl) rfl rfl Kp.true (Y.leq rfl rfl rfl) ?_
      refine Jp.y 83 rfl (qaa rfl) rfl rfl Kp.true (Y.qav rfl rfl rfl) ?_
      refine Jp.y 77 rfl (qaa rfl) rfl rfl Kp.true (Y.assign rfl rfl) ?_
      refine Jp.qae hK68 ?_
      refine Cd.qar rfl (fun g77=>?_) (fun g77=>?_)
      ·skip
       try simp only [sG0] at g77
       refine Cd.seq fun K69 hK69=>?_
       refine Cd.qac [(0,false),(1,false),(2,false),(3,false)] rfl rfl ?_
       refine Jp.y 84 rfl (qaa rfl) rfl rfl Kp.true (Y.move rfl rfl) ?_
       refine Jp.y 85 rfl (qaa rfl) rfl rfl Kp.true (Y.bits rfl rfl rfl rfl) ?_
       refine Jp.call [] [] (qat _ _ (by decide)) 86 rfl (qaa rfl) rfl rfl (Runs.fn rfl call69 rfl) (by decide) (by decide) rfl trivial ?_
       rintro v122 ρ122 L122 ⟨rfl,rfl,rfl⟩
       refine ⟨rfl,fun hle122=>⟨Kp.true,?_⟩⟩
       refine Jp.y 4 rfl (qaa rfl) rfl rfl Kp.true (Y.assign rfl rfl) ?_
       refine Jp.qae hK69 ?_
       refine Cd.ret [] rfl (qbd rfl rfl) trivial ⟨rfl, congrArg (Value.int .u32) (by
        (exfalso; omega)), rfl⟩
      ·skip
       try simp only [sG0] at g77
       refine Cd.seq fun K70 hK70=>?_
       refine Cd.qac [(0,false),(1,false),(2,false)] rfl rfl ?_
       refine Jp.y 88 rfl (qaa rfl) rfl rfl Kp.true (Y.move rfl rfl) ?_
       refine Jp.y 89 rfl (qaa rfl) rfl rfl Kp.true (Y.geq rfl rfl rfl) ?_
       refine Jp.y 87 rfl (qaa rfl) rfl rfl Kp.true (Y.assign rfl rfl) ?_
       refine Jp.qae hK70 ?_
       refine Cd.qar rfl (fun g87=>?_) (fun g87=>?_)
       ·skip
        try simp only [sG0] at g87
        refine Cd.seq fun K71 hK71=>?_
        refine Cd.qac [(0,false)] rfl rfl ?_
        refine Jp.y 4 rfl (qaa rfl) rfl rfl Kp.true (Y.assign rfl rfl) ?_
        refine Jp.qae hK71 ?_
        refine Cd.ret [] rfl (qbd rfl rfl) trivial ⟨rfl, congrArg (Value.int .u32) (by
         (exfalso; omega)), rfl⟩
       ·skip
        try simp only [sG0] at g87
        refine Cd.over rfl hK33 ?_
        refine Cd.seq fun K72 hK72=>?_
        refine Cd.qac [(0,false),(1,false),(2,false),(3,false)] rfl rfl ?_
        refine Jp.y 90 rfl (qaa rfl) rfl rfl Kp.true (Y.move rfl rfl) ?_
        refine Jp.y 91 rfl (qaa rfl) rfl rfl Kp.true (Y.bits rfl rfl rfl rfl) ?_
        refine Jp.call [] [] (qat _ _ (by decide)) 92 rfl (qaa rfl) rfl rfl (Runs.fn rfl call69 rfl) (by decide) (by decide) rfl trivial ?_
        rintro v123 ρ123 L123 ⟨rfl,rfl,rfl⟩
        refine ⟨rfl,fun hle123=>⟨Kp.true,?_⟩⟩
        refine Jp.y 4 rfl (qaa rfl) rfl rfl Kp.true (Y.assign rfl rfl) ?_
        refine Jp.qae hK72 ?_
        refine Cd.ret [] rfl (qbd rfl rfl) trivial ⟨rfl, congrArg (Value.int .u32) (by
         (exfalso; omega)), rfl⟩
     ·skip
      try simp only [sG0] at g80
      refine Jp.qaq 81 rfl (qab rfl rfl rfl rfl) rfl rfl Kp.true ?_
      refine Jp.qaq 82 rfl (qab rfl rfl rfl rfl) rfl rfl Kp.true ?_
      refine Jp.y 83 rfl (qaa rfl) rfl rfl Kp.true (Y.qay rfl rfl rfl) ?_
      refine Jp.y 77 rfl (qaa rfl) rfl rfl Kp.true (Y.assign rfl rfl) ?_
      refine Jp.qae hK68 ?_
      refine Cd.qbz rfl ?_
      refine Cd.seq fun K73 hK73=>?_
      refine Cd.qac [(0,false),(1,false),(2,false)] rfl rfl ?_
      refine Jp.y 88 rfl (qaa rfl) rfl rfl Kp.true (Y.move rfl rfl) ?_
      refine Jp.y 89 rfl (qaa rfl) rfl rfl Kp.true (Y.geq rfl rfl rfl) ?_
      refine Jp.y 87 rfl (qaa rfl) rfl rfl Kp.true (Y.assign rfl rfl) ?_
      refine Jp.qae hK73 ?_
      refine Cd.qar rfl (fun g87=>?_) (fun g87=>?_)
      ·skip
       try simp only [sG0] at g87
       refine Cd.seq fun K74 hK74=>?_
       refine Cd.qac [(0,false)] rfl rfl ?_
       refine Jp.y 4 rfl (qaa rfl) rfl rfl Kp.true (Y.assign rfl rfl) ?_
       refine Jp.qae hK74 ?_
       refine Cd.ret [] rfl (qbd rfl rfl) trivial ⟨rfl, congrArg (Value.int .u32) (by
        (exfalso; omega)), rfl⟩
      ·skip
       try simp only [sG0] at g87
       refine Cd.over rfl hK33 ?_
       refine Cd.seq fun K75 hK75=>?_
       refine Cd.qac [(0,false),(1,false),(2,false),(3,false)] rfl rfl ?_
       refine Jp.y 90 rfl (qaa rfl) rfl rfl Kp.true (Y.move rfl rfl) ?_
       refine Jp.y 91 rfl (qaa rfl) rfl rfl Kp.true (Y.bits rfl rfl rfl rfl) ?_
       refine Jp.call [] [] (qat _ _ (by decide)) 92 rfl (qaa rfl) rfl rfl (Runs.fn rfl call69 rfl) (by decide) (by decide) rfl trivial ?_
       rintro v124 ρ124 L124 ⟨rfl,rfl,rfl⟩
       refine ⟨rfl,fun hle124=>⟨Kp.true,?_⟩⟩
       refine Jp.y 4 rfl (qaa rfl) rfl rfl Kp.true (Y.assign rfl rfl) ?_
       refine Jp.qae hK75 ?_
       refine Cd.ret [] rfl (qbd rfl rfl) trivial ⟨rfl, congrArg (Value.int .u32) (by
        (rw [bitsP]; repeat first | exact hm | exact or4_u (qak _ _) (qak _ _) (qak _ _) (qak _ _) | exact qbn (qak _ _) (qak _ _) | rfl | rw [if_pos (by omega)] | rw [if_neg (by omega)])), rfl⟩
end
end Go.Proofs.YtnfkalpgidiafaaGreat

namespace Go.Proofs.YtnfkalpgidiafaaGreat
open Go
def qdc (l : List Int) : qal:=l.flatMap fun x=>leB x.toNat 4
theorem wordsB_len (l : List Int) : (qdc l).length = 4 * l.length:=by
 induction l with
 | nil=>rfl
 | cons x l ih =>
  have : qdc (x :: l) = leB x.toNat 4 ++ qdc l:=rfl
  rw [this,List.length_append,ih,qeq,List.length_cons]; omega
theorem wordsB_snoc {xs : List Int} {i m : Nat} (hi : i < xs.length) (hm : xs[i] = (m : Int)) : qdc (xs.take (i + 1)) = qdc (xs.take i) ++ leB m 4:=by
 rw [← List.take_append_getElem hi,hm]
 unfold qdc
 rw [List.flatMap_append]
 simp
def map3 : MemG:=(mapM (mapM (mapM (newM 50) 4096 256 5).2 65536 256 3).2 65792 256 1).2
def madeM (xs : List Int) : MemG:=(qdg (qdg map3 4096 (qdc (xs.take 64)) 65536 0).2 65536 [] 65536 0).2
end Go.Proofs.YtnfkalpgidiafaaGreat

namespace Go.Proofs.YtnfkalpgidiafaaGreat
open Go
def atP (pc k : Nat) : Nat:=(pc + 4 * k) % 4294967296
def findL (M : MemG) (pc : Nat) : Nat → Nat → List InsP
 | 0,_=>[]
 | n + 1,k=>if atP pc k / 256 = pc / 256 ∧ (qbs M (atP pc k)).2.kind = 0 then (qbs M (atP pc k)).1 :: (if endsP (qbs M (atP pc k)).1.op then [] else findL M pc n (k + 1)) else []
def mostP (most : Int) : Nat:=(min (max most 1) 64).toNat
def blockC (pc : Nat) (B : Option Addr) (l d gen : Nat) : List Value:=[.int .u32 (pc : Int),.slice B l d,.int .u32 (gen : Int)]
end Go.Proofs.YtnfkalpgidiafaaGreat

namespace Go.Proofs.YtnfkalpgidiafaaGreat
open _root_.Go.Proofs.Tryz
open Go
def insEq (a b : InsP) : Bool:=((a.op : Int) == (b.op : Int)) && (((a.rd : Int) == (b.rd : Int)) && (((a.r1 : Int) == (b.r1 : Int)) && (((a.r2 : Int) == (b.r2 : Int)) && ((a.imm == b.imm) && true))))
def evEq (a b : EvP) : Bool:=((a.kind : Int) == (b.kind : Int)) && (((a.addr : Int) == (b.addr : Int)) && ((a.why == b.why) && true))
theorem evEq_iff (a b : EvP) : evEq a b = true ↔ a = b:=by
 obtain ⟨a1,a2,a3⟩:=a
 obtain ⟨b1,b2,b3⟩:=b
 simp [evEq]
 omega
theorem ins_guard : Tryz.prog.eqGuardType Tryz.prog.depth 60 = false:=by kernel_rfl
theorem ins_stood : Tryz.prog.stoodInHeld 60 = false:=by kernel_rfl
theorem ins_fields : Tryz.prog.underlying 60 = some (.struct (Tryz.prog.fieldsOf 60)):=by kernel_rfl
theorem ev_guard : Tryz.prog.eqGuardType Tryz.prog.depth 46 = false:=by kernel_rfl
theorem ev_stood : Tryz.prog.stoodInHeld 46 = false:=by kernel_rfl
theorem ev_fields : Tryz.prog.underlying 46 = some (.struct (Tryz.prog.fieldsOf 46)):=by kernel_rfl
theorem ins_list : (Tryz.prog.fieldsOf 60).toList = [Field.mk "Op" 3 0 false "" "" 0, Field.mk "Rd" 3 1 false "" "" 8, Field.mk "Rs1" 3 2 false "" "" 16, Field.mk "Rs2" 3 3 false "" "" 24, Field.mk "Imm" 21 4 false "" "" 32] := by kernel_rfl
theorem ev_list : (Tryz.prog.fieldsOf 46).toList = [Field.mk "Kind" 3 0 false "" "" 0, Field.mk "Addr" 24 1 false "" "" 8, Field.mk "Why" 44 2 false "" "" 16] := by kernel_rfl
theorem ins_eq (a b : InsP) (w : World) : (Op.eqFields 9999 a.cells.toArray b.cells.toArray (Tryz.prog.fieldsOf 60).toList).run Tryz.prog w = .ok (insEq a b) w:=by
 rw [ins_list]
 exact qbo (by decide) (qbl isAgg3 rfl) (qbl isAgg3 rfl) underlying3 (qbo (by decide) (qbl isAgg3 rfl) (qbl isAgg3 rfl) underlying3 (qbo (by decide) (qbl isAgg3 rfl) (qbl isAgg3 rfl) underlying3 (qbo (by decide) (qbl isAgg3 rfl) (qbl isAgg3 rfl) underlying3 (qbo (by decide) (qbl isAgg21 rfl) (qbl isAgg21 rfl) underlying21 rfl))))
theorem ev_eq (a b : EvP) (w : World) : (Op.eqFields 9999 a.cells.toArray b.cells.toArray (Tryz.prog.fieldsOf 46).toList).run Tryz.prog w = .ok (evEq a b) w:=by
 rw [ev_list]
 exact qbo (by decide) (qbl isAgg3 rfl) (qbl isAgg3 rfl) underlying3 (qbo (by decide) (qbl isAgg24 rfl) (qbl isAgg24 rfl) underlying24 (qbo (by decide) (qbl isAgg44 rfl) (qbl isAgg44 rfl) underlying44 rfl))
end Go.Proofs.YtnfkalpgidiafaaGreat

namespace Go.Proofs.YtnfkalpgidiafaaGreat
open _root_.Go.Proofs.Tryz
open Go
def wholeP (op : Nat) : Nat:=if op = 46 then 267386895 else if op = 47 then 4111 else if op = 48 then 115 else if op = 49 then 1048691 else 0
theorem whole_spec (op : Nat) (h : op < 50) : Spec Tryz.prog 66 #[.int .i64 op] (fun _=>True) [] (fun ρ ρ' v L=>ρ' = ρ ∧ v = .tuple #[.int .u32 (wholeP op : Int),.bool (decide (46 ≤ op))] ∧ L = []):=by
  refine Spec.of 13 Tryz.func66 rfl Tryz.ntmps66 [(0,_)] rfl rfl ?_
  intro cx ρ hr h0
  refine Cd.seq fun K1 hK1=>?_
  refine Cd.qac [(0,false),(1,false)] rfl rfl ?_
  refine Jp.y 2 rfl (qaa rfl) rfl rfl Kp.true (Y.assign rfl rfl) ?_
  refine Jp.y 3 rfl (qaa rfl) rfl rfl Kp.true (Y.assign rfl rfl) ?_
  refine Jp.qae hK1 ?_
  refine Cd.seq fun K2 hK2=>?_
  refine Cd.seq fun K3 hK3=>?_
  refine Cd.qac [(0,false)] rfl rfl ?_
  refine Jp.y 4 rfl (qaa rfl) rfl rfl Kp.true (Y.move rfl rfl) ?_
  refine Jp.qae hK3 ?_
  refine Cd.block ?_
  refine Cd.seq fun K4 hK4=>?_
  refine Cd.qac [(0,false),(1,false)] rfl rfl ?_
  refine Jp.y 6 rfl (qaa rfl) rfl rfl Kp.true (Y.eql rfl rfl rfl) ?_
  refine Jp.y 5 rfl (qaa rfl) rfl rfl Kp.true (Y.assign rfl rfl) ?_
  refine Jp.qae hK4 ?_
  refine Cd.qar rfl (fun g5=>?_) (fun g5=>?_)
  · skip
    try simp only [sG0] at g5
    refine Cd.seq fun K5 hK5=>?_
    refine Cd.qac [(0,false),(1,false)] rfl rfl ?_
    refine Jp.y 2 rfl (qaa rfl) rfl rfl Kp.true (Y.assign rfl rfl) ?_
    refine Jp.y 3 rfl (qaa rfl) rfl rfl Kp.true (Y.assign rfl rfl) ?_
    refine Jp.qae hK5 ?_
    refine Cd.ret [] rfl (qbx rfl rfl rfl) trivial ⟨rfl, by
      (obtain rfl : op = 46 := by omega
       rfl), rfl⟩
  · skip
    try simp only [sG0] at g5
    refine Cd.seq fun K6 hK6=>?_
    refine Cd.qac [(0,false),(1,false)] rfl rfl ?_
    refine Jp.y 8 rfl (qaa rfl) rfl rfl Kp.true (Y.eql rfl rfl rfl) ?_
    refine Jp.y 7 rfl (qaa rfl) rfl rfl Kp.true (Y.assign rfl rfl) ?_
    refine Jp.qae hK6 ?_
    refine Cd.qar rfl (fun g7=>?_) (fun g7=>?_)
    · skip
      try simp only [sG0] at g7
      refine Cd.seq fun K7 hK7=>?_
      refine Cd.qac [(0,false),(1,false)] rfl rfl ?_
      refine Jp.y 2 rfl (qaa rfl) rfl rfl Kp.true (Y.assign rfl rfl) ?_
      refine Jp.y 3 rfl (qaa rfl) rfl rfl Kp.true (Y.assign rfl rfl) ?_
      refine Jp.qae hK7 ?_
      refine Cd.ret [] rfl (qbx rfl rfl rfl) trivial ⟨rfl, by
        (obtain rfl : op = 47 := by omega
         rfl), rfl⟩
    · skip
      try simp only [sG0] at g7
      refine Cd.seq fun K8 hK8=>?_
      refine Cd.qac [(0,false),(1,false)] rfl rfl ?_
      refine Jp.y 10 rfl (qaa rfl) rfl rfl Kp.true (Y.eql rfl rfl rfl) ?_
      refine Jp.y 9 rfl (qaa rfl) rfl rfl Kp.true (Y.assign rfl rfl) ?_
      refine Jp.qae hK8 ?_
      refine Cd.qar rfl (fun g9=>?_) (fun g9=>?_)
      · skip
        try simp only [sG0] at g9
        refine Cd.seq fun K9 hK9=>?_
        refine Cd.qac [(0,false),(1,false)] rfl rfl ?_
        refine Jp.y 2 rfl (qaa rfl) rfl rfl Kp.true (Y.assign rfl rfl) ?_
        refine Jp.y 3 rfl (qaa rfl) rfl rfl Kp.true (Y.assign rfl rfl) ?_
        refine Jp.qae hK9 ?_
        refine Cd.ret [] rfl (qbx rfl rfl rfl) trivial ⟨rfl, by
          (obtain rfl : op = 48 := by omega
           rfl), rfl⟩
      · skip
        try simp only [sG0] at g9
        refine Cd.seq fun K10 hK10=>?_
        refine Cd.qac [(0,false),(1,false)] rfl rfl ?_
        refine Jp.y 12 rfl (qaa rfl) rfl rfl Kp.true (Y.eql rfl rfl rfl) ?_
        refine Jp.y 11 rfl (qaa rfl) rfl rfl Kp.true (Y.assign rfl rfl) ?_
        refine Jp.qae hK10 ?_
        refine Cd.qar rfl (fun g11=>?_) (fun g11=>?_)
        · skip
          try simp only [sG0] at g11
          refine Cd.seq fun K11 hK11=>?_
          refine Cd.qac [(0,false),(1,false)] rfl rfl ?_
          refine Jp.y 2 rfl (qaa rfl) rfl rfl Kp.true (Y.assign rfl rfl) ?_
          refine Jp.y 3 rfl (qaa rfl) rfl rfl Kp.true (Y.assign rfl rfl) ?_
          refine Jp.qae hK11 ?_
          refine Cd.ret [] rfl (qbx rfl rfl rfl) trivial ⟨rfl, by
            (obtain rfl : op = 49 := by omega
             rfl), rfl⟩
        · skip
          try simp only [sG0] at g11
          refine Cd.over rfl hK2 ?_
          refine Cd.seq fun K12 hK12=>?_
          refine Cd.qac [(0,false),(1,false)] rfl rfl ?_
          refine Jp.y 2 rfl (qaa rfl) rfl rfl Kp.true (Y.assign rfl rfl) ?_
          refine Jp.y 3 rfl (qaa rfl) rfl rfl Kp.true (Y.assign rfl rfl) ?_
          refine Jp.qae hK12 ?_
          refine Cd.ret [] rfl (qbx rfl rfl rfl) trivial ⟨rfl, by
            (rw [wholeP, if_neg (by omega), if_neg (by omega), if_neg (by omega), if_neg (by omega), decide_eq_false (by omega)]; rfl), rfl⟩
theorem regs_spec (A : Option Addr) (c : Nat) (xs : List Int) (hxs : ∀ x ∈ xs,0 ≤ x ∧ x ≤ 31) (hl : xs.length ≤ 1000) : Spec Tryz.prog 67 #[.slice A xs.length c] (RdI .i64 ⟨A,c,xs⟩) [] (fun ρ ρ' v L=>ρ' = ρ ∧ v = .bool true ∧ L = []):=by
 refine Spec.of 18 Tryz.func67 rfl Tryz.ntmps67 [(0,_)] rfl rfl ?_
 intro cx ρ hr h0
 refine Cd.seq fun K13 hK13=>?_
 refine Cd.qac [(0,false)] rfl rfl ?_
 refine Jp.y 2 rfl (qaa rfl) rfl rfl Kp.true (Y.assign rfl rfl) ?_
 refine Jp.qae hK13 ?_
 refine Cd.seq fun K14 hK14=>?_
 refine Cd.seq fun K15 hK15=>?_
 refine Cd.qac [(0,false),(1,false),(2,false)] rfl rfl ?_
 refine Jp.y 5 rfl (qaa rfl) rfl rfl Kp.true (Y.move rfl rfl) ?_
 refine Jp.y 6 rfl (qaa rfl) rfl rfl Kp.true (Y.qbq rfl underlying115 rfl) ?_
 refine Jp.y 7 rfl (qaa rfl) rfl rfl Kp.true (Y.move rfl rfl) ?_
 refine Jp.qae hK15 ?_
 refine Cd.block ?_
 refine Cd.qdv (G:=Nat) (fun g=>g ≤ xs.length) (fun g=>xs.length - g) (fun _=>_) (fun g=>[(7,.int .i64 (g : Int))]) [(5,_),(6,_)] (fun g=>[]) [] 0 (Nat.zero_le _) rfl ⟨rfl,trivial⟩ ⟨rfl,rfl,trivial⟩ trivial trivial (fun g KLa hok hLa=>?_)
 refine Cd.seq fun K16 hK16=>?_
 refine Cd.qac [(0,false)] rfl rfl ?_
 refine Jp.y 8 rfl (qaa rfl) rfl rfl Kp.true (Y.lss rfl rfl rfl) ?_
 refine Jp.qae hK16 ?_
 refine Cd.seq fun K17 hK17=>?_
 refine Cd.qar rfl (fun ga=>?_) (fun ga=>?_)
 ·have hi : g < xs.length:=by simp at ga; omega
  obtain ⟨x,hx⟩ : ∃ x,xs[g]? = some x:=⟨_,List.getElem?_eq_getElem hi⟩
  obtain ⟨b1,b2⟩:=hxs x (List.mem_of_getElem? hx)
  obtain ⟨ad,hA,hc⟩:=hr.2.2 g (.int .i64 x) (by simp [intsV,hx])
  have hA : A = some ad:=hA
  subst hA
  refine Cd.qbu hK17 ?_
  refine Cd.seq fun K18 hK18=>?_
  refine Cd.block ?_
  refine Cd.seq fun K19 hK19=>?_
  refine Cd.qac [(0,false),(1,false),(2,false)] rfl rfl ?_
  refine Jp.y 9 rfl (qaa rfl) rfl rfl Kp.true (Y.qbr (q:=g) rfl rfl rfl underlying115 sizeOf3 (by omega) (by omega) (by omega)) ?_
  refine Jp.y 10 rfl (qaa rfl) rfl rfl Kp.true (Y.loadR rfl isAgg3 rfl hc) ?_
  refine Jp.y 4 rfl (qaa rfl) rfl rfl Kp.true (Y.assign rfl rfl) ?_
  refine Jp.qae hK19 ?_
  refine Cd.seq fun K20 hK20=>?_
  refine Cd.qac [(0,false),(1,false),(2,false),(3,false),(4,false),(5,false)] rfl rfl ?_
  refine Jp.y 11 rfl (qaa rfl) rfl rfl Kp.true (Y.move rfl rfl) ?_
  refine Jp.y 12 rfl (qaa rfl) rfl rfl Kp.true (Y.lss rfl rfl rfl) ?_
  refine Jp.y 13 rfl (qaa rfl) rfl rfl Kp.true (Y.move rfl rfl) ?_
  refine Jp.split 13 rfl (fun g13=>?_) (fun g13=>?_)
  ·skip
   try simp only [sG0] at g13
   exfalso
   omega
  try simp only [sG0] at g13
  refine Jp.y 14 rfl (qab rfl rfl rfl rfl) rfl rfl Kp.true (Y.move rfl rfl) ?_
  refine Jp.y 15 rfl (qab rfl rfl rfl rfl) rfl rfl Kp.true (Y.gtr rfl rfl rfl) ?_
  refine Jp.y 16 rfl (qaa rfl) rfl rfl Kp.true (Y.qay rfl rfl rfl) ?_
  refine Jp.qae hK20 ?_
  refine Cd.qar rfl (fun g16=>?_) (fun g16=>?_)
  ·skip
   try simp only [sG0] at g16
   exfalso
   omega
  try simp only [sG0] at g16
  refine Cd.over rfl hK18 ?_
  refine Cd.qac [(0,false),(1,false)] rfl rfl ?_
  refine Jp.y 17 rfl (qaa rfl) rfl rfl Kp.true (Y.qcj rfl rfl rfl (by exact qaj (by omega) (by omega))) ?_
  refine Jp.y 7 rfl (qaa rfl) rfl rfl Kp.true (Y.move rfl rfl) ?_
  rw [show (g : Int) + 1 = ((g + 1 : Nat) : Int) by omega]
  refine Jp.again hLa (g + 1) hi (by omega) rfl ⟨rfl,rfl,rfl,trivial⟩ trivial
 ·skip
  refine Cd.exit rfl hK14 ?_
  refine Cd.seq fun K21 hK21=>?_
  refine Cd.qac [(0,false)] rfl rfl ?_
  refine Jp.y 2 rfl (qaa rfl) rfl rfl Kp.true (Y.assign rfl rfl) ?_
  refine Jp.qae hK21 ?_
  refine Cd.ret [] rfl (qbd rfl rfl) trivial ⟨rfl,rfl,rfl⟩
def encW (i : InsP) : Nat:=if 46 ≤ i.op then wholeP i.op else
 placeP ((qec i.op).1 : Int) 0 ||| placeP (i.rd : Int) 7 ||| placeP ((qec i.op).2.1 : Int) 12 ||| placeP (i.r1 : Int) 15 ||| placeP (i.r2 : Int) 20 ||| placeP ((qec i.op).2.2 : Int) 25 ||| bitsP i.op i.imm
theorem bitsP_lt (op : Nat) (v : Int) : bitsP op v < 4294967296:=by
 have h1:=qak
 unfold bitsP
 repeat' split
 all_goals first | exact qfj (qfj (qfj (h1 _ _) (h1 _ _)) (h1 _ _)) (h1 _ _) | exact qfj (h1 _ _) (h1 _ _) | exact h1 _ _ | exact Nat.lt_of_le_of_lt (Nat.sub_le ..) (u32_lt _) | exact Nat.zero_lt_succ _
theorem encW_lt (i : InsP) : encW i < 4294967296:=by
 have h1:=qak
 unfold encW
 split
 ·unfold wholeP
  repeat' split
  all_goals exact of_decide_eq_true rfl
 ·exact qfj (qfj (qfj (qfj (qfj (qfj (h1 _ _) (h1 _ _)) (h1 _ _)) (h1 _ _)) (h1 _ _)) (h1 _ _)) (bitsP_lt _ _)
def encP (i : InsP) : Nat × Int:=if insEq (decP (encW i)) i = true then (encW i,0) else (0,1)
theorem or7_u {a b c d e f g : Nat} (ha : a < 4294967296) (hb : b < 4294967296) (hc : c < 4294967296) (hd : d < 4294967296) (he : e < 4294967296) (hf : f < 4294967296) (hg : g < 4294967296) :
  qci .or .u32 (qci .or .u32 (qci .or .u32 (qci .or .u32 (qci .or .u32 (qci .or .u32 (a : Int) b) c) d) e) f) g = ((a ||| b ||| c ||| d ||| e ||| f ||| g : Nat) : Int):=by
 have h2:=qfj ha hb
 have h3:=qfj h2 hc
 have h4:=qfj h3 hd
 have h5:=qfj h4 he
 rw [qbn ha hb,qbn h2 hc,qbn h3 hd,qbn h4 he,qbn h5 hf,qbn (qfj h5 hf) hg]
section
attribute [local irreducible] qci IntKind.wrap u32
theorem encode_spec (i : InsP) (hi : InsOk i) (hop : 1 ≤ i.op) : Spec Tryz.prog 32 #[.agg i.cells.toArray] (fun _=>True) [] (fun ρ ρ' v L=>ρ' = ρ ∧ v = .tuple #[.int .u32 ((encP i).1 : Int),.int .i64 (encP i).2] ∧ L = []):=by
 obtain ⟨D,hD⟩ : ∃ D,encP i = D:=⟨_,rfl⟩
 rw [hD]
 unfold encP at hD
 have hW : encW i = if 46 ≤ i.op then wholeP i.op else
  placeP ((qec i.op).1 : Int) 0 ||| placeP (i.rd : Int) 7 ||| placeP ((qec i.op).2.1 : Int) 12 ||| placeP (i.r1 : Int) 15 ||| placeP (i.r2 : Int) 20 ||| placeP ((qec i.op).2.2 : Int) 25 ||| bitsP i.op i.imm:=rfl
 have hWl:=encW_lt i
 obtain ⟨W,hWe⟩ : ∃ W,encW i = W:=⟨_,rfl⟩
 rw [hWe] at hD hW hWl
 have hDec:=decode_spec W hWl
 have hCmp:=fun w=>ins_eq (decP W) i w
 obtain ⟨j,hj⟩ : ∃ j,decP W = j:=⟨_,rfl⟩
 rw [hj] at hD hDec hCmp
 obtain ⟨op,rd,r1,r2,imm⟩:=i
 have hop50 : op < 50:=hi.op
 have himm:=hi.imm
 dsimp only at hW hop himm
 have hcode:=code_spec op
 have hrd:=hi.rd
 have hr1:=hi.r1
 have hr2:=hi.r2
 dsimp only at hrd hr1 hr2
 refine Spec.of 74 Tryz.func32 rfl Tryz.ntmps32 [(0,_)] rfl rfl ?_
 intro cx ρ hr h0
 refine Cd.seq fun K22 hK22=>?_
 refine Cd.qac [(0,false),(1,false),(2,false)] rfl rfl ?_
 refine Jp.box 1 1 rfl (qaa rfl) rfl rfl rfl rfl fun b1=>⟨Kp.true,?_⟩
 refine Jp.y 2 rfl (qaa rfl) rfl rfl Kp.true (Y.assign rfl rfl) ?_
 refine Jp.y 3 rfl (qaa rfl) rfl rfl Kp.true (Y.assign rfl rfl) ?_
 refine Jp.qae hK22 ?_
 refine Cd.seq fun K23 hK23=>?_
 refine Cd.qac [(0,false),(1,false),(2,false),(3,false),(4,false),(5,false),(6,false),(7,false)] rfl rfl ?_
 refine Jp.y 10 rfl (qaa rfl) rfl rfl Kp.true (by exact Y.qad rfl rfl underlying60 rfl sizeOf3 (by decide) (show _ + 0 = _ from rfl)) ?_
 refine Jp.y 11 rfl (qaa rfl) rfl rfl Kp.true (by exact Y.qau 1 rfl isAgg3 rfl rfl rfl) ?_
 refine Jp.call [] [] (whole_spec op hop50) 12 rfl (qaa rfl) rfl rfl (Runs.fn rfl call66 rfl) (by decide) (by decide) rfl trivial ?_
 rintro v1 ρ1 L1 ⟨rfl,rfl,rfl⟩
 refine ⟨rfl,fun hle1=>⟨Kp.true,?_⟩⟩
 refine Jp.y 9 rfl (qaa rfl) rfl rfl Kp.true (Y.move rfl rfl) ?_
 refine Jp.y 13 rfl (qaa rfl) rfl rfl Kp.true (Y.extract rfl rfl rfl) ?_
 refine Jp.y 14 rfl (qaa rfl) rfl rfl Kp.true (Y.extract rfl rfl rfl) ?_
 refine Jp.y 4 rfl (qaa rfl) rfl rfl Kp.true (Y.assign rfl rfl) ?_
 refine Jp.y 5 rfl (qaa rfl) rfl rfl Kp.true (Y.assign rfl rfl) ?_
 refine Jp.qae hK23 ?_
 refine Cd.seq fun K24 hK24=>?_
 refine Cd.seq fun K25 hK25=>?_
 refine Cd.qac [(0,false),(1,false)] rfl rfl ?_
 refine Jp.y 15 rfl (qaa rfl) rfl rfl Kp.true (Y.move rfl rfl) ?_
 refine Jp.y 16 rfl (qaa rfl) rfl rfl Kp.true (Y.not rfl rfl) ?_
 refine Jp.qae hK25 ?_
 refine Cd.qgm (G:=Unit) (fun _=>True) (fun _=>[(4,.int .u32 (W : Int))]) [(1,_)] ⟨rfl,trivial⟩ (fun _=>[]) [(1,_)] ⟨rfl,trivial⟩ hK24 (fun g hφ=>?_) (fun hj1=>?_)
 ·clear hφ
  refine Cd.seq fun K26 hK26=>?_
  refine Cd.seq fun K27 hK27=>?_
  refine Cd.drawn [(1,_)] ⟨rfl,trivial⟩ [(0,true),(2,true),(1,false),(3,true)] follows (by kernel_rfl) (fun hrl=>?_)
  refine Jp.q 69 rfl (qaa rfl) rfl rfl (Y.move rfl rfl) ?_
  refine Jp.q 71 rfl (qaa rfl) rfl rfl (by exact Y.qah 1 rfl isAgg60 sizeOf60 rfl rfl rfl) ?_
  refine Jp.call [] [] hDec 70 rfl (qaa rfl) rfl rfl (Runs.fn rfl call36 rfl) (by decide) (by decide) rfl trivial ?_
  rintro v20 ρ20 L20 ⟨rfl,rfl,rfl⟩
  refine ⟨rfl,fun hle20=>⟨(Kp.st ⟨rfl,trivial⟩),?_⟩⟩
  refine Jp.q 72 rfl (qaa rfl) rfl rfl (Y.neqS (xs:=j.cells.toArray) (ys:=(InsP.mk op rd r1 r2 imm).cells.toArray) (r:=insEq j ⟨op,rd,r1,r2,imm⟩) rfl rfl rfl ins_guard ins_fields ins_stood hCmp) ?_
  refine Jp.qae hK27 ?_
  refine Cd.qar rfl (fun gz=>?_) (fun gz=>?_)
  ·rw [if_neg (by simpa using gz)] at hD
   refine Cd.seq fun K29 hK29=>?_
   refine Cd.qac [(0,false),(1,false)] rfl rfl ?_
   refine Jp.y 2 rfl (qaa rfl) rfl rfl Kp.true (Y.assign rfl rfl) ?_
   refine Jp.y 3 rfl (qaa rfl) rfl rfl Kp.true (Y.assign rfl rfl) ?_
   refine Jp.qae hK29 ?_
   refine Cd.ret [] rfl (qbx rfl rfl rfl) trivial ⟨rfl,by rw [← hD] <;> rfl,rfl⟩
  ·rw [if_pos (by simpa using gz)] at hD
   refine Cd.qbu hK26 ?_
   refine Cd.seq fun K30 hK30=>?_
   refine Cd.qac [(0,false),(1,false),(2,false)] rfl rfl ?_
   refine Jp.y 73 rfl (qaa rfl) rfl rfl Kp.true (Y.move rfl rfl) ?_
   refine Jp.y 2 rfl (qaa rfl) rfl rfl Kp.true (Y.assign rfl rfl) ?_
   refine Jp.y 3 rfl (qaa rfl) rfl rfl Kp.true (Y.assign rfl rfl) ?_
   refine Jp.qae hK30 ?_
   refine Cd.ret [] rfl (qbx rfl rfl rfl) trivial ⟨rfl,by rw [← hD] <;> rfl,rfl⟩
 ·skip
  refine Cd.qar rfl (fun ga=>?_) (fun ga=>?_)
  ·have h46 : ¬ 46 ≤ op:=by simp at ga; omega
   rw [if_neg h46] at hW
   have hcode:=hcode ⟨hop,by omega⟩
   unfold codeV at hcode
   refine Cd.seq fun K31 hK31=>?_
   refine Cd.seq fun K32 hK32=>?_
   refine Cd.qac [(0,false),(1,false),(2,false),(3,false),(4,false),(5,false),(6,false),(7,false),(8,false),(9,false),(10,false),(11,false),(12,false),(13,false),(14,false),(15,false),(16,false),(17,false),(18,false)] rfl rfl ?_
   refine Jp.y 17 rfl (qaa rfl) rfl rfl Kp.true (by exact Y.qad rfl rfl underlying60 rfl sizeOf3 (by decide) (show _ + 0 = _ from rfl)) ?_
   refine Jp.y 18 rfl (qaa rfl) rfl rfl Kp.true (by exact Y.qau 1 rfl isAgg3 rfl rfl rfl) ?_
   refine Jp.y 19 rfl (qaa rfl) rfl rfl Kp.true (Y.lss rfl rfl rfl) ?_
   refine Jp.slot 19 rfl (show _ = Value.bool false from congrArg Value.bool (decide_eq_false (by dsimp only; omega))) ?_
   refine Jp.y 20 rfl (qaa rfl) rfl rfl Kp.true (Y.move rfl rfl) ?_
   refine Jp.y 21 rfl (qab rfl rfl rfl rfl) rfl rfl Kp.true (by exact Y.qad rfl rfl underlying60 rfl sizeOf3 (by decide) (show _ + 0 = _ from rfl)) ?_
   refine Jp.y 22 rfl (qab rfl rfl rfl rfl) rfl rfl Kp.true (by exact Y.qau 1 rfl isAgg3 rfl rfl rfl) ?_
   refine Jp.y 23 rfl (qab rfl rfl rfl rfl) rfl rfl Kp.true (Y.gtr rfl rfl rfl) ?_
   refine Jp.slot 23 rfl (show _ = Value.bool false from congrArg Value.bool (decide_eq_false (by dsimp only; omega))) ?_
   refine Jp.y 24 rfl (qaa rfl) rfl rfl Kp.true (Y.qay rfl rfl rfl) ?_
   refine Jp.y 25 rfl (qaa rfl) rfl rfl Kp.true (Y.move rfl rfl) ?_
   refine Jp.y 26 rfl (qab rfl rfl rfl rfl) rfl rfl Kp.true (by exact Y.qad rfl rfl underlying60 rfl sizeOf3 (by decide) (show _ + 1 = _ from rfl)) ?_
   refine Jp.y 27 rfl (qab rfl rfl rfl rfl) rfl rfl Kp.true (by exact Y.qau 1 rfl isAgg3 rfl rfl rfl) ?_
   refine Jp.y 28 rfl (qab rfl rfl rfl rfl) rfl rfl Kp.true (by exact Y.qad rfl rfl underlying60 rfl sizeOf3 (by decide) (show _ + 2 = _ from rfl)) ?_
   refine Jp.y 29 rfl (qab rfl rfl rfl rfl) rfl rfl Kp.true (by exact Y.qau 1 rfl isAgg3 rfl rfl rfl) ?_
   refine Jp.y 30 rfl (qab rfl rfl rfl rfl) rfl rfl Kp.true (by exact Y.qad rfl rfl underlying60 rfl sizeOf3 (by decide) (show _ + 3 = _ from rfl)) ?_
   refine Jp.y 31 rfl (qab rfl rfl rfl rfl) rfl rfl Kp.true (by exact Y.qau 1 rfl isAgg3 rfl rfl rfl) ?_
   refine Jp.lit 32 9 [(0,_),(1,_),(2,_)] [_,_,_] rfl (qab rfl rfl rfl rfl) rfl rfl rfl rfl underlying115 sizeOf3 zeroValue3 rfl rfl rfl rfl rfl fun b9=>⟨Kp.true,?_⟩
   refine Jp.freeze (i:=9) rfl (OwnS.up _ _ _ _ _ _) fun ρ9 hle9 hA9=>?_
   refine Jp.call [] [] (regs_spec (some ⟨b9,0,none⟩) 3 [(rd : Int),(r1 : Int),(r2 : Int)] (by intro x hx; simp at hx; omega) (Nat.le_of_ble_eq_true rfl)) 33 rfl (qab rfl rfl rfl rfl) rfl rfl (Runs.fn rfl call67 rfl) (by decide) (by decide) rfl hA9.rd ?_
   rintro v2 ρ2 L2 ⟨rfl,rfl,rfl⟩
   refine ⟨rfl,fun hle2=>⟨Kp.true,?_⟩⟩
   refine Jp.y 34 rfl (qab rfl rfl rfl rfl) rfl rfl Kp.true (Y.not rfl rfl) ?_
   refine Jp.y 35 rfl (qaa rfl) rfl rfl Kp.true (Y.qay rfl rfl rfl) ?_
   refine Jp.qae hK32 ?_
   refine Cd.qar rfl (fun gb=>?_) (fun gb=>?_)
   ·exact absurd gb (by simp)
   ·skip
    refine Cd.qbu hK31 ?_
    refine Cd.seq fun K33 hK33=>?_
    refine Cd.qac [(0,false),(1,false),(2,false),(3,false),(4,false),(5,false),(6,false),(7,false),(8,false),(9,false)] rfl rfl ?_
    refine Jp.y 37 rfl (qaa rfl) rfl rfl Kp.true (by exact Y.qad rfl rfl underlying60 rfl sizeOf3 (by decide) (show _ + 0 = _ from rfl)) ?_
    refine Jp.y 38 rfl (qaa rfl) rfl rfl Kp.true (by exact Y.qau 1 rfl isAgg3 rfl rfl rfl) ?_
    refine Jp.call [] [] hcode 39 rfl (qaa rfl) rfl rfl (Runs.fn rfl call68 rfl) (by decide) (by decide) rfl trivial ?_
    rintro v3 ρ3 L3 ⟨rfl,rfl,rfl⟩
    refine ⟨rfl,fun hle3=>⟨Kp.true,?_⟩⟩
    refine Jp.y 36 rfl (qaa rfl) rfl rfl Kp.true (Y.move rfl rfl) ?_
    refine Jp.y 40 rfl (qaa rfl) rfl rfl Kp.true (Y.extract rfl rfl rfl) ?_
    refine Jp.y 41 rfl (qaa rfl) rfl rfl Kp.true (Y.extract rfl rfl rfl) ?_
    refine Jp.y 42 rfl (qaa rfl) rfl rfl Kp.true (Y.extract rfl rfl rfl) ?_
    refine Jp.y 6 rfl (qaa rfl) rfl rfl Kp.true (Y.assign rfl rfl) ?_
    refine Jp.y 7 rfl (qaa rfl) rfl rfl Kp.true (Y.assign rfl rfl) ?_
    refine Jp.y 8 rfl (qaa rfl) rfl rfl Kp.true (Y.assign rfl rfl) ?_
    refine Jp.qae hK33 ?_
    refine Cd.drawn [(1,_)] ⟨rfl,trivial⟩ [(0,true),(2,true),(3,true),(6,true),(9,true),(10,true),(13,true),(14,true),(17,true),(20,true),(21,true),(22,true),(23,true),(1,false),(4,false),(5,true),(7,false),(8,true),(11,false),(12,true),(15,false),(16,true),(18,false),(19,true),(24,false),(25,true),(26,true)] follows (by kernel_rfl) (fun hrl=>?_)
    refine Jp.q 43 rfl (qaa rfl) rfl rfl (Y.move rfl rfl) ?_
    refine Jp.q 45 rfl (qaa rfl) rfl rfl (by exact Y.qad rfl rfl underlying60 rfl sizeOf3 (by decide) (show _ + 1 = _ from rfl)) ?_
    refine Jp.q 46 rfl (qaa rfl) rfl rfl (by exact Y.qau 1 rfl isAgg3 rfl rfl rfl) ?_
    refine Jp.q 49 rfl (qaa rfl) rfl rfl (Y.move rfl rfl) ?_
    refine Jp.q 52 rfl (qaa rfl) rfl rfl (by exact Y.qad rfl rfl underlying60 rfl sizeOf3 (by decide) (show _ + 2 = _ from rfl)) ?_
    refine Jp.q 53 rfl (qaa rfl) rfl rfl (by exact Y.qau 1 rfl isAgg3 rfl rfl rfl) ?_
    refine Jp.q 56 rfl (qaa rfl) rfl rfl (by exact Y.qad rfl rfl underlying60 rfl sizeOf3 (by decide) (show _ + 3 = _ from rfl)) ?_
    refine Jp.q 57 rfl (qaa rfl) rfl rfl (by exact Y.qau 1 rfl isAgg3 rfl rfl rfl) ?_
    refine Jp.q 60 rfl (qaa rfl) rfl rfl (Y.move rfl rfl) ?_
    refine Jp.q 63 rfl (qaa rfl) rfl rfl (by exact Y.qad rfl rfl underlying60 rfl sizeOf3 (by decide) (show _ + 0 = _ from rfl)) ?_
    refine Jp.q 64 rfl (qaa rfl) rfl rfl (by exact Y.qau 1 rfl isAgg3 rfl rfl rfl) ?_
    refine Jp.q 65 rfl (qaa rfl) rfl rfl (by exact Y.qad rfl rfl underlying60 rfl sizeOf21 (by decide) (show _ + 4 = _ from rfl)) ?_
    refine Jp.q 66 rfl (qaa rfl) rfl rfl (by exact Y.qau 1 rfl isAgg21 rfl rfl rfl) ?_
    refine Jp.call [] [] (qat _ _ (by decide)) 44 rfl (qaa rfl) rfl rfl (Runs.fn rfl call69 rfl) (by decide) (by decide) rfl trivial ?_
    rintro v101 ρ101 L101 ⟨rfl,rfl,rfl⟩
    refine ⟨rfl,fun hle101=>⟨(Kp.st ⟨rfl,trivial⟩),?_⟩⟩
    refine Jp.call [] [] (qat _ _ (by decide)) 47 rfl (qaa rfl) rfl rfl (Runs.fn rfl call69 rfl) (by decide) (by decide) rfl trivial ?_
    rintro v102 ρ102 L102 ⟨rfl,rfl,rfl⟩
    refine ⟨rfl,fun hle102=>⟨(Kp.st ⟨rfl,trivial⟩),?_⟩⟩
    refine Jp.q 48 rfl (qaa rfl) rfl rfl (Y.bits rfl rfl rfl rfl) ?_
    refine Jp.call [] [] (qat _ _ (by decide)) 50 rfl (qaa rfl) rfl rfl (Runs.fn rfl call69 rfl) (by decide) (by decide) rfl trivial ?_
    rintro v103 ρ103 L103 ⟨rfl,rfl,rfl⟩
    refine ⟨rfl,fun hle103=>⟨(Kp.st ⟨rfl,trivial⟩),?_⟩⟩
    refine Jp.q 51 rfl (qaa rfl) rfl rfl (Y.bits rfl rfl rfl rfl) ?_
    refine Jp.call [] [] (qat _ _ (by decide)) 54 rfl (qaa rfl) rfl rfl (Runs.fn rfl call69 rfl) (by decide) (by decide) rfl trivial ?_
    rintro v104 ρ104 L104 ⟨rfl,rfl,rfl⟩
    refine ⟨rfl,fun hle104=>⟨(Kp.st ⟨rfl,trivial⟩),?_⟩⟩
    refine Jp.q 55 rfl (qaa rfl) rfl rfl (Y.bits rfl rfl rfl rfl) ?_
    refine Jp.call [] [] (qat _ _ (by decide)) 58 rfl (qaa rfl) rfl rfl (Runs.fn rfl call69 rfl) (by decide) (by decide) rfl trivial ?_
    rintro v105 ρ105 L105 ⟨rfl,rfl,rfl⟩
    refine ⟨rfl,fun hle105=>⟨(Kp.st ⟨rfl,trivial⟩),?_⟩⟩
    refine Jp.q 59 rfl (qaa rfl) rfl rfl (Y.bits rfl rfl rfl rfl) ?_
    refine Jp.call [] [] (qat _ _ (by decide)) 61 rfl (qaa rfl) rfl rfl (Runs.fn rfl call69 rfl) (by decide) (by decide) rfl trivial ?_
    rintro v106 ρ106 L106 ⟨rfl,rfl,rfl⟩
    refine ⟨rfl,fun hle106=>⟨(Kp.st ⟨rfl,trivial⟩),?_⟩⟩
    refine Jp.q 62 rfl (qaa rfl) rfl rfl (Y.bits rfl rfl rfl rfl) ?_
    refine Jp.call [] [] (bits_spec op imm himm) 67 rfl (qaa rfl) rfl rfl (Runs.fn rfl call70 rfl) (by decide) (by decide) rfl trivial ?_
    rintro v107 ρ107 L107 ⟨rfl,rfl,rfl⟩
    refine ⟨rfl,fun hle107=>⟨(Kp.st ⟨rfl,trivial⟩),?_⟩⟩
    refine Jp.q 68 rfl (qaa rfl) rfl rfl (Y.bits rfl rfl rfl rfl) ?_
    refine Jp.q 4 rfl (qaa rfl) rfl rfl (Y.assign rfl rfl) ?_
    refine Jp.qae hK24 ?_
    refine Cd.slot 4 rfl (show _ = Value.int .u32 (W : Int) from congrArg (Value.int .u32) ((or7_u (qak _ _) (qak _ _) (qak _ _) (qak _ _) (qak _ _) (qak _ _) (bitsP_lt _ _)).trans (congrArg Int.ofNat hW.symm))) ?_
    exact Cd.meet' (hj1 () trivial) hle9 (by rw [h0]; exact Hp.le_refl _) ⟨rfl,rfl,trivial⟩ ⟨rfl,trivial⟩
  ·have h46 : 46 ≤ op:=by simp at ga; omega
   rw [if_pos h46] at hW
   refine Cd.qbu hK24 ?_
   rw [← hW]
   exact Cd.qcz (hj1 () trivial) ⟨rfl,rfl,trivial⟩ ⟨rfl,trivial⟩
end
end Go.Proofs.YtnfkalpgidiafaaGreat

namespace Go.Proofs.YtnfkalpgidiafaaGreat
open Go
def wideP (a : Nat) : Int:=if a / 2147483648 = 1 then (a : Int) - 4294967296 else a
def shP (k a n : Nat) : Nat:=if k = 2 then u32 ((a * 2 ^ n : Nat) : Int) else if k = 6 then a / 2 ^ n else u32 ((s32 a).fdiv (2 ^ n))
def shBit (k a n i : Nat) : Nat:=if k = 2 then (if n ≤ i then a / 2 ^ (i - n) % 2 else 0) else if i + n < 32 then a / 2 ^ (i + n) % 2 else if k = 7 then a / 2147483648 else 0
def hiP (k a b : Nat) : Nat :=
 let h:=a * b / 4294967296
 let h1:=if k ≠ 13 ∧ a / 2147483648 = 1 then u32 ((h : Int) - b) else h
 if k = 11 ∧ b / 2147483648 = 1 then u32 ((h1 : Int) - a) else h1
end Go.Proofs.YtnfkalpgidiafaaGreat

namespace Go.Proofs.YtnfkalpgidiafaaGreat
open Go
def madeD (xs : List Int) (bs : qal) : MemG:=(qdg (qdg map3 4096 (qdc (xs.take 64)) 65536 0).2 65536 (bs.take 512) 65536 0).2
theorem RdB.takeN {A : Option Addr} {c : Nat} {xs : qal} {ρ : Hp} (h : RdB ⟨A,c,xs⟩ ρ) {n : Nat} (hn : n ≤ xs.length) : RdB ⟨A,c,xs.take n⟩ ρ:=by
 have h5:=RdS.take (l:=n) h (show n ≤ xs.length from hn)
 rw [Nat.mul_one] at h5
 have h6 : (qaf xs).take n = qaf (xs.take n):=by simp [qaf]
 show RdS 1 _ (xs.take n).length _ _ _
 rw [show (xs.take n).length = n by rw [List.length_take]; omega,← h6]; exact h5
def awIns : InsP:=⟨19,1,0,0,5⟩
def st0 (pc : Nat) : StP:=⟨List.replicate 32 0,pc,0⟩
theorem st0_ok {pc : Nat} (h : pc < 4294967296) : StOk (st0 pc):=⟨rfl,fun y hy=>by rw [List.eq_of_mem_replicate hy]; decide,h,(show -9223372036854775808 ≤ (0 : Int) ∧ (0 : Int) ≤ 4611686018427387904 by decide)⟩
def awOut : StP:=⟨[0,5] ++ List.replicate 30 0,4100,1⟩
end Go.Proofs.YtnfkalpgidiafaaGreat

namespace Go.Proofs.YtnfkalpgidiafaaGreat
open Go
structure StRd (s : StP) : Prop where
 len : s.x.length = 32
 lt : ∀ y ∈ s.x,y < 4294967296
 pc : s.pc < 4294967296
 ret : -9223372036854775808 ≤ s.ret ∧ s.ret ≤ 9223372036854775807
theorem StRd.ok {s : StP} (h : StRd s) (h2 : s.ret ≤ 4611686018427387904) : StOk s:=⟨h.len,h.lt,h.pc,h.ret.1,h2⟩
theorem StRd.cRet {s : StP} (h : StRd s) : s.cells.toArray[33]? = some (.int .i64 s.ret):=by simp [StP.cells,qbk,List.getElem?_append,h.len]
theorem StRd.size {s : StP} (h : StRd s) : s.cells.length = 34:=by simp [StP.cells,qbk,h.len]
theorem StP.cPc' {s : StP} (h : s.x.length = 32) : s.cells.toArray[32]? = some (.int .u32 (s.pc : Int)):=by simp [StP.cells,qbk,List.getElem?_append,h]
theorem StP.cRet' {s : StP} (h : s.x.length = 32) : s.cells.toArray[33]? = some (.int .i64 s.ret):=by simp [StP.cells,qbk,List.getElem?_append,h]
end Go.Proofs.YtnfkalpgidiafaaGreat

namespace Go.Proofs.YtnfkalpgidiafaaGreat
open _root_.Go.Proofs.Tryz
open Go
theorem qgz (A : Option Addr) (c : Nat) (xs : List Int) (dA : Option Addr) (dc : Nat) (bs : qal) (hxs : ∀ x ∈ xs,∃ m : Nat,x = m ∧ m < 4294967296) : Spec Tryz.prog 6 #[.slice A xs.length c,.slice dA bs.length dc] (fun h=>RdI .u32 ⟨A,c,xs⟩ h ∧ RdB ⟨dA,dc,bs⟩ h) []
  (fun ρ ρ' v L=>∃ b,v = .pointer (some ⟨b,0,none⟩) ∧ L = [(0,qew b (madeD xs bs))]):=by
 refine Spec.of 60 Tryz.func6 rfl Tryz.ntmps6 [(0,_),(1,_)] rfl rfl ?_
 intro cx ρ hr0 h0
 obtain ⟨hr,hrd⟩:=hr0
 have lx : xs.length ≤ 281474976710656:=hr.2.1.2
 have hcap : bs.length ≤ dc ∧ bs.length ≤ 281474976710656:=hrd.2.1
 refine Cd.seq fun K1 hK1=>?_
 refine Cd.qac [(0,false)] rfl rfl ?_
 refine Jp.y 4 rfl (qaa rfl) rfl rfl Kp.true (Y.assign rfl rfl) ?_
 refine Jp.qae hK1 ?_
 refine Cd.seq fun K2 hK2=>?_
 refine Cd.qac [(0,false),(1,false),(2,false),(3,false),(4,false),(5,false)] rfl rfl ?_
 refine Jp.call [] [0] (new_yes 50 (by omega)) 11 rfl (qaa rfl) rfl rfl (Runs.fn rfl call15 rfl) (by decide) (by decide) rfl trivial ?_
 rintro v1 ρ1 L1 ⟨rfl,b,rfl,rfl⟩
 refine ⟨rfl,fun hle1=>⟨Kp.true,?_⟩⟩
 refine Jp.y 10 rfl (qaa rfl) rfl rfl Kp.true (Y.move rfl rfl) ?_
 refine Jp.y 12 rfl (qaa rfl) rfl rfl Kp.true (Y.extract rfl rfl rfl) ?_
 refine Jp.y 13 rfl (qaa rfl) rfl rfl Kp.true (Y.extract rfl rfl rfl) ?_
 refine Jp.y 5 rfl (qaa rfl) rfl rfl Kp.true (Y.assign rfl rfl) ?_
 refine Jp.y 6 rfl (qaa rfl) rfl rfl Kp.true (Y.assign rfl rfl) ?_
 refine Jp.qae hK2 ?_
 refine Cd.seq fun K3 hK3=>?_
 refine Cd.qac [(0,false),(1,false)] rfl rfl ?_
 refine Jp.y 14 rfl (qaa rfl) rfl rfl Kp.true (Y.move rfl rfl) ?_
 refine Jp.call [0] [0] (map_spec b (newM 50) 4096 256 5 (by omega) (by omega)) 15 rfl (qaa rfl) rfl rfl (Runs.fn rfl call16 rfl) (by decide) (by decide) rfl trivial ?_
 rintro v2 ρ2 L2 ⟨rfl,rfl,rfl⟩
 refine ⟨rfl,fun hle2=>⟨Kp.true,?_⟩⟩
 refine Jp.qae hK3 ?_
 refine Cd.seq fun K4 hK4=>?_
 refine Cd.qac [(0,false),(1,false)] rfl rfl ?_
 refine Jp.y 16 rfl (qaa rfl) rfl rfl Kp.true (Y.move rfl rfl) ?_
 refine Jp.call [0] [0] (map_spec b (mapM (newM 50) 4096 256 5).2 65536 256 3 (by omega) (by omega)) 17 rfl (qaa rfl) rfl rfl (Runs.fn rfl call16 rfl) (by decide) (by decide) rfl trivial ?_
 rintro v3 ρ3 L3 ⟨rfl,rfl,rfl⟩
 refine ⟨rfl,fun hle3=>⟨Kp.true,?_⟩⟩
 refine Jp.qae hK4 ?_
 refine Cd.seq fun K5 hK5=>?_
 refine Cd.qac [(0,false),(1,false)] rfl rfl ?_
 refine Jp.y 18 rfl (qaa rfl) rfl rfl Kp.true (Y.move rfl rfl) ?_
 refine Jp.call [0] [0] (map_spec b (mapM (mapM (newM 50) 4096 256 5).2 65536 256 3).2 65792 256 1 (by omega) (by omega)) 19 rfl (qaa rfl) rfl rfl (Runs.fn rfl call16 rfl) (by decide) (by decide) rfl trivial ?_
 rintro v4 ρ4 L4 ⟨rfl,rfl,rfl⟩
 refine ⟨rfl,fun hle4=>⟨Kp.true,?_⟩⟩
 refine Jp.imp (j:=0) rfl (fun h hh=>(show qew b map3 h from hh)) ?_
 obtain ⟨M3,hM3⟩ : ∃ M,map3 = M:=⟨_,rfl⟩
 have hmade : madeD xs bs = (qdg (qdg M3 4096 (qdc (xs.take 64)) 65536 0).2 65536 (bs.take 512) 65536 0).2:=by rw [← hM3]; rfl
 rw [hM3]
 clear hM3
 refine Jp.qae hK5 ?_
 refine Cd.seq fun K6 hK6=>?_
 refine Cd.qac [(0,false)] rfl rfl ?_
 refine Jp.y 7 rfl (qaa rfl) rfl rfl Kp.true (Y.assign rfl rfl) ?_
 refine Jp.qae hK6 ?_
 refine Cd.seq fun K7 hK7=>?_
 refine Cd.seq fun K8 hK8=>?_
 refine Cd.qac [(0,false)] rfl rfl ?_
 refine Jp.y 8 rfl (qaa rfl) rfl rfl Kp.true (Y.assign rfl rfl) ?_
 refine Jp.qae hK8 ?_
 refine Cd.block ?_
 refine Cd.make 1 (A:=OwnS 5 1 none 0 0 (qaf (qdc (xs.take 0)))) (OwnS.nil _ _ _) ?_
 refine Cd.qgm (G:=Option Addr × Nat) (fun _=>True) (fun g=>[(7,.slice g.1 (qdc (xs.take 64)).length g.2)]) [(1,_),(5,_)] ⟨rfl,rfl,trivial⟩ (fun g=>[(1,OwnS 5 1 g.1 (qdc (xs.take 64)).length g.2 (qaf (qdc (xs.take 64))))]) [(0,_)] ⟨rfl,trivial⟩ hK7 (fun g hφ=>?_) (fun hj1=>?_)
 ·obtain ⟨B,d⟩:=g
  clear hφ
  dsimp only
  have hlw:=wordsB_len (xs.take 64)
  have hlt : (xs.take 64).length ≤ 64:=by rw [List.length_take]; omega
  refine Cd.freeze (i:=1) rfl (OwnS.up _ _ _ _ _ _) fun ρ7 hle7 hA7=>?_
  have hrd:=RdS.up _ _ _ _ _ _ _ hle7 hrd
  refine Cd.seq fun K9 hK9=>?_
  refine Cd.qac [(0,false),(1,false),(2,false)] rfl rfl ?_
  refine Jp.y 48 rfl (qaa rfl) rfl rfl Kp.true (Y.move rfl rfl) ?_
  refine Jp.y 49 rfl (qaa rfl) rfl rfl Kp.true (Y.move rfl rfl) ?_
  refine Jp.call [0] [0] (Poke_spec b M3 4096 ⟨B,d,qdc (xs.take 64)⟩ (by omega)) 50 rfl (qaa rfl) rfl rfl (Runs.fn rfl call17 rfl) (by decide) (by decide) rfl hA7.rd ?_
  rintro v5 ρ5 L5 ⟨rfl,rfl,rfl⟩
  refine ⟨rfl,fun hle5=>⟨Kp.true,?_⟩⟩
  refine Jp.qae hK9 ?_
  refine Cd.seq fun K10 hK10=>?_
  refine Cd.seq fun K11 hK11=>?_
  refine Cd.qac [(0,false),(1,false),(2,false)] rfl rfl ?_
  refine Jp.y 51 rfl (qaa rfl) rfl rfl Kp.true (Y.move rfl rfl) ?_
  refine Jp.y 52 rfl (qaa rfl) rfl rfl Kp.true (Y.qbq rfl underlying23 rfl) ?_
  refine Jp.y 53 rfl (qaa rfl) rfl rfl Kp.true (Y.gtr rfl rfl rfl) ?_
  refine Jp.qae hK11 ?_
  refine Cd.qar rfl (fun gx=>?_) (fun gx=>?_)
  ·have hbl : 512 < bs.length:=by simp at gx; omega
   have hcl : (bs.take 512).length = 512:=by rw [List.length_take]; omega
   refine Cd.qac [(0,false),(1,false),(2,false)] rfl rfl ?_
   refine Jp.y 54 rfl (qaa rfl) rfl rfl Kp.true (Y.move rfl rfl) ?_
   refine Jp.y 55 rfl (qaa rfl) rfl rfl Kp.true (Y.sliceTo (hi:=512) rfl rfl rfl underlying23 sizeOf5 (by omega) (by omega)) ?_
   refine Jp.y 1 rfl (qaa rfl) rfl rfl Kp.true (Y.assign rfl rfl) ?_
   refine Jp.qae hK10 ?_
   refine Cd.seq fun K12 hK12=>?_
   refine Cd.qac [(0,false),(1,false),(2,false)] rfl rfl ?_
   refine Jp.y 56 rfl (qaa rfl) rfl rfl Kp.true (Y.move rfl rfl) ?_
   refine Jp.y 57 rfl (qaa rfl) rfl rfl Kp.true (Y.move rfl rfl) ?_
   refine Jp.slot 57 rfl (show _ = Value.slice dA (bs.take 512).length dc by rw [hcl]) ?_
   refine Jp.call [0] [0] (Poke_spec b _ 65536 ⟨dA,dc,bs.take 512⟩ (by omega)) 58 rfl (qaa rfl) rfl rfl (Runs.fn rfl call17 rfl) (by decide) (by decide) rfl (RdB.takeN hrd (by omega)) ?_
   rintro v6 ρ6 L6 ⟨rfl,rfl,rfl⟩
   refine ⟨rfl,fun hle6=>⟨Kp.true,?_⟩⟩
   refine Jp.qae hK12 ?_
   refine Cd.seq fun K13 hK13=>?_
   refine Cd.qac [(0,false),(1,false)] rfl rfl ?_
   refine Jp.y 59 rfl (qaa rfl) rfl rfl Kp.true (Y.move rfl rfl) ?_
   refine Jp.y 4 rfl (qaa rfl) rfl rfl Kp.true (Y.assign rfl rfl) ?_
   refine Jp.qae hK13 ?_
   refine Cd.ret [(0,_)] rfl (qbd rfl rfl) ⟨rfl,trivial⟩ ⟨b,rfl,by rw [hmade]⟩
  ·have hbl : bs.take 512 = bs:=List.take_of_length_le (by simp at gx; omega)
   refine Cd.qbu hK10 ?_
   refine Cd.seq fun K14 hK14=>?_
   refine Cd.qac [(0,false),(1,false),(2,false)] rfl rfl ?_
   refine Jp.y 56 rfl (qaa rfl) rfl rfl Kp.true (Y.move rfl rfl) ?_
   refine Jp.y 57 rfl (qaa rfl) rfl rfl Kp.true (Y.move rfl rfl) ?_
   refine Jp.call [0] [0] (Poke_spec b _ 65536 ⟨dA,dc,bs⟩ (by omega)) 58 rfl (qaa rfl) rfl rfl (Runs.fn rfl call17 rfl) (by decide) (by decide) rfl hrd ?_
   rintro v6 ρ6 L6 ⟨rfl,rfl,rfl⟩
   refine ⟨rfl,fun hle6=>⟨Kp.true,?_⟩⟩
   refine Jp.qae hK14 ?_
   refine Cd.seq fun K15 hK15=>?_
   refine Cd.qac [(0,false),(1,false)] rfl rfl ?_
   refine Jp.y 59 rfl (qaa rfl) rfl rfl Kp.true (Y.move rfl rfl) ?_
   refine Jp.y 4 rfl (qaa rfl) rfl rfl Kp.true (Y.assign rfl rfl) ?_
   refine Jp.qae hK15 ?_
   refine Cd.ret [(0,_)] rfl (qbd rfl rfl) ⟨rfl,trivial⟩ ⟨b,rfl,by rw [hmade,hbl]⟩
 ·skip
  refine Cd.qdv (G:=Nat × Option Addr × Nat) (fun g=>g.1 ≤ xs.length ∧ g.1 ≤ 64) (fun g=>64 - g.1) (fun _=>_) (fun g=>[(7,.slice g.2.1 (qdc (xs.take g.1)).length g.2.2),(8,.int .i64 (g.1 : Int))]) [(0,_),(1,_),(5,_)] (fun g=>[(1,OwnS 5 1 g.2.1 (qdc (xs.take g.1)).length g.2.2 (qaf (qdc (xs.take g.1))))]) [(0,_)] ⟨0,none,0⟩ ⟨Nat.zero_le _,Nat.zero_le _⟩ rfl ⟨rfl,rfl,trivial⟩ ⟨rfl,rfl,rfl,trivial⟩ ⟨rfl,trivial⟩ ⟨rfl,trivial⟩ (fun g KLa hok hLa=>?_)
  obtain ⟨i,B,d⟩:=g
  obtain ⟨ok1,ok2⟩:=hok
  dsimp only at ok1 ok2 ⊢
  refine Cd.seq fun K16 hK16=>?_
  refine Cd.seq fun K17 hK17=>?_
  refine Cd.qac [(0,false),(1,false),(2,false),(3,false),(4,false),(5,false),(6,false),(7,false)] rfl rfl ?_
  refine Jp.y 20 rfl (qaa rfl) rfl rfl Kp.true (Y.move rfl rfl) ?_
  refine Jp.y 21 rfl (qaa rfl) rfl rfl Kp.true (Y.move rfl rfl) ?_
  refine Jp.y 22 rfl (qaa rfl) rfl rfl Kp.true (Y.qbq rfl underlying22 rfl) ?_
  refine Jp.y 23 rfl (qaa rfl) rfl rfl Kp.true (Y.lss rfl rfl rfl) ?_
  refine Jp.y 24 rfl (qaa rfl) rfl rfl Kp.true (Y.move rfl rfl) ?_
  refine Jp.splitF 24 rfl (fun g24=>?_) (fun g24=>?_)
  ·skip
   simp only [decide_eq_false_iff_not] at g24
   have e : xs.take i = xs.take 64:=by
    rcases (show xs.length ≤ i ∨ i = 64 by omega) with h | h
    ·rw [List.take_of_length_le h,List.take_of_length_le (by omega)]
    ·rw [h]
   rw [e]
   refine Jp.qaq 25 rfl (qab rfl rfl rfl rfl) rfl rfl Kp.true ?_
   refine Jp.qaq 26 rfl (qab rfl rfl rfl rfl) rfl rfl Kp.true ?_
   refine Jp.y 27 rfl (qaa rfl) rfl rfl Kp.true (Y.qay rfl rfl rfl) ?_
   refine Jp.qae hK17 ?_
   refine Cd.qbz rfl ?_
   refine Cd.exit rfl hK7 ?_
   exact Cd.qcz (hj1 ⟨B,d⟩ trivial) ⟨rfl,rfl,rfl,trivial⟩ ⟨rfl,rfl,trivial⟩
  try simp only [sG0] at g24
  refine Jp.y 25 rfl (qab rfl rfl rfl rfl) rfl rfl Kp.true (Y.move rfl rfl) ?_
  refine Jp.y 26 rfl (qab rfl rfl rfl rfl) rfl rfl Kp.true (Y.lss rfl rfl rfl) ?_
  refine Jp.y 27 rfl (qaa rfl) rfl rfl Kp.true (Y.qav rfl rfl rfl) ?_
  refine Jp.qae hK17 ?_
  refine Cd.condF' rfl (fun g27=>?_) (fun g27=>?_)
  ·skip
   simp only [decide_eq_false_iff_not] at g27
   have e : xs.take i = xs.take 64:=by
    rcases (show xs.length ≤ i ∨ i = 64 by omega) with h | h
    ·rw [List.take_of_length_le h,List.take_of_length_le (by omega)]
    ·rw [h]
   rw [e]
   refine Cd.exit rfl hK7 ?_
   exact Cd.qcz (hj1 ⟨B,d⟩ trivial) ⟨rfl,rfl,rfl,trivial⟩ ⟨rfl,rfl,trivial⟩
  try simp only [sG0] at g27
  refine Cd.qbu hK16 ?_
  refine Cd.seq fun K18 hK18=>?_
  refine Cd.block ?_
  refine Cd.seq fun K19 hK19=>?_
  refine Cd.qac [(0,false),(1,false),(2,false),(3,false),(4,false)] rfl rfl ?_
  refine Jp.y 30 rfl (qaa rfl) rfl rfl Kp.true (Y.move rfl rfl) ?_
  refine Jp.y 31 rfl (qaa rfl) rfl rfl Kp.true (Y.move rfl rfl) ?_
  have hi : i < xs.length:=by omega
  obtain ⟨m,hm,hml⟩:=hxs xs[i] (List.getElem_mem _)
  have hl1:=wordsB_len (xs.take i)
  have hl2:=wordsB_len (xs.take (i + 1))
  rw [List.length_take] at hl1 hl2
  obtain ⟨ad,hA,hc⟩:=hr.2.2 i (.int .u32 m) (by simp [intsV,hi,hm])
  subst hA
  refine Jp.y 32 rfl (qaa rfl) rfl rfl Kp.true (Y.qbr (q:=i) rfl rfl rfl underlying22 sizeOf24 (by omega) (by omega) (by omega)) ?_
  refine Jp.y 33 rfl (qaa rfl) rfl rfl Kp.true (Y.loadR rfl isAgg24 rfl hc) ?_
  refine Jp.y 9 rfl (qaa rfl) rfl rfl Kp.true (Y.assign rfl rfl) ?_
  refine Jp.qae hK19 ?_
  refine Cd.qac [(0,false),(1,false),(2,false),(3,false),(4,false),(5,false),(6,false),(7,false),(8,false),(9,false),(10,false),(11,false),(12,false),(13,false),(14,false)] rfl rfl ?_
  refine Jp.y 34 rfl (qaa rfl) rfl rfl Kp.true (Y.move rfl rfl) ?_
  refine Jp.y 35 rfl (qaa rfl) rfl rfl Kp.true (Y.move rfl rfl) ?_
  refine Jp.y 36 rfl (qaa rfl) rfl rfl Kp.true (Y.qaw rfl rfl underlying24 underlying5 (conv8 m)) ?_
  refine Jp.y 37 rfl (qaa rfl) rfl rfl Kp.true (Y.move rfl rfl) ?_
  refine Jp.y 38 rfl (qaa rfl) rfl rfl Kp.true (Y.shr rfl rfl rfl (by first | decide | omega)) ?_
  refine Jp.y 39 rfl (qaa rfl) rfl rfl Kp.true (Y.qaw rfl rfl underlying24 underlying5 (shr8 m 1 (by omega))) ?_
  refine Jp.y 40 rfl (qaa rfl) rfl rfl Kp.true (Y.move rfl rfl) ?_
  refine Jp.y 41 rfl (qaa rfl) rfl rfl Kp.true (Y.shr rfl rfl rfl (by first | decide | omega)) ?_
  refine Jp.y 42 rfl (qaa rfl) rfl rfl Kp.true (Y.qaw rfl rfl underlying24 underlying5 (shr8 m 2 (by omega))) ?_
  refine Jp.y 43 rfl (qaa rfl) rfl rfl Kp.true (Y.move rfl rfl) ?_
  refine Jp.y 44 rfl (qaa rfl) rfl rfl Kp.true (Y.shr rfl rfl rfl (by first | decide | omega)) ?_
  refine Jp.y 45 rfl (qaa rfl) rfl rfl Kp.true (Y.qaw rfl rfl underlying24 underlying5 (shr8 m 3 (by omega))) ?_
  refine Jp.lit 46 2 [(0,_),(1,_),(2,_),(3,_)] [_,_,_,_] rfl (qaa rfl) rfl rfl rfl rfl underlying23 sizeOf5 zeroValue5 rfl rfl rfl rfl rfl fun b2=>⟨Kp.true,?_⟩
  refine Jp.append 47 1 rfl (qaa rfl) rfl rfl rfl underlying23 underlying23 (.inl ⟨_,rfl⟩) sizeOf5 Tryz.typeInfo5 zeroValue5 rfl (by decide) rfl rfl rfl (Src.own 2 rfl) rfl ((qdc (xs.take (i + 1))).length) (qaf (qdc (xs.take (i + 1)))) (by first | omega | simp) (by rw [wordsB_snoc hi hm]; exact bytesV_leB _ _) (by simp only [Tryz.t5]; omega) fun A7 c7=>⟨Kp.true,?_⟩
  refine Jp.y 7 rfl (qaa rfl) rfl rfl Kp.true (Y.assign rfl rfl) ?_
  refine Jp.over rfl hK18 ?_
  refine Cd.qac [(0,false),(1,false),(2,false)] rfl rfl ?_
  refine Jp.y 28 rfl (qaa rfl) rfl rfl Kp.true (Y.move rfl rfl) ?_
  refine Jp.y 29 rfl (qaa rfl) rfl rfl Kp.true (Y.qcj rfl rfl rfl (by exact qaj (by omega) (by omega))) ?_
  refine Jp.y 8 rfl (qaa rfl) rfl rfl Kp.true (Y.assign rfl rfl) ?_
  rw [show (i : Int) + 1 = ((i + 1 : Nat) : Int) by omega]
  refine Jp.again hLa ⟨i + 1,A7,c7⟩ ⟨hi,by show i + 1 ≤ 64; omega⟩ (by show 64 - (i + 1) < 64 - i; omega) rfl ⟨rfl,rfl,rfl,rfl,rfl,trivial⟩ ⟨rfl,rfl,trivial⟩
theorem word13_spec (i : InsP) (hi : InsOk i) (hop : 1 ≤ i.op) : Spec Tryz.prog 14 #[.agg i.cells.toArray] (fun _=>True) [] (fun ρ ρ' v L=>ρ' = ρ ∧ v = .int .u32 ((encP i).1 : Int) ∧ L = []):=by
 have hE:=encode_spec i hi hop
 obtain ⟨op,rd,r1,r2,imm⟩:=i
 refine Spec.of 11 Tryz.func14 rfl Tryz.ntmps14 [(0,_)] rfl rfl ?_
 intro cx ρ hr' h0
 refine Cd.seq fun K20 hK20=>?_
 refine Cd.qac [(0,false),(1,false)] rfl rfl ?_
 refine Jp.box 1 1 rfl (qaa rfl) rfl rfl rfl rfl fun b1=>⟨Kp.true,?_⟩
 refine Jp.y 2 rfl (qaa rfl) rfl rfl Kp.true (Y.assign rfl rfl) ?_
 refine Jp.qae hK20 ?_
 refine Cd.seq fun K21 hK21=>?_
 refine Cd.qac [(0,false),(1,false),(2,false),(3,false),(4,false),(5,false),(6,false)] rfl rfl ?_
 refine Jp.y 6 rfl (qaa rfl) rfl rfl Kp.true (by exact Y.qah 1 rfl isAgg60 sizeOf60 rfl rfl rfl) ?_
 refine Jp.call [] [] hE 7 rfl (qaa rfl) rfl rfl (Runs.fn rfl call32 rfl) (by decide) (by decide) rfl trivial ?_
 rintro v1 ρ1 L1 ⟨rfl,rfl,rfl⟩
 refine ⟨rfl,fun hle1=>⟨Kp.true,?_⟩⟩
 refine Jp.y 5 rfl (qaa rfl) rfl rfl Kp.true (Y.move rfl rfl) ?_
 refine Jp.y 8 rfl (qaa rfl) rfl rfl Kp.true (Y.extract rfl rfl rfl) ?_
 refine Jp.y 9 rfl (qaa rfl) rfl rfl Kp.true (Y.extract rfl rfl rfl) ?_
 refine Jp.y 3 rfl (qaa rfl) rfl rfl Kp.true (Y.assign rfl rfl) ?_
 refine Jp.y 4 rfl (qaa rfl) rfl rfl Kp.true (Y.assign rfl rfl) ?_
 refine Jp.qae hK21 ?_
 refine Cd.seq fun K22 hK22=>?_
 refine Cd.qac [(0,false),(1,false)] rfl rfl ?_
 refine Jp.y 10 rfl (qaa rfl) rfl rfl Kp.true (Y.move rfl rfl) ?_
 refine Jp.y 2 rfl (qaa rfl) rfl rfl Kp.true (Y.assign rfl rfl) ?_
 refine Jp.qae hK22 ?_
 refine Cd.ret [] rfl (qbd rfl rfl) trivial ⟨rfl,rfl,rfl⟩
end Go.Proofs.YtnfkalpgidiafaaGreat

namespace Go.Proofs.YtnfkalpgidiafaaGreat
open _root_.Go.Proofs.Tryz
open Go
theorem part_agg {P : Program} {e : TypeId} {m : Nat} {xs : Array Value} {off : Nat} {w : World} (hA : ∀ w,(isAgg e).run P w = .ok true w) (hz : ∀ w,(sizeOf e).run P w = .ok m w) : (part e xs off).run P w = .ok (.agg (xs.extract off (off + m))) w:=by
 simp only [part,Sem.run_bind,hA,Result.andThen_ok,if_true,hz,Sem.run_pure]
theorem natsV_int (l : List Nat) : qbk .u32 l = (l.map fun n : Nat=>(n : Int)).map (Value.int .u32):=by
 rw [qbk,List.map_map]; rfl
theorem nats_dec (a b : List Nat) : decide ((a.map fun n : Nat=>(n : Int)) = b.map fun n : Nat=>(n : Int)) = decide (a = b):=by
 rw [Bool.eq_iff_iff,decide_eq_true_eq,decide_eq_true_eq]
 constructor
 ·intro h
  have h2:=congrArg (List.map Int.toNat) h
  rw [List.map_map,List.map_map] at h2
  have e : (Int.toNat ∘ fun n : Nat=>(n : Int)) = id:=by funext n; simp
  rwa [e,List.map_id,List.map_id] at h2
 ·intro h; rw [h]
theorem x32_info : (Tryz.prog.info? 24).isSome = true:=by kernel_rfl
theorem x32_one : Tryz.prog.cellsOf 24 = 1:=by kernel_rfl
theorem x32_eqd (d : Nat) {a b : List Nat} (ha : a.length = 32) (hb : b.length = 32) (w : World) : (Op.equalIn (d + 2) 25 (.agg (qbk .u32 a).toArray) (.agg (qbk .u32 b).toArray)).run Tryz.prog w = .ok (decide (a = b)) w:=by
 rw [natsV_int,natsV_int,equal_arr underlying25 x32_info x32_one isAgg24 underlying24 (by rw [List.length_map]; exact ha) (by rw [List.length_map]; exact hb) w,nats_dec]
def stEq (a b : StP) : Bool:=decide (a.x = b.x) && (((a.pc : Int) == (b.pc : Int)) && ((a.ret == b.ret) && true))
theorem stEq_iff (a b : StP) : stEq a b = true ↔ a = b:=by
 obtain ⟨a1,a2,a3⟩:=a
 obtain ⟨b1,b2,b3⟩:=b
 simp [stEq]
 intro _
 omega
theorem st_guard : Tryz.prog.eqGuardType Tryz.prog.depth 27 = false:=by kernel_rfl
theorem st_stood : Tryz.prog.stoodInHeld 27 = false:=by kernel_rfl
theorem st_fields : Tryz.prog.underlying 27 = some (.struct (Tryz.prog.fieldsOf 27)):=by kernel_rfl
theorem st_list : (Tryz.prog.fieldsOf 27).toList = [Field.mk "X" 25 0 false "" "" 0, Field.mk "PC" 24 32 false "" "" 128, Field.mk "Retired" 2 33 false "" "" 136] := by kernel_rfl
theorem st_cut {s : StP} (h : s.x.length = 32) : s.cells.toArray.extract 0 (0 + 32) = (qbk .u32 s.x).toArray:=by
 rw [List.extract_toArray]
 congr 1
 simp [StP.cells,qbk,List.extract,h]
theorem st_eq (a b : StP) (ha : a.x.length = 32) (hb : b.x.length = 32) (w : World) : (Op.eqFields 9999 a.cells.toArray b.cells.toArray (Tryz.prog.fieldsOf 27).toList).run Tryz.prog w = .ok (stEq a b) w:=by
 rw [st_list]
 refine eqFields_any (by decide) (part_agg (m:=32) isAgg25 sizeOf25) (part_agg (m:=32) isAgg25 sizeOf25) ?_ (qbo (by decide) (qbl isAgg24 (StP.cPc' ha)) (qbl isAgg24 (StP.cPc' hb)) underlying24 (qbo (by decide) (qbl isAgg2 (StP.cRet' ha)) (qbl isAgg2 (StP.cRet' hb)) underlying2 rfl))
 show (Op.equalIn 9999 25 (.agg (a.cells.toArray.extract 0 (0 + 32))) (.agg (b.cells.toArray.extract 0 (0 + 32)))).run Tryz.prog w = _
 rw [st_cut ha,st_cut hb]
 exact x32_eqd 9997 ha hb w
end Go.Proofs.YtnfkalpgidiafaaGreat

namespace Go.Proofs.YtnfkalpgidiafaaGreat
open _root_.Go.Proofs.Tryz
open Go
theorem tg_guard : Tryz.prog.eqGuardType Tryz.prog.depth 40 = false:=by kernel_rfl
theorem tg_info : (Tryz.prog.info? 5).isSome = true:=by kernel_rfl
theorem tg_cells : Tryz.prog.cellsOf 5 = 1:=by kernel_rfl
theorem tg_eqd (d : Nat) {a b : qal} (ha : a.length = 4) (hb : b.length = 4) (w : World) : (Op.equalIn (d + 2) 40 (.agg (qaf a).toArray) (.agg (qaf b).toArray)).run Tryz.prog w = .ok (decide (a = b)) w:=by
 rw [qgh,qgh,equal_arr (d:=d) underlying40 tg_info tg_cells isAgg5 underlying5 (by rw [List.length_map]; exact ha) (by rw [List.length_map]; exact hb),bytes_dec]
def chunkL (X : qal) (i : Nat) : qal:=(X.drop (i * 4)).take 4
def alEq (a b : AlP) : Bool:=(a.ret == b.ret) && (((a.pc : Int) == (b.pc : Int)) && (((a.sink : Int) == (b.sink : Int)) && (((a.lab.toNat : Int) == (b.lab.toNat : Int)) && true)))
theorem AlP.len (a : AlP) : a.cells.length = 4:=rfl
end Go.Proofs.YtnfkalpgidiafaaGreat

namespace Go.Proofs.YtnfkalpgidiafaaGreat
open _root_.Go.Proofs.Tryz
open Go
def lb0 : qal:=List.replicate 128 0
def pol0 (pp : Bool) : PolG:=⟨pp,⟨none,0,[]⟩,⟨none,0,[]⟩⟩
theorem pol0_rd (h : Hp) : RdSinkGs (⟨none,0,[]⟩ : Sl SinkG) h:=⟨RdS.nil 3 h,fun x hx=>by cases hx⟩
def awX : qal:=setL lb0 [1,0,0,0] 2
def awY : qal:=setL (setL awX [1,1,1,1] 1) qgj 0
theorem aw13_w : encP ⟨28,1,2,3,0⟩ = (3211443,0):=by kernel_rfl
theorem aw13 : qgk (madeD [3211443] []) ⟨2,[]⟩ (st0 4096) awX false [] = ⟨⟨List.replicate 32 0,4100,1⟩,awY,[],noEv,0,madeD [3211443] [],⟨2,[]⟩⟩:=by kernel_rfl
theorem awake13_spec : Spec Tryz.prog 5 #[] (fun _=>True) [] (fun ρ ρ' v L=>v = .bool true ∧ L = []):=by
 refine Spec.of 51 Tryz.func5 rfl Tryz.ntmps5 [] rfl rfl ?_
 intro cx ρ hr' h0
 refine Cd.seq fun K1 hK1=>?_
 refine Cd.qac [(0,false)] rfl rfl ?_
 refine Jp.y 0 rfl (qaa rfl) rfl rfl Kp.true (Y.assign rfl rfl) ?_
 refine Jp.qae hK1 ?_
 refine Cd.seq fun K2 hK2=>?_
 refine Cd.qac [(0,false),(1,false),(2,false),(3,false),(4,false)] rfl rfl ?_
 refine Jp.y 10 rfl (qaa rfl) rfl rfl Kp.true (Y.struct [(0,_),(1,_),(2,_),(3,_)] [_,_,_,_,_] rfl rfl places60 zeroValue60 rfl) ?_
 refine Jp.call [] [] (word13_spec ⟨28,1,2,3,0⟩ ⟨by decide,by decide,by decide,by decide,by decide⟩ (by decide)) 11 rfl (qaa rfl) rfl rfl (Runs.fn rfl call14 rfl) (by decide) (by decide) rfl trivial ?_
 rintro v1 ρ1 L1 ⟨rfl,rfl,rfl⟩
 refine ⟨rfl,fun hle1=>⟨Kp.true,?_⟩⟩
 rw [aw13_w]
 refine Jp.lit 12 9 [(0,_)] [_] rfl (qaa rfl) rfl rfl rfl rfl underlying22 sizeOf24 zeroValue24 rfl rfl rfl rfl rfl fun b9=>⟨Kp.true,?_⟩
 refine Jp.freeze (i:=9) rfl (OwnS.up _ _ _ _ _ _) fun ρ7 hle7 hA7=>?_
 refine Jp.call [] [0] (qgz (some ⟨b9,0,none⟩) 1 [3211443] none 0 [] (by intro x hx; simp at hx; exact ⟨3211443,hx,by omega⟩)) 13 rfl (qaa rfl) rfl rfl (Runs.fn rfl call6 rfl) (by decide) (by decide) rfl ⟨hA7.rd,RdS.nil 1 _⟩ ?_
 rintro v2 ρ2 L2 ⟨b,rfl,rfl⟩
 refine ⟨rfl,fun hle2=>⟨Kp.true,?_⟩⟩
 refine Jp.y 1 rfl (qaa rfl) rfl rfl Kp.true (Y.assign rfl rfl) ?_
 refine Jp.qae hK2 ?_
 refine Cd.seq fun K3 hK3=>?_
 refine Cd.qac [(0,false),(1,false),(2,false),(3,false),(4,false),(5,false)] rfl rfl ?_
 refine Jp.call [] [1] (shNew_spec 2) 15 rfl (qaa rfl) rfl rfl (Runs.fn rfl call7 rfl) (by decide) (by decide) rfl trivial ?_
 rintro v3 ρ3 L3 ⟨rfl,bs,rfl,rfl⟩
 refine ⟨rfl,fun hle3=>⟨Kp.true,?_⟩⟩
 refine Jp.y 14 rfl (qaa rfl) rfl rfl Kp.true (Y.move rfl rfl) ?_
 refine Jp.y 16 rfl (qaa rfl) rfl rfl Kp.true (Y.extract rfl rfl rfl) ?_
 refine Jp.y 17 rfl (qaa rfl) rfl rfl Kp.true (Y.extract rfl rfl rfl) ?_
 refine Jp.y 2 rfl (qaa rfl) rfl rfl Kp.true (Y.assign rfl rfl) ?_
 refine Jp.y 3 rfl (qaa rfl) rfl rfl Kp.true (Y.assign rfl rfl) ?_
 refine Jp.qae hK3 ?_
 refine Cd.seq fun K4 hK4=>?_
 refine Cd.qac [(0,false),(1,false),(2,false)] rfl rfl ?_
 refine Jp.y 18 rfl (qaa rfl) rfl rfl Kp.true (Y.array [] [_,_,_,_,_,_,_,_,_,_,_,_,_,_,_,_,_,_,_,_,_,_,_,_,_,_,_,_,_,_,_,_,_,_,_,_,_,_,_,_,_,_,_,_,_,_,_,_,_,_,_,_,_,_,_,_,_,_,_,_,_,_,_,_,_,_,_,_,_,_,_,_,_,_,_,_,_,_,_,_,_,_,_,_,_,_,_,_,_,_,_,_,_,_,_,_,_,_,_,_,_,_,_,_,_,_,_,_,_,_,_,_,_,_,_,_,_,_,_,_,_,_,_,_,_,_,_,_] rfl rfl underlying42 sizeOf40 zeroValue42 rfl) ?_
 refine Jp.alloc 4 4 rfl (qaa rfl) rfl rfl rfl zeroValue42 fun b4=>⟨Kp.true,?_⟩
 refine Jp.qcb 4 rfl (qaa rfl) rfl rfl sizeOf42 rfl rfl rfl rfl rfl rfl (fun k _ _=>qas k) Kp.true ?_
 refine Jp.qae hK4 ?_
 refine Cd.seq fun K5 hK5=>?_
 refine Cd.qac [(0,false),(1,false),(2,false)] rfl rfl ?_
 refine Jp.y 19 rfl (qaa rfl) rfl rfl Kp.true (Y.array [(0,_)] [_,_,_,_] rfl rfl underlying40 sizeOf5 zeroValue40 rfl) ?_
 refine Jp.y 20 rfl (qaa rfl) rfl rfl Kp.true (Y.qam rfl rfl rfl underlying42 sizeOf40 (by first | decide | omega) (by first | decide | omega) rfl) ?_
 refine Jp.qcb (cs:=qaf [1,0,0,0]) 4 rfl (qaa rfl) rfl rfl sizeOf40 rfl rfl rfl rfl rfl rfl (fun k _ _=>qas k) Kp.true ?_
 refine Jp.imp (j:=4) rfl (fun h hh=>(show Pt b4 (.cells (qaf awX).toArray 42) h from hh)) ?_
 have hS:=qgq b bs (madeD [3211443] []) ⟨2,[]⟩ (st0 4096) awX (pol0 false) (st0_ok (by decide)) rfl (by decide)
 rw [show qgk (madeD [3211443] []) ⟨2,[]⟩ (st0 4096) awX (pol0 false).pointer (pol0 false).sinks.xs = _ from aw13] at hS
 refine Jp.qae hK5 ?_
 refine Cd.seq fun K6 hK6=>?_
 refine Cd.qac [(0,false),(1,false),(2,false),(3,false),(4,false),(5,false),(6,false),(7,false),(8,false),(9,false),(10,false),(11,false),(12,false),(13,false),(14,false),(15,false),(16,false),(17,false),(18,false),(19,false)] rfl rfl ?_
 refine Jp.y 22 rfl (qaa rfl) rfl rfl Kp.true (Y.move rfl rfl) ?_
 refine Jp.y 23 rfl (qaa rfl) rfl rfl Kp.true (Y.move rfl rfl) ?_
 refine Jp.y 24 rfl (qaa rfl) rfl rfl Kp.true (Y.struct [(1,_)] [_,_,_,_,_,_,_,_,_,_,_,_,_,_,_,_,_,_,_,_,_,_,_,_,_,_,_,_,_,_,_,_,_,_] rfl rfl places27 zeroValue27 rfl) ?_
 refine Jp.y 25 rfl (qaa rfl) rfl rfl Kp.true (by first | exact Y.qah 4 rfl isAgg42 sizeOf42 rfl rfl rfl) ?_
 refine Jp.y 26 rfl (qaa rfl) rfl rfl Kp.true (Y.struct [] [_,_,_] rfl rfl places31 zeroValue31 rfl) ?_
 refine Jp.call [0,1] [0,1,2] hS 27 rfl (qaa rfl) rfl rfl (Runs.fn rfl call8 rfl) (by decide) (by decide) rfl (pol0_rd _) ?_
 rintro v4 ρ4 L4 ⟨A,c,rfl,rfl⟩
 refine ⟨rfl,fun hle4=>⟨Kp.true,?_⟩⟩
 refine Jp.y 21 rfl (qaa rfl) rfl rfl Kp.true (Y.move rfl rfl) ?_
 refine Jp.y 28 rfl (qaa rfl) rfl rfl Kp.true (Y.extract rfl rfl rfl) ?_
 refine Jp.y 29 rfl (qaa rfl) rfl rfl Kp.true (Y.extract rfl rfl rfl) ?_
 refine Jp.y 30 rfl (qaa rfl) rfl rfl Kp.true (Y.extract rfl rfl rfl) ?_
 refine Jp.y 31 rfl (qaa rfl) rfl rfl Kp.true (Y.extract rfl rfl rfl) ?_
 refine Jp.y 32 rfl (qaa rfl) rfl rfl Kp.true (Y.extract rfl rfl rfl) ?_
 refine Jp.alloc 5 5 rfl (qaa rfl) rfl rfl rfl zeroValue27 fun b5=>⟨Kp.true,?_⟩
 refine Jp.alloc 6 6 rfl (qaa rfl) rfl rfl rfl zeroValue42 fun b6=>⟨Kp.true,?_⟩
 refine Jp.alloc 8 8 rfl (qaa rfl) rfl rfl rfl zeroValue46 fun b8=>⟨Kp.true,?_⟩
 refine Jp.qai 5 rfl (qaa rfl) rfl rfl sizeOf27 rfl rfl (by first | rfl | assumption) (by first | rfl | assumption) rfl (by first | rfl | assumption) (fun k _ _=>qas k) Kp.true ?_
 refine Jp.qai 6 rfl (qaa rfl) rfl rfl sizeOf42 rfl rfl (by first | rfl | assumption) (by first | rfl | assumption) rfl (by first | rfl | assumption) (fun k _ _=>qas k) Kp.true ?_
 refine Jp.y 7 rfl (qaa rfl) rfl rfl Kp.true (Y.assign rfl rfl) ?_
 refine Jp.qai 8 rfl (qaa rfl) rfl rfl sizeOf46 rfl rfl (by first | rfl | assumption) (by first | rfl | assumption) rfl (by first | rfl | assumption) (fun k _ _=>qas k) Kp.true ?_
 refine Jp.y 9 rfl (qaa rfl) rfl rfl Kp.true (Y.assign rfl rfl) ?_
 refine Jp.qae hK6 ?_
 refine Cd.seq fun K7 hK7=>?_
 refine Cd.qac [(0,false),(1,false),(2,false),(3,false),(4,false),(5,false),(6,false),(7,false),(8,false),(9,false),(10,false),(11,false),(12,false),(13,false),(14,false),(15,false),(16,false),(17,false),(18,false)] rfl rfl ?_
 refine Jp.y 33 rfl (qaa rfl) rfl rfl Kp.true (Y.qam rfl rfl rfl underlying42 sizeOf40 (by first | decide | omega) (by first | decide | omega) rfl) ?_
 refine Jp.y 34 rfl (qaa rfl) rfl rfl Kp.true (Y.qic 6 (qaf (qcr awY 1)) rfl isAgg40 sizeOf40 rfl rfl rfl (fun p v h=>labOf_get (X:=awY) (r:=1) (by decide) p v h)) ?_
 refine Jp.y 35 rfl (qaa rfl) rfl rfl Kp.true (Y.array [(0,_),(1,_),(2,_),(3,_)] [_,_,_,_] rfl rfl underlying40 sizeOf5 zeroValue40 rfl) ?_
 refine Jp.y 36 rfl (qaa rfl) rfl rfl Kp.true (Y.eqlV (xs:=(qaf (qcr awY 1)).toArray) (ys:=(qaf [1,1,1,1]).toArray) (r:=true) rfl rfl rfl tg_guard (fun w=>by rw [tg_eqd 9998 rfl rfl,decide_eq_true (by kernel_rfl)])) ?_
 refine Jp.y 37 rfl (qaa rfl) rfl rfl Kp.true (Y.move rfl rfl) ?_
 refine Jp.slot 37 rfl (show _ = Value.bool true from rfl) ?_
 refine Jp.y 38 rfl (qab rfl rfl rfl rfl) rfl rfl Kp.true (Y.move rfl rfl) ?_
 refine Jp.y 39 rfl (qab rfl rfl rfl rfl) rfl rfl Kp.true (Y.qbq rfl underlying43 rfl) ?_
 refine Jp.y 40 rfl (qab rfl rfl rfl rfl) rfl rfl Kp.true (Y.eql rfl rfl rfl) ?_
 refine Jp.y 41 rfl (qaa rfl) rfl rfl Kp.true (Y.qav rfl rfl rfl) ?_
 refine Jp.y 42 rfl (qaa rfl) rfl rfl Kp.true (Y.move rfl rfl) ?_
 refine Jp.slot 42 rfl (show _ = Value.bool true from rfl) ?_
 refine Jp.y 43 rfl (qab rfl rfl rfl rfl) rfl rfl Kp.true (by exact Y.qah 8 rfl isAgg46 sizeOf46 rfl rfl (by first | rfl | assumption)) ?_
 refine Jp.y 44 rfl (qab rfl rfl rfl rfl) rfl rfl Kp.true (Y.struct [] [_,_,_] rfl rfl qca zeroValue46 rfl) ?_
 refine Jp.y 45 rfl (qab rfl rfl rfl rfl) rfl rfl Kp.true (Y.eqlS (xs:=noEv.cells.toArray) (ys:=noEv.cells.toArray) (r:=true) rfl rfl rfl ev_guard ev_fields ev_stood (fun w=>by rw [ev_eq,(evEq_iff _ _).2 rfl])) ?_
 refine Jp.y 46 rfl (qaa rfl) rfl rfl Kp.true (Y.qav rfl rfl rfl) ?_
 refine Jp.y 47 rfl (qaa rfl) rfl rfl Kp.true (Y.move rfl rfl) ?_
 refine Jp.slot 47 rfl (show _ = Value.bool true from rfl) ?_
 refine Jp.y 48 rfl (qab rfl rfl rfl rfl) rfl rfl Kp.true (Y.move rfl rfl) ?_
 refine Jp.y 49 rfl (qab rfl rfl rfl rfl) rfl rfl Kp.true (Y.eql rfl rfl rfl) ?_
 refine Jp.y 50 rfl (qaa rfl) rfl rfl Kp.true (Y.qav rfl rfl rfl) ?_
 refine Jp.y 0 rfl (qaa rfl) rfl rfl Kp.true (Y.assign rfl rfl) ?_
 refine Jp.qae hK7 ?_
 refine Cd.ret [] rfl (qbd rfl rfl) trivial ⟨rfl,rfl⟩
end Go.Proofs.YtnfkalpgidiafaaGreat

namespace Go.Proofs.YtnfkalpgidiafaaGreat
open Go
theorem win_len {l : List (Nat × Pg)} (hl : ShOk l) {lo N : Nat} (hlo : lo % 256 = 0) (h : ∀ x ∈ l,lo ≤ x.1 ∧ x.1 < lo + 256 * N) : l.length ≤ N:=by
 have key : ∀ (N : Nat) (l : List Nat),l.Nodup → (∀ x ∈ l,x < N) → l.length ≤ N:=by
  intro N
  induction N with
  | zero=>intro l _ h; cases l with
   | nil=>exact Nat.le_refl _
   | cons x l=>exact absurd (h x (List.mem_cons_self ..)) (by omega)
  | succ N ih =>
   intro l hn h
   have h1:=ih (l.erase N) (hn.erase N) fun x hx=>by
    have:=(hn.mem_erase_iff).1 hx
    have:=h x this.2
    omega
   have h2 : l.length ≤ (l.erase N).length + 1:=by rw [List.length_erase]; split <;> omega
   omega
 have h2 := key N (l.map fun x => (x.1 - lo) / 256) (by
  rw [List.Nodup,List.pairwise_map]
  have hr : l.Pairwise fun x y=>x.1 ≠ y.1:=hl.rising.imp fun h=>by omega
  refine (List.Pairwise.and_mem.1 hr).imp fun {x y} hxy=>?_
  obtain ⟨hx,hy,hne⟩:=hxy
  have a1:=(hl.page x hx).al
  have a2:=(hl.page y hy).al
  have b1:=h x hx
  have b2:=h y hy
  omega) fun x hx => by
   obtain ⟨y,hy,rfl⟩:=List.mem_map.1 hx
   have:=h y hy
   omega
 simpa using h2
theorem sub_len : ∀ {m l : List Nat},m.Nodup → (∀ x ∈ m,x ∈ l) → m.length ≤ l.length
 | [],l,_,_=>Nat.zero_le _
 | x :: m,l,hn,h=>by
  rw [List.nodup_cons] at hn
  have hx:=h x (List.mem_cons_self ..)
  have h1:=sub_len (m:=m) (l:=l.erase x) hn.2 fun y hy=>(List.mem_erase_of_ne (fun e=>hn.1 (by rw [← e]; exact hy))).2 (h y (List.mem_cons_of_mem _ hy))
  rw [List.length_erase_of_mem hx] at h1
  have:=List.length_pos_of_mem hx
  rw [List.length_cons]; omega
theorem put_keys {l : List (Nat × Pg)} {k : Nat} {b : qal} : ∀ x ∈ qdh l k b,x.1 = k ∨ x.1 ∈ l.map (·.1):=by
 intro x hx
 unfold qdh at hx
 split at hx
 ·split at hx
  ·exact .inr (List.mem_map.2 ⟨x,(List.mem_filter.1 hx).1,rfl⟩)
  ·right
   rw [← qem l k ⟨b,qek b⟩]
   exact List.mem_map.2 ⟨x,hx,rfl⟩
 ·split at hx
  ·exact .inr (List.mem_map.2 ⟨x,hx,rfl⟩)
  ·have:=(qby _ _ _).mem_iff.1 hx
   rcases List.mem_cons.1 this with rfl | h
   ·exact .inl rfl
   ·exact .inr (List.mem_map.2 ⟨x,h,rfl⟩)
theorem lay_keys : ∀ {bs : qal} {l : List (Nat × Pg)} {a : Nat},∀ x ∈ layP l a bs,(∃ j,j < bs.length ∧ x.1 = qap (a + j)) ∨ x.1 ∈ l.map (·.1)
 | [],l,a,x,hx=>.inr (List.mem_map.2 ⟨x,hx,rfl⟩)
 | v :: bs,l,a,x,hx=>by
  rcases lay_keys (bs:=bs) (l:=oneP l a v) (a:=a + 1) x hx with ⟨j,h1,h2⟩ | h
  ·exact .inl ⟨j + 1,by simpa using h1,by rw [h2]; congr 1; omega⟩
  ·obtain ⟨y,hy,e⟩:=List.mem_map.1 h
   rcases put_keys y hy with h | h
   ·exact .inl ⟨0,by simp,by rw [← e,h]; rfl⟩
   ·exact .inr (by rw [← e]; exact h)
theorem lay_more {l : List (Nat × Pg)} (h : ShOk l) {a : Nat} {bs : qal} (ha : a + bs.length ≤ 4294967296) {N : Nat} (hN : (a % 256 + bs.length + 255) / 256 ≤ N) : (layP l a bs).length ≤ l.length + N:=by
 have hok:=lay_ok h ha
 have h1 : ((layP l a bs).filter fun x=>decide (x.1 ∈ l.map (·.1))).length ≤ l.length:=by
  have hn : (((layP l a bs).filter fun x=>decide (x.1 ∈ l.map (·.1))).map (·.1)).Nodup:=hok.rising.nodup.sublist (List.filter_sublist.map _)
  have hs : ∀ x ∈ ((layP l a bs).filter fun x=>decide (x.1 ∈ l.map (·.1))).map (·.1),x ∈ l.map (·.1):=fun x hx=>by
   obtain ⟨y,hy,rfl⟩:=List.mem_map.1 hx
   simpa using (List.mem_filter.1 hy).2
  have:=sub_len hn hs
  simpa using this
 have h2 : ((layP l a bs).filter fun x=>!decide (x.1 ∈ l.map (·.1))).length ≤ N:=by
  refine win_len (lo:=qap a) ⟨hok.rising.sublist List.filter_sublist,fun x hx=>hok.page x (List.mem_filter.1 hx).1⟩ (base_mod a) fun x hx=>?_
  obtain ⟨hx1,hx2⟩:=List.mem_filter.1 hx
  rcases lay_keys x hx1 with ⟨j,j1,j2⟩ | h
  ·rw [j2]; unfold qap; omega
  ·simp [h] at hx2
 have h3 : ∀ (p : Nat × Pg → Bool) (m : List (Nat × Pg)),m.length = (m.filter p).length + (m.filter fun x=>!p x).length:=by
  intro p m
  induction m with
  | nil=>rfl
  | cons x m ih =>
   rw [List.filter_cons,List.filter_cons]
   cases p x <;> simp <;> omega
 have:=h3 (fun x=>decide (x.1 ∈ l.map (·.1))) (layP l a bs)
 omega
theorem setM_yes {S : ShG} (h : ShOk S.pages) {a : Nat} {bs : qal} (ha : a + bs.length ≤ 4294967296) {N : Nat} (hN : (a % 256 + bs.length + 255) / 256 ≤ N) (hb : S.pages.length + N ≤ S.budget) : setM S a bs = (0,⟨S.budget,layP S.pages a bs⟩):=by
 have:=lay_more h ha hN
 unfold setM
 rw [List.take_of_length_le (by omega),if_neg (by omega)]
theorem shOk_nil : ShOk []:=⟨List.Pairwise.nil,fun x h=>(List.not_mem_nil h).elim⟩
end Go.Proofs.YtnfkalpgidiafaaGreat

namespace Go.Proofs.YtnfkalpgidiafaaGreat
open Go
theorem step_stay (M : MemG) (s : StP) (h : (qdo M s).2.1.kind ≠ 0) : (qdo M s).1 = s:=by
 unfold qdo at h ⊢
 split
 ·rename_i hk
  rw [if_pos hk] at h
  unfold qfi at h ⊢
  repeat' split
  all_goals first | rfl | (exfalso; simp_all [noEv]; done)
 ·rfl
theorem flow_cpu (M : MemG) (S : ShG) (s : StP) (X : qal) (pp : Bool) (sk : List SinkG) (h : (layF M S X pp (qbs M s.pc).1 s).1 = 0) :
  (qgk M S s X pp sk).er = 0 ∧ (qgk M S s X pp sk).s = (qdo M s).1 ∧ (qgk M S s X pp sk).ev = (qdo M s).2.1 ∧ (qgk M S s X pp sk).m = (qdo M s).2.2:=by
 have hst:=step_stay M s
 unfold qgk
 rw [if_pos h]
 split
 ·split
  ·exact ⟨rfl,rfl,rfl,rfl⟩
  ·rename_i hk
   exact ⟨rfl,(hst hk).symm,rfl,rfl⟩
 ·rename_i hk
  refine ⟨rfl,?_,?_,?_⟩ <;> (unfold qdo; rw [if_neg hk])
theorem lay_room (M : MemG) {S : ShG} (X : qal) (pp : Bool) (i : InsP) (s : StP) (hS : ShOk S.pages) (hb : S.pages.length + 2 ≤ S.budget) : (layF M S X pp i s).1 = 0:=by
 unfold layF
 split
 ·unfold layT
  split
  ·obtain ⟨t,ht⟩ : ∃ t,qdr (qcr X i.r2) (ptrT X pp i.r1) = t:=⟨_,rfl⟩
   have hal:=qgi i s
   obtain ⟨a,ha⟩ : ∃ a,addrP i s = a:=⟨_,rfl⟩
   rw [ht,ha]
   rw [ha] at hal
   have htl : t.length ≤ 4:=by
    rw [← ht]
    unfold qdr
    rw [List.length_zipWith]
    have : (ptrT X pp i.r1).length = 4:=ptrT_len X pp i.r1
    omega
   unfold putM setM
   have hl:=lay_more (l:=S.pages) (a:=a) (bs:=(t.take (sizedP (qcq i.op).1)).take (4294967296 - a)) hS (by rw [List.length_take]; omega) (N:=2) (by rw [List.length_take,List.length_take]; omega)
   rw [if_neg (by omega)]
  ·rfl
 ·rfl
end Go.Proofs.YtnfkalpgidiafaaGreat

namespace Go.Proofs.YtnfkalpgidiafaaGreat
open Go Go.ChangeShapes Go.WideShapes Go.ChangeAt Go.RowKit
theorem Rdd.array {P : Program} {w : World} {t e : TypeId} {cs : List Value} {n : Nat} (hu : P.underlying t = some (.array n e)) (h : Rdd P w t cs) :
  cs.length = P.cellsOf t ∧ ∀ i,i < n → Rdd P w e ((cs.drop (i * P.cellsOf e)).take (P.cellsOf e)):=by
 obtain ⟨H,enc,base,spare,held,fuel,d,ps,h,hs⟩:=h
 obtain ⟨xs,m,rfl,h2,h3,h4,h5⟩:=DataW.trod_array hu h
 injection h2 with h2 _
 subst h2
 refine ⟨h3,fun i hi=>?_⟩
 have e1 : xs[i]? = some (xs[i]'(by omega)):=by simp [show i < xs.length by omega]
 refine ⟨H,enc,base,spare,held,m,(xs[i]'(by omega)).1,(xs[i]'(by omega)).2,(h5 i hi).trans e1,fun k hk=>hs k ?_⟩
 rw [DataW.weights,hu]
 exact qgn hk (List.mem_map.2 ⟨_,List.getElem_mem _,rfl⟩)
theorem Rdd.arrI {P : Program} {w : World} {t e : TypeId} {cs : List Value} {n : Nat} {k : IntKind} (hu : P.underlying t = some (.array n e)) (he : P.underlying e = some (.int k)) (hm : P.cellsOf e = 1) (ht : P.cellsOf t = n) (h : Rdd P w t cs) :
  ∃ xs : List Int,cs = xs.map (fun x=>Value.int k x) ∧ xs.length = n ∧ ∀ x ∈ xs,(Lit.int k x).wf = true:=by
 obtain ⟨h1,h2⟩:=Rdd.array hu h
 rw [ht] at h1
 have key : ∀ (cs : List Value),(∀ v ∈ cs,∃ x,v = Value.int k x ∧ (Lit.int k x).wf = true) → ∃ xs : List Int,cs = xs.map (fun x=>Value.int k x) ∧ ∀ x ∈ xs,(Lit.int k x).wf = true:=by
  intro cs
  induction cs with
  | nil=>intro _; exact ⟨[],rfl,fun x h=>by cases h⟩
  | cons v cs ih =>
   intro h
   obtain ⟨x,rfl,hx⟩:=h v (List.mem_cons_self ..)
   obtain ⟨xs,rfl,hxs⟩:=ih fun v hv=>h v (List.mem_cons_of_mem _ hv)
   refine ⟨x :: xs,rfl,fun y hy=>?_⟩
   rcases List.mem_cons.1 hy with rfl | hy
   ·exact hx
   ·exact hxs y hy
 obtain ⟨xs,e1,e2⟩:=key cs fun v hv=>by
  obtain ⟨i,hi,rfl⟩:=List.mem_iff_getElem.1 hv
  have:=h2 i (by omega)
  rw [hm,Nat.mul_one] at this
  have h3 : (cs.drop i).take 1 = [cs[i]]:=by
   rw [List.drop_eq_getElem_cons hi,List.take_succ_cons,List.take_zero]
  rw [h3] at this
  obtain ⟨x,hx,hw⟩:=Rdd.int he this
  injection hx with hx
  exact ⟨x,hx,hw⟩
 exact ⟨xs,e1,by rw [← h1,e1,List.length_map],e2⟩
theorem Rdd.arrN {P : Program} {w : World} {t e : TypeId} {cs : List Value} {n : Nat} {k : IntKind} {N : Nat} (hk : ∀ x : Int,(Lit.int k x).wf = true → 0 ≤ x ∧ x < N) (hu : P.underlying t = some (.array n e)) (he : P.underlying e = some (.int k)) (hm : P.cellsOf e = 1) (ht : P.cellsOf t = n) (h : Rdd P w t cs) :
  ∃ xs : List Nat,cs = xs.map (fun x : Nat=>Value.int k (x : Int)) ∧ xs.length = n ∧ ∀ x ∈ xs,x < N:=by
 obtain ⟨xs,rfl,h1,h2⟩:=Rdd.arrI hu he hm ht h
 refine ⟨xs.map Int.toNat,?_,by rw [List.length_map]; exact h1,fun x hx=>?_⟩
 ·rw [List.map_map]
  refine List.map_congr_left fun x hx=>?_
  have:=hk x (h2 x hx)
  simp only [Function.comp]
  rw [show ((x.toNat : Nat) : Int) = x by omega]
 ·obtain ⟨y,hy,rfl⟩:=List.mem_map.1 hx
  have:=hk y (h2 y hy)
  omega
theorem wfn_u32 (x : Int) (h : (Lit.int .u32 x).wf = true) : 0 ≤ x ∧ x < (4294967296 : Nat):=by
 rw [Lit.wf,Bool.and_eq_true] at h
 have h1 : 0 ≤ x:=of_decide_eq_true h.1
 have h2 : x ≤ 4294967295:=of_decide_eq_true h.2
 omega
theorem wfn_u8 (x : Int) (h : (Lit.int .u8 x).wf = true) : 0 ≤ x ∧ x < (256 : Nat):=by
 rw [Lit.wf,Bool.and_eq_true] at h
 have h1 : 0 ≤ x:=of_decide_eq_true h.1
 have h2 : x ≤ 255:=of_decide_eq_true h.2
 omega
theorem Rdd.arrB {P : Program} {w : World} {t e : TypeId} {cs : List Value} {n : Nat} (hu : P.underlying t = some (.array n e)) (he : P.underlying e = some (.int .u8)) (hm : P.cellsOf e = 1) (ht : P.cellsOf t = n) (h : Rdd P w t cs) :
  ∃ xs : List UInt8,cs = qaf xs ∧ xs.length = n:=by
 obtain ⟨xs,rfl,h1,h2⟩:=Rdd.arrN wfn_u8 hu he hm ht h
 refine ⟨xs.map UInt8.ofNat,?_,by rw [List.length_map]; exact h1⟩
 rw [qaf,List.map_map]
 refine List.map_congr_left fun x hx=>?_
 have:=h2 x hx
 simp only [Function.comp]
 rw [UInt8.toNat_ofNat',Nat.mod_eq_of_lt this]
theorem val_array {P : Program} {w W : World} {r : Reach} {b : Nat} {t e : TypeId} {n : Nat} {v : Value} {cs : List Value} (hu : P.underlying t = some (.array n e)) (h : Value.okWide P W r b t v) (hc : v.cells.toList = cs) : v = .agg cs.toArray:=by
 simp only [Value.okWide,hu] at h
 obtain ⟨cs',rfl,_⟩:=h
 subst hc
 simp [Value.cells]
end Go.Proofs.YtnfkalpgidiafaaGreat

namespace Go.Proofs.YtnfkalpgidiafaaGreat
open _root_.Go.Proofs.Tryz
open Go Go.ChangeShapes Go.WideShapes Go.ChangeAt Go.RowKit
theorem storeM_len13 (M : MemG) (a : Nat) (n : Int) (v : Nat) : (qel M a n v).2.pages.length = M.pages.length:=by
 unfold qel
 split
 ·split
  ·show (qbt _ _ _).length = _
   rw [qbt,List.length_map]
  ·rfl
 ·rfl
theorem doInsP_pages13 (M : MemG) (i : InsP) (s : StP) : (qfi M i s).2.2.pages.length = M.pages.length:=by
 unfold qfi
 repeat' split
 all_goals first | rfl | exact storeM_len13 ..
theorem stepP_pages13 (M : MemG) (s : StP) : (qdo M s).2.2.pages.length = M.pages.length:=by
 unfold qdo
 split
 ·exact doInsP_pages13 ..
 ·rfl
theorem writeM_len13 (M : MemG) (a : Nat) (l : qal) (most need : Int) : (qdg M a l most need).2.pages.length = M.pages.length:=by
 unfold qdg
 split
 ·rfl
 ·split
  ·rfl
  ·rw [← List.length_map (f:=(·.1)),wrM_keys,List.length_map]
theorem madeD_len13 (xs : List Int) (bs : qal) : (madeD xs bs).pages.length ≤ 12:=by
 unfold madeD
 rw [writeM_len13,writeM_len13]
 decide +kernel
theorem lcells_u8 : Tryz.prog.cellsOf 5 = 1:=by kernel_rfl
theorem lcells_tag : Tryz.prog.cellsOf 40 = 4:=by kernel_rfl
theorem lcells_labels : Tryz.prog.cellsOf 42 = 128:=by kernel_rfl
theorem all_bytes : ∀ (cs : List Value),(∀ v ∈ cs,∃ u : UInt8,v = .int .u8 (u.toNat : Int)) → ∃ X : qal,cs = qaf X
 | [],_=>⟨[],rfl⟩
 | v :: cs,h=>by
  obtain ⟨u,hu⟩:=h v (List.mem_cons_self ..)
  obtain ⟨X,hX⟩:=all_bytes cs fun w hw=>h w (List.mem_cons_of_mem _ hw)
  exact ⟨u :: X,by rw [hu,hX]; rfl⟩
theorem Rdd.labelsW {w : World} {cs : List Value} (h : Rdd Tryz.prog w 42 cs) : ∃ X : qal,cs = qaf X ∧ X.length = 128:=by
 obtain ⟨h1,h2⟩:=Rdd.array underlying42 h
 rw [lcells_labels] at h1
 rw [lcells_tag] at h2
 obtain ⟨X,hX⟩:=all_bytes cs fun v hv=>by
  obtain ⟨j,hj,rfl⟩:=List.mem_iff_getElem.1 hv
  obtain ⟨t,ht,_⟩:=Rdd.arrB underlying40 underlying5 lcells_u8 lcells_tag (h2 (j / 4) (by omega))
  have e : ((cs.drop (j / 4 * 4)).take 4)[j % 4]? = some cs[j]:=by
   rw [List.getElem?_take_of_lt (Nat.mod_lt j (by decide)),List.getElem?_drop,show j / 4 * 4 + j % 4 = j by omega]
   exact List.getElem?_eq_getElem hj
  rw [ht,qaf,List.getElem?_map] at e
  cases hx : t[j % 4]? with
  | none=>rw [hx] at e; cases e
  | some u =>
   rw [hx] at e
   injection e with e
   exact ⟨u,e.symm⟩
 exact ⟨X,hX,by rw [← qaz,← hX,h1]⟩
end Go.Proofs.YtnfkalpgidiafaaGreat

namespace Go.Proofs.YtnfkalpgidiafaaGreat
open Go
theorem rs_len {α : Type} {m : Nat} {c : α → List Value} : ∀ {l : List α},(∀ x ∈ l,(c x).length = m) → (l.flatMap c).length = l.length * m
 | [],_=>by simp
 | x :: l,h=>by
  rw [List.flatMap_cons,List.length_append,h x (List.mem_cons_self ..),rs_len fun y hy=>h y (List.mem_cons_of_mem _ hy),List.length_cons,Nat.succ_mul]
  omega
theorem rs_get {α : Type} {m : Nat} {c : α → List Value} : ∀ {l : List α} {k j : Nat} {x : α} {v : Value},(∀ x ∈ l,(c x).length = m) → l[k]? = some x → (c x)[j]? = some v → (l.flatMap c)[k * m + j]? = some v
 | [],_,_,_,_,_,e,_=>by simp at e
 | y :: l,0,j,x,v,h,e,hv=>by
  simp only [List.getElem?_cons_zero,Option.some.injEq] at e
  subst e
  have:=(List.getElem?_eq_some_iff.1 hv).1
  rw [List.flatMap_cons,Nat.zero_mul,Nat.zero_add,List.getElem?_append_left this]
  exact hv
 | y :: l,k + 1,j,x,v,h,e,hv=>by
  have hy:=h y (List.mem_cons_self ..)
  rw [List.flatMap_cons,Nat.succ_mul,List.getElem?_append_right (by omega),hy,show k * m + m + j - m = k * m + j by omega]
  exact rs_get (fun z hz=>h z (List.mem_cons_of_mem _ hz)) (by simpa using e) hv
def lbC (x : Nat × Pg) : List Value:=.int .u32 (x.1 : Int) :: qaf x.2.b
section
variable {P : Program} {n : Nat} {cx : Cx} {ρ : Hp} {E : Env} {L : Own} {ops : Array Oper} {Q : Exit → Act → World → Prop} {S' : World → Prop} {π : List (Nat × Bool)}
end
def qhw (l : List (Nat × Pg)) (k : Nat) : Nat:=l.findIdx fun x=>x.1 == k
theorem findN_cons (x : Nat × Pg) (l : List (Nat × Pg)) (k : Nat) : qhw (x :: l) k = if x.1 = k then 0 else qhw l k + 1:=by
 unfold qhw
 rw [List.findIdx_cons]
 by_cases h : x.1 = k
 ·simp [h]
 ·have : (x.1 == k) = false:=by simpa using h
  rw [this,if_neg h]; rfl
theorem findN_get : ∀ (l : List (Nat × Pg)) (k : Nat),qao l k = (l[qhw l k]?).map (·.2) ∧ (∀ x,l[qhw l k]? = some x → x.1 = k) ∧ qhw l k ≤ l.length
 | [],k=>by simp [qhw,qao]
 | (j,p) :: l,k=>by
  have ih:=findN_get l k
  rw [findN_cons]
  simp only [qao]
  by_cases h : j = k
  ·simp [h]
  ·rw [if_neg h,if_neg h,List.getElem?_cons_succ,List.length_cons]
   exact ⟨ih.1,ih.2.1,by omega⟩
end Go.Proofs.YtnfkalpgidiafaaGreat

namespace Go.Proofs.YtnfkalpgidiafaaGreat
open Go
theorem splL_run : ∀ (vs cur : List Value) (k : Nat),k + vs.length ≤ cur.length → splL cur k vs = cur.take k ++ vs ++ cur.drop (k + vs.length)
 | [],cur,k,_=>by simp [splL]
 | v :: vs,cur,k,h=>by
  rw [List.length_cons] at h
  rw [splL,splL_run vs (cur.set k v) (k + 1) (by rw [List.length_set]; omega),List.length_cons]
  have h1 : (cur.set k v).take (k + 1) = cur.take k ++ [v]:=by
   rw [List.take_succ_eq_append_getElem (by rw [List.length_set]; omega),List.take_set_of_le (Nat.le_refl k),List.getElem_set_self]
  rw [h1,List.drop_set_of_lt (by omega),show k + 1 + vs.length = k + (vs.length + 1) by omega,List.append_assoc,List.append_assoc,List.append_assoc]
  rfl
theorem fill_one {m : Nat} {cells zs : List Value} (hc : cells.length = m) : qha (fun i=>some (i * m,m)) (litZ (1 * m) m zs) [(0,.agg cells.toArray)] = some cells:=by
 have hl : (litZ (1 * m) m zs).length = m:=by simp [litZ]
 have e : (Value.agg cells.toArray).cells.toList = cells:=by simp [Value.cells]
 have h1 : Nat.beq m m = true:=by simp
 have h2 : Nat.ble (0 * m + m) m = true:=by simp
 unfold qha
 dsimp only
 rw [e,hl,hc,h1,h2]
 rw [Bool.and_self,cond_true,splL_run cells _ (0 * m) (by omega),hc]
 unfold qha
 congr 1
 rw [Nat.zero_mul,List.take_zero,Nat.zero_add,List.drop_of_length_le (by omega),List.nil_append,List.append_nil]
theorem ins_at : ∀ {l : List (Nat × Pg)} {k : Nat} (p : Pg),Rising l → k ∉ l.map (·.1) → qfd k p l = l.take (l.takeWhile fun x=>decide (x.1 < k)).length ++ (k,p) :: l.drop (l.takeWhile fun x=>decide (x.1 < k)).length
 | [],k,p,_,_=>rfl
 | x :: l,k,p,h,hk=>by
  obtain ⟨h1,h2⟩:=List.pairwise_cons.1 h
  simp only [List.map_cons,List.mem_cons,not_or] at hk
  by_cases e : x.1 < k
  ·rw [qfd,if_neg (by omega),List.takeWhile_cons_of_pos (by simpa using e),List.length_cons,List.take_succ_cons,List.drop_succ_cons,ins_at p h2 hk.2]; rfl
  ·rw [qfd,if_pos (by have:=hk.1; omega),List.takeWhile_cons_of_neg (by simpa using e)]; rfl
theorem set_at : ∀ {l : List (Nat × Pg)} {k : Nat} {p q : Pg},(l.map (·.1)).Nodup → l[qhw l k]? = some (k,q) → qbt l k p = l.set (qhw l k) (k,p)
 | [],k,p,q,_,h=>by simp at h
 | x :: l,k,p,q,hn,h=>by
  rw [List.map_cons,List.nodup_cons] at hn
  rw [findN_cons] at h ⊢
  unfold qbt
  by_cases e : x.1 = k
  ·rw [if_pos e,List.map_cons,if_pos e,List.set_cons_zero]
   congr 1
   have : l.map (fun y=>if y.1 = k then (k,p) else y) = l.map id:=List.map_congr_left fun y hy=>if_neg fun e2=>hn.1 (by rw [e,← e2]; exact List.mem_map.2 ⟨y,hy,rfl⟩)
   rw [this,List.map_id]
  ·rw [if_neg e] at h ⊢
   rw [List.getElem?_cons_succ] at h
   rw [List.map_cons,if_neg e,List.set_cons_succ]
   congr 1
   exact set_at hn.2 h
theorem rem_at : ∀ {l : List (Nat × Pg)} {k : Nat} {q : Pg},(l.map (·.1)).Nodup → l[qhw l k]? = some (k,q) → remPg l k = l.take (qhw l k) ++ l.drop (qhw l k + 1)
 | [],k,q,_,h=>by simp at h
 | x :: l,k,q,hn,h=>by
  rw [List.map_cons,List.nodup_cons] at hn
  rw [findN_cons] at h ⊢
  unfold remPg
  by_cases e : x.1 = k
  ·rw [if_pos e,List.filter_cons_of_neg (by simpa using e),List.filter_eq_self.2]
   ·rfl
   ·intro y hy
    have : y.1 ≠ k:=fun e2=>hn.1 (by rw [e,← e2]; exact List.mem_map.2 ⟨y,hy,rfl⟩)
    simpa using this
  ·rw [if_neg e] at h ⊢
   rw [List.getElem?_cons_succ] at h
   rw [List.filter_cons_of_pos (by simpa using e),List.take_succ_cons,List.drop_succ_cons,List.cons_append]
   congr 1
   exact rem_at hn.2 h
theorem sh_few {l : List (Nat × Pg)} (h : ShOk l) : l.length ≤ 16777216:=by
 have key : ∀ (N : Nat) (l : List Nat),l.Nodup → (∀ x ∈ l,x < N) → l.length ≤ N:=by
  intro N
  induction N with
  | zero=>intro l _ h; cases l with
   | nil=>exact Nat.le_refl _
   | cons x l=>exact absurd (h x (List.mem_cons_self ..)) (by omega)
  | succ N ih =>
   intro l hn h
   have h1:=ih (l.erase N) (hn.erase N) fun x hx=>by
    have:=(hn.mem_erase_iff).1 hx
    have:=h x this.2
    omega
   have h2 : l.length ≤ (l.erase N).length + 1:=by rw [List.length_erase]; split <;> omega
   omega
 have h2 := key 16777216 (l.map fun x => x.1 / 256) (by
  rw [List.Nodup,List.pairwise_map]
  have hr : l.Pairwise fun x y=>x.1 ≠ y.1:=h.rising.imp fun h=>by omega
  refine (List.Pairwise.and_mem.1 hr).imp fun {x y} hxy=>?_
  obtain ⟨hx,hy,hne⟩:=hxy
  have a1:=(h.page x hx).al
  have a2:=(h.page y hy).al
  omega) fun x hx => by
   obtain ⟨y,hy,rfl⟩:=List.mem_map.1 hx
   have:=(h.page y hy).lt
   omega
 simpa using h2
end Go.Proofs.YtnfkalpgidiafaaGreat

namespace Go.Proofs.YtnfkalpgidiafaaGreat
open Go
def posA (l : List (Nat × Pg)) (a : Nat) : Nat:=(l.takeWhile fun x=>decide (x.1 < a)).length
theorem posA_le (l : List (Nat × Pg)) (a : Nat) : posA l a ≤ l.length:=by
 unfold posA
 induction l with
 | nil=>simp
 | cons x l ih =>
  rw [List.takeWhile_cons]
  split <;> simp <;> omega
theorem posA_base : ∀ {l : List (Nat × Pg)} {a : Nat},(∀ x ∈ l,x.1 % 256 = 0 ∧ x.1 ≠ qap a) → posA l a = posA l (qap a)
 | [],a,_=>rfl
 | x :: l,a,h=>by
  have ih:=posA_base (l:=l) (a:=a) fun y hy=>h y (List.mem_cons_of_mem _ hy)
  have hx:=h x (List.mem_cons_self ..)
  unfold posA at ih ⊢
  have e : decide (x.1 < a) = decide (x.1 < qap a):=by
   rw [Bool.eq_iff_iff,decide_eq_true_eq,decide_eq_true_eq]
   unfold qap at hx ⊢
   omega
  rw [List.takeWhile_cons,List.takeWhile_cons,e]
  split
  ·rw [List.length_cons,List.length_cons,ih]
  ·rfl
theorem one_none {l : List (Nat × Pg)} {a : Nat} {v : UInt8} (h : qao l (qap a) = none) : oneP l a v = if v = 0 then l else qfd (qap a) (pgB (zeroB.set (a % 256) v)) l:=by
 have hm : a % 256 < 256:=Nat.mod_lt _ (by decide)
 have hc : qek (zeroB.set (a % 256) v) = c1 v:=by
  have:=cntB_set (b:=zeroB) (j:=a % 256) (v:=v) (by rw [qda]; exact hm)
  have h0 : zeroB[a % 256]'(by rw [qda]; exact hm) = 0:=by
   have:=qhb (a % 256)
   rw [List.getD_eq_getElem?_getD,List.getElem?_eq_getElem (by rw [qda]; exact hm)] at this
   exact this
  rw [h0,zeroB_cnt] at this
  have e : c1 0 = 0:=rfl
  omega
 unfold oneP qdh bOf
 rw [h]
 dsimp only
 rw [hc]
 unfold c1
 by_cases hv : v = 0
 ·rw [if_pos hv,if_pos rfl,if_pos hv]
 ·rw [if_neg hv,if_neg (by decide),if_neg hv]
  unfold pgB
  rw [hc]; unfold c1; rw [if_neg hv]
theorem one_some {l : List (Nat × Pg)} {a : Nat} {v : UInt8} {p : Pg} (h : qao l (qap a) = some p) : oneP l a v = if qek (p.b.set (a % 256) v) = 0 then remPg l (qap a) else qbt l (qap a) (pgB (p.b.set (a % 256) v)):=by
 unfold oneP qdh bOf
 rw [h]; rfl
def zPg : Pg:=⟨zeroB,0⟩
structure OneJ (l : List (Nat × Pg)) (a : Nat) (v : UInt8) (l1 : List (Nat × Pg)) (i : Nat) : Prop where
 many : l1.length ≤ 16777217
 rows : ∀ y ∈ l1,y.2.b.length = 256
 at' : ∃ q,l1[i]? = some (qap a,q) ∧ q.b = bOf l (qap a)
 full : qek ((bOf l (qap a)).set (a % 256) v) ≠ 0 → l1.set i (qap a,pgB ((bOf l (qap a)).set (a % 256) v)) = oneP l a v
 gone : qek ((bOf l (qap a)).set (a % 256) v) = 0 → l1.take i ++ l1.drop (i + 1) = oneP l a v
theorem OneJ.some {l : List (Nat × Pg)} (h : ShOk l) {a : Nat} {v : UInt8} {p : Pg} (hg : qao l (qap a) = some p) : OneJ l a v l (qhw l (qap a)):=by
 obtain ⟨g1,g2,g3⟩:=findN_get l (qap a)
 rw [hg] at g1
 obtain ⟨y,hy,hy2⟩:=Option.map_eq_some_iff.1 g1.symm
 have hy1:=g2 y hy
 have hyk : l[qhw l (qap a)]? = Option.some (qap a,p):=by rw [hy,← hy1,← hy2]
 have hb : bOf l (qap a) = p.b:=by unfold bOf; rw [hg]
 refine ⟨by have:=sh_few h; omega,fun y hy=>(h.page y hy).len,⟨p,hyk,hb.symm⟩,fun hc=>?_,fun hc=>?_⟩
 ·rw [hb] at hc ⊢
  rw [one_some hg,if_neg hc]
  exact (set_at h.rising.nodup hyk).symm
 ·rw [hb] at hc
  rw [one_some hg,if_pos hc]
  exact (rem_at h.rising.nodup hyk).symm
theorem OneJ.none {l : List (Nat × Pg)} (h : ShOk l) {a : Nat} {v : UInt8} (hg : qao l (qap a) = none) (hv : v ≠ 0) : OneJ l a v (l.take (posA l a) ++ (qap a,zPg) :: l.drop (posA l a)) (posA l a):=by
 have hm : a % 256 < 256:=Nat.mod_lt _ (by decide)
 have hk:=qbm.1 hg
 have hp:=posA_le l a
 have hpa:=posA_base (l:=l) (a:=a) fun x hx=>⟨(h.page x hx).al,fun e=>hk (List.mem_map.2 ⟨x,hx,e⟩)⟩
 have hb : bOf l (qap a) = zeroB:=by unfold bOf; rw [hg]
 have hl : (l.take (posA l a)).length = posA l a:=by rw [List.length_take]; omega
 have hone:=one_none (v:=v) hg
 rw [if_neg hv] at hone
 have hcz : qek (zeroB.set (a % 256) v) ≠ 0:=fun e=>by
  have h0:=qhx.1 e
  have : (zeroB.set (a % 256) v)[a % 256]? = Option.some v:=List.getElem?_set_self (by rw [qda]; exact hm)
  exact hv (h0 v (List.mem_of_getElem? this))
 refine ⟨?_,fun y hy=>?_,⟨zPg,?_,hb.symm⟩,fun hc=>?_,fun hc=>?_⟩
 ·have:=sh_few h
  rw [List.length_append,List.length_cons,hl,List.length_drop]; omega
 ·rcases List.mem_append.1 hy with h1 | h1
  ·exact (h.page y (List.mem_of_mem_take h1)).len
  ·rcases List.mem_cons.1 h1 with rfl | h1
   ·exact qda
   ·exact (h.page y (List.mem_of_mem_drop h1)).len
 ·rw [List.getElem?_append_right (by omega),hl,Nat.sub_self]; rfl
 ·rw [hb,hone,ins_at _ h.rising hk,List.set_append_right _ _ (by omega),hl,Nat.sub_self,List.set_cons_zero]
  rw [hpa]; rfl
 ·rw [hb] at hc; exact absurd hc hcz
end Go.Proofs.YtnfkalpgidiafaaGreat

namespace Go.Proofs.YtnfkalpgidiafaaGreat
open Go
def qcf (x : Nat × Pg) : List Value:=.int .u32 (x.1 : Int) :: .int .i64 (x.2.perm : Int) :: qaf x.2.b
def refGen (x : Nat × Nat) : List Value:=[.int .u32 (x.1 : Int),.int .u32 (x.2 : Int)]
structure RefX where
 A : Option Addr
 c : Nat
 B : Option Addr
 d : Nat
 g : List (Nat × Nat)
def qhu : List (Nat × Nat) → Nat → Nat
 | [],_=>0
 | (x,n) :: l,k=>if x = k then n else qhu l k
structure GenF (G : Nat → Nat) (g : List (Nat × Nat)) : Prop where
 gens : ∀ k,G k = qhu g k
 once : (g.map (·.1)).Nodup
 rng : ∀ y ∈ g,y.1 % 256 = 0 ∧ y.1 < 4294967296 ∧ y.2 < 4294967296
structure RefF (M : MemG) (x : RefX) : Prop where
 ok : MemOk M
 gen : GenF M.gens x.g
def refObj (B : Int) (A : Option Addr) (k c : Nat) (C : Option Addr) (m d : Nat) : Obj:=.cells #[.int .i64 B,.slice A k c,.slice C m d] 89
def RefO (b : Nat) (M : MemG) : qax:=Ex fun x : RefX=>Fact (RefF M x) (Sep (Pt b (refObj M.budget x.A M.pages.length x.c x.B x.g.length x.d)) (Sep (OwnS 92 258 x.A M.pages.length x.c (M.pages.flatMap qcf)) (OwnS 219 2 x.B x.g.length x.d (x.g.flatMap refGen))))
theorem qdk {x : Nat × Pg} (h : x.2.b.length = 256) : (qcf x).length = 258:=by simp [qcf,qaf,h]
theorem RefF.rows {M : MemG} {x : RefX} (f : RefF M x) : ∀ y ∈ M.pages,(qcf y).length = 258:=fun y hy=>qdk (f.ok.page y hy).len
section
variable {P : Program} {n : Nat} {cx : Cx} {ρ : Hp} {E : Env} {L : Own} {ops : Array Oper} {Q : Exit → Act → World → Prop} {S' : World → Prop} {π : List (Nat × Bool)}
end
theorem RefO.ok {b : Nat} {M : MemG} : ∀ h,RefO b M h → MemOk M:=fun h ⟨x,hf,_⟩=>hf.ok
end Go.Proofs.YtnfkalpgidiafaaGreat

namespace Go.Proofs.YtnfkalpgidiafaaGreat
open Go
def stretchI (a n : Nat) : Int:=match qei a n with
 | none=>-1
 | some p=>p
end Go.Proofs.YtnfkalpgidiafaaGreat

namespace Go.Proofs.YtnfkalpgidiafaaGreat
open Go
section
variable {P : Program} {n : Nat} {cx : Cx} {ρ ρs : Hp} {E : Env} {L : Own} {ops : Array Oper} {Q : Exit → Act → World → Prop} {S' : World → Prop} {π : List (Nat × Bool)}
theorem Cd.down {d : Code} (hle : Hp.le ρs ρ) (h0 : Hp.le cx.r0 ρs) (h : Cd P Q n cx ρs E L d) : Cd P Q n cx ρ E L d:=fun a w ha hs=>h a w ha (hs.down hle h0)
theorem Jp.down (hle : Hp.le ρs ρ) (h0 : Hp.le cx.r0 ρs) (h : Jp P ops Q S' n cx π ρs E L) : Jp P ops Q S' n cx π ρ E L:=fun a w ha hs=>h a w ha (hs.down hle h0)
end
theorem gLook_set : ∀ {g : List (Nat × Nat)} {f k n n' : Nat},(g.map (·.1)).Nodup → g[f]? = some (k,n) → ∀ x,qhu (g.set f (k,n')) x = if x = k then n' else qhu g x
 | [],_,_,_,_,_,h,_=>by simp at h
 | y :: l,0,k,n,n',hn,h,x=>by
  simp only [List.getElem?_cons_zero,Option.some.injEq] at h
  subst h
  rw [List.set_cons_zero,qhu,qhu]
  by_cases e : k = x
  ·simp [e]
  ·rw [if_neg e,if_neg e,if_neg (Ne.symm e)]
 | (y,m) :: l,f + 1,k,n,n',hn,h,x=>by
  rw [List.map_cons,List.nodup_cons] at hn
  rw [List.getElem?_cons_succ] at h
  have ih:=gLook_set (n':=n') hn.2 h x
  rw [List.set_cons_succ,qhu,qhu,ih]
  have hne : y ≠ k:=fun e=>hn.1 (List.mem_map.2 ⟨(k,n),List.mem_of_getElem? h,e.symm⟩)
  by_cases e : y = x
  ·rw [if_pos e,if_pos e,if_neg (by omega)]
  ·rw [if_neg e,if_neg e]
theorem gLook_app : ∀ {g : List (Nat × Nat)} {k n : Nat},k ∉ g.map (·.1) → ∀ x,qhu (g ++ [(k,n)]) x = if x = k then n else qhu g x
 | [],k,n,_,x=>by
  show (if k = x then n else 0) = _
  by_cases e : x = k
  ·rw [if_pos e,if_pos e.symm]
  ·rw [if_neg e,if_neg (Ne.symm e)]; rfl
 | (y,m) :: l,k,n,h,x=>by
  rw [List.map_cons,List.mem_cons,not_or] at h
  rw [List.cons_append,qhu,qhu,gLook_app h.2 x]
  have hy : k ≠ y:=h.1
  by_cases e : y = x
  ·rw [if_pos e,if_pos e,if_neg (by omega)]
  ·rw [if_neg e,if_neg e]
theorem gLook_none : ∀ {g : List (Nat × Nat)} {k : Nat},k ∉ g.map (·.1) → qhu g k = 0
 | [],k,_=>rfl
 | (y,m) :: l,k,h=>by
  rw [List.map_cons,List.mem_cons,not_or] at h
  have hy : k ≠ y:=h.1
  rw [qhu,if_neg (Ne.symm hy),gLook_none h.2]
theorem GenF.set {G : Nat → Nat} {g : List (Nat × Nat)} (h : GenF G g) {f k n : Nat} (hx : g[f]? = some (k,n)) : GenF (YtnfkalpgidiafaaGreat.bump G k) (g.set f (k,(n + 1) % 4294967296)):=by
 have hG : G k = n:=by
  have h1:=h.gens k
  have h2:=gLook_set (n':=n) h.once hx k
  rw [if_pos rfl] at h2
  have h3 : g.set f (k,n) = g:=by
   obtain ⟨h4,h5⟩:=List.getElem?_eq_some_iff.1 hx
   rw [← h5]; exact List.set_getElem_self h4
  rw [h3] at h2
  rw [h1,h2]
 refine ⟨fun x=>?_,?_,fun y hy=>?_⟩
 ·rw [gLook_set h.once hx x,YtnfkalpgidiafaaGreat.bump,hG,h.gens x]
 ·have : (g.set f (k,(n + 1) % 4294967296)).map (·.1) = g.map (·.1):=by
   rw [List.map_set]
   obtain ⟨h4,h5⟩:=List.getElem?_eq_some_iff.1 hx
   have : (g.map (·.1))[f]'(by rw [List.length_map]; exact h4) = k:=by rw [List.getElem_map,h5]
   show (g.map (·.1)).set f k = _
   rw [← this]; exact List.set_getElem_self _
  rw [this]; exact h.once
 ·rcases List.mem_or_eq_of_mem_set hy with h1 | h1
  ·exact h.rng y h1
  ·have:=h.rng _ (List.mem_of_getElem? hx)
   rw [h1]
   dsimp only at this ⊢
   omega
theorem GenF.app {G : Nat → Nat} {g : List (Nat × Nat)} (h : GenF G g) {k : Nat} (hk : k ∉ g.map (·.1)) (ha : k % 256 = 0) (hl : k < 4294967296) : GenF (YtnfkalpgidiafaaGreat.bump G k) (g ++ [(k,1)]):=by
 have hG : G k = 0:=by rw [h.gens k,gLook_none hk]
 refine ⟨fun x=>?_,?_,fun y hy=>?_⟩
 ·rw [gLook_app hk x,YtnfkalpgidiafaaGreat.bump,hG,h.gens x]
 ·rw [List.map_append,List.nodup_append]
  refine ⟨h.once,by simp,?_⟩
  intro a ha' b hb e
  simp at hb
  subst e hb
  exact hk ha'
 ·rcases List.mem_append.1 hy with h1 | h1
  ·exact h.rng y h1
  ·simp at h1
   rw [h1]
   dsimp only
   omega
theorem pgs_one {l : List (Nat × Pg)} : (l.flatMap qcf).all one = true:=by
 rw [List.all_eq_true]
 intro v hv
 obtain ⟨x,_,hx⟩:=List.mem_flatMap.1 hv
 rcases List.mem_cons.1 hx with rfl | hx
 ·rfl
 ·rcases List.mem_cons.1 hx with rfl | hx
  ·rfl
  ·obtain ⟨y,_,rfl⟩:=List.mem_map.1 hx; rfl
end Go.Proofs.YtnfkalpgidiafaaGreat

namespace Go.Proofs.YtnfkalpgidiafaaGreat
open Go
end Go.Proofs.YtnfkalpgidiafaaGreat

namespace Go.Proofs.YtnfkalpgidiafaaGreat
open Go
end Go.Proofs.YtnfkalpgidiafaaGreat

namespace Go.Proofs.YtnfkalpgidiafaaGreat
open Go
end Go.Proofs.YtnfkalpgidiafaaGreat

namespace Go.Proofs.YtnfkalpgidiafaaGreat
open Go
end Go.Proofs.YtnfkalpgidiafaaGreat
