import Derived.Test.YthjelpbaljapiaaGreatZP4
import Derived.Test.YthjelpbaljapiaaGreatZP7
import Derived.Test.YthjelpbaljapiaaGreatZP2
import Derived.Test.YthjelpbaljapiaaGreatZP6
import Derived.Test.YthjelpbaljapiaaGreatZP8
import Derived.Test.YthjelpbaljapiaaGreatZP1
set_option linter.unusedVariables false
set_option linter.unusedSimpArgs false
set_option maxRecDepth 100000
namespace Go.Proofs.YthjelpbaljapiaaGreat
open _root_.Go.Proofs.Tryz
open Go
def placeP (v : Int) (n : Nat) : Nat:=u32 ((u32 v * 2 ^ n : Nat) : Int)
theorem qaj (v : Int) (n : Nat) : placeP v n < 4294967296:=qdl _
theorem qaw (v : Int) (n : Nat) (hn : n < 32) : Spec Tryz.prog 64 #[.int .i64 v,.int .i64 n] (fun _=>True) [] (fun ρ ρ' r L=>ρ' = ρ ∧ r = .int .u32 (placeP v n : Int) ∧ L = []):=by
 refine Spec.of 9 Tryz.func64 rfl Tryz.ntmps64 [(0,_),(1,_)] rfl rfl ?_
 intro cx ρ hr h0
 refine Cd.seq fun K1 hK1=>?_
 refine Cd.qac [(0,false)] rfl rfl ?_
 refine Jp.y 4 rfl (qaa rfl) rfl rfl Kp.true (Y.assign rfl rfl) ?_
 refine Jp.qae hK1 ?_
 refine Cd.seq fun K2 hK2=>?_
 refine Cd.qac [(0,false),(1,false),(2,false),(3,false),(4,false)] rfl rfl ?_
 refine Jp.y 5 rfl (qaa rfl) rfl rfl Kp.true (Y.move rfl rfl) ?_
 refine Jp.y 6 rfl (qaa rfl) rfl rfl Kp.true (Y.qap rfl rfl underlying3 underlying24 (by rfl)) ?_
 refine Jp.y 7 rfl (qaa rfl) rfl rfl Kp.true (Y.move rfl rfl) ?_
 refine Jp.slot 6 rfl (show _ = Value.int .u32 (u32 v : Int) from congrArg (Value.int .u32) (qbb v)) ?_
 refine Jp.y 8 rfl (qaa rfl) rfl rfl Kp.true (Y.shl rfl rfl rfl (by first | decide | omega)) ?_
 refine Jp.y 4 rfl (qaa rfl) rfl rfl Kp.true (Y.assign rfl rfl) ?_
 refine Jp.qae hK2 ?_
 refine Cd.ret [] rfl (qba rfl rfl) trivial ⟨rfl,congrArg (Value.int .u32) (shl_u (u32 v) n hn),rfl⟩
def codeT : List (Nat × Nat × Nat) := [(0, 0, 0), (55, 0, 0), (23, 0, 0), (111, 0, 0), (103, 0, 0),
 (99,0,0),(99,1,0),(99,4,0),(99,5,0),(99,6,0),(99,7,0),(3,0,0),(3,1,0),(3,2,0),(3,4,0),(3,5,0),(35,0,0),(35,1,0),(35,2,0),
 (19,0,0),(19,2,0),(19,3,0),(19,4,0),(19,6,0),(19,7,0),(19,1,0),(19,5,0),(19,5,32),
 (51,0,0),(51,0,32),(51,1,0),(51,2,0),(51,3,0),(51,4,0),(51,5,0),(51,5,32),(51,6,0),(51,7,0),
 (51, 0, 1), (51, 1, 1), (51, 2, 1), (51, 3, 1), (51, 4, 1), (51, 5, 1), (51, 6, 1), (51, 7, 1)]
def qdv (op : Nat) : Nat × Nat × Nat:=codeT.getD op (0,0,0)
def codeV (op : Nat) : Value:=.tuple #[.int .i64 ((qdv op).1 : Int),.int .i64 ((qdv op).2.1 : Int),.int .i64 ((qdv op).2.2 : Int)]
theorem code_spec (op : Nat) (h : 1 ≤ op ∧ op ≤ 45) : Spec Tryz.prog 63 #[.int .i64 op] (fun _=>True) [] (fun ρ ρ' v L=>ρ' = ρ ∧ v = codeV op ∧ L = []):=by
  refine Spec.of 67 Tryz.func63 rfl Tryz.ntmps63 [(0,_)] rfl rfl ?_
  intro cx ρ hr h0
  refine Cd.seq fun K3 hK3=>?_
  refine Cd.qac [(0,false),(1,false),(2,false)] rfl rfl ?_
  refine Jp.y 2 rfl (qaa rfl) rfl rfl Kp.true (Y.assign rfl rfl) ?_
  refine Jp.y 3 rfl (qaa rfl) rfl rfl Kp.true (Y.assign rfl rfl) ?_
  refine Jp.y 4 rfl (qaa rfl) rfl rfl Kp.true (Y.assign rfl rfl) ?_
  refine Jp.qae hK3 ?_
  refine Cd.seq fun K4 hK4=>?_
  refine Cd.block ?_
  refine Cd.seq fun K5 hK5=>?_
  refine Cd.qac [(0,false),(1,false),(2,false)] rfl rfl ?_
  refine Jp.y 6 rfl (qaa rfl) rfl rfl Kp.true (Y.move rfl rfl) ?_
  refine Jp.y 7 rfl (qaa rfl) rfl rfl Kp.true (Y.eql rfl rfl rfl) ?_
  refine Jp.y 5 rfl (qaa rfl) rfl rfl Kp.true (Y.assign rfl rfl) ?_
  refine Jp.qae hK5 ?_
  refine Cd.qal rfl (fun g5=>?_) (fun g5=>?_)
  · skip
    try simp only [sG0] at g5
    refine Cd.seq fun K6 hK6=>?_
    refine Cd.qac [(0,false),(1,false),(2,false)] rfl rfl ?_
    refine Jp.y 2 rfl (qaa rfl) rfl rfl Kp.true (Y.assign rfl rfl) ?_
    refine Jp.y 3 rfl (qaa rfl) rfl rfl Kp.true (Y.assign rfl rfl) ?_
    refine Jp.y 4 rfl (qaa rfl) rfl rfl Kp.true (Y.assign rfl rfl) ?_
    refine Jp.qae hK6 ?_
    refine Cd.ret [] rfl (qfr rfl rfl rfl rfl) trivial ⟨rfl, by
      (obtain rfl : op = 1 := by omega
       rfl), rfl⟩
  · skip
    try simp only [sG0] at g5
    refine Cd.seq fun K7 hK7=>?_
    refine Cd.qac [(0,false),(1,false),(2,false)] rfl rfl ?_
    refine Jp.y 9 rfl (qaa rfl) rfl rfl Kp.true (Y.move rfl rfl) ?_
    refine Jp.y 10 rfl (qaa rfl) rfl rfl Kp.true (Y.eql rfl rfl rfl) ?_
    refine Jp.y 8 rfl (qaa rfl) rfl rfl Kp.true (Y.assign rfl rfl) ?_
    refine Jp.qae hK7 ?_
    refine Cd.qal rfl (fun g8=>?_) (fun g8=>?_)
    · skip
      try simp only [sG0] at g8
      refine Cd.seq fun K8 hK8=>?_
      refine Cd.qac [(0,false),(1,false),(2,false)] rfl rfl ?_
      refine Jp.y 2 rfl (qaa rfl) rfl rfl Kp.true (Y.assign rfl rfl) ?_
      refine Jp.y 3 rfl (qaa rfl) rfl rfl Kp.true (Y.assign rfl rfl) ?_
      refine Jp.y 4 rfl (qaa rfl) rfl rfl Kp.true (Y.assign rfl rfl) ?_
      refine Jp.qae hK8 ?_
      refine Cd.ret [] rfl (qfr rfl rfl rfl rfl) trivial ⟨rfl, by
        (obtain rfl : op = 2 := by omega
         rfl), rfl⟩
    · skip
      try simp only [sG0] at g8
      refine Cd.seq fun K9 hK9=>?_
      refine Cd.qac [(0,false),(1,false),(2,false)] rfl rfl ?_
      refine Jp.y 12 rfl (qaa rfl) rfl rfl Kp.true (Y.move rfl rfl) ?_
      refine Jp.y 13 rfl (qaa rfl) rfl rfl Kp.true (Y.eql rfl rfl rfl) ?_
      refine Jp.y 11 rfl (qaa rfl) rfl rfl Kp.true (Y.assign rfl rfl) ?_
      refine Jp.qae hK9 ?_
      refine Cd.qal rfl (fun g11=>?_) (fun g11=>?_)
      · skip
        try simp only [sG0] at g11
        refine Cd.seq fun K10 hK10=>?_
        refine Cd.qac [(0,false),(1,false),(2,false)] rfl rfl ?_
        refine Jp.y 2 rfl (qaa rfl) rfl rfl Kp.true (Y.assign rfl rfl) ?_
        refine Jp.y 3 rfl (qaa rfl) rfl rfl Kp.true (Y.assign rfl rfl) ?_
        refine Jp.y 4 rfl (qaa rfl) rfl rfl Kp.true (Y.assign rfl rfl) ?_
        refine Jp.qae hK10 ?_
        refine Cd.ret [] rfl (qfr rfl rfl rfl rfl) trivial ⟨rfl, by
          (obtain rfl : op = 3 := by omega
           rfl), rfl⟩
      · skip
        try simp only [sG0] at g11
        refine Cd.seq fun K11 hK11=>?_
        refine Cd.qac [(0,false),(1,false),(2,false)] rfl rfl ?_
        refine Jp.y 15 rfl (qaa rfl) rfl rfl Kp.true (Y.move rfl rfl) ?_
        refine Jp.y 16 rfl (qaa rfl) rfl rfl Kp.true (Y.eql rfl rfl rfl) ?_
        refine Jp.y 14 rfl (qaa rfl) rfl rfl Kp.true (Y.assign rfl rfl) ?_
        refine Jp.qae hK11 ?_
        refine Cd.qal rfl (fun g14=>?_) (fun g14=>?_)
        · skip
          try simp only [sG0] at g14
          refine Cd.seq fun K12 hK12=>?_
          refine Cd.qac [(0,false),(1,false),(2,false)] rfl rfl ?_
          refine Jp.y 2 rfl (qaa rfl) rfl rfl Kp.true (Y.assign rfl rfl) ?_
          refine Jp.y 3 rfl (qaa rfl) rfl rfl Kp.true (Y.assign rfl rfl) ?_
          refine Jp.y 4 rfl (qaa rfl) rfl rfl Kp.true (Y.assign rfl rfl) ?_
          refine Jp.qae hK12 ?_
          refine Cd.ret [] rfl (qfr rfl rfl rfl rfl) trivial ⟨rfl, by
            (obtain rfl : op = 4 := by omega
             rfl), rfl⟩
        · skip
          try simp only [sG0] at g14
          refine Cd.seq fun K13 hK13=>?_
          refine Cd.qac [(0,false),(1,false),(2,false)] rfl rfl ?_
          refine Jp.y 18 rfl (qaa rfl) rfl rfl Kp.true (Y.move rfl rfl) ?_
          refine Jp.y 19 rfl (qaa rfl) rfl rfl Kp.true (Y.leq rfl rfl rfl) ?_
          refine Jp.y 17 rfl (qaa rfl) rfl rfl Kp.true (Y.assign rfl rfl) ?_
          refine Jp.qae hK13 ?_
          refine Cd.qal rfl (fun g17=>?_) (fun g17=>?_)
          · skip
            try simp only [sG0] at g17
            refine Cd.seq fun K14 hK14=>?_
            have hidx : (#[Value.int .i64 0,Value.int .i64 1,Value.int .i64 4,Value.int .i64 5,Value.int .i64 6,Value.int .i64 7] : Array Value)[((op : Int) - 5).toNat * 1]? = some (.int .i64 ((qdv op).2.1 : Int)):=by
              rcases (show op = 5 ∨ op = 6 ∨ op = 7 ∨ op = 8 ∨ op = 9 ∨ op = 10 by omega) with rfl | rfl | rfl | rfl | rfl | rfl <;> rfl
            refine Cd.drawn [] trivial [(0,true),(1,true),(2,true),(3,true),(4,true),(5,true),(6,true)] follows (by kernel_rfl) (fun hrl=>?_)
            refine Jp.q 20 rfl (qaa rfl) rfl rfl (Y.array [(0,_),(1,_),(2,_),(3,_),(4,_),(5,_)] [_,_,_,_,_,_] rfl rfl underlying134 sizeOf3 zeroValue134 rfl) ?_
            refine Jp.q 21 rfl (qaa rfl) rfl rfl (Y.move rfl rfl) ?_
            refine Jp.q 22 rfl (qaa rfl) rfl rfl (Y.qdo rfl rfl rfl (by exact qag (by omega) (by omega))) ?_
            refine Jp.q 23 rfl (qaa rfl) rfl rfl (Y.qco (v:=.int .i64 ((qdv op).2.1 : Int)) rfl underlying134 sizeOf3 isAgg3 rfl rfl (by omega) (by omega) hidx) ?_
            refine Jp.q 2 rfl (qaa rfl) rfl rfl (Y.assign rfl rfl) ?_
            refine Jp.q 3 rfl (qaa rfl) rfl rfl (Y.assign rfl rfl) ?_
            refine Jp.q 4 rfl (qaa rfl) rfl rfl (Y.assign rfl rfl) ?_
            refine Jp.qae hK14 ?_
            refine Cd.ret [] rfl (qfr rfl rfl rfl rfl) trivial ⟨rfl,by rcases (show op = 5 ∨ op = 6 ∨ op = 7 ∨ op = 8 ∨ op = 9 ∨ op = 10 by omega) with rfl | rfl | rfl | rfl | rfl | rfl <;> rfl,rfl⟩
          · skip
            try simp only [sG0] at g17
            refine Cd.seq fun K16 hK16=>?_
            refine Cd.qac [(0,false),(1,false),(2,false)] rfl rfl ?_
            refine Jp.y 25 rfl (qaa rfl) rfl rfl Kp.true (Y.move rfl rfl) ?_
            refine Jp.y 26 rfl (qaa rfl) rfl rfl Kp.true (Y.leq rfl rfl rfl) ?_
            refine Jp.y 24 rfl (qaa rfl) rfl rfl Kp.true (Y.assign rfl rfl) ?_
            refine Jp.qae hK16 ?_
            refine Cd.qal rfl (fun g24=>?_) (fun g24=>?_)
            · skip
              try simp only [sG0] at g24
              refine Cd.seq fun K17 hK17=>?_
              have hidx : (#[Value.int .i64 0,Value.int .i64 1,Value.int .i64 2,Value.int .i64 4,Value.int .i64 5] : Array Value)[((op : Int) - 11).toNat * 1]? = some (.int .i64 ((qdv op).2.1 : Int)):=by
                rcases (show op = 11 ∨ op = 12 ∨ op = 13 ∨ op = 14 ∨ op = 15 by omega) with rfl | rfl | rfl | rfl | rfl <;> rfl
              refine Cd.drawn [] trivial [(0,true),(1,true),(2,true),(3,true),(4,true),(5,true),(6,true)] follows (by kernel_rfl) (fun hrl=>?_)
              refine Jp.q 27 rfl (qaa rfl) rfl rfl (Y.array [(0,_),(1,_),(2,_),(3,_),(4,_)] [_,_,_,_,_] rfl rfl underlying135 sizeOf3 zeroValue135 rfl) ?_
              refine Jp.q 28 rfl (qaa rfl) rfl rfl (Y.move rfl rfl) ?_
              refine Jp.q 29 rfl (qaa rfl) rfl rfl (Y.qdo rfl rfl rfl (by exact qag (by omega) (by omega))) ?_
              refine Jp.q 30 rfl (qaa rfl) rfl rfl (Y.qco (v:=.int .i64 ((qdv op).2.1 : Int)) rfl underlying135 sizeOf3 isAgg3 rfl rfl (by omega) (by omega) hidx) ?_
              refine Jp.q 2 rfl (qaa rfl) rfl rfl (Y.assign rfl rfl) ?_
              refine Jp.q 3 rfl (qaa rfl) rfl rfl (Y.assign rfl rfl) ?_
              refine Jp.q 4 rfl (qaa rfl) rfl rfl (Y.assign rfl rfl) ?_
              refine Jp.qae hK17 ?_
              refine Cd.ret [] rfl (qfr rfl rfl rfl rfl) trivial ⟨rfl,by rcases (show op = 11 ∨ op = 12 ∨ op = 13 ∨ op = 14 ∨ op = 15 by omega) with rfl | rfl | rfl | rfl | rfl <;> rfl,rfl⟩
            · skip
              try simp only [sG0] at g24
              refine Cd.seq fun K19 hK19=>?_
              refine Cd.qac [(0,false),(1,false),(2,false)] rfl rfl ?_
              refine Jp.y 32 rfl (qaa rfl) rfl rfl Kp.true (Y.move rfl rfl) ?_
              refine Jp.y 33 rfl (qaa rfl) rfl rfl Kp.true (Y.leq rfl rfl rfl) ?_
              refine Jp.y 31 rfl (qaa rfl) rfl rfl Kp.true (Y.assign rfl rfl) ?_
              refine Jp.qae hK19 ?_
              refine Cd.qal rfl (fun g31=>?_) (fun g31=>?_)
              · skip
                try simp only [sG0] at g31
                refine Cd.seq fun K20 hK20=>?_
                refine Cd.qac [(0,false),(1,false),(2,false),(3,false),(4,false)] rfl rfl ?_
                refine Jp.y 34 rfl (qaa rfl) rfl rfl Kp.true (Y.move rfl rfl) ?_
                refine Jp.y 35 rfl (qaa rfl) rfl rfl Kp.true (Y.qdo rfl rfl rfl (by exact qag (by omega) (by omega))) ?_
                refine Jp.y 2 rfl (qaa rfl) rfl rfl Kp.true (Y.assign rfl rfl) ?_
                refine Jp.y 3 rfl (qaa rfl) rfl rfl Kp.true (Y.assign rfl rfl) ?_
                refine Jp.y 4 rfl (qaa rfl) rfl rfl Kp.true (Y.assign rfl rfl) ?_
                refine Jp.qae hK20 ?_
                refine Cd.ret [] rfl (qfr rfl rfl rfl rfl) trivial ⟨rfl, by
                  (rcases (show op = 16 ∨ op = 17 ∨ op = 18 by omega) with rfl | rfl | rfl <;> rfl), rfl⟩
              · skip
                try simp only [sG0] at g31
                refine Cd.seq fun K21 hK21=>?_
                refine Cd.qac [(0,false),(1,false),(2,false)] rfl rfl ?_
                refine Jp.y 37 rfl (qaa rfl) rfl rfl Kp.true (Y.move rfl rfl) ?_
                refine Jp.y 38 rfl (qaa rfl) rfl rfl Kp.true (Y.leq rfl rfl rfl) ?_
                refine Jp.y 36 rfl (qaa rfl) rfl rfl Kp.true (Y.assign rfl rfl) ?_
                refine Jp.qae hK21 ?_
                refine Cd.qal rfl (fun g36=>?_) (fun g36=>?_)
                · skip
                  try simp only [sG0] at g36
                  refine Cd.seq fun K22 hK22=>?_
                  have hidx : (#[Value.int .i64 0,Value.int .i64 2,Value.int .i64 3,Value.int .i64 4,Value.int .i64 6,Value.int .i64 7] : Array Value)[((op : Int) - 19).toNat * 1]? = some (.int .i64 ((qdv op).2.1 : Int)):=by
                    rcases (show op = 19 ∨ op = 20 ∨ op = 21 ∨ op = 22 ∨ op = 23 ∨ op = 24 by omega) with rfl | rfl | rfl | rfl | rfl | rfl <;> rfl
                  refine Cd.drawn [] trivial [(0,true),(1,true),(2,true),(3,true),(4,true),(5,true),(6,true)] follows (by kernel_rfl) (fun hrl=>?_)
                  refine Jp.q 39 rfl (qaa rfl) rfl rfl (Y.array [(0,_),(1,_),(2,_),(3,_),(4,_),(5,_)] [_,_,_,_,_,_] rfl rfl underlying134 sizeOf3 zeroValue134 rfl) ?_
                  refine Jp.q 40 rfl (qaa rfl) rfl rfl (Y.move rfl rfl) ?_
                  refine Jp.q 41 rfl (qaa rfl) rfl rfl (Y.qdo rfl rfl rfl (by exact qag (by omega) (by omega))) ?_
                  refine Jp.q 42 rfl (qaa rfl) rfl rfl (Y.qco (v:=.int .i64 ((qdv op).2.1 : Int)) rfl underlying134 sizeOf3 isAgg3 rfl rfl (by omega) (by omega) hidx) ?_
                  refine Jp.q 2 rfl (qaa rfl) rfl rfl (Y.assign rfl rfl) ?_
                  refine Jp.q 3 rfl (qaa rfl) rfl rfl (Y.assign rfl rfl) ?_
                  refine Jp.q 4 rfl (qaa rfl) rfl rfl (Y.assign rfl rfl) ?_
                  refine Jp.qae hK22 ?_
                  refine Cd.ret [] rfl (qfr rfl rfl rfl rfl) trivial ⟨rfl,by rcases (show op = 19 ∨ op = 20 ∨ op = 21 ∨ op = 22 ∨ op = 23 ∨ op = 24 by omega) with rfl | rfl | rfl | rfl | rfl | rfl <;> rfl,rfl⟩
                · skip
                  try simp only [sG0] at g36
                  refine Cd.seq fun K24 hK24=>?_
                  refine Cd.qac [(0,false),(1,false),(2,false)] rfl rfl ?_
                  refine Jp.y 44 rfl (qaa rfl) rfl rfl Kp.true (Y.move rfl rfl) ?_
                  refine Jp.y 45 rfl (qaa rfl) rfl rfl Kp.true (Y.leq rfl rfl rfl) ?_
                  refine Jp.y 43 rfl (qaa rfl) rfl rfl Kp.true (Y.assign rfl rfl) ?_
                  refine Jp.qae hK24 ?_
                  refine Cd.qal rfl (fun g43=>?_) (fun g43=>?_)
                  · skip
                    try simp only [sG0] at g43
                    refine Cd.seq fun K25 hK25=>?_
                    have hcs : op = 25 ∨ op = 26 ∨ op = 27:=by omega
                    have hidx : (#[Value.int .i64 1,Value.int .i64 5,Value.int .i64 5] : Array Value)[((op : Int) - 25).toNat * 1]? = some (.int .i64 ((qdv op).2.1 : Int)):=by
                      rcases hcs with rfl | rfl | rfl <;> rfl
                    have hidx2 : (#[Value.int .i64 0,Value.int .i64 0,Value.int .i64 32] : Array Value)[((op : Int) - 25).toNat * 1]? = some (.int .i64 ((qdv op).2.2 : Int)):=by
                      rcases hcs with rfl | rfl | rfl <;> rfl
                    refine Cd.drawn [] trivial [(0,true),(1,true),(2,true),(3,true),(4,true),(5,true),(6,true),(7,true),(8,true),(9,true),(10,true)] follows (by kernel_rfl) (fun hrl=>?_)
                    refine Jp.q 46 rfl (qaa rfl) rfl rfl (Y.array [(0,_),(1,_),(2,_)] [_,_,_] rfl rfl underlying136 sizeOf3 zeroValue136 rfl) ?_
                    refine Jp.q 47 rfl (qaa rfl) rfl rfl (Y.move rfl rfl) ?_
                    refine Jp.q 48 rfl (qaa rfl) rfl rfl (Y.qdo rfl rfl rfl (by exact qag (by omega) (by omega))) ?_
                    refine Jp.q 49 rfl (qaa rfl) rfl rfl (Y.qco (v:=.int .i64 ((qdv op).2.1 : Int)) rfl underlying136 sizeOf3 isAgg3 rfl rfl (by omega) (by omega) hidx) ?_
                    refine Jp.q 50 rfl (qaa rfl) rfl rfl (Y.array [(0,_),(1,_),(2,_)] [_,_,_] rfl rfl underlying136 sizeOf3 zeroValue136 rfl) ?_
                    refine Jp.q 51 rfl (qaa rfl) rfl rfl (Y.move rfl rfl) ?_
                    refine Jp.q 52 rfl (qaa rfl) rfl rfl (Y.qdo rfl rfl rfl (by exact qag (by omega) (by omega))) ?_
                    refine Jp.q 53 rfl (qaa rfl) rfl rfl (Y.qco (v:=.int .i64 ((qdv op).2.2 : Int)) rfl underlying136 sizeOf3 isAgg3 rfl rfl (by omega) (by omega) hidx2) ?_
                    refine Jp.q 2 rfl (qaa rfl) rfl rfl (Y.assign rfl rfl) ?_
                    refine Jp.q 3 rfl (qaa rfl) rfl rfl (Y.assign rfl rfl) ?_
                    refine Jp.q 4 rfl (qaa rfl) rfl rfl (Y.assign rfl rfl) ?_
                    refine Jp.qae hK25 ?_
                    refine Cd.ret [] rfl (qfr rfl rfl rfl rfl) trivial ⟨rfl,by rcases hcs with rfl | rfl | rfl <;> rfl,rfl⟩
                  · skip
                    try simp only [sG0] at g43
                    refine Cd.seq fun K27 hK27=>?_
                    refine Cd.qac [(0,false),(1,false),(2,false)] rfl rfl ?_
                    refine Jp.y 55 rfl (qaa rfl) rfl rfl Kp.true (Y.move rfl rfl) ?_
                    refine Jp.y 56 rfl (qaa rfl) rfl rfl Kp.true (Y.leq rfl rfl rfl) ?_
                    refine Jp.y 54 rfl (qaa rfl) rfl rfl Kp.true (Y.assign rfl rfl) ?_
                    refine Jp.qae hK27 ?_
                    refine Cd.qal rfl (fun g54=>?_) (fun g54=>?_)
                    · skip
                      try simp only [sG0] at g54
                      refine Cd.seq fun K28 hK28=>?_
                      have hcs : op = 28 ∨ op = 29 ∨ op = 30 ∨ op = 31 ∨ op = 32 ∨ op = 33 ∨ op = 34 ∨ op = 35 ∨ op = 36 ∨ op = 37:=by omega
                      have hidx : (#[Value.int .i64 0,Value.int .i64 0,Value.int .i64 1,Value.int .i64 2,Value.int .i64 3,Value.int .i64 4,Value.int .i64 5,Value.int .i64 5,Value.int .i64 6,Value.int .i64 7] : Array Value)[((op : Int) - 28).toNat * 1]? = some (.int .i64 ((qdv op).2.1 : Int)):=by
                        rcases hcs with rfl | rfl | rfl | rfl | rfl | rfl | rfl | rfl | rfl | rfl <;> rfl
                      have hidx2 : (#[Value.int .i64 0,Value.int .i64 32,Value.int .i64 0,Value.int .i64 0,Value.int .i64 0,Value.int .i64 0,Value.int .i64 0,Value.int .i64 32,Value.int .i64 0,Value.int .i64 0] : Array Value)[((op : Int) - 28).toNat * 1]? = some (.int .i64 ((qdv op).2.2 : Int)):=by
                        rcases hcs with rfl | rfl | rfl | rfl | rfl | rfl | rfl | rfl | rfl | rfl <;> rfl
                      refine Cd.drawn [] trivial [(0,true),(1,true),(2,true),(3,true),(4,true),(5,true),(6,true),(7,true),(8,true),(9,true),(10,true)] follows (by kernel_rfl) (fun hrl=>?_)
                      refine Jp.q 57 rfl (qaa rfl) rfl rfl (Y.array [(0,_),(1,_),(2,_),(3,_),(4,_),(5,_),(6,_),(7,_),(8,_),(9,_)] [_,_,_,_,_,_,_,_,_,_] rfl rfl underlying137 sizeOf3 zeroValue137 rfl) ?_
                      refine Jp.q 58 rfl (qaa rfl) rfl rfl (Y.move rfl rfl) ?_
                      refine Jp.q 59 rfl (qaa rfl) rfl rfl (Y.qdo rfl rfl rfl (by exact qag (by omega) (by omega))) ?_
                      refine Jp.q 60 rfl (qaa rfl) rfl rfl (Y.qco (v:=.int .i64 ((qdv op).2.1 : Int)) rfl underlying137 sizeOf3 isAgg3 rfl rfl (by omega) (by omega) hidx) ?_
                      refine Jp.q 61 rfl (qaa rfl) rfl rfl (Y.array [(0,_),(1,_),(2,_),(3,_),(4,_),(5,_),(6,_),(7,_),(8,_),(9,_)] [_,_,_,_,_,_,_,_,_,_] rfl rfl underlying137 sizeOf3 zeroValue137 rfl) ?_
                      refine Jp.q 62 rfl (qaa rfl) rfl rfl (Y.move rfl rfl) ?_
                      refine Jp.q 63 rfl (qaa rfl) rfl rfl (Y.qdo rfl rfl rfl (by exact qag (by omega) (by omega))) ?_
                      refine Jp.q 64 rfl (qaa rfl) rfl rfl (Y.qco (v:=.int .i64 ((qdv op).2.2 : Int)) rfl underlying137 sizeOf3 isAgg3 rfl rfl (by omega) (by omega) hidx2) ?_
                      refine Jp.q 2 rfl (qaa rfl) rfl rfl (Y.assign rfl rfl) ?_
                      refine Jp.q 3 rfl (qaa rfl) rfl rfl (Y.assign rfl rfl) ?_
                      refine Jp.q 4 rfl (qaa rfl) rfl rfl (Y.assign rfl rfl) ?_
                      refine Jp.qae hK28 ?_
                      refine Cd.ret [] rfl (qfr rfl rfl rfl rfl) trivial ⟨rfl,by rcases hcs with rfl | rfl | rfl | rfl | rfl | rfl | rfl | rfl | rfl | rfl <;> rfl,rfl⟩
                    · skip
                      try simp only [sG0] at g54
                      refine Cd.over rfl hK4 ?_
                      refine Cd.seq fun K30 hK30=>?_
                      refine Cd.qac [(0,false),(1,false),(2,false),(3,false),(4,false)] rfl rfl ?_
                      refine Jp.y 65 rfl (qaa rfl) rfl rfl Kp.true (Y.move rfl rfl) ?_
                      refine Jp.y 66 rfl (qaa rfl) rfl rfl Kp.true (Y.qdo rfl rfl rfl (by exact qag (by omega) (by omega))) ?_
                      refine Jp.y 2 rfl (qaa rfl) rfl rfl Kp.true (Y.assign rfl rfl) ?_
                      refine Jp.y 3 rfl (qaa rfl) rfl rfl Kp.true (Y.assign rfl rfl) ?_
                      refine Jp.y 4 rfl (qaa rfl) rfl rfl Kp.true (Y.assign rfl rfl) ?_
                      refine Jp.qae hK30 ?_
                      refine Cd.ret [] rfl (qfr rfl rfl rfl rfl) trivial ⟨rfl, by
                        (rcases (show op = 38 ∨ op = 39 ∨ op = 40 ∨ op = 41 ∨ op = 42 ∨ op = 43 ∨ op = 44 ∨ op = 45 by omega) with rfl | rfl | rfl | rfl | rfl | rfl | rfl | rfl <;> rfl), rfl⟩
def cutI (v : Int) (n : Nat) (m : Int) : Int:=qbu .and .i64 (v.fdiv (2 ^ n)) m
def bitsP (op : Nat) (v : Int) : Nat :=
 if op ≤ 2 then u32 v - u32 v % 4096 else if op = 3 then placeP (cutI v 20 1) 31 ||| placeP (cutI v 1 1023) 21 ||| placeP (cutI v 11 1) 20 ||| placeP (cutI v 12 255) 12 else
 if 5 ≤ op ∧ op ≤ 10 then placeP (cutI v 12 1) 31 ||| placeP (cutI v 5 63) 25 ||| placeP (cutI v 1 15) 8 ||| placeP (cutI v 11 1) 7 else
 if 16 ≤ op ∧ op ≤ 18 then placeP (cutI v 5 127) 25 ||| placeP (qbu .and .i64 v 31) 7 else if 25 ≤ op ∧ op ≤ 27 then placeP (qbu .and .i64 v 31) 20 else
 if 28 ≤ op then 0 else placeP (qbu .and .i64 v 4095) 20
theorem qeo {a b : Nat} (ha : a < 4294967296) (hb : b < 4294967296) : a ||| b < 4294967296:=Nat.or_lt_two_pow (n:=32) ha hb
theorem or4_u {a b c d : Nat} (ha : a < 4294967296) (hb : b < 4294967296) (hc : c < 4294967296) (hd : d < 4294967296) : qbu .or .u32 (qbu .or .u32 (qbu .or .u32 (a : Int) b) c) d = ((a ||| b ||| c ||| d : Nat) : Int):=by
 rw [qas ha hb,qas (qeo ha hb) hc,qas (qeo (qeo ha hb) hc) hd]
section
attribute [local irreducible] qbu IntKind.wrap u32
theorem bits_spec (op : Nat) (v : Int) (hv : -2147483648 ≤ v ∧ v ≤ 2147483647) : Spec Tryz.prog 65 #[.int .i64 op,.int .i32 v] (fun _=>True) [] (fun ρ ρ' r L=>ρ' = ρ ∧ r = .int .u32 (bitsP op v : Int) ∧ L = []):=by
 refine Spec.of 93 Tryz.func65 rfl Tryz.ntmps65 [(0,_),(1,_)] rfl rfl ?_
 intro cx ρ hr h0
 obtain ⟨hv1,hv2⟩:=hv
 have hm : qbu .and .u32 (IntKind.u32.wrap v) 4294963200 = ((u32 v - u32 v % 4096 : Nat) : Int):=by
  have h:=qbz (b:=4294963200) (qdl v) (by omega)
  rw [and_hi12 _ (qdl v)] at h
  rw [qbb]; exact h
 refine Cd.seq fun K31 hK31=>?_
 refine Cd.qac [(0,false)] rfl rfl ?_
 refine Jp.y 4 rfl (qaa rfl) rfl rfl Kp.true (Y.assign rfl rfl) ?_
 refine Jp.qae hK31 ?_
 refine Cd.seq fun K32 hK32=>?_
 refine Cd.qac [(0,false),(1,false),(2,false)] rfl rfl ?_
 refine Jp.y 6 rfl (qaa rfl) rfl rfl Kp.true (Y.move rfl rfl) ?_
 refine Jp.y 7 rfl (qaa rfl) rfl rfl Kp.true (Y.qap rfl rfl underlying21 underlying3 (by exact qag (by omega) (by omega))) ?_
 refine Jp.y 5 rfl (qaa rfl) rfl rfl Kp.true (Y.assign rfl rfl) ?_
 refine Jp.qae hK32 ?_
 refine Cd.seq fun K33 hK33=>?_
 refine Cd.block ?_
 refine Cd.seq fun K34 hK34=>?_
 refine Cd.qac [(0,false),(1,false),(2,false)] rfl rfl ?_
 refine Jp.y 9 rfl (qaa rfl) rfl rfl Kp.true (Y.move rfl rfl) ?_
 refine Jp.y 10 rfl (qaa rfl) rfl rfl Kp.true (Y.leq rfl rfl rfl) ?_
 refine Jp.y 8 rfl (qaa rfl) rfl rfl Kp.true (Y.assign rfl rfl) ?_
 refine Jp.qae hK34 ?_
 refine Cd.qal rfl (fun g8=>?_) (fun g8=>?_)
 ·skip
  try simp only [sG0] at g8
  refine Cd.seq fun K35 hK35=>?_
  refine Cd.qac [(0,false),(1,false),(2,false),(3,false)] rfl rfl ?_
  refine Jp.y 11 rfl (qaa rfl) rfl rfl Kp.true (Y.move rfl rfl) ?_
  refine Jp.y 12 rfl (qaa rfl) rfl rfl Kp.true (Y.qap rfl rfl underlying21 underlying24 (by rfl)) ?_
  refine Jp.y 13 rfl (qaa rfl) rfl rfl Kp.true (Y.bits rfl rfl rfl rfl) ?_
  refine Jp.y 4 rfl (qaa rfl) rfl rfl Kp.true (Y.assign rfl rfl) ?_
  refine Jp.qae hK35 ?_
  refine Cd.ret [] rfl (qba rfl rfl) trivial ⟨rfl, congrArg (Value.int .u32) (by
   (rw [bitsP]; repeat first | exact hm | exact or4_u (qaj _ _) (qaj _ _) (qaj _ _) (qaj _ _) | exact qas (qaj _ _) (qaj _ _) | rfl | rw [if_pos (by omega)] | rw [if_neg (by omega)])), rfl⟩
 ·skip
  try simp only [sG0] at g8
  refine Cd.seq fun K36 hK36=>?_
  refine Cd.qac [(0,false),(1,false),(2,false)] rfl rfl ?_
  refine Jp.y 15 rfl (qaa rfl) rfl rfl Kp.true (Y.move rfl rfl) ?_
  refine Jp.y 16 rfl (qaa rfl) rfl rfl Kp.true (Y.eql rfl rfl rfl) ?_
  refine Jp.y 14 rfl (qaa rfl) rfl rfl Kp.true (Y.assign rfl rfl) ?_
  refine Jp.qae hK36 ?_
  refine Cd.qal rfl (fun g14=>?_) (fun g14=>?_)
  ·skip
   try simp only [sG0] at g14
   refine Cd.seq fun K37 hK37=>?_
   refine Cd.qac [(0,false),(1,false),(2,false),(3,false),(4,false),(5,false),(6,false),(7,false),(8,false),(9,false),(10,false),(11,false),(12,false),(13,false),(14,false),(15,false),(16,false),(17,false),(18,false),(19,false)] rfl rfl ?_
   refine Jp.y 17 rfl (qaa rfl) rfl rfl Kp.true (Y.move rfl rfl) ?_
   refine Jp.y 18 rfl (qaa rfl) rfl rfl Kp.true (Y.shr rfl rfl rfl (by first | decide | omega)) ?_
   refine Jp.y 19 rfl (qaa rfl) rfl rfl Kp.true (Y.bits rfl rfl rfl rfl) ?_
   refine Jp.call [] [] (qaw _ _ (by decide)) 20 rfl (qaa rfl) rfl rfl (Runs.fn rfl call64 rfl) (by decide) (by decide) rfl trivial ?_
   rintro v101 ρ101 L101 ⟨rfl,rfl,rfl⟩
   refine ⟨rfl,fun hle101=>⟨Kp.true,?_⟩⟩
   refine Jp.y 21 rfl (qaa rfl) rfl rfl Kp.true (Y.move rfl rfl) ?_
   refine Jp.y 22 rfl (qaa rfl) rfl rfl Kp.true (Y.shr rfl rfl rfl (by first | decide | omega)) ?_
   refine Jp.y 23 rfl (qaa rfl) rfl rfl Kp.true (Y.bits rfl rfl rfl rfl) ?_
   refine Jp.call [] [] (qaw _ _ (by decide)) 24 rfl (qaa rfl) rfl rfl (Runs.fn rfl call64 rfl) (by decide) (by decide) rfl trivial ?_
   rintro v102 ρ102 L102 ⟨rfl,rfl,rfl⟩
   refine ⟨rfl,fun hle102=>⟨Kp.true,?_⟩⟩
   refine Jp.y 25 rfl (qaa rfl) rfl rfl Kp.true (Y.bits rfl rfl rfl rfl) ?_
   refine Jp.y 26 rfl (qaa rfl) rfl rfl Kp.true (Y.move rfl rfl) ?_
   refine Jp.y 27 rfl (qaa rfl) rfl rfl Kp.true (Y.shr rfl rfl rfl (by first | decide | omega)) ?_
   refine Jp.y 28 rfl (qaa rfl) rfl rfl Kp.true (Y.bits rfl rfl rfl rfl) ?_
   refine Jp.call [] [] (qaw _ _ (by decide)) 29 rfl (qaa rfl) rfl rfl (Runs.fn rfl call64 rfl) (by decide) (by decide) rfl trivial ?_
   rintro v103 ρ103 L103 ⟨rfl,rfl,rfl⟩
   refine ⟨rfl,fun hle103=>⟨Kp.true,?_⟩⟩
   refine Jp.y 30 rfl (qaa rfl) rfl rfl Kp.true (Y.bits rfl rfl rfl rfl) ?_
   refine Jp.y 31 rfl (qaa rfl) rfl rfl Kp.true (Y.move rfl rfl) ?_
   refine Jp.y 32 rfl (qaa rfl) rfl rfl Kp.true (Y.shr rfl rfl rfl (by first | decide | omega)) ?_
   refine Jp.y 33 rfl (qaa rfl) rfl rfl Kp.true (Y.bits rfl rfl rfl rfl) ?_
   refine Jp.call [] [] (qaw _ _ (by decide)) 34 rfl (qaa rfl) rfl rfl (Runs.fn rfl call64 rfl) (by decide) (by decide) rfl trivial ?_
   rintro v104 ρ104 L104 ⟨rfl,rfl,rfl⟩
   refine ⟨rfl,fun hle104=>⟨Kp.true,?_⟩⟩
   refine Jp.y 35 rfl (qaa rfl) rfl rfl Kp.true (Y.bits rfl rfl rfl rfl) ?_
   refine Jp.y 4 rfl (qaa rfl) rfl rfl Kp.true (Y.assign rfl rfl) ?_
   refine Jp.qae hK37 ?_
   refine Cd.ret [] rfl (qba rfl rfl) trivial ⟨rfl, congrArg (Value.int .u32) (by
    (rw [bitsP]; repeat first | exact hm | exact or4_u (qaj _ _) (qaj _ _) (qaj _ _) (qaj _ _) | exact qas (qaj _ _) (qaj _ _) | rfl | rw [if_pos (by omega)] | rw [if_neg (by omega)])), rfl⟩
  ·skip
   try simp only [sG0] at g14
   refine Cd.seq fun K38 hK38=>?_
   refine Cd.qac [(0,false),(1,false),(2,false),(3,false),(4,false),(5,false),(6,false)] rfl rfl ?_
   refine Jp.y 37 rfl (qaa rfl) rfl rfl Kp.true (Y.move rfl rfl) ?_
   refine Jp.y 38 rfl (qaa rfl) rfl rfl Kp.true (Y.geq rfl rfl rfl) ?_
   refine Jp.y 39 rfl (qaa rfl) rfl rfl Kp.true (Y.move rfl rfl) ?_
   refine Jp.split 39 rfl (fun g39=>?_) (fun g39=>?_)
   ·skip
    try simp only [sG0] at g39
    refine Jp.y 40 rfl (qab rfl rfl rfl rfl) rfl rfl Kp.true (Y.move rfl rfl) ?_
    refine Jp.y 41 rfl (qab rfl rfl rfl rfl) rfl rfl Kp.true (Y.leq rfl rfl rfl) ?_
    refine Jp.y 42 rfl (qaa rfl) rfl rfl Kp.true (Y.qat rfl rfl rfl) ?_
    refine Jp.y 36 rfl (qaa rfl) rfl rfl Kp.true (Y.assign rfl rfl) ?_
    refine Jp.qae hK38 ?_
    refine Cd.qal rfl (fun g36=>?_) (fun g36=>?_)
    ·skip
     try simp only [sG0] at g36
     refine Cd.seq fun K39 hK39=>?_
     refine Cd.qac [(0,false),(1,false),(2,false),(3,false),(4,false),(5,false),(6,false),(7,false),(8,false),(9,false),(10,false),(11,false),(12,false),(13,false),(14,false),(15,false),(16,false),(17,false),(18,false),(19,false)] rfl rfl ?_
     refine Jp.y 43 rfl (qaa rfl) rfl rfl Kp.true (Y.move rfl rfl) ?_
     refine Jp.y 44 rfl (qaa rfl) rfl rfl Kp.true (Y.shr rfl rfl rfl (by first | decide | omega)) ?_
     refine Jp.y 45 rfl (qaa rfl) rfl rfl Kp.true (Y.bits rfl rfl rfl rfl) ?_
     refine Jp.call [] [] (qaw _ _ (by decide)) 46 rfl (qaa rfl) rfl rfl (Runs.fn rfl call64 rfl) (by decide) (by decide) rfl trivial ?_
     rintro v105 ρ105 L105 ⟨rfl,rfl,rfl⟩
     refine ⟨rfl,fun hle105=>⟨Kp.true,?_⟩⟩
     refine Jp.y 47 rfl (qaa rfl) rfl rfl Kp.true (Y.move rfl rfl) ?_
     refine Jp.y 48 rfl (qaa rfl) rfl rfl Kp.true (Y.shr rfl rfl rfl (by first | decide | omega)) ?_
     refine Jp.y 49 rfl (qaa rfl) rfl rfl Kp.true (Y.bits rfl rfl rfl rfl) ?_
     refine Jp.call [] [] (qaw _ _ (by decide)) 50 rfl (qaa rfl) rfl rfl (Runs.fn rfl call64 rfl) (by decide) (by decide) rfl trivial ?_
     rintro v106 ρ106 L106 ⟨rfl,rfl,rfl⟩
     refine ⟨rfl,fun hle106=>⟨Kp.true,?_⟩⟩
     refine Jp.y 51 rfl (qaa rfl) rfl rfl Kp.true (Y.bits rfl rfl rfl rfl) ?_
     refine Jp.y 52 rfl (qaa rfl) rfl rfl Kp.true (Y.move rfl rfl) ?_
     refine Jp.y 53 rfl (qaa rfl) rfl rfl Kp.true (Y.shr rfl rfl rfl (by first | decide | omega)) ?_
     refine Jp.y 54 rfl (qaa rfl) rfl rfl Kp.true (Y.bits rfl rfl rfl rfl) ?_
     refine Jp.call [] [] (qaw _ _ (by decide)) 55 rfl (qaa rfl) rfl rfl (Runs.fn rfl call64 rfl) (by decide) (by decide) rfl trivial ?_
     rintro v107 ρ107 L107 ⟨rfl,rfl,rfl⟩
     refine ⟨rfl,fun hle107=>⟨Kp.true,?_⟩⟩
     refine Jp.y 56 rfl (qaa rfl) rfl rfl Kp.true (Y.bits rfl rfl rfl rfl) ?_
     refine Jp.y 57 rfl (qaa rfl) rfl rfl Kp.true (Y.move rfl rfl) ?_
     refine Jp.y 58 rfl (qaa rfl) rfl rfl Kp.true (Y.shr rfl rfl rfl (by first | decide | omega)) ?_
     refine Jp.y 59 rfl (qaa rfl) rfl rfl Kp.true (Y.bits rfl rfl rfl rfl) ?_
     refine Jp.call [] [] (qaw _ _ (by decide)) 60 rfl (qaa rfl) rfl rfl (Runs.fn rfl call64 rfl) (by decide) (by decide) rfl trivial ?_
     rintro v108 ρ108 L108 ⟨rfl,rfl,rfl⟩
     refine ⟨rfl,fun hle108=>⟨Kp.true,?_⟩⟩
     refine Jp.y 61 rfl (qaa rfl) rfl rfl Kp.true (Y.bits rfl rfl rfl rfl) ?_
     refine Jp.y 4 rfl (qaa rfl) rfl rfl Kp.true (Y.assign rfl rfl) ?_
     refine Jp.qae hK39 ?_
     refine Cd.ret [] rfl (qba rfl rfl) trivial ⟨rfl, congrArg (Value.int .u32) (by
      (rw [bitsP]; repeat first | exact hm | exact or4_u (qaj _ _) (qaj _ _) (qaj _ _) (qaj _ _) | exact qas (qaj _ _) (qaj _ _) | rfl | rw [if_pos (by omega)] | rw [if_neg (by omega)])), rfl⟩
    ·skip
     try simp only [sG0] at g36
     refine Cd.seq fun K40 hK40=>?_
     refine Cd.qac [(0,false),(1,false),(2,false),(3,false),(4,false),(5,false),(6,false)] rfl rfl ?_
     refine Jp.y 63 rfl (qaa rfl) rfl rfl Kp.true (Y.move rfl rfl) ?_
     refine Jp.y 64 rfl (qaa rfl) rfl rfl Kp.true (Y.geq rfl rfl rfl) ?_
     refine Jp.y 65 rfl (qaa rfl) rfl rfl Kp.true (Y.move rfl rfl) ?_
     refine Jp.split 65 rfl (fun g65=>?_) (fun g65=>?_)
     ·skip
      try simp only [sG0] at g65
      refine Jp.y 66 rfl (qab rfl rfl rfl rfl) rfl rfl Kp.true (Y.move rfl rfl) ?_
      refine Jp.y 67 rfl (qab rfl rfl rfl rfl) rfl rfl Kp.true (Y.leq rfl rfl rfl) ?_
      refine Jp.y 68 rfl (qaa rfl) rfl rfl Kp.true (Y.qat rfl rfl rfl) ?_
      refine Jp.y 62 rfl (qaa rfl) rfl rfl Kp.true (Y.assign rfl rfl) ?_
      refine Jp.qae hK40 ?_
      refine Cd.qal rfl (fun g62=>?_) (fun g62=>?_)
      ·skip
       try simp only [sG0] at g62
       refine Cd.seq fun K41 hK41=>?_
       refine Cd.qac [(0,false),(1,false),(2,false),(3,false),(4,false),(5,false),(6,false),(7,false),(8,false)] rfl rfl ?_
       refine Jp.y 69 rfl (qaa rfl) rfl rfl Kp.true (Y.move rfl rfl) ?_
       refine Jp.y 70 rfl (qaa rfl) rfl rfl Kp.true (Y.shr rfl rfl rfl (by first | decide | omega)) ?_
       refine Jp.y 71 rfl (qaa rfl) rfl rfl Kp.true (Y.bits rfl rfl rfl rfl) ?_
       refine Jp.call [] [] (qaw _ _ (by decide)) 72 rfl (qaa rfl) rfl rfl (Runs.fn rfl call64 rfl) (by decide) (by decide) rfl trivial ?_
       rintro v109 ρ109 L109 ⟨rfl,rfl,rfl⟩
       refine ⟨rfl,fun hle109=>⟨Kp.true,?_⟩⟩
       refine Jp.y 73 rfl (qaa rfl) rfl rfl Kp.true (Y.move rfl rfl) ?_
       refine Jp.y 74 rfl (qaa rfl) rfl rfl Kp.true (Y.bits rfl rfl rfl rfl) ?_
       refine Jp.call [] [] (qaw _ _ (by decide)) 75 rfl (qaa rfl) rfl rfl (Runs.fn rfl call64 rfl) (by decide) (by decide) rfl trivial ?_
       rintro v110 ρ110 L110 ⟨rfl,rfl,rfl⟩
       refine ⟨rfl,fun hle110=>⟨Kp.true,?_⟩⟩
       refine Jp.y 76 rfl (qaa rfl) rfl rfl Kp.true (Y.bits rfl rfl rfl rfl) ?_
       refine Jp.y 4 rfl (qaa rfl) rfl rfl Kp.true (Y.assign rfl rfl) ?_
       refine Jp.qae hK41 ?_
       refine Cd.ret [] rfl (qba rfl rfl) trivial ⟨rfl, congrArg (Value.int .u32) (by
        (rw [bitsP]; repeat first | exact hm | exact or4_u (qaj _ _) (qaj _ _) (qaj _ _) (qaj _ _) | exact qas (qaj _ _) (qaj _ _) | rfl | rw [if_pos (by omega)] | rw [if_neg (by omega)])), rfl⟩
      ·skip
       try simp only [sG0] at g62
       refine Cd.seq fun K42 hK42=>?_
       refine Cd.qac [(0,false),(1,false),(2,false),(3,false),(4,false),(5,false),(6,false)] rfl rfl ?_
       refine Jp.y 78 rfl (qaa rfl) rfl rfl Kp.true (Y.move rfl rfl) ?_
       refine Jp.y 79 rfl (qaa rfl) rfl rfl Kp.true (Y.geq rfl rfl rfl) ?_
       refine Jp.y 80 rfl (qaa rfl) rfl rfl Kp.true (Y.move rfl rfl) ?_
       refine Jp.split 80 rfl (fun g80=>?_) (fun g80=>?_)
       ·skip
        try simp only [sG0] at g80
        refine Jp.y 81 rfl (qab rfl rfl rfl rfl) rfl rfl Kp.true (Y.move rfl rfl) ?_
        refine Jp.y 82 rfl (qab rfl rfl rfl rfl) rfl rfl Kp.true (Y.leq rfl rfl rfl) ?_
        refine Jp.y 83 rfl (qaa rfl) rfl rfl Kp.true (Y.qat rfl rfl rfl) ?_
        refine Jp.y 77 rfl (qaa rfl) rfl rfl Kp.true (Y.assign rfl rfl) ?_
        refine Jp.qae hK42 ?_
        refine Cd.qal rfl (fun g77=>?_) (fun g77=>?_)
        ·skip
         try simp only [sG0] at g77
         refine Cd.seq fun K43 hK43=>?_
         refine Cd.qac [(0,false),(1,false),(2,false),(3,false)] rfl rfl ?_
         refine Jp.y 84 rfl (qaa rfl) rfl rfl Kp.true (Y.move rfl rfl) ?_
         refine Jp.y 85 rfl (qaa rfl) rfl rfl Kp.true (Y.bits rfl rfl rfl rfl) ?_
         refine Jp.call [] [] (qaw _ _ (by decide)) 86 rfl (qaa rfl) rfl rfl (Runs.fn rfl call64 rfl) (by decide) (by decide) rfl trivial ?_
         rintro v111 ρ111 L111 ⟨rfl,rfl,rfl⟩
         refine ⟨rfl,fun hle111=>⟨Kp.true,?_⟩⟩
         refine Jp.y 4 rfl (qaa rfl) rfl rfl Kp.true (Y.assign rfl rfl) ?_
         refine Jp.qae hK43 ?_
         refine Cd.ret [] rfl (qba rfl rfl) trivial ⟨rfl, congrArg (Value.int .u32) (by
          (rw [bitsP]; repeat first | exact hm | exact or4_u (qaj _ _) (qaj _ _) (qaj _ _) (qaj _ _) | exact qas (qaj _ _) (qaj _ _) | rfl | rw [if_pos (by omega)] | rw [if_neg (by omega)])), rfl⟩
        ·skip
         try simp only [sG0] at g77
         refine Cd.seq fun K44 hK44=>?_
         refine Cd.qac [(0,false),(1,false),(2,false)] rfl rfl ?_
         refine Jp.y 88 rfl (qaa rfl) rfl rfl Kp.true (Y.move rfl rfl) ?_
         refine Jp.y 89 rfl (qaa rfl) rfl rfl Kp.true (Y.geq rfl rfl rfl) ?_
         refine Jp.y 87 rfl (qaa rfl) rfl rfl Kp.true (Y.assign rfl rfl) ?_
         refine Jp.qae hK44 ?_
         refine Cd.qal rfl (fun g87=>?_) (fun g87=>?_)
         ·skip
          try simp only [sG0] at g87
          refine Cd.seq fun K45 hK45=>?_
          refine Cd.qac [(0,false)] rfl rfl ?_
          refine Jp.y 4 rfl (qaa rfl) rfl rfl Kp.true (Y.assign rfl rfl) ?_
          refine Jp.qae hK45 ?_
          refine Cd.ret [] rfl (qba rfl rfl) trivial ⟨rfl, congrArg (Value.int .u32) (by
           (rw [bitsP]; repeat first | exact hm | exact or4_u (qaj _ _) (qaj _ _) (qaj _ _) (qaj _ _) | exact qas (qaj _ _) (qaj _ _) | rfl | rw [if_pos (by omega)] | rw [if_neg (by omega)])), rfl⟩
         ·skip
          try simp only [sG0] at g87
          refine Cd.over rfl hK33 ?_
          refine Cd.seq fun K46 hK46=>?_
          refine Cd.qac [(0,false),(1,false),(2,false),(3,false)] rfl rfl ?_
          refine Jp.y 90 rfl (qaa rfl) rfl rfl Kp.true (Y.move rfl rfl) ?_
          refine Jp.y 91 rfl (qaa rfl) rfl rfl Kp.true (Y.bits rfl rfl rfl rfl) ?_
          refine Jp.call [] [] (qaw _ _ (by decide)) 92 rfl (qaa rfl) rfl rfl (Runs.fn rfl call64 rfl) (by decide) (by decide) rfl trivial ?_
          rintro v112 ρ112 L112 ⟨rfl,rfl,rfl⟩
          refine ⟨rfl,fun hle112=>⟨Kp.true,?_⟩⟩
          refine Jp.y 4 rfl (qaa rfl) rfl rfl Kp.true (Y.assign rfl rfl) ?_
          refine Jp.qae hK46 ?_
          refine Cd.ret [] rfl (qba rfl rfl) trivial ⟨rfl, congrArg (Value.int .u32) (by
           (exfalso; omega)), rfl⟩
       ·skip
        try simp only [sG0] at g80
        refine Jp.qak 81 rfl (qab rfl rfl rfl rfl) rfl rfl Kp.true ?_
        refine Jp.qak 82 rfl (qab rfl rfl rfl rfl) rfl rfl Kp.true ?_
        refine Jp.y 83 rfl (qaa rfl) rfl rfl Kp.true (Y.qao rfl rfl rfl) ?_
        refine Jp.y 77 rfl (qaa rfl) rfl rfl Kp.true (Y.assign rfl rfl) ?_
        refine Jp.qae hK42 ?_
        refine Cd.qbg rfl ?_
        refine Cd.seq fun K47 hK47=>?_
        refine Cd.qac [(0,false),(1,false),(2,false)] rfl rfl ?_
        refine Jp.y 88 rfl (qaa rfl) rfl rfl Kp.true (Y.move rfl rfl) ?_
        refine Jp.y 89 rfl (qaa rfl) rfl rfl Kp.true (Y.geq rfl rfl rfl) ?_
        refine Jp.y 87 rfl (qaa rfl) rfl rfl Kp.true (Y.assign rfl rfl) ?_
        refine Jp.qae hK47 ?_
        refine Cd.qal rfl (fun g87=>?_) (fun g87=>?_)
        ·skip
         try simp only [sG0] at g87
         refine Cd.seq fun K48 hK48=>?_
         refine Cd.qac [(0,false)] rfl rfl ?_
         refine Jp.y 4 rfl (qaa rfl) rfl rfl Kp.true (Y.assign rfl rfl) ?_
         refine Jp.qae hK48 ?_
         refine Cd.ret [] rfl (qba rfl rfl) trivial ⟨rfl, congrArg (Value.int .u32) (by
          (exfalso; omega)), rfl⟩
        ·skip
         try simp only [sG0] at g87
         refine Cd.over rfl hK33 ?_
         refine Cd.seq fun K49 hK49=>?_
         refine Cd.qac [(0,false),(1,false),(2,false),(3,false)] rfl rfl ?_
         refine Jp.y 90 rfl (qaa rfl) rfl rfl Kp.true (Y.move rfl rfl) ?_
         refine Jp.y 91 rfl (qaa rfl) rfl rfl Kp.true (Y.bits rfl rfl rfl rfl) ?_
         refine Jp.call [] [] (qaw _ _ (by decide)) 92 rfl (qaa rfl) rfl rfl (Runs.fn rfl call64 rfl) (by decide) (by decide) rfl trivial ?_
         rintro v113 ρ113 L113 ⟨rfl,rfl,rfl⟩
         refine ⟨rfl,fun hle113=>⟨Kp.true,?_⟩⟩
         refine Jp.y 4 rfl (qaa rfl) rfl rfl Kp.true (Y.assign rfl rfl) ?_
         refine Jp.qae hK49 ?_
         refine Cd.ret [] rfl (qba rfl rfl) trivial ⟨rfl, congrArg (Value.int .u32) (by
          (rw [bitsP]; repeat first | exact hm | exact or4_u (qaj _ _) (qaj _ _) (qaj _ _) (qaj _ _) | exact qas (qaj _ _) (qaj _ _) | rfl | rw [if_pos (by omega)] | rw [if_neg (by omega)])), rfl⟩
     ·skip
      try simp only [sG0] at g65
      refine Jp.qak 66 rfl (qab rfl rfl rfl rfl) rfl rfl Kp.true ?_
      refine Jp.qak 67 rfl (qab rfl rfl rfl rfl) rfl rfl Kp.true ?_
      refine Jp.y 68 rfl (qaa rfl) rfl rfl Kp.true (Y.qao rfl rfl rfl) ?_
      refine Jp.y 62 rfl (qaa rfl) rfl rfl Kp.true (Y.assign rfl rfl) ?_
      refine Jp.qae hK40 ?_
      refine Cd.qbg rfl ?_
      refine Cd.seq fun K50 hK50=>?_
      refine Cd.qac [(0,false),(1,false),(2,false),(3,false),(4,false),(5,false),(6,false)] rfl rfl ?_
      refine Jp.y 78 rfl (qaa rfl) rfl rfl Kp.true (Y.move rfl rfl) ?_
      refine Jp.y 79 rfl (qaa rfl) rfl rfl Kp.true (Y.geq rfl rfl rfl) ?_
      refine Jp.y 80 rfl (qaa rfl) rfl rfl Kp.true (Y.move rfl rfl) ?_
      refine Jp.split 80 rfl (fun g80=>?_) (fun g80=>?_)
      ·skip
       try simp only [sG0] at g80
       refine Jp.y 81 rfl (qab rfl rfl rfl rfl) rfl rfl Kp.true (Y.move rfl rfl) ?_
       refine Jp.y 82 rfl (qab rfl rfl rfl rfl) rfl rfl Kp.true (Y.leq rfl rfl rfl) ?_
       refine Jp.y 83 rfl (qaa rfl) rfl rfl Kp.true (Y.qat rfl rfl rfl) ?_
       refine Jp.y 77 rfl (qaa rfl) rfl rfl Kp.true (Y.assign rfl rfl) ?_
       refine Jp.qae hK50 ?_
       refine Cd.qal rfl (fun g77=>?_) (fun g77=>?_)
       ·skip
        try simp only [sG0] at g77
        refine Cd.seq fun K51 hK51=>?_
        refine Cd.qac [(0,false),(1,false),(2,false),(3,false)] rfl rfl ?_
        refine Jp.y 84 rfl (qaa rfl) rfl rfl Kp.true (Y.move rfl rfl) ?_
        refine Jp.y 85 rfl (qaa rfl) rfl rfl Kp.true (Y.bits rfl rfl rfl rfl) ?_
        refine Jp.call [] [] (qaw _ _ (by decide)) 86 rfl (qaa rfl) rfl rfl (Runs.fn rfl call64 rfl) (by decide) (by decide) rfl trivial ?_
        rintro v114 ρ114 L114 ⟨rfl,rfl,rfl⟩
        refine ⟨rfl,fun hle114=>⟨Kp.true,?_⟩⟩
        refine Jp.y 4 rfl (qaa rfl) rfl rfl Kp.true (Y.assign rfl rfl) ?_
        refine Jp.qae hK51 ?_
        refine Cd.ret [] rfl (qba rfl rfl) trivial ⟨rfl, congrArg (Value.int .u32) (by
         (exfalso; omega)), rfl⟩
       ·skip
        try simp only [sG0] at g77
        refine Cd.seq fun K52 hK52=>?_
        refine Cd.qac [(0,false),(1,false),(2,false)] rfl rfl ?_
        refine Jp.y 88 rfl (qaa rfl) rfl rfl Kp.true (Y.move rfl rfl) ?_
        refine Jp.y 89 rfl (qaa rfl) rfl rfl Kp.true (Y.geq rfl rfl rfl) ?_
        refine Jp.y 87 rfl (qaa rfl) rfl rfl Kp.true (Y.assign rfl rfl) ?_
        refine Jp.qae hK52 ?_
        refine Cd.qal rfl (fun g87=>?_) (fun g87=>?_)
        ·skip
         try simp only [sG0] at g87
         refine Cd.seq fun K53 hK53=>?_
         refine Cd.qac [(0,false)] rfl rfl ?_
         refine Jp.y 4 rfl (qaa rfl) rfl rfl Kp.true (Y.assign rfl rfl) ?_
         refine Jp.qae hK53 ?_
         refine Cd.ret [] rfl (qba rfl rfl) trivial ⟨rfl, congrArg (Value.int .u32) (by
          (exfalso; omega)), rfl⟩
        ·skip
         try simp only [sG0] at g87
         refine Cd.over rfl hK33 ?_
         refine Cd.seq fun K54 hK54=>?_
         refine Cd.qac [(0,false),(1,false),(2,false),(3,false)] rfl rfl ?_
         refine Jp.y 90 rfl (qaa rfl) rfl rfl Kp.true (Y.move rfl rfl) ?_
         refine Jp.y 91 rfl (qaa rfl) rfl rfl Kp.true (Y.bits rfl rfl rfl rfl) ?_
         refine Jp.call [] [] (qaw _ _ (by decide)) 92 rfl (qaa rfl) rfl rfl (Runs.fn rfl call64 rfl) (by decide) (by decide) rfl trivial ?_
         rintro v115 ρ115 L115 ⟨rfl,rfl,rfl⟩
         refine ⟨rfl,fun hle115=>⟨Kp.true,?_⟩⟩
         refine Jp.y 4 rfl (qaa rfl) rfl rfl Kp.true (Y.assign rfl rfl) ?_
         refine Jp.qae hK54 ?_
         refine Cd.ret [] rfl (qba rfl rfl) trivial ⟨rfl, congrArg (Value.int .u32) (by
          (exfalso; omega)), rfl⟩
      ·skip
       try simp only [sG0] at g80
       refine Jp.qak 81 rfl (qab rfl rfl rfl rfl) rfl rfl Kp.true ?_
       refine Jp.qak 82 rfl (qab rfl rfl rfl rfl) rfl rfl Kp.true ?_
       refine Jp.y 83 rfl (qaa rfl) rfl rfl Kp.true (Y.qao rfl rfl rfl) ?_
       refine Jp.y 77 rfl (qaa rfl) rfl rfl Kp.true (Y.assign rfl rfl) ?_
       refine Jp.qae hK50 ?_
       refine Cd.qbg rfl ?_
       refine Cd.seq fun K55 hK55=>?_
       refine Cd.qac [(0,false),(1,false),(2,false)] rfl rfl ?_
       refine Jp.y 88 rfl (qaa rfl) rfl rfl Kp.true (Y.move rfl rfl) ?_
       refine Jp.y 89 rfl (qaa rfl) rfl rfl Kp.true (Y.geq rfl rfl rfl) ?_
       refine Jp.y 87 rfl (qaa rfl) rfl rfl Kp.true (Y.assign rfl rfl) ?_
       refine Jp.qae hK55 ?_
       refine Cd.qal rfl (fun g87=>?_) (fun g87=>?_)
       ·skip
        try simp only [sG0] at g87
        refine Cd.seq fun K56 hK56=>?_
        refine Cd.qac [(0,false)] rfl rfl ?_
        refine Jp.y 4 rfl (qaa rfl) rfl rfl Kp.true (Y.assign rfl rfl) ?_
        refine Jp.qae hK56 ?_
        refine Cd.ret [] rfl (qba rfl rfl) trivial ⟨rfl, congrArg (Value.int .u32) (by
         (exfalso; omega)), rfl⟩
       ·skip
        try simp only [sG0] at g87
        refine Cd.over rfl hK33 ?_
        refine Cd.seq fun K57 hK57=>?_
        refine Cd.qac [(0,false),(1,false),(2,false),(3,false)] rfl rfl ?_
        refine Jp.y 90 rfl (qaa rfl) rfl rfl Kp.true (Y.move rfl rfl) ?_
        refine Jp.y 91 rfl (qaa rfl) rfl rfl Kp.true (Y.bits rfl rfl rfl rfl) ?_
        refine Jp.call [] [] (qaw _ _ (by decide)) 92 rfl (qaa rfl) rfl rfl (Runs.fn rfl call64 rfl) (by decide) (by decide) rfl trivial ?_
        rintro v116 ρ116 L116 ⟨rfl,rfl,rfl⟩
        refine ⟨rfl,fun hle116=>⟨Kp.true,?_⟩⟩
        refine Jp.y 4 rfl (qaa rfl) rfl rfl Kp.true (Y.assign rfl rfl) ?_
        refine Jp.qae hK57 ?_
        refine Cd.ret [] rfl (qba rfl rfl) trivial ⟨rfl, congrArg (Value.int .u32) (by
         (rw [bitsP]; repeat first | exact hm | exact or4_u (qaj _ _) (qaj _ _) (qaj _ _) (qaj _ _) | exact qas (qaj _ _) (qaj _ _) | rfl | rw [if_pos (by omega)] | rw [if_neg (by omega)])), rfl⟩
   ·skip
    try simp only [sG0] at g39
    refine Jp.qak 40 rfl (qab rfl rfl rfl rfl) rfl rfl Kp.true ?_
    refine Jp.qak 41 rfl (qab rfl rfl rfl rfl) rfl rfl Kp.true ?_
    refine Jp.y 42 rfl (qaa rfl) rfl rfl Kp.true (Y.qao rfl rfl rfl) ?_
    refine Jp.y 36 rfl (qaa rfl) rfl rfl Kp.true (Y.assign rfl rfl) ?_
    refine Jp.qae hK38 ?_
    refine Cd.qbg rfl ?_
    refine Cd.seq fun K58 hK58=>?_
    refine Cd.qac [(0,false),(1,false),(2,false),(3,false),(4,false),(5,false),(6,false)] rfl rfl ?_
    refine Jp.y 63 rfl (qaa rfl) rfl rfl Kp.true (Y.move rfl rfl) ?_
    refine Jp.y 64 rfl (qaa rfl) rfl rfl Kp.true (Y.geq rfl rfl rfl) ?_
    refine Jp.y 65 rfl (qaa rfl) rfl rfl Kp.true (Y.move rfl rfl) ?_
    refine Jp.split 65 rfl (fun g65=>?_) (fun g65=>?_)
    ·skip
     try simp only [sG0] at g65
     refine Jp.y 66 rfl (qab rfl rfl rfl rfl) rfl rfl Kp.true (Y.move rfl rfl) ?_
     refine Jp.y 67 rfl (qab rfl rfl rfl rfl) rfl rfl Kp.true (Y.leq rfl rfl rfl) ?_
     refine Jp.y 68 rfl (qaa rfl) rfl rfl Kp.true (Y.qat rfl rfl rfl) ?_
     refine Jp.y 62 rfl (qaa rfl) rfl rfl Kp.true (Y.assign rfl rfl) ?_
     refine Jp.qae hK58 ?_
     refine Cd.qal rfl (fun g62=>?_) (fun g62=>?_)
     ·skip
      try simp only [sG0] at g62
      refine Cd.seq fun K59 hK59=>?_
      refine Cd.qac [(0,false),(1,false),(2,false),(3,false),(4,false),(5,false),(6,false),(7,false),(8,false)] rfl rfl ?_
      refine Jp.y 69 rfl (qaa rfl) rfl rfl Kp.true (Y.move rfl rfl) ?_
      refine Jp.y 70 rfl (qaa rfl) rfl rfl Kp.true (Y.shr rfl rfl rfl (by first | decide | omega)) ?_
      refine Jp.y 71 rfl (qaa rfl) rfl rfl Kp.true (Y.bits rfl rfl rfl rfl) ?_
      refine Jp.call [] [] (qaw _ _ (by decide)) 72 rfl (qaa rfl) rfl rfl (Runs.fn rfl call64 rfl) (by decide) (by decide) rfl trivial ?_
      rintro v117 ρ117 L117 ⟨rfl,rfl,rfl⟩
      refine ⟨rfl,fun hle117=>⟨Kp.true,?_⟩⟩
      refine Jp.y 73 rfl (qaa rfl) rfl rfl Kp.true (Y.move rfl rfl) ?_
      refine Jp.y 74 rfl (qaa rfl) rfl rfl Kp.true (Y.bits rfl rfl rfl rfl) ?_
      refine Jp.call [] [] (qaw _ _ (by decide)) 75 rfl (qaa rfl) rfl rfl (Runs.fn rfl call64 rfl) (by decide) (by decide) rfl trivial ?_
      rintro v118 ρ118 L118 ⟨rfl,rfl,rfl⟩
      refine ⟨rfl,fun hle118=>⟨Kp.true,?_⟩⟩
      refine Jp.y 76 rfl (qaa rfl) rfl rfl Kp.true (Y.bits rfl rfl rfl rfl) ?_
      refine Jp.y 4 rfl (qaa rfl) rfl rfl Kp.true (Y.assign rfl rfl) ?_
      refine Jp.qae hK59 ?_
      refine Cd.ret [] rfl (qba rfl rfl) trivial ⟨rfl, congrArg (Value.int .u32) (by
       (exfalso; omega)), rfl⟩
     ·skip
      try simp only [sG0] at g62
      refine Cd.seq fun K60 hK60=>?_
      refine Cd.qac [(0,false),(1,false),(2,false),(3,false),(4,false),(5,false),(6,false)] rfl rfl ?_
      refine Jp.y 78 rfl (qaa rfl) rfl rfl Kp.true (Y.move rfl rfl) ?_
      refine Jp.y 79 rfl (qaa rfl) rfl rfl Kp.true (Y.geq rfl rfl rfl) ?_
      refine Jp.y 80 rfl (qaa rfl) rfl rfl Kp.true (Y.move rfl rfl) ?_
      refine Jp.split 80 rfl (fun g80=>?_) (fun g80=>?_)
      ·skip
       try simp only [sG0] at g80
       refine Jp.y 81 rfl (qab rfl rfl rfl rfl) rfl rfl Kp.true (Y.move rfl rfl) ?_
       refine Jp.y 82 rfl (qab rfl rfl rfl rfl) rfl rfl Kp.true (Y.leq rfl rfl rfl) ?_
       refine Jp.y 83 rfl (qaa rfl) rfl rfl Kp.true (Y.qat rfl rfl rfl) ?_
       refine Jp.y 77 rfl (qaa rfl) rfl rfl Kp.true (Y.assign rfl rfl) ?_
       refine Jp.qae hK60 ?_
       refine Cd.qal rfl (fun g77=>?_) (fun g77=>?_)
       ·skip
        try simp only [sG0] at g77
        refine Cd.seq fun K61 hK61=>?_
        refine Cd.qac [(0,false),(1,false),(2,false),(3,false)] rfl rfl ?_
        refine Jp.y 84 rfl (qaa rfl) rfl rfl Kp.true (Y.move rfl rfl) ?_
        refine Jp.y 85 rfl (qaa rfl) rfl rfl Kp.true (Y.bits rfl rfl rfl rfl) ?_
        refine Jp.call [] [] (qaw _ _ (by decide)) 86 rfl (qaa rfl) rfl rfl (Runs.fn rfl call64 rfl) (by decide) (by decide) rfl trivial ?_
        rintro v119 ρ119 L119 ⟨rfl,rfl,rfl⟩
        refine ⟨rfl,fun hle119=>⟨Kp.true,?_⟩⟩
        refine Jp.y 4 rfl (qaa rfl) rfl rfl Kp.true (Y.assign rfl rfl) ?_
        refine Jp.qae hK61 ?_
        refine Cd.ret [] rfl (qba rfl rfl) trivial ⟨rfl, congrArg (Value.int .u32) (by
         (exfalso; omega)), rfl⟩
       ·skip
        try simp only [sG0] at g77
        refine Cd.seq fun K62 hK62=>?_
        refine Cd.qac [(0,false),(1,false),(2,false)] rfl rfl ?_
        refine Jp.y 88 rfl (qaa rfl) rfl rfl Kp.true (Y.move rfl rfl) ?_
        refine Jp.y 89 rfl (qaa rfl) rfl rfl Kp.true (Y.geq rfl rfl rfl) ?_
        refine Jp.y 87 rfl (qaa rfl) rfl rfl Kp.true (Y.assign rfl rfl) ?_
        refine Jp.qae hK62 ?_
        refine Cd.qal rfl (fun g87=>?_) (fun g87=>?_)
        ·skip
         try simp only [sG0] at g87
         refine Cd.seq fun K63 hK63=>?_
         refine Cd.qac [(0,false)] rfl rfl ?_
         refine Jp.y 4 rfl (qaa rfl) rfl rfl Kp.true (Y.assign rfl rfl) ?_
         refine Jp.qae hK63 ?_
         refine Cd.ret [] rfl (qba rfl rfl) trivial ⟨rfl, congrArg (Value.int .u32) (by
          (exfalso; omega)), rfl⟩
        ·skip
         try simp only [sG0] at g87
         refine Cd.over rfl hK33 ?_
         refine Cd.seq fun K64 hK64=>?_
         refine Cd.qac [(0,false),(1,false),(2,false),(3,false)] rfl rfl ?_
         refine Jp.y 90 rfl (qaa rfl) rfl rfl Kp.true (Y.move rfl rfl) ?_
         refine Jp.y 91 rfl (qaa rfl) rfl rfl Kp.true (Y.bits rfl rfl rfl rfl) ?_
         refine Jp.call [] [] (qaw _ _ (by decide)) 92 rfl (qaa rfl) rfl rfl (Runs.fn rfl call64 rfl) (by decide) (by decide) rfl trivial ?_
         rintro v120 ρ120 L120 ⟨rfl,rfl,rfl⟩
         refine ⟨rfl,fun hle120=>⟨Kp.true,?_⟩⟩
         refine Jp.y 4 rfl (qaa rfl) rfl rfl Kp.true (Y.assign rfl rfl) ?_
         refine Jp.qae hK64 ?_
         refine Cd.ret [] rfl (qba rfl rfl) trivial ⟨rfl, congrArg (Value.int .u32) (by
          (exfalso; omega)), rfl⟩
      ·skip
       try simp only [sG0] at g80
       refine Jp.qak 81 rfl (qab rfl rfl rfl rfl) rfl rfl Kp.true ?_
       refine Jp.qak 82 rfl (qab rfl rfl rfl rfl) rfl rfl Kp.true ?_
       refine Jp.y 83 rfl (qaa rfl) rfl rfl Kp.true (Y.qao rfl rfl rfl) ?_
       refine Jp.y 77 rfl (qaa rfl) rfl rfl Kp.true (Y.assign rfl rfl) ?_
       refine Jp.qae hK60 ?_
       refine Cd.qbg rfl ?_
       refine Cd.seq fun K65 hK65=>?_
       refine Cd.qac [(0,false),(1,false),(2,false)] rfl rfl ?_
       refine Jp.y 88 rfl (qaa rfl) rfl rfl Kp.true (Y.move rfl rfl) ?_
       refine Jp.y 89 rfl (qaa rfl) rfl rfl Kp.true (Y.geq rfl rfl rfl) ?_
       refine Jp.y 87 rfl (qaa rfl) rfl rfl Kp.true (Y.assign rfl rfl) ?_
       refine Jp.qae hK65 ?_
       refine Cd.qal rfl (fun g87=>?_) (fun g87=>?_)
       ·skip
        try simp only [sG0] at g87
        refine Cd.seq fun K66 hK66=>?_
        refine Cd.qac [(0,false)] rfl rfl ?_
        refine Jp.y 4 rfl (qaa rfl) rfl rfl Kp.true (Y.assign rfl rfl) ?_
        refine Jp.qae hK66 ?_
        refine Cd.ret [] rfl (qba rfl rfl) trivial ⟨rfl, congrArg (Value.int .u32) (by
         (exfalso; omega)), rfl⟩
       ·skip
        try simp only [sG0] at g87
        refine Cd.over rfl hK33 ?_
        refine Cd.seq fun K67 hK67=>?_
        refine Cd.qac [(0,false),(1,false),(2,false),(3,false)] rfl rfl ?_
        refine Jp.y 90 rfl (qaa rfl) rfl rfl Kp.true (Y.move rfl rfl) ?_
        refine Jp.y 91 rfl (qaa rfl) rfl rfl Kp.true (Y.bits rfl rfl rfl rfl) ?_
        refine Jp.call [] [] (qaw _ _ (by decide)) 92 rfl (qaa rfl) rfl rfl (Runs.fn rfl call64 rfl) (by decide) (by decide) rfl trivial ?_
        rintro v121 ρ121 L121 ⟨rfl,rfl,rfl⟩
        refine ⟨rfl,fun hle121=>⟨Kp.true,?_⟩⟩
        refine Jp.y 4 rfl (qaa rfl) rfl rfl Kp.true (Y.assign rfl rfl) ?_
        refine Jp.qae hK67 ?_
        refine Cd.ret [] rfl (qba rfl rfl) trivial ⟨rfl, congrArg (Value.int .u32) (by
         (exfalso; omega)), rfl⟩
    ·skip
     try simp only [sG0] at g65
     refine Jp.qak 66 rfl (qab rfl rfl rfl rfl) rfl rfl Kp.true ?_
     refine Jp.qak 67 rfl (qab rfl rfl rfl rfl) rfl rfl Kp.true ?_
     refine Jp.y 68 rfl (qaa rfl) rfl rfl Kp.true (Y.qao rfl rfl rfl) ?_
     refine Jp.y 62 rfl (qaa rfl) rfl rfl Kp.true (Y.assign rfl rfl) ?_
     refine Jp.qae hK58 ?_
     refine Cd.qbg rfl ?_
     refine Cd.seq fun K68 hK68=>?_
     refine Cd.qac [(0,false),(1,false),(2,false),(3,false),(4,false),(5,false),(6,false)] rfl rfl ?_
     refine Jp.y 78 rfl (qaa rfl) rfl rfl Kp.true (Y.move rfl rfl) ?_
     refine Jp.y 79 rfl (qaa rfl) rfl rfl Kp.true (Y.geq rfl rfl rfl) ?_
     refine Jp.y 80 rfl (qaa rfl) rfl rfl Kp.true (Y.move rfl rfl) ?_
     refine Jp.split 80 rfl (fun g80=>?_) (fun g80=>?_)
     ·skip
      try simp only [sG0] at g80
      refine Jp.y 81 rfl (qab rfl rfl rfl rfl) rfl rfl Kp.true (Y.move rfl rfl) ?_
      refine Jp.y 82 rfl (qab rfl rfl rfl rfl) rfl rfl Kp.true (Y.leq rfl rfl rfl) ?_
      refine Jp.y 83 rfl (qaa rfl) rfl rfl Kp.true (Y.qat rfl rfl rfl) ?_
      refine Jp.y 77 rfl (qaa rfl) rfl rfl Kp.true (Y.assign rfl rfl) ?_
      refine Jp.qae hK68 ?_
      refine Cd.qal rfl (fun g77=>?_) (fun g77=>?_)
      ·skip
       try simp only [sG0] at g77
       refine Cd.seq fun K69 hK69=>?_
       refine Cd.qac [(0,false),(1,false),(2,false),(3,false)] rfl rfl ?_
       refine Jp.y 84 rfl (qaa rfl) rfl rfl Kp.true (Y.move rfl rfl) ?_
       refine Jp.y 85 rfl (qaa rfl) rfl rfl Kp.true (Y.bits rfl rfl rfl rfl) ?_
       refine Jp.call [] [] (qaw _ _ (by decide)) 86 rfl (qaa rfl) rfl rfl (Runs.fn rfl call64 rfl) (by decide) (by decide) rfl trivial ?_
       rintro v122 ρ122 L122 ⟨rfl,rfl,rfl⟩
       refine ⟨rfl,fun hle122=>⟨Kp.true,?_⟩⟩
       refine Jp.y 4 rfl (qaa rfl) rfl rfl Kp.true (Y.assign rfl rfl) ?_
       refine Jp.qae hK69 ?_
       refine Cd.ret [] rfl (qba rfl rfl) trivial ⟨rfl, congrArg (Value.int .u32) (by
        (exfalso; omega)), rfl⟩
      ·skip
       try simp only [sG0] at g77
       refine Cd.seq fun K70 hK70=>?_
       refine Cd.qac [(0,false),(1,false),(2,false)] rfl rfl ?_
       refine Jp.y 88 rfl (qaa rfl) rfl rfl Kp.true (Y.move rfl rfl) ?_
       refine Jp.y 89 rfl (qaa rfl) rfl rfl Kp.true (Y.geq rfl rfl rfl) ?_
       refine Jp.y 87 rfl (qaa rfl) rfl rfl Kp.true (Y.assign rfl rfl) ?_
       refine Jp.qae hK70 ?_
       refine Cd.qal rfl (fun g87=>?_) (fun g87=>?_)
       ·skip
        try simp only [sG0] at g87
        refine Cd.seq fun K71 hK71=>?_
        refine Cd.qac [(0,false)] rfl rfl ?_
        refine Jp.y 4 rfl (qaa rfl) rfl rfl Kp.true (Y.assign rfl rfl) ?_
        refine Jp.qae hK71 ?_
        refine Cd.ret [] rfl (qba rfl rfl) trivial ⟨rfl, congrArg (Value.int .u32) (by
         (exfalso; omega)), rfl⟩
       ·skip
        try simp only [sG0] at g87
        refine Cd.over rfl hK33 ?_
        refine Cd.seq fun K72 hK72=>?_
        refine Cd.qac [(0,false),(1,false),(2,false),(3,false)] rfl rfl ?_
        refine Jp.y 90 rfl (qaa rfl) rfl rfl Kp.true (Y.move rfl rfl) ?_
        refine Jp.y 91 rfl (qaa rfl) rfl rfl Kp.true (Y.bits rfl rfl rfl rfl) ?_
        refine Jp.call [] [] (qaw _ _ (by decide)) 92 rfl (qaa rfl) rfl rfl (Runs.fn rfl call64 rfl) (by decide) (by decide) rfl trivial ?_
        rintro v123 ρ123 L123 ⟨rfl,rfl,rfl⟩
        refine ⟨rfl,fun hle123=>⟨Kp.true,?_⟩⟩
        refine Jp.y 4 rfl (qaa rfl) rfl rfl Kp.true (Y.assign rfl rfl) ?_
        refine Jp.qae hK72 ?_
        refine Cd.ret [] rfl (qba rfl rfl) trivial ⟨rfl, congrArg (Value.int .u32) (by
         (exfalso; omega)), rfl⟩
     ·skip
      try simp only [sG0] at g80
      refine Jp.qak 81 rfl (qab rfl rfl rfl rfl) rfl rfl Kp.true ?_
      refine Jp.qak 82 rfl (qab rfl rfl rfl rfl) rfl rfl Kp.true ?_
      refine Jp.y 83 rfl (qaa rfl) rfl rfl Kp.true (Y.qao rfl rfl rfl) ?_
      refine Jp.y 77 rfl (qaa rfl) rfl rfl Kp.true (Y.assign rfl rfl) ?_
      refine Jp.qae hK68 ?_
      refine Cd.qbg rfl ?_
      refine Cd.seq fun K73 hK73=>?_
      refine Cd.qac [(0,false),(1,false),(2,false)] rfl rfl ?_
      refine Jp.y 88 rfl (qaa rfl) rfl rfl Kp.true (Y.move rfl rfl) ?_
      refine Jp.y 89 rfl (qaa rfl) rfl rfl Kp.true (Y.geq rfl rfl rfl) ?_
      refine Jp.y 87 rfl (qaa rfl) rfl rfl Kp.true (Y.assign rfl rfl) ?_
      refine Jp.qae hK73 ?_
      refine Cd.qal rfl (fun g87=>?_) (fun g87=>?_)
      ·skip
       try simp only [sG0] at g87
       refine Cd.seq fun K74 hK74=>?_
       refine Cd.qac [(0,false)] rfl rfl ?_
       refine Jp.y 4 rfl (qaa rfl) rfl rfl Kp.true (Y.assign rfl rfl) ?_
       refine Jp.qae hK74 ?_
       refine Cd.ret [] rfl (qba rfl rfl) trivial ⟨rfl, congrArg (Value.int .u32) (by
        (exfalso; omega)), rfl⟩
      ·skip
       try simp only [sG0] at g87
       refine Cd.over rfl hK33 ?_
       refine Cd.seq fun K75 hK75=>?_
       refine Cd.qac [(0,false),(1,false),(2,false),(3,false)] rfl rfl ?_
       refine Jp.y 90 rfl (qaa rfl) rfl rfl Kp.true (Y.move rfl rfl) ?_
       refine Jp.y 91 rfl (qaa rfl) rfl rfl Kp.true (Y.bits rfl rfl rfl rfl) ?_
       refine Jp.call [] [] (qaw _ _ (by decide)) 92 rfl (qaa rfl) rfl rfl (Runs.fn rfl call64 rfl) (by decide) (by decide) rfl trivial ?_
       rintro v124 ρ124 L124 ⟨rfl,rfl,rfl⟩
       refine ⟨rfl,fun hle124=>⟨Kp.true,?_⟩⟩
       refine Jp.y 4 rfl (qaa rfl) rfl rfl Kp.true (Y.assign rfl rfl) ?_
       refine Jp.qae hK75 ?_
       refine Cd.ret [] rfl (qba rfl rfl) trivial ⟨rfl, congrArg (Value.int .u32) (by
        (rw [bitsP]; repeat first | exact hm | exact or4_u (qaj _ _) (qaj _ _) (qaj _ _) (qaj _ _) | exact qas (qaj _ _) (qaj _ _) | rfl | rw [if_pos (by omega)] | rw [if_neg (by omega)])), rfl⟩
end
end Go.Proofs.YthjelpbaljapiaaGreat

namespace Go.Proofs.YthjelpbaljapiaaGreat
open _root_.Go.Proofs.Tryz
open Go
def insEq (a b : InsP) : Bool:=((a.op : Int) == (b.op : Int)) && (((a.rd : Int) == (b.rd : Int)) && (((a.r1 : Int) == (b.r1 : Int)) && (((a.r2 : Int) == (b.r2 : Int)) && ((a.imm == b.imm) && true))))
def evEq (a b : EvP) : Bool:=((a.kind : Int) == (b.kind : Int)) && (((a.addr : Int) == (b.addr : Int)) && ((a.why == b.why) && true))
theorem evEq_iff (a b : EvP) : evEq a b = true ↔ a = b:=by
 obtain ⟨a1,a2,a3⟩:=a
 obtain ⟨b1,b2,b3⟩:=b
 simp [evEq]
 omega
theorem ins_guard : Tryz.prog.eqGuardType Tryz.prog.depth 34 = false:=by kernel_rfl
theorem ins_stood : Tryz.prog.stoodInHeld 34 = false:=by kernel_rfl
theorem ins_fields : Tryz.prog.underlying 34 = some (.struct (Tryz.prog.fieldsOf 34)):=by kernel_rfl
theorem ev_guard : Tryz.prog.eqGuardType Tryz.prog.depth 37 = false:=by kernel_rfl
theorem ev_stood : Tryz.prog.stoodInHeld 37 = false:=by kernel_rfl
theorem qgm : Tryz.prog.underlying 37 = some (.struct (Tryz.prog.fieldsOf 37)):=by kernel_rfl
theorem ins_list : (Tryz.prog.fieldsOf 34).toList = [Field.mk "Op" 3 0 false "" "" 0, Field.mk "Rd" 3 1 false "" "" 8, Field.mk "Rs1" 3 2 false "" "" 16, Field.mk "Rs2" 3 3 false "" "" 24, Field.mk "Imm" 21 4 false "" "" 32] := by kernel_rfl
theorem ev_list : (Tryz.prog.fieldsOf 37).toList = [Field.mk "Kind" 3 0 false "" "" 0, Field.mk "Addr" 24 1 false "" "" 8, Field.mk "Why" 35 2 false "" "" 16] := by kernel_rfl
theorem ins_eq (a b : InsP) (w : World) : (Op.eqFields 9999 a.cells.toArray b.cells.toArray (Tryz.prog.fieldsOf 34).toList).run Tryz.prog w = .ok (insEq a b) w:=by
 rw [ins_list]
 exact qbo (by decide) (qbh isAgg3 rfl) (qbh isAgg3 rfl) underlying3 (qbo (by decide) (qbh isAgg3 rfl) (qbh isAgg3 rfl) underlying3 (qbo (by decide) (qbh isAgg3 rfl) (qbh isAgg3 rfl) underlying3 (qbo (by decide) (qbh isAgg3 rfl) (qbh isAgg3 rfl) underlying3 (qbo (by decide) (qbh isAgg21 rfl) (qbh isAgg21 rfl) underlying21 rfl))))
theorem ev_eq (a b : EvP) (w : World) : (Op.eqFields 9999 a.cells.toArray b.cells.toArray (Tryz.prog.fieldsOf 37).toList).run Tryz.prog w = .ok (evEq a b) w:=by
 rw [ev_list]
 exact qbo (by decide) (qbh isAgg3 rfl) (qbh isAgg3 rfl) underlying3 (qbo (by decide) (qbh isAgg24 rfl) (qbh isAgg24 rfl) underlying24 (qbo (by decide) (qbh isAgg35 rfl) (qbh isAgg35 rfl) underlying35 rfl))
end Go.Proofs.YthjelpbaljapiaaGreat

namespace Go.Proofs.YthjelpbaljapiaaGreat
open _root_.Go.Proofs.Tryz
open Go
def wholeP (op : Nat) : Nat:=if op = 46 then 267386895 else if op = 47 then 4111 else if op = 48 then 115 else if op = 49 then 1048691 else 0
theorem whole_spec (op : Nat) (h : op < 50) : Spec Tryz.prog 61 #[.int .i64 op] (fun _=>True) [] (fun ρ ρ' v L=>ρ' = ρ ∧ v = .tuple #[.int .u32 (wholeP op : Int),.bool (decide (46 ≤ op))] ∧ L = []):=by
  refine Spec.of 13 Tryz.func61 rfl Tryz.ntmps61 [(0,_)] rfl rfl ?_
  intro cx ρ hr h0
  refine Cd.seq fun K1 hK1=>?_
  refine Cd.qac [(0,false),(1,false)] rfl rfl ?_
  refine Jp.y 2 rfl (qaa rfl) rfl rfl Kp.true (Y.assign rfl rfl) ?_
  refine Jp.y 3 rfl (qaa rfl) rfl rfl Kp.true (Y.assign rfl rfl) ?_
  refine Jp.qae hK1 ?_
  refine Cd.seq fun K2 hK2=>?_
  refine Cd.seq fun K3 hK3=>?_
  refine Cd.qac [(0,false)] rfl rfl ?_
  refine Jp.y 4 rfl (qaa rfl) rfl rfl Kp.true (Y.move rfl rfl) ?_
  refine Jp.qae hK3 ?_
  refine Cd.block ?_
  refine Cd.seq fun K4 hK4=>?_
  refine Cd.qac [(0,false),(1,false)] rfl rfl ?_
  refine Jp.y 6 rfl (qaa rfl) rfl rfl Kp.true (Y.eql rfl rfl rfl) ?_
  refine Jp.y 5 rfl (qaa rfl) rfl rfl Kp.true (Y.assign rfl rfl) ?_
  refine Jp.qae hK4 ?_
  refine Cd.qal rfl (fun g5=>?_) (fun g5=>?_)
  · skip
    try simp only [sG0] at g5
    refine Cd.seq fun K5 hK5=>?_
    refine Cd.qac [(0,false),(1,false)] rfl rfl ?_
    refine Jp.y 2 rfl (qaa rfl) rfl rfl Kp.true (Y.assign rfl rfl) ?_
    refine Jp.y 3 rfl (qaa rfl) rfl rfl Kp.true (Y.assign rfl rfl) ?_
    refine Jp.qae hK5 ?_
    refine Cd.ret [] rfl (qbd rfl rfl rfl) trivial ⟨rfl, by
      (obtain rfl : op = 46 := by omega
       rfl), rfl⟩
  · skip
    try simp only [sG0] at g5
    refine Cd.seq fun K6 hK6=>?_
    refine Cd.qac [(0,false),(1,false)] rfl rfl ?_
    refine Jp.y 8 rfl (qaa rfl) rfl rfl Kp.true (Y.eql rfl rfl rfl) ?_
    refine Jp.y 7 rfl (qaa rfl) rfl rfl Kp.true (Y.assign rfl rfl) ?_
    refine Jp.qae hK6 ?_
    refine Cd.qal rfl (fun g7=>?_) (fun g7=>?_)
    · skip
      try simp only [sG0] at g7
      refine Cd.seq fun K7 hK7=>?_
      refine Cd.qac [(0,false),(1,false)] rfl rfl ?_
      refine Jp.y 2 rfl (qaa rfl) rfl rfl Kp.true (Y.assign rfl rfl) ?_
      refine Jp.y 3 rfl (qaa rfl) rfl rfl Kp.true (Y.assign rfl rfl) ?_
      refine Jp.qae hK7 ?_
      refine Cd.ret [] rfl (qbd rfl rfl rfl) trivial ⟨rfl, by
        (obtain rfl : op = 47 := by omega
         rfl), rfl⟩
    · skip
      try simp only [sG0] at g7
      refine Cd.seq fun K8 hK8=>?_
      refine Cd.qac [(0,false),(1,false)] rfl rfl ?_
      refine Jp.y 10 rfl (qaa rfl) rfl rfl Kp.true (Y.eql rfl rfl rfl) ?_
      refine Jp.y 9 rfl (qaa rfl) rfl rfl Kp.true (Y.assign rfl rfl) ?_
      refine Jp.qae hK8 ?_
      refine Cd.qal rfl (fun g9=>?_) (fun g9=>?_)
      · skip
        try simp only [sG0] at g9
        refine Cd.seq fun K9 hK9=>?_
        refine Cd.qac [(0,false),(1,false)] rfl rfl ?_
        refine Jp.y 2 rfl (qaa rfl) rfl rfl Kp.true (Y.assign rfl rfl) ?_
        refine Jp.y 3 rfl (qaa rfl) rfl rfl Kp.true (Y.assign rfl rfl) ?_
        refine Jp.qae hK9 ?_
        refine Cd.ret [] rfl (qbd rfl rfl rfl) trivial ⟨rfl, by
          (obtain rfl : op = 48 := by omega
           rfl), rfl⟩
      · skip
        try simp only [sG0] at g9
        refine Cd.seq fun K10 hK10=>?_
        refine Cd.qac [(0,false),(1,false)] rfl rfl ?_
        refine Jp.y 12 rfl (qaa rfl) rfl rfl Kp.true (Y.eql rfl rfl rfl) ?_
        refine Jp.y 11 rfl (qaa rfl) rfl rfl Kp.true (Y.assign rfl rfl) ?_
        refine Jp.qae hK10 ?_
        refine Cd.qal rfl (fun g11=>?_) (fun g11=>?_)
        · skip
          try simp only [sG0] at g11
          refine Cd.seq fun K11 hK11=>?_
          refine Cd.qac [(0,false),(1,false)] rfl rfl ?_
          refine Jp.y 2 rfl (qaa rfl) rfl rfl Kp.true (Y.assign rfl rfl) ?_
          refine Jp.y 3 rfl (qaa rfl) rfl rfl Kp.true (Y.assign rfl rfl) ?_
          refine Jp.qae hK11 ?_
          refine Cd.ret [] rfl (qbd rfl rfl rfl) trivial ⟨rfl, by
            (obtain rfl : op = 49 := by omega
             rfl), rfl⟩
        · skip
          try simp only [sG0] at g11
          refine Cd.over rfl hK2 ?_
          refine Cd.seq fun K12 hK12=>?_
          refine Cd.qac [(0,false),(1,false)] rfl rfl ?_
          refine Jp.y 2 rfl (qaa rfl) rfl rfl Kp.true (Y.assign rfl rfl) ?_
          refine Jp.y 3 rfl (qaa rfl) rfl rfl Kp.true (Y.assign rfl rfl) ?_
          refine Jp.qae hK12 ?_
          refine Cd.ret [] rfl (qbd rfl rfl rfl) trivial ⟨rfl, by
            (rw [wholeP, if_neg (by omega), if_neg (by omega), if_neg (by omega), if_neg (by omega), decide_eq_false (by omega)]; rfl), rfl⟩
theorem regs_spec (A : Option Addr) (c : Nat) (xs : List Int) (hxs : ∀ x ∈ xs,0 ≤ x ∧ x ≤ 31) (hl : xs.length ≤ 1000) : Spec Tryz.prog 62 #[.slice A xs.length c] (RdI .i64 ⟨A,c,xs⟩) [] (fun ρ ρ' v L=>ρ' = ρ ∧ v = .bool true ∧ L = []):=by
 refine Spec.of 18 Tryz.func62 rfl Tryz.ntmps62 [(0,_)] rfl rfl ?_
 intro cx ρ hr h0
 refine Cd.seq fun K13 hK13=>?_
 refine Cd.qac [(0,false)] rfl rfl ?_
 refine Jp.y 2 rfl (qaa rfl) rfl rfl Kp.true (Y.assign rfl rfl) ?_
 refine Jp.qae hK13 ?_
 refine Cd.seq fun K14 hK14=>?_
 refine Cd.seq fun K15 hK15=>?_
 refine Cd.qac [(0,false),(1,false),(2,false)] rfl rfl ?_
 refine Jp.y 5 rfl (qaa rfl) rfl rfl Kp.true (Y.move rfl rfl) ?_
 refine Jp.y 6 rfl (qaa rfl) rfl rfl Kp.true (Y.qcd rfl underlying76 rfl) ?_
 refine Jp.y 7 rfl (qaa rfl) rfl rfl Kp.true (Y.move rfl rfl) ?_
 refine Jp.qae hK15 ?_
 refine Cd.block ?_
 refine Cd.qdw (G:=Nat) (fun g=>g ≤ xs.length) (fun g=>xs.length - g) (fun _=>_) (fun g=>[(7,.int .i64 (g : Int))]) [(5,_),(6,_)] (fun g=>[]) [] 0 (Nat.zero_le _) rfl ⟨rfl,trivial⟩ ⟨rfl,rfl,trivial⟩ trivial trivial (fun g KLa hok hLa=>?_)
 refine Cd.seq fun K16 hK16=>?_
 refine Cd.qac [(0,false)] rfl rfl ?_
 refine Jp.y 8 rfl (qaa rfl) rfl rfl Kp.true (Y.lss rfl rfl rfl) ?_
 refine Jp.qae hK16 ?_
 refine Cd.seq fun K17 hK17=>?_
 refine Cd.qal rfl (fun ga=>?_) (fun ga=>?_)
 ·have hi : g < xs.length:=by simp at ga; omega
  obtain ⟨x,hx⟩ : ∃ x,xs[g]? = some x:=⟨_,List.getElem?_eq_getElem hi⟩
  obtain ⟨b1,b2⟩:=hxs x (List.mem_of_getElem? hx)
  obtain ⟨ad,hA,hc⟩:=hr.2.2 g (.int .i64 x) (by simp [intsV,hx])
  have hA : A = some ad:=hA
  subst hA
  refine Cd.qbi hK17 ?_
  refine Cd.seq fun K18 hK18=>?_
  refine Cd.block ?_
  refine Cd.seq fun K19 hK19=>?_
  refine Cd.qac [(0,false),(1,false),(2,false)] rfl rfl ?_
  refine Jp.y 9 rfl (qaa rfl) rfl rfl Kp.true (Y.qar (q:=g) rfl rfl rfl underlying76 sizeOf3 (by omega) (by omega) (by omega)) ?_
  refine Jp.y 10 rfl (qaa rfl) rfl rfl Kp.true (Y.loadR rfl isAgg3 rfl hc) ?_
  refine Jp.y 4 rfl (qaa rfl) rfl rfl Kp.true (Y.assign rfl rfl) ?_
  refine Jp.qae hK19 ?_
  refine Cd.seq fun K20 hK20=>?_
  refine Cd.qac [(0,false),(1,false),(2,false),(3,false),(4,false),(5,false)] rfl rfl ?_
  refine Jp.y 11 rfl (qaa rfl) rfl rfl Kp.true (Y.move rfl rfl) ?_
  refine Jp.y 12 rfl (qaa rfl) rfl rfl Kp.true (Y.lss rfl rfl rfl) ?_
  refine Jp.y 13 rfl (qaa rfl) rfl rfl Kp.true (Y.move rfl rfl) ?_
  refine Jp.split 13 rfl (fun g13=>?_) (fun g13=>?_)
  ·skip
   try simp only [sG0] at g13
   exfalso
   omega
  try simp only [sG0] at g13
  refine Jp.y 14 rfl (qab rfl rfl rfl rfl) rfl rfl Kp.true (Y.move rfl rfl) ?_
  refine Jp.y 15 rfl (qab rfl rfl rfl rfl) rfl rfl Kp.true (Y.gtr rfl rfl rfl) ?_
  refine Jp.y 16 rfl (qaa rfl) rfl rfl Kp.true (Y.qao rfl rfl rfl) ?_
  refine Jp.qae hK20 ?_
  refine Cd.qal rfl (fun g16=>?_) (fun g16=>?_)
  ·skip
   try simp only [sG0] at g16
   exfalso
   omega
  try simp only [sG0] at g16
  refine Cd.over rfl hK18 ?_
  refine Cd.qac [(0,false),(1,false)] rfl rfl ?_
  refine Jp.y 17 rfl (qaa rfl) rfl rfl Kp.true (Y.qbx rfl rfl rfl (by exact qag (by omega) (by omega))) ?_
  refine Jp.y 7 rfl (qaa rfl) rfl rfl Kp.true (Y.move rfl rfl) ?_
  rw [show (g : Int) + 1 = ((g + 1 : Nat) : Int) by omega]
  refine Jp.again hLa (g + 1) hi (by omega) rfl ⟨rfl,rfl,rfl,trivial⟩ trivial
 ·skip
  refine Cd.exit rfl hK14 ?_
  refine Cd.seq fun K21 hK21=>?_
  refine Cd.qac [(0,false)] rfl rfl ?_
  refine Jp.y 2 rfl (qaa rfl) rfl rfl Kp.true (Y.assign rfl rfl) ?_
  refine Jp.qae hK21 ?_
  refine Cd.ret [] rfl (qba rfl rfl) trivial ⟨rfl,rfl,rfl⟩
def encW (i : InsP) : Nat:=if 46 ≤ i.op then wholeP i.op else
 placeP ((qdv i.op).1 : Int) 0 ||| placeP (i.rd : Int) 7 ||| placeP ((qdv i.op).2.1 : Int) 12 ||| placeP (i.r1 : Int) 15 ||| placeP (i.r2 : Int) 20 ||| placeP ((qdv i.op).2.2 : Int) 25 ||| bitsP i.op i.imm
theorem bitsP_lt (op : Nat) (v : Int) : bitsP op v < 4294967296:=by
 have h1:=qaj
 unfold bitsP
 repeat' split
 all_goals first | exact qeo (qeo (qeo (h1 _ _) (h1 _ _)) (h1 _ _)) (h1 _ _) | exact qeo (h1 _ _) (h1 _ _) | exact h1 _ _ | exact Nat.lt_of_le_of_lt (Nat.sub_le ..) (qdl _) | exact Nat.zero_lt_succ _
theorem encW_lt (i : InsP) : encW i < 4294967296:=by
 have h1:=qaj
 unfold encW
 split
 ·unfold wholeP
  repeat' split
  all_goals exact of_decide_eq_true rfl
 ·exact qeo (qeo (qeo (qeo (qeo (qeo (h1 _ _) (h1 _ _)) (h1 _ _)) (h1 _ _)) (h1 _ _)) (h1 _ _)) (bitsP_lt _ _)
def encP (i : InsP) : Nat × Int:=if insEq (decP (encW i)) i = true then (encW i,0) else (0,1)
theorem or7_u {a b c d e f g : Nat} (ha : a < 4294967296) (hb : b < 4294967296) (hc : c < 4294967296) (hd : d < 4294967296) (he : e < 4294967296) (hf : f < 4294967296) (hg : g < 4294967296) :
  qbu .or .u32 (qbu .or .u32 (qbu .or .u32 (qbu .or .u32 (qbu .or .u32 (qbu .or .u32 (a : Int) b) c) d) e) f) g = ((a ||| b ||| c ||| d ||| e ||| f ||| g : Nat) : Int):=by
 have h2:=qeo ha hb
 have h3:=qeo h2 hc
 have h4:=qeo h3 hd
 have h5:=qeo h4 he
 rw [qas ha hb,qas h2 hc,qas h3 hd,qas h4 he,qas h5 hf,qas (qeo h5 hf) hg]
section
attribute [local irreducible] qbu IntKind.wrap u32
theorem encode_spec (i : InsP) (hi : InsOk i) (hop : 1 ≤ i.op) : Spec Tryz.prog 34 #[.agg i.cells.toArray] (fun _=>True) [] (fun ρ ρ' v L=>ρ' = ρ ∧ v = .tuple #[.int .u32 ((encP i).1 : Int),.int .i64 (encP i).2] ∧ L = []):=by
 obtain ⟨D,hD⟩ : ∃ D,encP i = D:=⟨_,rfl⟩
 rw [hD]
 unfold encP at hD
 have hW : encW i = if 46 ≤ i.op then wholeP i.op else
  placeP ((qdv i.op).1 : Int) 0 ||| placeP (i.rd : Int) 7 ||| placeP ((qdv i.op).2.1 : Int) 12 ||| placeP (i.r1 : Int) 15 ||| placeP (i.r2 : Int) 20 ||| placeP ((qdv i.op).2.2 : Int) 25 ||| bitsP i.op i.imm:=rfl
 have hWl:=encW_lt i
 obtain ⟨W,hWe⟩ : ∃ W,encW i = W:=⟨_,rfl⟩
 rw [hWe] at hD hW hWl
 have hDec:=decode_spec W hWl
 have hCmp:=fun w=>ins_eq (decP W) i w
 obtain ⟨j,hj⟩ : ∃ j,decP W = j:=⟨_,rfl⟩
 rw [hj] at hD hDec hCmp
 obtain ⟨op,rd,r1,r2,imm⟩:=i
 have hop50 : op < 50:=hi.op
 have himm:=hi.imm
 dsimp only at hW hop himm
 have hcode:=code_spec op
 have hrd:=hi.rd
 have hr1:=hi.r1
 have hr2:=hi.r2
 dsimp only at hrd hr1 hr2
 refine Spec.of 74 Tryz.func34 rfl Tryz.ntmps34 [(0,_)] rfl rfl ?_
 intro cx ρ hr h0
 refine Cd.seq fun K22 hK22=>?_
 refine Cd.qac [(0,false),(1,false),(2,false)] rfl rfl ?_
 refine Jp.box 1 1 rfl (qaa rfl) rfl rfl rfl rfl fun b1=>⟨Kp.true,?_⟩
 refine Jp.y 2 rfl (qaa rfl) rfl rfl Kp.true (Y.assign rfl rfl) ?_
 refine Jp.y 3 rfl (qaa rfl) rfl rfl Kp.true (Y.assign rfl rfl) ?_
 refine Jp.qae hK22 ?_
 refine Cd.seq fun K23 hK23=>?_
 refine Cd.qac [(0,false),(1,false),(2,false),(3,false),(4,false),(5,false),(6,false),(7,false)] rfl rfl ?_
 refine Jp.y 10 rfl (qaa rfl) rfl rfl Kp.true (by exact Y.qad rfl rfl underlying34 rfl sizeOf3 (by decide) (show _ + 0 = _ from rfl)) ?_
 refine Jp.y 11 rfl (qaa rfl) rfl rfl Kp.true (by exact Y.qaq 1 rfl isAgg3 rfl rfl rfl) ?_
 refine Jp.call [] [] (whole_spec op hop50) 12 rfl (qaa rfl) rfl rfl (Runs.fn rfl call61 rfl) (by decide) (by decide) rfl trivial ?_
 rintro v1 ρ1 L1 ⟨rfl,rfl,rfl⟩
 refine ⟨rfl,fun hle1=>⟨Kp.true,?_⟩⟩
 refine Jp.y 9 rfl (qaa rfl) rfl rfl Kp.true (Y.move rfl rfl) ?_
 refine Jp.y 13 rfl (qaa rfl) rfl rfl Kp.true (Y.extract rfl rfl rfl) ?_
 refine Jp.y 14 rfl (qaa rfl) rfl rfl Kp.true (Y.extract rfl rfl rfl) ?_
 refine Jp.y 4 rfl (qaa rfl) rfl rfl Kp.true (Y.assign rfl rfl) ?_
 refine Jp.y 5 rfl (qaa rfl) rfl rfl Kp.true (Y.assign rfl rfl) ?_
 refine Jp.qae hK23 ?_
 refine Cd.seq fun K24 hK24=>?_
 refine Cd.seq fun K25 hK25=>?_
 refine Cd.qac [(0,false),(1,false)] rfl rfl ?_
 refine Jp.y 15 rfl (qaa rfl) rfl rfl Kp.true (Y.move rfl rfl) ?_
 refine Jp.y 16 rfl (qaa rfl) rfl rfl Kp.true (Y.not rfl rfl) ?_
 refine Jp.qae hK25 ?_
 refine Cd.joinG (G:=Unit) (fun _=>True) (fun _=>[(4,.int .u32 (W : Int))]) [(1,_)] ⟨rfl,trivial⟩ (fun _=>[]) [(1,_)] ⟨rfl,trivial⟩ hK24 (fun g hφ=>?_) (fun hj1=>?_)
 ·clear hφ
  refine Cd.seq fun K26 hK26=>?_
  refine Cd.seq fun K27 hK27=>?_
  refine Cd.drawn [(1,_)] ⟨rfl,trivial⟩ [(0,true),(2,true),(1,false),(3,true)] follows (by kernel_rfl) (fun hrl=>?_)
  refine Jp.q 69 rfl (qaa rfl) rfl rfl (Y.move rfl rfl) ?_
  refine Jp.q 71 rfl (qaa rfl) rfl rfl (by exact Y.qai 1 rfl isAgg34 sizeOf34 rfl rfl rfl) ?_
  refine Jp.call [] [] hDec 70 rfl (qaa rfl) rfl rfl (Runs.fn rfl call21 rfl) (by decide) (by decide) rfl trivial ?_
  rintro v20 ρ20 L20 ⟨rfl,rfl,rfl⟩
  refine ⟨rfl,fun hle20=>⟨(Kp.st ⟨rfl,trivial⟩),?_⟩⟩
  refine Jp.q 72 rfl (qaa rfl) rfl rfl (Y.neqS (xs:=j.cells.toArray) (ys:=(InsP.mk op rd r1 r2 imm).cells.toArray) (r:=insEq j ⟨op,rd,r1,r2,imm⟩) rfl rfl rfl ins_guard ins_fields ins_stood hCmp) ?_
  refine Jp.qae hK27 ?_
  refine Cd.qal rfl (fun gz=>?_) (fun gz=>?_)
  ·rw [if_neg (by simpa using gz)] at hD
   refine Cd.seq fun K29 hK29=>?_
   refine Cd.qac [(0,false),(1,false)] rfl rfl ?_
   refine Jp.y 2 rfl (qaa rfl) rfl rfl Kp.true (Y.assign rfl rfl) ?_
   refine Jp.y 3 rfl (qaa rfl) rfl rfl Kp.true (Y.assign rfl rfl) ?_
   refine Jp.qae hK29 ?_
   refine Cd.ret [] rfl (qbd rfl rfl rfl) trivial ⟨rfl,by rw [← hD] <;> rfl,rfl⟩
  ·rw [if_pos (by simpa using gz)] at hD
   refine Cd.qbi hK26 ?_
   refine Cd.seq fun K30 hK30=>?_
   refine Cd.qac [(0,false),(1,false),(2,false)] rfl rfl ?_
   refine Jp.y 73 rfl (qaa rfl) rfl rfl Kp.true (Y.move rfl rfl) ?_
   refine Jp.y 2 rfl (qaa rfl) rfl rfl Kp.true (Y.assign rfl rfl) ?_
   refine Jp.y 3 rfl (qaa rfl) rfl rfl Kp.true (Y.assign rfl rfl) ?_
   refine Jp.qae hK30 ?_
   refine Cd.ret [] rfl (qbd rfl rfl rfl) trivial ⟨rfl,by rw [← hD] <;> rfl,rfl⟩
 ·skip
  refine Cd.qal rfl (fun ga=>?_) (fun ga=>?_)
  ·have h46 : ¬ 46 ≤ op:=by simp at ga; omega
   rw [if_neg h46] at hW
   have hcode:=hcode ⟨hop,by omega⟩
   unfold codeV at hcode
   refine Cd.seq fun K31 hK31=>?_
   refine Cd.seq fun K32 hK32=>?_
   refine Cd.qac [(0,false),(1,false),(2,false),(3,false),(4,false),(5,false),(6,false),(7,false),(8,false),(9,false),(10,false),(11,false),(12,false),(13,false),(14,false),(15,false),(16,false),(17,false),(18,false)] rfl rfl ?_
   refine Jp.y 17 rfl (qaa rfl) rfl rfl Kp.true (by exact Y.qad rfl rfl underlying34 rfl sizeOf3 (by decide) (show _ + 0 = _ from rfl)) ?_
   refine Jp.y 18 rfl (qaa rfl) rfl rfl Kp.true (by exact Y.qaq 1 rfl isAgg3 rfl rfl rfl) ?_
   refine Jp.y 19 rfl (qaa rfl) rfl rfl Kp.true (Y.lss rfl rfl rfl) ?_
   refine Jp.slot 19 rfl (show _ = Value.bool false from congrArg Value.bool (decide_eq_false (by dsimp only; omega))) ?_
   refine Jp.y 20 rfl (qaa rfl) rfl rfl Kp.true (Y.move rfl rfl) ?_
   refine Jp.y 21 rfl (qab rfl rfl rfl rfl) rfl rfl Kp.true (by exact Y.qad rfl rfl underlying34 rfl sizeOf3 (by decide) (show _ + 0 = _ from rfl)) ?_
   refine Jp.y 22 rfl (qab rfl rfl rfl rfl) rfl rfl Kp.true (by exact Y.qaq 1 rfl isAgg3 rfl rfl rfl) ?_
   refine Jp.y 23 rfl (qab rfl rfl rfl rfl) rfl rfl Kp.true (Y.gtr rfl rfl rfl) ?_
   refine Jp.slot 23 rfl (show _ = Value.bool false from congrArg Value.bool (decide_eq_false (by dsimp only; omega))) ?_
   refine Jp.y 24 rfl (qaa rfl) rfl rfl Kp.true (Y.qao rfl rfl rfl) ?_
   refine Jp.y 25 rfl (qaa rfl) rfl rfl Kp.true (Y.move rfl rfl) ?_
   refine Jp.y 26 rfl (qab rfl rfl rfl rfl) rfl rfl Kp.true (by exact Y.qad rfl rfl underlying34 rfl sizeOf3 (by decide) (show _ + 1 = _ from rfl)) ?_
   refine Jp.y 27 rfl (qab rfl rfl rfl rfl) rfl rfl Kp.true (by exact Y.qaq 1 rfl isAgg3 rfl rfl rfl) ?_
   refine Jp.y 28 rfl (qab rfl rfl rfl rfl) rfl rfl Kp.true (by exact Y.qad rfl rfl underlying34 rfl sizeOf3 (by decide) (show _ + 2 = _ from rfl)) ?_
   refine Jp.y 29 rfl (qab rfl rfl rfl rfl) rfl rfl Kp.true (by exact Y.qaq 1 rfl isAgg3 rfl rfl rfl) ?_
   refine Jp.y 30 rfl (qab rfl rfl rfl rfl) rfl rfl Kp.true (by exact Y.qad rfl rfl underlying34 rfl sizeOf3 (by decide) (show _ + 3 = _ from rfl)) ?_
   refine Jp.y 31 rfl (qab rfl rfl rfl rfl) rfl rfl Kp.true (by exact Y.qaq 1 rfl isAgg3 rfl rfl rfl) ?_
   refine Jp.lit 32 9 [(0,_),(1,_),(2,_)] [_,_,_] rfl (qab rfl rfl rfl rfl) rfl rfl rfl rfl underlying76 sizeOf3 zeroValue3 rfl rfl rfl rfl rfl fun b9=>⟨Kp.true,?_⟩
   refine Jp.freeze (i:=9) rfl (OwnS.up _ _ _ _ _ _) fun ρ9 hle9 hA9=>?_
   refine Jp.call [] [] (regs_spec (some ⟨b9,0,none⟩) 3 [(rd : Int),(r1 : Int),(r2 : Int)] (by intro x hx; simp at hx; omega) (Nat.le_of_ble_eq_true rfl)) 33 rfl (qab rfl rfl rfl rfl) rfl rfl (Runs.fn rfl call62 rfl) (by decide) (by decide) rfl hA9.rd ?_
   rintro v2 ρ2 L2 ⟨rfl,rfl,rfl⟩
   refine ⟨rfl,fun hle2=>⟨Kp.true,?_⟩⟩
   refine Jp.y 34 rfl (qab rfl rfl rfl rfl) rfl rfl Kp.true (Y.not rfl rfl) ?_
   refine Jp.y 35 rfl (qaa rfl) rfl rfl Kp.true (Y.qao rfl rfl rfl) ?_
   refine Jp.qae hK32 ?_
   refine Cd.qal rfl (fun gb=>?_) (fun gb=>?_)
   ·exact absurd gb (by simp)
   ·skip
    refine Cd.qbi hK31 ?_
    refine Cd.seq fun K33 hK33=>?_
    refine Cd.qac [(0,false),(1,false),(2,false),(3,false),(4,false),(5,false),(6,false),(7,false),(8,false),(9,false)] rfl rfl ?_
    refine Jp.y 37 rfl (qaa rfl) rfl rfl Kp.true (by exact Y.qad rfl rfl underlying34 rfl sizeOf3 (by decide) (show _ + 0 = _ from rfl)) ?_
    refine Jp.y 38 rfl (qaa rfl) rfl rfl Kp.true (by exact Y.qaq 1 rfl isAgg3 rfl rfl rfl) ?_
    refine Jp.call [] [] hcode 39 rfl (qaa rfl) rfl rfl (Runs.fn rfl call63 rfl) (by decide) (by decide) rfl trivial ?_
    rintro v3 ρ3 L3 ⟨rfl,rfl,rfl⟩
    refine ⟨rfl,fun hle3=>⟨Kp.true,?_⟩⟩
    refine Jp.y 36 rfl (qaa rfl) rfl rfl Kp.true (Y.move rfl rfl) ?_
    refine Jp.y 40 rfl (qaa rfl) rfl rfl Kp.true (Y.extract rfl rfl rfl) ?_
    refine Jp.y 41 rfl (qaa rfl) rfl rfl Kp.true (Y.extract rfl rfl rfl) ?_
    refine Jp.y 42 rfl (qaa rfl) rfl rfl Kp.true (Y.extract rfl rfl rfl) ?_
    refine Jp.y 6 rfl (qaa rfl) rfl rfl Kp.true (Y.assign rfl rfl) ?_
    refine Jp.y 7 rfl (qaa rfl) rfl rfl Kp.true (Y.assign rfl rfl) ?_
    refine Jp.y 8 rfl (qaa rfl) rfl rfl Kp.true (Y.assign rfl rfl) ?_
    refine Jp.qae hK33 ?_
    refine Cd.drawn [(1,_)] ⟨rfl,trivial⟩ [(0,true),(2,true),(3,true),(6,true),(9,true),(10,true),(13,true),(14,true),(17,true),(20,true),(21,true),(22,true),(23,true),(1,false),(4,false),(5,true),(7,false),(8,true),(11,false),(12,true),(15,false),(16,true),(18,false),(19,true),(24,false),(25,true),(26,true)] follows (by kernel_rfl) (fun hrl=>?_)
    refine Jp.q 43 rfl (qaa rfl) rfl rfl (Y.move rfl rfl) ?_
    refine Jp.q 45 rfl (qaa rfl) rfl rfl (by exact Y.qad rfl rfl underlying34 rfl sizeOf3 (by decide) (show _ + 1 = _ from rfl)) ?_
    refine Jp.q 46 rfl (qaa rfl) rfl rfl (by exact Y.qaq 1 rfl isAgg3 rfl rfl rfl) ?_
    refine Jp.q 49 rfl (qaa rfl) rfl rfl (Y.move rfl rfl) ?_
    refine Jp.q 52 rfl (qaa rfl) rfl rfl (by exact Y.qad rfl rfl underlying34 rfl sizeOf3 (by decide) (show _ + 2 = _ from rfl)) ?_
    refine Jp.q 53 rfl (qaa rfl) rfl rfl (by exact Y.qaq 1 rfl isAgg3 rfl rfl rfl) ?_
    refine Jp.q 56 rfl (qaa rfl) rfl rfl (by exact Y.qad rfl rfl underlying34 rfl sizeOf3 (by decide) (show _ + 3 = _ from rfl)) ?_
    refine Jp.q 57 rfl (qaa rfl) rfl rfl (by exact Y.qaq 1 rfl isAgg3 rfl rfl rfl) ?_
    refine Jp.q 60 rfl (qaa rfl) rfl rfl (Y.move rfl rfl) ?_
    refine Jp.q 63 rfl (qaa rfl) rfl rfl (by exact Y.qad rfl rfl underlying34 rfl sizeOf3 (by decide) (show _ + 0 = _ from rfl)) ?_
    refine Jp.q 64 rfl (qaa rfl) rfl rfl (by exact Y.qaq 1 rfl isAgg3 rfl rfl rfl) ?_
    refine Jp.q 65 rfl (qaa rfl) rfl rfl (by exact Y.qad rfl rfl underlying34 rfl sizeOf21 (by decide) (show _ + 4 = _ from rfl)) ?_
    refine Jp.q 66 rfl (qaa rfl) rfl rfl (by exact Y.qaq 1 rfl isAgg21 rfl rfl rfl) ?_
    refine Jp.call [] [] (qaw _ _ (by decide)) 44 rfl (qaa rfl) rfl rfl (Runs.fn rfl call64 rfl) (by decide) (by decide) rfl trivial ?_
    rintro v101 ρ101 L101 ⟨rfl,rfl,rfl⟩
    refine ⟨rfl,fun hle101=>⟨(Kp.st ⟨rfl,trivial⟩),?_⟩⟩
    refine Jp.call [] [] (qaw _ _ (by decide)) 47 rfl (qaa rfl) rfl rfl (Runs.fn rfl call64 rfl) (by decide) (by decide) rfl trivial ?_
    rintro v102 ρ102 L102 ⟨rfl,rfl,rfl⟩
    refine ⟨rfl,fun hle102=>⟨(Kp.st ⟨rfl,trivial⟩),?_⟩⟩
    refine Jp.q 48 rfl (qaa rfl) rfl rfl (Y.bits rfl rfl rfl rfl) ?_
    refine Jp.call [] [] (qaw _ _ (by decide)) 50 rfl (qaa rfl) rfl rfl (Runs.fn rfl call64 rfl) (by decide) (by decide) rfl trivial ?_
    rintro v103 ρ103 L103 ⟨rfl,rfl,rfl⟩
    refine ⟨rfl,fun hle103=>⟨(Kp.st ⟨rfl,trivial⟩),?_⟩⟩
    refine Jp.q 51 rfl (qaa rfl) rfl rfl (Y.bits rfl rfl rfl rfl) ?_
    refine Jp.call [] [] (qaw _ _ (by decide)) 54 rfl (qaa rfl) rfl rfl (Runs.fn rfl call64 rfl) (by decide) (by decide) rfl trivial ?_
    rintro v104 ρ104 L104 ⟨rfl,rfl,rfl⟩
    refine ⟨rfl,fun hle104=>⟨(Kp.st ⟨rfl,trivial⟩),?_⟩⟩
    refine Jp.q 55 rfl (qaa rfl) rfl rfl (Y.bits rfl rfl rfl rfl) ?_
    refine Jp.call [] [] (qaw _ _ (by decide)) 58 rfl (qaa rfl) rfl rfl (Runs.fn rfl call64 rfl) (by decide) (by decide) rfl trivial ?_
    rintro v105 ρ105 L105 ⟨rfl,rfl,rfl⟩
    refine ⟨rfl,fun hle105=>⟨(Kp.st ⟨rfl,trivial⟩),?_⟩⟩
    refine Jp.q 59 rfl (qaa rfl) rfl rfl (Y.bits rfl rfl rfl rfl) ?_
    refine Jp.call [] [] (qaw _ _ (by decide)) 61 rfl (qaa rfl) rfl rfl (Runs.fn rfl call64 rfl) (by decide) (by decide) rfl trivial ?_
    rintro v106 ρ106 L106 ⟨rfl,rfl,rfl⟩
    refine ⟨rfl,fun hle106=>⟨(Kp.st ⟨rfl,trivial⟩),?_⟩⟩
    refine Jp.q 62 rfl (qaa rfl) rfl rfl (Y.bits rfl rfl rfl rfl) ?_
    refine Jp.call [] [] (bits_spec op imm himm) 67 rfl (qaa rfl) rfl rfl (Runs.fn rfl call65 rfl) (by decide) (by decide) rfl trivial ?_
    rintro v107 ρ107 L107 ⟨rfl,rfl,rfl⟩
    refine ⟨rfl,fun hle107=>⟨(Kp.st ⟨rfl,trivial⟩),?_⟩⟩
    refine Jp.q 68 rfl (qaa rfl) rfl rfl (Y.bits rfl rfl rfl rfl) ?_
    refine Jp.q 4 rfl (qaa rfl) rfl rfl (Y.assign rfl rfl) ?_
    refine Jp.qae hK24 ?_
    refine Cd.slot 4 rfl (show _ = Value.int .u32 (W : Int) from congrArg (Value.int .u32) ((or7_u (qaj _ _) (qaj _ _) (qaj _ _) (qaj _ _) (qaj _ _) (qaj _ _) (bitsP_lt _ _)).trans (congrArg Int.ofNat hW.symm))) ?_
    exact Cd.meet' (hj1 () trivial) hle9 (by rw [h0]; exact Hp.le_refl _) ⟨rfl,rfl,trivial⟩ ⟨rfl,trivial⟩
  ·have h46 : 46 ≤ op:=by simp at ga; omega
   rw [if_pos h46] at hW
   refine Cd.qbi hK24 ?_
   rw [← hW]
   exact Cd.qdz (hj1 () trivial) ⟨rfl,rfl,trivial⟩ ⟨rfl,trivial⟩
end
end Go.Proofs.YthjelpbaljapiaaGreat

namespace Go.Proofs.YthjelpbaljapiaaGreat
open _root_.Go.Proofs.Tryz
open Go
def madeD (xs : List Int) (bs : qbt) : MemG:=(qde (qde map3 4096 (qcz (xs.take 64)) 65536 0).2 65536 (bs.take 512) 65536 0).2
theorem RdB.takeN {A : Option Addr} {c : Nat} {xs : qbt} {ρ : Hp} (h : RdB ⟨A,c,xs⟩ ρ) {n : Nat} (hn : n ≤ xs.length) : RdB ⟨A,c,xs.take n⟩ ρ:=by
 have h5:=RdS.take (l:=n) h (show n ≤ xs.length from hn)
 rw [Nat.mul_one] at h5
 have h6 : (qbf xs).take n = qbf (xs.take n):=by simp [qbf]
 show RdS 1 _ (xs.take n).length _ _ _
 rw [show (xs.take n).length = n by rw [List.length_take]; omega,← h6]; exact h5
theorem made12_spec (A : Option Addr) (c : Nat) (xs : List Int) (dA : Option Addr) (dc : Nat) (bs : qbt) (hxs : ∀ x ∈ xs,∃ m : Nat,x = m ∧ m < 4294967296) : Spec Tryz.prog 5 #[.slice A xs.length c,.slice dA bs.length dc] (fun h=>RdI .u32 ⟨A,c,xs⟩ h ∧ RdB ⟨dA,dc,bs⟩ h) []
  (fun ρ ρ' v L=>∃ b,v = .pointer (some ⟨b,0,none⟩) ∧ L = [(0,qeg b (madeD xs bs))]):=by
 refine Spec.of 60 Tryz.func5 rfl Tryz.ntmps5 [(0,_),(1,_)] rfl rfl ?_
 intro cx ρ hr0 h0
 obtain ⟨hr,hrd⟩:=hr0
 have lx : xs.length ≤ 281474976710656:=hr.2.1.2
 have hcap : bs.length ≤ dc ∧ bs.length ≤ 281474976710656:=hrd.2.1
 refine Cd.seq fun K1 hK1=>?_
 refine Cd.qac [(0,false)] rfl rfl ?_
 refine Jp.y 4 rfl (qaa rfl) rfl rfl Kp.true (Y.assign rfl rfl) ?_
 refine Jp.qae hK1 ?_
 refine Cd.seq fun K2 hK2=>?_
 refine Cd.qac [(0,false),(1,false),(2,false),(3,false),(4,false),(5,false)] rfl rfl ?_
 refine Jp.call [] [0] (new_yes 50 (by omega)) 11 rfl (qaa rfl) rfl rfl (Runs.fn rfl call15 rfl) (by decide) (by decide) rfl trivial ?_
 rintro v1 ρ1 L1 ⟨rfl,b,rfl,rfl⟩
 refine ⟨rfl,fun hle1=>⟨Kp.true,?_⟩⟩
 refine Jp.y 10 rfl (qaa rfl) rfl rfl Kp.true (Y.move rfl rfl) ?_
 refine Jp.y 12 rfl (qaa rfl) rfl rfl Kp.true (Y.extract rfl rfl rfl) ?_
 refine Jp.y 13 rfl (qaa rfl) rfl rfl Kp.true (Y.extract rfl rfl rfl) ?_
 refine Jp.y 5 rfl (qaa rfl) rfl rfl Kp.true (Y.assign rfl rfl) ?_
 refine Jp.y 6 rfl (qaa rfl) rfl rfl Kp.true (Y.assign rfl rfl) ?_
 refine Jp.qae hK2 ?_
 refine Cd.seq fun K3 hK3=>?_
 refine Cd.qac [(0,false),(1,false)] rfl rfl ?_
 refine Jp.y 14 rfl (qaa rfl) rfl rfl Kp.true (Y.move rfl rfl) ?_
 refine Jp.call [0] [0] (map_spec b (newM 50) 4096 256 5 (by omega) (by omega)) 15 rfl (qaa rfl) rfl rfl (Runs.fn rfl call16 rfl) (by decide) (by decide) rfl trivial ?_
 rintro v2 ρ2 L2 ⟨rfl,rfl,rfl⟩
 refine ⟨rfl,fun hle2=>⟨Kp.true,?_⟩⟩
 refine Jp.qae hK3 ?_
 refine Cd.seq fun K4 hK4=>?_
 refine Cd.qac [(0,false),(1,false)] rfl rfl ?_
 refine Jp.y 16 rfl (qaa rfl) rfl rfl Kp.true (Y.move rfl rfl) ?_
 refine Jp.call [0] [0] (map_spec b (mapM (newM 50) 4096 256 5).2 65536 256 3 (by omega) (by omega)) 17 rfl (qaa rfl) rfl rfl (Runs.fn rfl call16 rfl) (by decide) (by decide) rfl trivial ?_
 rintro v3 ρ3 L3 ⟨rfl,rfl,rfl⟩
 refine ⟨rfl,fun hle3=>⟨Kp.true,?_⟩⟩
 refine Jp.qae hK4 ?_
 refine Cd.seq fun K5 hK5=>?_
 refine Cd.qac [(0,false),(1,false)] rfl rfl ?_
 refine Jp.y 18 rfl (qaa rfl) rfl rfl Kp.true (Y.move rfl rfl) ?_
 refine Jp.call [0] [0] (map_spec b (mapM (mapM (newM 50) 4096 256 5).2 65536 256 3).2 65792 256 1 (by omega) (by omega)) 19 rfl (qaa rfl) rfl rfl (Runs.fn rfl call16 rfl) (by decide) (by decide) rfl trivial ?_
 rintro v4 ρ4 L4 ⟨rfl,rfl,rfl⟩
 refine ⟨rfl,fun hle4=>⟨Kp.true,?_⟩⟩
 refine Jp.imp (j:=0) rfl (fun h hh=>(show qeg b map3 h from hh)) ?_
 obtain ⟨M3,hM3⟩ : ∃ M,map3 = M:=⟨_,rfl⟩
 have hmade : madeD xs bs = (qde (qde M3 4096 (qcz (xs.take 64)) 65536 0).2 65536 (bs.take 512) 65536 0).2:=by rw [← hM3]; rfl
 rw [hM3]
 clear hM3
 refine Jp.qae hK5 ?_
 refine Cd.seq fun K6 hK6=>?_
 refine Cd.qac [(0,false)] rfl rfl ?_
 refine Jp.y 7 rfl (qaa rfl) rfl rfl Kp.true (Y.assign rfl rfl) ?_
 refine Jp.qae hK6 ?_
 refine Cd.seq fun K7 hK7=>?_
 refine Cd.seq fun K8 hK8=>?_
 refine Cd.qac [(0,false)] rfl rfl ?_
 refine Jp.y 8 rfl (qaa rfl) rfl rfl Kp.true (Y.assign rfl rfl) ?_
 refine Jp.qae hK8 ?_
 refine Cd.block ?_
 refine Cd.make 1 (A:=OwnS 5 1 none 0 0 (qbf (qcz (xs.take 0)))) (OwnS.nil _ _ _) ?_
 refine Cd.joinG (G:=Option Addr × Nat) (fun _=>True) (fun g=>[(7,.slice g.1 (qcz (xs.take 64)).length g.2)]) [(1,_),(5,_)] ⟨rfl,rfl,trivial⟩ (fun g=>[(1,OwnS 5 1 g.1 (qcz (xs.take 64)).length g.2 (qbf (qcz (xs.take 64))))]) [(0,_)] ⟨rfl,trivial⟩ hK7 (fun g hφ=>?_) (fun hj1=>?_)
 ·obtain ⟨B,d⟩:=g
  clear hφ
  dsimp only
  have hlw:=wordsB_len (xs.take 64)
  have hlt : (xs.take 64).length ≤ 64:=by rw [List.length_take]; omega
  refine Cd.freeze (i:=1) rfl (OwnS.up _ _ _ _ _ _) fun ρ7 hle7 hA7=>?_
  have hrd:=RdS.up _ _ _ _ _ _ _ hle7 hrd
  refine Cd.seq fun K9 hK9=>?_
  refine Cd.qac [(0,false),(1,false),(2,false)] rfl rfl ?_
  refine Jp.y 48 rfl (qaa rfl) rfl rfl Kp.true (Y.move rfl rfl) ?_
  refine Jp.y 49 rfl (qaa rfl) rfl rfl Kp.true (Y.move rfl rfl) ?_
  refine Jp.call [0] [0] (Poke_spec b M3 4096 ⟨B,d,qcz (xs.take 64)⟩ (by omega)) 50 rfl (qaa rfl) rfl rfl (Runs.fn rfl call17 rfl) (by decide) (by decide) rfl hA7.rd ?_
  rintro v5 ρ5 L5 ⟨rfl,rfl,rfl⟩
  refine ⟨rfl,fun hle5=>⟨Kp.true,?_⟩⟩
  refine Jp.qae hK9 ?_
  refine Cd.seq fun K10 hK10=>?_
  refine Cd.seq fun K11 hK11=>?_
  refine Cd.qac [(0,false),(1,false),(2,false)] rfl rfl ?_
  refine Jp.y 51 rfl (qaa rfl) rfl rfl Kp.true (Y.move rfl rfl) ?_
  refine Jp.y 52 rfl (qaa rfl) rfl rfl Kp.true (Y.qcd rfl underlying23 rfl) ?_
  refine Jp.y 53 rfl (qaa rfl) rfl rfl Kp.true (Y.gtr rfl rfl rfl) ?_
  refine Jp.qae hK11 ?_
  refine Cd.qal rfl (fun gx=>?_) (fun gx=>?_)
  ·have hbl : 512 < bs.length:=by simp at gx; omega
   have hcl : (bs.take 512).length = 512:=by rw [List.length_take]; omega
   refine Cd.qac [(0,false),(1,false),(2,false)] rfl rfl ?_
   refine Jp.y 54 rfl (qaa rfl) rfl rfl Kp.true (Y.move rfl rfl) ?_
   refine Jp.y 55 rfl (qaa rfl) rfl rfl Kp.true (Y.sliceTo (hi:=512) rfl rfl rfl underlying23 sizeOf5 (by omega) (by omega)) ?_
   refine Jp.y 1 rfl (qaa rfl) rfl rfl Kp.true (Y.assign rfl rfl) ?_
   refine Jp.qae hK10 ?_
   refine Cd.seq fun K12 hK12=>?_
   refine Cd.qac [(0,false),(1,false),(2,false)] rfl rfl ?_
   refine Jp.y 56 rfl (qaa rfl) rfl rfl Kp.true (Y.move rfl rfl) ?_
   refine Jp.y 57 rfl (qaa rfl) rfl rfl Kp.true (Y.move rfl rfl) ?_
   refine Jp.slot 57 rfl (show _ = Value.slice dA (bs.take 512).length dc by rw [hcl]) ?_
   refine Jp.call [0] [0] (Poke_spec b _ 65536 ⟨dA,dc,bs.take 512⟩ (by omega)) 58 rfl (qaa rfl) rfl rfl (Runs.fn rfl call17 rfl) (by decide) (by decide) rfl (RdB.takeN hrd (by omega)) ?_
   rintro v6 ρ6 L6 ⟨rfl,rfl,rfl⟩
   refine ⟨rfl,fun hle6=>⟨Kp.true,?_⟩⟩
   refine Jp.qae hK12 ?_
   refine Cd.seq fun K13 hK13=>?_
   refine Cd.qac [(0,false),(1,false)] rfl rfl ?_
   refine Jp.y 59 rfl (qaa rfl) rfl rfl Kp.true (Y.move rfl rfl) ?_
   refine Jp.y 4 rfl (qaa rfl) rfl rfl Kp.true (Y.assign rfl rfl) ?_
   refine Jp.qae hK13 ?_
   refine Cd.ret [(0,_)] rfl (qba rfl rfl) ⟨rfl,trivial⟩ ⟨b,rfl,by rw [hmade]⟩
  ·have hbl : bs.take 512 = bs:=List.take_of_length_le (by simp at gx; omega)
   refine Cd.qbi hK10 ?_
   refine Cd.seq fun K14 hK14=>?_
   refine Cd.qac [(0,false),(1,false),(2,false)] rfl rfl ?_
   refine Jp.y 56 rfl (qaa rfl) rfl rfl Kp.true (Y.move rfl rfl) ?_
   refine Jp.y 57 rfl (qaa rfl) rfl rfl Kp.true (Y.move rfl rfl) ?_
   refine Jp.call [0] [0] (Poke_spec b _ 65536 ⟨dA,dc,bs⟩ (by omega)) 58 rfl (qaa rfl) rfl rfl (Runs.fn rfl call17 rfl) (by decide) (by decide) rfl hrd ?_
   rintro v6 ρ6 L6 ⟨rfl,rfl,rfl⟩
   refine ⟨rfl,fun hle6=>⟨Kp.true,?_⟩⟩
   refine Jp.qae hK14 ?_
   refine Cd.seq fun K15 hK15=>?_
   refine Cd.qac [(0,false),(1,false)] rfl rfl ?_
   refine Jp.y 59 rfl (qaa rfl) rfl rfl Kp.true (Y.move rfl rfl) ?_
   refine Jp.y 4 rfl (qaa rfl) rfl rfl Kp.true (Y.assign rfl rfl) ?_
   refine Jp.qae hK15 ?_
   refine Cd.ret [(0,_)] rfl (qba rfl rfl) ⟨rfl,trivial⟩ ⟨b,rfl,by rw [hmade,hbl]⟩
 ·skip
  refine Cd.qdw (G:=Nat × Option Addr × Nat) (fun g=>g.1 ≤ xs.length ∧ g.1 ≤ 64) (fun g=>64 - g.1) (fun _=>_) (fun g=>[(7,.slice g.2.1 (qcz (xs.take g.1)).length g.2.2),(8,.int .i64 (g.1 : Int))]) [(0,_),(1,_),(5,_)] (fun g=>[(1,OwnS 5 1 g.2.1 (qcz (xs.take g.1)).length g.2.2 (qbf (qcz (xs.take g.1))))]) [(0,_)] ⟨0,none,0⟩ ⟨Nat.zero_le _,Nat.zero_le _⟩ rfl ⟨rfl,rfl,trivial⟩ ⟨rfl,rfl,rfl,trivial⟩ ⟨rfl,trivial⟩ ⟨rfl,trivial⟩ (fun g KLa hok hLa=>?_)
  obtain ⟨i,B,d⟩:=g
  obtain ⟨ok1,ok2⟩:=hok
  dsimp only at ok1 ok2 ⊢
  refine Cd.seq fun K16 hK16=>?_
  refine Cd.seq fun K17 hK17=>?_
  refine Cd.qac [(0,false),(1,false),(2,false),(3,false),(4,false),(5,false),(6,false),(7,false)] rfl rfl ?_
  refine Jp.y 20 rfl (qaa rfl) rfl rfl Kp.true (Y.move rfl rfl) ?_
  refine Jp.y 21 rfl (qaa rfl) rfl rfl Kp.true (Y.move rfl rfl) ?_
  refine Jp.y 22 rfl (qaa rfl) rfl rfl Kp.true (Y.qcd rfl underlying22 rfl) ?_
  refine Jp.y 23 rfl (qaa rfl) rfl rfl Kp.true (Y.lss rfl rfl rfl) ?_
  refine Jp.y 24 rfl (qaa rfl) rfl rfl Kp.true (Y.move rfl rfl) ?_
  refine Jp.splitF 24 rfl (fun g24=>?_) (fun g24=>?_)
  ·skip
   simp only [decide_eq_false_iff_not] at g24
   have e : xs.take i = xs.take 64:=by
    rcases (show xs.length ≤ i ∨ i = 64 by omega) with h | h
    ·rw [List.take_of_length_le h,List.take_of_length_le (by omega)]
    ·rw [h]
   rw [e]
   refine Jp.qak 25 rfl (qab rfl rfl rfl rfl) rfl rfl Kp.true ?_
   refine Jp.qak 26 rfl (qab rfl rfl rfl rfl) rfl rfl Kp.true ?_
   refine Jp.y 27 rfl (qaa rfl) rfl rfl Kp.true (Y.qao rfl rfl rfl) ?_
   refine Jp.qae hK17 ?_
   refine Cd.qbg rfl ?_
   refine Cd.exit rfl hK7 ?_
   exact Cd.qdz (hj1 ⟨B,d⟩ trivial) ⟨rfl,rfl,rfl,trivial⟩ ⟨rfl,rfl,trivial⟩
  try simp only [sG0] at g24
  refine Jp.y 25 rfl (qab rfl rfl rfl rfl) rfl rfl Kp.true (Y.move rfl rfl) ?_
  refine Jp.y 26 rfl (qab rfl rfl rfl rfl) rfl rfl Kp.true (Y.lss rfl rfl rfl) ?_
  refine Jp.y 27 rfl (qaa rfl) rfl rfl Kp.true (Y.qat rfl rfl rfl) ?_
  refine Jp.qae hK17 ?_
  refine Cd.condF' rfl (fun g27=>?_) (fun g27=>?_)
  ·skip
   simp only [decide_eq_false_iff_not] at g27
   have e : xs.take i = xs.take 64:=by
    rcases (show xs.length ≤ i ∨ i = 64 by omega) with h | h
    ·rw [List.take_of_length_le h,List.take_of_length_le (by omega)]
    ·rw [h]
   rw [e]
   refine Cd.exit rfl hK7 ?_
   exact Cd.qdz (hj1 ⟨B,d⟩ trivial) ⟨rfl,rfl,rfl,trivial⟩ ⟨rfl,rfl,trivial⟩
  try simp only [sG0] at g27
  refine Cd.qbi hK16 ?_
  refine Cd.seq fun K18 hK18=>?_
  refine Cd.block ?_
  refine Cd.seq fun K19 hK19=>?_
  refine Cd.qac [(0,false),(1,false),(2,false),(3,false),(4,false)] rfl rfl ?_
  refine Jp.y 30 rfl (qaa rfl) rfl rfl Kp.true (Y.move rfl rfl) ?_
  refine Jp.y 31 rfl (qaa rfl) rfl rfl Kp.true (Y.move rfl rfl) ?_
  have hi : i < xs.length:=by omega
  obtain ⟨m,hm,hml⟩:=hxs xs[i] (List.getElem_mem _)
  have hl1:=wordsB_len (xs.take i)
  have hl2:=wordsB_len (xs.take (i + 1))
  rw [List.length_take] at hl1 hl2
  obtain ⟨ad,hA,hc⟩:=hr.2.2 i (.int .u32 m) (by simp [intsV,hi,hm])
  subst hA
  refine Jp.y 32 rfl (qaa rfl) rfl rfl Kp.true (Y.qar (q:=i) rfl rfl rfl underlying22 sizeOf24 (by omega) (by omega) (by omega)) ?_
  refine Jp.y 33 rfl (qaa rfl) rfl rfl Kp.true (Y.loadR rfl isAgg24 rfl hc) ?_
  refine Jp.y 9 rfl (qaa rfl) rfl rfl Kp.true (Y.assign rfl rfl) ?_
  refine Jp.qae hK19 ?_
  refine Cd.qac [(0,false),(1,false),(2,false),(3,false),(4,false),(5,false),(6,false),(7,false),(8,false),(9,false),(10,false),(11,false),(12,false),(13,false),(14,false)] rfl rfl ?_
  refine Jp.y 34 rfl (qaa rfl) rfl rfl Kp.true (Y.move rfl rfl) ?_
  refine Jp.y 35 rfl (qaa rfl) rfl rfl Kp.true (Y.move rfl rfl) ?_
  refine Jp.y 36 rfl (qaa rfl) rfl rfl Kp.true (Y.qap rfl rfl underlying24 underlying5 (conv8 m)) ?_
  refine Jp.y 37 rfl (qaa rfl) rfl rfl Kp.true (Y.move rfl rfl) ?_
  refine Jp.y 38 rfl (qaa rfl) rfl rfl Kp.true (Y.shr rfl rfl rfl (by first | decide | omega)) ?_
  refine Jp.y 39 rfl (qaa rfl) rfl rfl Kp.true (Y.qap rfl rfl underlying24 underlying5 (shr8 m 1 (by omega))) ?_
  refine Jp.y 40 rfl (qaa rfl) rfl rfl Kp.true (Y.move rfl rfl) ?_
  refine Jp.y 41 rfl (qaa rfl) rfl rfl Kp.true (Y.shr rfl rfl rfl (by first | decide | omega)) ?_
  refine Jp.y 42 rfl (qaa rfl) rfl rfl Kp.true (Y.qap rfl rfl underlying24 underlying5 (shr8 m 2 (by omega))) ?_
  refine Jp.y 43 rfl (qaa rfl) rfl rfl Kp.true (Y.move rfl rfl) ?_
  refine Jp.y 44 rfl (qaa rfl) rfl rfl Kp.true (Y.shr rfl rfl rfl (by first | decide | omega)) ?_
  refine Jp.y 45 rfl (qaa rfl) rfl rfl Kp.true (Y.qap rfl rfl underlying24 underlying5 (shr8 m 3 (by omega))) ?_
  refine Jp.lit 46 2 [(0,_),(1,_),(2,_),(3,_)] [_,_,_,_] rfl (qaa rfl) rfl rfl rfl rfl underlying23 sizeOf5 zeroValue5 rfl rfl rfl rfl rfl fun b2=>⟨Kp.true,?_⟩
  refine Jp.append 47 1 rfl (qaa rfl) rfl rfl rfl underlying23 underlying23 (.inl ⟨_,rfl⟩) sizeOf5 Tryz.typeInfo5 zeroValue5 rfl (by decide) rfl rfl rfl (Src.own 2 rfl) rfl ((qcz (xs.take (i + 1))).length) (qbf (qcz (xs.take (i + 1)))) (by first | omega | simp) (by rw [wordsB_snoc hi hm]; exact bytesV_leB _ _) (by simp only [Tryz.t5]; omega) fun A7 c7=>⟨Kp.true,?_⟩
  refine Jp.y 7 rfl (qaa rfl) rfl rfl Kp.true (Y.assign rfl rfl) ?_
  refine Jp.over rfl hK18 ?_
  refine Cd.qac [(0,false),(1,false),(2,false)] rfl rfl ?_
  refine Jp.y 28 rfl (qaa rfl) rfl rfl Kp.true (Y.move rfl rfl) ?_
  refine Jp.y 29 rfl (qaa rfl) rfl rfl Kp.true (Y.qbx rfl rfl rfl (by exact qag (by omega) (by omega))) ?_
  refine Jp.y 8 rfl (qaa rfl) rfl rfl Kp.true (Y.assign rfl rfl) ?_
  rw [show (i : Int) + 1 = ((i + 1 : Nat) : Int) by omega]
  refine Jp.again hLa ⟨i + 1,A7,c7⟩ ⟨hi,by show i + 1 ≤ 64; omega⟩ (by show 64 - (i + 1) < 64 - i; omega) rfl ⟨rfl,rfl,rfl,rfl,rfl,trivial⟩ ⟨rfl,rfl,trivial⟩
theorem word12_spec (i : InsP) (hi : InsOk i) (hop : 1 ≤ i.op) : Spec Tryz.prog 14 #[.agg i.cells.toArray] (fun _=>True) [] (fun ρ ρ' v L=>ρ' = ρ ∧ v = .int .u32 ((encP i).1 : Int) ∧ L = []):=by
 have hE:=encode_spec i hi hop
 obtain ⟨op,rd,r1,r2,imm⟩:=i
 refine Spec.of 11 Tryz.func14 rfl Tryz.ntmps14 [(0,_)] rfl rfl ?_
 intro cx ρ hr' h0
 refine Cd.seq fun K20 hK20=>?_
 refine Cd.qac [(0,false),(1,false)] rfl rfl ?_
 refine Jp.box 1 1 rfl (qaa rfl) rfl rfl rfl rfl fun b1=>⟨Kp.true,?_⟩
 refine Jp.y 2 rfl (qaa rfl) rfl rfl Kp.true (Y.assign rfl rfl) ?_
 refine Jp.qae hK20 ?_
 refine Cd.seq fun K21 hK21=>?_
 refine Cd.qac [(0,false),(1,false),(2,false),(3,false),(4,false),(5,false),(6,false)] rfl rfl ?_
 refine Jp.y 6 rfl (qaa rfl) rfl rfl Kp.true (by exact Y.qai 1 rfl isAgg34 sizeOf34 rfl rfl rfl) ?_
 refine Jp.call [] [] hE 7 rfl (qaa rfl) rfl rfl (Runs.fn rfl call34 rfl) (by decide) (by decide) rfl trivial ?_
 rintro v1 ρ1 L1 ⟨rfl,rfl,rfl⟩
 refine ⟨rfl,fun hle1=>⟨Kp.true,?_⟩⟩
 refine Jp.y 5 rfl (qaa rfl) rfl rfl Kp.true (Y.move rfl rfl) ?_
 refine Jp.y 8 rfl (qaa rfl) rfl rfl Kp.true (Y.extract rfl rfl rfl) ?_
 refine Jp.y 9 rfl (qaa rfl) rfl rfl Kp.true (Y.extract rfl rfl rfl) ?_
 refine Jp.y 3 rfl (qaa rfl) rfl rfl Kp.true (Y.assign rfl rfl) ?_
 refine Jp.y 4 rfl (qaa rfl) rfl rfl Kp.true (Y.assign rfl rfl) ?_
 refine Jp.qae hK21 ?_
 refine Cd.seq fun K22 hK22=>?_
 refine Cd.qac [(0,false),(1,false)] rfl rfl ?_
 refine Jp.y 10 rfl (qaa rfl) rfl rfl Kp.true (Y.move rfl rfl) ?_
 refine Jp.y 2 rfl (qaa rfl) rfl rfl Kp.true (Y.assign rfl rfl) ?_
 refine Jp.qae hK22 ?_
 refine Cd.ret [] rfl (qba rfl rfl) trivial ⟨rfl,rfl,rfl⟩
def awIns : InsP:=⟨19,1,0,0,5⟩
theorem awIns_w : encP awIns = (5243027,0):=by kernel_rfl
def st0 (pc : Nat) : StP:=⟨List.replicate 32 0,pc,0⟩
theorem st0_ok {pc : Nat} (h : pc < 4294967296) : StOk (st0 pc):=⟨rfl,fun y hy=>by rw [List.eq_of_mem_replicate hy]; decide,h,(show -9223372036854775808 ≤ (0 : Int) ∧ (0 : Int) ≤ 4611686018427387904 by decide)⟩
def awOut : StP:=⟨[0,5] ++ List.replicate 30 0,4100,1⟩
theorem aw_step : (qdc (madeD [5243027] []) (st0 4096)).1 = awOut ∧ (qdc (madeD [5243027] []) (st0 4096)).2.1 = noEv:=by
 constructor <;> kernel_rfl
theorem awake12_spec : Spec Tryz.prog 4 #[] (fun _=>True) [] (fun ρ ρ' v L=>v = .bool true ∧ L = []):=by
 refine Spec.of 33 Tryz.func4 rfl Tryz.ntmps4 [] rfl rfl ?_
 intro cx ρ hr' h0
 refine Cd.seq fun K23 hK23=>?_
 refine Cd.qac [(0,false)] rfl rfl ?_
 refine Jp.y 0 rfl (qaa rfl) rfl rfl Kp.true (Y.assign rfl rfl) ?_
 refine Jp.qae hK23 ?_
 refine Cd.seq fun K24 hK24=>?_
 refine Cd.qac [(0,false),(1,false),(2,false),(3,false),(4,false)] rfl rfl ?_
 refine Jp.y 4 rfl (qaa rfl) rfl rfl Kp.true (Y.struct [(0,_),(1,_),(4,_)] [_,_,_,_,_] rfl rfl places34 zeroValue34 rfl) ?_
 refine Jp.call [] [] (word12_spec awIns ⟨by decide,by decide,by decide,by decide,by decide⟩ (by decide)) 5 rfl (qaa rfl) rfl rfl (Runs.fn rfl call14 rfl) (by decide) (by decide) rfl trivial ?_
 rintro v1 ρ1 L1 ⟨rfl,rfl,rfl⟩
 refine ⟨rfl,fun hle1=>⟨Kp.true,?_⟩⟩
 rw [awIns_w]
 refine Jp.lit 6 9 [(0,_)] [_] rfl (qaa rfl) rfl rfl rfl rfl underlying22 sizeOf24 zeroValue24 rfl rfl rfl rfl rfl fun b9=>⟨Kp.true,?_⟩
 refine Jp.freeze (i:=9) rfl (OwnS.up _ _ _ _ _ _) fun ρ7 hle7 hA7=>?_
 refine Jp.call [] [0] (made12_spec (some ⟨b9,0,none⟩) 1 [5243027] none 0 [] (by intro x hx; simp at hx; exact ⟨5243027,hx,by omega⟩)) 7 rfl (qaa rfl) rfl rfl (Runs.fn rfl call5 rfl) (by decide) (by decide) rfl ⟨hA7.rd,RdS.nil 1 _⟩ ?_
 rintro v2 ρ2 L2 ⟨b,rfl,rfl⟩
 refine ⟨rfl,fun hle2=>⟨Kp.true,?_⟩⟩
 have hS:=step_spec b (madeD [5243027] []) (st0 4096) (st0_ok (by decide))
 rw [aw_step.1,aw_step.2] at hS
 refine Jp.y 1 rfl (qaa rfl) rfl rfl Kp.true (Y.assign rfl rfl) ?_
 refine Jp.qae hK24 ?_
 refine Cd.seq fun K25 hK25=>?_
 refine Cd.qac [(0,false),(1,false),(2,false),(3,false),(4,false),(5,false),(6,false),(7,false),(8,false),(9,false)] rfl rfl ?_
 refine Jp.y 9 rfl (qaa rfl) rfl rfl Kp.true (Y.move rfl rfl) ?_
 refine Jp.y 10 rfl (qaa rfl) rfl rfl Kp.true (Y.struct [(1,_)] [_,_,_,_,_,_,_,_,_,_,_,_,_,_,_,_,_,_,_,_,_,_,_,_,_,_,_,_,_,_,_,_,_,_] rfl rfl places27 zeroValue27 rfl) ?_
 refine Jp.call [0] [0] hS 11 rfl (qaa rfl) rfl rfl (Runs.fn rfl call11 rfl) (by decide) (by decide) rfl trivial ?_
 rintro v3 ρ3 L3 ⟨rfl,rfl,rfl⟩
 refine ⟨rfl,fun hle3=>⟨Kp.true,?_⟩⟩
 refine Jp.y 8 rfl (qaa rfl) rfl rfl Kp.true (Y.move rfl rfl) ?_
 refine Jp.y 12 rfl (qaa rfl) rfl rfl Kp.true (Y.extract rfl rfl rfl) ?_
 refine Jp.y 13 rfl (qaa rfl) rfl rfl Kp.true (Y.extract rfl rfl rfl) ?_
 refine Jp.alloc 2 2 rfl (qaa rfl) rfl rfl rfl zeroValue27 fun b2=>⟨Kp.true,?_⟩
 refine Jp.alloc 3 3 rfl (qaa rfl) rfl rfl rfl zeroValue37 fun b3=>⟨Kp.true,?_⟩
 refine Jp.qaf 2 rfl (qaa rfl) rfl rfl sizeOf27 rfl rfl (by first | rfl | assumption) (by first | rfl | assumption) rfl (by first | rfl | assumption) (fun k _ _=>qam k) Kp.true ?_
 refine Jp.qaf 3 rfl (qaa rfl) rfl rfl sizeOf37 rfl rfl (by first | rfl | assumption) (by first | rfl | assumption) rfl (by first | rfl | assumption) (fun k _ _=>qam k) Kp.true ?_
 refine Jp.qae hK25 ?_
 refine Cd.seq fun K26 hK26=>?_
 refine Cd.qac [(0,false),(1,false),(2,false),(3,false),(4,false),(5,false),(6,false),(7,false),(8,false),(9,false),(10,false),(11,false),(12,false),(13,false),(14,false),(15,false),(16,false),(17,false),(18,false),(19,false)] rfl rfl ?_
 refine Jp.y 14 rfl (qaa rfl) rfl rfl Kp.true (by exact Y.qai 3 rfl isAgg37 sizeOf37 rfl rfl (by first | rfl | assumption)) ?_
 refine Jp.y 15 rfl (qaa rfl) rfl rfl Kp.true (Y.struct [] [_,_,_] rfl rfl qav zeroValue37 rfl) ?_
 refine Jp.y 16 rfl (qaa rfl) rfl rfl Kp.true (Y.eqlS (xs:=noEv.cells.toArray) (ys:=noEv.cells.toArray) (r:=true) rfl rfl rfl ev_guard qgm ev_stood (fun w=>by rw [ev_eq,(evEq_iff _ _).2 rfl])) ?_
 refine Jp.y 17 rfl (qaa rfl) rfl rfl Kp.true (Y.move rfl rfl) ?_
 refine Jp.splitF 17 rfl (fun g17=>?_) (fun g17=>?_)
 ·skip
  exact absurd g17 (by simp [awOut])
 try simp only [sG0] at g17
 refine Jp.y 18 rfl (qab rfl rfl rfl rfl) rfl rfl Kp.true (by exact Y.qad rfl rfl underlying27 rfl sizeOf25 (by decide) (show _ + 0 = _ from rfl)) ?_
 refine Jp.y 19 rfl (qab rfl rfl rfl rfl) rfl rfl Kp.true (Y.qcg rfl rfl rfl underlying25 sizeOf24 (by first | decide | omega) (by first | decide | omega) rfl) ?_
 refine Jp.y 20 rfl (qab rfl rfl rfl rfl) rfl rfl Kp.true (by exact Y.qaq 2 rfl isAgg24 rfl rfl rfl) ?_
 refine Jp.y 21 rfl (qab rfl rfl rfl rfl) rfl rfl Kp.true (Y.eql rfl rfl rfl) ?_
 refine Jp.y 22 rfl (qaa rfl) rfl rfl Kp.true (Y.qat rfl rfl rfl) ?_
 refine Jp.y 23 rfl (qaa rfl) rfl rfl Kp.true (Y.move rfl rfl) ?_
 refine Jp.splitF 23 rfl (fun g23=>?_) (fun g23=>?_)
 ·skip
  exact absurd g23 (by simp [awOut])
 try simp only [sG0] at g23
 refine Jp.y 24 rfl (qab rfl rfl rfl rfl) rfl rfl Kp.true (by exact Y.qad rfl rfl underlying27 rfl sizeOf24 (by decide) (show _ + 32 = _ from rfl)) ?_
 refine Jp.y 25 rfl (qab rfl rfl rfl rfl) rfl rfl Kp.true (by exact Y.qaq 2 rfl isAgg24 rfl rfl rfl) ?_
 refine Jp.y 26 rfl (qab rfl rfl rfl rfl) rfl rfl Kp.true (Y.eql rfl rfl rfl) ?_
 refine Jp.y 27 rfl (qaa rfl) rfl rfl Kp.true (Y.qat rfl rfl rfl) ?_
 refine Jp.y 28 rfl (qaa rfl) rfl rfl Kp.true (Y.move rfl rfl) ?_
 refine Jp.splitF 28 rfl (fun g28=>?_) (fun g28=>?_)
 ·skip
  exact absurd g28 (by simp [awOut])
 try simp only [sG0] at g28
 refine Jp.y 29 rfl (qab rfl rfl rfl rfl) rfl rfl Kp.true (by exact Y.qad rfl rfl underlying27 rfl sizeOf2 (by decide) (show _ + 33 = _ from rfl)) ?_
 refine Jp.y 30 rfl (qab rfl rfl rfl rfl) rfl rfl Kp.true (by exact Y.qaq 2 rfl isAgg2 rfl rfl rfl) ?_
 refine Jp.y 31 rfl (qab rfl rfl rfl rfl) rfl rfl Kp.true (Y.eql rfl rfl rfl) ?_
 refine Jp.y 32 rfl (qaa rfl) rfl rfl Kp.true (Y.qat rfl rfl rfl) ?_
 refine Jp.y 0 rfl (qaa rfl) rfl rfl Kp.true (Y.assign rfl rfl) ?_
 refine Jp.qae hK26 ?_
 refine Cd.ret [] rfl (qba rfl rfl) trivial ⟨by simp [awOut],rfl⟩
end Go.Proofs.YthjelpbaljapiaaGreat

namespace Go.Proofs.YthjelpbaljapiaaGreat
open Go
structure StRd (s : StP) : Prop where
 len : s.x.length = 32
 lt : ∀ y ∈ s.x,y < 4294967296
 pc : s.pc < 4294967296
 ret : -9223372036854775808 ≤ s.ret ∧ s.ret ≤ 9223372036854775807
theorem StRd.ok {s : StP} (h : StRd s) (h2 : s.ret ≤ 4611686018427387904) : StOk s:=⟨h.len,h.lt,h.pc,h.ret.1,h2⟩
theorem StRd.cRet {s : StP} (h : StRd s) : s.cells.toArray[33]? = some (.int .i64 s.ret):=by simp [StP.cells,qbp,List.getElem?_append,h.len]
theorem StRd.size {s : StP} (h : StRd s) : s.cells.length = 34:=by simp [StP.cells,qbp,h.len]
theorem StP.cPc' {s : StP} (h : s.x.length = 32) : s.cells.toArray[32]? = some (.int .u32 (s.pc : Int)):=by simp [StP.cells,qbp,List.getElem?_append,h]
theorem StP.cRet' {s : StP} (h : s.x.length = 32) : s.cells.toArray[33]? = some (.int .i64 s.ret):=by simp [StP.cells,qbp,List.getElem?_append,h]
end Go.Proofs.YthjelpbaljapiaaGreat

namespace Go.Proofs.YthjelpbaljapiaaGreat
open _root_.Go.Proofs.Tryz
open Go
theorem part_agg {P : Program} {e : TypeId} {m : Nat} {xs : Array Value} {off : Nat} {w : World} (hA : ∀ w,(isAgg e).run P w = .ok true w) (hz : ∀ w,(sizeOf e).run P w = .ok m w) : (part e xs off).run P w = .ok (.agg (xs.extract off (off + m))) w:=by
 simp only [part,Sem.run_bind,hA,Result.andThen_ok,if_true,hz,Sem.run_pure]
theorem natsV_int (l : List Nat) : qbp .u32 l = (l.map fun n : Nat=>(n : Int)).map (Value.int .u32):=by
 rw [qbp,List.map_map]; rfl
theorem nats_dec (a b : List Nat) : decide ((a.map fun n : Nat=>(n : Int)) = b.map fun n : Nat=>(n : Int)) = decide (a = b):=by
 rw [Bool.eq_iff_iff,decide_eq_true_eq,decide_eq_true_eq]
 constructor
 ·intro h
  have h2:=congrArg (List.map Int.toNat) h
  rw [List.map_map,List.map_map] at h2
  have e : (Int.toNat ∘ fun n : Nat=>(n : Int)) = id:=by funext n; simp
  rwa [e,List.map_id,List.map_id] at h2
 ·intro h; rw [h]
theorem x32_info : (Tryz.prog.info? 24).isSome = true:=by kernel_rfl
theorem x32_one : Tryz.prog.cellsOf 24 = 1:=by kernel_rfl
theorem x32_eqd (d : Nat) {a b : List Nat} (ha : a.length = 32) (hb : b.length = 32) (w : World) : (Op.equalIn (d + 2) 25 (.agg (qbp .u32 a).toArray) (.agg (qbp .u32 b).toArray)).run Tryz.prog w = .ok (decide (a = b)) w:=by
 rw [natsV_int,natsV_int,equal_arr underlying25 x32_info x32_one isAgg24 underlying24 (by rw [List.length_map]; exact ha) (by rw [List.length_map]; exact hb) w,nats_dec]
def stEq (a b : StP) : Bool:=decide (a.x = b.x) && (((a.pc : Int) == (b.pc : Int)) && ((a.ret == b.ret) && true))
theorem stEq_iff (a b : StP) : stEq a b = true ↔ a = b:=by
 obtain ⟨a1,a2,a3⟩:=a
 obtain ⟨b1,b2,b3⟩:=b
 simp [stEq]
 intro _
 omega
theorem st_guard : Tryz.prog.eqGuardType Tryz.prog.depth 27 = false:=by kernel_rfl
theorem st_stood : Tryz.prog.stoodInHeld 27 = false:=by kernel_rfl
theorem st_fields : Tryz.prog.underlying 27 = some (.struct (Tryz.prog.fieldsOf 27)):=by kernel_rfl
theorem st_list : (Tryz.prog.fieldsOf 27).toList = [Field.mk "X" 25 0 false "" "" 0, Field.mk "PC" 24 32 false "" "" 128, Field.mk "Retired" 2 33 false "" "" 136] := by kernel_rfl
theorem st_cut {s : StP} (h : s.x.length = 32) : s.cells.toArray.extract 0 (0 + 32) = (qbp .u32 s.x).toArray:=by
 rw [List.extract_toArray]
 congr 1
 simp [StP.cells,qbp,List.extract,h]
theorem st_eq (a b : StP) (ha : a.x.length = 32) (hb : b.x.length = 32) (w : World) : (Op.eqFields 9999 a.cells.toArray b.cells.toArray (Tryz.prog.fieldsOf 27).toList).run Tryz.prog w = .ok (stEq a b) w:=by
 rw [st_list]
 refine eqFields_any (by decide) (part_agg (m:=32) isAgg25 sizeOf25) (part_agg (m:=32) isAgg25 sizeOf25) ?_ (qbo (by decide) (qbh isAgg24 (StP.cPc' ha)) (qbh isAgg24 (StP.cPc' hb)) underlying24 (qbo (by decide) (qbh isAgg2 (StP.cRet' ha)) (qbh isAgg2 (StP.cRet' hb)) underlying2 rfl))
 show (Op.equalIn 9999 25 (.agg (a.cells.toArray.extract 0 (0 + 32))) (.agg (b.cells.toArray.extract 0 (0 + 32)))).run Tryz.prog w = _
 rw [st_cut ha,st_cut hb]
 exact x32_eqd 9997 ha hb w
theorem writes_yes {op : Nat} (h : 1 ≤ op ∧ op ≤ 4 ∨ 11 ≤ op ∧ op ≤ 15 ∨ 19 ≤ op ∧ op ≤ 45) : qdf op = true:=decide_eq_true h
end Go.Proofs.YthjelpbaljapiaaGreat

namespace Go.Proofs.YthjelpbaljapiaaGreat
open _root_.Go.Proofs.Tryz
open Go
theorem b256_info : (Tryz.prog.info? 5).isSome = true:=by kernel_rfl
theorem b256_one : Tryz.prog.cellsOf 5 = 1:=by kernel_rfl
theorem b256_eqd (d : Nat) {a b : qbt} (ha : a.length = 256) (hb : b.length = 256) (w : World) : (Op.equalIn (d + 2) 62 (.agg (qbf a).toArray) (.agg (qbf b).toArray)).run Tryz.prog w = .ok (decide (a = b)) w:=by
 rw [bytesV_int,bytesV_int,equal_arr underlying62 b256_info b256_one isAgg5 underlying5 (by rw [List.length_map]; exact ha) (by rw [List.length_map]; exact hb) w,bytes_dec]
theorem pg_guard : Tryz.prog.eqGuardType Tryz.prog.depth 64 = false:=by kernel_rfl
theorem pg_stood : Tryz.prog.stoodInHeld 64 = false:=by kernel_rfl
theorem pg_fields : Tryz.prog.underlying 64 = some (.struct (Tryz.prog.fieldsOf 64)):=by kernel_rfl
theorem pg_list : (Tryz.prog.fieldsOf 64).toList = [Field.mk "Base" 24 0 false "" "" 0, Field.mk "Perm" 3 1 false "" "" 8, Field.mk "B" 62 2 false "" "" 16] := by kernel_rfl
theorem pg_cut {x : Nat × Pg} (h : x.2.b.length = 256) : (qbm x).toArray.extract 2 (2 + 256) = (qbf x.2.b).toArray:=by
 rw [List.extract_toArray]
 congr 1
 simp only [qbm,qbf,List.extract]
 exact List.take_of_length_le (by simp [h])
theorem pg_self {x : Nat × Pg} (h : x.2.b.length = 256) (w : World) : (Op.eqFields 9999 (qbm x).toArray (qbm x).toArray (Tryz.prog.fieldsOf 64).toList).run Tryz.prog w = .ok true w:=by
 rw [pg_list]
 have h3 : (Op.eqFields 9999 (qbm x).toArray (qbm x).toArray [Field.mk "B" 62 2 false "" "" 16]).run Tryz.prog w = .ok true w := by
  refine eqFields_any (r1:=true) (r:=true) (by decide) (part_agg (m:=256) isAgg62 sizeOf62) (part_agg (m:=256) isAgg62 sizeOf62) ?_ rfl
  show (Op.equalIn 9999 62 (.agg ((qbm x).toArray.extract 2 (2 + 256))) (.agg ((qbm x).toArray.extract 2 (2 + 256)))).run Tryz.prog w = _
  rw [pg_cut h,b256_eqd 9997 h h w,decide_eq_true rfl]
 have h2 := qbo (P := Tryz.prog) (d := 9998) (f := Field.mk "Perm" 3 1 false "" "" 8) (a := (x.2.perm : Int)) (b := (x.2.perm : Int)) (k := .i64) (by decide) (qbh (xs := (qbm x).toArray) isAgg3 rfl) (qbh (xs := (qbm x).toArray) isAgg3 rfl) underlying3 h3
 have h1 := qbo (P := Tryz.prog) (d := 9998) (f := Field.mk "Base" 24 0 false "" "" 0) (a := (x.1 : Int)) (b := (x.1 : Int)) (k := .u32) (by decide) (qbh (xs := (qbm x).toArray) isAgg24 rfl) (qbh (xs := (qbm x).toArray) isAgg24 rfl) underlying24 h2
 simpa using h1
theorem qex (b1 b2 : Nat) (l : List (Nat × Pg)) (h1 : ∀ y ∈ l,y.2.b.length = 256) (hl : l.length ≤ 16777217) (B1 B2 : Int) (A1 A2 X1 X2 : Option Addr) (c1 c2 m1 m2 d1 d2 : Nat) :
  Spec Tryz.prog 13 #[.pointer (some ⟨b1,0,none⟩),.pointer (some ⟨b2,0,none⟩)] (fun _=>True)
   [(0,Pt b1 (qfa B1 A1 l.length c1 X1 m1 d1)),(1,OwnS 64 258 A1 l.length c1 (l.flatMap qbm)),(2,Pt b2 (qfa B2 A2 l.length c2 X2 m2 d2)),(3,OwnS 64 258 A2 l.length c2 (l.flatMap qbm))]
  (fun ρ ρ' v L=>ρ' = ρ ∧ v = .bool true ∧ L = []):=by
 refine Spec.of 41 Tryz.func13 rfl Tryz.ntmps13 [(0,_),(1,_)] rfl rfl ?_
 intro cx ρ hr h0
 have hrow : ∀ y ∈ l,(qbm y).length = 258:=fun y hy=>qda (h1 y hy)
 refine Cd.seq fun K1 hK1=>?_
 refine Cd.qac [(0,false)] rfl rfl ?_
 refine Jp.y 4 rfl (qaa rfl) rfl rfl Kp.true (Y.assign rfl rfl) ?_
 refine Jp.qae hK1 ?_
 refine Cd.seq fun K2 hK2=>?_
 refine Cd.seq fun K3 hK3=>?_
 refine Cd.drawn [(0,_),(1,_),(2,_),(3,_)] ⟨rfl,rfl,rfl,rfl,trivial⟩ [(0,true),(1,true),(2,true),(3,true),(4,true),(5,true),(6,true),(7,true),(8,true),(9,true),(10,true)] follows (by kernel_rfl) (fun hrl=>?_)
 refine Jp.q 6 rfl (qaa rfl) rfl rfl (Y.move rfl rfl) ?_
 refine Jp.q 7 rfl (qaa rfl) rfl rfl (Y.qau rfl rfl) ?_
 refine Jp.q 8 rfl (qaa rfl) rfl rfl (by exact Y.qad rfl rfl underlying60 rfl sizeOf57 (by decide) (show _ + 1 = _ from rfl)) ?_
 refine Jp.q 9 rfl (qaa rfl) rfl rfl (by exact Y.qaq 0 rfl isAgg57 rfl rfl rfl) ?_
 refine Jp.q 10 rfl (qaa rfl) rfl rfl (Y.qcd rfl underlying57 rfl) ?_
 refine Jp.q 11 rfl (qaa rfl) rfl rfl (Y.move rfl rfl) ?_
 refine Jp.q 12 rfl (qaa rfl) rfl rfl (Y.qau rfl rfl) ?_
 refine Jp.q 13 rfl (qaa rfl) rfl rfl (by exact Y.qad rfl rfl underlying60 rfl sizeOf57 (by decide) (show _ + 1 = _ from rfl)) ?_
 refine Jp.q 14 rfl (qaa rfl) rfl rfl (by exact Y.qaq 2 rfl isAgg57 rfl rfl rfl) ?_
 refine Jp.q 15 rfl (qaa rfl) rfl rfl (Y.qcd rfl underlying57 rfl) ?_
 refine Jp.q 16 rfl (qaa rfl) rfl rfl (Y.neq rfl rfl rfl) ?_
 refine Jp.qae hK3 ?_
 refine Cd.qal rfl (fun ga=>?_) (fun ga=>?_)
 ·exact absurd ga (by simp)
 ·skip
  refine Cd.qbi hK2 ?_
  refine Cd.seq fun K5 hK5=>?_
  refine Cd.seq fun K6 hK6=>?_
  refine Cd.qac [(0,false)] rfl rfl ?_
  refine Jp.y 5 rfl (qaa rfl) rfl rfl Kp.true (Y.assign rfl rfl) ?_
  refine Jp.qae hK6 ?_
  refine Cd.block ?_
  refine Cd.qdw (G:=Nat) (fun g=>g ≤ l.length) (fun g=>l.length - g) (fun _=>_) (fun g=>[(5,.int .i64 (g : Int))]) [(0,_),(1,_)] (fun _=>[]) [(0,_),(1,_),(2,_),(3,_)] 0 (Nat.zero_le _) rfl ⟨rfl,trivial⟩ ⟨rfl,rfl,trivial⟩ trivial ⟨rfl,rfl,rfl,rfl,trivial⟩ (fun g KLa hok hLa=>?_)
  obtain ⟨i,hi⟩ : ∃ i,i = g:=⟨_,rfl⟩
  rw [← hi] at hok ⊢
  refine Cd.seq fun K7 hK7=>?_
  refine Cd.seq fun K8 hK8=>?_
  refine Cd.qac [(0,false),(1,false),(2,false),(3,false),(4,false),(5,false),(6,false)] rfl rfl ?_
  refine Jp.y 17 rfl (qaa rfl) rfl rfl Kp.true (Y.move rfl rfl) ?_
  refine Jp.y 18 rfl (qaa rfl) rfl rfl Kp.true (Y.move rfl rfl) ?_
  refine Jp.y 19 rfl (qaa rfl) rfl rfl Kp.true (Y.qau rfl rfl) ?_
  refine Jp.y 20 rfl (qaa rfl) rfl rfl Kp.true (by exact Y.qad rfl rfl underlying60 rfl sizeOf57 (by decide) (show _ + 1 = _ from rfl)) ?_
  refine Jp.y 21 rfl (qaa rfl) rfl rfl Kp.true (by exact Y.qaq 0 rfl isAgg57 rfl rfl rfl) ?_
  refine Jp.y 22 rfl (qaa rfl) rfl rfl Kp.true (Y.qcd rfl underlying57 rfl) ?_
  refine Jp.y 23 rfl (qaa rfl) rfl rfl Kp.true (Y.lss rfl rfl rfl) ?_
  refine Jp.qae hK8 ?_
  refine Cd.qal rfl (fun gb=>?_) (fun gb=>?_)
  ·have hin : i < l.length:=by simp at gb; omega
   have hx : l[i]? = some l[i]:=List.getElem?_eq_getElem hin
   obtain ⟨x,hxe⟩ : ∃ x,x = l[i]:=⟨_,rfl⟩
   rw [← hxe] at hx
   have hxl:=h1 x (List.mem_of_getElem? hx)
   refine Cd.ownAt 1 rfl (show 0 < l.length by omega) ?_
   rintro p1 rfl
   refine Cd.ownAt 3 rfl (show 0 < l.length by omega) ?_
   rintro p2 rfl
   have hget : ∀ j v,(qbm x)[j]? = some v → (l.flatMap qbm)[i * 258 + j]? = some v:=fun j v hv=>qfq hrow hx hv
   refine Cd.qbi hK7 ?_
   refine Cd.seq fun K9 hK9=>?_
   refine Cd.block ?_
   refine Cd.seq fun K10 hK10=>?_
   refine Cd.drawn [(0,_),(1,_),(2,_),(3,_)] ⟨rfl,rfl,rfl,rfl,trivial⟩ [(0,true),(1,true),(2,true),(3,true),(4,true),(5,true),(6,true),(7,true),(8,true),(9,true),(10,true),(11,true),(12,true),(13,true),(14,true)] follows (by kernel_rfl) (fun hrl=>?_)
   refine Jp.q 26 rfl (qaa rfl) rfl rfl (Y.move rfl rfl) ?_
   refine Jp.q 27 rfl (qaa rfl) rfl rfl (Y.qau rfl rfl) ?_
   refine Jp.q 28 rfl (qaa rfl) rfl rfl (by exact Y.qad rfl rfl underlying60 rfl sizeOf57 (by decide) (show _ + 1 = _ from rfl)) ?_
   refine Jp.q 29 rfl (qaa rfl) rfl rfl (by exact Y.qaq 0 rfl isAgg57 rfl rfl rfl) ?_
   refine Jp.q 30 rfl (qaa rfl) rfl rfl (Y.move rfl rfl) ?_
   refine Jp.q 31 rfl (qaa rfl) rfl rfl (Y.qar (q:=i * 258) rfl rfl rfl underlying57 sizeOf64 (by omega) (by omega) (by omega)) ?_
   refine Jp.q 32 rfl (qaa rfl) rfl rfl (Y.loadSAgg 1 (q:=i * 258) (qbm x) rfl isAgg64 sizeOf64 rfl rfl rfl (qda hxl) hget) ?_
   refine Jp.q 33 rfl (qaa rfl) rfl rfl (Y.move rfl rfl) ?_
   refine Jp.q 34 rfl (qaa rfl) rfl rfl (Y.qau rfl rfl) ?_
   refine Jp.q 35 rfl (qaa rfl) rfl rfl (by exact Y.qad rfl rfl underlying60 rfl sizeOf57 (by decide) (show _ + 1 = _ from rfl)) ?_
   refine Jp.q 36 rfl (qaa rfl) rfl rfl (by exact Y.qaq 2 rfl isAgg57 rfl rfl rfl) ?_
   refine Jp.q 37 rfl (qaa rfl) rfl rfl (Y.move rfl rfl) ?_
   refine Jp.q 38 rfl (qaa rfl) rfl rfl (Y.qar (q:=i * 258) rfl rfl rfl underlying57 sizeOf64 (by omega) (by omega) (by omega)) ?_
   refine Jp.q 39 rfl (qaa rfl) rfl rfl (Y.loadSAgg 3 (q:=i * 258) (qbm x) rfl isAgg64 sizeOf64 rfl rfl rfl (qda hxl) hget) ?_
   refine Jp.q 40 rfl (qaa rfl) rfl rfl (Y.neqS (xs:=(qbm x).toArray) (ys:=(qbm x).toArray) (r:=true) rfl rfl rfl pg_guard pg_fields pg_stood (fun w=>pg_self hxl w)) ?_
   refine Jp.qae hK10 ?_
   refine Cd.qal rfl (fun gc=>?_) (fun gc=>?_)
   ·exact absurd gc (by simp)
   ·skip
    refine Cd.over rfl hK9 ?_
    refine Cd.qac [(0,false),(1,false),(2,false)] rfl rfl ?_
    refine Jp.y 24 rfl (qaa rfl) rfl rfl Kp.true (Y.move rfl rfl) ?_
    refine Jp.y 25 rfl (qaa rfl) rfl rfl Kp.true (Y.qbx rfl rfl rfl (by exact qag (by omega) (by omega))) ?_
    refine Jp.y 5 rfl (qaa rfl) rfl rfl Kp.true (Y.assign rfl rfl) ?_
    rw [show (i : Int) + 1 = ((i + 1 : Nat) : Int) by omega]
    refine Jp.again hLa (i + 1) hin (by omega) rfl ⟨rfl,rfl,rfl,trivial⟩ ⟨rfl,rfl,rfl,rfl,trivial⟩
  ·skip
   refine Cd.exit rfl hK5 ?_
   refine Cd.seq fun K12 hK12=>?_
   refine Cd.qac [(0,false)] rfl rfl ?_
   refine Jp.y 4 rfl (qaa rfl) rfl rfl Kp.true (Y.assign rfl rfl) ?_
   refine Jp.qae hK12 ?_
   refine Cd.ret [] rfl (qba rfl rfl) trivial ⟨rfl,rfl,rfl⟩
end Go.Proofs.YthjelpbaljapiaaGreat

namespace Go.Proofs.YthjelpbaljapiaaGreat
open Go
theorem storeM_len (M : MemG) (a : Nat) (n : Int) (v : Nat) : (qca M a n v).2.pages.length = M.pages.length:=by
 unfold qca
 split
 ·split
  ·show (qcb _ _ _).length = _
   rw [qcb,List.length_map]
  ·rfl
 ·rfl
structure StepYes (M : MemG) (s : StP) (D : StP × EvP × MemG) : Prop where
 ev : D.2.1 = noEv
 st : ∃ rd v,rd < 32 ∧ D.1.x = (s.x.set rd v).set 0 0
 pc : D.1.pc % 4 = 0
 ret : D.1.ret = s.ret + 1
theorem doInsP_pages (M : MemG) (i : InsP) (s : StP) : (qbn M i s).2.2.pages.length = M.pages.length:=by
 unfold qbn
 repeat' split
 all_goals first | rfl | exact storeM_len ..
theorem stepP_pages (M : MemG) (s : StP) : (qdc M s).2.2.pages.length = M.pages.length:=by
 unfold qdc
 split
 ·exact doInsP_pages ..
 ·rfl
theorem writeM_len (M : MemG) (a : Nat) (l : qbt) (most need : Int) : (qde M a l most need).2.pages.length = M.pages.length:=by
 unfold qde
 split
 ·rfl
 ·split
  ·rfl
  ·rw [← List.length_map (f:=(·.1)),wrM_keys,List.length_map]
theorem madeD_len (xs : List Int) (bs : qbt) : (madeD xs bs).pages.length ≤ 12:=by
 unfold madeD
 rw [writeM_len,writeM_len]
 decide +kernel
end Go.Proofs.YthjelpbaljapiaaGreat

namespace Go.Proofs.YthjelpbaljapiaaGreat
open _root_.Go.Proofs.Tryz
open Go
theorem cpuSteps_spec (s0 : Sl Int) (d0 : Sl UInt8) (s : StP) (n : Int) (hs : ∀ x ∈ s0.xs,∃ m : Nat,x = m ∧ m < 4294967296) (hc : StRd s) : Spec Tryz.prog 3 #[s0.v,d0.v,.agg s.cells.toArray,.int .i64 n] (fun h=>RdI .u32 s0 h ∧ RdB d0 h) [] (fun ρ ρ' v L=>v = .bool true ∧ L = []):=by
 obtain ⟨A,c,xs⟩:=s0
 obtain ⟨dA,dc,bs⟩:=d0
 dsimp only [Sl.v]
 refine Spec.of 155 Tryz.func3 rfl Tryz.ntmps3 [(0,_),(1,_),(2,_),(3,_)] rfl rfl ?_
 intro cx ρ hr0 h0
 obtain ⟨hr,hrd⟩:=hr0
 have lx : xs.length ≤ 281474976710656:=hr.2.1.2
 have lb : bs.length ≤ 281474976710656:=hrd.2.1.2
 have hcl:=hc.size
 have hco:=StP.one s
 refine Cd.seq fun K1 hK1=>?_
 refine Cd.qac [(0,false),(1,false)] rfl rfl ?_
 refine Jp.box 6 6 rfl (qaa rfl) rfl rfl rfl rfl fun b6=>⟨Kp.true,?_⟩
 refine Jp.y 8 rfl (qaa rfl) rfl rfl Kp.true (Y.assign rfl rfl) ?_
 refine Jp.qae hK1 ?_
 refine Cd.seq fun K2 hK2=>?_
 refine Cd.seq fun K3 hK3=>?_
 refine Cd.qac [(0,false),(1,false)] rfl rfl ?_
 refine Jp.call [] [] awake12_spec 21 rfl (qaa rfl) rfl rfl (Runs.fn rfl call4 rfl) (by decide) (by decide) rfl trivial ?_
 rintro v1 ρ1 L1 ⟨rfl,rfl⟩
 refine ⟨rfl,fun hle1=>⟨Kp.true,?_⟩⟩
 have hr:=RdI.up _ _ _ _ hle1 hr
 have hrd:=RdB.up _ _ _ hle1 hrd
 refine Jp.y 22 rfl (qaa rfl) rfl rfl Kp.true (Y.not rfl rfl) ?_
 refine Jp.qae hK3 ?_
 refine Cd.qal rfl (fun g22=>?_) (fun g22=>?_)
 ·skip
  exact absurd g22 (by simp)
 try simp only [sG0] at g22
 refine Cd.qbi hK2 ?_
 refine Cd.seq fun K4 hK4=>?_
 refine Cd.seq fun K5 hK5=>?_
 refine Cd.qac [(0,false),(1,false),(2,false),(3,false),(4,false),(5,false),(6,false),(7,false),(8,false),(9,false),(10,false),(11,false),(12,false),(13,false),(14,false),(15,false),(16,false),(17,false),(18,false),(19,false),(20,false),(21,false),(22,false),(23,false),(24,false),(25,false)] rfl rfl ?_
 refine Jp.y 23 rfl (qaa rfl) rfl rfl Kp.true (Y.move rfl rfl) ?_
 refine Jp.y 24 rfl (qaa rfl) rfl rfl Kp.true (Y.qcd rfl underlying22 rfl) ?_
 refine Jp.y 25 rfl (qaa rfl) rfl rfl Kp.true (Y.gtr rfl rfl rfl) ?_
 refine Jp.y 26 rfl (qaa rfl) rfl rfl Kp.true (Y.move rfl rfl) ?_
 refine Jp.split 26 rfl (fun g26=>?_) (fun g26=>?_)
 ·skip
  refine Jp.qak 27 rfl (qab rfl rfl rfl rfl) rfl rfl Kp.true ?_
  refine Jp.qak 28 rfl (qab rfl rfl rfl rfl) rfl rfl Kp.true ?_
  refine Jp.qak 29 rfl (qab rfl rfl rfl rfl) rfl rfl Kp.true ?_
  refine Jp.y 30 rfl (qaa rfl) rfl rfl Kp.true (Y.qat rfl rfl rfl) ?_
  refine Jp.y 31 rfl (qaa rfl) rfl rfl Kp.true (Y.move rfl rfl) ?_
  refine Jp.qak 32 rfl (qab rfl rfl rfl rfl) rfl rfl Kp.true ?_
  refine Jp.qak 33 rfl (qab rfl rfl rfl rfl) rfl rfl Kp.true ?_
  refine Jp.qak 34 rfl (qab rfl rfl rfl rfl) rfl rfl Kp.true ?_
  refine Jp.y 35 rfl (qaa rfl) rfl rfl Kp.true (Y.qat rfl rfl rfl) ?_
  refine Jp.y 36 rfl (qaa rfl) rfl rfl Kp.true (Y.move rfl rfl) ?_
  refine Jp.qak 37 rfl (qab rfl rfl rfl rfl) rfl rfl Kp.true ?_
  refine Jp.qak 38 rfl (qab rfl rfl rfl rfl) rfl rfl Kp.true ?_
  refine Jp.qak 39 rfl (qab rfl rfl rfl rfl) rfl rfl Kp.true ?_
  refine Jp.y 40 rfl (qaa rfl) rfl rfl Kp.true (Y.qat rfl rfl rfl) ?_
  refine Jp.y 41 rfl (qaa rfl) rfl rfl Kp.true (Y.move rfl rfl) ?_
  refine Jp.qak 42 rfl (qab rfl rfl rfl rfl) rfl rfl Kp.true ?_
  refine Jp.qak 43 rfl (qab rfl rfl rfl rfl) rfl rfl Kp.true ?_
  refine Jp.y 44 rfl (qaa rfl) rfl rfl Kp.true (Y.qat rfl rfl rfl) ?_
  refine Jp.y 45 rfl (qaa rfl) rfl rfl Kp.true (Y.move rfl rfl) ?_
  refine Jp.qak 46 rfl (qab rfl rfl rfl rfl) rfl rfl Kp.true ?_
  refine Jp.qak 47 rfl (qab rfl rfl rfl rfl) rfl rfl Kp.true ?_
  refine Jp.y 48 rfl (qaa rfl) rfl rfl Kp.true (Y.qat rfl rfl rfl) ?_
  refine Jp.qae hK5 ?_
  refine Cd.qcw rfl ?_
  refine Cd.seq fun K6 hK6=>?_
  refine Cd.qac [(0,false)] rfl rfl ?_
  refine Jp.y 8 rfl (qaa rfl) rfl rfl Kp.true (Y.assign rfl rfl) ?_
  refine Jp.qae hK6 ?_
  refine Cd.ret [] rfl (qba rfl rfl) trivial ⟨rfl,rfl⟩
 try simp only [sG0] at g26
 refine Jp.y 27 rfl (qab rfl rfl rfl rfl) rfl rfl Kp.true (Y.move rfl rfl) ?_
 refine Jp.y 28 rfl (qab rfl rfl rfl rfl) rfl rfl Kp.true (Y.qcd rfl underlying23 rfl) ?_
 refine Jp.y 29 rfl (qab rfl rfl rfl rfl) rfl rfl Kp.true (Y.gtr rfl rfl rfl) ?_
 refine Jp.y 30 rfl (qaa rfl) rfl rfl Kp.true (Y.qao rfl rfl rfl) ?_
 refine Jp.y 31 rfl (qaa rfl) rfl rfl Kp.true (Y.move rfl rfl) ?_
 refine Jp.split 31 rfl (fun g31=>?_) (fun g31=>?_)
 ·skip
  refine Jp.qak 32 rfl (qab rfl rfl rfl rfl) rfl rfl Kp.true ?_
  refine Jp.qak 33 rfl (qab rfl rfl rfl rfl) rfl rfl Kp.true ?_
  refine Jp.qak 34 rfl (qab rfl rfl rfl rfl) rfl rfl Kp.true ?_
  refine Jp.y 35 rfl (qaa rfl) rfl rfl Kp.true (Y.qat rfl rfl rfl) ?_
  refine Jp.y 36 rfl (qaa rfl) rfl rfl Kp.true (Y.move rfl rfl) ?_
  refine Jp.qak 37 rfl (qab rfl rfl rfl rfl) rfl rfl Kp.true ?_
  refine Jp.qak 38 rfl (qab rfl rfl rfl rfl) rfl rfl Kp.true ?_
  refine Jp.qak 39 rfl (qab rfl rfl rfl rfl) rfl rfl Kp.true ?_
  refine Jp.y 40 rfl (qaa rfl) rfl rfl Kp.true (Y.qat rfl rfl rfl) ?_
  refine Jp.y 41 rfl (qaa rfl) rfl rfl Kp.true (Y.move rfl rfl) ?_
  refine Jp.qak 42 rfl (qab rfl rfl rfl rfl) rfl rfl Kp.true ?_
  refine Jp.qak 43 rfl (qab rfl rfl rfl rfl) rfl rfl Kp.true ?_
  refine Jp.y 44 rfl (qaa rfl) rfl rfl Kp.true (Y.qat rfl rfl rfl) ?_
  refine Jp.y 45 rfl (qaa rfl) rfl rfl Kp.true (Y.move rfl rfl) ?_
  refine Jp.qak 46 rfl (qab rfl rfl rfl rfl) rfl rfl Kp.true ?_
  refine Jp.qak 47 rfl (qab rfl rfl rfl rfl) rfl rfl Kp.true ?_
  refine Jp.y 48 rfl (qaa rfl) rfl rfl Kp.true (Y.qat rfl rfl rfl) ?_
  refine Jp.qae hK5 ?_
  refine Cd.qcw rfl ?_
  refine Cd.seq fun K7 hK7=>?_
  refine Cd.qac [(0,false)] rfl rfl ?_
  refine Jp.y 8 rfl (qaa rfl) rfl rfl Kp.true (Y.assign rfl rfl) ?_
  refine Jp.qae hK7 ?_
  refine Cd.ret [] rfl (qba rfl rfl) trivial ⟨rfl,rfl⟩
 try simp only [sG0] at g31
 refine Jp.y 32 rfl (qab rfl rfl rfl rfl) rfl rfl Kp.true (by exact Y.qad rfl rfl underlying27 rfl sizeOf2 (by decide) (show _ + 33 = _ from rfl)) ?_
 refine Jp.y 33 rfl (qab rfl rfl rfl rfl) rfl rfl Kp.true (by exact Y.qbs 6 rfl isAgg2 rfl rfl (HasC.pt hc.cRet)) ?_
 refine Jp.y 34 rfl (qab rfl rfl rfl rfl) rfl rfl Kp.true (Y.lss rfl rfl rfl) ?_
 refine Jp.y 35 rfl (qaa rfl) rfl rfl Kp.true (Y.qao rfl rfl rfl) ?_
 refine Jp.y 36 rfl (qaa rfl) rfl rfl Kp.true (Y.move rfl rfl) ?_
 refine Jp.split 36 rfl (fun g36=>?_) (fun g36=>?_)
 ·skip
  refine Jp.qak 37 rfl (qab rfl rfl rfl rfl) rfl rfl Kp.true ?_
  refine Jp.qak 38 rfl (qab rfl rfl rfl rfl) rfl rfl Kp.true ?_
  refine Jp.qak 39 rfl (qab rfl rfl rfl rfl) rfl rfl Kp.true ?_
  refine Jp.y 40 rfl (qaa rfl) rfl rfl Kp.true (Y.qat rfl rfl rfl) ?_
  refine Jp.y 41 rfl (qaa rfl) rfl rfl Kp.true (Y.move rfl rfl) ?_
  refine Jp.qak 42 rfl (qab rfl rfl rfl rfl) rfl rfl Kp.true ?_
  refine Jp.qak 43 rfl (qab rfl rfl rfl rfl) rfl rfl Kp.true ?_
  refine Jp.y 44 rfl (qaa rfl) rfl rfl Kp.true (Y.qat rfl rfl rfl) ?_
  refine Jp.y 45 rfl (qaa rfl) rfl rfl Kp.true (Y.move rfl rfl) ?_
  refine Jp.qak 46 rfl (qab rfl rfl rfl rfl) rfl rfl Kp.true ?_
  refine Jp.qak 47 rfl (qab rfl rfl rfl rfl) rfl rfl Kp.true ?_
  refine Jp.y 48 rfl (qaa rfl) rfl rfl Kp.true (Y.qat rfl rfl rfl) ?_
  refine Jp.qae hK5 ?_
  refine Cd.qcw rfl ?_
  refine Cd.seq fun K8 hK8=>?_
  refine Cd.qac [(0,false)] rfl rfl ?_
  refine Jp.y 8 rfl (qaa rfl) rfl rfl Kp.true (Y.assign rfl rfl) ?_
  refine Jp.qae hK8 ?_
  refine Cd.ret [] rfl (qba rfl rfl) trivial ⟨rfl,rfl⟩
 try simp only [sG0] at g36
 refine Jp.y 37 rfl (qab rfl rfl rfl rfl) rfl rfl Kp.true (by exact Y.qad rfl rfl underlying27 rfl sizeOf2 (by decide) (show _ + 33 = _ from rfl)) ?_
 refine Jp.y 38 rfl (qab rfl rfl rfl rfl) rfl rfl Kp.true (by exact Y.qbs 6 rfl isAgg2 rfl rfl (HasC.pt hc.cRet)) ?_
 refine Jp.y 39 rfl (qab rfl rfl rfl rfl) rfl rfl Kp.true (Y.gtr rfl rfl rfl) ?_
 refine Jp.y 40 rfl (qaa rfl) rfl rfl Kp.true (Y.qao rfl rfl rfl) ?_
 refine Jp.y 41 rfl (qaa rfl) rfl rfl Kp.true (Y.move rfl rfl) ?_
 refine Jp.split 41 rfl (fun g41=>?_) (fun g41=>?_)
 ·skip
  refine Jp.qak 42 rfl (qab rfl rfl rfl rfl) rfl rfl Kp.true ?_
  refine Jp.qak 43 rfl (qab rfl rfl rfl rfl) rfl rfl Kp.true ?_
  refine Jp.y 44 rfl (qaa rfl) rfl rfl Kp.true (Y.qat rfl rfl rfl) ?_
  refine Jp.y 45 rfl (qaa rfl) rfl rfl Kp.true (Y.move rfl rfl) ?_
  refine Jp.qak 46 rfl (qab rfl rfl rfl rfl) rfl rfl Kp.true ?_
  refine Jp.qak 47 rfl (qab rfl rfl rfl rfl) rfl rfl Kp.true ?_
  refine Jp.y 48 rfl (qaa rfl) rfl rfl Kp.true (Y.qat rfl rfl rfl) ?_
  refine Jp.qae hK5 ?_
  refine Cd.qcw rfl ?_
  refine Cd.seq fun K9 hK9=>?_
  refine Cd.qac [(0,false)] rfl rfl ?_
  refine Jp.y 8 rfl (qaa rfl) rfl rfl Kp.true (Y.assign rfl rfl) ?_
  refine Jp.qae hK9 ?_
  refine Cd.ret [] rfl (qba rfl rfl) trivial ⟨rfl,rfl⟩
 try simp only [sG0] at g41
 refine Jp.y 42 rfl (qab rfl rfl rfl rfl) rfl rfl Kp.true (Y.move rfl rfl) ?_
 refine Jp.y 43 rfl (qab rfl rfl rfl rfl) rfl rfl Kp.true (Y.lss rfl rfl rfl) ?_
 refine Jp.y 44 rfl (qaa rfl) rfl rfl Kp.true (Y.qao rfl rfl rfl) ?_
 refine Jp.y 45 rfl (qaa rfl) rfl rfl Kp.true (Y.move rfl rfl) ?_
 refine Jp.split 45 rfl (fun g45=>?_) (fun g45=>?_)
 ·skip
  refine Jp.qak 46 rfl (qab rfl rfl rfl rfl) rfl rfl Kp.true ?_
  refine Jp.qak 47 rfl (qab rfl rfl rfl rfl) rfl rfl Kp.true ?_
  refine Jp.y 48 rfl (qaa rfl) rfl rfl Kp.true (Y.qat rfl rfl rfl) ?_
  refine Jp.qae hK5 ?_
  refine Cd.qcw rfl ?_
  refine Cd.seq fun K10 hK10=>?_
  refine Cd.qac [(0,false)] rfl rfl ?_
  refine Jp.y 8 rfl (qaa rfl) rfl rfl Kp.true (Y.assign rfl rfl) ?_
  refine Jp.qae hK10 ?_
  refine Cd.ret [] rfl (qba rfl rfl) trivial ⟨rfl,rfl⟩
 try simp only [sG0] at g45
 refine Jp.y 46 rfl (qab rfl rfl rfl rfl) rfl rfl Kp.true (Y.move rfl rfl) ?_
 refine Jp.y 47 rfl (qab rfl rfl rfl rfl) rfl rfl Kp.true (Y.gtr rfl rfl rfl) ?_
 refine Jp.y 48 rfl (qaa rfl) rfl rfl Kp.true (Y.qao rfl rfl rfl) ?_
 refine Jp.qae hK5 ?_
 refine Cd.qal rfl (fun g48=>?_) (fun g48=>?_)
 ·skip
  refine Cd.seq fun K11 hK11=>?_
  refine Cd.qac [(0,false)] rfl rfl ?_
  refine Jp.y 8 rfl (qaa rfl) rfl rfl Kp.true (Y.assign rfl rfl) ?_
  refine Jp.qae hK11 ?_
  refine Cd.ret [] rfl (qba rfl rfl) trivial ⟨rfl,rfl⟩
 try simp only [sG0] at g48
 refine Cd.qbi hK4 ?_
 refine Cd.seq fun K12 hK12=>?_
 refine Cd.qac [(0,false),(1,false),(2,false),(3,false)] rfl rfl ?_
 have hn1 : 1 ≤ n ∧ n ≤ 20:=by omega
 have hrt0 : 0 ≤ s.ret ∧ s.ret ≤ 1099511627776:=by omega
 have hOk : StOk s:=hc.ok (by omega)
 refine Jp.y 49 rfl (qaa rfl) rfl rfl Kp.true (Y.move rfl rfl) ?_
 refine Jp.y 50 rfl (qaa rfl) rfl rfl Kp.true (Y.move rfl rfl) ?_
 refine Jp.call [] [0] (made12_spec A c xs dA dc bs hs) 51 rfl (qaa rfl) rfl rfl (Runs.fn rfl call5 rfl) (by decide) (by decide) rfl ⟨hr,hrd⟩ ?_
 rintro v2 ρ2 L2 ⟨b,rfl,rfl⟩
 refine ⟨rfl,fun hle2=>⟨Kp.true,?_⟩⟩
 have hml:=madeD_len xs bs
 obtain ⟨M,hM⟩ : ∃ M,madeD xs bs = M:=⟨_,rfl⟩
 rw [hM] at hml ⊢
 clear hM
 refine Jp.know (A:=qeg b M) 0 rfl qgh fun hmem=>?_
 refine Jp.y 9 rfl (qaa rfl) rfl rfl Kp.true (Y.assign rfl rfl) ?_
 refine Jp.qae hK12 ?_
 refine Cd.seq fun K13 hK13=>?_
 refine Cd.qac [(0,false),(1,false),(2,false)] rfl rfl ?_
 refine Jp.y 52 rfl (qaa rfl) rfl rfl Kp.true (Y.move rfl rfl) ?_
 refine Jp.call [0] [0,2,3] (qgi b M 50 (sorts12 _ hml)) 53 rfl (qaa rfl) rfl rfl (Runs.fn rfl call6 rfl) (by decide) (by decide) rfl trivial ?_
 rintro v3 ρ3 L3 ⟨b2,PA,pcap,rfl,rfl⟩
 refine ⟨rfl,fun hle3=>⟨Kp.true,?_⟩⟩
 refine Jp.y 10 rfl (qaa rfl) rfl rfl Kp.true (Y.assign rfl rfl) ?_
 refine Jp.qae hK13 ?_
 refine Cd.seq fun K14 hK14=>?_
 refine Cd.qac [(0,false),(1,false),(2,false)] rfl rfl ?_
 obtain ⟨W,hW⟩ : ∃ W : MemG,W = ⟨50,M.pages,fun _=>0⟩:=⟨_,rfl⟩
 have hWp : W.pages = M.pages:=by rw [hW]
 have hWok : MemOk W:=by
  rw [hW]
  exact ⟨hmem.rising,hmem.page,fun _=>(by decide : 0 < 4294967296),(show M.pages.length ≤ 50 by omega),(by decide : 1 ≤ 50 ∧ 50 ≤ 4096)⟩
 refine Jp.make 4 (A:=OwnS 133 2 none 0 0 []) (OwnS.nil _ _ _) ?_
 refine Jp.refClose (b:=b2) (M:=W) (A:=PA) (c:=pcap) (B:=none) (d':=0) (g:=[]) 2 3 4 (by decide) ⟨hWok,⟨fun _=>by rw [hW]; rfl,List.nodup_nil,fun y h=>(List.not_mem_nil h).elim⟩⟩ (by rw [hW]; rfl) (by rw [hWp]; rfl) rfl ?_
 clear hW hWok
 refine Jp.y 54 rfl (qaa rfl) rfl rfl Kp.true (by exact Y.qai 6 rfl isAgg27 sizeOf27 rfl rfl (by first | rfl | assumption)) ?_
 refine Jp.alloc 11 11 rfl (qaa rfl) rfl rfl rfl zeroValue27 fun b11=>⟨Kp.true,?_⟩
 refine Jp.qaf 11 rfl (qaa rfl) rfl rfl sizeOf27 rfl rfl (by first | rfl | assumption) (by first | rfl | assumption) rfl (by first | rfl | assumption) (fun k _ _=>qam k) Kp.true ?_
 refine Jp.qae hK14 ?_
 refine Cd.seq fun K15 hK15=>?_
 refine Cd.seq fun K16 hK16=>?_
 refine Cd.qac [(0,false)] rfl rfl ?_
 refine Jp.y 12 rfl (qaa rfl) rfl rfl Kp.true (Y.assign rfl rfl) ?_
 refine Jp.qae hK16 ?_
 refine Cd.block ?_
 refine Cd.qdw (G:=Nat × StP × MemG × MemG) (fun g=>(g.1 ≤ 20 ∧ StOk g.2.1 ∧ g.2.1.ret ≤ 1099511627776 + g.1) ∧ g.2.2.1.pages.length ≤ 12 ∧ g.2.2.2.pages = g.2.2.1.pages) (fun g=>20 - g.1) (fun _=>_) (fun g=>[(12,.int .i64 (g.1 : Int))]) [(3,_),(6,_),(9,_),(10,_),(11,_)] (fun g=>[(6,Pt b6 (.cells g.2.1.cells.toArray 27)),(11,Pt b11 (.cells g.2.1.cells.toArray 27)),(0,qeg b g.2.2.1),(2,RefO b2 g.2.2.2)]) [] ⟨0,s,M,W⟩ ⟨⟨Nat.zero_le 20,hOk,by (show s.ret ≤ 1099511627776 + ((0 : Nat) : Int)); omega⟩,hml,hWp⟩ rfl ⟨rfl,trivial⟩ ⟨rfl,rfl,rfl,rfl,rfl,trivial⟩ ⟨rfl,rfl,rfl,rfl,trivial⟩ trivial (fun g KLa hok hLa=>?_)
 obtain ⟨i,s,M,W⟩:=g
 obtain ⟨⟨ok1,hOk,ok3⟩,hml,hWp⟩:=hok
 dsimp only at ok1 hOk ok3 hml hWp ⊢
 refine Cd.seq fun K17 hK17=>?_
 refine Cd.seq fun K18 hK18=>?_
 refine Cd.qac [(0,false),(1,false),(2,false)] rfl rfl ?_
 refine Jp.y 55 rfl (qaa rfl) rfl rfl Kp.true (Y.move rfl rfl) ?_
 refine Jp.y 56 rfl (qaa rfl) rfl rfl Kp.true (Y.move rfl rfl) ?_
 refine Jp.y 57 rfl (qaa rfl) rfl rfl Kp.true (Y.lss rfl rfl rfl) ?_
 refine Jp.qae hK18 ?_
 refine Cd.qal rfl (fun ga=>?_) (fun ga=>?_)
 ·have hi : i < 20:=by simp at ga; omega
  have hl:=StP.len hOk
  have ho:=StP.one s
  have hF:=fetch_spec b M s.pc hOk.pc (qdu M s.pc 4 (by omega) 4)
  have hG:=qge b2 W s.pc hOk.pc
  rw [fetchP_pg hWp] at hG
  have hI:=fetchP_ok M s.pc
  have hS:=step_spec b M s hOk
  have hT:=refStep_spec b2 W s hOk
  obtain ⟨t1,t2,t3⟩:=stepP_pg hWp s
  rw [t1,t2] at hT
  have hu:=stepP_ok (M:=M) hOk (by omega)
  have hur:=(stepP_ret (M:=M) (s:=s)).1
  have hml':=stepP_pages M s
  obtain ⟨W',hW'⟩ : ∃ W',(qdc W s).2.2 = W':=⟨_,rfl⟩
  rw [hW'] at hT t3
  obtain ⟨F,hFe⟩ : ∃ F,qbw M s.pc = F:=⟨_,rfl⟩
  rw [hFe] at hF hG hI
  obtain ⟨ii,ev⟩:=F
  obtain ⟨kd,ead,wy⟩:=ev
  dsimp only at hF hG hI
  have hA:=qdy ii s hOk hI
  have hB:=refAddress_spec ii s hOk hI
  obtain ⟨D,hD⟩ : ∃ D,qdc M s = D:=⟨_,rfl⟩
  rw [hD] at hS hT hu hur hml' t3
  obtain ⟨u,e2,M'⟩:=D
  dsimp only at hS hT hu hur hml' t3
  have hul:=StP.len hu
  have huo:=StP.one u
  have hel : e2.cells.length = 3:=rfl
  have heo : e2.cells.all one = true:=by unfold EvP.cells; simp [one]
  clear hD hFe hW'
  obtain ⟨op,rd,r1,r2,imm⟩:=ii
  refine Cd.qbi hK17 ?_
  refine Cd.seq fun K19 hK19=>?_
  refine Cd.block ?_
  refine Cd.seq fun K20 hK20=>?_
  refine Cd.qac [(0,false),(1,false),(2,false),(3,false),(4,false),(5,false),(6,false),(7,false),(8,false),(9,false),(10,false)] rfl rfl ?_
  refine Jp.y 61 rfl (qaa rfl) rfl rfl Kp.true (Y.move rfl rfl) ?_
  refine Jp.y 62 rfl (qaa rfl) rfl rfl Kp.true (by exact Y.qad rfl rfl underlying27 rfl sizeOf24 (by decide) (show _ + 32 = _ from rfl)) ?_
  refine Jp.y 63 rfl (qaa rfl) rfl rfl Kp.true (by exact Y.qbs 6 rfl isAgg24 rfl rfl (HasC.pt (StP.cPc hOk))) ?_
  refine Jp.call [0] [0] hF 64 rfl (qaa rfl) rfl rfl (Runs.fn rfl call7 rfl) (by decide) (by decide) rfl trivial ?_
  rintro v4 ρ4 L4 ⟨rfl,rfl,rfl⟩
  refine ⟨rfl,fun hle4=>⟨Kp.true,?_⟩⟩
  refine Jp.y 60 rfl (qaa rfl) rfl rfl Kp.true (Y.move rfl rfl) ?_
  refine Jp.y 65 rfl (qaa rfl) rfl rfl Kp.true (Y.extract rfl rfl rfl) ?_
  refine Jp.y 66 rfl (qaa rfl) rfl rfl Kp.true (Y.extract rfl rfl rfl) ?_
  refine Jp.alloc 13 13 rfl (qaa rfl) rfl rfl rfl zeroValue34 fun b13=>⟨Kp.true,?_⟩
  refine Jp.alloc 14 14 rfl (qaa rfl) rfl rfl rfl zeroValue37 fun b14=>⟨Kp.true,?_⟩
  refine Jp.qaf 13 rfl (qaa rfl) rfl rfl sizeOf34 rfl rfl (by first | rfl | assumption) (by first | rfl | assumption) rfl (by first | rfl | assumption) (fun k _ _=>qam k) Kp.true ?_
  refine Jp.qaf 14 rfl (qaa rfl) rfl rfl sizeOf37 rfl rfl (by first | rfl | assumption) (by first | rfl | assumption) rfl (by first | rfl | assumption) (fun k _ _=>qam k) Kp.true ?_
  refine Jp.qae hK20 ?_
  refine Cd.seq fun K21 hK21=>?_
  refine Cd.qac [(0,false),(1,false),(2,false),(3,false),(4,false),(5,false),(6,false),(7,false),(8,false),(9,false),(10,false)] rfl rfl ?_
  refine Jp.y 68 rfl (qaa rfl) rfl rfl Kp.true (Y.move rfl rfl) ?_
  refine Jp.y 69 rfl (qaa rfl) rfl rfl Kp.true (by exact Y.qad rfl rfl underlying27 rfl sizeOf24 (by decide) (show _ + 32 = _ from rfl)) ?_
  refine Jp.y 70 rfl (qaa rfl) rfl rfl Kp.true (by exact Y.qbs 11 rfl isAgg24 rfl rfl (HasC.pt (StP.cPc hOk))) ?_
  refine Jp.call [2] [2] hG 71 rfl (qaa rfl) rfl rfl (Runs.fn rfl call8 rfl) (by decide) (by decide) rfl trivial ?_
  rintro v5 ρ5 L5 ⟨rfl,rfl,rfl⟩
  refine ⟨rfl,fun hle5=>⟨Kp.true,?_⟩⟩
  refine Jp.y 67 rfl (qaa rfl) rfl rfl Kp.true (Y.move rfl rfl) ?_
  refine Jp.y 72 rfl (qaa rfl) rfl rfl Kp.true (Y.extract rfl rfl rfl) ?_
  refine Jp.y 73 rfl (qaa rfl) rfl rfl Kp.true (Y.extract rfl rfl rfl) ?_
  refine Jp.alloc 15 15 rfl (qaa rfl) rfl rfl rfl zeroValue40 fun b15=>⟨Kp.true,?_⟩
  refine Jp.alloc 16 16 rfl (qaa rfl) rfl rfl rfl zeroValue37 fun b16=>⟨Kp.true,?_⟩
  refine Jp.qaf 15 rfl (qaa rfl) rfl rfl sizeOf40 rfl rfl (by first | rfl | assumption) (by first | rfl | assumption) rfl (by first | rfl | assumption) (fun k _ _=>qam k) Kp.true ?_
  refine Jp.qaf 16 rfl (qaa rfl) rfl rfl sizeOf37 rfl rfl (by first | rfl | assumption) (by first | rfl | assumption) rfl (by first | rfl | assumption) (fun k _ _=>qam k) Kp.true ?_
  refine Jp.qae hK21 ?_
  refine Cd.seq fun K22 hK22=>?_
  refine Cd.seq fun K23 hK23=>?_
  refine Cd.drawn [(6,_),(11,_),(13,_),(14,_),(15,_),(16,_)] ⟨rfl,rfl,rfl,rfl,rfl,rfl,trivial⟩ [(0,true),(1,true),(2,true),(3,true),(4,true),(5,true),(6,true),(7,true),(8,true),(9,true),(10,true),(11,true),(12,true),(13,true),(14,true),(15,true),(16,true),(17,true),(18,true),(19,true),(20,true),(21,true),(22,true),(23,true),(24,true),(25,true),(26,true),(27,true),(28,true),(29,true),(30,true),(31,true),(32,true),(33,true),(34,true),(35,true),(36,true),(37,true),(38,true),(39,true),(40,true),(41,true),(42,true),(43,true),(44,true),(46,true),(47,true),(45,false),(48,false),(49,true),(50,true),(51,true)] follows (by kernel_rfl) (fun hrl=>?_)
  refine Jp.q 74 rfl (qaa rfl) rfl rfl (by exact Y.qai 14 rfl isAgg37 sizeOf37 rfl rfl (by first | rfl | assumption)) ?_
  refine Jp.q 75 rfl (qaa rfl) rfl rfl (by exact Y.qai 16 rfl isAgg37 sizeOf37 rfl rfl (by first | rfl | assumption)) ?_
  refine Jp.q 76 rfl (qaa rfl) rfl rfl (Y.neqS (xs:=(EvP.mk kd ead wy).cells.toArray) (ys:=(EvP.mk kd ead wy).cells.toArray) (r:=true) rfl rfl rfl ev_guard qgm ev_stood (fun w=>by rw [ev_eq,(evEq_iff _ _).2 rfl])) ?_
  refine Jp.slot 76 rfl (show _ = Value.bool false from rfl) ?_
  refine Jp.q 77 rfl (qaa rfl) rfl rfl (Y.move rfl rfl) ?_
  refine Jp.slot 77 rfl (show _ = Value.bool false from rfl) ?_
  refine Jp.q 78 rfl (qab rfl rfl rfl rfl) rfl rfl (by exact Y.qad rfl rfl underlying34 rfl sizeOf3 (by decide) (show _ + 0 = _ from rfl)) ?_
  refine Jp.q 79 rfl (qab rfl rfl rfl rfl) rfl rfl (by exact Y.qaq 13 rfl isAgg3 rfl rfl rfl) ?_
  refine Jp.q 80 rfl (qab rfl rfl rfl rfl) rfl rfl (by exact Y.qad rfl rfl underlying40 rfl sizeOf3 (by decide) (show _ + 0 = _ from rfl)) ?_
  refine Jp.q 81 rfl (qab rfl rfl rfl rfl) rfl rfl (by exact Y.qaq 15 rfl isAgg3 rfl rfl rfl) ?_
  refine Jp.q 82 rfl (qab rfl rfl rfl rfl) rfl rfl (Y.neq rfl rfl rfl) ?_
  refine Jp.q 83 rfl (qaa rfl) rfl rfl (Y.qao rfl rfl rfl) ?_
  refine Jp.slot 83 rfl (show _ = Value.bool false from congrArg Value.bool (by simp)) ?_
  refine Jp.q 84 rfl (qaa rfl) rfl rfl (Y.move rfl rfl) ?_
  refine Jp.slot 84 rfl (show _ = Value.bool false from rfl) ?_
  refine Jp.q 85 rfl (qab rfl rfl rfl rfl) rfl rfl (by exact Y.qad rfl rfl underlying34 rfl sizeOf3 (by decide) (show _ + 1 = _ from rfl)) ?_
  refine Jp.q 86 rfl (qab rfl rfl rfl rfl) rfl rfl (by exact Y.qaq 13 rfl isAgg3 rfl rfl rfl) ?_
  refine Jp.q 87 rfl (qab rfl rfl rfl rfl) rfl rfl (by exact Y.qad rfl rfl underlying40 rfl sizeOf3 (by decide) (show _ + 1 = _ from rfl)) ?_
  refine Jp.q 88 rfl (qab rfl rfl rfl rfl) rfl rfl (by exact Y.qaq 15 rfl isAgg3 rfl rfl rfl) ?_
  refine Jp.q 89 rfl (qab rfl rfl rfl rfl) rfl rfl (Y.neq rfl rfl rfl) ?_
  refine Jp.q 90 rfl (qaa rfl) rfl rfl (Y.qao rfl rfl rfl) ?_
  refine Jp.slot 90 rfl (show _ = Value.bool false from congrArg Value.bool (by simp)) ?_
  refine Jp.q 91 rfl (qaa rfl) rfl rfl (Y.move rfl rfl) ?_
  refine Jp.slot 91 rfl (show _ = Value.bool false from rfl) ?_
  refine Jp.q 92 rfl (qab rfl rfl rfl rfl) rfl rfl (by exact Y.qad rfl rfl underlying34 rfl sizeOf3 (by decide) (show _ + 2 = _ from rfl)) ?_
  refine Jp.q 93 rfl (qab rfl rfl rfl rfl) rfl rfl (by exact Y.qaq 13 rfl isAgg3 rfl rfl rfl) ?_
  refine Jp.q 94 rfl (qab rfl rfl rfl rfl) rfl rfl (by exact Y.qad rfl rfl underlying40 rfl sizeOf3 (by decide) (show _ + 2 = _ from rfl)) ?_
  refine Jp.q 95 rfl (qab rfl rfl rfl rfl) rfl rfl (by exact Y.qaq 15 rfl isAgg3 rfl rfl rfl) ?_
  refine Jp.q 96 rfl (qab rfl rfl rfl rfl) rfl rfl (Y.neq rfl rfl rfl) ?_
  refine Jp.q 97 rfl (qaa rfl) rfl rfl (Y.qao rfl rfl rfl) ?_
  refine Jp.slot 97 rfl (show _ = Value.bool false from congrArg Value.bool (by simp)) ?_
  refine Jp.q 98 rfl (qaa rfl) rfl rfl (Y.move rfl rfl) ?_
  refine Jp.slot 98 rfl (show _ = Value.bool false from rfl) ?_
  refine Jp.q 99 rfl (qab rfl rfl rfl rfl) rfl rfl (by exact Y.qad rfl rfl underlying34 rfl sizeOf3 (by decide) (show _ + 3 = _ from rfl)) ?_
  refine Jp.q 100 rfl (qab rfl rfl rfl rfl) rfl rfl (by exact Y.qaq 13 rfl isAgg3 rfl rfl rfl) ?_
  refine Jp.q 101 rfl (qab rfl rfl rfl rfl) rfl rfl (by exact Y.qad rfl rfl underlying40 rfl sizeOf3 (by decide) (show _ + 3 = _ from rfl)) ?_
  refine Jp.q 102 rfl (qab rfl rfl rfl rfl) rfl rfl (by exact Y.qaq 15 rfl isAgg3 rfl rfl rfl) ?_
  refine Jp.q 103 rfl (qab rfl rfl rfl rfl) rfl rfl (Y.neq rfl rfl rfl) ?_
  refine Jp.q 104 rfl (qaa rfl) rfl rfl (Y.qao rfl rfl rfl) ?_
  refine Jp.slot 104 rfl (show _ = Value.bool false from congrArg Value.bool (by simp)) ?_
  refine Jp.q 105 rfl (qaa rfl) rfl rfl (Y.move rfl rfl) ?_
  refine Jp.slot 105 rfl (show _ = Value.bool false from rfl) ?_
  refine Jp.q 106 rfl (qab rfl rfl rfl rfl) rfl rfl (by exact Y.qad rfl rfl underlying34 rfl sizeOf21 (by decide) (show _ + 4 = _ from rfl)) ?_
  refine Jp.q 107 rfl (qab rfl rfl rfl rfl) rfl rfl (by exact Y.qaq 13 rfl isAgg21 rfl rfl rfl) ?_
  refine Jp.q 108 rfl (qab rfl rfl rfl rfl) rfl rfl (by exact Y.qad rfl rfl underlying40 rfl sizeOf21 (by decide) (show _ + 4 = _ from rfl)) ?_
  refine Jp.q 109 rfl (qab rfl rfl rfl rfl) rfl rfl (by exact Y.qaq 15 rfl isAgg21 rfl rfl rfl) ?_
  refine Jp.q 110 rfl (qab rfl rfl rfl rfl) rfl rfl (Y.neq rfl rfl rfl) ?_
  refine Jp.q 111 rfl (qaa rfl) rfl rfl (Y.qao rfl rfl rfl) ?_
  refine Jp.slot 111 rfl (show _ = Value.bool false from congrArg Value.bool (by simp)) ?_
  refine Jp.q 112 rfl (qaa rfl) rfl rfl (Y.move rfl rfl) ?_
  refine Jp.slot 112 rfl (show _ = Value.bool false from rfl) ?_
  by_cases hk : kd = 0
  ·subst hk
   refine Jp.q 113 rfl (qab rfl rfl rfl rfl) rfl rfl (by exact Y.qad rfl rfl underlying37 rfl sizeOf3 (by decide) (show _ + 0 = _ from rfl)) ?_
   refine Jp.q 114 rfl (qab rfl rfl rfl rfl) rfl rfl (by exact Y.qaq 14 rfl isAgg3 rfl rfl rfl) ?_
   refine Jp.q 115 rfl (qab rfl rfl rfl rfl) rfl rfl (Y.eql rfl rfl rfl) ?_
   refine Jp.q 116 rfl (qab rfl rfl rfl rfl) rfl rfl (Y.move rfl rfl) ?_
   refine Jp.slot 116 rfl (show _ = Value.bool true from congrArg Value.bool (by simp)) ?_
   refine Jp.q 117 rfl (qab rfl rfl rfl rfl) rfl rfl (by exact Y.qai 13 rfl isAgg34 sizeOf34 rfl rfl (by first | rfl | assumption)) ?_
   refine Jp.q 118 rfl (qab rfl rfl rfl rfl) rfl rfl (by exact Y.qai 6 rfl isAgg27 sizeOf27 rfl rfl (by first | rfl | assumption)) ?_
   refine Jp.q 120 rfl (qab rfl rfl rfl rfl) rfl rfl (by exact Y.qai 15 rfl isAgg40 sizeOf40 rfl rfl (by first | rfl | assumption)) ?_
   refine Jp.q 121 rfl (qab rfl rfl rfl rfl) rfl rfl (by exact Y.qai 11 rfl isAgg27 sizeOf27 rfl rfl (by first | rfl | assumption)) ?_
   refine Jp.call [] [] hA 119 rfl (qab rfl rfl rfl rfl) rfl rfl (Runs.fn rfl call9 rfl) (by decide) (by decide) rfl trivial ?_
   rintro v6 ρ6 L6 ⟨rfl,rfl,rfl⟩
   refine ⟨rfl,fun hle6=>⟨(Kp.st ⟨rfl,rfl,rfl,rfl,rfl,rfl,trivial⟩),?_⟩⟩
   refine Jp.call [] [] hB 122 rfl (qab rfl rfl rfl rfl) rfl rfl (Runs.fn rfl call10 rfl) (by decide) (by decide) rfl trivial ?_
   rintro v7 ρ7 L7 ⟨rfl,rfl,rfl⟩
   refine ⟨rfl,fun hle7=>⟨(Kp.st ⟨rfl,rfl,rfl,rfl,rfl,rfl,trivial⟩),?_⟩⟩
   refine Jp.q 123 rfl (qab rfl rfl rfl rfl) rfl rfl (Y.neq rfl rfl rfl) ?_
   refine Jp.q 124 rfl (qab rfl rfl rfl rfl) rfl rfl (Y.qat rfl rfl rfl) ?_
   refine Jp.slot 124 rfl (show _ = Value.bool false from congrArg Value.bool (by simp)) ?_
   refine Jp.q 125 rfl (qaa rfl) rfl rfl (Y.qao rfl rfl rfl) ?_
   refine Jp.slot 125 rfl (show _ = Value.bool false from rfl) ?_
   refine Jp.qae hK23 ?_
   refine Cd.qbg rfl ?_
   refine Cd.qbi hK22 ?_
   refine Cd.seq fun K25 hK25=>?_
   refine Cd.qac [(0,false),(1,false),(2,false),(3,false),(4,false),(5,false),(6,false),(7,false),(8,false),(9,false)] rfl rfl ?_
   refine Jp.y 127 rfl (qaa rfl) rfl rfl Kp.true (Y.move rfl rfl) ?_
   refine Jp.y 128 rfl (qaa rfl) rfl rfl Kp.true (by exact Y.qai 6 rfl isAgg27 sizeOf27 rfl rfl (by first | rfl | assumption)) ?_
   refine Jp.call [0] [0] hS 129 rfl (qaa rfl) rfl rfl (Runs.fn rfl call11 rfl) (by decide) (by decide) rfl trivial ?_
   rintro v8 ρ8 L8 ⟨rfl,rfl,rfl⟩
   refine ⟨rfl,fun hle8=>⟨Kp.true,?_⟩⟩
   refine Jp.y 126 rfl (qaa rfl) rfl rfl Kp.true (Y.move rfl rfl) ?_
   refine Jp.y 130 rfl (qaa rfl) rfl rfl Kp.true (Y.extract rfl rfl rfl) ?_
   refine Jp.y 131 rfl (qaa rfl) rfl rfl Kp.true (Y.extract rfl rfl rfl) ?_
   refine Jp.alloc 17 17 rfl (qaa rfl) rfl rfl rfl zeroValue27 fun b17=>⟨Kp.true,?_⟩
   refine Jp.alloc 18 18 rfl (qaa rfl) rfl rfl rfl zeroValue37 fun b18=>⟨Kp.true,?_⟩
   refine Jp.qaf 17 rfl (qaa rfl) rfl rfl sizeOf27 rfl rfl (by first | rfl | assumption) (by first | rfl | assumption) rfl (by first | rfl | assumption) (fun k _ _=>qam k) Kp.true ?_
   refine Jp.qaf 18 rfl (qaa rfl) rfl rfl sizeOf37 rfl rfl (by first | rfl | assumption) (by first | rfl | assumption) rfl (by first | rfl | assumption) (fun k _ _=>qam k) Kp.true ?_
   refine Jp.qae hK25 ?_
   refine Cd.seq fun K26 hK26=>?_
   refine Cd.qac [(0,false),(1,false),(2,false),(3,false),(4,false),(5,false),(6,false),(7,false),(8,false),(9,false)] rfl rfl ?_
   refine Jp.y 133 rfl (qaa rfl) rfl rfl Kp.true (Y.move rfl rfl) ?_
   refine Jp.y 134 rfl (qaa rfl) rfl rfl Kp.true (by exact Y.qai 11 rfl isAgg27 sizeOf27 rfl rfl (by first | rfl | assumption)) ?_
   refine Jp.call [2] [2] hT 135 rfl (qaa rfl) rfl rfl (Runs.fn rfl call12 rfl) (by decide) (by decide) rfl trivial ?_
   rintro v9 ρ9 L9 ⟨rfl,rfl,rfl⟩
   refine ⟨rfl,fun hle9=>⟨Kp.true,?_⟩⟩
   refine Jp.y 132 rfl (qaa rfl) rfl rfl Kp.true (Y.move rfl rfl) ?_
   refine Jp.y 136 rfl (qaa rfl) rfl rfl Kp.true (Y.extract rfl rfl rfl) ?_
   refine Jp.y 137 rfl (qaa rfl) rfl rfl Kp.true (Y.extract rfl rfl rfl) ?_
   refine Jp.alloc 19 19 rfl (qaa rfl) rfl rfl rfl zeroValue27 fun b19=>⟨Kp.true,?_⟩
   refine Jp.alloc 20 20 rfl (qaa rfl) rfl rfl rfl zeroValue37 fun b20=>⟨Kp.true,?_⟩
   refine Jp.qaf 19 rfl (qaa rfl) rfl rfl sizeOf27 rfl rfl (by first | rfl | assumption) (by first | rfl | assumption) rfl (by first | rfl | assumption) (fun k _ _=>qam k) Kp.true ?_
   refine Jp.qaf 20 rfl (qaa rfl) rfl rfl sizeOf37 rfl rfl (by first | rfl | assumption) (by first | rfl | assumption) rfl (by first | rfl | assumption) (fun k _ _=>qam k) Kp.true ?_
   refine Jp.qae hK26 ?_
   refine Cd.seq fun K27 hK27=>?_
   refine Cd.seq fun K28 hK28=>?_
   refine Cd.qac [(0,false),(1,false),(2,false),(3,false),(4,false),(5,false),(6,false),(7,false)] rfl rfl ?_
   refine Jp.y 138 rfl (qaa rfl) rfl rfl Kp.true (by exact Y.qai 18 rfl isAgg37 sizeOf37 rfl rfl (by first | rfl | assumption)) ?_
   refine Jp.y 139 rfl (qaa rfl) rfl rfl Kp.true (by exact Y.qai 20 rfl isAgg37 sizeOf37 rfl rfl (by first | rfl | assumption)) ?_
   refine Jp.y 140 rfl (qaa rfl) rfl rfl Kp.true (Y.neqS (xs:=e2.cells.toArray) (ys:=e2.cells.toArray) (r:=true) rfl rfl rfl ev_guard qgm ev_stood (fun w=>by rw [ev_eq,(evEq_iff _ _).2 rfl])) ?_
   refine Jp.slot 140 rfl (show _ = Value.bool false from rfl) ?_
   refine Jp.y 141 rfl (qaa rfl) rfl rfl Kp.true (Y.move rfl rfl) ?_
   refine Jp.slot 141 rfl (show _ = Value.bool false from rfl) ?_
   refine Jp.y 142 rfl (qab rfl rfl rfl rfl) rfl rfl Kp.true (by exact Y.qai 17 rfl isAgg27 sizeOf27 rfl rfl (by first | rfl | assumption)) ?_
   refine Jp.y 143 rfl (qab rfl rfl rfl rfl) rfl rfl Kp.true (by exact Y.qai 19 rfl isAgg27 sizeOf27 rfl rfl (by first | rfl | assumption)) ?_
   refine Jp.y 144 rfl (qab rfl rfl rfl rfl) rfl rfl Kp.true (Y.neqS (xs:=u.cells.toArray) (ys:=u.cells.toArray) (r:=true) rfl rfl rfl st_guard st_fields st_stood (fun w=>by rw [st_eq u u hu.len hu.len w,(stEq_iff _ _).2 rfl])) ?_
   refine Jp.slot 144 rfl (show _ = Value.bool false from rfl) ?_
   refine Jp.y 145 rfl (qaa rfl) rfl rfl Kp.true (Y.qao rfl rfl rfl) ?_
   refine Jp.slot 145 rfl (show _ = Value.bool false from rfl) ?_
   refine Jp.qae hK28 ?_
   refine Cd.qbg rfl ?_
   refine Cd.qbi hK27 ?_
   refine Cd.seq fun K29 hK29=>?_
   refine Cd.drawn [(17,_),(18,_),(19,_),(20,_)] ⟨rfl,rfl,rfl,rfl,trivial⟩ [(0,true),(1,true),(2,false),(3,false)] follows (by kernel_rfl) (fun hrl=>?_)
   refine Jp.q 146 rfl (qaa rfl) rfl rfl (by exact Y.qai 17 rfl isAgg27 sizeOf27 rfl rfl (by first | rfl | assumption)) ?_
   refine Jp.q 147 rfl (qaa rfl) rfl rfl (by exact Y.qai 19 rfl isAgg27 sizeOf27 rfl rfl (by first | rfl | assumption)) ?_
   refine Jp.qaf 6 rfl (qaa rfl) rfl rfl sizeOf27 rfl rfl (by first | rfl | assumption) (by first | rfl | assumption) rfl (by first | rfl | assumption) (fun k _ _=>qam k) (Kp.st ⟨rfl,rfl,rfl,rfl,trivial⟩) ?_
   refine Jp.qaf 11 rfl (qaa rfl) rfl rfl sizeOf27 rfl rfl (by first | rfl | assumption) (by first | rfl | assumption) rfl (by first | rfl | assumption) (fun k _ _=>qam k) Kp.last ?_
   refine Jp.qae hK29 ?_
   refine Cd.seq fun K31 hK31=>?_
   refine Cd.qac [(0,false),(1,false),(2,false)] rfl rfl ?_
   refine Jp.y 148 rfl (qaa rfl) rfl rfl Kp.true (by exact Y.qad rfl rfl underlying37 rfl sizeOf3 (by decide) (show _ + 0 = _ from rfl)) ?_
   refine Jp.y 149 rfl (qaa rfl) rfl rfl Kp.true (by exact Y.qaq 18 rfl isAgg3 rfl rfl rfl) ?_
   refine Jp.y 150 rfl (qaa rfl) rfl rfl Kp.true (Y.neq rfl rfl rfl) ?_
   refine Jp.qae hK31 ?_
   have hml2 : M'.pages.length ≤ 12:=by omega
   refine Cd.qal rfl (fun gb=>?_) (fun gb=>?_)
   ·clear hml hWp
    have hml:=hml2
    have hWp:=t3
    obtain ⟨M,hMM⟩ : ∃ M,M' = M:=⟨_,rfl⟩
    obtain ⟨W,hWW⟩ : ∃ W,W' = W:=⟨_,rfl⟩
    rw [hMM] at hml hWp ⊢
    rw [hWW] at hWp ⊢
    refine Cd.know (A:=qeg b M) 0 rfl qgh fun hmem=>?_
    have hpl : ∀ y ∈ M.pages,y.2.b.length = 256:=fun y hy=>(hmem.page y hy).len
    refine Cd.exit rfl hK15 ?_
    refine Cd.seq fun K32 hK32=>?_
    refine Cd.qac [(0,false),(1,false),(2,false),(3,false),(4,false)] rfl rfl ?_
    refine Jp.y 151 rfl (qaa rfl) rfl rfl Kp.true (Y.move rfl rfl) ?_
    refine Jp.call [0] [0,22,23] (qgi b M 50 (sorts12 _ hml)) 152 rfl (qaa rfl) rfl rfl (Runs.fn rfl call6 rfl) (by decide) (by decide) rfl trivial ?_
    rintro v60 ρ60 L60 ⟨b3,PB,pcb,rfl,rfl⟩
    refine ⟨rfl,fun hle60=>⟨Kp.true,?_⟩⟩
    refine Jp.y 153 rfl (qaa rfl) rfl rfl Kp.true (Y.move rfl rfl) ?_
    refine Jp.refOpen 2 24 25 (by decide) rfl fun A c B d' g hf=>?_
    rw [hWp]
    refine Jp.call [22,23,2,24] [] (qex b3 b2 M.pages hpl (by omega) 50 W.budget PB A none B pcb c 0 g.length 0 d') 154 rfl (qaa rfl) rfl rfl (Runs.fn rfl call13 rfl) (by decide) (by decide) rfl trivial ?_
    rintro v61 ρ61 L61 ⟨rfl,rfl,rfl⟩
    refine ⟨rfl,fun hle61=>⟨Kp.true,?_⟩⟩
    refine Jp.y 8 rfl (qaa rfl) rfl rfl Kp.true (Y.assign rfl rfl) ?_
    refine Jp.qae hK32 ?_
    refine Cd.ret [] rfl (qba rfl rfl) trivial ⟨rfl,rfl⟩
   ·skip
    refine Cd.over rfl hK19 ?_
    refine Cd.qac [(0,false),(1,false),(2,false)] rfl rfl ?_
    refine Jp.y 58 rfl (qaa rfl) rfl rfl Kp.true (Y.move rfl rfl) ?_
    refine Jp.y 59 rfl (qaa rfl) rfl rfl Kp.true (Y.qbx rfl rfl rfl (by exact qag (by omega) (by omega))) ?_
    refine Jp.y 12 rfl (qaa rfl) rfl rfl Kp.true (Y.assign rfl rfl) ?_
    rw [show (i : Int) + 1 = ((i + 1 : Nat) : Int) by omega]
    refine Jp.again hLa ⟨i + 1,u,M',W'⟩ ⟨⟨hi,hu,by (show u.ret ≤ 1099511627776 + ((i + 1 : Nat) : Int)); omega⟩,hml2,t3⟩ (by show 20 - (i + 1) < 20 - i; omega) rfl ⟨rfl,rfl,rfl,rfl,rfl,rfl,trivial⟩ ⟨rfl,rfl,rfl,rfl,trivial⟩
  ·skip
   refine Jp.q 113 rfl (qab rfl rfl rfl rfl) rfl rfl (by exact Y.qad rfl rfl underlying37 rfl sizeOf3 (by decide) (show _ + 0 = _ from rfl)) ?_
   refine Jp.q 114 rfl (qab rfl rfl rfl rfl) rfl rfl (by exact Y.qaq 14 rfl isAgg3 rfl rfl rfl) ?_
   refine Jp.q 115 rfl (qab rfl rfl rfl rfl) rfl rfl (Y.eql rfl rfl rfl) ?_
   refine Jp.q 116 rfl (qab rfl rfl rfl rfl) rfl rfl (Y.move rfl rfl) ?_
   refine Jp.slot 116 rfl (show _ = Value.bool false from congrArg Value.bool (by simp; omega)) ?_
   refine Jp.qdt 117 rfl (qab rfl rfl rfl rfl) rfl rfl ?_
   refine Jp.qdt 118 rfl (qab rfl rfl rfl rfl) rfl rfl ?_
   refine Jp.qdt 120 rfl (qab rfl rfl rfl rfl) rfl rfl ?_
   refine Jp.qdt 121 rfl (qab rfl rfl rfl rfl) rfl rfl ?_
   refine Jp.qak 119 rfl (qab rfl rfl rfl rfl) rfl rfl (Kp.st ⟨rfl,rfl,rfl,rfl,rfl,rfl,trivial⟩) ?_
   refine Jp.qak 122 rfl (qab rfl rfl rfl rfl) rfl rfl (Kp.st ⟨rfl,rfl,rfl,rfl,rfl,rfl,trivial⟩) ?_
   refine Jp.qdt 123 rfl (qab rfl rfl rfl rfl) rfl rfl ?_
   refine Jp.q 124 rfl (qab rfl rfl rfl rfl) rfl rfl (Y.qao rfl rfl rfl) ?_
   refine Jp.slot 124 rfl (show _ = Value.bool false from rfl) ?_
   refine Jp.q 125 rfl (qaa rfl) rfl rfl (Y.qao rfl rfl rfl) ?_
   refine Jp.slot 125 rfl (show _ = Value.bool false from rfl) ?_
   refine Jp.qae hK23 ?_
   refine Cd.qbg rfl ?_
   refine Cd.qbi hK22 ?_
   refine Cd.seq fun K33 hK33=>?_
   refine Cd.qac [(0,false),(1,false),(2,false),(3,false),(4,false),(5,false),(6,false),(7,false),(8,false),(9,false)] rfl rfl ?_
   refine Jp.y 127 rfl (qaa rfl) rfl rfl Kp.true (Y.move rfl rfl) ?_
   refine Jp.y 128 rfl (qaa rfl) rfl rfl Kp.true (by exact Y.qai 6 rfl isAgg27 sizeOf27 rfl rfl (by first | rfl | assumption)) ?_
   refine Jp.call [0] [0] hS 129 rfl (qaa rfl) rfl rfl (Runs.fn rfl call11 rfl) (by decide) (by decide) rfl trivial ?_
   rintro v8 ρ8 L8 ⟨rfl,rfl,rfl⟩
   refine ⟨rfl,fun hle8=>⟨Kp.true,?_⟩⟩
   refine Jp.y 126 rfl (qaa rfl) rfl rfl Kp.true (Y.move rfl rfl) ?_
   refine Jp.y 130 rfl (qaa rfl) rfl rfl Kp.true (Y.extract rfl rfl rfl) ?_
   refine Jp.y 131 rfl (qaa rfl) rfl rfl Kp.true (Y.extract rfl rfl rfl) ?_
   refine Jp.alloc 17 17 rfl (qaa rfl) rfl rfl rfl zeroValue27 fun b17=>⟨Kp.true,?_⟩
   refine Jp.alloc 18 18 rfl (qaa rfl) rfl rfl rfl zeroValue37 fun b18=>⟨Kp.true,?_⟩
   refine Jp.qaf 17 rfl (qaa rfl) rfl rfl sizeOf27 rfl rfl (by first | rfl | assumption) (by first | rfl | assumption) rfl (by first | rfl | assumption) (fun k _ _=>qam k) Kp.true ?_
   refine Jp.qaf 18 rfl (qaa rfl) rfl rfl sizeOf37 rfl rfl (by first | rfl | assumption) (by first | rfl | assumption) rfl (by first | rfl | assumption) (fun k _ _=>qam k) Kp.true ?_
   refine Jp.qae hK33 ?_
   refine Cd.seq fun K34 hK34=>?_
   refine Cd.qac [(0,false),(1,false),(2,false),(3,false),(4,false),(5,false),(6,false),(7,false),(8,false),(9,false)] rfl rfl ?_
   refine Jp.y 133 rfl (qaa rfl) rfl rfl Kp.true (Y.move rfl rfl) ?_
   refine Jp.y 134 rfl (qaa rfl) rfl rfl Kp.true (by exact Y.qai 11 rfl isAgg27 sizeOf27 rfl rfl (by first | rfl | assumption)) ?_
   refine Jp.call [2] [2] hT 135 rfl (qaa rfl) rfl rfl (Runs.fn rfl call12 rfl) (by decide) (by decide) rfl trivial ?_
   rintro v9 ρ9 L9 ⟨rfl,rfl,rfl⟩
   refine ⟨rfl,fun hle9=>⟨Kp.true,?_⟩⟩
   refine Jp.y 132 rfl (qaa rfl) rfl rfl Kp.true (Y.move rfl rfl) ?_
   refine Jp.y 136 rfl (qaa rfl) rfl rfl Kp.true (Y.extract rfl rfl rfl) ?_
   refine Jp.y 137 rfl (qaa rfl) rfl rfl Kp.true (Y.extract rfl rfl rfl) ?_
   refine Jp.alloc 19 19 rfl (qaa rfl) rfl rfl rfl zeroValue27 fun b19=>⟨Kp.true,?_⟩
   refine Jp.alloc 20 20 rfl (qaa rfl) rfl rfl rfl zeroValue37 fun b20=>⟨Kp.true,?_⟩
   refine Jp.qaf 19 rfl (qaa rfl) rfl rfl sizeOf27 rfl rfl (by first | rfl | assumption) (by first | rfl | assumption) rfl (by first | rfl | assumption) (fun k _ _=>qam k) Kp.true ?_
   refine Jp.qaf 20 rfl (qaa rfl) rfl rfl sizeOf37 rfl rfl (by first | rfl | assumption) (by first | rfl | assumption) rfl (by first | rfl | assumption) (fun k _ _=>qam k) Kp.true ?_
   refine Jp.qae hK34 ?_
   refine Cd.seq fun K35 hK35=>?_
   refine Cd.seq fun K36 hK36=>?_
   refine Cd.qac [(0,false),(1,false),(2,false),(3,false),(4,false),(5,false),(6,false),(7,false)] rfl rfl ?_
   refine Jp.y 138 rfl (qaa rfl) rfl rfl Kp.true (by exact Y.qai 18 rfl isAgg37 sizeOf37 rfl rfl (by first | rfl | assumption)) ?_
   refine Jp.y 139 rfl (qaa rfl) rfl rfl Kp.true (by exact Y.qai 20 rfl isAgg37 sizeOf37 rfl rfl (by first | rfl | assumption)) ?_
   refine Jp.y 140 rfl (qaa rfl) rfl rfl Kp.true (Y.neqS (xs:=e2.cells.toArray) (ys:=e2.cells.toArray) (r:=true) rfl rfl rfl ev_guard qgm ev_stood (fun w=>by rw [ev_eq,(evEq_iff _ _).2 rfl])) ?_
   refine Jp.slot 140 rfl (show _ = Value.bool false from rfl) ?_
   refine Jp.y 141 rfl (qaa rfl) rfl rfl Kp.true (Y.move rfl rfl) ?_
   refine Jp.slot 141 rfl (show _ = Value.bool false from rfl) ?_
   refine Jp.y 142 rfl (qab rfl rfl rfl rfl) rfl rfl Kp.true (by exact Y.qai 17 rfl isAgg27 sizeOf27 rfl rfl (by first | rfl | assumption)) ?_
   refine Jp.y 143 rfl (qab rfl rfl rfl rfl) rfl rfl Kp.true (by exact Y.qai 19 rfl isAgg27 sizeOf27 rfl rfl (by first | rfl | assumption)) ?_
   refine Jp.y 144 rfl (qab rfl rfl rfl rfl) rfl rfl Kp.true (Y.neqS (xs:=u.cells.toArray) (ys:=u.cells.toArray) (r:=true) rfl rfl rfl st_guard st_fields st_stood (fun w=>by rw [st_eq u u hu.len hu.len w,(stEq_iff _ _).2 rfl])) ?_
   refine Jp.slot 144 rfl (show _ = Value.bool false from rfl) ?_
   refine Jp.y 145 rfl (qaa rfl) rfl rfl Kp.true (Y.qao rfl rfl rfl) ?_
   refine Jp.slot 145 rfl (show _ = Value.bool false from rfl) ?_
   refine Jp.qae hK36 ?_
   refine Cd.qbg rfl ?_
   refine Cd.qbi hK35 ?_
   refine Cd.seq fun K37 hK37=>?_
   refine Cd.drawn [(17,_),(18,_),(19,_),(20,_)] ⟨rfl,rfl,rfl,rfl,trivial⟩ [(0,true),(1,true),(2,false),(3,false)] follows (by kernel_rfl) (fun hrl=>?_)
   refine Jp.q 146 rfl (qaa rfl) rfl rfl (by exact Y.qai 17 rfl isAgg27 sizeOf27 rfl rfl (by first | rfl | assumption)) ?_
   refine Jp.q 147 rfl (qaa rfl) rfl rfl (by exact Y.qai 19 rfl isAgg27 sizeOf27 rfl rfl (by first | rfl | assumption)) ?_
   refine Jp.qaf 6 rfl (qaa rfl) rfl rfl sizeOf27 rfl rfl (by first | rfl | assumption) (by first | rfl | assumption) rfl (by first | rfl | assumption) (fun k _ _=>qam k) (Kp.st ⟨rfl,rfl,rfl,rfl,trivial⟩) ?_
   refine Jp.qaf 11 rfl (qaa rfl) rfl rfl sizeOf27 rfl rfl (by first | rfl | assumption) (by first | rfl | assumption) rfl (by first | rfl | assumption) (fun k _ _=>qam k) Kp.last ?_
   refine Jp.qae hK37 ?_
   refine Cd.seq fun K39 hK39=>?_
   refine Cd.qac [(0,false),(1,false),(2,false)] rfl rfl ?_
   refine Jp.y 148 rfl (qaa rfl) rfl rfl Kp.true (by exact Y.qad rfl rfl underlying37 rfl sizeOf3 (by decide) (show _ + 0 = _ from rfl)) ?_
   refine Jp.y 149 rfl (qaa rfl) rfl rfl Kp.true (by exact Y.qaq 18 rfl isAgg3 rfl rfl rfl) ?_
   refine Jp.y 150 rfl (qaa rfl) rfl rfl Kp.true (Y.neq rfl rfl rfl) ?_
   refine Jp.qae hK39 ?_
   have hml2 : M'.pages.length ≤ 12:=by omega
   refine Cd.qal rfl (fun gb=>?_) (fun gb=>?_)
   ·clear hml hWp
    have hml:=hml2
    have hWp:=t3
    obtain ⟨M,hMM⟩ : ∃ M,M' = M:=⟨_,rfl⟩
    obtain ⟨W,hWW⟩ : ∃ W,W' = W:=⟨_,rfl⟩
    rw [hMM] at hml hWp ⊢
    rw [hWW] at hWp ⊢
    refine Cd.know (A:=qeg b M) 0 rfl qgh fun hmem=>?_
    have hpl : ∀ y ∈ M.pages,y.2.b.length = 256:=fun y hy=>(hmem.page y hy).len
    refine Cd.exit rfl hK15 ?_
    refine Cd.seq fun K40 hK40=>?_
    refine Cd.qac [(0,false),(1,false),(2,false),(3,false),(4,false)] rfl rfl ?_
    refine Jp.y 151 rfl (qaa rfl) rfl rfl Kp.true (Y.move rfl rfl) ?_
    refine Jp.call [0] [0,22,23] (qgi b M 50 (sorts12 _ hml)) 152 rfl (qaa rfl) rfl rfl (Runs.fn rfl call6 rfl) (by decide) (by decide) rfl trivial ?_
    rintro v60 ρ60 L60 ⟨b3,PB,pcb,rfl,rfl⟩
    refine ⟨rfl,fun hle60=>⟨Kp.true,?_⟩⟩
    refine Jp.y 153 rfl (qaa rfl) rfl rfl Kp.true (Y.move rfl rfl) ?_
    refine Jp.refOpen 2 24 25 (by decide) rfl fun A c B d' g hf=>?_
    rw [hWp]
    refine Jp.call [22,23,2,24] [] (qex b3 b2 M.pages hpl (by omega) 50 W.budget PB A none B pcb c 0 g.length 0 d') 154 rfl (qaa rfl) rfl rfl (Runs.fn rfl call13 rfl) (by decide) (by decide) rfl trivial ?_
    rintro v61 ρ61 L61 ⟨rfl,rfl,rfl⟩
    refine ⟨rfl,fun hle61=>⟨Kp.true,?_⟩⟩
    refine Jp.y 8 rfl (qaa rfl) rfl rfl Kp.true (Y.assign rfl rfl) ?_
    refine Jp.qae hK40 ?_
    refine Cd.ret [] rfl (qba rfl rfl) trivial ⟨rfl,rfl⟩
   ·skip
    refine Cd.over rfl hK19 ?_
    refine Cd.qac [(0,false),(1,false),(2,false)] rfl rfl ?_
    refine Jp.y 58 rfl (qaa rfl) rfl rfl Kp.true (Y.move rfl rfl) ?_
    refine Jp.y 59 rfl (qaa rfl) rfl rfl Kp.true (Y.qbx rfl rfl rfl (by exact qag (by omega) (by omega))) ?_
    refine Jp.y 12 rfl (qaa rfl) rfl rfl Kp.true (Y.assign rfl rfl) ?_
    rw [show (i : Int) + 1 = ((i + 1 : Nat) : Int) by omega]
    refine Jp.again hLa ⟨i + 1,u,M',W'⟩ ⟨⟨hi,hu,by (show u.ret ≤ 1099511627776 + ((i + 1 : Nat) : Int)); omega⟩,hml2,t3⟩ (by show 20 - (i + 1) < 20 - i; omega) rfl ⟨rfl,rfl,rfl,rfl,rfl,rfl,trivial⟩ ⟨rfl,rfl,rfl,rfl,trivial⟩
 ·skip
  refine Cd.know (A:=qeg b M) 0 rfl qgh fun hmem=>?_
  have hpl : ∀ y ∈ M.pages,y.2.b.length = 256:=fun y hy=>(hmem.page y hy).len
  refine Cd.exit rfl hK15 ?_
  refine Cd.seq fun K41 hK41=>?_
  refine Cd.qac [(0,false),(1,false),(2,false),(3,false),(4,false)] rfl rfl ?_
  refine Jp.y 151 rfl (qaa rfl) rfl rfl Kp.true (Y.move rfl rfl) ?_
  refine Jp.call [0] [0,22,23] (qgi b M 50 (sorts12 _ hml)) 152 rfl (qaa rfl) rfl rfl (Runs.fn rfl call6 rfl) (by decide) (by decide) rfl trivial ?_
  rintro v60 ρ60 L60 ⟨b3,PB,pcb,rfl,rfl⟩
  refine ⟨rfl,fun hle60=>⟨Kp.true,?_⟩⟩
  refine Jp.y 153 rfl (qaa rfl) rfl rfl Kp.true (Y.move rfl rfl) ?_
  refine Jp.refOpen 2 24 25 (by decide) rfl fun A c B d' g hf=>?_
  rw [hWp]
  refine Jp.call [22,23,2,24] [] (qex b3 b2 M.pages hpl (by omega) 50 W.budget PB A none B pcb c 0 g.length 0 d') 154 rfl (qaa rfl) rfl rfl (Runs.fn rfl call13 rfl) (by decide) (by decide) rfl trivial ?_
  rintro v61 ρ61 L61 ⟨rfl,rfl,rfl⟩
  refine ⟨rfl,fun hle61=>⟨Kp.true,?_⟩⟩
  refine Jp.y 8 rfl (qaa rfl) rfl rfl Kp.true (Y.assign rfl rfl) ?_
  refine Jp.qae hK41 ?_
  refine Cd.ret [] rfl (qba rfl rfl) trivial ⟨rfl,rfl⟩
end Go.Proofs.YthjelpbaljapiaaGreat

namespace Go.Proofs.YthjelpbaljapiaaGreat
open Go Go.ChangeShapes Go.WideShapes Go.ChangeAt Go.RowKit
theorem Rdd.array {P : Program} {w : World} {t e : TypeId} {cs : List Value} {n : Nat} (hu : P.underlying t = some (.array n e)) (h : Rdd P w t cs) :
  cs.length = P.cellsOf t ∧ ∀ i,i < n → Rdd P w e ((cs.drop (i * P.cellsOf e)).take (P.cellsOf e)):=by
 obtain ⟨H,enc,base,spare,held,fuel,d,ps,h,hs⟩:=h
 obtain ⟨xs,m,rfl,h2,h3,h4,h5⟩:=DataW.trod_array hu h
 injection h2 with h2 _
 subst h2
 refine ⟨h3,fun i hi=>?_⟩
 have e1 : xs[i]? = some (xs[i]'(by omega)):=by simp [show i < xs.length by omega]
 refine ⟨H,enc,base,spare,held,m,(xs[i]'(by omega)).1,(xs[i]'(by omega)).2,(h5 i hi).trans e1,fun k hk=>hs k ?_⟩
 rw [DataW.weights,hu]
 exact qfo hk (List.mem_map.2 ⟨_,List.getElem_mem _,rfl⟩)
theorem Rdd.arrI {P : Program} {w : World} {t e : TypeId} {cs : List Value} {n : Nat} {k : IntKind} (hu : P.underlying t = some (.array n e)) (he : P.underlying e = some (.int k)) (hm : P.cellsOf e = 1) (ht : P.cellsOf t = n) (h : Rdd P w t cs) :
  ∃ xs : List Int,cs = xs.map (fun x=>Value.int k x) ∧ xs.length = n ∧ ∀ x ∈ xs,(Lit.int k x).wf = true:=by
 obtain ⟨h1,h2⟩:=Rdd.array hu h
 rw [ht] at h1
 have key : ∀ (cs : List Value),(∀ v ∈ cs,∃ x,v = Value.int k x ∧ (Lit.int k x).wf = true) → ∃ xs : List Int,cs = xs.map (fun x=>Value.int k x) ∧ ∀ x ∈ xs,(Lit.int k x).wf = true:=by
  intro cs
  induction cs with
  | nil=>intro _; exact ⟨[],rfl,fun x h=>by cases h⟩
  | cons v cs ih =>
   intro h
   obtain ⟨x,rfl,hx⟩:=h v (List.mem_cons_self ..)
   obtain ⟨xs,rfl,hxs⟩:=ih fun v hv=>h v (List.mem_cons_of_mem _ hv)
   refine ⟨x :: xs,rfl,fun y hy=>?_⟩
   rcases List.mem_cons.1 hy with rfl | hy
   ·exact hx
   ·exact hxs y hy
 obtain ⟨xs,e1,e2⟩:=key cs fun v hv=>by
  obtain ⟨i,hi,rfl⟩:=List.mem_iff_getElem.1 hv
  have:=h2 i (by omega)
  rw [hm,Nat.mul_one] at this
  have h3 : (cs.drop i).take 1 = [cs[i]]:=by
   rw [List.drop_eq_getElem_cons hi,List.take_succ_cons,List.take_zero]
  rw [h3] at this
  obtain ⟨x,hx,hw⟩:=Rdd.int he this
  injection hx with hx
  exact ⟨x,hx,hw⟩
 exact ⟨xs,e1,by rw [← h1,e1,List.length_map],e2⟩
theorem Rdd.arrN {P : Program} {w : World} {t e : TypeId} {cs : List Value} {n : Nat} {k : IntKind} {N : Nat} (hk : ∀ x : Int,(Lit.int k x).wf = true → 0 ≤ x ∧ x < N) (hu : P.underlying t = some (.array n e)) (he : P.underlying e = some (.int k)) (hm : P.cellsOf e = 1) (ht : P.cellsOf t = n) (h : Rdd P w t cs) :
  ∃ xs : List Nat,cs = xs.map (fun x : Nat=>Value.int k (x : Int)) ∧ xs.length = n ∧ ∀ x ∈ xs,x < N:=by
 obtain ⟨xs,rfl,h1,h2⟩:=Rdd.arrI hu he hm ht h
 refine ⟨xs.map Int.toNat,?_,by rw [List.length_map]; exact h1,fun x hx=>?_⟩
 ·rw [List.map_map]
  refine List.map_congr_left fun x hx=>?_
  have:=hk x (h2 x hx)
  simp only [Function.comp]
  rw [show ((x.toNat : Nat) : Int) = x by omega]
 ·obtain ⟨y,hy,rfl⟩:=List.mem_map.1 hx
  have:=hk y (h2 y hy)
  omega
theorem wfn_u32 (x : Int) (h : (Lit.int .u32 x).wf = true) : 0 ≤ x ∧ x < (4294967296 : Nat):=by
 rw [Lit.wf,Bool.and_eq_true] at h
 have h1 : 0 ≤ x:=of_decide_eq_true h.1
 have h2 : x ≤ 4294967295:=of_decide_eq_true h.2
 omega
end Go.Proofs.YthjelpbaljapiaaGreat

namespace Go.Proofs.YthjelpbaljapiaaGreat
open _root_.Go.Proofs.Tryz
open Go Go.ChangeShapes Go.WideShapes Go.ChangeAt Go.RowKit
theorem scells_u32 : Tryz.prog.cellsOf 24 = 1:=by kernel_rfl
theorem scells_i64 : Tryz.prog.cellsOf 2 = 1:=by kernel_rfl
theorem scells_arr : Tryz.prog.cellsOf 25 = 32:=by kernel_rfl
theorem scells_st : Tryz.prog.cellsOf 27 = 34:=by kernel_rfl
theorem three_cut {cs : List Value} (h : cs.length = 34) : cs = (cs.drop 0).take 32 ++ ((cs.drop 32).take 1 ++ (cs.drop 33).take 1):=by
 rw [List.drop_zero]
 apply List.ext_getElem?
 intro i
 by_cases h1 : i < 32
 ·rw [List.getElem?_append_left (by rw [List.length_take]; omega),List.getElem?_take_of_lt h1]
 ·rw [List.getElem?_append_right (by rw [List.length_take]; omega),List.length_take,show min 32 cs.length = 32 by omega]
  rcases (show i = 32 ∨ i = 33 ∨ 34 ≤ i by omega) with rfl | rfl | h2
  ·rw [List.getElem?_append_left (by simp [h])]; simp
  ·rw [List.getElem?_append_right (by simp [h])]; simp [h]
  ·rw [List.getElem?_eq_none (by omega),List.getElem?_eq_none (by simp; omega)]
theorem Rdd.stW {w : World} {cs : List Value} (h : Rdd Tryz.prog w 27 cs) : ∃ s : StP,cs = s.cells ∧ StRd s:=by
 obtain ⟨h1,h3⟩:=Rdd.struct underlying27 h
 rw [scells_st] at h1
 have f0:=Rdd.cut ((cs.drop 0).take 32) (h3 0 _ rfl) scells_arr rfl
 obtain ⟨x,q0,r0,r1⟩:=Rdd.arrN wfn_u32 underlying25 underlying24 scells_u32 scells_arr f0
 have f1:=Rdd.cut ((cs.drop 32).take 1) (h3 1 _ rfl) scells_u32 rfl
 obtain ⟨z1,q1,w1⟩:=Rdd.int underlying24 f1
 obtain ⟨pc,rfl,hpc⟩:=wf_u32 w1
 have f2:=Rdd.cut ((cs.drop 33).take 1) (h3 2 _ rfl) scells_i64 rfl
 obtain ⟨ret,q2,r2⟩:=Rdd.int underlying2 f2
 refine ⟨⟨x,pc,ret⟩,?_,⟨r0,r1,hpc,wf_i64 r2⟩⟩
 rw [three_cut h1,q0,q1,q2]
 simp [StP.cells,qbp]
end Go.Proofs.YthjelpbaljapiaaGreat

namespace Go.Proofs.YthjelpbaljapiaaGreat
open _root_.Go.Proofs.Tryz
open Go Go.ChangeShapes Go.WideShapes Go.ChangeAt Go.RowKit
theorem cells_5_C12R : Tryz.prog.cellsOf 5 = 1:=by kernel_rfl
theorem bytes_5_C12R : 1 ≤ Tryz.prog.bytesOf 5:=of_decide_eq_true (by kernel_rfl)
theorem cells_24_C12R : Tryz.prog.cellsOf 24 = 1:=by kernel_rfl
theorem bytes_24_C12R : 1 ≤ Tryz.prog.bytesOf 24:=of_decide_eq_true (by kernel_rfl)
theorem w3 (W : World) {b : Nat} (v0 v1 v2 v3 : Value) (o0 : Value.okWide Tryz.prog W .any b 22 v0) (o1 : Value.okWide Tryz.prog W .any b 23 v1) (o2 : Value.okWide Tryz.prog W .any b 27 v2) (o3 : Value.okWide Tryz.prog W .any b 3 v3) (q0 : Rdd Tryz.prog W 22 v0.cells.toList) (q1 : Rdd Tryz.prog W 23 v1.cells.toList) (q2 : Rdd Tryz.prog W 27 v2.cells.toList) (q3 : Rdd Tryz.prog W 3 v3.cells.toList) :
  Calls Tryz.prog 3 #[v0,v1,v2,v3] W fun e w'=>e = .returned (.bool true) ∧ Below W.heap.size W w':=by
 obtain ⟨s0,e0,r0,f0⟩:=Rdd.ints underlying22 underlying24 cells_24_C12R bytes_24_C12R q0
 obtain rfl:=val_slice (w:=W) underlying22 o0 e0
 obtain ⟨s1,e1,r1⟩:=Rdd.u8s underlying23 underlying5 cells_5_C12R bytes_5_C12R q1
 obtain rfl:=val_slice (w:=W) underlying23 o1 e1
 obtain ⟨s2,e2,r2⟩:=Rdd.stW q2
 obtain rfl:=val_struct (w:=W) underlying27 o2 e2
 obtain ⟨n3,e3,f3⟩:=Rdd.int underlying3 q3
 obtain rfl:=val_int (w:=W) underlying3 o3 e3
 obtain ⟨l3,h3⟩:=wf_i64 f3
 exact (cpuSteps_spec s0 s1 s2 n3 (fun x hx=>wf_u32 (f0 x hx)) r2).walk W ⟨r0,r1⟩
end Go.Proofs.YthjelpbaljapiaaGreat
