import Derived.Test.YtnfkalpgidiafaaGreatZP5
import Derived.Test.YtnfkalpgidiafaaGreatZP4
import Derived.Test.YtnfkalpgidiafaaGreatZP1
import Derived.Test.YtnfkalpgidiafaaGreatZP3
import Derived.Test.YtnfkalpgidiafaaGreatZP6
import Derived.Sort.Defs
import Derived.Sort.AssemblyPlain
set_option linter.unusedVariables false
set_option linter.unusedSimpArgs false
set_option maxRecDepth 100000
namespace Go.Proofs.YtnfkalpgidiafaaGreat
open _root_.Go.Proofs.Tryz
open Go
def placeP (v : Int) (n : Nat) : Nat:=u32 ((u32 v * 2 ^ n : Nat) : Int)
theorem qal (v : Int) (n : Nat) : placeP v n < 4294967296:=u32_lt _
theorem qax (v : Int) (n : Nat) (hn : n < 32) : Spec Tryz.prog 69 #[.int .i64 v,.int .i64 n] (fun _=>True) [] (fun ρ ρ' r L=>ρ' = ρ ∧ r = .int .u32 (placeP v n : Int) ∧ L = []):=by
 refine Spec.of 9 Tryz.func69 rfl Tryz.ntmps69 [(0,_),(1,_)] rfl rfl ?_
 intro cx ρ hr h0
 refine Cd.seq fun K1 hK1=>?_
 refine Cd.qac [(0,false)] rfl rfl ?_
 refine Jp.y 4 rfl (qaa rfl) rfl rfl Kp.true (Y.assign rfl rfl) ?_
 refine Jp.qae hK1 ?_
 refine Cd.seq fun K2 hK2=>?_
 refine Cd.qac [(0,false),(1,false),(2,false),(3,false),(4,false)] rfl rfl ?_
 refine Jp.y 5 rfl (qaa rfl) rfl rfl Kp.true (Y.move rfl rfl) ?_
 refine Jp.y 6 rfl (qaa rfl) rfl rfl Kp.true (Y.qaz rfl rfl underlying3 underlying24 (by rfl)) ?_
 refine Jp.y 7 rfl (qaa rfl) rfl rfl Kp.true (Y.move rfl rfl) ?_
 refine Jp.slot 6 rfl (show _ = Value.int .u32 (u32 v : Int) from congrArg (Value.int .u32) (qcj v)) ?_
 refine Jp.y 8 rfl (qaa rfl) rfl rfl Kp.true (Y.shl rfl rfl rfl (by first | decide | omega)) ?_
 refine Jp.y 4 rfl (qaa rfl) rfl rfl Kp.true (Y.assign rfl rfl) ?_
 refine Jp.qae hK2 ?_
 refine Cd.ret [] rfl (qbf rfl rfl) trivial ⟨rfl,congrArg (Value.int .u32) (shl_u (u32 v) n hn),rfl⟩
def codeT : List (Nat × Nat × Nat) := [(0, 0, 0), (55, 0, 0), (23, 0, 0), (111, 0, 0), (103, 0, 0),
 (99,0,0),(99,1,0),(99,4,0),(99,5,0),(99,6,0),(99,7,0),(3,0,0),(3,1,0),(3,2,0),(3,4,0),(3,5,0),(35,0,0),(35,1,0),(35,2,0),
 (19,0,0),(19,2,0),(19,3,0),(19,4,0),(19,6,0),(19,7,0),(19,1,0),(19,5,0),(19,5,32),
 (51,0,0),(51,0,32),(51,1,0),(51,2,0),(51,3,0),(51,4,0),(51,5,0),(51,5,32),(51,6,0),(51,7,0),
 (51, 0, 1), (51, 1, 1), (51, 2, 1), (51, 3, 1), (51, 4, 1), (51, 5, 1), (51, 6, 1), (51, 7, 1)]
def qej (op : Nat) : Nat × Nat × Nat:=codeT.getD op (0,0,0)
def codeV (op : Nat) : Value:=.tuple #[.int .i64 ((qej op).1 : Int),.int .i64 ((qej op).2.1 : Int),.int .i64 ((qej op).2.2 : Int)]
theorem code_spec (op : Nat) (h : 1 ≤ op ∧ op ≤ 45) : Spec Tryz.prog 68 #[.int .i64 op] (fun _=>True) [] (fun ρ ρ' v L=>ρ' = ρ ∧ v = codeV op ∧ L = []):=by
  refine Spec.of 67 Tryz.func68 rfl Tryz.ntmps68 [(0,_)] rfl rfl ?_
  intro cx ρ hr h0
  refine Cd.seq fun K3 hK3=>?_
  refine Cd.qac [(0,false),(1,false),(2,false)] rfl rfl ?_
  refine Jp.y 2 rfl (qaa rfl) rfl rfl Kp.true (Y.assign rfl rfl) ?_
  refine Jp.y 3 rfl (qaa rfl) rfl rfl Kp.true (Y.assign rfl rfl) ?_
  refine Jp.y 4 rfl (qaa rfl) rfl rfl Kp.true (Y.assign rfl rfl) ?_
  refine Jp.qae hK3 ?_
  refine Cd.seq fun K4 hK4=>?_
  refine Cd.block ?_
  refine Cd.seq fun K5 hK5=>?_
  refine Cd.qac [(0,false),(1,false),(2,false)] rfl rfl ?_
  refine Jp.y 6 rfl (qaa rfl) rfl rfl Kp.true (Y.move rfl rfl) ?_
  refine Jp.y 7 rfl (qaa rfl) rfl rfl Kp.true (Y.eql rfl rfl rfl) ?_
  refine Jp.y 5 rfl (qaa rfl) rfl rfl Kp.true (Y.assign rfl rfl) ?_
  refine Jp.qae hK5 ?_
  refine Cd.qaq rfl (fun g5=>?_) (fun g5=>?_)
  · skip
    try simp only [sG0] at g5
    refine Cd.seq fun K6 hK6=>?_
    refine Cd.qac [(0,false),(1,false),(2,false)] rfl rfl ?_
    refine Jp.y 2 rfl (qaa rfl) rfl rfl Kp.true (Y.assign rfl rfl) ?_
    refine Jp.y 3 rfl (qaa rfl) rfl rfl Kp.true (Y.assign rfl rfl) ?_
    refine Jp.y 4 rfl (qaa rfl) rfl rfl Kp.true (Y.assign rfl rfl) ?_
    refine Jp.qae hK6 ?_
    refine Cd.ret [] rfl (res3 rfl rfl rfl rfl) trivial ⟨rfl, by
      (obtain rfl : op = 1 := by omega
       rfl), rfl⟩
  · skip
    try simp only [sG0] at g5
    refine Cd.seq fun K7 hK7=>?_
    refine Cd.qac [(0,false),(1,false),(2,false)] rfl rfl ?_
    refine Jp.y 9 rfl (qaa rfl) rfl rfl Kp.true (Y.move rfl rfl) ?_
    refine Jp.y 10 rfl (qaa rfl) rfl rfl Kp.true (Y.eql rfl rfl rfl) ?_
    refine Jp.y 8 rfl (qaa rfl) rfl rfl Kp.true (Y.assign rfl rfl) ?_
    refine Jp.qae hK7 ?_
    refine Cd.qaq rfl (fun g8=>?_) (fun g8=>?_)
    · skip
      try simp only [sG0] at g8
      refine Cd.seq fun K8 hK8=>?_
      refine Cd.qac [(0,false),(1,false),(2,false)] rfl rfl ?_
      refine Jp.y 2 rfl (qaa rfl) rfl rfl Kp.true (Y.assign rfl rfl) ?_
      refine Jp.y 3 rfl (qaa rfl) rfl rfl Kp.true (Y.assign rfl rfl) ?_
      refine Jp.y 4 rfl (qaa rfl) rfl rfl Kp.true (Y.assign rfl rfl) ?_
      refine Jp.qae hK8 ?_
      refine Cd.ret [] rfl (res3 rfl rfl rfl rfl) trivial ⟨rfl, by
        (obtain rfl : op = 2 := by omega
         rfl), rfl⟩
    · skip
      try simp only [sG0] at g8
      refine Cd.seq fun K9 hK9=>?_
      refine Cd.qac [(0,false),(1,false),(2,false)] rfl rfl ?_
      refine Jp.y 12 rfl (qaa rfl) rfl rfl Kp.true (Y.move rfl rfl) ?_
      refine Jp.y 13 rfl (qaa rfl) rfl rfl Kp.true (Y.eql rfl rfl rfl) ?_
      refine Jp.y 11 rfl (qaa rfl) rfl rfl Kp.true (Y.assign rfl rfl) ?_
      refine Jp.qae hK9 ?_
      refine Cd.qaq rfl (fun g11=>?_) (fun g11=>?_)
      · skip
        try simp only [sG0] at g11
        refine Cd.seq fun K10 hK10=>?_
        refine Cd.qac [(0,false),(1,false),(2,false)] rfl rfl ?_
        refine Jp.y 2 rfl (qaa rfl) rfl rfl Kp.true (Y.assign rfl rfl) ?_
        refine Jp.y 3 rfl (qaa rfl) rfl rfl Kp.true (Y.assign rfl rfl) ?_
        refine Jp.y 4 rfl (qaa rfl) rfl rfl Kp.true (Y.assign rfl rfl) ?_
        refine Jp.qae hK10 ?_
        refine Cd.ret [] rfl (res3 rfl rfl rfl rfl) trivial ⟨rfl, by
          (obtain rfl : op = 3 := by omega
           rfl), rfl⟩
      · skip
        try simp only [sG0] at g11
        refine Cd.seq fun K11 hK11=>?_
        refine Cd.qac [(0,false),(1,false),(2,false)] rfl rfl ?_
        refine Jp.y 15 rfl (qaa rfl) rfl rfl Kp.true (Y.move rfl rfl) ?_
        refine Jp.y 16 rfl (qaa rfl) rfl rfl Kp.true (Y.eql rfl rfl rfl) ?_
        refine Jp.y 14 rfl (qaa rfl) rfl rfl Kp.true (Y.assign rfl rfl) ?_
        refine Jp.qae hK11 ?_
        refine Cd.qaq rfl (fun g14=>?_) (fun g14=>?_)
        · skip
          try simp only [sG0] at g14
          refine Cd.seq fun K12 hK12=>?_
          refine Cd.qac [(0,false),(1,false),(2,false)] rfl rfl ?_
          refine Jp.y 2 rfl (qaa rfl) rfl rfl Kp.true (Y.assign rfl rfl) ?_
          refine Jp.y 3 rfl (qaa rfl) rfl rfl Kp.true (Y.assign rfl rfl) ?_
          refine Jp.y 4 rfl (qaa rfl) rfl rfl Kp.true (Y.assign rfl rfl) ?_
          refine Jp.qae hK12 ?_
          refine Cd.ret [] rfl (res3 rfl rfl rfl rfl) trivial ⟨rfl, by
            (obtain rfl : op = 4 := by omega
             rfl), rfl⟩
        · skip
          try simp only [sG0] at g14
          refine Cd.seq fun K13 hK13=>?_
          refine Cd.qac [(0,false),(1,false),(2,false)] rfl rfl ?_
          refine Jp.y 18 rfl (qaa rfl) rfl rfl Kp.true (Y.move rfl rfl) ?_
          refine Jp.y 19 rfl (qaa rfl) rfl rfl Kp.true (Y.leq rfl rfl rfl) ?_
          refine Jp.y 17 rfl (qaa rfl) rfl rfl Kp.true (Y.assign rfl rfl) ?_
          refine Jp.qae hK13 ?_
          refine Cd.qaq rfl (fun g17=>?_) (fun g17=>?_)
          · skip
            try simp only [sG0] at g17
            refine Cd.seq fun K14 hK14=>?_
            have hidx : (#[Value.int .i64 0,Value.int .i64 1,Value.int .i64 4,Value.int .i64 5,Value.int .i64 6,Value.int .i64 7] : Array Value)[((op : Int) - 5).toNat * 1]? = some (.int .i64 ((qej op).2.1 : Int)):=by
              rcases (show op = 5 ∨ op = 6 ∨ op = 7 ∨ op = 8 ∨ op = 9 ∨ op = 10 by omega) with rfl | rfl | rfl | rfl | rfl | rfl <;> rfl
            refine Cd.drawn [] trivial [(0,true),(1,true),(2,true),(3,true),(4,true),(5,true),(6,true)] follows (by kernel_rfl) (fun hrl=>?_)
            refine Jp.q 20 rfl (qaa rfl) rfl rfl (Y.array [(0,_),(1,_),(2,_),(3,_),(4,_),(5,_)] [_,_,_,_,_,_] rfl rfl underlying169 sizeOf3 zeroValue169 rfl) ?_
            refine Jp.q 21 rfl (qaa rfl) rfl rfl (Y.move rfl rfl) ?_
            refine Jp.q 22 rfl (qaa rfl) rfl rfl (Y.qcp rfl rfl rfl (by exact qaf (by omega) (by omega))) ?_
            refine Jp.q 23 rfl (qaa rfl) rfl rfl (Y.qcw (v:=.int .i64 ((qej op).2.1 : Int)) rfl underlying169 sizeOf3 isAgg3 rfl rfl (by omega) (by omega) hidx) ?_
            refine Jp.q 2 rfl (qaa rfl) rfl rfl (Y.assign rfl rfl) ?_
            refine Jp.q 3 rfl (qaa rfl) rfl rfl (Y.assign rfl rfl) ?_
            refine Jp.q 4 rfl (qaa rfl) rfl rfl (Y.assign rfl rfl) ?_
            refine Jp.qae hK14 ?_
            refine Cd.ret [] rfl (res3 rfl rfl rfl rfl) trivial ⟨rfl,by rcases (show op = 5 ∨ op = 6 ∨ op = 7 ∨ op = 8 ∨ op = 9 ∨ op = 10 by omega) with rfl | rfl | rfl | rfl | rfl | rfl <;> rfl,rfl⟩
          · skip
            try simp only [sG0] at g17
            refine Cd.seq fun K16 hK16=>?_
            refine Cd.qac [(0,false),(1,false),(2,false)] rfl rfl ?_
            refine Jp.y 25 rfl (qaa rfl) rfl rfl Kp.true (Y.move rfl rfl) ?_
            refine Jp.y 26 rfl (qaa rfl) rfl rfl Kp.true (Y.leq rfl rfl rfl) ?_
            refine Jp.y 24 rfl (qaa rfl) rfl rfl Kp.true (Y.assign rfl rfl) ?_
            refine Jp.qae hK16 ?_
            refine Cd.qaq rfl (fun g24=>?_) (fun g24=>?_)
            · skip
              try simp only [sG0] at g24
              refine Cd.seq fun K17 hK17=>?_
              have hidx : (#[Value.int .i64 0,Value.int .i64 1,Value.int .i64 2,Value.int .i64 4,Value.int .i64 5] : Array Value)[((op : Int) - 11).toNat * 1]? = some (.int .i64 ((qej op).2.1 : Int)):=by
                rcases (show op = 11 ∨ op = 12 ∨ op = 13 ∨ op = 14 ∨ op = 15 by omega) with rfl | rfl | rfl | rfl | rfl <;> rfl
              refine Cd.drawn [] trivial [(0,true),(1,true),(2,true),(3,true),(4,true),(5,true),(6,true)] follows (by kernel_rfl) (fun hrl=>?_)
              refine Jp.q 27 rfl (qaa rfl) rfl rfl (Y.array [(0,_),(1,_),(2,_),(3,_),(4,_)] [_,_,_,_,_] rfl rfl underlying170 sizeOf3 zeroValue170 rfl) ?_
              refine Jp.q 28 rfl (qaa rfl) rfl rfl (Y.move rfl rfl) ?_
              refine Jp.q 29 rfl (qaa rfl) rfl rfl (Y.qcp rfl rfl rfl (by exact qaf (by omega) (by omega))) ?_
              refine Jp.q 30 rfl (qaa rfl) rfl rfl (Y.qcw (v:=.int .i64 ((qej op).2.1 : Int)) rfl underlying170 sizeOf3 isAgg3 rfl rfl (by omega) (by omega) hidx) ?_
              refine Jp.q 2 rfl (qaa rfl) rfl rfl (Y.assign rfl rfl) ?_
              refine Jp.q 3 rfl (qaa rfl) rfl rfl (Y.assign rfl rfl) ?_
              refine Jp.q 4 rfl (qaa rfl) rfl rfl (Y.assign rfl rfl) ?_
              refine Jp.qae hK17 ?_
              refine Cd.ret [] rfl (res3 rfl rfl rfl rfl) trivial ⟨rfl,by rcases (show op = 11 ∨ op = 12 ∨ op = 13 ∨ op = 14 ∨ op = 15 by omega) with rfl | rfl | rfl | rfl | rfl <;> rfl,rfl⟩
            · skip
              try simp only [sG0] at g24
              refine Cd.seq fun K19 hK19=>?_
              refine Cd.qac [(0,false),(1,false),(2,false)] rfl rfl ?_
              refine Jp.y 32 rfl (qaa rfl) rfl rfl Kp.true (Y.move rfl rfl) ?_
              refine Jp.y 33 rfl (qaa rfl) rfl rfl Kp.true (Y.leq rfl rfl rfl) ?_
              refine Jp.y 31 rfl (qaa rfl) rfl rfl Kp.true (Y.assign rfl rfl) ?_
              refine Jp.qae hK19 ?_
              refine Cd.qaq rfl (fun g31=>?_) (fun g31=>?_)
              · skip
                try simp only [sG0] at g31
                refine Cd.seq fun K20 hK20=>?_
                refine Cd.qac [(0,false),(1,false),(2,false),(3,false),(4,false)] rfl rfl ?_
                refine Jp.y 34 rfl (qaa rfl) rfl rfl Kp.true (Y.move rfl rfl) ?_
                refine Jp.y 35 rfl (qaa rfl) rfl rfl Kp.true (Y.qcp rfl rfl rfl (by exact qaf (by omega) (by omega))) ?_
                refine Jp.y 2 rfl (qaa rfl) rfl rfl Kp.true (Y.assign rfl rfl) ?_
                refine Jp.y 3 rfl (qaa rfl) rfl rfl Kp.true (Y.assign rfl rfl) ?_
                refine Jp.y 4 rfl (qaa rfl) rfl rfl Kp.true (Y.assign rfl rfl) ?_
                refine Jp.qae hK20 ?_
                refine Cd.ret [] rfl (res3 rfl rfl rfl rfl) trivial ⟨rfl, by
                  (rcases (show op = 16 ∨ op = 17 ∨ op = 18 by omega) with rfl | rfl | rfl <;> rfl), rfl⟩
              · skip
                try simp only [sG0] at g31
                refine Cd.seq fun K21 hK21=>?_
                refine Cd.qac [(0,false),(1,false),(2,false)] rfl rfl ?_
                refine Jp.y 37 rfl (qaa rfl) rfl rfl Kp.true (Y.move rfl rfl) ?_
                refine Jp.y 38 rfl (qaa rfl) rfl rfl Kp.true (Y.leq rfl rfl rfl) ?_
                refine Jp.y 36 rfl (qaa rfl) rfl rfl Kp.true (Y.assign rfl rfl) ?_
                refine Jp.qae hK21 ?_
                refine Cd.qaq rfl (fun g36=>?_) (fun g36=>?_)
                · skip
                  try simp only [sG0] at g36
                  refine Cd.seq fun K22 hK22=>?_
                  have hidx : (#[Value.int .i64 0,Value.int .i64 2,Value.int .i64 3,Value.int .i64 4,Value.int .i64 6,Value.int .i64 7] : Array Value)[((op : Int) - 19).toNat * 1]? = some (.int .i64 ((qej op).2.1 : Int)):=by
                    rcases (show op = 19 ∨ op = 20 ∨ op = 21 ∨ op = 22 ∨ op = 23 ∨ op = 24 by omega) with rfl | rfl | rfl | rfl | rfl | rfl <;> rfl
                  refine Cd.drawn [] trivial [(0,true),(1,true),(2,true),(3,true),(4,true),(5,true),(6,true)] follows (by kernel_rfl) (fun hrl=>?_)
                  refine Jp.q 39 rfl (qaa rfl) rfl rfl (Y.array [(0,_),(1,_),(2,_),(3,_),(4,_),(5,_)] [_,_,_,_,_,_] rfl rfl underlying169 sizeOf3 zeroValue169 rfl) ?_
                  refine Jp.q 40 rfl (qaa rfl) rfl rfl (Y.move rfl rfl) ?_
                  refine Jp.q 41 rfl (qaa rfl) rfl rfl (Y.qcp rfl rfl rfl (by exact qaf (by omega) (by omega))) ?_
                  refine Jp.q 42 rfl (qaa rfl) rfl rfl (Y.qcw (v:=.int .i64 ((qej op).2.1 : Int)) rfl underlying169 sizeOf3 isAgg3 rfl rfl (by omega) (by omega) hidx) ?_
                  refine Jp.q 2 rfl (qaa rfl) rfl rfl (Y.assign rfl rfl) ?_
                  refine Jp.q 3 rfl (qaa rfl) rfl rfl (Y.assign rfl rfl) ?_
                  refine Jp.q 4 rfl (qaa rfl) rfl rfl (Y.assign rfl rfl) ?_
                  refine Jp.qae hK22 ?_
                  refine Cd.ret [] rfl (res3 rfl rfl rfl rfl) trivial ⟨rfl,by rcases (show op = 19 ∨ op = 20 ∨ op = 21 ∨ op = 22 ∨ op = 23 ∨ op = 24 by omega) with rfl | rfl | rfl | rfl | rfl | rfl <;> rfl,rfl⟩
                · skip
                  try simp only [sG0] at g36
                  refine Cd.seq fun K24 hK24=>?_
                  refine Cd.qac [(0,false),(1,false),(2,false)] rfl rfl ?_
                  refine Jp.y 44 rfl (qaa rfl) rfl rfl Kp.true (Y.move rfl rfl) ?_
                  refine Jp.y 45 rfl (qaa rfl) rfl rfl Kp.true (Y.leq rfl rfl rfl) ?_
                  refine Jp.y 43 rfl (qaa rfl) rfl rfl Kp.true (Y.assign rfl rfl) ?_
                  refine Jp.qae hK24 ?_
                  refine Cd.qaq rfl (fun g43=>?_) (fun g43=>?_)
                  · skip
                    try simp only [sG0] at g43
                    refine Cd.seq fun K25 hK25=>?_
                    have hcs : op = 25 ∨ op = 26 ∨ op = 27:=by omega
                    have hidx : (#[Value.int .i64 1,Value.int .i64 5,Value.int .i64 5] : Array Value)[((op : Int) - 25).toNat * 1]? = some (.int .i64 ((qej op).2.1 : Int)):=by
                      rcases hcs with rfl | rfl | rfl <;> rfl
                    have hidx2 : (#[Value.int .i64 0,Value.int .i64 0,Value.int .i64 32] : Array Value)[((op : Int) - 25).toNat * 1]? = some (.int .i64 ((qej op).2.2 : Int)):=by
                      rcases hcs with rfl | rfl | rfl <;> rfl
                    refine Cd.drawn [] trivial [(0,true),(1,true),(2,true),(3,true),(4,true),(5,true),(6,true),(7,true),(8,true),(9,true),(10,true)] follows (by kernel_rfl) (fun hrl=>?_)
                    refine Jp.q 46 rfl (qaa rfl) rfl rfl (Y.array [(0,_),(1,_),(2,_)] [_,_,_] rfl rfl underlying171 sizeOf3 zeroValue171 rfl) ?_
                    refine Jp.q 47 rfl (qaa rfl) rfl rfl (Y.move rfl rfl) ?_
                    refine Jp.q 48 rfl (qaa rfl) rfl rfl (Y.qcp rfl rfl rfl (by exact qaf (by omega) (by omega))) ?_
                    refine Jp.q 49 rfl (qaa rfl) rfl rfl (Y.qcw (v:=.int .i64 ((qej op).2.1 : Int)) rfl underlying171 sizeOf3 isAgg3 rfl rfl (by omega) (by omega) hidx) ?_
                    refine Jp.q 50 rfl (qaa rfl) rfl rfl (Y.array [(0,_),(1,_),(2,_)] [_,_,_] rfl rfl underlying171 sizeOf3 zeroValue171 rfl) ?_
                    refine Jp.q 51 rfl (qaa rfl) rfl rfl (Y.move rfl rfl) ?_
                    refine Jp.q 52 rfl (qaa rfl) rfl rfl (Y.qcp rfl rfl rfl (by exact qaf (by omega) (by omega))) ?_
                    refine Jp.q 53 rfl (qaa rfl) rfl rfl (Y.qcw (v:=.int .i64 ((qej op).2.2 : Int)) rfl underlying171 sizeOf3 isAgg3 rfl rfl (by omega) (by omega) hidx2) ?_
                    refine Jp.q 2 rfl (qaa rfl) rfl rfl (Y.assign rfl rfl) ?_
                    refine Jp.q 3 rfl (qaa rfl) rfl rfl (Y.assign rfl rfl) ?_
                    refine Jp.q 4 rfl (qaa rfl) rfl rfl (Y.assign rfl rfl) ?_
                    refine Jp.qae hK25 ?_
                    refine Cd.ret [] rfl (res3 rfl rfl rfl rfl) trivial ⟨rfl,by rcases hcs with rfl | rfl | rfl <;> rfl,rfl⟩
                  · skip
                    try simp only [sG0] at g43
                    refine Cd.seq fun K27 hK27=>?_
                    refine Cd.qac [(0,false),(1,false),(2,false)] rfl rfl ?_
                    refine Jp.y 55 rfl (qaa rfl) rfl rfl Kp.true (Y.move rfl rfl) ?_
                    refine Jp.y 56 rfl (qaa rfl) rfl rfl Kp.true (Y.leq rfl rfl rfl) ?_
                    refine Jp.y 54 rfl (qaa rfl) rfl rfl Kp.true (Y.assign rfl rfl) ?_
                    refine Jp.qae hK27 ?_
                    refine Cd.qaq rfl (fun g54=>?_) (fun g54=>?_)
                    · skip
                      try simp only [sG0] at g54
                      refine Cd.seq fun K28 hK28=>?_
                      have hcs : op = 28 ∨ op = 29 ∨ op = 30 ∨ op = 31 ∨ op = 32 ∨ op = 33 ∨ op = 34 ∨ op = 35 ∨ op = 36 ∨ op = 37:=by omega
                      have hidx : (#[Value.int .i64 0,Value.int .i64 0,Value.int .i64 1,Value.int .i64 2,Value.int .i64 3,Value.int .i64 4,Value.int .i64 5,Value.int .i64 5,Value.int .i64 6,Value.int .i64 7] : Array Value)[((op : Int) - 28).toNat * 1]? = some (.int .i64 ((qej op).2.1 : Int)):=by
                        rcases hcs with rfl | rfl | rfl | rfl | rfl | rfl | rfl | rfl | rfl | rfl <;> rfl
                      have hidx2 : (#[Value.int .i64 0,Value.int .i64 32,Value.int .i64 0,Value.int .i64 0,Value.int .i64 0,Value.int .i64 0,Value.int .i64 0,Value.int .i64 32,Value.int .i64 0,Value.int .i64 0] : Array Value)[((op : Int) - 28).toNat * 1]? = some (.int .i64 ((qej op).2.2 : Int)):=by
                        rcases hcs with rfl | rfl | rfl | rfl | rfl | rfl | rfl | rfl | rfl | rfl <;> rfl
                      refine Cd.drawn [] trivial [(0,true),(1,true),(2,true),(3,true),(4,true),(5,true),(6,true),(7,true),(8,true),(9,true),(10,true)] follows (by kernel_rfl) (fun hrl=>?_)
                      refine Jp.q 57 rfl (qaa rfl) rfl rfl (Y.array [(0,_),(1,_),(2,_),(3,_),(4,_),(5,_),(6,_),(7,_),(8,_),(9,_)] [_,_,_,_,_,_,_,_,_,_] rfl rfl underlying158 sizeOf3 zeroValue158 rfl) ?_
                      refine Jp.q 58 rfl (qaa rfl) rfl rfl (Y.move rfl rfl) ?_
                      refine Jp.q 59 rfl (qaa rfl) rfl rfl (Y.qcp rfl rfl rfl (by exact qaf (by omega) (by omega))) ?_
                      refine Jp.q 60 rfl (qaa rfl) rfl rfl (Y.qcw (v:=.int .i64 ((qej op).2.1 : Int)) rfl underlying158 sizeOf3 isAgg3 rfl rfl (by omega) (by omega) hidx) ?_
                      refine Jp.q 61 rfl (qaa rfl) rfl rfl (Y.array [(0,_),(1,_),(2,_),(3,_),(4,_),(5,_),(6,_),(7,_),(8,_),(9,_)] [_,_,_,_,_,_,_,_,_,_] rfl rfl underlying158 sizeOf3 zeroValue158 rfl) ?_
                      refine Jp.q 62 rfl (qaa rfl) rfl rfl (Y.move rfl rfl) ?_
                      refine Jp.q 63 rfl (qaa rfl) rfl rfl (Y.qcp rfl rfl rfl (by exact qaf (by omega) (by omega))) ?_
                      refine Jp.q 64 rfl (qaa rfl) rfl rfl (Y.qcw (v:=.int .i64 ((qej op).2.2 : Int)) rfl underlying158 sizeOf3 isAgg3 rfl rfl (by omega) (by omega) hidx2) ?_
                      refine Jp.q 2 rfl (qaa rfl) rfl rfl (Y.assign rfl rfl) ?_
                      refine Jp.q 3 rfl (qaa rfl) rfl rfl (Y.assign rfl rfl) ?_
                      refine Jp.q 4 rfl (qaa rfl) rfl rfl (Y.assign rfl rfl) ?_
                      refine Jp.qae hK28 ?_
                      refine Cd.ret [] rfl (res3 rfl rfl rfl rfl) trivial ⟨rfl,by rcases hcs with rfl | rfl | rfl | rfl | rfl | rfl | rfl | rfl | rfl | rfl <;> rfl,rfl⟩
                    · skip
                      try simp only [sG0] at g54
                      refine Cd.over rfl hK4 ?_
                      refine Cd.seq fun K30 hK30=>?_
                      refine Cd.qac [(0,false),(1,false),(2,false),(3,false),(4,false)] rfl rfl ?_
                      refine Jp.y 65 rfl (qaa rfl) rfl rfl Kp.true (Y.move rfl rfl) ?_
                      refine Jp.y 66 rfl (qaa rfl) rfl rfl Kp.true (Y.qcp rfl rfl rfl (by exact qaf (by omega) (by omega))) ?_
                      refine Jp.y 2 rfl (qaa rfl) rfl rfl Kp.true (Y.assign rfl rfl) ?_
                      refine Jp.y 3 rfl (qaa rfl) rfl rfl Kp.true (Y.assign rfl rfl) ?_
                      refine Jp.y 4 rfl (qaa rfl) rfl rfl Kp.true (Y.assign rfl rfl) ?_
                      refine Jp.qae hK30 ?_
                      refine Cd.ret [] rfl (res3 rfl rfl rfl rfl) trivial ⟨rfl, by
                        (rcases (show op = 38 ∨ op = 39 ∨ op = 40 ∨ op = 41 ∨ op = 42 ∨ op = 43 ∨ op = 44 ∨ op = 45 by omega) with rfl | rfl | rfl | rfl | rfl | rfl | rfl | rfl <;> rfl), rfl⟩
def cutI (v : Int) (n : Nat) (m : Int) : Int:=qcm .and .i64 (v.fdiv (2 ^ n)) m
def bitsP (op : Nat) (v : Int) : Nat :=
 if op ≤ 2 then u32 v - u32 v % 4096 else if op = 3 then placeP (cutI v 20 1) 31 ||| placeP (cutI v 1 1023) 21 ||| placeP (cutI v 11 1) 20 ||| placeP (cutI v 12 255) 12 else
 if 5 ≤ op ∧ op ≤ 10 then placeP (cutI v 12 1) 31 ||| placeP (cutI v 5 63) 25 ||| placeP (cutI v 1 15) 8 ||| placeP (cutI v 11 1) 7 else
 if 16 ≤ op ∧ op ≤ 18 then placeP (cutI v 5 127) 25 ||| placeP (qcm .and .i64 v 31) 7 else if 25 ≤ op ∧ op ≤ 27 then placeP (qcm .and .i64 v 31) 20 else
 if 28 ≤ op then 0 else placeP (qcm .and .i64 v 4095) 20
theorem qfu {a b : Nat} (ha : a < 4294967296) (hb : b < 4294967296) : a ||| b < 4294967296:=Nat.or_lt_two_pow (n:=32) ha hb
theorem or4_u {a b c d : Nat} (ha : a < 4294967296) (hb : b < 4294967296) (hc : c < 4294967296) (hd : d < 4294967296) : qcm .or .u32 (qcm .or .u32 (qcm .or .u32 (a : Int) b) c) d = ((a ||| b ||| c ||| d : Nat) : Int):=by
 rw [qbr ha hb,qbr (qfu ha hb) hc,qbr (qfu (qfu ha hb) hc) hd]
section
attribute [local irreducible] qcm IntKind.wrap u32
theorem bits_spec (op : Nat) (v : Int) (hv : -2147483648 ≤ v ∧ v ≤ 2147483647) : Spec Tryz.prog 70 #[.int .i64 op,.int .i32 v] (fun _=>True) [] (fun ρ ρ' r L=>ρ' = ρ ∧ r = .int .u32 (bitsP op v : Int) ∧ L = []):=by
 refine Spec.of 93 Tryz.func70 rfl Tryz.ntmps70 [(0,_),(1,_)] rfl rfl ?_
 intro cx ρ hr h0
 obtain ⟨hv1,hv2⟩:=hv
 have hm : qcm .and .u32 (IntKind.u32.wrap v) 4294963200 = ((u32 v - u32 v % 4096 : Nat) : Int):=by
  have h:=qeb (b:=4294963200) (u32_lt v) (by omega)
  rw [and_hi12 _ (u32_lt v)] at h
  rw [qcj]; exact h
 refine Cd.seq fun K31 hK31=>?_
 refine Cd.qac [(0,false)] rfl rfl ?_
 refine Jp.y 4 rfl (qaa rfl) rfl rfl Kp.true (Y.assign rfl rfl) ?_
 refine Jp.qae hK31 ?_
 refine Cd.seq fun K32 hK32=>?_
 refine Cd.qac [(0,false),(1,false),(2,false)] rfl rfl ?_
 refine Jp.y 6 rfl (qaa rfl) rfl rfl Kp.true (Y.move rfl rfl) ?_
 refine Jp.y 7 rfl (qaa rfl) rfl rfl Kp.true (Y.qaz rfl rfl underlying21 underlying3 (by exact qaf (by omega) (by omega))) ?_
 refine Jp.y 5 rfl (qaa rfl) rfl rfl Kp.true (Y.assign rfl rfl) ?_
 refine Jp.qae hK32 ?_
 refine Cd.seq fun K33 hK33=>?_
 refine Cd.block ?_
 refine Cd.seq fun K34 hK34=>?_
 refine Cd.qac [(0,false),(1,false),(2,false)] rfl rfl ?_
 refine Jp.y 9 rfl (qaa rfl) rfl rfl Kp.true (Y.move rfl rfl) ?_
 refine Jp.y 10 rfl (qaa rfl) rfl rfl Kp.true (Y.leq rfl rfl rfl) ?_
 refine Jp.y 8 rfl (qaa rfl) rfl rfl Kp.true (Y.assign rfl rfl) ?_
 refine Jp.qae hK34 ?_
 refine Cd.qaq rfl (fun g8=>?_) (fun g8=>?_)
 ·skip
  try simp only [sG0] at g8
  refine Cd.seq fun K35 hK35=>?_
  refine Cd.qac [(0,false),(1,false),(2,false),(3,false)] rfl rfl ?_
  refine Jp.y 11 rfl (qaa rfl) rfl rfl Kp.true (Y.move rfl rfl) ?_
  refine Jp.y 12 rfl (qaa rfl) rfl rfl Kp.true (Y.qaz rfl rfl underlying21 underlying24 (by rfl)) ?_
  refine Jp.y 13 rfl (qaa rfl) rfl rfl Kp.true (Y.bits rfl rfl rfl rfl) ?_
  refine Jp.y 4 rfl (qaa rfl) rfl rfl Kp.true (Y.assign rfl rfl) ?_
  refine Jp.qae hK35 ?_
  refine Cd.ret [] rfl (qbf rfl rfl) trivial ⟨rfl, congrArg (Value.int .u32) (by
   (rw [bitsP]; repeat first | exact hm | exact or4_u (qal _ _) (qal _ _) (qal _ _) (qal _ _) | exact qbr (qal _ _) (qal _ _) | rfl | rw [if_pos (by omega)] | rw [if_neg (by omega)])), rfl⟩
 ·skip
  try simp only [sG0] at g8
  refine Cd.seq fun K36 hK36=>?_
  refine Cd.qac [(0,false),(1,false),(2,false)] rfl rfl ?_
  refine Jp.y 15 rfl (qaa rfl) rfl rfl Kp.true (Y.move rfl rfl) ?_
  refine Jp.y 16 rfl (qaa rfl) rfl rfl Kp.true (Y.eql rfl rfl rfl) ?_
  refine Jp.y 14 rfl (qaa rfl) rfl rfl Kp.true (Y.assign rfl rfl) ?_
  refine Jp.qae hK36 ?_
  refine Cd.qaq rfl (fun g14=>?_) (fun g14=>?_)
  ·skip
   try simp only [sG0] at g14
   refine Cd.seq fun K37 hK37=>?_
   refine Cd.qac [(0,false),(1,false),(2,false),(3,false),(4,false),(5,false),(6,false),(7,false),(8,false),(9,false),(10,false),(11,false),(12,false),(13,false),(14,false),(15,false),(16,false),(17,false),(18,false),(19,false)] rfl rfl ?_
   refine Jp.y 17 rfl (qaa rfl) rfl rfl Kp.true (Y.move rfl rfl) ?_
   refine Jp.y 18 rfl (qaa rfl) rfl rfl Kp.true (Y.shr rfl rfl rfl (by first | decide | omega)) ?_
   refine Jp.y 19 rfl (qaa rfl) rfl rfl Kp.true (Y.bits rfl rfl rfl rfl) ?_
   refine Jp.call [] [] (qax _ _ (by decide)) 20 rfl (qaa rfl) rfl rfl (Runs.fn rfl call69 rfl) (by decide) (by decide) rfl trivial ?_
   rintro v101 ρ101 L101 ⟨rfl,rfl,rfl⟩
   refine ⟨rfl,fun hle101=>⟨Kp.true,?_⟩⟩
   refine Jp.y 21 rfl (qaa rfl) rfl rfl Kp.true (Y.move rfl rfl) ?_
   refine Jp.y 22 rfl (qaa rfl) rfl rfl Kp.true (Y.shr rfl rfl rfl (by first | decide | omega)) ?_
   refine Jp.y 23 rfl (qaa rfl) rfl rfl Kp.true (Y.bits rfl rfl rfl rfl) ?_
   refine Jp.call [] [] (qax _ _ (by decide)) 24 rfl (qaa rfl) rfl rfl (Runs.fn rfl call69 rfl) (by decide) (by decide) rfl trivial ?_
   rintro v102 ρ102 L102 ⟨rfl,rfl,rfl⟩
   refine ⟨rfl,fun hle102=>⟨Kp.true,?_⟩⟩
   refine Jp.y 25 rfl (qaa rfl) rfl rfl Kp.true (Y.bits rfl rfl rfl rfl) ?_
   refine Jp.y 26 rfl (qaa rfl) rfl rfl Kp.true (Y.move rfl rfl) ?_
   refine Jp.y 27 rfl (qaa rfl) rfl rfl Kp.true (Y.shr rfl rfl rfl (by first | decide | omega)) ?_
   refine Jp.y 28 rfl (qaa rfl) rfl rfl Kp.true (Y.bits rfl rfl rfl rfl) ?_
   refine Jp.call [] [] (qax _ _ (by decide)) 29 rfl (qaa rfl) rfl rfl (Runs.fn rfl call69 rfl) (by decide) (by decide) rfl trivial ?_
   rintro v103 ρ103 L103 ⟨rfl,rfl,rfl⟩
   refine ⟨rfl,fun hle103=>⟨Kp.true,?_⟩⟩
   refine Jp.y 30 rfl (qaa rfl) rfl rfl Kp.true (Y.bits rfl rfl rfl rfl) ?_
   refine Jp.y 31 rfl (qaa rfl) rfl rfl Kp.true (Y.move rfl rfl) ?_
   refine Jp.y 32 rfl (qaa rfl) rfl rfl Kp.true (Y.shr rfl rfl rfl (by first | decide | omega)) ?_
   refine Jp.y 33 rfl (qaa rfl) rfl rfl Kp.true (Y.bits rfl rfl rfl rfl) ?_
   refine Jp.call [] [] (qax _ _ (by decide)) 34 rfl (qaa rfl) rfl rfl (Runs.fn rfl call69 rfl) (by decide) (by decide) rfl trivial ?_
   rintro v104 ρ104 L104 ⟨rfl,rfl,rfl⟩
   refine ⟨rfl,fun hle104=>⟨Kp.true,?_⟩⟩
   refine Jp.y 35 rfl (qaa rfl) rfl rfl Kp.true (Y.bits rfl rfl rfl rfl) ?_
   refine Jp.y 4 rfl (qaa rfl) rfl rfl Kp.true (Y.assign rfl rfl) ?_
   refine Jp.qae hK37 ?_
   refine Cd.ret [] rfl (qbf rfl rfl) trivial ⟨rfl, congrArg (Value.int .u32) (by
    (rw [bitsP]; repeat first | exact hm | exact or4_u (qal _ _) (qal _ _) (qal _ _) (qal _ _) | exact qbr (qal _ _) (qal _ _) | rfl | rw [if_pos (by omega)] | rw [if_neg (by omega)])), rfl⟩
  ·skip
   try simp only [sG0] at g14
   refine Cd.seq fun K38 hK38=>?_
   refine Cd.qac [(0,false),(1,false),(2,false),(3,false),(4,false),(5,false),(6,false)] rfl rfl ?_
   refine Jp.y 37 rfl (qaa rfl) rfl rfl Kp.true (Y.move rfl rfl) ?_
   refine Jp.y 38 rfl (qaa rfl) rfl rfl Kp.true (Y.geq rfl rfl rfl) ?_
   refine Jp.y 39 rfl (qaa rfl) rfl rfl Kp.true (Y.move rfl rfl) ?_
   refine Jp.split 39 rfl (fun g39=>?_) (fun g39=>?_)
   ·skip
    try simp only [sG0] at g39
    refine Jp.y 40 rfl (qab rfl rfl rfl rfl) rfl rfl Kp.true (Y.move rfl rfl) ?_
    refine Jp.y 41 rfl (qab rfl rfl rfl rfl) rfl rfl Kp.true (Y.leq rfl rfl rfl) ?_
    refine Jp.y 42 rfl (qaa rfl) rfl rfl Kp.true (Y.qav rfl rfl rfl) ?_
    refine Jp.y 36 rfl (qaa rfl) rfl rfl Kp.true (Y.assign rfl rfl) ?_
    refine Jp.qae hK38 ?_
    refine Cd.qaq rfl (fun g36=>?_) (fun g36=>?_)
    ·skip
     try simp only [sG0] at g36
     refine Cd.seq fun K39 hK39=>?_
     refine Cd.qac [(0,false),(1,false),(2,false),(3,false),(4,false),(5,false),(6,false),(7,false),(8,false),(9,false),(10,false),(11,false),(12,false),(13,false),(14,false),(15,false),(16,false),(17,false),(18,false),(19,false)] rfl rfl ?_
     refine Jp.y 43 rfl (qaa rfl) rfl rfl Kp.true (Y.move rfl rfl) ?_
     refine Jp.y 44 rfl (qaa rfl) rfl rfl Kp.true (Y.shr rfl rfl rfl (by first | decide | omega)) ?_
     refine Jp.y 45 rfl (qaa rfl) rfl rfl Kp.true (Y.bits rfl rfl rfl rfl) ?_
     refine Jp.call [] [] (qax _ _ (by decide)) 46 rfl (qaa rfl) rfl rfl (Runs.fn rfl call69 rfl) (by decide) (by decide) rfl trivial ?_
     rintro v105 ρ105 L105 ⟨rfl,rfl,rfl⟩
     refine ⟨rfl,fun hle105=>⟨Kp.true,?_⟩⟩
     refine Jp.y 47 rfl (qaa rfl) rfl rfl Kp.true (Y.move rfl rfl) ?_
     refine Jp.y 48 rfl (qaa rfl) rfl rfl Kp.true (Y.shr rfl rfl rfl (by first | decide | omega)) ?_
     refine Jp.y 49 rfl (qaa rfl) rfl rfl Kp.true (Y.bits rfl rfl rfl rfl) ?_
     refine Jp.call [] [] (qax _ _ (by decide)) 50 rfl (qaa rfl) rfl rfl (Runs.fn rfl call69 rfl) (by decide) (by decide) rfl trivial ?_
     rintro v106 ρ106 L106 ⟨rfl,rfl,rfl⟩
     refine ⟨rfl,fun hle106=>⟨Kp.true,?_⟩⟩
     refine Jp.y 51 rfl (qaa rfl) rfl rfl Kp.true (Y.bits rfl rfl rfl rfl) ?_
     refine Jp.y 52 rfl (qaa rfl) rfl rfl Kp.true (Y.move rfl rfl) ?_
     refine Jp.y 53 rfl (qaa rfl) rfl rfl Kp.true (Y.shr rfl rfl rfl (by first | decide | omega)) ?_
     refine Jp.y 54 rfl (qaa rfl) rfl rfl Kp.true (Y.bits rfl rfl rfl rfl) ?_
     refine Jp.call [] [] (qax _ _ (by decide)) 55 rfl (qaa rfl) rfl rfl (Runs.fn rfl call69 rfl) (by decide) (by decide) rfl trivial ?_
     rintro v107 ρ107 L107 ⟨rfl,rfl,rfl⟩
     refine ⟨rfl,fun hle107=>⟨Kp.true,?_⟩⟩
     refine Jp.y 56 rfl (qaa rfl) rfl rfl Kp.true (Y.bits rfl rfl rfl rfl) ?_
     refine Jp.y 57 rfl (qaa rfl) rfl rfl Kp.true (Y.move rfl rfl) ?_
     refine Jp.y 58 rfl (qaa rfl) rfl rfl Kp.true (Y.shr rfl rfl rfl (by first | decide | omega)) ?_
     refine Jp.y 59 rfl (qaa rfl) rfl rfl Kp.true (Y.bits rfl rfl rfl rfl) ?_
     refine Jp.call [] [] (qax _ _ (by decide)) 60 rfl (qaa rfl) rfl rfl (Runs.fn rfl call69 rfl) (by decide) (by decide) rfl trivial ?_
     rintro v108 ρ108 L108 ⟨rfl,rfl,rfl⟩
     refine ⟨rfl,fun hle108=>⟨Kp.true,?_⟩⟩
     refine Jp.y 61 rfl (qaa rfl) rfl rfl Kp.true (Y.bits rfl rfl rfl rfl) ?_
     refine Jp.y 4 rfl (qaa rfl) rfl rfl Kp.true (Y.assign rfl rfl) ?_
     refine Jp.qae hK39 ?_
     refine Cd.ret [] rfl (qbf rfl rfl) trivial ⟨rfl, congrArg (Value.int .u32) (by
      (rw [bitsP]; repeat first | exact hm | exact or4_u (qal _ _) (qal _ _) (qal _ _) (qal _ _) | exact qbr (qal _ _) (qal _ _) | rfl | rw [if_pos (by omega)] | rw [if_neg (by omega)])), rfl⟩
    ·skip
     try simp only [sG0] at g36
     refine Cd.seq fun K40 hK40=>?_
     refine Cd.qac [(0,false),(1,false),(2,false),(3,false),(4,false),(5,false),(6,false)] rfl rfl ?_
     refine Jp.y 63 rfl (qaa rfl) rfl rfl Kp.true (Y.move rfl rfl) ?_
     refine Jp.y 64 rfl (qaa rfl) rfl rfl Kp.true (Y.geq rfl rfl rfl) ?_
     refine Jp.y 65 rfl (qaa rfl) rfl rfl Kp.true (Y.move rfl rfl) ?_
     refine Jp.split 65 rfl (fun g65=>?_) (fun g65=>?_)
     ·skip
      try simp only [sG0] at g65
      refine Jp.y 66 rfl (qab rfl rfl rfl rfl) rfl rfl Kp.true (Y.move rfl rfl) ?_
      refine Jp.y 67 rfl (qab rfl rfl rfl rfl) rfl rfl Kp.true (Y.leq rfl rfl rfl) ?_
      refine Jp.y 68 rfl (qaa rfl) rfl rfl Kp.true (Y.qav rfl rfl rfl) ?_
      refine Jp.y 62 rfl (qaa rfl) rfl rfl Kp.true (Y.assign rfl rfl) ?_
      refine Jp.qae hK40 ?_
      refine Cd.qaq rfl (fun g62=>?_) (fun g62=>?_)
      ·skip
       try simp only [sG0] at g62
       refine Cd.seq fun K41 hK41=>?_
       refine Cd.qac [(0,false),(1,false),(2,false),(3,false),(4,false),(5,false),(6,false),(7,false),(8,false)] rfl rfl ?_
       refine Jp.y 69 rfl (qaa rfl) rfl rfl Kp.true (Y.move rfl rfl) ?_
       refine Jp.y 70 rfl (qaa rfl) rfl rfl Kp.true (Y.shr rfl rfl rfl (by first | decide | omega)) ?_
       refine Jp.y 71 rfl (qaa rfl) rfl rfl Kp.true (Y.bits rfl rfl rfl rfl) ?_
       refine Jp.call [] [] (qax _ _ (by decide)) 72 rfl (qaa rfl) rfl rfl (Runs.fn rfl call69 rfl) (by decide) (by decide) rfl trivial ?_
       rintro v109 ρ109 L109 ⟨rfl,rfl,rfl⟩
       refine ⟨rfl,fun hle109=>⟨Kp.true,?_⟩⟩
       refine Jp.y 73 rfl (qaa rfl) rfl rfl Kp.true (Y.move rfl rfl) ?_
       refine Jp.y 74 rfl (qaa rfl) rfl rfl Kp.true (Y.bits rfl rfl rfl rfl) ?_
       refine Jp.call [] [] (qax _ _ (by decide)) 75 rfl (qaa rfl) rfl rfl (Runs.fn rfl call69 rfl) (by decide) (by decide) rfl trivial ?_
       rintro v110 ρ110 L110 ⟨rfl,rfl,rfl⟩
       refine ⟨rfl,fun hle110=>⟨Kp.true,?_⟩⟩
       refine Jp.y 76 rfl (qaa rfl) rfl rfl Kp.true (Y.bits rfl rfl rfl rfl) ?_
       refine Jp.y 4 rfl (qaa rfl) rfl rfl Kp.true (Y.assign rfl rfl) ?_
       refine Jp.qae hK41 ?_
       refine Cd.ret [] rfl (qbf rfl rfl) trivial ⟨rfl, congrArg (Value.int .u32) (by
        (rw [bitsP]; repeat first | exact hm | exact or4_u (qal _ _) (qal _ _) (qal _ _) (qal _ _) | exact qbr (qal _ _) (qal _ _) | rfl | rw [if_pos (by omega)] | rw [if_neg (by omega)])), rfl⟩
      ·skip
       try simp only [sG0] at g62
       refine Cd.seq fun K42 hK42=>?_
       refine Cd.qac [(0,false),(1,false),(2,false),(3,false),(4,false),(5,false),(6,false)] rfl rfl ?_
       refine Jp.y 78 rfl (qaa rfl) rfl rfl Kp.true (Y.move rfl rfl) ?_
       refine Jp.y 79 rfl (qaa rfl) rfl rfl Kp.true (Y.geq rfl rfl rfl) ?_
       refine Jp.y 80 rfl (qaa rfl) rfl rfl Kp.true (Y.move rfl rfl) ?_
       refine Jp.split 80 rfl (fun g80=>?_) (fun g80=>?_)
       ·skip
        try simp only [sG0] at g80
        refine Jp.y 81 rfl (qab rfl rfl rfl rfl) rfl rfl Kp.true (Y.move rfl rfl) ?_
        refine Jp.y 82 rfl (qab rfl rfl rfl rfl) rfl rfl Kp.true (Y.leq rfl rfl rfl) ?_
        refine Jp.y 83 rfl (qaa rfl) rfl rfl Kp.true (Y.qav rfl rfl rfl) ?_
        refine Jp.y 77 rfl (qaa rfl) rfl rfl Kp.true (Y.assign rfl rfl) ?_
        refine Jp.qae hK42 ?_
        refine Cd.qaq rfl (fun g77=>?_) (fun g77=>?_)
        ·skip
         try simp only [sG0] at g77
         refine Cd.seq fun K43 hK43=>?_
         refine Cd.qac [(0,false),(1,false),(2,false),(3,false)] rfl rfl ?_
         refine Jp.y 84 rfl (qaa rfl) rfl rfl Kp.true (Y.move rfl rfl) ?_
         refine Jp.y 85 rfl (qaa rfl) rfl rfl Kp.true (Y.bits rfl rfl rfl rfl) ?_
         refine Jp.call [] [] (qax _ _ (by decide)) 86 rfl (qaa rfl) rfl rfl (Runs.fn rfl call69 rfl) (by decide) (by decide) rfl trivial ?_
         rintro v111 ρ111 L111 ⟨rfl,rfl,rfl⟩
         refine ⟨rfl,fun hle111=>⟨Kp.true,?_⟩⟩
         refine Jp.y 4 rfl (qaa rfl) rfl rfl Kp.true (Y.assign rfl rfl) ?_
         refine Jp.qae hK43 ?_
         refine Cd.ret [] rfl (qbf rfl rfl) trivial ⟨rfl, congrArg (Value.int .u32) (by
          (rw [bitsP]; repeat first | exact hm | exact or4_u (qal _ _) (qal _ _) (qal _ _) (qal _ _) | exact qbr (qal _ _) (qal _ _) | rfl | rw [if_pos (by omega)] | rw [if_neg (by omega)])), rfl⟩
        ·skip
         try simp only [sG0] at g77
         refine Cd.seq fun K44 hK44=>?_
         refine Cd.qac [(0,false),(1,false),(2,false)] rfl rfl ?_
         refine Jp.y 88 rfl (qaa rfl) rfl rfl Kp.true (Y.move rfl rfl) ?_
         refine Jp.y 89 rfl (qaa rfl) rfl rfl Kp.true (Y.geq rfl rfl rfl) ?_
         refine Jp.y 87 rfl (qaa rfl) rfl rfl Kp.true (Y.assign rfl rfl) ?_
         refine Jp.qae hK44 ?_
         refine Cd.qaq rfl (fun g87=>?_) (fun g87=>?_)
         ·skip
          try simp only [sG0] at g87
          refine Cd.seq fun K45 hK45=>?_
          refine Cd.qac [(0,false)] rfl rfl ?_
          refine Jp.y 4 rfl (qaa rfl) rfl rfl Kp.true (Y.assign rfl rfl) ?_
          refine Jp.qae hK45 ?_
          refine Cd.ret [] rfl (qbf rfl rfl) trivial ⟨rfl, congrArg (Value.int .u32) (by
           (rw [bitsP]; repeat first | exact hm | exact or4_u (qal _ _) (qal _ _) (qal _ _) (qal _ _) | exact qbr (qal _ _) (qal _ _) | rfl | rw [if_pos (by omega)] | rw [if_neg (by omega)])), rfl⟩
         ·skip
          try simp only [sG0] at g87
          refine Cd.over rfl hK33 ?_
          refine Cd.seq fun K46 hK46=>?_
          refine Cd.qac [(0,false),(1,false),(2,false),(3,false)] rfl rfl ?_
          refine Jp.y 90 rfl (qaa rfl) rfl rfl Kp.true (Y.move rfl rfl) ?_
          refine Jp.y 91 rfl (qaa rfl) rfl rfl Kp.true (Y.bits rfl rfl rfl rfl) ?_
          refine Jp.call [] [] (qax _ _ (by decide)) 92 rfl (qaa rfl) rfl rfl (Runs.fn rfl call69 rfl) (by decide) (by decide) rfl trivial ?_
          rintro v112 ρ112 L112 ⟨rfl,rfl,rfl⟩
          refine ⟨rfl,fun hle112=>⟨Kp.true,?_⟩⟩
          refine Jp.y 4 rfl (qaa rfl) rfl rfl Kp.true (Y.assign rfl rfl) ?_
          refine Jp.qae hK46 ?_
          refine Cd.ret [] rfl (qbf rfl rfl) trivial ⟨rfl, congrArg (Value.int .u32) (by
           (exfalso; omega)), rfl⟩
       ·skip
        try simp only [sG0] at g80
        refine Jp.qar 81 rfl (qab rfl rfl rfl rfl) rfl rfl Kp.true ?_
        refine Jp.qar 82 rfl (qab rfl rfl rfl rfl) rfl rfl Kp.true ?_
        refine Jp.y 83 rfl (qaa rfl) rfl rfl Kp.true (Y.qay rfl rfl rfl) ?_
        refine Jp.y 77 rfl (qaa rfl) rfl rfl Kp.true (Y.assign rfl rfl) ?_
        refine Jp.qae hK42 ?_
        refine Cd.qbs rfl ?_
        refine Cd.seq fun K47 hK47=>?_
        refine Cd.qac [(0,false),(1,false),(2,false)] rfl rfl ?_
        refine Jp.y 88 rfl (qaa rfl) rfl rfl Kp.true (Y.move rfl rfl) ?_
        refine Jp.y 89 rfl (qaa rfl) rfl rfl Kp.true (Y.geq rfl rfl rfl) ?_
        refine Jp.y 87 rfl (qaa rfl) rfl rfl Kp.true (Y.assign rfl rfl) ?_
        refine Jp.qae hK47 ?_
        refine Cd.qaq rfl (fun g87=>?_) (fun g87=>?_)
        ·skip
         try simp only [sG0] at g87
         refine Cd.seq fun K48 hK48=>?_
         refine Cd.qac [(0,false)] rfl rfl ?_
         refine Jp.y 4 rfl (qaa rfl) rfl rfl Kp.true (Y.assign rfl rfl) ?_
         refine Jp.qae hK48 ?_
         refine Cd.ret [] rfl (qbf rfl rfl) trivial ⟨rfl, congrArg (Value.int .u32) (by
          (exfalso; omega)), rfl⟩
        ·skip
         try simp only [sG0] at g87
         refine Cd.over rfl hK33 ?_
         refine Cd.seq fun K49 hK49=>?_
         refine Cd.qac [(0,false),(1,false),(2,false),(3,false)] rfl rfl ?_
         refine Jp.y 90 rfl (qaa rfl) rfl rfl Kp.true (Y.move rfl rfl) ?_
         refine Jp.y 91 rfl (qaa rfl) rfl rfl Kp.true (Y.bits rfl rfl rfl rfl) ?_
         refine Jp.call [] [] (qax _ _ (by decide)) 92 rfl (qaa rfl) rfl rfl (Runs.fn rfl call69 rfl) (by decide) (by decide) rfl trivial ?_
         rintro v113 ρ113 L113 ⟨rfl,rfl,rfl⟩
         refine ⟨rfl,fun hle113=>⟨Kp.true,?_⟩⟩
         refine Jp.y 4 rfl (qaa rfl) rfl rfl Kp.true (Y.assign rfl rfl) ?_
         refine Jp.qae hK49 ?_
         refine Cd.ret [] rfl (qbf rfl rfl) trivial ⟨rfl, congrArg (Value.int .u32) (by
          (rw [bitsP]; repeat first | exact hm | exact or4_u (qal _ _) (qal _ _) (qal _ _) (qal _ _) | exact qbr (qal _ _) (qal _ _) | rfl | rw [if_pos (by omega)] | rw [if_neg (by omega)])), rfl⟩
     ·skip
      try simp only [sG0] at g65
      refine Jp.qar 66 rfl (qab rfl rfl rfl rfl) rfl rfl Kp.true ?_
      refine Jp.qar 67 rfl (qab rfl rfl rfl rfl) rfl rfl Kp.true ?_
      refine Jp.y 68 rfl (qaa rfl) rfl rfl Kp.true (Y.qay rfl rfl rfl) ?_
      refine Jp.y 62 rfl (qaa rfl) rfl rfl Kp.true (Y.assign rfl rfl) ?_
      refine Jp.qae hK40 ?_
      refine Cd.qbs rfl ?_
      refine Cd.seq fun K50 hK50=>?_
      refine Cd.qac [(0,false),(1,false),(2,false),(3,false),(4,false),(5,false),(6,false)] rfl rfl ?_
      refine Jp.y 78 rfl (qaa rfl) rfl rfl Kp.true (Y.move rfl rfl) ?_
      refine Jp.y 79 rfl (qaa rfl) rfl rfl Kp.true (Y.geq rfl rfl rfl) ?_
      refine Jp.y 80 rfl (qaa rfl) rfl rfl Kp.true (Y.move rfl rfl) ?_
      refine Jp.split 80 rfl (fun g80=>?_) (fun g80=>?_)
      ·skip
       try simp only [sG0] at g80
       refine Jp.y 81 rfl (qab rfl rfl rfl rfl) rfl rfl Kp.true (Y.move rfl rfl) ?_
       refine Jp.y 82 rfl (qab rfl rfl rfl rfl) rfl rfl Kp.true (Y.leq rfl rfl rfl) ?_
       refine Jp.y 83 rfl (qaa rfl) rfl rfl Kp.true (Y.qav rfl rfl rfl) ?_
       refine Jp.y 77 rfl (qaa rfl) rfl rfl Kp.true (Y.assign rfl rfl) ?_
       refine Jp.qae hK50 ?_
       refine Cd.qaq rfl (fun g77=>?_) (fun g77=>?_)
       ·skip
        try simp only [sG0] at g77
        refine Cd.seq fun K51 hK51=>?_
        refine Cd.qac [(0,false),(1,false),(2,false),(3,false)] rfl rfl ?_
        refine Jp.y 84 rfl (qaa rfl) rfl rfl Kp.true (Y.move rfl rfl) ?_
        refine Jp.y 85 rfl (qaa rfl) rfl rfl Kp.true (Y.bits rfl rfl rfl rfl) ?_
        refine Jp.call [] [] (qax _ _ (by decide)) 86 rfl (qaa rfl) rfl rfl (Runs.fn rfl call69 rfl) (by decide) (by decide) rfl trivial ?_
        rintro v114 ρ114 L114 ⟨rfl,rfl,rfl⟩
        refine ⟨rfl,fun hle114=>⟨Kp.true,?_⟩⟩
        refine Jp.y 4 rfl (qaa rfl) rfl rfl Kp.true (Y.assign rfl rfl) ?_
        refine Jp.qae hK51 ?_
        refine Cd.ret [] rfl (qbf rfl rfl) trivial ⟨rfl, congrArg (Value.int .u32) (by
         (exfalso; omega)), rfl⟩
       ·skip
        try simp only [sG0] at g77
        refine Cd.seq fun K52 hK52=>?_
        refine Cd.qac [(0,false),(1,false),(2,false)] rfl rfl ?_
        refine Jp.y 88 rfl (qaa rfl) rfl rfl Kp.true (Y.move rfl rfl) ?_
        refine Jp.y 89 rfl (qaa rfl) rfl rfl Kp.true (Y.geq rfl rfl rfl) ?_
        refine Jp.y 87 rfl (qaa rfl) rfl rfl Kp.true (Y.assign rfl rfl) ?_
        refine Jp.qae hK52 ?_
        refine Cd.qaq rfl (fun g87=>?_) (fun g87=>?_)
        ·skip
         try simp only [sG0] at g87
         refine Cd.seq fun K53 hK53=>?_
         refine Cd.qac [(0,false)] rfl rfl ?_
         refine Jp.y 4 rfl (qaa rfl) rfl rfl Kp.true (Y.assign rfl rfl) ?_
         refine Jp.qae hK53 ?_
         refine Cd.ret [] rfl (qbf rfl rfl) trivial ⟨rfl, congrArg (Value.int .u32) (by
          (exfalso; omega)), rfl⟩
        ·skip
         try simp only [sG0] at g87
         refine Cd.over rfl hK33 ?_
         refine Cd.seq fun K54 hK54=>?_
         refine Cd.qac [(0,false),(1,false),(2,false),(3,false)] rfl rfl ?_
         refine Jp.y 90 rfl (qaa rfl) rfl rfl Kp.true (Y.move rfl rfl) ?_
         refine Jp.y 91 rfl (qaa rfl) rfl rfl Kp.true (Y.bits rfl rfl rfl rfl) ?_
         refine Jp.call [] [] (qax _ _ (by decide)) 92 rfl (qaa rfl) rfl rfl (Runs.fn rfl call69 rfl) (by decide) (by decide) rfl trivial ?_
         rintro v115 ρ115 L115 ⟨rfl,rfl,rfl⟩
         refine ⟨rfl,fun hle115=>⟨Kp.true,?_⟩⟩
         refine Jp.y 4 rfl (qaa rfl) rfl rfl Kp.true (Y.assign rfl rfl) ?_
         refine Jp.qae hK54 ?_
         refine Cd.ret [] rfl (qbf rfl rfl) trivial ⟨rfl, congrArg (Value.int .u32) (by
          (exfalso; omega)), rfl⟩
      ·skip
       try simp only [sG0] at g80
       refine Jp.qar 81 rfl (qab rfl rfl rfl rfl) rfl rfl Kp.true ?_
       refine Jp.qar 82 rfl (qab rfl rfl rfl rfl) rfl rfl Kp.true ?_
       refine Jp.y 83 rfl (qaa rfl) rfl rfl Kp.true (Y.qay rfl rfl rfl) ?_
       refine Jp.y 77 rfl (qaa rfl) rfl rfl Kp.true (Y.assign rfl rfl) ?_
       refine Jp.qae hK50 ?_
       refine Cd.qbs rfl ?_
       refine Cd.seq fun K55 hK55=>?_
       refine Cd.qac [(0,false),(1,false),(2,false)] rfl rfl ?_
       refine Jp.y 88 rfl (qaa rfl) rfl rfl Kp.true (Y.move rfl rfl) ?_
       refine Jp.y 89 rfl (qaa rfl) rfl rfl Kp.true (Y.geq rfl rfl rfl) ?_
       refine Jp.y 87 rfl (qaa rfl) rfl rfl Kp.true (Y.assign rfl rfl) ?_
       refine Jp.qae hK55 ?_
       refine Cd.qaq rfl (fun g87=>?_) (fun g87=>?_)
       ·skip
        try simp only [sG0] at g87
        refine Cd.seq fun K56 hK56=>?_
        refine Cd.qac [(0,false)] rfl rfl ?_
        refine Jp.y 4 rfl (qaa rfl) rfl rfl Kp.true (Y.assign rfl rfl) ?_
        refine Jp.qae hK56 ?_
        refine Cd.ret [] rfl (qbf rfl rfl) trivial ⟨rfl, congrArg (Value.int .u32) (by
         (exfalso; omega)), rfl⟩
       ·skip
        try simp only [sG0] at g87
        refine Cd.over rfl hK33 ?_
        refine Cd.seq fun K57 hK57=>?_
        refine Cd.qac [(0,false),(1,false),(2,false),(3,false)] rfl rfl ?_
        refine Jp.y 90 rfl (qaa rfl) rfl rfl Kp.true (Y.move rfl rfl) ?_
        refine Jp.y 91 rfl (qaa rfl) rfl rfl Kp.true (Y.bits rfl rfl rfl rfl) ?_
        refine Jp.call [] [] (qax _ _ (by decide)) 92 rfl (qaa rfl) rfl rfl (Runs.fn rfl call69 rfl) (by decide) (by decide) rfl trivial ?_
        rintro v116 ρ116 L116 ⟨rfl,rfl,rfl⟩
        refine ⟨rfl,fun hle116=>⟨Kp.true,?_⟩⟩
        refine Jp.y 4 rfl (qaa rfl) rfl rfl Kp.true (Y.assign rfl rfl) ?_
        refine Jp.qae hK57 ?_
        refine Cd.ret [] rfl (qbf rfl rfl) trivial ⟨rfl, congrArg (Value.int .u32) (by
         (rw [bitsP]; repeat first | exact hm | exact or4_u (qal _ _) (qal _ _) (qal _ _) (qal _ _) | exact qbr (qal _ _) (qal _ _) | rfl | rw [if_pos (by omega)] | rw [if_neg (by omega)])), rfl⟩
   ·skip
    try simp only [sG0] at g39
    refine Jp.qar 40 rfl (qab rfl rfl rfl rfl) rfl rfl Kp.true ?_
    refine Jp.qar 41 rfl (qab rfl rfl rfl rfl) rfl rfl Kp.true ?_
    refine Jp.y 42 rfl (qaa rfl) rfl rfl Kp.true (Y.qay rfl rfl rfl) ?_
    refine Jp.y 36 rfl (qaa rfl) rfl rfl Kp.true (Y.assign rfl rfl) ?_
    refine Jp.qae hK38 ?_
    refine Cd.qbs rfl ?_
    refine Cd.seq fun K58 hK58=>?_
    refine Cd.qac [(0,false),(1,false),(2,false),(3,false),(4,false),(5,false),(6,false)] rfl rfl ?_
    refine Jp.y 63 rfl (qaa rfl) rfl rfl Kp.true (Y.move rfl rfl) ?_
    refine Jp.y 64 rfl (qaa rfl) rfl rfl Kp.true (Y.geq rfl rfl rfl) ?_
    refine Jp.y 65 rfl (qaa rfl) rfl rfl Kp.true (Y.move rfl rfl) ?_
    refine Jp.split 65 rfl (fun g65=>?_) (fun g65=>?_)
    ·skip
     try simp only [sG0] at g65
     refine Jp.y 66 rfl (qab rfl rfl rfl rfl) rfl rfl Kp.true (Y.move rfl rfl) ?_
     refine Jp.y 67 rfl (qab rfl rfl rfl rfl) rfl rfl Kp.true (Y.leq rfl rfl rfl) ?_
     refine Jp.y 68 rfl (qaa rfl) rfl rfl Kp.true (Y.qav rfl rfl rfl) ?_
     refine Jp.y 62 rfl (qaa rfl) rfl rfl Kp.true (Y.assign rfl rfl) ?_
     refine Jp.qae hK58 ?_
     refine Cd.qaq rfl (fun g62=>?_) (fun g62=>?_)
     ·skip
      try simp only [sG0] at g62
      refine Cd.seq fun K59 hK59=>?_
      refine Cd.qac [(0,false),(1,false),(2,false),(3,false),(4,false),(5,false),(6,false),(7,false),(8,false)] rfl rfl ?_
      refine Jp.y 69 rfl (qaa rfl) rfl rfl Kp.true (Y.move rfl rfl) ?_
      refine Jp.y 70 rfl (qaa rfl) rfl rfl Kp.true (Y.shr rfl rfl rfl (by first | decide | omega)) ?_
      refine Jp.y 71 rfl (qaa rfl) rfl rfl Kp.true (Y.bits rfl rfl rfl rfl) ?_
      refine Jp.call [] [] (qax _ _ (by decide)) 72 rfl (qaa rfl) rfl rfl (Runs.fn rfl call69 rfl) (by decide) (by decide) rfl trivial ?_
      rintro v117 ρ117 L117 ⟨rfl,rfl,rfl⟩
      refine ⟨rfl,fun hle117=>⟨Kp.true,?_⟩⟩
      refine Jp.y 73 rfl (qaa rfl) rfl rfl Kp.true (Y.move rfl rfl) ?_
      refine Jp.y 74 rfl (qaa rfl) rfl rfl Kp.true (Y.bits rfl rfl rfl rfl) ?_
      refine Jp.call [] [] (qax _ _ (by decide)) 75 rfl (qaa rfl) rfl rfl (Runs.fn rfl call69 rfl) (by decide) (by decide) rfl trivial ?_
      rintro v118 ρ118 L118 ⟨rfl,rfl,rfl⟩
      refine ⟨rfl,fun hle118=>⟨Kp.true,?_⟩⟩
      refine Jp.y 76 rfl (qaa rfl) rfl rfl Kp.true (Y.bits rfl rfl rfl rfl) ?_
      refine Jp.y 4 rfl (qaa rfl) rfl rfl Kp.true (Y.assign rfl rfl) ?_
      refine Jp.qae hK59 ?_
      refine Cd.ret [] rfl (qbf rfl rfl) trivial ⟨rfl, congrArg (Value.int .u32) (by
       (exfalso; omega)), rfl⟩
     ·skip
      try simp only [sG0] at g62
      refine Cd.seq fun K60 hK60=>?_
      refine Cd.qac [(0,false),(1,false),(2,false),(3,false),(4,false),(5,false),(6,false)] rfl rfl ?_
      refine Jp.y 78 rfl (qaa rfl) rfl rfl Kp.true (Y.move rfl rfl) ?_
      refine Jp.y 79 rfl (qaa rfl) rfl rfl Kp.true (Y.geq rfl rfl rfl) ?_
      refine Jp.y 80 rfl (qaa rfl) rfl rfl Kp.true (Y.move rfl rfl) ?_
      refine Jp.split 80 rfl (fun g80=>?_) (fun g80=>?_)
      ·skip
       try simp only [sG0] at g80
       refine Jp.y 81 rfl (qab rfl rfl rfl rfl) rfl rfl Kp.true (Y.move rfl rfl) ?_
       refine Jp.y 82 rfl (qab rfl rfl rfl rfl) rfl rfl Kp.true (Y.leq rfl rfl rfl) ?_
       refine Jp.y 83 rfl (qaa rfl) rfl rfl Kp.true (Y.qav rfl rfl rfl) ?_
       refine Jp.y 77 rfl (qaa rfl) rfl rfl Kp.true (Y.assign rfl rfl) ?_
       refine Jp.qae hK60 ?_
       refine Cd.qaq rfl (fun g77=>?_) (fun g77=>?_)
       ·skip
        try simp only [sG0] at g77
        refine Cd.seq fun K61 hK61=>?_
        refine Cd.qac [(0,false),(1,false),(2,false),(3,false)] rfl rfl ?_
        refine Jp.y 84 rfl (qaa rfl) rfl rfl Kp.true (Y.move rfl rfl) ?_
        refine Jp.y 85 rfl (qaa rfl) rfl rfl Kp.true (Y.bits rfl rfl rfl rfl) ?_
        refine Jp.call [] [] (qax _ _ (by decide)) 86 rfl (qaa rfl) rfl rfl (Runs.fn rfl call69 rfl) (by decide) (by decide) rfl trivial ?_
        rintro v119 ρ119 L119 ⟨rfl,rfl,rfl⟩
        refine ⟨rfl,fun hle119=>⟨Kp.true,?_⟩⟩
        refine Jp.y 4 rfl (qaa rfl) rfl rfl Kp.true (Y.assign rfl rfl) ?_
        refine Jp.qae hK61 ?_
        refine Cd.ret [] rfl (qbf rfl rfl) trivial ⟨rfl, congrArg (Value.int .u32) (by
         (exfalso; omega)), rfl⟩
       ·skip
        try simp only [sG0] at g77
        refine Cd.seq fun K62 hK62=>?_
        refine Cd.qac [(0,false),(1,false),(2,false)] rfl rfl ?_
        refine Jp.y 88 rfl (qaa rfl) rfl rfl Kp.true (Y.move rfl rfl) ?_
        refine Jp.y 89 rfl (qaa rfl) rfl rfl Kp.true (Y.geq rfl rfl rfl) ?_
        refine Jp.y 87 rfl (qaa rfl) rfl rfl Kp.true (Y.assign rfl rfl) ?_
        refine Jp.qae hK62 ?_
        refine Cd.qaq rfl (fun g87=>?_) (fun g87=>?_)
        ·skip
         try simp only [sG0] at g87
         refine Cd.seq fun K63 hK63=>?_
         refine Cd.qac [(0,false)] rfl rfl ?_
         refine Jp.y 4 rfl (qaa rfl) rfl rfl Kp.true (Y.assign rfl rfl) ?_
         refine Jp.qae hK63 ?_
         refine Cd.ret [] rfl (qbf rfl rfl) trivial ⟨rfl, congrArg (Value.int .u32) (by
          (exfalso; omega)), rfl⟩
        ·skip
         try simp only [sG0] at g87
         refine Cd.over rfl hK33 ?_
         refine Cd.seq fun K64 hK64=>?_
         refine Cd.qac [(0,false),(1,false),(2,false),(3,false)] rfl rfl ?_
         refine Jp.y 90 rfl (qaa rfl) rfl rfl Kp.true (Y.move rfl rfl) ?_
         refine Jp.y 91 rfl (qaa rfl) rfl rfl Kp.true (Y.bits rfl rfl rfl rfl) ?_
         refine Jp.call [] [] (qax _ _ (by decide)) 92 rfl (qaa rfl) rfl rfl (Runs.fn rfl call69 rfl) (by decide) (by decide) rfl trivial ?_
         rintro v120 ρ120 L120 ⟨rfl,rfl,rfl⟩
         refine ⟨rfl,fun hle120=>⟨Kp.true,?_⟩⟩
         refine Jp.y 4 rfl (qaa rfl) rfl rfl Kp.true (Y.assign rfl rfl) ?_
         refine Jp.qae hK64 ?_
         refine Cd.ret [] rfl (qbf rfl rfl) trivial ⟨rfl, congrArg (Value.int .u32) (by
          (exfalso; omega)), rfl⟩
      ·skip
       try simp only [sG0] at g80
       refine Jp.qar 81 rfl (qab rfl rfl rfl rfl) rfl rfl Kp.true ?_
       refine Jp.qar 82 rfl (qab rfl rfl rfl rfl) rfl rfl Kp.true ?_
       refine Jp.y 83 rfl (qaa rfl) rfl rfl Kp.true (Y.qay rfl rfl rfl) ?_
       refine Jp.y 77 rfl (qaa rfl) rfl rfl Kp.true (Y.assign rfl rfl) ?_
       refine Jp.qae hK60 ?_
       refine Cd.qbs rfl ?_
       refine Cd.seq fun K65 hK65=>?_
       refine Cd.qac [(0,false),(1,false),(2,false)] rfl rfl ?_
       refine Jp.y 88 rfl (qaa rfl) rfl rfl Kp.true (Y.move rfl rfl) ?_
       refine Jp.y 89 rfl (qaa rfl) rfl rfl Kp.true (Y.geq rfl rfl rfl) ?_
       refine Jp.y 87 rfl (qaa rfl) rfl rfl Kp.true (Y.assign rfl rfl) ?_
       refine Jp.qae hK65 ?_
       refine Cd.qaq rfl (fun g87=>?_) (fun g87=>?_)
       ·skip
        try simp only [sG0] at g87
        refine Cd.seq fun K66 hK66=>?_
        refine Cd.qac [(0,false)] rfl rfl ?_
        refine Jp.y 4 rfl (qaa rfl) rfl rfl Kp.true (Y.assign rfl rfl) ?_
        refine Jp.qae hK66 ?_
        refine Cd.ret [] rfl (qbf rfl rfl) trivial ⟨rfl, congrArg (Value.int .u32) (by
         (exfalso; omega)), rfl⟩
       ·skip
        try simp only [sG0] at g87
        refine Cd.over rfl hK33 ?_
        refine Cd.seq fun K67 hK67=>?_
        refine Cd.qac [(0,false),(1,false),(2,false),(3,false)] rfl rfl ?_
        refine Jp.y 90 rfl (qaa rfl) rfl rfl Kp.true (Y.move rfl rfl) ?_
        refine Jp.y 91 rfl (qaa rfl) rfl rfl Kp.true (Y.bits rfl rfl rfl rfl) ?_
        refine Jp.call [] [] (qax _ _ (by decide)) 92 rfl (qaa rfl) rfl rfl (Runs.fn rfl call69 rfl) (by decide) (by decide) rfl trivial ?_
        rintro v121 ρ121 L121 ⟨rfl,rfl,rfl⟩
        refine ⟨rfl,fun hle121=>⟨Kp.true,?_⟩⟩
        refine Jp.y 4 rfl (qaa rfl) rfl rfl Kp.true (Y.assign rfl rfl) ?_
        refine Jp.qae hK67 ?_
        refine Cd.ret [] rfl (qbf rfl rfl) trivial ⟨rfl, congrArg (Value.int .u32) (by
         (exfalso; omega)), rfl⟩
    ·skip
     try simp only [sG0] at g65
     refine Jp.qar 66 rfl (qab rfl rfl rfl rfl) rfl rfl Kp.true ?_
     refine Jp.qar 67 rfl (qab rfl rfl rfl rfl) rfl rfl Kp.true ?_
     refine Jp.y 68 rfl (qaa rfl) rfl rfl Kp.true (Y.qay rfl rfl rfl) ?_
     refine Jp.y 62 rfl (qaa rfl) rfl rfl Kp.true (Y.assign rfl rfl) ?_
     refine Jp.qae hK58 ?_
     refine Cd.qbs rfl ?_
     refine Cd.seq fun K68 hK68=>?_
     refine Cd.qac [(0,false),(1,false),(2,false),(3,false),(4,false),(5,false),(6,false)] rfl rfl ?_
     refine Jp.y 78 rfl (qaa rfl) rfl rfl Kp.true (Y.move rfl rfl) ?_
     refine Jp.y 79 rfl (qaa rfl) rfl rfl Kp.true (Y.geq rfl rfl rfl) ?_
     refine Jp.y 80 rfl (qaa rfl) rfl rfl Kp.true (Y.move rfl rfl) ?_
     refine Jp.split 80 rfl (fun g80=>?_) (fun g80=>?_)
     ·skip
      try simp only [sG0] at g80
      refine Jp.y 81 rfl (qab rfl rfl rfl rfl) rfl rfl Kp.true (Y.move rfl rfl) ?_
      refine Jp.y 82 rfl (qab rfl rfl rfl rfl) rfl rfl Kp.true (Y.leq rfl rfl rfl) ?_
      refine Jp.y 83 rfl (qaa rfl) rfl rfl Kp.true (Y.qav rfl rfl rfl) ?_
      refine Jp.y 77 rfl (qaa rfl) rfl rfl Kp.true (Y.assign rfl rfl) ?_
      refine Jp.qae hK68 ?_
      refine Cd.qaq rfl (fun g77=>?_) (fun g77=>?_)
      ·skip
       try simp only [sG0] at g77
       refine Cd.seq fun K69 hK69=>?_
       refine Cd.qac [(0,false),(1,false),(2,false),(3,false)] rfl rfl ?_
       refine Jp.y 84 rfl (qaa rfl) rfl rfl Kp.true (Y.move rfl rfl) ?_
       refine Jp.y 85 rfl (qaa rfl) rfl rfl Kp.true (Y.bits rfl rfl rfl rfl) ?_
       refine Jp.call [] [] (qax _ _ (by decide)) 86 rfl (qaa rfl) rfl rfl (Runs.fn rfl call69 rfl) (by decide) (by decide) rfl trivial ?_
       rintro v122 ρ122 L122 ⟨rfl,rfl,rfl⟩
       refine ⟨rfl,fun hle122=>⟨Kp.true,?_⟩⟩
       refine Jp.y 4 rfl (qaa rfl) rfl rfl Kp.true (Y.assign rfl rfl) ?_
       refine Jp.qae hK69 ?_
       refine Cd.ret [] rfl (qbf rfl rfl) trivial ⟨rfl, congrArg (Value.int .u32) (by
        (exfalso; omega)), rfl⟩
      ·skip
       try simp only [sG0] at g77
       refine Cd.seq fun K70 hK70=>?_
       refine Cd.qac [(0,false),(1,false),(2,false)] rfl rfl ?_
       refine Jp.y 88 rfl (qaa rfl) rfl rfl Kp.true (Y.move rfl rfl) ?_
       refine Jp.y 89 rfl (qaa rfl) rfl rfl Kp.true (Y.geq rfl rfl rfl) ?_
       refine Jp.y 87 rfl (qaa rfl) rfl rfl Kp.true (Y.assign rfl rfl) ?_
       refine Jp.qae hK70 ?_
       refine Cd.qaq rfl (fun g87=>?_) (fun g87=>?_)
       ·skip
        try simp only [sG0] at g87
        refine Cd.seq fun K71 hK71=>?_
        refine Cd.qac [(0,false)] rfl rfl ?_
        refine Jp.y 4 rfl (qaa rfl) rfl rfl Kp.true (Y.assign rfl rfl) ?_
        refine Jp.qae hK71 ?_
        refine Cd.ret [] rfl (qbf rfl rfl) trivial ⟨rfl, congrArg (Value.int .u32) (by
         (exfalso; omega)), rfl⟩
       ·skip
        try simp only [sG0] at g87
        refine Cd.over rfl hK33 ?_
        refine Cd.seq fun K72 hK72=>?_
        refine Cd.qac [(0,false),(1,false),(2,false),(3,false)] rfl rfl ?_
        refine Jp.y 90 rfl (qaa rfl) rfl rfl Kp.true (Y.move rfl rfl) ?_
        refine Jp.y 91 rfl (qaa rfl) rfl rfl Kp.true (Y.bits rfl rfl rfl rfl) ?_
        refine Jp.call [] [] (qax _ _ (by decide)) 92 rfl (qaa rfl) rfl rfl (Runs.fn rfl call69 rfl) (by decide) (by decide) rfl trivial ?_
        rintro v123 ρ123 L123 ⟨rfl,rfl,rfl⟩
        refine ⟨rfl,fun hle123=>⟨Kp.true,?_⟩⟩
        refine Jp.y 4 rfl (qaa rfl) rfl rfl Kp.true (Y.assign rfl rfl) ?_
        refine Jp.qae hK72 ?_
        refine Cd.ret [] rfl (qbf rfl rfl) trivial ⟨rfl, congrArg (Value.int .u32) (by
         (exfalso; omega)), rfl⟩
     ·skip
      try simp only [sG0] at g80
      refine Jp.qar 81 rfl (qab rfl rfl rfl rfl) rfl rfl Kp.true ?_
      refine Jp.qar 82 rfl (qab rfl rfl rfl rfl) rfl rfl Kp.true ?_
      refine Jp.y 83 rfl (qaa rfl) rfl rfl Kp.true (Y.qay rfl rfl rfl) ?_
      refine Jp.y 77 rfl (qaa rfl) rfl rfl Kp.true (Y.assign rfl rfl) ?_
      refine Jp.qae hK68 ?_
      refine Cd.qbs rfl ?_
      refine Cd.seq fun K73 hK73=>?_
      refine Cd.qac [(0,false),(1,false),(2,false)] rfl rfl ?_
      refine Jp.y 88 rfl (qaa rfl) rfl rfl Kp.true (Y.move rfl rfl) ?_
      refine Jp.y 89 rfl (qaa rfl) rfl rfl Kp.true (Y.geq rfl rfl rfl) ?_
      refine Jp.y 87 rfl (qaa rfl) rfl rfl Kp.true (Y.assign rfl rfl) ?_
      refine Jp.qae hK73 ?_
      refine Cd.qaq rfl (fun g87=>?_) (fun g87=>?_)
      ·skip
       try simp only [sG0] at g87
       refine Cd.seq fun K74 hK74=>?_
       refine Cd.qac [(0,false)] rfl rfl ?_
       refine Jp.y 4 rfl (qaa rfl) rfl rfl Kp.true (Y.assign rfl rfl) ?_
       refine Jp.qae hK74 ?_
       refine Cd.ret [] rfl (qbf rfl rfl) trivial ⟨rfl, congrArg (Value.int .u32) (by
        (exfalso; omega)), rfl⟩
      ·skip
       try simp only [sG0] at g87
       refine Cd.over rfl hK33 ?_
       refine Cd.seq fun K75 hK75=>?_
       refine Cd.qac [(0,false),(1,false),(2,false),(3,false)] rfl rfl ?_
       refine Jp.y 90 rfl (qaa rfl) rfl rfl Kp.true (Y.move rfl rfl) ?_
       refine Jp.y 91 rfl (qaa rfl) rfl rfl Kp.true (Y.bits rfl rfl rfl rfl) ?_
       refine Jp.call [] [] (qax _ _ (by decide)) 92 rfl (qaa rfl) rfl rfl (Runs.fn rfl call69 rfl) (by decide) (by decide) rfl trivial ?_
       rintro v124 ρ124 L124 ⟨rfl,rfl,rfl⟩
       refine ⟨rfl,fun hle124=>⟨Kp.true,?_⟩⟩
       refine Jp.y 4 rfl (qaa rfl) rfl rfl Kp.true (Y.assign rfl rfl) ?_
       refine Jp.qae hK75 ?_
       refine Cd.ret [] rfl (qbf rfl rfl) trivial ⟨rfl, congrArg (Value.int .u32) (by
        (rw [bitsP]; repeat first | exact hm | exact or4_u (qal _ _) (qal _ _) (qal _ _) (qal _ _) | exact qbr (qal _ _) (qal _ _) | rfl | rw [if_pos (by omega)] | rw [if_neg (by omega)])), rfl⟩
end
end Go.Proofs.YtnfkalpgidiafaaGreat

namespace Go.Proofs.YtnfkalpgidiafaaGreat
open Go
def qdf (l : List Int) : qap:=l.flatMap fun x=>leB x.toNat 4
theorem wordsB_len (l : List Int) : (qdf l).length = 4 * l.length:=by
 induction l with
 | nil=>rfl
 | cons x l ih =>
  have : qdf (x :: l) = leB x.toNat 4 ++ qdf l:=rfl
  rw [this,List.length_append,ih,qfa,List.length_cons]; omega
theorem wordsB_snoc {xs : List Int} {i m : Nat} (hi : i < xs.length) (hm : xs[i] = (m : Int)) : qdf (xs.take (i + 1)) = qdf (xs.take i) ++ leB m 4:=by
 rw [← List.take_append_getElem hi,hm]
 unfold qdf
 rw [List.flatMap_append]
 simp
def map3 : MemG:=(mapM (mapM (mapM (newM 50) 4096 256 5).2 65536 256 3).2 65792 256 1).2
def madeM (xs : List Int) : MemG:=(qdw (qdw map3 4096 (qdf (xs.take 64)) 65536 0).2 65536 [] 65536 0).2
end Go.Proofs.YtnfkalpgidiafaaGreat

namespace Go.Proofs.YtnfkalpgidiafaaGreat
open Go
def atP (pc k : Nat) : Nat:=(pc + 4 * k) % 4294967296
def findL (M : MemG) (pc : Nat) : Nat → Nat → List InsP
 | 0,_=>[]
 | n + 1,k=>if atP pc k / 256 = pc / 256 ∧ (qcd M (atP pc k)).2.kind = 0 then (qcd M (atP pc k)).1 :: (if endsP (qcd M (atP pc k)).1.op then [] else findL M pc n (k + 1)) else []
def mostP (most : Int) : Nat:=(min (max most 1) 64).toNat
def blockC (pc : Nat) (B : Option Addr) (l d gen : Nat) : List Value:=[.int .u32 (pc : Int),.slice B l d,.int .u32 (gen : Int)]
end Go.Proofs.YtnfkalpgidiafaaGreat

namespace Go.Proofs.YtnfkalpgidiafaaGreat
open _root_.Go.Proofs.Tryz
open Go
def insEq (a b : InsP) : Bool:=((a.op : Int) == (b.op : Int)) && (((a.rd : Int) == (b.rd : Int)) && (((a.r1 : Int) == (b.r1 : Int)) && (((a.r2 : Int) == (b.r2 : Int)) && ((a.imm == b.imm) && true))))
def evEq (a b : EvP) : Bool:=((a.kind : Int) == (b.kind : Int)) && (((a.addr : Int) == (b.addr : Int)) && ((a.why == b.why) && true))
theorem evEq_iff (a b : EvP) : evEq a b = true ↔ a = b:=by
 obtain ⟨a1,a2,a3⟩:=a
 obtain ⟨b1,b2,b3⟩:=b
 simp [evEq]
 omega
theorem ins_guard : Tryz.prog.eqGuardType Tryz.prog.depth 60 = false:=by kernel_rfl
theorem ins_stood : Tryz.prog.stoodInHeld 60 = false:=by kernel_rfl
theorem ins_fields : Tryz.prog.underlying 60 = some (.struct (Tryz.prog.fieldsOf 60)):=by kernel_rfl
theorem ev_guard : Tryz.prog.eqGuardType Tryz.prog.depth 46 = false:=by kernel_rfl
theorem ev_stood : Tryz.prog.stoodInHeld 46 = false:=by kernel_rfl
theorem ev_fields : Tryz.prog.underlying 46 = some (.struct (Tryz.prog.fieldsOf 46)):=by kernel_rfl
theorem ins_list : (Tryz.prog.fieldsOf 60).toList = [Field.mk "Op" 3 0 false "" "" 0, Field.mk "Rd" 3 1 false "" "" 8, Field.mk "Rs1" 3 2 false "" "" 16, Field.mk "Rs2" 3 3 false "" "" 24, Field.mk "Imm" 21 4 false "" "" 32] := by kernel_rfl
theorem ev_list : (Tryz.prog.fieldsOf 46).toList = [Field.mk "Kind" 3 0 false "" "" 0, Field.mk "Addr" 24 1 false "" "" 8, Field.mk "Why" 44 2 false "" "" 16] := by kernel_rfl
theorem ins_eq (a b : InsP) (w : World) : (Op.eqFields 9999 a.cells.toArray b.cells.toArray (Tryz.prog.fieldsOf 60).toList).run Tryz.prog w = .ok (insEq a b) w:=by
 rw [ins_list]
 exact qco (by decide) (qca isAgg3 rfl) (qca isAgg3 rfl) underlying3 (qco (by decide) (qca isAgg3 rfl) (qca isAgg3 rfl) underlying3 (qco (by decide) (qca isAgg3 rfl) (qca isAgg3 rfl) underlying3 (qco (by decide) (qca isAgg3 rfl) (qca isAgg3 rfl) underlying3 (qco (by decide) (qca isAgg21 rfl) (qca isAgg21 rfl) underlying21 rfl))))
theorem ev_eq (a b : EvP) (w : World) : (Op.eqFields 9999 a.cells.toArray b.cells.toArray (Tryz.prog.fieldsOf 46).toList).run Tryz.prog w = .ok (evEq a b) w:=by
 rw [ev_list]
 exact qco (by decide) (qca isAgg3 rfl) (qca isAgg3 rfl) underlying3 (qco (by decide) (qca isAgg24 rfl) (qca isAgg24 rfl) underlying24 (qco (by decide) (qca isAgg44 rfl) (qca isAgg44 rfl) underlying44 rfl))
end Go.Proofs.YtnfkalpgidiafaaGreat

namespace Go.Proofs.YtnfkalpgidiafaaGreat
open _root_.Go.Proofs.Tryz
open Go
def wholeP (op : Nat) : Nat:=if op = 46 then 267386895 else if op = 47 then 4111 else if op = 48 then 115 else if op = 49 then 1048691 else 0
theorem whole_spec (op : Nat) (h : op < 50) : Spec Tryz.prog 66 #[.int .i64 op] (fun _=>True) [] (fun ρ ρ' v L=>ρ' = ρ ∧ v = .tuple #[.int .u32 (wholeP op : Int),.bool (decide (46 ≤ op))] ∧ L = []):=by
  refine Spec.of 13 Tryz.func66 rfl Tryz.ntmps66 [(0,_)] rfl rfl ?_
  intro cx ρ hr h0
  refine Cd.seq fun K1 hK1=>?_
  refine Cd.qac [(0,false),(1,false)] rfl rfl ?_
  refine Jp.y 2 rfl (qaa rfl) rfl rfl Kp.true (Y.assign rfl rfl) ?_
  refine Jp.y 3 rfl (qaa rfl) rfl rfl Kp.true (Y.assign rfl rfl) ?_
  refine Jp.qae hK1 ?_
  refine Cd.seq fun K2 hK2=>?_
  refine Cd.seq fun K3 hK3=>?_
  refine Cd.qac [(0,false)] rfl rfl ?_
  refine Jp.y 4 rfl (qaa rfl) rfl rfl Kp.true (Y.move rfl rfl) ?_
  refine Jp.qae hK3 ?_
  refine Cd.block ?_
  refine Cd.seq fun K4 hK4=>?_
  refine Cd.qac [(0,false),(1,false)] rfl rfl ?_
  refine Jp.y 6 rfl (qaa rfl) rfl rfl Kp.true (Y.eql rfl rfl rfl) ?_
  refine Jp.y 5 rfl (qaa rfl) rfl rfl Kp.true (Y.assign rfl rfl) ?_
  refine Jp.qae hK4 ?_
  refine Cd.qaq rfl (fun g5=>?_) (fun g5=>?_)
  · skip
    try simp only [sG0] at g5
    refine Cd.seq fun K5 hK5=>?_
    refine Cd.qac [(0,false),(1,false)] rfl rfl ?_
    refine Jp.y 2 rfl (qaa rfl) rfl rfl Kp.true (Y.assign rfl rfl) ?_
    refine Jp.y 3 rfl (qaa rfl) rfl rfl Kp.true (Y.assign rfl rfl) ?_
    refine Jp.qae hK5 ?_
    refine Cd.ret [] rfl (qbv rfl rfl rfl) trivial ⟨rfl, by
      (obtain rfl : op = 46 := by omega
       rfl), rfl⟩
  · skip
    try simp only [sG0] at g5
    refine Cd.seq fun K6 hK6=>?_
    refine Cd.qac [(0,false),(1,false)] rfl rfl ?_
    refine Jp.y 8 rfl (qaa rfl) rfl rfl Kp.true (Y.eql rfl rfl rfl) ?_
    refine Jp.y 7 rfl (qaa rfl) rfl rfl Kp.true (Y.assign rfl rfl) ?_
    refine Jp.qae hK6 ?_
    refine Cd.qaq rfl (fun g7=>?_) (fun g7=>?_)
    · skip
      try simp only [sG0] at g7
      refine Cd.seq fun K7 hK7=>?_
      refine Cd.qac [(0,false),(1,false)] rfl rfl ?_
      refine Jp.y 2 rfl (qaa rfl) rfl rfl Kp.true (Y.assign rfl rfl) ?_
      refine Jp.y 3 rfl (qaa rfl) rfl rfl Kp.true (Y.assign rfl rfl) ?_
      refine Jp.qae hK7 ?_
      refine Cd.ret [] rfl (qbv rfl rfl rfl) trivial ⟨rfl, by
        (obtain rfl : op = 47 := by omega
         rfl), rfl⟩
    · skip
      try simp only [sG0] at g7
      refine Cd.seq fun K8 hK8=>?_
      refine Cd.qac [(0,false),(1,false)] rfl rfl ?_
      refine Jp.y 10 rfl (qaa rfl) rfl rfl Kp.true (Y.eql rfl rfl rfl) ?_
      refine Jp.y 9 rfl (qaa rfl) rfl rfl Kp.true (Y.assign rfl rfl) ?_
      refine Jp.qae hK8 ?_
      refine Cd.qaq rfl (fun g9=>?_) (fun g9=>?_)
      · skip
        try simp only [sG0] at g9
        refine Cd.seq fun K9 hK9=>?_
        refine Cd.qac [(0,false),(1,false)] rfl rfl ?_
        refine Jp.y 2 rfl (qaa rfl) rfl rfl Kp.true (Y.assign rfl rfl) ?_
        refine Jp.y 3 rfl (qaa rfl) rfl rfl Kp.true (Y.assign rfl rfl) ?_
        refine Jp.qae hK9 ?_
        refine Cd.ret [] rfl (qbv rfl rfl rfl) trivial ⟨rfl, by
          (obtain rfl : op = 48 := by omega
           rfl), rfl⟩
      · skip
        try simp only [sG0] at g9
        refine Cd.seq fun K10 hK10=>?_
        refine Cd.qac [(0,false),(1,false)] rfl rfl ?_
        refine Jp.y 12 rfl (qaa rfl) rfl rfl Kp.true (Y.eql rfl rfl rfl) ?_
        refine Jp.y 11 rfl (qaa rfl) rfl rfl Kp.true (Y.assign rfl rfl) ?_
        refine Jp.qae hK10 ?_
        refine Cd.qaq rfl (fun g11=>?_) (fun g11=>?_)
        · skip
          try simp only [sG0] at g11
          refine Cd.seq fun K11 hK11=>?_
          refine Cd.qac [(0,false),(1,false)] rfl rfl ?_
          refine Jp.y 2 rfl (qaa rfl) rfl rfl Kp.true (Y.assign rfl rfl) ?_
          refine Jp.y 3 rfl (qaa rfl) rfl rfl Kp.true (Y.assign rfl rfl) ?_
          refine Jp.qae hK11 ?_
          refine Cd.ret [] rfl (qbv rfl rfl rfl) trivial ⟨rfl, by
            (obtain rfl : op = 49 := by omega
             rfl), rfl⟩
        · skip
          try simp only [sG0] at g11
          refine Cd.over rfl hK2 ?_
          refine Cd.seq fun K12 hK12=>?_
          refine Cd.qac [(0,false),(1,false)] rfl rfl ?_
          refine Jp.y 2 rfl (qaa rfl) rfl rfl Kp.true (Y.assign rfl rfl) ?_
          refine Jp.y 3 rfl (qaa rfl) rfl rfl Kp.true (Y.assign rfl rfl) ?_
          refine Jp.qae hK12 ?_
          refine Cd.ret [] rfl (qbv rfl rfl rfl) trivial ⟨rfl, by
            (rw [wholeP, if_neg (by omega), if_neg (by omega), if_neg (by omega), if_neg (by omega), decide_eq_false (by omega)]; rfl), rfl⟩
theorem regs_spec (A : Option Addr) (c : Nat) (xs : List Int) (hxs : ∀ x ∈ xs,0 ≤ x ∧ x ≤ 31) (hl : xs.length ≤ 1000) : Spec Tryz.prog 67 #[.slice A xs.length c] (RdI .i64 ⟨A,c,xs⟩) [] (fun ρ ρ' v L=>ρ' = ρ ∧ v = .bool true ∧ L = []):=by
 refine Spec.of 18 Tryz.func67 rfl Tryz.ntmps67 [(0,_)] rfl rfl ?_
 intro cx ρ hr h0
 refine Cd.seq fun K13 hK13=>?_
 refine Cd.qac [(0,false)] rfl rfl ?_
 refine Jp.y 2 rfl (qaa rfl) rfl rfl Kp.true (Y.assign rfl rfl) ?_
 refine Jp.qae hK13 ?_
 refine Cd.seq fun K14 hK14=>?_
 refine Cd.seq fun K15 hK15=>?_
 refine Cd.qac [(0,false),(1,false),(2,false)] rfl rfl ?_
 refine Jp.y 5 rfl (qaa rfl) rfl rfl Kp.true (Y.move rfl rfl) ?_
 refine Jp.y 6 rfl (qaa rfl) rfl rfl Kp.true (Y.qcb rfl underlying115 rfl) ?_
 refine Jp.y 7 rfl (qaa rfl) rfl rfl Kp.true (Y.move rfl rfl) ?_
 refine Jp.qae hK15 ?_
 refine Cd.block ?_
 refine Cd.qcr (G:=Nat) (fun g=>g ≤ xs.length) (fun g=>xs.length - g) (fun _=>_) (fun g=>[(7,.int .i64 (g : Int))]) [(5,_),(6,_)] (fun g=>[]) [] 0 (Nat.zero_le _) rfl ⟨rfl,trivial⟩ ⟨rfl,rfl,trivial⟩ trivial trivial (fun g KLa hok hLa=>?_)
 refine Cd.seq fun K16 hK16=>?_
 refine Cd.qac [(0,false)] rfl rfl ?_
 refine Jp.y 8 rfl (qaa rfl) rfl rfl Kp.true (Y.lss rfl rfl rfl) ?_
 refine Jp.qae hK16 ?_
 refine Cd.seq fun K17 hK17=>?_
 refine Cd.qaq rfl (fun ga=>?_) (fun ga=>?_)
 ·have hi : g < xs.length:=by simp at ga; omega
  obtain ⟨x,hx⟩ : ∃ x,xs[g]? = some x:=⟨_,List.getElem?_eq_getElem hi⟩
  obtain ⟨b1,b2⟩:=hxs x (List.mem_of_getElem? hx)
  obtain ⟨ad,hA,hc⟩:=hr.2.2 g (.int .i64 x) (by simp [intsV,hx])
  have hA : A = some ad:=hA
  subst hA
  refine Cd.qbp hK17 ?_
  refine Cd.seq fun K18 hK18=>?_
  refine Cd.block ?_
  refine Cd.seq fun K19 hK19=>?_
  refine Cd.qac [(0,false),(1,false),(2,false)] rfl rfl ?_
  refine Jp.y 9 rfl (qaa rfl) rfl rfl Kp.true (Y.qag (q:=g) rfl rfl rfl underlying115 sizeOf3 (by omega) (by omega) (by omega)) ?_
  refine Jp.y 10 rfl (qaa rfl) rfl rfl Kp.true (Y.loadR rfl isAgg3 rfl hc) ?_
  refine Jp.y 4 rfl (qaa rfl) rfl rfl Kp.true (Y.assign rfl rfl) ?_
  refine Jp.qae hK19 ?_
  refine Cd.seq fun K20 hK20=>?_
  refine Cd.qac [(0,false),(1,false),(2,false),(3,false),(4,false),(5,false)] rfl rfl ?_
  refine Jp.y 11 rfl (qaa rfl) rfl rfl Kp.true (Y.move rfl rfl) ?_
  refine Jp.y 12 rfl (qaa rfl) rfl rfl Kp.true (Y.lss rfl rfl rfl) ?_
  refine Jp.y 13 rfl (qaa rfl) rfl rfl Kp.true (Y.move rfl rfl) ?_
  refine Jp.split 13 rfl (fun g13=>?_) (fun g13=>?_)
  ·skip
   try simp only [sG0] at g13
   exfalso
   omega
  try simp only [sG0] at g13
  refine Jp.y 14 rfl (qab rfl rfl rfl rfl) rfl rfl Kp.true (Y.move rfl rfl) ?_
  refine Jp.y 15 rfl (qab rfl rfl rfl rfl) rfl rfl Kp.true (Y.gtr rfl rfl rfl) ?_
  refine Jp.y 16 rfl (qaa rfl) rfl rfl Kp.true (Y.qay rfl rfl rfl) ?_
  refine Jp.qae hK20 ?_
  refine Cd.qaq rfl (fun g16=>?_) (fun g16=>?_)
  ·skip
   try simp only [sG0] at g16
   exfalso
   omega
  try simp only [sG0] at g16
  refine Cd.over rfl hK18 ?_
  refine Cd.qac [(0,false),(1,false)] rfl rfl ?_
  refine Jp.y 17 rfl (qaa rfl) rfl rfl Kp.true (Y.qbq rfl rfl rfl (by exact qaf (by omega) (by omega))) ?_
  refine Jp.y 7 rfl (qaa rfl) rfl rfl Kp.true (Y.move rfl rfl) ?_
  rw [show (g : Int) + 1 = ((g + 1 : Nat) : Int) by omega]
  refine Jp.again hLa (g + 1) hi (by omega) rfl ⟨rfl,rfl,rfl,trivial⟩ trivial
 ·skip
  refine Cd.qen rfl hK14 ?_
  refine Cd.seq fun K21 hK21=>?_
  refine Cd.qac [(0,false)] rfl rfl ?_
  refine Jp.y 2 rfl (qaa rfl) rfl rfl Kp.true (Y.assign rfl rfl) ?_
  refine Jp.qae hK21 ?_
  refine Cd.ret [] rfl (qbf rfl rfl) trivial ⟨rfl,rfl,rfl⟩
def encW (i : InsP) : Nat:=if 46 ≤ i.op then wholeP i.op else
 placeP ((qej i.op).1 : Int) 0 ||| placeP (i.rd : Int) 7 ||| placeP ((qej i.op).2.1 : Int) 12 ||| placeP (i.r1 : Int) 15 ||| placeP (i.r2 : Int) 20 ||| placeP ((qej i.op).2.2 : Int) 25 ||| bitsP i.op i.imm
theorem bitsP_lt (op : Nat) (v : Int) : bitsP op v < 4294967296:=by
 have h1:=qal
 unfold bitsP
 repeat' split
 all_goals first | exact qfu (qfu (qfu (h1 _ _) (h1 _ _)) (h1 _ _)) (h1 _ _) | exact qfu (h1 _ _) (h1 _ _) | exact h1 _ _ | exact Nat.lt_of_le_of_lt (Nat.sub_le ..) (u32_lt _) | exact Nat.zero_lt_succ _
theorem encW_lt (i : InsP) : encW i < 4294967296:=by
 have h1:=qal
 unfold encW
 split
 ·unfold wholeP
  repeat' split
  all_goals exact of_decide_eq_true rfl
 ·exact qfu (qfu (qfu (qfu (qfu (qfu (h1 _ _) (h1 _ _)) (h1 _ _)) (h1 _ _)) (h1 _ _)) (h1 _ _)) (bitsP_lt _ _)
def encP (i : InsP) : Nat × Int:=if insEq (decP (encW i)) i = true then (encW i,0) else (0,1)
theorem or7_u {a b c d e f g : Nat} (ha : a < 4294967296) (hb : b < 4294967296) (hc : c < 4294967296) (hd : d < 4294967296) (he : e < 4294967296) (hf : f < 4294967296) (hg : g < 4294967296) :
  qcm .or .u32 (qcm .or .u32 (qcm .or .u32 (qcm .or .u32 (qcm .or .u32 (qcm .or .u32 (a : Int) b) c) d) e) f) g = ((a ||| b ||| c ||| d ||| e ||| f ||| g : Nat) : Int):=by
 have h2:=qfu ha hb
 have h3:=qfu h2 hc
 have h4:=qfu h3 hd
 have h5:=qfu h4 he
 rw [qbr ha hb,qbr h2 hc,qbr h3 hd,qbr h4 he,qbr h5 hf,qbr (qfu h5 hf) hg]
section
attribute [local irreducible] qcm IntKind.wrap u32
theorem encode_spec (i : InsP) (hi : InsOk i) (hop : 1 ≤ i.op) : Spec Tryz.prog 32 #[.agg i.cells.toArray] (fun _=>True) [] (fun ρ ρ' v L=>ρ' = ρ ∧ v = .tuple #[.int .u32 ((encP i).1 : Int),.int .i64 (encP i).2] ∧ L = []):=by
 obtain ⟨D,hD⟩ : ∃ D,encP i = D:=⟨_,rfl⟩
 rw [hD]
 unfold encP at hD
 have hW : encW i = if 46 ≤ i.op then wholeP i.op else
  placeP ((qej i.op).1 : Int) 0 ||| placeP (i.rd : Int) 7 ||| placeP ((qej i.op).2.1 : Int) 12 ||| placeP (i.r1 : Int) 15 ||| placeP (i.r2 : Int) 20 ||| placeP ((qej i.op).2.2 : Int) 25 ||| bitsP i.op i.imm:=rfl
 have hWl:=encW_lt i
 obtain ⟨W,hWe⟩ : ∃ W,encW i = W:=⟨_,rfl⟩
 rw [hWe] at hD hW hWl
 have hDec:=decode_spec W hWl
 have hCmp:=fun w=>ins_eq (decP W) i w
 obtain ⟨j,hj⟩ : ∃ j,decP W = j:=⟨_,rfl⟩
 rw [hj] at hD hDec hCmp
 obtain ⟨op,rd,r1,r2,imm⟩:=i
 have hop50 : op < 50:=hi.op
 have himm:=hi.imm
 dsimp only at hW hop himm
 have hcode:=code_spec op
 have hrd:=hi.rd
 have hr1:=hi.r1
 have hr2:=hi.r2
 dsimp only at hrd hr1 hr2
 refine Spec.of 74 Tryz.func32 rfl Tryz.ntmps32 [(0,_)] rfl rfl ?_
 intro cx ρ hr h0
 refine Cd.seq fun K22 hK22=>?_
 refine Cd.qac [(0,false),(1,false),(2,false)] rfl rfl ?_
 refine Jp.box 1 1 rfl (qaa rfl) rfl rfl rfl rfl fun b1=>⟨Kp.true,?_⟩
 refine Jp.y 2 rfl (qaa rfl) rfl rfl Kp.true (Y.assign rfl rfl) ?_
 refine Jp.y 3 rfl (qaa rfl) rfl rfl Kp.true (Y.assign rfl rfl) ?_
 refine Jp.qae hK22 ?_
 refine Cd.seq fun K23 hK23=>?_
 refine Cd.qac [(0,false),(1,false),(2,false),(3,false),(4,false),(5,false),(6,false),(7,false)] rfl rfl ?_
 refine Jp.y 10 rfl (qaa rfl) rfl rfl Kp.true (by exact Y.qad rfl rfl underlying60 rfl sizeOf3 (by decide) (show _ + 0 = _ from rfl)) ?_
 refine Jp.y 11 rfl (qaa rfl) rfl rfl Kp.true (by exact Y.qaw 1 rfl isAgg3 rfl rfl rfl) ?_
 refine Jp.call [] [] (whole_spec op hop50) 12 rfl (qaa rfl) rfl rfl (Runs.fn rfl call66 rfl) (by decide) (by decide) rfl trivial ?_
 rintro v1 ρ1 L1 ⟨rfl,rfl,rfl⟩
 refine ⟨rfl,fun hle1=>⟨Kp.true,?_⟩⟩
 refine Jp.y 9 rfl (qaa rfl) rfl rfl Kp.true (Y.move rfl rfl) ?_
 refine Jp.y 13 rfl (qaa rfl) rfl rfl Kp.true (Y.extract rfl rfl rfl) ?_
 refine Jp.y 14 rfl (qaa rfl) rfl rfl Kp.true (Y.extract rfl rfl rfl) ?_
 refine Jp.y 4 rfl (qaa rfl) rfl rfl Kp.true (Y.assign rfl rfl) ?_
 refine Jp.y 5 rfl (qaa rfl) rfl rfl Kp.true (Y.assign rfl rfl) ?_
 refine Jp.qae hK23 ?_
 refine Cd.seq fun K24 hK24=>?_
 refine Cd.seq fun K25 hK25=>?_
 refine Cd.qac [(0,false),(1,false)] rfl rfl ?_
 refine Jp.y 15 rfl (qaa rfl) rfl rfl Kp.true (Y.move rfl rfl) ?_
 refine Jp.y 16 rfl (qaa rfl) rfl rfl Kp.true (Y.not rfl rfl) ?_
 refine Jp.qae hK25 ?_
 refine Cd.qdo (G:=Unit) (fun _=>True) (fun _=>[(4,.int .u32 (W : Int))]) [(1,_)] ⟨rfl,trivial⟩ (fun _=>[]) [(1,_)] ⟨rfl,trivial⟩ hK24 (fun g hφ=>?_) (fun hj1=>?_)
 ·clear hφ
  refine Cd.seq fun K26 hK26=>?_
  refine Cd.seq fun K27 hK27=>?_
  refine Cd.drawn [(1,_)] ⟨rfl,trivial⟩ [(0,true),(2,true),(1,false),(3,true)] follows (by kernel_rfl) (fun hrl=>?_)
  refine Jp.q 69 rfl (qaa rfl) rfl rfl (Y.move rfl rfl) ?_
  refine Jp.q 71 rfl (qaa rfl) rfl rfl (by exact Y.qaj 1 rfl isAgg60 sizeOf60 rfl rfl rfl) ?_
  refine Jp.call [] [] hDec 70 rfl (qaa rfl) rfl rfl (Runs.fn rfl call36 rfl) (by decide) (by decide) rfl trivial ?_
  rintro v20 ρ20 L20 ⟨rfl,rfl,rfl⟩
  refine ⟨rfl,fun hle20=>⟨(Kp.st ⟨rfl,trivial⟩),?_⟩⟩
  refine Jp.q 72 rfl (qaa rfl) rfl rfl (Y.neqS (xs:=j.cells.toArray) (ys:=(InsP.mk op rd r1 r2 imm).cells.toArray) (r:=insEq j ⟨op,rd,r1,r2,imm⟩) rfl rfl rfl ins_guard ins_fields ins_stood hCmp) ?_
  refine Jp.qae hK27 ?_
  refine Cd.qaq rfl (fun gz=>?_) (fun gz=>?_)
  ·rw [if_neg (by simpa using gz)] at hD
   refine Cd.seq fun K29 hK29=>?_
   refine Cd.qac [(0,false),(1,false)] rfl rfl ?_
   refine Jp.y 2 rfl (qaa rfl) rfl rfl Kp.true (Y.assign rfl rfl) ?_
   refine Jp.y 3 rfl (qaa rfl) rfl rfl Kp.true (Y.assign rfl rfl) ?_
   refine Jp.qae hK29 ?_
   refine Cd.ret [] rfl (qbv rfl rfl rfl) trivial ⟨rfl,by rw [← hD] <;> rfl,rfl⟩
  ·rw [if_pos (by simpa using gz)] at hD
   refine Cd.qbp hK26 ?_
   refine Cd.seq fun K30 hK30=>?_
   refine Cd.qac [(0,false),(1,false),(2,false)] rfl rfl ?_
   refine Jp.y 73 rfl (qaa rfl) rfl rfl Kp.true (Y.move rfl rfl) ?_
   refine Jp.y 2 rfl (qaa rfl) rfl rfl Kp.true (Y.assign rfl rfl) ?_
   refine Jp.y 3 rfl (qaa rfl) rfl rfl Kp.true (Y.assign rfl rfl) ?_
   refine Jp.qae hK30 ?_
   refine Cd.ret [] rfl (qbv rfl rfl rfl) trivial ⟨rfl,by rw [← hD] <;> rfl,rfl⟩
 ·skip
  refine Cd.qaq rfl (fun ga=>?_) (fun ga=>?_)
  ·have h46 : ¬ 46 ≤ op:=by simp at ga; omega
   rw [if_neg h46] at hW
   have hcode:=hcode ⟨hop,by omega⟩
   unfold codeV at hcode
   refine Cd.seq fun K31 hK31=>?_
   refine Cd.seq fun K32 hK32=>?_
   refine Cd.qac [(0,false),(1,false),(2,false),(3,false),(4,false),(5,false),(6,false),(7,false),(8,false),(9,false),(10,false),(11,false),(12,false),(13,false),(14,false),(15,false),(16,false),(17,false),(18,false)] rfl rfl ?_
   refine Jp.y 17 rfl (qaa rfl) rfl rfl Kp.true (by exact Y.qad rfl rfl underlying60 rfl sizeOf3 (by decide) (show _ + 0 = _ from rfl)) ?_
   refine Jp.y 18 rfl (qaa rfl) rfl rfl Kp.true (by exact Y.qaw 1 rfl isAgg3 rfl rfl rfl) ?_
   refine Jp.y 19 rfl (qaa rfl) rfl rfl Kp.true (Y.lss rfl rfl rfl) ?_
   refine Jp.slot 19 rfl (show _ = Value.bool false from congrArg Value.bool (decide_eq_false (by dsimp only; omega))) ?_
   refine Jp.y 20 rfl (qaa rfl) rfl rfl Kp.true (Y.move rfl rfl) ?_
   refine Jp.y 21 rfl (qab rfl rfl rfl rfl) rfl rfl Kp.true (by exact Y.qad rfl rfl underlying60 rfl sizeOf3 (by decide) (show _ + 0 = _ from rfl)) ?_
   refine Jp.y 22 rfl (qab rfl rfl rfl rfl) rfl rfl Kp.true (by exact Y.qaw 1 rfl isAgg3 rfl rfl rfl) ?_
   refine Jp.y 23 rfl (qab rfl rfl rfl rfl) rfl rfl Kp.true (Y.gtr rfl rfl rfl) ?_
   refine Jp.slot 23 rfl (show _ = Value.bool false from congrArg Value.bool (decide_eq_false (by dsimp only; omega))) ?_
   refine Jp.y 24 rfl (qaa rfl) rfl rfl Kp.true (Y.qay rfl rfl rfl) ?_
   refine Jp.y 25 rfl (qaa rfl) rfl rfl Kp.true (Y.move rfl rfl) ?_
   refine Jp.y 26 rfl (qab rfl rfl rfl rfl) rfl rfl Kp.true (by exact Y.qad rfl rfl underlying60 rfl sizeOf3 (by decide) (show _ + 1 = _ from rfl)) ?_
   refine Jp.y 27 rfl (qab rfl rfl rfl rfl) rfl rfl Kp.true (by exact Y.qaw 1 rfl isAgg3 rfl rfl rfl) ?_
   refine Jp.y 28 rfl (qab rfl rfl rfl rfl) rfl rfl Kp.true (by exact Y.qad rfl rfl underlying60 rfl sizeOf3 (by decide) (show _ + 2 = _ from rfl)) ?_
   refine Jp.y 29 rfl (qab rfl rfl rfl rfl) rfl rfl Kp.true (by exact Y.qaw 1 rfl isAgg3 rfl rfl rfl) ?_
   refine Jp.y 30 rfl (qab rfl rfl rfl rfl) rfl rfl Kp.true (by exact Y.qad rfl rfl underlying60 rfl sizeOf3 (by decide) (show _ + 3 = _ from rfl)) ?_
   refine Jp.y 31 rfl (qab rfl rfl rfl rfl) rfl rfl Kp.true (by exact Y.qaw 1 rfl isAgg3 rfl rfl rfl) ?_
   refine Jp.lit 32 9 [(0,_),(1,_),(2,_)] [_,_,_] rfl (qab rfl rfl rfl rfl) rfl rfl rfl rfl underlying115 sizeOf3 zeroValue3 rfl rfl rfl rfl rfl fun b9=>⟨Kp.true,?_⟩
   refine Jp.freeze (i:=9) rfl (OwnS.up _ _ _ _ _ _) fun ρ9 hle9 hA9=>?_
   refine Jp.call [] [] (regs_spec (some ⟨b9,0,none⟩) 3 [(rd : Int),(r1 : Int),(r2 : Int)] (by intro x hx; simp at hx; omega) (Nat.le_of_ble_eq_true rfl)) 33 rfl (qab rfl rfl rfl rfl) rfl rfl (Runs.fn rfl call67 rfl) (by decide) (by decide) rfl hA9.rd ?_
   rintro v2 ρ2 L2 ⟨rfl,rfl,rfl⟩
   refine ⟨rfl,fun hle2=>⟨Kp.true,?_⟩⟩
   refine Jp.y 34 rfl (qab rfl rfl rfl rfl) rfl rfl Kp.true (Y.not rfl rfl) ?_
   refine Jp.y 35 rfl (qaa rfl) rfl rfl Kp.true (Y.qay rfl rfl rfl) ?_
   refine Jp.qae hK32 ?_
   refine Cd.qaq rfl (fun gb=>?_) (fun gb=>?_)
   ·exact absurd gb (by simp)
   ·skip
    refine Cd.qbp hK31 ?_
    refine Cd.seq fun K33 hK33=>?_
    refine Cd.qac [(0,false),(1,false),(2,false),(3,false),(4,false),(5,false),(6,false),(7,false),(8,false),(9,false)] rfl rfl ?_
    refine Jp.y 37 rfl (qaa rfl) rfl rfl Kp.true (by exact Y.qad rfl rfl underlying60 rfl sizeOf3 (by decide) (show _ + 0 = _ from rfl)) ?_
    refine Jp.y 38 rfl (qaa rfl) rfl rfl Kp.true (by exact Y.qaw 1 rfl isAgg3 rfl rfl rfl) ?_
    refine Jp.call [] [] hcode 39 rfl (qaa rfl) rfl rfl (Runs.fn rfl call68 rfl) (by decide) (by decide) rfl trivial ?_
    rintro v3 ρ3 L3 ⟨rfl,rfl,rfl⟩
    refine ⟨rfl,fun hle3=>⟨Kp.true,?_⟩⟩
    refine Jp.y 36 rfl (qaa rfl) rfl rfl Kp.true (Y.move rfl rfl) ?_
    refine Jp.y 40 rfl (qaa rfl) rfl rfl Kp.true (Y.extract rfl rfl rfl) ?_
    refine Jp.y 41 rfl (qaa rfl) rfl rfl Kp.true (Y.extract rfl rfl rfl) ?_
    refine Jp.y 42 rfl (qaa rfl) rfl rfl Kp.true (Y.extract rfl rfl rfl) ?_
    refine Jp.y 6 rfl (qaa rfl) rfl rfl Kp.true (Y.assign rfl rfl) ?_
    refine Jp.y 7 rfl (qaa rfl) rfl rfl Kp.true (Y.assign rfl rfl) ?_
    refine Jp.y 8 rfl (qaa rfl) rfl rfl Kp.true (Y.assign rfl rfl) ?_
    refine Jp.qae hK33 ?_
    refine Cd.drawn [(1,_)] ⟨rfl,trivial⟩ [(0,true),(2,true),(3,true),(6,true),(9,true),(10,true),(13,true),(14,true),(17,true),(20,true),(21,true),(22,true),(23,true),(1,false),(4,false),(5,true),(7,false),(8,true),(11,false),(12,true),(15,false),(16,true),(18,false),(19,true),(24,false),(25,true),(26,true)] follows (by kernel_rfl) (fun hrl=>?_)
    refine Jp.q 43 rfl (qaa rfl) rfl rfl (Y.move rfl rfl) ?_
    refine Jp.q 45 rfl (qaa rfl) rfl rfl (by exact Y.qad rfl rfl underlying60 rfl sizeOf3 (by decide) (show _ + 1 = _ from rfl)) ?_
    refine Jp.q 46 rfl (qaa rfl) rfl rfl (by exact Y.qaw 1 rfl isAgg3 rfl rfl rfl) ?_
    refine Jp.q 49 rfl (qaa rfl) rfl rfl (Y.move rfl rfl) ?_
    refine Jp.q 52 rfl (qaa rfl) rfl rfl (by exact Y.qad rfl rfl underlying60 rfl sizeOf3 (by decide) (show _ + 2 = _ from rfl)) ?_
    refine Jp.q 53 rfl (qaa rfl) rfl rfl (by exact Y.qaw 1 rfl isAgg3 rfl rfl rfl) ?_
    refine Jp.q 56 rfl (qaa rfl) rfl rfl (by exact Y.qad rfl rfl underlying60 rfl sizeOf3 (by decide) (show _ + 3 = _ from rfl)) ?_
    refine Jp.q 57 rfl (qaa rfl) rfl rfl (by exact Y.qaw 1 rfl isAgg3 rfl rfl rfl) ?_
    refine Jp.q 60 rfl (qaa rfl) rfl rfl (Y.move rfl rfl) ?_
    refine Jp.q 63 rfl (qaa rfl) rfl rfl (by exact Y.qad rfl rfl underlying60 rfl sizeOf3 (by decide) (show _ + 0 = _ from rfl)) ?_
    refine Jp.q 64 rfl (qaa rfl) rfl rfl (by exact Y.qaw 1 rfl isAgg3 rfl rfl rfl) ?_
    refine Jp.q 65 rfl (qaa rfl) rfl rfl (by exact Y.qad rfl rfl underlying60 rfl sizeOf21 (by decide) (show _ + 4 = _ from rfl)) ?_
    refine Jp.q 66 rfl (qaa rfl) rfl rfl (by exact Y.qaw 1 rfl isAgg21 rfl rfl rfl) ?_
    refine Jp.call [] [] (qax _ _ (by decide)) 44 rfl (qaa rfl) rfl rfl (Runs.fn rfl call69 rfl) (by decide) (by decide) rfl trivial ?_
    rintro v101 ρ101 L101 ⟨rfl,rfl,rfl⟩
    refine ⟨rfl,fun hle101=>⟨(Kp.st ⟨rfl,trivial⟩),?_⟩⟩
    refine Jp.call [] [] (qax _ _ (by decide)) 47 rfl (qaa rfl) rfl rfl (Runs.fn rfl call69 rfl) (by decide) (by decide) rfl trivial ?_
    rintro v102 ρ102 L102 ⟨rfl,rfl,rfl⟩
    refine ⟨rfl,fun hle102=>⟨(Kp.st ⟨rfl,trivial⟩),?_⟩⟩
    refine Jp.q 48 rfl (qaa rfl) rfl rfl (Y.bits rfl rfl rfl rfl) ?_
    refine Jp.call [] [] (qax _ _ (by decide)) 50 rfl (qaa rfl) rfl rfl (Runs.fn rfl call69 rfl) (by decide) (by decide) rfl trivial ?_
    rintro v103 ρ103 L103 ⟨rfl,rfl,rfl⟩
    refine ⟨rfl,fun hle103=>⟨(Kp.st ⟨rfl,trivial⟩),?_⟩⟩
    refine Jp.q 51 rfl (qaa rfl) rfl rfl (Y.bits rfl rfl rfl rfl) ?_
    refine Jp.call [] [] (qax _ _ (by decide)) 54 rfl (qaa rfl) rfl rfl (Runs.fn rfl call69 rfl) (by decide) (by decide) rfl trivial ?_
    rintro v104 ρ104 L104 ⟨rfl,rfl,rfl⟩
    refine ⟨rfl,fun hle104=>⟨(Kp.st ⟨rfl,trivial⟩),?_⟩⟩
    refine Jp.q 55 rfl (qaa rfl) rfl rfl (Y.bits rfl rfl rfl rfl) ?_
    refine Jp.call [] [] (qax _ _ (by decide)) 58 rfl (qaa rfl) rfl rfl (Runs.fn rfl call69 rfl) (by decide) (by decide) rfl trivial ?_
    rintro v105 ρ105 L105 ⟨rfl,rfl,rfl⟩
    refine ⟨rfl,fun hle105=>⟨(Kp.st ⟨rfl,trivial⟩),?_⟩⟩
    refine Jp.q 59 rfl (qaa rfl) rfl rfl (Y.bits rfl rfl rfl rfl) ?_
    refine Jp.call [] [] (qax _ _ (by decide)) 61 rfl (qaa rfl) rfl rfl (Runs.fn rfl call69 rfl) (by decide) (by decide) rfl trivial ?_
    rintro v106 ρ106 L106 ⟨rfl,rfl,rfl⟩
    refine ⟨rfl,fun hle106=>⟨(Kp.st ⟨rfl,trivial⟩),?_⟩⟩
    refine Jp.q 62 rfl (qaa rfl) rfl rfl (Y.bits rfl rfl rfl rfl) ?_
    refine Jp.call [] [] (bits_spec op imm himm) 67 rfl (qaa rfl) rfl rfl (Runs.fn rfl call70 rfl) (by decide) (by decide) rfl trivial ?_
    rintro v107 ρ107 L107 ⟨rfl,rfl,rfl⟩
    refine ⟨rfl,fun hle107=>⟨(Kp.st ⟨rfl,trivial⟩),?_⟩⟩
    refine Jp.q 68 rfl (qaa rfl) rfl rfl (Y.bits rfl rfl rfl rfl) ?_
    refine Jp.q 4 rfl (qaa rfl) rfl rfl (Y.assign rfl rfl) ?_
    refine Jp.qae hK24 ?_
    refine Cd.slot 4 rfl (show _ = Value.int .u32 (W : Int) from congrArg (Value.int .u32) ((or7_u (qal _ _) (qal _ _) (qal _ _) (qal _ _) (qal _ _) (qal _ _) (bitsP_lt _ _)).trans (congrArg Int.ofNat hW.symm))) ?_
    exact Cd.meet' (hj1 () trivial) hle9 (by rw [h0]; exact Hp.le_refl _) ⟨rfl,rfl,trivial⟩ ⟨rfl,trivial⟩
  ·have h46 : 46 ≤ op:=by simp at ga; omega
   rw [if_pos h46] at hW
   refine Cd.qbp hK24 ?_
   rw [← hW]
   exact Cd.qce (hj1 () trivial) ⟨rfl,rfl,trivial⟩ ⟨rfl,trivial⟩
end
end Go.Proofs.YtnfkalpgidiafaaGreat

namespace Go.Proofs.YtnfkalpgidiafaaGreat
open Go
def wideP (a : Nat) : Int:=if a / 2147483648 = 1 then (a : Int) - 4294967296 else a
def shP (k a n : Nat) : Nat:=if k = 2 then u32 ((a * 2 ^ n : Nat) : Int) else if k = 6 then a / 2 ^ n else u32 ((s32 a).fdiv (2 ^ n))
def shBit (k a n i : Nat) : Nat:=if k = 2 then (if n ≤ i then a / 2 ^ (i - n) % 2 else 0) else if i + n < 32 then a / 2 ^ (i + n) % 2 else if k = 7 then a / 2147483648 else 0
def hiP (k a b : Nat) : Nat :=
 let h:=a * b / 4294967296
 let h1:=if k ≠ 13 ∧ a / 2147483648 = 1 then u32 ((h : Int) - b) else h
 if k = 11 ∧ b / 2147483648 = 1 then u32 ((h1 : Int) - a) else h1
end Go.Proofs.YtnfkalpgidiafaaGreat

namespace Go.Proofs.YtnfkalpgidiafaaGreat
open Go
def madeD (xs : List Int) (bs : qap) : MemG:=(qdw (qdw map3 4096 (qdf (xs.take 64)) 65536 0).2 65536 (bs.take 512) 65536 0).2
theorem RdB.takeN {A : Option Addr} {c : Nat} {xs : qap} {ρ : Hp} (h : RdB ⟨A,c,xs⟩ ρ) {n : Nat} (hn : n ≤ xs.length) : RdB ⟨A,c,xs.take n⟩ ρ:=by
 have h5:=RdS.take (l:=n) h (show n ≤ xs.length from hn)
 rw [Nat.mul_one] at h5
 have h6 : (qai xs).take n = qai (xs.take n):=by simp [qai]
 show RdS 1 _ (xs.take n).length _ _ _
 rw [show (xs.take n).length = n by rw [List.length_take]; omega,← h6]; exact h5
def awIns : InsP:=⟨19,1,0,0,5⟩
def st0 (pc : Nat) : StP:=⟨List.replicate 32 0,pc,0⟩
theorem st0_ok {pc : Nat} (h : pc < 4294967296) : StOk (st0 pc):=⟨rfl,fun y hy=>by rw [List.eq_of_mem_replicate hy]; decide,h,(show -9223372036854775808 ≤ (0 : Int) ∧ (0 : Int) ≤ 4611686018427387904 by decide)⟩
def awOut : StP:=⟨[0,5] ++ List.replicate 30 0,4100,1⟩
end Go.Proofs.YtnfkalpgidiafaaGreat

namespace Go.Proofs.YtnfkalpgidiafaaGreat
open Go
structure StRd (s : StP) : Prop where
 len : s.x.length = 32
 lt : ∀ y ∈ s.x,y < 4294967296
 pc : s.pc < 4294967296
 ret : -9223372036854775808 ≤ s.ret ∧ s.ret ≤ 9223372036854775807
theorem StRd.ok {s : StP} (h : StRd s) (h2 : s.ret ≤ 4611686018427387904) : StOk s:=⟨h.len,h.lt,h.pc,h.ret.1,h2⟩
theorem StRd.cRet {s : StP} (h : StRd s) : s.cells.toArray[33]? = some (.int .i64 s.ret):=by simp [StP.cells,qbd,List.getElem?_append,h.len]
theorem StRd.size {s : StP} (h : StRd s) : s.cells.length = 34:=by simp [StP.cells,qbd,h.len]
end Go.Proofs.YtnfkalpgidiafaaGreat

namespace Go.Proofs.YtnfkalpgidiafaaGreat
open _root_.Go.Proofs.Tryz
open Go
theorem made13_spec (A : Option Addr) (c : Nat) (xs : List Int) (dA : Option Addr) (dc : Nat) (bs : qap) (hxs : ∀ x ∈ xs,∃ m : Nat,x = m ∧ m < 4294967296) : Spec Tryz.prog 6 #[.slice A xs.length c,.slice dA bs.length dc] (fun h=>RdI .u32 ⟨A,c,xs⟩ h ∧ RdB ⟨dA,dc,bs⟩ h) []
  (fun ρ ρ' v L=>∃ b,v = .pointer (some ⟨b,0,none⟩) ∧ L = [(0,qgz b (madeD xs bs))]):=by
 refine Spec.of 60 Tryz.func6 rfl Tryz.ntmps6 [(0,_),(1,_)] rfl rfl ?_
 intro cx ρ hr0 h0
 obtain ⟨hr,hrd⟩:=hr0
 have lx : xs.length ≤ 281474976710656:=hr.2.1.2
 have hcap : bs.length ≤ dc ∧ bs.length ≤ 281474976710656:=hrd.2.1
 refine Cd.seq fun K1 hK1=>?_
 refine Cd.qac [(0,false)] rfl rfl ?_
 refine Jp.y 4 rfl (qaa rfl) rfl rfl Kp.true (Y.assign rfl rfl) ?_
 refine Jp.qae hK1 ?_
 refine Cd.seq fun K2 hK2=>?_
 refine Cd.qac [(0,false),(1,false),(2,false),(3,false),(4,false),(5,false)] rfl rfl ?_
 refine Jp.call [] [0] (new_yes 50 (by omega)) 11 rfl (qaa rfl) rfl rfl (Runs.fn rfl call15 rfl) (by decide) (by decide) rfl trivial ?_
 rintro v1 ρ1 L1 ⟨rfl,b,rfl,rfl⟩
 refine ⟨rfl,fun hle1=>⟨Kp.true,?_⟩⟩
 refine Jp.y 10 rfl (qaa rfl) rfl rfl Kp.true (Y.move rfl rfl) ?_
 refine Jp.y 12 rfl (qaa rfl) rfl rfl Kp.true (Y.extract rfl rfl rfl) ?_
 refine Jp.y 13 rfl (qaa rfl) rfl rfl Kp.true (Y.extract rfl rfl rfl) ?_
 refine Jp.y 5 rfl (qaa rfl) rfl rfl Kp.true (Y.assign rfl rfl) ?_
 refine Jp.y 6 rfl (qaa rfl) rfl rfl Kp.true (Y.assign rfl rfl) ?_
 refine Jp.qae hK2 ?_
 refine Cd.seq fun K3 hK3=>?_
 refine Cd.qac [(0,false),(1,false)] rfl rfl ?_
 refine Jp.y 14 rfl (qaa rfl) rfl rfl Kp.true (Y.move rfl rfl) ?_
 refine Jp.call [0] [0] (map_spec b (newM 50) 4096 256 5 (by omega) (by omega)) 15 rfl (qaa rfl) rfl rfl (Runs.fn rfl call16 rfl) (by decide) (by decide) rfl trivial ?_
 rintro v2 ρ2 L2 ⟨rfl,rfl,rfl⟩
 refine ⟨rfl,fun hle2=>⟨Kp.true,?_⟩⟩
 refine Jp.qae hK3 ?_
 refine Cd.seq fun K4 hK4=>?_
 refine Cd.qac [(0,false),(1,false)] rfl rfl ?_
 refine Jp.y 16 rfl (qaa rfl) rfl rfl Kp.true (Y.move rfl rfl) ?_
 refine Jp.call [0] [0] (map_spec b (mapM (newM 50) 4096 256 5).2 65536 256 3 (by omega) (by omega)) 17 rfl (qaa rfl) rfl rfl (Runs.fn rfl call16 rfl) (by decide) (by decide) rfl trivial ?_
 rintro v3 ρ3 L3 ⟨rfl,rfl,rfl⟩
 refine ⟨rfl,fun hle3=>⟨Kp.true,?_⟩⟩
 refine Jp.qae hK4 ?_
 refine Cd.seq fun K5 hK5=>?_
 refine Cd.qac [(0,false),(1,false)] rfl rfl ?_
 refine Jp.y 18 rfl (qaa rfl) rfl rfl Kp.true (Y.move rfl rfl) ?_
 refine Jp.call [0] [0] (map_spec b (mapM (mapM (newM 50) 4096 256 5).2 65536 256 3).2 65792 256 1 (by omega) (by omega)) 19 rfl (qaa rfl) rfl rfl (Runs.fn rfl call16 rfl) (by decide) (by decide) rfl trivial ?_
 rintro v4 ρ4 L4 ⟨rfl,rfl,rfl⟩
 refine ⟨rfl,fun hle4=>⟨Kp.true,?_⟩⟩
 refine Jp.imp (j:=0) rfl (fun h hh=>(show qgz b map3 h from hh)) ?_
 obtain ⟨M3,hM3⟩ : ∃ M,map3 = M:=⟨_,rfl⟩
 have hmade : madeD xs bs = (qdw (qdw M3 4096 (qdf (xs.take 64)) 65536 0).2 65536 (bs.take 512) 65536 0).2:=by rw [← hM3]; rfl
 rw [hM3]
 clear hM3
 refine Jp.qae hK5 ?_
 refine Cd.seq fun K6 hK6=>?_
 refine Cd.qac [(0,false)] rfl rfl ?_
 refine Jp.y 7 rfl (qaa rfl) rfl rfl Kp.true (Y.assign rfl rfl) ?_
 refine Jp.qae hK6 ?_
 refine Cd.seq fun K7 hK7=>?_
 refine Cd.seq fun K8 hK8=>?_
 refine Cd.qac [(0,false)] rfl rfl ?_
 refine Jp.y 8 rfl (qaa rfl) rfl rfl Kp.true (Y.assign rfl rfl) ?_
 refine Jp.qae hK8 ?_
 refine Cd.block ?_
 refine Cd.make 1 (A:=OwnS 5 1 none 0 0 (qai (qdf (xs.take 0)))) (OwnS.nil _ _ _) ?_
 refine Cd.qdo (G:=Option Addr × Nat) (fun _=>True) (fun g=>[(7,.slice g.1 (qdf (xs.take 64)).length g.2)]) [(1,_),(5,_)] ⟨rfl,rfl,trivial⟩ (fun g=>[(1,OwnS 5 1 g.1 (qdf (xs.take 64)).length g.2 (qai (qdf (xs.take 64))))]) [(0,_)] ⟨rfl,trivial⟩ hK7 (fun g hφ=>?_) (fun hj1=>?_)
 ·obtain ⟨B,d⟩:=g
  clear hφ
  dsimp only
  have hlw:=wordsB_len (xs.take 64)
  have hlt : (xs.take 64).length ≤ 64:=by rw [List.length_take]; omega
  refine Cd.freeze (i:=1) rfl (OwnS.up _ _ _ _ _ _) fun ρ7 hle7 hA7=>?_
  have hrd:=RdS.up _ _ _ _ _ _ _ hle7 hrd
  refine Cd.seq fun K9 hK9=>?_
  refine Cd.qac [(0,false),(1,false),(2,false)] rfl rfl ?_
  refine Jp.y 48 rfl (qaa rfl) rfl rfl Kp.true (Y.move rfl rfl) ?_
  refine Jp.y 49 rfl (qaa rfl) rfl rfl Kp.true (Y.move rfl rfl) ?_
  refine Jp.call [0] [0] (Poke_spec b M3 4096 ⟨B,d,qdf (xs.take 64)⟩ (by omega)) 50 rfl (qaa rfl) rfl rfl (Runs.fn rfl call17 rfl) (by decide) (by decide) rfl hA7.rd ?_
  rintro v5 ρ5 L5 ⟨rfl,rfl,rfl⟩
  refine ⟨rfl,fun hle5=>⟨Kp.true,?_⟩⟩
  refine Jp.qae hK9 ?_
  refine Cd.seq fun K10 hK10=>?_
  refine Cd.seq fun K11 hK11=>?_
  refine Cd.qac [(0,false),(1,false),(2,false)] rfl rfl ?_
  refine Jp.y 51 rfl (qaa rfl) rfl rfl Kp.true (Y.move rfl rfl) ?_
  refine Jp.y 52 rfl (qaa rfl) rfl rfl Kp.true (Y.qcb rfl underlying23 rfl) ?_
  refine Jp.y 53 rfl (qaa rfl) rfl rfl Kp.true (Y.gtr rfl rfl rfl) ?_
  refine Jp.qae hK11 ?_
  refine Cd.qaq rfl (fun gx=>?_) (fun gx=>?_)
  ·have hbl : 512 < bs.length:=by simp at gx; omega
   have hcl : (bs.take 512).length = 512:=by rw [List.length_take]; omega
   refine Cd.qac [(0,false),(1,false),(2,false)] rfl rfl ?_
   refine Jp.y 54 rfl (qaa rfl) rfl rfl Kp.true (Y.move rfl rfl) ?_
   refine Jp.y 55 rfl (qaa rfl) rfl rfl Kp.true (Y.sliceTo (hi:=512) rfl rfl rfl underlying23 sizeOf5 (by omega) (by omega)) ?_
   refine Jp.y 1 rfl (qaa rfl) rfl rfl Kp.true (Y.assign rfl rfl) ?_
   refine Jp.qae hK10 ?_
   refine Cd.seq fun K12 hK12=>?_
   refine Cd.qac [(0,false),(1,false),(2,false)] rfl rfl ?_
   refine Jp.y 56 rfl (qaa rfl) rfl rfl Kp.true (Y.move rfl rfl) ?_
   refine Jp.y 57 rfl (qaa rfl) rfl rfl Kp.true (Y.move rfl rfl) ?_
   refine Jp.slot 57 rfl (show _ = Value.slice dA (bs.take 512).length dc by rw [hcl]) ?_
   refine Jp.call [0] [0] (Poke_spec b _ 65536 ⟨dA,dc,bs.take 512⟩ (by omega)) 58 rfl (qaa rfl) rfl rfl (Runs.fn rfl call17 rfl) (by decide) (by decide) rfl (RdB.takeN hrd (by omega)) ?_
   rintro v6 ρ6 L6 ⟨rfl,rfl,rfl⟩
   refine ⟨rfl,fun hle6=>⟨Kp.true,?_⟩⟩
   refine Jp.qae hK12 ?_
   refine Cd.seq fun K13 hK13=>?_
   refine Cd.qac [(0,false),(1,false)] rfl rfl ?_
   refine Jp.y 59 rfl (qaa rfl) rfl rfl Kp.true (Y.move rfl rfl) ?_
   refine Jp.y 4 rfl (qaa rfl) rfl rfl Kp.true (Y.assign rfl rfl) ?_
   refine Jp.qae hK13 ?_
   refine Cd.ret [(0,_)] rfl (qbf rfl rfl) ⟨rfl,trivial⟩ ⟨b,rfl,by rw [hmade]⟩
  ·have hbl : bs.take 512 = bs:=List.take_of_length_le (by simp at gx; omega)
   refine Cd.qbp hK10 ?_
   refine Cd.seq fun K14 hK14=>?_
   refine Cd.qac [(0,false),(1,false),(2,false)] rfl rfl ?_
   refine Jp.y 56 rfl (qaa rfl) rfl rfl Kp.true (Y.move rfl rfl) ?_
   refine Jp.y 57 rfl (qaa rfl) rfl rfl Kp.true (Y.move rfl rfl) ?_
   refine Jp.call [0] [0] (Poke_spec b _ 65536 ⟨dA,dc,bs⟩ (by omega)) 58 rfl (qaa rfl) rfl rfl (Runs.fn rfl call17 rfl) (by decide) (by decide) rfl hrd ?_
   rintro v6 ρ6 L6 ⟨rfl,rfl,rfl⟩
   refine ⟨rfl,fun hle6=>⟨Kp.true,?_⟩⟩
   refine Jp.qae hK14 ?_
   refine Cd.seq fun K15 hK15=>?_
   refine Cd.qac [(0,false),(1,false)] rfl rfl ?_
   refine Jp.y 59 rfl (qaa rfl) rfl rfl Kp.true (Y.move rfl rfl) ?_
   refine Jp.y 4 rfl (qaa rfl) rfl rfl Kp.true (Y.assign rfl rfl) ?_
   refine Jp.qae hK15 ?_
   refine Cd.ret [(0,_)] rfl (qbf rfl rfl) ⟨rfl,trivial⟩ ⟨b,rfl,by rw [hmade,hbl]⟩
 ·skip
  refine Cd.qcr (G:=Nat × Option Addr × Nat) (fun g=>g.1 ≤ xs.length ∧ g.1 ≤ 64) (fun g=>64 - g.1) (fun _=>_) (fun g=>[(7,.slice g.2.1 (qdf (xs.take g.1)).length g.2.2),(8,.int .i64 (g.1 : Int))]) [(0,_),(1,_),(5,_)] (fun g=>[(1,OwnS 5 1 g.2.1 (qdf (xs.take g.1)).length g.2.2 (qai (qdf (xs.take g.1))))]) [(0,_)] ⟨0,none,0⟩ ⟨Nat.zero_le _,Nat.zero_le _⟩ rfl ⟨rfl,rfl,trivial⟩ ⟨rfl,rfl,rfl,trivial⟩ ⟨rfl,trivial⟩ ⟨rfl,trivial⟩ (fun g KLa hok hLa=>?_)
  obtain ⟨i,B,d⟩:=g
  obtain ⟨ok1,ok2⟩:=hok
  dsimp only at ok1 ok2 ⊢
  refine Cd.seq fun K16 hK16=>?_
  refine Cd.seq fun K17 hK17=>?_
  refine Cd.qac [(0,false),(1,false),(2,false),(3,false),(4,false),(5,false),(6,false),(7,false)] rfl rfl ?_
  refine Jp.y 20 rfl (qaa rfl) rfl rfl Kp.true (Y.move rfl rfl) ?_
  refine Jp.y 21 rfl (qaa rfl) rfl rfl Kp.true (Y.move rfl rfl) ?_
  refine Jp.y 22 rfl (qaa rfl) rfl rfl Kp.true (Y.qcb rfl underlying22 rfl) ?_
  refine Jp.y 23 rfl (qaa rfl) rfl rfl Kp.true (Y.lss rfl rfl rfl) ?_
  refine Jp.y 24 rfl (qaa rfl) rfl rfl Kp.true (Y.move rfl rfl) ?_
  refine Jp.qel 24 rfl (fun g24=>?_) (fun g24=>?_)
  ·skip
   simp only [decide_eq_false_iff_not] at g24
   have e : xs.take i = xs.take 64:=by
    rcases (show xs.length ≤ i ∨ i = 64 by omega) with h | h
    ·rw [List.take_of_length_le h,List.take_of_length_le (by omega)]
    ·rw [h]
   rw [e]
   refine Jp.qar 25 rfl (qab rfl rfl rfl rfl) rfl rfl Kp.true ?_
   refine Jp.qar 26 rfl (qab rfl rfl rfl rfl) rfl rfl Kp.true ?_
   refine Jp.y 27 rfl (qaa rfl) rfl rfl Kp.true (Y.qay rfl rfl rfl) ?_
   refine Jp.qae hK17 ?_
   refine Cd.qbs rfl ?_
   refine Cd.qen rfl hK7 ?_
   exact Cd.qce (hj1 ⟨B,d⟩ trivial) ⟨rfl,rfl,rfl,trivial⟩ ⟨rfl,rfl,trivial⟩
  try simp only [sG0] at g24
  refine Jp.y 25 rfl (qab rfl rfl rfl rfl) rfl rfl Kp.true (Y.move rfl rfl) ?_
  refine Jp.y 26 rfl (qab rfl rfl rfl rfl) rfl rfl Kp.true (Y.lss rfl rfl rfl) ?_
  refine Jp.y 27 rfl (qaa rfl) rfl rfl Kp.true (Y.qav rfl rfl rfl) ?_
  refine Jp.qae hK17 ?_
  refine Cd.condF' rfl (fun g27=>?_) (fun g27=>?_)
  ·skip
   simp only [decide_eq_false_iff_not] at g27
   have e : xs.take i = xs.take 64:=by
    rcases (show xs.length ≤ i ∨ i = 64 by omega) with h | h
    ·rw [List.take_of_length_le h,List.take_of_length_le (by omega)]
    ·rw [h]
   rw [e]
   refine Cd.qen rfl hK7 ?_
   exact Cd.qce (hj1 ⟨B,d⟩ trivial) ⟨rfl,rfl,rfl,trivial⟩ ⟨rfl,rfl,trivial⟩
  try simp only [sG0] at g27
  refine Cd.qbp hK16 ?_
  refine Cd.seq fun K18 hK18=>?_
  refine Cd.block ?_
  refine Cd.seq fun K19 hK19=>?_
  refine Cd.qac [(0,false),(1,false),(2,false),(3,false),(4,false)] rfl rfl ?_
  refine Jp.y 30 rfl (qaa rfl) rfl rfl Kp.true (Y.move rfl rfl) ?_
  refine Jp.y 31 rfl (qaa rfl) rfl rfl Kp.true (Y.move rfl rfl) ?_
  have hi : i < xs.length:=by omega
  obtain ⟨m,hm,hml⟩:=hxs xs[i] (List.getElem_mem _)
  have hl1:=wordsB_len (xs.take i)
  have hl2:=wordsB_len (xs.take (i + 1))
  rw [List.length_take] at hl1 hl2
  obtain ⟨ad,hA,hc⟩:=hr.2.2 i (.int .u32 m) (by simp [intsV,hi,hm])
  subst hA
  refine Jp.y 32 rfl (qaa rfl) rfl rfl Kp.true (Y.qag (q:=i) rfl rfl rfl underlying22 sizeOf24 (by omega) (by omega) (by omega)) ?_
  refine Jp.y 33 rfl (qaa rfl) rfl rfl Kp.true (Y.loadR rfl isAgg24 rfl hc) ?_
  refine Jp.y 9 rfl (qaa rfl) rfl rfl Kp.true (Y.assign rfl rfl) ?_
  refine Jp.qae hK19 ?_
  refine Cd.qac [(0,false),(1,false),(2,false),(3,false),(4,false),(5,false),(6,false),(7,false),(8,false),(9,false),(10,false),(11,false),(12,false),(13,false),(14,false)] rfl rfl ?_
  refine Jp.y 34 rfl (qaa rfl) rfl rfl Kp.true (Y.move rfl rfl) ?_
  refine Jp.y 35 rfl (qaa rfl) rfl rfl Kp.true (Y.move rfl rfl) ?_
  refine Jp.y 36 rfl (qaa rfl) rfl rfl Kp.true (Y.qaz rfl rfl underlying24 underlying5 (conv8 m)) ?_
  refine Jp.y 37 rfl (qaa rfl) rfl rfl Kp.true (Y.move rfl rfl) ?_
  refine Jp.y 38 rfl (qaa rfl) rfl rfl Kp.true (Y.shr rfl rfl rfl (by first | decide | omega)) ?_
  refine Jp.y 39 rfl (qaa rfl) rfl rfl Kp.true (Y.qaz rfl rfl underlying24 underlying5 (shr8 m 1 (by omega))) ?_
  refine Jp.y 40 rfl (qaa rfl) rfl rfl Kp.true (Y.move rfl rfl) ?_
  refine Jp.y 41 rfl (qaa rfl) rfl rfl Kp.true (Y.shr rfl rfl rfl (by first | decide | omega)) ?_
  refine Jp.y 42 rfl (qaa rfl) rfl rfl Kp.true (Y.qaz rfl rfl underlying24 underlying5 (shr8 m 2 (by omega))) ?_
  refine Jp.y 43 rfl (qaa rfl) rfl rfl Kp.true (Y.move rfl rfl) ?_
  refine Jp.y 44 rfl (qaa rfl) rfl rfl Kp.true (Y.shr rfl rfl rfl (by first | decide | omega)) ?_
  refine Jp.y 45 rfl (qaa rfl) rfl rfl Kp.true (Y.qaz rfl rfl underlying24 underlying5 (shr8 m 3 (by omega))) ?_
  refine Jp.lit 46 2 [(0,_),(1,_),(2,_),(3,_)] [_,_,_,_] rfl (qaa rfl) rfl rfl rfl rfl underlying23 sizeOf5 zeroValue5 rfl rfl rfl rfl rfl fun b2=>⟨Kp.true,?_⟩
  refine Jp.append 47 1 rfl (qaa rfl) rfl rfl rfl underlying23 underlying23 (.inl ⟨_,rfl⟩) sizeOf5 Tryz.typeInfo5 zeroValue5 rfl (by decide) rfl rfl rfl (Src.own 2 rfl) rfl ((qdf (xs.take (i + 1))).length) (qai (qdf (xs.take (i + 1)))) (by first | omega | simp) (by rw [wordsB_snoc hi hm]; exact bytesV_leB _ _) (by simp only [Tryz.t5]; omega) fun A7 c7=>⟨Kp.true,?_⟩
  refine Jp.y 7 rfl (qaa rfl) rfl rfl Kp.true (Y.assign rfl rfl) ?_
  refine Jp.over rfl hK18 ?_
  refine Cd.qac [(0,false),(1,false),(2,false)] rfl rfl ?_
  refine Jp.y 28 rfl (qaa rfl) rfl rfl Kp.true (Y.move rfl rfl) ?_
  refine Jp.y 29 rfl (qaa rfl) rfl rfl Kp.true (Y.qbq rfl rfl rfl (by exact qaf (by omega) (by omega))) ?_
  refine Jp.y 8 rfl (qaa rfl) rfl rfl Kp.true (Y.assign rfl rfl) ?_
  rw [show (i : Int) + 1 = ((i + 1 : Nat) : Int) by omega]
  refine Jp.again hLa ⟨i + 1,A7,c7⟩ ⟨hi,by show i + 1 ≤ 64; omega⟩ (by show 64 - (i + 1) < 64 - i; omega) rfl ⟨rfl,rfl,rfl,rfl,rfl,trivial⟩ ⟨rfl,rfl,trivial⟩
theorem word13_spec (i : InsP) (hi : InsOk i) (hop : 1 ≤ i.op) : Spec Tryz.prog 14 #[.agg i.cells.toArray] (fun _=>True) [] (fun ρ ρ' v L=>ρ' = ρ ∧ v = .int .u32 ((encP i).1 : Int) ∧ L = []):=by
 have hE:=encode_spec i hi hop
 obtain ⟨op,rd,r1,r2,imm⟩:=i
 refine Spec.of 11 Tryz.func14 rfl Tryz.ntmps14 [(0,_)] rfl rfl ?_
 intro cx ρ hr' h0
 refine Cd.seq fun K20 hK20=>?_
 refine Cd.qac [(0,false),(1,false)] rfl rfl ?_
 refine Jp.box 1 1 rfl (qaa rfl) rfl rfl rfl rfl fun b1=>⟨Kp.true,?_⟩
 refine Jp.y 2 rfl (qaa rfl) rfl rfl Kp.true (Y.assign rfl rfl) ?_
 refine Jp.qae hK20 ?_
 refine Cd.seq fun K21 hK21=>?_
 refine Cd.qac [(0,false),(1,false),(2,false),(3,false),(4,false),(5,false),(6,false)] rfl rfl ?_
 refine Jp.y 6 rfl (qaa rfl) rfl rfl Kp.true (by exact Y.qaj 1 rfl isAgg60 sizeOf60 rfl rfl rfl) ?_
 refine Jp.call [] [] hE 7 rfl (qaa rfl) rfl rfl (Runs.fn rfl call32 rfl) (by decide) (by decide) rfl trivial ?_
 rintro v1 ρ1 L1 ⟨rfl,rfl,rfl⟩
 refine ⟨rfl,fun hle1=>⟨Kp.true,?_⟩⟩
 refine Jp.y 5 rfl (qaa rfl) rfl rfl Kp.true (Y.move rfl rfl) ?_
 refine Jp.y 8 rfl (qaa rfl) rfl rfl Kp.true (Y.extract rfl rfl rfl) ?_
 refine Jp.y 9 rfl (qaa rfl) rfl rfl Kp.true (Y.extract rfl rfl rfl) ?_
 refine Jp.y 3 rfl (qaa rfl) rfl rfl Kp.true (Y.assign rfl rfl) ?_
 refine Jp.y 4 rfl (qaa rfl) rfl rfl Kp.true (Y.assign rfl rfl) ?_
 refine Jp.qae hK21 ?_
 refine Cd.seq fun K22 hK22=>?_
 refine Cd.qac [(0,false),(1,false)] rfl rfl ?_
 refine Jp.y 10 rfl (qaa rfl) rfl rfl Kp.true (Y.move rfl rfl) ?_
 refine Jp.y 2 rfl (qaa rfl) rfl rfl Kp.true (Y.assign rfl rfl) ?_
 refine Jp.qae hK22 ?_
 refine Cd.ret [] rfl (qbf rfl rfl) trivial ⟨rfl,rfl,rfl⟩
end Go.Proofs.YtnfkalpgidiafaaGreat

namespace Go.Proofs.YtnfkalpgidiafaaGreat
open Go
theorem part_agg {P : Program} {e : TypeId} {m : Nat} {xs : Array Value} {off : Nat} {w : World} (hA : ∀ w,(isAgg e).run P w = .ok true w) (hz : ∀ w,(sizeOf e).run P w = .ok m w) : (part e xs off).run P w = .ok (.agg (xs.extract off (off + m))) w:=by
 simp only [part,Sem.run_bind,hA,Result.andThen_ok,if_true,hz,Sem.run_pure]
def stEq (a b : StP) : Bool:=decide (a.x = b.x) && (((a.pc : Int) == (b.pc : Int)) && ((a.ret == b.ret) && true))
end Go.Proofs.YtnfkalpgidiafaaGreat

namespace Go.Proofs.YtnfkalpgidiafaaGreat
open _root_.Go.Proofs.Tryz
open Go
theorem tg_guard : Tryz.prog.eqGuardType Tryz.prog.depth 40 = false:=by kernel_rfl
theorem tg_info : (Tryz.prog.info? 5).isSome = true:=by kernel_rfl
theorem tg_cells : Tryz.prog.cellsOf 5 = 1:=by kernel_rfl
theorem tg_eqd (d : Nat) {a b : qap} (ha : a.length = 4) (hb : b.length = 4) (w : World) : (Op.equalIn (d + 2) 40 (.agg (qai a).toArray) (.agg (qai b).toArray)).run Tryz.prog w = .ok (decide (a = b)) w:=by
 rw [bytesV_int,bytesV_int,equal_arr (d:=d) underlying40 tg_info tg_cells isAgg5 underlying5 (by rw [List.length_map]; exact ha) (by rw [List.length_map]; exact hb),bytes_dec]
def qff (X : qap) (i : Nat) : qap:=(X.drop (i * 4)).take 4
theorem chunkL_len {X : qap} {i : Nat} (hX : X.length = 128) (hi : i < 32) : (qff X i).length = 4:=by
 simp [qff,hX]; omega
theorem chunkV (X : qap) (i : Nat) : (qai X).toArray.extract (i * 4) (i * 4 + 4) = (qai (qff X i)).toArray:=by
 rw [List.extract_toArray]
 congr 1
 simp [qai,qff,List.extract,List.map_drop,List.map_take]
theorem labels_items (d : Nat) {X Y : qap} (hX : X.length = 128) (hY : Y.length = 128) (w : World) : ∀ is : List Nat,(∀ i ∈ is,i < 32) →
  (Op.eqItems (d + 2) 40 4 (qai X).toArray (qai Y).toArray is).run Tryz.prog w = .ok (is.all fun i=>decide (qff X i = qff Y i)) w
 | [],_=>by simp [Op.eqItems,Sem.run_pure]
 | i :: is,h=>by
  have hi:=h i (List.mem_cons_self ..)
  have p1 : (part 40 (qai X).toArray (i * 4)).run Tryz.prog w = .ok (.agg (qai (qff X i)).toArray) w:=by
   rw [part_agg (m:=4) isAgg40 sizeOf40,chunkV]
  have p2 : (part 40 (qai Y).toArray (i * 4)).run Tryz.prog w = .ok (.agg (qai (qff Y i)).toArray) w:=by
   rw [part_agg (m:=4) isAgg40 sizeOf40,chunkV]
  have ih:=labels_items d hX hY w is fun j hj=>h j (List.mem_cons_of_mem _ hj)
  simp only [Op.eqItems,Sem.run_bind,p1,p2,Result.andThen_ok,tg_eqd d (chunkL_len hX hi) (chunkL_len hY hi),List.all_cons]
  cases hab : decide (qff X i = qff Y i) <;> simp [ih,Sem.run_pure]
theorem chunks_eq {X Y : qap} (hX : X.length = 128) (hY : Y.length = 128) : ((List.range 32).all fun i=>decide (qff X i = qff Y i)) = decide (X = Y):=by
 rw [Bool.eq_iff_iff,List.all_eq_true,decide_eq_true_eq]
 constructor
 ·intro h
  apply List.ext_getElem?
  intro j
  by_cases hj : j < 128
  ·have:=h (j / 4) (List.mem_range.2 (by omega))
   rw [decide_eq_true_eq] at this
   have e:=congrArg (fun l : qap=>l[j % 4]?) this
   simp only [qff,List.getElem?_take,List.getElem?_drop,if_pos (Nat.mod_lt j (by decide : 4 > 0))] at e
   rwa [show j / 4 * 4 + j % 4 = j by omega] at e
  ·rw [List.getElem?_eq_none (by omega),List.getElem?_eq_none (by omega)]
 ·intro h i _
  rw [h]
  exact decide_eq_true rfl
theorem labels_guard : Tryz.prog.eqGuardType Tryz.prog.depth 42 = false:=by kernel_rfl
theorem lbt_info : (Tryz.prog.info? 40).isSome = true:=by kernel_rfl
theorem lbt_cells : Tryz.prog.cellsOf 40 = 4:=by kernel_rfl
theorem labels_eq {X Y : qap} (hX : X.length = 128) (hY : Y.length = 128) (w : World) : (Op.equalIn 10000 42 (.agg (qai X).toArray) (.agg (qai Y).toArray)).run Tryz.prog w = .ok (decide (X = Y)) w:=by
 obtain ⟨i,hi⟩:=Option.isSome_iff_exists.1 lbt_info
 rw [run_equalIn_array w 9999 _ _ underlying42 hi,lbt_cells,labels_items 9997 hX hY w _ (fun j hj=>List.mem_range.1 hj),chunks_eq hX hY]
def alEq (a b : AlP) : Bool:=(a.ret == b.ret) && (((a.pc : Int) == (b.pc : Int)) && (((a.sink : Int) == (b.sink : Int)) && (((a.lab.toNat : Int) == (b.lab.toNat : Int)) && true)))
theorem AlP.len (a : AlP) : a.cells.length = 4:=rfl
end Go.Proofs.YtnfkalpgidiafaaGreat

namespace Go.Proofs.YtnfkalpgidiafaaGreat
open _root_.Go.Proofs.Tryz
open Go
def lb0 : qap:=List.replicate 128 0
def pol0 (pp : Bool) : PolG:=⟨pp,⟨none,0,[]⟩,⟨none,0,[]⟩⟩
theorem pol0_rd (h : Hp) : RdSinkGs (⟨none,0,[]⟩ : Sl SinkG) h:=⟨RdS.nil 3 h,fun x hx=>by cases hx⟩
def awX : qap:=setL lb0 [1,0,0,0] 2
def awY : qap:=setL (setL awX [1,1,1,1] 1) zeroT 0
theorem aw13_w : encP ⟨28,1,2,3,0⟩ = (3211443,0):=by kernel_rfl
theorem aw13 : qgs (madeD [3211443] []) ⟨2,[]⟩ (st0 4096) awX false [] = ⟨⟨List.replicate 32 0,4100,1⟩,awY,[],noEv,0,madeD [3211443] [],⟨2,[]⟩⟩:=by kernel_rfl
theorem awake13_spec : Spec Tryz.prog 5 #[] (fun _=>True) [] (fun ρ ρ' v L=>v = .bool true ∧ L = []):=by
 refine Spec.of 51 Tryz.func5 rfl Tryz.ntmps5 [] rfl rfl ?_
 intro cx ρ hr' h0
 refine Cd.seq fun K1 hK1=>?_
 refine Cd.qac [(0,false)] rfl rfl ?_
 refine Jp.y 0 rfl (qaa rfl) rfl rfl Kp.true (Y.assign rfl rfl) ?_
 refine Jp.qae hK1 ?_
 refine Cd.seq fun K2 hK2=>?_
 refine Cd.qac [(0,false),(1,false),(2,false),(3,false),(4,false)] rfl rfl ?_
 refine Jp.y 10 rfl (qaa rfl) rfl rfl Kp.true (Y.struct [(0,_),(1,_),(2,_),(3,_)] [_,_,_,_,_] rfl rfl places60 zeroValue60 rfl) ?_
 refine Jp.call [] [] (word13_spec ⟨28,1,2,3,0⟩ ⟨by decide,by decide,by decide,by decide,by decide⟩ (by decide)) 11 rfl (qaa rfl) rfl rfl (Runs.fn rfl call14 rfl) (by decide) (by decide) rfl trivial ?_
 rintro v1 ρ1 L1 ⟨rfl,rfl,rfl⟩
 refine ⟨rfl,fun hle1=>⟨Kp.true,?_⟩⟩
 rw [aw13_w]
 refine Jp.lit 12 9 [(0,_)] [_] rfl (qaa rfl) rfl rfl rfl rfl underlying22 sizeOf24 zeroValue24 rfl rfl rfl rfl rfl fun b9=>⟨Kp.true,?_⟩
 refine Jp.freeze (i:=9) rfl (OwnS.up _ _ _ _ _ _) fun ρ7 hle7 hA7=>?_
 refine Jp.call [] [0] (made13_spec (some ⟨b9,0,none⟩) 1 [3211443] none 0 [] (by intro x hx; simp at hx; exact ⟨3211443,hx,by omega⟩)) 13 rfl (qaa rfl) rfl rfl (Runs.fn rfl call6 rfl) (by decide) (by decide) rfl ⟨hA7.rd,RdS.nil 1 _⟩ ?_
 rintro v2 ρ2 L2 ⟨b,rfl,rfl⟩
 refine ⟨rfl,fun hle2=>⟨Kp.true,?_⟩⟩
 refine Jp.y 1 rfl (qaa rfl) rfl rfl Kp.true (Y.assign rfl rfl) ?_
 refine Jp.qae hK2 ?_
 refine Cd.seq fun K3 hK3=>?_
 refine Cd.qac [(0,false),(1,false),(2,false),(3,false),(4,false),(5,false)] rfl rfl ?_
 refine Jp.call [] [1] (shNew_spec 2) 15 rfl (qaa rfl) rfl rfl (Runs.fn rfl call7 rfl) (by decide) (by decide) rfl trivial ?_
 rintro v3 ρ3 L3 ⟨rfl,bs,rfl,rfl⟩
 refine ⟨rfl,fun hle3=>⟨Kp.true,?_⟩⟩
 refine Jp.y 14 rfl (qaa rfl) rfl rfl Kp.true (Y.move rfl rfl) ?_
 refine Jp.y 16 rfl (qaa rfl) rfl rfl Kp.true (Y.extract rfl rfl rfl) ?_
 refine Jp.y 17 rfl (qaa rfl) rfl rfl Kp.true (Y.extract rfl rfl rfl) ?_
 refine Jp.y 2 rfl (qaa rfl) rfl rfl Kp.true (Y.assign rfl rfl) ?_
 refine Jp.y 3 rfl (qaa rfl) rfl rfl Kp.true (Y.assign rfl rfl) ?_
 refine Jp.qae hK3 ?_
 refine Cd.seq fun K4 hK4=>?_
 refine Cd.qac [(0,false),(1,false),(2,false)] rfl rfl ?_
 refine Jp.y 18 rfl (qaa rfl) rfl rfl Kp.true (Y.array [] [_,_,_,_,_,_,_,_,_,_,_,_,_,_,_,_,_,_,_,_,_,_,_,_,_,_,_,_,_,_,_,_,_,_,_,_,_,_,_,_,_,_,_,_,_,_,_,_,_,_,_,_,_,_,_,_,_,_,_,_,_,_,_,_,_,_,_,_,_,_,_,_,_,_,_,_,_,_,_,_,_,_,_,_,_,_,_,_,_,_,_,_,_,_,_,_,_,_,_,_,_,_,_,_,_,_,_,_,_,_,_,_,_,_,_,_,_,_,_,_,_,_,_,_,_,_,_,_] rfl rfl underlying42 sizeOf40 zeroValue42 rfl) ?_
 refine Jp.alloc 4 4 rfl (qaa rfl) rfl rfl rfl zeroValue42 fun b4=>⟨Kp.true,?_⟩
 refine Jp.qcc 4 rfl (qaa rfl) rfl rfl sizeOf42 rfl rfl rfl rfl rfl rfl (fun k _ _=>qat k) Kp.true ?_
 refine Jp.qae hK4 ?_
 refine Cd.seq fun K5 hK5=>?_
 refine Cd.qac [(0,false),(1,false),(2,false)] rfl rfl ?_
 refine Jp.y 19 rfl (qaa rfl) rfl rfl Kp.true (Y.array [(0,_)] [_,_,_,_] rfl rfl underlying40 sizeOf5 zeroValue40 rfl) ?_
 refine Jp.y 20 rfl (qaa rfl) rfl rfl Kp.true (Y.qan rfl rfl rfl underlying42 sizeOf40 (by first | decide | omega) (by first | decide | omega) rfl) ?_
 refine Jp.qcc (cs:=qai [1,0,0,0]) 4 rfl (qaa rfl) rfl rfl sizeOf40 rfl rfl rfl rfl rfl rfl (fun k _ _=>qat k) Kp.true ?_
 refine Jp.imp (j:=4) rfl (fun h hh=>(show Pt b4 (.cells (qai awX).toArray 42) h from hh)) ?_
 have hS:=qgx b bs (madeD [3211443] []) ⟨2,[]⟩ (st0 4096) awX (pol0 false) (st0_ok (by decide)) rfl (by decide)
 rw [show qgs (madeD [3211443] []) ⟨2,[]⟩ (st0 4096) awX (pol0 false).pointer (pol0 false).sinks.xs = _ from aw13] at hS
 refine Jp.qae hK5 ?_
 refine Cd.seq fun K6 hK6=>?_
 refine Cd.qac [(0,false),(1,false),(2,false),(3,false),(4,false),(5,false),(6,false),(7,false),(8,false),(9,false),(10,false),(11,false),(12,false),(13,false),(14,false),(15,false),(16,false),(17,false),(18,false),(19,false)] rfl rfl ?_
 refine Jp.y 22 rfl (qaa rfl) rfl rfl Kp.true (Y.move rfl rfl) ?_
 refine Jp.y 23 rfl (qaa rfl) rfl rfl Kp.true (Y.move rfl rfl) ?_
 refine Jp.y 24 rfl (qaa rfl) rfl rfl Kp.true (Y.struct [(1,_)] [_,_,_,_,_,_,_,_,_,_,_,_,_,_,_,_,_,_,_,_,_,_,_,_,_,_,_,_,_,_,_,_,_,_] rfl rfl places27 zeroValue27 rfl) ?_
 refine Jp.y 25 rfl (qaa rfl) rfl rfl Kp.true (by first | exact Y.qaj 4 rfl isAgg42 sizeOf42 rfl rfl rfl) ?_
 refine Jp.y 26 rfl (qaa rfl) rfl rfl Kp.true (Y.struct [] [_,_,_] rfl rfl places31 zeroValue31 rfl) ?_
 refine Jp.call [0,1] [0,1,2] hS 27 rfl (qaa rfl) rfl rfl (Runs.fn rfl call8 rfl) (by decide) (by decide) rfl (pol0_rd _) ?_
 rintro v4 ρ4 L4 ⟨A,c,rfl,rfl⟩
 refine ⟨rfl,fun hle4=>⟨Kp.true,?_⟩⟩
 refine Jp.y 21 rfl (qaa rfl) rfl rfl Kp.true (Y.move rfl rfl) ?_
 refine Jp.y 28 rfl (qaa rfl) rfl rfl Kp.true (Y.extract rfl rfl rfl) ?_
 refine Jp.y 29 rfl (qaa rfl) rfl rfl Kp.true (Y.extract rfl rfl rfl) ?_
 refine Jp.y 30 rfl (qaa rfl) rfl rfl Kp.true (Y.extract rfl rfl rfl) ?_
 refine Jp.y 31 rfl (qaa rfl) rfl rfl Kp.true (Y.extract rfl rfl rfl) ?_
 refine Jp.y 32 rfl (qaa rfl) rfl rfl Kp.true (Y.extract rfl rfl rfl) ?_
 refine Jp.alloc 5 5 rfl (qaa rfl) rfl rfl rfl zeroValue27 fun b5=>⟨Kp.true,?_⟩
 refine Jp.alloc 6 6 rfl (qaa rfl) rfl rfl rfl zeroValue42 fun b6=>⟨Kp.true,?_⟩
 refine Jp.alloc 8 8 rfl (qaa rfl) rfl rfl rfl zeroValue46 fun b8=>⟨Kp.true,?_⟩
 refine Jp.qak 5 rfl (qaa rfl) rfl rfl sizeOf27 rfl rfl (by first | rfl | assumption) (by first | rfl | assumption) rfl (by first | rfl | assumption) (fun k _ _=>qat k) Kp.true ?_
 refine Jp.qak 6 rfl (qaa rfl) rfl rfl sizeOf42 rfl rfl (by first | rfl | assumption) (by first | rfl | assumption) rfl (by first | rfl | assumption) (fun k _ _=>qat k) Kp.true ?_
 refine Jp.y 7 rfl (qaa rfl) rfl rfl Kp.true (Y.assign rfl rfl) ?_
 refine Jp.qak 8 rfl (qaa rfl) rfl rfl sizeOf46 rfl rfl (by first | rfl | assumption) (by first | rfl | assumption) rfl (by first | rfl | assumption) (fun k _ _=>qat k) Kp.true ?_
 refine Jp.y 9 rfl (qaa rfl) rfl rfl Kp.true (Y.assign rfl rfl) ?_
 refine Jp.qae hK6 ?_
 refine Cd.seq fun K7 hK7=>?_
 refine Cd.qac [(0,false),(1,false),(2,false),(3,false),(4,false),(5,false),(6,false),(7,false),(8,false),(9,false),(10,false),(11,false),(12,false),(13,false),(14,false),(15,false),(16,false),(17,false),(18,false)] rfl rfl ?_
 refine Jp.y 33 rfl (qaa rfl) rfl rfl Kp.true (Y.qan rfl rfl rfl underlying42 sizeOf40 (by first | decide | omega) (by first | decide | omega) rfl) ?_
 refine Jp.y 34 rfl (qaa rfl) rfl rfl Kp.true (Y.qij 6 (qai (qcz awY 1)) rfl isAgg40 sizeOf40 rfl rfl rfl (fun p v h=>labOf_get (X:=awY) (r:=1) (by decide) p v h)) ?_
 refine Jp.y 35 rfl (qaa rfl) rfl rfl Kp.true (Y.array [(0,_),(1,_),(2,_),(3,_)] [_,_,_,_] rfl rfl underlying40 sizeOf5 zeroValue40 rfl) ?_
 refine Jp.y 36 rfl (qaa rfl) rfl rfl Kp.true (Y.eqlV (xs:=(qai (qcz awY 1)).toArray) (ys:=(qai [1,1,1,1]).toArray) (r:=true) rfl rfl rfl tg_guard (fun w=>by rw [tg_eqd 9998 rfl rfl,decide_eq_true (by kernel_rfl)])) ?_
 refine Jp.y 37 rfl (qaa rfl) rfl rfl Kp.true (Y.move rfl rfl) ?_
 refine Jp.slot 37 rfl (show _ = Value.bool true from rfl) ?_
 refine Jp.y 38 rfl (qab rfl rfl rfl rfl) rfl rfl Kp.true (Y.move rfl rfl) ?_
 refine Jp.y 39 rfl (qab rfl rfl rfl rfl) rfl rfl Kp.true (Y.qcb rfl underlying43 rfl) ?_
 refine Jp.y 40 rfl (qab rfl rfl rfl rfl) rfl rfl Kp.true (Y.eql rfl rfl rfl) ?_
 refine Jp.y 41 rfl (qaa rfl) rfl rfl Kp.true (Y.qav rfl rfl rfl) ?_
 refine Jp.y 42 rfl (qaa rfl) rfl rfl Kp.true (Y.move rfl rfl) ?_
 refine Jp.slot 42 rfl (show _ = Value.bool true from rfl) ?_
 refine Jp.y 43 rfl (qab rfl rfl rfl rfl) rfl rfl Kp.true (by exact Y.qaj 8 rfl isAgg46 sizeOf46 rfl rfl (by first | rfl | assumption)) ?_
 refine Jp.y 44 rfl (qab rfl rfl rfl rfl) rfl rfl Kp.true (Y.struct [] [_,_,_] rfl rfl qbz zeroValue46 rfl) ?_
 refine Jp.y 45 rfl (qab rfl rfl rfl rfl) rfl rfl Kp.true (Y.eqlS (xs:=noEv.cells.toArray) (ys:=noEv.cells.toArray) (r:=true) rfl rfl rfl ev_guard ev_fields ev_stood (fun w=>by rw [ev_eq,(evEq_iff _ _).2 rfl])) ?_
 refine Jp.y 46 rfl (qaa rfl) rfl rfl Kp.true (Y.qav rfl rfl rfl) ?_
 refine Jp.y 47 rfl (qaa rfl) rfl rfl Kp.true (Y.move rfl rfl) ?_
 refine Jp.slot 47 rfl (show _ = Value.bool true from rfl) ?_
 refine Jp.y 48 rfl (qab rfl rfl rfl rfl) rfl rfl Kp.true (Y.move rfl rfl) ?_
 refine Jp.y 49 rfl (qab rfl rfl rfl rfl) rfl rfl Kp.true (Y.eql rfl rfl rfl) ?_
 refine Jp.y 50 rfl (qaa rfl) rfl rfl Kp.true (Y.qav rfl rfl rfl) ?_
 refine Jp.y 0 rfl (qaa rfl) rfl rfl Kp.true (Y.assign rfl rfl) ?_
 refine Jp.qae hK7 ?_
 refine Cd.ret [] rfl (qbf rfl rfl) trivial ⟨rfl,rfl⟩
end Go.Proofs.YtnfkalpgidiafaaGreat

namespace Go.Proofs.YtnfkalpgidiafaaGreat
open Go
end Go.Proofs.YtnfkalpgidiafaaGreat

namespace Go.Proofs.YtnfkalpgidiafaaGreat
open Go
theorem z_get : ∀ i : Nat,zeroT.getD i 0 = 0
 | 0=>rfl
 | 1=>rfl
 | 2=>rfl
 | 3=>rfl
 | _ + 4=>rfl
theorem z_set : ∀ i : Nat,zeroT.set i 0 = zeroT
 | 0=>rfl
 | 1=>rfl
 | 2=>rfl
 | 3=>rfl
 | _ + 4=>rfl
theorem z_or : (0 : UInt8) ||| 0 = 0:=by decide
theorem zeroT_rep : zeroT = List.replicate 4 0:=rfl
theorem lab0 {r : Nat} (hr : r < 32) : qcz lb0 r = zeroT:=by
 unfold qcz lb0
 split
 ·rfl
 ·rw [List.drop_replicate,List.take_replicate,show min 4 (128 - 4 * r) = 4 by omega]; rfl
theorem setL0 {r : Nat} (hr : r < 32) : setL lb0 zeroT r = lb0:=by
 unfold setL lb0
 rw [zeroT_rep,List.drop_replicate,List.take_replicate,List.replicate_append_replicate,List.replicate_append_replicate]
 congr 1
 omega
theorem shN0 (k n : Nat) : ∀ p,shN k n zeroT p = zeroT
 | 0=>rfl
 | p + 1=>by
  rw [shN,shN0 k n p,z_get,z_get,z_or,z_set]
  split <;> rfl
theorem mkN0 (a b : Nat) : ∀ p,mkN a b zeroT zeroT p = zeroT
 | 0=>rfl
 | p + 1=>by
  rw [mkN,mkN0 a b p,z_get,z_or,z_set]
  split <;> rfl
theorem flowT0 (k b a : Nat) : qfp k b a zeroT zeroT = zeroT:=by
 have hj : qdv zeroT zeroT = zeroT:=by decide
 unfold qfp
 repeat' split
 ·exact hj
 ·exact mkN0 ..
 ·rw [hj]; decide
 ·exact shN0 ..
 ·decide
 ·decide
 ·decide
theorem narrow0 (n : Nat) (sg : Bool) : qdh zeroT n sg = zeroT:=by
 unfold qdh
 split
 ·rename_i h
  rcases h with rfl | rfl <;> cases sg <;> decide
 ·rfl
theorem tagM0 (b a : Nat) (n : Int) : tagM ⟨b,[]⟩ a n = zeroT:=by
 unfold tagM
 rw [List.map_congr_left (g:=fun _=>(0 : UInt8)) (fun i _=>by split <;> rfl)]
 rfl
theorem ptrT0 (pp : Bool) {r : Nat} (hr : r < 32) : ptrT lb0 pp r = zeroT:=by
 unfold ptrT
 rw [lab0 hr]
 split
 ·decide
 ·rfl
theorem valueT0 (b : Nat) (pp : Bool) {i : InsP} (s : StP) (hi : InsOk i) : qhp ⟨b,[]⟩ lb0 pp i s = zeroT:=by
 unfold qhp
 rw [tagM0,narrow0,ptrT0 pp hi.r1,lab0 hi.r1,lab0 hi.r2]
 split
 ·decide
 ·split
  ·split <;> exact flowT0 ..
  ·rfl
theorem newL0 (b : Nat) (pp : Bool) {i : InsP} (s : StP) (hi : InsOk i) : newL ⟨b,[]⟩ lb0 pp i s = lb0:=by
 unfold newL
 rw [valueT0 b pp s hi,setL0 hi.rd]
 split <;> rfl
theorem hits_none {f : SinkG → Bool} (xs : List SinkG) (k : Nat) (hf : ∀ s,f s = false) : qfb f xs k = []:=by
 unfold qfb
 rw [List.filter_eq_nil_iff]
 intro j _
 cases xs[j]? with
 | none=>simp
 | some s=>simp [hf]
theorem watch0 (op : Nat) {r1 : Nat} (s : StP) (sk : List SinkG) (hr : r1 < 32) : qho op r1 s lb0 sk = []:=by
 unfold qho
 split
 ·rfl
 ·rw [lab0 hr,show allT zeroT = 0 by decide,hits_none sk _ fun s=>by simp [hitB]]
  rfl
theorem zB_set (i : Nat) : zeroB.set i 0 = zeroB:=by
 unfold zeroB
 exact List.set_replicate_self
theorem layP0 : ∀ (n a : Nat),layP [] a (List.replicate n 0) = []
 | 0,a=>rfl
 | n + 1,a=>by
  rw [List.replicate_succ,layP]
  have h : oneP [] a 0 = []:=by
   unfold oneP
   rw [show bOf [] (qau a) = zeroB from rfl,zB_set]
   rfl
  rw [h]
  exact layP0 n (a + 1)
theorem putM0 (b a : Nat) (n : Int) : putM ⟨b,[]⟩ a n zeroT = (0,⟨b,[]⟩):=by
 unfold putM setM
 rw [zeroT_rep,List.take_replicate,List.take_replicate,layP0,if_neg (by simp)]
theorem layF0 (M : MemG) (b : Nat) (pp : Bool) {i : InsP} (s : StP) (hi : InsOk i) : layF M ⟨b,[]⟩ lb0 pp i s = (0,⟨b,[]⟩):=by
 unfold layF
 split
 ·unfold layT
  rw [lab0 hi.r2,ptrT0 pp hi.r1,show qdv zeroT zeroT = zeroT by decide,putM0]
  split <;> rfl
 ·rfl
theorem flow_clean (M : MemG) (b : Nat) (s : StP) (pp : Bool) (sk : List SinkG) : (qgs M ⟨b,[]⟩ s lb0 pp sk).er = 0 ∧ (qgs M ⟨b,[]⟩ s lb0 pp sk).x = lb0 ∧ (qgs M ⟨b,[]⟩ s lb0 pp sk).al = [] ∧ (qgs M ⟨b,[]⟩ s lb0 pp sk).sh = ⟨b,[]⟩:=by
 have hi:=fetchP_ok M s.pc
 unfold qgs
 rw [layF0 M b pp s hi]
 dsimp only
 rw [newL0 b pp s hi,watch0 _ s sk hi.r1,setL0 (by decide),if_pos rfl]
 split
 ·split <;> exact ⟨rfl,rfl,rfl,rfl⟩
 ·exact ⟨rfl,rfl,rfl,rfl⟩
end Go.Proofs.YtnfkalpgidiafaaGreat

namespace Go.Proofs.YtnfkalpgidiafaaGreat
open Go
def clrTo (f i : Nat) (b : qap) : qap:=b.zipIdx.map fun x=>if f ≤ x.2 ∧ x.2 < i then 0 else x.1
structure CInv (l0 fin : List (Nat × Pg)) (blk : Nat → Nat) (left : qcs) (l : List (Nat × Pg)) (pm : qcs) : Prop where
 rising : Rising l
 perm : pm.Perm (qef l blk)
 sub : ∀ y ∈ left,y ∈ qef l0 blk
 nodup : (left.map (·.1)).Nodup
 get : ∀ k : Nat,qao l k = if (k : Int) ∈ left.map (·.1) then qao l0 k else qao fin k
theorem pmOf_rem (l : List (Nat × Pg)) (blk : Nat → Nat) (k : Nat) : qef (remPg l k) blk = (qef l blk).filter fun x=>x.1 != (k : Int):=by
 unfold remPg qef
 rw [List.filter_map]
 congr 1
 apply List.filter_congr
 intro y _
 simp only [Function.comp]
 rw [Bool.eq_iff_iff]
 simp
 omega
theorem CInv.step {l0 : List (Nat × Pg)} {a e : Nat} {blk : Nat → Nat} {left : qcs} {l : List (Nat × Pg)} {pm : qcs} (h0 : ShOk l0) (h : CInv l0 (qgg l0 a e) blk left l pm) {q k : Nat} {p : Pg} (hq : left[q]? = some ((k : Int),qec blk k)) (hg : qao l0 k = some p) :
  qao l k = some p ∧ (∀ z ∈ left.eraseIdx q,z.1 ≠ (k : Int)) ∧ (qem (clrB k a e p.b) = 0 → CInv l0 (qgg l0 a e) blk (left.eraseIdx q) (remPg (qby l k (pgB (clrB k a e p.b))) k) (mdel pm (k : Int))) ∧ (qem (clrB k a e p.b) ≠ 0 → CInv l0 (qgg l0 a e) blk (left.eraseIdx q) (qby l k (pgB (clrB k a e p.b))) pm):=by
 have hpe:=(qew hq).map (·.1)
 rw [List.map_cons] at hpe
 have hn2:=hpe.nodup_iff.1 h.nodup
 rw [List.nodup_cons] at hn2
 have hin : ((k : Int)) ∈ left.map (·.1):=hpe.mem_iff.2 (List.mem_cons_self ..)
 have hgl : qao l k = some p:=by rw [h.get,if_pos hin,hg]
 have hfin:=clear_get h0 a e k
 rw [hg] at hfin
 dsimp only at hfin
 have hoth : ∀ j : Nat,j ≠ k → ((j : Int) ∈ left.map (·.1) ↔ (j : Int) ∈ (left.eraseIdx q).map (·.1)):=fun j hj=>by
  rw [hpe.mem_iff,List.mem_cons]
  constructor
  ·intro hx; exact hx.resolve_left (by omega)
  ·exact .inr
 have hsub : ∀ y ∈ left.eraseIdx q,y ∈ qef l0 blk:=fun y hy=>h.sub y (List.mem_of_mem_eraseIdx hy)
 have hrs : Rising (qby l k (pgB (clrB k a e p.b))):=h.rising.set _ _
 refine ⟨hgl,fun z hz e=>hn2.1 (by dsimp only; rw [← e]; exact List.mem_map.2 ⟨z,hz,rfl⟩),fun hz=>?_,fun hz=>?_⟩
 ·rw [if_pos hz] at hfin
  refine ⟨hrs.sublist List.filter_sublist,?_,hsub,hn2.2,fun j=>?_⟩
  ·rw [pmOf_rem,pmOf_set]
   exact mdel_perm h.perm (qev h.rising.nodup blk) _
  ·rw [getPg_rem,qfc]
   by_cases ej : j = k
   ·subst ej
    rw [if_pos rfl,if_neg hn2.1,hfin]
   ·rw [if_neg ej,if_neg ej,h.get]
    simp only [hoth j ej]
 ·rw [if_neg hz] at hfin
  refine ⟨hrs,by rw [pmOf_set]; exact h.perm,hsub,hn2.2,fun j=>?_⟩
  rw [qfc]
  by_cases ej : j = k
  ·subst ej
   rw [if_pos rfl,if_neg hn2.1,hfin,hgl]; rfl
  ·rw [if_neg ej,h.get]
   simp only [hoth j ej]
theorem CInv.start {S : ShG} {x : ShX} {a e : Nat} (hf : ShF S x) : CInv S.pages (qgg S.pages a e) x.blk x.pm S.pages x.pm:=by
 refine ⟨hf.ok.rising,hf.pages,fun y hy=>hf.pages.mem_iff.1 hy,((hf.pages.map (·.1)).nodup_iff).2 (qev hf.ok.rising.nodup _),fun k=>?_⟩
 by_cases hk : (k : Int) ∈ x.pm.map (·.1)
 ·rw [if_pos hk]
 ·have : qao S.pages k = none:=qbo.2 fun h=>hk ((hf.pages.map (·.1)).mem_iff.2 (qgp.2 h))
  rw [if_neg hk,clear_get hf.ok,this]
end Go.Proofs.YtnfkalpgidiafaaGreat

namespace Go.Proofs.YtnfkalpgidiafaaGreat
open _root_.Go.Proofs.Tryz
open Go
theorem vo_move {o : Oper} {x : Operand} (h : o.op = .move x) : qgl o := ⟨fun c e => (by rw [h] at e; cases e), fun ev P w nx w' hr => by
 simp only [execOp, h, Sem.run_pure] at hr; injection hr with h1 _; exact .inl ⟨_, h1.symm⟩⟩
theorem vo_assign {o : Oper} {x : Operand} (h : o.op = .assign x) : qgl o := ⟨fun c e => (by rw [h] at e; cases e), fun ev P w nx w' hr => by
 simp only [execOp, h, Sem.run_pure] at hr; injection hr with h1 _; exact .inl ⟨_, h1.symm⟩⟩
theorem vo_load {o : Oper} {t : TypeId} {x : Operand} (h : o.op = .load t x) : qgl o := ⟨fun c e => (by rw [h] at e; cases e), fun ev P w nx w' hr => by
 simp only [execOp, h] at hr; exact .inl (run_val hr)⟩
theorem vo_store {o : Oper} {t : TypeId} {x y : Operand} (h : o.op = .store t x y) : qgl o := ⟨fun c e => (by rw [h] at e; cases e), fun ev P w nx w' hr => by
 simp only [execOp, h] at hr; exact .inr (run_then hr)⟩
theorem vo_buildSlice {o : Oper} {t : TypeId} {n : Nat} {ps : Array (Nat × Operand)} (h : o.op = .buildSlice t n ps) : qgl o := ⟨fun c e => (by rw [h] at e; cases e), fun ev P w nx w' hr => by
 simp only [execOp, h] at hr; exact .inl (run_val hr)⟩
theorem vo_append {o : Oper} {xs : Array Operand} {ts : Array TypeId} (h : o.op = .call { callee := .builtin .append, args := xs, argTypes := ts }) : qgl o := ⟨fun c e => (by rw [h] at e; cases e), fun ev P w nx w' hr => by
 simp only [execOp,h,resolve,Sem.run_bind,Sem.run_pure,Result.andThen_ok,invoke,builtin] at hr
 cases hx : (Builtin.append_ ts o.type (Array.map ev xs)).run P w with
 | ok v w1=>rw [hx] at hr; injection hr with h1 _; exact .inl ⟨v,h1.symm⟩
 | halt s w1 => rw [hx] at hr; cases hr⟩
def qfg (A B : Code) (fn : FuncId) (tmps : Array Value) (D : Nat) (st : LoopState) : Loop:={ state:=st,pending:=none,fn:=fn,tmps:=tmps,params:=#[7],assign:=A,body:=B,defers:=D }
def ApJ (A B : Code) (b l D : Nat) (fn : FuncId) (tmps : Array Value) (seen : List Value) : qba:=Ex fun x : Option Addr × Nat =>
 Sep (Pt b (.cells #[.slice x.1 seen.length x.2] 22)) (Sep (OwnS 24 1 x.1 seen.length x.2 seen) (Sep (Pt l (.loop (qfg A B fn tmps D .ready))) (Pt D (.deferred (some [])))))
def qge : Code → Option (Code × Code)
 | .rangeFunc _ _ A B=>some (A,B)
 | .seq a b=>(qge a).or (qge b)
 | .block _ c=>qge c
 | _=>none
noncomputable def apA : Code:=((Tryz.f85.body.bind qge).map (·.1)).getD .skip
noncomputable def apB : Code:=((Tryz.f85.body.bind qge).map (·.2)).getD .skip
theorem St.putObj {cx : Cx} {ρ : Hp} {L : Own} {w : World} (hs : St cx ρ L w) {j b : Nat} {o o' : Obj} (hj : look L j = some (Pt b o)) : St cx ρ ((j,Pt b o') :: L) (w.putObj b o'):=by
 have hb:=hs.pt hj
 have hlt:=qcy hb
 refine hs.turn hj (by simp [World.putObj,hlt]) (fun p hp=>by simp [World.putObj,Array.getElem?_setIfInBounds,Ne.symm hp]) (by simp [World.putObj]) rfl rfl rfl
theorem apYields {b l D : Nat} {fn : FuncId} {tmps : Array Value} (hsz : tmps.size = 13) (h2 : tmps[2]? = some (.pointer (some ⟨b,0,none⟩))) :
  Yields Tryz.prog l (ApJ apA apB b l D fn tmps) (fun s=>s.length ≤ 4096 ∧ ∀ v ∈ s,∃ x : Int,v = .int .u32 x):=by
 intro seen k hok w M ρ hs
 obtain ⟨hok1,hok2⟩:=hok
 rw [List.length_append,List.length_singleton] at hok1
 obtain ⟨x,rfl⟩:=hok2 k (by simp)
 obtain ⟨⟨A,c⟩,hs0⟩:=hs.ex' (j:=0) (by rw [qah,if_pos rfl]; rfl)
 have hs1:=hs0.part (j:=0) (k:=1) (by decide) (by rw [qah,if_pos rfl])
 have hs2:=hs1.part (j:=1) (k:=2) (by decide) (by rw [qah,if_neg (by decide),qah,if_pos rfl])
 have hs3:=hs2.part (j:=2) (k:=3) (by decide) (by rw [qah,if_neg (by decide),qah,if_pos rfl])
 dsimp only at hs3
 have hsA : St ⟨w,M,ρ⟩ ρ [(0,Pt b (.cells #[.slice A seen.length c] 22)),(1,OwnS 24 1 A seen.length c seen),(2,Pt l (.loop (qfg apA apB fn tmps D .ready))),(3,Pt D (.deferred (some [])))] w:=hs3.sub ⟨rfl,rfl,rfl,rfl,trivial⟩
 have hr:=hsA.pt (i:=2) rfl
 refine ⟨_,hr,rfl,fun m=>roundIn_of_wpIn trivial ?_⟩
 have ht : ((qfg apA apB fn tmps D .ready).params.zip #[.int .u32 x]).foldl (fun tmps (t,a)=>tmps.setIfInBounds t a) (qfg apA apB fn tmps D .ready).tmps = tmps.setIfInBounds 7 (.int .u32 x):=by simp [qfg]
 rw [ht]
 have ha : At 13 [(2,.pointer (some ⟨b,0,none⟩)),(7,.int .u32 x)] { tmps:=tmps.setIfInBounds 7 (.int .u32 x),defers:=[] }:=by
  refine ⟨rfl,by simp [hsz],fun t v e=>?_⟩
  simp only [qah] at e
  split at e
  ·rename_i h; subst h; injection e with e; subst e
   show (tmps.setIfInBounds 7 (.int .u32 x))[2]? = _
   rw [Array.getElem?_setIfInBounds_ne (by decide)]; exact h2
  ·split at e
   ·rename_i h; subst h; injection e with e; subst e
    show (tmps.setIfInBounds 7 (.int .u32 x))[7]? = _
    rw [Array.getElem?_setIfInBounds]; simp [hsz]
   ·simp [look] at e
 have hF : ∀ f,(Fence.wide.inRound l).fn f:=fun _=>trivial
 refine qhe (Q:=fun e a w'=>match e with | .normal=>At 13 [(5,.int .u32 x),(2,.pointer (some ⟨b,0,none⟩)),(7,.int .u32 x)] a ∧ St ⟨w,M,ρ⟩ ρ [(0,Pt b (.cells #[.slice A seen.length c] 22)),(1,OwnS 24 1 A seen.length c seen),(2,Pt l (.loop (qfg apA apB fn tmps D .ready))),(3,Pt D (.deferred (some [])))] w' | _=>False)
  hF ?_ [(0,false)] rfl rfl ?_ ha hsA ?_
 ·intro o ho
  rcases List.mem_singleton.1 ho with rfl
  exact vo_assign rfl
 ·refine Jp.y 5 rfl (qaa rfl) rfl rfl Kp.true (Y.assign rfl rfl) ?_
  exact fun a w' ha' hs'=>⟨ha',hs'⟩
 rintro a1 w1 ⟨ha1,hsB⟩
 have hd1 : ({ a1 with defers:=[] } : Act) = a1:=by cases a1; have:=ha1.defers; simp at this; subst this; rfl
 rw [hd1]
 have hrB:=hsB.pt (i:=2) rfl
 refine ⟨_,run_beginRound hrB rfl,?_⟩
 have hsC:=hsB.putObj (j:=2) (o':=.loop { qfg apA apB fn tmps D .ready with state:=.busy }) rfl
 refine wpIn_block ?_
 rw [← hd1]
 refine qhe (Q:=fun e a w'=>match e with | .normal=>∃ A' c' ρ',At 13 [(2,.pointer (some ⟨b,0,none⟩))] a ∧ St ⟨w,M,ρ⟩ ρ' [(0,Pt b (.cells #[.slice A' (seen.length + 1) c'] 22)),(1,OwnS 24 1 A' (seen.length + 1) c' (seen ++ [.int .u32 x])),(2,Pt l (.loop { qfg apA apB fn tmps D .ready with state:=.busy })),(3,Pt D (.deferred (some [])))] w' | _=>False)
  hF ?_ [(0,false),(1,false),(2,false),(3,false),(4,false)] rfl rfl ?_ ha1 hsC ?_
 ·intro o ho
  simp only [List.mem_cons,List.not_mem_nil,or_false] at ho
  rcases ho with rfl | rfl | rfl | rfl | rfl
  ·exact vo_load rfl
  ·exact vo_move rfl
  ·exact vo_buildSlice rfl
  ·exact vo_append rfl
  ·exact vo_store rfl
 ·refine Jp.y 8 rfl (qaa rfl) rfl rfl Kp.true (Y.qaw 0 rfl isAgg22 rfl rfl rfl) ?_
  refine Jp.y 9 rfl (qaa rfl) rfl rfl Kp.true (Y.move rfl rfl) ?_
  refine Jp.lit 10 4 [(0,_)] [_] rfl (qaa rfl) rfl rfl rfl rfl underlying22 sizeOf24 zeroValue24 rfl rfl rfl rfl rfl fun b4=>⟨Kp.true,?_⟩
  refine Jp.append 11 1 rfl (qaa rfl) rfl rfl rfl underlying22 underlying22 (.inl ⟨_,rfl⟩) sizeOf24 Tryz.typeInfo24 zeroValue24 rfl (by decide) rfl rfl rfl (Src.own 4 rfl) rfl (seen.length + 1) (seen ++ [.int .u32 x]) rfl rfl (by simp only [Tryz.t24]; omega) fun A' c'=>⟨Kp.true,?_⟩
  refine Jp.store 0 rfl (qaa rfl) rfl rfl sizeOf22 rfl rfl rfl rfl rfl rfl Kp.true ?_
  exact fun a w' ha' hs'=>⟨A',c',ρ,ha'.sub ⟨rfl,trivial⟩,hs'.sub ⟨rfl,rfl,rfl,rfl,trivial⟩⟩
 rintro a2 w2 ⟨A',c',ρ',ha2,hsD⟩
 have hrD:=hsD.pt (i:=2) rfl
 refine ⟨_,_,run_endRound none hrD,ρ',rfl,?_⟩
 have hsE:=hsD.putObj (j:=2) (o':=.loop (qfg apA apB fn tmps D .ready)) rfl
 have g1:=hsE.glue (j:=2) (k:=3) (by decide) rfl rfl
 have g2:=g1.glue (j:=1) (k:=2) (by decide) rfl rfl
 have g3:=g2.glue (j:=0) (k:=1) (by decide) rfl rfl
 have g4 := g3.imp (i := 0) (A' := ApJ apA apB b l D fn tmps (seen ++ [.int .u32 x])) rfl fun h hh => ⟨(A', c'), by
  dsimp only
  rw [List.length_append, List.length_singleton]; exact hh⟩
 exact g4.sub ⟨rfl,trivial⟩
end Go.Proofs.YtnfkalpgidiafaaGreat
set_option linter.unusedVariables false
set_option linter.unusedSimpArgs false
set_option maxRecDepth 100000
namespace Go.Proofs.YtnfkalpgidiafaaGreat
open _root_.Go.Proofs.Tryz
open Go
def keysV (m : qcs) : List Value:=m.map fun y=>Value.int .u32 y.1
end Go.Proofs.YtnfkalpgidiafaaGreat
set_option linter.unusedVariables false
set_option linter.unusedSimpArgs false
set_option maxRecDepth 100000
namespace Go.Proofs.YtnfkalpgidiafaaGreat
open _root_.Go.Proofs.Tryz
open Go
def capO (cb pb : Nat) : qba:=Pt cb (.cells #[.map (some pb)] 99)
def kfn (cb : Nat) : Value:=.func (.func 91) #[] #[.pointer (some ⟨cb,0,none⟩)]
theorem okKeys {pm : qcs} (h : pm.length ≤ 4096) (s r : List Value) (hp : (s ++ r).Perm (keysV pm)) : s.length ≤ 4096 ∧ ∀ v ∈ s,∃ x : Int,v = .int .u32 x:=by
 have h1:=hp.length_eq
 rw [List.length_append,keysV,List.length_map] at h1
 refine ⟨by omega,fun v hv=>?_⟩
 have:=hp.mem_iff.1 (List.mem_append_left r hv)
 obtain ⟨y,_,rfl⟩:=List.mem_map.1 this
 exact ⟨_,rfl⟩
end Go.Proofs.YtnfkalpgidiafaaGreat
set_option linter.unusedVariables false
set_option linter.unusedSimpArgs false
set_option maxRecDepth 100000
namespace Go.Proofs.YtnfkalpgidiafaaGreat
open _root_.Go.Proofs.Tryz
open Go
def ltN (x y : Nat) : Bool:=decide (x < y)
theorem isNaN_spec (x : Int) : Spec Tryz.prog 119 #[.int .u32 x] (fun _=>True) [] (fun ρ ρ' v L=>ρ' = ρ ∧ v = .bool false ∧ L = []):=by
 refine Spec.of 6 Tryz.func119 rfl Tryz.ntmps119 [(0,_)] rfl rfl ?_
 intro cx ρ hr h0
 refine Cd.seq fun K1 hK1=>?_
 refine Cd.qac [(0,false)] rfl rfl ?_
 refine Jp.y 2 rfl (qaa rfl) rfl rfl Kp.true (Y.assign rfl rfl) ?_
 refine Jp.qae hK1 ?_
 refine Cd.seq fun K2 hK2=>?_
 refine Cd.qac [(0,false),(1,false),(2,false),(3,false)] rfl rfl ?_
 refine Jp.y 3 rfl (qaa rfl) rfl rfl Kp.true (Y.move rfl rfl) ?_
 refine Jp.y 4 rfl (qaa rfl) rfl rfl Kp.true (Y.move rfl rfl) ?_
 refine Jp.y 5 rfl (qaa rfl) rfl rfl Kp.true (Y.neq rfl rfl rfl) ?_
 refine Jp.y 2 rfl (qaa rfl) rfl rfl Kp.true (Y.assign rfl rfl) ?_
 refine Jp.qae hK2 ?_
 refine Cd.ret [] rfl (qbf rfl rfl) trivial ⟨rfl,by simp,rfl⟩
theorem qbw (x y : Nat) : Spec Tryz.prog 108 #[.int .u32 x,.int .u32 y] (fun _=>True) [] (fun ρ ρ' v L=>ρ' = ρ ∧ v = .bool (ltN x y) ∧ L = []):=by
 refine Spec.of 17 Tryz.func108 rfl Tryz.ntmps108 [(0,_),(1,_)] rfl rfl ?_
 intro cx ρ hr h0
 refine Cd.seq fun K3 hK3=>?_
 refine Cd.qac [(0,false)] rfl rfl ?_
 refine Jp.y 4 rfl (qaa rfl) rfl rfl Kp.true (Y.assign rfl rfl) ?_
 refine Jp.qae hK3 ?_
 refine Cd.seq fun K4 hK4=>?_
 refine Cd.qac [(0,false),(1,false),(2,false),(3,false),(4,false),(5,false),(6,false),(7,false),(8,false),(9,false),(10,false),(11,false),(12,false)] rfl rfl ?_
 refine Jp.y 5 rfl (qaa rfl) rfl rfl Kp.true (Y.move rfl rfl) ?_
 refine Jp.call [] [] (isNaN_spec x) 6 rfl (qaa rfl) rfl rfl (Runs.fn rfl call119 rfl) (by decide) (by decide) rfl trivial ?_
 rintro v1 ρ1 L1 ⟨rfl,rfl,rfl⟩
 refine ⟨rfl,fun hle1=>⟨Kp.true,?_⟩⟩
 refine Jp.y 7 rfl (qaa rfl) rfl rfl Kp.true (Y.move rfl rfl) ?_
 refine Jp.split 7 rfl (fun g7=>?_) (fun g7=>?_)
 ·skip
  cases g7
 try simp only [sG0] at g7
 refine Jp.qar 8 rfl (qab rfl rfl rfl rfl) rfl rfl Kp.true ?_
 refine Jp.qar 9 rfl (qab rfl rfl rfl rfl) rfl rfl Kp.true ?_
 refine Jp.qar 10 rfl (qab rfl rfl rfl rfl) rfl rfl Kp.true ?_
 refine Jp.y 11 rfl (qaa rfl) rfl rfl Kp.true (Y.qay rfl rfl rfl) ?_
 refine Jp.y 12 rfl (qaa rfl) rfl rfl Kp.true (Y.move rfl rfl) ?_
 refine Jp.y 13 rfl (qab rfl rfl rfl rfl) rfl rfl Kp.true (Y.move rfl rfl) ?_
 refine Jp.y 14 rfl (qab rfl rfl rfl rfl) rfl rfl Kp.true (Y.move rfl rfl) ?_
 refine Jp.y 15 rfl (qab rfl rfl rfl rfl) rfl rfl Kp.true (Y.lss rfl rfl rfl) ?_
 refine Jp.y 16 rfl (qaa rfl) rfl rfl Kp.true (Y.qay rfl rfl rfl) ?_
 refine Jp.y 4 rfl (qaa rfl) rfl rfl Kp.true (Y.assign rfl rfl) ?_
 refine Jp.qae hK4 ?_
 refine Cd.ret [] rfl (qbf rfl rfl) trivial ⟨rfl,congrArg Value.bool (decide_eq_decide.2 (by omega)),rfl⟩
theorem natsV_get (k : IntKind) {l : List Nat} {q x : Nat} (h : l[q]? = some x) : (qbd k l)[q]? = some (.int k x):=by rw [qbd,List.getElem?_map,h]; rfl
theorem qbc (k : IntKind) (l : List Nat) (q x : Nat) : (qbd k l).set q (.int k x) = qbd k (l.set q x):=by rw [qbd,qbd,List.map_set]
theorem swp_list (d : Array Nat) {i j : Nat} (hi : i < d.size) (hj : j < d.size) : (Go.Sort.swp d i j).toList = (d.toList.set i d[j]).set j d[i]:=by
 simp [Go.Sort.swp,hi,hj]
theorem qch (d : Array Nat) (i j : Nat) : (Go.Sort.swp d i j).size = d.size:=by simp [Go.Sort.swp]
def qdp (A : Option Addr) (n c : Nat) (d : Array Nat) : qba:=OwnS 24 1 A n c (qbd .u32 d.toList)
theorem insSort_spec (A : Option Addr) (n c : Nat) (d0 : Array Nat) (a e : Nat) (hd : d0.size = n) (hae : a ≤ e) (hen : e ≤ n) (hn : n ≤ 4096) : Spec Tryz.prog 102 #[.slice A n c,.int .i64 a,.int .i64 e] (fun _=>True) [(0,qdp A n c d0)]
  (fun ρ ρ' v L=>ρ' = ρ ∧ v = .tuple #[] ∧ L = [(0,qdp A n c (Go.Sort.insertionSort ltN d0 a e))]):=by
 refine Spec.of 49 Tryz.func102 rfl Tryz.ntmps102 [(0,_),(1,_),(2,_)] rfl rfl ?_
 intro cx ρ hr h0
 refine Cd.seq fun K5 hK5=>?_
 refine Cd.qac [(0,false),(1,false),(2,false)] rfl rfl ?_
 refine Jp.y 8 rfl (qaa rfl) rfl rfl Kp.true (Y.move rfl rfl) ?_
 refine Jp.y 9 rfl (qaa rfl) rfl rfl Kp.true (Y.qbq rfl rfl rfl (by exact qaf (by omega) (by omega))) ?_
 refine Jp.y 6 rfl (qaa rfl) rfl rfl Kp.true (Y.assign rfl rfl) ?_
 refine Jp.qae hK5 ?_
 refine Cd.block ?_
 refine Cd.qcr (G:=Nat × Array Nat) (fun g=>Go.Sort.insOuter ltN a e g.1 g.2 = Go.Sort.insertionSort ltN d0 a e ∧ a + 1 ≤ g.1 ∧ g.1 ≤ e + 1 ∧ g.2.size = n) (fun g=>e + 1 - g.1) (fun _=>_) (fun g=>[(6,.int .i64 g.1)]) [(0,_),(1,_),(2,_)] (fun g=>[(0,qdp A n c g.2)]) [] ⟨a + 1,d0⟩ ⟨rfl,Nat.le_refl _,(by show a + 1 ≤ e + 1; omega),hd⟩ rfl ⟨rfl,trivial⟩ ⟨rfl,rfl,rfl,trivial⟩ ⟨rfl,trivial⟩ trivial (fun g KLa hok hLa=>?_)
 obtain ⟨i,d⟩:=g
 obtain ⟨ok1,ok2,ok3,ok4⟩:=hok
 dsimp only at ok1 ok2 ok3 ok4 ⊢
 refine Cd.seq fun K6 hK6=>?_
 refine Cd.seq fun K7 hK7=>?_
 refine Cd.qac [(0,false),(1,false),(2,false)] rfl rfl ?_
 refine Jp.y 10 rfl (qaa rfl) rfl rfl Kp.true (Y.move rfl rfl) ?_
 refine Jp.y 11 rfl (qaa rfl) rfl rfl Kp.true (Y.move rfl rfl) ?_
 refine Jp.y 12 rfl (qaa rfl) rfl rfl Kp.true (Y.lss rfl rfl rfl) ?_
 refine Jp.qae hK7 ?_
 refine Cd.qaq rfl (fun ga=>?_) (fun ga=>?_)
 ·simp only [decide_eq_true_eq] at ga
  have hie : i < e:=by omega
  rw [Go.Sort.insOuter,if_pos hie] at ok1
  obtain ⟨d2,hd2⟩ : ∃ d2,d2 = Go.Sort.insInner ltN a i d:=⟨_,rfl⟩
  rw [← hd2] at ok1
  refine Cd.qbp hK6 ?_
  refine Cd.seq fun K8 hK8=>?_
  refine Cd.block ?_
  refine Cd.seq fun K9 hK9=>?_
  refine Cd.qac [(0,false),(1,false)] rfl rfl ?_
  refine Jp.y 15 rfl (qaa rfl) rfl rfl Kp.true (Y.move rfl rfl) ?_
  refine Jp.y 7 rfl (qaa rfl) rfl rfl Kp.true (Y.assign rfl rfl) ?_
  refine Jp.qae hK9 ?_
  refine Cd.block ?_
  refine Cd.qcr (G:=Nat × Array Nat) (fun g=>Go.Sort.insInner ltN a g.1 g.2 = d2 ∧ a ≤ g.1 ∧ g.1 ≤ i ∧ g.2.size = n) (fun g=>g.1) (fun _=>_) (fun g=>[(7,.int .i64 g.1)]) [(0,_),(1,_),(2,_),(6,_)] (fun g=>[(0,qdp A n c g.2)]) [] ⟨i,d⟩ ⟨hd2.symm,(by show a ≤ i; omega),Nat.le_refl _,ok4⟩ rfl ⟨rfl,trivial⟩ ⟨rfl,rfl,rfl,rfl,trivial⟩ ⟨rfl,trivial⟩ trivial (fun g KLb hok hLb=>?_)
  obtain ⟨j,dj⟩:=g
  obtain ⟨oj1,oj2,oj3,oj4⟩:=hok
  dsimp only at oj1 oj2 oj3 oj4 ⊢
  refine Cd.seq fun K10 hK10=>?_
  refine Cd.seq fun K11 hK11=>?_
  refine Cd.drawn [(0,_)] ⟨rfl,trivial⟩ [(0,true),(1,true),(2,true),(3,true),(4,true),(5,true),(6,true),(7,true),(8,true),(9,true),(10,true),(11,true),(12,true),(13,false),(14,true)] follows (by kernel_rfl) (fun hrl=>?_)
  refine Jp.q 16 rfl (qaa rfl) rfl rfl (Y.move rfl rfl) ?_
  refine Jp.q 17 rfl (qaa rfl) rfl rfl (Y.move rfl rfl) ?_
  refine Jp.q 18 rfl (qaa rfl) rfl rfl (Y.gtr rfl rfl rfl) ?_
  refine Jp.q 19 rfl (qaa rfl) rfl rfl (Y.move rfl rfl) ?_
  refine Jp.qel 19 rfl (fun g19=>?_) (fun g19=>?_)
  ·skip
   try simp only [sG0] at g19
   have e1 : Go.Sort.insInner ltN a j dj = dj:=by
    cases j with
    | zero=>rfl
    | succ j=>rw [Go.Sort.insInner,if_neg (by simp; omega)]
   rw [e1] at oj1
   subst oj1
   refine Jp.qbb 20 rfl (qab rfl rfl rfl rfl) rfl rfl ?_
   refine Jp.qbb 21 rfl (qab rfl rfl rfl rfl) rfl rfl ?_
   refine Jp.qbb 22 rfl (qab rfl rfl rfl rfl) rfl rfl ?_
   refine Jp.qbb 23 rfl (qab rfl rfl rfl rfl) rfl rfl ?_
   refine Jp.qbb 24 rfl (qab rfl rfl rfl rfl) rfl rfl ?_
   refine Jp.qbb 25 rfl (qab rfl rfl rfl rfl) rfl rfl ?_
   refine Jp.qbb 26 rfl (qab rfl rfl rfl rfl) rfl rfl ?_
   refine Jp.qbb 27 rfl (qab rfl rfl rfl rfl) rfl rfl ?_
   refine Jp.qbb 28 rfl (qab rfl rfl rfl rfl) rfl rfl ?_
   refine Jp.qar 29 rfl (qab rfl rfl rfl rfl) rfl rfl (Kp.st ⟨rfl,trivial⟩) ?_
   refine Jp.q 30 rfl (qaa rfl) rfl rfl (Y.qay rfl rfl rfl) ?_
   refine Jp.qae hK11 ?_
   refine Cd.qbs rfl ?_
   refine Cd.qen rfl hK8 ?_
   refine Cd.qac [(0,false),(1,false),(2,false)] rfl rfl ?_
   refine Jp.y 13 rfl (qaa rfl) rfl rfl Kp.true (Y.move rfl rfl) ?_
   refine Jp.y 14 rfl (qaa rfl) rfl rfl Kp.true (Y.qbq rfl rfl rfl (by exact qaf (by omega) (by omega))) ?_
   refine Jp.y 6 rfl (qaa rfl) rfl rfl Kp.true (Y.assign rfl rfl) ?_
   refine Jp.again hLa ⟨i + 1,dj⟩ ⟨ok1,by show a + 1 ≤ i + 1; omega,by show i + 1 ≤ e + 1; omega,oj4⟩ (by show e + 1 - (i + 1) < e + 1 - i; omega) rfl ⟨rfl,rfl,rfl,rfl,trivial⟩ ⟨rfl,trivial⟩
  try simp only [sG0] at g19
  refine Jp.q 20 rfl (qab rfl rfl rfl rfl) rfl rfl (Y.move rfl rfl) ?_
  obtain ⟨q,rfl⟩ : ∃ q,j = q + 1:=⟨j - 1,by omega⟩
  have hq1 : q + 1 < dj.size:=by omega
  have hq0 : q < dj.size:=by omega
  have v1 : dj.toList[q + 1]? = some dj[q + 1]:=by simp
  have v0 : dj.toList[q]? = some dj[q]:=by simp
  refine Jp.ownAt 0 rfl (show 0 < n by omega) ?_
  rintro b rfl
  have c1 : HasC (qdp (some ⟨b,0,none⟩) n c dj) _ _:=OwnS.hasC (natsV_get .u32 v1)
  have c0 : HasC (qdp (some ⟨b,0,none⟩) n c dj) _ _:=OwnS.hasC (natsV_get .u32 v0)
  have hin : Go.Sort.insInner ltN a (q + 1) dj = if (decide (q + 1 > a) && ltN dj[q + 1] dj[q]) = true then Go.Sort.insInner ltN a q (Go.Sort.swp dj (q + 1) q) else dj:=by
   rw [Go.Sort.insInner]
   simp [hq1,hq0]
  have hqa : decide (q + 1 > a) = true:=decide_eq_true (by omega)
  rw [hqa,Bool.true_and] at hin
  refine Jp.q 21 rfl (qab rfl rfl rfl rfl) rfl rfl (Y.move rfl rfl) ?_
  refine Jp.q 22 rfl (qab rfl rfl rfl rfl) rfl rfl (Y.qag (q:=q + 1) rfl rfl rfl underlying22 sizeOf24 (by omega) (by omega) (by omega)) ?_
  refine Jp.q 23 rfl (qab rfl rfl rfl rfl) rfl rfl (by exact Y.qas 0 rfl isAgg24 rfl rfl c1) ?_
  refine Jp.q 24 rfl (qab rfl rfl rfl rfl) rfl rfl (Y.move rfl rfl) ?_
  refine Jp.q 25 rfl (qab rfl rfl rfl rfl) rfl rfl (Y.move rfl rfl) ?_
  refine Jp.q 26 rfl (qab rfl rfl rfl rfl) rfl rfl (Y.qcp rfl rfl rfl (by exact qaf (by omega) (by omega))) ?_
  refine Jp.q 27 rfl (qab rfl rfl rfl rfl) rfl rfl (Y.qag (q:=q) rfl rfl rfl underlying22 sizeOf24 (by omega) (by omega) (by omega)) ?_
  refine Jp.q 28 rfl (qab rfl rfl rfl rfl) rfl rfl (by exact Y.qas 0 rfl isAgg24 rfl rfl c0) ?_
  refine Jp.call [] [] (qbw dj[q + 1] dj[q]) 29 rfl (qab rfl rfl rfl rfl) rfl rfl (Runs.fn rfl call108 rfl) (by decide) (by decide) rfl trivial ?_
  rintro v1 ρ1 L1 ⟨rfl,rfl,rfl⟩
  refine ⟨rfl,fun hle1=>⟨(Kp.st ⟨rfl,trivial⟩),?_⟩⟩
  refine Jp.q 30 rfl (qaa rfl) rfl rfl (Y.qav rfl rfl rfl) ?_
  refine Jp.qae hK11 ?_
  refine Cd.qaq rfl (fun gb=>?_) (fun gb=>?_)
  ·rw [gb,if_pos rfl] at hin
   refine Cd.qbp hK10 ?_
   refine Cd.seq fun K13 hK13=>?_
   refine Cd.block ?_
   refine Cd.qcl [(0,_)] ⟨rfl,trivial⟩ [(2,true),(3,true),(4,true)] [(0,true),(1,true),(5,true),(6,true),(7,true),(8,true),(9,true),(10,true),(11,true),(12,true),(13,true),(14,true)] 15 [(16,true),(17,false)] follows (by kernel_rfl) (fun hrl=>?_)
   refine Jp2.q 35 rfl (qaa rfl) rfl rfl (fun _=>(Y.move rfl rfl)) ?_
   refine Jp2.q 36 rfl (qaa rfl) rfl rfl (fun _=>(Y.move rfl rfl)) ?_
   refine Jp2.q 37 rfl (qaa rfl) rfl rfl (fun _=>(Y.qcp rfl rfl rfl (by exact qaf (by omega) (by omega)))) ?_
   refine Jp2.head ?_
   refine Jp.q 33 rfl (qaa rfl) rfl rfl (Y.move rfl rfl) ?_
   refine Jp.q 34 rfl (qaa rfl) rfl rfl (Y.move rfl rfl) ?_
   refine Jp.q 38 rfl (qaa rfl) rfl rfl (Y.move rfl rfl) ?_
   refine Jp.q 39 rfl (qaa rfl) rfl rfl (Y.move rfl rfl) ?_
   refine Jp.q 40 rfl (qaa rfl) rfl rfl (Y.qcp rfl rfl rfl (by exact qaf (by omega) (by omega))) ?_
   refine Jp.q 41 rfl (qaa rfl) rfl rfl (Y.qag (q:=q) rfl rfl rfl underlying22 sizeOf24 (by omega) (by omega) (by omega)) ?_
   refine Jp.q 42 rfl (qaa rfl) rfl rfl (by exact Y.qas 0 rfl isAgg24 rfl rfl c0) ?_
   refine Jp.q 43 rfl (qaa rfl) rfl rfl (Y.move rfl rfl) ?_
   refine Jp.q 44 rfl (qaa rfl) rfl rfl (Y.move rfl rfl) ?_
   refine Jp.q 45 rfl (qaa rfl) rfl rfl (Y.qag (q:=q + 1) rfl rfl rfl underlying22 sizeOf24 (by omega) (by omega) (by omega)) ?_
   refine Jp.q 46 rfl (qaa rfl) rfl rfl (by exact Y.qas 0 rfl isAgg24 rfl rfl c1) ?_
   refine Jp.q 47 rfl (qaa rfl) rfl rfl (Y.qag (q:=q + 1) rfl rfl rfl underlying22 sizeOf24 (by omega) (by omega) (by omega)) ?_
   refine Jp2.qct ?_
   refine Jp2.qeo ?_
   refine Jp.qbu 0 (q:=q + 1) rfl (qaa rfl) rfl rfl sizeOf24 rfl rfl rfl rfl rfl (by omega) (qbd .u32 (dj.toList.set (q + 1) dj[q])) (qbc _ _ _ _) Kp.true ?_
   refine Jp2.qct ?_
   refine Jp2.q 48 rfl (qaa rfl) rfl rfl (fun _=>(Y.qag (q:=q) rfl rfl rfl underlying22 sizeOf24 (by omega) (by omega) (by omega))) ?_
   refine Jp2.qeo ?_
   refine Jp.qbu 0 (q:=q) rfl (qaa rfl) rfl rfl sizeOf24 rfl rfl rfl rfl rfl (by omega) (qbd .u32 (Go.Sort.swp dj (q + 1) q).toList) (by rw [qbc,swp_list dj hq1 hq0]) Kp.true ?_
   refine Jp2.qct ?_
   refine Jp2.nil ?_
   refine Jp.over rfl hK13 ?_
   refine Cd.qac [(0,false),(1,false),(2,false)] rfl rfl ?_
   refine Jp.y 31 rfl (qaa rfl) rfl rfl Kp.true (Y.move rfl rfl) ?_
   refine Jp.y 32 rfl (qaa rfl) rfl rfl Kp.true (Y.qcp rfl rfl rfl (by exact qaf (by omega) (by omega))) ?_
   refine Jp.y 7 rfl (qaa rfl) rfl rfl Kp.true (Y.assign rfl rfl) ?_
   refine Jp.slot 7 rfl (congrArg (Value.int .i64) (show ((q + 1 : Nat) : Int) - 1 = (q : Int) by omega)) ?_
   refine Jp.again hLb ⟨q,Go.Sort.swp dj (q + 1) q⟩ ⟨by rw [← oj1,hin],by show a ≤ q; omega,by show q ≤ i; omega,by rw [qch]; exact oj4⟩ (by show q < q + 1; omega) rfl ⟨rfl,rfl,rfl,rfl,rfl,trivial⟩ ⟨rfl,trivial⟩
  ·rw [gb] at hin
   rw [if_neg (by simp)] at hin
   rw [hin] at oj1
   subst oj1
   refine Cd.qen rfl hK8 ?_
   refine Cd.qac [(0,false),(1,false),(2,false)] rfl rfl ?_
   refine Jp.y 13 rfl (qaa rfl) rfl rfl Kp.true (Y.move rfl rfl) ?_
   refine Jp.y 14 rfl (qaa rfl) rfl rfl Kp.true (Y.qbq rfl rfl rfl (by exact qaf (by omega) (by omega))) ?_
   refine Jp.y 6 rfl (qaa rfl) rfl rfl Kp.true (Y.assign rfl rfl) ?_
   refine Jp.again hLa ⟨i + 1,dj⟩ ⟨ok1,by show a + 1 ≤ i + 1; omega,by show i + 1 ≤ e + 1; omega,oj4⟩ (by show e + 1 - (i + 1) < e + 1 - i; omega) rfl ⟨rfl,rfl,rfl,rfl,trivial⟩ ⟨rfl,trivial⟩
 ·simp only [decide_eq_false_iff_not] at ga
  have : ¬ i < e:=by omega
  rw [Go.Sort.insOuter,if_neg this] at ok1
  subst ok1
  refine Cdx.end [(0,_)] rfl (res0 rfl) ⟨rfl,trivial⟩ ⟨rfl,rfl,rfl⟩
end Go.Proofs.YtnfkalpgidiafaaGreat

namespace Go.Proofs.YtnfkalpgidiafaaGreat
open _root_.Go.Proofs.Tryz
open Go
theorem Jp.tab {P : Program} {n : Nat} {cx : Cx} {ρ : Hp} {E : Env} {L : Own} {ops : Array Oper} {Q : Exit → Act → World → Prop} {S : World → Prop} {π : List (Nat × Bool)} (t : Nat) {s : ByteArray} {q : Nat} {h : q < s.size} (ht : look E t = some (.int .u8 ((s[q]'h).toNat : Int)))
  (hs : (str s).all (fun b=>decide (b.toNat ≤ 8)) = true) (hk : ∀ k : Nat,k ≤ 8 → Jp P ops Q S n cx π ρ ((t,.int .u8 k) :: E) L) : Jp P ops Q S n cx π ρ E L:=by
 have h1 : (s[q]'h).toNat ≤ 8:=by
  have := List.all_eq_true.1 hs (s[q]'h) (by
   have : s[q]'h = (str s)[q]'(by rw [← str_size]; exact h):=by simp [str]; rfl
   rw [this]; exact List.getElem_mem _)
  exact of_decide_eq_true this
 exact Jp.slot t ht rfl (hk _ h1)
theorem len64_spec (x : Nat) (hx : x ≤ 4096) : Spec Tryz.prog 112 #[.int .u64 x] (fun _=>True) [] (fun ρ ρ' v L=>ρ' = ρ ∧ (∃ k : Nat,k ≤ 64 ∧ v = .int .i64 k) ∧ L = []):=by
 refine Spec.of 25 Tryz.func112 rfl Tryz.ntmps112 [(0,_)] rfl rfl ?_
 intro cx ρ hr h0
 refine Cd.seq fun K1 hK1=>?_
 refine Cd.qac [(0,false)] rfl rfl ?_
 refine Jp.y 2 rfl (qaa rfl) rfl rfl Kp.true (Y.assign rfl rfl) ?_
 refine Jp.qae hK1 ?_
 refine Cd.seq fun K2 hK2=>?_
 refine Cd.seq fun K3 hK3=>?_
 refine Cd.qac [(0,false),(1,false)] rfl rfl ?_
 refine Jp.y 3 rfl (qaa rfl) rfl rfl Kp.true (Y.move rfl rfl) ?_
 refine Jp.y 4 rfl (qaa rfl) rfl rfl Kp.true (Y.geq rfl rfl rfl) ?_
 refine Jp.qae hK3 ?_
 refine Cd.qaq rfl (fun g4=>?_) (fun g4=>?_)
 ·skip
  exact absurd g4 (by simp; omega)
 try simp only [sG0] at g4
 refine Cd.qbp hK2 ?_
 refine Cd.seq fun K4 hK4=>?_
 refine Cd.seq fun K5 hK5=>?_
 refine Cd.qac [(0,false),(1,false)] rfl rfl ?_
 refine Jp.y 7 rfl (qaa rfl) rfl rfl Kp.true (Y.move rfl rfl) ?_
 refine Jp.y 8 rfl (qaa rfl) rfl rfl Kp.true (Y.geq rfl rfl rfl) ?_
 refine Jp.qae hK5 ?_
 refine Cd.qaq rfl (fun g8=>?_) (fun g8=>?_)
 ·skip
  exact absurd g8 (by simp; omega)
 try simp only [sG0] at g8
 refine Cd.qbp hK4 ?_
 refine Cd.seq fun K6 hK6=>?_
 refine Cd.seq fun K7 hK7=>?_
 refine Cd.qac [(0,false),(1,false)] rfl rfl ?_
 refine Jp.y 13 rfl (qaa rfl) rfl rfl Kp.true (Y.move rfl rfl) ?_
 refine Jp.y 14 rfl (qaa rfl) rfl rfl Kp.true (Y.geq rfl rfl rfl) ?_
 refine Jp.qae hK7 ?_
 refine Cd.qdo (G:=Nat × Nat) (fun g=>g.1 < 256 ∧ g.2 ≤ 8) (fun g=>[(0,.int .u64 g.1),(2,.int .i64 g.2)]) [] trivial (fun _=>[]) [] trivial hK6 (fun g hφ=>?_) (fun hj1=>?_)
 ·obtain ⟨y,k0⟩:=g
  obtain ⟨hy,hk0⟩:=hφ
  dsimp only at hy hk0 ⊢
  refine Cd.seq fun K8 hK8=>?_
  refine Cd.qac [(0,false),(1,false),(2,false),(3,false),(4,false),(5,false),(6,false)] rfl rfl ?_
  refine Jp.y 19 rfl (qaa rfl) rfl rfl Kp.true (Y.move rfl rfl) ?_
  refine Jp.y 20 rfl (qaa rfl) rfl rfl Kp.true (Y.move rfl rfl) ?_
  refine Jp.y 21 rfl (qaa rfl) rfl rfl Kp.true (Y.qaz rfl rfl underlying103 underlying5 (by exact wrap_u8 (by omega) (by omega))) ?_
  refine Jp.y 22 rfl (qaa rfl) rfl rfl Kp.true (Y.indexstr (q:=y) rfl underlying9 rfl rfl (by omega) (by show (y : Int) < ((256 : Nat) : Int); omega) (by omega)) ?_
  refine Jp.tab 22 rfl (by kernel_rfl) fun k hk=>?_
  refine Jp.y 23 rfl (qaa rfl) rfl rfl Kp.true (Y.qaz rfl rfl underlying5 underlying3 (by exact qaf (by omega) (by omega))) ?_
  refine Jp.y 24 rfl (qaa rfl) rfl rfl Kp.true (Y.qbq rfl rfl rfl (by exact qaf (by omega) (by omega))) ?_
  refine Jp.y 2 rfl (qaa rfl) rfl rfl Kp.true (Y.assign rfl rfl) ?_
  refine Jp.qae hK8 ?_
  refine Cd.ret [] rfl (qbf rfl rfl) trivial ⟨rfl,⟨k0 + k,by omega,by simp⟩,rfl⟩
 ·skip
  refine Cd.qaq rfl (fun ga=>?_) (fun ga=>?_)
  ·simp only [decide_eq_true_eq] at ga
   refine Cd.seq fun K9 hK9=>?_
   refine Cd.qac [(0,false),(1,false),(2,false)] rfl rfl ?_
   refine Jp.y 15 rfl (qaa rfl) rfl rfl Kp.true (Y.move rfl rfl) ?_
   refine Jp.y 16 rfl (qaa rfl) rfl rfl Kp.true (Y.shr rfl rfl rfl (by first | decide | omega)) ?_
   refine Jp.slot 16 rfl (show _ = Value.int .u64 ((x / 256 : Nat) : Int) by rw [Int.fdiv_eq_ediv_of_nonneg _ (by decide)]; exact congrArg (Value.int .u64) (show (x : Int) / 256 = ((x / 256 : Nat) : Int) by omega)) ?_
   refine Jp.y 0 rfl (qaa rfl) rfl rfl Kp.true (Y.assign rfl rfl) ?_
   refine Jp.qae hK9 ?_
   refine Cd.qac [(0,false),(1,false),(2,false)] rfl rfl ?_
   refine Jp.y 17 rfl (qaa rfl) rfl rfl Kp.true (Y.move rfl rfl) ?_
   refine Jp.y 18 rfl (qaa rfl) rfl rfl Kp.true (Y.qbq rfl rfl rfl (by exact qaf (by omega) (by omega))) ?_
   refine Jp.y 2 rfl (qaa rfl) rfl rfl Kp.true (Y.assign rfl rfl) ?_
   refine Jp.qae hK6 ?_
   exact Cd.qce (hj1 ⟨x / 256,8⟩ ⟨by show x / 256 < 256; omega,Nat.le_refl _⟩) ⟨rfl,rfl,trivial⟩ trivial
  ·simp only [decide_eq_false_iff_not] at ga
   refine Cd.qbp hK6 ?_
   exact Cd.qce (hj1 ⟨x,0⟩ ⟨by show x < 256; omega,Nat.zero_le _⟩) ⟨rfl,rfl,trivial⟩ trivial
theorem len_spec (x : Nat) (hx : x ≤ 4096) : Spec Tryz.prog 87 #[.int .u64 x] (fun _=>True) [] (fun ρ ρ' v L=>ρ' = ρ ∧ (∃ k : Nat,k ≤ 64 ∧ v = .int .i64 k) ∧ L = []):=by
 refine Spec.of 8 Tryz.func87 rfl Tryz.ntmps87 [(0,_)] rfl rfl ?_
 intro cx ρ hr h0
 refine Cd.seq fun K10 hK10=>?_
 refine Cd.qac [(0,false)] rfl rfl ?_
 refine Jp.y 2 rfl (qaa rfl) rfl rfl Kp.true (Y.assign rfl rfl) ?_
 refine Jp.qae hK10 ?_
 refine Cd.seq fun K11 hK11=>?_
 refine Cd.qbs rfl ?_
 refine Cd.qbp hK11 ?_
 refine Cd.seq fun K12 hK12=>?_
 refine Cd.qac [(0,false),(1,false),(2,false)] rfl rfl ?_
 refine Jp.y 6 rfl (qaa rfl) rfl rfl Kp.true (Y.move rfl rfl) ?_
 refine Jp.call [] [] (len64_spec x hx) 7 rfl (qaa rfl) rfl rfl (Runs.fn rfl call112 rfl) (by decide) (by decide) rfl trivial ?_
 rintro v1 ρ1 L1 ⟨rfl,⟨k,hk,rfl⟩,rfl⟩
 refine ⟨rfl,fun hle1=>⟨Kp.true,?_⟩⟩
 refine Jp.y 2 rfl (qaa rfl) rfl rfl Kp.true (Y.assign rfl rfl) ?_
 refine Jp.qae hK12 ?_
 refine Cd.ret [] rfl (qbf rfl rfl) trivial ⟨rfl,⟨k,hk,rfl⟩,rfl⟩
end Go.Proofs.YtnfkalpgidiafaaGreat
set_option linter.unusedVariables false
set_option linter.unusedSimpArgs false
set_option maxRecDepth 100000
namespace Go.Proofs.YtnfkalpgidiafaaGreat
open _root_.Go.Proofs.Tryz
open Go
theorem swoN : Go.Sort.SWO ltN:=⟨fun x=>by simp [ltN],fun x y z h1 h2=>by simp [ltN] at *; omega,fun x y z h1 h2=>by simp [ltN] at *; omega⟩
theorem sorted_le {r : Array Nat} (hs : Go.Sort.SortedIn ltN 0 r.size r) : r.toList.Pairwise (· ≤ ·):=by
 rw [List.pairwise_iff_getElem]
 intro i j hi hj hij
 have hj' : j < r.size:=by simpa using hj
 have:=hs i j (Nat.zero_le _) hij hj'
 have hi' : i < r.size:=by omega
 simp only [ltN,getElem!_pos r i hi',getElem!_pos r j hj',decide_eq_false_iff_not] at this
 simp; omega
theorem sorted_is {r : Array Nat} {s K : List Nat} (hp : r.toList.Perm s) (hs : Go.Sort.SortedIn ltN 0 r.size r) (hk : s.Perm K) (hK : K.Pairwise (· < ·)) : r.toList = K :=
 List.Perm.eq_of_pairwise (le:=(· ≤ ·)) (fun a b _ _ h1 h2=>by omega) (sorted_le hs) (hK.imp fun h=>Nat.le_of_lt h) (hp.trans hk)
theorem permIn_perm {d r : Array Nat} (h : Go.Sort.PermIn 0 d.size d r) : r.size = d.size ∧ r.toList.Perm d.toList:=by
 obtain ⟨h1,_,h3⟩:=h
 refine ⟨h1,?_⟩
 have e1 : (r.extract 0 d.size).toList = r.toList:=by rw [← h1]; simp
 have e2 : (d.extract 0 d.size).toList = d.toList:=by simp
 rw [e1,e2] at h3; exact h3
def SortsTo (n : Nat) : Prop:=∀ (A : Option Addr) (c : Nat) (d : Array Nat),d.size = n → Spec Tryz.prog 53 #[.slice A n c] (fun _=>True) [(0,qdp A n c d)]
  (fun ρ ρ' v L=>ρ' = ρ ∧ v = .tuple #[] ∧ ∃ r : Array Nat,r.toList.Perm d.toList ∧ Go.Sort.SortedIn ltN 0 r.size r ∧ L = [(0,qdp A n c r)])
theorem natsV_inj {s : List Value} (h : ∀ v ∈ s,∃ x : Nat,v = .int .u32 x) : ∃ l : List Nat,s = qbd .u32 l:=by
 induction s with
 | nil=>exact ⟨[],rfl⟩
 | cons v s ih =>
  obtain ⟨x,rfl⟩:=h v (by simp)
  obtain ⟨l,rfl⟩:=ih fun v hv=>h v (List.mem_cons_of_mem _ hv)
  exact ⟨x :: l,rfl⟩
theorem natsV_perm {l K : List Nat} (h : (qbd .u32 l).Perm (qbd .u32 K)) : l.Perm K:=by
 have h2:=h.map fun v=>match v with | .int _ x=>x.toNat | _=>0
 simpa [qbd,List.map_map,Function.comp_def] using h2
end Go.Proofs.YtnfkalpgidiafaaGreat
set_option linter.unusedVariables false
set_option linter.unusedSimpArgs false
set_option maxRecDepth 100000
namespace Go.Proofs.YtnfkalpgidiafaaGreat
open _root_.Go.Proofs.Tryz
open Go
end Go.Proofs.YtnfkalpgidiafaaGreat
set_option linter.unusedVariables false
set_option linter.unusedSimpArgs false
set_option maxRecDepth 100000
namespace Go.Proofs.YtnfkalpgidiafaaGreat
open _root_.Go.Proofs.Tryz
open Go
end Go.Proofs.YtnfkalpgidiafaaGreat

namespace Go.Proofs.YtnfkalpgidiafaaGreat
open _root_.Go.Proofs.Tryz
open Go
theorem shKeys1_spec {l : Nat} {J : List Value → qba} {ok : List Value → Prop} (hY : Yields Tryz.prog l J ok) (cb pb : Nat) (pm : qcs) (hok0 : ∀ s r,(s ++ r).Perm (keysV pm) → ok s) :
  Spec Tryz.prog 54 #[.func (.yield l) #[] #[],.pointer (some ⟨cb,0,none⟩)] (fun _=>True) [(0,Pt cb (.cells #[.map (some pb)] 65)),(1,qcx .u32 pb pm),(2,J [])]
  (fun ρ ρ' v L=>v = .tuple #[] ∧ ∃ s,s.Perm (keysV pm) ∧ L = [(0,Pt cb (.cells #[.map (some pb)] 65)),(1,qcx .u32 pb pm),(2,J s)]):=by
 refine Spec.of 14 Tryz.func54 rfl Tryz.ntmps54 [(0,_),(1,_)] rfl rfl ?_
 intro cx ρ hr h0
 refine Cd.seq fun K1 hK1=>?_
 refine Cd.qac [(0,false),(1,false)] rfl rfl ?_
 refine Jp.y 4 rfl (qaa rfl) rfl rfl Kp.true (Y.qaw 0 rfl isAgg65 rfl rfl rfl) ?_
 first | refine Jp.range 5 1 50 (by decide) rfl (qaa rfl) rfl rfl rfl rfl underlying65 rfl fun r1=>⟨Kp.true,?_⟩
 refine Jp.qae hK1 ?_
 refine Cd.block ?_
 refine Cd.qcr (G:=qcs × List Value × Option (Int × Value) × Hp) (fun g=>(g.2.1 ++ keysV g.1).Perm (keysV pm)) (fun g=>g.1.length) (fun g=>g.2.2.2) (fun g=>[]) [(0,_),(5,_)] (fun g=>[(1,RangeO .u32 pb r1 pm g.1 g.2.2.1),(2,J g.2.1)]) [(0,_)] ⟨pm,[],none,ρ⟩ (List.Perm.refl _) rfl trivial ⟨rfl,rfl,trivial⟩ ⟨rfl,rfl,trivial⟩ ⟨rfl,trivial⟩ (fun g KLa hok hLa=>?_)
 obtain ⟨left,s,cur,ρg⟩:=g
 dsimp only at hok ⊢
 refine Cd.seq fun K2 hK2=>?_
 refine Cd.qac [(0,false),(1,false)] rfl rfl ?_
 refine Jp.next 6 1 rfl (qaa rfl) rfl rfl (fun _=>rfl) rfl rfl (fun hn=>⟨Kp.true,?_⟩) (fun q y hq=>⟨Kp.true,?_⟩)
 ·skip
  refine Jp.y 7 rfl (qaa rfl) rfl rfl Kp.true (Y.extract rfl rfl rfl) ?_
  refine Jp.qae hK2 ?_
  refine Cd.seq fun K3 hK3=>?_
  refine Cd.qbs rfl ?_
  subst hn
  refine Cd.imp (i:=1) rfl RangeO.map ?_
  refine Cdx.end [(0,_),(1,_),(2,_)] rfl (res0 rfl) ⟨rfl,rfl,rfl,trivial⟩ ⟨rfl,s,by simpa [keysV] using hok,rfl⟩
 ·have hpe:=qew hq
  have hql:=(List.getElem?_eq_some_iff.1 hq).1
  have hel : (left.eraseIdx q).length < left.length:=by rw [List.length_eraseIdx]; split <;> omega
  have hp2 : (s ++ [Value.int .u32 y.1] ++ keysV (left.eraseIdx q)).Perm (keysV pm):=by
   rw [List.append_assoc]
   exact (List.Perm.append_left s ((hpe.map fun (z : Int × Value)=>Value.int .u32 z.1).symm)).trans hok
  refine Jp.y 7 rfl (qaa rfl) rfl rfl Kp.true (Y.extract rfl rfl rfl) ?_
  refine Jp.qae hK2 ?_
  refine Cd.seq fun K4 hK4=>?_
  refine Cd.qdd rfl ?_
  refine Cd.qbp hK4 ?_
  refine Cd.block ?_
  refine Cd.seq fun K5 hK5=>?_
  refine Cd.qac [(0,false),(1,false),(2,false)] rfl rfl ?_
  refine Jp.y 8 rfl (qaa rfl) rfl rfl Kp.true (by first | exact Y.entry 1 rfl rfl rfl) ?_
  refine Jp.y 9 rfl (qaa rfl) rfl rfl Kp.true (Y.extract rfl rfl rfl) ?_
  refine Jp.y 3 rfl (qaa rfl) rfl rfl Kp.true (Y.assign rfl rfl) ?_
  refine Jp.qae hK5 ?_
  refine Cd.seq fun K6 hK6=>?_
  refine Cd.yield 2 rfl rfl rfl rfl rfl rfl (by decide) rfl hY (hok0 _ _ hp2) (fun ρY hleY=>?_)
  refine Jp.qae hK6 ?_
  refine Cd.qbs rfl ?_
  refine CdQ.again rfl hLa ⟨left.eraseIdx q,s ++ [Value.int .u32 y.1],some y,ρY⟩ hp2 hel rfl ⟨rfl,rfl,trivial⟩ ⟨rfl,rfl,rfl,trivial⟩
end Go.Proofs.YtnfkalpgidiafaaGreat
