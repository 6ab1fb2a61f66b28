import Derived.Test.YthjelpbaljapiaaGreatZP3
import Derived.Test.YthjelpbaljapiaaGreatZP1
import Derived.Test.YthjelpbaljapiaaGreatZP2
set_option linter.unusedVariables false
set_option linter.unusedSimpArgs false
set_option maxRecDepth 100000
namespace Go.Proofs.YthjelpbaljapiaaGreat
open _root_.Go.Proofs.Tryz
open Go
def pgOk (M : MemG) (k : Nat) (need : Int) : Bool:=match qbc M.pages k with
 | some p=>may p.perm need
 | none=>false
def qff (a n : Nat) : Nat:=(a % 256 + n + 255) / 256
def allM (M : MemG) (a n : Nat) (need : Int) : Bool:=decide (n = 0) || (decide (a + n ≤ 4294967296) && (List.range (qff a n)).all fun j=>pgOk M (qan a + 256 * j) need)
theorem pgOk_some {M : MemG} {k : Nat} {need : Int} {p : Pg} (h : qbc M.pages k = some p) : pgOk M k need = may p.perm need:=by rw [pgOk,h]
theorem pgOk_none {M : MemG} {k : Nat} {need : Int} (h : qbc M.pages k = none) : pgOk M k need = false:=by rw [pgOk,h]
theorem allM_yes {M : MemG} {a n : Nat} {need : Int} (h : a + n ≤ 4294967296) (h2 : ∀ j,j < qff a n → pgOk M (qan a + 256 * j) need = true) : allM M a n need = true:=by
 simp only [allM,h,decide_true,Bool.true_and,Bool.or_eq_true]
 exact .inr (List.all_eq_true.2 fun j hj=>h2 j (List.mem_range.1 hj))
theorem allM_no {M : MemG} {a n j : Nat} {need : Int} (hn : n ≠ 0) (hj : j < qff a n) (h2 : pgOk M (qan a + 256 * j) need = false) : allM M a n need = false:=by
 simp only [allM,hn,decide_false,Bool.false_or,Bool.and_eq_false_iff]
 refine .inr (Bool.eq_false_iff.2 fun h=>?_)
 have:=List.all_eq_true.1 h j (List.mem_range.2 hj)
 rw [h2] at this; cases this
theorem allM_big {M : MemG} {a n : Nat} {need : Int} (hn : n ≠ 0) (h : 4294967296 < a + n) : allM M a n need = false:=by
 simp only [allM,hn,decide_false,Bool.false_or,Bool.and_eq_false_iff,decide_eq_false_iff_not]
 exact .inl (by omega)
theorem allM_page {M : MemG} {a n i : Nat} {need : Int} (h : allM M a n need = true) (hi : i < n) : a + n ≤ 4294967296 ∧ ∃ p,qbc M.pages (qan (a + i)) = some p ∧ may p.perm need = true:=by
 simp only [allM,Bool.or_eq_true,Bool.and_eq_true,decide_eq_true_eq] at h
 rcases h with h | ⟨h1,h2⟩
 ·omega
 refine ⟨h1,?_⟩
 have hb : qan (a + i) = qan a + 256 * ((a % 256 + i) / 256):=by unfold qan; omega
 have:=List.all_eq_true.1 h2 ((a % 256 + i) / 256) (List.mem_range.2 (by unfold qff; omega))
 rw [← hb,pgOk] at this
 split at this
 ·rename_i p hp; exact ⟨p,hp,this⟩
 ·cases this
theorem all_spec (b : Nat) (M : MemG) (x : MemX) (hf : MemF M x) (a n : Nat) (need : Int) (ha : a < 4294967296) (hn : n ≤ 65536) : Spec Tryz.prog 66 #[.pointer (some ⟨b,0,none⟩),.int .u32 a,.int .i64 n,.int .i64 need] (fun _=>True) [(0,Pt b (qcy M x)),(1,qdq .u32 x.pb x.pm),(2,Blks (qbq M x))]
  (fun ρ ρ' v L=>ρ' = ρ ∧ v = .bool (allM M a n need) ∧ L = [(0,Pt b (qcy M x)),(1,qdq .u32 x.pb x.pm),(2,Blks (qbq M x))]):=by
 refine Spec.of 51 Tryz.func66 rfl Tryz.ntmps66 [(0,_),(1,_),(2,_),(3,_)] rfl rfl ?_
 intro cx ρ hr h0
 refine Cd.seq fun K1 hK1=>?_
 refine Cd.qac [(0,false)] rfl rfl ?_
 refine Jp.y 8 rfl (qaa rfl) rfl rfl Kp.true (Y.assign rfl rfl) ?_
 refine Jp.qae hK1 ?_
 refine Cd.seq fun K2 hK2=>?_
 refine Cd.seq fun K3 hK3=>?_
 refine Cd.qac [(0,false),(1,false)] rfl rfl ?_
 refine Jp.y 12 rfl (qaa rfl) rfl rfl Kp.true (Y.move rfl rfl) ?_
 refine Jp.y 13 rfl (qaa rfl) rfl rfl Kp.true (Y.eql rfl rfl rfl) ?_
 refine Jp.qae hK3 ?_
 refine Cd.qal rfl (fun g13=>?_) (fun g13=>?_)
 ·skip
  try simp only [sG0] at g13
  refine Cd.seq fun K4 hK4=>?_
  refine Cd.qac [(0,false)] rfl rfl ?_
  refine Jp.y 8 rfl (qaa rfl) rfl rfl Kp.true (Y.assign rfl rfl) ?_
  refine Jp.qae hK4 ?_
  refine Cd.ret [(0,_),(1,_),(2,_)] rfl (qba rfl rfl) ⟨rfl,rfl,rfl,trivial⟩ ⟨rfl,congrArg Value.bool ?_,rfl⟩
  have : n = 0:=by omega
  subst this; rfl
 try simp only [sG0] at g13
 refine Cd.qbi hK2 ?_
 refine Cd.seq fun K5 hK5=>?_
 refine Cd.seq fun K6 hK6=>?_
 refine Cd.qac [(0,false),(1,false),(2,false),(3,false),(4,false),(5,false)] rfl rfl ?_
 refine Jp.y 14 rfl (qaa rfl) rfl rfl Kp.true (Y.move rfl rfl) ?_
 refine Jp.y 15 rfl (qaa rfl) rfl rfl Kp.true (Y.qap rfl rfl underlying24 underlying88 (by exact qay (by omega) (by omega))) ?_
 refine Jp.y 16 rfl (qaa rfl) rfl rfl Kp.true (Y.move rfl rfl) ?_
 refine Jp.y 17 rfl (qaa rfl) rfl rfl Kp.true (Y.qap rfl rfl underlying3 underlying88 (by exact qay (by omega) (by omega))) ?_
 refine Jp.y 18 rfl (qaa rfl) rfl rfl Kp.true (Y.qbx rfl rfl rfl (by exact qay (by omega) (by omega))) ?_
 refine Jp.y 19 rfl (qaa rfl) rfl rfl Kp.true (Y.gtr rfl rfl rfl) ?_
 refine Jp.qae hK6 ?_
 refine Cd.qal rfl (fun g19=>?_) (fun g19=>?_)
 ·skip
  try simp only [sG0] at g19
  refine Cd.seq fun K7 hK7=>?_
  refine Cd.qac [(0,false)] rfl rfl ?_
  refine Jp.y 8 rfl (qaa rfl) rfl rfl Kp.true (Y.assign rfl rfl) ?_
  refine Jp.qae hK7 ?_
  refine Cd.ret [(0,_),(1,_),(2,_)] rfl (qba rfl rfl) ⟨rfl,rfl,rfl,trivial⟩ ⟨rfl,congrArg Value.bool (allM_big (by omega) (by omega)).symm,rfl⟩
 try simp only [sG0] at g19
 refine Cd.qbi hK5 ?_
 refine Cd.seq fun K8 hK8=>?_
 refine Cd.qac [(0,false),(1,false),(2,false),(3,false),(4,false),(5,false),(6,false)] rfl rfl ?_
 refine Jp.y 20 rfl (qaa rfl) rfl rfl Kp.true (Y.move rfl rfl) ?_
 refine Jp.y 21 rfl (qaa rfl) rfl rfl Kp.true (Y.move rfl rfl) ?_
 refine Jp.y 22 rfl (qaa rfl) rfl rfl Kp.true (Y.qdo rfl rfl rfl (by exact qag (by omega) (by omega))) ?_
 refine Jp.y 23 rfl (qaa rfl) rfl rfl Kp.true (Y.qap rfl rfl underlying3 underlying24 (by exact qax (by omega) (by omega))) ?_
 refine Jp.y 24 rfl (qaa rfl) rfl rfl Kp.true (Y.qbx rfl rfl rfl (by exact qax (by omega) (by omega))) ?_
 refine Jp.slot 24 rfl (congrArg (Value.int .u32) (show (a : Int) + (n - 1) = ((a + n - 1 : Nat) : Int) by omega)) ?_
 refine Jp.call [] [] (qcv (a + n - 1) (by omega)) 25 rfl (qaa rfl) rfl rfl (Runs.fn rfl call40 rfl) (by decide) (by decide) rfl trivial ?_
 rintro v1 ρ1 L1 ⟨rfl,rfl,rfl⟩
 refine ⟨rfl,fun hle1=>⟨Kp.true,?_⟩⟩
 refine Jp.y 9 rfl (qaa rfl) rfl rfl Kp.true (Y.assign rfl rfl) ?_
 refine Jp.qae hK8 ?_
 refine Cd.seq fun K9 hK9=>?_
 refine Cd.qac [(0,false),(1,false),(2,false)] rfl rfl ?_
 refine Jp.y 26 rfl (qaa rfl) rfl rfl Kp.true (Y.move rfl rfl) ?_
 refine Jp.call [] [] (qcv a ha) 27 rfl (qaa rfl) rfl rfl (Runs.fn rfl call40 rfl) (by decide) (by decide) rfl trivial ?_
 rintro v2 ρ2 L2 ⟨rfl,rfl,rfl⟩
 refine ⟨rfl,fun hle2=>⟨Kp.true,?_⟩⟩
 refine Jp.y 10 rfl (qaa rfl) rfl rfl Kp.true (Y.assign rfl rfl) ?_
 refine Jp.qae hK9 ?_
 refine Cd.block ?_
 have hc1 : 1 ≤ qff a n:=by unfold qff; omega
 have hlast : qan (a + n - 1) = qan a + 256 * (qff a n - 1):=by unfold qan qff; omega
 have hb0 : qan a ≤ a:=by unfold qan; omega
 have hb1 : qan a + 256 * (qff a n - 1) < 4294967296:=by rw [← hlast]; unfold qan; omega
 rw [hlast]
 refine Cd.qdw (G:=Nat) (fun j=>j < qff a n ∧ ∀ i,i < j → pgOk M (qan a + 256 * i) need = true) (fun j=>qff a n - j) (fun _=>_) (fun j=>[(10,.int .u32 ((qan a + 256 * j : Nat) : Int))]) [(0,_),(3,_),(9,_)] (fun _=>[]) [(0,_),(1,_),(2,_)] 0 ⟨hc1,fun i h=>by omega⟩ rfl ⟨rfl,trivial⟩ ⟨rfl,rfl,rfl,trivial⟩ trivial ⟨rfl,rfl,rfl,trivial⟩ (fun g KLa hok hLa=>?_)
 obtain ⟨ok1,ok2⟩:=hok
 have hget:=hf.get (qan a + 256 * g)
 refine Cd.seq fun K10 hK10=>?_
 refine Cd.block ?_
 refine Cd.seq fun K11 hK11=>?_
 refine Cd.qac [(0,false),(1,false),(2,false),(3,false),(4,false),(5,false),(6,false)] rfl rfl ?_
 refine Jp.y 30 rfl (qaa rfl) rfl rfl Kp.true (Y.move rfl rfl) ?_
 refine Jp.y 31 rfl (qaa rfl) rfl rfl Kp.true (Y.qau rfl rfl) ?_
 refine Jp.y 32 rfl (qaa rfl) rfl rfl Kp.true (by exact Y.qad rfl rfl underlying87 rfl sizeOf84 (by decide) (show _ + 1 = _ from rfl)) ?_
 refine Jp.y 33 rfl (qaa rfl) rfl rfl Kp.true (Y.qaq 0 rfl isAgg84 rfl rfl rfl) ?_
 refine Jp.y 34 rfl (qaa rfl) rfl rfl Kp.true (Y.move rfl rfl) ?_
 refine Jp.y 35 rfl (qaa rfl) rfl rfl Kp.true (by first | exact Y.lookup 1 rfl rfl rfl underlying84 underlying24 zeroValue92 rfl) ?_
 refine Jp.y 11 rfl (qaa rfl) rfl rfl Kp.true (Y.assign rfl rfl) ?_
 refine Jp.qae hK11 ?_
 refine Cd.seq fun K12 hK12=>?_
 refine Cd.seq fun K13 hK13=>?_
 refine Cd.qac [(0,false),(1,false),(2,false),(3,false),(4,false),(5,false),(6,false),(7,false),(8,false),(9,false),(10,false),(11,false)] rfl rfl ?_
 rcases hg : qbc M.pages (qan a + 256 * g) with _ | p
 ·rw [hg] at hget
  refine Jp.slot 11 rfl (show _ = Value.pointer none by rw [hget]; rfl) ?_
  refine Jp.y 36 rfl (qaa rfl) rfl rfl Kp.true (Y.move rfl rfl) ?_
  refine Jp.y 37 rfl (qaa rfl) rfl rfl Kp.true (Y.qft rfl underlying92 rfl rfl) ?_
  refine Jp.y 38 rfl (qaa rfl) rfl rfl Kp.true (Y.move rfl rfl) ?_
  refine Jp.split 38 rfl (fun g38=>?_) (fun g38=>?_)
  ·skip
   try simp only [sG0] at g38
   skip
   refine Jp.qak 39 rfl (qab rfl rfl rfl rfl) rfl rfl Kp.true ?_
   refine Jp.qak 40 rfl (qab rfl rfl rfl rfl) rfl rfl Kp.true ?_
   refine Jp.qak 41 rfl (qab rfl rfl rfl rfl) rfl rfl Kp.true ?_
   refine Jp.qak 42 rfl (qab rfl rfl rfl rfl) rfl rfl Kp.true ?_
   refine Jp.qak 43 rfl (qab rfl rfl rfl rfl) rfl rfl Kp.true ?_
   refine Jp.qak 44 rfl (qab rfl rfl rfl rfl) rfl rfl Kp.true ?_
   refine Jp.qak 45 rfl (qab rfl rfl rfl rfl) rfl rfl Kp.true ?_
   refine Jp.qak 46 rfl (qab rfl rfl rfl rfl) rfl rfl Kp.true ?_
   refine Jp.y 47 rfl (qaa rfl) rfl rfl Kp.true (Y.qat rfl rfl rfl) ?_
   refine Jp.qae hK13 ?_
   refine Cd.qcw rfl ?_
   refine Cd.seq fun K14 hK14=>?_
   refine Cd.qac [(0,false)] rfl rfl ?_
   refine Jp.y 8 rfl (qaa rfl) rfl rfl Kp.true (Y.assign rfl rfl) ?_
   refine Jp.qae hK14 ?_
   refine Cd.ret [(0,_),(1,_),(2,_)] rfl (qba rfl rfl) ⟨rfl,rfl,rfl,trivial⟩ ⟨rfl,congrArg Value.bool ?_,rfl⟩
   exact (allM_no (M:=M) (a:=a) (n:=n) (by omega) ok1 (pgOk_none hg)).symm
  ·skip
   try simp only [sG0] at g38
   ((simp at g38; done))
 ·rw [hg] at hget
  refine Jp.slot 11 rfl (show _ = Value.pointer (some ⟨x.blk (qan a + 256 * g),0,none⟩) by rw [hget]; rfl) ?_
  have hpo:=hf.ok.page _ (qcf hg)
  have hcell:=Blks.cell (MemF.blk (x:=x) hg) (qct p hpo.len)
  refine Jp.y 36 rfl (qaa rfl) rfl rfl Kp.true (Y.move rfl rfl) ?_
  refine Jp.y 37 rfl (qaa rfl) rfl rfl Kp.true (Y.qft rfl underlying92 rfl rfl) ?_
  refine Jp.y 38 rfl (qaa rfl) rfl rfl Kp.true (Y.move rfl rfl) ?_
  refine Jp.split 38 rfl (fun g38=>?_) (fun g38=>?_)
  ·skip
   try simp only [sG0] at g38
   ((simp at g38; done))
  ·skip
   try simp only [sG0] at g38
   skip
   refine Jp.y 39 rfl (qab rfl rfl rfl rfl) rfl rfl Kp.true (Y.move rfl rfl) ?_
   refine Jp.y 40 rfl (qab rfl rfl rfl rfl) rfl rfl Kp.true (Y.qau rfl rfl) ?_
   refine Jp.y 41 rfl (qab rfl rfl rfl rfl) rfl rfl Kp.true (by exact Y.qad rfl rfl underlying94 rfl sizeOf3 (by decide) (show _ + 256 = _ from rfl)) ?_
   refine Jp.y 42 rfl (qab rfl rfl rfl rfl) rfl rfl Kp.true (by exact Y.qbs 2 rfl isAgg3 rfl rfl hcell) ?_
   refine Jp.y 43 rfl (qab rfl rfl rfl rfl) rfl rfl Kp.true (Y.move rfl rfl) ?_
   refine Jp.y 44 rfl (qab rfl rfl rfl rfl) rfl rfl Kp.true (Y.bits rfl rfl rfl rfl) ?_
   refine Jp.y 45 rfl (qab rfl rfl rfl rfl) rfl rfl Kp.true (Y.move rfl rfl) ?_
   refine Jp.y 46 rfl (qab rfl rfl rfl rfl) rfl rfl Kp.true (Y.neq rfl rfl rfl) ?_
   refine Jp.y 47 rfl (qaa rfl) rfl rfl Kp.true (Y.qao rfl rfl rfl) ?_
   refine Jp.qae hK13 ?_
   refine Cd.qal rfl (fun g47=>?_) (fun g47=>?_)
   ·skip
    try simp only [sG0] at g47
    skip
    refine Cd.seq fun K19 hK19=>?_
    refine Cd.qac [(0,false)] rfl rfl ?_
    refine Jp.y 8 rfl (qaa rfl) rfl rfl Kp.true (Y.assign rfl rfl) ?_
    refine Jp.qae hK19 ?_
    refine Cd.ret [(0,_),(1,_),(2,_)] rfl (qba rfl rfl) ⟨rfl,rfl,rfl,trivial⟩ ⟨rfl,congrArg Value.bool ?_,rfl⟩
    exact (allM_no (M:=M) (a:=a) (n:=n) (by omega) ok1 (by rw [pgOk_some hg]; simpa [may] using g47)).symm
   ·skip
    try simp only [sG0] at g47
    skip
    refine Cd.qbi hK12 ?_
    refine Cd.seq fun K20 hK20=>?_
    refine Cd.qac [(0,false),(1,false),(2,false)] rfl rfl ?_
    refine Jp.y 48 rfl (qaa rfl) rfl rfl Kp.true (Y.move rfl rfl) ?_
    refine Jp.y 49 rfl (qaa rfl) rfl rfl Kp.true (Y.move rfl rfl) ?_
    refine Jp.y 50 rfl (qaa rfl) rfl rfl Kp.true (Y.eql rfl rfl rfl) ?_
    refine Jp.qae hK20 ?_
    refine Cd.qal rfl (fun g50=>?_) (fun g50=>?_)
    ·skip
     try simp only [sG0] at g50
     skip
     refine Cd.seq fun K21 hK21=>?_
     refine Cd.qac [(0,false)] rfl rfl ?_
     refine Jp.y 8 rfl (qaa rfl) rfl rfl Kp.true (Y.assign rfl rfl) ?_
     refine Jp.qae hK21 ?_
     refine Cd.ret [(0,_),(1,_),(2,_)] rfl (qba rfl rfl) ⟨rfl,rfl,rfl,trivial⟩ ⟨rfl,congrArg Value.bool ?_,rfl⟩
     exact (allM_yes (M := M) (a := a) (n := n) (by omega) (fun i hi => by
      by_cases hij : i < g
      ·exact ok2 i hij
      ·have : i = g:=by omega
       subst this; rw [pgOk_some hg]; simpa [may] using g47)).symm
    ·skip
     try simp only [sG0] at g50
     skip
     refine Cd.over rfl hK10 ?_
     refine Cd.qac [(0,false),(1,false),(2,false)] rfl rfl ?_
     refine Jp.y 28 rfl (qaa rfl) rfl rfl Kp.true (Y.move rfl rfl) ?_
     refine Jp.y 29 rfl (qaa rfl) rfl rfl Kp.true (Y.qbx rfl rfl rfl (by exact qax (by omega) (by omega))) ?_
     refine Jp.y 10 rfl (qaa rfl) rfl rfl Kp.true (Y.assign rfl rfl) ?_
     have hyes : pgOk M (qan a + 256 * g) need = true:=by rw [pgOk_some hg]; simpa [may] using g47
     refine Jp.slot 10 rfl (congrArg (Value.int .u32) (show ((qan a + 256 * g : Nat) : Int) + 256 = ((qan a + 256 * (g + 1) : Nat) : Int) by omega)) ?_
     refine Jp.again hLa (g + 1) ⟨by omega,fun i hi=>?_⟩ (by omega) rfl ⟨rfl,rfl,rfl,rfl,trivial⟩ ⟨rfl,rfl,rfl,trivial⟩
     by_cases hij : i < g
     ·exact ok2 i hij
     ·have : i = g:=by omega
      subst this; exact hyes
def byteM (M : MemG) (a : Nat) : UInt8:=match qbc M.pages (qan a) with
 | some p=>p.b.getD (a % 256) 0
 | none=>0
def readL (M : MemG) (a n : Nat) : qbt:=(List.range n).map fun i=>byteM M (a + i)
def readM (M : MemG) (a : Nat) (n : Int) : qbt × Int:=if n < 0 ∨ 4096 < n then ([],1) else if allM M a n.toNat 1 = false then ([],8) else (readL M a n.toNat,0)
end Go.Proofs.YthjelpbaljapiaaGreat
set_option linter.unusedVariables false
set_option linter.unusedSimpArgs false
set_option maxRecDepth 100000
namespace Go.Proofs.YthjelpbaljapiaaGreat
open _root_.Go.Proofs.Tryz
open Go
def qew (l : List (Nat × Pg)) (at' : Nat) (x : UInt8) : List (Nat × Pg):=match qbc l (qan at') with
 | some p=>qcb l (qan at') ⟨p.b.set (at' % 256) x,p.perm⟩
 | none=>l
def wrM (M : MemG) (a : Nat) (l : qbt) : Nat → MemG
 | 0=>M
 | i + 1=>{ wrM M a l i with pages:=qew (wrM M a l i).pages (a + i) (l.getD i 0),gens:=if i = 0 ∨ (a + i) % 256 = 0 then bump (wrM M a l i).gens (qan (a + i)) else (wrM M a l i).gens }
def qde (M : MemG) (a : Nat) (l : qbt) (most need : Int) : Int × MemG:=if most < l.length then (1,M) else if allM M a l.length need = false then (8,M) else (0,wrM M a l l.length)
theorem getPg_setByte (l : List (Nat × Pg)) (at' : Nat) (x : UInt8) (k : Nat) : qbc (qew l at' x) k = if k = qan at' then (qbc l k).map fun p=>⟨p.b.set (at' % 256) x,p.perm⟩ else qbc l k:=by
 unfold qew
 split
 ·rename_i p hp
  rw [getPg_set]
  by_cases h : k = qan at'
  ·subst h; simp [hp]
  ·simp [h]
 ·rename_i hp
  by_cases h : k = qan at'
  ·subst h; simp [hp]
  ·simp [h]
theorem wrM_page {M : MemG} (a : Nat) (l : qbt) {k : Nat} {p : Pg} (h : qbc M.pages k = some p) (i : Nat) : ∃ q,qbc (wrM M a l i).pages k = some q ∧ q.perm = p.perm ∧ q.b.length = p.b.length:=by
 induction i with
 | zero=>exact ⟨p,h,rfl,rfl⟩
 | succ i ih =>
  obtain ⟨q,h1,h2,h3⟩:=ih
  show ∃ q,qbc (qew _ _ _) k = some q ∧ _
  rw [getPg_setByte,h1]
  by_cases hk : k = qan (a + i)
  ·rw [if_pos hk]; exact ⟨_,rfl,h2,by simpa using h3⟩
  ·rw [if_neg hk]; exact ⟨q,rfl,h2,h3⟩
theorem wrM_budget (M : MemG) (a : Nat) (l : qbt) (i : Nat) : (wrM M a l i).budget = M.budget:=by
 induction i with
 | zero=>rfl
 | succ i ih=>exact ih
theorem wrM_bump {M : MemG} {a i : Nat} {l : qbt} {q : Pg} {x : UInt8} (hx : l[i]? = some x) (hq : qbc (wrM M a l i).pages (qan (a + i)) = some q) (h : i = 0 ∨ (a + i) % 256 = 0) :
  wrM M a l (i + 1) = { wrM M a l i with pages:=qcb (wrM M a l i).pages (qan (a + i)) ⟨q.b.set ((a + i) % 256) x,q.perm⟩,gens:=bump (wrM M a l i).gens (qan (a + i)) }:=by
 rw [wrM,if_pos h,qew,hq,List.getD_eq_getElem?_getD,hx]; rfl
theorem wrM_still {M : MemG} {a i : Nat} {l : qbt} {q : Pg} {x : UInt8} (hx : l[i]? = some x) (hq : qbc (wrM M a l i).pages (qan (a + i)) = some q) (h : ¬ (i = 0 ∨ (a + i) % 256 = 0)) :
  wrM M a l (i + 1) = { wrM M a l i with pages:=qcb (wrM M a l i).pages (qan (a + i)) ⟨q.b.set ((a + i) % 256) x,q.perm⟩ }:=by
 rw [wrM,if_neg h,qew,hq,List.getD_eq_getElem?_getD,hx]; rfl
theorem pageCells_set (p : Pg) {j : Nat} (h : p.b.length = 256) (hj : j < 256) (x : UInt8) : (qcc p).toArray.setIfInBounds j (.int .u8 (x.toNat : Int)) = (qcc ⟨p.b.set j x,p.perm⟩).toArray:=by
 rw [List.setIfInBounds_toArray]
 congr 1
 rw [qcc,List.set_append_left _ _ (by rw [qbf,List.length_map]; omega),bytesV_set]; rfl
theorem RdB.cell {s : Sl UInt8} {ρ : Hp} (hr : RdB s ρ) {i : Nat} {x : UInt8} (h : s.xs[i]? = some x) : ∃ ad,s.A = some ad ∧ qek ρ (ad.add i) = some (.int .u8 (x.toNat : Int)) :=
 hr.2.2 i _ (by rw [qbf,List.getElem?_map,h]; rfl)
theorem write_spec (b : Nat) (M : MemG) (a : Nat) (s : Sl UInt8) (most need : Int) (ha : a < 4294967296) (hmost : most ≤ 65536) : Spec Tryz.prog 37 #[.pointer (some ⟨b,0,none⟩),.int .u32 a,s.v,.int .i64 most,.int .i64 need] (RdB s) [(0,qeg b M)]
  (fun ρ ρ' v L=>ρ' = ρ ∧ v = .int .i64 (qde M a s.xs most need).1 ∧ L = [(0,qeg b (qde M a s.xs most need).2)]):=by
 obtain ⟨A,c,xs⟩:=s
 dsimp only [Sl.v]
 refine Spec.of 67 Tryz.func37 rfl Tryz.ntmps37 [(0,_),(1,_),(2,_),(3,_),(4,_)] rfl rfl ?_
 intro cx ρ hr h0
 have lx : xs.length ≤ 281474976710656:=hr.2.1.2
 refine Cd.memOpen 0 1 2 3 (by decide) rfl fun x hf=>?_
 refine Cd.seq fun K1 hK1=>?_
 refine Cd.qac [(0,false)] rfl rfl ?_
 refine Jp.y 10 rfl (qaa rfl) rfl rfl Kp.true (Y.assign rfl rfl) ?_
 refine Jp.qae hK1 ?_
 refine Cd.seq fun K2 hK2=>?_
 refine Cd.block ?_
 refine Cd.seq fun K3 hK3=>?_
 refine Cd.qac [(0,false),(1,false),(2,false),(3,false),(4,false)] rfl rfl ?_
 refine Jp.y 15 rfl (qaa rfl) rfl rfl Kp.true (Y.move rfl rfl) ?_
 refine Jp.y 16 rfl (qaa rfl) rfl rfl Kp.true (Y.qcd rfl underlying23 rfl) ?_
 refine Jp.y 17 rfl (qaa rfl) rfl rfl Kp.true (Y.move rfl rfl) ?_
 refine Jp.y 18 rfl (qaa rfl) rfl rfl Kp.true (Y.gtr rfl rfl rfl) ?_
 refine Jp.y 14 rfl (qaa rfl) rfl rfl Kp.true (Y.assign rfl rfl) ?_
 refine Jp.qae hK3 ?_
 refine Cd.qal rfl (fun g14=>?_) (fun g14=>?_)
 ·skip
  try simp only [sG0] at g14
  refine Cd.seq fun K4 hK4=>?_
  refine Cd.qac [(0,false)] rfl rfl ?_
  refine Jp.y 10 rfl (qaa rfl) rfl rfl Kp.true (Y.assign rfl rfl) ?_
  refine Jp.qae hK4 ?_
  have hV : qde M a xs most need = (1,M):=by rw [qde,if_pos (by omega)]
  refine Cd.memClose 0 1 2 3 (by decide) hf rfl rfl rfl rfl ?_
  refine Cd.ret [(0,_)] rfl (qba rfl rfl) ⟨rfl,trivial⟩ ⟨rfl,by rw [hV],by rw [hV]⟩
 try simp only [sG0] at g14
 refine Cd.seq fun K5 hK5=>?_
 refine Cd.qac [(0,false),(1,false),(2,false),(3,false),(4,false),(5,false),(6,false),(7,false)] rfl rfl ?_
 refine Jp.y 20 rfl (qaa rfl) rfl rfl Kp.true (Y.move rfl rfl) ?_
 refine Jp.y 21 rfl (qaa rfl) rfl rfl Kp.true (Y.move rfl rfl) ?_
 refine Jp.y 22 rfl (qaa rfl) rfl rfl Kp.true (Y.move rfl rfl) ?_
 refine Jp.y 23 rfl (qaa rfl) rfl rfl Kp.true (Y.qcd rfl underlying23 rfl) ?_
 refine Jp.y 24 rfl (qaa rfl) rfl rfl Kp.true (Y.move rfl rfl) ?_
 refine Jp.call [0,1,3] [0,1,3] (all_spec b M x hf a xs.length need ha (by omega)) 25 rfl (qaa rfl) rfl rfl (Runs.fn rfl call66 rfl) (by decide) (by decide) rfl trivial ?_
 rintro v1 ρ1 L1 ⟨rfl,rfl,rfl⟩
 refine ⟨rfl,fun hle1=>⟨Kp.true,?_⟩⟩
 refine Jp.y 26 rfl (qaa rfl) rfl rfl Kp.true (Y.not rfl rfl) ?_
 refine Jp.y 19 rfl (qaa rfl) rfl rfl Kp.true (Y.assign rfl rfl) ?_
 refine Jp.qae hK5 ?_
 refine Cd.qal rfl (fun g19=>?_) (fun g19=>?_)
 ·skip
  try simp only [sG0] at g19
  refine Cd.seq fun K6 hK6=>?_
  refine Cd.qac [(0,false)] rfl rfl ?_
  refine Jp.y 10 rfl (qaa rfl) rfl rfl Kp.true (Y.assign rfl rfl) ?_
  refine Jp.qae hK6 ?_
  have hV : qde M a xs most need = (8,M):=by rw [qde,if_neg (by omega),if_pos g19]
  refine Cd.memClose 0 1 2 3 (by decide) hf rfl rfl rfl rfl ?_
  refine Cd.ret [(0,_)] rfl (qba rfl rfl) ⟨rfl,trivial⟩ ⟨rfl,by rw [hV],by rw [hV]⟩
 try simp only [sG0] at g19
 refine Cd.over rfl hK2 ?_
 refine Cd.seq fun K7 hK7=>?_
 refine Cd.seq fun K8 hK8=>?_
 refine Cd.qac [(0,false),(1,false),(2,false)] rfl rfl ?_
 refine Jp.y 27 rfl (qaa rfl) rfl rfl Kp.true (Y.move rfl rfl) ?_
 refine Jp.y 28 rfl (qaa rfl) rfl rfl Kp.true (Y.qcd rfl underlying23 rfl) ?_
 refine Jp.y 29 rfl (qaa rfl) rfl rfl Kp.true (Y.move rfl rfl) ?_
 refine Jp.qae hK8 ?_
 refine Cd.block ?_
 have hV : qde M a xs most need = (0,wrM M a xs xs.length):=by rw [qde,if_neg (by omega),if_neg (by rw [g19]; simp)]
 refine Cd.qdw (G:=Nat × MemX) (fun g=>g.1 ≤ xs.length ∧ MemF (wrM M a xs g.1) g.2 ∧ g.2.pb = x.pb ∧ g.2.gb = x.gb) (fun g=>xs.length - g.1) (fun _=>_) (fun g=>[(29,.int .i64 g.1)]) [(0,_),(1,_),(27,_),(28,_)] (fun g=>[(1,qdq .u32 x.pb g.2.pm),(2,qdq .u32 x.gb g.2.gm),(3,Blks (qbq (wrM M a xs g.1) g.2))]) [(0,_)] ⟨0,x⟩ ⟨Nat.zero_le _,hf,rfl,rfl⟩ rfl ⟨rfl,trivial⟩ ⟨rfl,rfl,rfl,rfl,trivial⟩ ⟨rfl,rfl,rfl,trivial⟩ ⟨rfl,trivial⟩ (fun g KLa hok hLa=>?_)
 obtain ⟨i,y⟩:=g
 obtain ⟨ok1,ok2,ok3,ok4⟩:=hok
 dsimp only at ok1 ok2 ok3 ok4 ⊢
 refine Cd.seq fun K9 hK9=>?_
 refine Cd.qac [(0,false)] rfl rfl ?_
 refine Jp.y 30 rfl (qaa rfl) rfl rfl Kp.true (Y.lss rfl rfl rfl) ?_
 refine Jp.qae hK9 ?_
 refine Cd.seq fun K10 hK10=>?_
 refine Cd.qal rfl (fun ga=>?_) (fun ga=>?_)
 ·simp only [decide_eq_true_eq] at ga
  have hi : i < xs.length:=by omega
  have hx : xs[i]? = some xs[i]:=by simp [hi]
  obtain ⟨hle,p,hg,hm⟩:=allM_page g19 hi
  obtain ⟨ad,hA,hc⟩:=RdB.cell hr hx
  dsimp only at hA
  subst hA
  have hpo:=hf.ok.page _ (qcf hg)
  obtain ⟨q,hq,hq1,hq2⟩:=wrM_page a xs hg i
  have hql : q.b.length = 256:=by rw [hq2]; exact hpo.len
  have hget:=ok2.get (qan (a + i))
  rw [hq] at hget
  have hj : (a + i) % 256 < 256:=Nat.mod_lt _ (by omega)
  have hf2 : MemF { wrM M a xs i with pages:=qcb (wrM M a xs i).pages (qan (a + i)) ⟨q.b.set ((a + i) % 256) xs[i],q.perm⟩ } y:=ok2.set hq (by simpa using hql) (by rw [hq1]; exact hpo.perm)
  refine Cd.qbi hK10 ?_
  refine Cd.seq fun K11 hK11=>?_
  refine Cd.block ?_
  refine Cd.seq fun K12 hK12=>?_
  refine Cd.qac [(0,false),(1,false),(2,false),(3,false),(4,false)] rfl rfl ?_
  refine Jp.y 31 rfl (qaa rfl) rfl rfl Kp.true (Y.move rfl rfl) ?_
  refine Jp.y 32 rfl (qaa rfl) rfl rfl Kp.true (Y.qar (q:=i) rfl rfl rfl underlying23 sizeOf5 (by omega) (by omega) (by omega)) ?_
  refine Jp.y 33 rfl (qaa rfl) rfl rfl Kp.true (by exact Y.loadR rfl isAgg5 rfl hc) ?_
  refine Jp.y 11 rfl (qaa rfl) rfl rfl Kp.true (Y.assign rfl rfl) ?_
  refine Jp.y 12 rfl (qaa rfl) rfl rfl Kp.true (Y.assign rfl rfl) ?_
  refine Jp.qae hK12 ?_
  refine Cd.seq fun K13 hK13=>?_
  refine Cd.qac [(0,false),(1,false),(2,false),(3,false),(4,false)] rfl rfl ?_
  refine Jp.y 34 rfl (qaa rfl) rfl rfl Kp.true (Y.move rfl rfl) ?_
  refine Jp.y 35 rfl (qaa rfl) rfl rfl Kp.true (Y.move rfl rfl) ?_
  refine Jp.y 36 rfl (qaa rfl) rfl rfl Kp.true (Y.qap rfl rfl underlying3 underlying24 (by exact qax (by omega) (by omega))) ?_
  refine Jp.y 37 rfl (qaa rfl) rfl rfl Kp.true (Y.qbx rfl rfl rfl (by exact qax (by omega) (by omega))) ?_
  refine Jp.slot 37 rfl (congrArg (Value.int .u32) (show (a : Int) + i = ((a + i : Nat) : Int) by omega)) ?_
  refine Jp.y 13 rfl (qaa rfl) rfl rfl Kp.true (Y.assign rfl rfl) ?_
  refine Jp.qae hK13 ?_
  refine Cd.seq fun K14 hK14=>?_
  refine Cd.drawn [(0,_),(1,_)] ⟨rfl,rfl,trivial⟩ [(0,true),(1,true),(2,true),(3,true),(4,true),(7,true),(8,true),(9,true),(5,false),(6,true),(10,true),(11,true),(12,true),(13,false)] follows (by kernel_rfl) (fun hrl=>?_)
  refine Jp.q 38 rfl (qaa rfl) rfl rfl (Y.move rfl rfl) ?_
  refine Jp.q 39 rfl (qaa rfl) rfl rfl (Y.qau rfl rfl) ?_
  refine Jp.q 40 rfl (qaa rfl) rfl rfl (by exact Y.qad rfl rfl underlying87 rfl sizeOf84 (by decide) (show _ + 1 = _ from rfl)) ?_
  refine Jp.q 41 rfl (qaa rfl) rfl rfl (by exact Y.qaq 0 rfl isAgg84 rfl rfl rfl) ?_
  refine Jp.q 42 rfl (qaa rfl) rfl rfl (Y.move rfl rfl) ?_
  refine Jp.q 45 rfl (qaa rfl) rfl rfl (Y.move rfl rfl) ?_
  refine Jp.q 46 rfl (qaa rfl) rfl rfl (by exact Y.remN rfl rfl rfl (by omega) (by omega)) ?_
  refine Jp.q 47 rfl (qaa rfl) rfl rfl (Y.move rfl rfl) ?_
  refine Jp.call [] [] (qcv (a + i) (by omega)) 43 rfl (qaa rfl) rfl rfl (Runs.fn rfl call40 rfl) (by decide) (by decide) rfl trivial ?_
  rintro v3 ρ3 L3 ⟨rfl,rfl,rfl⟩
  refine ⟨rfl,fun hle3=>⟨(Kp.st ⟨rfl,rfl,trivial⟩),?_⟩⟩
  refine Jp.q 44 rfl (qaa rfl) rfl rfl (by first | exact Y.lookup 1 rfl rfl rfl underlying84 underlying24 zeroValue92 rfl) ?_
  refine Jp.slot 44 rfl (show _ = Value.pointer (some ⟨y.blk (qan (a + i)),0,none⟩) by rw [hget]; rfl) ?_
  refine Jp.know (φ:=((qbq (wrM M a xs i) y).map (·.1)).Nodup) (A:=Blks (qbq (wrM M a xs i) y)) 3 rfl (fun _ h=>h.1) fun hnd=>?_
  refine Jp.q 48 rfl (qaa rfl) rfl rfl (Y.qau rfl rfl) ?_
  refine Jp.q 49 rfl (qaa rfl) rfl rfl (by exact Y.qad rfl rfl underlying94 rfl sizeOf62 (by decide) (show _ + 0 = _ from rfl)) ?_
  refine Jp.q 50 rfl (qaa rfl) rfl rfl (Y.qcg (q:=(a + i) % 256) rfl rfl rfl underlying62 sizeOf5 (by omega) (by omega) (by omega)) ?_
  refine Jp.qen 3 (Blks (qbq { wrM M a xs i with pages:=qcb (wrM M a xs i).pages (qan (a + i)) ⟨q.b.set ((a + i) % 256) xs[i],q.perm⟩ } y)) rfl (qaa rfl) rfl rfl sizeOf5 rfl rfl rfl rfl rfl (Blks.set (MemF.blk hq) (by simp [qcc,qbf,hql]; omega) (qam _) (by rw [pageCells_set q hql hj]; exact updB_blks hnd hq)) Kp.last ?_
  refine Jp.qae hK14 ?_
  refine Cd.seq fun K16 hK16=>?_
  refine Cd.qac [(0,false),(1,false),(2,false),(3,false),(4,false),(5,false),(6,false)] rfl rfl ?_
  refine Jp.y 51 rfl (qaa rfl) rfl rfl Kp.true (Y.move rfl rfl) ?_
  refine Jp.y 52 rfl (qaa rfl) rfl rfl Kp.true (Y.eql rfl rfl rfl) ?_
  refine Jp.y 53 rfl (qaa rfl) rfl rfl Kp.true (Y.move rfl rfl) ?_
  refine Jp.split 53 rfl (fun g53=>?_) (fun g53=>?_)
  ·skip
   try simp only [sG0] at g53
   refine Jp.qak 54 rfl (qab rfl rfl rfl rfl) rfl rfl Kp.true ?_
   refine Jp.qak 55 rfl (qab rfl rfl rfl rfl) rfl rfl Kp.true ?_
   refine Jp.qak 56 rfl (qab rfl rfl rfl rfl) rfl rfl Kp.true ?_
   refine Jp.y 57 rfl (qaa rfl) rfl rfl Kp.true (Y.qat rfl rfl rfl) ?_
   refine Jp.qae hK16 ?_
   refine Cd.qcw rfl ?_
   have hc : i = 0 ∨ (a + i) % 256 = 0:=by omega
   have e:=wrM_bump hx hq hc
   refine Cd.drawn [(0,_),(2,_)] ⟨rfl,rfl,trivial⟩ [(0,true),(1,true),(2,true),(3,true),(4,true),(5,false),(6,true),(7,true),(8,false)] follows (by kernel_rfl) (fun hrl=>?_)
   refine Jp.q 58 rfl (qaa rfl) rfl rfl (Y.move rfl rfl) ?_
   refine Jp.q 59 rfl (qaa rfl) rfl rfl (Y.qau rfl rfl) ?_
   refine Jp.q 60 rfl (qaa rfl) rfl rfl (by exact Y.qad rfl rfl underlying87 rfl sizeOf85 (by decide) (show _ + 2 = _ from rfl)) ?_
   refine Jp.q 61 rfl (qaa rfl) rfl rfl (by exact Y.qaq 0 rfl isAgg85 rfl rfl rfl) ?_
   refine Jp.q 62 rfl (qaa rfl) rfl rfl (Y.move rfl rfl) ?_
   refine Jp.call [] [] (qcv (a + i) (by omega)) 63 rfl (qaa rfl) rfl rfl (Runs.fn rfl call40 rfl) (by decide) (by decide) rfl trivial ?_
   rintro v101 ρ101 L101 ⟨rfl,rfl,rfl⟩
   refine ⟨rfl,fun hle101=>⟨(Kp.st ⟨rfl,rfl,trivial⟩),?_⟩⟩
   refine Jp.q 64 rfl (qaa rfl) rfl rfl (by first | exact Y.lookup 2 rfl rfl rfl underlying85 underlying24 zeroValue24 rfl) ?_
   refine Jp.slot 64 rfl ((ok2.gens _)) ?_
   refine Jp.q 65 rfl (qaa rfl) rfl rfl (Y.qbx rfl rfl rfl (qeu ((wrM M a xs i).gens (qan (a + i)) + 1))) ?_
   first | refine Jp.mapUpdate 2 rfl (qaa rfl) rfl rfl rfl rfl rfl underlying85 underlying24 rfl Kp.last ?_
   refine Jp.over rfl hK11 ?_
   refine Cd.qac [(0,false),(1,false)] rfl rfl ?_
   refine Jp.y 66 rfl (qaa rfl) rfl rfl Kp.true (Y.qbx rfl rfl rfl (by exact qag (by omega) (by omega))) ?_
   refine Jp.y 29 rfl (qaa rfl) rfl rfl Kp.true (Y.move rfl rfl) ?_
   refine Jp.imp (j:=3) rfl (fun h hh=>(show Blks (qbq (wrM M a xs (i + 1)) y) h by rw [e]; exact hh)) ?_
   refine Jp.again hLa ⟨i + 1,{ y with gm:=mset y.gm (qan (a + i)) (.int .u32 ((((wrM M a xs i).gens (qan (a + i)) + 1) % 4294967296 : Nat) : Int)) }⟩ ⟨hi,by rw [e]; exact hf2.bump (qan (a + i)),ok3,ok4⟩ (by show xs.length - (i + 1) < xs.length - i; omega) rfl ⟨rfl,rfl,rfl,rfl,rfl,trivial⟩ ⟨rfl,rfl,rfl,rfl,trivial⟩
  ·skip
   try simp only [sG0] at g53
   refine Jp.y 54 rfl (qab rfl rfl rfl rfl) rfl rfl Kp.true (Y.move rfl rfl) ?_
   refine Jp.y 55 rfl (qab rfl rfl rfl rfl) rfl rfl Kp.true (by exact Y.remN rfl rfl rfl (by omega) (by omega)) ?_
   refine Jp.y 56 rfl (qab rfl rfl rfl rfl) rfl rfl Kp.true (Y.eql rfl rfl rfl) ?_
   refine Jp.y 57 rfl (qaa rfl) rfl rfl Kp.true (Y.qao rfl rfl rfl) ?_
   refine Jp.qae hK16 ?_
   refine Cd.qal rfl (fun g57=>?_) (fun g57=>?_)
   ·skip
    try simp only [sG0] at g57
    have hc : i = 0 ∨ (a + i) % 256 = 0:=by omega
    have e:=wrM_bump hx hq hc
    refine Cd.drawn [(0,_),(2,_)] ⟨rfl,rfl,trivial⟩ [(0,true),(1,true),(2,true),(3,true),(4,true),(5,false),(6,true),(7,true),(8,false)] follows (by kernel_rfl) (fun hrl=>?_)
    refine Jp.q 58 rfl (qaa rfl) rfl rfl (Y.move rfl rfl) ?_
    refine Jp.q 59 rfl (qaa rfl) rfl rfl (Y.qau rfl rfl) ?_
    refine Jp.q 60 rfl (qaa rfl) rfl rfl (by exact Y.qad rfl rfl underlying87 rfl sizeOf85 (by decide) (show _ + 2 = _ from rfl)) ?_
    refine Jp.q 61 rfl (qaa rfl) rfl rfl (by exact Y.qaq 0 rfl isAgg85 rfl rfl rfl) ?_
    refine Jp.q 62 rfl (qaa rfl) rfl rfl (Y.move rfl rfl) ?_
    refine Jp.call [] [] (qcv (a + i) (by omega)) 63 rfl (qaa rfl) rfl rfl (Runs.fn rfl call40 rfl) (by decide) (by decide) rfl trivial ?_
    rintro v102 ρ102 L102 ⟨rfl,rfl,rfl⟩
    refine ⟨rfl,fun hle102=>⟨(Kp.st ⟨rfl,rfl,trivial⟩),?_⟩⟩
    refine Jp.q 64 rfl (qaa rfl) rfl rfl (by first | exact Y.lookup 2 rfl rfl rfl underlying85 underlying24 zeroValue24 rfl) ?_
    refine Jp.slot 64 rfl ((ok2.gens _)) ?_
    refine Jp.q 65 rfl (qaa rfl) rfl rfl (Y.qbx rfl rfl rfl (qeu ((wrM M a xs i).gens (qan (a + i)) + 1))) ?_
    first | refine Jp.mapUpdate 2 rfl (qaa rfl) rfl rfl rfl rfl rfl underlying85 underlying24 rfl Kp.last ?_
    refine Jp.over rfl hK11 ?_
    refine Cd.qac [(0,false),(1,false)] rfl rfl ?_
    refine Jp.y 66 rfl (qaa rfl) rfl rfl Kp.true (Y.qbx rfl rfl rfl (by exact qag (by omega) (by omega))) ?_
    refine Jp.y 29 rfl (qaa rfl) rfl rfl Kp.true (Y.move rfl rfl) ?_
    refine Jp.imp (j:=3) rfl (fun h hh=>(show Blks (qbq (wrM M a xs (i + 1)) y) h by rw [e]; exact hh)) ?_
    refine Jp.again hLa ⟨i + 1,{ y with gm:=mset y.gm (qan (a + i)) (.int .u32 ((((wrM M a xs i).gens (qan (a + i)) + 1) % 4294967296 : Nat) : Int)) }⟩ ⟨hi,by rw [e]; exact hf2.bump (qan (a + i)),ok3,ok4⟩ (by show xs.length - (i + 1) < xs.length - i; omega) rfl ⟨rfl,rfl,rfl,rfl,rfl,trivial⟩ ⟨rfl,rfl,rfl,rfl,trivial⟩
   ·skip
    try simp only [sG0] at g57
    refine Cd.over rfl hK11 ?_
    refine Cd.qac [(0,false),(1,false)] rfl rfl ?_
    refine Jp.y 66 rfl (qaa rfl) rfl rfl Kp.true (Y.qbx rfl rfl rfl (by exact qag (by omega) (by omega))) ?_
    refine Jp.y 29 rfl (qaa rfl) rfl rfl Kp.true (Y.move rfl rfl) ?_
    have hc : ¬ (i = 0 ∨ (a + i) % 256 = 0):=by omega
    have e:=wrM_still hx hq hc
    refine Jp.imp (j:=3) rfl (fun h hh=>(show Blks (qbq (wrM M a xs (i + 1)) y) h by rw [e]; exact hh)) ?_
    refine Jp.again hLa ⟨i + 1,y⟩ ⟨hi,by rw [e]; exact hf2,ok3,ok4⟩ (by show xs.length - (i + 1) < xs.length - i; omega) rfl ⟨rfl,rfl,rfl,rfl,rfl,trivial⟩ ⟨rfl,rfl,rfl,rfl,trivial⟩
 ·simp only [decide_eq_false_iff_not] at ga
  obtain rfl : i = xs.length:=by omega
  refine Cd.exit rfl hK7 ?_
  refine Cd.seq fun K19 hK19=>?_
  refine Cd.qac [(0,false)] rfl rfl ?_
  refine Jp.y 10 rfl (qaa rfl) rfl rfl Kp.true (Y.assign rfl rfl) ?_
  refine Jp.qae hK19 ?_
  have e : qcy (wrM M a xs xs.length) y = qcy M x:=by rw [qcy,qcy,ok3,ok4,wrM_budget]
  refine Cd.memClose (b:=b) (x:=y) 0 1 2 3 (by decide) ok2 (by rw [e]; rfl) (by rw [ok3]; rfl) (by rw [ok4]; rfl) rfl ?_
  refine Cd.ret [(0,_)] rfl (qba rfl rfl) ⟨rfl,trivial⟩ ⟨rfl,by rw [hV],by rw [hV]⟩
theorem Poke_spec (b : Nat) (M : MemG) (a : Nat) (s : Sl UInt8) (ha : a < 4294967296) : Spec Tryz.prog 17 #[.pointer (some ⟨b,0,none⟩),.int .u32 a,s.v] (RdB s) [(0,qeg b M)]
  (fun ρ ρ' v L=>ρ' = ρ ∧ v = .int .i64 (qde M a s.xs 65536 0).1 ∧ L = [(0,qeg b (qde M a s.xs 65536 0).2)]):=by
 refine Spec.of 11 Tryz.func17 rfl Tryz.ntmps17 [(0,_),(1,_),(2,_)] rfl rfl ?_
 intro cx ρ hr h0
 refine Cd.seq fun K20 hK20=>?_
 refine Cd.qac [(0,false)] rfl rfl ?_
 refine Jp.y 6 rfl (qaa rfl) rfl rfl Kp.true (Y.assign rfl rfl) ?_
 refine Jp.qae hK20 ?_
 refine Cd.seq fun K21 hK21=>?_
 refine Cd.qac [(0,false),(1,false),(2,false),(3,false),(4,false)] rfl rfl ?_
 refine Jp.y 7 rfl (qaa rfl) rfl rfl Kp.true (Y.move rfl rfl) ?_
 refine Jp.y 8 rfl (qaa rfl) rfl rfl Kp.true (Y.move rfl rfl) ?_
 refine Jp.y 9 rfl (qaa rfl) rfl rfl Kp.true (Y.move rfl rfl) ?_
 refine Jp.call [0] [0] (write_spec b M a s 65536 0 ha (by omega)) 10 rfl (qaa rfl) rfl rfl (Runs.fn rfl call37 rfl) (by decide) (by decide) rfl hr ?_
 rintro v1 ρ1 L1 ⟨rfl,rfl,rfl⟩
 refine ⟨rfl,fun hle1=>⟨Kp.true,?_⟩⟩
 refine Jp.y 6 rfl (qaa rfl) rfl rfl Kp.true (Y.assign rfl rfl) ?_
 refine Jp.qae hK21 ?_
 refine Cd.ret [(0,_)] rfl (qba rfl rfl) ⟨rfl,trivial⟩ ⟨rfl,rfl,rfl⟩
end Go.Proofs.YthjelpbaljapiaaGreat
set_option linter.unusedVariables false
set_option linter.unusedSimpArgs false
set_option maxRecDepth 100000
namespace Go.Proofs.YthjelpbaljapiaaGreat
open _root_.Go.Proofs.Tryz
open Go
def setPerm (l : List (Nat × Pg)) (k perm : Nat) : List (Nat × Pg):=match qbc l k with
 | some p=>qcb l k ⟨p.b,perm⟩
 | none=>l
def prot1 (perm : Nat) (M : MemG) (k : Nat) : MemG:={ M with pages:=setPerm M.pages k perm,gens:=bump M.gens k }
def protL (M : MemG) (perm : Nat) (l : List Nat) : MemG:=l.foldl (prot1 perm) M
def bumpS (M : MemG) (f : Nat → Bool) : Nat → Nat:=fun k=>if f k && (qbc M.pages k).isSome then (M.gens k + 1) % 4294967296 else M.gens k
def protectM (M : MemG) (a n : Nat) (perm : Int) : Int × MemG:=match qeb a n with
 | none=>(1,M)
 | some many=>if perm < 0 ∨ 7 < perm then (1,M) else if (qea M a many).length ≠ many then (4,M) else
  (0,{ M with pages:=M.pages.map fun y=>if inS a many y.1 then (y.1,⟨y.2.b,perm.toNat⟩) else y,gens:=bumpS M (inS a many) })
def del1 (M : MemG) (k : Nat) : MemG:={ M with pages:=M.pages.filter fun y=>y.1 != k,gens:=bump M.gens k }
def delL (M : MemG) (l : List Nat) : MemG:=l.foldl del1 M
def unmapM (M : MemG) (a n : Nat) : Int × MemG:=match qeb a n with
 | none=>(1,M)
 | some many=>(0,{ M with pages:=M.pages.filter fun y=>!inS a many y.1,gens:=bumpS M (inS a many) })
end Go.Proofs.YthjelpbaljapiaaGreat
set_option linter.unusedVariables false
set_option linter.unusedSimpArgs false
set_option maxRecDepth 100000
namespace Go.Proofs.YthjelpbaljapiaaGreat
open _root_.Go.Proofs.Tryz
open Go
theorem wrM_keys (M : MemG) (a : Nat) (l : qbt) (i : Nat) : (wrM M a l i).pages.map (·.1) = M.pages.map (·.1):=by
 induction i with
 | zero=>rfl
 | succ i ih =>
  rw [← ih]
  show (qew _ _ _).map (·.1) = _
  unfold qew
  split
  ·exact setPg_keys ..
  ·rfl
def permIn (M : MemG) (a many perm : Nat) : MemG:={ M with pages:=M.pages.map fun y=>if inS a many y.1 then (y.1,⟨y.2.b,perm⟩) else y,gens:=bumpS M (inS a many) }
def dropIn (M : MemG) (a many : Nat) : MemG:={ M with pages:=M.pages.filter fun y=>!inS a many y.1,gens:=bumpS M (inS a many) }
end Go.Proofs.YthjelpbaljapiaaGreat

namespace Go.Proofs.YthjelpbaljapiaaGreat
open _root_.Go.Proofs.Tryz
open Go
def qce (M : MemG) (i : InsP) (s : StP) : Nat × EvP :=
 if i.op = 1 then (u32 i.imm,noEv) else if i.op = 2 then (u32 ((s.pc : Int) + (u32 i.imm : Int)),noEv) else if i.op = 3 ∨ i.op = 4 then (u32 ((s.pc : Int) + 4),noEv) else
 if qdx i.op = true then (if (qbv M (addrP i s) (qbr i.op).1 1).2 = 0 then
  (if (qbr i.op).2 = true then extP (qbv M (addrP i s) (qbr i.op).1 1).1 (8 * (qbr i.op).1) else (qbv M (addrP i s) (qbr i.op).1 1).1,noEv)
  else (0, ⟨3, addrP i s, (qbv M (addrP i s) (qbr i.op).1 1).2⟩)) else
 (doP (kindA i.op) (regP s i.r1) (opdP i s),noEv)
theorem opdP_lt {i : InsP} {s : StP} (hs : StOk s) : opdP i s < 4294967296:=by
 unfold opdP
 split
 ·exact qdl _
 ·exact qez hs _
theorem qgb (op : Nat) : (qbr op).1 ≤ 4:=by
 unfold qbr
 repeat' split
 all_goals decide
theorem qdu (M : MemG) (a : Nat) (n : Nat) (hn : n ≤ 4) (need : Int) : (qbv M a n need).1 < 4294967296:=by
 unfold qbv
 split
 ·split
  ·rename_i p h1
   have h2:=leN_lt ((p.b.drop (a % 256)).take (n : Int).toNat)
   have h3 : ((p.b.drop (a % 256)).take (n : Int).toNat).length ≤ 4:=by rw [List.length_take]; omega
   exact Nat.lt_of_lt_of_le h2 (Nat.pow_le_pow_right (n:=256) (by omega) h3)
  ·exact Nat.zero_lt_succ _
 ·exact Nat.zero_lt_succ _
theorem value_spec (b : Nat) (M : MemG) (i : InsP) (s : StP) (hs : StOk s) (hi : InsOk i) : Spec Tryz.prog 56 #[.pointer (some ⟨b,0,none⟩),.agg i.cells.toArray,.agg s.cells.toArray] (fun _=>True) [(0,qeg b M)]
  (fun ρ ρ' v L=>ρ' = ρ ∧ v = .tuple #[.int .u32 ((qce M i s).1 : Int),.agg (qce M i s).2.cells.toArray] ∧ L = [(0,qeg b M)]):=by
 obtain ⟨V,hV⟩ : ∃ V,qce M i s = V:=⟨_,rfl⟩
 rw [hV]
 unfold qce at hV
 have hA:=qdy i s hs hi
 have hal:=addrP_lt i s
 have hO:=operand_spec i s hs hi
 have hol:=opdP_lt (i:=i) hs
 obtain ⟨od,hod⟩ : ∃ od,opdP i s = od:=⟨_,rfl⟩
 obtain ⟨ad,had⟩ : ∃ ad,addrP i s = ad:=⟨_,rfl⟩
 rw [had] at hA hV hal
 rw [hod] at hO hV hol
 obtain ⟨op,rd,r1,r2,imm⟩:=i
 dsimp only at hV
 have hR1:=qfj s r1 hs hi.r1
 have l1:=qez hs r1
 obtain ⟨x1,hx1⟩ : ∃ x,regP s r1 = x:=⟨_,rfl⟩
 rw [hx1] at hR1 hV l1
 have hL:=load_spec b M ad (qbr op).1 1 hal
 have hll : (qbv M ad (qbr op).1 1).1 < 4294967296:=qdu _ _ _ (qgb op) _
 have hSz:=size_spec op
 have hsz4:=qgb op
 obtain ⟨sz,hsz⟩ : ∃ x,qbr op = x:=⟨_,rfl⟩
 rw [hsz] at hL hV hll hSz hsz4
 obtain ⟨sz,sg⟩:=sz
 dsimp only at hL hV hll hSz hsz4
 obtain ⟨ld,hld⟩ : ∃ x,qbv M ad sz 1 = x:=⟨_,rfl⟩
 rw [hld] at hL hV hll
 obtain ⟨lv,lf⟩:=ld
 dsimp only at hL hV hll
 refine Spec.of 98 Tryz.func56 rfl Tryz.ntmps56 [(0,_),(1,_),(2,_)] rfl rfl ?_
 intro cx ρ hr' h0
 have hsl:=StP.len hs
 refine Cd.seq fun K1 hK1=>?_
 refine Cd.qac [(0,false),(1,false),(2,false),(3,false)] rfl rfl ?_
 refine Jp.box 4 4 rfl (qaa rfl) rfl rfl rfl rfl fun b4=>⟨Kp.true,?_⟩
 refine Jp.box 5 5 rfl (qaa rfl) rfl rfl rfl rfl fun b5=>⟨Kp.true,?_⟩
 refine Jp.y 6 rfl (qaa rfl) rfl rfl Kp.true (Y.assign rfl rfl) ?_
 refine Jp.alloc 7 7 rfl (qaa rfl) rfl rfl rfl zeroValue37 fun b7=>⟨Kp.true,?_⟩
 refine Jp.qae hK1 ?_
 refine Cd.seq fun K2 hK2=>?_
 refine Cd.seq fun K3 hK3=>?_
 refine Cd.qac [(0,false),(1,false),(2,false)] rfl rfl ?_
 refine Jp.y 17 rfl (qaa rfl) rfl rfl Kp.true (by exact Y.qad rfl rfl underlying34 rfl sizeOf3 (by decide) (show _ + 0 = _ from rfl)) ?_
 refine Jp.y 18 rfl (qaa rfl) rfl rfl Kp.true (by exact Y.qaq 4 rfl isAgg3 rfl rfl rfl) ?_
 refine Jp.y 8 rfl (qaa rfl) rfl rfl Kp.true (Y.assign rfl rfl) ?_
 refine Jp.qae hK3 ?_
 refine Cd.block ?_
 refine Cd.seq fun K4 hK4=>?_
 refine Cd.qac [(0,false),(1,false),(2,false)] rfl rfl ?_
 refine Jp.y 20 rfl (qaa rfl) rfl rfl Kp.true (Y.move rfl rfl) ?_
 refine Jp.y 21 rfl (qaa rfl) rfl rfl Kp.true (Y.eql rfl rfl rfl) ?_
 refine Jp.y 19 rfl (qaa rfl) rfl rfl Kp.true (Y.assign rfl rfl) ?_
 refine Jp.qae hK4 ?_
 refine Cd.qal rfl (fun ga=>?_) (fun ga=>?_)
 ·rw [if_pos (show op = 1 by simp at ga; omega)] at hV
  refine Cd.seq fun K5 hK5=>?_
  refine Cd.qac [(0,false),(1,false),(2,false),(3,false),(4,false),(5,false)] rfl rfl ?_
  refine Jp.y 22 rfl (qaa rfl) rfl rfl Kp.true (by exact Y.qad rfl rfl underlying34 rfl sizeOf21 (by decide) (show _ + 4 = _ from rfl)) ?_
  refine Jp.y 23 rfl (qaa rfl) rfl rfl Kp.true (by exact Y.qaq 4 rfl isAgg21 rfl rfl rfl) ?_
  refine Jp.y 24 rfl (qaa rfl) rfl rfl Kp.true (Y.qap rfl rfl underlying21 underlying24 (by rfl)) ?_
  refine Jp.y 25 rfl (qaa rfl) rfl rfl Kp.true (Y.struct [] [_,_,_] rfl rfl qav zeroValue37 rfl) ?_
  refine Jp.y 6 rfl (qaa rfl) rfl rfl Kp.true (Y.assign rfl rfl) ?_
  refine Jp.qaf 7 rfl (qaa rfl) rfl rfl sizeOf37 rfl rfl (by first | rfl | assumption) (by first | rfl | assumption) rfl (by first | rfl | assumption) (fun k _ _=>qam k) Kp.true ?_
  refine Jp.qae hK5 ?_
  refine Cd.ret [(0,_)] rfl (by exact resTC 7 rfl rfl rfl isAgg37 sizeOf37 rfl (by first | rfl | assumption)) ⟨rfl,trivial⟩ ⟨rfl,by rw [qbb imm,← hV]; rfl,rfl⟩
 ·rw [if_neg (show ¬ op = 1 by simp at ga; omega)] at hV
  refine Cd.seq fun K6 hK6=>?_
  refine Cd.qac [(0,false),(1,false),(2,false)] rfl rfl ?_
  refine Jp.y 27 rfl (qaa rfl) rfl rfl Kp.true (Y.move rfl rfl) ?_
  refine Jp.y 28 rfl (qaa rfl) rfl rfl Kp.true (Y.eql rfl rfl rfl) ?_
  refine Jp.y 26 rfl (qaa rfl) rfl rfl Kp.true (Y.assign rfl rfl) ?_
  refine Jp.qae hK6 ?_
  refine Cd.qal rfl (fun gb=>?_) (fun gb=>?_)
  ·rw [if_pos (show op = 2 by simp at gb; omega)] at hV
   refine Cd.seq fun K7 hK7=>?_
   refine Cd.qac [(0,false),(1,false),(2,false),(3,false),(4,false),(5,false),(6,false),(7,false),(8,false)] rfl rfl ?_
   refine Jp.y 29 rfl (qaa rfl) rfl rfl Kp.true (by exact Y.qad rfl rfl underlying27 rfl sizeOf24 (by decide) (show _ + 32 = _ from rfl)) ?_
   refine Jp.y 30 rfl (qaa rfl) rfl rfl Kp.true (by exact Y.qbs 5 rfl isAgg24 rfl rfl (HasC.pt (StP.cPc hs))) ?_
   refine Jp.y 31 rfl (qaa rfl) rfl rfl Kp.true (by exact Y.qad rfl rfl underlying34 rfl sizeOf21 (by decide) (show _ + 4 = _ from rfl)) ?_
   refine Jp.y 32 rfl (qaa rfl) rfl rfl Kp.true (by exact Y.qaq 4 rfl isAgg21 rfl rfl rfl) ?_
   refine Jp.y 33 rfl (qaa rfl) rfl rfl Kp.true (Y.qap rfl rfl underlying21 underlying24 (by rfl)) ?_
   refine Jp.y 34 rfl (qaa rfl) rfl rfl Kp.true (Y.qbx rfl rfl rfl (by rfl)) ?_
   refine Jp.y 35 rfl (qaa rfl) rfl rfl Kp.true (Y.struct [] [_,_,_] rfl rfl qav zeroValue37 rfl) ?_
   refine Jp.y 6 rfl (qaa rfl) rfl rfl Kp.true (Y.assign rfl rfl) ?_
   refine Jp.qaf 7 rfl (qaa rfl) rfl rfl sizeOf37 rfl rfl (by first | rfl | assumption) (by first | rfl | assumption) rfl (by first | rfl | assumption) (fun k _ _=>qam k) Kp.true ?_
   refine Jp.qae hK7 ?_
   refine Cd.ret [(0,_)] rfl (by exact resTC 7 rfl rfl rfl isAgg37 sizeOf37 rfl (by first | rfl | assumption)) ⟨rfl,trivial⟩ ⟨rfl,by rw [qbb imm,qbb,← hV]; rfl,rfl⟩
  ·rw [if_neg (show ¬ op = 2 by simp at gb; omega)] at hV
   refine Cd.seq fun K8 hK8=>?_
   refine Cd.qac [(0,false),(1,false),(2,false),(3,false),(4,false),(5,false),(6,false)] rfl rfl ?_
   refine Jp.y 37 rfl (qaa rfl) rfl rfl Kp.true (Y.move rfl rfl) ?_
   refine Jp.y 38 rfl (qaa rfl) rfl rfl Kp.true (Y.eql rfl rfl rfl) ?_
   refine Jp.y 39 rfl (qaa rfl) rfl rfl Kp.true (Y.move rfl rfl) ?_
   refine Jp.split 39 rfl (fun g39=>?_) (fun g39=>?_)
   ·skip
    rw [if_pos (show op = 3 ∨ op = 4 by simp at g39; omega)] at hV
    refine Jp.qak 40 rfl (qab rfl rfl rfl rfl) rfl rfl Kp.true ?_
    refine Jp.qak 41 rfl (qab rfl rfl rfl rfl) rfl rfl Kp.true ?_
    refine Jp.y 42 rfl (qaa rfl) rfl rfl Kp.true (Y.qat rfl rfl rfl) ?_
    refine Jp.y 36 rfl (qaa rfl) rfl rfl Kp.true (Y.assign rfl rfl) ?_
    refine Jp.qae hK8 ?_
    refine Cd.qcw rfl ?_
    refine Cd.seq fun K9 hK9=>?_
    refine Cd.qac [(0,false),(1,false),(2,false),(3,false),(4,false),(5,false)] rfl rfl ?_
    refine Jp.y 43 rfl (qaa rfl) rfl rfl Kp.true (by exact Y.qad rfl rfl underlying27 rfl sizeOf24 (by decide) (show _ + 32 = _ from rfl)) ?_
    refine Jp.y 44 rfl (qaa rfl) rfl rfl Kp.true (by exact Y.qbs 5 rfl isAgg24 rfl rfl (HasC.pt (StP.cPc hs))) ?_
    refine Jp.y 45 rfl (qaa rfl) rfl rfl Kp.true (Y.qbx rfl rfl rfl (by rfl)) ?_
    refine Jp.y 46 rfl (qaa rfl) rfl rfl Kp.true (Y.struct [] [_,_,_] rfl rfl qav zeroValue37 rfl) ?_
    refine Jp.y 6 rfl (qaa rfl) rfl rfl Kp.true (Y.assign rfl rfl) ?_
    refine Jp.qaf 7 rfl (qaa rfl) rfl rfl sizeOf37 rfl rfl (by first | rfl | assumption) (by first | rfl | assumption) rfl (by first | rfl | assumption) (fun k _ _=>qam k) Kp.true ?_
    refine Jp.qae hK9 ?_
    refine Cd.ret [(0,_)] rfl (by exact resTC 7 rfl rfl rfl isAgg37 sizeOf37 rfl (by first | rfl | assumption)) ⟨rfl,trivial⟩ ⟨rfl,by rw [qbb,← hV]; rfl,rfl⟩
   try simp only [sG0] at g39
   refine Jp.y 40 rfl (qab rfl rfl rfl rfl) rfl rfl Kp.true (Y.move rfl rfl) ?_
   refine Jp.y 41 rfl (qab rfl rfl rfl rfl) rfl rfl Kp.true (Y.eql rfl rfl rfl) ?_
   refine Jp.y 42 rfl (qaa rfl) rfl rfl Kp.true (Y.qao rfl rfl rfl) ?_
   refine Jp.y 36 rfl (qaa rfl) rfl rfl Kp.true (Y.assign rfl rfl) ?_
   refine Jp.qae hK8 ?_
   refine Cd.qal rfl (fun g36=>?_) (fun g36=>?_)
   ·skip
    rw [if_pos (show op = 3 ∨ op = 4 by simp at g36; omega)] at hV
    refine Cd.seq fun K10 hK10=>?_
    refine Cd.qac [(0,false),(1,false),(2,false),(3,false),(4,false),(5,false)] rfl rfl ?_
    refine Jp.y 43 rfl (qaa rfl) rfl rfl Kp.true (by exact Y.qad rfl rfl underlying27 rfl sizeOf24 (by decide) (show _ + 32 = _ from rfl)) ?_
    refine Jp.y 44 rfl (qaa rfl) rfl rfl Kp.true (by exact Y.qbs 5 rfl isAgg24 rfl rfl (HasC.pt (StP.cPc hs))) ?_
    refine Jp.y 45 rfl (qaa rfl) rfl rfl Kp.true (Y.qbx rfl rfl rfl (by rfl)) ?_
    refine Jp.y 46 rfl (qaa rfl) rfl rfl Kp.true (Y.struct [] [_,_,_] rfl rfl qav zeroValue37 rfl) ?_
    refine Jp.y 6 rfl (qaa rfl) rfl rfl Kp.true (Y.assign rfl rfl) ?_
    refine Jp.qaf 7 rfl (qaa rfl) rfl rfl sizeOf37 rfl rfl (by first | rfl | assumption) (by first | rfl | assumption) rfl (by first | rfl | assumption) (fun k _ _=>qam k) Kp.true ?_
    refine Jp.qae hK10 ?_
    refine Cd.ret [(0,_)] rfl (by exact resTC 7 rfl rfl rfl isAgg37 sizeOf37 rfl (by first | rfl | assumption)) ⟨rfl,trivial⟩ ⟨rfl,by rw [qbb,← hV]; rfl,rfl⟩
   try simp only [sG0] at g36
   refine Cd.seq fun K11 hK11=>?_
   refine Cd.qac [(0,false),(1,false),(2,false)] rfl rfl ?_
   (try dsimp only at g36)
   rw [if_neg (show ¬ (op = 3 ∨ op = 4) by omega)] at hV
   refine Jp.y 48 rfl (qaa rfl) rfl rfl Kp.true (Y.move rfl rfl) ?_
   refine Jp.call [] [] (loads_spec op) 49 rfl (qaa rfl) rfl rfl (Runs.fn rfl call79 rfl) (by decide) (by decide) rfl trivial ?_
   rintro v1 ρ1 L1 ⟨rfl,rfl,rfl⟩
   refine ⟨rfl,fun hle1=>⟨Kp.true,?_⟩⟩
   refine Jp.y 47 rfl (qaa rfl) rfl rfl Kp.true (Y.assign rfl rfl) ?_
   refine Jp.qae hK11 ?_
   refine Cd.qal rfl (fun gd=>?_) (fun gd=>?_)
   ·rw [if_pos gd] at hV
    refine Cd.seq fun K12 hK12=>?_
    refine Cd.qac [(0,false),(1,false),(2,false),(3,false),(4,false),(5,false),(6,false)] rfl rfl ?_
    refine Jp.y 51 rfl (qaa rfl) rfl rfl Kp.true (Y.move rfl rfl) ?_
    refine Jp.call [] [] hSz 52 rfl (qaa rfl) rfl rfl (Runs.fn rfl call53 rfl) (by decide) (by decide) rfl trivial ?_
    rintro v2 ρ2 L2 ⟨rfl,rfl,rfl⟩
    refine ⟨rfl,fun hle2=>⟨Kp.true,?_⟩⟩
    refine Jp.y 50 rfl (qaa rfl) rfl rfl Kp.true (Y.move rfl rfl) ?_
    refine Jp.y 53 rfl (qaa rfl) rfl rfl Kp.true (Y.extract rfl rfl rfl) ?_
    refine Jp.y 54 rfl (qaa rfl) rfl rfl Kp.true (Y.extract rfl rfl rfl) ?_
    refine Jp.y 9 rfl (qaa rfl) rfl rfl Kp.true (Y.assign rfl rfl) ?_
    refine Jp.y 10 rfl (qaa rfl) rfl rfl Kp.true (Y.assign rfl rfl) ?_
    refine Jp.qae hK12 ?_
    refine Cd.seq fun K13 hK13=>?_
    refine Cd.qac [(0,false),(1,false),(2,false),(3,false),(4,false),(5,false),(6,false),(7,false),(8,false),(9,false),(10,false)] rfl rfl ?_
    refine Jp.y 56 rfl (qaa rfl) rfl rfl Kp.true (Y.move rfl rfl) ?_
    refine Jp.y 57 rfl (qaa rfl) rfl rfl Kp.true (by exact Y.qai 4 rfl isAgg34 sizeOf34 rfl rfl (by first | rfl | assumption)) ?_
    refine Jp.y 58 rfl (qaa rfl) rfl rfl Kp.true (by exact Y.qai 5 rfl isAgg27 sizeOf27 rfl rfl (by first | rfl | assumption)) ?_
    refine Jp.call [] [] hA 59 rfl (qaa rfl) rfl rfl (Runs.fn rfl call9 rfl) (by decide) (by decide) rfl trivial ?_
    rintro v3 ρ3 L3 ⟨rfl,rfl,rfl⟩
    refine ⟨rfl,fun hle3=>⟨Kp.true,?_⟩⟩
    refine Jp.y 60 rfl (qaa rfl) rfl rfl Kp.true (Y.move rfl rfl) ?_
    refine Jp.call [0] [0] hL 61 rfl (qaa rfl) rfl rfl (Runs.fn rfl call20 rfl) (by decide) (by decide) rfl trivial ?_
    rintro v4 ρ4 L4 ⟨rfl,rfl,rfl⟩
    refine ⟨rfl,fun hle4=>⟨Kp.true,?_⟩⟩
    refine Jp.y 55 rfl (qaa rfl) rfl rfl Kp.true (Y.move rfl rfl) ?_
    refine Jp.y 62 rfl (qaa rfl) rfl rfl Kp.true (Y.extract rfl rfl rfl) ?_
    refine Jp.y 63 rfl (qaa rfl) rfl rfl Kp.true (Y.extract rfl rfl rfl) ?_
    refine Jp.y 11 rfl (qaa rfl) rfl rfl Kp.true (Y.assign rfl rfl) ?_
    refine Jp.y 12 rfl (qaa rfl) rfl rfl Kp.true (Y.assign rfl rfl) ?_
    refine Jp.qae hK13 ?_
    refine Cd.seq fun K14 hK14=>?_
    refine Cd.seq fun K15 hK15=>?_
    refine Cd.qac [(0,false),(1,false)] rfl rfl ?_
    refine Jp.y 64 rfl (qaa rfl) rfl rfl Kp.true (Y.move rfl rfl) ?_
    refine Jp.y 65 rfl (qaa rfl) rfl rfl Kp.true (Y.neq rfl rfl rfl) ?_
    refine Jp.qae hK15 ?_
    refine Cd.qal rfl (fun ge=>?_) (fun ge=>?_)
    ·have hf : ¬ lf = 0:=by simpa using ge
     rw [if_neg hf] at hV
     refine Cd.seq fun K16 hK16=>?_
     refine Cd.qac [(0,false),(1,false),(2,false),(3,false),(4,false),(5,false),(6,false)] rfl rfl ?_
     refine Jp.y 66 rfl (qaa rfl) rfl rfl Kp.true (by exact Y.qai 4 rfl isAgg34 sizeOf34 rfl rfl (by first | rfl | assumption)) ?_
     refine Jp.y 67 rfl (qaa rfl) rfl rfl Kp.true (by exact Y.qai 5 rfl isAgg27 sizeOf27 rfl rfl (by first | rfl | assumption)) ?_
     refine Jp.call [] [] hA 68 rfl (qaa rfl) rfl rfl (Runs.fn rfl call9 rfl) (by decide) (by decide) rfl trivial ?_
     rintro v5 ρ5 L5 ⟨rfl,rfl,rfl⟩
     refine ⟨rfl,fun hle5=>⟨Kp.true,?_⟩⟩
     refine Jp.y 69 rfl (qaa rfl) rfl rfl Kp.true (Y.move rfl rfl) ?_
     refine Jp.y 70 rfl (qaa rfl) rfl rfl Kp.true (Y.struct [(0,_),(1,_),(2,_)] [_,_,_] rfl rfl qav zeroValue37 rfl) ?_
     refine Jp.y 6 rfl (qaa rfl) rfl rfl Kp.true (Y.assign rfl rfl) ?_
     refine Jp.qaf 7 rfl (qaa rfl) rfl rfl sizeOf37 rfl rfl (by first | rfl | assumption) (by first | rfl | assumption) rfl (by first | rfl | assumption) (fun k _ _=>qam k) Kp.true ?_
     refine Jp.qae hK16 ?_
     refine Cd.ret [(0,_)] rfl (by exact resTC 7 rfl rfl rfl isAgg37 sizeOf37 rfl (by first | rfl | assumption)) ⟨rfl,trivial⟩ ⟨rfl,by rw [← hV]; rfl,rfl⟩
    ·have hf : lf = 0:=by simpa using ge
     rw [if_pos hf] at hV
     refine Cd.qbi hK14 ?_
     refine Cd.seq fun K17 hK17=>?_
     refine Cd.seq fun K18 hK18=>?_
     refine Cd.qac [(0,false)] rfl rfl ?_
     refine Jp.y 71 rfl (qaa rfl) rfl rfl Kp.true (Y.move rfl rfl) ?_
     refine Jp.qae hK18 ?_
     refine Cd.qal rfl (fun gf=>?_) (fun gf=>?_)
     ·rw [if_pos gf] at hV
      refine Cd.qac [(0,false),(1,false),(2,false),(3,false),(4,false)] rfl rfl ?_
      refine Jp.y 72 rfl (qaa rfl) rfl rfl Kp.true (Y.move rfl rfl) ?_
      refine Jp.y 73 rfl (qaa rfl) rfl rfl Kp.true (Y.move rfl rfl) ?_
      refine Jp.y 74 rfl (qaa rfl) rfl rfl Kp.true (Y.mul_ rfl rfl rfl (by exact qag (by omega) (by omega))) ?_
      refine Jp.slot 74 rfl (show _ = Value.int .i64 ((8 * sz : Nat) : Int) from congrArg (Value.int .i64) (by omega)) ?_
      refine Jp.call [] [] (extend_spec lv (8 * sz)) 75 rfl (qaa rfl) rfl rfl (Runs.fn rfl call80 rfl) (by decide) (by decide) rfl trivial ?_
      rintro v6 ρ6 L6 ⟨rfl,rfl,rfl⟩
      refine ⟨rfl,fun hle6=>⟨Kp.true,?_⟩⟩
      refine Jp.y 11 rfl (qaa rfl) rfl rfl Kp.true (Y.assign rfl rfl) ?_
      refine Jp.qae hK17 ?_
      refine Cd.seq fun K19 hK19=>?_
      refine Cd.qac [(0,false),(1,false),(2,false),(3,false)] rfl rfl ?_
      refine Jp.y 76 rfl (qaa rfl) rfl rfl Kp.true (Y.move rfl rfl) ?_
      refine Jp.y 77 rfl (qaa rfl) rfl rfl Kp.true (Y.struct [] [_,_,_] rfl rfl qav zeroValue37 rfl) ?_
      refine Jp.y 6 rfl (qaa rfl) rfl rfl Kp.true (Y.assign rfl rfl) ?_
      refine Jp.qaf 7 rfl (qaa rfl) rfl rfl sizeOf37 rfl rfl (by first | rfl | assumption) (by first | rfl | assumption) rfl (by first | rfl | assumption) (fun k _ _=>qam k) Kp.true ?_
      refine Jp.qae hK19 ?_
      refine Cd.ret [(0,_)] rfl (by exact resTC 7 rfl rfl rfl isAgg37 sizeOf37 rfl (by first | rfl | assumption)) ⟨rfl,trivial⟩ ⟨rfl,by rw [← hV]; rfl,rfl⟩
     ·rw [if_neg (by simp [gf])] at hV
      refine Cd.qbi hK17 ?_
      refine Cd.seq fun K20 hK20=>?_
      refine Cd.qac [(0,false),(1,false),(2,false),(3,false)] rfl rfl ?_
      refine Jp.y 76 rfl (qaa rfl) rfl rfl Kp.true (Y.move rfl rfl) ?_
      refine Jp.y 77 rfl (qaa rfl) rfl rfl Kp.true (Y.struct [] [_,_,_] rfl rfl qav zeroValue37 rfl) ?_
      refine Jp.y 6 rfl (qaa rfl) rfl rfl Kp.true (Y.assign rfl rfl) ?_
      refine Jp.qaf 7 rfl (qaa rfl) rfl rfl sizeOf37 rfl rfl (by first | rfl | assumption) (by first | rfl | assumption) rfl (by first | rfl | assumption) (fun k _ _=>qam k) Kp.true ?_
      refine Jp.qae hK20 ?_
      refine Cd.ret [(0,_)] rfl (by exact resTC 7 rfl rfl rfl isAgg37 sizeOf37 rfl (by first | rfl | assumption)) ⟨rfl,trivial⟩ ⟨rfl,by rw [← hV]; rfl,rfl⟩
   ·rw [if_neg (by simp [gd])] at hV
    refine Cd.over rfl hK2 ?_
    refine Cd.seq fun K21 hK21=>?_
    refine Cd.qac [(0,false),(1,false),(2,false),(3,false),(4,false),(5,false),(6,false),(7,false)] rfl rfl ?_
    refine Jp.y 79 rfl (qaa rfl) rfl rfl Kp.true (by exact Y.qad rfl rfl underlying34 rfl sizeOf3 (by decide) (show _ + 0 = _ from rfl)) ?_
    refine Jp.y 80 rfl (qaa rfl) rfl rfl Kp.true (by exact Y.qaq 4 rfl isAgg3 rfl rfl rfl) ?_
    refine Jp.call [] [] (kind_spec op) 81 rfl (qaa rfl) rfl rfl (Runs.fn rfl call81 rfl) (by decide) (by decide) rfl trivial ?_
    rintro v2 ρ2 L2 ⟨rfl,rfl,rfl⟩
    refine ⟨rfl,fun hle2=>⟨Kp.true,?_⟩⟩
    refine Jp.y 78 rfl (qaa rfl) rfl rfl Kp.true (Y.move rfl rfl) ?_
    refine Jp.y 82 rfl (qaa rfl) rfl rfl Kp.true (Y.extract rfl rfl rfl) ?_
    refine Jp.y 83 rfl (qaa rfl) rfl rfl Kp.true (Y.extract rfl rfl rfl) ?_
    refine Jp.y 13 rfl (qaa rfl) rfl rfl Kp.true (Y.assign rfl rfl) ?_
    refine Jp.y 14 rfl (qaa rfl) rfl rfl Kp.true (Y.assign rfl rfl) ?_
    refine Jp.qae hK21 ?_
    refine Cd.seq fun K22 hK22=>?_
    refine Cd.drawn [(4,_),(5,_)] ⟨rfl,rfl,trivial⟩ [(0,true),(1,true),(2,true),(3,true),(5,true),(6,true),(4,false),(7,false),(8,false),(9,true),(10,true),(11,true),(12,true),(13,true)] follows (by kernel_rfl) (fun hrl=>?_)
    refine Jp.q 85 rfl (qaa rfl) rfl rfl (Y.move rfl rfl) ?_
    refine Jp.q 86 rfl (qaa rfl) rfl rfl (by exact Y.qai 5 rfl isAgg27 sizeOf27 rfl rfl (by first | rfl | assumption)) ?_
    refine Jp.q 87 rfl (qaa rfl) rfl rfl (by exact Y.qad rfl rfl underlying34 rfl sizeOf3 (by decide) (show _ + 2 = _ from rfl)) ?_
    refine Jp.q 88 rfl (qaa rfl) rfl rfl (by exact Y.qaq 4 rfl isAgg3 rfl rfl rfl) ?_
    refine Jp.q 90 rfl (qaa rfl) rfl rfl (by exact Y.qai 4 rfl isAgg34 sizeOf34 rfl rfl (by first | rfl | assumption)) ?_
    refine Jp.q 91 rfl (qaa rfl) rfl rfl (by exact Y.qai 5 rfl isAgg27 sizeOf27 rfl rfl (by first | rfl | assumption)) ?_
    refine Jp.call [] [] hR1 89 rfl (qaa rfl) rfl rfl (Runs.fn rfl call24 rfl) (by decide) (by decide) rfl trivial ?_
    rintro v3 ρ3 L3 ⟨rfl,rfl,rfl⟩
    refine ⟨rfl,fun hle3=>⟨(Kp.st ⟨rfl,rfl,trivial⟩),?_⟩⟩
    refine Jp.call [] [] hO 92 rfl (qaa rfl) rfl rfl (Runs.fn rfl call83 rfl) (by decide) (by decide) rfl trivial ?_
    rintro v4 ρ4 L4 ⟨rfl,rfl,rfl⟩
    refine ⟨rfl,fun hle4=>⟨(Kp.st ⟨rfl,rfl,trivial⟩),?_⟩⟩
    refine Jp.call [] [] (do_spec (kindA op) x1 od (kindA_le op) l1 hol) 93 rfl (qaa rfl) rfl rfl (Runs.fn rfl call82 rfl) (by decide) (by decide) rfl trivial ?_
    rintro v5 ρ5 L5 ⟨rfl,rfl,rfl⟩
    refine ⟨rfl,fun hle5=>⟨(Kp.st ⟨rfl,rfl,trivial⟩),?_⟩⟩
    refine Jp.q 84 rfl (qaa rfl) rfl rfl (Y.move rfl rfl) ?_
    refine Jp.q 94 rfl (qaa rfl) rfl rfl (Y.extract rfl rfl rfl) ?_
    refine Jp.q 95 rfl (qaa rfl) rfl rfl (Y.extract rfl rfl rfl) ?_
    refine Jp.q 15 rfl (qaa rfl) rfl rfl (Y.assign rfl rfl) ?_
    refine Jp.q 16 rfl (qaa rfl) rfl rfl (Y.assign rfl rfl) ?_
    refine Jp.qae hK22 ?_
    refine Cd.seq fun K24 hK24=>?_
    refine Cd.qac [(0,false),(1,false),(2,false),(3,false)] rfl rfl ?_
    refine Jp.y 96 rfl (qaa rfl) rfl rfl Kp.true (Y.move rfl rfl) ?_
    refine Jp.y 97 rfl (qaa rfl) rfl rfl Kp.true (Y.struct [] [_,_,_] rfl rfl qav zeroValue37 rfl) ?_
    refine Jp.y 6 rfl (qaa rfl) rfl rfl Kp.true (Y.assign rfl rfl) ?_
    refine Jp.qaf 7 rfl (qaa rfl) rfl rfl sizeOf37 rfl rfl (by first | rfl | assumption) (by first | rfl | assumption) rfl (by first | rfl | assumption) (fun k _ _=>qam k) Kp.true ?_
    refine Jp.qae hK24 ?_
    refine Cd.ret [(0,_)] rfl (by exact resTC 7 rfl rfl rfl isAgg37 sizeOf37 rfl (by first | rfl | assumption)) ⟨rfl,trivial⟩ ⟨rfl,by rw [← hV]; rfl,rfl⟩
end Go.Proofs.YthjelpbaljapiaaGreat

namespace Go.Proofs.YthjelpbaljapiaaGreat
open _root_.Go.Proofs.Tryz
open Go
theorem natsV_setN (l : List Nat) (r v : Nat) : (qbp .u32 l).set r (.int .u32 (v : Int)) = qbp .u32 (l.set r v):=by simp [qbp,List.map_set]
theorem StP.setX {x : List Nat} {pc : Nat} {ret : Int} (hx : x.length = 32) {r : Nat} (hr : r < 32) (v : Nat) : (StP.cells ⟨x,pc,ret⟩).toArray.setIfInBounds r (.int .u32 (v : Int)) = (StP.cells ⟨x.set r v,pc,ret⟩).toArray:=by
 rw [List.setIfInBounds_toArray]
 unfold StP.cells
 rw [List.set_append_left _ _ (by simp [qbp,hx,hr]),natsV_setN]
theorem StP.setPc {x : List Nat} {pc : Nat} {ret : Int} (hx : x.length = 32) (v : Nat) : (StP.cells ⟨x,pc,ret⟩).toArray.setIfInBounds 32 (.int .u32 (v : Int)) = (StP.cells ⟨x,v,ret⟩).toArray:=by
 rw [List.setIfInBounds_toArray]
 unfold StP.cells
 rw [List.set_append_right _ _ (by simp [qbp,hx])]
 simp [qbp,hx]
theorem StP.setRet {x : List Nat} {pc : Nat} {ret : Int} (hx : x.length = 32) (v : Int) : (StP.cells ⟨x,pc,ret⟩).toArray.setIfInBounds 33 (.int .i64 v) = (StP.cells ⟨x,pc,v⟩).toArray:=by
 rw [List.setIfInBounds_toArray]
 unfold StP.cells
 rw [List.set_append_right _ _ (by simp [qbp,hx])]
 simp [qbp,hx]
theorem StP.size {x : List Nat} {pc : Nat} {ret : Int} (hx : x.length = 32) : (StP.cells ⟨x,pc,ret⟩).toArray.size = 34:=by simp [StP.cells,qbp,hx]
theorem SetC.st {b r : Nat} {x : List Nat} {pc : Nat} {ret : Int} (hx : x.length = 32) (hr : r < 32) (v : Nat) : SetC (Pt b (.cells (StP.cells ⟨x,pc,ret⟩).toArray 27)) (Pt b (.cells (StP.cells ⟨x.set r v,pc,ret⟩).toArray 27)) b r (.int .u32 (v : Int)) :=
 SetC.pt (by rw [StP.size hx]; omega) (qam _) (StP.setX hx hr v)
theorem SetC.stPc {b : Nat} {x : List Nat} {pc : Nat} {ret : Int} (hx : x.length = 32) (v : Nat) : SetC (Pt b (.cells (StP.cells ⟨x,pc,ret⟩).toArray 27)) (Pt b (.cells (StP.cells ⟨x,v,ret⟩).toArray 27)) b 32 (.int .u32 (v : Int)) :=
 SetC.pt (by rw [StP.size hx]; omega) (qam _) (StP.setPc hx v)
theorem SetC.stRet {b : Nat} {x : List Nat} {pc : Nat} {ret : Int} (hx : x.length = 32) (v : Int) : SetC (Pt b (.cells (StP.cells ⟨x,pc,ret⟩).toArray 27)) (Pt b (.cells (StP.cells ⟨x,pc,v⟩).toArray 27)) b 33 (.int .i64 v) :=
 SetC.pt (by rw [StP.size hx]; omega) (qam _) (StP.setRet hx v)
theorem HasC.stRet {b : Nat} {x : List Nat} {pc : Nat} {ret : Int} (hx : x.length = 32) : HasC (Pt b (.cells (StP.cells ⟨x,pc,ret⟩).toArray 27)) ⟨b,33,none⟩ (.int .i64 ret):=HasC.pt (by simp [StP.cells,qbp,List.getElem?_append,hx])
def qem (s : StP) (x : List Nat) (to : Nat) : StP:=⟨x.set 0 0,to,s.ret + 1⟩
def qbn (M : MemG) (i : InsP) (s : StP) : StP × EvP × MemG :=
 if i.op = 48 then (s,⟨5,s.pc,0⟩,M) else if i.op = 49 then (s,⟨6,s.pc,0⟩,M) else if ¬ goesP i s % 4 = 0 then (s,⟨7,goesP i s,0⟩,M) else
 if qfw i.op = true then (if (qca M (addrP i s) (qbr i.op).1 (regP s i.r2)).1 = 0 then (qem s s.x (goesP i s), noEv, (qca M (addrP i s) (qbr i.op).1 (regP s i.r2)).2)
  else (s, ⟨4, addrP i s, (qca M (addrP i s) (qbr i.op).1 (regP s i.r2)).1⟩, (qca M (addrP i s) (qbr i.op).1 (regP s i.r2)).2)) else
 if qdf i.op = true then (if (qce M i s).2.kind = 0 then (qem s (s.x.set i.rd (qce M i s).1) (goesP i s),noEv,M) else (s,(qce M i s).2,M)) else
 (qem s s.x (goesP i s),noEv,M)
theorem do_ins_spec (b : Nat) (M : MemG) (i : InsP) (s : StP) (hs : StOk s) (hi : InsOk i) : Spec Tryz.prog 26 #[.pointer (some ⟨b,0,none⟩),.agg i.cells.toArray,.agg s.cells.toArray] (fun _=>True) [(0,qeg b M)]
  (fun ρ ρ' v L=>ρ' = ρ ∧ v = .tuple #[.agg (qbn M i s).1.cells.toArray,.agg (qbn M i s).2.1.cells.toArray] ∧ L = [(0,qeg b (qbn M i s).2.2)]):=by
 obtain ⟨D,hD⟩ : ∃ D,qbn M i s = D:=⟨_,rfl⟩
 rw [hD]
 unfold qbn at hD
 have hG:=goes_spec i s hs hi
 have hA:=qdy i s hs hi
 have hal:=addrP_lt i s
 have hV:=value_spec b M i s hs hi
 have hgl : goesP i s < 4294967296:=by
  unfold goesP
  repeat' split
  all_goals first | exact qdl _ | exact Nat.lt_of_le_of_lt (Nat.sub_le ..) hal
 obtain ⟨to,hto⟩ : ∃ x,goesP i s = x:=⟨_,rfl⟩
 obtain ⟨ad,had⟩ : ∃ x,addrP i s = x:=⟨_,rfl⟩
 obtain ⟨va,hva⟩ : ∃ x,qce M i s = x:=⟨_,rfl⟩
 rw [hto] at hG hD hgl
 rw [had] at hA hal hD
 rw [hva] at hV hD
 obtain ⟨vv,ve⟩:=va
 obtain ⟨vk,vad,vw⟩:=ve
 obtain ⟨op,rd,r1,r2,imm⟩:=i
 dsimp only at hD hV
 have hrd : rd < 32:=hi.rd
 have hR2:=qfj s r2 hs hi.r2
 have l2:=qez hs r2
 obtain ⟨x2,hx2⟩ : ∃ x,regP s r2 = x:=⟨_,rfl⟩
 rw [hx2] at hR2 hD l2
 have hSz:=size_spec op
 obtain ⟨sz,hsz⟩ : ∃ x,qbr op = x:=⟨_,rfl⟩
 rw [hsz] at hSz hD
 obtain ⟨sz,sg⟩:=sz
 dsimp only at hSz hD
 have hSt:=store_spec b M ad sz x2 hal l2
 obtain ⟨sm,hsm⟩ : ∃ x,qca M ad sz x2 = x:=⟨_,rfl⟩
 rw [hsm] at hSt hD
 obtain ⟨sf,sM⟩:=sm
 dsimp only at hSt hD
 refine Spec.of 101 Tryz.func26 rfl Tryz.ntmps26 [(0,_),(1,_),(2,_)] rfl rfl ?_
 intro cx ρ hr' h0
 have hsl:=StP.len hs
 have hso:=StP.one s
 obtain ⟨sx,spc,sret⟩:=s
 have hx32 : sx.length = 32:=hs.len
 have hrt:=hs.ret
 dsimp only at hrt
 refine Cd.seq fun K1 hK1=>?_
 refine Cd.qac [(0,false),(1,false),(2,false),(3,false)] rfl rfl ?_
 refine Jp.box 4 4 rfl (qaa rfl) rfl rfl rfl rfl fun b4=>⟨Kp.true,?_⟩
 refine Jp.box 5 5 rfl (qaa rfl) rfl rfl rfl rfl fun b5=>⟨Kp.true,?_⟩
 refine Jp.alloc 6 6 rfl (qaa rfl) rfl rfl rfl zeroValue27 fun b6=>⟨Kp.true,?_⟩
 refine Jp.alloc 7 7 rfl (qaa rfl) rfl rfl rfl zeroValue37 fun b7=>⟨Kp.true,?_⟩
 refine Jp.qae hK1 ?_
 refine Cd.seq fun K2 hK2=>?_
 refine Cd.qac [(0,false),(1,false),(2,false),(3,false)] rfl rfl ?_
 refine Jp.y 15 rfl (qaa rfl) rfl rfl Kp.true (by exact Y.qai 4 rfl isAgg34 sizeOf34 rfl rfl (by first | rfl | assumption)) ?_
 refine Jp.y 16 rfl (qaa rfl) rfl rfl Kp.true (by exact Y.qai 5 rfl isAgg27 sizeOf27 rfl rfl (by first | rfl | assumption)) ?_
 refine Jp.call [] [] hG 17 rfl (qaa rfl) rfl rfl (Runs.fn rfl call51 rfl) (by decide) (by decide) rfl trivial ?_
 rintro v1 ρ1 L1 ⟨rfl,rfl,rfl⟩
 refine ⟨rfl,fun hle1=>⟨Kp.true,?_⟩⟩
 refine Jp.y 8 rfl (qaa rfl) rfl rfl Kp.true (Y.assign rfl rfl) ?_
 refine Jp.qae hK2 ?_
 refine Cd.seq fun K3 hK3=>?_
 refine Cd.qac [(0,false),(1,false),(2,false)] rfl rfl ?_
 refine Jp.y 18 rfl (qaa rfl) rfl rfl Kp.true (by exact Y.qai 5 rfl isAgg27 sizeOf27 rfl rfl (by first | rfl | assumption)) ?_
 refine Jp.alloc 9 9 rfl (qaa rfl) rfl rfl rfl zeroValue27 fun b9=>⟨Kp.true,?_⟩
 refine Jp.qaf 9 rfl (qaa rfl) rfl rfl sizeOf27 rfl rfl (by first | rfl | assumption) (by first | rfl | assumption) rfl (by first | rfl | assumption) (fun k _ _=>qam k) Kp.true ?_
 refine Jp.qae hK3 ?_
 refine Cd.seq fun K4 hK4=>?_
 refine Cd.block ?_
 refine Cd.seq fun K5 hK5=>?_
 refine Cd.qac [(0,false),(1,false),(2,false),(3,false)] rfl rfl ?_
 refine Jp.y 20 rfl (qaa rfl) rfl rfl Kp.true (by exact Y.qad rfl rfl underlying34 rfl sizeOf3 (by decide) (show _ + 0 = _ from rfl)) ?_
 refine Jp.y 21 rfl (qaa rfl) rfl rfl Kp.true (by exact Y.qaq 4 rfl isAgg3 rfl rfl rfl) ?_
 refine Jp.y 22 rfl (qaa rfl) rfl rfl Kp.true (Y.eql rfl rfl rfl) ?_
 refine Jp.y 19 rfl (qaa rfl) rfl rfl Kp.true (Y.assign rfl rfl) ?_
 refine Jp.qae hK5 ?_
 refine Cd.joinG (G:=List Nat × MemG) (fun g=>g.1.length = 32 ∧ D = (qem ⟨sx,spc,sret⟩ g.1 to,noEv,g.2)) (fun g=>[]) [(6,_),(7,_),(8,_),(9,_)] ⟨rfl,rfl,rfl,rfl,trivial⟩ (fun g=>[(9,Pt b9 (.cells (StP.cells ⟨g.1,spc,sret⟩).toArray 27)),(0,qeg b g.2)]) [(6,_),(7,_)] ⟨rfl,rfl,trivial⟩ hK4 (fun g hφ=>?_) (fun hj1=>?_)
 ·obtain ⟨x,M'⟩:=g
  obtain ⟨hxl,hDe⟩:=hφ
  dsimp only at hxl hDe ⊢
  refine Cd.seq fun K6 hK6=>?_
  refine Cd.qac [(0,false),(1,false),(2,false)] rfl rfl ?_
  refine Jp.y 91 rfl (qaa rfl) rfl rfl Kp.true (by exact Y.qad rfl rfl underlying27 rfl sizeOf25 (by decide) (show _ + 0 = _ from rfl)) ?_
  refine Jp.y 92 rfl (qaa rfl) rfl rfl Kp.true (Y.qcg rfl rfl rfl underlying25 sizeOf24 (by first | decide | omega) (by first | decide | omega) rfl) ?_
  refine Jp.qen 9 (Pt b9 (.cells (StP.cells ⟨x.set 0 0,spc,sret⟩).toArray 27)) rfl (qaa rfl) rfl rfl sizeOf24 rfl rfl rfl rfl rfl (SetC.st hxl (by omega) 0) Kp.true ?_
  have hxl2 : (x.set 0 0).length = 32:=by rw [List.length_set]; exact hxl
  refine Jp.qae hK6 ?_
  refine Cd.seq fun K7 hK7=>?_
  refine Cd.qac [(0,false),(1,false),(2,false)] rfl rfl ?_
  refine Jp.y 93 rfl (qaa rfl) rfl rfl Kp.true (Y.move rfl rfl) ?_
  refine Jp.y 94 rfl (qaa rfl) rfl rfl Kp.true (by exact Y.qad rfl rfl underlying27 rfl sizeOf24 (by decide) (show _ + 32 = _ from rfl)) ?_
  refine Jp.qen 9 (Pt b9 (.cells (StP.cells ⟨x.set 0 0,to,sret⟩).toArray 27)) rfl (qaa rfl) rfl rfl sizeOf24 rfl rfl rfl rfl rfl (SetC.stPc hxl2 to) Kp.true ?_
  refine Jp.qae hK7 ?_
  refine Cd.seq fun K8 hK8=>?_
  refine Cd.qac [(0,false),(1,false),(2,false),(3,false),(4,false)] rfl rfl ?_
  refine Jp.y 95 rfl (qaa rfl) rfl rfl Kp.true (by exact Y.qad rfl rfl underlying27 rfl sizeOf2 (by decide) (show _ + 33 = _ from rfl)) ?_
  refine Jp.y 96 rfl (qaa rfl) rfl rfl Kp.true (by exact Y.qbs 9 rfl isAgg2 rfl rfl (HasC.stRet hxl2)) ?_
  refine Jp.y 97 rfl (qaa rfl) rfl rfl Kp.true (Y.qbx rfl rfl rfl (by exact qag (by omega) (by omega))) ?_
  refine Jp.y 98 rfl (qaa rfl) rfl rfl Kp.true (by exact Y.qad rfl rfl underlying27 rfl sizeOf2 (by decide) (show _ + 33 = _ from rfl)) ?_
  refine Jp.qen 9 (Pt b9 (.cells (StP.cells ⟨x.set 0 0,to,sret + 1⟩).toArray 27)) rfl (qaa rfl) rfl rfl sizeOf2 rfl rfl rfl rfl rfl (SetC.stRet hxl2 _) Kp.true ?_
  have hol : (StP.cells ⟨x.set 0 0,to,sret + 1⟩).length = 34:=by simp [StP.cells,qbp,hxl]
  have hoo:=StP.one ⟨x.set 0 0,to,sret + 1⟩
  refine Jp.qae hK8 ?_
  refine Cd.seq fun K9 hK9=>?_
  refine Cd.qac [(0,false),(1,false),(2,false),(3,false)] rfl rfl ?_
  refine Jp.y 99 rfl (qaa rfl) rfl rfl Kp.true (by exact Y.qai 9 rfl isAgg27 sizeOf27 rfl rfl (by first | rfl | assumption)) ?_
  refine Jp.y 100 rfl (qaa rfl) rfl rfl Kp.true (Y.struct [] [_,_,_] rfl rfl qav zeroValue37 rfl) ?_
  refine Jp.qaf 6 rfl (qaa rfl) rfl rfl sizeOf27 rfl rfl (by first | rfl | assumption) (by first | rfl | assumption) rfl (by first | rfl | assumption) (fun k _ _=>qam k) Kp.true ?_
  refine Jp.qaf 7 rfl (qaa rfl) rfl rfl sizeOf37 rfl rfl (by first | rfl | assumption) (by first | rfl | assumption) rfl (by first | rfl | assumption) (fun k _ _=>qam k) Kp.true ?_
  refine Jp.qae hK9 ?_
  refine Cd.ret [(0,_)] rfl (by exact qck 6 7 rfl rfl rfl isAgg27 sizeOf27 isAgg37 sizeOf37 rfl (by first | rfl | assumption) rfl (by first | rfl | assumption)) ⟨rfl,trivial⟩ ⟨rfl,by rw [hDe]; rfl,by rw [hDe]⟩
 ·skip
  refine Cd.qal rfl (fun ga=>?_) (fun ga=>?_)
  ·rw [if_pos (show op = 48 by simp at ga; omega)] at hD
   refine Cd.seq fun K10 hK10=>?_
   refine Cd.drawn [(4,_),(5,_)] ⟨rfl,rfl,trivial⟩ [(0,true),(1,true),(2,true),(3,true),(4,false),(5,false)] follows (by kernel_rfl) (fun hrl=>?_)
   refine Jp.q 23 rfl (qaa rfl) rfl rfl (by exact Y.qai 5 rfl isAgg27 sizeOf27 rfl rfl (by first | rfl | assumption)) ?_
   refine Jp.q 24 rfl (qaa rfl) rfl rfl (by exact Y.qad rfl rfl underlying27 rfl sizeOf24 (by decide) (show _ + 32 = _ from rfl)) ?_
   refine Jp.q 25 rfl (qaa rfl) rfl rfl (by exact Y.qbs 5 rfl isAgg24 rfl rfl (HasC.pt (StP.cPc hs))) ?_
   refine Jp.q 26 rfl (qaa rfl) rfl rfl (Y.struct [(0,_),(1,_)] [_,_,_] rfl rfl qav zeroValue37 rfl) ?_
   refine Jp.qaf 6 rfl (qaa rfl) rfl rfl sizeOf27 rfl rfl (by first | rfl | assumption) (by first | rfl | assumption) rfl (by first | rfl | assumption) (fun k _ _=>qam k) (Kp.st ⟨rfl,rfl,trivial⟩) ?_
   refine Jp.qaf 7 rfl (qaa rfl) rfl rfl sizeOf37 rfl rfl (by first | rfl | assumption) (by first | rfl | assumption) rfl (by first | rfl | assumption) (fun k _ _=>qam k) Kp.last ?_
   refine Jp.qae hK10 ?_
   refine Cd.ret [(0,_)] rfl (by exact qck 6 7 rfl rfl rfl isAgg27 sizeOf27 isAgg37 sizeOf37 rfl (by first | rfl | assumption) rfl (by first | rfl | assumption)) ⟨rfl,trivial⟩ ⟨rfl,by rw [← hD] <;> rfl,by rw [← hD]⟩
  ·rw [if_neg (show ¬ op = 48 by simp at ga; omega)] at hD
   refine Cd.seq fun K12 hK12=>?_
   refine Cd.qac [(0,false),(1,false),(2,false),(3,false)] rfl rfl ?_
   refine Jp.y 28 rfl (qaa rfl) rfl rfl Kp.true (by exact Y.qad rfl rfl underlying34 rfl sizeOf3 (by decide) (show _ + 0 = _ from rfl)) ?_
   refine Jp.y 29 rfl (qaa rfl) rfl rfl Kp.true (by exact Y.qaq 4 rfl isAgg3 rfl rfl rfl) ?_
   refine Jp.y 30 rfl (qaa rfl) rfl rfl Kp.true (Y.eql rfl rfl rfl) ?_
   refine Jp.y 27 rfl (qaa rfl) rfl rfl Kp.true (Y.assign rfl rfl) ?_
   refine Jp.qae hK12 ?_
   refine Cd.qal rfl (fun gb=>?_) (fun gb=>?_)
   ·rw [if_pos (show op = 49 by simp at gb; omega)] at hD
    refine Cd.seq fun K13 hK13=>?_
    refine Cd.drawn [(4,_),(5,_)] ⟨rfl,rfl,trivial⟩ [(0,true),(1,true),(2,true),(3,true),(4,false),(5,false)] follows (by kernel_rfl) (fun hrl=>?_)
    refine Jp.q 31 rfl (qaa rfl) rfl rfl (by exact Y.qai 5 rfl isAgg27 sizeOf27 rfl rfl (by first | rfl | assumption)) ?_
    refine Jp.q 32 rfl (qaa rfl) rfl rfl (by exact Y.qad rfl rfl underlying27 rfl sizeOf24 (by decide) (show _ + 32 = _ from rfl)) ?_
    refine Jp.q 33 rfl (qaa rfl) rfl rfl (by exact Y.qbs 5 rfl isAgg24 rfl rfl (HasC.pt (StP.cPc hs))) ?_
    refine Jp.q 34 rfl (qaa rfl) rfl rfl (Y.struct [(0,_),(1,_)] [_,_,_] rfl rfl qav zeroValue37 rfl) ?_
    refine Jp.qaf 6 rfl (qaa rfl) rfl rfl sizeOf27 rfl rfl (by first | rfl | assumption) (by first | rfl | assumption) rfl (by first | rfl | assumption) (fun k _ _=>qam k) (Kp.st ⟨rfl,rfl,trivial⟩) ?_
    refine Jp.qaf 7 rfl (qaa rfl) rfl rfl sizeOf37 rfl rfl (by first | rfl | assumption) (by first | rfl | assumption) rfl (by first | rfl | assumption) (fun k _ _=>qam k) Kp.last ?_
    refine Jp.qae hK13 ?_
    refine Cd.ret [(0,_)] rfl (by exact qck 6 7 rfl rfl rfl isAgg27 sizeOf27 isAgg37 sizeOf37 rfl (by first | rfl | assumption) rfl (by first | rfl | assumption)) ⟨rfl,trivial⟩ ⟨rfl,by rw [← hD] <;> rfl,by rw [← hD]⟩
   ·rw [if_neg (show ¬ op = 49 by simp at gb; omega)] at hD
    refine Cd.seq fun K15 hK15=>?_
    refine Cd.qac [(0,false),(1,false),(2,false),(3,false)] rfl rfl ?_
    refine Jp.y 36 rfl (qaa rfl) rfl rfl Kp.true (Y.move rfl rfl) ?_
    refine Jp.y 37 rfl (qaa rfl) rfl rfl Kp.true (by exact Y.remN rfl rfl rfl (by omega) (by omega)) ?_
    refine Jp.y 38 rfl (qaa rfl) rfl rfl Kp.true (Y.neq rfl rfl rfl) ?_
    refine Jp.y 35 rfl (qaa rfl) rfl rfl Kp.true (Y.assign rfl rfl) ?_
    refine Jp.qae hK15 ?_
    refine Cd.qal rfl (fun gc=>?_) (fun gc=>?_)
    ·rw [if_pos (show ¬ to % 4 = 0 by simp at gc; omega)] at hD
     refine Cd.seq fun K16 hK16=>?_
     refine Cd.qac [(0,false),(1,false),(2,false),(3,false),(4,false)] rfl rfl ?_
     refine Jp.y 39 rfl (qaa rfl) rfl rfl Kp.true (by exact Y.qai 5 rfl isAgg27 sizeOf27 rfl rfl (by first | rfl | assumption)) ?_
     refine Jp.y 40 rfl (qaa rfl) rfl rfl Kp.true (Y.move rfl rfl) ?_
     refine Jp.y 41 rfl (qaa rfl) rfl rfl Kp.true (Y.struct [(0,_),(1,_)] [_,_,_] rfl rfl qav zeroValue37 rfl) ?_
     refine Jp.qaf 6 rfl (qaa rfl) rfl rfl sizeOf27 rfl rfl (by first | rfl | assumption) (by first | rfl | assumption) rfl (by first | rfl | assumption) (fun k _ _=>qam k) Kp.true ?_
     refine Jp.qaf 7 rfl (qaa rfl) rfl rfl sizeOf37 rfl rfl (by first | rfl | assumption) (by first | rfl | assumption) rfl (by first | rfl | assumption) (fun k _ _=>qam k) Kp.true ?_
     refine Jp.qae hK16 ?_
     refine Cd.ret [(0,_)] rfl (by exact qck 6 7 rfl rfl rfl isAgg27 sizeOf27 isAgg37 sizeOf37 rfl (by first | rfl | assumption) rfl (by first | rfl | assumption)) ⟨rfl,trivial⟩ ⟨rfl,by rw [← hD] <;> rfl,by rw [← hD]⟩
    ·rw [if_neg (show ¬ ¬ to % 4 = 0 by simp at gc; omega)] at hD
     refine Cd.seq fun K17 hK17=>?_
     refine Cd.qac [(0,false),(1,false),(2,false),(3,false)] rfl rfl ?_
     refine Jp.y 43 rfl (qaa rfl) rfl rfl Kp.true (by exact Y.qad rfl rfl underlying34 rfl sizeOf3 (by decide) (show _ + 0 = _ from rfl)) ?_
     refine Jp.y 44 rfl (qaa rfl) rfl rfl Kp.true (by exact Y.qaq 4 rfl isAgg3 rfl rfl rfl) ?_
     refine Jp.call [] [] (stores_spec op) 45 rfl (qaa rfl) rfl rfl (Runs.fn rfl call52 rfl) (by decide) (by decide) rfl trivial ?_
     rintro v2 ρ2 L2 ⟨rfl,rfl,rfl⟩
     refine ⟨rfl,fun hle2=>⟨Kp.true,?_⟩⟩
     refine Jp.y 42 rfl (qaa rfl) rfl rfl Kp.true (Y.assign rfl rfl) ?_
     refine Jp.qae hK17 ?_
     refine Cd.qal rfl (fun gd=>?_) (fun gd=>?_)
     ·rw [if_pos gd] at hD
      refine Cd.seq fun K18 hK18=>?_
      refine Cd.qac [(0,false),(1,false),(2,false),(3,false),(4,false),(5,false),(6,false),(7,false)] rfl rfl ?_
      refine Jp.y 47 rfl (qaa rfl) rfl rfl Kp.true (by exact Y.qad rfl rfl underlying34 rfl sizeOf3 (by decide) (show _ + 0 = _ from rfl)) ?_
      refine Jp.y 48 rfl (qaa rfl) rfl rfl Kp.true (by exact Y.qaq 4 rfl isAgg3 rfl rfl rfl) ?_
      refine Jp.call [] [] hSz 49 rfl (qaa rfl) rfl rfl (Runs.fn rfl call53 rfl) (by decide) (by decide) rfl trivial ?_
      rintro v3 ρ3 L3 ⟨rfl,rfl,rfl⟩
      refine ⟨rfl,fun hle3=>⟨Kp.true,?_⟩⟩
      refine Jp.y 46 rfl (qaa rfl) rfl rfl Kp.true (Y.move rfl rfl) ?_
      refine Jp.y 50 rfl (qaa rfl) rfl rfl Kp.true (Y.extract rfl rfl rfl) ?_
      refine Jp.y 51 rfl (qaa rfl) rfl rfl Kp.true (Y.extract rfl rfl rfl) ?_
      refine Jp.y 10 rfl (qaa rfl) rfl rfl Kp.true (Y.assign rfl rfl) ?_
      refine Jp.y 11 rfl (qaa rfl) rfl rfl Kp.true (Y.assign rfl rfl) ?_
      refine Jp.qae hK18 ?_
      refine Cd.seq fun K19 hK19=>?_
      refine Cd.drawn [(4,_),(5,_)] ⟨rfl,rfl,trivial⟩ [(0,true),(1,true),(2,true),(4,true),(5,true),(6,true),(7,true),(3,false),(8,false),(9,false),(10,true)] follows (by kernel_rfl) (fun hrl=>?_)
      refine Jp.q 52 rfl (qaa rfl) rfl rfl (Y.move rfl rfl) ?_
      refine Jp.q 53 rfl (qaa rfl) rfl rfl (by exact Y.qai 4 rfl isAgg34 sizeOf34 rfl rfl (by first | rfl | assumption)) ?_
      refine Jp.q 54 rfl (qaa rfl) rfl rfl (by exact Y.qai 5 rfl isAgg27 sizeOf27 rfl rfl (by first | rfl | assumption)) ?_
      refine Jp.q 56 rfl (qaa rfl) rfl rfl (Y.move rfl rfl) ?_
      refine Jp.q 57 rfl (qaa rfl) rfl rfl (by exact Y.qai 5 rfl isAgg27 sizeOf27 rfl rfl (by first | rfl | assumption)) ?_
      refine Jp.q 58 rfl (qaa rfl) rfl rfl (by exact Y.qad rfl rfl underlying34 rfl sizeOf3 (by decide) (show _ + 3 = _ from rfl)) ?_
      refine Jp.q 59 rfl (qaa rfl) rfl rfl (by exact Y.qaq 4 rfl isAgg3 rfl rfl rfl) ?_
      refine Jp.call [] [] hA 55 rfl (qaa rfl) rfl rfl (Runs.fn rfl call9 rfl) (by decide) (by decide) rfl trivial ?_
      rintro v4 ρ4 L4 ⟨rfl,rfl,rfl⟩
      refine ⟨rfl,fun hle4=>⟨(Kp.st ⟨rfl,rfl,trivial⟩),?_⟩⟩
      refine Jp.call [] [] hR2 60 rfl (qaa rfl) rfl rfl (Runs.fn rfl call24 rfl) (by decide) (by decide) rfl trivial ?_
      rintro v5 ρ5 L5 ⟨rfl,rfl,rfl⟩
      refine ⟨rfl,fun hle5=>⟨(Kp.st ⟨rfl,rfl,trivial⟩),?_⟩⟩
      refine Jp.call [0] [0] hSt 61 rfl (qaa rfl) rfl rfl (Runs.fn rfl call54 rfl) (by decide) (by decide) rfl trivial ?_
      rintro v6 ρ6 L6 ⟨rfl,rfl,rfl⟩
      refine ⟨rfl,fun hle6=>⟨(Kp.st ⟨rfl,rfl,trivial⟩),?_⟩⟩
      refine Jp.q 12 rfl (qaa rfl) rfl rfl (Y.assign rfl rfl) ?_
      refine Jp.qae hK19 ?_
      refine Cd.seq fun K21 hK21=>?_
      refine Cd.qac [(0,false),(1,false)] rfl rfl ?_
      refine Jp.y 62 rfl (qaa rfl) rfl rfl Kp.true (Y.move rfl rfl) ?_
      refine Jp.y 63 rfl (qaa rfl) rfl rfl Kp.true (Y.neq rfl rfl rfl) ?_
      refine Jp.qae hK21 ?_
      refine Cd.qal rfl (fun ge=>?_) (fun ge=>?_)
      ·rw [if_neg (show ¬ sf = 0 by simpa using ge)] at hD
       refine Cd.seq fun K22 hK22=>?_
       refine Cd.drawn [(4,_),(5,_)] ⟨rfl,rfl,trivial⟩ [(0,true),(1,true),(2,true),(4,true),(3,false),(5,true),(6,false),(7,false)] follows (by kernel_rfl) (fun hrl=>?_)
       refine Jp.q 64 rfl (qaa rfl) rfl rfl (by exact Y.qai 5 rfl isAgg27 sizeOf27 rfl rfl (by first | rfl | assumption)) ?_
       refine Jp.q 65 rfl (qaa rfl) rfl rfl (by exact Y.qai 4 rfl isAgg34 sizeOf34 rfl rfl (by first | rfl | assumption)) ?_
       refine Jp.q 66 rfl (qaa rfl) rfl rfl (by exact Y.qai 5 rfl isAgg27 sizeOf27 rfl rfl (by first | rfl | assumption)) ?_
       refine Jp.q 68 rfl (qaa rfl) rfl rfl (Y.move rfl rfl) ?_
       refine Jp.call [] [] hA 67 rfl (qaa rfl) rfl rfl (Runs.fn rfl call9 rfl) (by decide) (by decide) rfl trivial ?_
       rintro v7 ρ7 L7 ⟨rfl,rfl,rfl⟩
       refine ⟨rfl,fun hle7=>⟨(Kp.st ⟨rfl,rfl,trivial⟩),?_⟩⟩
       refine Jp.q 69 rfl (qaa rfl) rfl rfl (Y.struct [(0,_),(1,_),(2,_)] [_,_,_] rfl rfl qav zeroValue37 rfl) ?_
       refine Jp.qaf 6 rfl (qaa rfl) rfl rfl sizeOf27 rfl rfl (by first | rfl | assumption) (by first | rfl | assumption) rfl (by first | rfl | assumption) (fun k _ _=>qam k) (Kp.st ⟨rfl,rfl,trivial⟩) ?_
       refine Jp.qaf 7 rfl (qaa rfl) rfl rfl sizeOf37 rfl rfl (by first | rfl | assumption) (by first | rfl | assumption) rfl (by first | rfl | assumption) (fun k _ _=>qam k) Kp.last ?_
       refine Jp.qae hK22 ?_
       refine Cd.ret [(0,_)] rfl (by exact qck 6 7 rfl rfl rfl isAgg27 sizeOf27 isAgg37 sizeOf37 rfl (by first | rfl | assumption) rfl (by first | rfl | assumption)) ⟨rfl,trivial⟩ ⟨rfl,by rw [← hD] <;> rfl,by rw [← hD]⟩
      ·rw [if_pos (show sf = 0 by simpa using ge)] at hD
       refine Cd.over rfl hK4 ?_
       exact Cd.qdz (hj1 ⟨sx,sM⟩ ⟨hx32,hD.symm⟩) ⟨rfl,rfl,rfl,rfl,trivial⟩ ⟨rfl,rfl,rfl,rfl,trivial⟩
     ·rw [if_neg (by simp [gd])] at hD
      refine Cd.seq fun K24 hK24=>?_
      refine Cd.qac [(0,false),(1,false),(2,false),(3,false)] rfl rfl ?_
      refine Jp.y 71 rfl (qaa rfl) rfl rfl Kp.true (by exact Y.qad rfl rfl underlying34 rfl sizeOf3 (by decide) (show _ + 0 = _ from rfl)) ?_
      refine Jp.y 72 rfl (qaa rfl) rfl rfl Kp.true (by exact Y.qaq 4 rfl isAgg3 rfl rfl rfl) ?_
      refine Jp.call [] [] (writes_spec op) 73 rfl (qaa rfl) rfl rfl (Runs.fn rfl call55 rfl) (by decide) (by decide) rfl trivial ?_
      rintro v3 ρ3 L3 ⟨rfl,rfl,rfl⟩
      refine ⟨rfl,fun hle3=>⟨Kp.true,?_⟩⟩
      refine Jp.y 70 rfl (qaa rfl) rfl rfl Kp.true (Y.assign rfl rfl) ?_
      refine Jp.qae hK24 ?_
      refine Cd.qal rfl (fun ge=>?_) (fun ge=>?_)
      ·rw [if_pos ge] at hD
       refine Cd.seq fun K25 hK25=>?_
       refine Cd.qac [(0,false),(1,false),(2,false),(3,false),(4,false),(5,false),(6,false),(7,false),(8,false),(9,false)] rfl rfl ?_
       refine Jp.y 75 rfl (qaa rfl) rfl rfl Kp.true (Y.move rfl rfl) ?_
       refine Jp.y 76 rfl (qaa rfl) rfl rfl Kp.true (by exact Y.qai 4 rfl isAgg34 sizeOf34 rfl rfl (by first | rfl | assumption)) ?_
       refine Jp.y 77 rfl (qaa rfl) rfl rfl Kp.true (by exact Y.qai 5 rfl isAgg27 sizeOf27 rfl rfl (by first | rfl | assumption)) ?_
       refine Jp.call [0] [0] hV 78 rfl (qaa rfl) rfl rfl (Runs.fn rfl call56 rfl) (by decide) (by decide) rfl trivial ?_
       rintro v4 ρ4 L4 ⟨rfl,rfl,rfl⟩
       refine ⟨rfl,fun hle4=>⟨Kp.true,?_⟩⟩
       refine Jp.y 74 rfl (qaa rfl) rfl rfl Kp.true (Y.move rfl rfl) ?_
       refine Jp.y 79 rfl (qaa rfl) rfl rfl Kp.true (Y.extract rfl rfl rfl) ?_
       refine Jp.y 80 rfl (qaa rfl) rfl rfl Kp.true (Y.extract rfl rfl rfl) ?_
       refine Jp.alloc 14 14 rfl (qaa rfl) rfl rfl rfl zeroValue37 fun b14=>⟨Kp.true,?_⟩
       refine Jp.y 13 rfl (qaa rfl) rfl rfl Kp.true (Y.assign rfl rfl) ?_
       refine Jp.qaf 14 rfl (qaa rfl) rfl rfl sizeOf37 rfl rfl (by first | rfl | assumption) (by first | rfl | assumption) rfl (by first | rfl | assumption) (fun k _ _=>qam k) Kp.true ?_
       refine Jp.qae hK25 ?_
       refine Cd.seq fun K26 hK26=>?_
       refine Cd.seq fun K27 hK27=>?_
       refine Cd.qac [(0,false),(1,false),(2,false)] rfl rfl ?_
       refine Jp.y 81 rfl (qaa rfl) rfl rfl Kp.true (by exact Y.qad rfl rfl underlying37 rfl sizeOf3 (by decide) (show _ + 0 = _ from rfl)) ?_
       refine Jp.y 82 rfl (qaa rfl) rfl rfl Kp.true (by exact Y.qaq 14 rfl isAgg3 rfl rfl rfl) ?_
       refine Jp.y 83 rfl (qaa rfl) rfl rfl Kp.true (Y.neq rfl rfl rfl) ?_
       refine Jp.qae hK27 ?_
       refine Cd.qal rfl (fun gf=>?_) (fun gf=>?_)
       ·rw [if_neg (show ¬ vk = 0 by simp at gf; omega)] at hD
        refine Cd.seq fun K28 hK28=>?_
        refine Cd.drawn [(4,_),(5,_),(14,_)] ⟨rfl,rfl,rfl,trivial⟩ [(0,true),(1,true),(2,false),(3,false)] follows (by kernel_rfl) (fun hrl=>?_)
        refine Jp.q 84 rfl (qaa rfl) rfl rfl (by exact Y.qai 5 rfl isAgg27 sizeOf27 rfl rfl (by first | rfl | assumption)) ?_
        refine Jp.q 85 rfl (qaa rfl) rfl rfl (by exact Y.qai 14 rfl isAgg37 sizeOf37 rfl rfl (by first | rfl | assumption)) ?_
        refine Jp.qaf 6 rfl (qaa rfl) rfl rfl sizeOf27 rfl rfl (by first | rfl | assumption) (by first | rfl | assumption) rfl (by first | rfl | assumption) (fun k _ _=>qam k) (Kp.st ⟨rfl,rfl,rfl,trivial⟩) ?_
        refine Jp.qaf 7 rfl (qaa rfl) rfl rfl sizeOf37 rfl rfl (by first | rfl | assumption) (by first | rfl | assumption) rfl (by first | rfl | assumption) (fun k _ _=>qam k) Kp.last ?_
        refine Jp.qae hK28 ?_
        refine Cd.ret [(0,_)] rfl (by exact qck 6 7 rfl rfl rfl isAgg27 sizeOf27 isAgg37 sizeOf37 rfl (by first | rfl | assumption) rfl (by first | rfl | assumption)) ⟨rfl,trivial⟩ ⟨rfl,by rw [← hD] <;> rfl,by rw [← hD]⟩
       ·rw [if_pos (show vk = 0 by simp at gf; omega)] at hD
        refine Cd.qbi hK26 ?_
        refine Cd.qac [(0,false),(1,false),(2,false),(3,false),(4,false),(5,false)] rfl rfl ?_
        refine Jp.y 86 rfl (qaa rfl) rfl rfl Kp.true (by exact Y.qad rfl rfl underlying34 rfl sizeOf3 (by decide) (show _ + 1 = _ from rfl)) ?_
        refine Jp.y 87 rfl (qaa rfl) rfl rfl Kp.true (by exact Y.qaq 4 rfl isAgg3 rfl rfl rfl) ?_
        refine Jp.slot 87 rfl (show _ = Value.int .i64 (rd : Int) from rfl) ?_
        refine Jp.y 88 rfl (qaa rfl) rfl rfl Kp.true (Y.move rfl rfl) ?_
        refine Jp.y 89 rfl (qaa rfl) rfl rfl Kp.true (by exact Y.qad rfl rfl underlying27 rfl sizeOf25 (by decide) (show _ + 0 = _ from rfl)) ?_
        refine Jp.y 90 rfl (qaa rfl) rfl rfl Kp.true (Y.qcg (q:=rd) rfl rfl rfl underlying25 sizeOf24 (by omega) (by omega) (by omega)) ?_
        refine Jp.qen 9 (Pt b9 (.cells (StP.cells ⟨sx.set rd vv,spc,sret⟩).toArray 27)) rfl (qaa rfl) rfl rfl sizeOf24 rfl rfl rfl rfl rfl (SetC.st hx32 hrd vv) Kp.true ?_
        refine Jp.over rfl hK4 ?_
        exact Cd.qdz (hj1 ⟨sx.set rd vv,M⟩ ⟨by simp [hx32],hD.symm⟩) ⟨rfl,rfl,rfl,rfl,trivial⟩ ⟨rfl,rfl,rfl,rfl,trivial⟩
      ·rw [if_neg (by simp [ge])] at hD
       refine Cd.over rfl hK4 ?_
       exact Cd.qdz (hj1 ⟨sx,M⟩ ⟨hx32,hD.symm⟩) ⟨rfl,rfl,rfl,rfl,trivial⟩ ⟨rfl,rfl,rfl,rfl,trivial⟩
end Go.Proofs.YthjelpbaljapiaaGreat

namespace Go.Proofs.YthjelpbaljapiaaGreat
open _root_.Go.Proofs.Tryz
open Go
theorem kindP_lt (w : Nat) (hw : w < 4294967296) : kindP w < 50:=by
 have hg : ∀ (l : List Nat) (f : Nat),(∀ x ∈ l,x < 50) → l.getD f 0 < 50:=fun l f h=>by
  rw [List.getD_eq_getElem?_getD]
  cases hx : l[f]? with
  | none=>decide
  | some v=>exact h v (List.mem_of_getElem? hx)
 have h1 : ∀ f,branchP f < 50:=fun f=>hg _ f (by decide)
 have h2 : ∀ f,loadP f < 50:=fun f=>hg _ f (by decide)
 have h3 : ∀ f,storeP f < 50:=fun f=>hg _ f (by decide)
 have h4 : ∀ f t,immKP f t < 50:=fun f t=>by
  unfold immKP
  repeat' split
  all_goals first | omega | exact hg _ f (by decide)
 have h5 : ∀ f t,f < 8 → regKP f t < 50:=fun f t hf=>by
  unfold regKP
  repeat' split
  all_goals first | omega | exact hg _ f (by decide)
 have h6 : ∀ w,systemP w < 50:=fun w=>by
  unfold systemP
  repeat' split
  all_goals omega
 have h7 : w / 2 ^ 12 % 2 ^ 3 < 8:=Nat.mod_lt _ (by decide)
 unfold kindP
 repeat' split
 all_goals first | omega | exact h1 _ | exact h2 _ | exact h3 _ | exact h4 _ _ | exact h5 _ _ h7 | exact h6 _
theorem i32_rng (x : Int) : -2147483648 ≤ IntKind.i32.wrap x ∧ IntKind.i32.wrap x ≤ 2147483647:=by
 simp only [IntKind.wrap,IntKind.bits,IntKind.signed]
 simp
 split <;> omega
theorem bitsB_i32 (x y : Int) : -2147483648 ≤ qbu .or .i32 x y ∧ qbu .or .i32 x y ≤ 2147483647:=i32_rng _
theorem immI_rng (w : Nat) : -2147483648 ≤ immIP w ∧ immIP w ≤ 2147483647:=by
 have h:=i32_rng (w : Int)
 unfold immIP s32
 rw [Int.fdiv_eq_ediv_of_nonneg _ (by decide)]
 omega
theorem decP_ok (w : Nat) (hw : w < 4294967296) : InsOk (decP w):=by
 have h0:=kindP_lt w hw
 have hz : (0 : Nat) < 32:=by decide
 have hi : -2147483648 ≤ (0 : Int) ∧ (0 : Int) ≤ 2147483647:=by decide
 have h7 : w / 2 ^ 7 % 2 ^ 5 < 32:=Nat.mod_lt _ (by decide)
 have h15 : w / 2 ^ 15 % 2 ^ 5 < 32:=Nat.mod_lt _ (by decide)
 have h20 : w / 2 ^ 20 % 2 ^ 5 < 32:=Nat.mod_lt _ (by decide)
 unfold decP
 repeat' split
 ·exact ⟨h0,hz,hz,hz,hi⟩
 ·exact ⟨h0,h7,hz,hz,i32_rng _⟩
 ·exact ⟨h0,h7,hz,hz,bitsB_i32 _ _⟩
 ·exact ⟨h0,hz,h15,h20,bitsB_i32 _ _⟩
 ·exact ⟨h0,hz,h15,h20,bitsB_i32 _ _⟩
 ·exact ⟨h0,h7,h15,hz,by dsimp only; omega⟩
 ·exact ⟨h0,h7,h15,h20,hi⟩
 ·exact ⟨h0,h7,h15,hz,immI_rng w⟩
theorem noIns_ok : InsOk noIns:=⟨by decide,by decide,by decide,by decide,by decide⟩
theorem fetchP_ok (M : MemG) (pc : Nat) : InsOk (qbw M pc).1:=by
 have hl : (qbv M pc 4 4).1 < 4294967296:=qdu M pc 4 (by omega) 4
 unfold qbw
 split
 ·split
  ·exact noIns_ok
  ·exact decP_ok _ hl
 ·exact noIns_ok
def qdc (M : MemG) (s : StP) : StP × EvP × MemG:=if (qbw M s.pc).2.kind = 0 then qbn M (qbw M s.pc).1 s else (s,(qbw M s.pc).2,M)
theorem goesP_lt (i : InsP) (s : StP) : goesP i s < 4294967296:=by
 unfold goesP
 repeat' split
 all_goals first | exact qdl _ | exact Nat.lt_of_le_of_lt (Nat.sub_le ..) (qdl _)
theorem valueP_lt {M : MemG} {i : InsP} {s : StP} (hs : StOk s) : (qce M i s).1 < 4294967296:=by
 unfold qce
 repeat' split
 all_goals first | exact qdl _ | exact qdl ((s.pc : Int) + (u32 i.imm : Int)) | exact qdl ((s.pc : Int) + 4) | exact extP_lt (qdu _ _ _ (qgb _) _) | exact qdu _ _ _ (qgb _) _ | exact doP_lt (qez hs _) (opdP_lt hs) | exact Nat.zero_lt_succ _
theorem outP_ok {s : StP} (hs : StOk s) {x : List Nat} {to : Nat} (hx : x.length = 32) (hl : ∀ y ∈ x,y < 4294967296) (ht : to < 4294967296) (hr : s.ret + 1 ≤ 4611686018427387904) : StOk (qem s x to):=by
 refine ⟨by simp [qem,hx],fun y hy=>?_,ht,⟨by have:=hs.ret; simp only [qem]; omega,hr⟩⟩
 rcases List.mem_or_eq_of_mem_set hy with h | h
 ·exact hl y h
 ·rw [h]; decide
theorem doInsP_ok {M : MemG} {i : InsP} {s : StP} (hs : StOk s) (hr : s.ret + 1 ≤ 4611686018427387904) : StOk (qbn M i s).1:=by
 have hset : ∀ y ∈ s.x.set i.rd (qce M i s).1,y < 4294967296:=fun y hy=>by
  rcases List.mem_or_eq_of_mem_set hy with h | h
  ·exact hs.lt y h
  ·rw [h]; exact valueP_lt hs
 unfold qbn
 repeat' split
 all_goals first | exact hs | exact outP_ok hs hs.len hs.lt (goesP_lt i s) hr | exact outP_ok hs (by rw [List.length_set]; exact hs.len) hset (goesP_lt i s) hr
theorem stepP_ok {M : MemG} {s : StP} (hs : StOk s) (hr : s.ret + 1 ≤ 4611686018427387904) : StOk (qdc M s).1:=by
 unfold qdc
 split
 ·exact doInsP_ok hs hr
 ·exact hs
theorem doInsP_ret {M : MemG} {i : InsP} {s : StP} : (qbn M i s).1.ret ≤ s.ret + 1 ∧ s.ret ≤ (qbn M i s).1.ret:=by
 unfold qbn
 repeat' split
 all_goals (simp only [qem]; omega)
theorem stepP_ret {M : MemG} {s : StP} : (qdc M s).1.ret ≤ s.ret + 1 ∧ s.ret ≤ (qdc M s).1.ret:=by
 unfold qdc
 split
 ·exact doInsP_ret
 ·dsimp only; omega
theorem step_spec (b : Nat) (M : MemG) (s : StP) (hs : StOk s) : Spec Tryz.prog 11 #[.pointer (some ⟨b,0,none⟩),.agg s.cells.toArray] (fun _=>True) [(0,qeg b M)]
  (fun ρ ρ' v L=>ρ' = ρ ∧ v = .tuple #[.agg (qdc M s).1.cells.toArray,.agg (qdc M s).2.1.cells.toArray] ∧ L = [(0,qeg b (qdc M s).2.2)]):=by
 obtain ⟨D,hD⟩ : ∃ D,qdc M s = D:=⟨_,rfl⟩
 rw [hD]
 unfold qdc at hD
 have hF:=fetch_spec b M s.pc hs.pc (qdu M s.pc 4 (by omega) 4)
 have hI:=do_ins_spec b M (qbw M s.pc).1 s hs (fetchP_ok M s.pc)
 have hil : (qbw M s.pc).1.cells.length = 5:=rfl
 have hio : (qbw M s.pc).1.cells.all one = true:=by unfold InsP.cells; simp [one]
 obtain ⟨F,hFe⟩ : ∃ F,qbw M s.pc = F:=⟨_,rfl⟩
 rw [hFe] at hF hI hil hio hD
 obtain ⟨fi,fe⟩:=F
 obtain ⟨kd,ead,wy⟩:=fe
 dsimp only at hF hI hil hio hD
 by_cases hk : kd = 0
 ·rw [if_pos hk] at hD
  rw [hD] at hI
  have hok : StOk D.1 ∨ True:=.inr trivial
  subst hk
  have hDl : D.1.cells.length = 34:=by
   rw [← hD]
   unfold qbn
   have:=hs.len
   repeat' split
   all_goals simp [qem,StP.cells,qbp,this]
  have hDo:=StP.one D.1
  have hEl : D.2.1.cells.length = 3:=rfl
  have hEo : D.2.1.cells.all one = true:=by unfold EvP.cells; simp [one]
  refine Spec.of 26 Tryz.func11 rfl Tryz.ntmps11 [(0,_),(1,_)] rfl rfl ?_
  intro cx ρ hr' h0
  have hsl:=StP.len hs
  have hso:=StP.one s
  refine Cd.seq fun K1 hK1=>?_
  refine Cd.qac [(0,false),(1,false),(2,false)] rfl rfl ?_
  refine Jp.box 3 3 rfl (qaa rfl) rfl rfl rfl rfl fun b3=>⟨Kp.true,?_⟩
  refine Jp.alloc 4 4 rfl (qaa rfl) rfl rfl rfl zeroValue27 fun b4=>⟨Kp.true,?_⟩
  refine Jp.alloc 5 5 rfl (qaa rfl) rfl rfl rfl zeroValue37 fun b5=>⟨Kp.true,?_⟩
  refine Jp.qae hK1 ?_
  refine Cd.seq fun K2 hK2=>?_
  refine Cd.qac [(0,false),(1,false),(2,false),(3,false),(4,false),(5,false),(6,false),(7,false),(8,false),(9,false),(10,false)] rfl rfl ?_
  refine Jp.y 9 rfl (qaa rfl) rfl rfl Kp.true (Y.move rfl rfl) ?_
  refine Jp.y 10 rfl (qaa rfl) rfl rfl Kp.true (by exact Y.qad rfl rfl underlying27 rfl sizeOf24 (by decide) (show _ + 32 = _ from rfl)) ?_
  refine Jp.y 11 rfl (qaa rfl) rfl rfl Kp.true (by exact Y.qbs 3 rfl isAgg24 rfl rfl (HasC.pt (StP.cPc hs))) ?_
  refine Jp.call [0] [0] hF 12 rfl (qaa rfl) rfl rfl (Runs.fn rfl call7 rfl) (by decide) (by decide) rfl trivial ?_
  rintro v1 ρ1 L1 ⟨rfl,rfl,rfl⟩
  refine ⟨rfl,fun hle1=>⟨Kp.true,?_⟩⟩
  refine Jp.y 8 rfl (qaa rfl) rfl rfl Kp.true (Y.move rfl rfl) ?_
  refine Jp.y 13 rfl (qaa rfl) rfl rfl Kp.true (Y.extract rfl rfl rfl) ?_
  refine Jp.y 14 rfl (qaa rfl) rfl rfl Kp.true (Y.extract rfl rfl rfl) ?_
  refine Jp.alloc 6 6 rfl (qaa rfl) rfl rfl rfl zeroValue34 fun b6=>⟨Kp.true,?_⟩
  refine Jp.alloc 7 7 rfl (qaa rfl) rfl rfl rfl zeroValue37 fun b7=>⟨Kp.true,?_⟩
  refine Jp.qaf 6 rfl (qaa rfl) rfl rfl sizeOf34 rfl rfl (by first | rfl | assumption) (by first | rfl | assumption) rfl (by first | rfl | assumption) (fun k _ _=>qam k) Kp.true ?_
  refine Jp.qaf 7 rfl (qaa rfl) rfl rfl sizeOf37 rfl rfl (by first | rfl | assumption) (by first | rfl | assumption) rfl (by first | rfl | assumption) (fun k _ _=>qam k) Kp.true ?_
  refine Jp.qae hK2 ?_
  refine Cd.seq fun K3 hK3=>?_
  refine Cd.seq fun K4 hK4=>?_
  refine Cd.qac [(0,false),(1,false),(2,false)] rfl rfl ?_
  refine Jp.y 15 rfl (qaa rfl) rfl rfl Kp.true (by exact Y.qad rfl rfl underlying37 rfl sizeOf3 (by decide) (show _ + 0 = _ from rfl)) ?_
  refine Jp.y 16 rfl (qaa rfl) rfl rfl Kp.true (by exact Y.qaq 7 rfl isAgg3 rfl rfl rfl) ?_
  refine Jp.y 17 rfl (qaa rfl) rfl rfl Kp.true (Y.neq rfl rfl rfl) ?_
  refine Jp.qae hK4 ?_
  refine Cd.qal rfl (fun ga=>?_) (fun ga=>?_)
  ·exact absurd ga (by simp)
  ·skip
   refine Cd.qbi hK3 ?_
   refine Cd.seq fun K5 hK5=>?_
   refine Cd.qac [(0,false),(1,false),(2,false),(3,false),(4,false),(5,false),(6,false),(7,false)] rfl rfl ?_
   refine Jp.y 20 rfl (qaa rfl) rfl rfl Kp.true (Y.move rfl rfl) ?_
   refine Jp.y 21 rfl (qaa rfl) rfl rfl Kp.true (by exact Y.qai 6 rfl isAgg34 sizeOf34 rfl rfl (by first | rfl | assumption)) ?_
   refine Jp.y 22 rfl (qaa rfl) rfl rfl Kp.true (by exact Y.qai 3 rfl isAgg27 sizeOf27 rfl rfl (by first | rfl | assumption)) ?_
   refine Jp.call [0] [0] hI 23 rfl (qaa rfl) rfl rfl (Runs.fn rfl call26 rfl) (by decide) (by decide) rfl trivial ?_
   rintro v2 ρ2 L2 ⟨rfl,rfl,rfl⟩
   refine ⟨rfl,fun hle2=>⟨Kp.true,?_⟩⟩
   refine Jp.y 24 rfl (qaa rfl) rfl rfl Kp.true (Y.extract rfl rfl rfl) ?_
   refine Jp.y 25 rfl (qaa rfl) rfl rfl Kp.true (Y.extract rfl rfl rfl) ?_
   refine Jp.qaf 4 rfl (qaa rfl) rfl rfl sizeOf27 rfl rfl (by first | rfl | assumption) (by first | rfl | assumption) rfl (by first | rfl | assumption) (fun k _ _=>qam k) Kp.true ?_
   refine Jp.qaf 5 rfl (qaa rfl) rfl rfl sizeOf37 rfl rfl (by first | rfl | assumption) (by first | rfl | assumption) rfl (by first | rfl | assumption) (fun k _ _=>qam k) Kp.true ?_
   refine Jp.qae hK5 ?_
   refine Cd.ret [(0,_)] rfl (by exact qck 4 5 rfl rfl rfl isAgg27 sizeOf27 isAgg37 sizeOf37 rfl (by first | rfl | assumption) rfl (by first | rfl | assumption)) ⟨rfl,trivial⟩ ⟨rfl,rfl,rfl⟩
 ·rw [if_neg hk] at hD
  subst hD
  have hEl : (EvP.mk kd ead wy).cells.length = 3:=rfl
  have hEo : (EvP.mk kd ead wy).cells.all one = true:=by unfold EvP.cells; simp [one]
  refine Spec.of 26 Tryz.func11 rfl Tryz.ntmps11 [(0,_),(1,_)] rfl rfl ?_
  intro cx ρ hr' h0
  have hsl:=StP.len hs
  have hso:=StP.one s
  refine Cd.seq fun K6 hK6=>?_
  refine Cd.qac [(0,false),(1,false),(2,false)] rfl rfl ?_
  refine Jp.box 3 3 rfl (qaa rfl) rfl rfl rfl rfl fun b3=>⟨Kp.true,?_⟩
  refine Jp.alloc 4 4 rfl (qaa rfl) rfl rfl rfl zeroValue27 fun b4=>⟨Kp.true,?_⟩
  refine Jp.alloc 5 5 rfl (qaa rfl) rfl rfl rfl zeroValue37 fun b5=>⟨Kp.true,?_⟩
  refine Jp.qae hK6 ?_
  refine Cd.seq fun K7 hK7=>?_
  refine Cd.qac [(0,false),(1,false),(2,false),(3,false),(4,false),(5,false),(6,false),(7,false),(8,false),(9,false),(10,false)] rfl rfl ?_
  refine Jp.y 9 rfl (qaa rfl) rfl rfl Kp.true (Y.move rfl rfl) ?_
  refine Jp.y 10 rfl (qaa rfl) rfl rfl Kp.true (by exact Y.qad rfl rfl underlying27 rfl sizeOf24 (by decide) (show _ + 32 = _ from rfl)) ?_
  refine Jp.y 11 rfl (qaa rfl) rfl rfl Kp.true (by exact Y.qbs 3 rfl isAgg24 rfl rfl (HasC.pt (StP.cPc hs))) ?_
  refine Jp.call [0] [0] hF 12 rfl (qaa rfl) rfl rfl (Runs.fn rfl call7 rfl) (by decide) (by decide) rfl trivial ?_
  rintro v1 ρ1 L1 ⟨rfl,rfl,rfl⟩
  refine ⟨rfl,fun hle1=>⟨Kp.true,?_⟩⟩
  refine Jp.y 8 rfl (qaa rfl) rfl rfl Kp.true (Y.move rfl rfl) ?_
  refine Jp.y 13 rfl (qaa rfl) rfl rfl Kp.true (Y.extract rfl rfl rfl) ?_
  refine Jp.y 14 rfl (qaa rfl) rfl rfl Kp.true (Y.extract rfl rfl rfl) ?_
  refine Jp.alloc 6 6 rfl (qaa rfl) rfl rfl rfl zeroValue34 fun b6=>⟨Kp.true,?_⟩
  refine Jp.alloc 7 7 rfl (qaa rfl) rfl rfl rfl zeroValue37 fun b7=>⟨Kp.true,?_⟩
  refine Jp.qaf 6 rfl (qaa rfl) rfl rfl sizeOf34 rfl rfl (by first | rfl | assumption) (by first | rfl | assumption) rfl (by first | rfl | assumption) (fun k _ _=>qam k) Kp.true ?_
  refine Jp.qaf 7 rfl (qaa rfl) rfl rfl sizeOf37 rfl rfl (by first | rfl | assumption) (by first | rfl | assumption) rfl (by first | rfl | assumption) (fun k _ _=>qam k) Kp.true ?_
  refine Jp.qae hK7 ?_
  refine Cd.seq fun K8 hK8=>?_
  refine Cd.seq fun K9 hK9=>?_
  refine Cd.qac [(0,false),(1,false),(2,false)] rfl rfl ?_
  refine Jp.y 15 rfl (qaa rfl) rfl rfl Kp.true (by exact Y.qad rfl rfl underlying37 rfl sizeOf3 (by decide) (show _ + 0 = _ from rfl)) ?_
  refine Jp.y 16 rfl (qaa rfl) rfl rfl Kp.true (by exact Y.qaq 7 rfl isAgg3 rfl rfl rfl) ?_
  refine Jp.y 17 rfl (qaa rfl) rfl rfl Kp.true (Y.neq rfl rfl rfl) ?_
  refine Jp.qae hK9 ?_
  refine Cd.qal rfl (fun ga=>?_) (fun ga=>?_)
  ·skip
   refine Cd.seq fun K10 hK10=>?_
   refine Cd.drawn [(3,_),(7,_)] ⟨rfl,rfl,trivial⟩ [(0,true),(1,true),(2,false),(3,false)] follows (by kernel_rfl) (fun hrl=>?_)
   refine Jp.q 18 rfl (qaa rfl) rfl rfl (by exact Y.qai 3 rfl isAgg27 sizeOf27 rfl rfl (by first | rfl | assumption)) ?_
   refine Jp.q 19 rfl (qaa rfl) rfl rfl (by exact Y.qai 7 rfl isAgg37 sizeOf37 rfl rfl (by first | rfl | assumption)) ?_
   refine Jp.qaf 4 rfl (qaa rfl) rfl rfl sizeOf27 rfl rfl (by first | rfl | assumption) (by first | rfl | assumption) rfl (by first | rfl | assumption) (fun k _ _=>qam k) (Kp.st ⟨rfl,rfl,trivial⟩) ?_
   refine Jp.qaf 5 rfl (qaa rfl) rfl rfl sizeOf37 rfl rfl (by first | rfl | assumption) (by first | rfl | assumption) rfl (by first | rfl | assumption) (fun k _ _=>qam k) Kp.last ?_
   refine Jp.qae hK10 ?_
   refine Cd.ret [(0,_)] rfl (by exact qck 4 5 rfl rfl rfl isAgg27 sizeOf27 isAgg37 sizeOf37 rfl (by first | rfl | assumption) rfl (by first | rfl | assumption)) ⟨rfl,trivial⟩ ⟨rfl,rfl,rfl⟩
  ·exact absurd ga (by simp; omega)
end Go.Proofs.YthjelpbaljapiaaGreat

namespace Go.Proofs.YthjelpbaljapiaaGreat
open Go
theorem next_al {pc : Nat} (h : pc % 4 = 0) : u32 ((pc : Int) + 4) % 4 = 0:=by unfold u32; omega
theorem goes_next {i : InsP} {s : StP} (h : ¬ i.op = 3) (h1 : ¬ i.op = 4) (h2 : ¬ (5 ≤ i.op ∧ i.op ≤ 10)) : goesP i s = u32 ((s.pc : Int) + 4):=by
 rw [goesP,if_neg h,if_neg h1,if_neg (fun h=>h2 ⟨h.1,h.2.1⟩)]
theorem qgf (s : StP) (to : Nat) : qem s (s.x.set 0 0) to = qem s s.x to:=by simp [qem]
theorem writes_yesR {op : Nat} (h : 1 ≤ op ∧ op ≤ 4 ∨ 11 ≤ op ∧ op ≤ 15 ∨ 19 ≤ op ∧ op ≤ 45) : qdf op = true:=decide_eq_true h
theorem writes_no' {op : Nat} (h : ¬ (1 ≤ op ∧ op ≤ 4 ∨ 11 ≤ op ∧ op ≤ 15 ∨ 19 ≤ op ∧ op ≤ 45)) : ¬ qdf op = true:=by rw [qdf,decide_eq_false h]; decide
theorem stores_no' {op : Nat} (h : ¬ (16 ≤ op ∧ op ≤ 18)) : ¬ qfw op = true:=by rw [qfw,decide_eq_false h]; decide
theorem do_next {M : MemG} {i : InsP} {s : StP} (hal : s.pc % 4 = 0) (h3 : ¬ i.op = 3) (h4 : ¬ i.op = 4) (hb : ¬ (5 ≤ i.op ∧ i.op ≤ 10)) (h48 : ¬ i.op = 48) (h49 : ¬ i.op = 49) (hst : ¬ (16 ≤ i.op ∧ i.op ≤ 18))
  (hw : 1 ≤ i.op ∧ i.op ≤ 4 ∨ 11 ≤ i.op ∧ i.op ≤ 15 ∨ 19 ≤ i.op ∧ i.op ≤ 45) :
  qbn M i s = if (qce M i s).2.kind = 0 then (qem s (s.x.set i.rd (qce M i s).1) (u32 ((s.pc : Int) + 4)),noEv,M) else (s,(qce M i s).2,M):=by
 have hg:=goes_next (s:=s) h3 h4 hb
 have ha:=next_al hal
 rw [qbn,if_neg h48,if_neg h49,hg,if_neg (Classical.not_not.2 ha),if_neg (stores_no' hst),if_pos (writes_yesR hw)]
theorem do_one {M : MemG} {i : InsP} {s : StP} (hal : s.pc % 4 = 0) (h : i.op = 1) : qbn M i s = (qem s (s.x.set i.rd (u32 i.imm)) (u32 ((s.pc : Int) + 4)),noEv,M):=by
 have hv : qce M i s = (u32 i.imm,noEv):=by rw [qce,if_pos h]
 rw [do_next hal (by omega) (by omega) (by omega) (by omega) (by omega) (by omega) (by omega),hv]
 exact if_pos rfl
theorem do_two {M : MemG} {i : InsP} {s : StP} (hal : s.pc % 4 = 0) (h : i.op = 2) : qbn M i s = (qem s (s.x.set i.rd (u32 ((s.pc : Int) + (u32 i.imm : Int)))) (u32 ((s.pc : Int) + 4)),noEv,M):=by
 have hv : qce M i s = (u32 ((s.pc : Int) + (u32 i.imm : Int)),noEv):=by rw [qce,if_neg (by omega),if_pos h]
 rw [do_next hal (by omega) (by omega) (by omega) (by omega) (by omega) (by omega) (by omega),hv]
 exact if_pos rfl
theorem do_jump {M : MemG} {i : InsP} {s : StP} {to : Nat} (h : i.op = 3 ∨ i.op = 4) (hto : goesP i s = to) : qbn M i s = if to % 4 = 0 then (qem s (s.x.set i.rd (u32 ((s.pc : Int) + 4))) to,noEv,M) else (s,⟨7,to,0⟩,M):=by
 by_cases h4 : to % 4 = 0
 ·have hv : qce M i s = (u32 ((s.pc : Int) + 4),noEv):=by rw [qce,if_neg (by omega),if_neg (by omega),if_pos h]
  rw [qbn,if_neg (by omega),if_neg (by omega),hto,if_neg (Classical.not_not.2 h4),if_neg (stores_no' (by omega)),if_pos (writes_yesR (by omega)),hv,if_pos h4]
  exact if_pos rfl
 ·rw [qbn,if_neg (by omega),if_neg (by omega),hto,if_pos h4,if_neg h4]
theorem do_branch {M : MemG} {i : InsP} {s : StP} {to : Nat} (h : 5 ≤ i.op ∧ i.op ≤ 10) (hto : goesP i s = to) : qbn M i s = if to % 4 = 0 then (qem s s.x to,noEv,M) else (s,⟨7,to,0⟩,M):=by
 by_cases h4 : to % 4 = 0
 ·rw [qbn,if_neg (by omega),if_neg (by omega),hto,if_neg (Classical.not_not.2 h4),if_neg (stores_no' (by omega)),if_neg (writes_no' (by omega)),if_pos h4]
 ·rw [qbn,if_neg (by omega),if_neg (by omega),hto,if_pos h4,if_neg h4]
theorem do_load {M : MemG} {i : InsP} {s : StP} (hal : s.pc % 4 = 0) (h : 11 ≤ i.op ∧ i.op ≤ 15) : qbn M i s = if (qbv M (addrP i s) (qbr i.op).1 1).2 = 0 then
  (qem s (s.x.set i.rd (if (qbr i.op).2 = true then extP (qbv M (addrP i s) (qbr i.op).1 1).1 (8 * (qbr i.op).1) else (qbv M (addrP i s) (qbr i.op).1 1).1)) (u32 ((s.pc : Int) + 4)),noEv,M)
  else (s,⟨3,addrP i s,(qbv M (addrP i s) (qbr i.op).1 1).2⟩,M):=by
 have hl : qdx i.op = true:=decide_eq_true h
 have hv : qce M i s = (if (qbv M (addrP i s) (qbr i.op).1 1).2 = 0 then
   (if (qbr i.op).2 = true then extP (qbv M (addrP i s) (qbr i.op).1 1).1 (8 * (qbr i.op).1) else (qbv M (addrP i s) (qbr i.op).1 1).1,noEv)
   else (0, ⟨3, addrP i s, (qbv M (addrP i s) (qbr i.op).1 1).2⟩)) := by rw [qce, if_neg (by omega), if_neg (by omega), if_neg (by omega), if_pos hl]
 rw [do_next hal (by omega) (by omega) (by omega) (by omega) (by omega) (by omega) (by omega),hv]
 by_cases h0 : (qbv M (addrP i s) (qbr i.op).1 1).2 = 0
 ·rw [if_pos h0,if_pos h0]; exact if_pos rfl
 ·rw [if_neg h0,if_neg h0]; exact if_neg (show ¬ (3 : Nat) = 0 by decide)
theorem do_store {M : MemG} {i : InsP} {s : StP} (hal : s.pc % 4 = 0) (h : 16 ≤ i.op ∧ i.op ≤ 18) : qbn M i s = if (qca M (addrP i s) (qbr i.op).1 (regP s i.r2)).1 = 0 then (qem s s.x (u32 ((s.pc : Int) + 4)),noEv,(qca M (addrP i s) (qbr i.op).1 (regP s i.r2)).2)
  else (s,⟨4,addrP i s,(qca M (addrP i s) (qbr i.op).1 (regP s i.r2)).1⟩,(qca M (addrP i s) (qbr i.op).1 (regP s i.r2)).2):=by
 have hg:=goes_next (i:=i) (s:=s) (by omega) (by omega) (by omega)
 have ha:=next_al hal
 have hs : qfw i.op = true:=decide_eq_true h
 rw [qbn,if_neg (by omega),if_neg (by omega),hg,if_neg (Classical.not_not.2 ha),if_pos hs]
theorem do_op {M : MemG} {i : InsP} {s : StP} (hal : s.pc % 4 = 0) (h : 19 ≤ i.op ∧ i.op ≤ 45) : qbn M i s = (qem s (s.x.set i.rd (doP (kindA i.op) (regP s i.r1) (opdP i s))) (u32 ((s.pc : Int) + 4)),noEv,M):=by
 have hl : ¬ qdx i.op = true:=by rw [qdx,decide_eq_false (by omega)]; decide
 have hv : qce M i s = (doP (kindA i.op) (regP s i.r1) (opdP i s),noEv):=by rw [qce,if_neg (by omega),if_neg (by omega),if_neg (by omega),if_neg hl]
 rw [do_next hal (by omega) (by omega) (by omega) (by omega) (by omega) (by omega) (by omega),hv]
 exact if_pos rfl
theorem do_else {M : MemG} {i : InsP} {s : StP} (hal : s.pc % 4 = 0) (h : i.op = 46 ∨ i.op = 47) : qbn M i s = (qem s s.x (u32 ((s.pc : Int) + 4)),noEv,M):=by
 have hg:=goes_next (i:=i) (s:=s) (by omega) (by omega) (by omega)
 have ha:=next_al hal
 rw [qbn,if_neg (by omega),if_neg (by omega),hg,if_neg (Classical.not_not.2 ha),if_neg (stores_no' (by omega)),if_neg (writes_no' (by omega))]
end Go.Proofs.YthjelpbaljapiaaGreat

namespace Go.Proofs.YthjelpbaljapiaaGreat
open Go
inductive PT where
 | nil : PT
 | q (i : Nat) (t : PT) : PT
 | l (i : Nat) (t : PT) : PT
 | f (i : Nat) (tA : PT) (j : Nat) (tB : PT) : PT
def PT.len : PT → Nat
 | .nil=>0
 | .q _ t=>t.len + 1
 | .l _ t=>t.len + 1
 | .f _ tA _ _=>tA.len + 1
def PT.isNil : PT → Bool
 | .nil=>true
 | _=>false
def PT.last (x : Nat) : PT → Bool
 | .nil=>true
 | .q _ t=>t.last x
 | .l i t=>(!t.isNil || i == x) && t.last x
 | .f _ tA _ tB=>!tA.isNil && !tB.isNil && tA.last x && tB.last x
def okPT (ops : Array Oper) : PT → Array Bool → Bool
 | .nil,listed=>(Region.ready .any ops listed).isEmpty
 | .q i t,listed=>Region.free .any ops listed i && (Region.ready .any ops listed).contains i && okPT ops t (listed.setIfInBounds i true)
 | .l i t,listed=>(Region.ready .any ops listed == [i]) && okPT ops t (listed.setIfInBounds i true)
 | .f i tA j tB,listed=>(Region.ready .any ops listed == [i,j]) && (tA.len == tB.len) && okPT ops tA (listed.setIfInBounds i true) && okPT ops tB (listed.setIfInBounds j true)
def okRegionT (ops : Array Oper) (x : Nat) (t : PT) : Bool :=
 Region.noSelect ops && (t.len == ops.size) && qds ops x && t.last x && okPT ops t (Array.replicate ops.size false)
def wpPT (P : Program) (ops : Array Oper) (N : Act → World → Prop) : (World → Prop) → PT → Act → World → Prop
 | _,.nil,a,w=>N a w
 | S,.q i t,a,w=>∃ S' : World → Prop,(∀ w,S' w → S w) ∧ (S w → S' w) ∧ ∃ o v,ops[i]? = some o ∧ YieldsIf P ops S' o v a ∧ wpPT P ops N S' t (a.put o.dst v) w
 | S,.l i t,a,w=>wpOp P ops (Qn N) i (fun a' w'=>(t = .nil ∨ S w') ∧ wpPT P ops N S t a' w') a w
 | S,.f i tA j tB,a,w=>wpOp P ops (Qn N) i (fun a' w'=>(tA = .nil ∨ S w') ∧ wpPT P ops N S tA a' w') a w ∧ wpOp P ops (Qn N) j (fun a' w'=>(tB = .nil ∨ S w') ∧ wpPT P ops N S tB a' w') a w
theorem PT.notNil {t : PT} (h : (!t.isNil) = true) : t ≠ .nil:=fun e=>by subst e; cases h
section
variable {P : Program} {ops : Array Oper} {N : Act → World → Prop}
theorem pt_sound (hs : Region.noSelect ops = true) {x : Nat} (hx : qds ops x = true) : ∀ (t : PT) (S : World → Prop) (listed : Array Bool) (a : Act) (w : World),t.last x = true → Closed ops listed →
  okPT ops t listed = true → (t = .nil ∨ S w) → wpPT P ops N S t a w → wpL P ops (Qn N) S x t.len listed a w:=by
 intro t
 induction t with
 | nil =>
  intro S listed a w _ _ h _ hw
  exact ⟨by simpa [okPT] using h,hw⟩
 | q i t ih =>
  intro S listed a w hl hc h hS hw
  have hSw : S w:=by
   rcases hS with q | q
   ·cases q
   ·exact q
  simp only [okPT,Bool.and_eq_true] at h
  obtain ⟨S',hm,hSw',o,v,ho,hy,hk⟩:=hw
  have hSw':=hSw' hSw
  have hmem : i ∈ Region.ready .any ops listed:=by simpa using h.1.2
  exact wpL_mono hm _ _ _ _ (wpL_first ho hs hx (fun c a w hc=>hc.elim) _ _ _ _ hc (Region.free_spec ho h.1.1) hmem hy hSw' (ih S' _ _ _ hl (hc.set hmem) h.2 (.inr hSw') hk))
 | l i t ih =>
  intro S listed a w hl hc h hS hw
  simp only [okPT,Bool.and_eq_true,beq_iff_eq] at h
  simp only [PT.last,Bool.and_eq_true] at hl
  refine ⟨fun h0=>?_,fun j hj=>?_⟩
  ·rw [h.1] at h0; cases h0
  have hc':=hc.set hj
  rw [h.1] at hj
  simp at hj
  subst hj
  refine wpOp_mono (fun a' w' h'=>⟨?_,ih S _ _ _ hl.2 hc' h.2 h'.1 h'.2⟩) hw
  rcases h'.1 with q | q
  ·left
   have:=hl.1
   subst q
   simpa [PT.isNil] using this
  ·exact .inr q
 | f i tA j tB ihA ihB =>
  intro S listed a w hl hc h hS hw
  simp only [okPT,Bool.and_eq_true,beq_iff_eq] at h
  simp only [PT.last,Bool.and_eq_true] at hl
  obtain ⟨⟨⟨hr,hlen⟩,hokA⟩,hokB⟩:=h
  obtain ⟨⟨⟨nA,nB⟩,lA⟩,lB⟩:=hl
  refine ⟨fun h0=>?_,fun k hk=>?_⟩
  ·rw [hr] at h0; cases h0
  have hc':=hc.set hk
  rw [hr] at hk
  simp only [List.mem_cons,List.not_mem_nil,or_false] at hk
  rcases hk with rfl | rfl
  ·refine wpOp_mono (fun a' w' h'=>⟨?_,ihA S _ _ _ lA hc' hokA h'.1 h'.2⟩) hw.1
   rcases h'.1 with q | q
   ·exact absurd q (PT.notNil nA)
   ·exact .inr q
  ·refine wpOp_mono (fun a' w' h'=>⟨?_,?_⟩) hw.2
   ·rcases h'.1 with q | q
    ·exact absurd q (PT.notNil nB)
    ·exact .inr q
   ·show wpL P ops (Qn N) S x tA.len _ _ _
    rw [hlen]; exact ihB S _ _ _ lB hc' hokB h'.1 h'.2
end
def JT (P : Program) (ops : Array Oper) (Q : Exit → Act → World → Prop) (S : World → Prop) (n : Nat) (cx : Cx) (t : PT) (ρ : Hp) (E : Env) (L : Own) : Prop :=
 ∀ a w,At n E a → St cx ρ L w → wpPT P ops (Q .normal) S t a w
def tailT (P : Program) (ops : Array Oper) (Q : Exit → Act → World → Prop) (S : World → Prop) (t : PT) : Exit → Act → World → Prop
 | .normal,a,w=>(t = .nil ∨ S w) ∧ wpPT P ops (Q .normal) S t a w
 | _,_,_=>False
section
variable {P : Program} {Q : Exit → Act → World → Prop} {n : Nat} {cx : Cx} {ρ ρs : Hp} {E : Env} {L Ls : Own} {ops : Array Oper} {S : World → Prop} {t tA tB : PT} {i j : Nat} {o : Oper} {v : Value}
theorem JT.q (d : Nat) (hi : nth ops.toList i = some o) (hw : qga n ops E o true) (he : o.dst = some d) (hd : Nat.blt d n = true) (hy : Y P n cx ρs E Ls o v)
  (h : JT P ops Q (fun w=>St cx ρs Ls w) n cx t ρ ((d,v) :: E) L) : JT P ops Q (fun w=>St cx ρs Ls w) n cx (.q i t) ρ E L :=
 fun a w ha hs=>⟨_,fun _ h=>h,id,o,v,qbj hi,.inl ⟨hw a ha,fun w' h'=>hy a w' ha h'⟩,h _ _ (ha.put' he hd v) hs⟩
theorem JT.qskip (d : Nat) (hi : nth ops.toList i = some o) (hw : qga n ops E o false) (he : o.dst = some d) (hd : Nat.blt d n = true)
  (h : JT P ops Q S n cx t ρ ((d,undef) :: E) L) : JT P ops Q S n cx (.q i t) ρ E L :=
 fun a w ha hs=>⟨S,fun _ h=>h,id,o,undef,qbj hi,.inr ⟨hw a ha,rfl⟩,h _ _ (ha.put' he hd undef) hs⟩
theorem loudT (h : Jp P ops (tailT P ops Q S t) (fun _=>True) n cx [(i,false)] ρ E L) : ∀ a w,At n E a → St cx ρ L w → wpOp P ops (Qn (Q .normal)) i (fun a' w'=>(t = .nil ∨ S w') ∧ wpPT P ops (Q .normal) S t a' w') a w:=fun a w ha hs =>
 wpOp_mono (K:=fun a' w'=>([] = ([] : List (Nat × Bool)) ∨ True) ∧ ((t = .nil ∨ S w') ∧ wpPT P ops (Q .normal) S t a' w')) (fun a' w' h'=>h'.2) (wpOp_qn (h a w ha hs))
theorem JT.qes (h : Jp P ops (tailT P ops Q S t) (fun _=>True) n cx [(i,false)] ρ E L) : JT P ops Q S n cx (.l i t) ρ E L:=loudT h
theorem JT.fork (hA : JT P ops Q S n cx (.l i tA) ρ E L) (hB : JT P ops Q S n cx (.l j tB) ρ E L) : JT P ops Q S n cx (.f i tA j tB) ρ E L:=fun a w ha hs=>⟨hA a w ha hs,hB a w ha hs⟩
theorem JT.qer (hk : t = .nil ∨ ∀ w,St cx ρ L w → S w) (h : JT P ops Q S n cx t ρ E L) : Jp P ops (tailT P ops Q S t) (fun _=>True) n cx [] ρ E L:=fun a w ha hs=>⟨hk.imp id fun f=>f w hs,h a w ha hs⟩
theorem JT.nil (h : Jp P ops Q (fun _=>True) n cx [] ρ E L) : JT P ops Q S n cx .nil ρ E L:=h
theorem JT.split {c : Bool} (k : Nat) (ht : look E k = some (.bool c)) (h1 : c = true → JT P ops Q S n cx t ρ ((k,.bool true) :: E) L) (h2 : c = false → JT P ops Q S n cx t ρ ((k,.bool false) :: E) L) : JT P ops Q S n cx t ρ E L:=by
 cases c
 ·exact fun a w ha hs=>h2 rfl a w ⟨ha.defers,ha.size,fun j v e=>qdj ha ht e⟩ hs
 ·exact fun a w ha hs=>h1 rfl a w ⟨ha.defers,ha.size,fun j v e=>qdj ha ht e⟩ hs
theorem JT.slot {u u' : Value} (k : Nat) (ht : look E k = some u) (e : u = u') (h : JT P ops Q S n cx t ρ ((k,u') :: E) L) : JT P ops Q S n cx t ρ E L:=by
 subst e
 exact fun a w ha hs=>h a w ⟨ha.defers,ha.size,fun j v e=>qdj ha ht e⟩ hs
theorem JT.imp {A A' : qaz} (e : look L j = Option.some A) (f : ∀ k,A k → A' k) (h : JT P ops Q S n cx t ρ E ((j,A') :: L)) : JT P ops Q S n cx t ρ E L:=fun a w ha hs=>h a w ha (hs.imp e f)
theorem KT.st (hs : Subl Ls L) : t = .nil ∨ ∀ w,St cx ρ L w → St cx ρ Ls w:=.inr fun _ h=>h.sub hs
theorem KT.last {φ : Prop} : PT.nil = .nil ∨ φ:=.inl rfl
theorem JT.freeze {A : qaz} (e : look L j = some A) (up : Up A) (h : ∀ ρ',Hp.le ρ ρ' → A ρ' → JT P ops Q S n cx t ρ' E ((j,Emp) :: L)) : JT P ops Q S n cx t ρ E L:=fun a w ha hs =>
 let ⟨ρ',hle,hA,h2⟩:=hs.freeze e up; h ρ' hle hA a w ha h2
theorem Cd.drawnT {id : Nat} {ops : Array Oper} (Ls : Own) (hL : Subl Ls L) (x : Nat) (t : PT) (hm : P.follows .mixedOrders = true) (hok : okRegionT ops x t = true)
  (h : Hp.le cx.r0 ρ → JT P ops Q (fun w=>St cx ρ Ls w) n cx t ρ E L) : Cd P Q n cx ρ E L (.region id ops true):=fun a w ha hs=>by
 simp only [okRegionT,Bool.and_eq_true,beq_iff_eq] at hok
 obtain ⟨⟨⟨⟨o1,o2⟩,o3⟩,o4⟩,o5⟩:=hok
 refine wp_mono (wp_region_any (Q:=Qn (Q .normal)) hm (wpL_any (S:=fun w=>St cx ρ Ls w) (x:=x) _ _ _ _ ?_)) (qn_mono fun _ _ h=>h)
 have h1:=pt_sound o1 o3 t _ _ a _ o4 (fun j o _ hl=>by rw [Array.getD_eq_getD_getElem?,Array.getElem?_replicate] at hl; split at hl <;> simp at hl) o5 (.inr (hs.drew.sub hL)) (h hs.rle a _ ha hs.drew)
 rw [o2] at h1
 exact h1
end
section
variable {P : Program} {n : Nat} {cx : Cx} {ρ : Hp} {E : Env} {L : Own} {ops : Array Oper} {Q : Exit → Act → World → Prop} {S' : World → Prop} {π : List (Nat × Bool)}
theorem St.move {w : World} (hs : St cx ρ L w) {j k : Nat} {A : qaz} (hjk : j ≠ k) (e1 : look L j = some Emp) (e2 : look L k = some A) (up : Up A) : St cx ρ ((j,A) :: (k,Emp) :: L) w :=
 emp_cons ((hs.glue hjk e1 e2).imp (i:=j) (A:=Sep Emp A) (by rw [qah,if_pos rfl]) fun k ⟨h1,h2,_,a2,_,_,l2⟩=>up _ _ l2 a2)
theorem Cd.move {d : Code} (j k : Nat) {A : qaz} (hjk : j ≠ k) (e1 : look L j = some Emp) (e2 : look L k = some A) (up : Up A) (h : Cd P Q n cx ρ E ((j,A) :: (k,Emp) :: L) d) : Cd P Q n cx ρ E L d:=fun a w ha hs=>h a w ha (hs.move hjk e1 e2 up)
theorem Jp.move (j k : Nat) {A : qaz} (hjk : j ≠ k) (e1 : look L j = some Emp) (e2 : look L k = some A) (up : Up A) (h : Jp P ops Q S' n cx π ρ E ((j,A) :: (k,Emp) :: L)) : Jp P ops Q S' n cx π ρ E L:=fun a w ha hs=>h a w ha (hs.move hjk e1 e2 up)
end
end Go.Proofs.YthjelpbaljapiaaGreat

namespace Go.Proofs.YthjelpbaljapiaaGreat
open _root_.Go.Proofs.Tryz
open Go
def formT : List (Nat × Nat × Nat) := [(15, 0, 0), (55, 0, 0), (23, 0, 0), (111, 0, 0), (103, 0, 0),
 (99,0,0),(99,1,0),(99,4,0),(99,5,0),(99,6,0),(99,7,0),(3,0,0),(3,1,0),(3,2,0),(3,4,0),(3,5,0),(35,0,0),(35,1,0),(35,2,0),
 (19,0,0),(19,2,0),(19,3,0),(19,4,0),(19,6,0),(19,7,0),(19,1,0),(19,5,0),(19,5,32),
 (51,0,0),(51,0,32),(51,1,0),(51,2,0),(51,3,0),(51,4,0),(51,5,0),(51,5,32),(51,6,0),(51,7,0),
 (51, 0, 1), (51, 1, 1), (51, 2, 1), (51, 3, 1), (51, 4, 1), (51, 5, 1), (51, 6, 1), (51, 7, 1), (15, 0, 0), (15, 1, 0)]
def qfm (op : Nat) : Nat × Nat × Nat:=formT.getD op (0,0,0)
def formV (op : Nat) : Value:=.tuple #[.int .u32 ((qfm op).1 : Int),.int .u32 ((qfm op).2.1 : Int),.int .u32 ((qfm op).2.2 : Int)]
theorem form_spec (op : Nat) (h : 1 ≤ op ∧ op ≤ 47) : Spec Tryz.prog 49 #[.int .i64 op] (fun _=>True) [] (fun ρ ρ' v L=>ρ' = ρ ∧ v = formV op ∧ L = []):=by
  refine Spec.of 74 Tryz.func49 rfl Tryz.ntmps49 [(0,_)] rfl rfl ?_
  intro cx ρ hr h0
  refine Cd.seq fun K1 hK1=>?_
  refine Cd.qac [(0,false),(1,false),(2,false)] rfl rfl ?_
  refine Jp.y 2 rfl (qaa rfl) rfl rfl Kp.true (Y.assign rfl rfl) ?_
  refine Jp.y 3 rfl (qaa rfl) rfl rfl Kp.true (Y.assign rfl rfl) ?_
  refine Jp.y 4 rfl (qaa rfl) rfl rfl Kp.true (Y.assign rfl rfl) ?_
  refine Jp.qae hK1 ?_
  refine Cd.seq fun K2 hK2=>?_
  refine Cd.block ?_
  refine Cd.seq fun K3 hK3=>?_
  refine Cd.qac [(0,false),(1,false),(2,false)] rfl rfl ?_
  refine Jp.y 6 rfl (qaa rfl) rfl rfl Kp.true (Y.move rfl rfl) ?_
  refine Jp.y 7 rfl (qaa rfl) rfl rfl Kp.true (Y.eql rfl rfl rfl) ?_
  refine Jp.y 5 rfl (qaa rfl) rfl rfl Kp.true (Y.assign rfl rfl) ?_
  refine Jp.qae hK3 ?_
  refine Cd.qal rfl (fun g5=>?_) (fun g5=>?_)
  · skip
    try simp only [sG0] at g5
    refine Cd.seq fun K4 hK4=>?_
    refine Cd.qac [(0,false),(1,false),(2,false)] rfl rfl ?_
    refine Jp.y 2 rfl (qaa rfl) rfl rfl Kp.true (Y.assign rfl rfl) ?_
    refine Jp.y 3 rfl (qaa rfl) rfl rfl Kp.true (Y.assign rfl rfl) ?_
    refine Jp.y 4 rfl (qaa rfl) rfl rfl Kp.true (Y.assign rfl rfl) ?_
    refine Jp.qae hK4 ?_
    refine Cd.ret [] rfl (qfr rfl rfl rfl rfl) trivial ⟨rfl, by
      (obtain rfl : op = 1 := by omega
       rfl), rfl⟩
  · skip
    try simp only [sG0] at g5
    refine Cd.seq fun K5 hK5=>?_
    refine Cd.qac [(0,false),(1,false),(2,false)] rfl rfl ?_
    refine Jp.y 9 rfl (qaa rfl) rfl rfl Kp.true (Y.move rfl rfl) ?_
    refine Jp.y 10 rfl (qaa rfl) rfl rfl Kp.true (Y.eql rfl rfl rfl) ?_
    refine Jp.y 8 rfl (qaa rfl) rfl rfl Kp.true (Y.assign rfl rfl) ?_
    refine Jp.qae hK5 ?_
    refine Cd.qal rfl (fun g8=>?_) (fun g8=>?_)
    · skip
      try simp only [sG0] at g8
      refine Cd.seq fun K6 hK6=>?_
      refine Cd.qac [(0,false),(1,false),(2,false)] rfl rfl ?_
      refine Jp.y 2 rfl (qaa rfl) rfl rfl Kp.true (Y.assign rfl rfl) ?_
      refine Jp.y 3 rfl (qaa rfl) rfl rfl Kp.true (Y.assign rfl rfl) ?_
      refine Jp.y 4 rfl (qaa rfl) rfl rfl Kp.true (Y.assign rfl rfl) ?_
      refine Jp.qae hK6 ?_
      refine Cd.ret [] rfl (qfr rfl rfl rfl rfl) trivial ⟨rfl, by
        (obtain rfl : op = 2 := by omega
         rfl), rfl⟩
    · skip
      try simp only [sG0] at g8
      refine Cd.seq fun K7 hK7=>?_
      refine Cd.qac [(0,false),(1,false),(2,false)] rfl rfl ?_
      refine Jp.y 12 rfl (qaa rfl) rfl rfl Kp.true (Y.move rfl rfl) ?_
      refine Jp.y 13 rfl (qaa rfl) rfl rfl Kp.true (Y.eql rfl rfl rfl) ?_
      refine Jp.y 11 rfl (qaa rfl) rfl rfl Kp.true (Y.assign rfl rfl) ?_
      refine Jp.qae hK7 ?_
      refine Cd.qal rfl (fun g11=>?_) (fun g11=>?_)
      · skip
        try simp only [sG0] at g11
        refine Cd.seq fun K8 hK8=>?_
        refine Cd.qac [(0,false),(1,false),(2,false)] rfl rfl ?_
        refine Jp.y 2 rfl (qaa rfl) rfl rfl Kp.true (Y.assign rfl rfl) ?_
        refine Jp.y 3 rfl (qaa rfl) rfl rfl Kp.true (Y.assign rfl rfl) ?_
        refine Jp.y 4 rfl (qaa rfl) rfl rfl Kp.true (Y.assign rfl rfl) ?_
        refine Jp.qae hK8 ?_
        refine Cd.ret [] rfl (qfr rfl rfl rfl rfl) trivial ⟨rfl, by
          (obtain rfl : op = 3 := by omega
           rfl), rfl⟩
      · skip
        try simp only [sG0] at g11
        refine Cd.seq fun K9 hK9=>?_
        refine Cd.qac [(0,false),(1,false),(2,false)] rfl rfl ?_
        refine Jp.y 15 rfl (qaa rfl) rfl rfl Kp.true (Y.move rfl rfl) ?_
        refine Jp.y 16 rfl (qaa rfl) rfl rfl Kp.true (Y.eql rfl rfl rfl) ?_
        refine Jp.y 14 rfl (qaa rfl) rfl rfl Kp.true (Y.assign rfl rfl) ?_
        refine Jp.qae hK9 ?_
        refine Cd.qal rfl (fun g14=>?_) (fun g14=>?_)
        · skip
          try simp only [sG0] at g14
          refine Cd.seq fun K10 hK10=>?_
          refine Cd.qac [(0,false),(1,false),(2,false)] rfl rfl ?_
          refine Jp.y 2 rfl (qaa rfl) rfl rfl Kp.true (Y.assign rfl rfl) ?_
          refine Jp.y 3 rfl (qaa rfl) rfl rfl Kp.true (Y.assign rfl rfl) ?_
          refine Jp.y 4 rfl (qaa rfl) rfl rfl Kp.true (Y.assign rfl rfl) ?_
          refine Jp.qae hK10 ?_
          refine Cd.ret [] rfl (qfr rfl rfl rfl rfl) trivial ⟨rfl, by
            (obtain rfl : op = 4 := by omega
             rfl), rfl⟩
        · skip
          try simp only [sG0] at g14
          refine Cd.seq fun K11 hK11=>?_
          refine Cd.qac [(0,false),(1,false),(2,false)] rfl rfl ?_
          refine Jp.y 18 rfl (qaa rfl) rfl rfl Kp.true (Y.move rfl rfl) ?_
          refine Jp.y 19 rfl (qaa rfl) rfl rfl Kp.true (Y.leq rfl rfl rfl) ?_
          refine Jp.y 17 rfl (qaa rfl) rfl rfl Kp.true (Y.assign rfl rfl) ?_
          refine Jp.qae hK11 ?_
          refine Cd.qal rfl (fun g17=>?_) (fun g17=>?_)
          · skip
            try simp only [sG0] at g17
            refine Cd.seq fun K12 hK12=>?_
            have hidx : ([Value.int .u32 0,Value.int .u32 1,Value.int .u32 4,Value.int .u32 5,Value.int .u32 6,Value.int .u32 7] : List Value)[op - 5]? = some (.int .u32 ((qfm op).2.1 : Int)):=by
              rcases (show op = 5 ∨ op = 6 ∨ op = 7 ∨ op = 8 ∨ op = 9 ∨ op = 10 by omega) with rfl | rfl | rfl | rfl | rfl | rfl <;> rfl
            refine Cd.drawn [] trivial [(1,true),(2,true),(5,true),(0,false),(3,true),(4,false),(6,true),(7,true)] follows (by kernel_rfl) (fun hrl=>?_)
            refine Jp.q 21 rfl (qaa rfl) rfl rfl (Y.move rfl rfl) ?_
            refine Jp.q 22 rfl (qaa rfl) rfl rfl (Y.qdo rfl rfl rfl (by exact qag (by omega) (by omega))) ?_
            refine Jp.q 2 rfl (qaa rfl) rfl rfl (Y.assign rfl rfl) ?_
            refine Jp.lit 20 7 [(0,_),(1,_),(2,_),(3,_),(4,_),(5,_)] [_,_,_,_,_,_] rfl (qaa rfl) rfl rfl rfl rfl underlying22 sizeOf24 zeroValue24 rfl rfl rfl rfl rfl fun b7=>⟨(Kp.st trivial),?_⟩
            refine Jp.q 23 rfl (qaa rfl) rfl rfl (Y.qar (q:=op - 5) rfl rfl rfl underlying22 sizeOf24 (by omega) (by omega) (by omega)) ?_
            refine Jp.y 24 rfl (qaa rfl) rfl rfl (Kp.st trivial) (Y.qdd 7 (q:=op - 5) rfl isAgg24 rfl rfl rfl hidx) ?_
            refine Jp.q 3 rfl (qaa rfl) rfl rfl (Y.assign rfl rfl) ?_
            refine Jp.q 4 rfl (qaa rfl) rfl rfl (Y.assign rfl rfl) ?_
            refine Jp.qae hK12 ?_
            refine Cd.ret [] rfl (qfr rfl rfl rfl rfl) trivial ⟨rfl,by rcases (show op = 5 ∨ op = 6 ∨ op = 7 ∨ op = 8 ∨ op = 9 ∨ op = 10 by omega) with rfl | rfl | rfl | rfl | rfl | rfl <;> rfl,rfl⟩
          · skip
            try simp only [sG0] at g17
            refine Cd.seq fun K14 hK14=>?_
            refine Cd.qac [(0,false),(1,false),(2,false)] rfl rfl ?_
            refine Jp.y 26 rfl (qaa rfl) rfl rfl Kp.true (Y.move rfl rfl) ?_
            refine Jp.y 27 rfl (qaa rfl) rfl rfl Kp.true (Y.leq rfl rfl rfl) ?_
            refine Jp.y 25 rfl (qaa rfl) rfl rfl Kp.true (Y.assign rfl rfl) ?_
            refine Jp.qae hK14 ?_
            refine Cd.qal rfl (fun g25=>?_) (fun g25=>?_)
            · skip
              try simp only [sG0] at g25
              refine Cd.seq fun K15 hK15=>?_
              have hidx : ([Value.int .u32 0,Value.int .u32 1,Value.int .u32 2,Value.int .u32 4,Value.int .u32 5] : List Value)[op - 11]? = some (.int .u32 ((qfm op).2.1 : Int)):=by
                rcases (show op = 11 ∨ op = 12 ∨ op = 13 ∨ op = 14 ∨ op = 15 by omega) with rfl | rfl | rfl | rfl | rfl <;> rfl
              refine Cd.drawn [] trivial [(1,true),(2,true),(5,true),(0,false),(3,true),(4,false),(6,true),(7,true)] follows (by kernel_rfl) (fun hrl=>?_)
              refine Jp.q 29 rfl (qaa rfl) rfl rfl (Y.move rfl rfl) ?_
              refine Jp.q 30 rfl (qaa rfl) rfl rfl (Y.qdo rfl rfl rfl (by exact qag (by omega) (by omega))) ?_
              refine Jp.q 2 rfl (qaa rfl) rfl rfl (Y.assign rfl rfl) ?_
              refine Jp.lit 28 7 [(0,_),(1,_),(2,_),(3,_),(4,_)] [_,_,_,_,_] rfl (qaa rfl) rfl rfl rfl rfl underlying22 sizeOf24 zeroValue24 rfl rfl rfl rfl rfl fun b7=>⟨(Kp.st trivial),?_⟩
              refine Jp.q 31 rfl (qaa rfl) rfl rfl (Y.qar (q:=op - 11) rfl rfl rfl underlying22 sizeOf24 (by omega) (by omega) (by omega)) ?_
              refine Jp.y 32 rfl (qaa rfl) rfl rfl (Kp.st trivial) (Y.qdd 7 (q:=op - 11) rfl isAgg24 rfl rfl rfl hidx) ?_
              refine Jp.q 3 rfl (qaa rfl) rfl rfl (Y.assign rfl rfl) ?_
              refine Jp.q 4 rfl (qaa rfl) rfl rfl (Y.assign rfl rfl) ?_
              refine Jp.qae hK15 ?_
              refine Cd.ret [] rfl (qfr rfl rfl rfl rfl) trivial ⟨rfl,by rcases (show op = 11 ∨ op = 12 ∨ op = 13 ∨ op = 14 ∨ op = 15 by omega) with rfl | rfl | rfl | rfl | rfl <;> rfl,rfl⟩
            · skip
              try simp only [sG0] at g25
              refine Cd.seq fun K17 hK17=>?_
              refine Cd.qac [(0,false),(1,false),(2,false)] rfl rfl ?_
              refine Jp.y 34 rfl (qaa rfl) rfl rfl Kp.true (Y.move rfl rfl) ?_
              refine Jp.y 35 rfl (qaa rfl) rfl rfl Kp.true (Y.leq rfl rfl rfl) ?_
              refine Jp.y 33 rfl (qaa rfl) rfl rfl Kp.true (Y.assign rfl rfl) ?_
              refine Jp.qae hK17 ?_
              refine Cd.qal rfl (fun g33=>?_) (fun g33=>?_)
              · skip
                try simp only [sG0] at g33
                refine Cd.seq fun K18 hK18=>?_
                refine Cd.qac [(0,false),(1,false),(2,false),(3,false),(4,false),(5,false)] rfl rfl ?_
                refine Jp.y 36 rfl (qaa rfl) rfl rfl Kp.true (Y.move rfl rfl) ?_
                refine Jp.y 37 rfl (qaa rfl) rfl rfl Kp.true (Y.qdo rfl rfl rfl (by exact qag (by omega) (by omega))) ?_
                refine Jp.y 38 rfl (qaa rfl) rfl rfl Kp.true (Y.qap rfl rfl underlying3 underlying24 (by exact qax (by omega) (by omega))) ?_
                refine Jp.y 2 rfl (qaa rfl) rfl rfl Kp.true (Y.assign rfl rfl) ?_
                refine Jp.y 3 rfl (qaa rfl) rfl rfl Kp.true (Y.assign rfl rfl) ?_
                refine Jp.y 4 rfl (qaa rfl) rfl rfl Kp.true (Y.assign rfl rfl) ?_
                refine Jp.qae hK18 ?_
                refine Cd.ret [] rfl (qfr rfl rfl rfl rfl) trivial ⟨rfl, by
                  (rcases (show op = 16 ∨ op = 17 ∨ op = 18 by omega) with rfl | rfl | rfl <;> rfl), rfl⟩
              · skip
                try simp only [sG0] at g33
                refine Cd.seq fun K19 hK19=>?_
                refine Cd.qac [(0,false),(1,false),(2,false)] rfl rfl ?_
                refine Jp.y 40 rfl (qaa rfl) rfl rfl Kp.true (Y.move rfl rfl) ?_
                refine Jp.y 41 rfl (qaa rfl) rfl rfl Kp.true (Y.leq rfl rfl rfl) ?_
                refine Jp.y 39 rfl (qaa rfl) rfl rfl Kp.true (Y.assign rfl rfl) ?_
                refine Jp.qae hK19 ?_
                refine Cd.qal rfl (fun g39=>?_) (fun g39=>?_)
                · skip
                  try simp only [sG0] at g39
                  refine Cd.seq fun K20 hK20=>?_
                  have hidx : ([Value.int .u32 0,Value.int .u32 2,Value.int .u32 3,Value.int .u32 4,Value.int .u32 6,Value.int .u32 7,Value.int .u32 1,Value.int .u32 5,Value.int .u32 5] : List Value)[op - 19]? = some (.int .u32 ((qfm op).2.1 : Int)):=by
                    rcases (show op = 19 ∨ op = 20 ∨ op = 21 ∨ op = 22 ∨ op = 23 ∨ op = 24 ∨ op = 25 ∨ op = 26 ∨ op = 27 by omega) with rfl | rfl | rfl | rfl | rfl | rfl | rfl | rfl | rfl <;> rfl
                  have hidx2 : ([Value.int .u32 0,Value.int .u32 0,Value.int .u32 0,Value.int .u32 0,Value.int .u32 0,Value.int .u32 0,Value.int .u32 0,Value.int .u32 0,Value.int .u32 32] : List Value)[op - 19]? = some (.int .u32 ((qfm op).2.2 : Int)):=by
                    rcases (show op = 19 ∨ op = 20 ∨ op = 21 ∨ op = 22 ∨ op = 23 ∨ op = 24 ∨ op = 25 ∨ op = 26 ∨ op = 27 by omega) with rfl | rfl | rfl | rfl | rfl | rfl | rfl | rfl | rfl <;> rfl
                  refine Cd.drawnT [] trivial 13 (.q 1 (.q 2 (.q 6 (.q 7 (.q 10 (.f 0 (.q 3 (.f 4 (.q 11 (.l 5 (.q 8 (.l 9 (.q 12 .nil))))) 5 (.q 8 (.f 4 (.q 11 (.l 9 (.q 12 .nil))) 9 (.l 4 (.q 11 (.q 12 .nil))))))) 5 (.q 8 (.f 0 (.q 3 (.f 4 (.q 11 (.l 9 (.q 12 .nil))) 9 (.l 4 (.q 11 (.q 12 .nil))))) 9 (.l 0 (.q 3 (.l 4 (.q 11 (.q 12 .nil))))))))))))) follows (by kernel_rfl) (fun hrl=>?_)
                  refine JT.q 43 rfl (qaa rfl) rfl rfl (Y.move rfl rfl) ?_
                  refine JT.q 44 rfl (qaa rfl) rfl rfl (Y.qdo rfl rfl rfl (by exact qag (by omega) (by omega))) ?_
                  refine JT.q 48 rfl (qaa rfl) rfl rfl (Y.move rfl rfl) ?_
                  refine JT.q 49 rfl (qaa rfl) rfl rfl (Y.qdo rfl rfl rfl (by exact qag (by omega) (by omega))) ?_
                  refine JT.q 2 rfl (qaa rfl) rfl rfl (Y.assign rfl rfl) ?_
                  refine JT.fork ?_ ?_
                  · skip
                    refine JT.qes ?_
                    refine Jp.lit 42 7 [(0,_),(1,_),(2,_),(3,_),(4,_),(5,_),(6,_),(7,_),(8,_)] [_,_,_,_,_,_,_,_,_] rfl (qaa rfl) rfl rfl rfl rfl underlying22 sizeOf24 zeroValue24 rfl rfl rfl rfl rfl fun b7=>⟨Kp.true,?_⟩
                    refine JT.qer (KT.st trivial) ?_
                    refine JT.q 45 rfl (qaa rfl) rfl rfl (Y.qar (q:=op - 19) rfl rfl rfl underlying22 sizeOf24 (by omega) (by omega) (by omega)) ?_
                    refine JT.fork ?_ ?_
                    · skip
                      refine JT.qes ?_
                      refine Jp.y 46 rfl (qaa rfl) rfl rfl Kp.true (Y.qdd 7 (q:=op - 19) rfl isAgg24 rfl rfl rfl hidx) ?_
                      refine JT.qer (KT.st trivial) ?_
                      refine JT.q 3 rfl (qaa rfl) rfl rfl (Y.assign rfl rfl) ?_
                      refine JT.qes ?_
                      refine Jp.lit 47 8 [(0,_),(1,_),(2,_),(3,_),(4,_),(5,_),(6,_),(7,_),(8,_)] [_,_,_,_,_,_,_,_,_] rfl (qaa rfl) rfl rfl rfl rfl underlying22 sizeOf24 zeroValue24 rfl rfl rfl rfl rfl fun b8=>⟨Kp.true,?_⟩
                      refine JT.qer (KT.st trivial) ?_
                      refine JT.q 50 rfl (qaa rfl) rfl rfl (Y.qar (q:=op - 19) rfl rfl rfl underlying22 sizeOf24 (by omega) (by omega) (by omega)) ?_
                      refine JT.qes ?_
                      refine Jp.y 51 rfl (qaa rfl) rfl rfl Kp.true (Y.qdd 8 (q:=op - 19) rfl isAgg24 rfl rfl rfl hidx2) ?_
                      refine JT.qer (KT.st trivial) ?_
                      refine JT.q 4 rfl (qaa rfl) rfl rfl (Y.assign rfl rfl) ?_
                      refine JT.nil ?_
                      refine Jp.qae hK20 ?_
                      refine Cd.ret [] rfl (qfr rfl rfl rfl rfl) trivial ⟨rfl,by rcases (show op = 19 ∨ op = 20 ∨ op = 21 ∨ op = 22 ∨ op = 23 ∨ op = 24 ∨ op = 25 ∨ op = 26 ∨ op = 27 by omega) with rfl | rfl | rfl | rfl | rfl | rfl | rfl | rfl | rfl <;> rfl,rfl⟩
                    · skip
                      refine JT.qes ?_
                      refine Jp.lit 47 8 [(0,_),(1,_),(2,_),(3,_),(4,_),(5,_),(6,_),(7,_),(8,_)] [_,_,_,_,_,_,_,_,_] rfl (qaa rfl) rfl rfl rfl rfl underlying22 sizeOf24 zeroValue24 rfl rfl rfl rfl rfl fun b8=>⟨Kp.true,?_⟩
                      refine JT.qer (KT.st trivial) ?_
                      refine JT.q 50 rfl (qaa rfl) rfl rfl (Y.qar (q:=op - 19) rfl rfl rfl underlying22 sizeOf24 (by omega) (by omega) (by omega)) ?_
                      refine JT.fork ?_ ?_
                      · skip
                        refine JT.qes ?_
                        refine Jp.y 46 rfl (qaa rfl) rfl rfl Kp.true (Y.qdd 7 (q:=op - 19) rfl isAgg24 rfl rfl rfl hidx) ?_
                        refine JT.qer (KT.st trivial) ?_
                        refine JT.q 3 rfl (qaa rfl) rfl rfl (Y.assign rfl rfl) ?_
                        refine JT.qes ?_
                        refine Jp.y 51 rfl (qaa rfl) rfl rfl Kp.true (Y.qdd 8 (q:=op - 19) rfl isAgg24 rfl rfl rfl hidx2) ?_
                        refine JT.qer (KT.st trivial) ?_
                        refine JT.q 4 rfl (qaa rfl) rfl rfl (Y.assign rfl rfl) ?_
                        refine JT.nil ?_
                        refine Jp.qae hK20 ?_
                        refine Cd.ret [] rfl (qfr rfl rfl rfl rfl) trivial ⟨rfl,by rcases (show op = 19 ∨ op = 20 ∨ op = 21 ∨ op = 22 ∨ op = 23 ∨ op = 24 ∨ op = 25 ∨ op = 26 ∨ op = 27 by omega) with rfl | rfl | rfl | rfl | rfl | rfl | rfl | rfl | rfl <;> rfl,rfl⟩
                      · skip
                        refine JT.qes ?_
                        refine Jp.y 51 rfl (qaa rfl) rfl rfl Kp.true (Y.qdd 8 (q:=op - 19) rfl isAgg24 rfl rfl rfl hidx2) ?_
                        refine JT.qer (KT.st trivial) ?_
                        refine JT.qes ?_
                        refine Jp.y 46 rfl (qaa rfl) rfl rfl Kp.true (Y.qdd 7 (q:=op - 19) rfl isAgg24 rfl rfl rfl hidx) ?_
                        refine JT.qer (KT.st trivial) ?_
                        refine JT.q 3 rfl (qaa rfl) rfl rfl (Y.assign rfl rfl) ?_
                        refine JT.q 4 rfl (qaa rfl) rfl rfl (Y.assign rfl rfl) ?_
                        refine JT.nil ?_
                        refine Jp.qae hK20 ?_
                        refine Cd.ret [] rfl (qfr rfl rfl rfl rfl) trivial ⟨rfl,by rcases (show op = 19 ∨ op = 20 ∨ op = 21 ∨ op = 22 ∨ op = 23 ∨ op = 24 ∨ op = 25 ∨ op = 26 ∨ op = 27 by omega) with rfl | rfl | rfl | rfl | rfl | rfl | rfl | rfl | rfl <;> rfl,rfl⟩
                  · skip
                    refine JT.qes ?_
                    refine Jp.lit 47 8 [(0,_),(1,_),(2,_),(3,_),(4,_),(5,_),(6,_),(7,_),(8,_)] [_,_,_,_,_,_,_,_,_] rfl (qaa rfl) rfl rfl rfl rfl underlying22 sizeOf24 zeroValue24 rfl rfl rfl rfl rfl fun b8=>⟨Kp.true,?_⟩
                    refine JT.qer (KT.st trivial) ?_
                    refine JT.q 50 rfl (qaa rfl) rfl rfl (Y.qar (q:=op - 19) rfl rfl rfl underlying22 sizeOf24 (by omega) (by omega) (by omega)) ?_
                    refine JT.fork ?_ ?_
                    · skip
                      refine JT.qes ?_
                      refine Jp.lit 42 7 [(0,_),(1,_),(2,_),(3,_),(4,_),(5,_),(6,_),(7,_),(8,_)] [_,_,_,_,_,_,_,_,_] rfl (qaa rfl) rfl rfl rfl rfl underlying22 sizeOf24 zeroValue24 rfl rfl rfl rfl rfl fun b7=>⟨Kp.true,?_⟩
                      refine JT.qer (KT.st trivial) ?_
                      refine JT.q 45 rfl (qaa rfl) rfl rfl (Y.qar (q:=op - 19) rfl rfl rfl underlying22 sizeOf24 (by omega) (by omega) (by omega)) ?_
                      refine JT.fork ?_ ?_
                      · skip
                        refine JT.qes ?_
                        refine Jp.y 46 rfl (qaa rfl) rfl rfl Kp.true (Y.qdd 7 (q:=op - 19) rfl isAgg24 rfl rfl rfl hidx) ?_
                        refine JT.qer (KT.st trivial) ?_
                        refine JT.q 3 rfl (qaa rfl) rfl rfl (Y.assign rfl rfl) ?_
                        refine JT.qes ?_
                        refine Jp.y 51 rfl (qaa rfl) rfl rfl Kp.true (Y.qdd 8 (q:=op - 19) rfl isAgg24 rfl rfl rfl hidx2) ?_
                        refine JT.qer (KT.st trivial) ?_
                        refine JT.q 4 rfl (qaa rfl) rfl rfl (Y.assign rfl rfl) ?_
                        refine JT.nil ?_
                        refine Jp.qae hK20 ?_
                        refine Cd.ret [] rfl (qfr rfl rfl rfl rfl) trivial ⟨rfl,by rcases (show op = 19 ∨ op = 20 ∨ op = 21 ∨ op = 22 ∨ op = 23 ∨ op = 24 ∨ op = 25 ∨ op = 26 ∨ op = 27 by omega) with rfl | rfl | rfl | rfl | rfl | rfl | rfl | rfl | rfl <;> rfl,rfl⟩
                      · skip
                        refine JT.qes ?_
                        refine Jp.y 51 rfl (qaa rfl) rfl rfl Kp.true (Y.qdd 8 (q:=op - 19) rfl isAgg24 rfl rfl rfl hidx2) ?_
                        refine JT.qer (KT.st trivial) ?_
                        refine JT.qes ?_
                        refine Jp.y 46 rfl (qaa rfl) rfl rfl Kp.true (Y.qdd 7 (q:=op - 19) rfl isAgg24 rfl rfl rfl hidx) ?_
                        refine JT.qer (KT.st trivial) ?_
                        refine JT.q 3 rfl (qaa rfl) rfl rfl (Y.assign rfl rfl) ?_
                        refine JT.q 4 rfl (qaa rfl) rfl rfl (Y.assign rfl rfl) ?_
                        refine JT.nil ?_
                        refine Jp.qae hK20 ?_
                        refine Cd.ret [] rfl (qfr rfl rfl rfl rfl) trivial ⟨rfl,by rcases (show op = 19 ∨ op = 20 ∨ op = 21 ∨ op = 22 ∨ op = 23 ∨ op = 24 ∨ op = 25 ∨ op = 26 ∨ op = 27 by omega) with rfl | rfl | rfl | rfl | rfl | rfl | rfl | rfl | rfl <;> rfl,rfl⟩
                    · skip
                      refine JT.qes ?_
                      refine Jp.y 51 rfl (qaa rfl) rfl rfl Kp.true (Y.qdd 8 (q:=op - 19) rfl isAgg24 rfl rfl rfl hidx2) ?_
                      refine JT.qer (KT.st trivial) ?_
                      refine JT.qes ?_
                      refine Jp.lit 42 7 [(0,_),(1,_),(2,_),(3,_),(4,_),(5,_),(6,_),(7,_),(8,_)] [_,_,_,_,_,_,_,_,_] rfl (qaa rfl) rfl rfl rfl rfl underlying22 sizeOf24 zeroValue24 rfl rfl rfl rfl rfl fun b7=>⟨Kp.true,?_⟩
                      refine JT.qer (KT.st trivial) ?_
                      refine JT.q 45 rfl (qaa rfl) rfl rfl (Y.qar (q:=op - 19) rfl rfl rfl underlying22 sizeOf24 (by omega) (by omega) (by omega)) ?_
                      refine JT.qes ?_
                      refine Jp.y 46 rfl (qaa rfl) rfl rfl Kp.true (Y.qdd 7 (q:=op - 19) rfl isAgg24 rfl rfl rfl hidx) ?_
                      refine JT.qer (KT.st trivial) ?_
                      refine JT.q 3 rfl (qaa rfl) rfl rfl (Y.assign rfl rfl) ?_
                      refine JT.q 4 rfl (qaa rfl) rfl rfl (Y.assign rfl rfl) ?_
                      refine JT.nil ?_
                      refine Jp.qae hK20 ?_
                      refine Cd.ret [] rfl (qfr rfl rfl rfl rfl) trivial ⟨rfl,by rcases (show op = 19 ∨ op = 20 ∨ op = 21 ∨ op = 22 ∨ op = 23 ∨ op = 24 ∨ op = 25 ∨ op = 26 ∨ op = 27 by omega) with rfl | rfl | rfl | rfl | rfl | rfl | rfl | rfl | rfl <;> rfl,rfl⟩
                · skip
                  try simp only [sG0] at g39
                  refine Cd.seq fun K21 hK21=>?_
                  refine Cd.qac [(0,false),(1,false),(2,false)] rfl rfl ?_
                  refine Jp.y 53 rfl (qaa rfl) rfl rfl Kp.true (Y.move rfl rfl) ?_
                  refine Jp.y 54 rfl (qaa rfl) rfl rfl Kp.true (Y.leq rfl rfl rfl) ?_
                  refine Jp.y 52 rfl (qaa rfl) rfl rfl Kp.true (Y.assign rfl rfl) ?_
                  refine Jp.qae hK21 ?_
                  refine Cd.qal rfl (fun g52=>?_) (fun g52=>?_)
                  · skip
                    try simp only [sG0] at g52
                    refine Cd.seq fun K22 hK22=>?_
                    have hidx : ([Value.int .u32 0,Value.int .u32 0,Value.int .u32 1,Value.int .u32 2,Value.int .u32 3,Value.int .u32 4,Value.int .u32 5,Value.int .u32 5,Value.int .u32 6,Value.int .u32 7] : List Value)[op - 28]? = some (.int .u32 ((qfm op).2.1 : Int)):=by
                      rcases (show op = 28 ∨ op = 29 ∨ op = 30 ∨ op = 31 ∨ op = 32 ∨ op = 33 ∨ op = 34 ∨ op = 35 ∨ op = 36 ∨ op = 37 by omega) with rfl | rfl | rfl | rfl | rfl | rfl | rfl | rfl | rfl | rfl <;> rfl
                    have hidx2 : ([Value.int .u32 0,Value.int .u32 32,Value.int .u32 0,Value.int .u32 0,Value.int .u32 0,Value.int .u32 0,Value.int .u32 0,Value.int .u32 32,Value.int .u32 0,Value.int .u32 0] : List Value)[op - 28]? = some (.int .u32 ((qfm op).2.2 : Int)):=by
                      rcases (show op = 28 ∨ op = 29 ∨ op = 30 ∨ op = 31 ∨ op = 32 ∨ op = 33 ∨ op = 34 ∨ op = 35 ∨ op = 36 ∨ op = 37 by omega) with rfl | rfl | rfl | rfl | rfl | rfl | rfl | rfl | rfl | rfl <;> rfl
                    refine Cd.drawnT [] trivial 13 (.q 1 (.q 2 (.q 6 (.q 7 (.q 10 (.f 0 (.q 3 (.f 4 (.q 11 (.l 5 (.q 8 (.l 9 (.q 12 .nil))))) 5 (.q 8 (.f 4 (.q 11 (.l 9 (.q 12 .nil))) 9 (.l 4 (.q 11 (.q 12 .nil))))))) 5 (.q 8 (.f 0 (.q 3 (.f 4 (.q 11 (.l 9 (.q 12 .nil))) 9 (.l 4 (.q 11 (.q 12 .nil))))) 9 (.l 0 (.q 3 (.l 4 (.q 11 (.q 12 .nil))))))))))))) follows (by kernel_rfl) (fun hrl=>?_)
                    refine JT.q 56 rfl (qaa rfl) rfl rfl (Y.move rfl rfl) ?_
                    refine JT.q 57 rfl (qaa rfl) rfl rfl (Y.qdo rfl rfl rfl (by exact qag (by omega) (by omega))) ?_
                    refine JT.q 61 rfl (qaa rfl) rfl rfl (Y.move rfl rfl) ?_
                    refine JT.q 62 rfl (qaa rfl) rfl rfl (Y.qdo rfl rfl rfl (by exact qag (by omega) (by omega))) ?_
                    refine JT.q 2 rfl (qaa rfl) rfl rfl (Y.assign rfl rfl) ?_
                    refine JT.fork ?_ ?_
                    · skip
                      refine JT.qes ?_
                      refine Jp.lit 55 7 [(0,_),(1,_),(2,_),(3,_),(4,_),(5,_),(6,_),(7,_),(8,_),(9,_)] [_,_,_,_,_,_,_,_,_,_] rfl (qaa rfl) rfl rfl rfl rfl underlying22 sizeOf24 zeroValue24 rfl rfl rfl rfl rfl fun b7=>⟨Kp.true,?_⟩
                      refine JT.qer (KT.st trivial) ?_
                      refine JT.q 58 rfl (qaa rfl) rfl rfl (Y.qar (q:=op - 28) rfl rfl rfl underlying22 sizeOf24 (by omega) (by omega) (by omega)) ?_
                      refine JT.fork ?_ ?_
                      · skip
                        refine JT.qes ?_
                        refine Jp.y 59 rfl (qaa rfl) rfl rfl Kp.true (Y.qdd 7 (q:=op - 28) rfl isAgg24 rfl rfl rfl hidx) ?_
                        refine JT.qer (KT.st trivial) ?_
                        refine JT.q 3 rfl (qaa rfl) rfl rfl (Y.assign rfl rfl) ?_
                        refine JT.qes ?_
                        refine Jp.lit 60 8 [(0,_),(1,_),(2,_),(3,_),(4,_),(5,_),(6,_),(7,_),(8,_),(9,_)] [_,_,_,_,_,_,_,_,_,_] rfl (qaa rfl) rfl rfl rfl rfl underlying22 sizeOf24 zeroValue24 rfl rfl rfl rfl rfl fun b8=>⟨Kp.true,?_⟩
                        refine JT.qer (KT.st trivial) ?_
                        refine JT.q 63 rfl (qaa rfl) rfl rfl (Y.qar (q:=op - 28) rfl rfl rfl underlying22 sizeOf24 (by omega) (by omega) (by omega)) ?_
                        refine JT.qes ?_
                        refine Jp.y 64 rfl (qaa rfl) rfl rfl Kp.true (Y.qdd 8 (q:=op - 28) rfl isAgg24 rfl rfl rfl hidx2) ?_
                        refine JT.qer (KT.st trivial) ?_
                        refine JT.q 4 rfl (qaa rfl) rfl rfl (Y.assign rfl rfl) ?_
                        refine JT.nil ?_
                        refine Jp.qae hK22 ?_
                        refine Cd.ret [] rfl (qfr rfl rfl rfl rfl) trivial ⟨rfl,by rcases (show op = 28 ∨ op = 29 ∨ op = 30 ∨ op = 31 ∨ op = 32 ∨ op = 33 ∨ op = 34 ∨ op = 35 ∨ op = 36 ∨ op = 37 by omega) with rfl | rfl | rfl | rfl | rfl | rfl | rfl | rfl | rfl | rfl <;> rfl,rfl⟩
                      · skip
                        refine JT.qes ?_
                        refine Jp.lit 60 8 [(0,_),(1,_),(2,_),(3,_),(4,_),(5,_),(6,_),(7,_),(8,_),(9,_)] [_,_,_,_,_,_,_,_,_,_] rfl (qaa rfl) rfl rfl rfl rfl underlying22 sizeOf24 zeroValue24 rfl rfl rfl rfl rfl fun b8=>⟨Kp.true,?_⟩
                        refine JT.qer (KT.st trivial) ?_
                        refine JT.q 63 rfl (qaa rfl) rfl rfl (Y.qar (q:=op - 28) rfl rfl rfl underlying22 sizeOf24 (by omega) (by omega) (by omega)) ?_
                        refine JT.fork ?_ ?_
                        · skip
                          refine JT.qes ?_
                          refine Jp.y 59 rfl (qaa rfl) rfl rfl Kp.true (Y.qdd 7 (q:=op - 28) rfl isAgg24 rfl rfl rfl hidx) ?_
                          refine JT.qer (KT.st trivial) ?_
                          refine JT.q 3 rfl (qaa rfl) rfl rfl (Y.assign rfl rfl) ?_
                          refine JT.qes ?_
                          refine Jp.y 64 rfl (qaa rfl) rfl rfl Kp.true (Y.qdd 8 (q:=op - 28) rfl isAgg24 rfl rfl rfl hidx2) ?_
                          refine JT.qer (KT.st trivial) ?_
                          refine JT.q 4 rfl (qaa rfl) rfl rfl (Y.assign rfl rfl) ?_
                          refine JT.nil ?_
                          refine Jp.qae hK22 ?_
                          refine Cd.ret [] rfl (qfr rfl rfl rfl rfl) trivial ⟨rfl,by rcases (show op = 28 ∨ op = 29 ∨ op = 30 ∨ op = 31 ∨ op = 32 ∨ op = 33 ∨ op = 34 ∨ op = 35 ∨ op = 36 ∨ op = 37 by omega) with rfl | rfl | rfl | rfl | rfl | rfl | rfl | rfl | rfl | rfl <;> rfl,rfl⟩
                        · skip
                          refine JT.qes ?_
                          refine Jp.y 64 rfl (qaa rfl) rfl rfl Kp.true (Y.qdd 8 (q:=op - 28) rfl isAgg24 rfl rfl rfl hidx2) ?_
                          refine JT.qer (KT.st trivial) ?_
                          refine JT.qes ?_
                          refine Jp.y 59 rfl (qaa rfl) rfl rfl Kp.true (Y.qdd 7 (q:=op - 28) rfl isAgg24 rfl rfl rfl hidx) ?_
                          refine JT.qer (KT.st trivial) ?_
                          refine JT.q 3 rfl (qaa rfl) rfl rfl (Y.assign rfl rfl) ?_
                          refine JT.q 4 rfl (qaa rfl) rfl rfl (Y.assign rfl rfl) ?_
                          refine JT.nil ?_
                          refine Jp.qae hK22 ?_
                          refine Cd.ret [] rfl (qfr rfl rfl rfl rfl) trivial ⟨rfl,by rcases (show op = 28 ∨ op = 29 ∨ op = 30 ∨ op = 31 ∨ op = 32 ∨ op = 33 ∨ op = 34 ∨ op = 35 ∨ op = 36 ∨ op = 37 by omega) with rfl | rfl | rfl | rfl | rfl | rfl | rfl | rfl | rfl | rfl <;> rfl,rfl⟩
                    · skip
                      refine JT.qes ?_
                      refine Jp.lit 60 8 [(0,_),(1,_),(2,_),(3,_),(4,_),(5,_),(6,_),(7,_),(8,_),(9,_)] [_,_,_,_,_,_,_,_,_,_] rfl (qaa rfl) rfl rfl rfl rfl underlying22 sizeOf24 zeroValue24 rfl rfl rfl rfl rfl fun b8=>⟨Kp.true,?_⟩
                      refine JT.qer (KT.st trivial) ?_
                      refine JT.q 63 rfl (qaa rfl) rfl rfl (Y.qar (q:=op - 28) rfl rfl rfl underlying22 sizeOf24 (by omega) (by omega) (by omega)) ?_
                      refine JT.fork ?_ ?_
                      · skip
                        refine JT.qes ?_
                        refine Jp.lit 55 7 [(0,_),(1,_),(2,_),(3,_),(4,_),(5,_),(6,_),(7,_),(8,_),(9,_)] [_,_,_,_,_,_,_,_,_,_] rfl (qaa rfl) rfl rfl rfl rfl underlying22 sizeOf24 zeroValue24 rfl rfl rfl rfl rfl fun b7=>⟨Kp.true,?_⟩
                        refine JT.qer (KT.st trivial) ?_
                        refine JT.q 58 rfl (qaa rfl) rfl rfl (Y.qar (q:=op - 28) rfl rfl rfl underlying22 sizeOf24 (by omega) (by omega) (by omega)) ?_
                        refine JT.fork ?_ ?_
                        · skip
                          refine JT.qes ?_
                          refine Jp.y 59 rfl (qaa rfl) rfl rfl Kp.true (Y.qdd 7 (q:=op - 28) rfl isAgg24 rfl rfl rfl hidx) ?_
                          refine JT.qer (KT.st trivial) ?_
                          refine JT.q 3 rfl (qaa rfl) rfl rfl (Y.assign rfl rfl) ?_
                          refine JT.qes ?_
                          refine Jp.y 64 rfl (qaa rfl) rfl rfl Kp.true (Y.qdd 8 (q:=op - 28) rfl isAgg24 rfl rfl rfl hidx2) ?_
                          refine JT.qer (KT.st trivial) ?_
                          refine JT.q 4 rfl (qaa rfl) rfl rfl (Y.assign rfl rfl) ?_
                          refine JT.nil ?_
                          refine Jp.qae hK22 ?_
                          refine Cd.ret [] rfl (qfr rfl rfl rfl rfl) trivial ⟨rfl,by rcases (show op = 28 ∨ op = 29 ∨ op = 30 ∨ op = 31 ∨ op = 32 ∨ op = 33 ∨ op = 34 ∨ op = 35 ∨ op = 36 ∨ op = 37 by omega) with rfl | rfl | rfl | rfl | rfl | rfl | rfl | rfl | rfl | rfl <;> rfl,rfl⟩
                        · skip
                          refine JT.qes ?_
                          refine Jp.y 64 rfl (qaa rfl) rfl rfl Kp.true (Y.qdd 8 (q:=op - 28) rfl isAgg24 rfl rfl rfl hidx2) ?_
                          refine JT.qer (KT.st trivial) ?_
                          refine JT.qes ?_
                          refine Jp.y 59 rfl (qaa rfl) rfl rfl Kp.true (Y.qdd 7 (q:=op - 28) rfl isAgg24 rfl rfl rfl hidx) ?_
                          refine JT.qer (KT.st trivial) ?_
                          refine JT.q 3 rfl (qaa rfl) rfl rfl (Y.assign rfl rfl) ?_
                          refine JT.q 4 rfl (qaa rfl) rfl rfl (Y.assign rfl rfl) ?_
                          refine JT.nil ?_
                          refine Jp.qae hK22 ?_
                          refine Cd.ret [] rfl (qfr rfl rfl rfl rfl) trivial ⟨rfl,by rcases (show op = 28 ∨ op = 29 ∨ op = 30 ∨ op = 31 ∨ op = 32 ∨ op = 33 ∨ op = 34 ∨ op = 35 ∨ op = 36 ∨ op = 37 by omega) with rfl | rfl | rfl | rfl | rfl | rfl | rfl | rfl | rfl | rfl <;> rfl,rfl⟩
                      · skip
                        refine JT.qes ?_
                        refine Jp.y 64 rfl (qaa rfl) rfl rfl Kp.true (Y.qdd 8 (q:=op - 28) rfl isAgg24 rfl rfl rfl hidx2) ?_
                        refine JT.qer (KT.st trivial) ?_
                        refine JT.qes ?_
                        refine Jp.lit 55 7 [(0,_),(1,_),(2,_),(3,_),(4,_),(5,_),(6,_),(7,_),(8,_),(9,_)] [_,_,_,_,_,_,_,_,_,_] rfl (qaa rfl) rfl rfl rfl rfl underlying22 sizeOf24 zeroValue24 rfl rfl rfl rfl rfl fun b7=>⟨Kp.true,?_⟩
                        refine JT.qer (KT.st trivial) ?_
                        refine JT.q 58 rfl (qaa rfl) rfl rfl (Y.qar (q:=op - 28) rfl rfl rfl underlying22 sizeOf24 (by omega) (by omega) (by omega)) ?_
                        refine JT.qes ?_
                        refine Jp.y 59 rfl (qaa rfl) rfl rfl Kp.true (Y.qdd 7 (q:=op - 28) rfl isAgg24 rfl rfl rfl hidx) ?_
                        refine JT.qer (KT.st trivial) ?_
                        refine JT.q 3 rfl (qaa rfl) rfl rfl (Y.assign rfl rfl) ?_
                        refine JT.q 4 rfl (qaa rfl) rfl rfl (Y.assign rfl rfl) ?_
                        refine JT.nil ?_
                        refine Jp.qae hK22 ?_
                        refine Cd.ret [] rfl (qfr rfl rfl rfl rfl) trivial ⟨rfl,by rcases (show op = 28 ∨ op = 29 ∨ op = 30 ∨ op = 31 ∨ op = 32 ∨ op = 33 ∨ op = 34 ∨ op = 35 ∨ op = 36 ∨ op = 37 by omega) with rfl | rfl | rfl | rfl | rfl | rfl | rfl | rfl | rfl | rfl <;> rfl,rfl⟩
                  · skip
                    try simp only [sG0] at g52
                    refine Cd.seq fun K23 hK23=>?_
                    refine Cd.qac [(0,false),(1,false),(2,false)] rfl rfl ?_
                    refine Jp.y 66 rfl (qaa rfl) rfl rfl Kp.true (Y.move rfl rfl) ?_
                    refine Jp.y 67 rfl (qaa rfl) rfl rfl Kp.true (Y.leq rfl rfl rfl) ?_
                    refine Jp.y 65 rfl (qaa rfl) rfl rfl Kp.true (Y.assign rfl rfl) ?_
                    refine Jp.qae hK23 ?_
                    refine Cd.qal rfl (fun g65=>?_) (fun g65=>?_)
                    · skip
                      try simp only [sG0] at g65
                      refine Cd.seq fun K24 hK24=>?_
                      refine Cd.qac [(0,false),(1,false),(2,false),(3,false),(4,false),(5,false)] rfl rfl ?_
                      refine Jp.y 68 rfl (qaa rfl) rfl rfl Kp.true (Y.move rfl rfl) ?_
                      refine Jp.y 69 rfl (qaa rfl) rfl rfl Kp.true (Y.qdo rfl rfl rfl (by exact qag (by omega) (by omega))) ?_
                      refine Jp.y 70 rfl (qaa rfl) rfl rfl Kp.true (Y.qap rfl rfl underlying3 underlying24 (by exact qax (by omega) (by omega))) ?_
                      refine Jp.y 2 rfl (qaa rfl) rfl rfl Kp.true (Y.assign rfl rfl) ?_
                      refine Jp.y 3 rfl (qaa rfl) rfl rfl Kp.true (Y.assign rfl rfl) ?_
                      refine Jp.y 4 rfl (qaa rfl) rfl rfl Kp.true (Y.assign rfl rfl) ?_
                      refine Jp.qae hK24 ?_
                      refine Cd.ret [] rfl (qfr rfl rfl rfl rfl) trivial ⟨rfl, by
                        (rcases (show op = 38 ∨ op = 39 ∨ op = 40 ∨ op = 41 ∨ op = 42 ∨ op = 43 ∨ op = 44 ∨ op = 45 by omega) with rfl | rfl | rfl | rfl | rfl | rfl | rfl | rfl <;> rfl), rfl⟩
                    · skip
                      try simp only [sG0] at g65
                      refine Cd.over rfl hK2 ?_
                      refine Cd.seq fun K25 hK25=>?_
                      refine Cd.qac [(0,false),(1,false),(2,false),(3,false),(4,false),(5,false)] rfl rfl ?_
                      refine Jp.y 71 rfl (qaa rfl) rfl rfl Kp.true (Y.move rfl rfl) ?_
                      refine Jp.y 72 rfl (qaa rfl) rfl rfl Kp.true (Y.qdo rfl rfl rfl (by exact qag (by omega) (by omega))) ?_
                      refine Jp.y 73 rfl (qaa rfl) rfl rfl Kp.true (Y.qap rfl rfl underlying3 underlying24 (by exact qax (by omega) (by omega))) ?_
                      refine Jp.y 2 rfl (qaa rfl) rfl rfl Kp.true (Y.assign rfl rfl) ?_
                      refine Jp.y 3 rfl (qaa rfl) rfl rfl Kp.true (Y.assign rfl rfl) ?_
                      refine Jp.y 4 rfl (qaa rfl) rfl rfl Kp.true (Y.assign rfl rfl) ?_
                      refine Jp.qae hK25 ?_
                      refine Cd.ret [] rfl (qfr rfl rfl rfl rfl) trivial ⟨rfl, by
                        (rcases (show op = 46 ∨ op = 47 by omega) with rfl | rfl <;> rfl), rfl⟩
end Go.Proofs.YthjelpbaljapiaaGreat

namespace Go.Proofs.YthjelpbaljapiaaGreat
open Go
def suits (op o f t : Nat) : Bool:=(qfm op).1 == o && ((decide (op ≤ 3) || (qfm op).2.1 == f) && (!(decide (25 ≤ op) && decide (op ≤ 45)) || (qfm op).2.2 == t))
def kindQ (o f t z : Nat) : Nat :=
 if o = 55 then 1 else if o = 23 then 2 else if o = 111 then 3 else
 if o = 103 then (if f = 0 then 4 else z) else
 if o = 99 then branchP f else if o = 3 then loadP f else if o = 35 then storeP f else
 if o = 19 then immKP f t else if o = 51 then regKP f t else
 if o = 15 then (if f < 2 then 46 + f else z) else z
theorem kindP_Q (w : Nat) : kindP w = kindQ (w % 128) (w / 2 ^ 12 % 2 ^ 3) (w / 2 ^ 25 % 2 ^ 7) (systemP w):=rfl
theorem suits_iff (op o f t : Nat) : suits op o f t = true ↔ (qfm op).1 = o ∧ (3 < op → (qfm op).2.1 = f) ∧ (25 ≤ op ∧ op ≤ 45 → (qfm op).2.2 = t):=by
 simp only [suits,Bool.and_eq_true,Bool.or_eq_true,Bool.not_eq_true',Bool.and_eq_false_iff,beq_iff_eq,decide_eq_true_eq,decide_eq_false_iff_not]
 omega
theorem suits_kind {op o f t : Nat} (z : Nat) (h1 : 1 ≤ op) (h2 : op ≤ 47) (h : suits op o f t = true) : kindQ o f t z = op:=by
 rw [suits_iff] at h
 obtain ⟨a,b,c⟩:=h
 rcases (show op = 1 ∨ op = 2 ∨ op = 3 ∨ op = 4 ∨ op = 5 ∨ op = 6 ∨ op = 7 ∨ op = 8 ∨ op = 9 ∨ op = 10 ∨ op = 11 ∨ op = 12 ∨ op = 13 ∨ op = 14 ∨ op = 15 ∨ op = 16 ∨ op = 17 ∨ op = 18 ∨ op = 19 ∨ op = 20 ∨ op = 21 ∨ op = 22 ∨ op = 23 ∨ op = 24 ∨ op = 25 ∨ op = 26 ∨ op = 27 ∨ op = 28 ∨ op = 29 ∨ op = 30 ∨ op = 31 ∨ op = 32 ∨ op = 33 ∨ op = 34 ∨ op = 35 ∨ op = 36 ∨ op = 37 ∨ op = 38 ∨ op = 39 ∨ op = 40 ∨ op = 41 ∨ op = 42 ∨ op = 43 ∨ op = 44 ∨ op = 45 ∨ op = 46 ∨ op = 47 by omega) with rfl | rfl | rfl | rfl | rfl | rfl | rfl | rfl | rfl | rfl | rfl | rfl | rfl | rfl | rfl | rfl | rfl | rfl | rfl | rfl | rfl | rfl | rfl | rfl | rfl | rfl | rfl | rfl | rfl | rfl | rfl | rfl | rfl | rfl | rfl | rfl | rfl | rfl | rfl | rfl | rfl | rfl | rfl | rfl | rfl | rfl | rfl
 ·have a : 55 = o:=a
  subst a; rfl
 ·have a : 23 = o:=a
  subst a; rfl
 ·have a : 111 = o:=a
  subst a; rfl
 ·have a : 103 = o:=a
  have b : 0 = f:=b (by decide)
  subst a b; rfl
 ·have a : 99 = o:=a
  have b : 0 = f:=b (by decide)
  subst a b; rfl
 ·have a : 99 = o:=a
  have b : 1 = f:=b (by decide)
  subst a b; rfl
 ·have a : 99 = o:=a
  have b : 4 = f:=b (by decide)
  subst a b; rfl
 ·have a : 99 = o:=a
  have b : 5 = f:=b (by decide)
  subst a b; rfl
 ·have a : 99 = o:=a
  have b : 6 = f:=b (by decide)
  subst a b; rfl
 ·have a : 99 = o:=a
  have b : 7 = f:=b (by decide)
  subst a b; rfl
 ·have a : 3 = o:=a
  have b : 0 = f:=b (by decide)
  subst a b; rfl
 ·have a : 3 = o:=a
  have b : 1 = f:=b (by decide)
  subst a b; rfl
 ·have a : 3 = o:=a
  have b : 2 = f:=b (by decide)
  subst a b; rfl
 ·have a : 3 = o:=a
  have b : 4 = f:=b (by decide)
  subst a b; rfl
 ·have a : 3 = o:=a
  have b : 5 = f:=b (by decide)
  subst a b; rfl
 ·have a : 35 = o:=a
  have b : 0 = f:=b (by decide)
  subst a b; rfl
 ·have a : 35 = o:=a
  have b : 1 = f:=b (by decide)
  subst a b; rfl
 ·have a : 35 = o:=a
  have b : 2 = f:=b (by decide)
  subst a b; rfl
 ·have a : 19 = o:=a
  have b : 0 = f:=b (by decide)
  subst a b; rfl
 ·have a : 19 = o:=a
  have b : 2 = f:=b (by decide)
  subst a b; rfl
 ·have a : 19 = o:=a
  have b : 3 = f:=b (by decide)
  subst a b; rfl
 ·have a : 19 = o:=a
  have b : 4 = f:=b (by decide)
  subst a b; rfl
 ·have a : 19 = o:=a
  have b : 6 = f:=b (by decide)
  subst a b; rfl
 ·have a : 19 = o:=a
  have b : 7 = f:=b (by decide)
  subst a b; rfl
 ·have a : 19 = o:=a
  have b : 1 = f:=b (by decide)
  have c : 0 = t:=c (by decide)
  subst a b c; rfl
 ·have a : 19 = o:=a
  have b : 5 = f:=b (by decide)
  have c : 0 = t:=c (by decide)
  subst a b c; rfl
 ·have a : 19 = o:=a
  have b : 5 = f:=b (by decide)
  have c : 32 = t:=c (by decide)
  subst a b c; rfl
 ·have a : 51 = o:=a
  have b : 0 = f:=b (by decide)
  have c : 0 = t:=c (by decide)
  subst a b c; rfl
 ·have a : 51 = o:=a
  have b : 0 = f:=b (by decide)
  have c : 32 = t:=c (by decide)
  subst a b c; rfl
 ·have a : 51 = o:=a
  have b : 1 = f:=b (by decide)
  have c : 0 = t:=c (by decide)
  subst a b c; rfl
 ·have a : 51 = o:=a
  have b : 2 = f:=b (by decide)
  have c : 0 = t:=c (by decide)
  subst a b c; rfl
 ·have a : 51 = o:=a
  have b : 3 = f:=b (by decide)
  have c : 0 = t:=c (by decide)
  subst a b c; rfl
 ·have a : 51 = o:=a
  have b : 4 = f:=b (by decide)
  have c : 0 = t:=c (by decide)
  subst a b c; rfl
 ·have a : 51 = o:=a
  have b : 5 = f:=b (by decide)
  have c : 0 = t:=c (by decide)
  subst a b c; rfl
 ·have a : 51 = o:=a
  have b : 5 = f:=b (by decide)
  have c : 32 = t:=c (by decide)
  subst a b c; rfl
 ·have a : 51 = o:=a
  have b : 6 = f:=b (by decide)
  have c : 0 = t:=c (by decide)
  subst a b c; rfl
 ·have a : 51 = o:=a
  have b : 7 = f:=b (by decide)
  have c : 0 = t:=c (by decide)
  subst a b c; rfl
 ·have a : 51 = o:=a
  have b : 0 = f:=b (by decide)
  have c : 1 = t:=c (by decide)
  subst a b c; rfl
 ·have a : 51 = o:=a
  have b : 1 = f:=b (by decide)
  have c : 1 = t:=c (by decide)
  subst a b c; rfl
 ·have a : 51 = o:=a
  have b : 2 = f:=b (by decide)
  have c : 1 = t:=c (by decide)
  subst a b c; rfl
 ·have a : 51 = o:=a
  have b : 3 = f:=b (by decide)
  have c : 1 = t:=c (by decide)
  subst a b c; rfl
 ·have a : 51 = o:=a
  have b : 4 = f:=b (by decide)
  have c : 1 = t:=c (by decide)
  subst a b c; rfl
 ·have a : 51 = o:=a
  have b : 5 = f:=b (by decide)
  have c : 1 = t:=c (by decide)
  subst a b c; rfl
 ·have a : 51 = o:=a
  have b : 6 = f:=b (by decide)
  have c : 1 = t:=c (by decide)
  subst a b c; rfl
 ·have a : 51 = o:=a
  have b : 7 = f:=b (by decide)
  have c : 1 = t:=c (by decide)
  subst a b c; rfl
 ·have a : 15 = o:=a
  have b : 0 = f:=b (by decide)
  subst a b; rfl
 ·have a : 15 = o:=a
  have b : 1 = f:=b (by decide)
  subst a b; rfl
theorem kind_suits {o f t : Nat} (hf : f < 8) (h0 : kindQ o f t 0 ≠ 0) : suits (kindQ o f t 0) o f t = true ∧ kindQ o f t 0 ≤ 47:=by
 unfold kindQ at h0 ⊢
 by_cases h1 : o = 55
 ·subst h1; exact ⟨rfl,Nat.le_of_ble_eq_true rfl⟩
 rw [if_neg h1] at h0 ⊢
 by_cases h2 : o = 23
 ·subst h2; exact ⟨rfl,Nat.le_of_ble_eq_true rfl⟩
 rw [if_neg h2] at h0 ⊢
 by_cases h3 : o = 111
 ·subst h3; exact ⟨rfl,Nat.le_of_ble_eq_true rfl⟩
 rw [if_neg h3] at h0 ⊢
 by_cases h4 : o = 103
 ·subst h4
  rw [if_pos rfl] at h0 ⊢
  by_cases hz : f = 0
  ·subst hz; exact ⟨rfl,Nat.le_of_ble_eq_true rfl⟩
  ·rw [if_neg hz] at h0; exact absurd rfl h0
 rw [if_neg h4] at h0 ⊢
 by_cases h5 : o = 99
 ·subst h5
  rw [if_pos rfl] at h0 ⊢
  rcases (show f = 0 ∨ f = 1 ∨ f = 2 ∨ f = 3 ∨ f = 4 ∨ f = 5 ∨ f = 6 ∨ f = 7 by omega) with rfl | rfl | rfl | rfl | rfl | rfl | rfl | rfl <;> first | exact absurd rfl h0 | exact ⟨rfl,Nat.le_of_ble_eq_true rfl⟩
 rw [if_neg h5] at h0 ⊢
 by_cases h6 : o = 3
 ·subst h6
  rw [if_pos rfl] at h0 ⊢
  rcases (show f = 0 ∨ f = 1 ∨ f = 2 ∨ f = 3 ∨ f = 4 ∨ f = 5 ∨ f = 6 ∨ f = 7 by omega) with rfl | rfl | rfl | rfl | rfl | rfl | rfl | rfl <;> first | exact absurd rfl h0 | exact ⟨rfl,Nat.le_of_ble_eq_true rfl⟩
 rw [if_neg h6] at h0 ⊢
 by_cases h7 : o = 35
 ·subst h7
  rw [if_pos rfl] at h0 ⊢
  rcases (show f = 0 ∨ f = 1 ∨ f = 2 ∨ f = 3 ∨ f = 4 ∨ f = 5 ∨ f = 6 ∨ f = 7 by omega) with rfl | rfl | rfl | rfl | rfl | rfl | rfl | rfl <;> first | exact absurd rfl h0 | exact ⟨rfl,Nat.le_of_ble_eq_true rfl⟩
 rw [if_neg h7] at h0 ⊢
 by_cases h8 : o = 19
 ·subst h8
  rw [if_pos rfl] at h0 ⊢
  unfold immKP at h0 ⊢
  by_cases q1 : f = 1 ∧ t = 0
  ·obtain ⟨rfl,rfl⟩:=q1; exact ⟨rfl,Nat.le_of_ble_eq_true rfl⟩
  rw [if_neg q1] at h0 ⊢
  by_cases q2 : f = 5 ∧ t = 0
  ·obtain ⟨rfl,rfl⟩:=q2; exact ⟨rfl,Nat.le_of_ble_eq_true rfl⟩
  rw [if_neg q2] at h0 ⊢
  by_cases q3 : f = 5 ∧ t = 32
  ·obtain ⟨rfl,rfl⟩:=q3; exact ⟨rfl,Nat.le_of_ble_eq_true rfl⟩
  rw [if_neg q3] at h0 ⊢
  rcases (show f = 0 ∨ f = 1 ∨ f = 2 ∨ f = 3 ∨ f = 4 ∨ f = 5 ∨ f = 6 ∨ f = 7 by omega) with rfl | rfl | rfl | rfl | rfl | rfl | rfl | rfl <;> first | exact absurd rfl h0 | exact ⟨rfl,Nat.le_of_ble_eq_true rfl⟩
 rw [if_neg h8] at h0 ⊢
 by_cases h9 : o = 51
 ·subst h9
  rw [if_pos rfl] at h0 ⊢
  unfold regKP at h0 ⊢
  by_cases q1 : t = 0
  ·subst q1
   rcases (show f = 0 ∨ f = 1 ∨ f = 2 ∨ f = 3 ∨ f = 4 ∨ f = 5 ∨ f = 6 ∨ f = 7 by omega) with rfl | rfl | rfl | rfl | rfl | rfl | rfl | rfl <;> exact ⟨rfl,Nat.le_of_ble_eq_true rfl⟩
  rw [if_neg q1] at h0 ⊢
  by_cases q2 : t = 1
  ·subst q2
   rcases (show f = 0 ∨ f = 1 ∨ f = 2 ∨ f = 3 ∨ f = 4 ∨ f = 5 ∨ f = 6 ∨ f = 7 by omega) with rfl | rfl | rfl | rfl | rfl | rfl | rfl | rfl <;> exact ⟨rfl,Nat.le_of_ble_eq_true rfl⟩
  rw [if_neg q2] at h0 ⊢
  by_cases q3 : t = 32 ∧ f = 0
  ·obtain ⟨rfl,rfl⟩:=q3; exact ⟨rfl,Nat.le_of_ble_eq_true rfl⟩
  rw [if_neg q3] at h0 ⊢
  by_cases q4 : t = 32 ∧ f = 5
  ·obtain ⟨rfl,rfl⟩:=q4; exact ⟨rfl,Nat.le_of_ble_eq_true rfl⟩
  rw [if_neg q4] at h0; exact absurd rfl h0
 rw [if_neg h9] at h0 ⊢
 by_cases h10 : o = 15
 ·subst h10
  rw [if_pos rfl] at h0 ⊢
  by_cases q1 : f < 2
  ·rw [if_pos q1]
   rcases (show f = 0 ∨ f = 1 by omega) with rfl | rfl <;> exact ⟨rfl,Nat.le_of_ble_eq_true rfl⟩
  ·rw [if_neg q1] at h0; exact absurd rfl h0
 rw [if_neg h10] at h0; exact absurd rfl h0
def qfx (v n : Nat) : Int:=if v < 2 ^ (n - 1) then (v : Int) else (v : Int) - 2 ^ n
theorem s32_all {a : Nat} (h : a < 4294967296) : s32 a = if a < 2147483648 then (a : Int) else (a : Int) - 4294967296:=by
 simp only [s32,IntKind.wrap,IntKind.bits,IntKind.signed]
 simp
 split <;> split <;> omega
theorem signed_val {v n : Nat} (hn : n = 12 ∨ n = 13 ∨ n = 21) (hv : v < 2 ^ n) : (s32 (v * 2 ^ (32 - n))).fdiv (2 ^ (32 - n)) = qfx v n:=by
 rw [Int.fdiv_eq_ediv_of_nonneg _ (Int.le_of_lt (Int.pow_pos (by decide)))]
 rcases hn with rfl | rfl | rfl
 ·rw [s32_all (show v * 2 ^ (32 - 12) < 4294967296 by omega)]
  show (if v * 1048576 < 2147483648 then ((v * 1048576 : Nat) : Int) else ((v * 1048576 : Nat) : Int) - 4294967296) / 1048576 = if v < 2048 then (v : Int) else (v : Int) - 4096
  split <;> split <;> omega
 ·rw [s32_all (show v * 2 ^ (32 - 13) < 4294967296 by omega)]
  show (if v * 524288 < 2147483648 then ((v * 524288 : Nat) : Int) else ((v * 524288 : Nat) : Int) - 4294967296) / 524288 = if v < 4096 then (v : Int) else (v : Int) - 8192
  split <;> split <;> omega
 ·rw [s32_all (show v * 2 ^ (32 - 21) < 4294967296 by omega)]
  show (if v * 2048 < 2147483648 then ((v * 2048 : Nat) : Int) else ((v * 2048 : Nat) : Int) - 4294967296) / 2048 = if v < 1048576 then (v : Int) else (v : Int) - 2097152
  split <;> split <;> omega
theorem i32_wrap_eq {x y : Int} (h : x % 4294967296 = y % 4294967296) (h1 : -2147483648 ≤ y) (h2 : y ≤ 2147483647) : IntKind.i32.wrap x = y:=by
 simp only [IntKind.wrap,IntKind.bits,IntKind.signed]
 simp
 split <;> omega
theorem or_i32_low {q : Int} {e y : Nat} (he : e ≤ 31) (hy : y < 2 ^ e) (h1 : -2147483648 ≤ q * 2 ^ e) (h2 : q * 2 ^ e + y ≤ 2147483647) : qbu .or .i32 (q * 2 ^ e) (y : Int) = q * 2 ^ e + y:=by
 have hy32 : y < 2 ^ 32:=Nat.lt_of_lt_of_le hy (Nat.pow_le_pow_right (by decide) (by omega))
 show IntKind.i32.wrap ((BitVec.ofInt 32 (q * 2 ^ e) ||| BitVec.ofInt 32 (y : Int)).toNat : Int) = _
 rw [BitVec.toNat_or,qcu 32 y hy32]
 have hX : ∃ m : Nat,(BitVec.ofInt 32 (q * 2 ^ e)).toNat = m * 2 ^ e ∧ ((m * 2 ^ e : Nat) : Int) = (q * 2 ^ e) % 4294967296:=by
  rw [BitVec.toNat_ofInt]
  have e1 : (4294967296 : Int) = 2 ^ e * 2 ^ (32 - e):=by rw [← Int.pow_add,show e + (32 - e) = 32 by omega]; rfl
  have e2 : (q * 2 ^ e) % 4294967296 = (q % 2 ^ (32 - e)) * 2 ^ e:=by
   rw [e1,Int.mul_comm q,Int.mul_emod_mul_of_pos _ _ (Int.pow_pos (by decide)),Int.mul_comm]
  have e3 : 0 ≤ q % 2 ^ (32 - e):=Int.emod_nonneg _ (Int.ne_of_gt (Int.pow_pos (by decide)))
  refine ⟨(q % 2 ^ (32 - e)).toNat,?_,?_⟩
  ·show ((q * 2 ^ e) % 4294967296).toNat = _
   rw [e2,Int.toNat_mul e3 (Int.le_of_lt (Int.pow_pos (by decide)))]
   rw [show ((2 : Int) ^ e).toNat = 2 ^ e from Int.toNat_natCast (2 ^ e)]
  ·rw [Int.natCast_mul,Int.toNat_of_nonneg e3,e2]; simp
 obtain ⟨m,hm1,hm2⟩:=hX
 rw [hm1,Nat.or_comm,qej hy]
 have e4 : ((y + m * 2 ^ e : Nat) : Int) % 4294967296 = (q * 2 ^ e + y) % 4294967296:=by
  rw [Int.natCast_add,hm2]; omega
 exact i32_wrap_eq e4 (by omega) h2
end Go.Proofs.YthjelpbaljapiaaGreat

namespace Go.Proofs.YthjelpbaljapiaaGreat
open _root_.Go.Proofs.Tryz
open Go
def rshr (x n : Int) : Int:=x.fdiv (2 ^ (min n.toNat IntKind.u32.bits))
def rshl (x n : Int) : Int:=IntKind.u32.wrap (x * 2 ^ (min n.toNat IntKind.u32.bits))
theorem qcq (a n : Nat) (hn : n ≤ 32) : rshr (a : Int) (n : Int) = ((a / 2 ^ n : Nat) : Int):=shr32 a n hn
theorem qdi {a n : Nat} (hn : n ≤ 32) (h : a * 2 ^ n < 4294967296) : rshl (a : Int) (n : Int) = ((a * 2 ^ n : Nat) : Int):=shl32 hn h
theorem rand_nat {a : Nat} (k : Nat) (ha : a < 4294967296) (hk : k < 32) : qbu .and .u32 (a : Int) ((2 ^ k - 1 : Nat) : Int) = ((a % 2 ^ k : Nat) : Int):=by
 have : 2 ^ k < 2 ^ 32:=Nat.pow_lt_pow_right (by decide) hk
 rw [qbz ha (by omega),Nat.and_two_pow_sub_one_eq_mod]
theorem or_hi {a b i : Nat} (hb : b < 2 ^ i) : a * 2 ^ i ||| b = a * 2 ^ i + b:=by rw [Nat.or_comm,qej hb,Nat.add_comm]
theorem qgn {a b : Nat} (ha : a < 4294967296) (hb : b < 4294967296) : qbu .or .i64 (a : Int) b = ((a ||| b : Nat) : Int):=by
 have h1 : a ||| b < 2 ^ 32:=Nat.or_lt_two_pow ha hb
 show IntKind.i64.wrap ((BitVec.ofInt 64 (a : Int) ||| BitVec.ofInt 64 (b : Int)).toNat : Int) = _
 rw [BitVec.toNat_or,qcu 64 a (by omega),qcu 64 b (by omega)]
 exact qag (x:=((a ||| b : Nat) : Int)) (by omega) (by omega)
theorem fdiv_s32 {w : Nat} (hw : w < 4294967296) : (s32 w).fdiv (2 ^ 31) = -((w / 2 ^ 31 : Nat) : Int):=by
 rw [Int.fdiv_eq_ediv_of_nonneg _ (Int.le_of_lt (Int.pow_pos (by decide))),s32_all hw]
 split <;> omega
theorem imm_I {w : Nat} (hw : w < 4294967296) : immIP w = qfx (w / 2 ^ 20) 12:=by
 unfold immIP
 rw [Int.fdiv_eq_ediv_of_nonneg _ (Int.le_of_lt (Int.pow_pos (by decide))),s32_all hw]
 show (if w < 2147483648 then (w : Int) else (w : Int) - 4294967296) / 1048576 = if w / 2 ^ 20 < 2048 then ((w / 2 ^ 20 : Nat) : Int) else ((w / 2 ^ 20 : Nat) : Int) - 4096
 split <;> split <;> omega
theorem imm_S {w : Nat} (hw : w < 4294967296) : immSP w = qfx (w / 2 ^ 25 * 2 ^ 5 + w / 2 ^ 7 % 2 ^ 5) 12:=by
 unfold immSP
 obtain ⟨q,hq⟩ : ∃ q,(s32 w).fdiv (2 ^ 25) = q:=⟨_,rfl⟩
 have h1 : q = if w < 2147483648 then ((w / 2 ^ 25 : Nat) : Int) else ((w / 2 ^ 25 : Nat) : Int) - 128:=by
  rw [← hq,Int.fdiv_eq_ediv_of_nonneg _ (Int.le_of_lt (Int.pow_pos (by decide))),s32_all hw]
  split <;> omega
 have hr : -64 ≤ q ∧ q ≤ 63:=by rw [h1]; split <;> omega
 have hy : w / 2 ^ 7 % 2 ^ 5 < 2 ^ 5:=Nat.mod_lt _ (by decide)
 rw [hq,qcl (by omega) (by omega),or_i32_low (by decide) hy (by omega) (by omega),h1]
 show _ = if w / 2 ^ 25 * 2 ^ 5 + w / 2 ^ 7 % 2 ^ 5 < 2048 then ((w / 2 ^ 25 * 2 ^ 5 + w / 2 ^ 7 % 2 ^ 5 : Nat) : Int) else ((w / 2 ^ 25 * 2 ^ 5 + w / 2 ^ 7 % 2 ^ 5 : Nat) : Int) - 4096
 split <;> split <;> omega
theorem imm_J {w : Nat} (hw : w < 4294967296) : immJP w = qfx (w / 2 ^ 31 * 2 ^ 20 + w / 2 ^ 12 % 2 ^ 8 * 2 ^ 12 + w / 2 ^ 20 % 2 ^ 1 * 2 ^ 11 + w / 2 ^ 21 % 2 ^ 10 * 2 ^ 1) 21:=by
 unfold immJP immTP
 rw [fdiv_s32 hw]
 obtain ⟨h,hh⟩ : ∃ h,w / 2 ^ 31 = h:=⟨_,rfl⟩
 obtain ⟨a,ha⟩ : ∃ a,w / 2 ^ 12 % 2 ^ 8 = a:=⟨_,rfl⟩
 obtain ⟨c,hc⟩ : ∃ c,w / 2 ^ 20 % 2 ^ 1 = c:=⟨_,rfl⟩
 obtain ⟨d,hd⟩ : ∃ d,w / 2 ^ 21 % 2 ^ 10 = d:=⟨_,rfl⟩
 have lh : h < 2:=by omega
 have la : a < 256:=by omega
 have lc : c < 2:=by omega
 have ld : d < 1024:=by omega
 rw [hh,ha,hc,hd]
 have e1 : IntKind.i64.wrap ((a : Int) * 2 ^ 12) = ((a * 2 ^ 12 : Nat) : Int):=qag (by omega) (by omega)
 have e2 : IntKind.i64.wrap ((c : Int) * 2 ^ 11) = ((c * 2 ^ 11 : Nat) : Int):=qag (by omega) (by omega)
 have e3 : IntKind.i64.wrap ((d : Int) * 2 ^ 1) = ((d * 2 ^ 1 : Nat) : Int):=qag (by omega) (by omega)
 have o1 : a * 2 ^ 12 ||| c * 2 ^ 11 = a * 2 ^ 12 + c * 2 ^ 11:=or_hi (by omega)
 have o2 : (a * 2 ^ 12 + c * 2 ^ 11) ||| d * 2 ^ 1 = a * 2 ^ 12 + c * 2 ^ 11 + d * 2 ^ 1:=by
  have:=or_hi (a:=a * 2 + c) (b:=d * 2 ^ 1) (i:=11) (by omega)
  rw [show (a * 2 + c) * 2 ^ 11 = a * 2 ^ 12 + c * 2 ^ 11 by omega] at this
  exact this
 rw [e1,e2,e3,qgn (by omega) (by omega),o1,qgn (by omega) (by omega),o2,qcl (by omega) (by omega),qcl (by omega) (by omega),or_i32_low (by decide) (by omega) (by omega) (by omega)]
 show _ = if h * 2 ^ 20 + a * 2 ^ 12 + c * 2 ^ 11 + d * 2 ^ 1 < 1048576 then ((h * 2 ^ 20 + a * 2 ^ 12 + c * 2 ^ 11 + d * 2 ^ 1 : Nat) : Int) else ((h * 2 ^ 20 + a * 2 ^ 12 + c * 2 ^ 11 + d * 2 ^ 1 : Nat) : Int) - 2097152
 split <;> omega
theorem imm_B {w : Nat} (hw : w < 4294967296) : immBP w = qfx (w / 2 ^ 31 * 2 ^ 12 + w / 2 ^ 7 % 2 ^ 1 * 2 ^ 11 + w / 2 ^ 25 % 2 ^ 6 * 2 ^ 5 + w / 2 ^ 8 % 2 ^ 4 * 2 ^ 1) 13:=by
 unfold immBP immTP
 rw [fdiv_s32 hw]
 obtain ⟨h,hh⟩ : ∃ h,w / 2 ^ 31 = h:=⟨_,rfl⟩
 obtain ⟨a,ha⟩ : ∃ a,w / 2 ^ 7 % 2 ^ 1 = a:=⟨_,rfl⟩
 obtain ⟨c,hc⟩ : ∃ c,w / 2 ^ 25 % 2 ^ 6 = c:=⟨_,rfl⟩
 obtain ⟨d,hd⟩ : ∃ d,w / 2 ^ 8 % 2 ^ 4 = d:=⟨_,rfl⟩
 have lh : h < 2:=by omega
 have la : a < 2:=by omega
 have lc : c < 64:=by omega
 have ld : d < 16:=by omega
 rw [hh,ha,hc,hd]
 have e1 : IntKind.i64.wrap ((a : Int) * 2 ^ 11) = ((a * 2 ^ 11 : Nat) : Int):=qag (by omega) (by omega)
 have e2 : IntKind.i64.wrap ((c : Int) * 2 ^ 5) = ((c * 2 ^ 5 : Nat) : Int):=qag (by omega) (by omega)
 have e3 : IntKind.i64.wrap ((d : Int) * 2 ^ 1) = ((d * 2 ^ 1 : Nat) : Int):=qag (by omega) (by omega)
 have o1 : a * 2 ^ 11 ||| c * 2 ^ 5 = a * 2 ^ 11 + c * 2 ^ 5:=or_hi (by omega)
 have o2 : (a * 2 ^ 11 + c * 2 ^ 5) ||| d * 2 ^ 1 = a * 2 ^ 11 + c * 2 ^ 5 + d * 2 ^ 1:=by
  have:=or_hi (a:=a * 2 ^ 6 + c) (b:=d * 2 ^ 1) (i:=5) (by omega)
  rw [show (a * 2 ^ 6 + c) * 2 ^ 5 = a * 2 ^ 11 + c * 2 ^ 5 by omega] at this
  exact this
 rw [e1,e2,e3,qgn (by omega) (by omega),o1,qgn (by omega) (by omega),o2,qcl (by omega) (by omega),qcl (by omega) (by omega),or_i32_low (by decide) (by omega) (by omega) (by omega)]
 show _ = if h * 2 ^ 12 + a * 2 ^ 11 + c * 2 ^ 5 + d * 2 ^ 1 < 4096 then ((h * 2 ^ 12 + a * 2 ^ 11 + c * 2 ^ 5 + d * 2 ^ 1 : Nat) : Int) else ((h * 2 ^ 12 + a * 2 ^ 11 + c * 2 ^ 5 + d * 2 ^ 1 : Nat) : Int) - 8192
 split <;> omega
theorem qeh (v n : Nat) (hn : n = 12 ∨ n = 13 ∨ n = 21) (hv : v < 2 ^ n) : Spec Tryz.prog 50 #[.int .u32 v,.int .u64 n] (fun _=>True) [] (fun ρ ρ' r L=>ρ' = ρ ∧ r = .int .i32 (qfx v n) ∧ L = []):=by
 refine Spec.of 13 Tryz.func50 rfl Tryz.ntmps50 [(0,_),(1,_)] rfl rfl ?_
 intro cx ρ hr h0
 have hb : v * 2 ^ (32 - n) < 4294967296:=by rcases hn with rfl | rfl | rfl <;> omega
 have hm:=signed_val hn hv
 refine Cd.seq fun K1 hK1=>?_
 refine Cd.qac [(0,false)] rfl rfl ?_
 refine Jp.y 4 rfl (qaa rfl) rfl rfl Kp.true (Y.assign rfl rfl) ?_
 refine Jp.qae hK1 ?_
 refine Cd.seq fun K2 hK2=>?_
 refine Cd.qac [(0,false),(1,false),(2,false),(3,false),(4,false),(5,false),(6,false),(7,false),(8,false)] rfl rfl ?_
 refine Jp.y 5 rfl (qaa rfl) rfl rfl Kp.true (Y.move rfl rfl) ?_
 refine Jp.y 6 rfl (qaa rfl) rfl rfl Kp.true (Y.move rfl rfl) ?_
 refine Jp.y 7 rfl (qaa rfl) rfl rfl Kp.true (Y.qdo rfl rfl rfl (by exact qay (by omega) (by omega))) ?_
 refine Jp.slot 7 rfl (show _ = Value.int .u64 ((32 - n : Nat) : Int) from congrArg (Value.int .u64) (by rcases hn with rfl | rfl | rfl <;> rfl)) ?_
 refine Jp.y 8 rfl (qaa rfl) rfl rfl Kp.true (Y.shl rfl rfl rfl (by first | decide | omega)) ?_
 refine Jp.slot 8 rfl (show _ = Value.int .u32 ((v * 2 ^ (32 - n) : Nat) : Int) from congrArg (Value.int .u32) (qdi (by omega) hb)) ?_
 refine Jp.y 9 rfl (qaa rfl) rfl rfl Kp.true (Y.qap rfl rfl underlying24 underlying21 (by rfl)) ?_
 refine Jp.y 10 rfl (qaa rfl) rfl rfl Kp.true (Y.move rfl rfl) ?_
 refine Jp.y 11 rfl (qaa rfl) rfl rfl Kp.true (Y.qdo rfl rfl rfl (by exact qay (by omega) (by omega))) ?_
 refine Jp.slot 9 rfl (show _ = Value.int .i32 (s32 (v * 2 ^ (32 - n))) from rfl) ?_
 refine Jp.slot 11 rfl (show _ = Value.int .u64 ((32 - n : Nat) : Int) from congrArg (Value.int .u64) (by rcases hn with rfl | rfl | rfl <;> rfl)) ?_
 refine Jp.y 12 rfl (qaa rfl) rfl rfl Kp.true (Y.shr rfl rfl rfl (by first | decide | omega)) ?_
 refine Jp.y 4 rfl (qaa rfl) rfl rfl Kp.true (Y.assign rfl rfl) ?_
 refine Jp.qae hK2 ?_
 refine Cd.ret [] rfl (qba rfl rfl) trivial ⟨rfl,congrArg (Value.int .i32) (by rw [← hm]; rcases hn with rfl | rfl | rfl <;> rfl),rfl⟩
end Go.Proofs.YthjelpbaljapiaaGreat
