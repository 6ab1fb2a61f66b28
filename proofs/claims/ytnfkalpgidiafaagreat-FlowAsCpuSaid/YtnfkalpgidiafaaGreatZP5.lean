import Derived.Test.YtnfkalpgidiafaaGreatZP4
import Derived.Test.YtnfkalpgidiafaaGreatZP3
set_option linter.unusedVariables false
set_option linter.unusedSimpArgs false
set_option maxRecDepth 100000
namespace Go.Proofs.YtnfkalpgidiafaaGreat
open _root_.Go.Proofs.Tryz
open Go
def pgOk (M : MemG) (k : Nat) (need : Int) : Bool:=match qao M.pages k with
 | some p=>may p.perm need
 | none=>false
def qga (a n : Nat) : Nat:=(a % 256 + n + 255) / 256
def allM (M : MemG) (a n : Nat) (need : Int) : Bool:=decide (n = 0) || (decide (a + n ≤ 4294967296) && (List.range (qga a n)).all fun j=>pgOk M (qap a + 256 * j) need)
theorem pgOk_some {M : MemG} {k : Nat} {need : Int} {p : Pg} (h : qao M.pages k = some p) : pgOk M k need = may p.perm need:=by rw [pgOk,h]
theorem pgOk_none {M : MemG} {k : Nat} {need : Int} (h : qao M.pages k = none) : pgOk M k need = false:=by rw [pgOk,h]
theorem allM_yes {M : MemG} {a n : Nat} {need : Int} (h : a + n ≤ 4294967296) (h2 : ∀ j,j < qga a n → pgOk M (qap a + 256 * j) need = true) : allM M a n need = true:=by
 simp only [allM,h,decide_true,Bool.true_and,Bool.or_eq_true]
 exact .inr (List.all_eq_true.2 fun j hj=>h2 j (List.mem_range.1 hj))
theorem allM_no {M : MemG} {a n j : Nat} {need : Int} (hn : n ≠ 0) (hj : j < qga a n) (h2 : pgOk M (qap a + 256 * j) need = false) : allM M a n need = false:=by
 simp only [allM,hn,decide_false,Bool.false_or,Bool.and_eq_false_iff]
 refine .inr (Bool.eq_false_iff.2 fun h=>?_)
 have:=List.all_eq_true.1 h j (List.mem_range.2 hj)
 rw [h2] at this; cases this
theorem allM_big {M : MemG} {a n : Nat} {need : Int} (hn : n ≠ 0) (h : 4294967296 < a + n) : allM M a n need = false:=by
 simp only [allM,hn,decide_false,Bool.false_or,Bool.and_eq_false_iff,decide_eq_false_iff_not]
 exact .inl (by omega)
theorem allM_page {M : MemG} {a n i : Nat} {need : Int} (h : allM M a n need = true) (hi : i < n) : a + n ≤ 4294967296 ∧ ∃ p,qao M.pages (qap (a + i)) = some p ∧ may p.perm need = true:=by
 simp only [allM,Bool.or_eq_true,Bool.and_eq_true,decide_eq_true_eq] at h
 rcases h with h | ⟨h1,h2⟩
 ·omega
 refine ⟨h1,?_⟩
 have hb : qap (a + i) = qap a + 256 * ((a % 256 + i) / 256):=by unfold qap; omega
 have:=List.all_eq_true.1 h2 ((a % 256 + i) / 256) (List.mem_range.2 (by unfold qga; omega))
 rw [← hb,pgOk] at this
 split at this
 ·rename_i p hp; exact ⟨p,hp,this⟩
 ·cases this
theorem all_spec (b : Nat) (M : MemG) (x : MemX) (hf : MemF M x) (a n : Nat) (need : Int) (ha : a < 4294967296) (hn : n ≤ 65536) : Spec Tryz.prog 71 #[.pointer (some ⟨b,0,none⟩),.int .u32 a,.int .i64 n,.int .i64 need] (fun _=>True) [(0,Pt b (qcx M x)),(1,qcn .u32 x.pb x.pm),(2,Blks (qbp M x))]
  (fun ρ ρ' v L=>ρ' = ρ ∧ v = .bool (allM M a n need) ∧ L = [(0,Pt b (qcx M x)),(1,qcn .u32 x.pb x.pm),(2,Blks (qbp M x))]):=by
 refine Spec.of 51 Tryz.func71 rfl Tryz.ntmps71 [(0,_),(1,_),(2,_),(3,_)] rfl rfl ?_
 intro cx ρ hr h0
 refine Cd.seq fun K1 hK1=>?_
 refine Cd.qac [(0,false)] rfl rfl ?_
 refine Jp.y 8 rfl (qaa rfl) rfl rfl Kp.true (Y.assign rfl rfl) ?_
 refine Jp.qae hK1 ?_
 refine Cd.seq fun K2 hK2=>?_
 refine Cd.seq fun K3 hK3=>?_
 refine Cd.qac [(0,false),(1,false)] rfl rfl ?_
 refine Jp.y 12 rfl (qaa rfl) rfl rfl Kp.true (Y.move rfl rfl) ?_
 refine Jp.y 13 rfl (qaa rfl) rfl rfl Kp.true (Y.eql rfl rfl rfl) ?_
 refine Jp.qae hK3 ?_
 refine Cd.qar rfl (fun g13=>?_) (fun g13=>?_)
 ·skip
  try simp only [sG0] at g13
  refine Cd.seq fun K4 hK4=>?_
  refine Cd.qac [(0,false)] rfl rfl ?_
  refine Jp.y 8 rfl (qaa rfl) rfl rfl Kp.true (Y.assign rfl rfl) ?_
  refine Jp.qae hK4 ?_
  refine Cd.ret [(0,_),(1,_),(2,_)] rfl (qbd rfl rfl) ⟨rfl,rfl,rfl,trivial⟩ ⟨rfl,congrArg Value.bool ?_,rfl⟩
  have : n = 0:=by omega
  subst this; rfl
 try simp only [sG0] at g13
 refine Cd.qbu hK2 ?_
 refine Cd.seq fun K5 hK5=>?_
 refine Cd.seq fun K6 hK6=>?_
 refine Cd.qac [(0,false),(1,false),(2,false),(3,false),(4,false),(5,false)] rfl rfl ?_
 refine Jp.y 14 rfl (qaa rfl) rfl rfl Kp.true (Y.move rfl rfl) ?_
 refine Jp.y 15 rfl (qaa rfl) rfl rfl Kp.true (Y.qaw rfl rfl underlying24 underlying103 (by exact qbh (by omega) (by omega))) ?_
 refine Jp.y 16 rfl (qaa rfl) rfl rfl Kp.true (Y.move rfl rfl) ?_
 refine Jp.y 17 rfl (qaa rfl) rfl rfl Kp.true (Y.qaw rfl rfl underlying3 underlying103 (by exact qbh (by omega) (by omega))) ?_
 refine Jp.y 18 rfl (qaa rfl) rfl rfl Kp.true (Y.qcj rfl rfl rfl (by exact qbh (by omega) (by omega))) ?_
 refine Jp.y 19 rfl (qaa rfl) rfl rfl Kp.true (Y.gtr rfl rfl rfl) ?_
 refine Jp.qae hK6 ?_
 refine Cd.qar rfl (fun g19=>?_) (fun g19=>?_)
 ·skip
  try simp only [sG0] at g19
  refine Cd.seq fun K7 hK7=>?_
  refine Cd.qac [(0,false)] rfl rfl ?_
  refine Jp.y 8 rfl (qaa rfl) rfl rfl Kp.true (Y.assign rfl rfl) ?_
  refine Jp.qae hK7 ?_
  refine Cd.ret [(0,_),(1,_),(2,_)] rfl (qbd rfl rfl) ⟨rfl,rfl,rfl,trivial⟩ ⟨rfl,congrArg Value.bool (allM_big (by omega) (by omega)).symm,rfl⟩
 try simp only [sG0] at g19
 refine Cd.qbu hK5 ?_
 refine Cd.seq fun K8 hK8=>?_
 refine Cd.qac [(0,false),(1,false),(2,false),(3,false),(4,false),(5,false),(6,false)] rfl rfl ?_
 refine Jp.y 20 rfl (qaa rfl) rfl rfl Kp.true (Y.move rfl rfl) ?_
 refine Jp.y 21 rfl (qaa rfl) rfl rfl Kp.true (Y.move rfl rfl) ?_
 refine Jp.y 22 rfl (qaa rfl) rfl rfl Kp.true (Y.qfm rfl rfl rfl (by exact qaj (by omega) (by omega))) ?_
 refine Jp.y 23 rfl (qaa rfl) rfl rfl Kp.true (Y.qaw rfl rfl underlying3 underlying24 (by exact qba (by omega) (by omega))) ?_
 refine Jp.y 24 rfl (qaa rfl) rfl rfl Kp.true (Y.qcj rfl rfl rfl (by exact qba (by omega) (by omega))) ?_
 refine Jp.slot 24 rfl (congrArg (Value.int .u32) (show (a : Int) + (n - 1) = ((a + n - 1 : Nat) : Int) by omega)) ?_
 refine Jp.call [] [] (qcs (a + n - 1) (by omega)) 25 rfl (qaa rfl) rfl rfl (Runs.fn rfl call64 rfl) (by decide) (by decide) rfl trivial ?_
 rintro v1 ρ1 L1 ⟨rfl,rfl,rfl⟩
 refine ⟨rfl,fun hle1=>⟨Kp.true,?_⟩⟩
 refine Jp.y 9 rfl (qaa rfl) rfl rfl Kp.true (Y.assign rfl rfl) ?_
 refine Jp.qae hK8 ?_
 refine Cd.seq fun K9 hK9=>?_
 refine Cd.qac [(0,false),(1,false),(2,false)] rfl rfl ?_
 refine Jp.y 26 rfl (qaa rfl) rfl rfl Kp.true (Y.move rfl rfl) ?_
 refine Jp.call [] [] (qcs a ha) 27 rfl (qaa rfl) rfl rfl (Runs.fn rfl call64 rfl) (by decide) (by decide) rfl trivial ?_
 rintro v2 ρ2 L2 ⟨rfl,rfl,rfl⟩
 refine ⟨rfl,fun hle2=>⟨Kp.true,?_⟩⟩
 refine Jp.y 10 rfl (qaa rfl) rfl rfl Kp.true (Y.assign rfl rfl) ?_
 refine Jp.qae hK9 ?_
 refine Cd.block ?_
 have hc1 : 1 ≤ qga a n:=by unfold qga; omega
 have hlast : qap (a + n - 1) = qap a + 256 * (qga a n - 1):=by unfold qap qga; omega
 have hb0 : qap a ≤ a:=by unfold qap; omega
 have hb1 : qap a + 256 * (qga a n - 1) < 4294967296:=by rw [← hlast]; unfold qap; omega
 rw [hlast]
 refine Cd.qdv (G:=Nat) (fun j=>j < qga a n ∧ ∀ i,i < j → pgOk M (qap a + 256 * i) need = true) (fun j=>qga a n - j) (fun _=>_) (fun j=>[(10,.int .u32 ((qap a + 256 * j : Nat) : Int))]) [(0,_),(3,_),(9,_)] (fun _=>[]) [(0,_),(1,_),(2,_)] 0 ⟨hc1,fun i h=>by omega⟩ rfl ⟨rfl,trivial⟩ ⟨rfl,rfl,rfl,trivial⟩ trivial ⟨rfl,rfl,rfl,trivial⟩ (fun g KLa hok hLa=>?_)
 obtain ⟨ok1,ok2⟩:=hok
 have hget:=hf.get (qap a + 256 * g)
 refine Cd.seq fun K10 hK10=>?_
 refine Cd.block ?_
 refine Cd.seq fun K11 hK11=>?_
 refine Cd.qac [(0,false),(1,false),(2,false),(3,false),(4,false),(5,false),(6,false)] rfl rfl ?_
 refine Jp.y 30 rfl (qaa rfl) rfl rfl Kp.true (Y.move rfl rfl) ?_
 refine Jp.y 31 rfl (qaa rfl) rfl rfl Kp.true (Y.qan rfl rfl) ?_
 refine Jp.y 32 rfl (qaa rfl) rfl rfl Kp.true (by exact Y.qad rfl rfl underlying102 rfl sizeOf99 (by decide) (show _ + 1 = _ from rfl)) ?_
 refine Jp.y 33 rfl (qaa rfl) rfl rfl Kp.true (Y.qau 0 rfl isAgg99 rfl rfl rfl) ?_
 refine Jp.y 34 rfl (qaa rfl) rfl rfl Kp.true (Y.move rfl rfl) ?_
 refine Jp.y 35 rfl (qaa rfl) rfl rfl Kp.true (by first | exact Y.lookup 1 rfl rfl rfl underlying99 underlying24 zeroValue107 rfl) ?_
 refine Jp.y 11 rfl (qaa rfl) rfl rfl Kp.true (Y.assign rfl rfl) ?_
 refine Jp.qae hK11 ?_
 refine Cd.seq fun K12 hK12=>?_
 refine Cd.seq fun K13 hK13=>?_
 refine Cd.qac [(0,false),(1,false),(2,false),(3,false),(4,false),(5,false),(6,false),(7,false),(8,false),(9,false),(10,false),(11,false)] rfl rfl ?_
 rcases hg : qao M.pages (qap a + 256 * g) with _ | p
 ·rw [hg] at hget
  refine Jp.slot 11 rfl (show _ = Value.pointer none by rw [hget]; rfl) ?_
  refine Jp.y 36 rfl (qaa rfl) rfl rfl Kp.true (Y.move rfl rfl) ?_
  refine Jp.y 37 rfl (qaa rfl) rfl rfl Kp.true (Y.qeu rfl underlying107 rfl rfl) ?_
  refine Jp.y 38 rfl (qaa rfl) rfl rfl Kp.true (Y.move rfl rfl) ?_
  refine Jp.split 38 rfl (fun g38=>?_) (fun g38=>?_)
  ·skip
   try simp only [sG0] at g38
   skip
   refine Jp.qaq 39 rfl (qab rfl rfl rfl rfl) rfl rfl Kp.true ?_
   refine Jp.qaq 40 rfl (qab rfl rfl rfl rfl) rfl rfl Kp.true ?_
   refine Jp.qaq 41 rfl (qab rfl rfl rfl rfl) rfl rfl Kp.true ?_
   refine Jp.qaq 42 rfl (qab rfl rfl rfl rfl) rfl rfl Kp.true ?_
   refine Jp.qaq 43 rfl (qab rfl rfl rfl rfl) rfl rfl Kp.true ?_
   refine Jp.qaq 44 rfl (qab rfl rfl rfl rfl) rfl rfl Kp.true ?_
   refine Jp.qaq 45 rfl (qab rfl rfl rfl rfl) rfl rfl Kp.true ?_
   refine Jp.qaq 46 rfl (qab rfl rfl rfl rfl) rfl rfl Kp.true ?_
   refine Jp.y 47 rfl (qaa rfl) rfl rfl Kp.true (Y.qav rfl rfl rfl) ?_
   refine Jp.qae hK13 ?_
   refine Cd.qcw rfl ?_
   refine Cd.seq fun K14 hK14=>?_
   refine Cd.qac [(0,false)] rfl rfl ?_
   refine Jp.y 8 rfl (qaa rfl) rfl rfl Kp.true (Y.assign rfl rfl) ?_
   refine Jp.qae hK14 ?_
   refine Cd.ret [(0,_),(1,_),(2,_)] rfl (qbd rfl rfl) ⟨rfl,rfl,rfl,trivial⟩ ⟨rfl,congrArg Value.bool ?_,rfl⟩
   exact (allM_no (M:=M) (a:=a) (n:=n) (by omega) ok1 (pgOk_none hg)).symm
  ·skip
   try simp only [sG0] at g38
   ((simp at g38; done))
 ·rw [hg] at hget
  refine Jp.slot 11 rfl (show _ = Value.pointer (some ⟨x.blk (qap a + 256 * g),0,none⟩) by rw [hget]; rfl) ?_
  have hpo:=hf.ok.page _ (qbc hg)
  have hcell:=Blks.cell (MemF.blk (x:=x) hg) (qbv p hpo.len)
  refine Jp.y 36 rfl (qaa rfl) rfl rfl Kp.true (Y.move rfl rfl) ?_
  refine Jp.y 37 rfl (qaa rfl) rfl rfl Kp.true (Y.qeu rfl underlying107 rfl rfl) ?_
  refine Jp.y 38 rfl (qaa rfl) rfl rfl Kp.true (Y.move rfl rfl) ?_
  refine Jp.split 38 rfl (fun g38=>?_) (fun g38=>?_)
  ·skip
   try simp only [sG0] at g38
   ((simp at g38; done))
  ·skip
   try simp only [sG0] at g38
   skip
   refine Jp.y 39 rfl (qab rfl rfl rfl rfl) rfl rfl Kp.true (Y.move rfl rfl) ?_
   refine Jp.y 40 rfl (qab rfl rfl rfl rfl) rfl rfl Kp.true (Y.qan rfl rfl) ?_
   refine Jp.y 41 rfl (qab rfl rfl rfl rfl) rfl rfl Kp.true (by exact Y.qad rfl rfl underlying109 rfl sizeOf3 (by decide) (show _ + 256 = _ from rfl)) ?_
   refine Jp.y 42 rfl (qab rfl rfl rfl rfl) rfl rfl Kp.true (by exact Y.qbg 2 rfl isAgg3 rfl rfl hcell) ?_
   refine Jp.y 43 rfl (qab rfl rfl rfl rfl) rfl rfl Kp.true (Y.move rfl rfl) ?_
   refine Jp.y 44 rfl (qab rfl rfl rfl rfl) rfl rfl Kp.true (Y.bits rfl rfl rfl rfl) ?_
   refine Jp.y 45 rfl (qab rfl rfl rfl rfl) rfl rfl Kp.true (Y.move rfl rfl) ?_
   refine Jp.y 46 rfl (qab rfl rfl rfl rfl) rfl rfl Kp.true (Y.neq rfl rfl rfl) ?_
   refine Jp.y 47 rfl (qaa rfl) rfl rfl Kp.true (Y.qay rfl rfl rfl) ?_
   refine Jp.qae hK13 ?_
   refine Cd.qar rfl (fun g47=>?_) (fun g47=>?_)
   ·skip
    try simp only [sG0] at g47
    skip
    refine Cd.seq fun K19 hK19=>?_
    refine Cd.qac [(0,false)] rfl rfl ?_
    refine Jp.y 8 rfl (qaa rfl) rfl rfl Kp.true (Y.assign rfl rfl) ?_
    refine Jp.qae hK19 ?_
    refine Cd.ret [(0,_),(1,_),(2,_)] rfl (qbd rfl rfl) ⟨rfl,rfl,rfl,trivial⟩ ⟨rfl,congrArg Value.bool ?_,rfl⟩
    exact (allM_no (M:=M) (a:=a) (n:=n) (by omega) ok1 (by rw [pgOk_some hg]; simpa [may] using g47)).symm
   ·skip
    try simp only [sG0] at g47
    skip
    refine Cd.qbu hK12 ?_
    refine Cd.seq fun K20 hK20=>?_
    refine Cd.qac [(0,false),(1,false),(2,false)] rfl rfl ?_
    refine Jp.y 48 rfl (qaa rfl) rfl rfl Kp.true (Y.move rfl rfl) ?_
    refine Jp.y 49 rfl (qaa rfl) rfl rfl Kp.true (Y.move rfl rfl) ?_
    refine Jp.y 50 rfl (qaa rfl) rfl rfl Kp.true (Y.eql rfl rfl rfl) ?_
    refine Jp.qae hK20 ?_
    refine Cd.qar rfl (fun g50=>?_) (fun g50=>?_)
    ·skip
     try simp only [sG0] at g50
     skip
     refine Cd.seq fun K21 hK21=>?_
     refine Cd.qac [(0,false)] rfl rfl ?_
     refine Jp.y 8 rfl (qaa rfl) rfl rfl Kp.true (Y.assign rfl rfl) ?_
     refine Jp.qae hK21 ?_
     refine Cd.ret [(0,_),(1,_),(2,_)] rfl (qbd rfl rfl) ⟨rfl,rfl,rfl,trivial⟩ ⟨rfl,congrArg Value.bool ?_,rfl⟩
     exact (allM_yes (M := M) (a := a) (n := n) (by omega) (fun i hi => by
      by_cases hij : i < g
      ·exact ok2 i hij
      ·have : i = g:=by omega
       subst this; rw [pgOk_some hg]; simpa [may] using g47)).symm
    ·skip
     try simp only [sG0] at g50
     skip
     refine Cd.over rfl hK10 ?_
     refine Cd.qac [(0,false),(1,false),(2,false)] rfl rfl ?_
     refine Jp.y 28 rfl (qaa rfl) rfl rfl Kp.true (Y.move rfl rfl) ?_
     refine Jp.y 29 rfl (qaa rfl) rfl rfl Kp.true (Y.qcj rfl rfl rfl (by exact qba (by omega) (by omega))) ?_
     refine Jp.y 10 rfl (qaa rfl) rfl rfl Kp.true (Y.assign rfl rfl) ?_
     have hyes : pgOk M (qap a + 256 * g) need = true:=by rw [pgOk_some hg]; simpa [may] using g47
     refine Jp.slot 10 rfl (congrArg (Value.int .u32) (show ((qap a + 256 * g : Nat) : Int) + 256 = ((qap a + 256 * (g + 1) : Nat) : Int) by omega)) ?_
     refine Jp.again hLa (g + 1) ⟨by omega,fun i hi=>?_⟩ (by omega) rfl ⟨rfl,rfl,rfl,rfl,trivial⟩ ⟨rfl,rfl,rfl,trivial⟩
     by_cases hij : i < g
     ·exact ok2 i hij
     ·have : i = g:=by omega
      subst this; exact hyes
def byteM (M : MemG) (a : Nat) : UInt8:=match qao M.pages (qap a) with
 | some p=>p.b.getD (a % 256) 0
 | none=>0
def readL (M : MemG) (a n : Nat) : qal:=(List.range n).map fun i=>byteM M (a + i)
def readM (M : MemG) (a : Nat) (n : Int) : qal × Int:=if n < 0 ∨ 4096 < n then ([],1) else if allM M a n.toNat 1 = false then ([],8) else (readL M a n.toNat,0)
end Go.Proofs.YtnfkalpgidiafaaGreat
set_option linter.unusedVariables false
set_option linter.unusedSimpArgs false
set_option maxRecDepth 100000
namespace Go.Proofs.YtnfkalpgidiafaaGreat
open _root_.Go.Proofs.Tryz
open Go
def qfq (l : List (Nat × Pg)) (at' : Nat) (x : UInt8) : List (Nat × Pg):=match qao l (qap at') with
 | some p=>qbt l (qap at') ⟨p.b.set (at' % 256) x,p.perm⟩
 | none=>l
def wrM (M : MemG) (a : Nat) (l : qal) : Nat → MemG
 | 0=>M
 | i + 1=>{ wrM M a l i with pages:=qfq (wrM M a l i).pages (a + i) (l.getD i 0),gens:=if i = 0 ∨ (a + i) % 256 = 0 then bump (wrM M a l i).gens (qap (a + i)) else (wrM M a l i).gens }
def qdg (M : MemG) (a : Nat) (l : qal) (most need : Int) : Int × MemG:=if most < l.length then (1,M) else if allM M a l.length need = false then (8,M) else (0,wrM M a l l.length)
theorem getPg_setByte (l : List (Nat × Pg)) (at' : Nat) (x : UInt8) (k : Nat) : qao (qfq l at' x) k = if k = qap at' then (qao l k).map fun p=>⟨p.b.set (at' % 256) x,p.perm⟩ else qao l k:=by
 unfold qfq
 split
 ·rename_i p hp
  rw [qhs]
  by_cases h : k = qap at'
  ·subst h; simp [hp]
  ·simp [h]
 ·rename_i hp
  by_cases h : k = qap at'
  ·subst h; simp [hp]
  ·simp [h]
theorem wrM_page {M : MemG} (a : Nat) (l : qal) {k : Nat} {p : Pg} (h : qao M.pages k = some p) (i : Nat) : ∃ q,qao (wrM M a l i).pages k = some q ∧ q.perm = p.perm ∧ q.b.length = p.b.length:=by
 induction i with
 | zero=>exact ⟨p,h,rfl,rfl⟩
 | succ i ih =>
  obtain ⟨q,h1,h2,h3⟩:=ih
  show ∃ q,qao (qfq _ _ _) k = some q ∧ _
  rw [getPg_setByte,h1]
  by_cases hk : k = qap (a + i)
  ·rw [if_pos hk]; exact ⟨_,rfl,h2,by simpa using h3⟩
  ·rw [if_neg hk]; exact ⟨q,rfl,h2,h3⟩
theorem wrM_budget (M : MemG) (a : Nat) (l : qal) (i : Nat) : (wrM M a l i).budget = M.budget:=by
 induction i with
 | zero=>rfl
 | succ i ih=>exact ih
theorem wrM_bump {M : MemG} {a i : Nat} {l : qal} {q : Pg} {x : UInt8} (hx : l[i]? = some x) (hq : qao (wrM M a l i).pages (qap (a + i)) = some q) (h : i = 0 ∨ (a + i) % 256 = 0) :
  wrM M a l (i + 1) = { wrM M a l i with pages:=qbt (wrM M a l i).pages (qap (a + i)) ⟨q.b.set ((a + i) % 256) x,q.perm⟩,gens:=bump (wrM M a l i).gens (qap (a + i)) }:=by
 rw [wrM,if_pos h,qfq,hq,List.getD_eq_getElem?_getD,hx]; rfl
theorem wrM_still {M : MemG} {a i : Nat} {l : qal} {q : Pg} {x : UInt8} (hx : l[i]? = some x) (hq : qao (wrM M a l i).pages (qap (a + i)) = some q) (h : ¬ (i = 0 ∨ (a + i) % 256 = 0)) :
  wrM M a l (i + 1) = { wrM M a l i with pages:=qbt (wrM M a l i).pages (qap (a + i)) ⟨q.b.set ((a + i) % 256) x,q.perm⟩ }:=by
 rw [wrM,if_neg h,qfq,hq,List.getD_eq_getElem?_getD,hx]; rfl
theorem qhk (p : Pg) {j : Nat} (h : p.b.length = 256) (hj : j < 256) (x : UInt8) : (qbb p).toArray.setIfInBounds j (.int .u8 (x.toNat : Int)) = (qbb ⟨p.b.set j x,p.perm⟩).toArray:=by
 rw [List.setIfInBounds_toArray]
 congr 1
 rw [qbb,List.set_append_left _ _ (by rw [qaf,List.length_map]; omega),bytesV_set]; rfl
theorem RdB.cell {s : Sl UInt8} {ρ : Hp} (hr : RdB s ρ) {i : Nat} {x : UInt8} (h : s.xs[i]? = some x) : ∃ ad,s.A = some ad ∧ qed ρ (ad.add i) = some (.int .u8 (x.toNat : Int)) :=
 hr.2.2 i _ (by rw [qaf,List.getElem?_map,h]; rfl)
theorem write_spec (b : Nat) (M : MemG) (a : Nat) (s : Sl UInt8) (most need : Int) (ha : a < 4294967296) (hmost : most ≤ 65536) : Spec Tryz.prog 35 #[.pointer (some ⟨b,0,none⟩),.int .u32 a,s.v,.int .i64 most,.int .i64 need] (RdB s) [(0,qew b M)]
  (fun ρ ρ' v L=>ρ' = ρ ∧ v = .int .i64 (qdg M a s.xs most need).1 ∧ L = [(0,qew b (qdg M a s.xs most need).2)]):=by
 obtain ⟨A,c,xs⟩:=s
 dsimp only [Sl.v]
 refine Spec.of 67 Tryz.func35 rfl Tryz.ntmps35 [(0,_),(1,_),(2,_),(3,_),(4,_)] rfl rfl ?_
 intro cx ρ hr h0
 have lx : xs.length ≤ 281474976710656:=hr.2.1.2
 refine Cd.memOpen 0 1 2 3 (by decide) rfl fun x hf=>?_
 refine Cd.seq fun K1 hK1=>?_
 refine Cd.qac [(0,false)] rfl rfl ?_
 refine Jp.y 10 rfl (qaa rfl) rfl rfl Kp.true (Y.assign rfl rfl) ?_
 refine Jp.qae hK1 ?_
 refine Cd.seq fun K2 hK2=>?_
 refine Cd.block ?_
 refine Cd.seq fun K3 hK3=>?_
 refine Cd.qac [(0,false),(1,false),(2,false),(3,false),(4,false)] rfl rfl ?_
 refine Jp.y 15 rfl (qaa rfl) rfl rfl Kp.true (Y.move rfl rfl) ?_
 refine Jp.y 16 rfl (qaa rfl) rfl rfl Kp.true (Y.qbq rfl underlying23 rfl) ?_
 refine Jp.y 17 rfl (qaa rfl) rfl rfl Kp.true (Y.move rfl rfl) ?_
 refine Jp.y 18 rfl (qaa rfl) rfl rfl Kp.true (Y.gtr rfl rfl rfl) ?_
 refine Jp.y 14 rfl (qaa rfl) rfl rfl Kp.true (Y.assign rfl rfl) ?_
 refine Jp.qae hK3 ?_
 refine Cd.qar rfl (fun g14=>?_) (fun g14=>?_)
 ·skip
  try simp only [sG0] at g14
  refine Cd.seq fun K4 hK4=>?_
  refine Cd.qac [(0,false)] rfl rfl ?_
  refine Jp.y 10 rfl (qaa rfl) rfl rfl Kp.true (Y.assign rfl rfl) ?_
  refine Jp.qae hK4 ?_
  have hV : qdg M a xs most need = (1,M):=by rw [qdg,if_pos (by omega)]
  refine Cd.memClose 0 1 2 3 (by decide) hf rfl rfl rfl rfl ?_
  refine Cd.ret [(0,_)] rfl (qbd rfl rfl) ⟨rfl,trivial⟩ ⟨rfl,by rw [hV],by rw [hV]⟩
 try simp only [sG0] at g14
 refine Cd.seq fun K5 hK5=>?_
 refine Cd.qac [(0,false),(1,false),(2,false),(3,false),(4,false),(5,false),(6,false),(7,false)] rfl rfl ?_
 refine Jp.y 20 rfl (qaa rfl) rfl rfl Kp.true (Y.move rfl rfl) ?_
 refine Jp.y 21 rfl (qaa rfl) rfl rfl Kp.true (Y.move rfl rfl) ?_
 refine Jp.y 22 rfl (qaa rfl) rfl rfl Kp.true (Y.move rfl rfl) ?_
 refine Jp.y 23 rfl (qaa rfl) rfl rfl Kp.true (Y.qbq rfl underlying23 rfl) ?_
 refine Jp.y 24 rfl (qaa rfl) rfl rfl Kp.true (Y.move rfl rfl) ?_
 refine Jp.call [0,1,3] [0,1,3] (all_spec b M x hf a xs.length need ha (by omega)) 25 rfl (qaa rfl) rfl rfl (Runs.fn rfl call71 rfl) (by decide) (by decide) rfl trivial ?_
 rintro v1 ρ1 L1 ⟨rfl,rfl,rfl⟩
 refine ⟨rfl,fun hle1=>⟨Kp.true,?_⟩⟩
 refine Jp.y 26 rfl (qaa rfl) rfl rfl Kp.true (Y.not rfl rfl) ?_
 refine Jp.y 19 rfl (qaa rfl) rfl rfl Kp.true (Y.assign rfl rfl) ?_
 refine Jp.qae hK5 ?_
 refine Cd.qar rfl (fun g19=>?_) (fun g19=>?_)
 ·skip
  try simp only [sG0] at g19
  refine Cd.seq fun K6 hK6=>?_
  refine Cd.qac [(0,false)] rfl rfl ?_
  refine Jp.y 10 rfl (qaa rfl) rfl rfl Kp.true (Y.assign rfl rfl) ?_
  refine Jp.qae hK6 ?_
  have hV : qdg M a xs most need = (8,M):=by rw [qdg,if_neg (by omega),if_pos g19]
  refine Cd.memClose 0 1 2 3 (by decide) hf rfl rfl rfl rfl ?_
  refine Cd.ret [(0,_)] rfl (qbd rfl rfl) ⟨rfl,trivial⟩ ⟨rfl,by rw [hV],by rw [hV]⟩
 try simp only [sG0] at g19
 refine Cd.over rfl hK2 ?_
 refine Cd.seq fun K7 hK7=>?_
 refine Cd.seq fun K8 hK8=>?_
 refine Cd.qac [(0,false),(1,false),(2,false)] rfl rfl ?_
 refine Jp.y 27 rfl (qaa rfl) rfl rfl Kp.true (Y.move rfl rfl) ?_
 refine Jp.y 28 rfl (qaa rfl) rfl rfl Kp.true (Y.qbq rfl underlying23 rfl) ?_
 refine Jp.y 29 rfl (qaa rfl) rfl rfl Kp.true (Y.move rfl rfl) ?_
 refine Jp.qae hK8 ?_
 refine Cd.block ?_
 have hV : qdg M a xs most need = (0,wrM M a xs xs.length):=by rw [qdg,if_neg (by omega),if_neg (by rw [g19]; simp)]
 refine Cd.qdv (G:=Nat × MemX) (fun g=>g.1 ≤ xs.length ∧ MemF (wrM M a xs g.1) g.2 ∧ g.2.pb = x.pb ∧ g.2.gb = x.gb) (fun g=>xs.length - g.1) (fun _=>_) (fun g=>[(29,.int .i64 g.1)]) [(0,_),(1,_),(27,_),(28,_)] (fun g=>[(1,qcn .u32 x.pb g.2.pm),(2,qcn .u32 x.gb g.2.gm),(3,Blks (qbp (wrM M a xs g.1) g.2))]) [(0,_)] ⟨0,x⟩ ⟨Nat.zero_le _,hf,rfl,rfl⟩ rfl ⟨rfl,trivial⟩ ⟨rfl,rfl,rfl,rfl,trivial⟩ ⟨rfl,rfl,rfl,trivial⟩ ⟨rfl,trivial⟩ (fun g KLa hok hLa=>?_)
 obtain ⟨i,y⟩:=g
 obtain ⟨ok1,ok2,ok3,ok4⟩:=hok
 dsimp only at ok1 ok2 ok3 ok4 ⊢
 refine Cd.seq fun K9 hK9=>?_
 refine Cd.qac [(0,false)] rfl rfl ?_
 refine Jp.y 30 rfl (qaa rfl) rfl rfl Kp.true (Y.lss rfl rfl rfl) ?_
 refine Jp.qae hK9 ?_
 refine Cd.seq fun K10 hK10=>?_
 refine Cd.qar rfl (fun ga=>?_) (fun ga=>?_)
 ·simp only [decide_eq_true_eq] at ga
  have hi : i < xs.length:=by omega
  have hx : xs[i]? = some xs[i]:=by simp [hi]
  obtain ⟨hle,p,hg,hm⟩:=allM_page g19 hi
  obtain ⟨ad,hA,hc⟩:=RdB.cell hr hx
  dsimp only at hA
  subst hA
  have hpo:=hf.ok.page _ (qbc hg)
  obtain ⟨q,hq,hq1,hq2⟩:=wrM_page a xs hg i
  have hql : q.b.length = 256:=by rw [hq2]; exact hpo.len
  have hget:=ok2.get (qap (a + i))
  rw [hq] at hget
  have hj : (a + i) % 256 < 256:=Nat.mod_lt _ (by omega)
  have hf2 : MemF { wrM M a xs i with pages:=qbt (wrM M a xs i).pages (qap (a + i)) ⟨q.b.set ((a + i) % 256) xs[i],q.perm⟩ } y:=ok2.set hq (by simpa using hql) (by rw [hq1]; exact hpo.perm)
  refine Cd.qbu hK10 ?_
  refine Cd.seq fun K11 hK11=>?_
  refine Cd.block ?_
  refine Cd.seq fun K12 hK12=>?_
  refine Cd.qac [(0,false),(1,false),(2,false),(3,false),(4,false)] rfl rfl ?_
  refine Jp.y 31 rfl (qaa rfl) rfl rfl Kp.true (Y.move rfl rfl) ?_
  refine Jp.y 32 rfl (qaa rfl) rfl rfl Kp.true (Y.qbr (q:=i) rfl rfl rfl underlying23 sizeOf5 (by omega) (by omega) (by omega)) ?_
  refine Jp.y 33 rfl (qaa rfl) rfl rfl Kp.true (by exact Y.loadR rfl isAgg5 rfl hc) ?_
  refine Jp.y 11 rfl (qaa rfl) rfl rfl Kp.true (Y.assign rfl rfl) ?_
  refine Jp.y 12 rfl (qaa rfl) rfl rfl Kp.true (Y.assign rfl rfl) ?_
  refine Jp.qae hK12 ?_
  refine Cd.seq fun K13 hK13=>?_
  refine Cd.qac [(0,false),(1,false),(2,false),(3,false),(4,false)] rfl rfl ?_
  refine Jp.y 34 rfl (qaa rfl) rfl rfl Kp.true (Y.move rfl rfl) ?_
  refine Jp.y 35 rfl (qaa rfl) rfl rfl Kp.true (Y.move rfl rfl) ?_
  refine Jp.y 36 rfl (qaa rfl) rfl rfl Kp.true (Y.qaw rfl rfl underlying3 underlying24 (by exact qba (by omega) (by omega))) ?_
  refine Jp.y 37 rfl (qaa rfl) rfl rfl Kp.true (Y.qcj rfl rfl rfl (by exact qba (by omega) (by omega))) ?_
  refine Jp.slot 37 rfl (congrArg (Value.int .u32) (show (a : Int) + i = ((a + i : Nat) : Int) by omega)) ?_
  refine Jp.y 13 rfl (qaa rfl) rfl rfl Kp.true (Y.assign rfl rfl) ?_
  refine Jp.qae hK13 ?_
  refine Cd.seq fun K14 hK14=>?_
  refine Cd.drawn [(0,_),(1,_)] ⟨rfl,rfl,trivial⟩ [(0,true),(1,true),(2,true),(3,true),(4,true),(7,true),(8,true),(9,true),(5,false),(6,true),(10,true),(11,true),(12,true),(13,false)] follows (by kernel_rfl) (fun hrl=>?_)
  refine Jp.q 38 rfl (qaa rfl) rfl rfl (Y.move rfl rfl) ?_
  refine Jp.q 39 rfl (qaa rfl) rfl rfl (Y.qan rfl rfl) ?_
  refine Jp.q 40 rfl (qaa rfl) rfl rfl (by exact Y.qad rfl rfl underlying102 rfl sizeOf99 (by decide) (show _ + 1 = _ from rfl)) ?_
  refine Jp.q 41 rfl (qaa rfl) rfl rfl (by exact Y.qau 0 rfl isAgg99 rfl rfl rfl) ?_
  refine Jp.q 42 rfl (qaa rfl) rfl rfl (Y.move rfl rfl) ?_
  refine Jp.q 45 rfl (qaa rfl) rfl rfl (Y.move rfl rfl) ?_
  refine Jp.q 46 rfl (qaa rfl) rfl rfl (by exact Y.remN rfl rfl rfl (by omega) (by omega)) ?_
  refine Jp.q 47 rfl (qaa rfl) rfl rfl (Y.move rfl rfl) ?_
  refine Jp.call [] [] (qcs (a + i) (by omega)) 43 rfl (qaa rfl) rfl rfl (Runs.fn rfl call64 rfl) (by decide) (by decide) rfl trivial ?_
  rintro v3 ρ3 L3 ⟨rfl,rfl,rfl⟩
  refine ⟨rfl,fun hle3=>⟨(Kp.st ⟨rfl,rfl,trivial⟩),?_⟩⟩
  refine Jp.q 44 rfl (qaa rfl) rfl rfl (by first | exact Y.lookup 1 rfl rfl rfl underlying99 underlying24 zeroValue107 rfl) ?_
  refine Jp.slot 44 rfl (show _ = Value.pointer (some ⟨y.blk (qap (a + i)),0,none⟩) by rw [hget]; rfl) ?_
  refine Jp.know (φ:=((qbp (wrM M a xs i) y).map (·.1)).Nodup) (A:=Blks (qbp (wrM M a xs i) y)) 3 rfl (fun _ h=>h.1) fun hnd=>?_
  refine Jp.q 48 rfl (qaa rfl) rfl rfl (Y.qan rfl rfl) ?_
  refine Jp.q 49 rfl (qaa rfl) rfl rfl (by exact Y.qad rfl rfl underlying109 rfl sizeOf90 (by decide) (show _ + 0 = _ from rfl)) ?_
  refine Jp.q 50 rfl (qaa rfl) rfl rfl (Y.qam (q:=(a + i) % 256) rfl rfl rfl underlying90 sizeOf5 (by omega) (by omega) (by omega)) ?_
  refine Jp.qct 3 (Blks (qbp { wrM M a xs i with pages:=qbt (wrM M a xs i).pages (qap (a + i)) ⟨q.b.set ((a + i) % 256) xs[i],q.perm⟩ } y)) rfl (qaa rfl) rfl rfl sizeOf5 rfl rfl rfl rfl rfl (Blks.set (MemF.blk hq) (by simp [qbb,qaf,hql]; omega) (qas _) (by rw [qhk q hql hj]; exact updB_blks hnd hq)) Kp.last ?_
  refine Jp.qae hK14 ?_
  refine Cd.seq fun K16 hK16=>?_
  refine Cd.qac [(0,false),(1,false),(2,false),(3,false),(4,false),(5,false),(6,false)] rfl rfl ?_
  refine Jp.y 51 rfl (qaa rfl) rfl rfl Kp.true (Y.move rfl rfl) ?_
  refine Jp.y 52 rfl (qaa rfl) rfl rfl Kp.true (Y.eql rfl rfl rfl) ?_
  refine Jp.y 53 rfl (qaa rfl) rfl rfl Kp.true (Y.move rfl rfl) ?_
  refine Jp.split 53 rfl (fun g53=>?_) (fun g53=>?_)
  ·skip
   try simp only [sG0] at g53
   refine Jp.qaq 54 rfl (qab rfl rfl rfl rfl) rfl rfl Kp.true ?_
   refine Jp.qaq 55 rfl (qab rfl rfl rfl rfl) rfl rfl Kp.true ?_
   refine Jp.qaq 56 rfl (qab rfl rfl rfl rfl) rfl rfl Kp.true ?_
   refine Jp.y 57 rfl (qaa rfl) rfl rfl Kp.true (Y.qav rfl rfl rfl) ?_
   refine Jp.qae hK16 ?_
   refine Cd.qcw rfl ?_
   have hc : i = 0 ∨ (a + i) % 256 = 0:=by omega
   have e:=wrM_bump hx hq hc
   refine Cd.drawn [(0,_),(2,_)] ⟨rfl,rfl,trivial⟩ [(0,true),(1,true),(2,true),(3,true),(4,true),(5,false),(6,true),(7,true),(8,false)] follows (by kernel_rfl) (fun hrl=>?_)
   refine Jp.q 58 rfl (qaa rfl) rfl rfl (Y.move rfl rfl) ?_
   refine Jp.q 59 rfl (qaa rfl) rfl rfl (Y.qan rfl rfl) ?_
   refine Jp.q 60 rfl (qaa rfl) rfl rfl (by exact Y.qad rfl rfl underlying102 rfl sizeOf100 (by decide) (show _ + 2 = _ from rfl)) ?_
   refine Jp.q 61 rfl (qaa rfl) rfl rfl (by exact Y.qau 0 rfl isAgg100 rfl rfl rfl) ?_
   refine Jp.q 62 rfl (qaa rfl) rfl rfl (Y.move rfl rfl) ?_
   refine Jp.call [] [] (qcs (a + i) (by omega)) 63 rfl (qaa rfl) rfl rfl (Runs.fn rfl call64 rfl) (by decide) (by decide) rfl trivial ?_
   rintro v101 ρ101 L101 ⟨rfl,rfl,rfl⟩
   refine ⟨rfl,fun hle101=>⟨(Kp.st ⟨rfl,rfl,trivial⟩),?_⟩⟩
   refine Jp.q 64 rfl (qaa rfl) rfl rfl (by first | exact Y.lookup 2 rfl rfl rfl underlying100 underlying24 zeroValue24 rfl) ?_
   refine Jp.slot 64 rfl ((ok2.gens _)) ?_
   refine Jp.q 65 rfl (qaa rfl) rfl rfl (Y.qcj rfl rfl rfl (qhc ((wrM M a xs i).gens (qap (a + i)) + 1))) ?_
   first | refine Jp.mapUpdate 2 rfl (qaa rfl) rfl rfl rfl rfl rfl underlying100 underlying24 rfl Kp.last ?_
   refine Jp.over rfl hK11 ?_
   refine Cd.qac [(0,false),(1,false)] rfl rfl ?_
   refine Jp.y 66 rfl (qaa rfl) rfl rfl Kp.true (Y.qcj rfl rfl rfl (by exact qaj (by omega) (by omega))) ?_
   refine Jp.y 29 rfl (qaa rfl) rfl rfl Kp.true (Y.move rfl rfl) ?_
   refine Jp.imp (j:=3) rfl (fun h hh=>(show Blks (qbp (wrM M a xs (i + 1)) y) h by rw [e]; exact hh)) ?_
   refine Jp.again hLa ⟨i + 1,{ y with gm:=qgy y.gm (qap (a + i)) (.int .u32 ((((wrM M a xs i).gens (qap (a + i)) + 1) % 4294967296 : Nat) : Int)) }⟩ ⟨hi,by rw [e]; exact hf2.bump (qap (a + i)),ok3,ok4⟩ (by show xs.length - (i + 1) < xs.length - i; omega) rfl ⟨rfl,rfl,rfl,rfl,rfl,trivial⟩ ⟨rfl,rfl,rfl,rfl,trivial⟩
  ·skip
   try simp only [sG0] at g53
   refine Jp.y 54 rfl (qab rfl rfl rfl rfl) rfl rfl Kp.true (Y.move rfl rfl) ?_
   refine Jp.y 55 rfl (qab rfl rfl rfl rfl) rfl rfl Kp.true (by exact Y.remN rfl rfl rfl (by omega) (by omega)) ?_
   refine Jp.y 56 rfl (qab rfl rfl rfl rfl) rfl rfl Kp.true (Y.eql rfl rfl rfl) ?_
   refine Jp.y 57 rfl (qaa rfl) rfl rfl Kp.true (Y.qay rfl rfl rfl) ?_
   refine Jp.qae hK16 ?_
   refine Cd.qar rfl (fun g57=>?_) (fun g57=>?_)
   ·skip
    try simp only [sG0] at g57
    have hc : i = 0 ∨ (a + i) % 256 = 0:=by omega
    have e:=wrM_bump hx hq hc
    refine Cd.drawn [(0,_),(2,_)] ⟨rfl,rfl,trivial⟩ [(0,true),(1,true),(2,true),(3,true),(4,true),(5,false),(6,true),(7,true),(8,false)] follows (by kernel_rfl) (fun hrl=>?_)
    refine Jp.q 58 rfl (qaa rfl) rfl rfl (Y.move rfl rfl) ?_
    refine Jp.q 59 rfl (qaa rfl) rfl rfl (Y.qan rfl rfl) ?_
    refine Jp.q 60 rfl (qaa rfl) rfl rfl (by exact Y.qad rfl rfl underlying102 rfl sizeOf100 (by decide) (show _ + 2 = _ from rfl)) ?_
    refine Jp.q 61 rfl (qaa rfl) rfl rfl (by exact Y.qau 0 rfl isAgg100 rfl rfl rfl) ?_
    refine Jp.q 62 rfl (qaa rfl) rfl rfl (Y.move rfl rfl) ?_
    refine Jp.call [] [] (qcs (a + i) (by omega)) 63 rfl (qaa rfl) rfl rfl (Runs.fn rfl call64 rfl) (by decide) (by decide) rfl trivial ?_
    rintro v102 ρ102 L102 ⟨rfl,rfl,rfl⟩
    refine ⟨rfl,fun hle102=>⟨(Kp.st ⟨rfl,rfl,trivial⟩),?_⟩⟩
    refine Jp.q 64 rfl (qaa rfl) rfl rfl (by first | exact Y.lookup 2 rfl rfl rfl underlying100 underlying24 zeroValue24 rfl) ?_
    refine Jp.slot 64 rfl ((ok2.gens _)) ?_
    refine Jp.q 65 rfl (qaa rfl) rfl rfl (Y.qcj rfl rfl rfl (qhc ((wrM M a xs i).gens (qap (a + i)) + 1))) ?_
    first | refine Jp.mapUpdate 2 rfl (qaa rfl) rfl rfl rfl rfl rfl underlying100 underlying24 rfl Kp.last ?_
    refine Jp.over rfl hK11 ?_
    refine Cd.qac [(0,false),(1,false)] rfl rfl ?_
    refine Jp.y 66 rfl (qaa rfl) rfl rfl Kp.true (Y.qcj rfl rfl rfl (by exact qaj (by omega) (by omega))) ?_
    refine Jp.y 29 rfl (qaa rfl) rfl rfl Kp.true (Y.move rfl rfl) ?_
    refine Jp.imp (j:=3) rfl (fun h hh=>(show Blks (qbp (wrM M a xs (i + 1)) y) h by rw [e]; exact hh)) ?_
    refine Jp.again hLa ⟨i + 1,{ y with gm:=qgy y.gm (qap (a + i)) (.int .u32 ((((wrM M a xs i).gens (qap (a + i)) + 1) % 4294967296 : Nat) : Int)) }⟩ ⟨hi,by rw [e]; exact hf2.bump (qap (a + i)),ok3,ok4⟩ (by show xs.length - (i + 1) < xs.length - i; omega) rfl ⟨rfl,rfl,rfl,rfl,rfl,trivial⟩ ⟨rfl,rfl,rfl,rfl,trivial⟩
   ·skip
    try simp only [sG0] at g57
    refine Cd.over rfl hK11 ?_
    refine Cd.qac [(0,false),(1,false)] rfl rfl ?_
    refine Jp.y 66 rfl (qaa rfl) rfl rfl Kp.true (Y.qcj rfl rfl rfl (by exact qaj (by omega) (by omega))) ?_
    refine Jp.y 29 rfl (qaa rfl) rfl rfl Kp.true (Y.move rfl rfl) ?_
    have hc : ¬ (i = 0 ∨ (a + i) % 256 = 0):=by omega
    have e:=wrM_still hx hq hc
    refine Jp.imp (j:=3) rfl (fun h hh=>(show Blks (qbp (wrM M a xs (i + 1)) y) h by rw [e]; exact hh)) ?_
    refine Jp.again hLa ⟨i + 1,y⟩ ⟨hi,by rw [e]; exact hf2,ok3,ok4⟩ (by show xs.length - (i + 1) < xs.length - i; omega) rfl ⟨rfl,rfl,rfl,rfl,rfl,trivial⟩ ⟨rfl,rfl,rfl,rfl,trivial⟩
 ·simp only [decide_eq_false_iff_not] at ga
  obtain rfl : i = xs.length:=by omega
  refine Cd.exit rfl hK7 ?_
  refine Cd.seq fun K19 hK19=>?_
  refine Cd.qac [(0,false)] rfl rfl ?_
  refine Jp.y 10 rfl (qaa rfl) rfl rfl Kp.true (Y.assign rfl rfl) ?_
  refine Jp.qae hK19 ?_
  have e : qcx (wrM M a xs xs.length) y = qcx M x:=by rw [qcx,qcx,ok3,ok4,wrM_budget]
  refine Cd.memClose (b:=b) (x:=y) 0 1 2 3 (by decide) ok2 (by rw [e]; rfl) (by rw [ok3]; rfl) (by rw [ok4]; rfl) rfl ?_
  refine Cd.ret [(0,_)] rfl (qbd rfl rfl) ⟨rfl,trivial⟩ ⟨rfl,by rw [hV],by rw [hV]⟩
theorem Poke_spec (b : Nat) (M : MemG) (a : Nat) (s : Sl UInt8) (ha : a < 4294967296) : Spec Tryz.prog 17 #[.pointer (some ⟨b,0,none⟩),.int .u32 a,s.v] (RdB s) [(0,qew b M)]
  (fun ρ ρ' v L=>ρ' = ρ ∧ v = .int .i64 (qdg M a s.xs 65536 0).1 ∧ L = [(0,qew b (qdg M a s.xs 65536 0).2)]):=by
 refine Spec.of 11 Tryz.func17 rfl Tryz.ntmps17 [(0,_),(1,_),(2,_)] rfl rfl ?_
 intro cx ρ hr h0
 refine Cd.seq fun K20 hK20=>?_
 refine Cd.qac [(0,false)] rfl rfl ?_
 refine Jp.y 6 rfl (qaa rfl) rfl rfl Kp.true (Y.assign rfl rfl) ?_
 refine Jp.qae hK20 ?_
 refine Cd.seq fun K21 hK21=>?_
 refine Cd.qac [(0,false),(1,false),(2,false),(3,false),(4,false)] rfl rfl ?_
 refine Jp.y 7 rfl (qaa rfl) rfl rfl Kp.true (Y.move rfl rfl) ?_
 refine Jp.y 8 rfl (qaa rfl) rfl rfl Kp.true (Y.move rfl rfl) ?_
 refine Jp.y 9 rfl (qaa rfl) rfl rfl Kp.true (Y.move rfl rfl) ?_
 refine Jp.call [0] [0] (write_spec b M a s 65536 0 ha (by omega)) 10 rfl (qaa rfl) rfl rfl (Runs.fn rfl call35 rfl) (by decide) (by decide) rfl hr ?_
 rintro v1 ρ1 L1 ⟨rfl,rfl,rfl⟩
 refine ⟨rfl,fun hle1=>⟨Kp.true,?_⟩⟩
 refine Jp.y 6 rfl (qaa rfl) rfl rfl Kp.true (Y.assign rfl rfl) ?_
 refine Jp.qae hK21 ?_
 refine Cd.ret [(0,_)] rfl (qbd rfl rfl) ⟨rfl,trivial⟩ ⟨rfl,rfl,rfl⟩
end Go.Proofs.YtnfkalpgidiafaaGreat
set_option linter.unusedVariables false
set_option linter.unusedSimpArgs false
set_option maxRecDepth 100000
namespace Go.Proofs.YtnfkalpgidiafaaGreat
open _root_.Go.Proofs.Tryz
open Go
def setPerm (l : List (Nat × Pg)) (k perm : Nat) : List (Nat × Pg):=match qao l k with
 | some p=>qbt l k ⟨p.b,perm⟩
 | none=>l
def prot1 (perm : Nat) (M : MemG) (k : Nat) : MemG:={ M with pages:=setPerm M.pages k perm,gens:=bump M.gens k }
def protL (M : MemG) (perm : Nat) (l : List Nat) : MemG:=l.foldl (prot1 perm) M
def bumpS (M : MemG) (f : Nat → Bool) : Nat → Nat:=fun k=>if f k && (qao M.pages k).isSome then (M.gens k + 1) % 4294967296 else M.gens k
def protectM (M : MemG) (a n : Nat) (perm : Int) : Int × MemG:=match qei a n with
 | none=>(1,M)
 | some many=>if perm < 0 ∨ 7 < perm then (1,M) else if (qeh M a many).length ≠ many then (4,M) else
  (0,{ M with pages:=M.pages.map fun y=>if inS a many y.1 then (y.1,⟨y.2.b,perm.toNat⟩) else y,gens:=bumpS M (inS a many) })
theorem pageCells_perm2 (p : Pg) (h : p.b.length = 256) (perm : Nat) : (qbb p).toArray.setIfInBounds 256 (.int .i64 perm) = (qbb ⟨p.b,perm⟩).toArray:=by
 rw [List.setIfInBounds_toArray]
 congr 1
 rw [qbb,List.set_append_right _ _ (by rw [qaf,List.length_map]; omega)]
 simp [qaf,h,qbb]
def del1 (M : MemG) (k : Nat) : MemG:={ M with pages:=M.pages.filter fun y=>y.1 != k,gens:=bump M.gens k }
def delL (M : MemG) (l : List Nat) : MemG:=l.foldl del1 M
def unmapM (M : MemG) (a n : Nat) : Int × MemG:=match qei a n with
 | none=>(1,M)
 | some many=>(0,{ M with pages:=M.pages.filter fun y=>!inS a many y.1,gens:=bumpS M (inS a many) })
end Go.Proofs.YtnfkalpgidiafaaGreat
set_option linter.unusedVariables false
set_option linter.unusedSimpArgs false
set_option maxRecDepth 100000
namespace Go.Proofs.YtnfkalpgidiafaaGreat
open _root_.Go.Proofs.Tryz
open Go
theorem base_eq {x y : Nat} (h1 : qap x = qap y) (h2 : x % 256 = y % 256) : x = y:=by unfold qap at h1; omega
theorem wrM_keys (M : MemG) (a : Nat) (l : qal) (i : Nat) : (wrM M a l i).pages.map (·.1) = M.pages.map (·.1):=by
 induction i with
 | zero=>rfl
 | succ i ih =>
  rw [← ih]
  show (qfq _ _ _).map (·.1) = _
  unfold qfq
  split
  ·exact qem ..
  ·rfl
def permIn (M : MemG) (a many perm : Nat) : MemG:={ M with pages:=M.pages.map fun y=>if inS a many y.1 then (y.1,⟨y.2.b,perm⟩) else y,gens:=bumpS M (inS a many) }
def dropIn (M : MemG) (a many : Nat) : MemG:={ M with pages:=M.pages.filter fun y=>!inS a many y.1,gens:=bumpS M (inS a many) }
theorem getPg_filter (l : List (Nat × Pg)) (f : Nat → Bool) (k : Nat) : qao (l.filter fun y=>f y.1) k = if f k then qao l k else none:=by
 induction l with
 | nil=>simp [qao]
 | cons x l ih =>
  obtain ⟨x,p⟩:=x
  rw [List.filter_cons]
  by_cases hx : f x = true
  ·rw [if_pos hx]
   simp only [qao]
   by_cases h : x = k
   ·subst h; simp [hx]
   ·rw [if_neg h,if_neg h,ih]
  ·rw [if_neg hx,ih]
   simp only [qao]
   by_cases h : x = k
   ·subst h; simp [hx]
   ·rw [if_neg h]
end Go.Proofs.YtnfkalpgidiafaaGreat

namespace Go.Proofs.YtnfkalpgidiafaaGreat
open _root_.Go.Proofs.Tryz
open Go
def valueP (M : MemG) (i : InsP) (s : StP) : Nat × EvP :=
 if i.op = 1 then (u32 i.imm,noEv) else if i.op = 2 then (u32 ((s.pc : Int) + (u32 i.imm : Int)),noEv) else if i.op = 3 ∨ i.op = 4 then (u32 ((s.pc : Int) + 4),noEv) else
 if qep i.op = true then (if (qdq M (addrP i s) (qcq i.op).1 1).2 = 0 then
  (if (qcq i.op).2 = true then extP (qdq M (addrP i s) (qcq i.op).1 1).1 (8 * (qcq i.op).1) else (qdq M (addrP i s) (qcq i.op).1 1).1,noEv)
  else (0, ⟨3, addrP i s, (qdq M (addrP i s) (qcq i.op).1 1).2⟩)) else
 (doP (kindA i.op) (regP s i.r1) (opdP i s),noEv)
theorem opdP_lt {i : InsP} {s : StP} (hs : StOk s) : opdP i s < 4294967296:=by
 unfold opdP
 split
 ·exact u32_lt _
 ·exact regP_lt hs _
theorem sizeP_le (op : Nat) : (qcq op).1 ≤ 4:=by
 unfold qcq
 repeat' split
 all_goals decide
theorem qhp (M : MemG) (a : Nat) (n : Nat) (hn : n ≤ 4) (need : Int) : (qdq M a n need).1 < 4294967296:=by
 unfold qdq
 split
 ·split
  ·rename_i p h1
   have h2:=leN_lt ((p.b.drop (a % 256)).take (n : Int).toNat)
   have h3 : ((p.b.drop (a % 256)).take (n : Int).toNat).length ≤ 4:=by rw [List.length_take]; omega
   exact Nat.lt_of_lt_of_le h2 (Nat.pow_le_pow_right (n:=256) (by omega) h3)
  ·exact Nat.zero_lt_succ _
 ·exact Nat.zero_lt_succ _
theorem value_spec (b : Nat) (M : MemG) (i : InsP) (s : StP) (hs : StOk s) (hi : InsOk i) : Spec Tryz.prog 62 #[.pointer (some ⟨b,0,none⟩),.agg i.cells.toArray,.agg s.cells.toArray] (fun _=>True) [(0,qew b M)]
  (fun ρ ρ' v L=>ρ' = ρ ∧ v = .tuple #[.int .u32 ((valueP M i s).1 : Int),.agg (valueP M i s).2.cells.toArray] ∧ L = [(0,qew b M)]):=by
 obtain ⟨V,hV⟩ : ∃ V,valueP M i s = V:=⟨_,rfl⟩
 rw [hV]
 unfold valueP at hV
 have hA:=qdm i s hs hi
 have hal:=qgi i s
 have hO:=operand_spec i s hs hi
 have hol:=opdP_lt (i:=i) hs
 obtain ⟨od,hod⟩ : ∃ od,opdP i s = od:=⟨_,rfl⟩
 obtain ⟨ad,had⟩ : ∃ ad,addrP i s = ad:=⟨_,rfl⟩
 rw [had] at hA hV hal
 rw [hod] at hO hV hol
 obtain ⟨op,rd,r1,r2,imm⟩:=i
 dsimp only at hV
 have hR1:=qgd s r1 hs hi.r1
 have l1:=regP_lt hs r1
 obtain ⟨x1,hx1⟩ : ∃ x,regP s r1 = x:=⟨_,rfl⟩
 rw [hx1] at hR1 hV l1
 have hL:=qho b M ad (qcq op).1 1 hal
 have hll : (qdq M ad (qcq op).1 1).1 < 4294967296:=qhp _ _ _ (sizeP_le op) _
 have hSz:=qhf op
 have hsz4:=sizeP_le op
 obtain ⟨sz,hsz⟩ : ∃ x,qcq op = x:=⟨_,rfl⟩
 rw [hsz] at hL hV hll hSz hsz4
 obtain ⟨sz,sg⟩:=sz
 dsimp only at hL hV hll hSz hsz4
 obtain ⟨ld,hld⟩ : ∃ x,qdq M ad sz 1 = x:=⟨_,rfl⟩
 rw [hld] at hL hV hll
 obtain ⟨lv,lf⟩:=ld
 dsimp only at hL hV hll
 refine Spec.of 98 Tryz.func62 rfl Tryz.ntmps62 [(0,_),(1,_),(2,_)] rfl rfl ?_
 intro cx ρ hr' h0
 have hsl:=StP.len hs
 refine Cd.seq fun K1 hK1=>?_
 refine Cd.qac [(0,false),(1,false),(2,false),(3,false)] rfl rfl ?_
 refine Jp.box 4 4 rfl (qaa rfl) rfl rfl rfl rfl fun b4=>⟨Kp.true,?_⟩
 refine Jp.box 5 5 rfl (qaa rfl) rfl rfl rfl rfl fun b5=>⟨Kp.true,?_⟩
 refine Jp.y 6 rfl (qaa rfl) rfl rfl Kp.true (Y.assign rfl rfl) ?_
 refine Jp.alloc 7 7 rfl (qaa rfl) rfl rfl rfl zeroValue46 fun b7=>⟨Kp.true,?_⟩
 refine Jp.qae hK1 ?_
 refine Cd.seq fun K2 hK2=>?_
 refine Cd.seq fun K3 hK3=>?_
 refine Cd.qac [(0,false),(1,false),(2,false)] rfl rfl ?_
 refine Jp.y 17 rfl (qaa rfl) rfl rfl Kp.true (by exact Y.qad rfl rfl underlying60 rfl sizeOf3 (by decide) (show _ + 0 = _ from rfl)) ?_
 refine Jp.y 18 rfl (qaa rfl) rfl rfl Kp.true (by exact Y.qau 4 rfl isAgg3 rfl rfl rfl) ?_
 refine Jp.y 8 rfl (qaa rfl) rfl rfl Kp.true (Y.assign rfl rfl) ?_
 refine Jp.qae hK3 ?_
 refine Cd.block ?_
 refine Cd.seq fun K4 hK4=>?_
 refine Cd.qac [(0,false),(1,false),(2,false)] rfl rfl ?_
 refine Jp.y 20 rfl (qaa rfl) rfl rfl Kp.true (Y.move rfl rfl) ?_
 refine Jp.y 21 rfl (qaa rfl) rfl rfl Kp.true (Y.eql rfl rfl rfl) ?_
 refine Jp.y 19 rfl (qaa rfl) rfl rfl Kp.true (Y.assign rfl rfl) ?_
 refine Jp.qae hK4 ?_
 refine Cd.qar rfl (fun ga=>?_) (fun ga=>?_)
 ·rw [if_pos (show op = 1 by simp at ga; omega)] at hV
  refine Cd.seq fun K5 hK5=>?_
  refine Cd.qac [(0,false),(1,false),(2,false),(3,false),(4,false),(5,false)] rfl rfl ?_
  refine Jp.y 22 rfl (qaa rfl) rfl rfl Kp.true (by exact Y.qad rfl rfl underlying60 rfl sizeOf21 (by decide) (show _ + 4 = _ from rfl)) ?_
  refine Jp.y 23 rfl (qaa rfl) rfl rfl Kp.true (by exact Y.qau 4 rfl isAgg21 rfl rfl rfl) ?_
  refine Jp.y 24 rfl (qaa rfl) rfl rfl Kp.true (Y.qaw rfl rfl underlying21 underlying24 (by rfl)) ?_
  refine Jp.y 25 rfl (qaa rfl) rfl rfl Kp.true (Y.struct [] [_,_,_] rfl rfl qca zeroValue46 rfl) ?_
  refine Jp.y 6 rfl (qaa rfl) rfl rfl Kp.true (Y.assign rfl rfl) ?_
  refine Jp.qai 7 rfl (qaa rfl) rfl rfl sizeOf46 rfl rfl (by first | rfl | assumption) (by first | rfl | assumption) rfl (by first | rfl | assumption) (fun k _ _=>qas k) Kp.true ?_
  refine Jp.qae hK5 ?_
  refine Cd.ret [(0,_)] rfl (by exact resTC 7 rfl rfl rfl isAgg46 sizeOf46 rfl (by first | rfl | assumption)) ⟨rfl,trivial⟩ ⟨rfl,by rw [qce imm,← hV]; rfl,rfl⟩
 ·rw [if_neg (show ¬ op = 1 by simp at ga; omega)] at hV
  refine Cd.seq fun K6 hK6=>?_
  refine Cd.qac [(0,false),(1,false),(2,false)] rfl rfl ?_
  refine Jp.y 27 rfl (qaa rfl) rfl rfl Kp.true (Y.move rfl rfl) ?_
  refine Jp.y 28 rfl (qaa rfl) rfl rfl Kp.true (Y.eql rfl rfl rfl) ?_
  refine Jp.y 26 rfl (qaa rfl) rfl rfl Kp.true (Y.assign rfl rfl) ?_
  refine Jp.qae hK6 ?_
  refine Cd.qar rfl (fun gb=>?_) (fun gb=>?_)
  ·rw [if_pos (show op = 2 by simp at gb; omega)] at hV
   refine Cd.seq fun K7 hK7=>?_
   refine Cd.qac [(0,false),(1,false),(2,false),(3,false),(4,false),(5,false),(6,false),(7,false),(8,false)] rfl rfl ?_
   refine Jp.y 29 rfl (qaa rfl) rfl rfl Kp.true (by exact Y.qad rfl rfl underlying27 rfl sizeOf24 (by decide) (show _ + 32 = _ from rfl)) ?_
   refine Jp.y 30 rfl (qaa rfl) rfl rfl Kp.true (by exact Y.qbg 5 rfl isAgg24 rfl rfl (HasC.pt (StP.cPc hs))) ?_
   refine Jp.y 31 rfl (qaa rfl) rfl rfl Kp.true (by exact Y.qad rfl rfl underlying60 rfl sizeOf21 (by decide) (show _ + 4 = _ from rfl)) ?_
   refine Jp.y 32 rfl (qaa rfl) rfl rfl Kp.true (by exact Y.qau 4 rfl isAgg21 rfl rfl rfl) ?_
   refine Jp.y 33 rfl (qaa rfl) rfl rfl Kp.true (Y.qaw rfl rfl underlying21 underlying24 (by rfl)) ?_
   refine Jp.y 34 rfl (qaa rfl) rfl rfl Kp.true (Y.qcj rfl rfl rfl (by rfl)) ?_
   refine Jp.y 35 rfl (qaa rfl) rfl rfl Kp.true (Y.struct [] [_,_,_] rfl rfl qca zeroValue46 rfl) ?_
   refine Jp.y 6 rfl (qaa rfl) rfl rfl Kp.true (Y.assign rfl rfl) ?_
   refine Jp.qai 7 rfl (qaa rfl) rfl rfl sizeOf46 rfl rfl (by first | rfl | assumption) (by first | rfl | assumption) rfl (by first | rfl | assumption) (fun k _ _=>qas k) Kp.true ?_
   refine Jp.qae hK7 ?_
   refine Cd.ret [(0,_)] rfl (by exact resTC 7 rfl rfl rfl isAgg46 sizeOf46 rfl (by first | rfl | assumption)) ⟨rfl,trivial⟩ ⟨rfl,by rw [qce imm,qce,← hV]; rfl,rfl⟩
  ·rw [if_neg (show ¬ op = 2 by simp at gb; omega)] at hV
   refine Cd.seq fun K8 hK8=>?_
   refine Cd.qac [(0,false),(1,false),(2,false),(3,false),(4,false),(5,false),(6,false)] rfl rfl ?_
   refine Jp.y 37 rfl (qaa rfl) rfl rfl Kp.true (Y.move rfl rfl) ?_
   refine Jp.y 38 rfl (qaa rfl) rfl rfl Kp.true (Y.eql rfl rfl rfl) ?_
   refine Jp.y 39 rfl (qaa rfl) rfl rfl Kp.true (Y.move rfl rfl) ?_
   refine Jp.split 39 rfl (fun g39=>?_) (fun g39=>?_)
   ·skip
    rw [if_pos (show op = 3 ∨ op = 4 by simp at g39; omega)] at hV
    refine Jp.qaq 40 rfl (qab rfl rfl rfl rfl) rfl rfl Kp.true ?_
    refine Jp.qaq 41 rfl (qab rfl rfl rfl rfl) rfl rfl Kp.true ?_
    refine Jp.y 42 rfl (qaa rfl) rfl rfl Kp.true (Y.qav rfl rfl rfl) ?_
    refine Jp.y 36 rfl (qaa rfl) rfl rfl Kp.true (Y.assign rfl rfl) ?_
    refine Jp.qae hK8 ?_
    refine Cd.qcw rfl ?_
    refine Cd.seq fun K9 hK9=>?_
    refine Cd.qac [(0,false),(1,false),(2,false),(3,false),(4,false),(5,false)] rfl rfl ?_
    refine Jp.y 43 rfl (qaa rfl) rfl rfl Kp.true (by exact Y.qad rfl rfl underlying27 rfl sizeOf24 (by decide) (show _ + 32 = _ from rfl)) ?_
    refine Jp.y 44 rfl (qaa rfl) rfl rfl Kp.true (by exact Y.qbg 5 rfl isAgg24 rfl rfl (HasC.pt (StP.cPc hs))) ?_
    refine Jp.y 45 rfl (qaa rfl) rfl rfl Kp.true (Y.qcj rfl rfl rfl (by rfl)) ?_
    refine Jp.y 46 rfl (qaa rfl) rfl rfl Kp.true (Y.struct [] [_,_,_] rfl rfl qca zeroValue46 rfl) ?_
    refine Jp.y 6 rfl (qaa rfl) rfl rfl Kp.true (Y.assign rfl rfl) ?_
    refine Jp.qai 7 rfl (qaa rfl) rfl rfl sizeOf46 rfl rfl (by first | rfl | assumption) (by first | rfl | assumption) rfl (by first | rfl | assumption) (fun k _ _=>qas k) Kp.true ?_
    refine Jp.qae hK9 ?_
    refine Cd.ret [(0,_)] rfl (by exact resTC 7 rfl rfl rfl isAgg46 sizeOf46 rfl (by first | rfl | assumption)) ⟨rfl,trivial⟩ ⟨rfl,by rw [qce,← hV]; rfl,rfl⟩
   try simp only [sG0] at g39
   refine Jp.y 40 rfl (qab rfl rfl rfl rfl) rfl rfl Kp.true (Y.move rfl rfl) ?_
   refine Jp.y 41 rfl (qab rfl rfl rfl rfl) rfl rfl Kp.true (Y.eql rfl rfl rfl) ?_
   refine Jp.y 42 rfl (qaa rfl) rfl rfl Kp.true (Y.qay rfl rfl rfl) ?_
   refine Jp.y 36 rfl (qaa rfl) rfl rfl Kp.true (Y.assign rfl rfl) ?_
   refine Jp.qae hK8 ?_
   refine Cd.qar rfl (fun g36=>?_) (fun g36=>?_)
   ·skip
    rw [if_pos (show op = 3 ∨ op = 4 by simp at g36; omega)] at hV
    refine Cd.seq fun K10 hK10=>?_
    refine Cd.qac [(0,false),(1,false),(2,false),(3,false),(4,false),(5,false)] rfl rfl ?_
    refine Jp.y 43 rfl (qaa rfl) rfl rfl Kp.true (by exact Y.qad rfl rfl underlying27 rfl sizeOf24 (by decide) (show _ + 32 = _ from rfl)) ?_
    refine Jp.y 44 rfl (qaa rfl) rfl rfl Kp.true (by exact Y.qbg 5 rfl isAgg24 rfl rfl (HasC.pt (StP.cPc hs))) ?_
    refine Jp.y 45 rfl (qaa rfl) rfl rfl Kp.true (Y.qcj rfl rfl rfl (by rfl)) ?_
    refine Jp.y 46 rfl (qaa rfl) rfl rfl Kp.true (Y.struct [] [_,_,_] rfl rfl qca zeroValue46 rfl) ?_
    refine Jp.y 6 rfl (qaa rfl) rfl rfl Kp.true (Y.assign rfl rfl) ?_
    refine Jp.qai 7 rfl (qaa rfl) rfl rfl sizeOf46 rfl rfl (by first | rfl | assumption) (by first | rfl | assumption) rfl (by first | rfl | assumption) (fun k _ _=>qas k) Kp.true ?_
    refine Jp.qae hK10 ?_
    refine Cd.ret [(0,_)] rfl (by exact resTC 7 rfl rfl rfl isAgg46 sizeOf46 rfl (by first | rfl | assumption)) ⟨rfl,trivial⟩ ⟨rfl,by rw [qce,← hV]; rfl,rfl⟩
   try simp only [sG0] at g36
   refine Cd.seq fun K11 hK11=>?_
   refine Cd.qac [(0,false),(1,false),(2,false)] rfl rfl ?_
   (try dsimp only at g36)
   rw [if_neg (show ¬ (op = 3 ∨ op = 4) by omega)] at hV
   refine Jp.y 48 rfl (qaa rfl) rfl rfl Kp.true (Y.move rfl rfl) ?_
   refine Jp.call [] [] (qeo op) 49 rfl (qaa rfl) rfl rfl (Runs.fn rfl call46 rfl) (by decide) (by decide) rfl trivial ?_
   rintro v1 ρ1 L1 ⟨rfl,rfl,rfl⟩
   refine ⟨rfl,fun hle1=>⟨Kp.true,?_⟩⟩
   refine Jp.y 47 rfl (qaa rfl) rfl rfl Kp.true (Y.assign rfl rfl) ?_
   refine Jp.qae hK11 ?_
   refine Cd.qar rfl (fun gd=>?_) (fun gd=>?_)
   ·rw [if_pos gd] at hV
    refine Cd.seq fun K12 hK12=>?_
    refine Cd.qac [(0,false),(1,false),(2,false),(3,false),(4,false),(5,false),(6,false)] rfl rfl ?_
    refine Jp.y 51 rfl (qaa rfl) rfl rfl Kp.true (Y.move rfl rfl) ?_
    refine Jp.call [] [] hSz 52 rfl (qaa rfl) rfl rfl (Runs.fn rfl call41 rfl) (by decide) (by decide) rfl trivial ?_
    rintro v2 ρ2 L2 ⟨rfl,rfl,rfl⟩
    refine ⟨rfl,fun hle2=>⟨Kp.true,?_⟩⟩
    refine Jp.y 50 rfl (qaa rfl) rfl rfl Kp.true (Y.move rfl rfl) ?_
    refine Jp.y 53 rfl (qaa rfl) rfl rfl Kp.true (Y.extract rfl rfl rfl) ?_
    refine Jp.y 54 rfl (qaa rfl) rfl rfl Kp.true (Y.extract rfl rfl rfl) ?_
    refine Jp.y 9 rfl (qaa rfl) rfl rfl Kp.true (Y.assign rfl rfl) ?_
    refine Jp.y 10 rfl (qaa rfl) rfl rfl Kp.true (Y.assign rfl rfl) ?_
    refine Jp.qae hK12 ?_
    refine Cd.seq fun K13 hK13=>?_
    refine Cd.qac [(0,false),(1,false),(2,false),(3,false),(4,false),(5,false),(6,false),(7,false),(8,false),(9,false),(10,false)] rfl rfl ?_
    refine Jp.y 56 rfl (qaa rfl) rfl rfl Kp.true (Y.move rfl rfl) ?_
    refine Jp.y 57 rfl (qaa rfl) rfl rfl Kp.true (by exact Y.qah 4 rfl isAgg60 sizeOf60 rfl rfl (by first | rfl | assumption)) ?_
    refine Jp.y 58 rfl (qaa rfl) rfl rfl Kp.true (by exact Y.qah 5 rfl isAgg27 sizeOf27 rfl rfl (by first | rfl | assumption)) ?_
    refine Jp.call [] [] hA 59 rfl (qaa rfl) rfl rfl (Runs.fn rfl call42 rfl) (by decide) (by decide) rfl trivial ?_
    rintro v3 ρ3 L3 ⟨rfl,rfl,rfl⟩
    refine ⟨rfl,fun hle3=>⟨Kp.true,?_⟩⟩
    refine Jp.y 60 rfl (qaa rfl) rfl rfl Kp.true (Y.move rfl rfl) ?_
    refine Jp.call [0] [0] hL 61 rfl (qaa rfl) rfl rfl (Runs.fn rfl call31 rfl) (by decide) (by decide) rfl trivial ?_
    rintro v4 ρ4 L4 ⟨rfl,rfl,rfl⟩
    refine ⟨rfl,fun hle4=>⟨Kp.true,?_⟩⟩
    refine Jp.y 55 rfl (qaa rfl) rfl rfl Kp.true (Y.move rfl rfl) ?_
    refine Jp.y 62 rfl (qaa rfl) rfl rfl Kp.true (Y.extract rfl rfl rfl) ?_
    refine Jp.y 63 rfl (qaa rfl) rfl rfl Kp.true (Y.extract rfl rfl rfl) ?_
    refine Jp.y 11 rfl (qaa rfl) rfl rfl Kp.true (Y.assign rfl rfl) ?_
    refine Jp.y 12 rfl (qaa rfl) rfl rfl Kp.true (Y.assign rfl rfl) ?_
    refine Jp.qae hK13 ?_
    refine Cd.seq fun K14 hK14=>?_
    refine Cd.seq fun K15 hK15=>?_
    refine Cd.qac [(0,false),(1,false)] rfl rfl ?_
    refine Jp.y 64 rfl (qaa rfl) rfl rfl Kp.true (Y.move rfl rfl) ?_
    refine Jp.y 65 rfl (qaa rfl) rfl rfl Kp.true (Y.neq rfl rfl rfl) ?_
    refine Jp.qae hK15 ?_
    refine Cd.qar rfl (fun ge=>?_) (fun ge=>?_)
    ·have hf : ¬ lf = 0:=by simpa using ge
     rw [if_neg hf] at hV
     refine Cd.seq fun K16 hK16=>?_
     refine Cd.qac [(0,false),(1,false),(2,false),(3,false),(4,false),(5,false),(6,false)] rfl rfl ?_
     refine Jp.y 66 rfl (qaa rfl) rfl rfl Kp.true (by exact Y.qah 4 rfl isAgg60 sizeOf60 rfl rfl (by first | rfl | assumption)) ?_
     refine Jp.y 67 rfl (qaa rfl) rfl rfl Kp.true (by exact Y.qah 5 rfl isAgg27 sizeOf27 rfl rfl (by first | rfl | assumption)) ?_
     refine Jp.call [] [] hA 68 rfl (qaa rfl) rfl rfl (Runs.fn rfl call42 rfl) (by decide) (by decide) rfl trivial ?_
     rintro v5 ρ5 L5 ⟨rfl,rfl,rfl⟩
     refine ⟨rfl,fun hle5=>⟨Kp.true,?_⟩⟩
     refine Jp.y 69 rfl (qaa rfl) rfl rfl Kp.true (Y.move rfl rfl) ?_
     refine Jp.y 70 rfl (qaa rfl) rfl rfl Kp.true (Y.struct [(0,_),(1,_),(2,_)] [_,_,_] rfl rfl qca zeroValue46 rfl) ?_
     refine Jp.y 6 rfl (qaa rfl) rfl rfl Kp.true (Y.assign rfl rfl) ?_
     refine Jp.qai 7 rfl (qaa rfl) rfl rfl sizeOf46 rfl rfl (by first | rfl | assumption) (by first | rfl | assumption) rfl (by first | rfl | assumption) (fun k _ _=>qas k) Kp.true ?_
     refine Jp.qae hK16 ?_
     refine Cd.ret [(0,_)] rfl (by exact resTC 7 rfl rfl rfl isAgg46 sizeOf46 rfl (by first | rfl | assumption)) ⟨rfl,trivial⟩ ⟨rfl,by rw [← hV]; rfl,rfl⟩
    ·have hf : lf = 0:=by simpa using ge
     rw [if_pos hf] at hV
     refine Cd.qbu hK14 ?_
     refine Cd.seq fun K17 hK17=>?_
     refine Cd.seq fun K18 hK18=>?_
     refine Cd.qac [(0,false)] rfl rfl ?_
     refine Jp.y 71 rfl (qaa rfl) rfl rfl Kp.true (Y.move rfl rfl) ?_
     refine Jp.qae hK18 ?_
     refine Cd.qar rfl (fun gf=>?_) (fun gf=>?_)
     ·rw [if_pos gf] at hV
      refine Cd.qac [(0,false),(1,false),(2,false),(3,false),(4,false)] rfl rfl ?_
      refine Jp.y 72 rfl (qaa rfl) rfl rfl Kp.true (Y.move rfl rfl) ?_
      refine Jp.y 73 rfl (qaa rfl) rfl rfl Kp.true (Y.move rfl rfl) ?_
      refine Jp.y 74 rfl (qaa rfl) rfl rfl Kp.true (Y.mul_ rfl rfl rfl (by exact qaj (by omega) (by omega))) ?_
      refine Jp.slot 74 rfl (show _ = Value.int .i64 ((8 * sz : Nat) : Int) from congrArg (Value.int .i64) (by omega)) ?_
      refine Jp.call [] [] (extend_spec lv (8 * sz)) 75 rfl (qaa rfl) rfl rfl (Runs.fn rfl call90 rfl) (by decide) (by decide) rfl trivial ?_
      rintro v6 ρ6 L6 ⟨rfl,rfl,rfl⟩
      refine ⟨rfl,fun hle6=>⟨Kp.true,?_⟩⟩
      refine Jp.y 11 rfl (qaa rfl) rfl rfl Kp.true (Y.assign rfl rfl) ?_
      refine Jp.qae hK17 ?_
      refine Cd.seq fun K19 hK19=>?_
      refine Cd.qac [(0,false),(1,false),(2,false),(3,false)] rfl rfl ?_
      refine Jp.y 76 rfl (qaa rfl) rfl rfl Kp.true (Y.move rfl rfl) ?_
      refine Jp.y 77 rfl (qaa rfl) rfl rfl Kp.true (Y.struct [] [_,_,_] rfl rfl qca zeroValue46 rfl) ?_
      refine Jp.y 6 rfl (qaa rfl) rfl rfl Kp.true (Y.assign rfl rfl) ?_
      refine Jp.qai 7 rfl (qaa rfl) rfl rfl sizeOf46 rfl rfl (by first | rfl | assumption) (by first | rfl | assumption) rfl (by first | rfl | assumption) (fun k _ _=>qas k) Kp.true ?_
      refine Jp.qae hK19 ?_
      refine Cd.ret [(0,_)] rfl (by exact resTC 7 rfl rfl rfl isAgg46 sizeOf46 rfl (by first | rfl | assumption)) ⟨rfl,trivial⟩ ⟨rfl,by rw [← hV]; rfl,rfl⟩
     ·rw [if_neg (by simp [gf])] at hV
      refine Cd.qbu hK17 ?_
      refine Cd.seq fun K20 hK20=>?_
      refine Cd.qac [(0,false),(1,false),(2,false),(3,false)] rfl rfl ?_
      refine Jp.y 76 rfl (qaa rfl) rfl rfl Kp.true (Y.move rfl rfl) ?_
      refine Jp.y 77 rfl (qaa rfl) rfl rfl Kp.true (Y.struct [] [_,_,_] rfl rfl qca zeroValue46 rfl) ?_
      refine Jp.y 6 rfl (qaa rfl) rfl rfl Kp.true (Y.assign rfl rfl) ?_
      refine Jp.qai 7 rfl (qaa rfl) rfl rfl sizeOf46 rfl rfl (by first | rfl | assumption) (by first | rfl | assumption) rfl (by first | rfl | assumption) (fun k _ _=>qas k) Kp.true ?_
      refine Jp.qae hK20 ?_
      refine Cd.ret [(0,_)] rfl (by exact resTC 7 rfl rfl rfl isAgg46 sizeOf46 rfl (by first | rfl | assumption)) ⟨rfl,trivial⟩ ⟨rfl,by rw [← hV]; rfl,rfl⟩
   ·rw [if_neg (by simp [gd])] at hV
    refine Cd.over rfl hK2 ?_
    refine Cd.seq fun K21 hK21=>?_
    refine Cd.qac [(0,false),(1,false),(2,false),(3,false),(4,false),(5,false),(6,false),(7,false)] rfl rfl ?_
    refine Jp.y 79 rfl (qaa rfl) rfl rfl Kp.true (by exact Y.qad rfl rfl underlying60 rfl sizeOf3 (by decide) (show _ + 0 = _ from rfl)) ?_
    refine Jp.y 80 rfl (qaa rfl) rfl rfl Kp.true (by exact Y.qau 4 rfl isAgg3 rfl rfl rfl) ?_
    refine Jp.call [] [] (kind_spec op) 81 rfl (qaa rfl) rfl rfl (Runs.fn rfl call49 rfl) (by decide) (by decide) rfl trivial ?_
    rintro v2 ρ2 L2 ⟨rfl,rfl,rfl⟩
    refine ⟨rfl,fun hle2=>⟨Kp.true,?_⟩⟩
    refine Jp.y 78 rfl (qaa rfl) rfl rfl Kp.true (Y.move rfl rfl) ?_
    refine Jp.y 82 rfl (qaa rfl) rfl rfl Kp.true (Y.extract rfl rfl rfl) ?_
    refine Jp.y 83 rfl (qaa rfl) rfl rfl Kp.true (Y.extract rfl rfl rfl) ?_
    refine Jp.y 13 rfl (qaa rfl) rfl rfl Kp.true (Y.assign rfl rfl) ?_
    refine Jp.y 14 rfl (qaa rfl) rfl rfl Kp.true (Y.assign rfl rfl) ?_
    refine Jp.qae hK21 ?_
    refine Cd.seq fun K22 hK22=>?_
    refine Cd.drawn [(4,_),(5,_)] ⟨rfl,rfl,trivial⟩ [(0,true),(1,true),(2,true),(3,true),(5,true),(6,true),(4,false),(7,false),(8,false),(9,true),(10,true),(11,true),(12,true),(13,true)] follows (by kernel_rfl) (fun hrl=>?_)
    refine Jp.q 85 rfl (qaa rfl) rfl rfl (Y.move rfl rfl) ?_
    refine Jp.q 86 rfl (qaa rfl) rfl rfl (by exact Y.qah 5 rfl isAgg27 sizeOf27 rfl rfl (by first | rfl | assumption)) ?_
    refine Jp.q 87 rfl (qaa rfl) rfl rfl (by exact Y.qad rfl rfl underlying60 rfl sizeOf3 (by decide) (show _ + 2 = _ from rfl)) ?_
    refine Jp.q 88 rfl (qaa rfl) rfl rfl (by exact Y.qau 4 rfl isAgg3 rfl rfl rfl) ?_
    refine Jp.q 90 rfl (qaa rfl) rfl rfl (by exact Y.qah 4 rfl isAgg60 sizeOf60 rfl rfl (by first | rfl | assumption)) ?_
    refine Jp.q 91 rfl (qaa rfl) rfl rfl (by exact Y.qah 5 rfl isAgg27 sizeOf27 rfl rfl (by first | rfl | assumption)) ?_
    refine Jp.call [] [] hR1 89 rfl (qaa rfl) rfl rfl (Runs.fn rfl call61 rfl) (by decide) (by decide) rfl trivial ?_
    rintro v3 ρ3 L3 ⟨rfl,rfl,rfl⟩
    refine ⟨rfl,fun hle3=>⟨(Kp.st ⟨rfl,rfl,trivial⟩),?_⟩⟩
    refine Jp.call [] [] hO 92 rfl (qaa rfl) rfl rfl (Runs.fn rfl call51 rfl) (by decide) (by decide) rfl trivial ?_
    rintro v4 ρ4 L4 ⟨rfl,rfl,rfl⟩
    refine ⟨rfl,fun hle4=>⟨(Kp.st ⟨rfl,rfl,trivial⟩),?_⟩⟩
    refine Jp.call [] [] (do_spec (kindA op) x1 od (qhr op) l1 hol) 93 rfl (qaa rfl) rfl rfl (Runs.fn rfl call81 rfl) (by decide) (by decide) rfl trivial ?_
    rintro v5 ρ5 L5 ⟨rfl,rfl,rfl⟩
    refine ⟨rfl,fun hle5=>⟨(Kp.st ⟨rfl,rfl,trivial⟩),?_⟩⟩
    refine Jp.q 84 rfl (qaa rfl) rfl rfl (Y.move rfl rfl) ?_
    refine Jp.q 94 rfl (qaa rfl) rfl rfl (Y.extract rfl rfl rfl) ?_
    refine Jp.q 95 rfl (qaa rfl) rfl rfl (Y.extract rfl rfl rfl) ?_
    refine Jp.q 15 rfl (qaa rfl) rfl rfl (Y.assign rfl rfl) ?_
    refine Jp.q 16 rfl (qaa rfl) rfl rfl (Y.assign rfl rfl) ?_
    refine Jp.qae hK22 ?_
    refine Cd.seq fun K24 hK24=>?_
    refine Cd.qac [(0,false),(1,false),(2,false),(3,false)] rfl rfl ?_
    refine Jp.y 96 rfl (qaa rfl) rfl rfl Kp.true (Y.move rfl rfl) ?_
    refine Jp.y 97 rfl (qaa rfl) rfl rfl Kp.true (Y.struct [] [_,_,_] rfl rfl qca zeroValue46 rfl) ?_
    refine Jp.y 6 rfl (qaa rfl) rfl rfl Kp.true (Y.assign rfl rfl) ?_
    refine Jp.qai 7 rfl (qaa rfl) rfl rfl sizeOf46 rfl rfl (by first | rfl | assumption) (by first | rfl | assumption) rfl (by first | rfl | assumption) (fun k _ _=>qas k) Kp.true ?_
    refine Jp.qae hK24 ?_
    refine Cd.ret [(0,_)] rfl (by exact resTC 7 rfl rfl rfl isAgg46 sizeOf46 rfl (by first | rfl | assumption)) ⟨rfl,trivial⟩ ⟨rfl,by rw [← hV]; rfl,rfl⟩
end Go.Proofs.YtnfkalpgidiafaaGreat

namespace Go.Proofs.YtnfkalpgidiafaaGreat
open _root_.Go.Proofs.Tryz
open Go
theorem natsV_setN (l : List Nat) (r v : Nat) : (qbk .u32 l).set r (.int .u32 (v : Int)) = qbk .u32 (l.set r v):=by simp [qbk,List.map_set]
theorem StP.setX {x : List Nat} {pc : Nat} {ret : Int} (hx : x.length = 32) {r : Nat} (hr : r < 32) (v : Nat) : (StP.cells ⟨x,pc,ret⟩).toArray.setIfInBounds r (.int .u32 (v : Int)) = (StP.cells ⟨x.set r v,pc,ret⟩).toArray:=by
 rw [List.setIfInBounds_toArray]
 unfold StP.cells
 rw [List.set_append_left _ _ (by simp [qbk,hx,hr]),natsV_setN]
theorem StP.setPc {x : List Nat} {pc : Nat} {ret : Int} (hx : x.length = 32) (v : Nat) : (StP.cells ⟨x,pc,ret⟩).toArray.setIfInBounds 32 (.int .u32 (v : Int)) = (StP.cells ⟨x,v,ret⟩).toArray:=by
 rw [List.setIfInBounds_toArray]
 unfold StP.cells
 rw [List.set_append_right _ _ (by simp [qbk,hx])]
 simp [qbk,hx]
theorem StP.setRet {x : List Nat} {pc : Nat} {ret : Int} (hx : x.length = 32) (v : Int) : (StP.cells ⟨x,pc,ret⟩).toArray.setIfInBounds 33 (.int .i64 v) = (StP.cells ⟨x,pc,v⟩).toArray:=by
 rw [List.setIfInBounds_toArray]
 unfold StP.cells
 rw [List.set_append_right _ _ (by simp [qbk,hx])]
 simp [qbk,hx]
theorem StP.size {x : List Nat} {pc : Nat} {ret : Int} (hx : x.length = 32) : (StP.cells ⟨x,pc,ret⟩).toArray.size = 34:=by simp [StP.cells,qbk,hx]
theorem SetC.st {b r : Nat} {x : List Nat} {pc : Nat} {ret : Int} (hx : x.length = 32) (hr : r < 32) (v : Nat) : SetC (Pt b (.cells (StP.cells ⟨x,pc,ret⟩).toArray 27)) (Pt b (.cells (StP.cells ⟨x.set r v,pc,ret⟩).toArray 27)) b r (.int .u32 (v : Int)) :=
 SetC.pt (by rw [StP.size hx]; omega) (qas _) (StP.setX hx hr v)
theorem SetC.stPc {b : Nat} {x : List Nat} {pc : Nat} {ret : Int} (hx : x.length = 32) (v : Nat) : SetC (Pt b (.cells (StP.cells ⟨x,pc,ret⟩).toArray 27)) (Pt b (.cells (StP.cells ⟨x,v,ret⟩).toArray 27)) b 32 (.int .u32 (v : Int)) :=
 SetC.pt (by rw [StP.size hx]; omega) (qas _) (StP.setPc hx v)
theorem SetC.stRet {b : Nat} {x : List Nat} {pc : Nat} {ret : Int} (hx : x.length = 32) (v : Int) : SetC (Pt b (.cells (StP.cells ⟨x,pc,ret⟩).toArray 27)) (Pt b (.cells (StP.cells ⟨x,pc,v⟩).toArray 27)) b 33 (.int .i64 v) :=
 SetC.pt (by rw [StP.size hx]; omega) (qas _) (StP.setRet hx v)
theorem HasC.stRet {b : Nat} {x : List Nat} {pc : Nat} {ret : Int} (hx : x.length = 32) : HasC (Pt b (.cells (StP.cells ⟨x,pc,ret⟩).toArray 27)) ⟨b,33,none⟩ (.int .i64 ret):=HasC.pt (by simp [StP.cells,qbk,List.getElem?_append,hx])
def outP (s : StP) (x : List Nat) (to : Nat) : StP:=⟨x.set 0 0,to,s.ret + 1⟩
def qfi (M : MemG) (i : InsP) (s : StP) : StP × EvP × MemG :=
 if i.op = 48 then (s,⟨5,s.pc,0⟩,M) else if i.op = 49 then (s,⟨6,s.pc,0⟩,M) else if ¬ goesP i s % 4 = 0 then (s,⟨7,goesP i s,0⟩,M) else
 if storesP i.op = true then (if (qel M (addrP i s) (qcq i.op).1 (regP s i.r2)).1 = 0 then (outP s s.x (goesP i s), noEv, (qel M (addrP i s) (qcq i.op).1 (regP s i.r2)).2)
  else (s, ⟨4, addrP i s, (qel M (addrP i s) (qcq i.op).1 (regP s i.r2)).1⟩, (qel M (addrP i s) (qcq i.op).1 (regP s i.r2)).2)) else
 if qdb i.op = true then (if (valueP M i s).2.kind = 0 then (outP s (s.x.set i.rd (valueP M i s).1) (goesP i s),noEv,M) else (s,(valueP M i s).2,M)) else
 (outP s s.x (goesP i s),noEv,M)
theorem do_ins_spec (b : Nat) (M : MemG) (i : InsP) (s : StP) (hs : StOk s) (hi : InsOk i) : Spec Tryz.prog 28 #[.pointer (some ⟨b,0,none⟩),.agg i.cells.toArray,.agg s.cells.toArray] (fun _=>True) [(0,qew b M)]
  (fun ρ ρ' v L=>ρ' = ρ ∧ v = .tuple #[.agg (qfi M i s).1.cells.toArray,.agg (qfi M i s).2.1.cells.toArray] ∧ L = [(0,qew b (qfi M i s).2.2)]):=by
 obtain ⟨D,hD⟩ : ∃ D,qfi M i s = D:=⟨_,rfl⟩
 rw [hD]
 unfold qfi at hD
 have hG:=goes_spec i s hs hi
 have hA:=qdm i s hs hi
 have hal:=qgi i s
 have hV:=value_spec b M i s hs hi
 have hgl : goesP i s < 4294967296:=by
  unfold goesP
  repeat' split
  all_goals first | exact u32_lt _ | exact Nat.lt_of_le_of_lt (Nat.sub_le ..) hal
 obtain ⟨to,hto⟩ : ∃ x,goesP i s = x:=⟨_,rfl⟩
 obtain ⟨ad,had⟩ : ∃ x,addrP i s = x:=⟨_,rfl⟩
 obtain ⟨va,hva⟩ : ∃ x,valueP M i s = x:=⟨_,rfl⟩
 rw [hto] at hG hD hgl
 rw [had] at hA hal hD
 rw [hva] at hV hD
 obtain ⟨vv,ve⟩:=va
 obtain ⟨vk,vad,vw⟩:=ve
 obtain ⟨op,rd,r1,r2,imm⟩:=i
 dsimp only at hD hV
 have hrd : rd < 32:=hi.rd
 have hR2:=qgd s r2 hs hi.r2
 have l2:=regP_lt hs r2
 obtain ⟨x2,hx2⟩ : ∃ x,regP s r2 = x:=⟨_,rfl⟩
 rw [hx2] at hR2 hD l2
 have hSz:=qhf op
 obtain ⟨sz,hsz⟩ : ∃ x,qcq op = x:=⟨_,rfl⟩
 rw [hsz] at hSz hD
 obtain ⟨sz,sg⟩:=sz
 dsimp only at hSz hD
 have hSt:=store_spec b M ad sz x2 hal l2
 obtain ⟨sm,hsm⟩ : ∃ x,qel M ad sz x2 = x:=⟨_,rfl⟩
 rw [hsm] at hSt hD
 obtain ⟨sf,sM⟩:=sm
 dsimp only at hSt hD
 refine Spec.of 101 Tryz.func28 rfl Tryz.ntmps28 [(0,_),(1,_),(2,_)] rfl rfl ?_
 intro cx ρ hr' h0
 have hsl:=StP.len hs
 have hso:=StP.one s
 obtain ⟨sx,spc,sret⟩:=s
 have hx32 : sx.length = 32:=hs.len
 have hrt:=hs.ret
 dsimp only at hrt
 refine Cd.seq fun K1 hK1=>?_
 refine Cd.qac [(0,false),(1,false),(2,false),(3,false)] rfl rfl ?_
 refine Jp.box 4 4 rfl (qaa rfl) rfl rfl rfl rfl fun b4=>⟨Kp.true,?_⟩
 refine Jp.box 5 5 rfl (qaa rfl) rfl rfl rfl rfl fun b5=>⟨Kp.true,?_⟩
 refine Jp.alloc 6 6 rfl (qaa rfl) rfl rfl rfl zeroValue27 fun b6=>⟨Kp.true,?_⟩
 refine Jp.alloc 7 7 rfl (qaa rfl) rfl rfl rfl zeroValue46 fun b7=>⟨Kp.true,?_⟩
 refine Jp.qae hK1 ?_
 refine Cd.seq fun K2 hK2=>?_
 refine Cd.qac [(0,false),(1,false),(2,false),(3,false)] rfl rfl ?_
 refine Jp.y 15 rfl (qaa rfl) rfl rfl Kp.true (by exact Y.qah 4 rfl isAgg60 sizeOf60 rfl rfl (by first | rfl | assumption)) ?_
 refine Jp.y 16 rfl (qaa rfl) rfl rfl Kp.true (by exact Y.qah 5 rfl isAgg27 sizeOf27 rfl rfl (by first | rfl | assumption)) ?_
 refine Jp.call [] [] hG 17 rfl (qaa rfl) rfl rfl (Runs.fn rfl call59 rfl) (by decide) (by decide) rfl trivial ?_
 rintro v1 ρ1 L1 ⟨rfl,rfl,rfl⟩
 refine ⟨rfl,fun hle1=>⟨Kp.true,?_⟩⟩
 refine Jp.y 8 rfl (qaa rfl) rfl rfl Kp.true (Y.assign rfl rfl) ?_
 refine Jp.qae hK2 ?_
 refine Cd.seq fun K3 hK3=>?_
 refine Cd.qac [(0,false),(1,false),(2,false)] rfl rfl ?_
 refine Jp.y 18 rfl (qaa rfl) rfl rfl Kp.true (by exact Y.qah 5 rfl isAgg27 sizeOf27 rfl rfl (by first | rfl | assumption)) ?_
 refine Jp.alloc 9 9 rfl (qaa rfl) rfl rfl rfl zeroValue27 fun b9=>⟨Kp.true,?_⟩
 refine Jp.qai 9 rfl (qaa rfl) rfl rfl sizeOf27 rfl rfl (by first | rfl | assumption) (by first | rfl | assumption) rfl (by first | rfl | assumption) (fun k _ _=>qas k) Kp.true ?_
 refine Jp.qae hK3 ?_
 refine Cd.seq fun K4 hK4=>?_
 refine Cd.block ?_
 refine Cd.seq fun K5 hK5=>?_
 refine Cd.qac [(0,false),(1,false),(2,false),(3,false)] rfl rfl ?_
 refine Jp.y 20 rfl (qaa rfl) rfl rfl Kp.true (by exact Y.qad rfl rfl underlying60 rfl sizeOf3 (by decide) (show _ + 0 = _ from rfl)) ?_
 refine Jp.y 21 rfl (qaa rfl) rfl rfl Kp.true (by exact Y.qau 4 rfl isAgg3 rfl rfl rfl) ?_
 refine Jp.y 22 rfl (qaa rfl) rfl rfl Kp.true (Y.eql rfl rfl rfl) ?_
 refine Jp.y 19 rfl (qaa rfl) rfl rfl Kp.true (Y.assign rfl rfl) ?_
 refine Jp.qae hK5 ?_
 refine Cd.qgm (G:=List Nat × MemG) (fun g=>g.1.length = 32 ∧ D = (outP ⟨sx,spc,sret⟩ g.1 to,noEv,g.2)) (fun g=>[]) [(6,_),(7,_),(8,_),(9,_)] ⟨rfl,rfl,rfl,rfl,trivial⟩ (fun g=>[(9,Pt b9 (.cells (StP.cells ⟨g.1,spc,sret⟩).toArray 27)),(0,qew b g.2)]) [(6,_),(7,_)] ⟨rfl,rfl,trivial⟩ hK4 (fun g hφ=>?_) (fun hj1=>?_)
 ·obtain ⟨x,M'⟩:=g
  obtain ⟨hxl,hDe⟩:=hφ
  dsimp only at hxl hDe ⊢
  refine Cd.seq fun K6 hK6=>?_
  refine Cd.qac [(0,false),(1,false),(2,false)] rfl rfl ?_
  refine Jp.y 91 rfl (qaa rfl) rfl rfl Kp.true (by exact Y.qad rfl rfl underlying27 rfl sizeOf25 (by decide) (show _ + 0 = _ from rfl)) ?_
  refine Jp.y 92 rfl (qaa rfl) rfl rfl Kp.true (Y.qam rfl rfl rfl underlying25 sizeOf24 (by first | decide | omega) (by first | decide | omega) rfl) ?_
  refine Jp.qct 9 (Pt b9 (.cells (StP.cells ⟨x.set 0 0,spc,sret⟩).toArray 27)) rfl (qaa rfl) rfl rfl sizeOf24 rfl rfl rfl rfl rfl (SetC.st hxl (by omega) 0) Kp.true ?_
  have hxl2 : (x.set 0 0).length = 32:=by rw [List.length_set]; exact hxl
  refine Jp.qae hK6 ?_
  refine Cd.seq fun K7 hK7=>?_
  refine Cd.qac [(0,false),(1,false),(2,false)] rfl rfl ?_
  refine Jp.y 93 rfl (qaa rfl) rfl rfl Kp.true (Y.move rfl rfl) ?_
  refine Jp.y 94 rfl (qaa rfl) rfl rfl Kp.true (by exact Y.qad rfl rfl underlying27 rfl sizeOf24 (by decide) (show _ + 32 = _ from rfl)) ?_
  refine Jp.qct 9 (Pt b9 (.cells (StP.cells ⟨x.set 0 0,to,sret⟩).toArray 27)) rfl (qaa rfl) rfl rfl sizeOf24 rfl rfl rfl rfl rfl (SetC.stPc hxl2 to) Kp.true ?_
  refine Jp.qae hK7 ?_
  refine Cd.seq fun K8 hK8=>?_
  refine Cd.qac [(0,false),(1,false),(2,false),(3,false),(4,false)] rfl rfl ?_
  refine Jp.y 95 rfl (qaa rfl) rfl rfl Kp.true (by exact Y.qad rfl rfl underlying27 rfl sizeOf2 (by decide) (show _ + 33 = _ from rfl)) ?_
  refine Jp.y 96 rfl (qaa rfl) rfl rfl Kp.true (by exact Y.qbg 9 rfl isAgg2 rfl rfl (HasC.stRet hxl2)) ?_
  refine Jp.y 97 rfl (qaa rfl) rfl rfl Kp.true (Y.qcj rfl rfl rfl (by exact qaj (by omega) (by omega))) ?_
  refine Jp.y 98 rfl (qaa rfl) rfl rfl Kp.true (by exact Y.qad rfl rfl underlying27 rfl sizeOf2 (by decide) (show _ + 33 = _ from rfl)) ?_
  refine Jp.qct 9 (Pt b9 (.cells (StP.cells ⟨x.set 0 0,to,sret + 1⟩).toArray 27)) rfl (qaa rfl) rfl rfl sizeOf2 rfl rfl rfl rfl rfl (SetC.stRet hxl2 _) Kp.true ?_
  have hol : (StP.cells ⟨x.set 0 0,to,sret + 1⟩).length = 34:=by simp [StP.cells,qbk,hxl]
  have hoo:=StP.one ⟨x.set 0 0,to,sret + 1⟩
  refine Jp.qae hK8 ?_
  refine Cd.seq fun K9 hK9=>?_
  refine Cd.qac [(0,false),(1,false),(2,false),(3,false)] rfl rfl ?_
  refine Jp.y 99 rfl (qaa rfl) rfl rfl Kp.true (by exact Y.qah 9 rfl isAgg27 sizeOf27 rfl rfl (by first | rfl | assumption)) ?_
  refine Jp.y 100 rfl (qaa rfl) rfl rfl Kp.true (Y.struct [] [_,_,_] rfl rfl qca zeroValue46 rfl) ?_
  refine Jp.qai 6 rfl (qaa rfl) rfl rfl sizeOf27 rfl rfl (by first | rfl | assumption) (by first | rfl | assumption) rfl (by first | rfl | assumption) (fun k _ _=>qas k) Kp.true ?_
  refine Jp.qai 7 rfl (qaa rfl) rfl rfl sizeOf46 rfl rfl (by first | rfl | assumption) (by first | rfl | assumption) rfl (by first | rfl | assumption) (fun k _ _=>qas k) Kp.true ?_
  refine Jp.qae hK9 ?_
  refine Cd.ret [(0,_)] rfl (by exact resCC 6 7 rfl rfl rfl isAgg27 sizeOf27 isAgg46 sizeOf46 rfl (by first | rfl | assumption) rfl (by first | rfl | assumption)) ⟨rfl,trivial⟩ ⟨rfl,by rw [hDe]; rfl,by rw [hDe]⟩
 ·skip
  refine Cd.qar rfl (fun ga=>?_) (fun ga=>?_)
  ·rw [if_pos (show op = 48 by simp at ga; omega)] at hD
   refine Cd.seq fun K10 hK10=>?_
   refine Cd.drawn [(4,_),(5,_)] ⟨rfl,rfl,trivial⟩ [(0,true),(1,true),(2,true),(3,true),(4,false),(5,false)] follows (by kernel_rfl) (fun hrl=>?_)
   refine Jp.q 23 rfl (qaa rfl) rfl rfl (by exact Y.qah 5 rfl isAgg27 sizeOf27 rfl rfl (by first | rfl | assumption)) ?_
   refine Jp.q 24 rfl (qaa rfl) rfl rfl (by exact Y.qad rfl rfl underlying27 rfl sizeOf24 (by decide) (show _ + 32 = _ from rfl)) ?_
   refine Jp.q 25 rfl (qaa rfl) rfl rfl (by exact Y.qbg 5 rfl isAgg24 rfl rfl (HasC.pt (StP.cPc hs))) ?_
   refine Jp.q 26 rfl (qaa rfl) rfl rfl (Y.struct [(0,_),(1,_)] [_,_,_] rfl rfl qca zeroValue46 rfl) ?_
   refine Jp.qai 6 rfl (qaa rfl) rfl rfl sizeOf27 rfl rfl (by first | rfl | assumption) (by first | rfl | assumption) rfl (by first | rfl | assumption) (fun k _ _=>qas k) (Kp.st ⟨rfl,rfl,trivial⟩) ?_
   refine Jp.qai 7 rfl (qaa rfl) rfl rfl sizeOf46 rfl rfl (by first | rfl | assumption) (by first | rfl | assumption) rfl (by first | rfl | assumption) (fun k _ _=>qas k) Kp.last ?_
   refine Jp.qae hK10 ?_
   refine Cd.ret [(0,_)] rfl (by exact resCC 6 7 rfl rfl rfl isAgg27 sizeOf27 isAgg46 sizeOf46 rfl (by first | rfl | assumption) rfl (by first | rfl | assumption)) ⟨rfl,trivial⟩ ⟨rfl,by rw [← hD] <;> rfl,by rw [← hD]⟩
  ·rw [if_neg (show ¬ op = 48 by simp at ga; omega)] at hD
   refine Cd.seq fun K12 hK12=>?_
   refine Cd.qac [(0,false),(1,false),(2,false),(3,false)] rfl rfl ?_
   refine Jp.y 28 rfl (qaa rfl) rfl rfl Kp.true (by exact Y.qad rfl rfl underlying60 rfl sizeOf3 (by decide) (show _ + 0 = _ from rfl)) ?_
   refine Jp.y 29 rfl (qaa rfl) rfl rfl Kp.true (by exact Y.qau 4 rfl isAgg3 rfl rfl rfl) ?_
   refine Jp.y 30 rfl (qaa rfl) rfl rfl Kp.true (Y.eql rfl rfl rfl) ?_
   refine Jp.y 27 rfl (qaa rfl) rfl rfl Kp.true (Y.assign rfl rfl) ?_
   refine Jp.qae hK12 ?_
   refine Cd.qar rfl (fun gb=>?_) (fun gb=>?_)
   ·rw [if_pos (show op = 49 by simp at gb; omega)] at hD
    refine Cd.seq fun K13 hK13=>?_
    refine Cd.drawn [(4,_),(5,_)] ⟨rfl,rfl,trivial⟩ [(0,true),(1,true),(2,true),(3,true),(4,false),(5,false)] follows (by kernel_rfl) (fun hrl=>?_)
    refine Jp.q 31 rfl (qaa rfl) rfl rfl (by exact Y.qah 5 rfl isAgg27 sizeOf27 rfl rfl (by first | rfl | assumption)) ?_
    refine Jp.q 32 rfl (qaa rfl) rfl rfl (by exact Y.qad rfl rfl underlying27 rfl sizeOf24 (by decide) (show _ + 32 = _ from rfl)) ?_
    refine Jp.q 33 rfl (qaa rfl) rfl rfl (by exact Y.qbg 5 rfl isAgg24 rfl rfl (HasC.pt (StP.cPc hs))) ?_
    refine Jp.q 34 rfl (qaa rfl) rfl rfl (Y.struct [(0,_),(1,_)] [_,_,_] rfl rfl qca zeroValue46 rfl) ?_
    refine Jp.qai 6 rfl (qaa rfl) rfl rfl sizeOf27 rfl rfl (by first | rfl | assumption) (by first | rfl | assumption) rfl (by first | rfl | assumption) (fun k _ _=>qas k) (Kp.st ⟨rfl,rfl,trivial⟩) ?_
    refine Jp.qai 7 rfl (qaa rfl) rfl rfl sizeOf46 rfl rfl (by first | rfl | assumption) (by first | rfl | assumption) rfl (by first | rfl | assumption) (fun k _ _=>qas k) Kp.last ?_
    refine Jp.qae hK13 ?_
    refine Cd.ret [(0,_)] rfl (by exact resCC 6 7 rfl rfl rfl isAgg27 sizeOf27 isAgg46 sizeOf46 rfl (by first | rfl | assumption) rfl (by first | rfl | assumption)) ⟨rfl,trivial⟩ ⟨rfl,by rw [← hD] <;> rfl,by rw [← hD]⟩
   ·rw [if_neg (show ¬ op = 49 by simp at gb; omega)] at hD
    refine Cd.seq fun K15 hK15=>?_
    refine Cd.qac [(0,false),(1,false),(2,false),(3,false)] rfl rfl ?_
    refine Jp.y 36 rfl (qaa rfl) rfl rfl Kp.true (Y.move rfl rfl) ?_
    refine Jp.y 37 rfl (qaa rfl) rfl rfl Kp.true (by exact Y.remN rfl rfl rfl (by omega) (by omega)) ?_
    refine Jp.y 38 rfl (qaa rfl) rfl rfl Kp.true (Y.neq rfl rfl rfl) ?_
    refine Jp.y 35 rfl (qaa rfl) rfl rfl Kp.true (Y.assign rfl rfl) ?_
    refine Jp.qae hK15 ?_
    refine Cd.qar rfl (fun gc=>?_) (fun gc=>?_)
    ·rw [if_pos (show ¬ to % 4 = 0 by simp at gc; omega)] at hD
     refine Cd.seq fun K16 hK16=>?_
     refine Cd.qac [(0,false),(1,false),(2,false),(3,false),(4,false)] rfl rfl ?_
     refine Jp.y 39 rfl (qaa rfl) rfl rfl Kp.true (by exact Y.qah 5 rfl isAgg27 sizeOf27 rfl rfl (by first | rfl | assumption)) ?_
     refine Jp.y 40 rfl (qaa rfl) rfl rfl Kp.true (Y.move rfl rfl) ?_
     refine Jp.y 41 rfl (qaa rfl) rfl rfl Kp.true (Y.struct [(0,_),(1,_)] [_,_,_] rfl rfl qca zeroValue46 rfl) ?_
     refine Jp.qai 6 rfl (qaa rfl) rfl rfl sizeOf27 rfl rfl (by first | rfl | assumption) (by first | rfl | assumption) rfl (by first | rfl | assumption) (fun k _ _=>qas k) Kp.true ?_
     refine Jp.qai 7 rfl (qaa rfl) rfl rfl sizeOf46 rfl rfl (by first | rfl | assumption) (by first | rfl | assumption) rfl (by first | rfl | assumption) (fun k _ _=>qas k) Kp.true ?_
     refine Jp.qae hK16 ?_
     refine Cd.ret [(0,_)] rfl (by exact resCC 6 7 rfl rfl rfl isAgg27 sizeOf27 isAgg46 sizeOf46 rfl (by first | rfl | assumption) rfl (by first | rfl | assumption)) ⟨rfl,trivial⟩ ⟨rfl,by rw [← hD] <;> rfl,by rw [← hD]⟩
    ·rw [if_neg (show ¬ ¬ to % 4 = 0 by simp at gc; omega)] at hD
     refine Cd.seq fun K17 hK17=>?_
     refine Cd.qac [(0,false),(1,false),(2,false),(3,false)] rfl rfl ?_
     refine Jp.y 43 rfl (qaa rfl) rfl rfl Kp.true (by exact Y.qad rfl rfl underlying60 rfl sizeOf3 (by decide) (show _ + 0 = _ from rfl)) ?_
     refine Jp.y 44 rfl (qaa rfl) rfl rfl Kp.true (by exact Y.qau 4 rfl isAgg3 rfl rfl rfl) ?_
     refine Jp.call [] [] (qgt op) 45 rfl (qaa rfl) rfl rfl (Runs.fn rfl call20 rfl) (by decide) (by decide) rfl trivial ?_
     rintro v2 ρ2 L2 ⟨rfl,rfl,rfl⟩
     refine ⟨rfl,fun hle2=>⟨Kp.true,?_⟩⟩
     refine Jp.y 42 rfl (qaa rfl) rfl rfl Kp.true (Y.assign rfl rfl) ?_
     refine Jp.qae hK17 ?_
     refine Cd.qar rfl (fun gd=>?_) (fun gd=>?_)
     ·rw [if_pos gd] at hD
      refine Cd.seq fun K18 hK18=>?_
      refine Cd.qac [(0,false),(1,false),(2,false),(3,false),(4,false),(5,false),(6,false),(7,false)] rfl rfl ?_
      refine Jp.y 47 rfl (qaa rfl) rfl rfl Kp.true (by exact Y.qad rfl rfl underlying60 rfl sizeOf3 (by decide) (show _ + 0 = _ from rfl)) ?_
      refine Jp.y 48 rfl (qaa rfl) rfl rfl Kp.true (by exact Y.qau 4 rfl isAgg3 rfl rfl rfl) ?_
      refine Jp.call [] [] hSz 49 rfl (qaa rfl) rfl rfl (Runs.fn rfl call41 rfl) (by decide) (by decide) rfl trivial ?_
      rintro v3 ρ3 L3 ⟨rfl,rfl,rfl⟩
      refine ⟨rfl,fun hle3=>⟨Kp.true,?_⟩⟩
      refine Jp.y 46 rfl (qaa rfl) rfl rfl Kp.true (Y.move rfl rfl) ?_
      refine Jp.y 50 rfl (qaa rfl) rfl rfl Kp.true (Y.extract rfl rfl rfl) ?_
      refine Jp.y 51 rfl (qaa rfl) rfl rfl Kp.true (Y.extract rfl rfl rfl) ?_
      refine Jp.y 10 rfl (qaa rfl) rfl rfl Kp.true (Y.assign rfl rfl) ?_
      refine Jp.y 11 rfl (qaa rfl) rfl rfl Kp.true (Y.assign rfl rfl) ?_
      refine Jp.qae hK18 ?_
      refine Cd.seq fun K19 hK19=>?_
      refine Cd.drawn [(4,_),(5,_)] ⟨rfl,rfl,trivial⟩ [(0,true),(1,true),(2,true),(4,true),(5,true),(6,true),(7,true),(3,false),(8,false),(9,false),(10,true)] follows (by kernel_rfl) (fun hrl=>?_)
      refine Jp.q 52 rfl (qaa rfl) rfl rfl (Y.move rfl rfl) ?_
      refine Jp.q 53 rfl (qaa rfl) rfl rfl (by exact Y.qah 4 rfl isAgg60 sizeOf60 rfl rfl (by first | rfl | assumption)) ?_
      refine Jp.q 54 rfl (qaa rfl) rfl rfl (by exact Y.qah 5 rfl isAgg27 sizeOf27 rfl rfl (by first | rfl | assumption)) ?_
      refine Jp.q 56 rfl (qaa rfl) rfl rfl (Y.move rfl rfl) ?_
      refine Jp.q 57 rfl (qaa rfl) rfl rfl (by exact Y.qah 5 rfl isAgg27 sizeOf27 rfl rfl (by first | rfl | assumption)) ?_
      refine Jp.q 58 rfl (qaa rfl) rfl rfl (by exact Y.qad rfl rfl underlying60 rfl sizeOf3 (by decide) (show _ + 3 = _ from rfl)) ?_
      refine Jp.q 59 rfl (qaa rfl) rfl rfl (by exact Y.qau 4 rfl isAgg3 rfl rfl rfl) ?_
      refine Jp.call [] [] hA 55 rfl (qaa rfl) rfl rfl (Runs.fn rfl call42 rfl) (by decide) (by decide) rfl trivial ?_
      rintro v4 ρ4 L4 ⟨rfl,rfl,rfl⟩
      refine ⟨rfl,fun hle4=>⟨(Kp.st ⟨rfl,rfl,trivial⟩),?_⟩⟩
      refine Jp.call [] [] hR2 60 rfl (qaa rfl) rfl rfl (Runs.fn rfl call61 rfl) (by decide) (by decide) rfl trivial ?_
      rintro v5 ρ5 L5 ⟨rfl,rfl,rfl⟩
      refine ⟨rfl,fun hle5=>⟨(Kp.st ⟨rfl,rfl,trivial⟩),?_⟩⟩
      refine Jp.call [0] [0] hSt 61 rfl (qaa rfl) rfl rfl (Runs.fn rfl call60 rfl) (by decide) (by decide) rfl trivial ?_
      rintro v6 ρ6 L6 ⟨rfl,rfl,rfl⟩
      refine ⟨rfl,fun hle6=>⟨(Kp.st ⟨rfl,rfl,trivial⟩),?_⟩⟩
      refine Jp.q 12 rfl (qaa rfl) rfl rfl (Y.assign rfl rfl) ?_
      refine Jp.qae hK19 ?_
      refine Cd.seq fun K21 hK21=>?_
      refine Cd.qac [(0,false),(1,false)] rfl rfl ?_
      refine Jp.y 62 rfl (qaa rfl) rfl rfl Kp.true (Y.move rfl rfl) ?_
      refine Jp.y 63 rfl (qaa rfl) rfl rfl Kp.true (Y.neq rfl rfl rfl) ?_
      refine Jp.qae hK21 ?_
      refine Cd.qar rfl (fun ge=>?_) (fun ge=>?_)
      ·rw [if_neg (show ¬ sf = 0 by simpa using ge)] at hD
       refine Cd.seq fun K22 hK22=>?_
       refine Cd.drawn [(4,_),(5,_)] ⟨rfl,rfl,trivial⟩ [(0,true),(1,true),(2,true),(4,true),(3,false),(5,true),(6,false),(7,false)] follows (by kernel_rfl) (fun hrl=>?_)
       refine Jp.q 64 rfl (qaa rfl) rfl rfl (by exact Y.qah 5 rfl isAgg27 sizeOf27 rfl rfl (by first | rfl | assumption)) ?_
       refine Jp.q 65 rfl (qaa rfl) rfl rfl (by exact Y.qah 4 rfl isAgg60 sizeOf60 rfl rfl (by first | rfl | assumption)) ?_
       refine Jp.q 66 rfl (qaa rfl) rfl rfl (by exact Y.qah 5 rfl isAgg27 sizeOf27 rfl rfl (by first | rfl | assumption)) ?_
       refine Jp.q 68 rfl (qaa rfl) rfl rfl (Y.move rfl rfl) ?_
       refine Jp.call [] [] hA 67 rfl (qaa rfl) rfl rfl (Runs.fn rfl call42 rfl) (by decide) (by decide) rfl trivial ?_
       rintro v7 ρ7 L7 ⟨rfl,rfl,rfl⟩
       refine ⟨rfl,fun hle7=>⟨(Kp.st ⟨rfl,rfl,trivial⟩),?_⟩⟩
       refine Jp.q 69 rfl (qaa rfl) rfl rfl (Y.struct [(0,_),(1,_),(2,_)] [_,_,_] rfl rfl qca zeroValue46 rfl) ?_
       refine Jp.qai 6 rfl (qaa rfl) rfl rfl sizeOf27 rfl rfl (by first | rfl | assumption) (by first | rfl | assumption) rfl (by first | rfl | assumption) (fun k _ _=>qas k) (Kp.st ⟨rfl,rfl,trivial⟩) ?_
       refine Jp.qai 7 rfl (qaa rfl) rfl rfl sizeOf46 rfl rfl (by first | rfl | assumption) (by first | rfl | assumption) rfl (by first | rfl | assumption) (fun k _ _=>qas k) Kp.last ?_
       refine Jp.qae hK22 ?_
       refine Cd.ret [(0,_)] rfl (by exact resCC 6 7 rfl rfl rfl isAgg27 sizeOf27 isAgg46 sizeOf46 rfl (by first | rfl | assumption) rfl (by first | rfl | assumption)) ⟨rfl,trivial⟩ ⟨rfl,by rw [← hD] <;> rfl,by rw [← hD]⟩
      ·rw [if_pos (show sf = 0 by simpa using ge)] at hD
       refine Cd.over rfl hK4 ?_
       exact Cd.qcz (hj1 ⟨sx,sM⟩ ⟨hx32,hD.symm⟩) ⟨rfl,rfl,rfl,rfl,trivial⟩ ⟨rfl,rfl,rfl,rfl,trivial⟩
     ·rw [if_neg (by simp [gd])] at hD
      refine Cd.seq fun K24 hK24=>?_
      refine Cd.qac [(0,false),(1,false),(2,false),(3,false)] rfl rfl ?_
      refine Jp.y 71 rfl (qaa rfl) rfl rfl Kp.true (by exact Y.qad rfl rfl underlying60 rfl sizeOf3 (by decide) (show _ + 0 = _ from rfl)) ?_
      refine Jp.y 72 rfl (qaa rfl) rfl rfl Kp.true (by exact Y.qau 4 rfl isAgg3 rfl rfl rfl) ?_
      refine Jp.call [] [] (qgs op) 73 rfl (qaa rfl) rfl rfl (Runs.fn rfl call22 rfl) (by decide) (by decide) rfl trivial ?_
      rintro v3 ρ3 L3 ⟨rfl,rfl,rfl⟩
      refine ⟨rfl,fun hle3=>⟨Kp.true,?_⟩⟩
      refine Jp.y 70 rfl (qaa rfl) rfl rfl Kp.true (Y.assign rfl rfl) ?_
      refine Jp.qae hK24 ?_
      refine Cd.qar rfl (fun ge=>?_) (fun ge=>?_)
      ·rw [if_pos ge] at hD
       refine Cd.seq fun K25 hK25=>?_
       refine Cd.qac [(0,false),(1,false),(2,false),(3,false),(4,false),(5,false),(6,false),(7,false),(8,false),(9,false)] rfl rfl ?_
       refine Jp.y 75 rfl (qaa rfl) rfl rfl Kp.true (Y.move rfl rfl) ?_
       refine Jp.y 76 rfl (qaa rfl) rfl rfl Kp.true (by exact Y.qah 4 rfl isAgg60 sizeOf60 rfl rfl (by first | rfl | assumption)) ?_
       refine Jp.y 77 rfl (qaa rfl) rfl rfl Kp.true (by exact Y.qah 5 rfl isAgg27 sizeOf27 rfl rfl (by first | rfl | assumption)) ?_
       refine Jp.call [0] [0] hV 78 rfl (qaa rfl) rfl rfl (Runs.fn rfl call62 rfl) (by decide) (by decide) rfl trivial ?_
       rintro v4 ρ4 L4 ⟨rfl,rfl,rfl⟩
       refine ⟨rfl,fun hle4=>⟨Kp.true,?_⟩⟩
       refine Jp.y 74 rfl (qaa rfl) rfl rfl Kp.true (Y.move rfl rfl) ?_
       refine Jp.y 79 rfl (qaa rfl) rfl rfl Kp.true (Y.extract rfl rfl rfl) ?_
       refine Jp.y 80 rfl (qaa rfl) rfl rfl Kp.true (Y.extract rfl rfl rfl) ?_
       refine Jp.alloc 14 14 rfl (qaa rfl) rfl rfl rfl zeroValue46 fun b14=>⟨Kp.true,?_⟩
       refine Jp.y 13 rfl (qaa rfl) rfl rfl Kp.true (Y.assign rfl rfl) ?_
       refine Jp.qai 14 rfl (qaa rfl) rfl rfl sizeOf46 rfl rfl (by first | rfl | assumption) (by first | rfl | assumption) rfl (by first | rfl | assumption) (fun k _ _=>qas k) Kp.true ?_
       refine Jp.qae hK25 ?_
       refine Cd.seq fun K26 hK26=>?_
       refine Cd.seq fun K27 hK27=>?_
       refine Cd.qac [(0,false),(1,false),(2,false)] rfl rfl ?_
       refine Jp.y 81 rfl (qaa rfl) rfl rfl Kp.true (by exact Y.qad rfl rfl underlying46 rfl sizeOf3 (by decide) (show _ + 0 = _ from rfl)) ?_
       refine Jp.y 82 rfl (qaa rfl) rfl rfl Kp.true (by exact Y.qau 14 rfl isAgg3 rfl rfl rfl) ?_
       refine Jp.y 83 rfl (qaa rfl) rfl rfl Kp.true (Y.neq rfl rfl rfl) ?_
       refine Jp.qae hK27 ?_
       refine Cd.qar rfl (fun gf=>?_) (fun gf=>?_)
       ·rw [if_neg (show ¬ vk = 0 by simp at gf; omega)] at hD
        refine Cd.seq fun K28 hK28=>?_
        refine Cd.drawn [(4,_),(5,_),(14,_)] ⟨rfl,rfl,rfl,trivial⟩ [(0,true),(1,true),(2,false),(3,false)] follows (by kernel_rfl) (fun hrl=>?_)
        refine Jp.q 84 rfl (qaa rfl) rfl rfl (by exact Y.qah 5 rfl isAgg27 sizeOf27 rfl rfl (by first | rfl | assumption)) ?_
        refine Jp.q 85 rfl (qaa rfl) rfl rfl (by exact Y.qah 14 rfl isAgg46 sizeOf46 rfl rfl (by first | rfl | assumption)) ?_
        refine Jp.qai 6 rfl (qaa rfl) rfl rfl sizeOf27 rfl rfl (by first | rfl | assumption) (by first | rfl | assumption) rfl (by first | rfl | assumption) (fun k _ _=>qas k) (Kp.st ⟨rfl,rfl,rfl,trivial⟩) ?_
        refine Jp.qai 7 rfl (qaa rfl) rfl rfl sizeOf46 rfl rfl (by first | rfl | assumption) (by first | rfl | assumption) rfl (by first | rfl | assumption) (fun k _ _=>qas k) Kp.last ?_
        refine Jp.qae hK28 ?_
        refine Cd.ret [(0,_)] rfl (by exact resCC 6 7 rfl rfl rfl isAgg27 sizeOf27 isAgg46 sizeOf46 rfl (by first | rfl | assumption) rfl (by first | rfl | assumption)) ⟨rfl,trivial⟩ ⟨rfl,by rw [← hD] <;> rfl,by rw [← hD]⟩
       ·rw [if_pos (show vk = 0 by simp at gf; omega)] at hD
        refine Cd.qbu hK26 ?_
        refine Cd.qac [(0,false),(1,false),(2,false),(3,false),(4,false),(5,false)] rfl rfl ?_
        refine Jp.y 86 rfl (qaa rfl) rfl rfl Kp.true (by exact Y.qad rfl rfl underlying60 rfl sizeOf3 (by decide) (show _ + 1 = _ from rfl)) ?_
        refine Jp.y 87 rfl (qaa rfl) rfl rfl Kp.true (by exact Y.qau 4 rfl isAgg3 rfl rfl rfl) ?_
        refine Jp.slot 87 rfl (show _ = Value.int .i64 (rd : Int) from rfl) ?_
        refine Jp.y 88 rfl (qaa rfl) rfl rfl Kp.true (Y.move rfl rfl) ?_
        refine Jp.y 89 rfl (qaa rfl) rfl rfl Kp.true (by exact Y.qad rfl rfl underlying27 rfl sizeOf25 (by decide) (show _ + 0 = _ from rfl)) ?_
        refine Jp.y 90 rfl (qaa rfl) rfl rfl Kp.true (Y.qam (q:=rd) rfl rfl rfl underlying25 sizeOf24 (by omega) (by omega) (by omega)) ?_
        refine Jp.qct 9 (Pt b9 (.cells (StP.cells ⟨sx.set rd vv,spc,sret⟩).toArray 27)) rfl (qaa rfl) rfl rfl sizeOf24 rfl rfl rfl rfl rfl (SetC.st hx32 hrd vv) Kp.true ?_
        refine Jp.over rfl hK4 ?_
        exact Cd.qcz (hj1 ⟨sx.set rd vv,M⟩ ⟨by simp [hx32],hD.symm⟩) ⟨rfl,rfl,rfl,rfl,trivial⟩ ⟨rfl,rfl,rfl,rfl,trivial⟩
      ·rw [if_neg (by simp [ge])] at hD
       refine Cd.over rfl hK4 ?_
       exact Cd.qcz (hj1 ⟨sx,M⟩ ⟨hx32,hD.symm⟩) ⟨rfl,rfl,rfl,rfl,trivial⟩ ⟨rfl,rfl,rfl,rfl,trivial⟩
end Go.Proofs.YtnfkalpgidiafaaGreat

namespace Go.Proofs.YtnfkalpgidiafaaGreat
open _root_.Go.Proofs.Tryz
open Go
theorem kindP_lt (w : Nat) (hw : w < 4294967296) : kindP w < 50:=by
 have hg : ∀ (l : List Nat) (f : Nat),(∀ x ∈ l,x < 50) → l.getD f 0 < 50:=fun l f h=>by
  rw [List.getD_eq_getElem?_getD]
  cases hx : l[f]? with
  | none=>decide
  | some v=>exact h v (List.mem_of_getElem? hx)
 have h1 : ∀ f,branchP f < 50:=fun f=>hg _ f (by decide)
 have h2 : ∀ f,loadP f < 50:=fun f=>hg _ f (by decide)
 have h3 : ∀ f,storeP f < 50:=fun f=>hg _ f (by decide)
 have h4 : ∀ f t,immKP f t < 50:=fun f t=>by
  unfold immKP
  repeat' split
  all_goals first | omega | exact hg _ f (by decide)
 have h5 : ∀ f t,f < 8 → regKP f t < 50:=fun f t hf=>by
  unfold regKP
  repeat' split
  all_goals first | omega | exact hg _ f (by decide)
 have h6 : ∀ w,systemP w < 50:=fun w=>by
  unfold systemP
  repeat' split
  all_goals omega
 have h7 : w / 2 ^ 12 % 2 ^ 3 < 8:=Nat.mod_lt _ (by decide)
 unfold kindP
 repeat' split
 all_goals first | omega | exact h1 _ | exact h2 _ | exact h3 _ | exact h4 _ _ | exact h5 _ _ h7 | exact h6 _
theorem i32_rng (x : Int) : -2147483648 ≤ IntKind.i32.wrap x ∧ IntKind.i32.wrap x ≤ 2147483647:=by
 simp only [IntKind.wrap,IntKind.bits,IntKind.signed]
 simp
 split <;> omega
theorem bitsB_i32 (x y : Int) : -2147483648 ≤ qci .or .i32 x y ∧ qci .or .i32 x y ≤ 2147483647:=i32_rng _
theorem immI_rng (w : Nat) : -2147483648 ≤ immIP w ∧ immIP w ≤ 2147483647:=by
 have h:=i32_rng (w : Int)
 unfold immIP s32
 rw [Int.fdiv_eq_ediv_of_nonneg _ (by decide)]
 omega
theorem decP_ok (w : Nat) (hw : w < 4294967296) : InsOk (decP w):=by
 have h0:=kindP_lt w hw
 have hz : (0 : Nat) < 32:=by decide
 have hi : -2147483648 ≤ (0 : Int) ∧ (0 : Int) ≤ 2147483647:=by decide
 have h7 : w / 2 ^ 7 % 2 ^ 5 < 32:=Nat.mod_lt _ (by decide)
 have h15 : w / 2 ^ 15 % 2 ^ 5 < 32:=Nat.mod_lt _ (by decide)
 have h20 : w / 2 ^ 20 % 2 ^ 5 < 32:=Nat.mod_lt _ (by decide)
 unfold decP
 repeat' split
 ·exact ⟨h0,hz,hz,hz,hi⟩
 ·exact ⟨h0,h7,hz,hz,i32_rng _⟩
 ·exact ⟨h0,h7,hz,hz,bitsB_i32 _ _⟩
 ·exact ⟨h0,hz,h15,h20,bitsB_i32 _ _⟩
 ·exact ⟨h0,hz,h15,h20,bitsB_i32 _ _⟩
 ·exact ⟨h0,h7,h15,hz,by dsimp only; omega⟩
 ·exact ⟨h0,h7,h15,h20,hi⟩
 ·exact ⟨h0,h7,h15,hz,immI_rng w⟩
theorem noIns_ok : InsOk noIns:=⟨by decide,by decide,by decide,by decide,by decide⟩
theorem fetchP_ok (M : MemG) (pc : Nat) : InsOk (qbs M pc).1:=by
 have hl : (qdq M pc 4 4).1 < 4294967296:=qhp M pc 4 (by omega) 4
 unfold qbs
 split
 ·split
  ·exact noIns_ok
  ·exact decP_ok _ hl
 ·exact noIns_ok
def qdo (M : MemG) (s : StP) : StP × EvP × MemG:=if (qbs M s.pc).2.kind = 0 then qfi M (qbs M s.pc).1 s else (s,(qbs M s.pc).2,M)
theorem step_spec (b : Nat) (M : MemG) (s : StP) (hs : StOk s) : Spec Tryz.prog 11 #[.pointer (some ⟨b,0,none⟩),.agg s.cells.toArray] (fun _=>True) [(0,qew b M)]
  (fun ρ ρ' v L=>ρ' = ρ ∧ v = .tuple #[.agg (qdo M s).1.cells.toArray,.agg (qdo M s).2.1.cells.toArray] ∧ L = [(0,qew b (qdo M s).2.2)]):=by
 obtain ⟨D,hD⟩ : ∃ D,qdo M s = D:=⟨_,rfl⟩
 rw [hD]
 unfold qdo at hD
 have hF:=fetch_spec b M s.pc hs.pc (qhp M s.pc 4 (by omega) 4)
 have hI:=do_ins_spec b M (qbs M s.pc).1 s hs (fetchP_ok M s.pc)
 have hil : (qbs M s.pc).1.cells.length = 5:=rfl
 have hio : (qbs M s.pc).1.cells.all one = true:=by unfold InsP.cells; simp [one]
 obtain ⟨F,hFe⟩ : ∃ F,qbs M s.pc = F:=⟨_,rfl⟩
 rw [hFe] at hF hI hil hio hD
 obtain ⟨fi,fe⟩:=F
 obtain ⟨kd,ead,wy⟩:=fe
 dsimp only at hF hI hil hio hD
 by_cases hk : kd = 0
 ·rw [if_pos hk] at hD
  rw [hD] at hI
  have hok : StOk D.1 ∨ True:=.inr trivial
  subst hk
  have hDl : D.1.cells.length = 34:=by
   rw [← hD]
   unfold qfi
   have:=hs.len
   repeat' split
   all_goals simp [outP,StP.cells,qbk,this]
  have hDo:=StP.one D.1
  have hEl : D.2.1.cells.length = 3:=rfl
  have hEo : D.2.1.cells.all one = true:=by unfold EvP.cells; simp [one]
  refine Spec.of 26 Tryz.func11 rfl Tryz.ntmps11 [(0,_),(1,_)] rfl rfl ?_
  intro cx ρ hr' h0
  have hsl:=StP.len hs
  have hso:=StP.one s
  refine Cd.seq fun K1 hK1=>?_
  refine Cd.qac [(0,false),(1,false),(2,false)] rfl rfl ?_
  refine Jp.box 3 3 rfl (qaa rfl) rfl rfl rfl rfl fun b3=>⟨Kp.true,?_⟩
  refine Jp.alloc 4 4 rfl (qaa rfl) rfl rfl rfl zeroValue27 fun b4=>⟨Kp.true,?_⟩
  refine Jp.alloc 5 5 rfl (qaa rfl) rfl rfl rfl zeroValue46 fun b5=>⟨Kp.true,?_⟩
  refine Jp.qae hK1 ?_
  refine Cd.seq fun K2 hK2=>?_
  refine Cd.qac [(0,false),(1,false),(2,false),(3,false),(4,false),(5,false),(6,false),(7,false),(8,false),(9,false),(10,false)] rfl rfl ?_
  refine Jp.y 9 rfl (qaa rfl) rfl rfl Kp.true (Y.move rfl rfl) ?_
  refine Jp.y 10 rfl (qaa rfl) rfl rfl Kp.true (by exact Y.qad rfl rfl underlying27 rfl sizeOf24 (by decide) (show _ + 32 = _ from rfl)) ?_
  refine Jp.y 11 rfl (qaa rfl) rfl rfl Kp.true (by exact Y.qbg 3 rfl isAgg24 rfl rfl (HasC.pt (StP.cPc hs))) ?_
  refine Jp.call [0] [0] hF 12 rfl (qaa rfl) rfl rfl (Runs.fn rfl call18 rfl) (by decide) (by decide) rfl trivial ?_
  rintro v1 ρ1 L1 ⟨rfl,rfl,rfl⟩
  refine ⟨rfl,fun hle1=>⟨Kp.true,?_⟩⟩
  refine Jp.y 8 rfl (qaa rfl) rfl rfl Kp.true (Y.move rfl rfl) ?_
  refine Jp.y 13 rfl (qaa rfl) rfl rfl Kp.true (Y.extract rfl rfl rfl) ?_
  refine Jp.y 14 rfl (qaa rfl) rfl rfl Kp.true (Y.extract rfl rfl rfl) ?_
  refine Jp.alloc 6 6 rfl (qaa rfl) rfl rfl rfl zeroValue60 fun b6=>⟨Kp.true,?_⟩
  refine Jp.alloc 7 7 rfl (qaa rfl) rfl rfl rfl zeroValue46 fun b7=>⟨Kp.true,?_⟩
  refine Jp.qai 6 rfl (qaa rfl) rfl rfl sizeOf60 rfl rfl (by first | rfl | assumption) (by first | rfl | assumption) rfl (by first | rfl | assumption) (fun k _ _=>qas k) Kp.true ?_
  refine Jp.qai 7 rfl (qaa rfl) rfl rfl sizeOf46 rfl rfl (by first | rfl | assumption) (by first | rfl | assumption) rfl (by first | rfl | assumption) (fun k _ _=>qas k) Kp.true ?_
  refine Jp.qae hK2 ?_
  refine Cd.seq fun K3 hK3=>?_
  refine Cd.seq fun K4 hK4=>?_
  refine Cd.qac [(0,false),(1,false),(2,false)] rfl rfl ?_
  refine Jp.y 15 rfl (qaa rfl) rfl rfl Kp.true (by exact Y.qad rfl rfl underlying46 rfl sizeOf3 (by decide) (show _ + 0 = _ from rfl)) ?_
  refine Jp.y 16 rfl (qaa rfl) rfl rfl Kp.true (by exact Y.qau 7 rfl isAgg3 rfl rfl rfl) ?_
  refine Jp.y 17 rfl (qaa rfl) rfl rfl Kp.true (Y.neq rfl rfl rfl) ?_
  refine Jp.qae hK4 ?_
  refine Cd.qar rfl (fun ga=>?_) (fun ga=>?_)
  ·exact absurd ga (by simp)
  ·skip
   refine Cd.qbu hK3 ?_
   refine Cd.seq fun K5 hK5=>?_
   refine Cd.qac [(0,false),(1,false),(2,false),(3,false),(4,false),(5,false),(6,false),(7,false)] rfl rfl ?_
   refine Jp.y 20 rfl (qaa rfl) rfl rfl Kp.true (Y.move rfl rfl) ?_
   refine Jp.y 21 rfl (qaa rfl) rfl rfl Kp.true (by exact Y.qah 6 rfl isAgg60 sizeOf60 rfl rfl (by first | rfl | assumption)) ?_
   refine Jp.y 22 rfl (qaa rfl) rfl rfl Kp.true (by exact Y.qah 3 rfl isAgg27 sizeOf27 rfl rfl (by first | rfl | assumption)) ?_
   refine Jp.call [0] [0] hI 23 rfl (qaa rfl) rfl rfl (Runs.fn rfl call28 rfl) (by decide) (by decide) rfl trivial ?_
   rintro v2 ρ2 L2 ⟨rfl,rfl,rfl⟩
   refine ⟨rfl,fun hle2=>⟨Kp.true,?_⟩⟩
   refine Jp.y 24 rfl (qaa rfl) rfl rfl Kp.true (Y.extract rfl rfl rfl) ?_
   refine Jp.y 25 rfl (qaa rfl) rfl rfl Kp.true (Y.extract rfl rfl rfl) ?_
   refine Jp.qai 4 rfl (qaa rfl) rfl rfl sizeOf27 rfl rfl (by first | rfl | assumption) (by first | rfl | assumption) rfl (by first | rfl | assumption) (fun k _ _=>qas k) Kp.true ?_
   refine Jp.qai 5 rfl (qaa rfl) rfl rfl sizeOf46 rfl rfl (by first | rfl | assumption) (by first | rfl | assumption) rfl (by first | rfl | assumption) (fun k _ _=>qas k) Kp.true ?_
   refine Jp.qae hK5 ?_
   refine Cd.ret [(0,_)] rfl (by exact resCC 4 5 rfl rfl rfl isAgg27 sizeOf27 isAgg46 sizeOf46 rfl (by first | rfl | assumption) rfl (by first | rfl | assumption)) ⟨rfl,trivial⟩ ⟨rfl,rfl,rfl⟩
 ·rw [if_neg hk] at hD
  subst hD
  have hEl : (EvP.mk kd ead wy).cells.length = 3:=rfl
  have hEo : (EvP.mk kd ead wy).cells.all one = true:=by unfold EvP.cells; simp [one]
  refine Spec.of 26 Tryz.func11 rfl Tryz.ntmps11 [(0,_),(1,_)] rfl rfl ?_
  intro cx ρ hr' h0
  have hsl:=StP.len hs
  have hso:=StP.one s
  refine Cd.seq fun K6 hK6=>?_
  refine Cd.qac [(0,false),(1,false),(2,false)] rfl rfl ?_
  refine Jp.box 3 3 rfl (qaa rfl) rfl rfl rfl rfl fun b3=>⟨Kp.true,?_⟩
  refine Jp.alloc 4 4 rfl (qaa rfl) rfl rfl rfl zeroValue27 fun b4=>⟨Kp.true,?_⟩
  refine Jp.alloc 5 5 rfl (qaa rfl) rfl rfl rfl zeroValue46 fun b5=>⟨Kp.true,?_⟩
  refine Jp.qae hK6 ?_
  refine Cd.seq fun K7 hK7=>?_
  refine Cd.qac [(0,false),(1,false),(2,false),(3,false),(4,false),(5,false),(6,false),(7,false),(8,false),(9,false),(10,false)] rfl rfl ?_
  refine Jp.y 9 rfl (qaa rfl) rfl rfl Kp.true (Y.move rfl rfl) ?_
  refine Jp.y 10 rfl (qaa rfl) rfl rfl Kp.true (by exact Y.qad rfl rfl underlying27 rfl sizeOf24 (by decide) (show _ + 32 = _ from rfl)) ?_
  refine Jp.y 11 rfl (qaa rfl) rfl rfl Kp.true (by exact Y.qbg 3 rfl isAgg24 rfl rfl (HasC.pt (StP.cPc hs))) ?_
  refine Jp.call [0] [0] hF 12 rfl (qaa rfl) rfl rfl (Runs.fn rfl call18 rfl) (by decide) (by decide) rfl trivial ?_
  rintro v1 ρ1 L1 ⟨rfl,rfl,rfl⟩
  refine ⟨rfl,fun hle1=>⟨Kp.true,?_⟩⟩
  refine Jp.y 8 rfl (qaa rfl) rfl rfl Kp.true (Y.move rfl rfl) ?_
  refine Jp.y 13 rfl (qaa rfl) rfl rfl Kp.true (Y.extract rfl rfl rfl) ?_
  refine Jp.y 14 rfl (qaa rfl) rfl rfl Kp.true (Y.extract rfl rfl rfl) ?_
  refine Jp.alloc 6 6 rfl (qaa rfl) rfl rfl rfl zeroValue60 fun b6=>⟨Kp.true,?_⟩
  refine Jp.alloc 7 7 rfl (qaa rfl) rfl rfl rfl zeroValue46 fun b7=>⟨Kp.true,?_⟩
  refine Jp.qai 6 rfl (qaa rfl) rfl rfl sizeOf60 rfl rfl (by first | rfl | assumption) (by first | rfl | assumption) rfl (by first | rfl | assumption) (fun k _ _=>qas k) Kp.true ?_
  refine Jp.qai 7 rfl (qaa rfl) rfl rfl sizeOf46 rfl rfl (by first | rfl | assumption) (by first | rfl | assumption) rfl (by first | rfl | assumption) (fun k _ _=>qas k) Kp.true ?_
  refine Jp.qae hK7 ?_
  refine Cd.seq fun K8 hK8=>?_
  refine Cd.seq fun K9 hK9=>?_
  refine Cd.qac [(0,false),(1,false),(2,false)] rfl rfl ?_
  refine Jp.y 15 rfl (qaa rfl) rfl rfl Kp.true (by exact Y.qad rfl rfl underlying46 rfl sizeOf3 (by decide) (show _ + 0 = _ from rfl)) ?_
  refine Jp.y 16 rfl (qaa rfl) rfl rfl Kp.true (by exact Y.qau 7 rfl isAgg3 rfl rfl rfl) ?_
  refine Jp.y 17 rfl (qaa rfl) rfl rfl Kp.true (Y.neq rfl rfl rfl) ?_
  refine Jp.qae hK9 ?_
  refine Cd.qar rfl (fun ga=>?_) (fun ga=>?_)
  ·skip
   refine Cd.seq fun K10 hK10=>?_
   refine Cd.drawn [(3,_),(7,_)] ⟨rfl,rfl,trivial⟩ [(0,true),(1,true),(2,false),(3,false)] follows (by kernel_rfl) (fun hrl=>?_)
   refine Jp.q 18 rfl (qaa rfl) rfl rfl (by exact Y.qah 3 rfl isAgg27 sizeOf27 rfl rfl (by first | rfl | assumption)) ?_
   refine Jp.q 19 rfl (qaa rfl) rfl rfl (by exact Y.qah 7 rfl isAgg46 sizeOf46 rfl rfl (by first | rfl | assumption)) ?_
   refine Jp.qai 4 rfl (qaa rfl) rfl rfl sizeOf27 rfl rfl (by first | rfl | assumption) (by first | rfl | assumption) rfl (by first | rfl | assumption) (fun k _ _=>qas k) (Kp.st ⟨rfl,rfl,trivial⟩) ?_
   refine Jp.qai 5 rfl (qaa rfl) rfl rfl sizeOf46 rfl rfl (by first | rfl | assumption) (by first | rfl | assumption) rfl (by first | rfl | assumption) (fun k _ _=>qas k) Kp.last ?_
   refine Jp.qae hK10 ?_
   refine Cd.ret [(0,_)] rfl (by exact resCC 4 5 rfl rfl rfl isAgg27 sizeOf27 isAgg46 sizeOf46 rfl (by first | rfl | assumption) rfl (by first | rfl | assumption)) ⟨rfl,trivial⟩ ⟨rfl,rfl,rfl⟩
  ·exact absurd ga (by simp; omega)
end Go.Proofs.YtnfkalpgidiafaaGreat

namespace Go.Proofs.YtnfkalpgidiafaaGreat
open _root_.Go.Proofs.Tryz
open Go
def qcr (X : qal) (r : Nat) : qal:=if r = 0 then [0,0,0,0] else (X.drop (4 * r)).take 4
theorem qcg {X : qal} (hX : X.length = 128) {r : Nat} (hr : r < 32) : (qcr X r).length = 4:=by
 unfold qcr
 split
 ·rfl
 ·rw [List.length_take,List.length_drop]; omega
theorem labOf_get {X : qal} {r : Nat} (h0 : r ≠ 0) (p : Nat) (v : Value) (h : (qaf (qcr X r))[p]? = some v) : (qaf X)[r * 4 + p]? = some v:=by
 rw [qcr,if_neg h0,qaf,List.getElem?_map] at h
 rw [qaf,List.getElem?_map,Nat.mul_comm r 4]
 by_cases hp : p < 4
 ·rw [List.getElem?_take_of_lt hp,List.getElem?_drop] at h; exact h
 ·rw [List.getElem?_eq_none (by rw [List.length_take]; omega)] at h; cases h
theorem qgw (b : Nat) (X : qal) (r : Nat) (hX : X.length = 128) (hr : r < 32) : Spec Tryz.prog 39 #[.pointer (some ⟨b,0,none⟩),.int .i64 r] (fun _=>True) [(0,Pt b (.cells (qaf X).toArray 42))]
  (fun ρ ρ' v L=>ρ' = ρ ∧ v = .agg (qaf (qcr X r)).toArray ∧ L = [(0,Pt b (.cells (qaf X).toArray 42))]):=by
 refine Spec.of 17 Tryz.func39 rfl Tryz.ntmps39 [(0,_),(1,_)] rfl rfl ?_
 intro cx ρ hr' h0
 have hl : (qaf (qcr X r)).length = 4:=by rw [qaz,qcg hX hr]
 have ho:=qbe (qcr X r)
 refine Cd.seq fun K1 hK1=>?_
 refine Cd.qac [(0,false)] rfl rfl ?_
 refine Jp.alloc 4 4 rfl (qaa rfl) rfl rfl rfl zeroValue40 fun b4=>⟨Kp.true,?_⟩
 refine Jp.qae hK1 ?_
 refine Cd.seq fun K2 hK2=>?_
 refine Cd.seq fun K3 hK3=>?_
 refine Cd.qac [(0,false),(1,false),(2,false),(3,false),(4,false),(5,false)] rfl rfl ?_
 refine Jp.y 5 rfl (qaa rfl) rfl rfl Kp.true (Y.move rfl rfl) ?_
 refine Jp.y 6 rfl (qaa rfl) rfl rfl Kp.true (Y.leq rfl rfl rfl) ?_
 by_cases hz : r = 0
 ·skip
  refine Jp.y 7 rfl (qaa rfl) rfl rfl Kp.true (Y.move rfl rfl) ?_
  refine Jp.slot 7 rfl (show _ = Value.bool true from congrArg Value.bool (by simp; omega)) ?_
  refine Jp.qaq 8 rfl (qab rfl rfl rfl rfl) rfl rfl Kp.true ?_
  refine Jp.qaq 9 rfl (qab rfl rfl rfl rfl) rfl rfl Kp.true ?_
  refine Jp.y 10 rfl (qaa rfl) rfl rfl Kp.true (Y.qav rfl rfl rfl) ?_
  refine Jp.qae hK3 ?_
  refine Cd.qcw rfl ?_
  refine Cd.seq fun K4 hK4=>?_
  refine Cd.qac [(0,false),(1,false)] rfl rfl ?_
  refine Jp.y 11 rfl (qaa rfl) rfl rfl Kp.true (Y.array [] [_,_,_,_] rfl rfl underlying40 sizeOf5 zeroValue40 rfl) ?_
  refine Jp.qai 4 rfl (qaa rfl) rfl rfl sizeOf40 rfl rfl (by first | rfl | assumption) (by first | rfl | assumption) rfl (by first | rfl | assumption) (fun k _ _=>qas k) Kp.true ?_
  refine Jp.qae hK4 ?_
  refine Cd.ret [(0,_)] rfl (by exact qfb 4 rfl rfl isAgg40 sizeOf40 rfl (by first | rfl | assumption)) ⟨rfl,trivial⟩ ⟨rfl,by rw [hz]; rfl,rfl⟩
 ·skip
  refine Jp.y 7 rfl (qaa rfl) rfl rfl Kp.true (Y.move rfl rfl) ?_
  refine Jp.slot 7 rfl (show _ = Value.bool false from congrArg Value.bool (by simp; omega)) ?_
  refine Jp.y 8 rfl (qab rfl rfl rfl rfl) rfl rfl Kp.true (Y.move rfl rfl) ?_
  refine Jp.y 9 rfl (qab rfl rfl rfl rfl) rfl rfl Kp.true (Y.geq rfl rfl rfl) ?_
  refine Jp.y 10 rfl (qaa rfl) rfl rfl Kp.true (Y.qay rfl rfl rfl) ?_
  refine Jp.slot 10 rfl (show _ = Value.bool false from congrArg Value.bool (by simp; omega)) ?_
  refine Jp.qae hK3 ?_
  refine Cd.qbz rfl ?_
  refine Cd.qbu hK2 ?_
  refine Cd.seq fun K5 hK5=>?_
  refine Cd.qac [(0,false),(1,false),(2,false),(3,false),(4,false),(5,false)] rfl rfl ?_
  refine Jp.y 12 rfl (qaa rfl) rfl rfl Kp.true (Y.move rfl rfl) ?_
  refine Jp.y 13 rfl (qaa rfl) rfl rfl Kp.true (Y.move rfl rfl) ?_
  refine Jp.y 14 rfl (qaa rfl) rfl rfl Kp.true (Y.qan rfl rfl) ?_
  refine Jp.y 15 rfl (qaa rfl) rfl rfl Kp.true (Y.qam (q:=r * 4) rfl rfl rfl underlying42 sizeOf40 (by omega) (by omega) (by omega)) ?_
  refine Jp.y 16 rfl (qaa rfl) rfl rfl Kp.true (Y.qic 0 (qaf (qcr X r)) rfl isAgg40 sizeOf40 rfl rfl hl (fun p v h=>by have:=labOf_get hz p v h; simpa using this)) ?_
  refine Jp.qai 4 rfl (qaa rfl) rfl rfl sizeOf40 rfl rfl (by first | rfl | assumption) (by first | rfl | assumption) rfl (by first | rfl | assumption) (fun k _ _=>qas k) Kp.true ?_
  refine Jp.qae hK5 ?_
  refine Cd.ret [(0,_)] rfl (by exact qfb 4 rfl rfl isAgg40 sizeOf40 rfl (by first | rfl | assumption)) ⟨rfl,trivial⟩ ⟨rfl,rfl,rfl⟩
def sinkP (op : Nat) : Nat:=if op = 4 then 1 else if qep op = true then 2 else if storesP op = true then 3 else 0
theorem sink_spec (op : Nat) : Spec Tryz.prog 37 #[.int .i64 op] (fun _=>True) [] (fun ρ ρ' v L=>ρ' = ρ ∧ v = .int .i64 (sinkP op : Int) ∧ L = []):=by
 refine Spec.of 12 Tryz.func37 rfl Tryz.ntmps37 [(0,_)] rfl rfl ?_
 intro cx ρ hr h0
 refine Cd.seq fun K6 hK6=>?_
 refine Cd.qac [(0,false)] rfl rfl ?_
 refine Jp.y 2 rfl (qaa rfl) rfl rfl Kp.true (Y.assign rfl rfl) ?_
 refine Jp.qae hK6 ?_
 refine Cd.seq fun K7 hK7=>?_
 refine Cd.block ?_
 refine Cd.seq fun K8 hK8=>?_
 refine Cd.qac [(0,false),(1,false),(2,false)] rfl rfl ?_
 refine Jp.y 4 rfl (qaa rfl) rfl rfl Kp.true (Y.move rfl rfl) ?_
 refine Jp.y 5 rfl (qaa rfl) rfl rfl Kp.true (Y.eql rfl rfl rfl) ?_
 refine Jp.y 3 rfl (qaa rfl) rfl rfl Kp.true (Y.assign rfl rfl) ?_
 refine Jp.qae hK8 ?_
 refine Cd.qar rfl (fun ga=>?_) (fun ga=>?_)
 ·have h : op = 4:=by simp at ga; omega
  refine Cd.seq fun K9 hK9=>?_
  refine Cd.qac [(0,false)] rfl rfl ?_
  refine Jp.y 2 rfl (qaa rfl) rfl rfl Kp.true (Y.assign rfl rfl) ?_
  refine Jp.qae hK9 ?_
  refine Cd.ret [] rfl (qbd rfl rfl) trivial ⟨rfl,by rw [sinkP,if_pos h]; rfl,rfl⟩
 ·have h : ¬ op = 4:=by simp at ga; omega
  refine Cd.seq fun K10 hK10=>?_
  refine Cd.qac [(0,false),(1,false),(2,false)] rfl rfl ?_
  refine Jp.y 7 rfl (qaa rfl) rfl rfl Kp.true (Y.move rfl rfl) ?_
  refine Jp.call [] [] (qeo op) 8 rfl (qaa rfl) rfl rfl (Runs.fn rfl call46 rfl) (by decide) (by decide) rfl trivial ?_
  rintro v1 ρ1 L1 ⟨rfl,rfl,rfl⟩
  refine ⟨rfl,fun hle1=>⟨Kp.true,?_⟩⟩
  refine Jp.y 6 rfl (qaa rfl) rfl rfl Kp.true (Y.assign rfl rfl) ?_
  refine Jp.qae hK10 ?_
  refine Cd.qar rfl (fun gb=>?_) (fun gb=>?_)
  ·skip
   refine Cd.seq fun K11 hK11=>?_
   refine Cd.qac [(0,false)] rfl rfl ?_
   refine Jp.y 2 rfl (qaa rfl) rfl rfl Kp.true (Y.assign rfl rfl) ?_
   refine Jp.qae hK11 ?_
   refine Cd.ret [] rfl (qbd rfl rfl) trivial ⟨rfl,by rw [sinkP,if_neg h,if_pos gb]; rfl,rfl⟩
  ·skip
   refine Cd.seq fun K12 hK12=>?_
   refine Cd.qac [(0,false),(1,false),(2,false)] rfl rfl ?_
   refine Jp.y 10 rfl (qaa rfl) rfl rfl Kp.true (Y.move rfl rfl) ?_
   refine Jp.call [] [] (qgt op) 11 rfl (qaa rfl) rfl rfl (Runs.fn rfl call20 rfl) (by decide) (by decide) rfl trivial ?_
   rintro v2 ρ2 L2 ⟨rfl,rfl,rfl⟩
   refine ⟨rfl,fun hle2=>⟨Kp.true,?_⟩⟩
   refine Jp.y 9 rfl (qaa rfl) rfl rfl Kp.true (Y.assign rfl rfl) ?_
   refine Jp.qae hK12 ?_
   refine Cd.qar rfl (fun gc=>?_) (fun gc=>?_)
   ·skip
    refine Cd.seq fun K13 hK13=>?_
    refine Cd.qac [(0,false)] rfl rfl ?_
    refine Jp.y 2 rfl (qaa rfl) rfl rfl Kp.true (Y.assign rfl rfl) ?_
    refine Jp.qae hK13 ?_
    refine Cd.ret [] rfl (qbd rfl rfl) trivial ⟨rfl,by rw [sinkP,if_neg h,if_neg (by rw [gb]; decide),if_pos gc]; rfl,rfl⟩
   ·skip
    refine Cd.over rfl hK7 ?_
    refine Cd.seq fun K14 hK14=>?_
    refine Cd.qac [(0,false)] rfl rfl ?_
    refine Jp.y 2 rfl (qaa rfl) rfl rfl Kp.true (Y.assign rfl rfl) ?_
    refine Jp.qae hK14 ?_
    refine Cd.ret [] rfl (qbd rfl rfl) trivial ⟨rfl,by rw [sinkP,if_neg h,if_neg (by rw [gb]; decide),if_neg (by rw [gc]; decide)]; rfl,rfl⟩
end Go.Proofs.YtnfkalpgidiafaaGreat

namespace Go.Proofs.YtnfkalpgidiafaaGreat
open _root_.Go.Proofs.Tryz
open Go
def qfc (bm bs : Nat) (s : StP) (bx : Nat) (pp : Bool) (so si : Value) : List Value:=[.pointer (some ⟨bm,0,none⟩),.pointer (some ⟨bs,0,none⟩)] ++ (s.cells ++ [.pointer (some ⟨bx,0,none⟩),.bool pp,so,si])
theorem machC_m {bm bs bx : Nat} {s : StP} {pp : Bool} {so si : Value} : (qfc bm bs s bx pp so si).toArray[0]? = some (.pointer (some ⟨bm,0,none⟩)):=by simp [qfc]
theorem machC_sh {bm bs bx : Nat} {s : StP} {pp : Bool} {so si : Value} : (qfc bm bs s bx pp so si).toArray[1]? = some (.pointer (some ⟨bs,0,none⟩)):=by simp [qfc]
theorem machC_s {bm bs bx : Nat} {s : StP} {pp : Bool} {so si : Value} (hs : StOk s) (p : Nat) (v : Value) (h : s.cells[p]? = some v) : (qfc bm bs s bx pp so si)[2 + p]? = some v:=by
 have hp : p < s.cells.length:=(List.getElem?_eq_some_iff.1 h).1
 rw [qfc,List.getElem?_append_right (by simp)]
 rw [List.getElem?_append_left (by simpa using hp)]
 simpa using h
theorem machC_x {bm bs bx : Nat} {s : StP} {pp : Bool} {so si : Value} (hs : StOk s) : (qfc bm bs s bx pp so si).toArray[36]? = some (.pointer (some ⟨bx,0,none⟩)):=by
 have:=StP.len hs
 simp [qfc,List.getElem?_append,this]
theorem machC_p {bm bs bx : Nat} {s : StP} {pp : Bool} {so si : Value} (hs : StOk s) : (qfc bm bs s bx pp so si).toArray[37]? = some (.bool pp):=by
 have:=StP.len hs
 simp [qfc,List.getElem?_append,this]
def qgj : qal:=[0,0,0,0]
def ptrT (X : qal) (pp : Bool) (r : Nat) : qal:=if pp = true then List.replicate 4 (allT (qcr X r)) else qgj
theorem ptrT_len (X : qal) (pp : Bool) (r : Nat) : (ptrT X pp r).length = 4:=by
 unfold ptrT
 split <;> rfl
theorem pointer_spec (bc bm bs bx : Nat) (s : StP) (X : qal) (pp : Bool) (so si : Value) (i : InsP) (hs : StOk s) (hi : InsOk i) (hX : X.length = 128) :
  Spec Tryz.prog 45 #[.pointer (some ⟨bc,0,none⟩),.agg i.cells.toArray] (fun _=>True)
   [(0,Pt bc (.cells (qfc bm bs s bx pp so si).toArray 74)),(1,Pt bx (.cells (qaf X).toArray 42))]
  (fun ρ ρ' v L=>ρ' = ρ ∧ v = .agg (qaf (ptrT X pp i.r1)).toArray ∧ L = [(0,Pt bc (.cells (qfc bm bs s bx pp so si).toArray 74)),(1,Pt bx (.cells (qaf X).toArray 42))]):=by
 obtain ⟨op,rd,r1,r2,imm⟩:=i
 refine Spec.of 21 Tryz.func45 rfl Tryz.ntmps45 [(0,_),(1,_)] rfl rfl ?_
 intro cx ρ hr' h0
 have hL:=qcg hX hi.r1
 refine Cd.seq fun K1 hK1=>?_
 refine Cd.qac [(0,false),(1,false)] rfl rfl ?_
 refine Jp.box 3 3 rfl (qaa rfl) rfl rfl rfl rfl fun b3=>⟨Kp.true,?_⟩
 refine Jp.alloc 4 4 rfl (qaa rfl) rfl rfl rfl zeroValue40 fun b4=>⟨Kp.true,?_⟩
 refine Jp.qae hK1 ?_
 refine Cd.seq fun K2 hK2=>?_
 refine Cd.seq fun K3 hK3=>?_
 refine Cd.qac [(0,false),(1,false),(2,false),(3,false),(4,false),(5,false)] rfl rfl ?_
 refine Jp.y 5 rfl (qaa rfl) rfl rfl Kp.true (Y.move rfl rfl) ?_
 refine Jp.y 6 rfl (qaa rfl) rfl rfl Kp.true (Y.qan rfl rfl) ?_
 refine Jp.y 7 rfl (qaa rfl) rfl rfl Kp.true (by exact Y.qad rfl rfl underlying74 rfl sizeOf31 (by decide) (show _ + 37 = _ from rfl)) ?_
 refine Jp.y 8 rfl (qaa rfl) rfl rfl Kp.true (by exact Y.qad rfl rfl underlying31 rfl sizeOf4 (by decide) (show _ + 0 = _ from rfl)) ?_
 refine Jp.y 9 rfl (qaa rfl) rfl rfl Kp.true (by exact Y.qbg 0 rfl isAgg4 rfl rfl (HasC.pt (machC_p hs))) ?_
 refine Jp.y 10 rfl (qaa rfl) rfl rfl Kp.true (Y.not rfl rfl) ?_
 refine Jp.qae hK3 ?_
 refine Cd.qar rfl (fun ga=>?_) (fun ga=>?_)
 ·have hp : pp = false:=by simpa using ga
  refine Cd.seq fun K4 hK4=>?_
  refine Cd.qac [(0,false),(1,false)] rfl rfl ?_
  refine Jp.y 11 rfl (qaa rfl) rfl rfl Kp.true (Y.array [] [_,_,_,_] rfl rfl underlying40 sizeOf5 zeroValue40 rfl) ?_
  refine Jp.qai 4 rfl (qaa rfl) rfl rfl sizeOf40 rfl rfl (by first | rfl | assumption) (by first | rfl | assumption) rfl (by first | rfl | assumption) (fun k _ _=>qas k) Kp.true ?_
  refine Jp.qae hK4 ?_
  refine Cd.ret [(0,_),(1,_)] rfl (by exact qfb 4 rfl rfl isAgg40 sizeOf40 rfl (by first | rfl | assumption)) ⟨rfl,rfl,trivial⟩ ⟨rfl,by rw [hp]; rfl,rfl⟩
 ·have hp : pp = true:=by simpa using ga
  refine Cd.qbu hK2 ?_
  refine Cd.seq fun K5 hK5=>?_
  refine Cd.drawn [(0,_),(3,_)] ⟨rfl,rfl,trivial⟩ [(0,true),(1,true),(2,true),(3,true),(4,true),(5,true),(6,false),(7,false),(8,false),(9,false)] follows (by kernel_rfl) (fun hrl=>?_)
  refine Jp.q 12 rfl (qaa rfl) rfl rfl (Y.move rfl rfl) ?_
  refine Jp.q 13 rfl (qaa rfl) rfl rfl (Y.qan rfl rfl) ?_
  refine Jp.q 14 rfl (qaa rfl) rfl rfl (by exact Y.qad rfl rfl underlying74 rfl sizeOf72 (by decide) (show _ + 36 = _ from rfl)) ?_
  refine Jp.q 15 rfl (qaa rfl) rfl rfl (by exact Y.qbg 0 rfl isAgg72 rfl rfl (HasC.pt (machC_x hs))) ?_
  refine Jp.q 16 rfl (qaa rfl) rfl rfl (by exact Y.qad rfl rfl underlying60 rfl sizeOf3 (by decide) (show _ + 2 = _ from rfl)) ?_
  refine Jp.q 17 rfl (qaa rfl) rfl rfl (by exact Y.qau 3 rfl isAgg3 rfl rfl rfl) ?_
  refine Jp.call [1] [1] (qgw bx X r1 hX hi.r1) 18 rfl (qaa rfl) rfl rfl (Runs.fn rfl call39 rfl) (by decide) (by decide) rfl trivial ?_
  rintro v1 ρ1 L1 ⟨rfl,rfl,rfl⟩
  refine ⟨rfl,fun hle1=>⟨(Kp.st ⟨rfl,rfl,trivial⟩),?_⟩⟩
  refine Jp.call [] [] (qcu (qcr X r1) hL) 19 rfl (qaa rfl) rfl rfl (Runs.fn rfl call38 rfl) (by decide) (by decide) rfl trivial ?_
  rintro v2 ρ2 L2 ⟨rfl,rfl,rfl⟩
  refine ⟨rfl,fun hle2=>⟨(Kp.st ⟨rfl,rfl,trivial⟩),?_⟩⟩
  refine Jp.call [] [] (qfx (allT (qcr X r1))) 20 rfl (qaa rfl) rfl rfl (Runs.fn rfl call79 rfl) (by decide) (by decide) rfl trivial ?_
  rintro v3 ρ3 L3 ⟨rfl,rfl,rfl⟩
  refine ⟨rfl,fun hle3=>⟨(Kp.st ⟨rfl,rfl,trivial⟩),?_⟩⟩
  refine Jp.qai 4 rfl (qaa rfl) rfl rfl sizeOf40 rfl rfl (by first | rfl | assumption) (by first | rfl | assumption) rfl (by first | rfl | assumption) (fun k _ _=>qas k) Kp.last ?_
  refine Jp.qae hK5 ?_
  refine Cd.ret [(0,_),(1,_)] rfl (by exact qfb 4 rfl rfl isAgg40 sizeOf40 rfl (by first | rfl | assumption)) ⟨rfl,rfl,trivial⟩ ⟨rfl,by rw [hp]; rfl,rfl⟩
end Go.Proofs.YtnfkalpgidiafaaGreat

namespace Go.Proofs.YtnfkalpgidiafaaGreat
open Go
structure ShG where
 budget : Nat
 pages : List (Nat × Pg)
def qek (b : qal) : Nat:=b.countP (· != 0)
structure ShPgOk (x : Nat × Pg) : Prop where
 al : x.1 % 256 = 0
 lt : x.1 < 4294967296
 len : x.2.b.length = 256
 cnt : x.2.perm = qek x.2.b
 pos : 0 < x.2.perm
structure ShOk (l : List (Nat × Pg)) : Prop where
 rising : Rising l
 page : ∀ x ∈ l,ShPgOk x
def labL (l : List (Nat × Pg)) (a : Nat) : UInt8:=match qao l (qap a) with
 | some p=>p.b.getD (a % 256) 0
 | none=>0
def zeroB : qal:=List.replicate 256 0
def remPg (l : List (Nat × Pg)) (k : Nat) : List (Nat × Pg):=l.filter fun x=>x.1 != k
def qdh (l : List (Nat × Pg)) (k : Nat) (b : qal) : List (Nat × Pg):=match qao l k with
 | some _=>if qek b = 0 then remPg l k else qbt l k ⟨b,qek b⟩
 | none=>if qek b = 0 then l else qfd k ⟨b,qek b⟩ l
def bOf (l : List (Nat × Pg)) (k : Nat) : qal:=match qao l k with
 | some p=>p.b
 | none=>zeroB
def oneP (l : List (Nat × Pg)) (a : Nat) (v : UInt8) : List (Nat × Pg):=qdh l (qap a) ((bOf l (qap a)).set (a % 256) v)
def layP (l : List (Nat × Pg)) : Nat → qal → List (Nat × Pg)
 | _,[]=>l
 | a,v :: bs=>layP (oneP l a v) (a + 1) bs
theorem rising_ext : ∀ {l m : List (Nat × Pg)},Rising l → Rising m → (∀ k,qao l k = qao m k) → l = m
 | [],[],_,_,_=>rfl
 | [],(k,p) :: m,_,_,h=>by have:=h k; simp [qao] at this
 | (k,p) :: l,[],_,_,h=>by have:=h k; simp [qao] at this
 | (k,p) :: l,(j,q) :: m,hl,hm,h=>by
  obtain ⟨h1,h2⟩:=List.pairwise_cons.1 hl
  obtain ⟨h3,h4⟩:=List.pairwise_cons.1 hm
  have hkj : k = j:=by
   have a1:=h k
   have a2:=h j
   simp only [qao,if_true] at a1 a2
   by_cases e : k = j
   ·exact e
   ·rw [if_neg (Ne.symm e)] at a1
    rw [if_neg e] at a2
    have b1:=h3 _ (qbc a1.symm)
    have b2:=h1 _ (qbc a2)
    have b1 : j < k:=b1
    have b2 : k < j:=b2
    omega
  subst hkj
  have hp : p = q:=by have:=h k; simpa [qao] using this
  subst hp
  rw [rising_ext h2 h4 fun x=>?_]
  have:=h x
  simp only [qao] at this
  by_cases e : k = x
  ·subst e
   have n1 : qao l k = none:=qbm.2 fun hm=>by
    obtain ⟨y,hy,e⟩:=List.mem_map.1 hm
    have:=h1 y hy; have : k < y.1:=this; omega
   have n2 : qao m k = none:=qbm.2 fun hm=>by
    obtain ⟨y,hy,e⟩:=List.mem_map.1 hm
    have:=h3 y hy; have : k < y.1:=this; omega
   rw [n1,n2]
  ·rwa [if_neg e,if_neg e] at this
theorem ShOk.get {l : List (Nat × Pg)} (h : ShOk l) {k : Nat} {p : Pg} (e : qao l k = some p) : ShPgOk (k,p):=h.page _ (qbc e)
theorem qhx {b : qal} : qek b = 0 ↔ ∀ x ∈ b,x = 0:=by
 rw [qek,List.countP_eq_zero]; simp
theorem cntB_len (b : qal) : qek b ≤ b.length:=List.countP_le_length
theorem zeroB_cnt : qek zeroB = 0:=by
 rw [qhx]; intro x hx; exact (List.mem_replicate.1 hx).2
theorem qda : zeroB.length = 256:=List.length_replicate
theorem qhb (j : Nat) : zeroB.getD j 0 = 0:=by
 rw [List.getD_eq_getElem?_getD]
 cases h : zeroB[j]? with
 | none=>rfl
 | some x=>exact (List.mem_replicate.1 (List.mem_of_getElem? h)).2
theorem bytes_ext {b c : qal} (hb : b.length = 256) (hc : c.length = 256) (h : ∀ j,j < 256 → b.getD j 0 = c.getD j 0) : b = c:=by
 apply List.ext_getElem (by omega)
 intro j h1 h2
 have:=h j (by omega)
 simpa [List.getD_eq_getElem?_getD,h1,h2] using this
theorem getPg_rem (l : List (Nat × Pg)) (k j : Nat) : qao (remPg l k) j = if j = k then none else qao l j:=by
 unfold remPg
 rw [getPg_filter l (fun y=>y != k) j]
 by_cases h : j = k <;> simp [h]
theorem getPg_ins {l : List (Nat × Pg)} (hr : Rising l) {k : Nat} (p : Pg) (hk : k ∉ l.map (·.1)) (j : Nat) : qao (qfd k p l) j = if j = k then some p else qao l j:=by
 have hr2:=hr.ins p hk
 by_cases h : j = k
 ·subst h
  rw [if_pos rfl]
  exact qcd hr2.nodup ((qby _ _ _).mem_iff.2 (List.mem_cons_self ..))
 ·rw [if_neg h]
  cases e : qao l j with
  | none =>
   rw [qbm] at e ⊢
   intro hm
   have:=((qby k p l).map (·.1)).mem_iff.1 hm
   rw [List.map_cons,List.mem_cons] at this
   exact this.elim h e
  | some q=>exact qcd hr2.nodup ((qby _ _ _).mem_iff.2 (List.mem_cons_of_mem _ (qbc e)))
theorem bOf_len {l : List (Nat × Pg)} (h : ShOk l) (k : Nat) : (bOf l k).length = 256:=by
 unfold bOf
 cases e : qao l k with
 | none=>exact qda
 | some p=>exact (h.get e).len
theorem qgg (l : List (Nat × Pg)) (a : Nat) : labL l a = (bOf l (qap a)).getD (a % 256) 0:=by
 unfold labL bOf
 cases e : qao l (qap a) with
 | none =>
  show (0 : UInt8) = zeroB.getD (a % 256) 0
  exact (qhb _).symm
 | some p=>rfl
theorem qer {l : List (Nat × Pg)} (h : ShOk l) (k : Nat) (b : qal) (j : Nat) : qao (qdh l k b) j = if j = k then (if qek b = 0 then none else some ⟨b,qek b⟩) else qao l j:=by
 unfold qdh
 cases e : qao l k with
 | none =>
  dsimp only
  split
  ·by_cases hj : j = k
   ·subst hj; rw [if_pos rfl,e]
   ·rw [if_neg hj]
  ·exact getPg_ins h.rising _ (qbm.1 e) j
 | some p =>
  dsimp only
  split
  ·exact getPg_rem l k j
  ·rw [qhs,e]
   rfl
theorem qhi {l : List (Nat × Pg)} (h : ShOk l) {k : Nat} {b : qal} (hk : k % 256 = 0) (hk2 : k < 4294967296) (hb : b.length = 256) : ShOk (qdh l k b):=by
 have hpg : ∀ x ∈ qdh l k b,ShPgOk x:=by
  intro x hx
  have hr : Rising (qdh l k b):=by
   unfold qdh
   split
   ·split
    ·exact h.rising.sublist List.filter_sublist
    ·exact h.rising.set _ _
   ·rename_i e
    split
    ·exact h.rising
    ·exact h.rising.ins _ (qbm.1 e)
  have hg:=qcd hr.nodup (k:=x.1) (p:=x.2) hx
  rw [qer h] at hg
  split at hg
  ·rename_i e
   split at hg
   ·cases hg
   ·injection hg with hg
    obtain ⟨x1,x2⟩:=x
    dsimp only at e hg
    subst e
    rw [← hg]
    exact ⟨hk,hk2,hb,rfl,by show 0 < qek b; omega⟩
  ·exact h.get hg
 refine ⟨?_,hpg⟩
 unfold qdh
 split
 ·split
  ·exact h.rising.sublist List.filter_sublist
  ·exact h.rising.set _ _
 ·rename_i e
  split
  ·exact h.rising
  ·exact h.rising.ins _ (qbm.1 e)
theorem bOf_put {l : List (Nat × Pg)} (h : ShOk l) {k : Nat} {b : qal} (hb : b.length = 256) (j : Nat) : bOf (qdh l k b) j = if j = k then b else bOf l j:=by
 unfold bOf
 rw [qer h]
 by_cases hj : j = k
 ·rw [if_pos hj,if_pos hj]
  by_cases hc : qek b = 0
  ·rw [if_pos hc]
   have h0:=qhx.1 hc
   refine bytes_ext qda hb fun i hi=>?_
   have : b.getD i 0 = 0:=by
    rw [List.getD_eq_getElem?_getD,List.getElem?_eq_getElem (by omega)]
    exact h0 _ (List.getElem_mem _)
   rw [this]
   exact qhb _
  ·rw [if_neg hc]
 ·rw [if_neg hj,if_neg hj]
theorem base_mod (a : Nat) : qap a % 256 = 0:=by unfold qap; omega
theorem base_le (a : Nat) : qap a ≤ a:=by unfold qap; omega
theorem one_ok {l : List (Nat × Pg)} (h : ShOk l) {a : Nat} (ha : a < 4294967296) (v : UInt8) : ShOk (oneP l a v) :=
 qhi h (base_mod a) (by have:=base_le a; omega) (by rw [List.length_set]; exact bOf_len h _)
theorem labL_one {l : List (Nat × Pg)} (h : ShOk l) (a : Nat) (v : UInt8) (x : Nat) : labL (oneP l a v) x = if x = a then v else labL l x:=by
 have hl:=bOf_len h (qap a)
 have hm : a % 256 < 256:=Nat.mod_lt _ (by decide)
 rw [qgg,qgg,oneP,bOf_put h (by rw [List.length_set]; exact hl)]
 by_cases hb : qap x = qap a
 ·rw [if_pos hb]
  by_cases hx : x = a
  ·subst hx
   rw [if_pos rfl,List.getD_eq_getElem?_getD,List.getElem?_set_self (by omega)]; rfl
  ·rw [if_neg hx,hb,List.getD_eq_getElem?_getD,List.getD_eq_getElem?_getD,List.getElem?_set_ne]
   intro e; exact hx (base_eq hb e.symm)
 ·rw [if_neg hb,if_neg (by intro e; exact hb (by rw [e]))]
theorem lay_ok : ∀ {bs : qal} {l : List (Nat × Pg)} {a : Nat},ShOk l → a + bs.length ≤ 4294967296 → ShOk (layP l a bs)
 | [],_,_,h,_=>h
 | v :: bs,l,a,h,ha=>by
  rw [List.length_cons] at ha
  exact lay_ok (l:=oneP l a v) (a:=a + 1) (one_ok h (by omega) v) (by omega)
theorem labL_lay : ∀ {bs : qal} {l : List (Nat × Pg)} {a : Nat},ShOk l → a + bs.length ≤ 4294967296 → ∀ x,labL (layP l a bs) x = if a ≤ x ∧ x < a + bs.length then bs.getD (x - a) 0 else labL l x
 | [],l,a,h,_,x=>by rw [if_neg (by rw [List.length_nil]; omega)]; rfl
 | v :: bs,l,a,h,ha,x=>by
  rw [List.length_cons] at ha
  rw [layP,labL_lay (one_ok h (by omega) v) (by omega),labL_one h,List.length_cons]
  by_cases h1 : x = a
  ·subst h1
   rw [if_neg (by omega),if_pos rfl,if_pos (by omega),Nat.sub_self]; rfl
  ·by_cases h2 : a + 1 ≤ x ∧ x < a + 1 + bs.length
   ·rw [if_pos h2,if_pos (by omega),show x - a = x - (a + 1) + 1 by omega,List.getD_cons_succ]
   ·rw [if_neg h2,if_neg h1,if_neg (by omega)]
theorem lab_ext {l m : List (Nat × Pg)} (hl : ShOk l) (hm : ShOk m) (h : ∀ x,x < 4294967296 → labL l x = labL m x) : l = m:=by
 refine rising_ext hl.rising hm.rising fun k=>?_
 have hb : k % 256 = 0 → k < 4294967296 → bOf l k = bOf m k:=fun h1 h2=>by
  refine bytes_ext (bOf_len hl k) (bOf_len hm k) fun j hj=>?_
  have:=h (k + j) (by omega)
  have hk : qap (k + j) = k:=by unfold qap; omega
  have hj2 : (k + j) % 256 = j:=by omega
  rw [qgg,qgg,hk,hj2] at this
  exact this
 have zero : ∀ {p : Pg},ShPgOk (k,p) → p.b ≠ zeroB:=fun hp e=>by
  have h1:=hp.cnt
  have h2:=hp.pos
  rw [h1,e,zeroB_cnt] at h2
  omega
 unfold bOf at hb
 cases e1 : qao l k with
 | none =>
  cases e2 : qao m k with
  | none=>rfl
  | some q =>
   have hq:=hm.get e2
   rw [e1,e2] at hb
   exact absurd (hb hq.al hq.lt).symm (zero hq)
 | some p =>
  have hp:=hl.get e1
  have:=hb hp.al hp.lt
  rw [e1] at this
  cases e2 : qao m k with
  | none=>rw [e2] at this; exact absurd this (zero hp)
  | some q =>
   rw [e2] at this
   have hq:=hm.get e2
   obtain ⟨pb,pp⟩:=p
   obtain ⟨qb,qp⟩:=q
   dsimp only at this
   subst this
   rw [show pp = qp from hp.cnt.trans hq.cnt.symm]
def sizedP (size : Int) : Nat:=if size < 0 ∨ 4 < size then 4 else size.toNat
def endN (a : Nat) (n : Int) : Nat:=a + min n.toNat (4294967296 - a)
def setM (S : ShG) (a : Nat) (bs : qal) : Int × ShG:=if S.budget < (layP S.pages a (bs.take (4294967296 - a))).length then (6,S) else (0,⟨S.budget,layP S.pages a (bs.take (4294967296 - a))⟩)
def fillM (S : ShG) (a : Nat) (n : Int) (v : UInt8) : Int × ShG:=if 1048576 < n then (1,S) else setM S a (List.replicate n.toNat v)
def putM (S : ShG) (a : Nat) (size : Int) (t : qal) : Int × ShG:=setM S a (t.take (sizedP size))
def tagM (S : ShG) (a : Nat) (size : Int) : qal:=(List.range 4).map fun i=>if i < sizedP size ∧ a + i < 4294967296 then labL S.pages (a + i) else 0
def cutP (k a e : Nat) (b : qal) : qal:=(b.take (min (k + 256) e - k)).drop (max k a - k)
def orL (l : qal) : UInt8:=l.foldl (· ||| ·) 0
def anyM (S : ShG) (a : Nat) (n : Int) : UInt8:=orL (S.pages.flatMap fun x=>cutP x.1 a (endN a n) x.2.b)
def clrB (k a e : Nat) (b : qal) : qal:=b.zipIdx.map fun x=>if a ≤ k + x.2 ∧ k + x.2 < e then 0 else x.1
def clearP (l : List (Nat × Pg)) (a e : Nat) : List (Nat × Pg):=(l.map fun x=>(x.1,(⟨clrB x.1 a e x.2.b,qek (clrB x.1 a e x.2.b)⟩ : Pg))).filter fun x=>x.2.perm != 0
def clearM (S : ShG) (a : Nat) (n : Int) : ShG:=⟨S.budget,clearP S.pages a (endN a n)⟩
end Go.Proofs.YtnfkalpgidiafaaGreat

namespace Go.Proofs.YtnfkalpgidiafaaGreat
open _root_.Go.Proofs.Tryz
open Go
structure ShX where
 pb : Nat
 pm : qcp
 blk : Nat → Nat
def qee (blk : Nat → Nat) (k : Nat) : Value:=.pointer (some ⟨blk k,0,none⟩)
def qex (l : List (Nat × Pg)) (blk : Nat → Nat) : qcp:=l.map fun p=>((p.1 : Int),qee blk p.1)
structure ShF (S : ShG) (x : ShX) : Prop where
 ok : ShOk S.pages
 room : S.pages.length ≤ S.budget
 budget : S.budget ≤ 4096
 pages : x.pm.Perm (qex S.pages x.blk)
def qdf (p : Pg) : Obj:=.cells (qbb p).toArray 132
def shObj (S : ShG) (x : ShX) : Obj:=.cells #[.int .i64 S.budget,.map (some x.pb)] 67
def qbi (l : List (Nat × Pg)) (blk : Nat → Nat) : List (Nat × Obj):=l.map fun p=>(blk p.1,qdf p.2)
def ShO (b : Nat) (S : ShG) : qax:=Ex fun x : ShX=>Fact (ShF S x) (Sep (Pt b (shObj S x)) (Sep (qcn .u32 x.pb x.pm) (Blks (qbi S.pages x.blk))))
theorem pmOf_nodup {l : List (Nat × Pg)} (h : (l.map (·.1)).Nodup) (blk : Nat → Nat) : ((qex l blk).map (·.1)).Nodup:=by
 unfold qex
 rw [List.map_map]
 have e : ((fun x=>x.1) ∘ fun p : Nat × Pg=>((p.1 : Int),qee blk p.1)) = (fun k : Nat=>(k : Int)) ∘ fun p=>p.1:=rfl
 rw [e,← List.map_map]
 rw [List.Nodup,List.pairwise_map]
 exact h.imp fun h=>by omega
theorem pm_get {l : List (Nat × Pg)} {pm : qcp} {blk : Nat → Nat} (hn : (l.map (·.1)).Nodup) (hp : pm.Perm (qex l blk)) (k : Nat) : qhm pm (k : Int) = (qao l k).map fun _=>qee blk k:=by
 rw [mget_perm hp (pmOf_nodup hn blk)]
 exact mget_pages (qee blk) k
theorem ShF.get {S : ShG} {x : ShX} (f : ShF S x) (k : Nat) : qhm x.pm (k : Int) = (qao S.pages k).map fun _=>qee x.blk k:=pm_get f.ok.rising.nodup f.pages k
section
variable {P : Program} {n : Nat} {cx : Cx} {ρ : Hp} {E : Env} {L : Own} {ops : Array Oper} {Q : Exit → Act → World → Prop} {S' : World → Prop} {π : List (Nat × Bool)}
theorem St.shOpen {w : World} (hs : St cx ρ L w) {b : Nat} {S : ShG} (j j1 j2 : Nat) (hd : [j,j1,j2].Nodup) (e : look L j = some (ShO b S)) :
  ∃ x,ShF S x ∧ St cx ρ ((j,Pt b (shObj S x)) :: (j1,qcn .u32 x.pb x.pm) :: (j2,Blks (qbi S.pages x.blk)) :: L) w:=by
 obtain ⟨x,h1⟩:=hs.ex' e
 obtain ⟨hf,h2⟩:=h1.fact (j:=j) (by rw [qag,if_pos rfl])
 simp only [List.nodup_cons,List.mem_cons,not_or,List.not_mem_nil,not_false_eq_true,List.nodup_nil,and_true] at hd
 obtain ⟨⟨d1,d2⟩,d4⟩:=hd
 have h3:=h2.part (j:=j) (k:=j1) d1 (by rw [qag,if_pos rfl])
 have h4:=h3.part (j:=j1) (k:=j2) d4 (by rw [qag,if_neg d1,qag,if_pos rfl])
 refine ⟨x,hf,h4.subF fun q C hq=>?_⟩
 simp only [qag] at hq ⊢
 by_cases q0 : j = q <;> by_cases q1 : j1 = q <;> by_cases q2 : j2 = q <;> simp only [q0,q1,q2,if_true,if_false] at hq ⊢ <;> first | exact hq | (exfalso; omega)
theorem St.shClose {w : World} (hs : St cx ρ L w) {b : Nat} {S : ShG} {x : ShX} (j j1 j2 : Nat) (hd : [j,j1,j2].Nodup) (hf : ShF S x) (e : look L j = some (Pt b (shObj S x))) (e1 : look L j1 = some (qcn .u32 x.pb x.pm)) (e2 : look L j2 = some (Blks (qbi S.pages x.blk))) :
  St cx ρ ((j,ShO b S) :: (j1,Emp) :: (j2,Emp) :: L) w:=by
 simp only [List.nodup_cons,List.mem_cons,not_or,List.not_mem_nil,not_false_eq_true,List.nodup_nil,and_true] at hd
 obtain ⟨⟨d1,d2⟩,d4⟩:=hd
 have h4:=hs.glue (j:=j1) (k:=j2) d4 e1 e2
 have h5:=h4.glue (j:=j) (k:=j1) d1 (by rw [qag,if_neg (Ne.symm d1),qag,if_neg (Ne.symm d2)]; exact e) (by rw [qag,if_pos rfl])
 have h6:=h5.imp (i:=j) (A':=ShO b S) (by rw [qag,if_pos rfl]) fun k hk=>⟨x,hf,hk⟩
 refine h6.subF fun q C hq=>?_
 simp only [qag] at hq ⊢
 by_cases q0 : j = q <;> by_cases q1 : j1 = q <;> by_cases q2 : j2 = q <;> simp only [q0,q1,q2,if_true,if_false] at hq ⊢ <;> first | exact hq | (exfalso; omega)
theorem Cd.shOpen {d : Code} {b : Nat} {S : ShG} (j j1 j2 : Nat) (hd : [j,j1,j2].Nodup) (e : look L j = some (ShO b S))
  (h : ∀ x,ShF S x → Cd P Q n cx ρ E ((j,Pt b (shObj S x)) :: (j1,qcn .u32 x.pb x.pm) :: (j2,Blks (qbi S.pages x.blk)) :: L) d) : Cd P Q n cx ρ E L d:=fun a w ha hs =>
 let ⟨x,hf,h2⟩:=hs.shOpen j j1 j2 hd e; h x hf a w ha h2
theorem Cd.shClose {d : Code} {b : Nat} {S : ShG} {x : ShX} (j j1 j2 : Nat) (hd : [j,j1,j2].Nodup) (hf : ShF S x) (e : look L j = some (Pt b (shObj S x))) (e1 : look L j1 = some (qcn .u32 x.pb x.pm)) (e2 : look L j2 = some (Blks (qbi S.pages x.blk)))
  (h : Cd P Q n cx ρ E ((j,ShO b S) :: (j1,Emp) :: (j2,Emp) :: L) d) : Cd P Q n cx ρ E L d:=fun a w ha hs=>h a w ha (hs.shClose j j1 j2 hd hf e e1 e2)
end
theorem shBase_spec (a : Nat) (ha : a < 4294967296) : Spec Tryz.prog 56 #[.int .u32 a] (fun _=>True) [] (fun ρ ρ' v L=>ρ' = ρ ∧ v = .int .u32 (qap a) ∧ L = []):=by
 refine Spec.of 7 Tryz.func56 rfl Tryz.ntmps56 [(0,_)] rfl rfl ?_
 intro cx ρ hr h0
 refine Cd.seq fun K1 hK1=>?_
 refine Cd.qac [(0,false)] rfl rfl ?_
 refine Jp.y 2 rfl (qaa rfl) rfl rfl Kp.true (Y.assign rfl rfl) ?_
 refine Jp.qae hK1 ?_
 refine Cd.seq fun K2 hK2=>?_
 refine Cd.qac [(0,false),(1,false),(2,false),(3,false),(4,false)] rfl rfl ?_
 refine Jp.y 3 rfl (qaa rfl) rfl rfl Kp.true (Y.move rfl rfl) ?_
 refine Jp.y 4 rfl (qaa rfl) rfl rfl Kp.true (Y.move rfl rfl) ?_
 refine Jp.y 5 rfl (qaa rfl) rfl rfl Kp.true (by exact Y.remN rfl rfl rfl (by omega) (by omega)) ?_
 refine Jp.y 6 rfl (qaa rfl) rfl rfl Kp.true (Y.qfm rfl rfl rfl (qba (by omega) (by omega))) ?_
 refine Jp.y 2 rfl (qaa rfl) rfl rfl Kp.true (Y.assign rfl rfl) ?_
 refine Jp.qae hK2 ?_
 refine Cd.ret [] rfl (qbd rfl rfl) trivial ⟨rfl,congrArg (Value.int .u32) (by unfold qap; omega),rfl⟩
theorem shSized_spec (size : Int) : Spec Tryz.prog 78 #[.int .i64 size] (fun _=>True) [] (fun ρ ρ' v L=>ρ' = ρ ∧ v = .int .i64 (sizedP size : Int) ∧ L = []):=by
 refine Spec.of 10 Tryz.func78 rfl Tryz.ntmps78 [(0,_)] rfl rfl ?_
 intro cx ρ hr h0
 refine Cd.seq fun K3 hK3=>?_
 refine Cd.qac [(0,false)] rfl rfl ?_
 refine Jp.y 2 rfl (qaa rfl) rfl rfl Kp.true (Y.assign rfl rfl) ?_
 refine Jp.qae hK3 ?_
 refine Cd.seq fun K4 hK4=>?_
 refine Cd.seq fun K5 hK5=>?_
 refine Cd.qac [(0,false),(1,false),(2,false),(3,false),(4,false),(5,false)] rfl rfl ?_
 refine Jp.y 3 rfl (qaa rfl) rfl rfl Kp.true (Y.move rfl rfl) ?_
 refine Jp.y 4 rfl (qaa rfl) rfl rfl Kp.true (Y.lss rfl rfl rfl) ?_
 refine Jp.y 5 rfl (qaa rfl) rfl rfl Kp.true (Y.move rfl rfl) ?_
 refine Jp.split 5 rfl (fun g5=>?_) (fun g5=>?_)
 ·skip
  try simp only [sG0] at g5
  refine Jp.qaq 6 rfl (qab rfl rfl rfl rfl) rfl rfl Kp.true ?_
  refine Jp.qaq 7 rfl (qab rfl rfl rfl rfl) rfl rfl Kp.true ?_
  refine Jp.y 8 rfl (qaa rfl) rfl rfl Kp.true (Y.qav rfl rfl rfl) ?_
  refine Jp.qae hK5 ?_
  refine Cd.qcw rfl ?_
  refine Cd.seq fun K6 hK6=>?_
  refine Cd.qac [(0,false)] rfl rfl ?_
  refine Jp.y 2 rfl (qaa rfl) rfl rfl Kp.true (Y.assign rfl rfl) ?_
  refine Jp.qae hK6 ?_
  refine Cd.ret [] rfl (qbd rfl rfl) trivial ⟨rfl,congrArg (Value.int .i64) (by unfold sizedP; (rw [if_pos (by omega)]; rfl)),rfl⟩
 ·skip
  try simp only [sG0] at g5
  refine Jp.y 6 rfl (qab rfl rfl rfl rfl) rfl rfl Kp.true (Y.move rfl rfl) ?_
  refine Jp.y 7 rfl (qab rfl rfl rfl rfl) rfl rfl Kp.true (Y.gtr rfl rfl rfl) ?_
  refine Jp.y 8 rfl (qaa rfl) rfl rfl Kp.true (Y.qay rfl rfl rfl) ?_
  refine Jp.qae hK5 ?_
  refine Cd.qar rfl (fun g8=>?_) (fun g8=>?_)
  ·skip
   try simp only [sG0] at g8
   refine Cd.seq fun K7 hK7=>?_
   refine Cd.qac [(0,false)] rfl rfl ?_
   refine Jp.y 2 rfl (qaa rfl) rfl rfl Kp.true (Y.assign rfl rfl) ?_
   refine Jp.qae hK7 ?_
   refine Cd.ret [] rfl (qbd rfl rfl) trivial ⟨rfl,congrArg (Value.int .i64) (by unfold sizedP; (rw [if_pos (by omega)]; rfl)),rfl⟩
  ·skip
   try simp only [sG0] at g8
   refine Cd.qbu hK4 ?_
   refine Cd.seq fun K8 hK8=>?_
   refine Cd.qac [(0,false),(1,false)] rfl rfl ?_
   refine Jp.y 9 rfl (qaa rfl) rfl rfl Kp.true (Y.move rfl rfl) ?_
   refine Jp.y 2 rfl (qaa rfl) rfl rfl Kp.true (Y.assign rfl rfl) ?_
   refine Jp.qae hK8 ?_
   refine Cd.ret [] rfl (qbd rfl rfl) trivial ⟨rfl,congrArg (Value.int .i64) (by unfold sizedP; (rw [if_neg (by omega)]; omega)),rfl⟩
theorem shEnd_spec (a : Nat) (n : Int) (ha : a < 4294967296) (hn : n ≤ 9223372036854775807) : Spec Tryz.prog 55 #[.int .u32 a,.int .i64 n] (fun _=>True) [] (fun ρ ρ' v L=>ρ' = ρ ∧ v = .int .u64 (endN a n : Int) ∧ L = []):=by
 refine Spec.of 15 Tryz.func55 rfl Tryz.ntmps55 [(0,_),(1,_)] rfl rfl ?_
 intro cx ρ hr h0
 refine Cd.seq fun K9 hK9=>?_
 refine Cd.qac [(0,false)] rfl rfl ?_
 refine Jp.y 4 rfl (qaa rfl) rfl rfl Kp.true (Y.assign rfl rfl) ?_
 refine Jp.qae hK9 ?_
 refine Cd.seq fun K10 hK10=>?_
 refine Cd.qac [(0,false),(1,false),(2,false),(3,false),(4,false),(5,false),(6,false),(7,false),(8,false),(9,false),(10,false)] rfl rfl ?_
 refine Jp.y 5 rfl (qaa rfl) rfl rfl Kp.true (Y.move rfl rfl) ?_
 refine Jp.y 6 rfl (qaa rfl) rfl rfl Kp.true (Y.qaw rfl rfl underlying24 underlying103 (by exact qbh (by omega) (by omega))) ?_
 refine Jp.y 7 rfl (qaa rfl) rfl rfl Kp.true (Y.move rfl rfl) ?_
 refine Jp.y 8 rfl (qaa rfl) rfl rfl Kp.true (Y.max2 rfl rfl rfl) ?_
 refine Jp.slot 8 rfl (show _ = Value.int .i64 ((n.toNat : Nat) : Int) from congrArg (Value.int .i64) (by split <;> omega)) ?_
 refine Jp.y 9 rfl (qaa rfl) rfl rfl Kp.true (Y.qaw rfl rfl underlying3 underlying103 (by exact qbh (by omega) (by omega))) ?_
 refine Jp.y 10 rfl (qaa rfl) rfl rfl Kp.true (Y.move rfl rfl) ?_
 refine Jp.y 11 rfl (qaa rfl) rfl rfl Kp.true (Y.qaw rfl rfl underlying24 underlying103 (by exact qbh (by omega) (by omega))) ?_
 refine Jp.y 12 rfl (qaa rfl) rfl rfl Kp.true (Y.qfm rfl rfl rfl (by exact qbh (by omega) (by omega))) ?_
 refine Jp.y 13 rfl (qaa rfl) rfl rfl Kp.true (Y.min2 rfl rfl rfl) ?_
 refine Jp.slot 13 rfl (show _ = Value.int .u64 ((min n.toNat (4294967296 - a) : Nat) : Int) from congrArg (Value.int .u64) (by split <;> omega)) ?_
 refine Jp.y 14 rfl (qaa rfl) rfl rfl Kp.true (Y.qcj rfl rfl rfl (by exact qbh (by omega) (by omega))) ?_
 refine Jp.y 4 rfl (qaa rfl) rfl rfl Kp.true (Y.assign rfl rfl) ?_
 refine Jp.qae hK10 ?_
 refine Cd.ret [] rfl (qbd rfl rfl) trivial ⟨rfl,congrArg (Value.int .u64) (by unfold endN; omega),rfl⟩
def partP (p a e : Nat) : Nat × Nat:=if min (p + 256) e ≤ max p a then (0,0) else (max p a - p,min (p + 256) e - p)
theorem shMem {l : List (Nat × Pg)} {blk : Nat → Nat} {k : Nat} {p : Pg} (h : qao l k = some p) : (blk k,qdf p) ∈ qbi l blk:=List.mem_map.2 ⟨(k,p),qbc h,rfl⟩
theorem labL_some {l : List (Nat × Pg)} {a : Nat} {p : Pg} (h : qao l (qap a) = some p) : labL l a = p.b.getD (a % 256) 0:=by unfold labL; rw [h]
theorem labL_none {l : List (Nat × Pg)} {a : Nat} (h : qao l (qap a) = none) : labL l a = 0:=by unfold labL; rw [h]
theorem shAt_spec (b : Nat) (S : ShG) (a : Nat) (ha : a < 4294967296) : Spec Tryz.prog 80 #[.pointer (some ⟨b,0,none⟩),.int .u32 a] (fun _=>True) [(0,ShO b S)]
  (fun ρ ρ' v L=>ρ' = ρ ∧ v = .int .u8 ((labL S.pages a).toNat : Int) ∧ L = [(0,ShO b S)]):=by
 refine Spec.of 22 Tryz.func80 rfl Tryz.ntmps80 [(0,_),(1,_)] rfl rfl ?_
 intro cx ρ hr h0
 refine Cd.shOpen 0 1 2 (by decide) rfl fun x hf=>?_
 refine Cd.seq fun K11 hK11=>?_
 refine Cd.qac [(0,false)] rfl rfl ?_
 refine Jp.y 4 rfl (qaa rfl) rfl rfl Kp.true (Y.assign rfl rfl) ?_
 refine Jp.qae hK11 ?_
 refine Cd.seq fun K12 hK12=>?_
 refine Cd.drawn [(0,_),(1,_)] ⟨rfl,rfl,trivial⟩ [(0,true),(1,true),(2,true),(3,true),(4,true),(5,false),(6,true),(7,true)] follows (by kernel_rfl) (fun hrl=>?_)
 refine Jp.q 6 rfl (qaa rfl) rfl rfl (Y.move rfl rfl) ?_
 refine Jp.q 7 rfl (qaa rfl) rfl rfl (Y.qan rfl rfl) ?_
 refine Jp.q 8 rfl (qaa rfl) rfl rfl (by exact Y.qad rfl rfl underlying67 rfl sizeOf65 (by decide) (show _ + 1 = _ from rfl)) ?_
 refine Jp.q 9 rfl (qaa rfl) rfl rfl (Y.qau 0 rfl isAgg65 rfl rfl rfl) ?_
 refine Jp.q 10 rfl (qaa rfl) rfl rfl (Y.move rfl rfl) ?_
 refine Jp.call [] [] (shBase_spec a ha) 11 rfl (qaa rfl) rfl rfl (Runs.fn rfl call56 rfl) (by decide) (by decide) rfl trivial ?_
 rintro v101 ρ101 L101 ⟨rfl,rfl,rfl⟩
 refine ⟨rfl,fun hle101=>⟨(Kp.st ⟨rfl,rfl,trivial⟩),?_⟩⟩
 refine Jp.q 12 rfl (qaa rfl) rfl rfl (by first | exact Y.lookup 1 rfl rfl rfl underlying65 underlying24 zeroValue82 rfl) ?_
 refine Jp.q 5 rfl (qaa rfl) rfl rfl (Y.assign rfl rfl) ?_
 refine Jp.qae hK12 ?_
 refine Cd.seq fun K14 hK14=>?_
 refine Cd.seq fun K15 hK15=>?_
 refine Cd.qac [(0,false),(1,false)] rfl rfl ?_
 have hget:=hf.get (qap a)
 rcases hg : qao S.pages (qap a) with _ | p
 ·rw [hg] at hget
  refine Jp.slot 5 rfl (show _ = Value.pointer none by rw [hget]; rfl) ?_
  refine Jp.y 13 rfl (qaa rfl) rfl rfl Kp.true (Y.move rfl rfl) ?_
  refine Jp.y 14 rfl (qaa rfl) rfl rfl Kp.true (Y.qeu rfl underlying82 rfl rfl) ?_
  refine Jp.qae hK15 ?_
  refine Cd.qar rfl (fun gx=>?_) (fun gx=>?_)
  ·skip
   refine Cd.seq fun K16 hK16=>?_
   refine Cd.qac [(0,false)] rfl rfl ?_
   refine Jp.y 4 rfl (qaa rfl) rfl rfl Kp.true (Y.assign rfl rfl) ?_
   refine Jp.qae hK16 ?_
   refine Cd.shClose (b:=b) (x:=x) 0 1 2 (by decide) hf rfl rfl rfl ?_
   refine Cd.ret [(0,_)] rfl (qbd rfl rfl) ⟨rfl,trivial⟩ ⟨rfl,by rw [labL_none hg]; rfl,rfl⟩
  ·exact absurd gx (by simp)
 ·rw [hg] at hget
  refine Jp.slot 5 rfl (show _ = Value.pointer (some ⟨x.blk (qap a),0,none⟩) by rw [hget]; rfl) ?_
  refine Jp.y 13 rfl (qaa rfl) rfl rfl Kp.true (Y.move rfl rfl) ?_
  refine Jp.y 14 rfl (qaa rfl) rfl rfl Kp.true (Y.qeu rfl underlying82 rfl rfl) ?_
  refine Jp.qae hK15 ?_
  refine Cd.qar rfl (fun gx=>?_) (fun gx=>?_)
  ·exact absurd gx (by simp)
  ·have hlen : p.b.length = 256:=(hf.ok.get hg).len
   have hm : a % 256 < 256:=Nat.mod_lt _ (by decide)
   have hcell:=Blks.cell (shMem (blk:=x.blk) hg) (qej p hlen hm)
   refine Cd.qbu hK14 ?_
   refine Cd.seq fun K17 hK17=>?_
   refine Cd.qac [(0,false),(1,false),(2,false),(3,false),(4,false),(5,false),(6,false),(7,false)] rfl rfl ?_
   refine Jp.y 15 rfl (qaa rfl) rfl rfl Kp.true (Y.move rfl rfl) ?_
   refine Jp.y 16 rfl (qaa rfl) rfl rfl Kp.true (Y.move rfl rfl) ?_
   refine Jp.y 17 rfl (qaa rfl) rfl rfl Kp.true (by exact Y.remN rfl rfl rfl (by omega) (by omega)) ?_
   refine Jp.y 18 rfl (qaa rfl) rfl rfl Kp.true (Y.qan rfl rfl) ?_
   refine Jp.y 19 rfl (qaa rfl) rfl rfl Kp.true (by exact Y.qad rfl rfl underlying132 rfl sizeOf90 (by decide) (show _ + 0 = _ from rfl)) ?_
   refine Jp.y 20 rfl (qaa rfl) rfl rfl Kp.true (Y.qam (q:=a % 256) rfl rfl rfl underlying90 sizeOf5 (by omega) (by omega) (by omega)) ?_
   refine Jp.y 21 rfl (qaa rfl) rfl rfl Kp.true (Y.qbg 2 rfl isAgg5 rfl rfl hcell) ?_
   refine Jp.y 4 rfl (qaa rfl) rfl rfl Kp.true (Y.assign rfl rfl) ?_
   refine Jp.qae hK17 ?_
   refine Cd.shClose (b:=b) (x:=x) 0 1 2 (by decide) hf rfl rfl rfl ?_
   refine Cd.ret [(0,_)] rfl (qbd rfl rfl) ⟨rfl,trivial⟩ ⟨rfl,by rw [labL_some hg,List.getD_eq_getElem?_getD,List.getElem?_eq_getElem (by omega)]; rfl,rfl⟩
end Go.Proofs.YtnfkalpgidiafaaGreat

namespace Go.Proofs.YtnfkalpgidiafaaGreat
open _root_.Go.Proofs.Tryz
open Go
theorem updB_mem {l : List (Nat × Obj)} {b : Nat} {o : Obj} (o' : Obj) (h : (b,o) ∈ l) : (b,o') ∈ qhe l b o':=List.mem_map.2 ⟨(b,o),h,by simp⟩
theorem updB_updB (l : List (Nat × Obj)) (b : Nat) (o o' : Obj) : qhe (qhe l b o) b o' = qhe l b o':=by
 rw [qhe,qhe,qhe,List.map_map]
 apply List.map_congr_left
 intro x _
 simp only [Function.comp]
 by_cases h : x.1 = b <;> simp [h]
theorem updB_id {l : List (Nat × Obj)} {b : Nat} {o : Obj} (hn : (l.map (·.1)).Nodup) (h : (b,o) ∈ l) : qhe l b o = l:=by
 rw [qhe]
 have : l.map (fun p=>if p.1 = b then (b,o) else p) = l.map id:=by
  apply List.map_congr_left
  intro x hx
  split
  ·rename_i e
   exact (qdd (f:=fun p : Nat × Obj=>p.1) hn h hx e.symm)
  ·rfl
 rw [this,List.map_id]
def c1 (v : UInt8) : Nat:=if v = 0 then 0 else 1
theorem cntB_set : ∀ {b : qal} {j : Nat} {v : UInt8} (h : j < b.length),qek (b.set j v) + c1 b[j] = qek b + c1 v
 | [],j,v,h=>by simp at h
 | x :: b,0,v,h=>by
  unfold qek c1
  simp only [List.set_cons_zero,List.countP_cons,List.getElem_cons_zero]
  by_cases h1 : v = 0 <;> by_cases h2 : x = 0 <;> simp [h1,h2] <;> omega
 | x :: b,j + 1,v,h=>by
  have:=cntB_set (b:=b) (j:=j) (v:=v) (by simpa using h)
  unfold qek at this ⊢
  simp only [List.set_cons_succ,List.countP_cons,List.getElem_cons_succ]
  omega
theorem shPut_spec (l : List (Nat × Obj)) (bp : Nat) (p : Pg) (q : Nat) (v : UInt8) (hm : (bp, qdf p) ∈ l) (hlen : p.b.length = 256) (hcnt : p.perm = qek p.b) (hq : q < 256) : Spec Tryz.prog 57 #[.pointer (some ⟨bp, 0, none⟩), .int .i64 q, .int .u8 (v.toNat : Int)] (fun _ => True) [(0, Blks l)]
    (fun ρ ρ' r L => ρ' = ρ ∧ r = .tuple #[] ∧ L = [(0, Blks (qhe l bp (qdf ⟨p.b.set q v, qek (p.b.set q v)⟩)))]) := by
  refine Spec.of 35 Tryz.func57 rfl Tryz.ntmps57 [(0, _), (1, _), (2, _)] rfl rfl ?_
  intro cx ρ hr h0
  refine Cd.know (φ := (l.map (·.1)).Nodup) (A := Blks l) 0 rfl (fun _ h => h.1) fun hnd => ?_
  have hcs := cntB_set (b := p.b) (j := q) (v := v) (by omega)
  have hcl := cntB_len p.b
  have hv256 := v.toNat_lt
  obtain ⟨old, hold⟩ : ∃ x, p.b[q]'(by omega) = x := ⟨_, rfl⟩
  have hcell := Blks.cell hm (qej p hlen hq)
  have hcs0 := cntB_set (b := p.b) (j := q) (v := 0) (by omega)
  rw [hold] at hcell hcs hcs0
  have hc3 : c1 old ≤ qek p.b := by
    have : c1 0 = 0 := rfl
    omega
  have hoz : ((old.toNat : Int) != 0) = decide (c1 old = 1) := by
    unfold c1
    by_cases h : old = 0
    · simp [h]
    · have : old.toNat ≠ 0 := fun e => h (UInt8.toNat_inj.1 (by simpa using e))
      rw [if_neg h]; simp; omega
  have hvz : ((v.toNat : Int) != 0) = decide (c1 v = 1) := by
    unfold c1
    by_cases h : v = 0
    · simp [h]
    · have : v.toNat ≠ 0 := fun e => h (UInt8.toNat_inj.1 (by simpa using e))
      rw [if_neg h]; simp; omega
  have hc1 : c1 old ≤ 1 := by unfold c1; split <;> omega
  have hc2 : c1 v ≤ 1 := by unfold c1; split <;> omega
  have hkeep : ∀ k, Blks l k → Blks (qhe l bp (qdf ⟨p.b, p.perm⟩)) k := fun k hk => by
    have : qhe l bp (qdf ⟨p.b, p.perm⟩) = l := updB_id hnd hm
    rw [this]; exact hk
  refine Cd.seq fun K1 hK1 => ?_
  refine Cd.seq fun K2 hK2 => ?_
  refine Cd.qac [(0, false), (1, false), (2, false), (3, false), (4, false), (5, false), (6, false)] rfl rfl ?_
  refine Jp.y 6 rfl (qaa rfl) rfl rfl Kp.true (Y.move rfl rfl) ?_
  refine Jp.y 7 rfl (qaa rfl) rfl rfl Kp.true (Y.move rfl rfl) ?_
  refine Jp.y 8 rfl (qaa rfl) rfl rfl Kp.true (Y.qan rfl rfl) ?_
  refine Jp.y 9 rfl (qaa rfl) rfl rfl Kp.true (by exact Y.qad rfl rfl underlying132 rfl sizeOf90 (by decide) (show _ + 0 = _ from rfl)) ?_
  refine Jp.y 10 rfl (qaa rfl) rfl rfl Kp.true (Y.qam (q := q) rfl rfl rfl underlying90 sizeOf5 (by omega) (by omega) (by omega)) ?_
  refine Jp.y 11 rfl (qaa rfl) rfl rfl Kp.true (Y.qbg 0 rfl isAgg5 rfl rfl hcell) ?_
  refine Jp.y 12 rfl (qaa rfl) rfl rfl Kp.true (Y.neq rfl rfl rfl) ?_
  refine Jp.qae hK2 ?_
  refine Cd.imp (i := 0) rfl (hkeep) ?_
  refine Cd.slot 12 rfl (show _ = Value.bool (decide (c1 old = 1)) from congrArg Value.bool hoz) ?_
  have hstep : ∀ (x : qal) (a b' : Nat), x.length = 256 → SetC (Blks (qhe l bp (qdf ⟨x, a⟩))) (Blks (qhe l bp (qdf ⟨x, b'⟩))) bp 256 (.int .i64 (b' : Int)) := fun x a b' hx => by
    refine Blks.set (updB_mem _ hm) (by simp [qbb, qaf, hx]) (qas _) ?_
    rw [pageCells_perm2 _ hx]
    exact updB_updB _ _ _ _
  have hperm : ∀ (x : qal) (a : Nat), x.length = 256 → HasC (Blks (qhe l bp (qdf ⟨x, a⟩))) ⟨bp, 256, none⟩ (.int .i64 (a : Int)) := fun x a hx => Blks.cell (updB_mem _ hm) (qbv ⟨x, a⟩ hx)
  refine Cd.qgm (G := Unit) (fun _ => True) (fun _ => []) [(0, _), (1, _), (2, _)] ⟨rfl, rfl, rfl, trivial⟩ (fun _ => [(0, Blks (qhe l bp (qdf ⟨p.b, p.perm - c1 old⟩)))]) [] trivial hK1 (fun g hφ => ?_) (fun hj1 => ?_)
  · clear hφ
    refine Cd.seq fun K3 hK3 => ?_
    refine Cd.seq fun K4 hK4 => ?_
    refine Cd.qac [(0, false), (1, false)] rfl rfl ?_
    refine Jp.y 20 rfl (qaa rfl) rfl rfl Kp.true (Y.move rfl rfl) ?_
    refine Jp.y 21 rfl (qaa rfl) rfl rfl Kp.true (Y.neq rfl rfl rfl) ?_
    refine Jp.qae hK4 ?_
    refine Cd.slot 21 rfl (show _ = Value.bool (decide (c1 v = 1)) from congrArg Value.bool hvz) ?_
    refine Cd.qgm (G := Unit) (fun _ => True) (fun _ => []) [(0, _), (1, _), (2, _)] ⟨rfl, rfl, rfl, trivial⟩ (fun _ => [(0, Blks (qhe l bp (qdf ⟨p.b, p.perm - c1 old + c1 v⟩)))]) [] trivial hK3 (fun g hφ => ?_) (fun hj2 => ?_)
    · clear hφ
      have e : p.perm - c1 old + c1 v = qek (p.b.set q v) := by omega
      rw [e]
      refine Cd.qac [(0, false), (1, false), (2, false), (3, false), (4, false), (5, false), (6, false)] rfl rfl ?_
      refine Jp.y 29 rfl (qaa rfl) rfl rfl Kp.true (Y.move rfl rfl) ?_
      refine Jp.y 30 rfl (qaa rfl) rfl rfl Kp.true (Y.move rfl rfl) ?_
      refine Jp.y 31 rfl (qaa rfl) rfl rfl Kp.true (Y.move rfl rfl) ?_
      refine Jp.y 32 rfl (qaa rfl) rfl rfl Kp.true (Y.qan rfl rfl) ?_
      refine Jp.y 33 rfl (qaa rfl) rfl rfl Kp.true (by exact Y.qad rfl rfl underlying132 rfl sizeOf90 (by decide) (show _ + 0 = _ from rfl)) ?_
      refine Jp.y 34 rfl (qaa rfl) rfl rfl Kp.true (Y.qam (q := q) rfl rfl rfl underlying90 sizeOf5 (by omega) (by omega) (by omega)) ?_
      refine Jp.qct 0 (Blks (qhe l bp (qdf ⟨p.b.set q v, qek (p.b.set q v)⟩))) rfl (qaa rfl) rfl rfl sizeOf5 rfl rfl rfl rfl rfl (Blks.set (updB_mem _ hm) (by simp [qbb, qaf, hlen]; omega) (qas _) (by rw [qhk ⟨p.b, qek (p.b.set q v)⟩ hlen hq v]; exact updB_updB _ _ _ _)) Kp.true ?_
      refine Jp.end [(0, _)] rfl (res0 rfl) ⟨rfl, trivial⟩ ⟨rfl, rfl, rfl⟩
    · skip
      refine Cd.qar rfl (fun gv => ?_) (fun gv => ?_)
      · have e : c1 v = 1 := by simpa using gv
        refine Cd.qac [(0, false), (1, false), (2, false), (3, false), (4, false), (5, false), (6, false), (7, false)] rfl rfl ?_
        refine Jp.y 22 rfl (qaa rfl) rfl rfl Kp.true (Y.move rfl rfl) ?_
        refine Jp.y 23 rfl (qaa rfl) rfl rfl Kp.true (Y.qan rfl rfl) ?_
        refine Jp.y 24 rfl (qaa rfl) rfl rfl Kp.true (by exact Y.qad rfl rfl underlying132 rfl sizeOf3 (by decide) (show _ + 256 = _ from rfl)) ?_
        refine Jp.y 25 rfl (qaa rfl) rfl rfl Kp.true (Y.qbg 0 rfl isAgg3 rfl rfl (hperm p.b (p.perm - c1 old) hlen)) ?_
        refine Jp.y 26 rfl (qaa rfl) rfl rfl Kp.true (Y.qcj rfl rfl rfl (by exact qaj (by omega) (by omega))) ?_
        refine Jp.y 27 rfl (qaa rfl) rfl rfl Kp.true (Y.qan rfl rfl) ?_
        refine Jp.y 28 rfl (qaa rfl) rfl rfl Kp.true (by exact Y.qad rfl rfl underlying132 rfl sizeOf3 (by decide) (show _ + 256 = _ from rfl)) ?_
        refine Jp.slot 26 rfl (show _ = Value.int .i64 ((p.perm - c1 old + c1 v : Nat) : Int) from congrArg (Value.int .i64) (by omega)) ?_
        refine Jp.qct 0 (Blks (qhe l bp (qdf ⟨p.b, p.perm - c1 old + c1 v⟩))) rfl (qaa rfl) rfl rfl sizeOf3 rfl rfl rfl rfl rfl (hstep p.b _ _ hlen) Kp.true ?_
        refine Jp.qae hK3 ?_
        exact Cd.qcz (hj2 () trivial) ⟨rfl, rfl, rfl, trivial⟩ ⟨rfl, trivial⟩
      · have e : c1 v = 0 := by have : ¬ c1 v = 1 := by simpa using gv
                                omega
        refine Cd.imp (i := 0) rfl (fun k hk => (show Blks (qhe l bp (qdf ⟨p.b, p.perm - c1 old + c1 v⟩)) k by rw [e, Nat.add_zero]; exact hk)) ?_
        refine Cd.qbu hK3 ?_
        exact Cd.qcz (hj2 () trivial) ⟨rfl, rfl, rfl, trivial⟩ ⟨rfl, trivial⟩
  · skip
    refine Cd.qar rfl (fun gv => ?_) (fun gv => ?_)
    · have e : c1 old = 1 := by simpa using gv
      refine Cd.qac [(0, false), (1, false), (2, false), (3, false), (4, false), (5, false), (6, false), (7, false)] rfl rfl ?_
      refine Jp.y 13 rfl (qaa rfl) rfl rfl Kp.true (Y.move rfl rfl) ?_
      refine Jp.y 14 rfl (qaa rfl) rfl rfl Kp.true (Y.qan rfl rfl) ?_
      refine Jp.y 15 rfl (qaa rfl) rfl rfl Kp.true (by exact Y.qad rfl rfl underlying132 rfl sizeOf3 (by decide) (show _ + 256 = _ from rfl)) ?_
      refine Jp.y 16 rfl (qaa rfl) rfl rfl Kp.true (Y.qbg 0 rfl isAgg3 rfl rfl (hperm p.b p.perm hlen)) ?_
      refine Jp.y 17 rfl (qaa rfl) rfl rfl Kp.true (Y.qfm rfl rfl rfl (by exact qaj (by omega) (by omega))) ?_
      refine Jp.y 18 rfl (qaa rfl) rfl rfl Kp.true (Y.qan rfl rfl) ?_
      refine Jp.y 19 rfl (qaa rfl) rfl rfl Kp.true (by exact Y.qad rfl rfl underlying132 rfl sizeOf3 (by decide) (show _ + 256 = _ from rfl)) ?_
      refine Jp.slot 17 rfl (show _ = Value.int .i64 ((p.perm - c1 old : Nat) : Int) from congrArg (Value.int .i64) (by omega)) ?_
      refine Jp.qct 0 (Blks (qhe l bp (qdf ⟨p.b, p.perm - c1 old⟩))) rfl (qaa rfl) rfl rfl sizeOf3 rfl rfl rfl rfl rfl (hstep p.b _ _ hlen) Kp.true ?_
      refine Jp.qae hK1 ?_
      exact Cd.qcz (hj1 () trivial) ⟨rfl, rfl, rfl, trivial⟩ ⟨rfl, trivial⟩
    · have e : c1 old = 0 := by have : ¬ c1 old = 1 := by simpa using gv
                                omega
      refine Cd.imp (i := 0) rfl (fun k hk => (show Blks (qhe l bp (qdf ⟨p.b, p.perm - c1 old⟩)) k by rw [e, Nat.sub_zero]; exact hk)) ?_
      refine Cd.qbu hK1 ?_
      exact Cd.qcz (hj1 () trivial) ⟨rfl, rfl, rfl, trivial⟩ ⟨rfl, trivial⟩
def cOf (l : List (Nat × Pg)) (y : Nat × Pg) : Int:=(if 0 < y.2.perm then 1 else 0) - (if (qao l y.1).isSome then 1 else 0)
def qhl (l now : List (Nat × Pg)) : Int:=(now.map (cOf l)).sum
theorem perm_sum {l m : List Int} (h : l.Perm m) : l.sum = m.sum:=by
 induction h with
 | nil=>rfl
 | cons x _ ih=>simp [ih]
 | swap x y l=>simp; omega
 | trans _ _ ih1 ih2=>rw [ih1,ih2]
theorem cOf_le (l : List (Nat × Pg)) (y : Nat × Pg) : -1 ≤ cOf l y ∧ cOf l y ≤ 1:=by unfold cOf; split <;> split <;> omega
theorem shMore_spec (b : Nat) (S : ShG) (x : ShX) (hf : ShF S x) (nb : Nat) (nm : qcp) (now : List (Nat × Pg)) (nblk : Nat → Nat) (hnow : nm.Perm (qex now nblk)) (hnd : (now.map (·.1)).Nodup) (hlt : ∀ y ∈ now,y.1 < 4294967296 ∧ y.2.b.length = 256) (hl : now.length ≤ 16777216) :
  Spec Tryz.prog 58 #[.pointer (some ⟨b,0,none⟩),.map (some nb)] (fun _=>True) [(0,Pt b (shObj S x)),(1,qcn .u32 x.pb x.pm),(2,qcn .u32 nb nm),(3,Blks (qbi now nblk))]
  (fun ρ ρ' v L=>ρ' = ρ ∧ v = .int .i64 (qhl S.pages now) ∧ L = [(0,Pt b (shObj S x)),(1,qcn .u32 x.pb x.pm),(2,qcn .u32 nb nm),(3,Blks (qbi now nblk))]):=by
 refine Spec.of 32 Tryz.func58 rfl Tryz.ntmps58 [(0,_),(1,_)] rfl rfl ?_
 intro cx ρ hr h0
 have hlen:=hnow.length_eq
 have hlen2 : (qex now nblk).length = now.length:=List.length_map ..
 obtain ⟨K,hK⟩ : ∃ K : qcp → List Int,K = fun l=>l.map fun y=>cOf S.pages (y.1.toNat,(qao now y.1.toNat).getD ⟨[],0⟩):=⟨_,rfl⟩
 have hKp : ∀ p ∈ now,cOf S.pages ((p.1 : Int).toNat,(qao now (p.1 : Int).toNat).getD ⟨[],0⟩) = cOf S.pages p:=fun p hp=>by
  rw [Int.toNat_natCast,qcd hnd hp]; rfl
 have hstart : (K nm).sum = qhl S.pages now:=by
  rw [hK,perm_sum (hnow.map _),qex,List.map_map,qhl]
  congr 1
  exact List.map_congr_left fun p hp=>hKp p hp
 refine Cd.seq fun K5 hK5=>?_
 refine Cd.qac [(0,false)] rfl rfl ?_
 refine Jp.y 4 rfl (qaa rfl) rfl rfl Kp.true (Y.assign rfl rfl) ?_
 refine Jp.qae hK5 ?_
 refine Cd.seq fun K6 hK6=>?_
 refine Cd.qac [(0,false)] rfl rfl ?_
 refine Jp.y 5 rfl (qaa rfl) rfl rfl Kp.true (Y.assign rfl rfl) ?_
 refine Jp.qae hK6 ?_
 refine Cd.seq fun K7 hK7=>?_
 refine Cd.seq fun K8 hK8=>?_
 refine Cd.qac [(0,false),(1,false)] rfl rfl ?_
 refine Jp.y 8 rfl (qaa rfl) rfl rfl Kp.true (Y.move rfl rfl) ?_
 first | refine Jp.range 9 2 50 (by decide) rfl (qaa rfl) rfl rfl rfl rfl underlying65 rfl fun r2=>⟨Kp.true,?_⟩
 refine Jp.qae hK8 ?_
 refine Cd.block ?_
 refine Cd.qdv (G:=qcp × Int × Option (Int × Value)) (fun g=>g.2.1 + (K g.1).sum = qhl S.pages now ∧ (∀ y ∈ g.1,y ∈ nm) ∧ g.2.1.natAbs + g.1.length ≤ 16777216) (fun g=>g.1.length) (fun _=>_) (fun g=>[(5,.int .i64 g.2.1)]) [(0,_),(9,_)] (fun g=>[(2,RangeO .u32 nb r2 nm g.1 g.2.2)]) [(0,_),(1,_),(3,_)] ⟨nm,0,none⟩ ⟨by rw [hstart]; simp,fun y h=>h,by show (0 : Int).natAbs + nm.length ≤ _; simp; omega⟩ rfl ⟨rfl,trivial⟩ ⟨rfl,rfl,trivial⟩ ⟨rfl,trivial⟩ ⟨rfl,rfl,rfl,trivial⟩ (fun g KLa hok hLa=>?_)
 obtain ⟨left,k,cur⟩:=g
 obtain ⟨ok1,ok2,ok3⟩:=hok
 dsimp only at ok1 ok2 ok3 ⊢
 refine Cd.seq fun K9 hK9=>?_
 refine Cd.qac [(0,false),(1,false)] rfl rfl ?_
 refine Jp.next 10 2 rfl (qaa rfl) rfl rfl (fun _=>rfl) rfl rfl (fun hn=>⟨Kp.true,?_⟩) (fun q y hq=>⟨Kp.true,?_⟩)
 ·skip
  refine Jp.y 11 rfl (qaa rfl) rfl rfl Kp.true (Y.extract rfl rfl rfl) ?_
  refine Jp.qae hK9 ?_
  refine Cd.seq fun K10 hK10=>?_
  refine Cd.qbz rfl ?_
  refine Cd.exit rfl hK7 ?_
  refine Cd.seq fun K11 hK11=>?_
  refine Cd.qac [(0,false),(1,false)] rfl rfl ?_
  refine Jp.y 31 rfl (qaa rfl) rfl rfl Kp.true (Y.move rfl rfl) ?_
  refine Jp.y 4 rfl (qaa rfl) rfl rfl Kp.true (Y.assign rfl rfl) ?_
  refine Jp.qae hK11 ?_
  refine Cd.imp (i:=2) rfl RangeO.map ?_
  subst hn
  refine Cd.ret [(0,_),(1,_),(2,_),(3,_)] rfl (qbd rfl rfl) ⟨rfl,rfl,rfl,rfl,trivial⟩ ⟨rfl,congrArg (Value.int .i64) (by rw [← ok1,hK]; simp),rfl⟩
 ·have hy:=ok2 y (List.mem_of_getElem? hq)
  obtain ⟨p,hp,hpy⟩:=List.mem_map.1 (hnow.mem_iff.1 hy)
  subst hpy
  obtain ⟨hplt,hplen⟩:=hlt p hp
  have hpe:=qge hq
  have hql:=(List.getElem?_eq_some_iff.1 hq).1
  have hel : (left.eraseIdx q).length + 1 = left.length:=by rw [List.length_eraseIdx,if_pos hql]; omega
  have hsub : ∀ z ∈ left.eraseIdx q,z ∈ nm:=fun z hz=>ok2 z (List.mem_of_mem_eraseIdx hz)
  have hs : (K left).sum = cOf S.pages p + (K (left.eraseIdx q)).sum:=by
   rw [hK,perm_sum (hpe.map _),List.map_cons,List.sum_cons]
   exact congrArg (· + _) (hKp p hp)
  have hcl:=cOf_le S.pages p
  have hget:=hf.get p.1
  have hmem : (nblk p.1,qdf p.2) ∈ qbi now nblk:=List.mem_map.2 ⟨p,hp,rfl⟩
  have hcell:=Blks.cell hmem (qbv p.2 hplen)
  have hlook : ∀ P,(qhm x.pm (p.1 : Int)).getD (.pointer none) = P → P ≠ Value.pointer none ∨ True:=fun _ _=>.inr trivial
  refine Jp.y 11 rfl (qaa rfl) rfl rfl Kp.true (Y.extract rfl rfl rfl) ?_
  refine Jp.qae hK9 ?_
  refine Cd.seq fun K12 hK12=>?_
  refine Cd.qcw rfl ?_
  refine Cd.qbu hK12 ?_
  refine Cd.block ?_
  refine Cd.seq fun K13 hK13=>?_
  refine Cd.qac [(0,false),(1,false),(2,false),(3,false),(4,false)] rfl rfl ?_
  refine Jp.y 12 rfl (qaa rfl) rfl rfl Kp.true (by first | exact Y.entry 2 rfl rfl rfl) ?_
  refine Jp.y 13 rfl (qaa rfl) rfl rfl Kp.true (Y.extract rfl rfl rfl) ?_
  refine Jp.y 14 rfl (qaa rfl) rfl rfl Kp.true (Y.extract rfl rfl rfl) ?_
  refine Jp.y 6 rfl (qaa rfl) rfl rfl Kp.true (Y.assign rfl rfl) ?_
  refine Jp.y 7 rfl (qaa rfl) rfl rfl Kp.true (Y.assign rfl rfl) ?_
  refine Jp.qae hK13 ?_
  refine Cd.seq fun K14 hK14=>?_
  refine Cd.seq fun K15 hK15=>?_
  refine Cd.qac [(0,false),(1,false),(2,false),(3,false),(4,false)] rfl rfl ?_
  refine Jp.y 15 rfl (qaa rfl) rfl rfl Kp.true (Y.move rfl rfl) ?_
  refine Jp.y 16 rfl (qaa rfl) rfl rfl Kp.true (Y.qan rfl rfl) ?_
  refine Jp.y 17 rfl (qaa rfl) rfl rfl Kp.true (by exact Y.qad rfl rfl underlying132 rfl sizeOf3 (by decide) (show _ + 256 = _ from rfl)) ?_
  refine Jp.y 18 rfl (qaa rfl) rfl rfl Kp.true (by exact Y.qbg 3 rfl isAgg3 rfl rfl hcell) ?_
  refine Jp.y 19 rfl (qaa rfl) rfl rfl Kp.true (Y.gtr rfl rfl rfl) ?_
  refine Jp.qae hK15 ?_
  refine Cd.slot 19 rfl (show _ = Value.bool (decide (0 < p.2.perm)) from congrArg Value.bool (by simp)) ?_
  refine Cd.qgm (G:=Unit) (fun _=>True) (fun _=>[(5,.int .i64 (k + (if 0 < p.2.perm then 1 else 0)))]) [(0,_),(6,_),(9,_)] ⟨rfl,rfl,rfl,trivial⟩ (fun _=>[]) [(0,_),(1,_),(2,_),(3,_)] ⟨rfl,rfl,rfl,rfl,trivial⟩ hK14 (fun g hφ=>?_) (fun hj3=>?_)
  ·clear hφ
   refine Cd.seq fun K16 hK16=>?_
   refine Cd.qac [(0,false),(1,false),(2,false),(3,false),(4,false),(5,false),(6,false)] rfl rfl ?_
   rcases hg : qao S.pages p.1 with _ | p0
   ·have hc : cOf S.pages p = (if 0 < p.2.perm then 1 else 0):=by unfold cOf; rw [hg]; simp
    rw [hg] at hget
    refine Jp.y 22 rfl (qaa rfl) rfl rfl Kp.true (Y.move rfl rfl) ?_
    refine Jp.y 23 rfl (qaa rfl) rfl rfl Kp.true (Y.qan rfl rfl) ?_
    refine Jp.y 24 rfl (qaa rfl) rfl rfl Kp.true (by exact Y.qad rfl rfl underlying67 rfl sizeOf65 (by decide) (show _ + 1 = _ from rfl)) ?_
    refine Jp.y 25 rfl (qaa rfl) rfl rfl Kp.true (by exact Y.qau 0 rfl isAgg65 rfl rfl rfl) ?_
    refine Jp.y 26 rfl (qaa rfl) rfl rfl Kp.true (Y.move rfl rfl) ?_
    refine Jp.y 27 rfl (qaa rfl) rfl rfl Kp.true (by first | exact Y.lookup 1 rfl rfl rfl underlying65 underlying24 zeroValue82 rfl) ?_
    refine Jp.slot 27 rfl (show _ = Value.pointer none by rw [hget]; rfl) ?_
    refine Jp.y 28 rfl (qaa rfl) rfl rfl Kp.true (Y.ptrNotNil rfl underlying82 rfl rfl) ?_
    refine Jp.qae hK16 ?_
    refine Cd.qar rfl (fun gz=>?_) (fun gz=>?_)
    ·exact absurd gz (by simp)
    ·rw [← hc]
     refine CdQ.again rfl hLa ⟨left.eraseIdx q,k + cOf S.pages p,_⟩ ⟨by show k + cOf S.pages p + (K (left.eraseIdx q)).sum = _; omega,hsub,by show (k + cOf S.pages p).natAbs + (left.eraseIdx q).length ≤ _; omega⟩ (by show (left.eraseIdx q).length < left.length; omega) rfl ⟨rfl,rfl,rfl,trivial⟩ ⟨rfl,rfl,rfl,rfl,trivial⟩
   ·have hc : cOf S.pages p = (if 0 < p.2.perm then 1 else 0) - 1:=by unfold cOf; rw [hg]; simp
    rw [hg] at hget
    refine Jp.y 22 rfl (qaa rfl) rfl rfl Kp.true (Y.move rfl rfl) ?_
    refine Jp.y 23 rfl (qaa rfl) rfl rfl Kp.true (Y.qan rfl rfl) ?_
    refine Jp.y 24 rfl (qaa rfl) rfl rfl Kp.true (by exact Y.qad rfl rfl underlying67 rfl sizeOf65 (by decide) (show _ + 1 = _ from rfl)) ?_
    refine Jp.y 25 rfl (qaa rfl) rfl rfl Kp.true (by exact Y.qau 0 rfl isAgg65 rfl rfl rfl) ?_
    refine Jp.y 26 rfl (qaa rfl) rfl rfl Kp.true (Y.move rfl rfl) ?_
    refine Jp.y 27 rfl (qaa rfl) rfl rfl Kp.true (by first | exact Y.lookup 1 rfl rfl rfl underlying65 underlying24 zeroValue82 rfl) ?_
    refine Jp.slot 27 rfl (show _ = Value.pointer (some ⟨x.blk p.1,0,none⟩) by rw [hget]; rfl) ?_
    refine Jp.y 28 rfl (qaa rfl) rfl rfl Kp.true (Y.ptrNotNil rfl underlying82 rfl rfl) ?_
    refine Jp.qae hK16 ?_
    refine Cd.qar rfl (fun gz=>?_) (fun gz=>?_)
    ·have e1 : k + (if 0 < p.2.perm then 1 else 0) = k + cOf S.pages p + 1:=by omega
     rw [e1]
     refine Cd.qac [(0,false),(1,false),(2,false)] rfl rfl ?_
     refine Jp.y 29 rfl (qaa rfl) rfl rfl Kp.true (Y.move rfl rfl) ?_
     refine Jp.y 30 rfl (qaa rfl) rfl rfl Kp.true (Y.qfm rfl rfl rfl (by exact qaj (by omega) (by omega))) ?_
     refine Jp.slot 30 rfl (show _ = Value.int .i64 (k + cOf S.pages p) from congrArg (Value.int .i64) (by omega)) ?_
     refine Jp.y 5 rfl (qaa rfl) rfl rfl Kp.true (Y.assign rfl rfl) ?_
     refine JpQ.again rfl hLa ⟨left.eraseIdx q,k + cOf S.pages p,_⟩ ⟨by show k + cOf S.pages p + (K (left.eraseIdx q)).sum = _; omega,hsub,by show (k + cOf S.pages p).natAbs + (left.eraseIdx q).length ≤ _; omega⟩ (by show (left.eraseIdx q).length < left.length; omega) rfl ⟨rfl,rfl,rfl,trivial⟩ ⟨rfl,rfl,rfl,rfl,trivial⟩
    ·exact absurd gz (by simp)
  ·skip
   refine Cd.qar rfl (fun gp=>?_) (fun gp=>?_)
   ·have e : 0 < p.2.perm:=by simpa using gp
    refine Cd.qac [(0,false),(1,false),(2,false)] rfl rfl ?_
    refine Jp.y 20 rfl (qaa rfl) rfl rfl Kp.true (Y.move rfl rfl) ?_
    refine Jp.y 21 rfl (qaa rfl) rfl rfl Kp.true (Y.qcj rfl rfl rfl (by exact qaj (by omega) (by omega))) ?_
    refine Jp.slot 21 rfl (show _ = Value.int .i64 (k + (if 0 < p.2.perm then 1 else 0)) from congrArg (Value.int .i64) (by rw [if_pos e])) ?_
    refine Jp.y 5 rfl (qaa rfl) rfl rfl Kp.true (Y.assign rfl rfl) ?_
    refine Jp.qae hK14 ?_
    exact Cd.qcz (hj3 () trivial) ⟨rfl,rfl,rfl,rfl,trivial⟩ ⟨rfl,rfl,rfl,rfl,trivial⟩
   ·have e : ¬ 0 < p.2.perm:=by simpa using gp
    refine Cd.slot 5 rfl (show _ = Value.int .i64 (k + (if 0 < p.2.perm then 1 else 0)) from congrArg (Value.int .i64) (by rw [if_neg e,Int.add_zero])) ?_
    refine Cd.qbu hK14 ?_
    exact Cd.qcz (hj3 () trivial) ⟨rfl,rfl,rfl,rfl,trivial⟩ ⟨rfl,rfl,rfl,rfl,trivial⟩
end Go.Proofs.YtnfkalpgidiafaaGreat

namespace Go.Proofs.YtnfkalpgidiafaaGreat
open Go
structure NowOk (now : List (Nat × Pg)) : Prop where
 nodup : (now.map (·.1)).Nodup
 al : ∀ y ∈ now,y.1 % 256 = 0 ∧ y.1 < 4294967296
 len : ∀ y ∈ now,y.2.b.length = 256
 cnt : ∀ y ∈ now,y.2.perm = qek y.2.b
def nowB (l now : List (Nat × Pg)) (k : Nat) : qal:=match qao now k with
 | some p=>p.b
 | none=>bOf l k
def qds (now : List (Nat × Pg)) (k : Nat) (p : Pg) : List (Nat × Pg):=match qao now k with
 | some _=>qbt now k p
 | none=>now ++ [(k,p)]
def pgB (b : qal) : Pg:=⟨b,qek b⟩
def now1 (l now : List (Nat × Pg)) (x : Nat) (v : UInt8) : List (Nat × Pg):=qds now (qap x) (pgB ((nowB l now (qap x)).set (x % 256) v))
def nowP (l : List (Nat × Pg)) (a : Nat) (bs : qal) : Nat → List (Nat × Pg)
 | 0=>[]
 | i + 1=>now1 l (nowP l a bs i) (a + i) (bs.getD i 0)
theorem getPg_snoc {l : List (Nat × Pg)} {k : Nat} {p : Pg} (h : qao l k = none) (j : Nat) : qao (l ++ [(k,p)]) j = if j = k then some p else qao l j:=by
 induction l with
 | nil =>
  simp only [List.nil_append,qao]
  by_cases e : k = j
  ·subst e; simp
  ·rw [if_neg e,if_neg (Ne.symm e)]
 | cons y l ih =>
  obtain ⟨y,q⟩:=y
  simp only [qao] at h
  split at h
  ·cases h
  ·rename_i hy
   simp only [List.cons_append,qao]
   by_cases e : y = j
   ·subst e; rw [if_pos rfl,if_neg hy,if_pos rfl]
   ·rw [if_neg e,if_neg e]; exact ih h
theorem getPg_nowPut (now : List (Nat × Pg)) (k : Nat) (p : Pg) (j : Nat) : qao (qds now k p) j = if j = k then some p else qao now j:=by
 unfold qds
 cases h : qao now k with
 | none=>exact getPg_snoc h j
 | some q=>dsimp only; rw [qhs,h]; rfl
theorem nowPut_ok {now : List (Nat × Pg)} (h : NowOk now) {k : Nat} {b : qal} (hk : k % 256 = 0) (hk2 : k < 4294967296) (hb : b.length = 256) : NowOk (qds now k (pgB b)):=by
 have hmem : ∀ y ∈ qds now k (pgB b),y = (k,pgB b) ∨ y ∈ now:=by
  intro y hy
  unfold qds at hy
  split at hy
  ·obtain ⟨z,hz,e⟩:=List.mem_map.1 hy
   split at e
   ·exact .inl e.symm
   ·exact .inr (e ▸ hz)
  ·rcases List.mem_append.1 hy with h | h
   ·exact .inr h
   ·exact .inl (List.mem_singleton.1 h)
 refine ⟨?_,fun y hy=>?_,fun y hy=>?_,fun y hy=>?_⟩
 ·unfold qds
  split
  ·rw [qem]; exact h.nodup
  ·rename_i e
   rw [List.map_append,List.nodup_append]
   refine ⟨h.nodup,by simp,fun x hx y hy=>?_⟩
   simp at hy
   subst hy
   intro e2
   subst e2
   exact qbm.1 e hx
 ·rcases hmem y hy with rfl | h'
  ·exact ⟨hk,hk2⟩
  ·exact h.al y h'
 ·rcases hmem y hy with rfl | h'
  ·exact hb
  ·exact h.len y h'
 ·rcases hmem y hy with rfl | h'
  ·rfl
  ·exact h.cnt y h'
theorem nowB_len {l now : List (Nat × Pg)} (h : ShOk l) (hn : NowOk now) (k : Nat) : (nowB l now k).length = 256:=by
 unfold nowB
 cases e : qao now k with
 | none=>exact bOf_len h k
 | some p=>exact hn.len _ (qbc e)
theorem now1_ok {l now : List (Nat × Pg)} (h : ShOk l) (hn : NowOk now) {x : Nat} (hx : x < 4294967296) (v : UInt8) : NowOk (now1 l now x v) :=
 nowPut_ok hn (base_mod x) (by have:=base_le x; omega) (by rw [List.length_set]; exact nowB_len h hn _)
theorem nowP_ok {l : List (Nat × Pg)} (h : ShOk l) {a : Nat} {bs : qal} : ∀ {i : Nat},a + i ≤ 4294967296 → NowOk (nowP l a bs i)
 | 0,_=>⟨by simp [nowP],fun y h=>by simp [nowP] at h,fun y h=>by simp [nowP] at h,fun y h=>by simp [nowP] at h⟩
 | i + 1,hi=>now1_ok h (nowP_ok h (by omega)) (by omega) _
def labN (l now : List (Nat × Pg)) (x : Nat) : UInt8:=(nowB l now (qap x)).getD (x % 256) 0
theorem labN_now1 {l now : List (Nat × Pg)} (h : ShOk l) (hn : NowOk now) (a : Nat) (v : UInt8) (x : Nat) : labN l (now1 l now a v) x = if x = a then v else labN l now x:=by
 have hl:=nowB_len h hn (qap a)
 have hm : a % 256 < 256:=Nat.mod_lt _ (by decide)
 have hB : ∀ k,nowB l (now1 l now a v) k = if k = qap a then (nowB l now (qap a)).set (a % 256) v else nowB l now k:=fun k=>by
  conv=>lhs; unfold nowB now1
  rw [getPg_nowPut]
  by_cases e : k = qap a
  ·rw [if_pos e,if_pos e]; rfl
  ·rw [if_neg e,if_neg e]; rfl
 unfold labN
 rw [hB]
 by_cases hb : qap x = qap a
 ·rw [if_pos hb]
  by_cases hx : x = a
  ·subst hx
   rw [if_pos rfl,List.getD_eq_getElem?_getD,List.getElem?_set_self (by omega)]; rfl
  ·rw [if_neg hx,hb,List.getD_eq_getElem?_getD,List.getD_eq_getElem?_getD,List.getElem?_set_ne]
   intro e; exact hx (base_eq hb e.symm)
 ·rw [if_neg hb,if_neg (by intro e; exact hb (by rw [e]))]
theorem labN_nowP {l : List (Nat × Pg)} (h : ShOk l) {a : Nat} {bs : qal} : ∀ {i : Nat},a + i ≤ 4294967296 → ∀ x,labN l (nowP l a bs i) x = if a ≤ x ∧ x < a + i then bs.getD (x - a) 0 else labL l x
 | 0,_,x=>by rw [if_neg (by omega),qgg]; rfl
 | i + 1,hi,x=>by
  rw [nowP,labN_now1 h (nowP_ok h (by omega)),labN_nowP h (by omega)]
  by_cases e : x = a + i
  ·rw [if_pos e,if_pos (by omega),e,Nat.add_sub_cancel_left]
  ·rw [if_neg e]
   by_cases e2 : a ≤ x ∧ x < a + i
   ·rw [if_pos e2,if_pos (by omega)]
   ·rw [if_neg e2,if_neg (by omega)]
def putAll (l now : List (Nat × Pg)) : List (Nat × Pg):=now.foldl (fun l y=>qdh l y.1 y.2.b) l
theorem putAll_ok : ∀ {now l : List (Nat × Pg)},ShOk l → (∀ y ∈ now,y.1 % 256 = 0 ∧ y.1 < 4294967296) → (∀ y ∈ now,y.2.b.length = 256) → ShOk (putAll l now)
 | [],l,h,_,_=>h
 | y :: now,l,h,h1,h2=>putAll_ok (now:=now) (qhi h (h1 y (List.mem_cons_self ..)).1 (h1 y (List.mem_cons_self ..)).2 (h2 y (List.mem_cons_self ..))) (fun z hz=>h1 z (List.mem_cons_of_mem _ hz)) fun z hz=>h2 z (List.mem_cons_of_mem _ hz)
theorem qfs : ∀ {now l : List (Nat × Pg)},ShOk l → (now.map (·.1)).Nodup → (∀ y ∈ now,y.1 % 256 = 0 ∧ y.1 < 4294967296) → (∀ y ∈ now,y.2.b.length = 256) → ∀ j,qao (putAll l now) j = match qao now j with
  | some p=>if qek p.b = 0 then none else some (pgB p.b)
  | none=>qao l j
 | [],l,h,_,_,_,j=>rfl
 | y :: now,l,h,hn,h1,h2,j=>by
  rw [List.map_cons,List.nodup_cons] at hn
  have h' : ShOk (qdh l y.1 y.2.b):=qhi h (h1 y (List.mem_cons_self ..)).1 (h1 y (List.mem_cons_self ..)).2 (h2 y (List.mem_cons_self ..))
  have ih:=qfs (now:=now) h' hn.2 (fun z hz=>h1 z (List.mem_cons_of_mem _ hz)) (fun z hz=>h2 z (List.mem_cons_of_mem _ hz)) j
  show qao (putAll (qdh l y.1 y.2.b) now) j = _
  rw [ih]
  obtain ⟨k,p⟩:=y
  simp only [qao]
  by_cases e : k = j
  ·subst e
   rw [qbm.2 hn.1,if_pos rfl]
   dsimp only
   rw [qer h,if_pos rfl]; rfl
  ·rw [if_neg e]
   cases hg : qao now j with
   | some q=>rfl
   | none=>dsimp only; rw [qer h,if_neg (Ne.symm e)]
theorem lay_putAll {l : List (Nat × Pg)} (h : ShOk l) {a : Nat} {bs : qal} (ha : a + bs.length ≤ 4294967296) : putAll l (nowP l a bs bs.length) = layP l a bs:=by
 have hn:=nowP_ok h (bs:=bs) ha
 have hok:=putAll_ok h hn.al hn.len
 refine lab_ext hok (lay_ok h ha) fun x hx=>?_
 rw [labL_lay h ha,← labN_nowP h (bs:=bs) ha,qgg]
 unfold labN
 congr 1
 have hg:=qfs h hn.nodup hn.al hn.len (qap x)
 unfold nowB
 conv=>lhs; unfold bOf
 rw [hg]
 cases e : qao (nowP l a bs bs.length) (qap x) with
 | none=>dsimp only; unfold bOf; rfl
 | some p =>
  dsimp only
  by_cases hz : qek p.b = 0
  ·rw [if_pos hz]
   have h0:=qhx.1 hz
   refine bytes_ext qda (hn.len _ (qbc e)) fun i hi=>?_
   have hl : p.b.length = 256:=hn.len _ (qbc e)
   rw [qhb,List.getD_eq_getElem?_getD,List.getElem?_eq_getElem (by omega)]
   exact (h0 _ (List.getElem_mem _)).symm
  ·rw [if_neg hz]; rfl
theorem putPg_len {l : List (Nat × Pg)} (h : ShOk l) (k : Nat) (b : qal) : ((qdh l k b).length : Int) = l.length + cOf l (k,pgB b):=by
 unfold qdh cOf pgB
 cases e : qao l k with
 | none =>
  dsimp only
  split
  ·rename_i hz; simp [hz]
  ·rw [(qby _ _ _).length_eq,List.length_cons]
   have : 0 < qek b:=by omega
   simp [this]
 | some p =>
  dsimp only
  have hrem : (remPg l k).length + 1 = l.length:=by
   have hn:=h.rising.nodup
   have hm:=qbc e
   clear e h
   unfold remPg
   induction l with
   | nil=>cases hm
   | cons y l ih =>
    rw [List.map_cons,List.nodup_cons] at hn
    rw [List.filter_cons]
    by_cases hy : y.1 = k
    ·have hall : l.filter (fun x=>x.1 != k) = l:=List.filter_eq_self.2 fun z hz=>by
      have : z.1 ≠ k:=fun e=>hn.1 (by rw [hy,← e]; exact List.mem_map.2 ⟨z,hz,rfl⟩)
      simpa using this
     simp [hy,hall]
    ·have hm' : (k,p) ∈ l:=(List.mem_cons.1 hm).resolve_left fun e=>hy (by rw [← e])
     have:=ih hn.2 hm'
     simp [hy]; omega
  split
  ·rename_i hz
   simp [hz]; omega
  ·have : 0 < qek b:=by omega
   rw [qbt,List.length_map]
   simp [this]
theorem putAll_len : ∀ {now l : List (Nat × Pg)},ShOk l → (now.map (·.1)).Nodup → (∀ y ∈ now,y.1 % 256 = 0 ∧ y.1 < 4294967296) → (∀ y ∈ now,y.2.b.length = 256) → (∀ y ∈ now,y.2.perm = qek y.2.b) → ((putAll l now).length : Int) = l.length + qhl l now
 | [],l,h,_,_,_,_=>by simp [putAll,qhl]
 | y :: now,l,h,hn,h1,h2,h3=>by
  rw [List.map_cons,List.nodup_cons] at hn
  have h' : ShOk (qdh l y.1 y.2.b):=qhi h (h1 y (List.mem_cons_self ..)).1 (h1 y (List.mem_cons_self ..)).2 (h2 y (List.mem_cons_self ..))
  have ih:=putAll_len (now:=now) h' hn.2 (fun z hz=>h1 z (List.mem_cons_of_mem _ hz)) (fun z hz=>h2 z (List.mem_cons_of_mem _ hz)) (fun z hz=>h3 z (List.mem_cons_of_mem _ hz))
  have e1 : qhl (qdh l y.1 y.2.b) now = qhl l now:=by
   unfold qhl
   congr 1
   refine List.map_congr_left fun z hz=>?_
   unfold cOf
   have hne : ¬ z.1 = y.1:=fun e=>hn.1 (by rw [← e]; exact List.mem_map.2 ⟨z,hz,rfl⟩)
   rw [qer h,if_neg hne]
  have e2 : cOf l (y.1,pgB y.2.b) = cOf l y:=by
   have:=h3 y (List.mem_cons_self ..)
   unfold cOf pgB
   rw [this]
  show ((putAll (qdh l y.1 y.2.b) now).length : Int) = _
  rw [ih,e1,putPg_len h,e2]
  show _ = _ + (cOf l y :: now.map (cOf l)).sum
  rw [List.sum_cons]
  unfold qhl
  omega
theorem nowP_length {l : List (Nat × Pg)} {a : Nat} {bs : qal} : ∀ {i : Nat},(nowP l a bs i).length ≤ i
 | 0=>Nat.le_refl _
 | i + 1=>by
  have:=nowP_length (l:=l) (a:=a) (bs:=bs) (i:=i)
  rw [nowP,now1,qds]
  split
  ·rw [qbt,List.length_map]; omega
  ·rw [List.length_append,List.length_singleton]; omega
end Go.Proofs.YtnfkalpgidiafaaGreat
