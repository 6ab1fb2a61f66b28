import Derived.Test.YthjelpbaljapiaaGreatZP5
import Derived.Test.YthjelpbaljapiaaGreatZP2
set_option linter.unusedVariables false
set_option linter.unusedSimpArgs false
set_option maxRecDepth 100000
namespace Go.Proofs.YthjelpbaljapiaaGreat
open _root_.Go.Proofs.Tryz
open Go
theorem refAsk_spec (b : Nat) (M : MemG) (a : Nat) (size need : Int) (ha : a < 4294967296) : Spec Tryz.prog 48 #[.pointer (some ⟨b,0,none⟩),.int .u32 a,.int .i64 size,.int .i64 need] (fun _=>True) [(0,RefO b M)]
  (fun ρ ρ' v L=>ρ' = ρ ∧ v = .tuple #[.int .i64 (if qbk M a size need = 0 then (qfl M.pages (qan a) : Int) else 0),.int .i64 (qbk M a size need)] ∧ L = [(0,RefO b M)]):=by
 refine Spec.of 50 Tryz.func48 rfl Tryz.ntmps48 [(0,_),(1,_),(2,_),(3,_)] rfl rfl ?_
 intro cx ρ hr h0
 refine Cd.know (A:=RefO b M) 0 rfl RefO.ok fun hmem=>?_
 have hroom:=hmem.room
 have hbud:=hmem.budget.2
 refine Cd.seq fun K1 hK1=>?_
 refine Cd.qac [(0,false),(1,false)] rfl rfl ?_
 refine Jp.y 8 rfl (qaa rfl) rfl rfl Kp.true (Y.assign rfl rfl) ?_
 refine Jp.y 9 rfl (qaa rfl) rfl rfl Kp.true (Y.assign rfl rfl) ?_
 refine Jp.qae hK1 ?_
 refine Cd.seq fun K2 hK2=>?_
 refine Cd.seq fun K3 hK3=>?_
 refine Cd.qac [(0,false),(1,false),(2,false),(3,false),(4,false),(5,false),(6,false),(7,false),(8,false),(9,false),(10,false),(11,false),(12,false),(13,false),(14,false),(15,false),(16,false)] rfl rfl ?_
 refine Jp.y 12 rfl (qaa rfl) rfl rfl Kp.true (Y.move rfl rfl) ?_
 refine Jp.y 13 rfl (qaa rfl) rfl rfl Kp.true (Y.neq rfl rfl rfl) ?_
 refine Jp.y 14 rfl (qaa rfl) rfl rfl Kp.true (Y.move rfl rfl) ?_
 refine Jp.split 14 rfl (fun g14=>?_) (fun g14=>?_)
 ·skip
  try simp only [sG0] at g14
  refine Jp.y 15 rfl (qab rfl rfl rfl rfl) rfl rfl Kp.true (Y.move rfl rfl) ?_
  refine Jp.y 16 rfl (qab rfl rfl rfl rfl) rfl rfl Kp.true (Y.neq rfl rfl rfl) ?_
  refine Jp.y 17 rfl (qaa rfl) rfl rfl Kp.true (Y.qat rfl rfl rfl) ?_
  refine Jp.y 18 rfl (qaa rfl) rfl rfl Kp.true (Y.move rfl rfl) ?_
  refine Jp.split 18 rfl (fun g18=>?_) (fun g18=>?_)
  ·skip
   try simp only [sG0] at g18
   refine Jp.y 19 rfl (qab rfl rfl rfl rfl) rfl rfl Kp.true (Y.move rfl rfl) ?_
   refine Jp.y 20 rfl (qab rfl rfl rfl rfl) rfl rfl Kp.true (Y.neq rfl rfl rfl) ?_
   refine Jp.y 21 rfl (qaa rfl) rfl rfl Kp.true (Y.qat rfl rfl rfl) ?_
   refine Jp.y 22 rfl (qaa rfl) rfl rfl Kp.true (Y.move rfl rfl) ?_
   refine Jp.split 22 rfl (fun g22=>?_) (fun g22=>?_)
   ·skip
    try simp only [sG0] at g22
    refine Jp.qak 23 rfl (qab rfl rfl rfl rfl) rfl rfl Kp.true ?_
    refine Jp.qak 24 rfl (qab rfl rfl rfl rfl) rfl rfl Kp.true ?_
    refine Jp.qak 25 rfl (qab rfl rfl rfl rfl) rfl rfl Kp.true ?_
    refine Jp.qak 26 rfl (qab rfl rfl rfl rfl) rfl rfl Kp.true ?_
    refine Jp.qak 27 rfl (qab rfl rfl rfl rfl) rfl rfl Kp.true ?_
    refine Jp.y 28 rfl (qaa rfl) rfl rfl Kp.true (Y.qat rfl rfl rfl) ?_
    refine Jp.qae hK3 ?_
    refine Cd.qcw rfl ?_
    refine Cd.seq fun K4 hK4=>?_
    refine Cd.qac [(0,false),(1,false)] rfl rfl ?_
    refine Jp.y 8 rfl (qaa rfl) rfl rfl Kp.true (Y.assign rfl rfl) ?_
    refine Jp.y 9 rfl (qaa rfl) rfl rfl Kp.true (Y.assign rfl rfl) ?_
    refine Jp.qae hK4 ?_
    refine Cd.ret [(0,_)] rfl (qbd rfl rfl rfl) ⟨rfl,trivial⟩ ⟨rfl,?_,rfl⟩
    have h3 : qbk M a size need = 3:=by
     rw [qbk,if_pos]
     simp only [qch,Bool.and_eq_false_iff,Bool.or_eq_false_iff,beq_eq_false_iff_ne,ne_eq]
     omega
    rw [h3]; rfl
   ·skip
    try simp only [sG0] at g22
    refine Jp.y 23 rfl (qab rfl rfl rfl rfl) rfl rfl Kp.true (Y.move rfl rfl) ?_
    refine Jp.y 24 rfl (qab rfl rfl rfl rfl) rfl rfl Kp.true (Y.move rfl rfl) ?_
    refine Jp.y 25 rfl (qab rfl rfl rfl rfl) rfl rfl Kp.true (Y.qap rfl rfl underlying3 underlying24 (by exact qax (by omega) (by omega))) ?_
    refine Jp.y 26 rfl (qab rfl rfl rfl rfl) rfl rfl Kp.true (by exact Y.remN rfl rfl rfl (by omega) (by omega)) ?_
    refine Jp.y 27 rfl (qab rfl rfl rfl rfl) rfl rfl Kp.true (Y.neq rfl rfl rfl) ?_
    refine Jp.y 28 rfl (qaa rfl) rfl rfl Kp.true (Y.qao rfl rfl rfl) ?_
    refine Jp.qae hK3 ?_
    refine Cd.qal rfl (fun g28=>?_) (fun g28=>?_)
    ·skip
     try simp only [sG0] at g28
     refine Cd.seq fun K5 hK5=>?_
     refine Cd.qac [(0,false),(1,false)] rfl rfl ?_
     refine Jp.y 8 rfl (qaa rfl) rfl rfl Kp.true (Y.assign rfl rfl) ?_
     refine Jp.y 9 rfl (qaa rfl) rfl rfl Kp.true (Y.assign rfl rfl) ?_
     refine Jp.qae hK5 ?_
     refine Cd.ret [(0,_)] rfl (qbd rfl rfl rfl) ⟨rfl,trivial⟩ ⟨rfl,?_,rfl⟩
     have h3 : qbk M a size need = 3:=by
      rw [qbk,if_pos]
      simp only [qch,Bool.and_eq_false_iff,Bool.or_eq_false_iff,beq_eq_false_iff_ne,ne_eq]
      omega
     rw [h3]; rfl
    ·skip
     try simp only [sG0] at g28
     refine Cd.qbi hK2 ?_
     refine Cd.seq fun K6 hK6=>?_
     have hs : qch a size = true:=by
      simp only [qch,Bool.and_eq_true,Bool.or_eq_true,beq_iff_eq]
      omega
     refine Cd.qac [(0,false),(1,false),(2,false),(3,false),(4,false),(5,false),(6,false),(7,false)] rfl rfl ?_
     refine Jp.y 30 rfl (qaa rfl) rfl rfl Kp.true (Y.move rfl rfl) ?_
     refine Jp.y 31 rfl (qaa rfl) rfl rfl Kp.true (Y.move rfl rfl) ?_
     refine Jp.call [0] [0] (refAt_spec b M a ha) 32 rfl (qaa rfl) rfl rfl (Runs.fn rfl call76 rfl) (by decide) (by decide) rfl trivial ?_
     rintro v1 ρ1 L1 ⟨rfl,rfl,rfl⟩
     refine ⟨rfl,fun hle1=>⟨Kp.true,?_⟩⟩
     rcases hg : qbc M.pages (qan a) with _ | p
     ·have hlk : qbk M a size need = 1:=by rw [qbk,if_neg (by rw [hs]; simp),hg]
      refine Jp.y 29 rfl (qaa rfl) rfl rfl Kp.true (Y.move rfl rfl) ?_
      refine Jp.y 33 rfl (qaa rfl) rfl rfl Kp.true (Y.extract rfl rfl rfl) ?_
      refine Jp.y 34 rfl (qaa rfl) rfl rfl Kp.true (Y.extract rfl rfl rfl) ?_
      refine Jp.y 10 rfl (qaa rfl) rfl rfl Kp.true (Y.assign rfl rfl) ?_
      refine Jp.y 11 rfl (qaa rfl) rfl rfl Kp.true (Y.assign rfl rfl) ?_
      refine Jp.qae hK6 ?_
      refine Cd.seq fun K7 hK7=>?_
      refine Cd.seq fun K8 hK8=>?_
      refine Cd.qac [(0,false),(1,false)] rfl rfl ?_
      refine Jp.y 35 rfl (qaa rfl) rfl rfl Kp.true (Y.move rfl rfl) ?_
      refine Jp.y 36 rfl (qaa rfl) rfl rfl Kp.true (Y.not rfl rfl) ?_
      refine Jp.qae hK8 ?_
      refine Cd.qal rfl (fun gk=>?_) (fun gk=>?_)
      ·skip
       refine Cd.seq fun K9 hK9=>?_
       refine Cd.qac [(0,false),(1,false)] rfl rfl ?_
       refine Jp.y 8 rfl (qaa rfl) rfl rfl Kp.true (Y.assign rfl rfl) ?_
       refine Jp.y 9 rfl (qaa rfl) rfl rfl Kp.true (Y.assign rfl rfl) ?_
       refine Jp.qae hK9 ?_
       refine Cd.ret [(0,_)] rfl (qbd rfl rfl rfl) ⟨rfl,trivial⟩ ⟨rfl,by rw [hlk]; rfl,rfl⟩
      ·exact absurd gk (by simp)
     ·have hlk : qbk M a size need = if may p.perm need then 0 else 2:=by rw [qbk,if_neg (by rw [hs]; simp),hg]
      have hx:=qfk hmem.rising hg
      obtain ⟨f,hfp⟩ : ∃ f,qfl M.pages (qan a) = f:=⟨_,rfl⟩
      rw [hfp] at hx ⊢
      have hfl:=(List.getElem?_eq_some_iff.1 hx).1
      refine Jp.y 29 rfl (qaa rfl) rfl rfl Kp.true (Y.move rfl rfl) ?_
      refine Jp.y 33 rfl (qaa rfl) rfl rfl Kp.true (Y.extract rfl rfl rfl) ?_
      refine Jp.y 34 rfl (qaa rfl) rfl rfl Kp.true (Y.extract rfl rfl rfl) ?_
      refine Jp.y 10 rfl (qaa rfl) rfl rfl Kp.true (Y.assign rfl rfl) ?_
      refine Jp.y 11 rfl (qaa rfl) rfl rfl Kp.true (Y.assign rfl rfl) ?_
      refine Jp.qae hK6 ?_
      refine Cd.seq fun K10 hK10=>?_
      refine Cd.seq fun K11 hK11=>?_
      refine Cd.qac [(0,false),(1,false)] rfl rfl ?_
      refine Jp.y 35 rfl (qaa rfl) rfl rfl Kp.true (Y.move rfl rfl) ?_
      refine Jp.y 36 rfl (qaa rfl) rfl rfl Kp.true (Y.not rfl rfl) ?_
      refine Jp.qae hK11 ?_
      refine Cd.qal rfl (fun gk=>?_) (fun gk=>?_)
      ·exact absurd gk (by simp)
      ·refine Cd.refOpen 0 1 2 (by decide) rfl fun A c B dg gl hf=>?_
       have hrows:=hf.rows
       refine Cd.ownAt 1 rfl (show 0 < M.pages.length by omega) ?_
       rintro b1 rfl
       have c1:=(OwnS.hasC (e:=64) (m:=258) (k:=M.pages.length) (c:=c) (ad:=⟨b1,0,none⟩) (qfq hrows hx (refPg_perm _))).two
       refine Cd.qbi hK10 ?_
       refine Cd.seq fun K12 hK12=>?_
       refine Cd.seq fun K13 hK13=>?_
       refine Cd.qac [(0,false),(1,false),(2,false),(3,false),(4,false),(5,false),(6,false),(7,false),(8,false),(9,false),(10,false),(11,false)] rfl rfl ?_
       refine Jp.y 37 rfl (qaa rfl) rfl rfl Kp.true (Y.move rfl rfl) ?_
       refine Jp.y 38 rfl (qaa rfl) rfl rfl Kp.true (Y.qau rfl rfl) ?_
       refine Jp.y 39 rfl (qaa rfl) rfl rfl Kp.true (by exact Y.qad rfl rfl underlying60 rfl sizeOf57 (by decide) (show _ + 1 = _ from rfl)) ?_
       refine Jp.y 40 rfl (qaa rfl) rfl rfl Kp.true (by exact Y.qaq 0 rfl isAgg57 rfl rfl rfl) ?_
       refine Jp.y 41 rfl (qaa rfl) rfl rfl Kp.true (Y.move rfl rfl) ?_
       refine Jp.y 42 rfl (qaa rfl) rfl rfl Kp.true (Y.qar (q:=f * 258) rfl rfl rfl underlying57 sizeOf64 (by omega) (by omega) (by omega)) ?_
       refine Jp.y 43 rfl (qaa rfl) rfl rfl Kp.true (by exact Y.qdn rfl rfl underlying64 rfl sizeOf3 (by decide)) ?_
       refine Jp.y 44 rfl (qaa rfl) rfl rfl Kp.true (by exact Y.qbs 1 rfl isAgg3 rfl rfl c1) ?_
       refine Jp.y 45 rfl (qaa rfl) rfl rfl Kp.true (Y.move rfl rfl) ?_
       refine Jp.y 46 rfl (qaa rfl) rfl rfl Kp.true (Y.bits rfl rfl rfl rfl) ?_
       refine Jp.y 47 rfl (qaa rfl) rfl rfl Kp.true (Y.move rfl rfl) ?_
       refine Jp.y 48 rfl (qaa rfl) rfl rfl Kp.true (Y.neq rfl rfl rfl) ?_
       refine Jp.qae hK13 ?_
       refine Cd.qal rfl (fun gm=>?_) (fun gm=>?_)
       ·have hm : may p.perm need = false:=by simpa [may] using gm
        refine Cd.seq fun K14 hK14=>?_
        refine Cd.qac [(0,false),(1,false)] rfl rfl ?_
        refine Jp.y 8 rfl (qaa rfl) rfl rfl Kp.true (Y.assign rfl rfl) ?_
        refine Jp.y 9 rfl (qaa rfl) rfl rfl Kp.true (Y.assign rfl rfl) ?_
        refine Jp.qae hK14 ?_
        refine Cd.refClose (b:=b) (M:=M) 0 1 2 (by decide) hf rfl rfl rfl ?_
        refine Cd.ret [(0,_)] rfl (qbd rfl rfl rfl) ⟨rfl,trivial⟩ ⟨rfl,by rw [hlk,hm]; rfl,rfl⟩
       ·have hm : may p.perm need = true:=by simpa [may] using gm
        refine Cd.qbi hK12 ?_
        refine Cd.seq fun K15 hK15=>?_
        refine Cd.qac [(0,false),(1,false),(2,false)] rfl rfl ?_
        refine Jp.y 49 rfl (qaa rfl) rfl rfl Kp.true (Y.move rfl rfl) ?_
        refine Jp.y 8 rfl (qaa rfl) rfl rfl Kp.true (Y.assign rfl rfl) ?_
        refine Jp.y 9 rfl (qaa rfl) rfl rfl Kp.true (Y.assign rfl rfl) ?_
        refine Jp.qae hK15 ?_
        refine Cd.refClose (b:=b) (M:=M) 0 1 2 (by decide) hf rfl rfl rfl ?_
        refine Cd.ret [(0,_)] rfl (qbd rfl rfl rfl) ⟨rfl,trivial⟩ ⟨rfl,by rw [hlk,hm,hfp]; rfl,rfl⟩
  ·skip
   try simp only [sG0] at g18
   refine Jp.qak 19 rfl (qab rfl rfl rfl rfl) rfl rfl Kp.true ?_
   refine Jp.qak 20 rfl (qab rfl rfl rfl rfl) rfl rfl Kp.true ?_
   refine Jp.y 21 rfl (qaa rfl) rfl rfl Kp.true (Y.qao rfl rfl rfl) ?_
   refine Jp.y 22 rfl (qaa rfl) rfl rfl Kp.true (Y.move rfl rfl) ?_
   refine Jp.y 23 rfl (qab rfl rfl rfl rfl) rfl rfl Kp.true (Y.move rfl rfl) ?_
   refine Jp.y 24 rfl (qab rfl rfl rfl rfl) rfl rfl Kp.true (Y.move rfl rfl) ?_
   refine Jp.y 25 rfl (qab rfl rfl rfl rfl) rfl rfl Kp.true (Y.qap rfl rfl underlying3 underlying24 (by exact qax (by omega) (by omega))) ?_
   refine Jp.y 26 rfl (qab rfl rfl rfl rfl) rfl rfl Kp.true (by exact Y.remN rfl rfl rfl (by omega) (by omega)) ?_
   refine Jp.y 27 rfl (qab rfl rfl rfl rfl) rfl rfl Kp.true (Y.neq rfl rfl rfl) ?_
   refine Jp.y 28 rfl (qaa rfl) rfl rfl Kp.true (Y.qao rfl rfl rfl) ?_
   refine Jp.qae hK3 ?_
   refine Cd.qal rfl (fun g28=>?_) (fun g28=>?_)
   ·skip
    try simp only [sG0] at g28
    refine Cd.seq fun K16 hK16=>?_
    refine Cd.qac [(0,false),(1,false)] rfl rfl ?_
    refine Jp.y 8 rfl (qaa rfl) rfl rfl Kp.true (Y.assign rfl rfl) ?_
    refine Jp.y 9 rfl (qaa rfl) rfl rfl Kp.true (Y.assign rfl rfl) ?_
    refine Jp.qae hK16 ?_
    refine Cd.ret [(0,_)] rfl (qbd rfl rfl rfl) ⟨rfl,trivial⟩ ⟨rfl,?_,rfl⟩
    have h3 : qbk M a size need = 3:=by
     rw [qbk,if_pos]
     simp only [qch,Bool.and_eq_false_iff,Bool.or_eq_false_iff,beq_eq_false_iff_ne,ne_eq]
     omega
    rw [h3]; rfl
   ·skip
    try simp only [sG0] at g28
    refine Cd.qbi hK2 ?_
    refine Cd.seq fun K17 hK17=>?_
    have hs : qch a size = true:=by
     simp only [qch,Bool.and_eq_true,Bool.or_eq_true,beq_iff_eq]
     omega
    refine Cd.qac [(0,false),(1,false),(2,false),(3,false),(4,false),(5,false),(6,false),(7,false)] rfl rfl ?_
    refine Jp.y 30 rfl (qaa rfl) rfl rfl Kp.true (Y.move rfl rfl) ?_
    refine Jp.y 31 rfl (qaa rfl) rfl rfl Kp.true (Y.move rfl rfl) ?_
    refine Jp.call [0] [0] (refAt_spec b M a ha) 32 rfl (qaa rfl) rfl rfl (Runs.fn rfl call76 rfl) (by decide) (by decide) rfl trivial ?_
    rintro v1 ρ1 L1 ⟨rfl,rfl,rfl⟩
    refine ⟨rfl,fun hle1=>⟨Kp.true,?_⟩⟩
    rcases hg : qbc M.pages (qan a) with _ | p
    ·have hlk : qbk M a size need = 1:=by rw [qbk,if_neg (by rw [hs]; simp),hg]
     refine Jp.y 29 rfl (qaa rfl) rfl rfl Kp.true (Y.move rfl rfl) ?_
     refine Jp.y 33 rfl (qaa rfl) rfl rfl Kp.true (Y.extract rfl rfl rfl) ?_
     refine Jp.y 34 rfl (qaa rfl) rfl rfl Kp.true (Y.extract rfl rfl rfl) ?_
     refine Jp.y 10 rfl (qaa rfl) rfl rfl Kp.true (Y.assign rfl rfl) ?_
     refine Jp.y 11 rfl (qaa rfl) rfl rfl Kp.true (Y.assign rfl rfl) ?_
     refine Jp.qae hK17 ?_
     refine Cd.seq fun K18 hK18=>?_
     refine Cd.seq fun K19 hK19=>?_
     refine Cd.qac [(0,false),(1,false)] rfl rfl ?_
     refine Jp.y 35 rfl (qaa rfl) rfl rfl Kp.true (Y.move rfl rfl) ?_
     refine Jp.y 36 rfl (qaa rfl) rfl rfl Kp.true (Y.not rfl rfl) ?_
     refine Jp.qae hK19 ?_
     refine Cd.qal rfl (fun gk=>?_) (fun gk=>?_)
     ·skip
      refine Cd.seq fun K20 hK20=>?_
      refine Cd.qac [(0,false),(1,false)] rfl rfl ?_
      refine Jp.y 8 rfl (qaa rfl) rfl rfl Kp.true (Y.assign rfl rfl) ?_
      refine Jp.y 9 rfl (qaa rfl) rfl rfl Kp.true (Y.assign rfl rfl) ?_
      refine Jp.qae hK20 ?_
      refine Cd.ret [(0,_)] rfl (qbd rfl rfl rfl) ⟨rfl,trivial⟩ ⟨rfl,by rw [hlk]; rfl,rfl⟩
     ·exact absurd gk (by simp)
    ·have hlk : qbk M a size need = if may p.perm need then 0 else 2:=by rw [qbk,if_neg (by rw [hs]; simp),hg]
     have hx:=qfk hmem.rising hg
     obtain ⟨f,hfp⟩ : ∃ f,qfl M.pages (qan a) = f:=⟨_,rfl⟩
     rw [hfp] at hx ⊢
     have hfl:=(List.getElem?_eq_some_iff.1 hx).1
     refine Jp.y 29 rfl (qaa rfl) rfl rfl Kp.true (Y.move rfl rfl) ?_
     refine Jp.y 33 rfl (qaa rfl) rfl rfl Kp.true (Y.extract rfl rfl rfl) ?_
     refine Jp.y 34 rfl (qaa rfl) rfl rfl Kp.true (Y.extract rfl rfl rfl) ?_
     refine Jp.y 10 rfl (qaa rfl) rfl rfl Kp.true (Y.assign rfl rfl) ?_
     refine Jp.y 11 rfl (qaa rfl) rfl rfl Kp.true (Y.assign rfl rfl) ?_
     refine Jp.qae hK17 ?_
     refine Cd.seq fun K21 hK21=>?_
     refine Cd.seq fun K22 hK22=>?_
     refine Cd.qac [(0,false),(1,false)] rfl rfl ?_
     refine Jp.y 35 rfl (qaa rfl) rfl rfl Kp.true (Y.move rfl rfl) ?_
     refine Jp.y 36 rfl (qaa rfl) rfl rfl Kp.true (Y.not rfl rfl) ?_
     refine Jp.qae hK22 ?_
     refine Cd.qal rfl (fun gk=>?_) (fun gk=>?_)
     ·exact absurd gk (by simp)
     ·refine Cd.refOpen 0 1 2 (by decide) rfl fun A c B dg gl hf=>?_
      have hrows:=hf.rows
      refine Cd.ownAt 1 rfl (show 0 < M.pages.length by omega) ?_
      rintro b1 rfl
      have c1:=(OwnS.hasC (e:=64) (m:=258) (k:=M.pages.length) (c:=c) (ad:=⟨b1,0,none⟩) (qfq hrows hx (refPg_perm _))).two
      refine Cd.qbi hK21 ?_
      refine Cd.seq fun K23 hK23=>?_
      refine Cd.seq fun K24 hK24=>?_
      refine Cd.qac [(0,false),(1,false),(2,false),(3,false),(4,false),(5,false),(6,false),(7,false),(8,false),(9,false),(10,false),(11,false)] rfl rfl ?_
      refine Jp.y 37 rfl (qaa rfl) rfl rfl Kp.true (Y.move rfl rfl) ?_
      refine Jp.y 38 rfl (qaa rfl) rfl rfl Kp.true (Y.qau rfl rfl) ?_
      refine Jp.y 39 rfl (qaa rfl) rfl rfl Kp.true (by exact Y.qad rfl rfl underlying60 rfl sizeOf57 (by decide) (show _ + 1 = _ from rfl)) ?_
      refine Jp.y 40 rfl (qaa rfl) rfl rfl Kp.true (by exact Y.qaq 0 rfl isAgg57 rfl rfl rfl) ?_
      refine Jp.y 41 rfl (qaa rfl) rfl rfl Kp.true (Y.move rfl rfl) ?_
      refine Jp.y 42 rfl (qaa rfl) rfl rfl Kp.true (Y.qar (q:=f * 258) rfl rfl rfl underlying57 sizeOf64 (by omega) (by omega) (by omega)) ?_
      refine Jp.y 43 rfl (qaa rfl) rfl rfl Kp.true (by exact Y.qdn rfl rfl underlying64 rfl sizeOf3 (by decide)) ?_
      refine Jp.y 44 rfl (qaa rfl) rfl rfl Kp.true (by exact Y.qbs 1 rfl isAgg3 rfl rfl c1) ?_
      refine Jp.y 45 rfl (qaa rfl) rfl rfl Kp.true (Y.move rfl rfl) ?_
      refine Jp.y 46 rfl (qaa rfl) rfl rfl Kp.true (Y.bits rfl rfl rfl rfl) ?_
      refine Jp.y 47 rfl (qaa rfl) rfl rfl Kp.true (Y.move rfl rfl) ?_
      refine Jp.y 48 rfl (qaa rfl) rfl rfl Kp.true (Y.neq rfl rfl rfl) ?_
      refine Jp.qae hK24 ?_
      refine Cd.qal rfl (fun gm=>?_) (fun gm=>?_)
      ·have hm : may p.perm need = false:=by simpa [may] using gm
       refine Cd.seq fun K25 hK25=>?_
       refine Cd.qac [(0,false),(1,false)] rfl rfl ?_
       refine Jp.y 8 rfl (qaa rfl) rfl rfl Kp.true (Y.assign rfl rfl) ?_
       refine Jp.y 9 rfl (qaa rfl) rfl rfl Kp.true (Y.assign rfl rfl) ?_
       refine Jp.qae hK25 ?_
       refine Cd.refClose (b:=b) (M:=M) 0 1 2 (by decide) hf rfl rfl rfl ?_
       refine Cd.ret [(0,_)] rfl (qbd rfl rfl rfl) ⟨rfl,trivial⟩ ⟨rfl,by rw [hlk,hm]; rfl,rfl⟩
      ·have hm : may p.perm need = true:=by simpa [may] using gm
       refine Cd.qbi hK23 ?_
       refine Cd.seq fun K26 hK26=>?_
       refine Cd.qac [(0,false),(1,false),(2,false)] rfl rfl ?_
       refine Jp.y 49 rfl (qaa rfl) rfl rfl Kp.true (Y.move rfl rfl) ?_
       refine Jp.y 8 rfl (qaa rfl) rfl rfl Kp.true (Y.assign rfl rfl) ?_
       refine Jp.y 9 rfl (qaa rfl) rfl rfl Kp.true (Y.assign rfl rfl) ?_
       refine Jp.qae hK26 ?_
       refine Cd.refClose (b:=b) (M:=M) 0 1 2 (by decide) hf rfl rfl rfl ?_
       refine Cd.ret [(0,_)] rfl (qbd rfl rfl rfl) ⟨rfl,trivial⟩ ⟨rfl,by rw [hlk,hm,hfp]; rfl,rfl⟩
 ·skip
  try simp only [sG0] at g14
  refine Jp.qak 15 rfl (qab rfl rfl rfl rfl) rfl rfl Kp.true ?_
  refine Jp.qak 16 rfl (qab rfl rfl rfl rfl) rfl rfl Kp.true ?_
  refine Jp.y 17 rfl (qaa rfl) rfl rfl Kp.true (Y.qao rfl rfl rfl) ?_
  refine Jp.y 18 rfl (qaa rfl) rfl rfl Kp.true (Y.move rfl rfl) ?_
  refine Jp.qak 19 rfl (qab rfl rfl rfl rfl) rfl rfl Kp.true ?_
  refine Jp.qak 20 rfl (qab rfl rfl rfl rfl) rfl rfl Kp.true ?_
  refine Jp.y 21 rfl (qaa rfl) rfl rfl Kp.true (Y.qao rfl rfl rfl) ?_
  refine Jp.y 22 rfl (qaa rfl) rfl rfl Kp.true (Y.move rfl rfl) ?_
  refine Jp.y 23 rfl (qab rfl rfl rfl rfl) rfl rfl Kp.true (Y.move rfl rfl) ?_
  refine Jp.y 24 rfl (qab rfl rfl rfl rfl) rfl rfl Kp.true (Y.move rfl rfl) ?_
  refine Jp.y 25 rfl (qab rfl rfl rfl rfl) rfl rfl Kp.true (Y.qap rfl rfl underlying3 underlying24 (by exact qax (by omega) (by omega))) ?_
  refine Jp.y 26 rfl (qab rfl rfl rfl rfl) rfl rfl Kp.true (by exact Y.remN rfl rfl rfl (by omega) (by omega)) ?_
  refine Jp.y 27 rfl (qab rfl rfl rfl rfl) rfl rfl Kp.true (Y.neq rfl rfl rfl) ?_
  refine Jp.y 28 rfl (qaa rfl) rfl rfl Kp.true (Y.qao rfl rfl rfl) ?_
  refine Jp.qae hK3 ?_
  refine Cd.qal rfl (fun g28=>?_) (fun g28=>?_)
  ·skip
   try simp only [sG0] at g28
   refine Cd.seq fun K27 hK27=>?_
   refine Cd.qac [(0,false),(1,false)] rfl rfl ?_
   refine Jp.y 8 rfl (qaa rfl) rfl rfl Kp.true (Y.assign rfl rfl) ?_
   refine Jp.y 9 rfl (qaa rfl) rfl rfl Kp.true (Y.assign rfl rfl) ?_
   refine Jp.qae hK27 ?_
   refine Cd.ret [(0,_)] rfl (qbd rfl rfl rfl) ⟨rfl,trivial⟩ ⟨rfl,?_,rfl⟩
   have h3 : qbk M a size need = 3:=by
    rw [qbk,if_pos]
    simp only [qch,Bool.and_eq_false_iff,Bool.or_eq_false_iff,beq_eq_false_iff_ne,ne_eq]
    omega
   rw [h3]; rfl
  ·skip
   try simp only [sG0] at g28
   refine Cd.qbi hK2 ?_
   refine Cd.seq fun K28 hK28=>?_
   have hs : qch a size = true:=by
    simp only [qch,Bool.and_eq_true,Bool.or_eq_true,beq_iff_eq]
    omega
   refine Cd.qac [(0,false),(1,false),(2,false),(3,false),(4,false),(5,false),(6,false),(7,false)] rfl rfl ?_
   refine Jp.y 30 rfl (qaa rfl) rfl rfl Kp.true (Y.move rfl rfl) ?_
   refine Jp.y 31 rfl (qaa rfl) rfl rfl Kp.true (Y.move rfl rfl) ?_
   refine Jp.call [0] [0] (refAt_spec b M a ha) 32 rfl (qaa rfl) rfl rfl (Runs.fn rfl call76 rfl) (by decide) (by decide) rfl trivial ?_
   rintro v1 ρ1 L1 ⟨rfl,rfl,rfl⟩
   refine ⟨rfl,fun hle1=>⟨Kp.true,?_⟩⟩
   rcases hg : qbc M.pages (qan a) with _ | p
   ·have hlk : qbk M a size need = 1:=by rw [qbk,if_neg (by rw [hs]; simp),hg]
    refine Jp.y 29 rfl (qaa rfl) rfl rfl Kp.true (Y.move rfl rfl) ?_
    refine Jp.y 33 rfl (qaa rfl) rfl rfl Kp.true (Y.extract rfl rfl rfl) ?_
    refine Jp.y 34 rfl (qaa rfl) rfl rfl Kp.true (Y.extract rfl rfl rfl) ?_
    refine Jp.y 10 rfl (qaa rfl) rfl rfl Kp.true (Y.assign rfl rfl) ?_
    refine Jp.y 11 rfl (qaa rfl) rfl rfl Kp.true (Y.assign rfl rfl) ?_
    refine Jp.qae hK28 ?_
    refine Cd.seq fun K29 hK29=>?_
    refine Cd.seq fun K30 hK30=>?_
    refine Cd.qac [(0,false),(1,false)] rfl rfl ?_
    refine Jp.y 35 rfl (qaa rfl) rfl rfl Kp.true (Y.move rfl rfl) ?_
    refine Jp.y 36 rfl (qaa rfl) rfl rfl Kp.true (Y.not rfl rfl) ?_
    refine Jp.qae hK30 ?_
    refine Cd.qal rfl (fun gk=>?_) (fun gk=>?_)
    ·skip
     refine Cd.seq fun K31 hK31=>?_
     refine Cd.qac [(0,false),(1,false)] rfl rfl ?_
     refine Jp.y 8 rfl (qaa rfl) rfl rfl Kp.true (Y.assign rfl rfl) ?_
     refine Jp.y 9 rfl (qaa rfl) rfl rfl Kp.true (Y.assign rfl rfl) ?_
     refine Jp.qae hK31 ?_
     refine Cd.ret [(0,_)] rfl (qbd rfl rfl rfl) ⟨rfl,trivial⟩ ⟨rfl,by rw [hlk]; rfl,rfl⟩
    ·exact absurd gk (by simp)
   ·have hlk : qbk M a size need = if may p.perm need then 0 else 2:=by rw [qbk,if_neg (by rw [hs]; simp),hg]
    have hx:=qfk hmem.rising hg
    obtain ⟨f,hfp⟩ : ∃ f,qfl M.pages (qan a) = f:=⟨_,rfl⟩
    rw [hfp] at hx ⊢
    have hfl:=(List.getElem?_eq_some_iff.1 hx).1
    refine Jp.y 29 rfl (qaa rfl) rfl rfl Kp.true (Y.move rfl rfl) ?_
    refine Jp.y 33 rfl (qaa rfl) rfl rfl Kp.true (Y.extract rfl rfl rfl) ?_
    refine Jp.y 34 rfl (qaa rfl) rfl rfl Kp.true (Y.extract rfl rfl rfl) ?_
    refine Jp.y 10 rfl (qaa rfl) rfl rfl Kp.true (Y.assign rfl rfl) ?_
    refine Jp.y 11 rfl (qaa rfl) rfl rfl Kp.true (Y.assign rfl rfl) ?_
    refine Jp.qae hK28 ?_
    refine Cd.seq fun K32 hK32=>?_
    refine Cd.seq fun K33 hK33=>?_
    refine Cd.qac [(0,false),(1,false)] rfl rfl ?_
    refine Jp.y 35 rfl (qaa rfl) rfl rfl Kp.true (Y.move rfl rfl) ?_
    refine Jp.y 36 rfl (qaa rfl) rfl rfl Kp.true (Y.not rfl rfl) ?_
    refine Jp.qae hK33 ?_
    refine Cd.qal rfl (fun gk=>?_) (fun gk=>?_)
    ·exact absurd gk (by simp)
    ·refine Cd.refOpen 0 1 2 (by decide) rfl fun A c B dg gl hf=>?_
     have hrows:=hf.rows
     refine Cd.ownAt 1 rfl (show 0 < M.pages.length by omega) ?_
     rintro b1 rfl
     have c1:=(OwnS.hasC (e:=64) (m:=258) (k:=M.pages.length) (c:=c) (ad:=⟨b1,0,none⟩) (qfq hrows hx (refPg_perm _))).two
     refine Cd.qbi hK32 ?_
     refine Cd.seq fun K34 hK34=>?_
     refine Cd.seq fun K35 hK35=>?_
     refine Cd.qac [(0,false),(1,false),(2,false),(3,false),(4,false),(5,false),(6,false),(7,false),(8,false),(9,false),(10,false),(11,false)] rfl rfl ?_
     refine Jp.y 37 rfl (qaa rfl) rfl rfl Kp.true (Y.move rfl rfl) ?_
     refine Jp.y 38 rfl (qaa rfl) rfl rfl Kp.true (Y.qau rfl rfl) ?_
     refine Jp.y 39 rfl (qaa rfl) rfl rfl Kp.true (by exact Y.qad rfl rfl underlying60 rfl sizeOf57 (by decide) (show _ + 1 = _ from rfl)) ?_
     refine Jp.y 40 rfl (qaa rfl) rfl rfl Kp.true (by exact Y.qaq 0 rfl isAgg57 rfl rfl rfl) ?_
     refine Jp.y 41 rfl (qaa rfl) rfl rfl Kp.true (Y.move rfl rfl) ?_
     refine Jp.y 42 rfl (qaa rfl) rfl rfl Kp.true (Y.qar (q:=f * 258) rfl rfl rfl underlying57 sizeOf64 (by omega) (by omega) (by omega)) ?_
     refine Jp.y 43 rfl (qaa rfl) rfl rfl Kp.true (by exact Y.qdn rfl rfl underlying64 rfl sizeOf3 (by decide)) ?_
     refine Jp.y 44 rfl (qaa rfl) rfl rfl Kp.true (by exact Y.qbs 1 rfl isAgg3 rfl rfl c1) ?_
     refine Jp.y 45 rfl (qaa rfl) rfl rfl Kp.true (Y.move rfl rfl) ?_
     refine Jp.y 46 rfl (qaa rfl) rfl rfl Kp.true (Y.bits rfl rfl rfl rfl) ?_
     refine Jp.y 47 rfl (qaa rfl) rfl rfl Kp.true (Y.move rfl rfl) ?_
     refine Jp.y 48 rfl (qaa rfl) rfl rfl Kp.true (Y.neq rfl rfl rfl) ?_
     refine Jp.qae hK35 ?_
     refine Cd.qal rfl (fun gm=>?_) (fun gm=>?_)
     ·have hm : may p.perm need = false:=by simpa [may] using gm
      refine Cd.seq fun K36 hK36=>?_
      refine Cd.qac [(0,false),(1,false)] rfl rfl ?_
      refine Jp.y 8 rfl (qaa rfl) rfl rfl Kp.true (Y.assign rfl rfl) ?_
      refine Jp.y 9 rfl (qaa rfl) rfl rfl Kp.true (Y.assign rfl rfl) ?_
      refine Jp.qae hK36 ?_
      refine Cd.refClose (b:=b) (M:=M) 0 1 2 (by decide) hf rfl rfl rfl ?_
      refine Cd.ret [(0,_)] rfl (qbd rfl rfl rfl) ⟨rfl,trivial⟩ ⟨rfl,by rw [hlk,hm]; rfl,rfl⟩
     ·have hm : may p.perm need = true:=by simpa [may] using gm
      refine Cd.qbi hK34 ?_
      refine Cd.seq fun K37 hK37=>?_
      refine Cd.qac [(0,false),(1,false),(2,false)] rfl rfl ?_
      refine Jp.y 49 rfl (qaa rfl) rfl rfl Kp.true (Y.move rfl rfl) ?_
      refine Jp.y 8 rfl (qaa rfl) rfl rfl Kp.true (Y.assign rfl rfl) ?_
      refine Jp.y 9 rfl (qaa rfl) rfl rfl Kp.true (Y.assign rfl rfl) ?_
      refine Jp.qae hK37 ?_
      refine Cd.refClose (b:=b) (M:=M) 0 1 2 (by decide) hf rfl rfl rfl ?_
      refine Cd.ret [(0,_)] rfl (qbd rfl rfl rfl) ⟨rfl,trivial⟩ ⟨rfl,by rw [hlk,hm,hfp]; rfl,rfl⟩
theorem shl_or {l : List UInt8} {x : UInt8} (h : l.length ≤ 3) : qbu .or .u32 (IntKind.u32.wrap ((leN l : Int) * 2 ^ (min (8 : Int).toNat IntKind.u32.bits))) (x.toNat : Int) = (leN (x :: l) : Int):=by
 have h1:=leN_lt l
 have hx:=x.toNat_lt
 have h2 : 256 ^ l.length ≤ 256 ^ 3:=Nat.pow_le_pow_right (by omega) h
 have h3 : leN l * 2 ^ 8 < 4294967296:=by omega
 have h4:=shl32 (a:=leN l) (i:=8) (by omega) h3
 rw [show ((8 : Nat) : Int) = 8 from rfl] at h4
 rw [h4,qas h3 (by omega),Nat.or_comm,qej (by omega)]
 show ((x.toNat + leN l * 256 : Nat) : Int) = ((x.toNat + 256 * leN l : Nat) : Int)
 rw [Nat.mul_comm]
theorem refLoad_spec (b : Nat) (M : MemG) (a : Nat) (size need : Int) (ha : a < 4294967296) : Spec Tryz.prog 22 #[.pointer (some ⟨b,0,none⟩),.int .u32 a,.int .i64 size,.int .i64 need] (fun _=>True) [(0,RefO b M)]
  (fun ρ ρ' v L=>ρ' = ρ ∧ v = .tuple #[.int .u32 (qbv M a size need).1,.int .i64 (qbv M a size need).2] ∧ L = [(0,RefO b M)]):=by
 refine Spec.of 50 Tryz.func22 rfl Tryz.ntmps22 [(0,_),(1,_),(2,_),(3,_)] rfl rfl ?_
 intro cx ρ hr h0
 refine Cd.know (A:=RefO b M) 0 rfl RefO.ok fun hmem=>?_
 have hroom:=hmem.room
 have hbud:=hmem.budget.2
 refine Cd.seq fun K38 hK38=>?_
 refine Cd.qac [(0,false),(1,false)] rfl rfl ?_
 refine Jp.y 8 rfl (qaa rfl) rfl rfl Kp.true (Y.assign rfl rfl) ?_
 refine Jp.y 9 rfl (qaa rfl) rfl rfl Kp.true (Y.assign rfl rfl) ?_
 refine Jp.qae hK38 ?_
 refine Cd.seq fun K39 hK39=>?_
 refine Cd.qac [(0,false),(1,false),(2,false),(3,false),(4,false),(5,false),(6,false),(7,false),(8,false),(9,false)] rfl rfl ?_
 refine Jp.y 15 rfl (qaa rfl) rfl rfl Kp.true (Y.move rfl rfl) ?_
 refine Jp.y 16 rfl (qaa rfl) rfl rfl Kp.true (Y.move rfl rfl) ?_
 refine Jp.y 17 rfl (qaa rfl) rfl rfl Kp.true (Y.move rfl rfl) ?_
 refine Jp.y 18 rfl (qaa rfl) rfl rfl Kp.true (Y.move rfl rfl) ?_
 refine Jp.call [0] [0] (refAsk_spec b M a size need ha) 19 rfl (qaa rfl) rfl rfl (Runs.fn rfl call48 rfl) (by decide) (by decide) rfl trivial ?_
 rintro v1 ρ1 L1 ⟨rfl,rfl,rfl⟩
 refine ⟨rfl,fun hle1=>⟨Kp.true,?_⟩⟩
 refine Jp.y 14 rfl (qaa rfl) rfl rfl Kp.true (Y.move rfl rfl) ?_
 refine Jp.y 20 rfl (qaa rfl) rfl rfl Kp.true (Y.extract rfl rfl rfl) ?_
 refine Jp.y 21 rfl (qaa rfl) rfl rfl Kp.true (Y.extract rfl rfl rfl) ?_
 refine Jp.y 10 rfl (qaa rfl) rfl rfl Kp.true (Y.assign rfl rfl) ?_
 refine Jp.y 11 rfl (qaa rfl) rfl rfl Kp.true (Y.assign rfl rfl) ?_
 refine Jp.qae hK39 ?_
 refine Cd.seq fun K40 hK40=>?_
 refine Cd.seq fun K41 hK41=>?_
 refine Cd.qac [(0,false),(1,false)] rfl rfl ?_
 refine Jp.y 22 rfl (qaa rfl) rfl rfl Kp.true (Y.move rfl rfl) ?_
 refine Jp.y 23 rfl (qaa rfl) rfl rfl Kp.true (Y.neq rfl rfl rfl) ?_
 refine Jp.qae hK41 ?_
 refine Cd.qal rfl (fun gf=>?_) (fun gf=>?_)
 ·have hne : qbk M a size need ≠ 0:=by simpa using gf
  have hV : qbv M a size need = (0,qbk M a size need):=by rw [qbv,if_neg hne]
  refine Cd.seq fun K42 hK42=>?_
  refine Cd.qac [(0,false),(1,false),(2,false)] rfl rfl ?_
  refine Jp.y 24 rfl (qaa rfl) rfl rfl Kp.true (Y.move rfl rfl) ?_
  refine Jp.y 8 rfl (qaa rfl) rfl rfl Kp.true (Y.assign rfl rfl) ?_
  refine Jp.y 9 rfl (qaa rfl) rfl rfl Kp.true (Y.assign rfl rfl) ?_
  refine Jp.qae hK42 ?_
  refine Cd.ret [(0,_)] rfl (qbd rfl rfl rfl) ⟨rfl,trivial⟩ ⟨rfl,by rw [hV]; rfl,rfl⟩
 ·have hz : qbk M a size need = 0:=by simpa using gf
  obtain ⟨hs,p,hg,hm⟩:=lookM_ok hz
  obtain ⟨n,rfl,hn1,hn2⟩:=qfh hs
  have hpo:=hmem.page _ (qcf hg)
  have hlen : p.b.length = 256:=hpo.len
  have hV : qbv M a n need = (leN ((p.b.drop (a % 256)).take n),0):=by rw [qbv,if_pos hz,hg]; rfl
  obtain ⟨w,hw⟩ : ∃ w,(p.b.drop (a % 256)).take n = w:=⟨_,rfl⟩
  have hwl : w.length = n:=by rw [← hw,List.length_take,List.length_drop]; omega
  rw [hw] at hV
  rw [if_pos hz]
  have hx:=qfk hmem.rising hg
  obtain ⟨f,hfp⟩ : ∃ f,qfl M.pages (qan a) = f:=⟨_,rfl⟩
  rw [hfp] at hx ⊢
  have hfl:=(List.getElem?_eq_some_iff.1 hx).1
  refine Cd.refOpen 0 1 2 (by decide) rfl fun A c B dg gl hf=>?_
  have hrows:=hf.rows
  refine Cd.ownAt 1 rfl (show 0 < M.pages.length by omega) ?_
  rintro b1 rfl
  refine Cd.qbi hK40 ?_
  refine Cd.seq fun K43 hK43=>?_
  refine Cd.qac [(0,false)] rfl rfl ?_
  refine Jp.y 12 rfl (qaa rfl) rfl rfl Kp.true (Y.assign rfl rfl) ?_
  refine Jp.qae hK43 ?_
  refine Cd.seq fun K44 hK44=>?_
  refine Cd.seq fun K45 hK45=>?_
  refine Cd.qac [(0,false),(1,false),(2,false)] rfl rfl ?_
  refine Jp.y 25 rfl (qaa rfl) rfl rfl Kp.true (Y.move rfl rfl) ?_
  refine Jp.y 26 rfl (qaa rfl) rfl rfl Kp.true (Y.qdo rfl rfl rfl (by exact qag (by omega) (by omega))) ?_
  refine Jp.y 13 rfl (qaa rfl) rfl rfl Kp.true (Y.assign rfl rfl) ?_
  refine Jp.qae hK45 ?_
  refine Cd.block ?_
  refine Cd.slot 12 rfl (show _ = Value.int .u32 (leN (w.drop n) : Int) from congrArg (Value.int .u32) (by rw [List.drop_of_length_le (by omega)]; rfl)) ?_
  refine Cd.qdw (G:=Nat) (fun j=>j ≤ n) (fun j=>j) (fun _=>_) (fun j=>[(12,.int .u32 (leN (w.drop j) : Int)),(13,.int .i64 ((j : Int) - 1))]) [(0,_),(1,_),(10,_)] (fun j=>[]) [(0,_),(1,_),(2,_)] n (Nat.le_refl _) rfl ⟨rfl,rfl,trivial⟩ ⟨rfl,rfl,rfl,trivial⟩ trivial ⟨rfl,rfl,rfl,trivial⟩ (fun g KLa hok hLa=>?_)
  obtain ⟨j,hj⟩ : ∃ j,j = g:=⟨_,rfl⟩
  rw [← hj] at hok ⊢
  refine Cd.seq fun K46 hK46=>?_
  refine Cd.seq fun K47 hK47=>?_
  refine Cd.qac [(0,false),(1,false)] rfl rfl ?_
  refine Jp.y 27 rfl (qaa rfl) rfl rfl Kp.true (Y.move rfl rfl) ?_
  refine Jp.y 28 rfl (qaa rfl) rfl rfl Kp.true (Y.geq rfl rfl rfl) ?_
  refine Jp.qae hK47 ?_
  refine Cd.qal rfl (fun ga=>?_) (fun ga=>?_)
  ·have hj1 : 1 ≤ j:=by simp at ga; omega
   obtain ⟨m,rfl⟩ : ∃ m,j = m + 1:=⟨j - 1,by omega⟩
   have hmw : m < w.length:=by omega
   have hwd : w.drop m = w[m] :: w.drop (m + 1):=List.drop_eq_getElem_cons hmw
   have hbyte : p.b.getD (a % 256 + m) 0 = w[m]:=by
    have h1 : w[m]? = some w[m]:=List.getElem?_eq_getElem hmw
    rw [List.getD_eq_getElem?_getD]
    have h2 : w[m]? = p.b[a % 256 + m]?:=by
     rw [← hw,List.getElem?_take_of_lt (by omega),List.getElem?_drop]
    rw [← h2,h1]; rfl
   have hb256:=(w[m]).toNat_lt
   have hor:=shl_or (l:=w.drop (m + 1)) (x:=w[m]) (by rw [List.length_drop]; omega)
   rw [← hwd] at hor
   have c0:=OwnS.hasC (e:=64) (m:=258) (k:=M.pages.length) (c:=c) (ad:=⟨b1,0,none⟩) (qfq hrows hx (refPg_byte hlen (j:=a % 256 + m) (by omega)))
   rw [qcs,Nat.zero_add,hbyte] at c0
   refine Cd.qbi hK46 ?_
   refine Cd.seq fun K48 hK48=>?_
   refine Cd.block ?_
   refine Cd.qac [(0,false),(1,false),(2,false),(3,false),(4,false),(5,false),(6,false),(7,false),(8,false),(9,false),(10,false),(11,false),(12,false),(13,false),(14,false),(15,false),(16,false),(17,false),(18,false)] rfl rfl ?_
   refine Jp.y 31 rfl (qaa rfl) rfl rfl Kp.true (Y.move rfl rfl) ?_
   refine Jp.y 32 rfl (qaa rfl) rfl rfl Kp.true (Y.shl rfl rfl rfl (by first | decide | omega)) ?_
   refine Jp.y 33 rfl (qaa rfl) rfl rfl Kp.true (Y.move rfl rfl) ?_
   refine Jp.y 34 rfl (qaa rfl) rfl rfl Kp.true (Y.qau rfl rfl) ?_
   refine Jp.y 35 rfl (qaa rfl) rfl rfl Kp.true (by exact Y.qad rfl rfl underlying60 rfl sizeOf57 (by decide) (show _ + 1 = _ from rfl)) ?_
   refine Jp.y 36 rfl (qaa rfl) rfl rfl Kp.true (Y.qaq 0 rfl isAgg57 rfl rfl rfl) ?_
   refine Jp.y 37 rfl (qaa rfl) rfl rfl Kp.true (Y.move rfl rfl) ?_
   refine Jp.y 38 rfl (qaa rfl) rfl rfl Kp.true (Y.move rfl rfl) ?_
   refine Jp.y 39 rfl (qaa rfl) rfl rfl Kp.true (by exact Y.remN rfl rfl rfl (by omega) (by omega)) ?_
   refine Jp.y 40 rfl (qaa rfl) rfl rfl Kp.true (Y.qap rfl rfl underlying24 underlying3 (by exact qag (by omega) (by omega))) ?_
   refine Jp.y 41 rfl (qaa rfl) rfl rfl Kp.true (Y.move rfl rfl) ?_
   refine Jp.y 42 rfl (qaa rfl) rfl rfl Kp.true (Y.qbx rfl rfl rfl (by exact qag (by omega) (by omega))) ?_
   refine Jp.y 43 rfl (qaa rfl) rfl rfl Kp.true (Y.qar (q:=f * 258) rfl rfl rfl underlying57 sizeOf64 (by omega) (by omega) (by omega)) ?_
   refine Jp.slot 43 rfl (show _ = Value.pointer (some ⟨b1,f * 258,none⟩) by rw [qcs,Nat.zero_add]) ?_
   refine Jp.slot 42 rfl (show _ = Value.int .i64 ((a % 256 + m : Nat) : Int) from congrArg (Value.int .i64) (by omega)) ?_
   refine Jp.y 44 rfl (qaa rfl) rfl rfl Kp.true (by exact Y.qad rfl rfl underlying64 rfl sizeOf62 (by decide) (show _ + 2 = _ from rfl)) ?_
   refine Jp.y 45 rfl (qaa rfl) rfl rfl Kp.true (Y.qcg (q:=f * 258 + (2 + (a % 256 + m))) rfl rfl rfl underlying62 sizeOf5 (by omega) (by omega) (by omega)) ?_
   refine Jp.y 46 rfl (qaa rfl) rfl rfl Kp.true (by exact Y.qbs 1 rfl isAgg5 rfl rfl c0) ?_
   refine Jp.y 47 rfl (qaa rfl) rfl rfl Kp.true (Y.qap rfl rfl underlying5 underlying24 (by exact qax (by omega) (by omega))) ?_
   refine Jp.y 48 rfl (qaa rfl) rfl rfl Kp.true (Y.bits rfl rfl rfl rfl) ?_
   refine Jp.slot 48 rfl (show _ = Value.int .u32 (leN (w.drop m) : Int) from congrArg (Value.int .u32) hor) ?_
   refine Jp.y 12 rfl (qaa rfl) rfl rfl Kp.true (Y.assign rfl rfl) ?_
   refine Jp.over rfl hK48 ?_
   refine Cd.qac [(0,false),(1,false),(2,false)] rfl rfl ?_
   refine Jp.y 29 rfl (qaa rfl) rfl rfl Kp.true (Y.move rfl rfl) ?_
   refine Jp.y 30 rfl (qaa rfl) rfl rfl Kp.true (Y.qdo rfl rfl rfl (by exact qag (by omega) (by omega))) ?_
   refine Jp.y 13 rfl (qaa rfl) rfl rfl Kp.true (Y.assign rfl rfl) ?_
   rw [show ((m + 1 : Nat) : Int) - 1 - 1 = (m : Int) - 1 by omega]
   refine Jp.again hLa m (by omega) (by omega) rfl ⟨rfl,rfl,rfl,rfl,rfl,trivial⟩ ⟨rfl,rfl,rfl,trivial⟩
  ·have hj0 : j = 0:=by simp at ga; omega
   rw [hj0]
   refine Cd.exit rfl hK44 ?_
   refine Cd.seq fun K49 hK49=>?_
   refine Cd.qac [(0,false),(1,false),(2,false)] rfl rfl ?_
   refine Jp.y 49 rfl (qaa rfl) rfl rfl Kp.true (Y.move rfl rfl) ?_
   refine Jp.y 8 rfl (qaa rfl) rfl rfl Kp.true (Y.assign rfl rfl) ?_
   refine Jp.y 9 rfl (qaa rfl) rfl rfl Kp.true (Y.assign rfl rfl) ?_
   refine Jp.qae hK49 ?_
   refine Cd.refClose (b:=b) (M:=M) 0 1 2 (by decide) hf rfl rfl rfl ?_
   refine Cd.ret [(0,_)] rfl (qbd rfl rfl rfl) ⟨rfl,trivial⟩ ⟨rfl,by rw [hV]; rfl,rfl⟩
end Go.Proofs.YthjelpbaljapiaaGreat

namespace Go.Proofs.YthjelpbaljapiaaGreat
open _root_.Go.Proofs.Tryz
open Go
theorem decP_op (w : Nat) : (decP w).op = kindP w:=by
 unfold decP
 repeat' split
 all_goals rfl
theorem decP_none {w : Nat} (h : (decP w).op = 0) : decP w = noIns:=by
 rw [decP_op] at h
 unfold decP
 rw [if_pos (.inl h),h]; rfl
theorem loadM_u32f (M : MemG) (a : Nat) (need : Int) : (qbv M a 4 need).1 < 4294967296:=by
 unfold qbv
 split
 ·split
  ·rename_i p h1
   have h2:=leN_lt ((p.b.drop (a % 256)).take (4 : Int).toNat)
   have h3 : ((p.b.drop (a % 256)).take (4 : Int).toNat).length ≤ 4:=by rw [List.length_take]; exact Nat.min_le_left ..
   exact Nat.lt_of_lt_of_le h2 (Nat.pow_le_pow_right (n:=256) (by omega) h3)
  ·exact Nat.zero_lt_succ _
 ·exact Nat.zero_lt_succ _
theorem qge (b : Nat) (M : MemG) (pc : Nat) (hpc : pc < 4294967296) : Spec Tryz.prog 8 #[.pointer (some ⟨b,0,none⟩),.int .u32 pc] (fun _=>True) [(0,RefO b M)]
  (fun ρ ρ' v L=>ρ' = ρ ∧ v = .tuple #[.agg (qbw M pc).1.cells.toArray,.agg (qbw M pc).2.cells.toArray] ∧ L = [(0,RefO b M)]):=by
 refine Spec.of 31 Tryz.func8 rfl Tryz.ntmps8 [(0,_),(1,_)] rfl rfl ?_
 intro cx ρ hr h0
 obtain ⟨F,hF⟩ : ∃ F,qbw M pc = F:=⟨_,rfl⟩
 rw [hF]
 unfold qbw at hF
 have hL:=refLoad_spec b M pc 4 4 hpc
 have hl:=loadM_u32f M pc 4
 obtain ⟨w,hw⟩ : ∃ w,(qbv M pc 4 4).1 = w:=⟨_,rfl⟩
 obtain ⟨f,hf⟩ : ∃ f,(qbv M pc 4 4).2 = f:=⟨_,rfl⟩
 rw [hw,hf] at hF hL
 rw [hw] at hl
 have hD:=decode5_spec w hl
 have hN:=decP_none (w:=w)
 obtain ⟨i,hi⟩ : ∃ i,decP w = i:=⟨_,rfl⟩
 rw [hi] at hF hD hN
 refine Cd.seq fun K1 hK1=>?_
 refine Cd.qac [(0,false),(1,false)] rfl rfl ?_
 refine Jp.alloc 4 4 rfl (qaa rfl) rfl rfl rfl zeroValue40 fun b4=>⟨Kp.true,?_⟩
 refine Jp.alloc 5 5 rfl (qaa rfl) rfl rfl rfl zeroValue37 fun b5=>⟨Kp.true,?_⟩
 refine Jp.qae hK1 ?_
 refine Cd.seq fun K2 hK2=>?_
 refine Cd.qac [(0,false),(1,false),(2,false),(3,false),(4,false),(5,false),(6,false),(7,false)] rfl rfl ?_
 refine Jp.y 10 rfl (qaa rfl) rfl rfl Kp.true (Y.move rfl rfl) ?_
 refine Jp.y 11 rfl (qaa rfl) rfl rfl Kp.true (Y.move rfl rfl) ?_
 refine Jp.call [0] [0] hL 12 rfl (qaa rfl) rfl rfl (Runs.fn rfl call22 rfl) (by decide) (by decide) rfl trivial ?_
 rintro v1 ρ1 L1 ⟨rfl,rfl,rfl⟩
 refine ⟨rfl,fun hle1=>⟨Kp.true,?_⟩⟩
 refine Jp.y 9 rfl (qaa rfl) rfl rfl Kp.true (Y.move rfl rfl) ?_
 refine Jp.y 13 rfl (qaa rfl) rfl rfl Kp.true (Y.extract rfl rfl rfl) ?_
 refine Jp.y 14 rfl (qaa rfl) rfl rfl Kp.true (Y.extract rfl rfl rfl) ?_
 refine Jp.y 6 rfl (qaa rfl) rfl rfl Kp.true (Y.assign rfl rfl) ?_
 refine Jp.y 7 rfl (qaa rfl) rfl rfl Kp.true (Y.assign rfl rfl) ?_
 refine Jp.qae hK2 ?_
 refine Cd.seq fun K3 hK3=>?_
 refine Cd.seq fun K4 hK4=>?_
 refine Cd.qac [(0,false),(1,false)] rfl rfl ?_
 refine Jp.y 15 rfl (qaa rfl) rfl rfl Kp.true (Y.move rfl rfl) ?_
 refine Jp.y 16 rfl (qaa rfl) rfl rfl Kp.true (Y.neq rfl rfl rfl) ?_
 refine Jp.qae hK4 ?_
 refine Cd.qal rfl (fun ga=>?_) (fun ga=>?_)
 ·simp at ga
  rw [if_neg ga] at hF
  subst hF
  refine Cd.seq fun K5 hK5=>?_
  refine Cd.qac [(0,false),(1,false),(2,false),(3,false),(4,false),(5,false)] rfl rfl ?_
  refine Jp.y 17 rfl (qaa rfl) rfl rfl Kp.true (Y.struct [] [_,_,_,_,_] rfl rfl qbe zeroValue40 rfl) ?_
  refine Jp.y 18 rfl (qaa rfl) rfl rfl Kp.true (Y.move rfl rfl) ?_
  refine Jp.y 19 rfl (qaa rfl) rfl rfl Kp.true (Y.move rfl rfl) ?_
  refine Jp.y 20 rfl (qaa rfl) rfl rfl Kp.true (Y.struct [(0,_),(1,_),(2,_)] [_,_,_] rfl rfl qav zeroValue37 rfl) ?_
  refine Jp.qaf 4 rfl (qaa rfl) rfl rfl sizeOf40 rfl rfl (by first | rfl | assumption) (by first | rfl | assumption) rfl (by first | rfl | assumption) (fun k _ _=>qam k) Kp.true ?_
  refine Jp.qaf 5 rfl (qaa rfl) rfl rfl sizeOf37 rfl rfl (by first | rfl | assumption) (by first | rfl | assumption) rfl (by first | rfl | assumption) (fun k _ _=>qam k) Kp.true ?_
  refine Jp.qae hK5 ?_
  refine Cd.ret [(0,_)] rfl (by exact qck 4 5 rfl rfl rfl isAgg40 sizeOf40 isAgg37 sizeOf37 rfl (by first | rfl | assumption) rfl (by first | rfl | assumption)) ⟨rfl,trivial⟩ ⟨rfl,rfl,rfl⟩
 ·simp at ga
  rw [if_pos ga] at hF
  refine Cd.qbi hK3 ?_
  refine Cd.seq fun K6 hK6=>?_
  refine Cd.qac [(0,false),(1,false),(2,false),(3,false)] rfl rfl ?_
  refine Jp.y 21 rfl (qaa rfl) rfl rfl Kp.true (Y.move rfl rfl) ?_
  refine Jp.call [] [] hD 22 rfl (qaa rfl) rfl rfl (Runs.fn rfl call23 rfl) (by decide) (by decide) rfl trivial ?_
  rintro v2 ρ2 L2 ⟨rfl,rfl,rfl⟩
  refine ⟨rfl,fun hle2=>⟨Kp.true,?_⟩⟩
  obtain ⟨op,rd,r1,r2,imm⟩:=i
  refine Jp.alloc 8 8 rfl (qaa rfl) rfl rfl rfl zeroValue40 fun b8=>⟨Kp.true,?_⟩
  refine Jp.qaf 8 rfl (qaa rfl) rfl rfl sizeOf40 rfl rfl (by first | rfl | assumption) (by first | rfl | assumption) rfl (by first | rfl | assumption) (fun k _ _=>qam k) Kp.true ?_
  refine Jp.qae hK6 ?_
  refine Cd.seq fun K7 hK7=>?_
  refine Cd.seq fun K8 hK8=>?_
  refine Cd.qac [(0,false),(1,false),(2,false)] rfl rfl ?_
  refine Jp.y 23 rfl (qaa rfl) rfl rfl Kp.true (by exact Y.qad rfl rfl underlying40 rfl sizeOf3 (by decide) (show _ + 0 = _ from rfl)) ?_
  refine Jp.y 24 rfl (qaa rfl) rfl rfl Kp.true (by exact Y.qaq 8 rfl isAgg3 rfl rfl rfl) ?_
  refine Jp.y 25 rfl (qaa rfl) rfl rfl Kp.true (Y.eql rfl rfl rfl) ?_
  refine Jp.qae hK8 ?_
  refine Cd.qal rfl (fun gb=>?_) (fun gb=>?_)
  ·have hz : op = 0:=by simp at gb; omega
   have hN:=hN hz
   rw [if_pos hz] at hF
   subst hF
   rw [hN]
   refine Cd.seq fun K9 hK9=>?_
   refine Cd.qac [(0,false),(1,false),(2,false),(3,false),(4,false)] rfl rfl ?_
   refine Jp.y 26 rfl (qaa rfl) rfl rfl Kp.true (by exact Y.qai 8 rfl isAgg40 sizeOf40 rfl rfl (by first | rfl | assumption)) ?_
   refine Jp.y 27 rfl (qaa rfl) rfl rfl Kp.true (Y.move rfl rfl) ?_
   refine Jp.y 28 rfl (qaa rfl) rfl rfl Kp.true (Y.struct [(0,_),(1,_)] [_,_,_] rfl rfl qav zeroValue37 rfl) ?_
   refine Jp.qaf 4 rfl (qaa rfl) rfl rfl sizeOf40 rfl rfl (by first | rfl | assumption) (by first | rfl | assumption) rfl (by first | rfl | assumption) (fun k _ _=>qam k) Kp.true ?_
   refine Jp.qaf 5 rfl (qaa rfl) rfl rfl sizeOf37 rfl rfl (by first | rfl | assumption) (by first | rfl | assumption) rfl (by first | rfl | assumption) (fun k _ _=>qam k) Kp.true ?_
   refine Jp.qae hK9 ?_
   refine Cd.ret [(0,_)] rfl (by exact qck 4 5 rfl rfl rfl isAgg40 sizeOf40 isAgg37 sizeOf37 rfl (by first | rfl | assumption) rfl (by first | rfl | assumption)) ⟨rfl,trivial⟩ ⟨rfl,rfl,rfl⟩
  ·have hz : ¬ op = 0:=by simp at gb; omega
   rw [if_neg hz] at hF
   subst hF
   refine Cd.qbi hK7 ?_
   refine Cd.seq fun K10 hK10=>?_
   refine Cd.qac [(0,false),(1,false),(2,false),(3,false)] rfl rfl ?_
   refine Jp.y 29 rfl (qaa rfl) rfl rfl Kp.true (by exact Y.qai 8 rfl isAgg40 sizeOf40 rfl rfl (by first | rfl | assumption)) ?_
   refine Jp.y 30 rfl (qaa rfl) rfl rfl Kp.true (Y.struct [] [_,_,_] rfl rfl qav zeroValue37 rfl) ?_
   refine Jp.qaf 4 rfl (qaa rfl) rfl rfl sizeOf40 rfl rfl (by first | rfl | assumption) (by first | rfl | assumption) rfl (by first | rfl | assumption) (fun k _ _=>qam k) Kp.true ?_
   refine Jp.qaf 5 rfl (qaa rfl) rfl rfl sizeOf37 rfl rfl (by first | rfl | assumption) (by first | rfl | assumption) rfl (by first | rfl | assumption) (fun k _ _=>qam k) Kp.true ?_
   refine Jp.qae hK10 ?_
   refine Cd.ret [(0,_)] rfl (by exact qck 4 5 rfl rfl rfl isAgg40 sizeOf40 isAgg37 sizeOf37 rfl (by first | rfl | assumption) rfl (by first | rfl | assumption)) ⟨rfl,trivial⟩ ⟨rfl,rfl,rfl⟩
end Go.Proofs.YthjelpbaljapiaaGreat

namespace Go.Proofs.YthjelpbaljapiaaGreat
open Go
theorem mod_next (X i : Nat) : X % 2 ^ (i + 1) = X % 2 ^ i + X / 2 ^ i % 2 * 2 ^ i:=by
 rw [Nat.pow_succ,Nat.mod_mul,Nat.mul_comm]
theorem or_next {X i : Nat} : X % 2 ^ i ||| X / 2 ^ i % 2 * 2 ^ i = X % 2 ^ (i + 1):=by
 rw [qej (Nat.mod_lt _ (Nat.two_pow_pos i)),mod_next]
def wideP (a : Nat) : Int:=if a / 2147483648 = 1 then (a : Int) - 4294967296 else a
theorem wide_s32 {a : Nat} (h : a < 4294967296) : wideP a = s32 a:=by
 rw [s32_eq h]; unfold wideP; split <;> split <;> omega
def shP (k a n : Nat) : Nat:=if k = 2 then u32 ((a * 2 ^ n : Nat) : Int) else if k = 6 then a / 2 ^ n else u32 ((s32 a).fdiv (2 ^ n))
def shBit (k a n i : Nat) : Nat:=if k = 2 then (if n ≤ i then a / 2 ^ (i - n) % 2 else 0) else if i + n < 32 then a / 2 ^ (i + n) % 2 else if k = 7 then a / 2147483648 else 0
theorem shP_lt {k a n : Nat} (ha : a < 4294967296) : shP k a n < 4294967296:=by
 have h6 : a / 2 ^ n ≤ a:=Nat.div_le_self ..
 unfold shP
 repeat' split
 all_goals first | exact qdl _ | omega
theorem s32_shr {a n i : Nat} (ha : a < 4294967296) (hi : i < 32) (hn : n < 32) : u32 ((s32 a).fdiv (2 ^ n)) / 2 ^ i % 2 = if i + n < 32 then a / 2 ^ (i + n) % 2 else a / 2147483648:=by
 have hp : (0 : Int) < 2 ^ n:=Int.pow_pos (by decide)
 rw [Int.fdiv_eq_ediv_of_nonneg _ (Int.le_of_lt hp)]
 obtain ⟨q,hq⟩ : ∃ q : Nat,(s32 a) = (q : Int) - 18446744073709551616 * (a / 2147483648 : Nat) ∧ q = a + (a / 2147483648) * 18446744069414584320:=by
  refine ⟨a + (a / 2147483648) * 18446744069414584320,?_,rfl⟩
  rw [s32_eq ha]; split <;> omega
 obtain ⟨hq1,hq2⟩:=hq
 obtain ⟨m,hm⟩ : ∃ m : Nat,18446744073709551616 = m * 2 ^ n ∧ 4294967296 ∣ m:=by
  refine ⟨2 ^ (64 - n),?_,?_⟩
  ·rw [← Nat.pow_add,show 64 - n + n = 64 by omega]
  ·exact Nat.pow_dvd_pow 2 (show 32 ≤ 64 - n by omega)
 obtain ⟨hm1,m',rfl⟩:=hm
 have e1 : (s32 a) / 2 ^ n = ((q / 2 ^ n : Nat) : Int) - ((4294967296 * m' * (a / 2147483648) : Nat) : Int):=by
  rw [hq1,Int.sub_eq_add_neg,show -(18446744073709551616 * ((a / 2147483648 : Nat) : Int)) = -((m' * 4294967296 * (a / 2147483648 : Nat) : Nat) : Int) * 2 ^ n from ?_]
  ·rw [Int.add_mul_ediv_right _ _ (Int.ne_of_gt hp),Int.natCast_ediv,Int.natCast_pow,← Int.sub_eq_add_neg,Nat.mul_comm m' 4294967296]
   rfl
  ·have : (18446744073709551616 : Int) = (((4294967296 * m') * 2 ^ n : Nat) : Int):=by rw [← hm1]; rfl
   rw [this]
   simp only [Int.natCast_mul,Int.natCast_pow,Int.neg_mul]
   congr 1
   simp only [Int.mul_comm,Int.mul_left_comm,Int.mul_assoc]
   rfl
 rw [e1]
 have e2 : u32 (((q / 2 ^ n : Nat) : Int) - ((4294967296 * m' * (a / 2147483648) : Nat) : Int)) = q / 2 ^ n % 4294967296:=by
  unfold u32
  rw [Nat.mul_assoc]
  omega
 rw [e2,show (4294967296 : Nat) = 2 ^ 32 from rfl]
 have e3 : q / 2 ^ n % 2 ^ 32 / 2 ^ i % 2 = q / 2 ^ (i + n) % 2:=by
  have h1 : (q / 2 ^ n % 2 ^ 32).testBit i = (q / 2 ^ n).testBit i:=by rw [Nat.testBit_mod_two_pow]; simp [hi]
  rw [Nat.testBit_eq_decide_div_mod_eq,Nat.testBit_eq_decide_div_mod_eq] at h1
  rw [Nat.pow_add,Nat.mul_comm (2 ^ i),← Nat.div_div_eq_div_mul]
  have h2:=decide_eq_decide.1 h1
  omega
 rw [e3,hq2]
 split
 ·rename_i h
  have hd : 2147483648 = 2 ^ 31:=rfl
  rcases (show a / 2147483648 = 0 ∨ a / 2147483648 = 1 by omega) with e | e
  ·rw [e]; simp
  ·rw [e,Nat.one_mul,show (18446744069414584320 : Nat) = 2 ^ (i + n) * (2 * (2 ^ (31 - (i + n)) * 4294967295)) from ?_,Nat.add_mul_div_left _ _ (Nat.two_pow_pos _),Nat.add_mul_mod_self_left]
   rw [← Nat.mul_assoc 2,← Nat.pow_succ',← Nat.mul_assoc,← Nat.pow_add,show i + n + (31 - (i + n)).succ = 32 by omega]
 ·rename_i h
  rcases (show a / 2147483648 = 0 ∨ a / 2147483648 = 1 by omega) with e | e
  ·rw [e,Nat.zero_mul,Nat.add_zero,Nat.div_eq_of_lt]
   exact Nat.lt_of_lt_of_le ha (Nat.pow_le_pow_right (n:=2) (by omega) (show 32 ≤ i + n by omega))
  ·rw [e,Nat.one_mul]
   have hs : a + 18446744069414584320 = 2 ^ 64 - ((4294967295 - a) + 1):=by omega
   have h1 : (a + 18446744069414584320).testBit (i + n) = true:=by
    rw [hs,Nat.testBit_two_pow_sub_succ (by omega)]
    rw [Nat.testBit_lt_two_pow (Nat.lt_of_lt_of_le (show 4294967295 - a < 2 ^ 32 by omega) (Nat.pow_le_pow_right (n:=2) (by omega) (show 32 ≤ i + n by omega)))]
    simp; omega
   rw [Nat.testBit_eq_decide_div_mod_eq] at h1
   simpa using h1
theorem sh_bit {k a n i : Nat} (hk : k = 2 ∨ k = 6 ∨ k = 7) (ha : a < 4294967296) (hi : i < 32) (hn : n < 32) : shBit k a n i = shP k a n / 2 ^ i % 2:=by
 rcases hk with rfl | rfl | rfl
 ·simp only [shBit,shP,if_true]
  rw [u32_nat,show (4294967296 : Nat) = 2 ^ 32 from rfl]
  have h1 : (a * 2 ^ n % 2 ^ 32).testBit i = (decide (n ≤ i) && a.testBit (i - n)):=by
   rw [Nat.testBit_mod_two_pow,Nat.testBit_mul_two_pow]; simp [hi]
  rw [Nat.testBit_eq_decide_div_mod_eq,Nat.testBit_eq_decide_div_mod_eq] at h1
  by_cases h : n ≤ i
  ·rw [if_pos h]
   simp only [h,decide_true,Bool.true_and] at h1
   have:=decide_eq_decide.1 h1
   omega
  ·rw [if_neg h]
   simp only [h,decide_false,Bool.false_and,decide_eq_false_iff_not] at h1
   omega
 ·simp only [shBit,shP,if_true,show ¬ (6 = 2) by decide,show ¬ (6 = 7) by decide,if_false]
  rw [Nat.div_div_eq_div_mul,← Nat.pow_add,Nat.add_comm n i]
  split
  ·rfl
  ·rw [Nat.div_eq_of_lt]
   exact Nat.lt_of_lt_of_le ha (Nat.pow_le_pow_right (n:=2) (by omega) (show 32 ≤ i + n by omega))
 ·simp only [shBit,shP,if_true,show ¬ (7 = 2) by decide,show ¬ (7 = 6) by decide,if_false]
  rw [s32_shr ha hi hn]
theorem doP_sh {k a b : Nat} (hk : k = 2 ∨ k = 6 ∨ k = 7) : doP k a b = shP k a (b % 32):=by rcases hk with rfl | rfl | rfl <;> rfl
def hiP (k a b : Nat) : Nat :=
 let h:=a * b / 4294967296
 let h1:=if k ≠ 13 ∧ a / 2147483648 = 1 then u32 ((h : Int) - b) else h
 if k = 11 ∧ b / 2147483648 = 1 then u32 ((h1 : Int) - a) else h1
theorem hi_do {k a b : Nat} (hk : k = 11 ∨ k = 12 ∨ k = 13) (ha : a < 4294967296) (hb : b < 4294967296) : hiP k a b = doP k a b:=by
 have hsa:=wide_s32 ha
 have hsb:=wide_s32 hb
 have hm:=mul_hi ha hb
 rcases hk with rfl | rfl | rfl
 ·simp only [hiP,doP,show ¬ (11 = 13) by decide,show ¬(11 = 0) by decide,show ¬(11 = 1) by decide,show ¬(11 = 2) by decide,show ¬(11 = 3) by decide,show ¬(11 = 4) by decide,show ¬(11 = 5) by decide,show ¬(11 = 6) by decide,show ¬(11 = 7) by decide,show ¬(11 = 8) by decide,show ¬(11 = 9) by decide,show ¬(11 = 10) by decide,ne_eq,not_false_eq_true,true_and,if_true,if_false]
  rw [← hsa,← hsb]
  unfold wideP
  by_cases h1 : a / 2147483648 = 1 <;> by_cases h2 : b / 2147483648 = 1 <;> simp only [h1,h2,if_true,if_false]
  ·have e : ((a : Int) - 4294967296) * ((b : Int) - 4294967296) = ((a * b : Nat) : Int) + 4294967296 * (4294967296 - a - b):=by
    rw [Int.natCast_mul,Int.sub_mul,Int.mul_sub,Int.mul_sub,Int.mul_sub]; omega
   rw [e,Int.add_mul_ediv_left _ _ (by decide)]
   unfold u32; omega
  ·have e : ((a : Int) - 4294967296) * (b : Int) = ((a * b : Nat) : Int) + 4294967296 * (- b):=by
    rw [Int.natCast_mul,Int.sub_mul]; omega
   rw [e,Int.add_mul_ediv_left _ _ (by decide)]
   unfold u32; omega
  ·have e : (a : Int) * ((b : Int) - 4294967296) = ((a * b : Nat) : Int) + 4294967296 * (- a):=by
    rw [Int.natCast_mul,Int.mul_sub]; omega
   rw [e,Int.add_mul_ediv_left _ _ (by decide)]
   unfold u32; omega
  ·rw [← Int.natCast_mul]; unfold u32; omega
 ·simp only [hiP,doP,show ¬ (12 = 13) by decide,show ¬ (12 = 11) by decide,show ¬(12 = 0) by decide,show ¬(12 = 1) by decide,show ¬(12 = 2) by decide,show ¬(12 = 3) by decide,show ¬(12 = 4) by decide,show ¬(12 = 5) by decide,show ¬(12 = 6) by decide,show ¬(12 = 7) by decide,show ¬(12 = 8) by decide,show ¬(12 = 9) by decide,show ¬(12 = 10) by decide,ne_eq,not_false_eq_true,true_and,false_and,if_true,if_false]
  rw [← hsa]
  unfold wideP
  by_cases h1 : a / 2147483648 = 1 <;> simp only [h1,if_true,if_false]
  ·have e : ((a : Int) - 4294967296) * (b : Int) = ((a * b : Nat) : Int) + 4294967296 * (- b):=by
    rw [Int.natCast_mul,Int.sub_mul]; omega
   rw [e,Int.add_mul_ediv_left _ _ (by decide)]
   unfold u32; omega
  ·rw [← Int.natCast_mul]; unfold u32; omega
 ·rfl
end Go.Proofs.YthjelpbaljapiaaGreat

namespace Go.Proofs.YthjelpbaljapiaaGreat
open _root_.Go.Proofs.Tryz
open Go
theorem qgg (a : Nat) (ha : a < 4294967296) : Spec Tryz.prog 84 #[.int .u32 a] (fun _=>True) [] (fun ρ ρ' v L=>ρ' = ρ ∧ v = .bool (decide (a / 2147483648 = 1)) ∧ L = []):=by
 refine Spec.of 6 Tryz.func84 rfl Tryz.ntmps84 [(0,_)] rfl rfl ?_
 intro cx ρ hr h0
 refine Cd.seq fun K1 hK1=>?_
 refine Cd.qac [(0,false)] rfl rfl ?_
 refine Jp.y 2 rfl (qaa rfl) rfl rfl Kp.true (Y.assign rfl rfl) ?_
 refine Jp.qae hK1 ?_
 refine Cd.seq fun K2 hK2=>?_
 refine Cd.qac [(0,false),(1,false),(2,false),(3,false)] rfl rfl ?_
 refine Jp.y 3 rfl (qaa rfl) rfl rfl Kp.true (Y.move rfl rfl) ?_
 refine Jp.y 4 rfl (qaa rfl) rfl rfl Kp.true (Y.shr rfl rfl rfl (by first | decide | omega)) ?_
 refine Jp.y 5 rfl (qaa rfl) rfl rfl Kp.true (Y.eql rfl rfl rfl) ?_
 refine Jp.y 2 rfl (qaa rfl) rfl rfl Kp.true (Y.assign rfl rfl) ?_
 refine Jp.qae hK2 ?_
 refine Cd.ret [] rfl (qba rfl rfl) trivial ⟨rfl,congrArg Value.bool ((congrArg (fun x : Int=>x == 1) (shr32 a 31 (by omega))).trans (by rw [Bool.eq_iff_iff]; simp only [beq_iff_eq,decide_eq_true_eq]; omega)),rfl⟩
theorem qcj (a : Nat) (ha : a < 4294967296) : Spec Tryz.prog 57 #[.int .u32 a] (fun _=>True) [] (fun ρ ρ' v L=>ρ' = ρ ∧ v = .int .i64 (s32 a) ∧ L = []):=by
 refine Spec.of 10 Tryz.func57 rfl Tryz.ntmps57 [(0,_)] rfl rfl ?_
 intro cx ρ hr h0
 rw [← wide_s32 ha]
 refine Cd.seq fun K3 hK3=>?_
 refine Cd.qac [(0,false)] rfl rfl ?_
 refine Jp.y 2 rfl (qaa rfl) rfl rfl Kp.true (Y.assign rfl rfl) ?_
 refine Jp.qae hK3 ?_
 refine Cd.seq fun K4 hK4=>?_
 refine Cd.seq fun K5 hK5=>?_
 refine Cd.qac [(0,false),(1,false)] rfl rfl ?_
 refine Jp.y 3 rfl (qaa rfl) rfl rfl Kp.true (Y.move rfl rfl) ?_
 refine Jp.call [] [] (qgg a ha) 4 rfl (qaa rfl) rfl rfl (Runs.fn rfl call84 rfl) (by decide) (by decide) rfl trivial ?_
 rintro v1 ρ1 L1 ⟨rfl,rfl,rfl⟩
 refine ⟨rfl,fun hle1=>⟨Kp.true,?_⟩⟩
 refine Jp.qae hK5 ?_
 refine Cd.qal rfl (fun g=>?_) (fun g=>?_)
 ·skip
  refine Cd.seq fun K6 hK6=>?_
  refine Cd.qac [(0,false),(1,false),(2,false),(3,false)] rfl rfl ?_
  refine Jp.y 5 rfl (qaa rfl) rfl rfl Kp.true (Y.move rfl rfl) ?_
  refine Jp.y 6 rfl (qaa rfl) rfl rfl Kp.true (Y.qap rfl rfl underlying24 underlying2 (by exact qag (by omega) (by omega))) ?_
  refine Jp.y 7 rfl (qaa rfl) rfl rfl Kp.true (Y.qdo rfl rfl rfl (by exact qag (by omega) (by omega))) ?_
  refine Jp.y 2 rfl (qaa rfl) rfl rfl Kp.true (Y.assign rfl rfl) ?_
  refine Jp.qae hK6 ?_
  refine Cd.ret [] rfl (qba rfl rfl) trivial ⟨rfl,by rw [wideP,if_pos (by simpa using g)],rfl⟩
 ·skip
  refine Cd.qbi hK4 ?_
  refine Cd.seq fun K7 hK7=>?_
  refine Cd.qac [(0,false),(1,false),(2,false)] rfl rfl ?_
  refine Jp.y 8 rfl (qaa rfl) rfl rfl Kp.true (Y.move rfl rfl) ?_
  refine Jp.y 9 rfl (qaa rfl) rfl rfl Kp.true (Y.qap rfl rfl underlying24 underlying2 (by exact qag (by omega) (by omega))) ?_
  refine Jp.y 2 rfl (qaa rfl) rfl rfl Kp.true (Y.assign rfl rfl) ?_
  refine Jp.qae hK7 ?_
  refine Cd.ret [] rfl (qba rfl rfl) trivial ⟨rfl,by rw [wideP,if_neg (by simpa using g)],rfl⟩
theorem bitand1 {b : Nat} (hb : b < 4294967296) : qbu .and .u32 (b : Int) 1 = ((b % 2 : Nat) : Int):=by
 have:=qbz (b:=1) hb (by omega)
 rw [show (b &&& 1) = b % 2 from Nat.and_one_is_mod b] at this
 exact this
theorem shl1 {x i : Nat} (hx : x < 2) (hi : i < 32) : IntKind.u32.wrap ((x : Int) * 2 ^ (min (i : Int).toNat IntKind.u32.bits)) = ((x * 2 ^ i : Nat) : Int):=by
 refine shl32 (by omega) ?_
 have h1 : x * 2 ^ i ≤ 1 * 2 ^ i:=Nat.mul_le_mul_right _ (by omega)
 have h2 : (2 : Nat) ^ i ≤ 2 ^ 31:=Nat.pow_le_pow_right (by omega) (by omega)
 omega
theorem mod32 {X i : Nat} : X % 2 ^ i ≤ X:=Nat.mod_le ..
theorem bit_mul {x i : Nat} (hx : x < 2) (hi : i < 32) : x * 2 ^ i < 4294967296:=by
 have h1 : x * 2 ^ i ≤ 1 * 2 ^ i:=Nat.mul_le_mul_right _ (by omega)
 have h2 : (2 : Nat) ^ i ≤ 2 ^ 31:=Nat.pow_le_pow_right (by omega) (by omega)
 omega
theorem shift_spec (k a n : Nat) (hk : k = 2 ∨ k = 6 ∨ k = 7) (ha : a < 4294967296) (hn : n < 32) : Spec Tryz.prog 59 #[.int .i64 k,.int .u32 a,.int .i64 n] (fun _=>True) [] (fun ρ ρ' v L=>ρ' = ρ ∧ v = .int .u32 (shP k a n : Int) ∧ L = []):=by
 refine Spec.of 49 Tryz.func59 rfl Tryz.ntmps59 [(0,_),(1,_),(2,_)] rfl rfl ?_
 intro cx ρ hr h0
 have hX : shP k a n < 4294967296:=shP_lt ha
 have hb : ∀ i,i < 32 → shBit k a n i = shP k a n / 2 ^ i % 2:=fun i hi=>sh_bit hk ha hi hn
 obtain ⟨X,hXe⟩ : ∃ X,shP k a n = X:=⟨_,rfl⟩
 rw [hXe] at hX ⊢
 rw [hXe] at hb
 refine Cd.seq fun K8 hK8=>?_
 refine Cd.qac [(0,false)] rfl rfl ?_
 refine Jp.y 6 rfl (qaa rfl) rfl rfl Kp.true (Y.assign rfl rfl) ?_
 refine Jp.qae hK8 ?_
 refine Cd.seq fun K9 hK9=>?_
 refine Cd.qac [(0,false)] rfl rfl ?_
 refine Jp.y 7 rfl (qaa rfl) rfl rfl Kp.true (Y.assign rfl rfl) ?_
 refine Jp.qae hK9 ?_
 refine Cd.seq fun K10 hK10=>?_
 refine Cd.seq fun K11 hK11=>?_
 refine Cd.qac [(0,false)] rfl rfl ?_
 refine Jp.y 8 rfl (qaa rfl) rfl rfl Kp.true (Y.assign rfl rfl) ?_
 refine Jp.qae hK11 ?_
 refine Cd.block ?_
 refine Cd.slot 7 rfl (show _ = Value.int .u32 ((X % 2 ^ 0 : Nat) : Int) from congrArg (Value.int .u32) (by rw [Nat.pow_zero,Nat.mod_one]; rfl)) ?_
 refine Cd.qdw (G:=Nat) (fun g=>g ≤ 32) (fun g=>32 - g) (fun _=>_) (fun g=>[(7,.int .u32 ((X % 2 ^ g : Nat) : Int)),(8,.int .i64 (g : Int))]) [(0,_),(1,_),(2,_)] (fun _=>[]) [] 0 (Nat.zero_le _) rfl ⟨rfl,rfl,trivial⟩ ⟨rfl,rfl,rfl,trivial⟩ trivial trivial (fun g KLz hok hLz=>?_)
 obtain ⟨i,hi⟩ : ∃ i,i = g:=⟨_,rfl⟩
 rw [← hi] at hok ⊢
 have hle : i ≤ 32:=hok
 refine Cd.seq fun K12 hK12=>?_
 refine Cd.seq fun K13 hK13=>?_
 refine Cd.qac [(0,false),(1,false)] rfl rfl ?_
 refine Jp.y 11 rfl (qaa rfl) rfl rfl Kp.true (Y.move rfl rfl) ?_
 refine Jp.y 12 rfl (qaa rfl) rfl rfl Kp.true (Y.lss rfl rfl rfl) ?_
 refine Jp.qae hK13 ?_
 refine Cd.qal rfl (fun gz=>?_) (fun gz=>?_)
 ·have hil : i < 32:=by simp at gz; omega
  have hb:=hb i hil
  have hx2 : X / 2 ^ i % 2 < 2:=Nat.mod_lt _ (by decide)
  have hor:=or_next (X:=X) (i:=i)
  have hml : X % 2 ^ i < 4294967296:=Nat.lt_of_le_of_lt mod32 hX
  have hbl:=bit_mul hx2 hil
  have hsl:=shl1 hx2 hil
  have hd:=fun m=>Nat.lt_of_le_of_lt (Nat.div_le_self a m) ha
  have hA : k = 2 → n ≤ i → qbu .and .u32 ((a : Int).fdiv (2 ^ (min ((i : Int) - n).toNat IntKind.u32.bits))) 1 = ((X / 2 ^ i % 2 : Nat) : Int):=fun h1 h2=>by
   rw [← hb,show (i : Int) - n = ((i - n : Nat) : Int) by omega,shr32 a (i - n) (by omega),bitand1 (hd _),shBit,if_pos h1,if_pos h2]
  have hC : ¬ k = 2 → i + n < 32 → qbu .and .u32 ((a : Int).fdiv (2 ^ (min ((i : Int) + n).toNat IntKind.u32.bits))) 1 = ((X / 2 ^ i % 2 : Nat) : Int):=fun h1 h2=>by
   rw [← hb,← Int.natCast_add,shr32 a (i + n) (by omega),bitand1 (hd _),shBit,if_neg h1,if_pos h2]
  have hD : k = 7 → ¬ i + n < 32 → (a : Int).fdiv (2 ^ (min (31 : Int).toNat IntKind.u32.bits)) = ((X / 2 ^ i % 2 : Nat) : Int):=fun h1 h2=>by
   rw [← hb,shBit,if_neg (show ¬ k = 2 by omega),if_neg h2,if_pos h1]
   exact shr32 a 31 (by omega)
  have hE : (k = 2 ∧ i < n ∨ k = 6 ∧ ¬ i + n < 32) → (0 : Int) = ((X / 2 ^ i % 2 : Nat) : Int):=fun h=>by
   rw [← hb,shBit]
   rcases h with ⟨h1,h2⟩ | ⟨h1,h2⟩
   ·rw [if_pos h1,if_neg (show ¬ n ≤ i by omega)]; rfl
   ·rw [if_neg (show ¬ k = 2 by omega),if_neg h2,if_neg (show ¬ k = 7 by omega)]; rfl
  refine Cd.qbi hK12 ?_
  refine Cd.seq fun K14 hK14=>?_
  refine Cd.block ?_
  refine Cd.seq fun K15 hK15=>?_
  refine Cd.qac [(0,false),(1,false),(2,false),(3,false)] rfl rfl ?_
  refine Jp.y 15 rfl (qaa rfl) rfl rfl Kp.true (Y.move rfl rfl) ?_
  refine Jp.y 16 rfl (qaa rfl) rfl rfl Kp.true (Y.move rfl rfl) ?_
  refine Jp.y 17 rfl (qaa rfl) rfl rfl Kp.true (Y.qbx rfl rfl rfl (by exact qag (by omega) (by omega))) ?_
  refine Jp.y 9 rfl (qaa rfl) rfl rfl Kp.true (Y.assign rfl rfl) ?_
  refine Jp.qae hK15 ?_
  refine Cd.seq fun K16 hK16=>?_
  refine Cd.seq fun K17 hK17=>?_
  refine Cd.qac [(0,false),(1,false)] rfl rfl ?_
  refine Jp.y 18 rfl (qaa rfl) rfl rfl Kp.true (Y.move rfl rfl) ?_
  refine Jp.y 19 rfl (qaa rfl) rfl rfl Kp.true (Y.eql rfl rfl rfl) ?_
  refine Jp.qae hK17 ?_
  refine Cd.qal rfl (fun g19=>?_) (fun g19=>?_)
  ·skip
   try simp only [sG0] at g19
   refine Cd.qac [(0,false),(1,false),(2,false),(3,false)] rfl rfl ?_
   refine Jp.y 20 rfl (qaa rfl) rfl rfl Kp.true (Y.move rfl rfl) ?_
   refine Jp.y 21 rfl (qaa rfl) rfl rfl Kp.true (Y.move rfl rfl) ?_
   refine Jp.y 22 rfl (qaa rfl) rfl rfl Kp.true (Y.qdo rfl rfl rfl (by exact qag (by omega) (by omega))) ?_
   refine Jp.y 9 rfl (qaa rfl) rfl rfl Kp.true (Y.assign rfl rfl) ?_
   refine Jp.qae hK16 ?_
   refine Cd.seq fun K18 hK18=>?_
   refine Cd.qac [(0,false)] rfl rfl ?_
   refine Jp.y 10 rfl (qaa rfl) rfl rfl Kp.true (Y.assign rfl rfl) ?_
   refine Jp.qae hK18 ?_
   refine Cd.seq fun K19 hK19=>?_
   refine Cd.seq fun K20 hK20=>?_
   refine Cd.qac [(0,false),(1,false),(2,false),(3,false),(4,false),(5,false)] rfl rfl ?_
   refine Jp.y 23 rfl (qaa rfl) rfl rfl Kp.true (Y.move rfl rfl) ?_
   refine Jp.y 24 rfl (qaa rfl) rfl rfl Kp.true (Y.geq rfl rfl rfl) ?_
   refine Jp.y 25 rfl (qaa rfl) rfl rfl Kp.true (Y.move rfl rfl) ?_
   refine Jp.split 25 rfl (fun g25=>?_) (fun g25=>?_)
   ·skip
    try simp only [sG0] at g25
    refine Jp.y 26 rfl (qab rfl rfl rfl rfl) rfl rfl Kp.true (Y.move rfl rfl) ?_
    refine Jp.y 27 rfl (qab rfl rfl rfl rfl) rfl rfl Kp.true (Y.lss rfl rfl rfl) ?_
    refine Jp.y 28 rfl (qaa rfl) rfl rfl Kp.true (Y.qat rfl rfl rfl) ?_
    refine Jp.qae hK20 ?_
    refine Cd.qal rfl (fun g28=>?_) (fun g28=>?_)
    ·skip
     try simp only [sG0] at g28
     refine Cd.qac [(0,false),(1,false),(2,false),(3,false),(4,false),(5,false)] rfl rfl ?_
     refine Jp.y 29 rfl (qaa rfl) rfl rfl Kp.true (Y.move rfl rfl) ?_
     refine Jp.y 30 rfl (qaa rfl) rfl rfl Kp.true (Y.move rfl rfl) ?_
     refine Jp.y 31 rfl (qaa rfl) rfl rfl Kp.true (Y.qap rfl rfl underlying3 underlying55 (by exact qay (by omega) (by omega))) ?_
     refine Jp.y 32 rfl (qaa rfl) rfl rfl Kp.true (Y.shr rfl rfl rfl (by first | decide | omega)) ?_
     refine Jp.y 33 rfl (qaa rfl) rfl rfl Kp.true (Y.bits rfl rfl rfl rfl) ?_
     refine Jp.y 10 rfl (qaa rfl) rfl rfl Kp.true (Y.assign rfl rfl) ?_
     refine Jp.qae hK19 ?_
     refine Cd.qac [(0,false),(1,false),(2,false),(3,false),(4,false),(5,false),(6,false)] rfl rfl ?_
     refine Jp.y 42 rfl (qaa rfl) rfl rfl Kp.true (Y.move rfl rfl) ?_
     refine Jp.slot 10 rfl (show _ = Value.int .u32 ((X / 2 ^ i % 2 : Nat) : Int) from congrArg (Value.int .u32) (by (try simp only [decide_eq_true_eq,decide_eq_false_iff_not] at *); exact hA (by omega) (by omega))) ?_
     refine Jp.y 43 rfl (qaa rfl) rfl rfl Kp.true (Y.move rfl rfl) ?_
     refine Jp.y 44 rfl (qaa rfl) rfl rfl Kp.true (Y.move rfl rfl) ?_
     refine Jp.y 45 rfl (qaa rfl) rfl rfl Kp.true (Y.qap rfl rfl underlying3 underlying55 (by exact qay (by omega) (by omega))) ?_
     refine Jp.y 46 rfl (qaa rfl) rfl rfl Kp.true (Y.shl rfl rfl rfl (by first | decide | omega)) ?_
     refine Jp.y 47 rfl (qaa rfl) rfl rfl Kp.true (Y.bits rfl rfl rfl rfl) ?_
     refine Jp.y 7 rfl (qaa rfl) rfl rfl Kp.true (Y.assign rfl rfl) ?_
     refine Jp.over rfl hK14 ?_
     refine Cd.qac [(0,false),(1,false),(2,false)] rfl rfl ?_
     refine Jp.y 13 rfl (qaa rfl) rfl rfl Kp.true (Y.move rfl rfl) ?_
     refine Jp.y 14 rfl (qaa rfl) rfl rfl Kp.true (Y.qbx rfl rfl rfl (by exact qag (by omega) (by omega))) ?_
     refine Jp.y 8 rfl (qaa rfl) rfl rfl Kp.true (Y.assign rfl rfl) ?_
     rw [hsl,qas hml hbl,hor,show (i : Int) + 1 = ((i + 1 : Nat) : Int) by omega]
     refine Jp.again hLz (i + 1) hil (by omega) rfl ⟨rfl,rfl,rfl,rfl,rfl,trivial⟩ trivial
    ·skip
     try simp only [sG0] at g28
     refine Cd.seq fun K21 hK21=>?_
     refine Cd.qac [(0,false),(1,false),(2,false),(3,false),(4,false),(5,false)] rfl rfl ?_
     refine Jp.y 34 rfl (qaa rfl) rfl rfl Kp.true (Y.move rfl rfl) ?_
     refine Jp.y 35 rfl (qaa rfl) rfl rfl Kp.true (Y.eql rfl rfl rfl) ?_
     refine Jp.y 36 rfl (qaa rfl) rfl rfl Kp.true (Y.move rfl rfl) ?_
     refine Jp.split 36 rfl (fun g36=>?_) (fun g36=>?_)
     ·skip
      try simp only [sG0] at g36
      refine Jp.y 37 rfl (qab rfl rfl rfl rfl) rfl rfl Kp.true (Y.move rfl rfl) ?_
      refine Jp.y 38 rfl (qab rfl rfl rfl rfl) rfl rfl Kp.true (Y.geq rfl rfl rfl) ?_
      refine Jp.y 39 rfl (qaa rfl) rfl rfl Kp.true (Y.qat rfl rfl rfl) ?_
      refine Jp.qae hK21 ?_
      refine Cd.qal rfl (fun g39=>?_) (fun g39=>?_)
      ·skip
       try simp only [sG0] at g39
       refine Cd.qac [(0,false),(1,false),(2,false)] rfl rfl ?_
       refine Jp.y 40 rfl (qaa rfl) rfl rfl Kp.true (Y.move rfl rfl) ?_
       refine Jp.y 41 rfl (qaa rfl) rfl rfl Kp.true (Y.shr rfl rfl rfl (by first | decide | omega)) ?_
       refine Jp.y 10 rfl (qaa rfl) rfl rfl Kp.true (Y.assign rfl rfl) ?_
       refine Jp.qae hK19 ?_
       refine Cd.qac [(0,false),(1,false),(2,false),(3,false),(4,false),(5,false),(6,false)] rfl rfl ?_
       refine Jp.y 42 rfl (qaa rfl) rfl rfl Kp.true (Y.move rfl rfl) ?_
       refine Jp.slot 10 rfl (show _ = Value.int .u32 ((X / 2 ^ i % 2 : Nat) : Int) from congrArg (Value.int .u32) (by (try simp only [decide_eq_true_eq,decide_eq_false_iff_not] at *); (exfalso; omega))) ?_
       refine Jp.y 43 rfl (qaa rfl) rfl rfl Kp.true (Y.move rfl rfl) ?_
       refine Jp.y 44 rfl (qaa rfl) rfl rfl Kp.true (Y.move rfl rfl) ?_
       refine Jp.y 45 rfl (qaa rfl) rfl rfl Kp.true (Y.qap rfl rfl underlying3 underlying55 (by exact qay (by omega) (by omega))) ?_
       refine Jp.y 46 rfl (qaa rfl) rfl rfl Kp.true (Y.shl rfl rfl rfl (by first | decide | omega)) ?_
       refine Jp.y 47 rfl (qaa rfl) rfl rfl Kp.true (Y.bits rfl rfl rfl rfl) ?_
       refine Jp.y 7 rfl (qaa rfl) rfl rfl Kp.true (Y.assign rfl rfl) ?_
       refine Jp.over rfl hK14 ?_
       refine Cd.qac [(0,false),(1,false),(2,false)] rfl rfl ?_
       refine Jp.y 13 rfl (qaa rfl) rfl rfl Kp.true (Y.move rfl rfl) ?_
       refine Jp.y 14 rfl (qaa rfl) rfl rfl Kp.true (Y.qbx rfl rfl rfl (by exact qag (by omega) (by omega))) ?_
       refine Jp.y 8 rfl (qaa rfl) rfl rfl Kp.true (Y.assign rfl rfl) ?_
       rw [hsl,qas hml hbl,hor,show (i : Int) + 1 = ((i + 1 : Nat) : Int) by omega]
       refine Jp.again hLz (i + 1) hil (by omega) rfl ⟨rfl,rfl,rfl,rfl,rfl,trivial⟩ trivial
      ·skip
       try simp only [sG0] at g39
       refine Cd.qbi hK19 ?_
       refine Cd.qac [(0,false),(1,false),(2,false),(3,false),(4,false),(5,false),(6,false)] rfl rfl ?_
       refine Jp.y 42 rfl (qaa rfl) rfl rfl Kp.true (Y.move rfl rfl) ?_
       refine Jp.slot 10 rfl (show _ = Value.int .u32 ((X / 2 ^ i % 2 : Nat) : Int) from congrArg (Value.int .u32) (by (try simp only [decide_eq_true_eq,decide_eq_false_iff_not] at *); (exfalso; omega))) ?_
       refine Jp.y 43 rfl (qaa rfl) rfl rfl Kp.true (Y.move rfl rfl) ?_
       refine Jp.y 44 rfl (qaa rfl) rfl rfl Kp.true (Y.move rfl rfl) ?_
       refine Jp.y 45 rfl (qaa rfl) rfl rfl Kp.true (Y.qap rfl rfl underlying3 underlying55 (by exact qay (by omega) (by omega))) ?_
       refine Jp.y 46 rfl (qaa rfl) rfl rfl Kp.true (Y.shl rfl rfl rfl (by first | decide | omega)) ?_
       refine Jp.y 47 rfl (qaa rfl) rfl rfl Kp.true (Y.bits rfl rfl rfl rfl) ?_
       refine Jp.y 7 rfl (qaa rfl) rfl rfl Kp.true (Y.assign rfl rfl) ?_
       refine Jp.over rfl hK14 ?_
       refine Cd.qac [(0,false),(1,false),(2,false)] rfl rfl ?_
       refine Jp.y 13 rfl (qaa rfl) rfl rfl Kp.true (Y.move rfl rfl) ?_
       refine Jp.y 14 rfl (qaa rfl) rfl rfl Kp.true (Y.qbx rfl rfl rfl (by exact qag (by omega) (by omega))) ?_
       refine Jp.y 8 rfl (qaa rfl) rfl rfl Kp.true (Y.assign rfl rfl) ?_
       rw [hsl,qas hml hbl,hor,show (i : Int) + 1 = ((i + 1 : Nat) : Int) by omega]
       refine Jp.again hLz (i + 1) hil (by omega) rfl ⟨rfl,rfl,rfl,rfl,rfl,trivial⟩ trivial
     ·skip
      try simp only [sG0] at g36
      refine Jp.qak 37 rfl (qab rfl rfl rfl rfl) rfl rfl Kp.true ?_
      refine Jp.qak 38 rfl (qab rfl rfl rfl rfl) rfl rfl Kp.true ?_
      refine Jp.y 39 rfl (qaa rfl) rfl rfl Kp.true (Y.qao rfl rfl rfl) ?_
      refine Jp.qae hK21 ?_
      refine Cd.qbg rfl ?_
      refine Cd.qbi hK19 ?_
      refine Cd.qac [(0,false),(1,false),(2,false),(3,false),(4,false),(5,false),(6,false)] rfl rfl ?_
      refine Jp.y 42 rfl (qaa rfl) rfl rfl Kp.true (Y.move rfl rfl) ?_
      refine Jp.slot 10 rfl (show _ = Value.int .u32 ((X / 2 ^ i % 2 : Nat) : Int) from congrArg (Value.int .u32) (by (try simp only [decide_eq_true_eq,decide_eq_false_iff_not] at *); (exfalso; omega))) ?_
      refine Jp.y 43 rfl (qaa rfl) rfl rfl Kp.true (Y.move rfl rfl) ?_
      refine Jp.y 44 rfl (qaa rfl) rfl rfl Kp.true (Y.move rfl rfl) ?_
      refine Jp.y 45 rfl (qaa rfl) rfl rfl Kp.true (Y.qap rfl rfl underlying3 underlying55 (by exact qay (by omega) (by omega))) ?_
      refine Jp.y 46 rfl (qaa rfl) rfl rfl Kp.true (Y.shl rfl rfl rfl (by first | decide | omega)) ?_
      refine Jp.y 47 rfl (qaa rfl) rfl rfl Kp.true (Y.bits rfl rfl rfl rfl) ?_
      refine Jp.y 7 rfl (qaa rfl) rfl rfl Kp.true (Y.assign rfl rfl) ?_
      refine Jp.over rfl hK14 ?_
      refine Cd.qac [(0,false),(1,false),(2,false)] rfl rfl ?_
      refine Jp.y 13 rfl (qaa rfl) rfl rfl Kp.true (Y.move rfl rfl) ?_
      refine Jp.y 14 rfl (qaa rfl) rfl rfl Kp.true (Y.qbx rfl rfl rfl (by exact qag (by omega) (by omega))) ?_
      refine Jp.y 8 rfl (qaa rfl) rfl rfl Kp.true (Y.assign rfl rfl) ?_
      rw [hsl,qas hml hbl,hor,show (i : Int) + 1 = ((i + 1 : Nat) : Int) by omega]
      refine Jp.again hLz (i + 1) hil (by omega) rfl ⟨rfl,rfl,rfl,rfl,rfl,trivial⟩ trivial
   ·skip
    try simp only [sG0] at g25
    refine Jp.qak 26 rfl (qab rfl rfl rfl rfl) rfl rfl Kp.true ?_
    refine Jp.qak 27 rfl (qab rfl rfl rfl rfl) rfl rfl Kp.true ?_
    refine Jp.y 28 rfl (qaa rfl) rfl rfl Kp.true (Y.qao rfl rfl rfl) ?_
    refine Jp.qae hK20 ?_
    refine Cd.qbg rfl ?_
    refine Cd.seq fun K22 hK22=>?_
    refine Cd.qac [(0,false),(1,false),(2,false),(3,false),(4,false),(5,false)] rfl rfl ?_
    refine Jp.y 34 rfl (qaa rfl) rfl rfl Kp.true (Y.move rfl rfl) ?_
    refine Jp.y 35 rfl (qaa rfl) rfl rfl Kp.true (Y.eql rfl rfl rfl) ?_
    refine Jp.y 36 rfl (qaa rfl) rfl rfl Kp.true (Y.move rfl rfl) ?_
    refine Jp.split 36 rfl (fun g36=>?_) (fun g36=>?_)
    ·skip
     try simp only [sG0] at g36
     refine Jp.y 37 rfl (qab rfl rfl rfl rfl) rfl rfl Kp.true (Y.move rfl rfl) ?_
     refine Jp.y 38 rfl (qab rfl rfl rfl rfl) rfl rfl Kp.true (Y.geq rfl rfl rfl) ?_
     refine Jp.y 39 rfl (qaa rfl) rfl rfl Kp.true (Y.qat rfl rfl rfl) ?_
     refine Jp.qae hK22 ?_
     refine Cd.qal rfl (fun g39=>?_) (fun g39=>?_)
     ·skip
      try simp only [sG0] at g39
      refine Cd.qac [(0,false),(1,false),(2,false)] rfl rfl ?_
      refine Jp.y 40 rfl (qaa rfl) rfl rfl Kp.true (Y.move rfl rfl) ?_
      refine Jp.y 41 rfl (qaa rfl) rfl rfl Kp.true (Y.shr rfl rfl rfl (by first | decide | omega)) ?_
      refine Jp.y 10 rfl (qaa rfl) rfl rfl Kp.true (Y.assign rfl rfl) ?_
      refine Jp.qae hK19 ?_
      refine Cd.qac [(0,false),(1,false),(2,false),(3,false),(4,false),(5,false),(6,false)] rfl rfl ?_
      refine Jp.y 42 rfl (qaa rfl) rfl rfl Kp.true (Y.move rfl rfl) ?_
      refine Jp.slot 10 rfl (show _ = Value.int .u32 ((X / 2 ^ i % 2 : Nat) : Int) from congrArg (Value.int .u32) (by (try simp only [decide_eq_true_eq,decide_eq_false_iff_not] at *); (exfalso; omega))) ?_
      refine Jp.y 43 rfl (qaa rfl) rfl rfl Kp.true (Y.move rfl rfl) ?_
      refine Jp.y 44 rfl (qaa rfl) rfl rfl Kp.true (Y.move rfl rfl) ?_
      refine Jp.y 45 rfl (qaa rfl) rfl rfl Kp.true (Y.qap rfl rfl underlying3 underlying55 (by exact qay (by omega) (by omega))) ?_
      refine Jp.y 46 rfl (qaa rfl) rfl rfl Kp.true (Y.shl rfl rfl rfl (by first | decide | omega)) ?_
      refine Jp.y 47 rfl (qaa rfl) rfl rfl Kp.true (Y.bits rfl rfl rfl rfl) ?_
      refine Jp.y 7 rfl (qaa rfl) rfl rfl Kp.true (Y.assign rfl rfl) ?_
      refine Jp.over rfl hK14 ?_
      refine Cd.qac [(0,false),(1,false),(2,false)] rfl rfl ?_
      refine Jp.y 13 rfl (qaa rfl) rfl rfl Kp.true (Y.move rfl rfl) ?_
      refine Jp.y 14 rfl (qaa rfl) rfl rfl Kp.true (Y.qbx rfl rfl rfl (by exact qag (by omega) (by omega))) ?_
      refine Jp.y 8 rfl (qaa rfl) rfl rfl Kp.true (Y.assign rfl rfl) ?_
      rw [hsl,qas hml hbl,hor,show (i : Int) + 1 = ((i + 1 : Nat) : Int) by omega]
      refine Jp.again hLz (i + 1) hil (by omega) rfl ⟨rfl,rfl,rfl,rfl,rfl,trivial⟩ trivial
     ·skip
      try simp only [sG0] at g39
      refine Cd.qbi hK19 ?_
      refine Cd.qac [(0,false),(1,false),(2,false),(3,false),(4,false),(5,false),(6,false)] rfl rfl ?_
      refine Jp.y 42 rfl (qaa rfl) rfl rfl Kp.true (Y.move rfl rfl) ?_
      refine Jp.slot 10 rfl (show _ = Value.int .u32 ((X / 2 ^ i % 2 : Nat) : Int) from congrArg (Value.int .u32) (by (try simp only [decide_eq_true_eq,decide_eq_false_iff_not] at *); (exfalso; omega))) ?_
      refine Jp.y 43 rfl (qaa rfl) rfl rfl Kp.true (Y.move rfl rfl) ?_
      refine Jp.y 44 rfl (qaa rfl) rfl rfl Kp.true (Y.move rfl rfl) ?_
      refine Jp.y 45 rfl (qaa rfl) rfl rfl Kp.true (Y.qap rfl rfl underlying3 underlying55 (by exact qay (by omega) (by omega))) ?_
      refine Jp.y 46 rfl (qaa rfl) rfl rfl Kp.true (Y.shl rfl rfl rfl (by first | decide | omega)) ?_
      refine Jp.y 47 rfl (qaa rfl) rfl rfl Kp.true (Y.bits rfl rfl rfl rfl) ?_
      refine Jp.y 7 rfl (qaa rfl) rfl rfl Kp.true (Y.assign rfl rfl) ?_
      refine Jp.over rfl hK14 ?_
      refine Cd.qac [(0,false),(1,false),(2,false)] rfl rfl ?_
      refine Jp.y 13 rfl (qaa rfl) rfl rfl Kp.true (Y.move rfl rfl) ?_
      refine Jp.y 14 rfl (qaa rfl) rfl rfl Kp.true (Y.qbx rfl rfl rfl (by exact qag (by omega) (by omega))) ?_
      refine Jp.y 8 rfl (qaa rfl) rfl rfl Kp.true (Y.assign rfl rfl) ?_
      rw [hsl,qas hml hbl,hor,show (i : Int) + 1 = ((i + 1 : Nat) : Int) by omega]
      refine Jp.again hLz (i + 1) hil (by omega) rfl ⟨rfl,rfl,rfl,rfl,rfl,trivial⟩ trivial
    ·skip
     try simp only [sG0] at g36
     refine Jp.qak 37 rfl (qab rfl rfl rfl rfl) rfl rfl Kp.true ?_
     refine Jp.qak 38 rfl (qab rfl rfl rfl rfl) rfl rfl Kp.true ?_
     refine Jp.y 39 rfl (qaa rfl) rfl rfl Kp.true (Y.qao rfl rfl rfl) ?_
     refine Jp.qae hK22 ?_
     refine Cd.qbg rfl ?_
     refine Cd.qbi hK19 ?_
     refine Cd.qac [(0,false),(1,false),(2,false),(3,false),(4,false),(5,false),(6,false)] rfl rfl ?_
     refine Jp.y 42 rfl (qaa rfl) rfl rfl Kp.true (Y.move rfl rfl) ?_
     refine Jp.slot 10 rfl (show _ = Value.int .u32 ((X / 2 ^ i % 2 : Nat) : Int) from congrArg (Value.int .u32) (by (try simp only [decide_eq_true_eq,decide_eq_false_iff_not] at *); exact hE (by omega))) ?_
     refine Jp.y 43 rfl (qaa rfl) rfl rfl Kp.true (Y.move rfl rfl) ?_
     refine Jp.y 44 rfl (qaa rfl) rfl rfl Kp.true (Y.move rfl rfl) ?_
     refine Jp.y 45 rfl (qaa rfl) rfl rfl Kp.true (Y.qap rfl rfl underlying3 underlying55 (by exact qay (by omega) (by omega))) ?_
     refine Jp.y 46 rfl (qaa rfl) rfl rfl Kp.true (Y.shl rfl rfl rfl (by first | decide | omega)) ?_
     refine Jp.y 47 rfl (qaa rfl) rfl rfl Kp.true (Y.bits rfl rfl rfl rfl) ?_
     refine Jp.y 7 rfl (qaa rfl) rfl rfl Kp.true (Y.assign rfl rfl) ?_
     refine Jp.over rfl hK14 ?_
     refine Cd.qac [(0,false),(1,false),(2,false)] rfl rfl ?_
     refine Jp.y 13 rfl (qaa rfl) rfl rfl Kp.true (Y.move rfl rfl) ?_
     refine Jp.y 14 rfl (qaa rfl) rfl rfl Kp.true (Y.qbx rfl rfl rfl (by exact qag (by omega) (by omega))) ?_
     refine Jp.y 8 rfl (qaa rfl) rfl rfl Kp.true (Y.assign rfl rfl) ?_
     rw [hsl,qas hml hbl,hor,show (i : Int) + 1 = ((i + 1 : Nat) : Int) by omega]
     refine Jp.again hLz (i + 1) hil (by omega) rfl ⟨rfl,rfl,rfl,rfl,rfl,trivial⟩ trivial
  ·skip
   try simp only [sG0] at g19
   refine Cd.qbi hK16 ?_
   refine Cd.seq fun K23 hK23=>?_
   refine Cd.qac [(0,false)] rfl rfl ?_
   refine Jp.y 10 rfl (qaa rfl) rfl rfl Kp.true (Y.assign rfl rfl) ?_
   refine Jp.qae hK23 ?_
   refine Cd.seq fun K24 hK24=>?_
   refine Cd.seq fun K25 hK25=>?_
   refine Cd.qac [(0,false),(1,false),(2,false),(3,false),(4,false),(5,false)] rfl rfl ?_
   refine Jp.y 23 rfl (qaa rfl) rfl rfl Kp.true (Y.move rfl rfl) ?_
   refine Jp.y 24 rfl (qaa rfl) rfl rfl Kp.true (Y.geq rfl rfl rfl) ?_
   refine Jp.y 25 rfl (qaa rfl) rfl rfl Kp.true (Y.move rfl rfl) ?_
   refine Jp.split 25 rfl (fun g25=>?_) (fun g25=>?_)
   ·skip
    try simp only [sG0] at g25
    refine Jp.y 26 rfl (qab rfl rfl rfl rfl) rfl rfl Kp.true (Y.move rfl rfl) ?_
    refine Jp.y 27 rfl (qab rfl rfl rfl rfl) rfl rfl Kp.true (Y.lss rfl rfl rfl) ?_
    refine Jp.y 28 rfl (qaa rfl) rfl rfl Kp.true (Y.qat rfl rfl rfl) ?_
    refine Jp.qae hK25 ?_
    refine Cd.qal rfl (fun g28=>?_) (fun g28=>?_)
    ·skip
     try simp only [sG0] at g28
     refine Cd.qac [(0,false),(1,false),(2,false),(3,false),(4,false),(5,false)] rfl rfl ?_
     refine Jp.y 29 rfl (qaa rfl) rfl rfl Kp.true (Y.move rfl rfl) ?_
     refine Jp.y 30 rfl (qaa rfl) rfl rfl Kp.true (Y.move rfl rfl) ?_
     refine Jp.y 31 rfl (qaa rfl) rfl rfl Kp.true (Y.qap rfl rfl underlying3 underlying55 (by exact qay (by omega) (by omega))) ?_
     refine Jp.y 32 rfl (qaa rfl) rfl rfl Kp.true (Y.shr rfl rfl rfl (by first | decide | omega)) ?_
     refine Jp.y 33 rfl (qaa rfl) rfl rfl Kp.true (Y.bits rfl rfl rfl rfl) ?_
     refine Jp.y 10 rfl (qaa rfl) rfl rfl Kp.true (Y.assign rfl rfl) ?_
     refine Jp.qae hK24 ?_
     refine Cd.qac [(0,false),(1,false),(2,false),(3,false),(4,false),(5,false),(6,false)] rfl rfl ?_
     refine Jp.y 42 rfl (qaa rfl) rfl rfl Kp.true (Y.move rfl rfl) ?_
     refine Jp.slot 10 rfl (show _ = Value.int .u32 ((X / 2 ^ i % 2 : Nat) : Int) from congrArg (Value.int .u32) (by (try simp only [decide_eq_true_eq,decide_eq_false_iff_not] at *); exact hC (by omega) (by omega))) ?_
     refine Jp.y 43 rfl (qaa rfl) rfl rfl Kp.true (Y.move rfl rfl) ?_
     refine Jp.y 44 rfl (qaa rfl) rfl rfl Kp.true (Y.move rfl rfl) ?_
     refine Jp.y 45 rfl (qaa rfl) rfl rfl Kp.true (Y.qap rfl rfl underlying3 underlying55 (by exact qay (by omega) (by omega))) ?_
     refine Jp.y 46 rfl (qaa rfl) rfl rfl Kp.true (Y.shl rfl rfl rfl (by first | decide | omega)) ?_
     refine Jp.y 47 rfl (qaa rfl) rfl rfl Kp.true (Y.bits rfl rfl rfl rfl) ?_
     refine Jp.y 7 rfl (qaa rfl) rfl rfl Kp.true (Y.assign rfl rfl) ?_
     refine Jp.over rfl hK14 ?_
     refine Cd.qac [(0,false),(1,false),(2,false)] rfl rfl ?_
     refine Jp.y 13 rfl (qaa rfl) rfl rfl Kp.true (Y.move rfl rfl) ?_
     refine Jp.y 14 rfl (qaa rfl) rfl rfl Kp.true (Y.qbx rfl rfl rfl (by exact qag (by omega) (by omega))) ?_
     refine Jp.y 8 rfl (qaa rfl) rfl rfl Kp.true (Y.assign rfl rfl) ?_
     rw [hsl,qas hml hbl,hor,show (i : Int) + 1 = ((i + 1 : Nat) : Int) by omega]
     refine Jp.again hLz (i + 1) hil (by omega) rfl ⟨rfl,rfl,rfl,rfl,rfl,trivial⟩ trivial
    ·skip
     try simp only [sG0] at g28
     refine Cd.seq fun K26 hK26=>?_
     refine Cd.qac [(0,false),(1,false),(2,false),(3,false),(4,false),(5,false)] rfl rfl ?_
     refine Jp.y 34 rfl (qaa rfl) rfl rfl Kp.true (Y.move rfl rfl) ?_
     refine Jp.y 35 rfl (qaa rfl) rfl rfl Kp.true (Y.eql rfl rfl rfl) ?_
     refine Jp.y 36 rfl (qaa rfl) rfl rfl Kp.true (Y.move rfl rfl) ?_
     refine Jp.split 36 rfl (fun g36=>?_) (fun g36=>?_)
     ·skip
      try simp only [sG0] at g36
      refine Jp.y 37 rfl (qab rfl rfl rfl rfl) rfl rfl Kp.true (Y.move rfl rfl) ?_
      refine Jp.y 38 rfl (qab rfl rfl rfl rfl) rfl rfl Kp.true (Y.geq rfl rfl rfl) ?_
      refine Jp.y 39 rfl (qaa rfl) rfl rfl Kp.true (Y.qat rfl rfl rfl) ?_
      refine Jp.qae hK26 ?_
      refine Cd.qal rfl (fun g39=>?_) (fun g39=>?_)
      ·skip
       try simp only [sG0] at g39
       refine Cd.qac [(0,false),(1,false),(2,false)] rfl rfl ?_
       refine Jp.y 40 rfl (qaa rfl) rfl rfl Kp.true (Y.move rfl rfl) ?_
       refine Jp.y 41 rfl (qaa rfl) rfl rfl Kp.true (Y.shr rfl rfl rfl (by first | decide | omega)) ?_
       refine Jp.y 10 rfl (qaa rfl) rfl rfl Kp.true (Y.assign rfl rfl) ?_
       refine Jp.qae hK24 ?_
       refine Cd.qac [(0,false),(1,false),(2,false),(3,false),(4,false),(5,false),(6,false)] rfl rfl ?_
       refine Jp.y 42 rfl (qaa rfl) rfl rfl Kp.true (Y.move rfl rfl) ?_
       refine Jp.slot 10 rfl (show _ = Value.int .u32 ((X / 2 ^ i % 2 : Nat) : Int) from congrArg (Value.int .u32) (by (try simp only [decide_eq_true_eq,decide_eq_false_iff_not] at *); exact hD (by omega) (by omega))) ?_
       refine Jp.y 43 rfl (qaa rfl) rfl rfl Kp.true (Y.move rfl rfl) ?_
       refine Jp.y 44 rfl (qaa rfl) rfl rfl Kp.true (Y.move rfl rfl) ?_
       refine Jp.y 45 rfl (qaa rfl) rfl rfl Kp.true (Y.qap rfl rfl underlying3 underlying55 (by exact qay (by omega) (by omega))) ?_
       refine Jp.y 46 rfl (qaa rfl) rfl rfl Kp.true (Y.shl rfl rfl rfl (by first | decide | omega)) ?_
       refine Jp.y 47 rfl (qaa rfl) rfl rfl Kp.true (Y.bits rfl rfl rfl rfl) ?_
       refine Jp.y 7 rfl (qaa rfl) rfl rfl Kp.true (Y.assign rfl rfl) ?_
       refine Jp.over rfl hK14 ?_
       refine Cd.qac [(0,false),(1,false),(2,false)] rfl rfl ?_
       refine Jp.y 13 rfl (qaa rfl) rfl rfl Kp.true (Y.move rfl rfl) ?_
       refine Jp.y 14 rfl (qaa rfl) rfl rfl Kp.true (Y.qbx rfl rfl rfl (by exact qag (by omega) (by omega))) ?_
       refine Jp.y 8 rfl (qaa rfl) rfl rfl Kp.true (Y.assign rfl rfl) ?_
       rw [hsl,qas hml hbl,hor,show (i : Int) + 1 = ((i + 1 : Nat) : Int) by omega]
       refine Jp.again hLz (i + 1) hil (by omega) rfl ⟨rfl,rfl,rfl,rfl,rfl,trivial⟩ trivial
      ·skip
       try simp only [sG0] at g39
       refine Cd.qbi hK24 ?_
       refine Cd.qac [(0,false),(1,false),(2,false),(3,false),(4,false),(5,false),(6,false)] rfl rfl ?_
       refine Jp.y 42 rfl (qaa rfl) rfl rfl Kp.true (Y.move rfl rfl) ?_
       refine Jp.slot 10 rfl (show _ = Value.int .u32 ((X / 2 ^ i % 2 : Nat) : Int) from congrArg (Value.int .u32) (by (try simp only [decide_eq_true_eq,decide_eq_false_iff_not] at *); (exfalso; omega))) ?_
       refine Jp.y 43 rfl (qaa rfl) rfl rfl Kp.true (Y.move rfl rfl) ?_
       refine Jp.y 44 rfl (qaa rfl) rfl rfl Kp.true (Y.move rfl rfl) ?_
       refine Jp.y 45 rfl (qaa rfl) rfl rfl Kp.true (Y.qap rfl rfl underlying3 underlying55 (by exact qay (by omega) (by omega))) ?_
       refine Jp.y 46 rfl (qaa rfl) rfl rfl Kp.true (Y.shl rfl rfl rfl (by first | decide | omega)) ?_
       refine Jp.y 47 rfl (qaa rfl) rfl rfl Kp.true (Y.bits rfl rfl rfl rfl) ?_
       refine Jp.y 7 rfl (qaa rfl) rfl rfl Kp.true (Y.assign rfl rfl) ?_
       refine Jp.over rfl hK14 ?_
       refine Cd.qac [(0,false),(1,false),(2,false)] rfl rfl ?_
       refine Jp.y 13 rfl (qaa rfl) rfl rfl Kp.true (Y.move rfl rfl) ?_
       refine Jp.y 14 rfl (qaa rfl) rfl rfl Kp.true (Y.qbx rfl rfl rfl (by exact qag (by omega) (by omega))) ?_
       refine Jp.y 8 rfl (qaa rfl) rfl rfl Kp.true (Y.assign rfl rfl) ?_
       rw [hsl,qas hml hbl,hor,show (i : Int) + 1 = ((i + 1 : Nat) : Int) by omega]
       refine Jp.again hLz (i + 1) hil (by omega) rfl ⟨rfl,rfl,rfl,rfl,rfl,trivial⟩ trivial
     ·skip
      try simp only [sG0] at g36
      refine Jp.qak 37 rfl (qab rfl rfl rfl rfl) rfl rfl Kp.true ?_
      refine Jp.qak 38 rfl (qab rfl rfl rfl rfl) rfl rfl Kp.true ?_
      refine Jp.y 39 rfl (qaa rfl) rfl rfl Kp.true (Y.qao rfl rfl rfl) ?_
      refine Jp.qae hK26 ?_
      refine Cd.qbg rfl ?_
      refine Cd.qbi hK24 ?_
      refine Cd.qac [(0,false),(1,false),(2,false),(3,false),(4,false),(5,false),(6,false)] rfl rfl ?_
      refine Jp.y 42 rfl (qaa rfl) rfl rfl Kp.true (Y.move rfl rfl) ?_
      refine Jp.slot 10 rfl (show _ = Value.int .u32 ((X / 2 ^ i % 2 : Nat) : Int) from congrArg (Value.int .u32) (by (try simp only [decide_eq_true_eq,decide_eq_false_iff_not] at *); exact hE (by omega))) ?_
      refine Jp.y 43 rfl (qaa rfl) rfl rfl Kp.true (Y.move rfl rfl) ?_
      refine Jp.y 44 rfl (qaa rfl) rfl rfl Kp.true (Y.move rfl rfl) ?_
      refine Jp.y 45 rfl (qaa rfl) rfl rfl Kp.true (Y.qap rfl rfl underlying3 underlying55 (by exact qay (by omega) (by omega))) ?_
      refine Jp.y 46 rfl (qaa rfl) rfl rfl Kp.true (Y.shl rfl rfl rfl (by first | decide | omega)) ?_
      refine Jp.y 47 rfl (qaa rfl) rfl rfl Kp.true (Y.bits rfl rfl rfl rfl) ?_
      refine Jp.y 7 rfl (qaa rfl) rfl rfl Kp.true (Y.assign rfl rfl) ?_
      refine Jp.over rfl hK14 ?_
      refine Cd.qac [(0,false),(1,false),(2,false)] rfl rfl ?_
      refine Jp.y 13 rfl (qaa rfl) rfl rfl Kp.true (Y.move rfl rfl) ?_
      refine Jp.y 14 rfl (qaa rfl) rfl rfl Kp.true (Y.qbx rfl rfl rfl (by exact qag (by omega) (by omega))) ?_
      refine Jp.y 8 rfl (qaa rfl) rfl rfl Kp.true (Y.assign rfl rfl) ?_
      rw [hsl,qas hml hbl,hor,show (i : Int) + 1 = ((i + 1 : Nat) : Int) by omega]
      refine Jp.again hLz (i + 1) hil (by omega) rfl ⟨rfl,rfl,rfl,rfl,rfl,trivial⟩ trivial
   ·skip
    try simp only [sG0] at g25
    refine Jp.qak 26 rfl (qab rfl rfl rfl rfl) rfl rfl Kp.true ?_
    refine Jp.qak 27 rfl (qab rfl rfl rfl rfl) rfl rfl Kp.true ?_
    refine Jp.y 28 rfl (qaa rfl) rfl rfl Kp.true (Y.qao rfl rfl rfl) ?_
    refine Jp.qae hK25 ?_
    refine Cd.qbg rfl ?_
    refine Cd.seq fun K27 hK27=>?_
    refine Cd.qac [(0,false),(1,false),(2,false),(3,false),(4,false),(5,false)] rfl rfl ?_
    refine Jp.y 34 rfl (qaa rfl) rfl rfl Kp.true (Y.move rfl rfl) ?_
    refine Jp.y 35 rfl (qaa rfl) rfl rfl Kp.true (Y.eql rfl rfl rfl) ?_
    refine Jp.y 36 rfl (qaa rfl) rfl rfl Kp.true (Y.move rfl rfl) ?_
    refine Jp.split 36 rfl (fun g36=>?_) (fun g36=>?_)
    ·skip
     try simp only [sG0] at g36
     refine Jp.y 37 rfl (qab rfl rfl rfl rfl) rfl rfl Kp.true (Y.move rfl rfl) ?_
     refine Jp.y 38 rfl (qab rfl rfl rfl rfl) rfl rfl Kp.true (Y.geq rfl rfl rfl) ?_
     refine Jp.y 39 rfl (qaa rfl) rfl rfl Kp.true (Y.qat rfl rfl rfl) ?_
     refine Jp.qae hK27 ?_
     refine Cd.qal rfl (fun g39=>?_) (fun g39=>?_)
     ·skip
      try simp only [sG0] at g39
      refine Cd.qac [(0,false),(1,false),(2,false)] rfl rfl ?_
      refine Jp.y 40 rfl (qaa rfl) rfl rfl Kp.true (Y.move rfl rfl) ?_
      refine Jp.y 41 rfl (qaa rfl) rfl rfl Kp.true (Y.shr rfl rfl rfl (by first | decide | omega)) ?_
      refine Jp.y 10 rfl (qaa rfl) rfl rfl Kp.true (Y.assign rfl rfl) ?_
      refine Jp.qae hK24 ?_
      refine Cd.qac [(0,false),(1,false),(2,false),(3,false),(4,false),(5,false),(6,false)] rfl rfl ?_
      refine Jp.y 42 rfl (qaa rfl) rfl rfl Kp.true (Y.move rfl rfl) ?_
      refine Jp.slot 10 rfl (show _ = Value.int .u32 ((X / 2 ^ i % 2 : Nat) : Int) from congrArg (Value.int .u32) (by (try simp only [decide_eq_true_eq,decide_eq_false_iff_not] at *); (exfalso; omega))) ?_
      refine Jp.y 43 rfl (qaa rfl) rfl rfl Kp.true (Y.move rfl rfl) ?_
      refine Jp.y 44 rfl (qaa rfl) rfl rfl Kp.true (Y.move rfl rfl) ?_
      refine Jp.y 45 rfl (qaa rfl) rfl rfl Kp.true (Y.qap rfl rfl underlying3 underlying55 (by exact qay (by omega) (by omega))) ?_
      refine Jp.y 46 rfl (qaa rfl) rfl rfl Kp.true (Y.shl rfl rfl rfl (by first | decide | omega)) ?_
      refine Jp.y 47 rfl (qaa rfl) rfl rfl Kp.true (Y.bits rfl rfl rfl rfl) ?_
      refine Jp.y 7 rfl (qaa rfl) rfl rfl Kp.true (Y.assign rfl rfl) ?_
      refine Jp.over rfl hK14 ?_
      refine Cd.qac [(0,false),(1,false),(2,false)] rfl rfl ?_
      refine Jp.y 13 rfl (qaa rfl) rfl rfl Kp.true (Y.move rfl rfl) ?_
      refine Jp.y 14 rfl (qaa rfl) rfl rfl Kp.true (Y.qbx rfl rfl rfl (by exact qag (by omega) (by omega))) ?_
      refine Jp.y 8 rfl (qaa rfl) rfl rfl Kp.true (Y.assign rfl rfl) ?_
      rw [hsl,qas hml hbl,hor,show (i : Int) + 1 = ((i + 1 : Nat) : Int) by omega]
      refine Jp.again hLz (i + 1) hil (by omega) rfl ⟨rfl,rfl,rfl,rfl,rfl,trivial⟩ trivial
     ·skip
      try simp only [sG0] at g39
      refine Cd.qbi hK24 ?_
      refine Cd.qac [(0,false),(1,false),(2,false),(3,false),(4,false),(5,false),(6,false)] rfl rfl ?_
      refine Jp.y 42 rfl (qaa rfl) rfl rfl Kp.true (Y.move rfl rfl) ?_
      refine Jp.slot 10 rfl (show _ = Value.int .u32 ((X / 2 ^ i % 2 : Nat) : Int) from congrArg (Value.int .u32) (by (try simp only [decide_eq_true_eq,decide_eq_false_iff_not] at *); (exfalso; omega))) ?_
      refine Jp.y 43 rfl (qaa rfl) rfl rfl Kp.true (Y.move rfl rfl) ?_
      refine Jp.y 44 rfl (qaa rfl) rfl rfl Kp.true (Y.move rfl rfl) ?_
      refine Jp.y 45 rfl (qaa rfl) rfl rfl Kp.true (Y.qap rfl rfl underlying3 underlying55 (by exact qay (by omega) (by omega))) ?_
      refine Jp.y 46 rfl (qaa rfl) rfl rfl Kp.true (Y.shl rfl rfl rfl (by first | decide | omega)) ?_
      refine Jp.y 47 rfl (qaa rfl) rfl rfl Kp.true (Y.bits rfl rfl rfl rfl) ?_
      refine Jp.y 7 rfl (qaa rfl) rfl rfl Kp.true (Y.assign rfl rfl) ?_
      refine Jp.over rfl hK14 ?_
      refine Cd.qac [(0,false),(1,false),(2,false)] rfl rfl ?_
      refine Jp.y 13 rfl (qaa rfl) rfl rfl Kp.true (Y.move rfl rfl) ?_
      refine Jp.y 14 rfl (qaa rfl) rfl rfl Kp.true (Y.qbx rfl rfl rfl (by exact qag (by omega) (by omega))) ?_
      refine Jp.y 8 rfl (qaa rfl) rfl rfl Kp.true (Y.assign rfl rfl) ?_
      rw [hsl,qas hml hbl,hor,show (i : Int) + 1 = ((i + 1 : Nat) : Int) by omega]
      refine Jp.again hLz (i + 1) hil (by omega) rfl ⟨rfl,rfl,rfl,rfl,rfl,trivial⟩ trivial
    ·skip
     try simp only [sG0] at g36
     refine Jp.qak 37 rfl (qab rfl rfl rfl rfl) rfl rfl Kp.true ?_
     refine Jp.qak 38 rfl (qab rfl rfl rfl rfl) rfl rfl Kp.true ?_
     refine Jp.y 39 rfl (qaa rfl) rfl rfl Kp.true (Y.qao rfl rfl rfl) ?_
     refine Jp.qae hK27 ?_
     refine Cd.qbg rfl ?_
     refine Cd.qbi hK24 ?_
     refine Cd.qac [(0,false),(1,false),(2,false),(3,false),(4,false),(5,false),(6,false)] rfl rfl ?_
     refine Jp.y 42 rfl (qaa rfl) rfl rfl Kp.true (Y.move rfl rfl) ?_
     refine Jp.slot 10 rfl (show _ = Value.int .u32 ((X / 2 ^ i % 2 : Nat) : Int) from congrArg (Value.int .u32) (by (try simp only [decide_eq_true_eq,decide_eq_false_iff_not] at *); (exfalso; omega))) ?_
     refine Jp.y 43 rfl (qaa rfl) rfl rfl Kp.true (Y.move rfl rfl) ?_
     refine Jp.y 44 rfl (qaa rfl) rfl rfl Kp.true (Y.move rfl rfl) ?_
     refine Jp.y 45 rfl (qaa rfl) rfl rfl Kp.true (Y.qap rfl rfl underlying3 underlying55 (by exact qay (by omega) (by omega))) ?_
     refine Jp.y 46 rfl (qaa rfl) rfl rfl Kp.true (Y.shl rfl rfl rfl (by first | decide | omega)) ?_
     refine Jp.y 47 rfl (qaa rfl) rfl rfl Kp.true (Y.bits rfl rfl rfl rfl) ?_
     refine Jp.y 7 rfl (qaa rfl) rfl rfl Kp.true (Y.assign rfl rfl) ?_
     refine Jp.over rfl hK14 ?_
     refine Cd.qac [(0,false),(1,false),(2,false)] rfl rfl ?_
     refine Jp.y 13 rfl (qaa rfl) rfl rfl Kp.true (Y.move rfl rfl) ?_
     refine Jp.y 14 rfl (qaa rfl) rfl rfl Kp.true (Y.qbx rfl rfl rfl (by exact qag (by omega) (by omega))) ?_
     refine Jp.y 8 rfl (qaa rfl) rfl rfl Kp.true (Y.assign rfl rfl) ?_
     rw [hsl,qas hml hbl,hor,show (i : Int) + 1 = ((i + 1 : Nat) : Int) by omega]
     refine Jp.again hLz (i + 1) hil (by omega) rfl ⟨rfl,rfl,rfl,rfl,rfl,trivial⟩ trivial
 ·have hi32 : i = 32:=by simp at gz; omega
  refine Cd.exit rfl hK10 ?_
  refine Cd.seq fun K28 hK28=>?_
  refine Cd.qac [(0,false),(1,false)] rfl rfl ?_
  refine Jp.y 48 rfl (qaa rfl) rfl rfl Kp.true (Y.move rfl rfl) ?_
  refine Jp.y 6 rfl (qaa rfl) rfl rfl Kp.true (Y.assign rfl rfl) ?_
  refine Jp.qae hK28 ?_
  refine Cd.ret [] rfl (qba rfl rfl) trivial ⟨rfl,by rw [hi32,Nat.mod_eq_of_lt (show _ < 2 ^ 32 from hX)],rfl⟩
end Go.Proofs.YthjelpbaljapiaaGreat
