import Derived.Test.YthjelpbaljapiaaGreatZP7
import Derived.Test.YthjelpbaljapiaaGreatZP4
import Derived.Test.YthjelpbaljapiaaGreatZP1
import Derived.Sort.Defs
import Derived.Sort.AssemblyPlain
import Derived.Test.YthjelpbaljapiaaGreatZP3
import Derived.Test.YthjelpbaljapiaaGreatZP2
set_option linter.unusedVariables false
set_option linter.unusedSimpArgs false
set_option maxRecDepth 100000
namespace Go.Proofs.YthjelpbaljapiaaGreat
open _root_.Go.Proofs.Tryz
open Go
theorem fetchP_op {M : MemG} {a : Nat} (h : (qbw M a).2.kind = 0) : (qbw M a).1.op ≠ 0:=by
 unfold qbw at h ⊢
 split at h
 ·rename_i h1
  rw [if_pos h1]
  split at h
  ·exact absurd h (by simp)
  ·rename_i h2
   rw [if_neg h2]
   exact h2
 ·exact absurd h (by simp)
theorem refStep_spec (b : Nat) (M : MemG) (s : StP) (hs : StOk s) : Spec Tryz.prog 12 #[.pointer (some ⟨b,0,none⟩),.agg s.cells.toArray] (fun _=>True) [(0,RefO b M)]
  (fun ρ ρ' v L=>ρ' = ρ ∧ v = .tuple #[.agg (qdc M s).1.cells.toArray,.agg (qdc M s).2.1.cells.toArray] ∧ L = [(0,RefO b (qdc M s).2.2)]):=by
 obtain ⟨D,hD⟩ : ∃ D,qdc M s = D:=⟨_,rfl⟩
 rw [hD]
 unfold qdc at hD
 have hF:=qge b M s.pc hs.pc
 have hI:=fetchP_ok M s.pc
 have hal:=fetchP_al (M:=M) (a:=s.pc)
 have hop0:=fetchP_op (M:=M) (a:=s.pc)
 obtain ⟨F,hFe⟩ : ∃ F,qbw M s.pc = F:=⟨_,rfl⟩
 rw [hFe] at hF hI hal hop0 hD
 obtain ⟨fi,fe⟩:=F
 obtain ⟨kd,ead,wy⟩:=fe
 obtain ⟨op,rd,r1,r2,imm⟩:=fi
 dsimp only at hF hI hal hop0 hD
 have hop50 : op < 50:=hI.op
 have l1:=qez hs r1
 have l2:=qez hs r2
 refine Spec.of 266 Tryz.func12 rfl Tryz.ntmps12 [(0,_),(1,_)] rfl rfl ?_
 intro cx ρ hr' h0
 have hsl:=StP.len hs
 have hso:=StP.one s
 refine Cd.seq fun K1 hK1=>?_
 refine Cd.qac [(0,false),(1,false),(2,false)] rfl rfl ?_
 refine Jp.box 3 3 rfl (qaa rfl) rfl rfl rfl rfl fun b3=>⟨Kp.true,?_⟩
 refine Jp.alloc 4 4 rfl (qaa rfl) rfl rfl rfl zeroValue27 fun b4=>⟨Kp.true,?_⟩
 refine Jp.alloc 5 5 rfl (qaa rfl) rfl rfl rfl zeroValue37 fun b5=>⟨Kp.true,?_⟩
 refine Jp.qae hK1 ?_
 refine Cd.seq fun K2 hK2=>?_
 refine Cd.qac [(0,false),(1,false),(2,false),(3,false),(4,false),(5,false),(6,false),(7,false),(8,false),(9,false),(10,false)] rfl rfl ?_
 refine Jp.y 27 rfl (qaa rfl) rfl rfl Kp.true (Y.move rfl rfl) ?_
 refine Jp.y 28 rfl (qaa rfl) rfl rfl Kp.true (by exact Y.qad rfl rfl underlying27 rfl sizeOf24 (by decide) (show _ + 32 = _ from rfl)) ?_
 refine Jp.y 29 rfl (qaa rfl) rfl rfl Kp.true (by exact Y.qbs 3 rfl isAgg24 rfl rfl (HasC.pt (StP.cPc hs))) ?_
 refine Jp.call [0] [0] hF 30 rfl (qaa rfl) rfl rfl (Runs.fn rfl call8 rfl) (by decide) (by decide) rfl trivial ?_
 rintro v1 ρ1 L1 ⟨rfl,rfl,rfl⟩
 refine ⟨rfl,fun hle1=>⟨Kp.true,?_⟩⟩
 refine Jp.y 26 rfl (qaa rfl) rfl rfl Kp.true (Y.move rfl rfl) ?_
 refine Jp.y 31 rfl (qaa rfl) rfl rfl Kp.true (Y.extract rfl rfl rfl) ?_
 refine Jp.y 32 rfl (qaa rfl) rfl rfl Kp.true (Y.extract rfl rfl rfl) ?_
 refine Jp.alloc 6 6 rfl (qaa rfl) rfl rfl rfl zeroValue40 fun b6=>⟨Kp.true,?_⟩
 refine Jp.alloc 7 7 rfl (qaa rfl) rfl rfl rfl zeroValue37 fun b7=>⟨Kp.true,?_⟩
 refine Jp.qaf 6 rfl (qaa rfl) rfl rfl sizeOf40 rfl rfl (by first | rfl | assumption) (by first | rfl | assumption) rfl (by first | rfl | assumption) (fun k _ _=>qam k) Kp.true ?_
 refine Jp.qaf 7 rfl (qaa rfl) rfl rfl sizeOf37 rfl rfl (by first | rfl | assumption) (by first | rfl | assumption) rfl (by first | rfl | assumption) (fun k _ _=>qam k) Kp.true ?_
 refine Jp.qae hK2 ?_
 refine Cd.seq fun K3 hK3=>?_
 refine Cd.seq fun K4 hK4=>?_
 refine Cd.qac [(0,false),(1,false),(2,false)] rfl rfl ?_
 refine Jp.y 33 rfl (qaa rfl) rfl rfl Kp.true (by exact Y.qad rfl rfl underlying37 rfl sizeOf3 (by decide) (show _ + 0 = _ from rfl)) ?_
 refine Jp.y 34 rfl (qaa rfl) rfl rfl Kp.true (by exact Y.qaq 7 rfl isAgg3 rfl rfl rfl) ?_
 refine Jp.y 35 rfl (qaa rfl) rfl rfl Kp.true (Y.neq rfl rfl rfl) ?_
 refine Jp.qae hK4 ?_
 refine Cd.qal rfl (fun ga=>?_) (fun ga=>?_)
 ·rw [if_neg (show ¬ kd = 0 by simp at ga; omega)] at hD
  subst hD
  refine Cd.seq fun K5 hK5=>?_
  refine Cd.drawn [(3,_),(7,_)] ⟨rfl,rfl,trivial⟩ [(0,true),(1,true),(2,false),(3,false)] follows (by kernel_rfl) (fun hrl=>?_)
  refine Jp.q 36 rfl (qaa rfl) rfl rfl (by exact Y.qai 3 rfl isAgg27 sizeOf27 rfl rfl (by first | rfl | assumption)) ?_
  refine Jp.q 37 rfl (qaa rfl) rfl rfl (by exact Y.qai 7 rfl isAgg37 sizeOf37 rfl rfl (by first | rfl | assumption)) ?_
  refine Jp.qaf 4 rfl (qaa rfl) rfl rfl sizeOf27 rfl rfl (by first | rfl | assumption) (by first | rfl | assumption) rfl (by first | rfl | assumption) (fun k _ _=>qam k) (Kp.st ⟨rfl,rfl,trivial⟩) ?_
  refine Jp.qaf 5 rfl (qaa rfl) rfl rfl sizeOf37 rfl rfl (by first | rfl | assumption) (by first | rfl | assumption) rfl (by first | rfl | assumption) (fun k _ _=>qam k) Kp.last ?_
  refine Jp.qae hK5 ?_
  refine Cd.ret [(0,_)] rfl (by exact qck 4 5 rfl rfl rfl isAgg27 sizeOf27 isAgg37 sizeOf37 rfl (by first | rfl | assumption) rfl (by first | rfl | assumption)) ⟨rfl,trivial⟩ ⟨rfl,rfl,rfl⟩
 ·have hk : kd = 0:=by simp at ga; omega
  rw [if_pos hk] at hD
  have hal:=hal hk
  have hop0:=hop0 hk
  refine Cd.qbi hK3 ?_
  refine Cd.seq fun K7 hK7=>?_
  refine Cd.drawn [(3,_),(6,_)] ⟨rfl,rfl,trivial⟩ [(0,true),(1,true),(2,true),(3,true),(4,true),(5,true),(6,true),(7,true)] follows (by kernel_rfl) (fun hrl=>?_)
  refine Jp.q 38 rfl (qaa rfl) rfl rfl (by exact Y.qad rfl rfl underlying40 rfl sizeOf21 (by decide) (show _ + 4 = _ from rfl)) ?_
  refine Jp.q 39 rfl (qaa rfl) rfl rfl (by exact Y.qaq 6 rfl isAgg21 rfl rfl rfl) ?_
  refine Jp.q 40 rfl (qaa rfl) rfl rfl (Y.qap rfl rfl underlying21 underlying24 (by rfl)) ?_
  refine Jp.q 41 rfl (qaa rfl) rfl rfl (by exact Y.qad rfl rfl underlying27 rfl sizeOf24 (by decide) (show _ + 32 = _ from rfl)) ?_
  refine Jp.q 42 rfl (qaa rfl) rfl rfl (by exact Y.qbs 3 rfl isAgg24 rfl rfl (HasC.pt (StP.cPc hs))) ?_
  refine Jp.q 43 rfl (qaa rfl) rfl rfl (Y.qbx rfl rfl rfl (by rfl)) ?_
  refine Jp.q 8 rfl (qaa rfl) rfl rfl (Y.assign rfl rfl) ?_
  refine Jp.q 9 rfl (qaa rfl) rfl rfl (Y.assign rfl rfl) ?_
  refine Jp.qae hK7 ?_
  refine Cd.seq fun K9 hK9=>?_
  refine Cd.drawn [(3,_),(6,_)] ⟨rfl,rfl,trivial⟩ [(0,true),(1,true),(2,true),(4,true),(5,true),(6,true),(3,false),(7,false),(8,true),(9,true)] follows (by kernel_rfl) (fun hrl=>?_)
  refine Jp.slot 8 rfl (show _ = Value.int .u32 ((u32 imm : Nat) : Int) from congrArg (Value.int .u32) (qbb imm)) ?_
  refine Jp.slot 9 rfl (show _ = Value.int .u32 ((u32 ((s.pc : Int) + 4) : Nat) : Int) from congrArg (Value.int .u32) (qbb _)) ?_
  refine Jp.q 44 rfl (qaa rfl) rfl rfl (by exact Y.qai 3 rfl isAgg27 sizeOf27 rfl rfl (by first | rfl | assumption)) ?_
  refine Jp.q 45 rfl (qaa rfl) rfl rfl (by exact Y.qad rfl rfl underlying40 rfl sizeOf3 (by decide) (show _ + 2 = _ from rfl)) ?_
  refine Jp.q 46 rfl (qaa rfl) rfl rfl (by exact Y.qaq 6 rfl isAgg3 rfl rfl rfl) ?_
  refine Jp.q 48 rfl (qaa rfl) rfl rfl (by exact Y.qai 3 rfl isAgg27 sizeOf27 rfl rfl (by first | rfl | assumption)) ?_
  refine Jp.q 49 rfl (qaa rfl) rfl rfl (by exact Y.qad rfl rfl underlying40 rfl sizeOf3 (by decide) (show _ + 3 = _ from rfl)) ?_
  refine Jp.q 50 rfl (qaa rfl) rfl rfl (by exact Y.qaq 6 rfl isAgg3 rfl rfl rfl) ?_
  refine Jp.call [] [] (refx_spec s r1 hs hI.r1) 47 rfl (qaa rfl) rfl rfl (Runs.fn rfl call25 rfl) (by decide) (by decide) rfl trivial ?_
  rintro v2 ρ2 L2 ⟨rfl,rfl,rfl⟩
  refine ⟨rfl,fun hle2=>⟨(Kp.st ⟨rfl,rfl,trivial⟩),?_⟩⟩
  refine Jp.call [] [] (refx_spec s r2 hs hI.r2) 51 rfl (qaa rfl) rfl rfl (Runs.fn rfl call25 rfl) (by decide) (by decide) rfl trivial ?_
  rintro v3 ρ3 L3 ⟨rfl,rfl,rfl⟩
  refine ⟨rfl,fun hle3=>⟨(Kp.st ⟨rfl,rfl,trivial⟩),?_⟩⟩
  obtain ⟨i,hi⟩ : ∃ i : InsP,i = ⟨op,rd,r1,r2,imm⟩:=⟨_,rfl⟩
  have hio : i.op = op:=by rw [hi]
  have hird : i.rd = rd:=by rw [hi]
  have hir2 : i.r2 = r2:=by rw [hi]
  have hiad : addrP i s = u32 ((regP s r1 : Int) + (u32 imm : Int)):=by rw [hi]; rfl
  have hlad:=addrP_lt i s
  have hjal : Unit → op = 3 → goesP i s = u32 ((s.pc : Int) + (u32 imm : Int)):=fun _ h=>by rw [hi,goesP,if_pos h]
  have hjr : Unit → op = 4 → goesP i s = addrP i s - addrP i s % 2:=fun _ h=>by rw [goesP,if_neg (by omega),if_pos (by omega)]
  have hbry : Unit → 5 ≤ op ∧ op ≤ 10 → testP (brK op) (regP s r1) (regP s r2) = true → goesP i s = u32 ((s.pc : Int) + (u32 imm : Int)):=fun _ h ht=>by
   rw [hi,goesP,if_neg (show ¬ op = 3 by omega),if_neg (show ¬ op = 4 by omega),if_pos ⟨h.1,h.2,ht⟩]
  have hbrn : Unit → 5 ≤ op ∧ op ≤ 10 → testP (brK op) (regP s r1) (regP s r2) = false → goesP i s = u32 ((s.pc : Int) + 4):=fun _ h ht=>by
   rw [hi,goesP,if_neg (show ¬ op = 3 by omega),if_neg (show ¬ op = 4 by omega),if_neg (fun h=>absurd h.2.2 (by rw [ht]; decide))]
  have h1:=fun _ : Unit=>do_one (M:=M) (i:=i) (s:=s) hal
  have h2:=fun _ : Unit=>do_two (M:=M) (i:=i) (s:=s) hal
  have hj:=fun to=>do_jump (M:=M) (i:=i) (s:=s) (to:=to)
  have hb:=fun to=>do_branch (M:=M) (i:=i) (s:=s) (to:=to)
  have hl:=fun _ : Unit=>do_load (M:=M) (i:=i) (s:=s) hal
  have hst:=fun _ : Unit=>do_store (M:=M) (i:=i) (s:=s) hal
  have hop:=fun _ : Unit=>do_op (M:=M) (i:=i) (s:=s) hal
  have hel:=fun _ : Unit=>do_else (M:=M) (i:=i) (s:=s) hal
  have h48 : Unit → op = 48 → qbn M i s = (s,⟨5,s.pc,0⟩,M):=fun _ h=>by rw [qbn,if_pos (by omega)]
  have h49 : Unit → op = 49 → qbn M i s = (s,⟨6,s.pc,0⟩,M):=fun _ h=>by rw [qbn,if_neg (by omega),if_pos (by omega)]
  have hod : Unit → opdP i s = if op ≤ 27 then u32 imm else regP s r2:=fun _=>by rw [hi]; rfl
  rw [← hi] at hD
  have hir1 : i.r1 = r1:=by rw [hi]
  have hiim : i.imm = imm:=by rw [hi]
  simp only [hio,hird,hir1,hir2,hiim] at h1 h2 hj hb hl hst hop hel
  obtain ⟨ad,had⟩ : ∃ ad,addrP i s = ad:=⟨_,rfl⟩
  simp only [had] at hiad hlad hjr hl hst
  obtain ⟨imw,himw⟩ : ∃ x,u32 imm = x:=⟨_,rfl⟩
  have himl : imw < 4294967296:=by rw [← himw]; exact qdl _
  simp only [himw] at hiad hjal hbry h1 h2 hod
  rw [himw]
  obtain ⟨nx,hnx⟩ : ∃ x,u32 ((s.pc : Int) + 4) = x:=⟨_,rfl⟩
  simp only [hnx] at hbrn h1 h2 hl hst hop hel hj
  rw [hnx]
  obtain ⟨x1,hx1⟩ : ∃ x,regP s r1 = x:=⟨_,rfl⟩
  obtain ⟨x2,hx2⟩ : ∃ x,regP s r2 = x:=⟨_,rfl⟩
  simp only [hx1] at hiad hbry hbrn hop l1
  simp only [hx2] at hbry hbrn hst hod l2
  rw [hx1,hx2]
  have hset:=fun r v to hr=>set_spec s r v to hs hr
  have hsl32:=hs.len
  refine Jp.q 10 rfl (qaa rfl) rfl rfl (Y.assign rfl rfl) ?_
  refine Jp.q 11 rfl (qaa rfl) rfl rfl (Y.assign rfl rfl) ?_
  refine Jp.qae hK9 ?_
  refine Cd.seq fun K11 hK11=>?_
  refine Cd.block ?_
  refine Cd.seq fun K12 hK12=>?_
  refine Cd.qac [(0,false),(1,false),(2,false),(3,false)] rfl rfl ?_
  refine Jp.y 53 rfl (qaa rfl) rfl rfl Kp.true (by exact Y.qad rfl rfl underlying40 rfl sizeOf3 (by decide) (show _ + 0 = _ from rfl)) ?_
  refine Jp.y 54 rfl (qaa rfl) rfl rfl Kp.true (by exact Y.qaq 6 rfl isAgg3 rfl rfl rfl) ?_
  refine Jp.y 55 rfl (qaa rfl) rfl rfl Kp.true (Y.eql rfl rfl rfl) ?_
  refine Jp.y 52 rfl (qaa rfl) rfl rfl Kp.true (Y.assign rfl rfl) ?_
  refine Jp.qae hK12 ?_
  refine Cd.qal rfl (fun g52=>?_) (fun g52=>?_)
  ·skip
   try simp only [sG0] at g52
   refine Cd.seq fun K13 hK13=>?_
   rw [h1 () (by omega)] at hD
   subst hD
   refine Cd.qac [(0,false),(1,false),(2,false),(3,false),(4,false),(5,false),(6,false),(7,false),(8,false)] rfl rfl ?_
   refine Jp.y 56 rfl (qaa rfl) rfl rfl Kp.true (by exact Y.qai 3 rfl isAgg27 sizeOf27 rfl rfl (by first | rfl | assumption)) ?_
   refine Jp.y 57 rfl (qaa rfl) rfl rfl Kp.true (by exact Y.qad rfl rfl underlying40 rfl sizeOf3 (by decide) (show _ + 1 = _ from rfl)) ?_
   refine Jp.y 58 rfl (qaa rfl) rfl rfl Kp.true (by exact Y.qaq 6 rfl isAgg3 rfl rfl rfl) ?_
   refine Jp.y 59 rfl (qaa rfl) rfl rfl Kp.true (Y.move rfl rfl) ?_
   refine Jp.y 60 rfl (qaa rfl) rfl rfl Kp.true (Y.move rfl rfl) ?_
   refine Jp.call [] [] (hset rd (imw) (nx) hI.rd) 61 rfl (qaa rfl) rfl rfl (Runs.fn rfl call27 rfl) (by decide) (by decide) rfl trivial ?_
   rintro v4 ρ4 L4 ⟨rfl,rfl,rfl⟩
   refine ⟨rfl,fun hle4=>⟨Kp.true,?_⟩⟩
   have hol:=qcm (s:=s) (x:=s.x.set rd (imw)) (to:=nx) (by rw [List.length_set]; exact hsl32)
   have hoo:=StP.one (qem s (s.x.set rd (imw)) (nx))
   refine Jp.y 62 rfl (qaa rfl) rfl rfl Kp.true (Y.struct [] [_,_,_] rfl rfl qav zeroValue37 rfl) ?_
   refine Jp.qaf 4 rfl (qaa rfl) rfl rfl sizeOf27 rfl rfl (by first | rfl | assumption) (by first | rfl | assumption) rfl (by first | rfl | assumption) (fun k _ _=>qam k) Kp.true ?_
   refine Jp.qaf 5 rfl (qaa rfl) rfl rfl sizeOf37 rfl rfl (by first | rfl | assumption) (by first | rfl | assumption) rfl (by first | rfl | assumption) (fun k _ _=>qam k) Kp.true ?_
   refine Jp.qae hK13 ?_
   refine Cd.ret [(0,_)] rfl (by exact qck 4 5 rfl rfl rfl isAgg27 sizeOf27 isAgg37 sizeOf37 rfl (by first | rfl | assumption) rfl (by first | rfl | assumption)) ⟨rfl,trivial⟩ ⟨rfl,by rfl,rfl⟩
  ·skip
   try simp only [sG0] at g52
   refine Cd.seq fun K14 hK14=>?_
   refine Cd.qac [(0,false),(1,false),(2,false),(3,false)] rfl rfl ?_
   refine Jp.y 64 rfl (qaa rfl) rfl rfl Kp.true (by exact Y.qad rfl rfl underlying40 rfl sizeOf3 (by decide) (show _ + 0 = _ from rfl)) ?_
   refine Jp.y 65 rfl (qaa rfl) rfl rfl Kp.true (by exact Y.qaq 6 rfl isAgg3 rfl rfl rfl) ?_
   refine Jp.y 66 rfl (qaa rfl) rfl rfl Kp.true (Y.eql rfl rfl rfl) ?_
   refine Jp.y 63 rfl (qaa rfl) rfl rfl Kp.true (Y.assign rfl rfl) ?_
   refine Jp.qae hK14 ?_
   refine Cd.qal rfl (fun g63=>?_) (fun g63=>?_)
   ·skip
    try simp only [sG0] at g63
    refine Cd.seq fun K15 hK15=>?_
    rw [h2 () (by omega)] at hD
    subst hD
    refine Cd.qac [(0,false),(1,false),(2,false),(3,false),(4,false),(5,false),(6,false),(7,false),(8,false),(9,false),(10,false),(11,false)] rfl rfl ?_
    refine Jp.y 67 rfl (qaa rfl) rfl rfl Kp.true (by exact Y.qai 3 rfl isAgg27 sizeOf27 rfl rfl (by first | rfl | assumption)) ?_
    refine Jp.y 68 rfl (qaa rfl) rfl rfl Kp.true (by exact Y.qad rfl rfl underlying40 rfl sizeOf3 (by decide) (show _ + 1 = _ from rfl)) ?_
    refine Jp.y 69 rfl (qaa rfl) rfl rfl Kp.true (by exact Y.qaq 6 rfl isAgg3 rfl rfl rfl) ?_
    refine Jp.y 70 rfl (qaa rfl) rfl rfl Kp.true (by exact Y.qad rfl rfl underlying27 rfl sizeOf24 (by decide) (show _ + 32 = _ from rfl)) ?_
    refine Jp.y 71 rfl (qaa rfl) rfl rfl Kp.true (by exact Y.qbs 3 rfl isAgg24 rfl rfl (HasC.pt (StP.cPc hs))) ?_
    refine Jp.y 72 rfl (qaa rfl) rfl rfl Kp.true (Y.move rfl rfl) ?_
    refine Jp.y 73 rfl (qaa rfl) rfl rfl Kp.true (Y.qbx rfl rfl rfl (by rfl)) ?_
    refine Jp.y 74 rfl (qaa rfl) rfl rfl Kp.true (Y.move rfl rfl) ?_
    refine Jp.slot 73 rfl (show _ = Value.int .u32 ((u32 ((s.pc : Int) + (imw : Int)) : Nat) : Int) from congrArg (Value.int .u32) (qbb _)) ?_
    refine Jp.call [] [] (hset rd (u32 ((s.pc : Int) + (imw : Int))) (nx) hI.rd) 75 rfl (qaa rfl) rfl rfl (Runs.fn rfl call27 rfl) (by decide) (by decide) rfl trivial ?_
    rintro v4 ρ4 L4 ⟨rfl,rfl,rfl⟩
    refine ⟨rfl,fun hle4=>⟨Kp.true,?_⟩⟩
    have hol:=qcm (s:=s) (x:=s.x.set rd (u32 ((s.pc : Int) + (imw : Int)))) (to:=nx) (by rw [List.length_set]; exact hsl32)
    have hoo:=StP.one (qem s (s.x.set rd (u32 ((s.pc : Int) + (imw : Int)))) (nx))
    refine Jp.y 76 rfl (qaa rfl) rfl rfl Kp.true (Y.struct [] [_,_,_] rfl rfl qav zeroValue37 rfl) ?_
    refine Jp.qaf 4 rfl (qaa rfl) rfl rfl sizeOf27 rfl rfl (by first | rfl | assumption) (by first | rfl | assumption) rfl (by first | rfl | assumption) (fun k _ _=>qam k) Kp.true ?_
    refine Jp.qaf 5 rfl (qaa rfl) rfl rfl sizeOf37 rfl rfl (by first | rfl | assumption) (by first | rfl | assumption) rfl (by first | rfl | assumption) (fun k _ _=>qam k) Kp.true ?_
    refine Jp.qae hK15 ?_
    refine Cd.ret [(0,_)] rfl (by exact qck 4 5 rfl rfl rfl isAgg27 sizeOf27 isAgg37 sizeOf37 rfl (by first | rfl | assumption) rfl (by first | rfl | assumption)) ⟨rfl,trivial⟩ ⟨rfl,by rfl,rfl⟩
   ·skip
    try simp only [sG0] at g63
    refine Cd.seq fun K16 hK16=>?_
    refine Cd.qac [(0,false),(1,false),(2,false),(3,false),(4,false),(5,false),(6,false),(7,false),(8,false)] rfl rfl ?_
    refine Jp.y 78 rfl (qaa rfl) rfl rfl Kp.true (by exact Y.qad rfl rfl underlying40 rfl sizeOf3 (by decide) (show _ + 0 = _ from rfl)) ?_
    refine Jp.y 79 rfl (qaa rfl) rfl rfl Kp.true (by exact Y.qaq 6 rfl isAgg3 rfl rfl rfl) ?_
    refine Jp.y 80 rfl (qaa rfl) rfl rfl Kp.true (Y.eql rfl rfl rfl) ?_
    refine Jp.y 81 rfl (qaa rfl) rfl rfl Kp.true (Y.move rfl rfl) ?_
    refine Jp.split 81 rfl (fun g81=>?_) (fun g81=>?_)
    ·skip
     try simp only [sG0] at g81
     refine Jp.qak 82 rfl (qab rfl rfl rfl rfl) rfl rfl Kp.true ?_
     refine Jp.qak 83 rfl (qab rfl rfl rfl rfl) rfl rfl Kp.true ?_
     refine Jp.qak 84 rfl (qab rfl rfl rfl rfl) rfl rfl Kp.true ?_
     refine Jp.y 85 rfl (qaa rfl) rfl rfl Kp.true (Y.qat rfl rfl rfl) ?_
     refine Jp.y 77 rfl (qaa rfl) rfl rfl Kp.true (Y.assign rfl rfl) ?_
     refine Jp.qae hK16 ?_
     refine Cd.qcw rfl ?_
     refine Cd.seq fun K17 hK17=>?_
     have hj34 : op = 3 ∨ op = 4:=by omega
     obtain ⟨to,hto⟩ : ∃ to,goesP i s = to:=⟨_,rfl⟩
     rw [hj to hj34 hto] at hD
     simp only [hto] at hjal hjr
     refine Cd.qac [(0,false),(1,false),(2,false),(3,false),(4,false)] rfl rfl ?_
     refine Jp.y 86 rfl (qaa rfl) rfl rfl Kp.true (by exact Y.qad rfl rfl underlying27 rfl sizeOf24 (by decide) (show _ + 32 = _ from rfl)) ?_
     refine Jp.y 87 rfl (qaa rfl) rfl rfl Kp.true (by exact Y.qbs 3 rfl isAgg24 rfl rfl (HasC.pt (StP.cPc hs))) ?_
     refine Jp.y 88 rfl (qaa rfl) rfl rfl Kp.true (Y.move rfl rfl) ?_
     refine Jp.y 89 rfl (qaa rfl) rfl rfl Kp.true (Y.qbx rfl rfl rfl (by rfl)) ?_
     refine Jp.y 12 rfl (qaa rfl) rfl rfl Kp.true (Y.assign rfl rfl) ?_
     refine Jp.qae hK17 ?_
     refine Cd.seq fun K18 hK18=>?_
     refine Cd.seq fun K19 hK19=>?_
     refine Cd.qac [(0,false),(1,false),(2,false)] rfl rfl ?_
     refine Jp.y 90 rfl (qaa rfl) rfl rfl Kp.true (by exact Y.qad rfl rfl underlying40 rfl sizeOf3 (by decide) (show _ + 0 = _ from rfl)) ?_
     refine Jp.y 91 rfl (qaa rfl) rfl rfl Kp.true (by exact Y.qaq 6 rfl isAgg3 rfl rfl rfl) ?_
     refine Jp.y 92 rfl (qaa rfl) rfl rfl Kp.true (Y.eql rfl rfl rfl) ?_
     refine Jp.qae hK19 ?_
     refine Cd.qal rfl (fun gj=>?_) (fun gj=>?_)
     ·have h4 : op = 4:=by simp at gj; omega
      have hjr:=hjr () h4
      have hev:=bits_even hlad
      refine Cd.qac [(0,false),(1,false),(2,false),(3,false),(4,false)] rfl rfl ?_
      refine Jp.y 93 rfl (qaa rfl) rfl rfl Kp.true (Y.move rfl rfl) ?_
      refine Jp.y 94 rfl (qaa rfl) rfl rfl Kp.true (Y.move rfl rfl) ?_
      refine Jp.y 95 rfl (qaa rfl) rfl rfl Kp.true (Y.qbx rfl rfl rfl (by exact qax (by omega) (by omega))) ?_
      refine Jp.y 96 rfl (qaa rfl) rfl rfl Kp.true (Y.bits rfl rfl rfl rfl) ?_
      refine Jp.y 12 rfl (qaa rfl) rfl rfl Kp.true (Y.assign rfl rfl) ?_
      refine Jp.qae hK18 ?_
      refine Cd.seq fun K20 hK20=>?_
      refine Cd.seq fun K21 hK21=>?_
      refine Cd.qac [(0,false),(1,false),(2,false)] rfl rfl ?_
      refine Jp.slot 12 rfl (show _ = Value.int .u32 ((to : Nat) : Int) from congrArg (Value.int .u32) (by (exfalso; omega))) ?_
      refine Jp.y 97 rfl (qaa rfl) rfl rfl Kp.true (Y.move rfl rfl) ?_
      refine Jp.y 98 rfl (qaa rfl) rfl rfl Kp.true (by exact Y.remN rfl rfl rfl (by omega) (by omega)) ?_
      refine Jp.y 99 rfl (qaa rfl) rfl rfl Kp.true (Y.neq rfl rfl rfl) ?_
      refine Jp.qae hK21 ?_
      refine Cd.qal rfl (fun gk=>?_) (fun gk=>?_)
      ·rw [if_neg (show ¬ to % 4 = 0 by simp at gk; omega)] at hD
       subst hD
       refine Cd.seq fun K22 hK22=>?_
       refine Cd.qac [(0,false),(1,false),(2,false),(3,false),(4,false)] rfl rfl ?_
       refine Jp.y 100 rfl (qaa rfl) rfl rfl Kp.true (by exact Y.qai 3 rfl isAgg27 sizeOf27 rfl rfl (by first | rfl | assumption)) ?_
       refine Jp.y 101 rfl (qaa rfl) rfl rfl Kp.true (Y.move rfl rfl) ?_
       refine Jp.y 102 rfl (qaa rfl) rfl rfl Kp.true (Y.struct [(0,_),(1,_)] [_,_,_] rfl rfl qav zeroValue37 rfl) ?_
       refine Jp.qaf 4 rfl (qaa rfl) rfl rfl sizeOf27 rfl rfl (by first | rfl | assumption) (by first | rfl | assumption) rfl (by first | rfl | assumption) (fun k _ _=>qam k) Kp.true ?_
       refine Jp.qaf 5 rfl (qaa rfl) rfl rfl sizeOf37 rfl rfl (by first | rfl | assumption) (by first | rfl | assumption) rfl (by first | rfl | assumption) (fun k _ _=>qam k) Kp.true ?_
       refine Jp.qae hK22 ?_
       refine Cd.ret [(0,_)] rfl (by exact qck 4 5 rfl rfl rfl isAgg27 sizeOf27 isAgg37 sizeOf37 rfl (by first | rfl | assumption) rfl (by first | rfl | assumption)) ⟨rfl,trivial⟩ ⟨rfl,rfl,rfl⟩
      ·rw [if_pos (show to % 4 = 0 by simp at gk; omega)] at hD
       subst hD
       refine Cd.qbi hK20 ?_
       refine Cd.seq fun K23 hK23=>?_
       refine Cd.qac [(0,false),(1,false),(2,false),(3,false),(4,false),(5,false),(6,false),(7,false),(8,false)] rfl rfl ?_
       refine Jp.y 103 rfl (qaa rfl) rfl rfl Kp.true (by exact Y.qai 3 rfl isAgg27 sizeOf27 rfl rfl (by first | rfl | assumption)) ?_
       refine Jp.y 104 rfl (qaa rfl) rfl rfl Kp.true (by exact Y.qad rfl rfl underlying40 rfl sizeOf3 (by decide) (show _ + 1 = _ from rfl)) ?_
       refine Jp.y 105 rfl (qaa rfl) rfl rfl Kp.true (by exact Y.qaq 6 rfl isAgg3 rfl rfl rfl) ?_
       refine Jp.y 106 rfl (qaa rfl) rfl rfl Kp.true (Y.move rfl rfl) ?_
       refine Jp.y 107 rfl (qaa rfl) rfl rfl Kp.true (Y.move rfl rfl) ?_
       refine Jp.call [] [] (hset rd (nx) (to) hI.rd) 108 rfl (qaa rfl) rfl rfl (Runs.fn rfl call27 rfl) (by decide) (by decide) rfl trivial ?_
       rintro v4 ρ4 L4 ⟨rfl,rfl,rfl⟩
       refine ⟨rfl,fun hle4=>⟨Kp.true,?_⟩⟩
       have hol:=qcm (s:=s) (x:=s.x.set rd (nx)) (to:=to) (by rw [List.length_set]; exact hsl32)
       have hoo:=StP.one (qem s (s.x.set rd (nx)) (to))
       refine Jp.y 109 rfl (qaa rfl) rfl rfl Kp.true (Y.struct [] [_,_,_] rfl rfl qav zeroValue37 rfl) ?_
       refine Jp.qaf 4 rfl (qaa rfl) rfl rfl sizeOf27 rfl rfl (by first | rfl | assumption) (by first | rfl | assumption) rfl (by first | rfl | assumption) (fun k _ _=>qam k) Kp.true ?_
       refine Jp.qaf 5 rfl (qaa rfl) rfl rfl sizeOf37 rfl rfl (by first | rfl | assumption) (by first | rfl | assumption) rfl (by first | rfl | assumption) (fun k _ _=>qam k) Kp.true ?_
       refine Jp.qae hK23 ?_
       refine Cd.ret [(0,_)] rfl (by exact qck 4 5 rfl rfl rfl isAgg27 sizeOf27 isAgg37 sizeOf37 rfl (by first | rfl | assumption) rfl (by first | rfl | assumption)) ⟨rfl,trivial⟩ ⟨rfl,by rfl,rfl⟩
     ·have h3 : op = 3:=by simp at gj; omega
      have hjal:=hjal () h3
      refine Cd.qbi hK18 ?_
      refine Cd.seq fun K24 hK24=>?_
      refine Cd.seq fun K25 hK25=>?_
      refine Cd.qac [(0,false),(1,false),(2,false)] rfl rfl ?_
      refine Jp.slot 12 rfl (show _ = Value.int .u32 ((to : Nat) : Int) from congrArg (Value.int .u32) (by first | (exfalso; omega) | rw [hjal,qbb])) ?_
      refine Jp.y 97 rfl (qaa rfl) rfl rfl Kp.true (Y.move rfl rfl) ?_
      refine Jp.y 98 rfl (qaa rfl) rfl rfl Kp.true (by exact Y.remN rfl rfl rfl (by omega) (by omega)) ?_
      refine Jp.y 99 rfl (qaa rfl) rfl rfl Kp.true (Y.neq rfl rfl rfl) ?_
      refine Jp.qae hK25 ?_
      refine Cd.qal rfl (fun gk=>?_) (fun gk=>?_)
      ·rw [if_neg (show ¬ to % 4 = 0 by simp at gk; omega)] at hD
       subst hD
       refine Cd.seq fun K26 hK26=>?_
       refine Cd.qac [(0,false),(1,false),(2,false),(3,false),(4,false)] rfl rfl ?_
       refine Jp.y 100 rfl (qaa rfl) rfl rfl Kp.true (by exact Y.qai 3 rfl isAgg27 sizeOf27 rfl rfl (by first | rfl | assumption)) ?_
       refine Jp.y 101 rfl (qaa rfl) rfl rfl Kp.true (Y.move rfl rfl) ?_
       refine Jp.y 102 rfl (qaa rfl) rfl rfl Kp.true (Y.struct [(0,_),(1,_)] [_,_,_] rfl rfl qav zeroValue37 rfl) ?_
       refine Jp.qaf 4 rfl (qaa rfl) rfl rfl sizeOf27 rfl rfl (by first | rfl | assumption) (by first | rfl | assumption) rfl (by first | rfl | assumption) (fun k _ _=>qam k) Kp.true ?_
       refine Jp.qaf 5 rfl (qaa rfl) rfl rfl sizeOf37 rfl rfl (by first | rfl | assumption) (by first | rfl | assumption) rfl (by first | rfl | assumption) (fun k _ _=>qam k) Kp.true ?_
       refine Jp.qae hK26 ?_
       refine Cd.ret [(0,_)] rfl (by exact qck 4 5 rfl rfl rfl isAgg27 sizeOf27 isAgg37 sizeOf37 rfl (by first | rfl | assumption) rfl (by first | rfl | assumption)) ⟨rfl,trivial⟩ ⟨rfl,rfl,rfl⟩
      ·rw [if_pos (show to % 4 = 0 by simp at gk; omega)] at hD
       subst hD
       refine Cd.qbi hK24 ?_
       refine Cd.seq fun K27 hK27=>?_
       refine Cd.qac [(0,false),(1,false),(2,false),(3,false),(4,false),(5,false),(6,false),(7,false),(8,false)] rfl rfl ?_
       refine Jp.y 103 rfl (qaa rfl) rfl rfl Kp.true (by exact Y.qai 3 rfl isAgg27 sizeOf27 rfl rfl (by first | rfl | assumption)) ?_
       refine Jp.y 104 rfl (qaa rfl) rfl rfl Kp.true (by exact Y.qad rfl rfl underlying40 rfl sizeOf3 (by decide) (show _ + 1 = _ from rfl)) ?_
       refine Jp.y 105 rfl (qaa rfl) rfl rfl Kp.true (by exact Y.qaq 6 rfl isAgg3 rfl rfl rfl) ?_
       refine Jp.y 106 rfl (qaa rfl) rfl rfl Kp.true (Y.move rfl rfl) ?_
       refine Jp.y 107 rfl (qaa rfl) rfl rfl Kp.true (Y.move rfl rfl) ?_
       refine Jp.call [] [] (hset rd (nx) (to) hI.rd) 108 rfl (qaa rfl) rfl rfl (Runs.fn rfl call27 rfl) (by decide) (by decide) rfl trivial ?_
       rintro v4 ρ4 L4 ⟨rfl,rfl,rfl⟩
       refine ⟨rfl,fun hle4=>⟨Kp.true,?_⟩⟩
       have hol:=qcm (s:=s) (x:=s.x.set rd (nx)) (to:=to) (by rw [List.length_set]; exact hsl32)
       have hoo:=StP.one (qem s (s.x.set rd (nx)) (to))
       refine Jp.y 109 rfl (qaa rfl) rfl rfl Kp.true (Y.struct [] [_,_,_] rfl rfl qav zeroValue37 rfl) ?_
       refine Jp.qaf 4 rfl (qaa rfl) rfl rfl sizeOf27 rfl rfl (by first | rfl | assumption) (by first | rfl | assumption) rfl (by first | rfl | assumption) (fun k _ _=>qam k) Kp.true ?_
       refine Jp.qaf 5 rfl (qaa rfl) rfl rfl sizeOf37 rfl rfl (by first | rfl | assumption) (by first | rfl | assumption) rfl (by first | rfl | assumption) (fun k _ _=>qam k) Kp.true ?_
       refine Jp.qae hK27 ?_
       refine Cd.ret [(0,_)] rfl (by exact qck 4 5 rfl rfl rfl isAgg27 sizeOf27 isAgg37 sizeOf37 rfl (by first | rfl | assumption) rfl (by first | rfl | assumption)) ⟨rfl,trivial⟩ ⟨rfl,by rfl,rfl⟩
    ·skip
     try simp only [sG0] at g81
     refine Jp.y 82 rfl (qab rfl rfl rfl rfl) rfl rfl Kp.true (by exact Y.qad rfl rfl underlying40 rfl sizeOf3 (by decide) (show _ + 0 = _ from rfl)) ?_
     refine Jp.y 83 rfl (qab rfl rfl rfl rfl) rfl rfl Kp.true (by exact Y.qaq 6 rfl isAgg3 rfl rfl rfl) ?_
     refine Jp.y 84 rfl (qab rfl rfl rfl rfl) rfl rfl Kp.true (Y.eql rfl rfl rfl) ?_
     refine Jp.y 85 rfl (qaa rfl) rfl rfl Kp.true (Y.qao rfl rfl rfl) ?_
     refine Jp.y 77 rfl (qaa rfl) rfl rfl Kp.true (Y.assign rfl rfl) ?_
     refine Jp.qae hK16 ?_
     refine Cd.qal rfl (fun g77=>?_) (fun g77=>?_)
     ·skip
      try simp only [sG0] at g77
      refine Cd.seq fun K28 hK28=>?_
      have hj34 : op = 3 ∨ op = 4:=by omega
      obtain ⟨to,hto⟩ : ∃ to,goesP i s = to:=⟨_,rfl⟩
      rw [hj to hj34 hto] at hD
      simp only [hto] at hjal hjr
      refine Cd.qac [(0,false),(1,false),(2,false),(3,false),(4,false)] rfl rfl ?_
      refine Jp.y 86 rfl (qaa rfl) rfl rfl Kp.true (by exact Y.qad rfl rfl underlying27 rfl sizeOf24 (by decide) (show _ + 32 = _ from rfl)) ?_
      refine Jp.y 87 rfl (qaa rfl) rfl rfl Kp.true (by exact Y.qbs 3 rfl isAgg24 rfl rfl (HasC.pt (StP.cPc hs))) ?_
      refine Jp.y 88 rfl (qaa rfl) rfl rfl Kp.true (Y.move rfl rfl) ?_
      refine Jp.y 89 rfl (qaa rfl) rfl rfl Kp.true (Y.qbx rfl rfl rfl (by rfl)) ?_
      refine Jp.y 12 rfl (qaa rfl) rfl rfl Kp.true (Y.assign rfl rfl) ?_
      refine Jp.qae hK28 ?_
      refine Cd.seq fun K29 hK29=>?_
      refine Cd.seq fun K30 hK30=>?_
      refine Cd.qac [(0,false),(1,false),(2,false)] rfl rfl ?_
      refine Jp.y 90 rfl (qaa rfl) rfl rfl Kp.true (by exact Y.qad rfl rfl underlying40 rfl sizeOf3 (by decide) (show _ + 0 = _ from rfl)) ?_
      refine Jp.y 91 rfl (qaa rfl) rfl rfl Kp.true (by exact Y.qaq 6 rfl isAgg3 rfl rfl rfl) ?_
      refine Jp.y 92 rfl (qaa rfl) rfl rfl Kp.true (Y.eql rfl rfl rfl) ?_
      refine Jp.qae hK30 ?_
      refine Cd.qal rfl (fun gj=>?_) (fun gj=>?_)
      ·have h4 : op = 4:=by simp at gj; omega
       have hjr:=hjr () h4
       have hev:=bits_even hlad
       refine Cd.qac [(0,false),(1,false),(2,false),(3,false),(4,false)] rfl rfl ?_
       refine Jp.y 93 rfl (qaa rfl) rfl rfl Kp.true (Y.move rfl rfl) ?_
       refine Jp.y 94 rfl (qaa rfl) rfl rfl Kp.true (Y.move rfl rfl) ?_
       refine Jp.y 95 rfl (qaa rfl) rfl rfl Kp.true (Y.qbx rfl rfl rfl (by rfl)) ?_
       refine Jp.y 96 rfl (qaa rfl) rfl rfl Kp.true (Y.bits rfl rfl rfl rfl) ?_
       refine Jp.y 12 rfl (qaa rfl) rfl rfl Kp.true (Y.assign rfl rfl) ?_
       refine Jp.qae hK29 ?_
       refine Cd.seq fun K31 hK31=>?_
       refine Cd.seq fun K32 hK32=>?_
       refine Cd.qac [(0,false),(1,false),(2,false)] rfl rfl ?_
       refine Jp.slot 12 rfl (show _ = Value.int .u32 ((to : Nat) : Int) from congrArg (Value.int .u32) (by rw [hjr,← hev,hiad,qbb])) ?_
       refine Jp.y 97 rfl (qaa rfl) rfl rfl Kp.true (Y.move rfl rfl) ?_
       refine Jp.y 98 rfl (qaa rfl) rfl rfl Kp.true (by exact Y.remN rfl rfl rfl (by omega) (by omega)) ?_
       refine Jp.y 99 rfl (qaa rfl) rfl rfl Kp.true (Y.neq rfl rfl rfl) ?_
       refine Jp.qae hK32 ?_
       refine Cd.qal rfl (fun gk=>?_) (fun gk=>?_)
       ·rw [if_neg (show ¬ to % 4 = 0 by simp at gk; omega)] at hD
        subst hD
        refine Cd.seq fun K33 hK33=>?_
        refine Cd.qac [(0,false),(1,false),(2,false),(3,false),(4,false)] rfl rfl ?_
        refine Jp.y 100 rfl (qaa rfl) rfl rfl Kp.true (by exact Y.qai 3 rfl isAgg27 sizeOf27 rfl rfl (by first | rfl | assumption)) ?_
        refine Jp.y 101 rfl (qaa rfl) rfl rfl Kp.true (Y.move rfl rfl) ?_
        refine Jp.y 102 rfl (qaa rfl) rfl rfl Kp.true (Y.struct [(0,_),(1,_)] [_,_,_] rfl rfl qav zeroValue37 rfl) ?_
        refine Jp.qaf 4 rfl (qaa rfl) rfl rfl sizeOf27 rfl rfl (by first | rfl | assumption) (by first | rfl | assumption) rfl (by first | rfl | assumption) (fun k _ _=>qam k) Kp.true ?_
        refine Jp.qaf 5 rfl (qaa rfl) rfl rfl sizeOf37 rfl rfl (by first | rfl | assumption) (by first | rfl | assumption) rfl (by first | rfl | assumption) (fun k _ _=>qam k) Kp.true ?_
        refine Jp.qae hK33 ?_
        refine Cd.ret [(0,_)] rfl (by exact qck 4 5 rfl rfl rfl isAgg27 sizeOf27 isAgg37 sizeOf37 rfl (by first | rfl | assumption) rfl (by first | rfl | assumption)) ⟨rfl,trivial⟩ ⟨rfl,rfl,rfl⟩
       ·rw [if_pos (show to % 4 = 0 by simp at gk; omega)] at hD
        subst hD
        refine Cd.qbi hK31 ?_
        refine Cd.seq fun K34 hK34=>?_
        refine Cd.qac [(0,false),(1,false),(2,false),(3,false),(4,false),(5,false),(6,false),(7,false),(8,false)] rfl rfl ?_
        refine Jp.y 103 rfl (qaa rfl) rfl rfl Kp.true (by exact Y.qai 3 rfl isAgg27 sizeOf27 rfl rfl (by first | rfl | assumption)) ?_
        refine Jp.y 104 rfl (qaa rfl) rfl rfl Kp.true (by exact Y.qad rfl rfl underlying40 rfl sizeOf3 (by decide) (show _ + 1 = _ from rfl)) ?_
        refine Jp.y 105 rfl (qaa rfl) rfl rfl Kp.true (by exact Y.qaq 6 rfl isAgg3 rfl rfl rfl) ?_
        refine Jp.y 106 rfl (qaa rfl) rfl rfl Kp.true (Y.move rfl rfl) ?_
        refine Jp.y 107 rfl (qaa rfl) rfl rfl Kp.true (Y.move rfl rfl) ?_
        refine Jp.call [] [] (hset rd (nx) (to) hI.rd) 108 rfl (qaa rfl) rfl rfl (Runs.fn rfl call27 rfl) (by decide) (by decide) rfl trivial ?_
        rintro v4 ρ4 L4 ⟨rfl,rfl,rfl⟩
        refine ⟨rfl,fun hle4=>⟨Kp.true,?_⟩⟩
        have hol:=qcm (s:=s) (x:=s.x.set rd (nx)) (to:=to) (by rw [List.length_set]; exact hsl32)
        have hoo:=StP.one (qem s (s.x.set rd (nx)) (to))
        refine Jp.y 109 rfl (qaa rfl) rfl rfl Kp.true (Y.struct [] [_,_,_] rfl rfl qav zeroValue37 rfl) ?_
        refine Jp.qaf 4 rfl (qaa rfl) rfl rfl sizeOf27 rfl rfl (by first | rfl | assumption) (by first | rfl | assumption) rfl (by first | rfl | assumption) (fun k _ _=>qam k) Kp.true ?_
        refine Jp.qaf 5 rfl (qaa rfl) rfl rfl sizeOf37 rfl rfl (by first | rfl | assumption) (by first | rfl | assumption) rfl (by first | rfl | assumption) (fun k _ _=>qam k) Kp.true ?_
        refine Jp.qae hK34 ?_
        refine Cd.ret [(0,_)] rfl (by exact qck 4 5 rfl rfl rfl isAgg27 sizeOf27 isAgg37 sizeOf37 rfl (by first | rfl | assumption) rfl (by first | rfl | assumption)) ⟨rfl,trivial⟩ ⟨rfl,by rfl,rfl⟩
      ·have h3 : op = 3:=by simp at gj; omega
       have hjal:=hjal () h3
       refine Cd.qbi hK29 ?_
       refine Cd.seq fun K35 hK35=>?_
       refine Cd.seq fun K36 hK36=>?_
       refine Cd.qac [(0,false),(1,false),(2,false)] rfl rfl ?_
       refine Jp.slot 12 rfl (show _ = Value.int .u32 ((to : Nat) : Int) from congrArg (Value.int .u32) (by first | (exfalso; omega) | rw [hjal,qbb])) ?_
       refine Jp.y 97 rfl (qaa rfl) rfl rfl Kp.true (Y.move rfl rfl) ?_
       refine Jp.y 98 rfl (qaa rfl) rfl rfl Kp.true (by exact Y.remN rfl rfl rfl (by omega) (by omega)) ?_
       refine Jp.y 99 rfl (qaa rfl) rfl rfl Kp.true (Y.neq rfl rfl rfl) ?_
       refine Jp.qae hK36 ?_
       refine Cd.qal rfl (fun gk=>?_) (fun gk=>?_)
       ·rw [if_neg (show ¬ to % 4 = 0 by simp at gk; omega)] at hD
        subst hD
        refine Cd.seq fun K37 hK37=>?_
        refine Cd.qac [(0,false),(1,false),(2,false),(3,false),(4,false)] rfl rfl ?_
        refine Jp.y 100 rfl (qaa rfl) rfl rfl Kp.true (by exact Y.qai 3 rfl isAgg27 sizeOf27 rfl rfl (by first | rfl | assumption)) ?_
        refine Jp.y 101 rfl (qaa rfl) rfl rfl Kp.true (Y.move rfl rfl) ?_
        refine Jp.y 102 rfl (qaa rfl) rfl rfl Kp.true (Y.struct [(0,_),(1,_)] [_,_,_] rfl rfl qav zeroValue37 rfl) ?_
        refine Jp.qaf 4 rfl (qaa rfl) rfl rfl sizeOf27 rfl rfl (by first | rfl | assumption) (by first | rfl | assumption) rfl (by first | rfl | assumption) (fun k _ _=>qam k) Kp.true ?_
        refine Jp.qaf 5 rfl (qaa rfl) rfl rfl sizeOf37 rfl rfl (by first | rfl | assumption) (by first | rfl | assumption) rfl (by first | rfl | assumption) (fun k _ _=>qam k) Kp.true ?_
        refine Jp.qae hK37 ?_
        refine Cd.ret [(0,_)] rfl (by exact qck 4 5 rfl rfl rfl isAgg27 sizeOf27 isAgg37 sizeOf37 rfl (by first | rfl | assumption) rfl (by first | rfl | assumption)) ⟨rfl,trivial⟩ ⟨rfl,rfl,rfl⟩
       ·rw [if_pos (show to % 4 = 0 by simp at gk; omega)] at hD
        subst hD
        refine Cd.qbi hK35 ?_
        refine Cd.seq fun K38 hK38=>?_
        refine Cd.qac [(0,false),(1,false),(2,false),(3,false),(4,false),(5,false),(6,false),(7,false),(8,false)] rfl rfl ?_
        refine Jp.y 103 rfl (qaa rfl) rfl rfl Kp.true (by exact Y.qai 3 rfl isAgg27 sizeOf27 rfl rfl (by first | rfl | assumption)) ?_
        refine Jp.y 104 rfl (qaa rfl) rfl rfl Kp.true (by exact Y.qad rfl rfl underlying40 rfl sizeOf3 (by decide) (show _ + 1 = _ from rfl)) ?_
        refine Jp.y 105 rfl (qaa rfl) rfl rfl Kp.true (by exact Y.qaq 6 rfl isAgg3 rfl rfl rfl) ?_
        refine Jp.y 106 rfl (qaa rfl) rfl rfl Kp.true (Y.move rfl rfl) ?_
        refine Jp.y 107 rfl (qaa rfl) rfl rfl Kp.true (Y.move rfl rfl) ?_
        refine Jp.call [] [] (hset rd (nx) (to) hI.rd) 108 rfl (qaa rfl) rfl rfl (Runs.fn rfl call27 rfl) (by decide) (by decide) rfl trivial ?_
        rintro v4 ρ4 L4 ⟨rfl,rfl,rfl⟩
        refine ⟨rfl,fun hle4=>⟨Kp.true,?_⟩⟩
        have hol:=qcm (s:=s) (x:=s.x.set rd (nx)) (to:=to) (by rw [List.length_set]; exact hsl32)
        have hoo:=StP.one (qem s (s.x.set rd (nx)) (to))
        refine Jp.y 109 rfl (qaa rfl) rfl rfl Kp.true (Y.struct [] [_,_,_] rfl rfl qav zeroValue37 rfl) ?_
        refine Jp.qaf 4 rfl (qaa rfl) rfl rfl sizeOf27 rfl rfl (by first | rfl | assumption) (by first | rfl | assumption) rfl (by first | rfl | assumption) (fun k _ _=>qam k) Kp.true ?_
        refine Jp.qaf 5 rfl (qaa rfl) rfl rfl sizeOf37 rfl rfl (by first | rfl | assumption) (by first | rfl | assumption) rfl (by first | rfl | assumption) (fun k _ _=>qam k) Kp.true ?_
        refine Jp.qae hK38 ?_
        refine Cd.ret [(0,_)] rfl (by exact qck 4 5 rfl rfl rfl isAgg27 sizeOf27 isAgg37 sizeOf37 rfl (by first | rfl | assumption) rfl (by first | rfl | assumption)) ⟨rfl,trivial⟩ ⟨rfl,by rfl,rfl⟩
     ·skip
      try simp only [sG0] at g77
      refine Cd.seq fun K39 hK39=>?_
      refine Cd.qac [(0,false),(1,false),(2,false),(3,false)] rfl rfl ?_
      refine Jp.y 111 rfl (qaa rfl) rfl rfl Kp.true (by exact Y.qad rfl rfl underlying40 rfl sizeOf3 (by decide) (show _ + 0 = _ from rfl)) ?_
      refine Jp.y 112 rfl (qaa rfl) rfl rfl Kp.true (by exact Y.qaq 6 rfl isAgg3 rfl rfl rfl) ?_
      refine Jp.y 113 rfl (qaa rfl) rfl rfl Kp.true (Y.leq rfl rfl rfl) ?_
      refine Jp.y 110 rfl (qaa rfl) rfl rfl Kp.true (Y.assign rfl rfl) ?_
      refine Jp.qae hK39 ?_
      refine Cd.qal rfl (fun g110=>?_) (fun g110=>?_)
      ·skip
       try simp only [sG0] at g110
       refine Cd.seq fun K40 hK40=>?_
       have hbr : 5 ≤ op ∧ op ≤ 10:=by omega
       have hidx : ([Value.int .i64 0,Value.int .i64 1,Value.int .i64 4,Value.int .i64 5,Value.int .i64 6,Value.int .i64 7] : List Value)[op - 5]? = some (.int .i64 (brK op : Int)):=by
        rcases (show op = 5 ∨ op = 6 ∨ op = 7 ∨ op = 8 ∨ op = 9 ∨ op = 10 by omega) with h | h | h | h | h | h <;> rw [h] <;> rfl
       have hbk:=brK_ok hbr
       have hbry:=fun _ : Unit=>hbry () hbr
       have hbrn:=fun _ : Unit=>hbrn () hbr
       have hb:=fun to=>hb to hbr
       obtain ⟨kk,hkk⟩ : ∃ k,brK op = k:=⟨_,rfl⟩
       rw [hkk] at hidx hbk
       simp only [hkk] at hbry hbrn
       refine Cd.qac [(0,false),(1,false),(2,false),(3,false),(4,false),(5,false),(6,false),(7,false),(8,false),(9,false),(10,false),(11,false),(12,false),(13,false)] rfl rfl ?_
       refine Jp.lit 115 8 [(0,_),(1,_),(2,_),(3,_),(4,_),(5,_)] [_,_,_,_,_,_] rfl (qaa rfl) rfl rfl rfl rfl underlying76 sizeOf3 zeroValue3 rfl rfl rfl rfl rfl fun b8=>⟨Kp.true,?_⟩
       refine Jp.y 116 rfl (qaa rfl) rfl rfl Kp.true (by exact Y.qad rfl rfl underlying40 rfl sizeOf3 (by decide) (show _ + 0 = _ from rfl)) ?_
       refine Jp.y 117 rfl (qaa rfl) rfl rfl Kp.true (by exact Y.qaq 6 rfl isAgg3 rfl rfl rfl) ?_
       refine Jp.slot 117 rfl (show _ = Value.int .i64 (op : Int) from rfl) ?_
       refine Jp.y 118 rfl (qaa rfl) rfl rfl Kp.true (Y.qdo rfl rfl rfl (by exact qag (by omega) (by omega))) ?_
       refine Jp.y 119 rfl (qaa rfl) rfl rfl Kp.true (Y.qar (q:=op - 5) rfl rfl rfl underlying76 sizeOf3 (by omega) (by omega) (by omega)) ?_
       refine Jp.y 120 rfl (qaa rfl) rfl rfl Kp.true (Y.qdd 8 (q:=op - 5) rfl isAgg3 rfl rfl rfl hidx) ?_
       refine Jp.y 121 rfl (qaa rfl) rfl rfl Kp.true (Y.move rfl rfl) ?_
       refine Jp.y 122 rfl (qaa rfl) rfl rfl Kp.true (Y.move rfl rfl) ?_
       refine Jp.call [] [] (refTest_spec kk x1 x2 hbk l1 l2) 123 rfl (qaa rfl) rfl rfl (Runs.fn rfl call28 rfl) (by decide) (by decide) rfl trivial ?_
       rintro v4 ρ4 L4 ⟨rfl,rfl,rfl⟩
       refine ⟨rfl,fun hle4=>⟨Kp.true,?_⟩⟩
       obtain ⟨y,hy⟩ : ∃ y,testP kk x1 x2 = y:=⟨_,rfl⟩
       simp only [hy] at hbry hbrn
       rw [hy]
       refine Jp.y 114 rfl (qaa rfl) rfl rfl Kp.true (Y.move rfl rfl) ?_
       refine Jp.y 124 rfl (qaa rfl) rfl rfl Kp.true (Y.extract rfl rfl rfl) ?_
       refine Jp.y 125 rfl (qaa rfl) rfl rfl Kp.true (Y.extract rfl rfl rfl) ?_
       refine Jp.y 13 rfl (qaa rfl) rfl rfl Kp.true (Y.assign rfl rfl) ?_
       refine Jp.y 14 rfl (qaa rfl) rfl rfl Kp.true (Y.assign rfl rfl) ?_
       cases y
       ·have hbrn:=hbrn () rfl
        rw [hb nx hbrn,if_pos (by rw [← hnx]; exact next_al hal)] at hD
        subst hD
        refine Jp.qae hK40 ?_
        refine Cd.seq fun K41 hK41=>?_
        refine Cd.seq fun K42 hK42=>?_
        refine Cd.qac [(0,false),(1,false),(2,false),(3,false),(4,false),(5,false),(6,false),(7,false),(8,false)] rfl rfl ?_
        refine Jp.y 126 rfl (qaa rfl) rfl rfl Kp.true (Y.move rfl rfl) ?_
        refine Jp.y 127 rfl (qaa rfl) rfl rfl Kp.true (Y.move rfl rfl) ?_
        refine Jp.slot 127 rfl (show _ = Value.bool false from rfl) ?_
        refine Jp.qak 128 rfl (qab rfl rfl rfl rfl) rfl rfl Kp.true ?_
        refine Jp.qak 129 rfl (qab rfl rfl rfl rfl) rfl rfl Kp.true ?_
        refine Jp.qak 130 rfl (qab rfl rfl rfl rfl) rfl rfl Kp.true ?_
        refine Jp.qak 131 rfl (qab rfl rfl rfl rfl) rfl rfl Kp.true ?_
        refine Jp.qak 132 rfl (qab rfl rfl rfl rfl) rfl rfl Kp.true ?_
        refine Jp.qak 133 rfl (qab rfl rfl rfl rfl) rfl rfl Kp.true ?_
        refine Jp.y 134 rfl (qaa rfl) rfl rfl Kp.true (Y.qao rfl rfl rfl) ?_
        refine Jp.qae hK42 ?_
        refine Cd.qbg rfl ?_
        refine Cd.qbi hK41 ?_
        refine Cd.seq fun K43 hK43=>?_
        refine Cd.seq fun K44 hK44=>?_
        refine Cd.qac [(0,false)] rfl rfl ?_
        refine Jp.y 141 rfl (qaa rfl) rfl rfl Kp.true (Y.move rfl rfl) ?_
        refine Jp.qae hK44 ?_
        refine Cd.qbg rfl ?_
        refine Cd.qbi hK43 ?_
        refine Cd.seq fun K45 hK45=>?_
        refine Cd.qac [(0,false),(1,false),(2,false),(3,false),(4,false),(5,false)] rfl rfl ?_
        refine Jp.y 146 rfl (qaa rfl) rfl rfl Kp.true (by exact Y.qai 3 rfl isAgg27 sizeOf27 rfl rfl (by first | rfl | assumption)) ?_
        refine Jp.y 147 rfl (qaa rfl) rfl rfl Kp.true (Y.move rfl rfl) ?_
        refine Jp.call [] [] (hset 0 (0) (nx) (by decide)) 148 rfl (qaa rfl) rfl rfl (Runs.fn rfl call27 rfl) (by decide) (by decide) rfl trivial ?_
        rintro v5 ρ5 L5 ⟨rfl,rfl,rfl⟩
        refine ⟨rfl,fun hle5=>⟨Kp.true,?_⟩⟩
        have hol:=qcm (s:=s) (x:=s.x.set 0 (0)) (to:=nx) (by rw [List.length_set]; exact hsl32)
        have hoo:=StP.one (qem s (s.x.set 0 (0)) (nx))
        refine Jp.y 149 rfl (qaa rfl) rfl rfl Kp.true (Y.struct [] [_,_,_] rfl rfl qav zeroValue37 rfl) ?_
        refine Jp.qaf 4 rfl (qaa rfl) rfl rfl sizeOf27 rfl rfl (by first | rfl | assumption) (by first | rfl | assumption) rfl (by first | rfl | assumption) (fun k _ _=>qam k) Kp.true ?_
        refine Jp.qaf 5 rfl (qaa rfl) rfl rfl sizeOf37 rfl rfl (by first | rfl | assumption) (by first | rfl | assumption) rfl (by first | rfl | assumption) (fun k _ _=>qam k) Kp.true ?_
        refine Jp.qae hK45 ?_
        refine Cd.ret [(0,_)] rfl (by exact qck 4 5 rfl rfl rfl isAgg27 sizeOf27 isAgg37 sizeOf37 rfl (by first | rfl | assumption) rfl (by first | rfl | assumption)) ⟨rfl,trivial⟩ ⟨rfl,by (rw [qgf]; first | done | rfl),rfl⟩
       ·have hbry:=hbry () rfl
        obtain ⟨to,hto⟩ : ∃ to,u32 ((s.pc : Int) + (imw : Int)) = to:=⟨_,rfl⟩
        rw [hto] at hbry
        rw [hb to hbry] at hD
        refine Jp.qae hK40 ?_
        refine Cd.seq fun K46 hK46=>?_
        refine Cd.seq fun K47 hK47=>?_
        refine Cd.qac [(0,false),(1,false),(2,false),(3,false),(4,false),(5,false),(6,false),(7,false),(8,false)] rfl rfl ?_
        refine Jp.y 126 rfl (qaa rfl) rfl rfl Kp.true (Y.move rfl rfl) ?_
        refine Jp.y 127 rfl (qaa rfl) rfl rfl Kp.true (Y.move rfl rfl) ?_
        refine Jp.slot 127 rfl (show _ = Value.bool true from rfl) ?_
        refine Jp.y 128 rfl (qab rfl rfl rfl rfl) rfl rfl Kp.true (by exact Y.qad rfl rfl underlying27 rfl sizeOf24 (by decide) (show _ + 32 = _ from rfl)) ?_
        refine Jp.y 129 rfl (qab rfl rfl rfl rfl) rfl rfl Kp.true (by exact Y.qbs 3 rfl isAgg24 rfl rfl (HasC.pt (StP.cPc hs))) ?_
        refine Jp.y 130 rfl (qab rfl rfl rfl rfl) rfl rfl Kp.true (Y.move rfl rfl) ?_
        refine Jp.y 131 rfl (qab rfl rfl rfl rfl) rfl rfl Kp.true (Y.qbx rfl rfl rfl (by rfl)) ?_
        refine Jp.slot 131 rfl (show _ = Value.int .u32 ((to : Nat) : Int) from congrArg (Value.int .u32) (by rw [← hto,qbb])) ?_
        refine Jp.y 132 rfl (qab rfl rfl rfl rfl) rfl rfl Kp.true (by exact Y.remN rfl rfl rfl (by omega) (by omega)) ?_
        refine Jp.y 133 rfl (qab rfl rfl rfl rfl) rfl rfl Kp.true (Y.neq rfl rfl rfl) ?_
        refine Jp.y 134 rfl (qaa rfl) rfl rfl Kp.true (Y.qat rfl rfl rfl) ?_
        refine Jp.qae hK47 ?_
        refine Cd.qal rfl (fun gk=>?_) (fun gk=>?_)
        ·rw [if_neg (show ¬ to % 4 = 0 by simp at gk; omega)] at hD
         subst hD
         refine Cd.seq fun K48 hK48=>?_
         refine Cd.drawn [(3,_)] ⟨rfl,trivial⟩ [(0,true),(1,true),(2,true),(3,true),(4,true),(5,true),(6,false),(7,false)] follows (by kernel_rfl) (fun hrl=>?_)
         refine Jp.q 135 rfl (qaa rfl) rfl rfl (by exact Y.qai 3 rfl isAgg27 sizeOf27 rfl rfl (by first | rfl | assumption)) ?_
         refine Jp.q 136 rfl (qaa rfl) rfl rfl (by exact Y.qad rfl rfl underlying27 rfl sizeOf24 (by decide) (show _ + 32 = _ from rfl)) ?_
         refine Jp.q 137 rfl (qaa rfl) rfl rfl (by exact Y.qbs 3 rfl isAgg24 rfl rfl (HasC.pt (StP.cPc hs))) ?_
         refine Jp.q 138 rfl (qaa rfl) rfl rfl (Y.move rfl rfl) ?_
         refine Jp.q 139 rfl (qaa rfl) rfl rfl (Y.qbx rfl rfl rfl (by rfl)) ?_
         refine Jp.q 140 rfl (qaa rfl) rfl rfl (Y.struct [(0,_),(1,_)] [_,_,_] rfl rfl qav zeroValue37 rfl) ?_
         refine Jp.qaf 4 rfl (qaa rfl) rfl rfl sizeOf27 rfl rfl (by first | rfl | assumption) (by first | rfl | assumption) rfl (by first | rfl | assumption) (fun k _ _=>qam k) (Kp.st ⟨rfl,trivial⟩) ?_
         refine Jp.qaf 5 rfl (qaa rfl) rfl rfl sizeOf37 rfl rfl (by first | rfl | assumption) (by first | rfl | assumption) rfl (by first | rfl | assumption) (fun k _ _=>qam k) Kp.last ?_
         refine Jp.qae hK48 ?_
         refine Cd.ret [(0,_)] rfl (by exact qck 4 5 rfl rfl rfl isAgg27 sizeOf27 isAgg37 sizeOf37 rfl (by first | rfl | assumption) rfl (by first | rfl | assumption)) ⟨rfl,trivial⟩ ⟨rfl,by rw [qbb,hto] <;> rfl,rfl⟩
        ·rw [if_pos (show to % 4 = 0 by simp at gk; omega)] at hD
         subst hD
         refine Cd.qbi hK46 ?_
         refine Cd.seq fun K50 hK50=>?_
         refine Cd.seq fun K51 hK51=>?_
         refine Cd.qac [(0,false)] rfl rfl ?_
         refine Jp.y 141 rfl (qaa rfl) rfl rfl Kp.true (Y.move rfl rfl) ?_
         refine Jp.qae hK51 ?_
         refine Cd.qcw rfl ?_
         refine Cd.qac [(0,false),(1,false),(2,false),(3,false),(4,false)] rfl rfl ?_
         refine Jp.y 142 rfl (qaa rfl) rfl rfl Kp.true (by exact Y.qad rfl rfl underlying27 rfl sizeOf24 (by decide) (show _ + 32 = _ from rfl)) ?_
         refine Jp.y 143 rfl (qaa rfl) rfl rfl Kp.true (by exact Y.qbs 3 rfl isAgg24 rfl rfl (HasC.pt (StP.cPc hs))) ?_
         refine Jp.y 144 rfl (qaa rfl) rfl rfl Kp.true (Y.move rfl rfl) ?_
         refine Jp.y 145 rfl (qaa rfl) rfl rfl Kp.true (Y.qbx rfl rfl rfl (by rfl)) ?_
         refine Jp.y 9 rfl (qaa rfl) rfl rfl Kp.true (Y.assign rfl rfl) ?_
         refine Jp.qae hK50 ?_
         refine Cd.seq fun K52 hK52=>?_
         refine Cd.qac [(0,false),(1,false),(2,false),(3,false),(4,false),(5,false)] rfl rfl ?_
         refine Jp.slot 9 rfl (show _ = Value.int .u32 ((to : Nat) : Int) from congrArg (Value.int .u32) (by rw [← hto,qbb])) ?_
         refine Jp.y 146 rfl (qaa rfl) rfl rfl Kp.true (by exact Y.qai 3 rfl isAgg27 sizeOf27 rfl rfl (by first | rfl | assumption)) ?_
         refine Jp.y 147 rfl (qaa rfl) rfl rfl Kp.true (Y.move rfl rfl) ?_
         refine Jp.call [] [] (hset 0 (0) (to) (by decide)) 148 rfl (qaa rfl) rfl rfl (Runs.fn rfl call27 rfl) (by decide) (by decide) rfl trivial ?_
         rintro v5 ρ5 L5 ⟨rfl,rfl,rfl⟩
         refine ⟨rfl,fun hle5=>⟨Kp.true,?_⟩⟩
         have hol:=qcm (s:=s) (x:=s.x.set 0 (0)) (to:=to) (by rw [List.length_set]; exact hsl32)
         have hoo:=StP.one (qem s (s.x.set 0 (0)) (to))
         refine Jp.y 149 rfl (qaa rfl) rfl rfl Kp.true (Y.struct [] [_,_,_] rfl rfl qav zeroValue37 rfl) ?_
         refine Jp.qaf 4 rfl (qaa rfl) rfl rfl sizeOf27 rfl rfl (by first | rfl | assumption) (by first | rfl | assumption) rfl (by first | rfl | assumption) (fun k _ _=>qam k) Kp.true ?_
         refine Jp.qaf 5 rfl (qaa rfl) rfl rfl sizeOf37 rfl rfl (by first | rfl | assumption) (by first | rfl | assumption) rfl (by first | rfl | assumption) (fun k _ _=>qam k) Kp.true ?_
         refine Jp.qae hK52 ?_
         refine Cd.ret [(0,_)] rfl (by exact qck 4 5 rfl rfl rfl isAgg27 sizeOf27 isAgg37 sizeOf37 rfl (by first | rfl | assumption) rfl (by first | rfl | assumption)) ⟨rfl,trivial⟩ ⟨rfl,by (rw [qgf]; first | done | rfl),rfl⟩
      ·skip
       try simp only [sG0] at g110
       refine Cd.seq fun K53 hK53=>?_
       refine Cd.qac [(0,false),(1,false),(2,false),(3,false)] rfl rfl ?_
       refine Jp.y 151 rfl (qaa rfl) rfl rfl Kp.true (by exact Y.qad rfl rfl underlying40 rfl sizeOf3 (by decide) (show _ + 0 = _ from rfl)) ?_
       refine Jp.y 152 rfl (qaa rfl) rfl rfl Kp.true (by exact Y.qaq 6 rfl isAgg3 rfl rfl rfl) ?_
       refine Jp.y 153 rfl (qaa rfl) rfl rfl Kp.true (Y.leq rfl rfl rfl) ?_
       refine Jp.y 150 rfl (qaa rfl) rfl rfl Kp.true (Y.assign rfl rfl) ?_
       refine Jp.qae hK53 ?_
       refine Cd.qal rfl (fun g150=>?_) (fun g150=>?_)
       ·skip
        try simp only [sG0] at g150
        refine Cd.seq fun K54 hK54=>?_
        have hl:=hl () (by omega)
        have hSz:=qgd op
        have hsz4:=qgb op
        obtain ⟨szp,hsz⟩ : ∃ x,qbr op = x:=⟨_,rfl⟩
        rw [hsz] at hSz hl hsz4
        obtain ⟨sz,sg⟩:=szp
        dsimp only at hSz hl hsz4
        have hL:=refLoad_spec b M ad sz 1 hlad
        have hll : (qbv M ad sz 1).1 < 4294967296:=qdu _ _ _ hsz4 _
        obtain ⟨ldp,hld⟩ : ∃ x,qbv M ad sz 1 = x:=⟨_,rfl⟩
        rw [hld] at hL hl hll
        obtain ⟨lv,lf⟩:=ldp
        dsimp only at hL hl hll
        rw [hl] at hD
        refine Cd.qac [(0,false),(1,false),(2,false),(3,false),(4,false),(5,false),(6,false),(7,false)] rfl rfl ?_
        refine Jp.y 155 rfl (qaa rfl) rfl rfl Kp.true (by exact Y.qad rfl rfl underlying40 rfl sizeOf3 (by decide) (show _ + 0 = _ from rfl)) ?_
        refine Jp.y 156 rfl (qaa rfl) rfl rfl Kp.true (by exact Y.qaq 6 rfl isAgg3 rfl rfl rfl) ?_
        refine Jp.call [] [] hSz 157 rfl (qaa rfl) rfl rfl (Runs.fn rfl call29 rfl) (by decide) (by decide) rfl trivial ?_
        rintro v4 ρ4 L4 ⟨rfl,rfl,rfl⟩
        refine ⟨rfl,fun hle4=>⟨Kp.true,?_⟩⟩
        refine Jp.y 154 rfl (qaa rfl) rfl rfl Kp.true (Y.move rfl rfl) ?_
        refine Jp.y 158 rfl (qaa rfl) rfl rfl Kp.true (Y.extract rfl rfl rfl) ?_
        refine Jp.y 159 rfl (qaa rfl) rfl rfl Kp.true (Y.extract rfl rfl rfl) ?_
        refine Jp.y 15 rfl (qaa rfl) rfl rfl Kp.true (Y.assign rfl rfl) ?_
        refine Jp.y 16 rfl (qaa rfl) rfl rfl Kp.true (Y.assign rfl rfl) ?_
        refine Jp.qae hK54 ?_
        refine Cd.seq fun K55 hK55=>?_
        refine Cd.qac [(0,false),(1,false),(2,false),(3,false),(4,false),(5,false),(6,false),(7,false),(8,false),(9,false),(10,false)] rfl rfl ?_
        refine Jp.y 161 rfl (qaa rfl) rfl rfl Kp.true (Y.move rfl rfl) ?_
        refine Jp.y 162 rfl (qaa rfl) rfl rfl Kp.true (Y.move rfl rfl) ?_
        refine Jp.y 163 rfl (qaa rfl) rfl rfl Kp.true (Y.move rfl rfl) ?_
        refine Jp.y 164 rfl (qaa rfl) rfl rfl Kp.true (Y.qbx rfl rfl rfl (by rfl)) ?_
        refine Jp.y 165 rfl (qaa rfl) rfl rfl Kp.true (Y.move rfl rfl) ?_
        refine Jp.slot 164 rfl (show _ = Value.int .u32 ((ad : Nat) : Int) from congrArg (Value.int .u32) (by rw [hiad,qbb])) ?_
        refine Jp.call [0] [0] hL 166 rfl (qaa rfl) rfl rfl (Runs.fn rfl call22 rfl) (by decide) (by decide) rfl trivial ?_
        rintro v5 ρ5 L5 ⟨rfl,rfl,rfl⟩
        refine ⟨rfl,fun hle5=>⟨Kp.true,?_⟩⟩
        refine Jp.y 160 rfl (qaa rfl) rfl rfl Kp.true (Y.move rfl rfl) ?_
        refine Jp.y 167 rfl (qaa rfl) rfl rfl Kp.true (Y.extract rfl rfl rfl) ?_
        refine Jp.y 168 rfl (qaa rfl) rfl rfl Kp.true (Y.extract rfl rfl rfl) ?_
        refine Jp.y 17 rfl (qaa rfl) rfl rfl Kp.true (Y.assign rfl rfl) ?_
        refine Jp.y 18 rfl (qaa rfl) rfl rfl Kp.true (Y.assign rfl rfl) ?_
        refine Jp.qae hK55 ?_
        refine Cd.seq fun K56 hK56=>?_
        refine Cd.seq fun K57 hK57=>?_
        refine Cd.qac [(0,false),(1,false)] rfl rfl ?_
        refine Jp.y 169 rfl (qaa rfl) rfl rfl Kp.true (Y.move rfl rfl) ?_
        refine Jp.y 170 rfl (qaa rfl) rfl rfl Kp.true (Y.neq rfl rfl rfl) ?_
        refine Jp.qae hK57 ?_
        refine Cd.qal rfl (fun gk=>?_) (fun gk=>?_)
        ·rw [if_neg (show ¬ lf = 0 by simpa using gk)] at hD
         subst hD
         refine Cd.seq fun K58 hK58=>?_
         refine Cd.qac [(0,false),(1,false),(2,false),(3,false),(4,false),(5,false),(6,false),(7,false)] rfl rfl ?_
         refine Jp.y 171 rfl (qaa rfl) rfl rfl Kp.true (by exact Y.qai 3 rfl isAgg27 sizeOf27 rfl rfl (by first | rfl | assumption)) ?_
         refine Jp.y 172 rfl (qaa rfl) rfl rfl Kp.true (Y.move rfl rfl) ?_
         refine Jp.y 173 rfl (qaa rfl) rfl rfl Kp.true (Y.move rfl rfl) ?_
         refine Jp.y 174 rfl (qaa rfl) rfl rfl Kp.true (Y.qbx rfl rfl rfl (by rfl)) ?_
         refine Jp.y 175 rfl (qaa rfl) rfl rfl Kp.true (Y.move rfl rfl) ?_
         refine Jp.y 176 rfl (qaa rfl) rfl rfl Kp.true (Y.struct [(0,_),(1,_),(2,_)] [_,_,_] rfl rfl qav zeroValue37 rfl) ?_
         refine Jp.qaf 4 rfl (qaa rfl) rfl rfl sizeOf27 rfl rfl (by first | rfl | assumption) (by first | rfl | assumption) rfl (by first | rfl | assumption) (fun k _ _=>qam k) Kp.true ?_
         refine Jp.qaf 5 rfl (qaa rfl) rfl rfl sizeOf37 rfl rfl (by first | rfl | assumption) (by first | rfl | assumption) rfl (by first | rfl | assumption) (fun k _ _=>qam k) Kp.true ?_
         refine Jp.qae hK58 ?_
         refine Cd.ret [(0,_)] rfl (by exact qck 4 5 rfl rfl rfl isAgg27 sizeOf27 isAgg37 sizeOf37 rfl (by first | rfl | assumption) rfl (by first | rfl | assumption)) ⟨rfl,trivial⟩ ⟨rfl,by rw [qbb,← hiad] <;> rfl,rfl⟩
        ·rw [if_pos (show lf = 0 by simpa using gk)] at hD
         refine Cd.qbi hK56 ?_
         refine Cd.seq fun K59 hK59=>?_
         refine Cd.seq fun K60 hK60=>?_
         refine Cd.qac [(0,false)] rfl rfl ?_
         refine Jp.y 177 rfl (qaa rfl) rfl rfl Kp.true (Y.move rfl rfl) ?_
         refine Jp.qae hK60 ?_
         refine Cd.qal rfl (fun gs=>?_) (fun gs=>?_)
         ·rw [if_pos gs] at hD
          subst hD
          refine Cd.qac [(0,false),(1,false),(2,false),(3,false),(4,false)] rfl rfl ?_
          refine Jp.y 178 rfl (qaa rfl) rfl rfl Kp.true (Y.move rfl rfl) ?_
          refine Jp.y 179 rfl (qaa rfl) rfl rfl Kp.true (Y.move rfl rfl) ?_
          refine Jp.y 180 rfl (qaa rfl) rfl rfl Kp.true (Y.mul_ rfl rfl rfl (by exact qag (by omega) (by omega))) ?_
          refine Jp.slot 180 rfl (show _ = Value.int .i64 ((8 * sz : Nat) : Int) from congrArg (Value.int .i64) (by omega)) ?_
          refine Jp.call [] [] (refExtend_spec lv (8 * sz) hll) 181 rfl (qaa rfl) rfl rfl (Runs.fn rfl call30 rfl) (by decide) (by decide) rfl trivial ?_
          rintro v6 ρ6 L6 ⟨rfl,rfl,rfl⟩
          refine ⟨rfl,fun hle6=>⟨Kp.true,?_⟩⟩
          refine Jp.y 17 rfl (qaa rfl) rfl rfl Kp.true (Y.assign rfl rfl) ?_
          refine Jp.qae hK59 ?_
          refine Cd.seq fun K61 hK61=>?_
          refine Cd.qac [(0,false),(1,false),(2,false),(3,false),(4,false),(5,false),(6,false),(7,false),(8,false)] rfl rfl ?_
          refine Jp.y 182 rfl (qaa rfl) rfl rfl Kp.true (by exact Y.qai 3 rfl isAgg27 sizeOf27 rfl rfl (by first | rfl | assumption)) ?_
          refine Jp.y 183 rfl (qaa rfl) rfl rfl Kp.true (by exact Y.qad rfl rfl underlying40 rfl sizeOf3 (by decide) (show _ + 1 = _ from rfl)) ?_
          refine Jp.y 184 rfl (qaa rfl) rfl rfl Kp.true (by exact Y.qaq 6 rfl isAgg3 rfl rfl rfl) ?_
          refine Jp.y 185 rfl (qaa rfl) rfl rfl Kp.true (Y.move rfl rfl) ?_
          refine Jp.y 186 rfl (qaa rfl) rfl rfl Kp.true (Y.move rfl rfl) ?_
          refine Jp.call [] [] (hset rd (extP lv (8 * sz)) (nx) hI.rd) 187 rfl (qaa rfl) rfl rfl (Runs.fn rfl call27 rfl) (by decide) (by decide) rfl trivial ?_
          rintro v7 ρ7 L7 ⟨rfl,rfl,rfl⟩
          refine ⟨rfl,fun hle7=>⟨Kp.true,?_⟩⟩
          have hol:=qcm (s:=s) (x:=s.x.set rd (extP lv (8 * sz))) (to:=nx) (by rw [List.length_set]; exact hsl32)
          have hoo:=StP.one (qem s (s.x.set rd (extP lv (8 * sz))) (nx))
          refine Jp.y 188 rfl (qaa rfl) rfl rfl Kp.true (Y.struct [] [_,_,_] rfl rfl qav zeroValue37 rfl) ?_
          refine Jp.qaf 4 rfl (qaa rfl) rfl rfl sizeOf27 rfl rfl (by first | rfl | assumption) (by first | rfl | assumption) rfl (by first | rfl | assumption) (fun k _ _=>qam k) Kp.true ?_
          refine Jp.qaf 5 rfl (qaa rfl) rfl rfl sizeOf37 rfl rfl (by first | rfl | assumption) (by first | rfl | assumption) rfl (by first | rfl | assumption) (fun k _ _=>qam k) Kp.true ?_
          refine Jp.qae hK61 ?_
          refine Cd.ret [(0,_)] rfl (by exact qck 4 5 rfl rfl rfl isAgg27 sizeOf27 isAgg37 sizeOf37 rfl (by first | rfl | assumption) rfl (by first | rfl | assumption)) ⟨rfl,trivial⟩ ⟨rfl,by rfl,rfl⟩
         ·rw [if_neg (by rw [gs]; decide)] at hD
          subst hD
          refine Cd.qbi hK59 ?_
          refine Cd.seq fun K62 hK62=>?_
          refine Cd.qac [(0,false),(1,false),(2,false),(3,false),(4,false),(5,false),(6,false),(7,false),(8,false)] rfl rfl ?_
          refine Jp.y 182 rfl (qaa rfl) rfl rfl Kp.true (by exact Y.qai 3 rfl isAgg27 sizeOf27 rfl rfl (by first | rfl | assumption)) ?_
          refine Jp.y 183 rfl (qaa rfl) rfl rfl Kp.true (by exact Y.qad rfl rfl underlying40 rfl sizeOf3 (by decide) (show _ + 1 = _ from rfl)) ?_
          refine Jp.y 184 rfl (qaa rfl) rfl rfl Kp.true (by exact Y.qaq 6 rfl isAgg3 rfl rfl rfl) ?_
          refine Jp.y 185 rfl (qaa rfl) rfl rfl Kp.true (Y.move rfl rfl) ?_
          refine Jp.y 186 rfl (qaa rfl) rfl rfl Kp.true (Y.move rfl rfl) ?_
          refine Jp.call [] [] (hset rd (lv) (nx) hI.rd) 187 rfl (qaa rfl) rfl rfl (Runs.fn rfl call27 rfl) (by decide) (by decide) rfl trivial ?_
          rintro v7 ρ7 L7 ⟨rfl,rfl,rfl⟩
          refine ⟨rfl,fun hle7=>⟨Kp.true,?_⟩⟩
          have hol:=qcm (s:=s) (x:=s.x.set rd (lv)) (to:=nx) (by rw [List.length_set]; exact hsl32)
          have hoo:=StP.one (qem s (s.x.set rd (lv)) (nx))
          refine Jp.y 188 rfl (qaa rfl) rfl rfl Kp.true (Y.struct [] [_,_,_] rfl rfl qav zeroValue37 rfl) ?_
          refine Jp.qaf 4 rfl (qaa rfl) rfl rfl sizeOf27 rfl rfl (by first | rfl | assumption) (by first | rfl | assumption) rfl (by first | rfl | assumption) (fun k _ _=>qam k) Kp.true ?_
          refine Jp.qaf 5 rfl (qaa rfl) rfl rfl sizeOf37 rfl rfl (by first | rfl | assumption) (by first | rfl | assumption) rfl (by first | rfl | assumption) (fun k _ _=>qam k) Kp.true ?_
          refine Jp.qae hK62 ?_
          refine Cd.ret [(0,_)] rfl (by exact qck 4 5 rfl rfl rfl isAgg27 sizeOf27 isAgg37 sizeOf37 rfl (by first | rfl | assumption) rfl (by first | rfl | assumption)) ⟨rfl,trivial⟩ ⟨rfl,by rfl,rfl⟩
       ·skip
        try simp only [sG0] at g150
        refine Cd.seq fun K63 hK63=>?_
        refine Cd.qac [(0,false),(1,false),(2,false),(3,false)] rfl rfl ?_
        refine Jp.y 190 rfl (qaa rfl) rfl rfl Kp.true (by exact Y.qad rfl rfl underlying40 rfl sizeOf3 (by decide) (show _ + 0 = _ from rfl)) ?_
        refine Jp.y 191 rfl (qaa rfl) rfl rfl Kp.true (by exact Y.qaq 6 rfl isAgg3 rfl rfl rfl) ?_
        refine Jp.y 192 rfl (qaa rfl) rfl rfl Kp.true (Y.leq rfl rfl rfl) ?_
        refine Jp.y 189 rfl (qaa rfl) rfl rfl Kp.true (Y.assign rfl rfl) ?_
        refine Jp.qae hK63 ?_
        refine Cd.qal rfl (fun g189=>?_) (fun g189=>?_)
        ·skip
         try simp only [sG0] at g189
         refine Cd.seq fun K64 hK64=>?_
         have hst:=hst () (by omega)
         have hSz:=qgd op
         obtain ⟨szp,hsz⟩ : ∃ x,qbr op = x:=⟨_,rfl⟩
         rw [hsz] at hSz hst
         obtain ⟨sz,sg⟩:=szp
         dsimp only at hSz hst
         have hL:=refStore_spec b M ad sz x2 hlad l2
         obtain ⟨sp,hsp⟩ : ∃ x,qca M ad sz x2 = x:=⟨_,rfl⟩
         rw [hsp] at hL hst
         obtain ⟨sf,sM⟩:=sp
         dsimp only at hL hst
         rw [hst] at hD
         refine Cd.qac [(0,false),(1,false),(2,false),(3,false),(4,false),(5,false),(6,false),(7,false)] rfl rfl ?_
         refine Jp.y 194 rfl (qaa rfl) rfl rfl Kp.true (by exact Y.qad rfl rfl underlying40 rfl sizeOf3 (by decide) (show _ + 0 = _ from rfl)) ?_
         refine Jp.y 195 rfl (qaa rfl) rfl rfl Kp.true (by exact Y.qaq 6 rfl isAgg3 rfl rfl rfl) ?_
         refine Jp.call [] [] hSz 196 rfl (qaa rfl) rfl rfl (Runs.fn rfl call29 rfl) (by decide) (by decide) rfl trivial ?_
         rintro v4 ρ4 L4 ⟨rfl,rfl,rfl⟩
         refine ⟨rfl,fun hle4=>⟨Kp.true,?_⟩⟩
         refine Jp.y 193 rfl (qaa rfl) rfl rfl Kp.true (Y.move rfl rfl) ?_
         refine Jp.y 197 rfl (qaa rfl) rfl rfl Kp.true (Y.extract rfl rfl rfl) ?_
         refine Jp.y 198 rfl (qaa rfl) rfl rfl Kp.true (Y.extract rfl rfl rfl) ?_
         refine Jp.y 19 rfl (qaa rfl) rfl rfl Kp.true (Y.assign rfl rfl) ?_
         refine Jp.y 20 rfl (qaa rfl) rfl rfl Kp.true (Y.assign rfl rfl) ?_
         refine Jp.qae hK64 ?_
         refine Cd.seq fun K65 hK65=>?_
         refine Cd.qac [(0,false),(1,false),(2,false),(3,false),(4,false),(5,false),(6,false),(7,false)] rfl rfl ?_
         refine Jp.y 199 rfl (qaa rfl) rfl rfl Kp.true (Y.move rfl rfl) ?_
         refine Jp.y 200 rfl (qaa rfl) rfl rfl Kp.true (Y.move rfl rfl) ?_
         refine Jp.y 201 rfl (qaa rfl) rfl rfl Kp.true (Y.move rfl rfl) ?_
         refine Jp.y 202 rfl (qaa rfl) rfl rfl Kp.true (Y.qbx rfl rfl rfl (by rfl)) ?_
         refine Jp.y 203 rfl (qaa rfl) rfl rfl Kp.true (Y.move rfl rfl) ?_
         refine Jp.y 204 rfl (qaa rfl) rfl rfl Kp.true (Y.move rfl rfl) ?_
         refine Jp.slot 202 rfl (show _ = Value.int .u32 ((ad : Nat) : Int) from congrArg (Value.int .u32) (by rw [hiad,qbb])) ?_
         refine Jp.call [0] [0] hL 205 rfl (qaa rfl) rfl rfl (Runs.fn rfl call31 rfl) (by decide) (by decide) rfl trivial ?_
         rintro v5 ρ5 L5 ⟨rfl,rfl,rfl⟩
         refine ⟨rfl,fun hle5=>⟨Kp.true,?_⟩⟩
         refine Jp.y 21 rfl (qaa rfl) rfl rfl Kp.true (Y.assign rfl rfl) ?_
         refine Jp.qae hK65 ?_
         refine Cd.seq fun K66 hK66=>?_
         refine Cd.seq fun K67 hK67=>?_
         refine Cd.qac [(0,false),(1,false)] rfl rfl ?_
         refine Jp.y 206 rfl (qaa rfl) rfl rfl Kp.true (Y.move rfl rfl) ?_
         refine Jp.y 207 rfl (qaa rfl) rfl rfl Kp.true (Y.neq rfl rfl rfl) ?_
         refine Jp.qae hK67 ?_
         refine Cd.qal rfl (fun gk=>?_) (fun gk=>?_)
         ·rw [if_neg (show ¬ sf = 0 by simpa using gk)] at hD
          subst hD
          refine Cd.seq fun K68 hK68=>?_
          refine Cd.qac [(0,false),(1,false),(2,false),(3,false),(4,false),(5,false),(6,false),(7,false)] rfl rfl ?_
          refine Jp.y 208 rfl (qaa rfl) rfl rfl Kp.true (by exact Y.qai 3 rfl isAgg27 sizeOf27 rfl rfl (by first | rfl | assumption)) ?_
          refine Jp.y 209 rfl (qaa rfl) rfl rfl Kp.true (Y.move rfl rfl) ?_
          refine Jp.y 210 rfl (qaa rfl) rfl rfl Kp.true (Y.move rfl rfl) ?_
          refine Jp.y 211 rfl (qaa rfl) rfl rfl Kp.true (Y.qbx rfl rfl rfl (by rfl)) ?_
          refine Jp.y 212 rfl (qaa rfl) rfl rfl Kp.true (Y.move rfl rfl) ?_
          refine Jp.y 213 rfl (qaa rfl) rfl rfl Kp.true (Y.struct [(0,_),(1,_),(2,_)] [_,_,_] rfl rfl qav zeroValue37 rfl) ?_
          refine Jp.qaf 4 rfl (qaa rfl) rfl rfl sizeOf27 rfl rfl (by first | rfl | assumption) (by first | rfl | assumption) rfl (by first | rfl | assumption) (fun k _ _=>qam k) Kp.true ?_
          refine Jp.qaf 5 rfl (qaa rfl) rfl rfl sizeOf37 rfl rfl (by first | rfl | assumption) (by first | rfl | assumption) rfl (by first | rfl | assumption) (fun k _ _=>qam k) Kp.true ?_
          refine Jp.qae hK68 ?_
          refine Cd.ret [(0,_)] rfl (by exact qck 4 5 rfl rfl rfl isAgg27 sizeOf27 isAgg37 sizeOf37 rfl (by first | rfl | assumption) rfl (by first | rfl | assumption)) ⟨rfl,trivial⟩ ⟨rfl,by rw [qbb,← hiad] <;> rfl,rfl⟩
         ·rw [if_pos (show sf = 0 by simpa using gk)] at hD
          subst hD
          refine Cd.qbi hK66 ?_
          refine Cd.seq fun K69 hK69=>?_
          refine Cd.qac [(0,false),(1,false),(2,false),(3,false),(4,false),(5,false)] rfl rfl ?_
          refine Jp.y 214 rfl (qaa rfl) rfl rfl Kp.true (by exact Y.qai 3 rfl isAgg27 sizeOf27 rfl rfl (by first | rfl | assumption)) ?_
          refine Jp.y 215 rfl (qaa rfl) rfl rfl Kp.true (Y.move rfl rfl) ?_
          refine Jp.call [] [] (hset 0 (0) (nx) (by decide)) 216 rfl (qaa rfl) rfl rfl (Runs.fn rfl call27 rfl) (by decide) (by decide) rfl trivial ?_
          rintro v7 ρ7 L7 ⟨rfl,rfl,rfl⟩
          refine ⟨rfl,fun hle7=>⟨Kp.true,?_⟩⟩
          have hol:=qcm (s:=s) (x:=s.x.set 0 (0)) (to:=nx) (by rw [List.length_set]; exact hsl32)
          have hoo:=StP.one (qem s (s.x.set 0 (0)) (nx))
          refine Jp.y 217 rfl (qaa rfl) rfl rfl Kp.true (Y.struct [] [_,_,_] rfl rfl qav zeroValue37 rfl) ?_
          refine Jp.qaf 4 rfl (qaa rfl) rfl rfl sizeOf27 rfl rfl (by first | rfl | assumption) (by first | rfl | assumption) rfl (by first | rfl | assumption) (fun k _ _=>qam k) Kp.true ?_
          refine Jp.qaf 5 rfl (qaa rfl) rfl rfl sizeOf37 rfl rfl (by first | rfl | assumption) (by first | rfl | assumption) rfl (by first | rfl | assumption) (fun k _ _=>qam k) Kp.true ?_
          refine Jp.qae hK69 ?_
          refine Cd.ret [(0,_)] rfl (by exact qck 4 5 rfl rfl rfl isAgg27 sizeOf27 isAgg37 sizeOf37 rfl (by first | rfl | assumption) rfl (by first | rfl | assumption)) ⟨rfl,trivial⟩ ⟨rfl,by (rw [qgf]; first | done | rfl),rfl⟩
        ·skip
         try simp only [sG0] at g189
         refine Cd.seq fun K70 hK70=>?_
         refine Cd.qac [(0,false),(1,false),(2,false),(3,false)] rfl rfl ?_
         refine Jp.y 219 rfl (qaa rfl) rfl rfl Kp.true (by exact Y.qad rfl rfl underlying40 rfl sizeOf3 (by decide) (show _ + 0 = _ from rfl)) ?_
         refine Jp.y 220 rfl (qaa rfl) rfl rfl Kp.true (by exact Y.qaq 6 rfl isAgg3 rfl rfl rfl) ?_
         refine Jp.y 221 rfl (qaa rfl) rfl rfl Kp.true (Y.leq rfl rfl rfl) ?_
         refine Jp.y 218 rfl (qaa rfl) rfl rfl Kp.true (Y.assign rfl rfl) ?_
         refine Jp.qae hK70 ?_
         refine Cd.qal rfl (fun g218=>?_) (fun g218=>?_)
         ·skip
          try simp only [sG0] at g218
          refine Cd.seq fun K71 hK71=>?_
          have hk45 : 19 ≤ op ∧ op ≤ 45:=by omega
          obtain ⟨od,hode⟩ : ∃ x,opdP i s = x:=⟨_,rfl⟩
          rw [hop () hk45,hode] at hD
          subst hD
          simp only [hode] at hod
          refine Cd.qac [(0,false),(1,false),(2,false),(3,false),(4,false),(5,false),(6,false),(7,false)] rfl rfl ?_
          refine Jp.y 223 rfl (qaa rfl) rfl rfl Kp.true (by exact Y.qad rfl rfl underlying40 rfl sizeOf3 (by decide) (show _ + 0 = _ from rfl)) ?_
          refine Jp.y 224 rfl (qaa rfl) rfl rfl Kp.true (by exact Y.qaq 6 rfl isAgg3 rfl rfl rfl) ?_
          refine Jp.call [] [] (refKind_spec op hk45) 225 rfl (qaa rfl) rfl rfl (Runs.fn rfl call32 rfl) (by decide) (by decide) rfl trivial ?_
          rintro v4 ρ4 L4 ⟨rfl,rfl,rfl⟩
          refine ⟨rfl,fun hle4=>⟨Kp.true,?_⟩⟩
          refine Jp.y 222 rfl (qaa rfl) rfl rfl Kp.true (Y.move rfl rfl) ?_
          refine Jp.y 226 rfl (qaa rfl) rfl rfl Kp.true (Y.extract rfl rfl rfl) ?_
          refine Jp.y 227 rfl (qaa rfl) rfl rfl Kp.true (Y.extract rfl rfl rfl) ?_
          refine Jp.y 22 rfl (qaa rfl) rfl rfl Kp.true (Y.assign rfl rfl) ?_
          refine Jp.y 23 rfl (qaa rfl) rfl rfl Kp.true (Y.assign rfl rfl) ?_
          refine Jp.qae hK71 ?_
          refine Cd.seq fun K72 hK72=>?_
          refine Cd.seq fun K73 hK73=>?_
          refine Cd.qac [(0,false),(1,false),(2,false)] rfl rfl ?_
          refine Jp.y 228 rfl (qaa rfl) rfl rfl Kp.true (by exact Y.qad rfl rfl underlying40 rfl sizeOf3 (by decide) (show _ + 0 = _ from rfl)) ?_
          refine Jp.y 229 rfl (qaa rfl) rfl rfl Kp.true (by exact Y.qaq 6 rfl isAgg3 rfl rfl rfl) ?_
          refine Jp.y 230 rfl (qaa rfl) rfl rfl Kp.true (Y.leq rfl rfl rfl) ?_
          refine Jp.qae hK73 ?_
          refine Cd.qal rfl (fun gk=>?_) (fun gk=>?_)
          ·have hod : od = imw:=by rw [hod (),if_pos (by simp at gk; omega)]
           have hodl : od < 4294967296:=by rw [hod]; exact himl
           rw [← hod]
           refine Cd.qac [(0,false),(1,false)] rfl rfl ?_
           refine Jp.y 231 rfl (qaa rfl) rfl rfl Kp.true (Y.move rfl rfl) ?_
           refine Jp.y 11 rfl (qaa rfl) rfl rfl Kp.true (Y.assign rfl rfl) ?_
           refine Jp.qae hK72 ?_
           refine Cd.seq fun K74 hK74=>?_
           refine Cd.qac [(0,false),(1,false),(2,false),(3,false),(4,false),(5,false),(6,false),(7,false),(8,false)] rfl rfl ?_
           refine Jp.y 233 rfl (qaa rfl) rfl rfl Kp.true (Y.move rfl rfl) ?_
           refine Jp.y 234 rfl (qaa rfl) rfl rfl Kp.true (Y.move rfl rfl) ?_
           refine Jp.y 235 rfl (qaa rfl) rfl rfl Kp.true (Y.move rfl rfl) ?_
           refine Jp.call [] [] (refDo_spec (kindA op) x1 od (kindA_le op) l1 hodl) 236 rfl (qaa rfl) rfl rfl (Runs.fn rfl call33 rfl) (by decide) (by decide) rfl trivial ?_
           rintro v5 ρ5 L5 ⟨rfl,rfl,rfl⟩
           refine ⟨rfl,fun hle5=>⟨Kp.true,?_⟩⟩
           refine Jp.y 232 rfl (qaa rfl) rfl rfl Kp.true (Y.move rfl rfl) ?_
           refine Jp.y 237 rfl (qaa rfl) rfl rfl Kp.true (Y.extract rfl rfl rfl) ?_
           refine Jp.y 238 rfl (qaa rfl) rfl rfl Kp.true (Y.extract rfl rfl rfl) ?_
           refine Jp.y 24 rfl (qaa rfl) rfl rfl Kp.true (Y.assign rfl rfl) ?_
           refine Jp.y 25 rfl (qaa rfl) rfl rfl Kp.true (Y.assign rfl rfl) ?_
           refine Jp.qae hK74 ?_
           refine Cd.seq fun K75 hK75=>?_
           refine Cd.qac [(0,false),(1,false),(2,false),(3,false),(4,false),(5,false),(6,false),(7,false),(8,false)] rfl rfl ?_
           refine Jp.y 239 rfl (qaa rfl) rfl rfl Kp.true (by exact Y.qai 3 rfl isAgg27 sizeOf27 rfl rfl (by first | rfl | assumption)) ?_
           refine Jp.y 240 rfl (qaa rfl) rfl rfl Kp.true (by exact Y.qad rfl rfl underlying40 rfl sizeOf3 (by decide) (show _ + 1 = _ from rfl)) ?_
           refine Jp.y 241 rfl (qaa rfl) rfl rfl Kp.true (by exact Y.qaq 6 rfl isAgg3 rfl rfl rfl) ?_
           refine Jp.y 242 rfl (qaa rfl) rfl rfl Kp.true (Y.move rfl rfl) ?_
           refine Jp.y 243 rfl (qaa rfl) rfl rfl Kp.true (Y.move rfl rfl) ?_
           refine Jp.call [] [] (hset rd (doP (kindA op) x1 od) (nx) hI.rd) 244 rfl (qaa rfl) rfl rfl (Runs.fn rfl call27 rfl) (by decide) (by decide) rfl trivial ?_
           rintro v7 ρ7 L7 ⟨rfl,rfl,rfl⟩
           refine ⟨rfl,fun hle7=>⟨Kp.true,?_⟩⟩
           have hol:=qcm (s:=s) (x:=s.x.set rd (doP (kindA op) x1 od)) (to:=nx) (by rw [List.length_set]; exact hsl32)
           have hoo:=StP.one (qem s (s.x.set rd (doP (kindA op) x1 od)) (nx))
           refine Jp.y 245 rfl (qaa rfl) rfl rfl Kp.true (Y.struct [] [_,_,_] rfl rfl qav zeroValue37 rfl) ?_
           refine Jp.qaf 4 rfl (qaa rfl) rfl rfl sizeOf27 rfl rfl (by first | rfl | assumption) (by first | rfl | assumption) rfl (by first | rfl | assumption) (fun k _ _=>qam k) Kp.true ?_
           refine Jp.qaf 5 rfl (qaa rfl) rfl rfl sizeOf37 rfl rfl (by first | rfl | assumption) (by first | rfl | assumption) rfl (by first | rfl | assumption) (fun k _ _=>qam k) Kp.true ?_
           refine Jp.qae hK75 ?_
           refine Cd.ret [(0,_)] rfl (by exact qck 4 5 rfl rfl rfl isAgg27 sizeOf27 isAgg37 sizeOf37 rfl (by first | rfl | assumption) rfl (by first | rfl | assumption)) ⟨rfl,trivial⟩ ⟨rfl,by rfl,rfl⟩
          ·have hod : od = x2:=by rw [hod (),if_neg (by simp at gk; omega)]
           have hodl : od < 4294967296:=by rw [hod]; exact l2
           rw [← hod]
           refine Cd.qbi hK72 ?_
           refine Cd.seq fun K76 hK76=>?_
           refine Cd.qac [(0,false),(1,false),(2,false),(3,false),(4,false),(5,false),(6,false),(7,false),(8,false)] rfl rfl ?_
           refine Jp.y 233 rfl (qaa rfl) rfl rfl Kp.true (Y.move rfl rfl) ?_
           refine Jp.y 234 rfl (qaa rfl) rfl rfl Kp.true (Y.move rfl rfl) ?_
           refine Jp.y 235 rfl (qaa rfl) rfl rfl Kp.true (Y.move rfl rfl) ?_
           refine Jp.call [] [] (refDo_spec (kindA op) x1 od (kindA_le op) l1 hodl) 236 rfl (qaa rfl) rfl rfl (Runs.fn rfl call33 rfl) (by decide) (by decide) rfl trivial ?_
           rintro v5 ρ5 L5 ⟨rfl,rfl,rfl⟩
           refine ⟨rfl,fun hle5=>⟨Kp.true,?_⟩⟩
           refine Jp.y 232 rfl (qaa rfl) rfl rfl Kp.true (Y.move rfl rfl) ?_
           refine Jp.y 237 rfl (qaa rfl) rfl rfl Kp.true (Y.extract rfl rfl rfl) ?_
           refine Jp.y 238 rfl (qaa rfl) rfl rfl Kp.true (Y.extract rfl rfl rfl) ?_
           refine Jp.y 24 rfl (qaa rfl) rfl rfl Kp.true (Y.assign rfl rfl) ?_
           refine Jp.y 25 rfl (qaa rfl) rfl rfl Kp.true (Y.assign rfl rfl) ?_
           refine Jp.qae hK76 ?_
           refine Cd.seq fun K77 hK77=>?_
           refine Cd.qac [(0,false),(1,false),(2,false),(3,false),(4,false),(5,false),(6,false),(7,false),(8,false)] rfl rfl ?_
           refine Jp.y 239 rfl (qaa rfl) rfl rfl Kp.true (by exact Y.qai 3 rfl isAgg27 sizeOf27 rfl rfl (by first | rfl | assumption)) ?_
           refine Jp.y 240 rfl (qaa rfl) rfl rfl Kp.true (by exact Y.qad rfl rfl underlying40 rfl sizeOf3 (by decide) (show _ + 1 = _ from rfl)) ?_
           refine Jp.y 241 rfl (qaa rfl) rfl rfl Kp.true (by exact Y.qaq 6 rfl isAgg3 rfl rfl rfl) ?_
           refine Jp.y 242 rfl (qaa rfl) rfl rfl Kp.true (Y.move rfl rfl) ?_
           refine Jp.y 243 rfl (qaa rfl) rfl rfl Kp.true (Y.move rfl rfl) ?_
           refine Jp.call [] [] (hset rd (doP (kindA op) x1 od) (nx) hI.rd) 244 rfl (qaa rfl) rfl rfl (Runs.fn rfl call27 rfl) (by decide) (by decide) rfl trivial ?_
           rintro v7 ρ7 L7 ⟨rfl,rfl,rfl⟩
           refine ⟨rfl,fun hle7=>⟨Kp.true,?_⟩⟩
           have hol:=qcm (s:=s) (x:=s.x.set rd (doP (kindA op) x1 od)) (to:=nx) (by rw [List.length_set]; exact hsl32)
           have hoo:=StP.one (qem s (s.x.set rd (doP (kindA op) x1 od)) (nx))
           refine Jp.y 245 rfl (qaa rfl) rfl rfl Kp.true (Y.struct [] [_,_,_] rfl rfl qav zeroValue37 rfl) ?_
           refine Jp.qaf 4 rfl (qaa rfl) rfl rfl sizeOf27 rfl rfl (by first | rfl | assumption) (by first | rfl | assumption) rfl (by first | rfl | assumption) (fun k _ _=>qam k) Kp.true ?_
           refine Jp.qaf 5 rfl (qaa rfl) rfl rfl sizeOf37 rfl rfl (by first | rfl | assumption) (by first | rfl | assumption) rfl (by first | rfl | assumption) (fun k _ _=>qam k) Kp.true ?_
           refine Jp.qae hK77 ?_
           refine Cd.ret [(0,_)] rfl (by exact qck 4 5 rfl rfl rfl isAgg27 sizeOf27 isAgg37 sizeOf37 rfl (by first | rfl | assumption) rfl (by first | rfl | assumption)) ⟨rfl,trivial⟩ ⟨rfl,by rfl,rfl⟩
         ·skip
          try simp only [sG0] at g218
          refine Cd.seq fun K78 hK78=>?_
          refine Cd.qac [(0,false),(1,false),(2,false),(3,false)] rfl rfl ?_
          refine Jp.y 247 rfl (qaa rfl) rfl rfl Kp.true (by exact Y.qad rfl rfl underlying40 rfl sizeOf3 (by decide) (show _ + 0 = _ from rfl)) ?_
          refine Jp.y 248 rfl (qaa rfl) rfl rfl Kp.true (by exact Y.qaq 6 rfl isAgg3 rfl rfl rfl) ?_
          refine Jp.y 249 rfl (qaa rfl) rfl rfl Kp.true (Y.eql rfl rfl rfl) ?_
          refine Jp.y 246 rfl (qaa rfl) rfl rfl Kp.true (Y.assign rfl rfl) ?_
          refine Jp.qae hK78 ?_
          refine Cd.qal rfl (fun g246=>?_) (fun g246=>?_)
          ·skip
           try simp only [sG0] at g246
           refine Cd.seq fun K79 hK79=>?_
           rw [h48 () (by omega)] at hD
           subst hD
           refine Cd.drawn [(3,_)] ⟨rfl,trivial⟩ [(0,true),(1,true),(2,true),(3,true),(4,false),(5,false)] follows (by kernel_rfl) (fun hrl=>?_)
           refine Jp.q 250 rfl (qaa rfl) rfl rfl (by exact Y.qai 3 rfl isAgg27 sizeOf27 rfl rfl (by first | rfl | assumption)) ?_
           refine Jp.q 251 rfl (qaa rfl) rfl rfl (by exact Y.qad rfl rfl underlying27 rfl sizeOf24 (by decide) (show _ + 32 = _ from rfl)) ?_
           refine Jp.q 252 rfl (qaa rfl) rfl rfl (by exact Y.qbs 3 rfl isAgg24 rfl rfl (HasC.pt (StP.cPc hs))) ?_
           refine Jp.q 253 rfl (qaa rfl) rfl rfl (Y.struct [(0,_),(1,_)] [_,_,_] rfl rfl qav zeroValue37 rfl) ?_
           refine Jp.qaf 4 rfl (qaa rfl) rfl rfl sizeOf27 rfl rfl (by first | rfl | assumption) (by first | rfl | assumption) rfl (by first | rfl | assumption) (fun k _ _=>qam k) (Kp.st ⟨rfl,trivial⟩) ?_
           refine Jp.qaf 5 rfl (qaa rfl) rfl rfl sizeOf37 rfl rfl (by first | rfl | assumption) (by first | rfl | assumption) rfl (by first | rfl | assumption) (fun k _ _=>qam k) Kp.last ?_
           refine Jp.qae hK79 ?_
           refine Cd.ret [(0,_)] rfl (by exact qck 4 5 rfl rfl rfl isAgg27 sizeOf27 isAgg37 sizeOf37 rfl (by first | rfl | assumption) rfl (by first | rfl | assumption)) ⟨rfl,trivial⟩ ⟨rfl,rfl,rfl⟩
          ·skip
           try simp only [sG0] at g246
           refine Cd.seq fun K81 hK81=>?_
           refine Cd.qac [(0,false),(1,false),(2,false),(3,false)] rfl rfl ?_
           refine Jp.y 255 rfl (qaa rfl) rfl rfl Kp.true (by exact Y.qad rfl rfl underlying40 rfl sizeOf3 (by decide) (show _ + 0 = _ from rfl)) ?_
           refine Jp.y 256 rfl (qaa rfl) rfl rfl Kp.true (by exact Y.qaq 6 rfl isAgg3 rfl rfl rfl) ?_
           refine Jp.y 257 rfl (qaa rfl) rfl rfl Kp.true (Y.eql rfl rfl rfl) ?_
           refine Jp.y 254 rfl (qaa rfl) rfl rfl Kp.true (Y.assign rfl rfl) ?_
           refine Jp.qae hK81 ?_
           refine Cd.qal rfl (fun g254=>?_) (fun g254=>?_)
           ·skip
            try simp only [sG0] at g254
            refine Cd.seq fun K82 hK82=>?_
            rw [h49 () (by omega)] at hD
            subst hD
            refine Cd.drawn [(3,_)] ⟨rfl,trivial⟩ [(0,true),(1,true),(2,true),(3,true),(4,false),(5,false)] follows (by kernel_rfl) (fun hrl=>?_)
            refine Jp.q 258 rfl (qaa rfl) rfl rfl (by exact Y.qai 3 rfl isAgg27 sizeOf27 rfl rfl (by first | rfl | assumption)) ?_
            refine Jp.q 259 rfl (qaa rfl) rfl rfl (by exact Y.qad rfl rfl underlying27 rfl sizeOf24 (by decide) (show _ + 32 = _ from rfl)) ?_
            refine Jp.q 260 rfl (qaa rfl) rfl rfl (by exact Y.qbs 3 rfl isAgg24 rfl rfl (HasC.pt (StP.cPc hs))) ?_
            refine Jp.q 261 rfl (qaa rfl) rfl rfl (Y.struct [(0,_),(1,_)] [_,_,_] rfl rfl qav zeroValue37 rfl) ?_
            refine Jp.qaf 4 rfl (qaa rfl) rfl rfl sizeOf27 rfl rfl (by first | rfl | assumption) (by first | rfl | assumption) rfl (by first | rfl | assumption) (fun k _ _=>qam k) (Kp.st ⟨rfl,trivial⟩) ?_
            refine Jp.qaf 5 rfl (qaa rfl) rfl rfl sizeOf37 rfl rfl (by first | rfl | assumption) (by first | rfl | assumption) rfl (by first | rfl | assumption) (fun k _ _=>qam k) Kp.last ?_
            refine Jp.qae hK82 ?_
            refine Cd.ret [(0,_)] rfl (by exact qck 4 5 rfl rfl rfl isAgg27 sizeOf27 isAgg37 sizeOf37 rfl (by first | rfl | assumption) rfl (by first | rfl | assumption)) ⟨rfl,trivial⟩ ⟨rfl,rfl,rfl⟩
           ·skip
            try simp only [sG0] at g254
            refine Cd.over rfl hK11 ?_
            refine Cd.seq fun K84 hK84=>?_
            rw [hel () (by omega)] at hD
            subst hD
            refine Cd.qac [(0,false),(1,false),(2,false),(3,false),(4,false),(5,false)] rfl rfl ?_
            refine Jp.y 262 rfl (qaa rfl) rfl rfl Kp.true (by exact Y.qai 3 rfl isAgg27 sizeOf27 rfl rfl (by first | rfl | assumption)) ?_
            refine Jp.y 263 rfl (qaa rfl) rfl rfl Kp.true (Y.move rfl rfl) ?_
            refine Jp.call [] [] (hset 0 (0) (nx) (by decide)) 264 rfl (qaa rfl) rfl rfl (Runs.fn rfl call27 rfl) (by decide) (by decide) rfl trivial ?_
            rintro v7 ρ7 L7 ⟨rfl,rfl,rfl⟩
            refine ⟨rfl,fun hle7=>⟨Kp.true,?_⟩⟩
            have hol:=qcm (s:=s) (x:=s.x.set 0 (0)) (to:=nx) (by rw [List.length_set]; exact hsl32)
            have hoo:=StP.one (qem s (s.x.set 0 (0)) (nx))
            refine Jp.y 265 rfl (qaa rfl) rfl rfl Kp.true (Y.struct [] [_,_,_] rfl rfl qav zeroValue37 rfl) ?_
            refine Jp.qaf 4 rfl (qaa rfl) rfl rfl sizeOf27 rfl rfl (by first | rfl | assumption) (by first | rfl | assumption) rfl (by first | rfl | assumption) (fun k _ _=>qam k) Kp.true ?_
            refine Jp.qaf 5 rfl (qaa rfl) rfl rfl sizeOf37 rfl rfl (by first | rfl | assumption) (by first | rfl | assumption) rfl (by first | rfl | assumption) (fun k _ _=>qam k) Kp.true ?_
            refine Jp.qae hK84 ?_
            refine Cd.ret [(0,_)] rfl (by exact qck 4 5 rfl rfl rfl isAgg27 sizeOf27 isAgg37 sizeOf37 rfl (by first | rfl | assumption) rfl (by first | rfl | assumption)) ⟨rfl,trivial⟩ ⟨rfl,by (rw [qgf]; first | done | rfl),rfl⟩
end Go.Proofs.YthjelpbaljapiaaGreat

namespace Go.Proofs.YthjelpbaljapiaaGreat
open Go
theorem loadM_pg {M M' : MemG} (h : M.pages = M'.pages) (a : Nat) (n need : Int) : qbv M a n need = qbv M' a n need:=by unfold qbv qbk; rw [h]
theorem fetchP_pg {M M' : MemG} (h : M.pages = M'.pages) (a : Nat) : qbw M a = qbw M' a:=by unfold qbw; rw [loadM_pg h]
theorem storeM_pg {M M' : MemG} (h : M.pages = M'.pages) (a : Nat) (n : Int) (v : Nat) : (qca M a n v).1 = (qca M' a n v).1 ∧ (qca M a n v).2.pages = (qca M' a n v).2.pages:=by
 have hl : qbk M a n 2 = qbk M' a n 2:=by unfold qbk; rw [h]
 unfold qca
 rw [hl,h]
 split
 ·refine ⟨rfl,?_⟩
  cases qbc M'.pages (qan a) with
  | none=>exact h
  | some p=>rfl
 ·exact ⟨rfl,h⟩
theorem valueP_pg {M M' : MemG} (h : M.pages = M'.pages) (i : InsP) (s : StP) : qce M i s = qce M' i s:=by unfold qce; rw [loadM_pg h]
theorem doInsP_pg {M M' : MemG} (h : M.pages = M'.pages) (i : InsP) (s : StP) : (qbn M i s).1 = (qbn M' i s).1 ∧ (qbn M i s).2.1 = (qbn M' i s).2.1 ∧ (qbn M i s).2.2.pages = (qbn M' i s).2.2.pages:=by
 have hs:=storeM_pg h (addrP i s) (qbr i.op).1 (regP s i.r2)
 unfold qbn
 rw [valueP_pg h,hs.1]
 repeat' split
 all_goals first | exact ⟨rfl,rfl,h⟩ | exact ⟨rfl,rfl,hs.2⟩
theorem stepP_pg {M M' : MemG} (h : M.pages = M'.pages) (s : StP) : (qdc M s).1 = (qdc M' s).1 ∧ (qdc M s).2.1 = (qdc M' s).2.1 ∧ (qdc M s).2.2.pages = (qdc M' s).2.2.pages:=by
 unfold qdc
 rw [fetchP_pg h]
 split
 ·exact doInsP_pg h ..
 ·exact ⟨rfl,rfl,h⟩
end Go.Proofs.YthjelpbaljapiaaGreat

namespace Go.Proofs.YthjelpbaljapiaaGreat
open _root_.Go.Proofs.Tryz
open Go
theorem vo_move {o : Oper} {x : Operand} (h : o.op = .move x) : qfg o := ⟨fun c e => (by rw [h] at e; cases e), fun ev P w nx w' hr => by
 simp only [execOp, h, Sem.run_pure] at hr; injection hr with h1 _; exact .inl ⟨_, h1.symm⟩⟩
theorem vo_assign {o : Oper} {x : Operand} (h : o.op = .assign x) : qfg o := ⟨fun c e => (by rw [h] at e; cases e), fun ev P w nx w' hr => by
 simp only [execOp, h, Sem.run_pure] at hr; injection hr with h1 _; exact .inl ⟨_, h1.symm⟩⟩
theorem vo_load {o : Oper} {t : TypeId} {x : Operand} (h : o.op = .load t x) : qfg o := ⟨fun c e => (by rw [h] at e; cases e), fun ev P w nx w' hr => by
 simp only [execOp, h] at hr; exact .inl (run_val hr)⟩
theorem vo_store {o : Oper} {t : TypeId} {x y : Operand} (h : o.op = .store t x y) : qfg o := ⟨fun c e => (by rw [h] at e; cases e), fun ev P w nx w' hr => by
 simp only [execOp, h] at hr; exact .inr (run_then hr)⟩
theorem vo_buildSlice {o : Oper} {t : TypeId} {n : Nat} {ps : Array (Nat × Operand)} (h : o.op = .buildSlice t n ps) : qfg o := ⟨fun c e => (by rw [h] at e; cases e), fun ev P w nx w' hr => by
 simp only [execOp, h] at hr; exact .inl (run_val hr)⟩
theorem vo_append {o : Oper} {xs : Array Operand} {ts : Array TypeId} (h : o.op = .call { callee := .builtin .append, args := xs, argTypes := ts }) : qfg o := ⟨fun c e => (by rw [h] at e; cases e), fun ev P w nx w' hr => by
 simp only [execOp,h,resolve,Sem.run_bind,Sem.run_pure,Result.andThen_ok,invoke,builtin] at hr
 cases hx : (Builtin.append_ ts o.type (Array.map ev xs)).run P w with
 | ok v w1=>rw [hx] at hr; injection hr with h1 _; exact .inl ⟨v,h1.symm⟩
 | halt s w1 => rw [hx] at hr; cases hr⟩
def qef (A B : Code) (fn : FuncId) (tmps : Array Value) (D : Nat) (st : LoopState) : Loop:={ state:=st,pending:=none,fn:=fn,tmps:=tmps,params:=#[7],assign:=A,body:=B,defers:=D }
def ApJ (A B : Code) (b l D : Nat) (fn : FuncId) (tmps : Array Value) (seen : List Value) : qaz:=Ex fun x : Option Addr × Nat =>
 Sep (Pt b (.cells #[.slice x.1 seen.length x.2] 22)) (Sep (OwnS 24 1 x.1 seen.length x.2 seen) (Sep (Pt l (.loop (qef A B fn tmps D .ready))) (Pt D (.deferred (some [])))))
def qfe : Code → Option (Code × Code)
 | .rangeFunc _ _ A B=>some (A,B)
 | .seq a b=>(qfe a).or (qfe b)
 | .block _ c=>qfe c
 | _=>none
noncomputable def apA : Code:=((Tryz.f85.body.bind qfe).map (·.1)).getD .skip
noncomputable def apB : Code:=((Tryz.f85.body.bind qfe).map (·.2)).getD .skip
theorem St.putObj {cx : Cx} {ρ : Hp} {L : Own} {w : World} (hs : St cx ρ L w) {j b : Nat} {o o' : Obj} (hj : look L j = some (Pt b o)) : St cx ρ ((j,Pt b o') :: L) (w.putObj b o'):=by
 have hb:=hs.pt hj
 have hlt:=qcr hb
 refine hs.turn hj (by simp [World.putObj,hlt]) (fun p hp=>by simp [World.putObj,Array.getElem?_setIfInBounds,Ne.symm hp]) (by simp [World.putObj]) rfl rfl rfl
theorem apYields {b l D : Nat} {fn : FuncId} {tmps : Array Value} (hsz : tmps.size = 13) (h2 : tmps[2]? = some (.pointer (some ⟨b,0,none⟩))) :
  Yields Tryz.prog l (ApJ apA apB b l D fn tmps) (fun s=>s.length ≤ 4096 ∧ ∀ v ∈ s,∃ x : Int,v = .int .u32 x):=by
 intro seen k hok w M ρ hs
 obtain ⟨hok1,hok2⟩:=hok
 rw [List.length_append,List.length_singleton] at hok1
 obtain ⟨x,rfl⟩:=hok2 k (by simp)
 obtain ⟨⟨A,c⟩,hs0⟩:=hs.ex' (j:=0) (by rw [qah,if_pos rfl]; rfl)
 have hs1:=hs0.part (j:=0) (k:=1) (by decide) (by rw [qah,if_pos rfl])
 have hs2:=hs1.part (j:=1) (k:=2) (by decide) (by rw [qah,if_neg (by decide),qah,if_pos rfl])
 have hs3:=hs2.part (j:=2) (k:=3) (by decide) (by rw [qah,if_neg (by decide),qah,if_pos rfl])
 dsimp only at hs3
 have hsA : St ⟨w,M,ρ⟩ ρ [(0,Pt b (.cells #[.slice A seen.length c] 22)),(1,OwnS 24 1 A seen.length c seen),(2,Pt l (.loop (qef apA apB fn tmps D .ready))),(3,Pt D (.deferred (some [])))] w:=hs3.sub ⟨rfl,rfl,rfl,rfl,trivial⟩
 have hr:=hsA.pt (i:=2) rfl
 refine ⟨_,hr,rfl,fun m=>roundIn_of_wpIn trivial ?_⟩
 have ht : ((qef apA apB fn tmps D .ready).params.zip #[.int .u32 x]).foldl (fun tmps (t,a)=>tmps.setIfInBounds t a) (qef apA apB fn tmps D .ready).tmps = tmps.setIfInBounds 7 (.int .u32 x):=by simp [qef]
 rw [ht]
 have ha : At 13 [(2,.pointer (some ⟨b,0,none⟩)),(7,.int .u32 x)] { tmps:=tmps.setIfInBounds 7 (.int .u32 x),defers:=[] }:=by
  refine ⟨rfl,by simp [hsz],fun t v e=>?_⟩
  simp only [qah] at e
  split at e
  ·rename_i h; subst h; injection e with e; subst e
   show (tmps.setIfInBounds 7 (.int .u32 x))[2]? = _
   rw [Array.getElem?_setIfInBounds_ne (by decide)]; exact h2
  ·split at e
   ·rename_i h; subst h; injection e with e; subst e
    show (tmps.setIfInBounds 7 (.int .u32 x))[7]? = _
    rw [Array.getElem?_setIfInBounds]; simp [hsz]
   ·simp [look] at e
 have hF : ∀ f,(Fence.wide.inRound l).fn f:=fun _=>trivial
 refine qfy (Q:=fun e a w'=>match e with | .normal=>At 13 [(5,.int .u32 x),(2,.pointer (some ⟨b,0,none⟩)),(7,.int .u32 x)] a ∧ St ⟨w,M,ρ⟩ ρ [(0,Pt b (.cells #[.slice A seen.length c] 22)),(1,OwnS 24 1 A seen.length c seen),(2,Pt l (.loop (qef apA apB fn tmps D .ready))),(3,Pt D (.deferred (some [])))] w' | _=>False)
  hF ?_ [(0,false)] rfl rfl ?_ ha hsA ?_
 ·intro o ho
  rcases List.mem_singleton.1 ho with rfl
  exact vo_assign rfl
 ·refine Jp.y 5 rfl (qaa rfl) rfl rfl Kp.true (Y.assign rfl rfl) ?_
  exact fun a w' ha' hs'=>⟨ha',hs'⟩
 rintro a1 w1 ⟨ha1,hsB⟩
 have hd1 : ({ a1 with defers:=[] } : Act) = a1:=by cases a1; have:=ha1.defers; simp at this; subst this; rfl
 rw [hd1]
 have hrB:=hsB.pt (i:=2) rfl
 refine ⟨_,run_beginRound hrB rfl,?_⟩
 have hsC:=hsB.putObj (j:=2) (o':=.loop { qef apA apB fn tmps D .ready with state:=.busy }) rfl
 refine wpIn_block ?_
 rw [← hd1]
 refine qfy (Q:=fun e a w'=>match e with | .normal=>∃ A' c' ρ',At 13 [(2,.pointer (some ⟨b,0,none⟩))] a ∧ St ⟨w,M,ρ⟩ ρ' [(0,Pt b (.cells #[.slice A' (seen.length + 1) c'] 22)),(1,OwnS 24 1 A' (seen.length + 1) c' (seen ++ [.int .u32 x])),(2,Pt l (.loop { qef apA apB fn tmps D .ready with state:=.busy })),(3,Pt D (.deferred (some [])))] w' | _=>False)
  hF ?_ [(0,false),(1,false),(2,false),(3,false),(4,false)] rfl rfl ?_ ha1 hsC ?_
 ·intro o ho
  simp only [List.mem_cons,List.not_mem_nil,or_false] at ho
  rcases ho with rfl | rfl | rfl | rfl | rfl
  ·exact vo_load rfl
  ·exact vo_move rfl
  ·exact vo_buildSlice rfl
  ·exact vo_append rfl
  ·exact vo_store rfl
 ·refine Jp.y 8 rfl (qaa rfl) rfl rfl Kp.true (Y.qaq 0 rfl isAgg22 rfl rfl rfl) ?_
  refine Jp.y 9 rfl (qaa rfl) rfl rfl Kp.true (Y.move rfl rfl) ?_
  refine Jp.lit 10 4 [(0,_)] [_] rfl (qaa rfl) rfl rfl rfl rfl underlying22 sizeOf24 zeroValue24 rfl rfl rfl rfl rfl fun b4=>⟨Kp.true,?_⟩
  refine Jp.append 11 1 rfl (qaa rfl) rfl rfl rfl underlying22 underlying22 (.inl ⟨_,rfl⟩) sizeOf24 Tryz.typeInfo24 zeroValue24 rfl (by decide) rfl rfl rfl (Src.own 4 rfl) rfl (seen.length + 1) (seen ++ [.int .u32 x]) rfl rfl (by simp only [Tryz.t24]; omega) fun A' c'=>⟨Kp.true,?_⟩
  refine Jp.store 0 rfl (qaa rfl) rfl rfl sizeOf22 rfl rfl rfl rfl rfl rfl Kp.true ?_
  exact fun a w' ha' hs'=>⟨A',c',ρ,ha'.sub ⟨rfl,trivial⟩,hs'.sub ⟨rfl,rfl,rfl,rfl,trivial⟩⟩
 rintro a2 w2 ⟨A',c',ρ',ha2,hsD⟩
 have hrD:=hsD.pt (i:=2) rfl
 refine ⟨_,_,run_endRound none hrD,ρ',rfl,?_⟩
 have hsE:=hsD.putObj (j:=2) (o':=.loop (qef apA apB fn tmps D .ready)) rfl
 have g1:=hsE.glue (j:=2) (k:=3) (by decide) rfl rfl
 have g2:=g1.glue (j:=1) (k:=2) (by decide) rfl rfl
 have g3:=g2.glue (j:=0) (k:=1) (by decide) rfl rfl
 have g4 := g3.imp (i := 0) (A' := ApJ apA apB b l D fn tmps (seen ++ [.int .u32 x])) rfl fun h hh => ⟨(A', c'), by
  dsimp only
  rw [List.length_append, List.length_singleton]; exact hh⟩
 exact g4.sub ⟨rfl,trivial⟩
end Go.Proofs.YthjelpbaljapiaaGreat
set_option linter.unusedVariables false
set_option linter.unusedSimpArgs false
set_option maxRecDepth 100000
namespace Go.Proofs.YthjelpbaljapiaaGreat
open _root_.Go.Proofs.Tryz
open Go
def keysV (m : qdp) : List Value:=m.map fun y=>Value.int .u32 y.1
theorem keys1_spec {l : Nat} {J : List Value → qaz} {ok : List Value → Prop} (hY : Yields Tryz.prog l J ok) (cb pb : Nat) (pm : qdp) (hok0 : ∀ s r,(s ++ r).Perm (keysV pm) → ok s) :
  Spec Tryz.prog 69 #[.func (.yield l) #[] #[],.pointer (some ⟨cb,0,none⟩)] (fun _=>True) [(0,Pt cb (.cells #[.map (some pb)] 84)),(1,qdq .u32 pb pm),(2,J [])]
  (fun ρ ρ' v L=>v = .tuple #[] ∧ ∃ s,s.Perm (keysV pm) ∧ L = [(0,Pt cb (.cells #[.map (some pb)] 84)),(1,qdq .u32 pb pm),(2,J s)]):=by
 refine Spec.of 14 Tryz.func69 rfl Tryz.ntmps69 [(0,_),(1,_)] rfl rfl ?_
 intro cx ρ hr h0
 refine Cd.seq fun K1 hK1=>?_
 refine Cd.qac [(0,false),(1,false)] rfl rfl ?_
 refine Jp.y 4 rfl (qaa rfl) rfl rfl Kp.true (Y.qaq 0 rfl isAgg84 rfl rfl rfl) ?_
 first | refine Jp.range 5 1 50 (by decide) rfl (qaa rfl) rfl rfl rfl rfl underlying84 rfl fun r1=>⟨Kp.true,?_⟩
 refine Jp.qae hK1 ?_
 refine Cd.block ?_
 refine Cd.qdw (G:=qdp × List Value × Option (Int × Value) × Hp) (fun g=>(g.2.1 ++ keysV g.1).Perm (keysV pm)) (fun g=>g.1.length) (fun g=>g.2.2.2) (fun g=>[]) [(0,_),(5,_)] (fun g=>[(1,RangeO .u32 pb r1 pm g.1 g.2.2.1),(2,J g.2.1)]) [(0,_)] ⟨pm,[],none,ρ⟩ (List.Perm.refl _) rfl trivial ⟨rfl,rfl,trivial⟩ ⟨rfl,rfl,trivial⟩ ⟨rfl,trivial⟩ (fun g KLa hok hLa=>?_)
 obtain ⟨left,s,cur,ρg⟩:=g
 dsimp only at hok ⊢
 refine Cd.seq fun K2 hK2=>?_
 refine Cd.qac [(0,false),(1,false)] rfl rfl ?_
 refine Jp.next 6 1 rfl (qaa rfl) rfl rfl (fun _=>rfl) rfl rfl (fun hn=>⟨Kp.true,?_⟩) (fun q y hq=>⟨Kp.true,?_⟩)
 ·skip
  refine Jp.y 7 rfl (qaa rfl) rfl rfl Kp.true (Y.extract rfl rfl rfl) ?_
  refine Jp.qae hK2 ?_
  refine Cd.seq fun K3 hK3=>?_
  refine Cd.qbg rfl ?_
  subst hn
  refine Cd.imp (i:=1) rfl RangeO.map ?_
  refine Cdx.end [(0,_),(1,_),(2,_)] rfl (res0 rfl) ⟨rfl,rfl,rfl,trivial⟩ ⟨rfl,s,by simpa [keysV] using hok,rfl⟩
 ·have hpe:=perm_erase hq
  have hql:=(List.getElem?_eq_some_iff.1 hq).1
  have hel : (left.eraseIdx q).length < left.length:=by rw [List.length_eraseIdx]; split <;> omega
  have hp2 : (s ++ [Value.int .u32 y.1] ++ keysV (left.eraseIdx q)).Perm (keysV pm):=by
   rw [List.append_assoc]
   exact (List.Perm.append_left s ((hpe.map fun (z : Int × Value)=>Value.int .u32 z.1).symm)).trans hok
  refine Jp.y 7 rfl (qaa rfl) rfl rfl Kp.true (Y.extract rfl rfl rfl) ?_
  refine Jp.qae hK2 ?_
  refine Cd.seq fun K4 hK4=>?_
  refine Cd.qcw rfl ?_
  refine Cd.qbi hK4 ?_
  refine Cd.block ?_
  refine Cd.seq fun K5 hK5=>?_
  refine Cd.qac [(0,false),(1,false),(2,false)] rfl rfl ?_
  refine Jp.y 8 rfl (qaa rfl) rfl rfl Kp.true (by first | exact Y.entry 1 rfl rfl rfl) ?_
  refine Jp.y 9 rfl (qaa rfl) rfl rfl Kp.true (Y.extract rfl rfl rfl) ?_
  refine Jp.y 3 rfl (qaa rfl) rfl rfl Kp.true (Y.assign rfl rfl) ?_
  refine Jp.qae hK5 ?_
  refine Cd.seq fun K6 hK6=>?_
  refine Cd.yield 2 rfl rfl rfl rfl rfl rfl (by decide) rfl hY (hok0 _ _ hp2) (fun ρY hleY=>?_)
  refine Jp.qae hK6 ?_
  refine Cd.qbg rfl ?_
  refine CdQ.again rfl hLa ⟨left.eraseIdx q,s ++ [Value.int .u32 y.1],some y,ρY⟩ hp2 hel rfl ⟨rfl,rfl,trivial⟩ ⟨rfl,rfl,rfl,trivial⟩
end Go.Proofs.YthjelpbaljapiaaGreat
set_option linter.unusedVariables false
set_option linter.unusedSimpArgs false
set_option maxRecDepth 100000
namespace Go.Proofs.YthjelpbaljapiaaGreat
open _root_.Go.Proofs.Tryz
open Go
def capO (cb pb : Nat) : qaz:=Pt cb (.cells #[.map (some pb)] 84)
def kfn (cb : Nat) : Value:=.func (.func 69) #[] #[.pointer (some ⟨cb,0,none⟩)]
theorem okKeys {pm : qdp} (h : pm.length ≤ 4096) (s r : List Value) (hp : (s ++ r).Perm (keysV pm)) : s.length ≤ 4096 ∧ ∀ v ∈ s,∃ x : Int,v = .int .u32 x:=by
 have h1:=hp.length_eq
 rw [List.length_append,keysV,List.length_map] at h1
 refine ⟨by omega,fun v hv=>?_⟩
 have:=hp.mem_iff.1 (List.mem_append_left r hv)
 obtain ⟨y,_,rfl⟩:=List.mem_map.1 this
 exact ⟨_,rfl⟩
theorem appendSeq_spec (cb pb : Nat) (pm : qdp) (hlen : pm.length ≤ 4096) : Spec Tryz.prog 85 #[.slice none 0 0,kfn cb] (fun _=>True) [(0,capO cb pb),(1,qdq .u32 pb pm)]
  (fun ρ ρ' v L=>∃ s A c,s.Perm (keysV pm) ∧ v = .slice A s.length c ∧ L = [(0,capO cb pb),(1,qdq .u32 pb pm),(2,OwnS 24 1 A s.length c s)]):=by
 refine Spec.ofM 13 Tryz.func85 rfl Tryz.ntmps85 [(0,_),(1,_)] rfl rfl ?_
 intro cx ρ hr h0
 refine Cd.seq fun K1 hK1=>?_
 refine Cd.qac [(0,false),(1,false)] rfl rfl ?_
 refine Jp.box 5 2 rfl (qaa rfl) rfl rfl rfl rfl fun b5=>⟨Kp.true,?_⟩
 refine Jp.y 4 rfl (qaa rfl) rfl rfl Kp.true (Y.assign rfl rfl) ?_
 refine Jp.qae hK1 ?_
 refine Cd.seq fun K2 hK2=>?_
 refine Cd.seq fun K3 hK3=>?_
 refine Cd.qac [(0,false)] rfl rfl ?_
 refine Jp.y 6 rfl (qaa rfl) rfl rfl Kp.true (Y.move rfl rfl) ?_
 refine Jp.qae hK3 ?_
 refine Cd.block ?_
 refine Cd.make 2 (A:=OwnS 24 1 none 0 0 []) (OwnS.nil _ _ _) ?_
 intro a w ha hs
 have hw1 : St cx ρ [(0,capO cb pb),(1,qdq .u32 pb pm),(5,Pt b5 (.cells #[.slice none 0 0] 22)),(2,OwnS 24 1 none 0 0 [])] w:=hs.sub ⟨rfl,rfl,rfl,rfl,trivial⟩
 have ht2 : a.tmps[2]? = some (.pointer (some ⟨b5,0,none⟩)):=ha.slot 2 _ rfl
 have ht6 : a.tmps[6]? = some (kfn cb):=ha.slot 6 _ rfl
 refine (wpIn_wide (n:=1)).1 (wpIn_rangeFunc fun fn _=>?_)
 obtain ⟨W,hW⟩ : ∃ W,(w.alloc (.deferred (some []))).alloc (.loop { state:=.ready,pending:=none,fn,tmps:=a.tmps,params:=#[7],assign:=apA,body:=apB,defers:=w.heap.size }) = W:=⟨_,rfl⟩
 refine ⟨w.heap.size + 1, [{ target := .collected w.heap.size, args := #[] }], W, { target := .fn (.func 69) #[.pointer (some ⟨cb, 0, none⟩)], args := #[.func (.yield (w.heap.size + 1)) #[] #[]] }, W, 69,
  #[.func (.yield (w.heap.size + 1)) #[] #[], .pointer (some ⟨cb, 0, none⟩)], W, ?_, ?_, ?_, ?_, fun h => (by cases h), ?_⟩
 ·rw [← hW]; exact run_enterLoop_outer _ _ _ _ _
 ·simp [resolve,rangeCall,ht6,kfn,Deferred.ofValue,go_sem]
 ·intro f' _; trivial
 ·simp [invoke,go_sem,call69]
 have hsz : (w.alloc (.deferred (some []))).heap.size = w.heap.size + 1:=World.size_alloc _ _
 have s1 : St cx ρ ((7,Pt w.heap.size (.deferred (some []))) :: [(0,capO cb pb),(1,qdq .u32 pb pm),(5,Pt b5 (.cells #[.slice none 0 0] 22)),(2,OwnS 24 1 none 0 0 [])]) (w.alloc (.deferred (some []))):=hw1.alloc 7 _
 have s2:=s1.alloc 8 (.loop { state:=.ready,pending:=none,fn,tmps:=a.tmps,params:=#[7],assign:=apA,body:=apB,defers:=w.heap.size })
 rw [hsz] at s2
 have s3 : St cx ρ ((8,Pt (w.heap.size + 1) (.loop (qef apA apB fn a.tmps w.heap.size .ready))) :: (7,Pt w.heap.size (.deferred (some []))) :: [(0,capO cb pb),(1,qdq .u32 pb pm),(5,Pt b5 (.cells #[.slice none 0 0] 22)),(2,OwnS 24 1 none 0 0 [])]) ((w.alloc (.deferred (some []))).alloc (.loop { state:=.ready,pending:=none,fn,tmps:=a.tmps,params:=#[7],assign:=apA,body:=apB,defers:=w.heap.size })):=s2
 rw [hW] at s3
 have g1:=s3.glue (j:=8) (k:=7) (by decide) rfl rfl
 have g2:=g1.glue (j:=2) (k:=8) (by decide) rfl rfl
 have g3:=g2.glue (j:=5) (k:=2) (by decide) rfl rfl
 have g4:=g3.imp (i:=5) (A':=ApJ apA apB b5 (w.heap.size + 1) w.heap.size fn a.tmps []) rfl fun h hh=>⟨(none,0),hh⟩
 have g5 : St cx ρ [(0,capO cb pb),(1,qdq .u32 pb pm),(5,ApJ apA apB b5 (w.heap.size + 1) w.heap.size fn a.tmps [])] W:=g4.sub ⟨rfl,rfl,rfl,trivial⟩
 obtain ⟨M',k1,k2⟩:=g5.call [0,1,5] [0,1,5] (by decide) (by decide)
 have hY:=apYields (b:=b5) (l:=w.heap.size + 1) (D:=w.heap.size) (fn:=fn) ha.size ht2
 refine callsIn_wide.2 ((keys1_spec hY cb pb pm (fun s r hp=>okKeys hlen s r hp) W M' ρ trivial k1).mono ?_)
 rintro e w2 ⟨v,ρ',Lout,rfl,⟨rfl,s,hperm,rfl⟩,hst⟩
 have hst2:=k2 w2 ρ' _ (by simp) hst
 have q0 : St cx ρ' [(5,ApJ apA apB b5 (w.heap.size + 1) w.heap.size fn a.tmps s),(0,capO cb pb),(1,qdq .u32 pb pm)] w2:=hst2.sub ⟨rfl,rfl,rfl,trivial⟩
 obtain ⟨⟨A,c⟩,q1⟩:=q0.ex' (j:=5) (by rw [qah,if_pos rfl]; rfl)
 have q2:=q1.part (j:=5) (k:=2) (by decide) (by rw [qah,if_pos rfl])
 have q3:=q2.part (j:=2) (k:=8) (by decide) (by rw [qah,if_neg (by decide),qah,if_pos rfl])
 have q4:=q3.part (j:=8) (k:=7) (by decide) (by rw [qah,if_neg (by decide),qah,if_pos rfl])
 dsimp only at q4
 have q5 : St cx ρ' [(5,Pt b5 (.cells #[.slice A s.length c] 22)),(2,OwnS 24 1 A s.length c s),(8,Pt (w.heap.size + 1) (.loop (qef apA apB fn a.tmps w.heap.size .ready))),(7,Pt w.heap.size (.deferred (some []))),(0,capO cb pb),(1,qdq .u32 pb pm)] w2:=q4.sub ⟨rfl,rfl,rfl,rfl,rfl,rfl,trivial⟩
 have hl:=q5.pt (i:=8) rfl
 have hend:=run_endLoop (P:=Tryz.prog) hl (by simp [qef])
 have q6:=q5.putObj (j:=8) (o':=.loop { qef apA apB fn a.tmps w.heap.size .ready with state:=.exhausted }) rfl
 refine ⟨none,_,hend,?_⟩
 show K2 _ _
 refine hK2 _ _ ?_
 refine (wpIn_wide (n:=1)).1 (wpIn_seq ?_)
 have hd : a.defers = []:=ha.defers
 rw [hd,List.append_nil]
 refine qfy (D:=[{ target:=.collected w.heap.size,args:=#[] }]) (Q:=fun e a w'=>match e with | .normal=>At 13 [(4,.slice A s.length c)] a ∧ St cx ρ' [(7,Pt w.heap.size (.deferred (some []))),(2,OwnS 24 1 A s.length c s),(0,capO cb pb),(1,qdq .u32 pb pm)] w' | _=>False)
  (fun _=>trivial) ?_ [(0,false),(1,false)] rfl rfl ?_ ha q6 ?_
 ·intro o ho
  simp only [List.mem_cons,List.not_mem_nil,or_false] at ho
  rcases ho with rfl | rfl
  ·exact vo_load rfl
  ·exact vo_assign rfl
 ·refine Jp.y 12 rfl (qaa rfl) rfl rfl Kp.true (Y.qaq 5 rfl isAgg22 rfl rfl rfl) ?_
  refine Jp.y 4 rfl (qaa rfl) rfl rfl Kp.true (Y.assign rfl rfl) ?_
  exact fun a w' ha' hs'=>⟨ha'.sub ⟨rfl,trivial⟩,hs'.sub ⟨rfl,rfl,rfl,rfl,trivial⟩⟩
 rintro a3 w3 ⟨ha3,hs3⟩
 have hD:=hs3.pt (i:=7) rfl
 have hs4:=hs3.putObj (j:=7) (o':=.deferred none) rfl
 show Code.ret.wpIn Fence.wide 1 Tryz.prog _ _ _
 refine wpIn_ret ?_
 refine ⟨by simp,.inl ⟨_,_,rfl,run_takeDeferred hD,?_⟩⟩
 have h4:=ha3.slot 4 _ rfl
 refine ⟨.slice A s.length c,?_,.slice A s.length c,ρ',_,rfl,⟨s,A,c,hperm,rfl,rfl⟩,?_⟩
 ·simp [results,Tryz.f85,h4]
 ·exact hs4.sub ⟨rfl,rfl,rfl,trivial⟩
theorem collect_spec (cb pb : Nat) (pm : qdp) (hlen : pm.length ≤ 4096) : Spec Tryz.prog 67 #[kfn cb] (fun _=>True) [(0,capO cb pb),(1,qdq .u32 pb pm)]
  (fun ρ ρ' v L=>∃ s A c,s.Perm (keysV pm) ∧ v = .slice A s.length c ∧ L = [(0,capO cb pb),(1,qdq .u32 pb pm),(2,OwnS 24 1 A s.length c s)]):=by
 refine Spec.of 5 Tryz.func67 rfl Tryz.ntmps67 [(0,_)] rfl rfl ?_
 intro cx ρ hr h0
 refine Cd.seq fun K4 hK4=>?_
 refine Cd.qac [(0,false)] rfl rfl ?_
 refine Jp.y 2 rfl (qaa rfl) rfl rfl Kp.true (Y.assign rfl rfl) ?_
 refine Jp.qae hK4 ?_
 refine Cd.seq fun K5 hK5=>?_
 refine Cd.qac [(0,false),(1,false),(2,false)] rfl rfl ?_
 refine Jp.y 3 rfl (qaa rfl) rfl rfl Kp.true (Y.move rfl rfl) ?_
 refine Jp.call [0,1] [0,1,2] (appendSeq_spec cb pb pm hlen) 4 rfl (qaa rfl) rfl rfl (Runs.fn rfl call85 rfl) (by decide) (by decide) rfl trivial ?_
 rintro v1 ρ1 L1 ⟨s,A,c,hs,rfl,rfl⟩
 refine ⟨rfl,fun hle1=>⟨Kp.true,?_⟩⟩
 refine Jp.y 2 rfl (qaa rfl) rfl rfl Kp.true (Y.assign rfl rfl) ?_
 refine Jp.qae hK5 ?_
 refine Cd.ret [(0,_),(1,_),(2,_)] rfl (qba rfl rfl) ⟨rfl,rfl,rfl,trivial⟩ ⟨s,A,c,hs,rfl,rfl⟩
theorem keys_spec (pb : Nat) : Spec Tryz.prog 39 #[.map (some pb)] (fun _=>True) [] (fun ρ ρ' v L=>ρ' = ρ ∧ ∃ cb,v = kfn cb ∧ L = [(0,capO cb pb)]):=by
 refine Spec.of 4 Tryz.func39 rfl Tryz.ntmps39 [(0,_)] rfl rfl ?_
 intro cx ρ hr h0
 refine Cd.seq fun K6 hK6=>?_
 refine Cd.qac [(0,false),(1,false)] rfl rfl ?_
 refine Jp.box 0 1 rfl (qaa rfl) rfl rfl rfl rfl fun b0=>⟨Kp.true,?_⟩
 refine Jp.y 2 rfl (qaa rfl) rfl rfl Kp.true (Y.assign rfl rfl) ?_
 refine Jp.qae hK6 ?_
 refine Cd.seq fun K7 hK7=>?_
 refine Cd.qac [(0,false),(1,false)] rfl rfl ?_
 refine Jp.y 3 rfl (qaa rfl) rfl rfl Kp.true (Y.makeFunc rfl rfl) ?_
 refine Jp.y 2 rfl (qaa rfl) rfl rfl Kp.true (Y.assign rfl rfl) ?_
 refine Jp.qae hK7 ?_
 refine Cd.ret [(0,_)] rfl (qba rfl rfl) ⟨rfl,trivial⟩ ⟨rfl,b0,rfl,rfl⟩
end Go.Proofs.YthjelpbaljapiaaGreat
set_option linter.unusedVariables false
set_option linter.unusedSimpArgs false
set_option maxRecDepth 100000
namespace Go.Proofs.YthjelpbaljapiaaGreat
open _root_.Go.Proofs.Tryz
open Go
def ltN (x y : Nat) : Bool:=decide (x < y)
theorem isNaN_spec (x : Int) : Spec Tryz.prog 108 #[.int .u32 x] (fun _=>True) [] (fun ρ ρ' v L=>ρ' = ρ ∧ v = .bool false ∧ L = []):=by
 refine Spec.of 6 Tryz.func108 rfl Tryz.ntmps108 [(0,_)] rfl rfl ?_
 intro cx ρ hr h0
 refine Cd.seq fun K1 hK1=>?_
 refine Cd.qac [(0,false)] rfl rfl ?_
 refine Jp.y 2 rfl (qaa rfl) rfl rfl Kp.true (Y.assign rfl rfl) ?_
 refine Jp.qae hK1 ?_
 refine Cd.seq fun K2 hK2=>?_
 refine Cd.qac [(0,false),(1,false),(2,false),(3,false)] rfl rfl ?_
 refine Jp.y 3 rfl (qaa rfl) rfl rfl Kp.true (Y.move rfl rfl) ?_
 refine Jp.y 4 rfl (qaa rfl) rfl rfl Kp.true (Y.move rfl rfl) ?_
 refine Jp.y 5 rfl (qaa rfl) rfl rfl Kp.true (Y.neq rfl rfl rfl) ?_
 refine Jp.y 2 rfl (qaa rfl) rfl rfl Kp.true (Y.assign rfl rfl) ?_
 refine Jp.qae hK2 ?_
 refine Cd.ret [] rfl (qba rfl rfl) trivial ⟨rfl,by simp,rfl⟩
theorem less_spec (x y : Nat) : Spec Tryz.prog 97 #[.int .u32 x,.int .u32 y] (fun _=>True) [] (fun ρ ρ' v L=>ρ' = ρ ∧ v = .bool (ltN x y) ∧ L = []):=by
 refine Spec.of 17 Tryz.func97 rfl Tryz.ntmps97 [(0,_),(1,_)] rfl rfl ?_
 intro cx ρ hr h0
 refine Cd.seq fun K3 hK3=>?_
 refine Cd.qac [(0,false)] rfl rfl ?_
 refine Jp.y 4 rfl (qaa rfl) rfl rfl Kp.true (Y.assign rfl rfl) ?_
 refine Jp.qae hK3 ?_
 refine Cd.seq fun K4 hK4=>?_
 refine Cd.qac [(0,false),(1,false),(2,false),(3,false),(4,false),(5,false),(6,false),(7,false),(8,false),(9,false),(10,false),(11,false),(12,false)] rfl rfl ?_
 refine Jp.y 5 rfl (qaa rfl) rfl rfl Kp.true (Y.move rfl rfl) ?_
 refine Jp.call [] [] (isNaN_spec x) 6 rfl (qaa rfl) rfl rfl (Runs.fn rfl call108 rfl) (by decide) (by decide) rfl trivial ?_
 rintro v1 ρ1 L1 ⟨rfl,rfl,rfl⟩
 refine ⟨rfl,fun hle1=>⟨Kp.true,?_⟩⟩
 refine Jp.y 7 rfl (qaa rfl) rfl rfl Kp.true (Y.move rfl rfl) ?_
 refine Jp.split 7 rfl (fun g7=>?_) (fun g7=>?_)
 ·skip
  cases g7
 try simp only [sG0] at g7
 refine Jp.qak 8 rfl (qab rfl rfl rfl rfl) rfl rfl Kp.true ?_
 refine Jp.qak 9 rfl (qab rfl rfl rfl rfl) rfl rfl Kp.true ?_
 refine Jp.qak 10 rfl (qab rfl rfl rfl rfl) rfl rfl Kp.true ?_
 refine Jp.y 11 rfl (qaa rfl) rfl rfl Kp.true (Y.qao rfl rfl rfl) ?_
 refine Jp.y 12 rfl (qaa rfl) rfl rfl Kp.true (Y.move rfl rfl) ?_
 refine Jp.y 13 rfl (qab rfl rfl rfl rfl) rfl rfl Kp.true (Y.move rfl rfl) ?_
 refine Jp.y 14 rfl (qab rfl rfl rfl rfl) rfl rfl Kp.true (Y.move rfl rfl) ?_
 refine Jp.y 15 rfl (qab rfl rfl rfl rfl) rfl rfl Kp.true (Y.lss rfl rfl rfl) ?_
 refine Jp.y 16 rfl (qaa rfl) rfl rfl Kp.true (Y.qao rfl rfl rfl) ?_
 refine Jp.y 4 rfl (qaa rfl) rfl rfl Kp.true (Y.assign rfl rfl) ?_
 refine Jp.qae hK4 ?_
 refine Cd.ret [] rfl (qba rfl rfl) trivial ⟨rfl,congrArg Value.bool (decide_eq_decide.2 (by omega)),rfl⟩
theorem natsV_get (k : IntKind) {l : List Nat} {q x : Nat} (h : l[q]? = some x) : (qbp k l)[q]? = some (.int k x):=by rw [qbp,List.getElem?_map,h]; rfl
theorem natsV_set (k : IntKind) (l : List Nat) (q x : Nat) : (qbp k l).set q (.int k x) = qbp k (l.set q x):=by rw [qbp,qbp,List.map_set]
theorem swp_list (d : Array Nat) {i j : Nat} (hi : i < d.size) (hj : j < d.size) : (Go.Sort.swp d i j).toList = (d.toList.set i d[j]).set j d[i]:=by
 simp [Go.Sort.swp,hi,hj]
theorem swp_size (d : Array Nat) (i j : Nat) : (Go.Sort.swp d i j).size = d.size:=by simp [Go.Sort.swp]
def rowO (A : Option Addr) (n c : Nat) (d : Array Nat) : qaz:=OwnS 24 1 A n c (qbp .u32 d.toList)
theorem insSort_spec (A : Option Addr) (n c : Nat) (d0 : Array Nat) (a e : Nat) (hd : d0.size = n) (hae : a ≤ e) (hen : e ≤ n) (hn : n ≤ 4096) : Spec Tryz.prog 91 #[.slice A n c,.int .i64 a,.int .i64 e] (fun _=>True) [(0,rowO A n c d0)]
  (fun ρ ρ' v L=>ρ' = ρ ∧ v = .tuple #[] ∧ L = [(0,rowO A n c (Go.Sort.insertionSort ltN d0 a e))]):=by
 refine Spec.of 49 Tryz.func91 rfl Tryz.ntmps91 [(0,_),(1,_),(2,_)] rfl rfl ?_
 intro cx ρ hr h0
 refine Cd.seq fun K5 hK5=>?_
 refine Cd.qac [(0,false),(1,false),(2,false)] rfl rfl ?_
 refine Jp.y 8 rfl (qaa rfl) rfl rfl Kp.true (Y.move rfl rfl) ?_
 refine Jp.y 9 rfl (qaa rfl) rfl rfl Kp.true (Y.qbx rfl rfl rfl (by exact qag (by omega) (by omega))) ?_
 refine Jp.y 6 rfl (qaa rfl) rfl rfl Kp.true (Y.assign rfl rfl) ?_
 refine Jp.qae hK5 ?_
 refine Cd.block ?_
 refine Cd.qdw (G:=Nat × Array Nat) (fun g=>Go.Sort.insOuter ltN a e g.1 g.2 = Go.Sort.insertionSort ltN d0 a e ∧ a + 1 ≤ g.1 ∧ g.1 ≤ e + 1 ∧ g.2.size = n) (fun g=>e + 1 - g.1) (fun _=>_) (fun g=>[(6,.int .i64 g.1)]) [(0,_),(1,_),(2,_)] (fun g=>[(0,rowO A n c g.2)]) [] ⟨a + 1,d0⟩ ⟨rfl,Nat.le_refl _,(by show a + 1 ≤ e + 1; omega),hd⟩ rfl ⟨rfl,trivial⟩ ⟨rfl,rfl,rfl,trivial⟩ ⟨rfl,trivial⟩ trivial (fun g KLa hok hLa=>?_)
 obtain ⟨i,d⟩:=g
 obtain ⟨ok1,ok2,ok3,ok4⟩:=hok
 dsimp only at ok1 ok2 ok3 ok4 ⊢
 refine Cd.seq fun K6 hK6=>?_
 refine Cd.seq fun K7 hK7=>?_
 refine Cd.qac [(0,false),(1,false),(2,false)] rfl rfl ?_
 refine Jp.y 10 rfl (qaa rfl) rfl rfl Kp.true (Y.move rfl rfl) ?_
 refine Jp.y 11 rfl (qaa rfl) rfl rfl Kp.true (Y.move rfl rfl) ?_
 refine Jp.y 12 rfl (qaa rfl) rfl rfl Kp.true (Y.lss rfl rfl rfl) ?_
 refine Jp.qae hK7 ?_
 refine Cd.qal rfl (fun ga=>?_) (fun ga=>?_)
 ·simp only [decide_eq_true_eq] at ga
  have hie : i < e:=by omega
  rw [Go.Sort.insOuter,if_pos hie] at ok1
  obtain ⟨d2,hd2⟩ : ∃ d2,d2 = Go.Sort.insInner ltN a i d:=⟨_,rfl⟩
  rw [← hd2] at ok1
  refine Cd.qbi hK6 ?_
  refine Cd.seq fun K8 hK8=>?_
  refine Cd.block ?_
  refine Cd.seq fun K9 hK9=>?_
  refine Cd.qac [(0,false),(1,false)] rfl rfl ?_
  refine Jp.y 15 rfl (qaa rfl) rfl rfl Kp.true (Y.move rfl rfl) ?_
  refine Jp.y 7 rfl (qaa rfl) rfl rfl Kp.true (Y.assign rfl rfl) ?_
  refine Jp.qae hK9 ?_
  refine Cd.block ?_
  refine Cd.qdw (G:=Nat × Array Nat) (fun g=>Go.Sort.insInner ltN a g.1 g.2 = d2 ∧ a ≤ g.1 ∧ g.1 ≤ i ∧ g.2.size = n) (fun g=>g.1) (fun _=>_) (fun g=>[(7,.int .i64 g.1)]) [(0,_),(1,_),(2,_),(6,_)] (fun g=>[(0,rowO A n c g.2)]) [] ⟨i,d⟩ ⟨hd2.symm,(by show a ≤ i; omega),Nat.le_refl _,ok4⟩ rfl ⟨rfl,trivial⟩ ⟨rfl,rfl,rfl,rfl,trivial⟩ ⟨rfl,trivial⟩ trivial (fun g KLb hok hLb=>?_)
  obtain ⟨j,dj⟩:=g
  obtain ⟨oj1,oj2,oj3,oj4⟩:=hok
  dsimp only at oj1 oj2 oj3 oj4 ⊢
  refine Cd.seq fun K10 hK10=>?_
  refine Cd.seq fun K11 hK11=>?_
  refine Cd.drawn [(0,_)] ⟨rfl,trivial⟩ [(0,true),(1,true),(2,true),(3,true),(4,true),(5,true),(6,true),(7,true),(8,true),(9,true),(10,true),(11,true),(12,true),(13,false),(14,true)] follows (by kernel_rfl) (fun hrl=>?_)
  refine Jp.q 16 rfl (qaa rfl) rfl rfl (Y.move rfl rfl) ?_
  refine Jp.q 17 rfl (qaa rfl) rfl rfl (Y.move rfl rfl) ?_
  refine Jp.q 18 rfl (qaa rfl) rfl rfl (Y.gtr rfl rfl rfl) ?_
  refine Jp.q 19 rfl (qaa rfl) rfl rfl (Y.move rfl rfl) ?_
  refine Jp.splitF 19 rfl (fun g19=>?_) (fun g19=>?_)
  ·skip
   try simp only [sG0] at g19
   have e1 : Go.Sort.insInner ltN a j dj = dj:=by
    cases j with
    | zero=>rfl
    | succ j=>rw [Go.Sort.insInner,if_neg (by simp; omega)]
   rw [e1] at oj1
   subst oj1
   refine Jp.qdt 20 rfl (qab rfl rfl rfl rfl) rfl rfl ?_
   refine Jp.qdt 21 rfl (qab rfl rfl rfl rfl) rfl rfl ?_
   refine Jp.qdt 22 rfl (qab rfl rfl rfl rfl) rfl rfl ?_
   refine Jp.qdt 23 rfl (qab rfl rfl rfl rfl) rfl rfl ?_
   refine Jp.qdt 24 rfl (qab rfl rfl rfl rfl) rfl rfl ?_
   refine Jp.qdt 25 rfl (qab rfl rfl rfl rfl) rfl rfl ?_
   refine Jp.qdt 26 rfl (qab rfl rfl rfl rfl) rfl rfl ?_
   refine Jp.qdt 27 rfl (qab rfl rfl rfl rfl) rfl rfl ?_
   refine Jp.qdt 28 rfl (qab rfl rfl rfl rfl) rfl rfl ?_
   refine Jp.qak 29 rfl (qab rfl rfl rfl rfl) rfl rfl (Kp.st ⟨rfl,trivial⟩) ?_
   refine Jp.q 30 rfl (qaa rfl) rfl rfl (Y.qao rfl rfl rfl) ?_
   refine Jp.qae hK11 ?_
   refine Cd.qbg rfl ?_
   refine Cd.exit rfl hK8 ?_
   refine Cd.qac [(0,false),(1,false),(2,false)] rfl rfl ?_
   refine Jp.y 13 rfl (qaa rfl) rfl rfl Kp.true (Y.move rfl rfl) ?_
   refine Jp.y 14 rfl (qaa rfl) rfl rfl Kp.true (Y.qbx rfl rfl rfl (by exact qag (by omega) (by omega))) ?_
   refine Jp.y 6 rfl (qaa rfl) rfl rfl Kp.true (Y.assign rfl rfl) ?_
   refine Jp.again hLa ⟨i + 1,dj⟩ ⟨ok1,by show a + 1 ≤ i + 1; omega,by show i + 1 ≤ e + 1; omega,oj4⟩ (by show e + 1 - (i + 1) < e + 1 - i; omega) rfl ⟨rfl,rfl,rfl,rfl,trivial⟩ ⟨rfl,trivial⟩
  try simp only [sG0] at g19
  refine Jp.q 20 rfl (qab rfl rfl rfl rfl) rfl rfl (Y.move rfl rfl) ?_
  obtain ⟨q,rfl⟩ : ∃ q,j = q + 1:=⟨j - 1,by omega⟩
  have hq1 : q + 1 < dj.size:=by omega
  have hq0 : q < dj.size:=by omega
  have v1 : dj.toList[q + 1]? = some dj[q + 1]:=by simp
  have v0 : dj.toList[q]? = some dj[q]:=by simp
  refine Jp.ownAt 0 rfl (show 0 < n by omega) ?_
  rintro b rfl
  have c1 : HasC (rowO (some ⟨b,0,none⟩) n c dj) _ _:=OwnS.hasC (natsV_get .u32 v1)
  have c0 : HasC (rowO (some ⟨b,0,none⟩) n c dj) _ _:=OwnS.hasC (natsV_get .u32 v0)
  have hin : Go.Sort.insInner ltN a (q + 1) dj = if (decide (q + 1 > a) && ltN dj[q + 1] dj[q]) = true then Go.Sort.insInner ltN a q (Go.Sort.swp dj (q + 1) q) else dj:=by
   rw [Go.Sort.insInner]
   simp [hq1,hq0]
  have hqa : decide (q + 1 > a) = true:=decide_eq_true (by omega)
  rw [hqa,Bool.true_and] at hin
  refine Jp.q 21 rfl (qab rfl rfl rfl rfl) rfl rfl (Y.move rfl rfl) ?_
  refine Jp.q 22 rfl (qab rfl rfl rfl rfl) rfl rfl (Y.qar (q:=q + 1) rfl rfl rfl underlying22 sizeOf24 (by omega) (by omega) (by omega)) ?_
  refine Jp.q 23 rfl (qab rfl rfl rfl rfl) rfl rfl (by exact Y.qbs 0 rfl isAgg24 rfl rfl c1) ?_
  refine Jp.q 24 rfl (qab rfl rfl rfl rfl) rfl rfl (Y.move rfl rfl) ?_
  refine Jp.q 25 rfl (qab rfl rfl rfl rfl) rfl rfl (Y.move rfl rfl) ?_
  refine Jp.q 26 rfl (qab rfl rfl rfl rfl) rfl rfl (Y.qdo rfl rfl rfl (by exact qag (by omega) (by omega))) ?_
  refine Jp.q 27 rfl (qab rfl rfl rfl rfl) rfl rfl (Y.qar (q:=q) rfl rfl rfl underlying22 sizeOf24 (by omega) (by omega) (by omega)) ?_
  refine Jp.q 28 rfl (qab rfl rfl rfl rfl) rfl rfl (by exact Y.qbs 0 rfl isAgg24 rfl rfl c0) ?_
  refine Jp.call [] [] (less_spec dj[q + 1] dj[q]) 29 rfl (qab rfl rfl rfl rfl) rfl rfl (Runs.fn rfl call97 rfl) (by decide) (by decide) rfl trivial ?_
  rintro v1 ρ1 L1 ⟨rfl,rfl,rfl⟩
  refine ⟨rfl,fun hle1=>⟨(Kp.st ⟨rfl,trivial⟩),?_⟩⟩
  refine Jp.q 30 rfl (qaa rfl) rfl rfl (Y.qat rfl rfl rfl) ?_
  refine Jp.qae hK11 ?_
  refine Cd.qal rfl (fun gb=>?_) (fun gb=>?_)
  ·rw [gb,if_pos rfl] at hin
   refine Cd.qbi hK10 ?_
   refine Cd.seq fun K13 hK13=>?_
   refine Cd.block ?_
   refine Cd.drawn3 [(0,_)] ⟨rfl,trivial⟩ [(2,true),(3,true),(4,true)] [(0,true),(1,true),(5,true),(6,true),(7,true),(8,true),(9,true),(10,true),(11,true),(12,true),(13,true),(14,true)] 15 [(16,true),(17,false)] follows (by kernel_rfl) (fun hrl=>?_)
   refine Jp2.q 35 rfl (qaa rfl) rfl rfl (fun _=>(Y.move rfl rfl)) ?_
   refine Jp2.q 36 rfl (qaa rfl) rfl rfl (fun _=>(Y.move rfl rfl)) ?_
   refine Jp2.q 37 rfl (qaa rfl) rfl rfl (fun _=>(Y.qdo rfl rfl rfl (by exact qag (by omega) (by omega)))) ?_
   refine Jp2.head ?_
   refine Jp.q 33 rfl (qaa rfl) rfl rfl (Y.move rfl rfl) ?_
   refine Jp.q 34 rfl (qaa rfl) rfl rfl (Y.move rfl rfl) ?_
   refine Jp.q 38 rfl (qaa rfl) rfl rfl (Y.move rfl rfl) ?_
   refine Jp.q 39 rfl (qaa rfl) rfl rfl (Y.move rfl rfl) ?_
   refine Jp.q 40 rfl (qaa rfl) rfl rfl (Y.qdo rfl rfl rfl (by exact qag (by omega) (by omega))) ?_
   refine Jp.q 41 rfl (qaa rfl) rfl rfl (Y.qar (q:=q) rfl rfl rfl underlying22 sizeOf24 (by omega) (by omega) (by omega)) ?_
   refine Jp.q 42 rfl (qaa rfl) rfl rfl (by exact Y.qbs 0 rfl isAgg24 rfl rfl c0) ?_
   refine Jp.q 43 rfl (qaa rfl) rfl rfl (Y.move rfl rfl) ?_
   refine Jp.q 44 rfl (qaa rfl) rfl rfl (Y.move rfl rfl) ?_
   refine Jp.q 45 rfl (qaa rfl) rfl rfl (Y.qar (q:=q + 1) rfl rfl rfl underlying22 sizeOf24 (by omega) (by omega) (by omega)) ?_
   refine Jp.q 46 rfl (qaa rfl) rfl rfl (by exact Y.qbs 0 rfl isAgg24 rfl rfl c1) ?_
   refine Jp.q 47 rfl (qaa rfl) rfl rfl (Y.qar (q:=q + 1) rfl rfl rfl underlying22 sizeOf24 (by omega) (by omega) (by omega)) ?_
   refine Jp2.tail ?_
   refine Jp2.loud ?_
   refine Jp.storeS 0 (q:=q + 1) rfl (qaa rfl) rfl rfl sizeOf24 rfl rfl rfl rfl rfl (by omega) (qbp .u32 (dj.toList.set (q + 1) dj[q])) (natsV_set _ _ _ _) Kp.true ?_
   refine Jp2.tail ?_
   refine Jp2.q 48 rfl (qaa rfl) rfl rfl (fun _=>(Y.qar (q:=q) rfl rfl rfl underlying22 sizeOf24 (by omega) (by omega) (by omega))) ?_
   refine Jp2.loud ?_
   refine Jp.storeS 0 (q:=q) rfl (qaa rfl) rfl rfl sizeOf24 rfl rfl rfl rfl rfl (by omega) (qbp .u32 (Go.Sort.swp dj (q + 1) q).toList) (by rw [natsV_set,swp_list dj hq1 hq0]) Kp.true ?_
   refine Jp2.tail ?_
   refine Jp2.nil ?_
   refine Jp.over rfl hK13 ?_
   refine Cd.qac [(0,false),(1,false),(2,false)] rfl rfl ?_
   refine Jp.y 31 rfl (qaa rfl) rfl rfl Kp.true (Y.move rfl rfl) ?_
   refine Jp.y 32 rfl (qaa rfl) rfl rfl Kp.true (Y.qdo rfl rfl rfl (by exact qag (by omega) (by omega))) ?_
   refine Jp.y 7 rfl (qaa rfl) rfl rfl Kp.true (Y.assign rfl rfl) ?_
   refine Jp.slot 7 rfl (congrArg (Value.int .i64) (show ((q + 1 : Nat) : Int) - 1 = (q : Int) by omega)) ?_
   refine Jp.again hLb ⟨q,Go.Sort.swp dj (q + 1) q⟩ ⟨by rw [← oj1,hin],by show a ≤ q; omega,by show q ≤ i; omega,by rw [swp_size]; exact oj4⟩ (by show q < q + 1; omega) rfl ⟨rfl,rfl,rfl,rfl,rfl,trivial⟩ ⟨rfl,trivial⟩
  ·rw [gb] at hin
   rw [if_neg (by simp)] at hin
   rw [hin] at oj1
   subst oj1
   refine Cd.exit rfl hK8 ?_
   refine Cd.qac [(0,false),(1,false),(2,false)] rfl rfl ?_
   refine Jp.y 13 rfl (qaa rfl) rfl rfl Kp.true (Y.move rfl rfl) ?_
   refine Jp.y 14 rfl (qaa rfl) rfl rfl Kp.true (Y.qbx rfl rfl rfl (by exact qag (by omega) (by omega))) ?_
   refine Jp.y 6 rfl (qaa rfl) rfl rfl Kp.true (Y.assign rfl rfl) ?_
   refine Jp.again hLa ⟨i + 1,dj⟩ ⟨ok1,by show a + 1 ≤ i + 1; omega,by show i + 1 ≤ e + 1; omega,oj4⟩ (by show e + 1 - (i + 1) < e + 1 - i; omega) rfl ⟨rfl,rfl,rfl,rfl,trivial⟩ ⟨rfl,trivial⟩
 ·simp only [decide_eq_false_iff_not] at ga
  have : ¬ i < e:=by omega
  rw [Go.Sort.insOuter,if_neg this] at ok1
  subst ok1
  refine Cdx.end [(0,_)] rfl (res0 rfl) ⟨rfl,trivial⟩ ⟨rfl,rfl,rfl⟩
end Go.Proofs.YthjelpbaljapiaaGreat

namespace Go.Proofs.YthjelpbaljapiaaGreat
open _root_.Go.Proofs.Tryz
open Go
theorem Jp.tab {P : Program} {n : Nat} {cx : Cx} {ρ : Hp} {E : Env} {L : Own} {ops : Array Oper} {Q : Exit → Act → World → Prop} {S : World → Prop} {π : List (Nat × Bool)} (t : Nat) {s : ByteArray} {q : Nat} {h : q < s.size} (ht : look E t = some (.int .u8 ((s[q]'h).toNat : Int)))
  (hs : (str s).all (fun b=>decide (b.toNat ≤ 8)) = true) (hk : ∀ k : Nat,k ≤ 8 → Jp P ops Q S n cx π ρ ((t,.int .u8 k) :: E) L) : Jp P ops Q S n cx π ρ E L:=by
 have h1 : (s[q]'h).toNat ≤ 8:=by
  have := List.all_eq_true.1 hs (s[q]'h) (by
   have : s[q]'h = (str s)[q]'(by rw [← str_size]; exact h):=by simp [str]; rfl
   rw [this]; exact List.getElem_mem _)
  exact of_decide_eq_true this
 exact Jp.slot t ht rfl (hk _ h1)
theorem len64_spec (x : Nat) (hx : x ≤ 4096) : Spec Tryz.prog 101 #[.int .u64 x] (fun _=>True) [] (fun ρ ρ' v L=>ρ' = ρ ∧ (∃ k : Nat,k ≤ 64 ∧ v = .int .i64 k) ∧ L = []):=by
 refine Spec.of 25 Tryz.func101 rfl Tryz.ntmps101 [(0,_)] rfl rfl ?_
 intro cx ρ hr h0
 refine Cd.seq fun K1 hK1=>?_
 refine Cd.qac [(0,false)] rfl rfl ?_
 refine Jp.y 2 rfl (qaa rfl) rfl rfl Kp.true (Y.assign rfl rfl) ?_
 refine Jp.qae hK1 ?_
 refine Cd.seq fun K2 hK2=>?_
 refine Cd.seq fun K3 hK3=>?_
 refine Cd.qac [(0,false),(1,false)] rfl rfl ?_
 refine Jp.y 3 rfl (qaa rfl) rfl rfl Kp.true (Y.move rfl rfl) ?_
 refine Jp.y 4 rfl (qaa rfl) rfl rfl Kp.true (Y.geq rfl rfl rfl) ?_
 refine Jp.qae hK3 ?_
 refine Cd.qal rfl (fun g4=>?_) (fun g4=>?_)
 ·skip
  exact absurd g4 (by simp; omega)
 try simp only [sG0] at g4
 refine Cd.qbi hK2 ?_
 refine Cd.seq fun K4 hK4=>?_
 refine Cd.seq fun K5 hK5=>?_
 refine Cd.qac [(0,false),(1,false)] rfl rfl ?_
 refine Jp.y 7 rfl (qaa rfl) rfl rfl Kp.true (Y.move rfl rfl) ?_
 refine Jp.y 8 rfl (qaa rfl) rfl rfl Kp.true (Y.geq rfl rfl rfl) ?_
 refine Jp.qae hK5 ?_
 refine Cd.qal rfl (fun g8=>?_) (fun g8=>?_)
 ·skip
  exact absurd g8 (by simp; omega)
 try simp only [sG0] at g8
 refine Cd.qbi hK4 ?_
 refine Cd.seq fun K6 hK6=>?_
 refine Cd.seq fun K7 hK7=>?_
 refine Cd.qac [(0,false),(1,false)] rfl rfl ?_
 refine Jp.y 13 rfl (qaa rfl) rfl rfl Kp.true (Y.move rfl rfl) ?_
 refine Jp.y 14 rfl (qaa rfl) rfl rfl Kp.true (Y.geq rfl rfl rfl) ?_
 refine Jp.qae hK7 ?_
 refine Cd.joinG (G:=Nat × Nat) (fun g=>g.1 < 256 ∧ g.2 ≤ 8) (fun g=>[(0,.int .u64 g.1),(2,.int .i64 g.2)]) [] trivial (fun _=>[]) [] trivial hK6 (fun g hφ=>?_) (fun hj1=>?_)
 ·obtain ⟨y,k0⟩:=g
  obtain ⟨hy,hk0⟩:=hφ
  dsimp only at hy hk0 ⊢
  refine Cd.seq fun K8 hK8=>?_
  refine Cd.qac [(0,false),(1,false),(2,false),(3,false),(4,false),(5,false),(6,false)] rfl rfl ?_
  refine Jp.y 19 rfl (qaa rfl) rfl rfl Kp.true (Y.move rfl rfl) ?_
  refine Jp.y 20 rfl (qaa rfl) rfl rfl Kp.true (Y.move rfl rfl) ?_
  refine Jp.y 21 rfl (qaa rfl) rfl rfl Kp.true (Y.qap rfl rfl underlying88 underlying5 (by exact wrap_u8 (by omega) (by omega))) ?_
  refine Jp.y 22 rfl (qaa rfl) rfl rfl Kp.true (Y.indexstr (q:=y) rfl underlying9 rfl rfl (by omega) (by show (y : Int) < ((256 : Nat) : Int); omega) (by omega)) ?_
  refine Jp.tab 22 rfl (by kernel_rfl) fun k hk=>?_
  refine Jp.y 23 rfl (qaa rfl) rfl rfl Kp.true (Y.qap rfl rfl underlying5 underlying3 (by exact qag (by omega) (by omega))) ?_
  refine Jp.y 24 rfl (qaa rfl) rfl rfl Kp.true (Y.qbx rfl rfl rfl (by exact qag (by omega) (by omega))) ?_
  refine Jp.y 2 rfl (qaa rfl) rfl rfl Kp.true (Y.assign rfl rfl) ?_
  refine Jp.qae hK8 ?_
  refine Cd.ret [] rfl (qba rfl rfl) trivial ⟨rfl,⟨k0 + k,by omega,by simp⟩,rfl⟩
 ·skip
  refine Cd.qal rfl (fun ga=>?_) (fun ga=>?_)
  ·simp only [decide_eq_true_eq] at ga
   refine Cd.seq fun K9 hK9=>?_
   refine Cd.qac [(0,false),(1,false),(2,false)] rfl rfl ?_
   refine Jp.y 15 rfl (qaa rfl) rfl rfl Kp.true (Y.move rfl rfl) ?_
   refine Jp.y 16 rfl (qaa rfl) rfl rfl Kp.true (Y.shr rfl rfl rfl (by first | decide | omega)) ?_
   refine Jp.slot 16 rfl (show _ = Value.int .u64 ((x / 256 : Nat) : Int) by rw [Int.fdiv_eq_ediv_of_nonneg _ (by decide)]; exact congrArg (Value.int .u64) (show (x : Int) / 256 = ((x / 256 : Nat) : Int) by omega)) ?_
   refine Jp.y 0 rfl (qaa rfl) rfl rfl Kp.true (Y.assign rfl rfl) ?_
   refine Jp.qae hK9 ?_
   refine Cd.qac [(0,false),(1,false),(2,false)] rfl rfl ?_
   refine Jp.y 17 rfl (qaa rfl) rfl rfl Kp.true (Y.move rfl rfl) ?_
   refine Jp.y 18 rfl (qaa rfl) rfl rfl Kp.true (Y.qbx rfl rfl rfl (by exact qag (by omega) (by omega))) ?_
   refine Jp.y 2 rfl (qaa rfl) rfl rfl Kp.true (Y.assign rfl rfl) ?_
   refine Jp.qae hK6 ?_
   exact Cd.qdz (hj1 ⟨x / 256,8⟩ ⟨by show x / 256 < 256; omega,Nat.le_refl _⟩) ⟨rfl,rfl,trivial⟩ trivial
  ·simp only [decide_eq_false_iff_not] at ga
   refine Cd.qbi hK6 ?_
   exact Cd.qdz (hj1 ⟨x,0⟩ ⟨by show x < 256; omega,Nat.zero_le _⟩) ⟨rfl,rfl,trivial⟩ trivial
theorem len_spec (x : Nat) (hx : x ≤ 4096) : Spec Tryz.prog 87 #[.int .u64 x] (fun _=>True) [] (fun ρ ρ' v L=>ρ' = ρ ∧ (∃ k : Nat,k ≤ 64 ∧ v = .int .i64 k) ∧ L = []):=by
 refine Spec.of 8 Tryz.func87 rfl Tryz.ntmps87 [(0,_)] rfl rfl ?_
 intro cx ρ hr h0
 refine Cd.seq fun K10 hK10=>?_
 refine Cd.qac [(0,false)] rfl rfl ?_
 refine Jp.y 2 rfl (qaa rfl) rfl rfl Kp.true (Y.assign rfl rfl) ?_
 refine Jp.qae hK10 ?_
 refine Cd.seq fun K11 hK11=>?_
 refine Cd.qbg rfl ?_
 refine Cd.qbi hK11 ?_
 refine Cd.seq fun K12 hK12=>?_
 refine Cd.qac [(0,false),(1,false),(2,false)] rfl rfl ?_
 refine Jp.y 6 rfl (qaa rfl) rfl rfl Kp.true (Y.move rfl rfl) ?_
 refine Jp.call [] [] (len64_spec x hx) 7 rfl (qaa rfl) rfl rfl (Runs.fn rfl call101 rfl) (by decide) (by decide) rfl trivial ?_
 rintro v1 ρ1 L1 ⟨rfl,⟨k,hk,rfl⟩,rfl⟩
 refine ⟨rfl,fun hle1=>⟨Kp.true,?_⟩⟩
 refine Jp.y 2 rfl (qaa rfl) rfl rfl Kp.true (Y.assign rfl rfl) ?_
 refine Jp.qae hK12 ?_
 refine Cd.ret [] rfl (qba rfl rfl) trivial ⟨rfl,⟨k,hk,rfl⟩,rfl⟩
theorem pdqSmall_spec (A : Option Addr) (n c : Nat) (d0 : Array Nat) (lim : Int) (hd : d0.size = n) (hn : n ≤ 12) : Spec Tryz.prog 86 #[.slice A n c,.int .i64 0,.int .i64 n,.int .i64 lim] (fun _=>True) [(0,rowO A n c d0)]
  (fun ρ ρ' v L=>ρ' = ρ ∧ v = .tuple #[] ∧ L = [(0,rowO A n c (Go.Sort.insertionSort ltN d0 0 n))]):=by
 refine Spec.of 134 Tryz.func86 rfl Tryz.ntmps86 [(0,_),(1,_),(2,_),(3,_)] rfl rfl ?_
 intro cx ρ hr h0
 refine Cd.seq fun K13 hK13=>?_
 refine Cd.qac [(0,false)] rfl rfl ?_
 refine Jp.y 8 rfl (qaa rfl) rfl rfl Kp.true (Y.assign rfl rfl) ?_
 refine Jp.qae hK13 ?_
 refine Cd.seq fun K14 hK14=>?_
 refine Cd.qac [(0,false)] rfl rfl ?_
 refine Jp.y 9 rfl (qaa rfl) rfl rfl Kp.true (Y.assign rfl rfl) ?_
 refine Jp.qae hK14 ?_
 refine Cd.block ?_
 refine Cd.qdw (G:=Unit) (fun _=>True) (fun _=>0) (fun _=>_) (fun _=>[]) [(0,_),(1,_),(2,_),(3,_),(8,_),(9,_)] (fun _=>[]) [(0,_)] () trivial rfl trivial ⟨rfl,rfl,rfl,rfl,rfl,rfl,trivial⟩ trivial ⟨rfl,trivial⟩ (fun g KLa hok hLa=>?_)
 refine Cd.block ?_
 refine Cd.seq fun K15 hK15=>?_
 refine Cd.qac [(0,false),(1,false),(2,false),(3,false)] rfl rfl ?_
 refine Jp.y 19 rfl (qaa rfl) rfl rfl Kp.true (Y.move rfl rfl) ?_
 refine Jp.y 20 rfl (qaa rfl) rfl rfl Kp.true (Y.move rfl rfl) ?_
 refine Jp.y 21 rfl (qaa rfl) rfl rfl Kp.true (Y.qdo rfl rfl rfl (by exact qag (by omega) (by omega))) ?_
 refine Jp.y 10 rfl (qaa rfl) rfl rfl Kp.true (Y.assign rfl rfl) ?_
 refine Jp.qae hK15 ?_
 refine Cd.seq fun K16 hK16=>?_
 refine Cd.seq fun K17 hK17=>?_
 refine Cd.qac [(0,false),(1,false)] rfl rfl ?_
 refine Jp.y 22 rfl (qaa rfl) rfl rfl Kp.true (Y.move rfl rfl) ?_
 refine Jp.y 23 rfl (qaa rfl) rfl rfl Kp.true (Y.leq rfl rfl rfl) ?_
 refine Jp.qae hK17 ?_
 refine Cd.qal rfl (fun ga=>?_) (fun ga=>?_)
 ·skip
  refine Cd.seq fun K18 hK18=>?_
  refine Cd.qac [(0,false),(1,false),(2,false),(3,false)] rfl rfl ?_
  refine Jp.y 24 rfl (qaa rfl) rfl rfl Kp.true (Y.move rfl rfl) ?_
  refine Jp.y 25 rfl (qaa rfl) rfl rfl Kp.true (Y.move rfl rfl) ?_
  refine Jp.y 26 rfl (qaa rfl) rfl rfl Kp.true (Y.move rfl rfl) ?_
  refine Jp.call [0] [0] (insSort_spec A n c d0 0 n hd (Nat.zero_le _) (Nat.le_refl _) (by omega)) 27 rfl (qaa rfl) rfl rfl (Runs.fn rfl call91 rfl) (by decide) (by decide) rfl trivial ?_
  rintro v1 ρ1 L1 ⟨rfl,rfl,rfl⟩
  refine ⟨rfl,fun hle1=>⟨Kp.true,?_⟩⟩
  refine Jp.qae hK18 ?_
  refine Cd.ret [(0,_)] rfl (res0 rfl) ⟨rfl,trivial⟩ ⟨rfl,rfl,rfl⟩
 ·exact absurd ga (by simp; omega)
theorem sortSmall_spec (A : Option Addr) (n c : Nat) (d0 : Array Nat) (hd : d0.size = n) (hn : n ≤ 12) : Spec Tryz.prog 68 #[.slice A n c] (fun _=>True) [(0,rowO A n c d0)]
  (fun ρ ρ' v L=>ρ' = ρ ∧ v = .tuple #[] ∧ L = [(0,rowO A n c (Go.Sort.insertionSort ltN d0 0 n))]):=by
 refine Spec.of 11 Tryz.func68 rfl Tryz.ntmps68 [(0,_)] rfl rfl ?_
 intro cx ρ hr h0
 refine Cd.seq fun K19 hK19=>?_
 refine Cd.qac [(0,false),(1,false),(2,false)] rfl rfl ?_
 refine Jp.y 3 rfl (qaa rfl) rfl rfl Kp.true (Y.move rfl rfl) ?_
 refine Jp.y 4 rfl (qaa rfl) rfl rfl Kp.true (Y.qcd rfl underlying22 rfl) ?_
 refine Jp.y 2 rfl (qaa rfl) rfl rfl Kp.true (Y.assign rfl rfl) ?_
 refine Jp.qae hK19 ?_
 refine Cd.qac [(0,false),(1,false),(2,false),(3,false),(4,false),(5,false)] rfl rfl ?_
 refine Jp.y 5 rfl (qaa rfl) rfl rfl Kp.true (Y.move rfl rfl) ?_
 refine Jp.y 6 rfl (qaa rfl) rfl rfl Kp.true (Y.move rfl rfl) ?_
 refine Jp.y 7 rfl (qaa rfl) rfl rfl Kp.true (Y.move rfl rfl) ?_
 refine Jp.y 8 rfl (qaa rfl) rfl rfl Kp.true (Y.qap rfl rfl underlying3 underlying55 (by exact qay (by omega) (by omega))) ?_
 refine Jp.call [] [] (len_spec n (by omega)) 9 rfl (qaa rfl) rfl rfl (Runs.fn rfl call87 rfl) (by decide) (by decide) rfl trivial ?_
 rintro v1 ρ1 L1 ⟨rfl,⟨k,hk,rfl⟩,rfl⟩
 refine ⟨rfl,fun hle1=>⟨Kp.true,?_⟩⟩
 refine Jp.call [0] [0] (pdqSmall_spec A n c d0 k hd hn) 10 rfl (qaa rfl) rfl rfl (Runs.fn rfl call86 rfl) (by decide) (by decide) rfl trivial ?_
 rintro v2 ρ2 L2 ⟨rfl,rfl,rfl⟩
 refine ⟨rfl,fun hle2=>⟨Kp.true,?_⟩⟩
 refine Jp.end [(0,_)] rfl (res0 rfl) ⟨rfl,trivial⟩ ⟨rfl,rfl,rfl⟩
end Go.Proofs.YthjelpbaljapiaaGreat
set_option linter.unusedVariables false
set_option linter.unusedSimpArgs false
set_option maxRecDepth 100000
namespace Go.Proofs.YthjelpbaljapiaaGreat
open _root_.Go.Proofs.Tryz
open Go
theorem swoN : Go.Sort.SWO ltN:=⟨fun x=>by simp [ltN],fun x y z h1 h2=>by simp [ltN] at *; omega,fun x y z h1 h2=>by simp [ltN] at *; omega⟩
theorem sorted_le {r : Array Nat} (hs : Go.Sort.SortedIn ltN 0 r.size r) : r.toList.Pairwise (· ≤ ·):=by
 rw [List.pairwise_iff_getElem]
 intro i j hi hj hij
 have hj' : j < r.size:=by simpa using hj
 have:=hs i j (Nat.zero_le _) hij hj'
 have hi' : i < r.size:=by omega
 simp only [ltN,getElem!_pos r i hi',getElem!_pos r j hj',decide_eq_false_iff_not] at this
 simp; omega
theorem sorted_is {r : Array Nat} {s K : List Nat} (hp : r.toList.Perm s) (hs : Go.Sort.SortedIn ltN 0 r.size r) (hk : s.Perm K) (hK : K.Pairwise (· < ·)) : r.toList = K :=
 List.Perm.eq_of_pairwise (le:=(· ≤ ·)) (fun a b _ _ h1 h2=>by omega) (sorted_le hs) (hK.imp fun h=>Nat.le_of_lt h) (hp.trans hk)
theorem permIn_perm {d r : Array Nat} (h : Go.Sort.PermIn 0 d.size d r) : r.size = d.size ∧ r.toList.Perm d.toList:=by
 obtain ⟨h1,_,h3⟩:=h
 refine ⟨h1,?_⟩
 have e1 : (r.extract 0 d.size).toList = r.toList:=by rw [← h1]; simp
 have e2 : (d.extract 0 d.size).toList = d.toList:=by simp
 rw [e1,e2] at h3; exact h3
def SortsTo (n : Nat) : Prop:=∀ (A : Option Addr) (c : Nat) (d : Array Nat),d.size = n → Spec Tryz.prog 68 #[.slice A n c] (fun _=>True) [(0,rowO A n c d)]
  (fun ρ ρ' v L=>ρ' = ρ ∧ v = .tuple #[] ∧ ∃ r : Array Nat,r.toList.Perm d.toList ∧ Go.Sort.SortedIn ltN 0 r.size r ∧ L = [(0,rowO A n c r)])
theorem sorts12 (n : Nat) (hn : n ≤ 12) : SortsTo n:=fun A c d hd=>by
 refine (sortSmall_spec A n c d hd hn).mono (fun _ h=>h) ?_
 rintro ρ ρ' v L ⟨rfl,rfl,rfl⟩
 obtain ⟨h1,h2⟩:=Go.Sort.insertionSort_holds swoN d 0 n (Nat.zero_le _) (by omega)
 obtain ⟨h3,h4⟩:=permIn_perm (by rw [hd]; exact h1)
 exact ⟨rfl,rfl,_,h4,by rw [h3,hd]; exact h2,rfl⟩
theorem natsV_inj {s : List Value} (h : ∀ v ∈ s,∃ x : Nat,v = .int .u32 x) : ∃ l : List Nat,s = qbp .u32 l:=by
 induction s with
 | nil=>exact ⟨[],rfl⟩
 | cons v s ih =>
  obtain ⟨x,rfl⟩:=h v (by simp)
  obtain ⟨l,rfl⟩:=ih fun v hv=>h v (List.mem_cons_of_mem _ hv)
  exact ⟨x :: l,rfl⟩
theorem natsV_perm {l K : List Nat} (h : (qbp .u32 l).Perm (qbp .u32 K)) : l.Perm K:=by
 have h2:=h.map fun v=>match v with | .int _ x=>x.toNat | _=>0
 simpa [qbp,List.map_map,Function.comp_def] using h2
theorem sorted_spec (cb pb : Nat) (pm : qdp) (K : List Nat) (hK : K.Pairwise (· < ·)) (hp : (pm.map (·.1)).Perm (K.map fun k : Nat=>(k : Int))) (hlen : pm.length ≤ 4096) (hsort : SortsTo pm.length) : Spec Tryz.prog 38 #[kfn cb] (fun _=>True) [(0,capO cb pb),(1,qdq .u32 pb pm)]
  (fun ρ ρ' v L=>∃ A c,v = .slice A K.length c ∧ L = [(0,capO cb pb),(1,qdq .u32 pb pm),(2,OwnS 24 1 A K.length c (qbp .u32 K))]):=by
 refine Spec.of 9 Tryz.func38 rfl Tryz.ntmps38 [(0,_)] rfl rfl ?_
 intro cx ρ hr h0
 have hkeys : (keysV pm).Perm (qbp .u32 K):=by
  have:=hp.map fun x : Int=>Value.int .u32 x
  simpa [keysV,qbp,List.map_map,Function.comp_def] using this
 have hKl : K.length = pm.length:=by have:=hp.length_eq; simpa using this.symm
 refine Cd.seq fun K1 hK1=>?_
 refine Cd.qac [(0,false)] rfl rfl ?_
 refine Jp.y 2 rfl (qaa rfl) rfl rfl Kp.true (Y.assign rfl rfl) ?_
 refine Jp.qae hK1 ?_
 refine Cd.seq fun K2 hK2=>?_
 refine Cd.qac [(0,false),(1,false),(2,false)] rfl rfl ?_
 refine Jp.y 4 rfl (qaa rfl) rfl rfl Kp.true (Y.move rfl rfl) ?_
 refine Jp.call [0,1] [0,1,2] (collect_spec cb pb pm hlen) 5 rfl (qaa rfl) rfl rfl (Runs.fn rfl call67 rfl) (by decide) (by decide) rfl trivial ?_
 rintro v1 ρ1 L1 ⟨s,A,c,hs,rfl,rfl⟩
 refine ⟨rfl,fun hle1=>⟨Kp.true,?_⟩⟩
 obtain ⟨l,rfl⟩:=natsV_inj (s:=s) fun v hv=>by
  obtain ⟨x,_,rfl⟩:=List.mem_map.1 ((hs.trans hkeys).mem_iff.1 hv)
  exact ⟨x,rfl⟩
 have hperm:=natsV_perm (hs.trans hkeys)
 have hsl : (qbp .u32 l).length = K.length:=by rw [qbp,List.length_map]; exact hperm.length_eq
 have hll : l.length = pm.length:=by rw [← hKl]; exact hperm.length_eq
 rw [hsl,hKl]
 refine Jp.y 3 rfl (qaa rfl) rfl rfl Kp.true (Y.assign rfl rfl) ?_
 refine Jp.qae hK2 ?_
 refine Cd.seq fun K3 hK3=>?_
 refine Cd.qac [(0,false),(1,false)] rfl rfl ?_
 refine Jp.imp (j:=2) rfl (fun h hh=>(show rowO A pm.length c l.toArray h from hh)) ?_
 refine Jp.y 6 rfl (qaa rfl) rfl rfl Kp.true (Y.move rfl rfl) ?_
 refine Jp.call [2] [2] (hsort A c l.toArray (by simpa using hll)) 7 rfl (qaa rfl) rfl rfl (Runs.fn rfl call68 rfl) (by decide) (by decide) rfl trivial ?_
 rintro v2 ρ2 L2 ⟨rfl,rfl,r,hr1,hr2,rfl⟩
 refine ⟨rfl,fun hle2=>⟨Kp.true,?_⟩⟩
 have hrK : r.toList = K:=sorted_is hr1 hr2 (by simpa using hperm) hK
 refine Jp.qae hK3 ?_
 refine Cd.seq fun K4 hK4=>?_
 refine Cd.qac [(0,false),(1,false)] rfl rfl ?_
 refine Jp.y 8 rfl (qaa rfl) rfl rfl Kp.true (Y.move rfl rfl) ?_
 refine Jp.y 2 rfl (qaa rfl) rfl rfl Kp.true (Y.assign rfl rfl) ?_
 refine Jp.qae hK4 ?_
 refine Cd.imp (i:=2) rfl (fun h hh=>(show OwnS 24 1 A pm.length c (qbp .u32 K) h by rw [← hrK]; exact hh)) ?_
 refine Cd.ret [(0,_),(1,_),(2,_)] rfl (qba rfl rfl) ⟨rfl,rfl,rfl,trivial⟩ ⟨A,c,by rw [hKl],by rw [hKl]⟩
end Go.Proofs.YthjelpbaljapiaaGreat
set_option linter.unusedVariables false
set_option linter.unusedSimpArgs false
set_option maxRecDepth 100000
namespace Go.Proofs.YthjelpbaljapiaaGreat
open _root_.Go.Proofs.Tryz
open Go
end Go.Proofs.YthjelpbaljapiaaGreat
set_option linter.unusedVariables false
set_option linter.unusedSimpArgs false
set_option maxRecDepth 100000
namespace Go.Proofs.YthjelpbaljapiaaGreat
open _root_.Go.Proofs.Tryz
open Go
theorem pages_spec (b : Nat) (M : MemG) (hsort : SortsTo M.pages.length) : Spec Tryz.prog 18 #[.pointer (some ⟨b,0,none⟩)] (fun _=>True) [(0,qeg b M)]
  (fun ρ ρ' v L=>∃ A c,v = .slice A M.pages.length c ∧ L = [(0,qeg b M),(1,OwnS 24 1 A M.pages.length c (qbp .u32 (M.pages.map (·.1))))]):=by
 refine Spec.of 9 Tryz.func18 rfl Tryz.ntmps18 [(0,_)] rfl rfl ?_
 intro cx ρ hr h0
 refine Cd.memOpen 0 5 6 7 (by decide) rfl fun x hf=>?_
 have hlen:=hf.pages.length_eq
 rw [List.length_map] at hlen
 have hroom:=hf.ok.room
 have hbud:=hf.ok.budget.2
 have hrise : (M.pages.map (·.1)).Pairwise (· < ·):=by rw [List.pairwise_map]; exact hf.ok.rising
 have hp : (x.pm.map (·.1)).Perm ((M.pages.map (·.1)).map fun k : Nat=>(k : Int)):=by
  have h1:=hf.pages.map (·.1)
  rw [List.map_map] at h1
  rw [List.map_map]
  exact h1
 have hs2 : SortsTo x.pm.length:=by rw [hlen]; exact hsort
 dsimp only [qcy]
 refine Cd.seq fun K1 hK1=>?_
 refine Cd.qac [(0,false)] rfl rfl ?_
 refine Jp.y 2 rfl (qaa rfl) rfl rfl Kp.true (Y.assign rfl rfl) ?_
 refine Jp.qae hK1 ?_
 refine Cd.seq fun K2 hK2=>?_
 refine Cd.qac [(0,false),(1,false),(2,false),(3,false),(4,false),(5,false),(6,false)] rfl rfl ?_
 refine Jp.y 3 rfl (qaa rfl) rfl rfl Kp.true (Y.move rfl rfl) ?_
 refine Jp.y 4 rfl (qaa rfl) rfl rfl Kp.true (Y.qau rfl rfl) ?_
 refine Jp.y 5 rfl (qaa rfl) rfl rfl Kp.true (by exact Y.qad rfl rfl underlying87 rfl sizeOf84 (by decide) (show _ + 1 = _ from rfl)) ?_
 refine Jp.y 6 rfl (qaa rfl) rfl rfl Kp.true (Y.qaq 0 rfl isAgg84 rfl rfl rfl) ?_
 refine Jp.call [] [8] (keys_spec x.pb) 7 rfl (qaa rfl) rfl rfl (Runs.fn rfl call39 rfl) (by decide) (by decide) rfl trivial ?_
 rintro v1 ρ1 L1 ⟨rfl,cb,rfl,rfl⟩
 refine ⟨rfl,fun hle1=>⟨Kp.true,?_⟩⟩
 refine Jp.call [8,5] [8,5,1] (sorted_spec cb x.pb x.pm (M.pages.map (·.1)) hrise hp (by omega) hs2) 8 rfl (qaa rfl) rfl rfl (Runs.fn rfl call38 rfl) (by decide) (by decide) rfl trivial ?_
 rintro v2 ρ2 L2 ⟨A,c,rfl,rfl⟩
 refine ⟨rfl,fun hle2=>⟨Kp.true,?_⟩⟩
 rw [List.length_map]
 refine Jp.y 2 rfl (qaa rfl) rfl rfl Kp.true (Y.assign rfl rfl) ?_
 refine Jp.qae hK2 ?_
 refine Cd.memClose (b:=b) (x:=x) 0 5 6 7 (by decide) hf rfl rfl rfl rfl ?_
 refine Cd.ret [(0,_),(1,_)] rfl (qba rfl rfl) ⟨rfl,rfl,trivial⟩ ⟨A,c,rfl,rfl⟩
end Go.Proofs.YthjelpbaljapiaaGreat

namespace Go.Proofs.YthjelpbaljapiaaGreat
open _root_.Go.Proofs.Tryz
open Go
theorem qgh {b : Nat} {M : MemG} : ∀ h,qeg b M h → MemOk M:=fun h ⟨x,hf,_⟩=>hf.ok
theorem may_zero {p : Nat} (h : p ≤ 7) : may p 0 = true:=by
 have : p = 0 ∨ p = 1 ∨ p = 2 ∨ p = 3 ∨ p = 4 ∨ p = 5 ∨ p = 6 ∨ p = 7:=by omega
 rcases this with rfl | rfl | rfl | rfl | rfl | rfl | rfl | rfl <;> rfl
theorem load_byteM {M : MemG} (h : MemOk M) {y : Nat × Pg} (hy : y ∈ M.pages) {k : Nat} (hk : k < 256) : qbv M (y.1 + k) 1 0 = ((y.2.b.getD k 0).toNat,0):=by
 have hp:=h.page y hy
 have hal:=hp.al
 have hlen:=hp.len
 have hg : qbc M.pages y.1 = some y.2:=qfc h.rising.nodup hy
 have hb : qan (y.1 + k) = y.1:=by unfold qan; omega
 have hl : qbk M (y.1 + k) 1 0 = 0:=by
  rw [qbk,if_neg (by simp [qch]),hb,hg]
  dsimp only
  rw [may_zero hp.perm,if_pos rfl]
 rw [qbv,if_pos hl,hb,hg]
 dsimp only
 rw [show (y.1 + k) % 256 = k by omega,show (1 : Int).toNat = 1 from rfl,List.drop_eq_getElem_cons (show k < y.2.b.length by omega),List.take_succ_cons,List.take_zero]
 rw [List.getD_eq_getElem?_getD,List.getElem?_eq_getElem (show k < y.2.b.length by omega)]
 rfl
theorem perm_of {M : MemG} (h : MemOk M) {y : Nat × Pg} (hy : y ∈ M.pages) : permM M y.1 = ((y.2.perm : Int),true):=by
 have hg : qbc M.pages y.1 = some y.2:=qfc h.rising.nodup hy
 have hal:=(h.page y hy).al
 rw [permM,show qan y.1 = y.1 by unfold qan; omega,hg]
def partB (b : qbt) (k : Nat) : qbt:=b.take k ++ List.replicate (256 - k) 0
theorem partB_len {b : qbt} (h : b.length = 256) {k : Nat} (hk : k ≤ 256) : (partB b k).length = 256:=by simp [partB,h]; omega
theorem partB_all {b : qbt} (h : b.length = 256) : partB b 256 = b:=by simp [partB,← h]
theorem partB_set {b : qbt} (h : b.length = 256) {k : Nat} (hk : k < 256) : (partB b k).set k (b.getD k 0) = partB b (k + 1):=by
 unfold partB
 rw [List.set_append_right _ _ (by rw [List.length_take]; omega),List.length_take,Nat.min_eq_left (by omega),Nat.sub_self]
 rw [show 256 - k = (256 - (k + 1)) + 1 by omega,List.replicate_succ,List.set_cons_zero,List.getD_eq_getElem?_getD,List.getElem?_eq_getElem (by omega : k < b.length)]
 rw [← List.take_append_getElem (by omega : k < b.length),List.append_assoc]
 rfl
theorem refPg_setByte {x : Nat × Pg} (h : x.2.b.length = 256) {j : Nat} (hj : j < 256) (u : UInt8) : (qbm x).toArray.setIfInBounds (2 + j) (.int .u8 (u.toNat : Int)) = (qbm (x.1,⟨x.2.b.set j u,x.2.perm⟩)).toArray:=by
 rw [List.setIfInBounds_toArray]
 congr 1
 unfold qbm
 rw [show 2 + j = (j + 1) + 1 by omega,List.set_cons_succ,List.set_cons_succ]
 simp [qbf,List.map_set]
theorem refPg_ones (x : Nat × Pg) : (qbm x).all one = true:=by
 have:=pgs_one (l:=[x])
 simpa using this
theorem qgi (b : Nat) (M : MemG) (B : Int) (hsort : SortsTo M.pages.length) : Spec Tryz.prog 6 #[.pointer (some ⟨b,0,none⟩),.int .i64 B] (fun _=>True) [(0,qeg b M)]
  (fun ρ ρ' v L=>∃ b2 A c,v = .pointer (some ⟨b2,0,none⟩) ∧ L = [(0,qeg b M),(1,Pt b2 (qfa B A M.pages.length c none 0 0)),(2,OwnS 64 258 A M.pages.length c (M.pages.flatMap qbm))]):=by
 refine Spec.of 69 Tryz.func6 rfl Tryz.ntmps6 [(0,_),(1,_)] rfl rfl ?_
 intro cx ρ hr h0
 refine Cd.know (A:=qeg b M) 0 rfl qgh fun hmem=>?_
 have hroom:=hmem.room
 have hbud:=hmem.budget.2
 refine Cd.seq fun K1 hK1=>?_
 refine Cd.qac [(0,false)] rfl rfl ?_
 refine Jp.y 4 rfl (qaa rfl) rfl rfl Kp.true (Y.assign rfl rfl) ?_
 refine Jp.qae hK1 ?_
 refine Cd.seq fun K2 hK2=>?_
 refine Cd.qac [(0,false),(1,false),(2,false),(3,false)] rfl rfl ?_
 refine Jp.y 12 rfl (qaa rfl) rfl rfl Kp.true (Y.move rfl rfl) ?_
 refine Jp.y 13 rfl (qaa rfl) rfl rfl Kp.true (Y.struct [(0,_)] [_,_,_] rfl rfl places60 zeroValue60 rfl) ?_
 refine Jp.box 1 14 rfl (qaa rfl) rfl rfl rfl rfl fun b1=>⟨Kp.true,?_⟩
 refine Jp.y 5 rfl (qaa rfl) rfl rfl Kp.true (Y.assign rfl rfl) ?_
 refine Jp.qae hK2 ?_
 refine Cd.seq fun K3 hK3=>?_
 refine Cd.qac [(0,false),(1,false),(2,false)] rfl rfl ?_
 refine Jp.y 15 rfl (qaa rfl) rfl rfl Kp.true (Y.move rfl rfl) ?_
 refine Jp.call [0] [0,6] (pages_spec b M hsort) 16 rfl (qaa rfl) rfl rfl (Runs.fn rfl call18 rfl) (by decide) (by decide) rfl trivial ?_
 rintro v1 ρ1 L1 ⟨KA,kc,rfl,rfl⟩
 refine ⟨rfl,fun hle1=>⟨Kp.true,?_⟩⟩
 refine Jp.y 6 rfl (qaa rfl) rfl rfl Kp.true (Y.assign rfl rfl) ?_
 refine Jp.qae hK3 ?_
 refine Cd.seq fun K4 hK4=>?_
 refine Cd.seq fun K5 hK5=>?_
 refine Cd.qac [(0,false)] rfl rfl ?_
 refine Jp.y 7 rfl (qaa rfl) rfl rfl Kp.true (Y.assign rfl rfl) ?_
 refine Jp.qae hK5 ?_
 refine Cd.block ?_
 refine Cd.make 2 (A:=OwnS 64 258 none 0 0 []) (OwnS.nil _ _ _) ?_
 refine Cd.qdw (G:=Nat × Option Addr × Nat) (fun g=>g.1 ≤ M.pages.length) (fun g=>M.pages.length - g.1) (fun _=>_) (fun g=>[(7,.int .i64 (g.1 : Int))]) [(0,_),(5,_),(6,_)] (fun g=>[(1,Pt b1 (qfa B g.2.1 (M.pages.take g.1).length g.2.2 none 0 0)),(2,OwnS 64 258 g.2.1 (M.pages.take g.1).length g.2.2 ((M.pages.take g.1).flatMap qbm))]) [(0,_),(6,_)] ⟨0,none,0⟩ (Nat.zero_le _) rfl ⟨rfl,trivial⟩ ⟨rfl,rfl,rfl,trivial⟩ ⟨rfl,rfl,trivial⟩ ⟨rfl,rfl,trivial⟩ (fun g KLa hok hLa=>?_)
 obtain ⟨i,PA,pc⟩:=g
 have hil : i ≤ M.pages.length:=hok
 dsimp only
 refine Cd.seq fun K6 hK6=>?_
 refine Cd.seq fun K7 hK7=>?_
 refine Cd.qac [(0,false),(1,false),(2,false),(3,false)] rfl rfl ?_
 refine Jp.y 17 rfl (qaa rfl) rfl rfl Kp.true (Y.move rfl rfl) ?_
 refine Jp.y 18 rfl (qaa rfl) rfl rfl Kp.true (Y.move rfl rfl) ?_
 refine Jp.y 19 rfl (qaa rfl) rfl rfl Kp.true (Y.qcd rfl underlying22 rfl) ?_
 refine Jp.y 20 rfl (qaa rfl) rfl rfl Kp.true (Y.lss rfl rfl rfl) ?_
 refine Jp.qae hK7 ?_
 refine Cd.qal rfl (fun ga=>?_) (fun ga=>?_)
 ·have hi : i < M.pages.length:=by simp at ga; omega
  have hx : M.pages[i]? = some M.pages[i]:=List.getElem?_eq_getElem hi
  obtain ⟨y,hy⟩ : ∃ y,y = M.pages[i]:=⟨_,rfl⟩
  rw [← hy] at hx
  have hym:=List.mem_of_getElem? hx
  have hp:=hmem.page y hym
  have hyl:=hp.lt
  have hya:=hp.al
  have hlen:=hp.len
  have hpl:=hp.perm
  have hkx : (qbp .u32 (M.pages.map (·.1)))[i]? = some (.int .u32 (y.1 : Int)):=natsV_get .u32 (by rw [List.getElem?_map,hx]; rfl)
  refine Cd.ownAt 6 rfl (show 0 < M.pages.length by omega) ?_
  rintro b6 rfl
  have c6:=OwnS.hasC (e:=24) (m:=1) (k:=M.pages.length) (c:=kc) (ad:=⟨b6,0,none⟩) (cs:=qbp .u32 (M.pages.map (·.1))) (q:=i) hkx
  have hz : (qbm (y.1,⟨List.replicate 256 0,0⟩)).length = 258:=qda rfl
  have hzo:=refPg_ones (y.1,⟨List.replicate 256 0,0⟩)
  refine Cd.qbi hK6 ?_
  refine Cd.seq fun K8 hK8=>?_
  refine Cd.block ?_
  refine Cd.seq fun K9 hK9=>?_
  refine Cd.qac [(0,false),(1,false),(2,false),(3,false),(4,false),(5,false),(6,false)] rfl rfl ?_
  refine Jp.y 23 rfl (qaa rfl) rfl rfl Kp.true (Y.move rfl rfl) ?_
  refine Jp.y 24 rfl (qaa rfl) rfl rfl Kp.true (Y.move rfl rfl) ?_
  refine Jp.y 25 rfl (qaa rfl) rfl rfl Kp.true (Y.qar (q:=i) rfl rfl rfl underlying22 sizeOf24 (by omega) (by omega) (by omega)) ?_
  refine Jp.y 26 rfl (qaa rfl) rfl rfl Kp.true (by exact Y.qbs 6 rfl isAgg24 rfl rfl c6) ?_
  refine Jp.y 27 rfl (qaa rfl) rfl rfl Kp.true (Y.struct [(0,_)] (qbm (y.1,⟨List.replicate 256 0,0⟩)) rfl rfl places64 zeroValue64 rfl) ?_
  refine Jp.alloc 8 8 rfl (qaa rfl) rfl rfl rfl zeroValue64 fun b8=>⟨Kp.true,?_⟩
  first | refine Jp.qaf 8 rfl (qaa rfl) rfl rfl sizeOf64 rfl rfl (by first | rfl | assumption) (by first | rfl | assumption) rfl (by first | rfl | assumption) (fun k _ _=>qam k) Kp.true ?_
  refine Jp.qae hK9 ?_
  refine Cd.seq fun K10 hK10=>?_
  refine Cd.qac [(0,false),(1,false),(2,false),(3,false),(4,false),(5,false),(6,false),(7,false),(8,false),(9,false),(10,false)] rfl rfl ?_
  refine Jp.y 29 rfl (qaa rfl) rfl rfl Kp.true (Y.move rfl rfl) ?_
  refine Jp.y 30 rfl (qaa rfl) rfl rfl Kp.true (Y.move rfl rfl) ?_
  refine Jp.y 31 rfl (qaa rfl) rfl rfl Kp.true (Y.move rfl rfl) ?_
  refine Jp.y 32 rfl (qaa rfl) rfl rfl Kp.true (Y.qar (q:=i) rfl rfl rfl underlying22 sizeOf24 (by omega) (by omega) (by omega)) ?_
  refine Jp.y 33 rfl (qaa rfl) rfl rfl Kp.true (by exact Y.qbs 6 rfl isAgg24 rfl rfl c6) ?_
  refine Jp.call [0] [0] (perm_spec b M y.1 hyl) 34 rfl (qaa rfl) rfl rfl (Runs.fn rfl call19 rfl) (by decide) (by decide) rfl trivial ?_
  rintro v2 ρ2 L2 ⟨rfl,rfl,rfl⟩
  refine ⟨rfl,fun hle2=>⟨Kp.true,?_⟩⟩
  rw [perm_of hmem hym]
  refine Jp.y 28 rfl (qaa rfl) rfl rfl Kp.true (Y.move rfl rfl) ?_
  refine Jp.y 35 rfl (qaa rfl) rfl rfl Kp.true (Y.extract rfl rfl rfl) ?_
  refine Jp.y 36 rfl (qaa rfl) rfl rfl Kp.true (Y.extract rfl rfl rfl) ?_
  refine Jp.y 37 rfl (qaa rfl) rfl rfl Kp.true (by exact Y.qad rfl rfl underlying64 rfl sizeOf3 (by decide) (show _ + 1 = _ from rfl)) ?_
  refine Jp.qen 8 (Pt b8 (.cells (qbm (y.1,⟨partB y.2.b 0,y.2.perm⟩)).toArray 64)) rfl (qaa rfl) rfl rfl sizeOf3 rfl rfl rfl rfl rfl (SetC.pt (by rw [List.size_toArray,hz]; decide) (qam _) (by rw [List.setIfInBounds_toArray]; rfl)) Kp.true ?_
  refine Jp.qae hK10 ?_
  refine Cd.seq fun K11 hK11=>?_
  refine Cd.seq fun K12 hK12=>?_
  refine Cd.qac [(0,false)] rfl rfl ?_
  refine Jp.y 9 rfl (qaa rfl) rfl rfl Kp.true (Y.assign rfl rfl) ?_
  refine Jp.qae hK12 ?_
  refine Cd.block ?_
  refine Cd.joinG (G:=Unit) (fun _=>True) (fun _=>[]) [(0,_),(5,_),(6,_),(7,_),(8,_)] ⟨rfl,rfl,rfl,rfl,rfl,trivial⟩ (fun _=>[(8,Pt b8 (.cells (qbm y).toArray 64))]) [(0,_),(1,_),(2,_),(6,_)] ⟨rfl,rfl,rfl,rfl,trivial⟩ hK11 (fun g hφ=>?_) (fun hj1=>?_)
  ·clear hφ
   have hyL : (qbm y).length = 258:=qda hlen
   have hyO:=refPg_ones y
   have htl : (M.pages.take i).length = i:=by rw [List.length_take]; omega
   have htl2 : (M.pages.take (i + 1)).length = i + 1:=by rw [List.length_take]; omega
   have htk : M.pages.take (i + 1) = M.pages.take i ++ [y]:=by rw [← List.take_append_getElem hi,hy]
   have hrows : ((M.pages.take i).flatMap qbm).length = (M.pages.take i).length * 258:=rs_len fun x hx=>qda (hmem.page x (List.mem_of_mem_take hx)).len
   refine Cd.drawn [(1,_),(8,_)] ⟨rfl,rfl,trivial⟩ [(0,true),(1,true),(2,true),(3,true),(4,true),(5,true),(6,false),(7,false),(8,true),(9,true),(10,false)] follows (by kernel_rfl) (fun hrl=>?_)
   refine Jp.q 58 rfl (qaa rfl) rfl rfl (Y.move rfl rfl) ?_
   refine Jp.q 59 rfl (qaa rfl) rfl rfl (Y.move rfl rfl) ?_
   refine Jp.q 60 rfl (qaa rfl) rfl rfl (Y.qau rfl rfl) ?_
   refine Jp.q 61 rfl (qaa rfl) rfl rfl (by exact Y.qad rfl rfl underlying60 rfl sizeOf57 (by decide) (show _ + 1 = _ from rfl)) ?_
   refine Jp.q 62 rfl (qaa rfl) rfl rfl (by exact Y.qaq 1 rfl isAgg57 rfl rfl rfl) ?_
   refine Jp.q 63 rfl (qaa rfl) rfl rfl (by exact Y.qai 8 rfl isAgg64 sizeOf64 rfl rfl (by first | rfl | assumption)) ?_
   refine Jp.lit 64 9 [(0,_)] (qbm y) rfl (qaa rfl) rfl rfl rfl rfl underlying57 sizeOf64 zeroValue64 rfl rfl (fill_one hyL) hyL rfl fun b9=>⟨(Kp.st ⟨rfl,rfl,trivial⟩),?_⟩
   refine Jp.append 65 2 rfl (qaa rfl) rfl rfl rfl underlying57 underlying57 (.inl ⟨_,rfl⟩) sizeOf64 Tryz.typeInfo64 zeroValue64 rfl (by decide) rfl rfl rfl (Src.own 9 rfl) hyO ((M.pages.take (i + 1)).length) (((M.pages.take (i + 1)).flatMap qbm)) (by first | omega | simp) (by rw [htk,List.flatMap_append]; simp) (by simp only [Tryz.t64]; omega) fun A7 c7=>⟨(Kp.st ⟨rfl,rfl,trivial⟩),?_⟩
   refine Jp.q 66 rfl (qaa rfl) rfl rfl (Y.qau rfl rfl) ?_
   refine Jp.q 67 rfl (qaa rfl) rfl rfl (by exact Y.qad rfl rfl underlying60 rfl sizeOf57 (by decide) (show _ + 1 = _ from rfl)) ?_
   refine Jp.store 1 rfl (qaa rfl) rfl rfl sizeOf57 rfl rfl rfl rfl rfl rfl Kp.last ?_
   refine Jp.over rfl hK8 ?_
   refine Cd.qac [(0,false),(1,false),(2,false)] rfl rfl ?_
   refine Jp.y 21 rfl (qaa rfl) rfl rfl Kp.true (Y.move rfl rfl) ?_
   refine Jp.y 22 rfl (qaa rfl) rfl rfl Kp.true (Y.qbx rfl rfl rfl (by exact qag (by omega) (by omega))) ?_
   refine Jp.y 7 rfl (qaa rfl) rfl rfl Kp.true (Y.assign rfl rfl) ?_
   rw [show (i : Int) + 1 = ((i + 1 : Nat) : Int) by omega]
   refine Jp.again hLa ⟨i + 1,A7,c7⟩ hi (by show M.pages.length - (i + 1) < M.pages.length - i; omega) rfl ⟨rfl,rfl,rfl,rfl,trivial⟩ ⟨rfl,rfl,rfl,rfl,trivial⟩
  ·skip
   refine Cd.qdw (G:=Nat) (fun k=>k ≤ 256) (fun k=>256 - k) (fun _=>_) (fun k=>[(9,.int .u32 (k : Int))]) [(0,_),(5,_),(6,_),(7,_),(8,_)] (fun k=>[(8,Pt b8 (.cells (qbm (y.1,⟨partB y.2.b k,y.2.perm⟩)).toArray 64))]) [(0,_),(1,_),(2,_),(6,_)] 0 (Nat.zero_le _) rfl ⟨rfl,trivial⟩ ⟨rfl,rfl,rfl,rfl,rfl,trivial⟩ ⟨rfl,trivial⟩ ⟨rfl,rfl,rfl,rfl,trivial⟩ (fun g KLb hok hLb=>?_)
   obtain ⟨k,hk⟩ : ∃ k,k = g:=⟨_,rfl⟩
   rw [← hk] at hok ⊢
   refine Cd.seq fun K14 hK14=>?_
   refine Cd.seq fun K15 hK15=>?_
   refine Cd.qac [(0,false),(1,false)] rfl rfl ?_
   refine Jp.y 38 rfl (qaa rfl) rfl rfl Kp.true (Y.move rfl rfl) ?_
   refine Jp.y 39 rfl (qaa rfl) rfl rfl Kp.true (Y.lss rfl rfl rfl) ?_
   refine Jp.qae hK15 ?_
   refine Cd.qal rfl (fun gb=>?_) (fun gb=>?_)
   ·have hk2 : k < 256:=by simp at gb; omega
    have hbl:=(y.2.b.getD k 0).toNat_lt
    have hld:=load_byteM hmem hym hk2
    have hL:=load_spec b M (y.1 + k) 1 0 (by omega)
    rw [hld] at hL
    refine Cd.qbi hK14 ?_
    refine Cd.seq fun K16 hK16=>?_
    refine Cd.block ?_
    refine Cd.seq fun K17 hK17=>?_
    refine Cd.qac [(0,false),(1,false),(2,false),(3,false),(4,false),(5,false),(6,false),(7,false),(8,false),(9,false),(10,false),(11,false),(12,false)] rfl rfl ?_
    refine Jp.y 43 rfl (qaa rfl) rfl rfl Kp.true (Y.move rfl rfl) ?_
    refine Jp.y 44 rfl (qaa rfl) rfl rfl Kp.true (Y.move rfl rfl) ?_
    refine Jp.y 45 rfl (qaa rfl) rfl rfl Kp.true (Y.move rfl rfl) ?_
    refine Jp.y 46 rfl (qaa rfl) rfl rfl Kp.true (Y.qar (q:=i) rfl rfl rfl underlying22 sizeOf24 (by omega) (by omega) (by omega)) ?_
    refine Jp.y 47 rfl (qaa rfl) rfl rfl Kp.true (by exact Y.qbs 6 rfl isAgg24 rfl rfl c6) ?_
    refine Jp.y 48 rfl (qaa rfl) rfl rfl Kp.true (Y.move rfl rfl) ?_
    refine Jp.y 49 rfl (qaa rfl) rfl rfl Kp.true (Y.qbx rfl rfl rfl (by exact qax (by omega) (by omega))) ?_
    refine Jp.slot 49 rfl (show _ = Value.int .u32 ((y.1 + k : Nat) : Int) from rfl) ?_
    refine Jp.call [0] [0] hL 50 rfl (qaa rfl) rfl rfl (Runs.fn rfl call20 rfl) (by decide) (by decide) rfl trivial ?_
    rintro v3 ρ3 L3 ⟨rfl,rfl,rfl⟩
    refine ⟨rfl,fun hle3=>⟨Kp.true,?_⟩⟩
    refine Jp.y 42 rfl (qaa rfl) rfl rfl Kp.true (Y.move rfl rfl) ?_
    refine Jp.y 51 rfl (qaa rfl) rfl rfl Kp.true (Y.extract rfl rfl rfl) ?_
    refine Jp.y 52 rfl (qaa rfl) rfl rfl Kp.true (Y.extract rfl rfl rfl) ?_
    refine Jp.y 10 rfl (qaa rfl) rfl rfl Kp.true (Y.assign rfl rfl) ?_
    refine Jp.y 11 rfl (qaa rfl) rfl rfl Kp.true (Y.assign rfl rfl) ?_
    refine Jp.qae hK17 ?_
    refine Cd.qac [(0,false),(1,false),(2,false),(3,false),(4,false),(5,false)] rfl rfl ?_
    refine Jp.y 53 rfl (qaa rfl) rfl rfl Kp.true (Y.move rfl rfl) ?_
    refine Jp.y 54 rfl (qaa rfl) rfl rfl Kp.true (Y.move rfl rfl) ?_
    refine Jp.y 55 rfl (qaa rfl) rfl rfl Kp.true (Y.qap rfl rfl underlying24 underlying5 (by exact wrap_u8 (by omega) (by omega))) ?_
    refine Jp.y 56 rfl (qaa rfl) rfl rfl Kp.true (by exact Y.qad rfl rfl underlying64 rfl sizeOf62 (by decide) (show _ + 2 = _ from rfl)) ?_
    refine Jp.y 57 rfl (qaa rfl) rfl rfl Kp.true (Y.qcg (q:=2 + k) rfl rfl rfl underlying62 sizeOf5 (by omega) (by omega) (by omega)) ?_
    refine Jp.qen 8 (Pt b8 (.cells (qbm (y.1,⟨partB y.2.b (k + 1),y.2.perm⟩)).toArray 64)) rfl (qaa rfl) rfl rfl sizeOf5 rfl rfl rfl rfl rfl (SetC.pt (by rw [List.size_toArray,qda (partB_len hlen (by omega))]; omega) (qam _) (by rw [← partB_set hlen hk2]; exact refPg_setByte (x:=(y.1,⟨partB y.2.b k,y.2.perm⟩)) (partB_len hlen (by omega)) hk2 _)) Kp.true ?_
    refine Jp.over rfl hK16 ?_
    refine Cd.qac [(0,false),(1,false),(2,false)] rfl rfl ?_
    refine Jp.y 40 rfl (qaa rfl) rfl rfl Kp.true (Y.move rfl rfl) ?_
    refine Jp.y 41 rfl (qaa rfl) rfl rfl Kp.true (Y.qbx rfl rfl rfl (by exact qax (by omega) (by omega))) ?_
    refine Jp.y 9 rfl (qaa rfl) rfl rfl Kp.true (Y.assign rfl rfl) ?_
    refine Jp.slot 9 rfl (show _ = Value.int .u32 ((k + 1 : Nat) : Int) from rfl) ?_
    refine Jp.again hLb (k + 1) hk2 (by omega) rfl ⟨rfl,rfl,rfl,rfl,rfl,rfl,trivial⟩ ⟨rfl,rfl,rfl,rfl,rfl,trivial⟩
   ·have hk2 : k = 256:=by simp at gb; omega
    rw [hk2,partB_all hlen]
    refine Cd.exit rfl hK11 ?_
    exact Cd.qdz (hj1 () trivial) ⟨rfl,rfl,rfl,rfl,rfl,trivial⟩ ⟨rfl,rfl,rfl,rfl,rfl,trivial⟩
 ·have hi : i = M.pages.length:=by simp at ga; omega
  refine Cd.exit rfl hK4 ?_
  refine Cd.seq fun K18 hK18=>?_
  refine Cd.qac [(0,false),(1,false)] rfl rfl ?_
  refine Jp.y 68 rfl (qaa rfl) rfl rfl Kp.true (Y.move rfl rfl) ?_
  refine Jp.y 4 rfl (qaa rfl) rfl rfl Kp.true (Y.assign rfl rfl) ?_
  refine Jp.qae hK18 ?_
  refine Cd.ret [(0,_),(1,_),(2,_)] rfl (qba rfl rfl) ⟨rfl,rfl,rfl,trivial⟩ ⟨b1,PA,pc,rfl,by rw [hi,List.take_length]⟩
end Go.Proofs.YthjelpbaljapiaaGreat
