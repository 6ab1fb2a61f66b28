import Derived.Test.YtnfkalpgidiafaaGreatZP7
set_option linter.unusedVariables false
set_option linter.unusedSimpArgs false
set_option maxRecDepth 100000
namespace Go.Proofs.YtnfkalpgidiafaaGreat
open _root_.Go.Proofs.Tryz
open Go
theorem aget {d : Array Nat} {i : Nat} (h : i < d.size) : d.toList[i]? = some d[i]!:=by
 rw [getElem!_pos d i h]; simp
theorem qed {b n c i : Nat} {d : Array Nat} (h : i < d.size) : HasC (qdp (some ⟨b,0,none⟩) n c d) ((⟨b,0,none⟩ : Addr).add i) (.int .u32 (d[i]! : Int)):=OwnS.hasC (natsV_get .u32 (aget h))
theorem swpL (d : Array Nat) (i j : Nat) : (Go.Sort.swp d i j).toList = (d.toList.set i d[j]!).set j d[i]!:=by simp [Go.Sort.swp]
theorem sift_step {hi first r ch : Nat} {d : Array Nat} (hch : ch < hi) (h : (ch = 2 * r + 1 ∧ (2 * r + 2 < hi → ltN d[first + (2 * r + 1)]! d[first + (2 * r + 2)]! = false)) ∨ (ch = 2 * r + 2 ∧ ltN d[first + (2 * r + 1)]! d[first + (2 * r + 2)]! = true)) :
  Go.Sort.siftDown ltN hi first r d = if (!ltN d[first + r]! d[first + ch]!) = true then d else Go.Sort.siftDown ltN hi first ch (Go.Sort.swp d (first + r) (first + ch)):=by
 rw [Go.Sort.siftDown]
 rcases h with ⟨rfl,h2⟩ | ⟨rfl,h2⟩
 ·rw [dif_neg (by omega),if_neg]
  simp only [Bool.and_eq_true,decide_eq_true_eq,not_and,Bool.not_eq_true]
  intro h3
  exact h2 (by omega)
 ·rw [dif_neg (by omega),if_pos (by simp only [Bool.and_eq_true,decide_eq_true_eq]; exact ⟨by omega,h2⟩),dif_pos hch]
theorem sift_spec (A : Option Addr) (n c : Nat) (d0 : Array Nat) (lo hi first : Nat) (hd : d0.size = n) (hf : first + hi ≤ n) (hlo : lo ≤ 4096) (hn : n ≤ 4096) : Spec Tryz.prog 114 #[.slice A n c,.int .i64 lo,.int .i64 hi,.int .i64 first] (fun _=>True) [(0,qdp A n c d0)]
  (fun ρ ρ' v L=>ρ' = ρ ∧ v = .tuple #[] ∧ L = [(0,qdp A n c (Go.Sort.siftDown ltN hi first lo d0))]):=by
 refine Spec.of 76 Tryz.func114 rfl Tryz.ntmps114 [(0,_),(1,_),(2,_),(3,_)] rfl rfl ?_
 intro cx ρ hr h0
 refine Cd.seq fun K1 hK1=>?_
 refine Cd.qac [(0,false),(1,false)] rfl rfl ?_
 refine Jp.y 10 rfl (qaa rfl) rfl rfl Kp.true (Y.move rfl rfl) ?_
 refine Jp.y 8 rfl (qaa rfl) rfl rfl Kp.true (Y.assign rfl rfl) ?_
 refine Jp.qae hK1 ?_
 refine Cd.block ?_
 refine Cd.qcr (G:=Nat × Array Nat) (fun g=>Go.Sort.siftDown ltN hi first g.1 g.2 = Go.Sort.siftDown ltN hi first lo d0 ∧ g.1 ≤ 4096 ∧ g.2.size = n) (fun g=>4097 - g.1) (fun _=>_) (fun g=>[(8,.int .i64 (g.1 : Int))]) [(0,_),(2,_),(3,_)] (fun g=>[(0,qdp A n c g.2)]) [] ⟨lo,d0⟩ ⟨rfl,hlo,hd⟩ rfl ⟨rfl,trivial⟩ ⟨rfl,rfl,rfl,trivial⟩ ⟨rfl,trivial⟩ trivial (fun g KLa hok hLa=>?_)
 obtain ⟨r,d⟩:=g
 obtain ⟨ok1,ok2,ok3⟩:=hok
 dsimp only at ok1 ok2 ok3 ⊢
 refine Cd.block ?_
 refine Cd.seq fun K2 hK2=>?_
 refine Cd.qac [(0,false),(1,false),(2,false),(3,false)] rfl rfl ?_
 refine Jp.y 11 rfl (qaa rfl) rfl rfl Kp.true (Y.move rfl rfl) ?_
 refine Jp.y 12 rfl (qaa rfl) rfl rfl Kp.true (Y.mul_ rfl rfl rfl (by exact qaf (by omega) (by omega))) ?_
 refine Jp.y 13 rfl (qaa rfl) rfl rfl Kp.true (Y.qbq rfl rfl rfl (by exact qaf (by omega) (by omega))) ?_
 refine Jp.y 9 rfl (qaa rfl) rfl rfl Kp.true (Y.assign rfl rfl) ?_
 refine Jp.qae hK2 ?_
 refine Cd.seq fun K3 hK3=>?_
 refine Cd.seq fun K4 hK4=>?_
 refine Cd.qac [(0,false),(1,false),(2,false)] rfl rfl ?_
 refine Jp.y 14 rfl (qaa rfl) rfl rfl Kp.true (Y.move rfl rfl) ?_
 refine Jp.y 15 rfl (qaa rfl) rfl rfl Kp.true (Y.move rfl rfl) ?_
 refine Jp.y 16 rfl (qaa rfl) rfl rfl Kp.true (Y.geq rfl rfl rfl) ?_
 refine Jp.qae hK4 ?_
 refine Cd.qaq rfl (fun ga=>?_) (fun ga=>?_)
 ·simp only [decide_eq_true_eq] at ga
  have e : Go.Sort.siftDown ltN hi first r d = d:=by rw [Go.Sort.siftDown,dif_pos (by omega)]
  refine Cdx.end [(0,_)] rfl (res0 rfl) ⟨rfl,trivial⟩ ⟨rfl,rfl,by rw [← ok1,e]⟩
 ·simp only [decide_eq_false_iff_not] at ga
  have hhi : 2 * r + 1 < hi:=by omega
  refine Cd.ownAt 0 rfl (show 0 < n by omega) ?_
  rintro b rfl
  have hxr : first + r < d.size:=by omega
  have cr:=qed (b:=b) (n:=n) (c:=c) hxr
  refine Cd.qbp hK3 ?_
  refine Cd.seq fun K5 hK5=>?_
  refine Cd.seq fun K6 hK6=>?_
  refine Cd.drawn [(0,_)] ⟨rfl,trivial⟩ [(0,true),(1,true),(2,true),(3,true),(4,true),(5,true),(6,true),(7,true),(8,true),(9,true),(10,true),(11,true),(12,true),(13,true),(14,true),(15,true),(16,true),(17,true),(18,false),(19,true)] follows (by kernel_rfl) (fun hrl=>?_)
  refine Jp.q 17 rfl (qaa rfl) rfl rfl (Y.move rfl rfl) ?_
  refine Jp.q 18 rfl (qaa rfl) rfl rfl (Y.qbq rfl rfl rfl (by exact qaf (by omega) (by omega))) ?_
  refine Jp.q 19 rfl (qaa rfl) rfl rfl (Y.move rfl rfl) ?_
  refine Jp.q 20 rfl (qaa rfl) rfl rfl (Y.lss rfl rfl rfl) ?_
  refine Jp.q 21 rfl (qaa rfl) rfl rfl (Y.move rfl rfl) ?_
  refine Jp.qel 21 rfl (fun g21=>?_) (fun g21=>?_)
  ·skip
   have hno : ¬ 2 * r + 2 < hi:=by simp only [decide_eq_false_iff_not] at g21; omega
   have hst:=sift_step (d:=d) (first:=first) hhi (.inl ⟨rfl,fun h=>absurd h hno⟩)
   refine Jp.qbb 22 rfl (qab rfl rfl rfl rfl) rfl rfl ?_
   refine Jp.qbb 23 rfl (qab rfl rfl rfl rfl) rfl rfl ?_
   refine Jp.qbb 24 rfl (qab rfl rfl rfl rfl) rfl rfl ?_
   refine Jp.qbb 25 rfl (qab rfl rfl rfl rfl) rfl rfl ?_
   refine Jp.qbb 26 rfl (qab rfl rfl rfl rfl) rfl rfl ?_
   refine Jp.qbb 27 rfl (qab rfl rfl rfl rfl) rfl rfl ?_
   refine Jp.qbb 28 rfl (qab rfl rfl rfl rfl) rfl rfl ?_
   refine Jp.qbb 29 rfl (qab rfl rfl rfl rfl) rfl rfl ?_
   refine Jp.qbb 30 rfl (qab rfl rfl rfl rfl) rfl rfl ?_
   refine Jp.qbb 31 rfl (qab rfl rfl rfl rfl) rfl rfl ?_
   refine Jp.qbb 32 rfl (qab rfl rfl rfl rfl) rfl rfl ?_
   refine Jp.qbb 33 rfl (qab rfl rfl rfl rfl) rfl rfl ?_
   refine Jp.qbb 34 rfl (qab rfl rfl rfl rfl) rfl rfl ?_
   refine Jp.qar 35 rfl (qab rfl rfl rfl rfl) rfl rfl (Kp.st ⟨rfl,trivial⟩) ?_
   refine Jp.q 36 rfl (qaa rfl) rfl rfl (Y.qay rfl rfl rfl) ?_
   refine Jp.qae hK6 ?_
   refine Cd.qbs rfl ?_
   refine Cd.qbp hK5 ?_
   refine Cd.seq fun K8 hK8=>?_
   refine Cd.seq fun K9 hK9=>?_
   refine Cd.drawn [(0,_)] ⟨rfl,trivial⟩ [(0,true),(1,true),(2,true),(3,true),(4,true),(5,true),(6,true),(7,true),(8,true),(9,true),(10,true),(11,true),(12,false),(13,true)] follows (by kernel_rfl) (fun hrl=>?_)
   refine Jp.slot 9 rfl (show _ = Value.int .i64 ((2 * r + 1 : Nat) : Int) from congrArg (Value.int .i64) (by omega)) ?_
   have hxc : first + (2 * r + 1) < d.size:=by omega
   have cc:=qed (b:=b) (n:=n) (c:=c) hxc
   refine Jp.q 39 rfl (qaa rfl) rfl rfl (Y.move rfl rfl) ?_
   refine Jp.q 40 rfl (qaa rfl) rfl rfl (Y.move rfl rfl) ?_
   refine Jp.q 41 rfl (qaa rfl) rfl rfl (Y.move rfl rfl) ?_
   refine Jp.q 42 rfl (qaa rfl) rfl rfl (Y.qbq rfl rfl rfl (by exact qaf (by omega) (by omega))) ?_
   refine Jp.q 43 rfl (qaa rfl) rfl rfl (Y.qag (q:=first + r) rfl rfl rfl underlying22 sizeOf24 (by omega) (by omega) (by omega)) ?_
   refine Jp.q 44 rfl (qaa rfl) rfl rfl (by exact Y.qas 0 rfl isAgg24 rfl rfl cr) ?_
   refine Jp.q 45 rfl (qaa rfl) rfl rfl (Y.move rfl rfl) ?_
   refine Jp.q 46 rfl (qaa rfl) rfl rfl (Y.move rfl rfl) ?_
   refine Jp.q 47 rfl (qaa rfl) rfl rfl (Y.move rfl rfl) ?_
   refine Jp.q 48 rfl (qaa rfl) rfl rfl (Y.qbq rfl rfl rfl (by exact qaf (by omega) (by omega))) ?_
   refine Jp.q 49 rfl (qaa rfl) rfl rfl (Y.qag (q:=first + (2 * r + 1)) rfl rfl rfl underlying22 sizeOf24 (by omega) (by omega) (by omega)) ?_
   refine Jp.q 50 rfl (qaa rfl) rfl rfl (by exact Y.qas 0 rfl isAgg24 rfl rfl cc) ?_
   refine Jp.call [] [] (qbw d[first + r]! d[first + (2 * r + 1)]!) 51 rfl (qaa rfl) rfl rfl (Runs.fn rfl call108 rfl) (by decide) (by decide) rfl trivial ?_
   rintro v2 ρ2 L2 ⟨rfl,rfl,rfl⟩
   refine ⟨rfl,fun hle2=>⟨(Kp.st ⟨rfl,trivial⟩),?_⟩⟩
   refine Jp.q 52 rfl (qaa rfl) rfl rfl (Y.not rfl rfl) ?_
   refine Jp.qae hK9 ?_
   refine Cd.qaq rfl (fun gl=>?_) (fun gl=>?_)
   ·have e : Go.Sort.siftDown ltN hi first r d = d:=by rw [hst,if_pos gl]
    refine Cd.ret [(0,_)] rfl (res0 rfl) ⟨rfl,trivial⟩ ⟨rfl,rfl,by rw [← ok1,e]⟩
   ·rw [gl,if_neg (by simp)] at hst
    refine Cd.qbp hK8 ?_
    refine Cd.seq fun K11 hK11=>?_
    refine Cd.qcl [(0,_)] ⟨rfl,trivial⟩ [(4,true),(5,true),(6,true),(7,true)] [(0,true),(1,true),(2,true),(3,true),(8,true),(9,true),(10,true),(11,true),(12,true),(13,true),(14,true),(15,true),(16,true),(17,true),(18,true),(19,true),(20,true)] 21 [(22,true),(23,false)] follows (by kernel_rfl) (fun hrl=>?_)
    refine Jp2.q 57 rfl (qaa rfl) rfl rfl (fun _=>(Y.move rfl rfl)) ?_
    refine Jp2.q 58 rfl (qaa rfl) rfl rfl (fun _=>(Y.move rfl rfl)) ?_
    refine Jp2.q 59 rfl (qaa rfl) rfl rfl (fun _=>(Y.move rfl rfl)) ?_
    refine Jp2.q 60 rfl (qaa rfl) rfl rfl (fun _=>(Y.qbq rfl rfl rfl (by exact qaf (by omega) (by omega)))) ?_
    refine Jp2.head ?_
    refine Jp.q 53 rfl (qaa rfl) rfl rfl (Y.move rfl rfl) ?_
    refine Jp.q 54 rfl (qaa rfl) rfl rfl (Y.move rfl rfl) ?_
    refine Jp.q 55 rfl (qaa rfl) rfl rfl (Y.move rfl rfl) ?_
    refine Jp.q 56 rfl (qaa rfl) rfl rfl (Y.qbq rfl rfl rfl (by exact qaf (by omega) (by omega))) ?_
    refine Jp.q 61 rfl (qaa rfl) rfl rfl (Y.move rfl rfl) ?_
    refine Jp.q 62 rfl (qaa rfl) rfl rfl (Y.move rfl rfl) ?_
    refine Jp.q 63 rfl (qaa rfl) rfl rfl (Y.move rfl rfl) ?_
    refine Jp.q 64 rfl (qaa rfl) rfl rfl (Y.qbq rfl rfl rfl (by exact qaf (by omega) (by omega))) ?_
    refine Jp.q 65 rfl (qaa rfl) rfl rfl (Y.qag (q:=first + (2 * r + 1)) rfl rfl rfl underlying22 sizeOf24 (by omega) (by omega) (by omega)) ?_
    refine Jp.q 66 rfl (qaa rfl) rfl rfl (by exact Y.qas 0 rfl isAgg24 rfl rfl cc) ?_
    refine Jp.q 67 rfl (qaa rfl) rfl rfl (Y.move rfl rfl) ?_
    refine Jp.q 68 rfl (qaa rfl) rfl rfl (Y.move rfl rfl) ?_
    refine Jp.q 69 rfl (qaa rfl) rfl rfl (Y.move rfl rfl) ?_
    refine Jp.q 70 rfl (qaa rfl) rfl rfl (Y.qbq rfl rfl rfl (by exact qaf (by omega) (by omega))) ?_
    refine Jp.q 71 rfl (qaa rfl) rfl rfl (Y.qag (q:=first + r) rfl rfl rfl underlying22 sizeOf24 (by omega) (by omega) (by omega)) ?_
    refine Jp.q 72 rfl (qaa rfl) rfl rfl (by exact Y.qas 0 rfl isAgg24 rfl rfl cr) ?_
    refine Jp.q 73 rfl (qaa rfl) rfl rfl (Y.qag (q:=first + r) rfl rfl rfl underlying22 sizeOf24 (by omega) (by omega) (by omega)) ?_
    refine Jp2.qct ?_
    refine Jp2.qeo ?_
    refine Jp.qbu 0 (q:=first + r) rfl (qaa rfl) rfl rfl sizeOf24 rfl rfl rfl rfl rfl (by omega) (qbd .u32 (d.toList.set (first + r) d[first + (2 * r + 1)]!)) (qbc _ _ _ _) Kp.true ?_
    refine Jp2.qct ?_
    refine Jp2.q 74 rfl (qaa rfl) rfl rfl (fun _=>(Y.qag (q:=first + (2 * r + 1)) rfl rfl rfl underlying22 sizeOf24 (by omega) (by omega) (by omega))) ?_
    refine Jp2.qeo ?_
    refine Jp.qbu 0 (q:=first + (2 * r + 1)) rfl (qaa rfl) rfl rfl sizeOf24 rfl rfl rfl rfl rfl (by omega) (qbd .u32 (Go.Sort.swp d (first + r) (first + (2 * r + 1))).toList) (by rw [qbc,swpL]) Kp.true ?_
    refine Jp2.qct ?_
    refine Jp2.nil ?_
    refine Jp.qae hK11 ?_
    refine Cd.qac [(0,false),(1,false)] rfl rfl ?_
    refine Jp.y 75 rfl (qaa rfl) rfl rfl Kp.true (Y.move rfl rfl) ?_
    refine Jp.y 8 rfl (qaa rfl) rfl rfl Kp.true (Y.assign rfl rfl) ?_
    refine JpQ.again rfl hLa ⟨2 * r + 1,Go.Sort.swp d (first + r) (first + (2 * r + 1))⟩ ⟨by rw [← ok1,hst],by show (2 * r + 1) ≤ 4096; omega,by rw [qch]; exact ok3⟩ (by show 4097 - (2 * r + 1) < 4097 - r; omega) rfl ⟨rfl,rfl,rfl,rfl,trivial⟩ ⟨rfl,trivial⟩
  try simp only [sG0] at g21
  refine Jp.q 22 rfl (qab rfl rfl rfl rfl) rfl rfl (Y.move rfl rfl) ?_
  have hh2 : 2 * r + 2 < hi:=by omega
  have c1:=qed (b:=b) (n:=n) (c:=c) (d:=d) (i:=first + (2 * r + 1)) (by omega)
  have c2:=qed (b:=b) (n:=n) (c:=c) (d:=d) (i:=first + (2 * r + 2)) (by omega)
  refine Jp.q 23 rfl (qab rfl rfl rfl rfl) rfl rfl (Y.move rfl rfl) ?_
  refine Jp.q 24 rfl (qab rfl rfl rfl rfl) rfl rfl (Y.move rfl rfl) ?_
  refine Jp.q 25 rfl (qab rfl rfl rfl rfl) rfl rfl (Y.qbq rfl rfl rfl (by exact qaf (by omega) (by omega))) ?_
  refine Jp.q 26 rfl (qab rfl rfl rfl rfl) rfl rfl (Y.qag (q:=first + (2 * r + 1)) rfl rfl rfl underlying22 sizeOf24 (by omega) (by omega) (by omega)) ?_
  refine Jp.q 27 rfl (qab rfl rfl rfl rfl) rfl rfl (by exact Y.qas 0 rfl isAgg24 rfl rfl c1) ?_
  refine Jp.q 28 rfl (qab rfl rfl rfl rfl) rfl rfl (Y.move rfl rfl) ?_
  refine Jp.q 29 rfl (qab rfl rfl rfl rfl) rfl rfl (Y.move rfl rfl) ?_
  refine Jp.q 30 rfl (qab rfl rfl rfl rfl) rfl rfl (Y.move rfl rfl) ?_
  refine Jp.q 31 rfl (qab rfl rfl rfl rfl) rfl rfl (Y.qbq rfl rfl rfl (by exact qaf (by omega) (by omega))) ?_
  refine Jp.q 32 rfl (qab rfl rfl rfl rfl) rfl rfl (Y.qbq rfl rfl rfl (by exact qaf (by omega) (by omega))) ?_
  refine Jp.q 33 rfl (qab rfl rfl rfl rfl) rfl rfl (Y.qag (q:=first + (2 * r + 2)) rfl rfl rfl underlying22 sizeOf24 (by omega) (by omega) (by omega)) ?_
  refine Jp.q 34 rfl (qab rfl rfl rfl rfl) rfl rfl (by exact Y.qas 0 rfl isAgg24 rfl rfl c2) ?_
  refine Jp.call [] [] (qbw d[first + (2 * r + 1)]! d[first + (2 * r + 2)]!) 35 rfl (qab rfl rfl rfl rfl) rfl rfl (Runs.fn rfl call108 rfl) (by decide) (by decide) rfl trivial ?_
  rintro v1 ρ1 L1 ⟨rfl,rfl,rfl⟩
  refine ⟨rfl,fun hle1=>⟨(Kp.st ⟨rfl,trivial⟩),?_⟩⟩
  refine Jp.q 36 rfl (qaa rfl) rfl rfl (Y.qav rfl rfl rfl) ?_
  refine Jp.qae hK6 ?_
  refine Cd.qaq rfl (fun gc=>?_) (fun gc=>?_)
  ·have hst:=sift_step (d:=d) (first:=first) hh2 (.inr ⟨rfl,gc⟩)
   refine Cd.qac [(0,false),(1,false),(2,false)] rfl rfl ?_
   refine Jp.y 37 rfl (qaa rfl) rfl rfl Kp.true (Y.move rfl rfl) ?_
   refine Jp.y 38 rfl (qaa rfl) rfl rfl Kp.true (Y.qbq rfl rfl rfl (by exact qaf (by omega) (by omega))) ?_
   refine Jp.y 9 rfl (qaa rfl) rfl rfl Kp.true (Y.assign rfl rfl) ?_
   refine Jp.qae hK5 ?_
   refine Cd.seq fun K12 hK12=>?_
   refine Cd.seq fun K13 hK13=>?_
   refine Cd.drawn [(0,_)] ⟨rfl,trivial⟩ [(0,true),(1,true),(2,true),(3,true),(4,true),(5,true),(6,true),(7,true),(8,true),(9,true),(10,true),(11,true),(12,false),(13,true)] follows (by kernel_rfl) (fun hrl=>?_)
   refine Jp.slot 9 rfl (show _ = Value.int .i64 ((2 * r + 2 : Nat) : Int) from congrArg (Value.int .i64) (by omega)) ?_
   have hxc : first + (2 * r + 2) < d.size:=by omega
   have cc:=qed (b:=b) (n:=n) (c:=c) hxc
   refine Jp.q 39 rfl (qaa rfl) rfl rfl (Y.move rfl rfl) ?_
   refine Jp.q 40 rfl (qaa rfl) rfl rfl (Y.move rfl rfl) ?_
   refine Jp.q 41 rfl (qaa rfl) rfl rfl (Y.move rfl rfl) ?_
   refine Jp.q 42 rfl (qaa rfl) rfl rfl (Y.qbq rfl rfl rfl (by exact qaf (by omega) (by omega))) ?_
   refine Jp.q 43 rfl (qaa rfl) rfl rfl (Y.qag (q:=first + r) rfl rfl rfl underlying22 sizeOf24 (by omega) (by omega) (by omega)) ?_
   refine Jp.q 44 rfl (qaa rfl) rfl rfl (by exact Y.qas 0 rfl isAgg24 rfl rfl cr) ?_
   refine Jp.q 45 rfl (qaa rfl) rfl rfl (Y.move rfl rfl) ?_
   refine Jp.q 46 rfl (qaa rfl) rfl rfl (Y.move rfl rfl) ?_
   refine Jp.q 47 rfl (qaa rfl) rfl rfl (Y.move rfl rfl) ?_
   refine Jp.q 48 rfl (qaa rfl) rfl rfl (Y.qbq rfl rfl rfl (by exact qaf (by omega) (by omega))) ?_
   refine Jp.q 49 rfl (qaa rfl) rfl rfl (Y.qag (q:=first + (2 * r + 2)) rfl rfl rfl underlying22 sizeOf24 (by omega) (by omega) (by omega)) ?_
   refine Jp.q 50 rfl (qaa rfl) rfl rfl (by exact Y.qas 0 rfl isAgg24 rfl rfl cc) ?_
   refine Jp.call [] [] (qbw d[first + r]! d[first + (2 * r + 2)]!) 51 rfl (qaa rfl) rfl rfl (Runs.fn rfl call108 rfl) (by decide) (by decide) rfl trivial ?_
   rintro v2 ρ2 L2 ⟨rfl,rfl,rfl⟩
   refine ⟨rfl,fun hle2=>⟨(Kp.st ⟨rfl,trivial⟩),?_⟩⟩
   refine Jp.q 52 rfl (qaa rfl) rfl rfl (Y.not rfl rfl) ?_
   refine Jp.qae hK13 ?_
   refine Cd.qaq rfl (fun gl=>?_) (fun gl=>?_)
   ·have e : Go.Sort.siftDown ltN hi first r d = d:=by rw [hst,if_pos gl]
    refine Cd.ret [(0,_)] rfl (res0 rfl) ⟨rfl,trivial⟩ ⟨rfl,rfl,by rw [← ok1,e]⟩
   ·rw [gl,if_neg (by simp)] at hst
    refine Cd.qbp hK12 ?_
    refine Cd.seq fun K15 hK15=>?_
    refine Cd.qcl [(0,_)] ⟨rfl,trivial⟩ [(4,true),(5,true),(6,true),(7,true)] [(0,true),(1,true),(2,true),(3,true),(8,true),(9,true),(10,true),(11,true),(12,true),(13,true),(14,true),(15,true),(16,true),(17,true),(18,true),(19,true),(20,true)] 21 [(22,true),(23,false)] follows (by kernel_rfl) (fun hrl=>?_)
    refine Jp2.q 57 rfl (qaa rfl) rfl rfl (fun _=>(Y.move rfl rfl)) ?_
    refine Jp2.q 58 rfl (qaa rfl) rfl rfl (fun _=>(Y.move rfl rfl)) ?_
    refine Jp2.q 59 rfl (qaa rfl) rfl rfl (fun _=>(Y.move rfl rfl)) ?_
    refine Jp2.q 60 rfl (qaa rfl) rfl rfl (fun _=>(Y.qbq rfl rfl rfl (by exact qaf (by omega) (by omega)))) ?_
    refine Jp2.head ?_
    refine Jp.q 53 rfl (qaa rfl) rfl rfl (Y.move rfl rfl) ?_
    refine Jp.q 54 rfl (qaa rfl) rfl rfl (Y.move rfl rfl) ?_
    refine Jp.q 55 rfl (qaa rfl) rfl rfl (Y.move rfl rfl) ?_
    refine Jp.q 56 rfl (qaa rfl) rfl rfl (Y.qbq rfl rfl rfl (by exact qaf (by omega) (by omega))) ?_
    refine Jp.q 61 rfl (qaa rfl) rfl rfl (Y.move rfl rfl) ?_
    refine Jp.q 62 rfl (qaa rfl) rfl rfl (Y.move rfl rfl) ?_
    refine Jp.q 63 rfl (qaa rfl) rfl rfl (Y.move rfl rfl) ?_
    refine Jp.q 64 rfl (qaa rfl) rfl rfl (Y.qbq rfl rfl rfl (by exact qaf (by omega) (by omega))) ?_
    refine Jp.q 65 rfl (qaa rfl) rfl rfl (Y.qag (q:=first + (2 * r + 2)) rfl rfl rfl underlying22 sizeOf24 (by omega) (by omega) (by omega)) ?_
    refine Jp.q 66 rfl (qaa rfl) rfl rfl (by exact Y.qas 0 rfl isAgg24 rfl rfl cc) ?_
    refine Jp.q 67 rfl (qaa rfl) rfl rfl (Y.move rfl rfl) ?_
    refine Jp.q 68 rfl (qaa rfl) rfl rfl (Y.move rfl rfl) ?_
    refine Jp.q 69 rfl (qaa rfl) rfl rfl (Y.move rfl rfl) ?_
    refine Jp.q 70 rfl (qaa rfl) rfl rfl (Y.qbq rfl rfl rfl (by exact qaf (by omega) (by omega))) ?_
    refine Jp.q 71 rfl (qaa rfl) rfl rfl (Y.qag (q:=first + r) rfl rfl rfl underlying22 sizeOf24 (by omega) (by omega) (by omega)) ?_
    refine Jp.q 72 rfl (qaa rfl) rfl rfl (by exact Y.qas 0 rfl isAgg24 rfl rfl cr) ?_
    refine Jp.q 73 rfl (qaa rfl) rfl rfl (Y.qag (q:=first + r) rfl rfl rfl underlying22 sizeOf24 (by omega) (by omega) (by omega)) ?_
    refine Jp2.qct ?_
    refine Jp2.qeo ?_
    refine Jp.qbu 0 (q:=first + r) rfl (qaa rfl) rfl rfl sizeOf24 rfl rfl rfl rfl rfl (by omega) (qbd .u32 (d.toList.set (first + r) d[first + (2 * r + 2)]!)) (qbc _ _ _ _) Kp.true ?_
    refine Jp2.qct ?_
    refine Jp2.q 74 rfl (qaa rfl) rfl rfl (fun _=>(Y.qag (q:=first + (2 * r + 2)) rfl rfl rfl underlying22 sizeOf24 (by omega) (by omega) (by omega))) ?_
    refine Jp2.qeo ?_
    refine Jp.qbu 0 (q:=first + (2 * r + 2)) rfl (qaa rfl) rfl rfl sizeOf24 rfl rfl rfl rfl rfl (by omega) (qbd .u32 (Go.Sort.swp d (first + r) (first + (2 * r + 2))).toList) (by rw [qbc,swpL]) Kp.true ?_
    refine Jp2.qct ?_
    refine Jp2.nil ?_
    refine Jp.qae hK15 ?_
    refine Cd.qac [(0,false),(1,false)] rfl rfl ?_
    refine Jp.y 75 rfl (qaa rfl) rfl rfl Kp.true (Y.move rfl rfl) ?_
    refine Jp.y 8 rfl (qaa rfl) rfl rfl Kp.true (Y.assign rfl rfl) ?_
    refine JpQ.again rfl hLa ⟨2 * r + 2,Go.Sort.swp d (first + r) (first + (2 * r + 2))⟩ ⟨by rw [← ok1,hst],by show (2 * r + 2) ≤ 4096; omega,by rw [qch]; exact ok3⟩ (by show 4097 - (2 * r + 2) < 4097 - r; omega) rfl ⟨rfl,rfl,rfl,rfl,trivial⟩ ⟨rfl,trivial⟩
  ·have hst:=sift_step (d:=d) (first:=first) hhi (.inl ⟨rfl,fun _=>gc⟩)
   refine Cd.qbp hK5 ?_
   refine Cd.seq fun K16 hK16=>?_
   refine Cd.seq fun K17 hK17=>?_
   refine Cd.drawn [(0,_)] ⟨rfl,trivial⟩ [(0,true),(1,true),(2,true),(3,true),(4,true),(5,true),(6,true),(7,true),(8,true),(9,true),(10,true),(11,true),(12,false),(13,true)] follows (by kernel_rfl) (fun hrl=>?_)
   refine Jp.slot 9 rfl (show _ = Value.int .i64 ((2 * r + 1 : Nat) : Int) from congrArg (Value.int .i64) (by omega)) ?_
   have hxc : first + (2 * r + 1) < d.size:=by omega
   have cc:=qed (b:=b) (n:=n) (c:=c) hxc
   refine Jp.q 39 rfl (qaa rfl) rfl rfl (Y.move rfl rfl) ?_
   refine Jp.q 40 rfl (qaa rfl) rfl rfl (Y.move rfl rfl) ?_
   refine Jp.q 41 rfl (qaa rfl) rfl rfl (Y.move rfl rfl) ?_
   refine Jp.q 42 rfl (qaa rfl) rfl rfl (Y.qbq rfl rfl rfl (by exact qaf (by omega) (by omega))) ?_
   refine Jp.q 43 rfl (qaa rfl) rfl rfl (Y.qag (q:=first + r) rfl rfl rfl underlying22 sizeOf24 (by omega) (by omega) (by omega)) ?_
   refine Jp.q 44 rfl (qaa rfl) rfl rfl (by exact Y.qas 0 rfl isAgg24 rfl rfl cr) ?_
   refine Jp.q 45 rfl (qaa rfl) rfl rfl (Y.move rfl rfl) ?_
   refine Jp.q 46 rfl (qaa rfl) rfl rfl (Y.move rfl rfl) ?_
   refine Jp.q 47 rfl (qaa rfl) rfl rfl (Y.move rfl rfl) ?_
   refine Jp.q 48 rfl (qaa rfl) rfl rfl (Y.qbq rfl rfl rfl (by exact qaf (by omega) (by omega))) ?_
   refine Jp.q 49 rfl (qaa rfl) rfl rfl (Y.qag (q:=first + (2 * r + 1)) rfl rfl rfl underlying22 sizeOf24 (by omega) (by omega) (by omega)) ?_
   refine Jp.q 50 rfl (qaa rfl) rfl rfl (by exact Y.qas 0 rfl isAgg24 rfl rfl cc) ?_
   refine Jp.call [] [] (qbw d[first + r]! d[first + (2 * r + 1)]!) 51 rfl (qaa rfl) rfl rfl (Runs.fn rfl call108 rfl) (by decide) (by decide) rfl trivial ?_
   rintro v2 ρ2 L2 ⟨rfl,rfl,rfl⟩
   refine ⟨rfl,fun hle2=>⟨(Kp.st ⟨rfl,trivial⟩),?_⟩⟩
   refine Jp.q 52 rfl (qaa rfl) rfl rfl (Y.not rfl rfl) ?_
   refine Jp.qae hK17 ?_
   refine Cd.qaq rfl (fun gl=>?_) (fun gl=>?_)
   ·have e : Go.Sort.siftDown ltN hi first r d = d:=by rw [hst,if_pos gl]
    refine Cd.ret [(0,_)] rfl (res0 rfl) ⟨rfl,trivial⟩ ⟨rfl,rfl,by rw [← ok1,e]⟩
   ·rw [gl,if_neg (by simp)] at hst
    refine Cd.qbp hK16 ?_
    refine Cd.seq fun K19 hK19=>?_
    refine Cd.qcl [(0,_)] ⟨rfl,trivial⟩ [(4,true),(5,true),(6,true),(7,true)] [(0,true),(1,true),(2,true),(3,true),(8,true),(9,true),(10,true),(11,true),(12,true),(13,true),(14,true),(15,true),(16,true),(17,true),(18,true),(19,true),(20,true)] 21 [(22,true),(23,false)] follows (by kernel_rfl) (fun hrl=>?_)
    refine Jp2.q 57 rfl (qaa rfl) rfl rfl (fun _=>(Y.move rfl rfl)) ?_
    refine Jp2.q 58 rfl (qaa rfl) rfl rfl (fun _=>(Y.move rfl rfl)) ?_
    refine Jp2.q 59 rfl (qaa rfl) rfl rfl (fun _=>(Y.move rfl rfl)) ?_
    refine Jp2.q 60 rfl (qaa rfl) rfl rfl (fun _=>(Y.qbq rfl rfl rfl (by exact qaf (by omega) (by omega)))) ?_
    refine Jp2.head ?_
    refine Jp.q 53 rfl (qaa rfl) rfl rfl (Y.move rfl rfl) ?_
    refine Jp.q 54 rfl (qaa rfl) rfl rfl (Y.move rfl rfl) ?_
    refine Jp.q 55 rfl (qaa rfl) rfl rfl (Y.move rfl rfl) ?_
    refine Jp.q 56 rfl (qaa rfl) rfl rfl (Y.qbq rfl rfl rfl (by exact qaf (by omega) (by omega))) ?_
    refine Jp.q 61 rfl (qaa rfl) rfl rfl (Y.move rfl rfl) ?_
    refine Jp.q 62 rfl (qaa rfl) rfl rfl (Y.move rfl rfl) ?_
    refine Jp.q 63 rfl (qaa rfl) rfl rfl (Y.move rfl rfl) ?_
    refine Jp.q 64 rfl (qaa rfl) rfl rfl (Y.qbq rfl rfl rfl (by exact qaf (by omega) (by omega))) ?_
    refine Jp.q 65 rfl (qaa rfl) rfl rfl (Y.qag (q:=first + (2 * r + 1)) rfl rfl rfl underlying22 sizeOf24 (by omega) (by omega) (by omega)) ?_
    refine Jp.q 66 rfl (qaa rfl) rfl rfl (by exact Y.qas 0 rfl isAgg24 rfl rfl cc) ?_
    refine Jp.q 67 rfl (qaa rfl) rfl rfl (Y.move rfl rfl) ?_
    refine Jp.q 68 rfl (qaa rfl) rfl rfl (Y.move rfl rfl) ?_
    refine Jp.q 69 rfl (qaa rfl) rfl rfl (Y.move rfl rfl) ?_
    refine Jp.q 70 rfl (qaa rfl) rfl rfl (Y.qbq rfl rfl rfl (by exact qaf (by omega) (by omega))) ?_
    refine Jp.q 71 rfl (qaa rfl) rfl rfl (Y.qag (q:=first + r) rfl rfl rfl underlying22 sizeOf24 (by omega) (by omega) (by omega)) ?_
    refine Jp.q 72 rfl (qaa rfl) rfl rfl (by exact Y.qas 0 rfl isAgg24 rfl rfl cr) ?_
    refine Jp.q 73 rfl (qaa rfl) rfl rfl (Y.qag (q:=first + r) rfl rfl rfl underlying22 sizeOf24 (by omega) (by omega) (by omega)) ?_
    refine Jp2.qct ?_
    refine Jp2.qeo ?_
    refine Jp.qbu 0 (q:=first + r) rfl (qaa rfl) rfl rfl sizeOf24 rfl rfl rfl rfl rfl (by omega) (qbd .u32 (d.toList.set (first + r) d[first + (2 * r + 1)]!)) (qbc _ _ _ _) Kp.true ?_
    refine Jp2.qct ?_
    refine Jp2.q 74 rfl (qaa rfl) rfl rfl (fun _=>(Y.qag (q:=first + (2 * r + 1)) rfl rfl rfl underlying22 sizeOf24 (by omega) (by omega) (by omega))) ?_
    refine Jp2.qeo ?_
    refine Jp.qbu 0 (q:=first + (2 * r + 1)) rfl (qaa rfl) rfl rfl sizeOf24 rfl rfl rfl rfl rfl (by omega) (qbd .u32 (Go.Sort.swp d (first + r) (first + (2 * r + 1))).toList) (by rw [qbc,swpL]) Kp.true ?_
    refine Jp2.qct ?_
    refine Jp2.nil ?_
    refine Jp.qae hK19 ?_
    refine Cd.qac [(0,false),(1,false)] rfl rfl ?_
    refine Jp.y 75 rfl (qaa rfl) rfl rfl Kp.true (Y.move rfl rfl) ?_
    refine Jp.y 8 rfl (qaa rfl) rfl rfl Kp.true (Y.assign rfl rfl) ?_
    refine JpQ.again rfl hLa ⟨2 * r + 1,Go.Sort.swp d (first + r) (first + (2 * r + 1))⟩ ⟨by rw [← ok1,hst],by show (2 * r + 1) ≤ 4096; omega,by rw [qch]; exact ok3⟩ (by show 4097 - (2 * r + 1) < 4097 - r; omega) rfl ⟨rfl,rfl,rfl,rfl,trivial⟩ ⟨rfl,trivial⟩
theorem qhs (hi first : Nat) : ∀ (m r : Nat) (d : Array Nat),hi - r ≤ m → (Go.Sort.siftDown ltN hi first r d).size = d.size:=by
 intro m
 induction m with
 | zero=>intro r d h; rw [Go.Sort.siftDown,dif_pos (by omega)]
 | succ m ih =>
  intro r d h
  rw [Go.Sort.siftDown]
  split
  ·rfl
  ·split
   ·split
    ·rfl
    ·split
     ·rw [ih _ _ (by omega),qch]
     ·rfl
   ·split
    ·rfl
    ·rw [ih _ _ (by omega),qch]
theorem heap_spec (A : Option Addr) (n c : Nat) (d0 : Array Nat) (a e : Nat) (hd : d0.size = n) (hae : a < e) (hen : e ≤ n) (hn : n ≤ 4096) : Spec Tryz.prog 103 #[.slice A n c,.int .i64 a,.int .i64 e] (fun _=>True) [(0,qdp A n c d0)]
  (fun ρ ρ' v L=>ρ' = ρ ∧ v = .tuple #[] ∧ L = [(0,qdp A n c (Go.Sort.heapSort ltN d0 a e))]):=by
 refine Spec.of 56 Tryz.func103 rfl Tryz.ntmps103 [(0,_),(1,_),(2,_)] rfl rfl ?_
 intro cx ρ hr h0
 obtain ⟨hi,hhi⟩ : ∃ hi,hi = e - a:=⟨_,rfl⟩
 obtain ⟨d1,hd1⟩ : ∃ d1,d1 = Go.Sort.heapBuild ltN hi a ((hi - 1) / 2 + 1) d0:=⟨_,rfl⟩
 refine Cd.seq fun K20 hK20=>?_
 refine Cd.qac [(0,false),(1,false)] rfl rfl ?_
 refine Jp.y 11 rfl (qaa rfl) rfl rfl Kp.true (Y.move rfl rfl) ?_
 refine Jp.y 6 rfl (qaa rfl) rfl rfl Kp.true (Y.assign rfl rfl) ?_
 refine Jp.qae hK20 ?_
 refine Cd.seq fun K21 hK21=>?_
 refine Cd.qac [(0,false)] rfl rfl ?_
 refine Jp.y 7 rfl (qaa rfl) rfl rfl Kp.true (Y.assign rfl rfl) ?_
 refine Jp.qae hK21 ?_
 refine Cd.seq fun K22 hK22=>?_
 refine Cd.qac [(0,false),(1,false),(2,false),(3,false)] rfl rfl ?_
 refine Jp.y 12 rfl (qaa rfl) rfl rfl Kp.true (Y.move rfl rfl) ?_
 refine Jp.y 13 rfl (qaa rfl) rfl rfl Kp.true (Y.move rfl rfl) ?_
 refine Jp.y 14 rfl (qaa rfl) rfl rfl Kp.true (Y.qcp rfl rfl rfl (by exact qaf (by omega) (by omega))) ?_
 refine Jp.y 8 rfl (qaa rfl) rfl rfl Kp.true (Y.assign rfl rfl) ?_
 refine Jp.qae hK22 ?_
 refine Cd.seq fun K23 hK23=>?_
 refine Cd.seq fun K24 hK24=>?_
 refine Cd.qac [(0,false),(1,false),(2,false),(3,false)] rfl rfl ?_
 refine Jp.slot 8 rfl (show _ = Value.int .i64 (hi : Int) from congrArg (Value.int .i64) (by omega)) ?_
 refine Jp.y 15 rfl (qaa rfl) rfl rfl Kp.true (Y.move rfl rfl) ?_
 refine Jp.y 16 rfl (qaa rfl) rfl rfl Kp.true (Y.qcp rfl rfl rfl (by exact qaf (by omega) (by omega))) ?_
 refine Jp.y 17 rfl (qaa rfl) rfl rfl Kp.true (by exact Y.quoN rfl rfl rfl (by omega) (by omega) (qaf (by omega) (by omega))) ?_
 refine Jp.y 9 rfl (qaa rfl) rfl rfl Kp.true (Y.assign rfl rfl) ?_
 refine Jp.qae hK24 ?_
 refine Cd.block ?_
 refine Cd.slot 9 rfl (show _ = Value.int .i64 ((((hi - 1) / 2 + 1 : Nat) : Int) - 1) from congrArg (Value.int .i64) (by omega)) ?_
 refine Cd.qcr (G:=Nat × Array Nat) (fun g=>Go.Sort.heapBuild ltN hi a g.1 g.2 = d1 ∧ g.1 ≤ 4096 ∧ g.2.size = n) (fun g=>g.1) (fun _=>_) (fun g=>[(9,.int .i64 ((g.1 : Int) - 1))]) [(0,_),(6,_),(7,_),(8,_)] (fun g=>[(0,qdp A n c g.2)]) [] ⟨(hi - 1) / 2 + 1,d0⟩ ⟨hd1.symm,by show (hi - 1) / 2 + 1 ≤ 4096; omega,hd⟩ rfl ⟨rfl,trivial⟩ ⟨rfl,rfl,rfl,rfl,trivial⟩ ⟨rfl,trivial⟩ trivial (fun g KLa hok hLa=>?_)
 obtain ⟨k,d⟩:=g
 obtain ⟨ok1,ok2,ok3⟩:=hok
 dsimp only at ok1 ok2 ok3 ⊢
 refine Cd.seq fun K25 hK25=>?_
 refine Cd.seq fun K26 hK26=>?_
 refine Cd.qac [(0,false),(1,false)] rfl rfl ?_
 refine Jp.y 18 rfl (qaa rfl) rfl rfl Kp.true (Y.move rfl rfl) ?_
 refine Jp.y 19 rfl (qaa rfl) rfl rfl Kp.true (Y.geq rfl rfl rfl) ?_
 refine Jp.qae hK26 ?_
 refine Cd.qaq rfl (fun ga=>?_) (fun ga=>?_)
 ·simp only [decide_eq_true_eq] at ga
  obtain ⟨q,rfl⟩ : ∃ q,k = q + 1:=⟨k - 1,by omega⟩
  rw [show ((q + 1 : Nat) : Int) - 1 = (q : Int) by omega]
  refine Cd.qbp hK25 ?_
  refine Cd.seq fun K27 hK27=>?_
  refine Cd.block ?_
  refine Cd.qac [(0,false),(1,false),(2,false),(3,false),(4,false)] rfl rfl ?_
  refine Jp.y 22 rfl (qaa rfl) rfl rfl Kp.true (Y.move rfl rfl) ?_
  refine Jp.y 23 rfl (qaa rfl) rfl rfl Kp.true (Y.move rfl rfl) ?_
  refine Jp.y 24 rfl (qaa rfl) rfl rfl Kp.true (Y.move rfl rfl) ?_
  refine Jp.y 25 rfl (qaa rfl) rfl rfl Kp.true (Y.move rfl rfl) ?_
  refine Jp.call [0] [0] (sift_spec A n c d q hi a ok3 (by omega) (by omega) hn) 26 rfl (qaa rfl) rfl rfl (Runs.fn rfl call114 rfl) (by decide) (by decide) rfl trivial ?_
  rintro v1 ρ1 L1 ⟨rfl,rfl,rfl⟩
  refine ⟨rfl,fun hle1=>⟨Kp.true,?_⟩⟩
  refine Jp.over rfl hK27 ?_
  refine Cd.qac [(0,false),(1,false),(2,false)] rfl rfl ?_
  refine Jp.y 20 rfl (qaa rfl) rfl rfl Kp.true (Y.move rfl rfl) ?_
  refine Jp.y 21 rfl (qaa rfl) rfl rfl Kp.true (Y.qcp rfl rfl rfl (by exact qaf (by omega) (by omega))) ?_
  refine Jp.y 9 rfl (qaa rfl) rfl rfl Kp.true (Y.assign rfl rfl) ?_
  refine Jp.again hLa ⟨q,Go.Sort.siftDown ltN hi a q d⟩ ⟨ok1,by show q ≤ 4096; omega,by rw [qhs hi a _ q d (Nat.le_refl _)]; exact ok3⟩ (show q < q + 1 by omega) rfl ⟨rfl,rfl,rfl,rfl,rfl,trivial⟩ ⟨rfl,trivial⟩
 ·simp only [decide_eq_false_iff_not] at ga
  obtain rfl : k = 0:=by omega
  have hdd : d = d1:=ok1
  subst hdd
  refine Cd.qen rfl hK23 ?_
  refine Cd.seq fun K28 hK28=>?_
  refine Cd.qac [(0,false),(1,false),(2,false)] rfl rfl ?_
  refine Jp.y 27 rfl (qaa rfl) rfl rfl Kp.true (Y.move rfl rfl) ?_
  refine Jp.y 28 rfl (qaa rfl) rfl rfl Kp.true (Y.qcp rfl rfl rfl (by exact qaf (by omega) (by omega))) ?_
  refine Jp.y 10 rfl (qaa rfl) rfl rfl Kp.true (Y.assign rfl rfl) ?_
  refine Jp.qae hK28 ?_
  refine Cd.block ?_
  refine Cd.qcr (G:=Nat × Array Nat) (fun g=>Go.Sort.heapPop ltN a g.1 g.2 = Go.Sort.heapPop ltN a hi d ∧ g.1 ≤ hi ∧ g.2.size = n) (fun g=>g.1) (fun _=>_) (fun g=>[(10,.int .i64 ((g.1 : Int) - 1))]) [(0,_),(6,_),(7,_)] (fun g=>[(0,qdp A n c g.2)]) [] ⟨hi,d⟩ ⟨rfl,Nat.le_refl _,ok3⟩ rfl ⟨rfl,trivial⟩ ⟨rfl,rfl,rfl,trivial⟩ ⟨rfl,trivial⟩ trivial (fun g KLb hok hLb=>?_)
  obtain ⟨k,dk⟩:=g
  obtain ⟨ok4,ok5,ok6⟩:=hok
  dsimp only at ok4 ok5 ok6 ⊢
  refine Cd.seq fun K29 hK29=>?_
  refine Cd.seq fun K30 hK30=>?_
  refine Cd.qac [(0,false),(1,false)] rfl rfl ?_
  refine Jp.y 29 rfl (qaa rfl) rfl rfl Kp.true (Y.move rfl rfl) ?_
  refine Jp.y 30 rfl (qaa rfl) rfl rfl Kp.true (Y.geq rfl rfl rfl) ?_
  refine Jp.qae hK30 ?_
  refine Cd.qaq rfl (fun gb=>?_) (fun gb=>?_)
  ·simp only [decide_eq_true_eq] at gb
   obtain ⟨q,rfl⟩ : ∃ q,k = q + 1:=⟨k - 1,by omega⟩
   rw [show ((q + 1 : Nat) : Int) - 1 = (q : Int) by omega]
   refine Cd.ownAt 0 rfl (show 0 < n by omega) ?_
   rintro b rfl
   have cq:=qed (b:=b) (n:=n) (c:=c) (d:=dk) (i:=a + q) (by omega)
   have cf:=qed (b:=b) (n:=n) (c:=c) (d:=dk) (i:=a) (by omega)
   refine Cd.qbp hK29 ?_
   refine Cd.seq fun K31 hK31=>?_
   refine Cd.block ?_
   refine Cd.seq fun K32 hK32=>?_
   refine Cd.qcl [(0,_)] ⟨rfl,trivial⟩ [(2,true),(3,true),(4,true),(5,true)] [(0,true),(1,true),(6,true),(7,true),(8,true),(9,true),(10,true),(11,true),(12,true),(13,true),(14,true),(15,true),(16,true)] 17 [(18,true),(19,false)] follows (by kernel_rfl) (fun hrl=>?_)
   refine Jp2.q 35 rfl (qaa rfl) rfl rfl (fun _=>(Y.move rfl rfl)) ?_
   refine Jp2.q 36 rfl (qaa rfl) rfl rfl (fun _=>(Y.move rfl rfl)) ?_
   refine Jp2.q 37 rfl (qaa rfl) rfl rfl (fun _=>(Y.move rfl rfl)) ?_
   refine Jp2.q 38 rfl (qaa rfl) rfl rfl (fun _=>(Y.qbq rfl rfl rfl (by exact qaf (by omega) (by omega)))) ?_
   refine Jp2.head ?_
   refine Jp.q 33 rfl (qaa rfl) rfl rfl (Y.move rfl rfl) ?_
   refine Jp.q 34 rfl (qaa rfl) rfl rfl (Y.move rfl rfl) ?_
   refine Jp.q 39 rfl (qaa rfl) rfl rfl (Y.move rfl rfl) ?_
   refine Jp.q 40 rfl (qaa rfl) rfl rfl (Y.move rfl rfl) ?_
   refine Jp.q 41 rfl (qaa rfl) rfl rfl (Y.move rfl rfl) ?_
   refine Jp.q 42 rfl (qaa rfl) rfl rfl (Y.qbq rfl rfl rfl (by exact qaf (by omega) (by omega))) ?_
   refine Jp.q 43 rfl (qaa rfl) rfl rfl (Y.qag (q:=a + q) rfl rfl rfl underlying22 sizeOf24 (by omega) (by omega) (by omega)) ?_
   refine Jp.q 44 rfl (qaa rfl) rfl rfl (by exact Y.qas 0 rfl isAgg24 rfl rfl cq) ?_
   refine Jp.q 45 rfl (qaa rfl) rfl rfl (Y.move rfl rfl) ?_
   refine Jp.q 46 rfl (qaa rfl) rfl rfl (Y.move rfl rfl) ?_
   refine Jp.q 47 rfl (qaa rfl) rfl rfl (Y.qag (q:=a) rfl rfl rfl underlying22 sizeOf24 (by omega) (by omega) (by omega)) ?_
   refine Jp.q 48 rfl (qaa rfl) rfl rfl (by exact Y.qas 0 rfl isAgg24 rfl rfl cf) ?_
   refine Jp.q 49 rfl (qaa rfl) rfl rfl (Y.qag (q:=a) rfl rfl rfl underlying22 sizeOf24 (by omega) (by omega) (by omega)) ?_
   refine Jp2.qct ?_
   refine Jp2.qeo ?_
   refine Jp.qbu 0 (q:=a) rfl (qaa rfl) rfl rfl sizeOf24 rfl rfl rfl rfl rfl (by omega) (qbd .u32 (dk.toList.set a dk[a + q]!)) (qbc _ _ _ _) Kp.true ?_
   refine Jp2.qct ?_
   refine Jp2.q 50 rfl (qaa rfl) rfl rfl (fun _=>(Y.qag (q:=a + q) rfl rfl rfl underlying22 sizeOf24 (by omega) (by omega) (by omega))) ?_
   refine Jp2.qeo ?_
   refine Jp.qbu 0 (q:=a + q) rfl (qaa rfl) rfl rfl sizeOf24 rfl rfl rfl rfl rfl (by omega) (qbd .u32 (Go.Sort.swp dk a (a + q)).toList) (by rw [qbc,swpL]) Kp.true ?_
   refine Jp2.qct ?_
   refine Jp2.nil ?_
   refine Jp.qae hK32 ?_
   refine Cd.qac [(0,false),(1,false),(2,false),(3,false),(4,false)] rfl rfl ?_
   refine Jp.imp (j:=0) rfl (fun h hh=>(show qdp (some ⟨b,0,none⟩) n c (Go.Sort.swp dk a (a + q)) h from hh)) ?_
   refine Jp.y 51 rfl (qaa rfl) rfl rfl Kp.true (Y.move rfl rfl) ?_
   refine Jp.y 52 rfl (qaa rfl) rfl rfl Kp.true (Y.move rfl rfl) ?_
   refine Jp.y 53 rfl (qaa rfl) rfl rfl Kp.true (Y.move rfl rfl) ?_
   refine Jp.y 54 rfl (qaa rfl) rfl rfl Kp.true (Y.move rfl rfl) ?_
   refine Jp.call [0] [0] (sift_spec (some ⟨b,0,none⟩) n c (Go.Sort.swp dk a (a + q)) 0 q a (by rw [qch]; exact ok6) (by omega) (by omega) hn) 55 rfl (qaa rfl) rfl rfl (Runs.fn rfl call114 rfl) (by decide) (by decide) rfl trivial ?_
   rintro v2 ρ2 L2 ⟨rfl,rfl,rfl⟩
   refine ⟨rfl,fun hle2=>⟨Kp.true,?_⟩⟩
   refine Jp.over rfl hK31 ?_
   refine Cd.qac [(0,false),(1,false),(2,false)] rfl rfl ?_
   refine Jp.y 31 rfl (qaa rfl) rfl rfl Kp.true (Y.move rfl rfl) ?_
   refine Jp.y 32 rfl (qaa rfl) rfl rfl Kp.true (Y.qcp rfl rfl rfl (by exact qaf (by omega) (by omega))) ?_
   refine Jp.y 10 rfl (qaa rfl) rfl rfl Kp.true (Y.assign rfl rfl) ?_
   refine Jp.again hLb ⟨q,Go.Sort.siftDown ltN q a 0 (Go.Sort.swp dk a (a + q))⟩ ⟨ok4,by show q ≤ hi; omega,by rw [qhs q a _ 0 _ (Nat.le_refl _),qch]; exact ok6⟩ (show q < q + 1 by omega) rfl ⟨rfl,rfl,rfl,rfl,trivial⟩ ⟨rfl,trivial⟩
  ·simp only [decide_eq_false_iff_not] at gb
   obtain rfl : k = 0:=by omega
   have hdd : dk = Go.Sort.heapSort ltN d0 a e:=by rw [Go.Sort.heapSort,← hhi,← hd1]; exact ok4
   subst hdd
   refine Cdx.end [(0,_)] rfl (res0 rfl) ⟨rfl,trivial⟩ ⟨rfl,rfl,rfl⟩
theorem reverse_spec (A : Option Addr) (n c : Nat) (d0 : Array Nat) (a e : Nat) (hd : d0.size = n) (hae : a < e) (hen : e ≤ n) (hn : n ≤ 4096) : Spec Tryz.prog 106 #[.slice A n c,.int .i64 a,.int .i64 e] (fun _=>True) [(0,qdp A n c d0)]
  (fun ρ ρ' v L=>ρ' = ρ ∧ v = .tuple #[] ∧ L = [(0,qdp A n c (Go.Sort.reverseRange d0 a e))]):=by
 refine Spec.of 32 Tryz.func106 rfl Tryz.ntmps106 [(0,_),(1,_),(2,_)] rfl rfl ?_
 intro cx ρ hr h0
 refine Cd.seq fun K33 hK33=>?_
 refine Cd.qac [(0,false),(1,false)] rfl rfl ?_
 refine Jp.y 8 rfl (qaa rfl) rfl rfl Kp.true (Y.move rfl rfl) ?_
 refine Jp.y 6 rfl (qaa rfl) rfl rfl Kp.true (Y.assign rfl rfl) ?_
 refine Jp.qae hK33 ?_
 refine Cd.seq fun K34 hK34=>?_
 refine Cd.qac [(0,false),(1,false),(2,false)] rfl rfl ?_
 refine Jp.y 9 rfl (qaa rfl) rfl rfl Kp.true (Y.move rfl rfl) ?_
 refine Jp.y 10 rfl (qaa rfl) rfl rfl Kp.true (Y.qcp rfl rfl rfl (by exact qaf (by omega) (by omega))) ?_
 refine Jp.y 7 rfl (qaa rfl) rfl rfl Kp.true (Y.assign rfl rfl) ?_
 refine Jp.qae hK34 ?_
 refine Cd.block ?_
 refine Cd.slot 7 rfl (show _ = Value.int .i64 ((e - 1 : Nat) : Int) from congrArg (Value.int .i64) (by omega)) ?_
 refine Cd.qcr (G:=Nat × Nat × Array Nat) (fun g=>Go.Sort.reverseLoop g.1 g.2.1 g.2.2 = Go.Sort.reverseRange d0 a e ∧ g.1 ≤ 4097 ∧ g.2.1 < n ∧ g.2.2.size = n) (fun g=>g.2.1) (fun _=>_) (fun g=>[(6,.int .i64 (g.1 : Int)),(7,.int .i64 (g.2.1 : Int))]) [(0,_)] (fun g=>[(0,qdp A n c g.2.2)]) [] ⟨a,e - 1,d0⟩ ⟨rfl,by show a ≤ 4097; omega,by show e - 1 < n; omega,hd⟩ rfl ⟨rfl,rfl,trivial⟩ ⟨rfl,trivial⟩ ⟨rfl,trivial⟩ trivial (fun g KLa hok hLa=>?_)
 obtain ⟨i,j,d⟩:=g
 obtain ⟨ok1,ok2,ok3,ok4⟩:=hok
 dsimp only at ok1 ok2 ok3 ok4 ⊢
 refine Cd.seq fun K35 hK35=>?_
 refine Cd.seq fun K36 hK36=>?_
 refine Cd.qac [(0,false),(1,false),(2,false)] rfl rfl ?_
 refine Jp.y 11 rfl (qaa rfl) rfl rfl Kp.true (Y.move rfl rfl) ?_
 refine Jp.y 12 rfl (qaa rfl) rfl rfl Kp.true (Y.move rfl rfl) ?_
 refine Jp.y 13 rfl (qaa rfl) rfl rfl Kp.true (Y.lss rfl rfl rfl) ?_
 refine Jp.qae hK36 ?_
 refine Cd.qaq rfl (fun ga=>?_) (fun ga=>?_)
 ·simp only [decide_eq_true_eq] at ga
  have hij : i < j:=by omega
  rw [Go.Sort.reverseLoop,if_pos hij] at ok1
  refine Cd.ownAt 0 rfl (show 0 < n by omega) ?_
  rintro b rfl
  have ci:=qed (b:=b) (n:=n) (c:=c) (d:=d) (i:=i) (by omega)
  have cj:=qed (b:=b) (n:=n) (c:=c) (d:=d) (i:=j) (by omega)
  refine Cd.qbp hK35 ?_
  refine Cd.block ?_
  refine Cd.seq fun K37 hK37=>?_
  refine Cd.qcl [(0,_)] ⟨rfl,trivial⟩ [(2,true),(3,true)] [(0,true),(1,true),(4,true),(5,true),(6,true),(7,true),(8,true),(9,true),(10,true),(11,true),(12,true)] 13 [(14,true),(15,false)] follows (by kernel_rfl) (fun hrl=>?_)
  refine Jp2.q 16 rfl (qaa rfl) rfl rfl (fun _=>(Y.move rfl rfl)) ?_
  refine Jp2.q 17 rfl (qaa rfl) rfl rfl (fun _=>(Y.move rfl rfl)) ?_
  refine Jp2.head ?_
  refine Jp.q 14 rfl (qaa rfl) rfl rfl (Y.move rfl rfl) ?_
  refine Jp.q 15 rfl (qaa rfl) rfl rfl (Y.move rfl rfl) ?_
  refine Jp.q 18 rfl (qaa rfl) rfl rfl (Y.move rfl rfl) ?_
  refine Jp.q 19 rfl (qaa rfl) rfl rfl (Y.move rfl rfl) ?_
  refine Jp.q 20 rfl (qaa rfl) rfl rfl (Y.qag (q:=j) rfl rfl rfl underlying22 sizeOf24 (by omega) (by omega) (by omega)) ?_
  refine Jp.q 21 rfl (qaa rfl) rfl rfl (by exact Y.qas 0 rfl isAgg24 rfl rfl cj) ?_
  refine Jp.q 22 rfl (qaa rfl) rfl rfl (Y.move rfl rfl) ?_
  refine Jp.q 23 rfl (qaa rfl) rfl rfl (Y.move rfl rfl) ?_
  refine Jp.q 24 rfl (qaa rfl) rfl rfl (Y.qag (q:=i) rfl rfl rfl underlying22 sizeOf24 (by omega) (by omega) (by omega)) ?_
  refine Jp.q 25 rfl (qaa rfl) rfl rfl (by exact Y.qas 0 rfl isAgg24 rfl rfl ci) ?_
  refine Jp.q 26 rfl (qaa rfl) rfl rfl (Y.qag (q:=i) rfl rfl rfl underlying22 sizeOf24 (by omega) (by omega) (by omega)) ?_
  refine Jp2.qct ?_
  refine Jp2.qeo ?_
  refine Jp.qbu 0 (q:=i) rfl (qaa rfl) rfl rfl sizeOf24 rfl rfl rfl rfl rfl (by omega) (qbd .u32 (d.toList.set i d[j]!)) (qbc _ _ _ _) Kp.true ?_
  refine Jp2.qct ?_
  refine Jp2.q 27 rfl (qaa rfl) rfl rfl (fun _=>(Y.qag (q:=j) rfl rfl rfl underlying22 sizeOf24 (by omega) (by omega) (by omega))) ?_
  refine Jp2.qeo ?_
  refine Jp.qbu 0 (q:=j) rfl (qaa rfl) rfl rfl sizeOf24 rfl rfl rfl rfl rfl (by omega) (qbd .u32 (Go.Sort.swp d i j).toList) (by rw [qbc,swpL]) Kp.true ?_
  refine Jp2.qct ?_
  refine Jp2.nil ?_
  refine Jp.qae hK37 ?_
  refine Cd.seq fun K38 hK38=>?_
  refine Cd.qac [(0,false),(1,false),(2,false)] rfl rfl ?_
  refine Jp.y 28 rfl (qaa rfl) rfl rfl Kp.true (Y.move rfl rfl) ?_
  refine Jp.y 29 rfl (qaa rfl) rfl rfl Kp.true (Y.qbq rfl rfl rfl (by exact qaf (by omega) (by omega))) ?_
  refine Jp.y 6 rfl (qaa rfl) rfl rfl Kp.true (Y.assign rfl rfl) ?_
  refine Jp.qae hK38 ?_
  refine Cd.qac [(0,false),(1,false),(2,false)] rfl rfl ?_
  refine Jp.y 30 rfl (qaa rfl) rfl rfl Kp.true (Y.move rfl rfl) ?_
  refine Jp.y 31 rfl (qaa rfl) rfl rfl Kp.true (Y.qcp rfl rfl rfl (by exact qaf (by omega) (by omega))) ?_
  refine Jp.y 7 rfl (qaa rfl) rfl rfl Kp.true (Y.assign rfl rfl) ?_
  refine Jp.slot 6 rfl (show _ = Value.int .i64 ((i + 1 : Nat) : Int) from congrArg (Value.int .i64) (by omega)) ?_
  refine Jp.slot 7 rfl (show _ = Value.int .i64 ((j - 1 : Nat) : Int) from congrArg (Value.int .i64) (by omega)) ?_
  refine JpQ.again rfl hLa ⟨i + 1,j - 1,Go.Sort.swp d i j⟩ ⟨ok1,by show i + 1 ≤ 4097; omega,by show j - 1 < n; omega,by rw [qch]; exact ok4⟩ (by show j - 1 < j; omega) rfl ⟨rfl,rfl,rfl,trivial⟩ ⟨rfl,trivial⟩
 ·simp only [decide_eq_false_iff_not] at ga
  rw [Go.Sort.reverseLoop,if_neg (by omega)] at ok1
  subst ok1
  refine Cdx.end [(0,_)] rfl (res0 rfl) ⟨rfl,trivial⟩ ⟨rfl,rfl,rfl⟩
end Go.Proofs.YtnfkalpgidiafaaGreat
set_option linter.unusedVariables false
set_option linter.unusedSimpArgs false
set_option maxRecDepth 100000
namespace Go.Proofs.YtnfkalpgidiafaaGreat
open _root_.Go.Proofs.Tryz
open Go
def cntO (b : Nat) (s : Nat) : qba:=Pt b (.cells #[.int .i64 (s : Int)] 3)
theorem qhf (A : Option Addr) (n c bs s : Nat) (d : Array Nat) (a e : Nat) (hd : d.size = n) (ha : a < n) (he : e < n) (hn : n ≤ 4096) (hs : s ≤ 1000) : Spec Tryz.prog 120 #[.slice A n c,.int .i64 a,.int .i64 e,.pointer (some ⟨bs,0,none⟩)] (fun _=>True) [(0,qdp A n c d),(1,cntO bs s)]
  (fun ρ ρ' v L=>ρ' = ρ ∧ ∃ x y t : Nat,((x = a ∧ y = e) ∨ (x = e ∧ y = a)) ∧ t ≤ s + 1 ∧ v = .tuple #[.int .i64 (x : Int),.int .i64 (y : Int)] ∧ L = [(0,qdp A n c d),(1,cntO bs t)]):=by
 refine Spec.of 28 Tryz.func120 rfl Tryz.ntmps120 [(0,_),(1,_),(2,_),(3,_)] rfl rfl ?_
 intro cx ρ hr h0
 refine Cd.ownAt 0 rfl (show 0 < n by omega) ?_
 rintro b rfl
 have ca:=qed (b:=b) (n:=n) (c:=c) (d:=d) (i:=a) (by omega)
 have ce:=qed (b:=b) (n:=n) (c:=c) (d:=d) (i:=e) (by omega)
 refine Cd.seq fun K1 hK1=>?_
 refine Cd.qac [(0,false),(1,false)] rfl rfl ?_
 refine Jp.y 8 rfl (qaa rfl) rfl rfl Kp.true (Y.assign rfl rfl) ?_
 refine Jp.y 9 rfl (qaa rfl) rfl rfl Kp.true (Y.assign rfl rfl) ?_
 refine Jp.qae hK1 ?_
 refine Cd.seq fun K2 hK2=>?_
 refine Cd.seq fun K3 hK3=>?_
 refine Cd.drawn [(0,_)] ⟨rfl,trivial⟩ [(0,true),(1,true),(2,true),(3,true),(4,true),(5,true),(6,true),(7,true),(8,false)] follows (by kernel_rfl) (fun hrl=>?_)
 refine Jp.q 10 rfl (qaa rfl) rfl rfl (Y.move rfl rfl) ?_
 refine Jp.q 11 rfl (qaa rfl) rfl rfl (Y.move rfl rfl) ?_
 refine Jp.q 12 rfl (qaa rfl) rfl rfl (Y.qag (q:=e) rfl rfl rfl underlying22 sizeOf24 (by omega) (by omega) (by omega)) ?_
 refine Jp.q 13 rfl (qaa rfl) rfl rfl (by exact Y.qas 0 rfl isAgg24 rfl rfl ce) ?_
 refine Jp.q 14 rfl (qaa rfl) rfl rfl (Y.move rfl rfl) ?_
 refine Jp.q 15 rfl (qaa rfl) rfl rfl (Y.move rfl rfl) ?_
 refine Jp.q 16 rfl (qaa rfl) rfl rfl (Y.qag (q:=a) rfl rfl rfl underlying22 sizeOf24 (by omega) (by omega) (by omega)) ?_
 refine Jp.q 17 rfl (qaa rfl) rfl rfl (by exact Y.qas 0 rfl isAgg24 rfl rfl ca) ?_
 refine Jp.call [] [] (qbw d[e]! d[a]!) 18 rfl (qaa rfl) rfl rfl (Runs.fn rfl call108 rfl) (by decide) (by decide) rfl trivial ?_
 rintro v1 ρ1 L1 ⟨rfl,rfl,rfl⟩
 refine ⟨rfl,fun hle1=>⟨Kp.last,?_⟩⟩
 refine Jp.qae hK3 ?_
 refine Cd.qaq rfl (fun ga=>?_) (fun ga=>?_)
 ·skip
  refine Cd.seq fun K5 hK5=>?_
  refine Cd.qac [(0,false),(1,false),(2,false),(3,false),(4,false),(5,false)] rfl rfl ?_
  refine Jp.y 19 rfl (qaa rfl) rfl rfl Kp.true (Y.move rfl rfl) ?_
  refine Jp.y 20 rfl (qaa rfl) rfl rfl Kp.true (Y.qam rfl rfl) ?_
  refine Jp.y 21 rfl (qaa rfl) rfl rfl Kp.true (Y.qaw 1 rfl isAgg3 rfl rfl rfl) ?_
  refine Jp.y 22 rfl (qaa rfl) rfl rfl Kp.true (Y.qbq rfl rfl rfl (by exact qaf (by omega) (by omega))) ?_
  refine Jp.y 23 rfl (qaa rfl) rfl rfl Kp.true (Y.qam rfl rfl) ?_
  refine Jp.store 1 rfl (qaa rfl) rfl rfl sizeOf3 rfl rfl rfl rfl rfl rfl Kp.true ?_
  refine Jp.qae hK5 ?_
  refine Cd.seq fun K6 hK6=>?_
  refine Cd.qac [(0,false),(1,false),(2,false),(3,false)] rfl rfl ?_
  refine Jp.y 24 rfl (qaa rfl) rfl rfl Kp.true (Y.move rfl rfl) ?_
  refine Jp.y 25 rfl (qaa rfl) rfl rfl Kp.true (Y.move rfl rfl) ?_
  refine Jp.y 8 rfl (qaa rfl) rfl rfl Kp.true (Y.assign rfl rfl) ?_
  refine Jp.y 9 rfl (qaa rfl) rfl rfl Kp.true (Y.assign rfl rfl) ?_
  refine Jp.qae hK6 ?_
  rw [show (s : Int) + 1 = ((s + 1 : Nat) : Int) by omega]
  refine Cd.ret [(0,_),(1,_)] rfl (qbv rfl rfl rfl) ⟨rfl,rfl,trivial⟩ ⟨rfl,e,a,s + 1,.inr ⟨rfl,rfl⟩,Nat.le_refl _,rfl,rfl⟩
 ·skip
  refine Cd.qbp hK2 ?_
  refine Cd.seq fun K7 hK7=>?_
  refine Cd.qac [(0,false),(1,false),(2,false),(3,false)] rfl rfl ?_
  refine Jp.y 26 rfl (qaa rfl) rfl rfl Kp.true (Y.move rfl rfl) ?_
  refine Jp.y 27 rfl (qaa rfl) rfl rfl Kp.true (Y.move rfl rfl) ?_
  refine Jp.y 8 rfl (qaa rfl) rfl rfl Kp.true (Y.assign rfl rfl) ?_
  refine Jp.y 9 rfl (qaa rfl) rfl rfl Kp.true (Y.assign rfl rfl) ?_
  refine Jp.qae hK7 ?_
  refine Cd.ret [(0,_),(1,_)] rfl (qbv rfl rfl rfl) ⟨rfl,rfl,trivial⟩ ⟨rfl,a,e,s,.inl ⟨rfl,rfl⟩,Nat.le_succ _,rfl,rfl⟩
theorem qhj (A : Option Addr) (n c bs s : Nat) (d : Array Nat) (a e f : Nat) (hd : d.size = n) (ha : a < n) (he : e < n) (hf : f < n) (hn : n ≤ 4096) (hs : s ≤ 900) : Spec Tryz.prog 118 #[.slice A n c,.int .i64 a,.int .i64 e,.int .i64 f,.pointer (some ⟨bs,0,none⟩)] (fun _=>True) [(0,qdp A n c d),(1,cntO bs s)]
  (fun ρ ρ' v L=>ρ' = ρ ∧ ∃ x t : Nat,(x = a ∨ x = e ∨ x = f) ∧ t ≤ s + 3 ∧ v = .int .i64 (x : Int) ∧ L = [(0,qdp A n c d),(1,cntO bs t)]):=by
 refine Spec.of 36 Tryz.func118 rfl Tryz.ntmps118 [(0,_),(1,_),(2,_),(3,_),(4,_)] rfl rfl ?_
 intro cx ρ hr h0
 refine Cd.seq fun K8 hK8=>?_
 refine Cd.qac [(0,false)] rfl rfl ?_
 refine Jp.y 10 rfl (qaa rfl) rfl rfl Kp.true (Y.assign rfl rfl) ?_
 refine Jp.qae hK8 ?_
 refine Cd.seq fun K9 hK9=>?_
 refine Cd.qac [(0,false),(1,false),(2,false),(3,false),(4,false),(5,false),(6,false),(7,false),(8,false),(9,false)] rfl rfl ?_
 refine Jp.y 12 rfl (qaa rfl) rfl rfl Kp.true (Y.move rfl rfl) ?_
 refine Jp.y 13 rfl (qaa rfl) rfl rfl Kp.true (Y.move rfl rfl) ?_
 refine Jp.y 14 rfl (qaa rfl) rfl rfl Kp.true (Y.move rfl rfl) ?_
 refine Jp.y 15 rfl (qaa rfl) rfl rfl Kp.true (Y.move rfl rfl) ?_
 refine Jp.call [0,1] [0,1] (qhf A n c bs s d a e hd ha he hn (by omega)) 16 rfl (qaa rfl) rfl rfl (Runs.fn rfl call120 rfl) (by decide) (by decide) rfl trivial ?_
 rintro v1 ρ1 L1 ⟨rfl,x1,y1,t1,h1,l1,rfl,rfl⟩
 refine ⟨rfl,fun hle1=>⟨Kp.true,?_⟩⟩
 refine Jp.y 11 rfl (qaa rfl) rfl rfl Kp.true (Y.move rfl rfl) ?_
 refine Jp.y 17 rfl (qaa rfl) rfl rfl Kp.true (Y.extract rfl rfl rfl) ?_
 refine Jp.y 18 rfl (qaa rfl) rfl rfl Kp.true (Y.extract rfl rfl rfl) ?_
 refine Jp.y 1 rfl (qaa rfl) rfl rfl Kp.true (Y.assign rfl rfl) ?_
 refine Jp.y 2 rfl (qaa rfl) rfl rfl Kp.true (Y.assign rfl rfl) ?_
 refine Jp.qae hK9 ?_
 refine Cd.seq fun K10 hK10=>?_
 refine Cd.qac [(0,false),(1,false),(2,false),(3,false),(4,false),(5,false),(6,false),(7,false),(8,false),(9,false)] rfl rfl ?_
 refine Jp.y 20 rfl (qaa rfl) rfl rfl Kp.true (Y.move rfl rfl) ?_
 refine Jp.y 21 rfl (qaa rfl) rfl rfl Kp.true (Y.move rfl rfl) ?_
 refine Jp.y 22 rfl (qaa rfl) rfl rfl Kp.true (Y.move rfl rfl) ?_
 refine Jp.y 23 rfl (qaa rfl) rfl rfl Kp.true (Y.move rfl rfl) ?_
 refine Jp.call [0,1] [0,1] (qhf A n c bs t1 d y1 f hd (by omega) hf hn (by omega)) 24 rfl (qaa rfl) rfl rfl (Runs.fn rfl call120 rfl) (by decide) (by decide) rfl trivial ?_
 rintro v2 ρ2 L2 ⟨rfl,x2,y2,t2,h2,l2,rfl,rfl⟩
 refine ⟨rfl,fun hle2=>⟨Kp.true,?_⟩⟩
 refine Jp.y 19 rfl (qaa rfl) rfl rfl Kp.true (Y.move rfl rfl) ?_
 refine Jp.y 25 rfl (qaa rfl) rfl rfl Kp.true (Y.extract rfl rfl rfl) ?_
 refine Jp.y 26 rfl (qaa rfl) rfl rfl Kp.true (Y.extract rfl rfl rfl) ?_
 refine Jp.y 2 rfl (qaa rfl) rfl rfl Kp.true (Y.assign rfl rfl) ?_
 refine Jp.y 3 rfl (qaa rfl) rfl rfl Kp.true (Y.assign rfl rfl) ?_
 refine Jp.qae hK10 ?_
 refine Cd.seq fun K11 hK11=>?_
 refine Cd.qac [(0,false),(1,false),(2,false),(3,false),(4,false),(5,false),(6,false),(7,false),(8,false),(9,false)] rfl rfl ?_
 refine Jp.y 28 rfl (qaa rfl) rfl rfl Kp.true (Y.move rfl rfl) ?_
 refine Jp.y 29 rfl (qaa rfl) rfl rfl Kp.true (Y.move rfl rfl) ?_
 refine Jp.y 30 rfl (qaa rfl) rfl rfl Kp.true (Y.move rfl rfl) ?_
 refine Jp.y 31 rfl (qaa rfl) rfl rfl Kp.true (Y.move rfl rfl) ?_
 refine Jp.call [0,1] [0,1] (qhf A n c bs t2 d x1 x2 hd (by omega) (by omega) hn (by omega)) 32 rfl (qaa rfl) rfl rfl (Runs.fn rfl call120 rfl) (by decide) (by decide) rfl trivial ?_
 rintro v3 ρ3 L3 ⟨rfl,x3,y3,t3,h3,l3,rfl,rfl⟩
 refine ⟨rfl,fun hle3=>⟨Kp.true,?_⟩⟩
 refine Jp.y 27 rfl (qaa rfl) rfl rfl Kp.true (Y.move rfl rfl) ?_
 refine Jp.y 33 rfl (qaa rfl) rfl rfl Kp.true (Y.extract rfl rfl rfl) ?_
 refine Jp.y 34 rfl (qaa rfl) rfl rfl Kp.true (Y.extract rfl rfl rfl) ?_
 refine Jp.y 1 rfl (qaa rfl) rfl rfl Kp.true (Y.assign rfl rfl) ?_
 refine Jp.y 2 rfl (qaa rfl) rfl rfl Kp.true (Y.assign rfl rfl) ?_
 refine Jp.qae hK11 ?_
 refine Cd.seq fun K12 hK12=>?_
 refine Cd.qac [(0,false),(1,false)] rfl rfl ?_
 refine Jp.y 35 rfl (qaa rfl) rfl rfl Kp.true (Y.move rfl rfl) ?_
 refine Jp.y 10 rfl (qaa rfl) rfl rfl Kp.true (Y.assign rfl rfl) ?_
 refine Jp.qae hK12 ?_
 refine Cd.ret [(0,_),(1,_)] rfl (qbf rfl rfl) ⟨rfl,rfl,trivial⟩ ⟨rfl,y3,t3,by omega,by omega,rfl,rfl⟩
theorem adj_spec (A : Option Addr) (n c bs s : Nat) (d : Array Nat) (a : Nat) (hd : d.size = n) (ha : 1 ≤ a) (he : a + 1 < n) (hn : n ≤ 4096) (hs : s ≤ 900) : Spec Tryz.prog 117 #[.slice A n c,.int .i64 a,.pointer (some ⟨bs,0,none⟩)] (fun _=>True) [(0,qdp A n c d),(1,cntO bs s)]
  (fun ρ ρ' v L=>ρ' = ρ ∧ ∃ x t : Nat,a - 1 ≤ x ∧ x ≤ a + 1 ∧ t ≤ s + 3 ∧ v = .int .i64 (x : Int) ∧ L = [(0,qdp A n c d),(1,cntO bs t)]):=by
 refine Spec.of 15 Tryz.func117 rfl Tryz.ntmps117 [(0,_),(1,_),(2,_)] rfl rfl ?_
 intro cx ρ hr h0
 refine Cd.seq fun K13 hK13=>?_
 refine Cd.qac [(0,false)] rfl rfl ?_
 refine Jp.y 6 rfl (qaa rfl) rfl rfl Kp.true (Y.assign rfl rfl) ?_
 refine Jp.qae hK13 ?_
 refine Cd.seq fun K14 hK14=>?_
 refine Cd.qac [(0,false),(1,false),(2,false),(3,false),(4,false),(5,false),(6,false),(7,false),(8,false)] rfl rfl ?_
 refine Jp.y 7 rfl (qaa rfl) rfl rfl Kp.true (Y.move rfl rfl) ?_
 refine Jp.y 8 rfl (qaa rfl) rfl rfl Kp.true (Y.move rfl rfl) ?_
 refine Jp.y 9 rfl (qaa rfl) rfl rfl Kp.true (Y.qcp rfl rfl rfl (by exact qaf (by omega) (by omega))) ?_
 refine Jp.y 10 rfl (qaa rfl) rfl rfl Kp.true (Y.move rfl rfl) ?_
 refine Jp.y 11 rfl (qaa rfl) rfl rfl Kp.true (Y.move rfl rfl) ?_
 refine Jp.y 12 rfl (qaa rfl) rfl rfl Kp.true (Y.qbq rfl rfl rfl (by exact qaf (by omega) (by omega))) ?_
 refine Jp.y 13 rfl (qaa rfl) rfl rfl Kp.true (Y.move rfl rfl) ?_
 refine Jp.slot 9 rfl (show _ = Value.int .i64 ((a - 1 : Nat) : Int) from congrArg (Value.int .i64) (by omega)) ?_
 refine Jp.slot 12 rfl (show _ = Value.int .i64 ((a + 1 : Nat) : Int) from congrArg (Value.int .i64) (by omega)) ?_
 refine Jp.call [0,1] [0,1] (qhj A n c bs s d (a - 1) a (a + 1) hd (by omega) (by omega) he hn hs) 14 rfl (qaa rfl) rfl rfl (Runs.fn rfl call118 rfl) (by decide) (by decide) rfl trivial ?_
 rintro v1 ρ1 L1 ⟨rfl,x,t,h1,l1,rfl,rfl⟩
 refine ⟨rfl,fun hle1=>⟨Kp.true,?_⟩⟩
 refine Jp.y 6 rfl (qaa rfl) rfl rfl Kp.true (Y.assign rfl rfl) ?_
 refine Jp.qae hK14 ?_
 refine Cd.ret [(0,_),(1,_)] rfl (qbf rfl rfl) ⟨rfl,rfl,trivial⟩ ⟨rfl,x,t,by omega,by omega,l1,rfl,rfl⟩
theorem choose_spec (A : Option Addr) (n c : Nat) (d : Array Nat) (a e : Nat) (hd : d.size = n) (hae : a + 12 < e) (hen : e ≤ n) (hn : n ≤ 4096) : Spec Tryz.prog 105 #[.slice A n c,.int .i64 a,.int .i64 e] (fun _=>True) [(0,qdp A n c d)]
  (fun ρ ρ' v L=>ρ' = ρ ∧ ∃ (p : Nat) (h : Int),a ≤ p ∧ p < e ∧ v = .tuple #[.int .i64 (p : Int),.int .i64 h] ∧ L = [(0,qdp A n c d)]):=by
 refine Spec.of 57 Tryz.func105 rfl Tryz.ntmps105 [(0,_),(1,_),(2,_)] rfl rfl ?_
 intro cx ρ hr h0
 refine Cd.seq fun K15 hK15=>?_
 refine Cd.qac [(0,false),(1,false)] rfl rfl ?_
 refine Jp.y 6 rfl (qaa rfl) rfl rfl Kp.true (Y.assign rfl rfl) ?_
 refine Jp.y 7 rfl (qaa rfl) rfl rfl Kp.true (Y.assign rfl rfl) ?_
 refine Jp.qae hK15 ?_
 refine Cd.seq fun K16 hK16=>?_
 refine Cd.qac [(0,false),(1,false),(2,false),(3,false)] rfl rfl ?_
 refine Jp.y 13 rfl (qaa rfl) rfl rfl Kp.true (Y.move rfl rfl) ?_
 refine Jp.y 14 rfl (qaa rfl) rfl rfl Kp.true (Y.move rfl rfl) ?_
 refine Jp.y 15 rfl (qaa rfl) rfl rfl Kp.true (Y.qcp rfl rfl rfl (by exact qaf (by omega) (by omega))) ?_
 refine Jp.y 8 rfl (qaa rfl) rfl rfl Kp.true (Y.assign rfl rfl) ?_
 refine Jp.qae hK16 ?_
 refine Cd.seq fun K17 hK17=>?_
 refine Cd.qac [(0,false)] rfl rfl ?_
 refine Jp.alloc 1 9 rfl (qaa rfl) rfl rfl rfl zeroValue3 fun b1=>⟨Kp.true,?_⟩
 refine Jp.qae hK17 ?_
 refine Cd.seq fun K18 hK18=>?_
 refine Cd.qac [(0,false),(1,false),(2,false),(3,false),(4,false),(5,false)] rfl rfl ?_
 refine Jp.y 16 rfl (qaa rfl) rfl rfl Kp.true (Y.move rfl rfl) ?_
 refine Jp.y 17 rfl (qaa rfl) rfl rfl Kp.true (Y.move rfl rfl) ?_
 refine Jp.y 18 rfl (qaa rfl) rfl rfl Kp.true (by exact Y.quoN rfl rfl rfl (by omega) (by omega) (qaf (by omega) (by omega))) ?_
 refine Jp.y 19 rfl (qaa rfl) rfl rfl Kp.true (Y.mul_ rfl rfl rfl (by exact qaf (by omega) (by omega))) ?_
 refine Jp.y 20 rfl (qaa rfl) rfl rfl Kp.true (Y.qbq rfl rfl rfl (by exact qaf (by omega) (by omega))) ?_
 refine Jp.y 10 rfl (qaa rfl) rfl rfl Kp.true (Y.assign rfl rfl) ?_
 refine Jp.qae hK18 ?_
 refine Cd.seq fun K19 hK19=>?_
 refine Cd.qac [(0,false),(1,false),(2,false),(3,false),(4,false),(5,false)] rfl rfl ?_
 refine Jp.y 21 rfl (qaa rfl) rfl rfl Kp.true (Y.move rfl rfl) ?_
 refine Jp.y 22 rfl (qaa rfl) rfl rfl Kp.true (Y.move rfl rfl) ?_
 refine Jp.y 23 rfl (qaa rfl) rfl rfl Kp.true (by exact Y.quoN rfl rfl rfl (by omega) (by omega) (qaf (by omega) (by omega))) ?_
 refine Jp.y 24 rfl (qaa rfl) rfl rfl Kp.true (Y.mul_ rfl rfl rfl (by exact qaf (by omega) (by omega))) ?_
 refine Jp.y 25 rfl (qaa rfl) rfl rfl Kp.true (Y.qbq rfl rfl rfl (by exact qaf (by omega) (by omega))) ?_
 refine Jp.y 11 rfl (qaa rfl) rfl rfl Kp.true (Y.assign rfl rfl) ?_
 refine Jp.qae hK19 ?_
 refine Cd.seq fun K20 hK20=>?_
 refine Cd.qac [(0,false),(1,false),(2,false),(3,false),(4,false),(5,false)] rfl rfl ?_
 refine Jp.y 26 rfl (qaa rfl) rfl rfl Kp.true (Y.move rfl rfl) ?_
 refine Jp.y 27 rfl (qaa rfl) rfl rfl Kp.true (Y.move rfl rfl) ?_
 refine Jp.y 28 rfl (qaa rfl) rfl rfl Kp.true (by exact Y.quoN rfl rfl rfl (by omega) (by omega) (qaf (by omega) (by omega))) ?_
 refine Jp.y 29 rfl (qaa rfl) rfl rfl Kp.true (Y.mul_ rfl rfl rfl (by exact qaf (by omega) (by omega))) ?_
 refine Jp.y 30 rfl (qaa rfl) rfl rfl Kp.true (Y.qbq rfl rfl rfl (by exact qaf (by omega) (by omega))) ?_
 refine Jp.y 12 rfl (qaa rfl) rfl rfl Kp.true (Y.assign rfl rfl) ?_
 refine Jp.qae hK20 ?_
 refine Cd.seq fun K21 hK21=>?_
 refine Cd.seq fun K22 hK22=>?_
 refine Cd.qac [(0,false),(1,false)] rfl rfl ?_
 refine Jp.slot 8 rfl (show _ = Value.int .i64 ((e - a : Nat) : Int) from congrArg (Value.int .i64) (by omega)) ?_
 refine Jp.slot 10 rfl (show _ = Value.int .i64 ((a + (e - a) / 4 : Nat) : Int) from congrArg (Value.int .i64) (by omega)) ?_
 refine Jp.slot 11 rfl (show _ = Value.int .i64 ((a + (e - a) / 4 * 2 : Nat) : Int) from congrArg (Value.int .i64) (by omega)) ?_
 refine Jp.slot 12 rfl (show _ = Value.int .i64 ((a + (e - a) / 4 * 3 : Nat) : Int) from congrArg (Value.int .i64) (by omega)) ?_
 obtain ⟨q,hq⟩ : ∃ q,q = (e - a) / 4:=⟨_,rfl⟩
 rw [← hq]
 refine Jp.imp (j:=1) rfl (fun h hh=>(show cntO b1 0 h from hh)) ?_
 refine Jp.y 31 rfl (qaa rfl) rfl rfl Kp.true (Y.move rfl rfl) ?_
 refine Jp.y 32 rfl (qaa rfl) rfl rfl Kp.true (Y.geq rfl rfl rfl) ?_
 refine Jp.qae hK22 ?_
 refine Cd.qaq rfl (fun ga=>?_) (fun ga=>?_)
 ·skip
  refine Cd.seq fun K23 hK23=>?_
  refine Cd.seq fun K24 hK24=>?_
  refine Cd.qac [(0,false),(1,false)] rfl rfl ?_
  refine Jp.y 33 rfl (qaa rfl) rfl rfl Kp.true (Y.move rfl rfl) ?_
  refine Jp.y 34 rfl (qaa rfl) rfl rfl Kp.true (Y.geq rfl rfl rfl) ?_
  refine Jp.qae hK24 ?_
  refine Cd.qaq rfl (fun gb=>?_) (fun gb=>?_)
  ·simp only [decide_eq_true_eq] at gb
   refine Cd.seq fun K25 hK25=>?_
   refine Cd.qac [(0,false),(1,false),(2,false),(3,false)] rfl rfl ?_
   refine Jp.y 35 rfl (qaa rfl) rfl rfl Kp.true (Y.move rfl rfl) ?_
   refine Jp.y 36 rfl (qaa rfl) rfl rfl Kp.true (Y.move rfl rfl) ?_
   refine Jp.call [0,1] [0,1] (adj_spec A n c b1 0 d (a + q) hd (by omega) (by omega) hn (by omega)) 37 rfl (qaa rfl) rfl rfl (Runs.fn rfl call117 rfl) (by decide) (by decide) rfl trivial ?_
   rintro v1 ρ1 L1 ⟨rfl,x1,t1,l1,m1,s1,rfl,rfl⟩
   refine ⟨rfl,fun hle1=>⟨Kp.true,?_⟩⟩
   refine Jp.y 10 rfl (qaa rfl) rfl rfl Kp.true (Y.assign rfl rfl) ?_
   refine Jp.qae hK25 ?_
   refine Cd.seq fun K26 hK26=>?_
   refine Cd.qac [(0,false),(1,false),(2,false),(3,false)] rfl rfl ?_
   refine Jp.y 38 rfl (qaa rfl) rfl rfl Kp.true (Y.move rfl rfl) ?_
   refine Jp.y 39 rfl (qaa rfl) rfl rfl Kp.true (Y.move rfl rfl) ?_
   refine Jp.call [0,1] [0,1] (adj_spec A n c b1 t1 d (a + q * 2) hd (by omega) (by omega) hn (by omega)) 40 rfl (qaa rfl) rfl rfl (Runs.fn rfl call117 rfl) (by decide) (by decide) rfl trivial ?_
   rintro v2 ρ2 L2 ⟨rfl,x2,t2,l2,m2,s2,rfl,rfl⟩
   refine ⟨rfl,fun hle2=>⟨Kp.true,?_⟩⟩
   refine Jp.y 11 rfl (qaa rfl) rfl rfl Kp.true (Y.assign rfl rfl) ?_
   refine Jp.qae hK26 ?_
   refine Cd.qac [(0,false),(1,false),(2,false),(3,false)] rfl rfl ?_
   refine Jp.y 41 rfl (qaa rfl) rfl rfl Kp.true (Y.move rfl rfl) ?_
   refine Jp.y 42 rfl (qaa rfl) rfl rfl Kp.true (Y.move rfl rfl) ?_
   refine Jp.call [0,1] [0,1] (adj_spec A n c b1 t2 d (a + q * 3) hd (by omega) (by omega) hn (by omega)) 43 rfl (qaa rfl) rfl rfl (Runs.fn rfl call117 rfl) (by decide) (by decide) rfl trivial ?_
   rintro v3 ρ3 L3 ⟨rfl,x3,t3,l3,m3,s3,rfl,rfl⟩
   refine ⟨rfl,fun hle3=>⟨Kp.true,?_⟩⟩
   refine Jp.y 12 rfl (qaa rfl) rfl rfl Kp.true (Y.assign rfl rfl) ?_
   refine Jp.qae hK23 ?_
   refine Cd.qac [(0,false),(1,false),(2,false),(3,false),(4,false),(5,false)] rfl rfl ?_
   refine Jp.y 44 rfl (qaa rfl) rfl rfl Kp.true (Y.move rfl rfl) ?_
   refine Jp.y 45 rfl (qaa rfl) rfl rfl Kp.true (Y.move rfl rfl) ?_
   refine Jp.y 46 rfl (qaa rfl) rfl rfl Kp.true (Y.move rfl rfl) ?_
   refine Jp.y 47 rfl (qaa rfl) rfl rfl Kp.true (Y.move rfl rfl) ?_
   refine Jp.call [0,1] [0,1] (qhj A n c b1 t3 d x1 x2 x3 hd (by omega) (by omega) (by omega) hn (by omega)) 48 rfl (qaa rfl) rfl rfl (Runs.fn rfl call118 rfl) (by decide) (by decide) rfl trivial ?_
   rintro v4 ρ4 L4 ⟨rfl,x,t,h,s4,rfl,rfl⟩
   refine ⟨rfl,fun hle4=>⟨Kp.true,?_⟩⟩
   refine Jp.y 11 rfl (qaa rfl) rfl rfl Kp.true (Y.assign rfl rfl) ?_
   refine Jp.qae hK21 ?_
   refine Cd.seq fun K27 hK27=>?_
   refine Cd.qac [(0,false)] rfl rfl ?_
   refine Jp.y 49 rfl (qaa rfl) rfl rfl Kp.true (Y.qaw 1 rfl isAgg3 rfl rfl rfl) ?_
   refine Jp.qae hK27 ?_
   refine Cd.block ?_
   refine Cd.seq fun K28 hK28=>?_
   refine Cd.qac [(0,false),(1,false)] rfl rfl ?_
   refine Jp.y 52 rfl (qaa rfl) rfl rfl Kp.true (Y.eql rfl rfl rfl) ?_
   refine Jp.y 51 rfl (qaa rfl) rfl rfl Kp.true (Y.assign rfl rfl) ?_
   refine Jp.qae hK28 ?_
   refine Cd.qaq rfl (fun gx=>?_) (fun gx=>?_)
   ·skip
    refine Cd.seq fun K29 hK29=>?_
    refine Cd.qac [(0,false),(1,false),(2,false)] rfl rfl ?_
    refine Jp.y 53 rfl (qaa rfl) rfl rfl Kp.true (Y.move rfl rfl) ?_
    refine Jp.y 6 rfl (qaa rfl) rfl rfl Kp.true (Y.assign rfl rfl) ?_
    refine Jp.y 7 rfl (qaa rfl) rfl rfl Kp.true (Y.assign rfl rfl) ?_
    refine Jp.qae hK29 ?_
    refine Cd.ret [(0,_)] rfl (qbv rfl rfl rfl) ⟨rfl,trivial⟩ ⟨rfl,x,1,by omega,by omega,rfl,rfl⟩
   ·skip
    refine Cd.seq fun K30 hK30=>?_
    refine Cd.qac [(0,false),(1,false)] rfl rfl ?_
    refine Jp.y 55 rfl (qaa rfl) rfl rfl Kp.true (Y.eql rfl rfl rfl) ?_
    refine Jp.y 54 rfl (qaa rfl) rfl rfl Kp.true (Y.assign rfl rfl) ?_
    refine Jp.qae hK30 ?_
    refine Cd.qaq rfl (fun gy=>?_) (fun gy=>?_)
    ·skip
     refine Cd.seq fun K31 hK31=>?_
     refine Cd.qac [(0,false),(1,false),(2,false)] rfl rfl ?_
     refine Jp.y 56 rfl (qaa rfl) rfl rfl Kp.true (Y.move rfl rfl) ?_
     refine Jp.y 6 rfl (qaa rfl) rfl rfl Kp.true (Y.assign rfl rfl) ?_
     refine Jp.y 7 rfl (qaa rfl) rfl rfl Kp.true (Y.assign rfl rfl) ?_
     refine Jp.qae hK31 ?_
     refine Cd.ret [(0,_)] rfl (qbv rfl rfl rfl) ⟨rfl,trivial⟩ ⟨rfl,x,2,by omega,by omega,rfl,rfl⟩
    ·skip
     refine Cd.seq fun K32 hK32=>?_
     refine Cd.qac [(0,false),(1,false),(2,false)] rfl rfl ?_
     refine Jp.y 50 rfl (qaa rfl) rfl rfl Kp.true (Y.move rfl rfl) ?_
     refine Jp.y 6 rfl (qaa rfl) rfl rfl Kp.true (Y.assign rfl rfl) ?_
     refine Jp.y 7 rfl (qaa rfl) rfl rfl Kp.true (Y.assign rfl rfl) ?_
     refine Jp.qae hK32 ?_
     refine Cd.ret [(0,_)] rfl (qbv rfl rfl rfl) ⟨rfl,trivial⟩ ⟨rfl,x,0,by omega,by omega,rfl,rfl⟩
  ·skip
   refine Cd.qbp hK23 ?_
   refine Cd.qac [(0,false),(1,false),(2,false),(3,false),(4,false),(5,false)] rfl rfl ?_
   refine Jp.y 44 rfl (qaa rfl) rfl rfl Kp.true (Y.move rfl rfl) ?_
   refine Jp.y 45 rfl (qaa rfl) rfl rfl Kp.true (Y.move rfl rfl) ?_
   refine Jp.y 46 rfl (qaa rfl) rfl rfl Kp.true (Y.move rfl rfl) ?_
   refine Jp.y 47 rfl (qaa rfl) rfl rfl Kp.true (Y.move rfl rfl) ?_
   refine Jp.call [0,1] [0,1] (qhj A n c b1 0 d (a + q) (a + q * 2) (a + q * 3) hd (by omega) (by omega) (by omega) hn (by omega)) 48 rfl (qaa rfl) rfl rfl (Runs.fn rfl call118 rfl) (by decide) (by decide) rfl trivial ?_
   rintro v5 ρ5 L5 ⟨rfl,x,t,h,s4,rfl,rfl⟩
   refine ⟨rfl,fun hle5=>⟨Kp.true,?_⟩⟩
   refine Jp.y 11 rfl (qaa rfl) rfl rfl Kp.true (Y.assign rfl rfl) ?_
   refine Jp.qae hK21 ?_
   refine Cd.seq fun K33 hK33=>?_
   refine Cd.qac [(0,false)] rfl rfl ?_
   refine Jp.y 49 rfl (qaa rfl) rfl rfl Kp.true (Y.qaw 1 rfl isAgg3 rfl rfl rfl) ?_
   refine Jp.qae hK33 ?_
   refine Cd.block ?_
   refine Cd.seq fun K34 hK34=>?_
   refine Cd.qac [(0,false),(1,false)] rfl rfl ?_
   refine Jp.y 52 rfl (qaa rfl) rfl rfl Kp.true (Y.eql rfl rfl rfl) ?_
   refine Jp.y 51 rfl (qaa rfl) rfl rfl Kp.true (Y.assign rfl rfl) ?_
   refine Jp.qae hK34 ?_
   refine Cd.qaq rfl (fun gx=>?_) (fun gx=>?_)
   ·skip
    refine Cd.seq fun K35 hK35=>?_
    refine Cd.qac [(0,false),(1,false),(2,false)] rfl rfl ?_
    refine Jp.y 53 rfl (qaa rfl) rfl rfl Kp.true (Y.move rfl rfl) ?_
    refine Jp.y 6 rfl (qaa rfl) rfl rfl Kp.true (Y.assign rfl rfl) ?_
    refine Jp.y 7 rfl (qaa rfl) rfl rfl Kp.true (Y.assign rfl rfl) ?_
    refine Jp.qae hK35 ?_
    refine Cd.ret [(0,_)] rfl (qbv rfl rfl rfl) ⟨rfl,trivial⟩ ⟨rfl,x,1,by omega,by omega,rfl,rfl⟩
   ·skip
    refine Cd.seq fun K36 hK36=>?_
    refine Cd.qac [(0,false),(1,false)] rfl rfl ?_
    refine Jp.y 55 rfl (qaa rfl) rfl rfl Kp.true (Y.eql rfl rfl rfl) ?_
    refine Jp.y 54 rfl (qaa rfl) rfl rfl Kp.true (Y.assign rfl rfl) ?_
    refine Jp.qae hK36 ?_
    refine Cd.qaq rfl (fun gy=>?_) (fun gy=>?_)
    ·skip
     refine Cd.seq fun K37 hK37=>?_
     refine Cd.qac [(0,false),(1,false),(2,false)] rfl rfl ?_
     refine Jp.y 56 rfl (qaa rfl) rfl rfl Kp.true (Y.move rfl rfl) ?_
     refine Jp.y 6 rfl (qaa rfl) rfl rfl Kp.true (Y.assign rfl rfl) ?_
     refine Jp.y 7 rfl (qaa rfl) rfl rfl Kp.true (Y.assign rfl rfl) ?_
     refine Jp.qae hK37 ?_
     refine Cd.ret [(0,_)] rfl (qbv rfl rfl rfl) ⟨rfl,trivial⟩ ⟨rfl,x,2,by omega,by omega,rfl,rfl⟩
    ·skip
     refine Cd.seq fun K38 hK38=>?_
     refine Cd.qac [(0,false),(1,false),(2,false)] rfl rfl ?_
     refine Jp.y 50 rfl (qaa rfl) rfl rfl Kp.true (Y.move rfl rfl) ?_
     refine Jp.y 6 rfl (qaa rfl) rfl rfl Kp.true (Y.assign rfl rfl) ?_
     refine Jp.y 7 rfl (qaa rfl) rfl rfl Kp.true (Y.assign rfl rfl) ?_
     refine Jp.qae hK38 ?_
     refine Cd.ret [(0,_)] rfl (qbv rfl rfl rfl) ⟨rfl,trivial⟩ ⟨rfl,x,0,by omega,by omega,rfl,rfl⟩
 ·exact absurd ga (by simp; omega)
theorem next_spec (b : Nat) (x : Int) : Spec Tryz.prog 116 #[.pointer (some ⟨b,0,none⟩)] (fun _=>True) [(0,Pt b (.cells #[.int .u64 x] 190))]
  (fun ρ ρ' v L=>ρ' = ρ ∧ ∃ y : Int,v = .int .u64 y ∧ L = [(0,Pt b (.cells #[.int .u64 y] 190))]):=by
 refine Spec.of 33 Tryz.func116 rfl Tryz.ntmps116 [(0,_)] rfl rfl ?_
 intro cx ρ hr h0
 refine Cd.seq fun K39 hK39=>?_
 refine Cd.qac [(0,false)] rfl rfl ?_
 refine Jp.y 2 rfl (qaa rfl) rfl rfl Kp.true (Y.assign rfl rfl) ?_
 refine Jp.qae hK39 ?_
 refine Cd.seq fun K40 hK40=>?_
 refine Cd.qcl [(0,_)] ⟨rfl,trivial⟩ [] [(0,true),(1,true),(2,true),(3,true),(4,true),(5,true),(6,true),(7,true),(8,true)] 9 [] follows (by kernel_rfl) (fun hrl=>?_)
 refine Jp2.head ?_
 refine Jp.q 3 rfl (qaa rfl) rfl rfl (Y.move rfl rfl) ?_
 refine Jp.q 4 rfl (qaa rfl) rfl rfl (Y.qam rfl rfl) ?_
 refine Jp.q 5 rfl (qaa rfl) rfl rfl (Y.qaw 0 rfl isAgg190 rfl rfl rfl) ?_
 refine Jp.q 6 rfl (qaa rfl) rfl rfl (Y.move rfl rfl) ?_
 refine Jp.q 7 rfl (qaa rfl) rfl rfl (Y.qam rfl rfl) ?_
 refine Jp.q 8 rfl (qaa rfl) rfl rfl (Y.qaw 0 rfl isAgg190 rfl rfl rfl) ?_
 refine Jp.q 9 rfl (qaa rfl) rfl rfl (Y.shl rfl rfl rfl (by first | decide | omega)) ?_
 refine Jp.q 10 rfl (qaa rfl) rfl rfl (Y.bits rfl rfl rfl rfl) ?_
 refine Jp.q 11 rfl (qaa rfl) rfl rfl (Y.qam rfl rfl) ?_
 refine Jp2.qct ?_
 refine Jp2.qeo ?_
 refine Jp.store 0 rfl (qaa rfl) rfl rfl sizeOf190 rfl rfl rfl rfl rfl rfl Kp.true ?_
 refine Jp2.qct ?_
 refine Jp2.nil ?_
 refine Jp.qae hK40 ?_
 refine Cd.seq fun K41 hK41=>?_
 refine Cd.drawn [(0,_)] ⟨rfl,trivial⟩ [(0,true),(1,true),(2,true),(3,true),(4,true),(5,true),(6,true),(7,true),(8,true),(9,false)] follows (by kernel_rfl) (fun hrl=>?_)
 refine Jp.q 12 rfl (qaa rfl) rfl rfl (Y.move rfl rfl) ?_
 refine Jp.q 13 rfl (qaa rfl) rfl rfl (Y.qam rfl rfl) ?_
 refine Jp.q 14 rfl (qaa rfl) rfl rfl (Y.qaw 0 rfl isAgg190 rfl rfl rfl) ?_
 refine Jp.q 15 rfl (qaa rfl) rfl rfl (Y.move rfl rfl) ?_
 refine Jp.q 16 rfl (qaa rfl) rfl rfl (Y.qam rfl rfl) ?_
 refine Jp.q 17 rfl (qaa rfl) rfl rfl (Y.qaw 0 rfl isAgg190 rfl rfl rfl) ?_
 refine Jp.q 18 rfl (qaa rfl) rfl rfl (Y.shr rfl rfl rfl (by first | decide | omega)) ?_
 refine Jp.q 19 rfl (qaa rfl) rfl rfl (Y.bits rfl rfl rfl rfl) ?_
 refine Jp.q 20 rfl (qaa rfl) rfl rfl (Y.qam rfl rfl) ?_
 refine Jp.store 0 rfl (qaa rfl) rfl rfl sizeOf190 rfl rfl rfl rfl rfl rfl Kp.last ?_
 refine Jp.qae hK41 ?_
 refine Cd.seq fun K43 hK43=>?_
 refine Cd.qcl [(0,_)] ⟨rfl,trivial⟩ [] [(0,true),(1,true),(2,true),(3,true),(4,true),(5,true),(6,true),(7,true),(8,true)] 9 [] follows (by kernel_rfl) (fun hrl=>?_)
 refine Jp2.head ?_
 refine Jp.q 21 rfl (qaa rfl) rfl rfl (Y.move rfl rfl) ?_
 refine Jp.q 22 rfl (qaa rfl) rfl rfl (Y.qam rfl rfl) ?_
 refine Jp.q 23 rfl (qaa rfl) rfl rfl (Y.qaw 0 rfl isAgg190 rfl rfl rfl) ?_
 refine Jp.q 24 rfl (qaa rfl) rfl rfl (Y.move rfl rfl) ?_
 refine Jp.q 25 rfl (qaa rfl) rfl rfl (Y.qam rfl rfl) ?_
 refine Jp.q 26 rfl (qaa rfl) rfl rfl (Y.qaw 0 rfl isAgg190 rfl rfl rfl) ?_
 refine Jp.q 27 rfl (qaa rfl) rfl rfl (Y.shl rfl rfl rfl (by first | decide | omega)) ?_
 refine Jp.q 28 rfl (qaa rfl) rfl rfl (Y.bits rfl rfl rfl rfl) ?_
 refine Jp.q 29 rfl (qaa rfl) rfl rfl (Y.qam rfl rfl) ?_
 refine Jp2.qct ?_
 refine Jp2.qeo ?_
 refine Jp.store 0 rfl (qaa rfl) rfl rfl sizeOf190 rfl rfl rfl rfl rfl rfl Kp.true ?_
 refine Jp2.qct ?_
 refine Jp2.nil ?_
 refine Jp.qae hK43 ?_
 refine Cd.seq fun K44 hK44=>?_
 refine Cd.qac [(0,false),(1,false),(2,false),(3,false)] rfl rfl ?_
 refine Jp.y 30 rfl (qaa rfl) rfl rfl Kp.true (Y.move rfl rfl) ?_
 refine Jp.y 31 rfl (qaa rfl) rfl rfl Kp.true (Y.qam rfl rfl) ?_
 refine Jp.y 32 rfl (qaa rfl) rfl rfl Kp.true (Y.qaw 0 rfl isAgg190 rfl rfl rfl) ?_
 refine Jp.y 2 rfl (qaa rfl) rfl rfl Kp.true (Y.assign rfl rfl) ?_
 refine Jp.qae hK44 ?_
 refine Cd.ret [(0,_)] rfl (qbf rfl rfl) ⟨rfl,trivial⟩ ⟨rfl,_,rfl,rfl⟩
def tabOk (l : qap) : Bool:=(List.range 256).all fun y=>decide ((l.getD y 0).toNat ≤ 8) && decide (y < 2 ^ (l.getD y 0).toNat) && (y == 0 || decide (2 ^ (l.getD y 0).toNat ≤ 2 * y))
theorem Jp.tabQ {P : Program} {n : Nat} {cx : Cx} {ρ : Hp} {E : Env} {L : Own} {ops : Array Oper} {Q : Exit → Act → World → Prop} {S : World → Prop} {π : List (Nat × Bool)} (t : Nat) {s : ByteArray} {q : Nat} {h : q < s.size} (ht : look E t = some (.int .u8 ((s[q]'h).toNat : Int)))
  (hs : tabOk (str s) = true) (hq : q < 256) (hk : ∀ k : Nat,k ≤ 8 → q < 2 ^ k → (0 < q → 2 ^ k ≤ 2 * q) → Jp P ops Q S n cx π ρ ((t,.int .u8 k) :: E) L) : Jp P ops Q S n cx π ρ E L:=by
 have e : (str s).getD q 0 = s[q]'h:=by
  rw [List.getD_eq_getElem?_getD,List.getElem?_eq_getElem (by rw [← str_size]; exact h)]
  simp [str]; rfl
 have h1:=List.all_eq_true.1 hs q (List.mem_range.2 hq)
 rw [e] at h1
 simp only [Bool.and_eq_true,decide_eq_true_eq,Bool.or_eq_true,beq_iff_eq] at h1
 obtain ⟨⟨h2,h3⟩,h4⟩:=h1
 exact Jp.slot t ht rfl (hk _ h2 h3 (fun h5=>h4.resolve_left (by omega)))
theorem len64q_spec (x : Nat) (h0x : 0 < x) (hx : x ≤ 4096) : Spec Tryz.prog 112 #[.int .u64 x] (fun _=>True) [] (fun ρ ρ' v L=>ρ' = ρ ∧ (∃ k : Nat,k ≤ 16 ∧ x < 2 ^ k ∧ 2 ^ k ≤ 2 * x ∧ v = .int .i64 k) ∧ L = []):=by
 refine Spec.of 25 Tryz.func112 rfl Tryz.ntmps112 [(0,_)] rfl rfl ?_
 intro cx ρ hr h0
 refine Cd.seq fun K45 hK45=>?_
 refine Cd.qac [(0,false)] rfl rfl ?_
 refine Jp.y 2 rfl (qaa rfl) rfl rfl Kp.true (Y.assign rfl rfl) ?_
 refine Jp.qae hK45 ?_
 refine Cd.seq fun K46 hK46=>?_
 refine Cd.seq fun K47 hK47=>?_
 refine Cd.qac [(0,false),(1,false)] rfl rfl ?_
 refine Jp.y 3 rfl (qaa rfl) rfl rfl Kp.true (Y.move rfl rfl) ?_
 refine Jp.y 4 rfl (qaa rfl) rfl rfl Kp.true (Y.geq rfl rfl rfl) ?_
 refine Jp.qae hK47 ?_
 refine Cd.qaq rfl (fun g4=>?_) (fun g4=>?_)
 ·skip
  exact absurd g4 (by simp; omega)
 try simp only [sG0] at g4
 refine Cd.qbp hK46 ?_
 refine Cd.seq fun K48 hK48=>?_
 refine Cd.seq fun K49 hK49=>?_
 refine Cd.qac [(0,false),(1,false)] rfl rfl ?_
 refine Jp.y 7 rfl (qaa rfl) rfl rfl Kp.true (Y.move rfl rfl) ?_
 refine Jp.y 8 rfl (qaa rfl) rfl rfl Kp.true (Y.geq rfl rfl rfl) ?_
 refine Jp.qae hK49 ?_
 refine Cd.qaq rfl (fun g8=>?_) (fun g8=>?_)
 ·skip
  exact absurd g8 (by simp; omega)
 try simp only [sG0] at g8
 refine Cd.qbp hK48 ?_
 refine Cd.seq fun K50 hK50=>?_
 refine Cd.seq fun K51 hK51=>?_
 refine Cd.qac [(0,false),(1,false)] rfl rfl ?_
 refine Jp.y 13 rfl (qaa rfl) rfl rfl Kp.true (Y.move rfl rfl) ?_
 refine Jp.y 14 rfl (qaa rfl) rfl rfl Kp.true (Y.geq rfl rfl rfl) ?_
 refine Jp.qae hK51 ?_
 refine Cd.qdo (G:=Nat × Nat) (fun g=>(g.1 = x ∧ g.2 = 0 ∧ x < 256) ∨ (g.1 = x / 256 ∧ g.2 = 8 ∧ 256 ≤ x)) (fun g=>[(0,.int .u64 g.1),(2,.int .i64 g.2)]) [] trivial (fun _=>[]) [] trivial hK50 (fun g hφ=>?_) (fun hj1=>?_)
 ·obtain ⟨y,k0⟩:=g
  dsimp only at hφ ⊢
  have hy : y < 256:=by omega
  have hk0 : k0 ≤ 8:=by omega
  refine Cd.seq fun K52 hK52=>?_
  refine Cd.qac [(0,false),(1,false),(2,false),(3,false),(4,false),(5,false),(6,false)] rfl rfl ?_
  refine Jp.y 19 rfl (qaa rfl) rfl rfl Kp.true (Y.move rfl rfl) ?_
  refine Jp.y 20 rfl (qaa rfl) rfl rfl Kp.true (Y.move rfl rfl) ?_
  refine Jp.y 21 rfl (qaa rfl) rfl rfl Kp.true (Y.qaz rfl rfl underlying103 underlying5 (by exact wrap_u8 (by omega) (by omega))) ?_
  refine Jp.y 22 rfl (qaa rfl) rfl rfl Kp.true (Y.indexstr (q:=y) rfl underlying9 rfl rfl (by omega) (by show (y : Int) < ((256 : Nat) : Int); omega) (by omega)) ?_
  refine Jp.tabQ 22 rfl (by kernel_rfl) hy fun k hk q1 q2=>?_
  refine Jp.y 23 rfl (qaa rfl) rfl rfl Kp.true (Y.qaz rfl rfl underlying5 underlying3 (by exact qaf (by omega) (by omega))) ?_
  refine Jp.y 24 rfl (qaa rfl) rfl rfl Kp.true (Y.qbq rfl rfl rfl (by exact qaf (by omega) (by omega))) ?_
  refine Jp.y 2 rfl (qaa rfl) rfl rfl Kp.true (Y.assign rfl rfl) ?_
  refine Jp.qae hK52 ?_
  have hpow : 2 ^ (8 + k) = 256 * 2 ^ k:=by rw [Nat.pow_add]
  have hfin : x < 2 ^ (k0 + k) ∧ 2 ^ (k0 + k) ≤ 2 * x:=by
   rcases hφ with ⟨rfl,rfl,h1⟩ | ⟨h1,rfl,h2⟩
   ·rw [Nat.zero_add]; exact ⟨q1,q2 h0x⟩
   ·rw [hpow]
    have:=q2 (by omega)
    omega
  refine Cd.ret [] rfl (qbf rfl rfl) trivial ⟨rfl,⟨k0 + k,by omega,hfin.1,hfin.2,by simp⟩,rfl⟩
 ·skip
  refine Cd.qaq rfl (fun ga=>?_) (fun ga=>?_)
  ·simp only [decide_eq_true_eq] at ga
   refine Cd.seq fun K53 hK53=>?_
   refine Cd.qac [(0,false),(1,false),(2,false)] rfl rfl ?_
   refine Jp.y 15 rfl (qaa rfl) rfl rfl Kp.true (Y.move rfl rfl) ?_
   refine Jp.y 16 rfl (qaa rfl) rfl rfl Kp.true (Y.shr rfl rfl rfl (by first | decide | omega)) ?_
   refine Jp.slot 16 rfl (show _ = Value.int .u64 ((x / 256 : Nat) : Int) by rw [Int.fdiv_eq_ediv_of_nonneg _ (by decide)]; exact congrArg (Value.int .u64) (show (x : Int) / 256 = ((x / 256 : Nat) : Int) by omega)) ?_
   refine Jp.y 0 rfl (qaa rfl) rfl rfl Kp.true (Y.assign rfl rfl) ?_
   refine Jp.qae hK53 ?_
   refine Cd.qac [(0,false),(1,false),(2,false)] rfl rfl ?_
   refine Jp.y 17 rfl (qaa rfl) rfl rfl Kp.true (Y.move rfl rfl) ?_
   refine Jp.y 18 rfl (qaa rfl) rfl rfl Kp.true (Y.qbq rfl rfl rfl (by exact qaf (by omega) (by omega))) ?_
   refine Jp.y 2 rfl (qaa rfl) rfl rfl Kp.true (Y.assign rfl rfl) ?_
   refine Jp.qae hK50 ?_
   exact Cd.qce (hj1 ⟨x / 256,8⟩ (.inr ⟨rfl,rfl,by omega⟩)) ⟨rfl,rfl,trivial⟩ trivial
  ·simp only [decide_eq_false_iff_not] at ga
   refine Cd.qbp hK50 ?_
   exact Cd.qce (hj1 ⟨x,0⟩ (.inl ⟨rfl,rfl,by omega⟩)) ⟨rfl,rfl,trivial⟩ trivial
theorem lenq_spec (x : Nat) (h0x : 0 < x) (hx : x ≤ 4096) : Spec Tryz.prog 87 #[.int .u64 x] (fun _=>True) [] (fun ρ ρ' v L=>ρ' = ρ ∧ (∃ k : Nat,k ≤ 16 ∧ x < 2 ^ k ∧ 2 ^ k ≤ 2 * x ∧ v = .int .i64 k) ∧ L = []):=by
 refine Spec.of 8 Tryz.func87 rfl Tryz.ntmps87 [(0,_)] rfl rfl ?_
 intro cx ρ hr h0
 refine Cd.seq fun K54 hK54=>?_
 refine Cd.qac [(0,false)] rfl rfl ?_
 refine Jp.y 2 rfl (qaa rfl) rfl rfl Kp.true (Y.assign rfl rfl) ?_
 refine Jp.qae hK54 ?_
 refine Cd.seq fun K55 hK55=>?_
 refine Cd.qbs rfl ?_
 refine Cd.qbp hK55 ?_
 refine Cd.seq fun K56 hK56=>?_
 refine Cd.qac [(0,false),(1,false),(2,false)] rfl rfl ?_
 refine Jp.y 6 rfl (qaa rfl) rfl rfl Kp.true (Y.move rfl rfl) ?_
 refine Jp.call [] [] (len64q_spec x h0x hx) 7 rfl (qaa rfl) rfl rfl (Runs.fn rfl call112 rfl) (by decide) (by decide) rfl trivial ?_
 rintro v1 ρ1 L1 ⟨rfl,⟨k,hk,k1,k2,rfl⟩,rfl⟩
 refine ⟨rfl,fun hle1=>⟨Kp.true,?_⟩⟩
 refine Jp.y 2 rfl (qaa rfl) rfl rfl Kp.true (Y.assign rfl rfl) ?_
 refine Jp.qae hK56 ?_
 refine Cd.ret [] rfl (qbf rfl rfl) trivial ⟨rfl,⟨k,hk,k1,k2,rfl⟩,rfl⟩
theorem pow_spec (x : Nat) (h0x : 0 < x) (hx : x ≤ 4096) : Spec Tryz.prog 115 #[.int .i64 x] (fun _=>True) [] (fun ρ ρ' v L=>ρ' = ρ ∧ (∃ m : Nat,x < m ∧ m ≤ 2 * x ∧ v = .int .u64 (m : Int)) ∧ L = []):=by
 refine Spec.of 7 Tryz.func115 rfl Tryz.ntmps115 [(0,_)] rfl rfl ?_
 intro cx ρ hr h0
 refine Cd.seq fun K57 hK57=>?_
 refine Cd.qac [(0,false)] rfl rfl ?_
 refine Jp.y 2 rfl (qaa rfl) rfl rfl Kp.true (Y.assign rfl rfl) ?_
 refine Jp.qae hK57 ?_
 refine Cd.seq fun K58 hK58=>?_
 refine Cd.qac [(0,false),(1,false),(2,false),(3,false),(4,false)] rfl rfl ?_
 refine Jp.y 3 rfl (qaa rfl) rfl rfl Kp.true (Y.move rfl rfl) ?_
 refine Jp.y 4 rfl (qaa rfl) rfl rfl Kp.true (Y.qaz rfl rfl underlying3 underlying64 (by exact qbg (by omega) (by omega))) ?_
 refine Jp.call [] [] (lenq_spec x h0x hx) 5 rfl (qaa rfl) rfl rfl (Runs.fn rfl call87 rfl) (by decide) (by decide) rfl trivial ?_
 rintro v1 ρ1 L1 ⟨rfl,⟨k,hk,k1,k2,rfl⟩,rfl⟩
 refine ⟨rfl,fun hle1=>⟨Kp.true,?_⟩⟩
 refine Jp.y 6 rfl (qaa rfl) rfl rfl Kp.true (Y.shl rfl rfl rfl (by first | decide | omega)) ?_
 have e : IntKind.u64.wrap ((1 : Int) * 2 ^ (min (k : Int).toNat IntKind.u64.bits)) = ((2 ^ k : Nat) : Int):=by
  have h64 : IntKind.u64.bits = 64:=rfl
  have h1 : min (k : Int).toNat IntKind.u64.bits = k:=by omega
  have h2 : (1 : Int) * 2 ^ k = ((2 ^ k : Nat) : Int):=by simp
  rw [h1,h2]
  exact qbg (by omega) (by omega)
 refine Jp.slot 6 rfl (congrArg (Value.int .u64) e) ?_
 refine Jp.y 2 rfl (qaa rfl) rfl rfl Kp.true (Y.assign rfl rfl) ?_
 refine Jp.qae hK58 ?_
 refine Cd.ret [] rfl (qbf rfl rfl) trivial ⟨rfl,⟨2 ^ k,k1,k2,rfl⟩,rfl⟩
theorem and64 (y : Int) (m : Nat) (h0 : 0 < m) (hm : m ≤ 100000) : ∃ o : Nat,o < m ∧ qcm .and .u64 y ((m : Int) - 1) = (o : Int):=by
 have e1 : ((m : Int) - 1) = ((m - 1 : Nat) : Int):=by omega
 have h1 : (BitVec.ofInt 64 y).toNat &&& (m - 1) ≤ m - 1:=Nat.and_le_right
 refine ⟨(BitVec.ofInt 64 y).toNat &&& (m - 1),by omega,?_⟩
 rw [e1]
 show IntKind.u64.wrap ((BitVec.ofInt 64 y &&& BitVec.ofInt 64 ((m - 1 : Nat) : Int)).toNat : Int) = _
 rw [BitVec.toNat_and,qcq 64 (m - 1) (by omega)]
 exact qbg (by omega) (by omega)
theorem break_spec (A : Option Addr) (n c : Nat) (d0 : Array Nat) (a e : Nat) (hd : d0.size = n) (hae : a + 12 < e) (hen : e ≤ n) (hn : n ≤ 4096) : Spec Tryz.prog 104 #[.slice A n c,.int .i64 a,.int .i64 e] (fun _=>True) [(0,qdp A n c d0)]
  (fun ρ ρ' v L=>ρ' = ρ ∧ ∃ d : Array Nat,Go.Sort.PermIn a e d0 d ∧ v = .tuple #[] ∧ L = [(0,qdp A n c d)]):=by
 refine Spec.of 65 Tryz.func104 rfl Tryz.ntmps104 [(0,_),(1,_),(2,_)] rfl rfl ?_
 intro cx ρ hr h0
 obtain ⟨l,hl⟩ : ∃ l,l = e - a:=⟨_,rfl⟩
 refine Cd.seq fun K59 hK59=>?_
 refine Cd.qac [(0,false),(1,false),(2,false),(3,false)] rfl rfl ?_
 refine Jp.y 11 rfl (qaa rfl) rfl rfl Kp.true (Y.move rfl rfl) ?_
 refine Jp.y 12 rfl (qaa rfl) rfl rfl Kp.true (Y.move rfl rfl) ?_
 refine Jp.y 13 rfl (qaa rfl) rfl rfl Kp.true (Y.qcp rfl rfl rfl (by exact qaf (by omega) (by omega))) ?_
 refine Jp.y 6 rfl (qaa rfl) rfl rfl Kp.true (Y.assign rfl rfl) ?_
 refine Jp.qae hK59 ?_
 refine Cd.seq fun K60 hK60=>?_
 refine Cd.qac [(0,false),(1,false)] rfl rfl ?_
 refine Jp.slot 6 rfl (show _ = Value.int .i64 (l : Int) from congrArg (Value.int .i64) (by omega)) ?_
 refine Jp.y 14 rfl (qaa rfl) rfl rfl Kp.true (Y.move rfl rfl) ?_
 refine Jp.y 15 rfl (qaa rfl) rfl rfl Kp.true (Y.geq rfl rfl rfl) ?_
 refine Jp.qae hK60 ?_
 refine Cd.qaq rfl (fun ga=>?_) (fun ga=>?_)
 ·skip
  refine Cd.seq fun K61 hK61=>?_
  refine Cd.qac [(0,false),(1,false),(2,false),(3,false)] rfl rfl ?_
  refine Jp.y 16 rfl (qaa rfl) rfl rfl Kp.true (Y.move rfl rfl) ?_
  refine Jp.y 17 rfl (qaa rfl) rfl rfl Kp.true (Y.qaz rfl rfl underlying3 underlying190 (by exact qbg (by omega) (by omega))) ?_
  refine Jp.alloc 1 7 rfl (qaa rfl) rfl rfl rfl zeroValue190 fun b1=>⟨Kp.true,?_⟩
  refine Jp.store 1 rfl (qaa rfl) rfl rfl sizeOf190 rfl rfl rfl rfl rfl rfl Kp.true ?_
  refine Jp.qae hK61 ?_
  refine Cd.seq fun K62 hK62=>?_
  refine Cd.qac [(0,false),(1,false),(2,false)] rfl rfl ?_
  refine Jp.y 18 rfl (qaa rfl) rfl rfl Kp.true (Y.move rfl rfl) ?_
  refine Jp.call [] [] (pow_spec l (by omega) (by omega)) 19 rfl (qaa rfl) rfl rfl (Runs.fn rfl call115 rfl) (by decide) (by decide) rfl trivial ?_
  rintro v1 ρ1 L1 ⟨rfl,⟨m,m1,m2,rfl⟩,rfl⟩
  refine ⟨rfl,fun hle1=>⟨Kp.true,?_⟩⟩
  obtain ⟨i0,hi0⟩ : ∃ i0,i0 = a + l / 4 * 2 - 1:=⟨_,rfl⟩
  refine Jp.y 8 rfl (qaa rfl) rfl rfl Kp.true (Y.assign rfl rfl) ?_
  refine Jp.qae hK62 ?_
  refine Cd.seq fun K63 hK63=>?_
  refine Cd.qac [(0,false),(1,false),(2,false),(3,false),(4,false),(5,false),(6,false)] rfl rfl ?_
  refine Jp.y 20 rfl (qaa rfl) rfl rfl Kp.true (Y.move rfl rfl) ?_
  refine Jp.y 21 rfl (qaa rfl) rfl rfl Kp.true (Y.move rfl rfl) ?_
  refine Jp.y 22 rfl (qaa rfl) rfl rfl Kp.true (by exact Y.quoN rfl rfl rfl (by omega) (by omega) (qaf (by omega) (by omega))) ?_
  refine Jp.y 23 rfl (qaa rfl) rfl rfl Kp.true (Y.mul_ rfl rfl rfl (by exact qaf (by omega) (by omega))) ?_
  refine Jp.y 24 rfl (qaa rfl) rfl rfl Kp.true (Y.qbq rfl rfl rfl (by exact qaf (by omega) (by omega))) ?_
  refine Jp.y 25 rfl (qaa rfl) rfl rfl Kp.true (Y.qcp rfl rfl rfl (by exact qaf (by omega) (by omega))) ?_
  refine Jp.y 9 rfl (qaa rfl) rfl rfl Kp.true (Y.assign rfl rfl) ?_
  refine Jp.qae hK63 ?_
  refine Cd.block ?_
  refine Cd.slot 9 rfl (show _ = Value.int .i64 (i0 : Int) from congrArg (Value.int .i64) (by omega)) ?_
  refine Cd.qcr (G:=Nat × Array Nat × Int) (fun g=>i0 ≤ g.1 ∧ g.1 ≤ i0 + 3 ∧ Go.Sort.PermIn a e d0 g.2.1) (fun g=>i0 + 3 - g.1) (fun _=>_) (fun g=>[(9,.int .i64 (g.1 : Int))]) [(0,_),(1,_),(6,_),(7,_),(8,_)] (fun g=>[(0,qdp A n c g.2.1),(1,Pt b1 (.cells #[.int .u64 g.2.2] 190))]) [] ⟨i0,d0,(l : Int)⟩ ⟨Nat.le_refl _,by show i0 ≤ i0 + 3; omega,Go.Sort.permIn_refl d0 a e⟩ rfl ⟨rfl,trivial⟩ ⟨rfl,rfl,rfl,rfl,rfl,trivial⟩ ⟨rfl,rfl,trivial⟩ trivial (fun g KLa hok hLa=>?_)
  obtain ⟨i,d,x⟩:=g
  obtain ⟨ok1,ok2,ok3⟩:=hok
  dsimp only at ok1 ok2 ok3 ⊢
  have hds : d.size = n:=by rw [ok3.1]; exact hd
  refine Cd.seq fun K64 hK64=>?_
  refine Cd.seq fun K65 hK65=>?_
  refine Cd.qac [(0,false),(1,false),(2,false),(3,false),(4,false),(5,false),(6,false),(7,false)] rfl rfl ?_
  refine Jp.y 26 rfl (qaa rfl) rfl rfl Kp.true (Y.move rfl rfl) ?_
  refine Jp.y 27 rfl (qaa rfl) rfl rfl Kp.true (Y.move rfl rfl) ?_
  refine Jp.y 28 rfl (qaa rfl) rfl rfl Kp.true (Y.move rfl rfl) ?_
  refine Jp.y 29 rfl (qaa rfl) rfl rfl Kp.true (by exact Y.quoN rfl rfl rfl (by omega) (by omega) (qaf (by omega) (by omega))) ?_
  refine Jp.y 30 rfl (qaa rfl) rfl rfl Kp.true (Y.mul_ rfl rfl rfl (by exact qaf (by omega) (by omega))) ?_
  refine Jp.y 31 rfl (qaa rfl) rfl rfl Kp.true (Y.qbq rfl rfl rfl (by exact qaf (by omega) (by omega))) ?_
  refine Jp.y 32 rfl (qaa rfl) rfl rfl Kp.true (Y.qbq rfl rfl rfl (by exact qaf (by omega) (by omega))) ?_
  refine Jp.y 33 rfl (qaa rfl) rfl rfl Kp.true (Y.leq rfl rfl rfl) ?_
  refine Jp.qae hK65 ?_
  refine Cd.qaq rfl (fun gb=>?_) (fun gb=>?_)
  ·simp only [decide_eq_true_eq] at gb
   refine Cd.qbp hK64 ?_
   refine Cd.seq fun K66 hK66=>?_
   refine Cd.block ?_
   refine Cd.seq fun K67 hK67=>?_
   refine Cd.qac [(0,false),(1,false),(2,false),(3,false),(4,false),(5,false)] rfl rfl ?_
   refine Jp.call [1] [1] (next_spec b1 x) 36 rfl (qaa rfl) rfl rfl (Runs.fn rfl call116 rfl) (by decide) (by decide) rfl trivial ?_
   rintro v2 ρ2 L2 ⟨rfl,y,rfl,rfl⟩
   refine ⟨rfl,fun hle2=>⟨Kp.true,?_⟩⟩
   refine Jp.y 37 rfl (qaa rfl) rfl rfl Kp.true (Y.move rfl rfl) ?_
   refine Jp.y 38 rfl (qaa rfl) rfl rfl Kp.true (Y.qcp rfl rfl rfl (by exact qbg (by omega) (by omega))) ?_
   obtain ⟨o,o1,o2⟩:=and64 y m (by omega) (by omega)
   refine Jp.y 39 rfl (qaa rfl) rfl rfl Kp.true (Y.bits rfl rfl rfl rfl) ?_
   refine Jp.slot 39 rfl (show _ = Value.int .u64 (o : Int) from congrArg (Value.int .u64) o2) ?_
   refine Jp.y 40 rfl (qaa rfl) rfl rfl Kp.true (Y.qaz rfl rfl underlying64 underlying3 (by exact qaf (by omega) (by omega))) ?_
   refine Jp.y 10 rfl (qaa rfl) rfl rfl Kp.true (Y.assign rfl rfl) ?_
   refine Jp.qae hK67 ?_
   refine Cd.seq fun K68 hK68=>?_
   refine Cd.seq fun K69 hK69=>?_
   refine Cd.qac [(0,false),(1,false),(2,false)] rfl rfl ?_
   refine Jp.y 41 rfl (qaa rfl) rfl rfl Kp.true (Y.move rfl rfl) ?_
   refine Jp.y 42 rfl (qaa rfl) rfl rfl Kp.true (Y.move rfl rfl) ?_
   refine Jp.y 43 rfl (qaa rfl) rfl rfl Kp.true (Y.geq rfl rfl rfl) ?_
   refine Jp.qae hK69 ?_
   refine Cd.ownAt 0 rfl (show 0 < n by omega) ?_
   rintro b rfl
   refine Cd.qaq rfl (fun gc=>?_) (fun gc=>?_)
   ·simp only [decide_eq_true_eq] at gc
    refine Cd.qac [(0,false),(1,false),(2,false),(3,false)] rfl rfl ?_
    refine Jp.y 44 rfl (qaa rfl) rfl rfl Kp.true (Y.move rfl rfl) ?_
    refine Jp.y 45 rfl (qaa rfl) rfl rfl Kp.true (Y.move rfl rfl) ?_
    refine Jp.y 46 rfl (qaa rfl) rfl rfl Kp.true (Y.qcp rfl rfl rfl (by exact qaf (by omega) (by omega))) ?_
    refine Jp.y 10 rfl (qaa rfl) rfl rfl Kp.true (Y.assign rfl rfl) ?_
    refine Jp.qae hK68 ?_
    refine Cd.qcl [(0,_)] ⟨rfl,trivial⟩ [(2,true),(3,true),(4,true),(5,true)] [(0,true),(1,true),(6,true),(7,true),(8,true),(9,true),(10,true),(11,true),(12,true),(13,true),(14,true),(15,true),(16,true)] 17 [(18,true),(19,false)] follows (by kernel_rfl) (fun hrl=>?_)
    refine Jp2.q 49 rfl (qaa rfl) rfl rfl (fun _=>(Y.move rfl rfl)) ?_
    refine Jp2.q 50 rfl (qaa rfl) rfl rfl (fun _=>(Y.move rfl rfl)) ?_
    refine Jp2.q 51 rfl (qaa rfl) rfl rfl (fun _=>(Y.move rfl rfl)) ?_
    refine Jp2.slot 10 rfl (show _ = Value.int .i64 ((o - l : Nat) : Int) from congrArg (Value.int .i64) (by omega)) ?_
    have co:=qed (b:=b) (n:=n) (c:=c) (d:=d) (i:=a + (o - l)) (by omega)
    have ci:=qed (b:=b) (n:=n) (c:=c) (d:=d) (i:=i) (by omega)
    refine Jp2.q 52 rfl (qaa rfl) rfl rfl (fun _=>(Y.qbq rfl rfl rfl (by exact qaf (by omega) (by omega)))) ?_
    refine Jp2.head ?_
    refine Jp.q 47 rfl (qaa rfl) rfl rfl (Y.move rfl rfl) ?_
    refine Jp.q 48 rfl (qaa rfl) rfl rfl (Y.move rfl rfl) ?_
    refine Jp.q 53 rfl (qaa rfl) rfl rfl (Y.move rfl rfl) ?_
    refine Jp.q 54 rfl (qaa rfl) rfl rfl (Y.move rfl rfl) ?_
    refine Jp.q 55 rfl (qaa rfl) rfl rfl (Y.move rfl rfl) ?_
    refine Jp.q 56 rfl (qaa rfl) rfl rfl (Y.qbq rfl rfl rfl (by exact qaf (by omega) (by omega))) ?_
    refine Jp.q 57 rfl (qaa rfl) rfl rfl (Y.qag (q:=a + (o - l)) rfl rfl rfl underlying22 sizeOf24 (by omega) (by omega) (by omega)) ?_
    refine Jp.q 58 rfl (qaa rfl) rfl rfl (by exact Y.qas 0 rfl isAgg24 rfl rfl co) ?_
    refine Jp.q 59 rfl (qaa rfl) rfl rfl (Y.move rfl rfl) ?_
    refine Jp.q 60 rfl (qaa rfl) rfl rfl (Y.move rfl rfl) ?_
    refine Jp.q 61 rfl (qaa rfl) rfl rfl (Y.qag (q:=i) rfl rfl rfl underlying22 sizeOf24 (by omega) (by omega) (by omega)) ?_
    refine Jp.q 62 rfl (qaa rfl) rfl rfl (by exact Y.qas 0 rfl isAgg24 rfl rfl ci) ?_
    refine Jp.q 63 rfl (qaa rfl) rfl rfl (Y.qag (q:=i) rfl rfl rfl underlying22 sizeOf24 (by omega) (by omega) (by omega)) ?_
    refine Jp2.qct ?_
    refine Jp2.qeo ?_
    refine Jp.qbu 0 (q:=i) rfl (qaa rfl) rfl rfl sizeOf24 rfl rfl rfl rfl rfl (by omega) (qbd .u32 (d.toList.set i d[a + (o - l)]!)) (qbc _ _ _ _) Kp.true ?_
    refine Jp2.qct ?_
    refine Jp2.q 64 rfl (qaa rfl) rfl rfl (fun _=>(Y.qag (q:=a + (o - l)) rfl rfl rfl underlying22 sizeOf24 (by omega) (by omega) (by omega))) ?_
    refine Jp2.qeo ?_
    refine Jp.qbu 0 (q:=a + (o - l)) rfl (qaa rfl) rfl rfl sizeOf24 rfl rfl rfl rfl rfl (by omega) (qbd .u32 (Go.Sort.swp d i (a + (o - l))).toList) (by rw [qbc,swpL]) Kp.true ?_
    refine Jp2.qct ?_
    refine Jp2.nil ?_
    refine Jp.over rfl hK66 ?_
    refine Cd.qac [(0,false),(1,false),(2,false)] rfl rfl ?_
    refine Jp.y 34 rfl (qaa rfl) rfl rfl Kp.true (Y.move rfl rfl) ?_
    refine Jp.y 35 rfl (qaa rfl) rfl rfl Kp.true (Y.qbq rfl rfl rfl (by exact qaf (by omega) (by omega))) ?_
    refine Jp.y 9 rfl (qaa rfl) rfl rfl Kp.true (Y.assign rfl rfl) ?_
    rw [show (i : Int) + 1 = ((i + 1 : Nat) : Int) by omega]
    refine Jp.again hLa ⟨i + 1,Go.Sort.swp d i (a + (o - l)),y⟩ ⟨by show i0 ≤ i + 1; omega,by show i + 1 ≤ i0 + 3; omega,Go.Sort.permIn_trans d0 d _ a e ok3 (Go.Sort.swp_permIn d a e i (a + (o - l)) (by omega) (by omega) (by omega) (by omega) (by omega))⟩ (by show i0 + 3 - (i + 1) < i0 + 3 - i; omega) rfl ⟨rfl,rfl,rfl,rfl,rfl,rfl,trivial⟩ ⟨rfl,rfl,trivial⟩
   ·simp only [decide_eq_false_iff_not] at gc
    have co:=qed (b:=b) (n:=n) (c:=c) (d:=d) (i:=a + (o)) (by omega)
    have ci:=qed (b:=b) (n:=n) (c:=c) (d:=d) (i:=i) (by omega)
    refine Cd.qbp hK68 ?_
    refine Cd.qcl [(0,_)] ⟨rfl,trivial⟩ [(2,true),(3,true),(4,true),(5,true)] [(0,true),(1,true),(6,true),(7,true),(8,true),(9,true),(10,true),(11,true),(12,true),(13,true),(14,true),(15,true),(16,true)] 17 [(18,true),(19,false)] follows (by kernel_rfl) (fun hrl=>?_)
    refine Jp2.q 49 rfl (qaa rfl) rfl rfl (fun _=>(Y.move rfl rfl)) ?_
    refine Jp2.q 50 rfl (qaa rfl) rfl rfl (fun _=>(Y.move rfl rfl)) ?_
    refine Jp2.q 51 rfl (qaa rfl) rfl rfl (fun _=>(Y.move rfl rfl)) ?_
    refine Jp2.q 52 rfl (qaa rfl) rfl rfl (fun _=>(Y.qbq rfl rfl rfl (by exact qaf (by omega) (by omega)))) ?_
    refine Jp2.head ?_
    refine Jp.q 47 rfl (qaa rfl) rfl rfl (Y.move rfl rfl) ?_
    refine Jp.q 48 rfl (qaa rfl) rfl rfl (Y.move rfl rfl) ?_
    refine Jp.q 53 rfl (qaa rfl) rfl rfl (Y.move rfl rfl) ?_
    refine Jp.q 54 rfl (qaa rfl) rfl rfl (Y.move rfl rfl) ?_
    refine Jp.q 55 rfl (qaa rfl) rfl rfl (Y.move rfl rfl) ?_
    refine Jp.q 56 rfl (qaa rfl) rfl rfl (Y.qbq rfl rfl rfl (by exact qaf (by omega) (by omega))) ?_
    refine Jp.q 57 rfl (qaa rfl) rfl rfl (Y.qag (q:=a + (o)) rfl rfl rfl underlying22 sizeOf24 (by omega) (by omega) (by omega)) ?_
    refine Jp.q 58 rfl (qaa rfl) rfl rfl (by exact Y.qas 0 rfl isAgg24 rfl rfl co) ?_
    refine Jp.q 59 rfl (qaa rfl) rfl rfl (Y.move rfl rfl) ?_
    refine Jp.q 60 rfl (qaa rfl) rfl rfl (Y.move rfl rfl) ?_
    refine Jp.q 61 rfl (qaa rfl) rfl rfl (Y.qag (q:=i) rfl rfl rfl underlying22 sizeOf24 (by omega) (by omega) (by omega)) ?_
    refine Jp.q 62 rfl (qaa rfl) rfl rfl (by exact Y.qas 0 rfl isAgg24 rfl rfl ci) ?_
    refine Jp.q 63 rfl (qaa rfl) rfl rfl (Y.qag (q:=i) rfl rfl rfl underlying22 sizeOf24 (by omega) (by omega) (by omega)) ?_
    refine Jp2.qct ?_
    refine Jp2.qeo ?_
    refine Jp.qbu 0 (q:=i) rfl (qaa rfl) rfl rfl sizeOf24 rfl rfl rfl rfl rfl (by omega) (qbd .u32 (d.toList.set i d[a + (o)]!)) (qbc _ _ _ _) Kp.true ?_
    refine Jp2.qct ?_
    refine Jp2.q 64 rfl (qaa rfl) rfl rfl (fun _=>(Y.qag (q:=a + (o)) rfl rfl rfl underlying22 sizeOf24 (by omega) (by omega) (by omega))) ?_
    refine Jp2.qeo ?_
    refine Jp.qbu 0 (q:=a + (o)) rfl (qaa rfl) rfl rfl sizeOf24 rfl rfl rfl rfl rfl (by omega) (qbd .u32 (Go.Sort.swp d i (a + (o))).toList) (by rw [qbc,swpL]) Kp.true ?_
    refine Jp2.qct ?_
    refine Jp2.nil ?_
    refine Jp.over rfl hK66 ?_
    refine Cd.qac [(0,false),(1,false),(2,false)] rfl rfl ?_
    refine Jp.y 34 rfl (qaa rfl) rfl rfl Kp.true (Y.move rfl rfl) ?_
    refine Jp.y 35 rfl (qaa rfl) rfl rfl Kp.true (Y.qbq rfl rfl rfl (by exact qaf (by omega) (by omega))) ?_
    refine Jp.y 9 rfl (qaa rfl) rfl rfl Kp.true (Y.assign rfl rfl) ?_
    rw [show (i : Int) + 1 = ((i + 1 : Nat) : Int) by omega]
    refine Jp.again hLa ⟨i + 1,Go.Sort.swp d i (a + (o)),y⟩ ⟨by show i0 ≤ i + 1; omega,by show i + 1 ≤ i0 + 3; omega,Go.Sort.permIn_trans d0 d _ a e ok3 (Go.Sort.swp_permIn d a e i (a + (o)) (by omega) (by omega) (by omega) (by omega) (by omega))⟩ (by show i0 + 3 - (i + 1) < i0 + 3 - i; omega) rfl ⟨rfl,rfl,rfl,rfl,rfl,rfl,trivial⟩ ⟨rfl,rfl,trivial⟩
  ·skip
   refine Cdx.end [(0,_)] rfl (res0 rfl) ⟨rfl,trivial⟩ ⟨rfl,d,ok3,rfl,rfl⟩
 ·exact absurd ga (by simp; omega)
end Go.Proofs.YtnfkalpgidiafaaGreat
set_option linter.unusedVariables false
set_option linter.unusedSimpArgs false
set_option maxRecDepth 100000
namespace Go.Proofs.YtnfkalpgidiafaaGreat
open _root_.Go.Proofs.Tryz
open Go
theorem partial_spec (A : Option Addr) (n c : Nat) (d0 : Array Nat) (a e : Nat) (hd : d0.size = n) (hae : a + 1 ≤ e) (hen : e ≤ n) (hn : n ≤ 4096) : Spec Tryz.prog 107 #[.slice A n c,.int .i64 a,.int .i64 e] (fun _=>True) [(0,qdp A n c d0)]
  (fun ρ ρ' v L=>ρ' = ρ ∧ v = .bool (Go.Sort.partialInsertionSort ltN d0 a e).2 ∧ L = [(0,qdp A n c (Go.Sort.partialInsertionSort ltN d0 a e).1)]):=by
 refine Spec.of 133 Tryz.func107 rfl Tryz.ntmps107 [(0,_),(1,_),(2,_)] rfl rfl ?_
 intro cx ρ hr h0
 obtain ⟨T,hT⟩ : ∃ T,Go.Sort.partialInsertionSort ltN d0 a e = T:=⟨_,rfl⟩
 rw [hT]
 refine Cd.seq fun K1 hK1=>?_
 refine Cd.qac [(0,false)] rfl rfl ?_
 refine Jp.y 6 rfl (qaa rfl) rfl rfl Kp.true (Y.assign rfl rfl) ?_
 refine Jp.qae hK1 ?_
 refine Cd.seq fun K2 hK2=>?_
 refine Cd.qac [(0,false),(1,false),(2,false)] rfl rfl ?_
 refine Jp.y 11 rfl (qaa rfl) rfl rfl Kp.true (Y.move rfl rfl) ?_
 refine Jp.y 12 rfl (qaa rfl) rfl rfl Kp.true (Y.qbq rfl rfl rfl (by exact qaf (by omega) (by omega))) ?_
 refine Jp.y 7 rfl (qaa rfl) rfl rfl Kp.true (Y.assign rfl rfl) ?_
 refine Jp.qae hK2 ?_
 refine Cd.seq fun K3 hK3=>?_
 refine Cd.seq fun K4 hK4=>?_
 refine Cd.qac [(0,false)] rfl rfl ?_
 refine Jp.y 8 rfl (qaa rfl) rfl rfl Kp.true (Y.assign rfl rfl) ?_
 refine Jp.qae hK4 ?_
 refine Cd.block ?_
 refine Cd.slot 7 rfl (show _ = Value.int .i64 ((a + 1 : Nat) : Int) from congrArg (Value.int .i64) (by omega)) ?_
 refine Cd.qcr (G:=Nat × Nat × Array Nat) (fun g=>Go.Sort.partialIns ltN a e (5 - g.1) g.2.1 g.2.2 = T ∧ a + 1 ≤ g.2.1 ∧ g.2.1 ≤ e ∧ g.1 ≤ 5 ∧ g.2.2.size = n) (fun g=>5 - g.1) (fun _=>_) (fun g=>[(8,.int .i64 (g.1 : Int)),(7,.int .i64 (g.2.1 : Int))]) [(0,_),(1,_),(2,_)] (fun g=>[(0,qdp A n c g.2.2)]) [] ⟨0,a + 1,d0⟩ ⟨hT,Nat.le_refl _,hae,by show 0 ≤ 5; decide,hd⟩ rfl ⟨rfl,rfl,trivial⟩ ⟨rfl,rfl,rfl,trivial⟩ ⟨rfl,trivial⟩ trivial (fun g KLa hok hLa=>?_)
 obtain ⟨q,i,d⟩:=g
 obtain ⟨ok1,ok2,ok3,ok4,ok5⟩:=hok
 dsimp only at ok1 ok2 ok3 ok4 ok5 ⊢
 refine Cd.seq fun K5 hK5=>?_
 refine Cd.seq fun K6 hK6=>?_
 refine Cd.qac [(0,false),(1,false)] rfl rfl ?_
 refine Jp.y 13 rfl (qaa rfl) rfl rfl Kp.true (Y.move rfl rfl) ?_
 refine Jp.y 14 rfl (qaa rfl) rfl rfl Kp.true (Y.lss rfl rfl rfl) ?_
 refine Jp.qae hK6 ?_
 refine Cd.qaq rfl (fun ga=>?_) (fun ga=>?_)
 ·simp only [decide_eq_true_eq] at ga
  obtain ⟨s,hs⟩ : ∃ s,5 - q = s + 1:=⟨5 - q - 1,by omega⟩
  rw [hs,Go.Sort.partialIns_succ] at ok1
  refine Cd.qbp hK5 ?_
  refine Cd.seq fun K7 hK7=>?_
  refine Cd.block ?_
  refine Cd.seq fun K8 hK8=>?_
  refine Cd.block ?_
  refine Cd.qdo (G:=Nat) (fun g=>g = Go.Sort.scanSorted ltN d e i ∧ a + 1 ≤ g ∧ g ≤ e) (fun g=>[(7,.int .i64 (g : Int))]) [(0,_),(1,_),(2,_),(8,_)] ⟨rfl,rfl,rfl,rfl,trivial⟩ (fun g=>[]) [(0,_)] ⟨rfl,trivial⟩ hK8 (fun g hφ=>?_) (fun hj1=>?_)
  ·obtain ⟨k,hk⟩ : ∃ k,k = g:=⟨_,rfl⟩
   rw [← hk] at hφ ⊢
   clear hk
   obtain ⟨p1,p2,p3⟩:=hφ
   rw [← p1] at ok1
   refine Cd.seq fun K9 hK9=>?_
   refine Cd.seq fun K10 hK10=>?_
   refine Cd.qac [(0,false),(1,false),(2,false)] rfl rfl ?_
   refine Jp.y 35 rfl (qaa rfl) rfl rfl Kp.true (Y.move rfl rfl) ?_
   refine Jp.y 36 rfl (qaa rfl) rfl rfl Kp.true (Y.move rfl rfl) ?_
   refine Jp.y 37 rfl (qaa rfl) rfl rfl Kp.true (Y.eql rfl rfl rfl) ?_
   refine Jp.qae hK10 ?_
   refine Cd.qaq rfl (fun gb=>?_) (fun gb=>?_)
   ·have hge : k = e:=by
     have : (k : Int) = (e : Int):=by simpa using gb
     omega
    rw [if_pos hge] at ok1
    subst ok1
    refine Cd.seq fun K11 hK11=>?_
    refine Cd.qac [(0,false)] rfl rfl ?_
    refine Jp.y 6 rfl (qaa rfl) rfl rfl Kp.true (Y.assign rfl rfl) ?_
    refine Jp.qae hK11 ?_
    refine Cd.ret [(0,_)] rfl (qbf rfl rfl) ⟨rfl,trivial⟩ ⟨rfl,rfl,rfl⟩
   ·have hge : ¬ k = e:=by
     have : ¬ (k : Int) = (e : Int):=by simpa using gb
     omega
    rw [if_neg hge] at ok1
    refine Cd.qbp hK9 ?_
    refine Cd.seq fun K12 hK12=>?_
    refine Cd.seq fun K13 hK13=>?_
    refine Cd.qac [(0,false),(1,false),(2,false),(3,false)] rfl rfl ?_
    refine Jp.y 38 rfl (qaa rfl) rfl rfl Kp.true (Y.move rfl rfl) ?_
    refine Jp.y 39 rfl (qaa rfl) rfl rfl Kp.true (Y.move rfl rfl) ?_
    refine Jp.y 40 rfl (qaa rfl) rfl rfl Kp.true (Y.qcp rfl rfl rfl (by exact qaf (by omega) (by omega))) ?_
    refine Jp.y 41 rfl (qaa rfl) rfl rfl Kp.true (Y.lss rfl rfl rfl) ?_
    refine Jp.qae hK13 ?_
    refine Cd.qaq rfl (fun gc=>?_) (fun gc=>?_)
    ·simp only [decide_eq_true_eq] at gc
     rw [if_pos (by omega)] at ok1
     subst ok1
     refine Cd.seq fun K14 hK14=>?_
     refine Cd.qac [(0,false)] rfl rfl ?_
     refine Jp.y 6 rfl (qaa rfl) rfl rfl Kp.true (Y.assign rfl rfl) ?_
     refine Jp.qae hK14 ?_
     refine Cd.ret [(0,_)] rfl (qbf rfl rfl) ⟨rfl,trivial⟩ ⟨rfl,rfl,rfl⟩
    ·simp only [decide_eq_false_iff_not] at gc
     rw [if_neg (by omega)] at ok1
     refine Cd.ownAt 0 rfl (show 0 < n by omega) ?_
     rintro b rfl
     have ci:=qed (b:=b) (n:=n) (c:=c) (d:=d) (i:=k) (by omega)
     have cj:=qed (b:=b) (n:=n) (c:=c) (d:=d) (i:=k - 1) (by omega)
     refine Cd.qbp hK12 ?_
     refine Cd.seq fun K15 hK15=>?_
     refine Cd.qcl [(0,_)] ⟨rfl,trivial⟩ [(2,true),(3,true),(4,true)] [(0,true),(1,true),(5,true),(6,true),(7,true),(8,true),(9,true),(10,true),(11,true),(12,true),(13,true),(14,true)] 15 [(16,true),(17,false)] follows (by kernel_rfl) (fun hrl=>?_)
     refine Jp2.q 44 rfl (qaa rfl) rfl rfl (fun _=>(Y.move rfl rfl)) ?_
     refine Jp2.q 45 rfl (qaa rfl) rfl rfl (fun _=>(Y.move rfl rfl)) ?_
     refine Jp2.q 46 rfl (qaa rfl) rfl rfl (fun _=>(Y.qcp rfl rfl rfl (by exact qaf (by omega) (by omega)))) ?_
     refine Jp2.head ?_
     refine Jp.q 42 rfl (qaa rfl) rfl rfl (Y.move rfl rfl) ?_
     refine Jp.q 43 rfl (qaa rfl) rfl rfl (Y.move rfl rfl) ?_
     refine Jp.q 47 rfl (qaa rfl) rfl rfl (Y.move rfl rfl) ?_
     refine Jp.q 48 rfl (qaa rfl) rfl rfl (Y.move rfl rfl) ?_
     refine Jp.q 49 rfl (qaa rfl) rfl rfl (Y.qcp rfl rfl rfl (by exact qaf (by omega) (by omega))) ?_
     refine Jp.q 50 rfl (qaa rfl) rfl rfl (Y.qag (q:=k - 1) rfl rfl rfl underlying22 sizeOf24 (by omega) (by omega) (by omega)) ?_
     refine Jp.q 51 rfl (qaa rfl) rfl rfl (by exact Y.qas 0 rfl isAgg24 rfl rfl cj) ?_
     refine Jp.q 52 rfl (qaa rfl) rfl rfl (Y.move rfl rfl) ?_
     refine Jp.q 53 rfl (qaa rfl) rfl rfl (Y.move rfl rfl) ?_
     refine Jp.q 54 rfl (qaa rfl) rfl rfl (Y.qag (q:=k) rfl rfl rfl underlying22 sizeOf24 (by omega) (by omega) (by omega)) ?_
     refine Jp.q 55 rfl (qaa rfl) rfl rfl (by exact Y.qas 0 rfl isAgg24 rfl rfl ci) ?_
     refine Jp.q 56 rfl (qaa rfl) rfl rfl (Y.qag (q:=k) rfl rfl rfl underlying22 sizeOf24 (by omega) (by omega) (by omega)) ?_
     refine Jp2.qct ?_
     refine Jp2.qeo ?_
     refine Jp.qbu 0 (q:=k) rfl (qaa rfl) rfl rfl sizeOf24 rfl rfl rfl rfl rfl (by omega) (qbd .u32 (d.toList.set k d[k - 1]!)) (qbc _ _ _ _) Kp.true ?_
     refine Jp2.qct ?_
     refine Jp2.q 57 rfl (qaa rfl) rfl rfl (fun _=>(Y.qag (q:=k - 1) rfl rfl rfl underlying22 sizeOf24 (by omega) (by omega) (by omega))) ?_
     refine Jp2.qeo ?_
     refine Jp.qbu 0 (q:=k - 1) rfl (qaa rfl) rfl rfl sizeOf24 rfl rfl rfl rfl rfl (by omega) (qbd .u32 (Go.Sort.swp d k (k - 1)).toList) (by rw [qbc,swpL]) Kp.true ?_
     refine Jp2.qct ?_
     obtain ⟨d1,hd1⟩ : ∃ d1,Go.Sort.swp d k (k - 1) = d1:=⟨_,rfl⟩
     have hs1 : d1.size = n:=by rw [← hd1,qch]; exact ok5
     rw [hd1] at ok1 ⊢
     refine Jp2.nil ?_
     refine Jp.qae hK15 ?_
     refine Cd.seq fun K16 hK16=>?_
     refine Cd.seq fun K17 hK17=>?_
     refine Cd.qac [(0,false),(1,false),(2,false),(3,false)] rfl rfl ?_
     refine Jp.imp (j:=0) rfl (fun h hh=>(show qdp (some ⟨b,0,none⟩) n c d1 h from hh)) ?_
     refine Jp.y 58 rfl (qaa rfl) rfl rfl Kp.true (Y.move rfl rfl) ?_
     refine Jp.y 59 rfl (qaa rfl) rfl rfl Kp.true (Y.move rfl rfl) ?_
     refine Jp.y 60 rfl (qaa rfl) rfl rfl Kp.true (Y.qcp rfl rfl rfl (by exact qaf (by omega) (by omega))) ?_
     refine Jp.y 61 rfl (qaa rfl) rfl rfl Kp.true (Y.geq rfl rfl rfl) ?_
     refine Jp.qae hK17 ?_
     refine Cd.qdo (G:=Array Nat) (fun y=>y = Go.Sort.fixDown ltN a k d1 ∧ y.size = n) (fun y=>[]) [(0,_),(1,_),(2,_),(7,_),(8,_)] ⟨rfl,rfl,rfl,rfl,rfl,trivial⟩ (fun y=>[(0,qdp (some ⟨b,0,none⟩) n c y)]) [] trivial hK16 (fun g hφ=>?_) (fun hj2=>?_)
     ·obtain ⟨d2,hk⟩ : ∃ d2,d2 = g:=⟨_,rfl⟩
      rw [← hk] at hφ ⊢
      clear hk
      obtain ⟨hd2,hs2⟩:=hφ
      rw [← hd2] at ok1
      refine Cd.seq fun K18 hK18=>?_
      refine Cd.qac [(0,false),(1,false),(2,false),(3,false)] rfl rfl ?_
      refine Jp.y 95 rfl (qaa rfl) rfl rfl Kp.true (Y.move rfl rfl) ?_
      refine Jp.y 96 rfl (qaa rfl) rfl rfl Kp.true (Y.move rfl rfl) ?_
      refine Jp.y 97 rfl (qaa rfl) rfl rfl Kp.true (Y.qcp rfl rfl rfl (by exact qaf (by omega) (by omega))) ?_
      refine Jp.y 98 rfl (qaa rfl) rfl rfl Kp.true (Y.geq rfl rfl rfl) ?_
      refine Jp.qae hK18 ?_
      refine Cd.qdo (G:=Array Nat) (fun y=>y = Go.Sort.fixUp ltN e k d2 ∧ y.size = n) (fun y=>[]) [(0,_),(1,_),(2,_),(7,_),(8,_)] ⟨rfl,rfl,rfl,rfl,rfl,trivial⟩ (fun y=>[(0,qdp (some ⟨b,0,none⟩) n c y)]) [] trivial hK7 (fun g hφ=>?_) (fun hj3=>?_)
      ·obtain ⟨d3,hk⟩ : ∃ d3,d3 = g:=⟨_,rfl⟩
       rw [← hk] at hφ ⊢
       clear hk
       obtain ⟨hd3,hs3⟩:=hφ
       rw [← hd3] at ok1
       refine Cd.qac [(0,false),(1,false),(2,false)] rfl rfl ?_
       refine Jp.y 15 rfl (qaa rfl) rfl rfl Kp.true (Y.move rfl rfl) ?_
       refine Jp.y 16 rfl (qaa rfl) rfl rfl Kp.true (Y.qbq rfl rfl rfl (by exact qaf (by omega) (by omega))) ?_
       refine Jp.y 8 rfl (qaa rfl) rfl rfl Kp.true (Y.assign rfl rfl) ?_
       rw [show (q : Int) + 1 = ((q + 1 : Nat) : Int) by omega]
       refine Jp.again hLa ⟨q + 1,k,d3⟩ ⟨by rw [show 5 - (q + 1) = s by omega]; exact ok1,p2,p3,by show q + 1 ≤ 5; omega,hs3⟩ (by show 5 - (q + 1) < 5 - q; omega) rfl ⟨rfl,rfl,rfl,rfl,rfl,trivial⟩ ⟨rfl,trivial⟩
      ·skip
       refine Cd.qaq rfl (fun ge=>?_) (fun ge=>?_)
       ·simp only [decide_eq_true_eq] at ge
        refine Cd.seq fun K19 hK19=>?_
        refine Cd.qac [(0,false),(1,false),(2,false)] rfl rfl ?_
        refine Jp.y 99 rfl (qaa rfl) rfl rfl Kp.true (Y.move rfl rfl) ?_
        refine Jp.y 100 rfl (qaa rfl) rfl rfl Kp.true (Y.qbq rfl rfl rfl (by exact qaf (by omega) (by omega))) ?_
        refine Jp.y 10 rfl (qaa rfl) rfl rfl Kp.true (Y.assign rfl rfl) ?_
        refine Jp.qae hK19 ?_
        refine Cd.block ?_
        refine Cd.slot 10 rfl (show _ = Value.int .i64 ((k + 1 : Nat) : Int) from congrArg (Value.int .i64) (by omega)) ?_
        refine Cd.qcr (G:=Nat × Array Nat) (fun g=>Go.Sort.shiftUp ltN e g.1 g.2 = Go.Sort.shiftUp ltN e (k + 1) d2 ∧ 1 ≤ g.1 ∧ g.1 ≤ e ∧ g.2.size = n) (fun g=>e - g.1) (fun _=>_) (fun g=>[(10,.int .i64 (g.1 : Int))]) [(0,_),(1,_),(2,_),(7,_),(8,_)] (fun g=>[(0,qdp (some ⟨b,0,none⟩) n c g.2)]) [] ⟨k + 1,d2⟩ ⟨rfl,by show 1 ≤ k + 1; omega,by show k + 1 ≤ e; omega,hs2⟩ rfl ⟨rfl,trivial⟩ ⟨rfl,rfl,rfl,rfl,rfl,trivial⟩ ⟨rfl,trivial⟩ trivial (fun g KLf hok hLf=>?_)
        obtain ⟨j,dj⟩:=g
        obtain ⟨oj1,oj2,oj3,oj4⟩:=hok
        dsimp only at oj1 oj2 oj3 oj4 ⊢
        have hfix : Go.Sort.fixUp ltN e k d2 = Go.Sort.shiftUp ltN e j dj:=by rw [Go.Sort.fixUp,if_pos (by omega),oj1]
        refine Cd.seq fun K20 hK20=>?_
        refine Cd.seq fun K21 hK21=>?_
        refine Cd.qac [(0,false),(1,false),(2,false)] rfl rfl ?_
        refine Jp.y 101 rfl (qaa rfl) rfl rfl Kp.true (Y.move rfl rfl) ?_
        refine Jp.y 102 rfl (qaa rfl) rfl rfl Kp.true (Y.move rfl rfl) ?_
        refine Jp.y 103 rfl (qaa rfl) rfl rfl Kp.true (Y.lss rfl rfl rfl) ?_
        refine Jp.qae hK21 ?_
        refine Cd.qaq rfl (fun gj=>?_) (fun gj=>?_)
        ·simp only [decide_eq_true_eq] at gj
         have cj:=qed (b:=b) (n:=n) (c:=c) (d:=dj) (i:=j) (by omega)
         have ci:=qed (b:=b) (n:=n) (c:=c) (d:=dj) (i:=j - 1) (by omega)
         refine Cd.qbp hK20 ?_
         refine Cd.seq fun K22 hK22=>?_
         refine Cd.block ?_
         refine Cd.seq fun K23 hK23=>?_
         refine Cd.seq fun K24 hK24=>?_
         refine Cd.drawn [(0,_)] ⟨rfl,trivial⟩ [(0,true),(1,true),(2,true),(3,true),(4,true),(5,true),(6,true),(7,true),(8,true),(9,false),(10,true)] follows (by kernel_rfl) (fun hrl=>?_)
         refine Jp.q 106 rfl (qaa rfl) rfl rfl (Y.move rfl rfl) ?_
         refine Jp.q 107 rfl (qaa rfl) rfl rfl (Y.move rfl rfl) ?_
         refine Jp.q 108 rfl (qaa rfl) rfl rfl (Y.qag (q:=j) rfl rfl rfl underlying22 sizeOf24 (by omega) (by omega) (by omega)) ?_
         refine Jp.q 109 rfl (qaa rfl) rfl rfl (by exact Y.qas 0 rfl isAgg24 rfl rfl cj) ?_
         refine Jp.q 110 rfl (qaa rfl) rfl rfl (Y.move rfl rfl) ?_
         refine Jp.q 111 rfl (qaa rfl) rfl rfl (Y.move rfl rfl) ?_
         refine Jp.q 112 rfl (qaa rfl) rfl rfl (Y.qcp rfl rfl rfl (by exact qaf (by omega) (by omega))) ?_
         refine Jp.q 113 rfl (qaa rfl) rfl rfl (Y.qag (q:=j - 1) rfl rfl rfl underlying22 sizeOf24 (by omega) (by omega) (by omega)) ?_
         refine Jp.q 114 rfl (qaa rfl) rfl rfl (by exact Y.qas 0 rfl isAgg24 rfl rfl ci) ?_
         refine Jp.call [] [] (qbw dj[j]! dj[j - 1]!) 115 rfl (qaa rfl) rfl rfl (Runs.fn rfl call108 rfl) (by decide) (by decide) rfl trivial ?_
         rintro v5 ρ5 L5 ⟨rfl,rfl,rfl⟩
         refine ⟨rfl,fun hle5=>⟨(Kp.st ⟨rfl,trivial⟩),?_⟩⟩
         have hst : Go.Sort.shiftUp ltN e j dj = if (!ltN dj[j]! dj[j - 1]!) = true then dj else Go.Sort.shiftUp ltN e (j + 1) (Go.Sort.swp dj j (j - 1)):=by
          rw [Go.Sort.shiftUp,if_pos (show j < e by omega)]
         refine Jp.q 116 rfl (qaa rfl) rfl rfl (Y.not rfl rfl) ?_
         refine Jp.qae hK24 ?_
         refine Cd.qaq rfl (fun gl=>?_) (fun gl=>?_)
         ·rw [gl,if_pos rfl] at hst
          refine Cd.qen rfl hK7 ?_
          exact Cd.qce (hj3 dj ⟨by rw [hfix,hst],oj4⟩) ⟨rfl,rfl,rfl,rfl,rfl,trivial⟩ ⟨rfl,trivial⟩
         ·rw [gl,if_neg (by simp)] at hst
          refine Cd.qbp hK23 ?_
          refine Cd.qcl [(0,_)] ⟨rfl,trivial⟩ [(2,true),(3,true),(4,true)] [(0,true),(1,true),(5,true),(6,true),(7,true),(8,true),(9,true),(10,true),(11,true),(12,true),(13,true),(14,true)] 15 [(16,true),(17,false)] follows (by kernel_rfl) (fun hrl=>?_)
          refine Jp2.q 119 rfl (qaa rfl) rfl rfl (fun _=>(Y.move rfl rfl)) ?_
          refine Jp2.q 120 rfl (qaa rfl) rfl rfl (fun _=>(Y.move rfl rfl)) ?_
          refine Jp2.q 121 rfl (qaa rfl) rfl rfl (fun _=>(Y.qcp rfl rfl rfl (by exact qaf (by omega) (by omega)))) ?_
          refine Jp2.head ?_
          refine Jp.q 117 rfl (qaa rfl) rfl rfl (Y.move rfl rfl) ?_
          refine Jp.q 118 rfl (qaa rfl) rfl rfl (Y.move rfl rfl) ?_
          refine Jp.q 122 rfl (qaa rfl) rfl rfl (Y.move rfl rfl) ?_
          refine Jp.q 123 rfl (qaa rfl) rfl rfl (Y.move rfl rfl) ?_
          refine Jp.q 124 rfl (qaa rfl) rfl rfl (Y.qcp rfl rfl rfl (by exact qaf (by omega) (by omega))) ?_
          refine Jp.q 125 rfl (qaa rfl) rfl rfl (Y.qag (q:=j - 1) rfl rfl rfl underlying22 sizeOf24 (by omega) (by omega) (by omega)) ?_
          refine Jp.q 126 rfl (qaa rfl) rfl rfl (by exact Y.qas 0 rfl isAgg24 rfl rfl ci) ?_
          refine Jp.q 127 rfl (qaa rfl) rfl rfl (Y.move rfl rfl) ?_
          refine Jp.q 128 rfl (qaa rfl) rfl rfl (Y.move rfl rfl) ?_
          refine Jp.q 129 rfl (qaa rfl) rfl rfl (Y.qag (q:=j) rfl rfl rfl underlying22 sizeOf24 (by omega) (by omega) (by omega)) ?_
          refine Jp.q 130 rfl (qaa rfl) rfl rfl (by exact Y.qas 0 rfl isAgg24 rfl rfl cj) ?_
          refine Jp.q 131 rfl (qaa rfl) rfl rfl (Y.qag (q:=j) rfl rfl rfl underlying22 sizeOf24 (by omega) (by omega) (by omega)) ?_
          refine Jp2.qct ?_
          refine Jp2.qeo ?_
          refine Jp.qbu 0 (q:=j) rfl (qaa rfl) rfl rfl sizeOf24 rfl rfl rfl rfl rfl (by omega) (qbd .u32 (dj.toList.set j dj[j - 1]!)) (qbc _ _ _ _) Kp.true ?_
          refine Jp2.qct ?_
          refine Jp2.q 132 rfl (qaa rfl) rfl rfl (fun _=>(Y.qag (q:=j - 1) rfl rfl rfl underlying22 sizeOf24 (by omega) (by omega) (by omega))) ?_
          refine Jp2.qeo ?_
          refine Jp.qbu 0 (q:=j - 1) rfl (qaa rfl) rfl rfl sizeOf24 rfl rfl rfl rfl rfl (by omega) (qbd .u32 (Go.Sort.swp dj j (j - 1)).toList) (by rw [qbc,swpL]) Kp.true ?_
          refine Jp2.qct ?_
          refine Jp2.nil ?_
          refine Jp.over rfl hK22 ?_
          refine Cd.qac [(0,false),(1,false),(2,false)] rfl rfl ?_
          refine Jp.y 104 rfl (qaa rfl) rfl rfl Kp.true (Y.move rfl rfl) ?_
          refine Jp.y 105 rfl (qaa rfl) rfl rfl Kp.true (Y.qbq rfl rfl rfl (by exact qaf (by omega) (by omega))) ?_
          refine Jp.y 10 rfl (qaa rfl) rfl rfl Kp.true (Y.assign rfl rfl) ?_
          rw [show (j : Int) + 1 = ((j + 1 : Nat) : Int) by omega]
          refine Jp.again hLf ⟨j + 1,Go.Sort.swp dj j (j - 1)⟩ ⟨by rw [← hst,oj1],by show 1 ≤ j + 1; omega,by show j + 1 ≤ e; omega,by rw [qch]; exact oj4⟩ (by show e - (j + 1) < e - j; omega) rfl ⟨rfl,rfl,rfl,rfl,rfl,rfl,trivial⟩ ⟨rfl,trivial⟩
        ·simp only [decide_eq_false_iff_not] at gj
         refine Cd.qen rfl hK7 ?_
         exact Cd.qce (hj3 dj ⟨by rw [hfix,Go.Sort.shiftUp,if_neg (show ¬ j < e by omega)],oj4⟩) ⟨rfl,rfl,rfl,rfl,rfl,trivial⟩ ⟨rfl,trivial⟩
       ·simp only [decide_eq_false_iff_not] at ge
        refine Cd.over rfl hK7 ?_
        exact Cd.qce (hj3 d2 ⟨by rw [Go.Sort.fixUp,if_neg (by omega)],hs2⟩) ⟨rfl,rfl,rfl,rfl,rfl,trivial⟩ ⟨rfl,trivial⟩
     ·skip
      refine Cd.qaq rfl (fun gd=>?_) (fun gd=>?_)
      ·simp only [decide_eq_true_eq] at gd
       refine Cd.seq fun K26 hK26=>?_
       refine Cd.qac [(0,false),(1,false),(2,false)] rfl rfl ?_
       refine Jp.y 62 rfl (qaa rfl) rfl rfl Kp.true (Y.move rfl rfl) ?_
       refine Jp.y 63 rfl (qaa rfl) rfl rfl Kp.true (Y.qcp rfl rfl rfl (by exact qaf (by omega) (by omega))) ?_
       refine Jp.y 9 rfl (qaa rfl) rfl rfl Kp.true (Y.assign rfl rfl) ?_
       refine Jp.qae hK26 ?_
       refine Cd.block ?_
       refine Cd.slot 9 rfl (show _ = Value.int .i64 ((k - 1 : Nat) : Int) from congrArg (Value.int .i64) (by omega)) ?_
       refine Cd.qcr (G:=Nat × Array Nat) (fun g=>Go.Sort.shiftDown ltN g.1 g.2 = Go.Sort.shiftDown ltN (k - 1) d1 ∧ g.1 < n ∧ g.2.size = n) (fun g=>g.1) (fun _=>_) (fun g=>[(9,.int .i64 (g.1 : Int))]) [(0,_),(1,_),(2,_),(7,_),(8,_)] (fun g=>[(0,qdp (some ⟨b,0,none⟩) n c g.2)]) [] ⟨k - 1,d1⟩ ⟨rfl,by show k - 1 < n; omega,hs1⟩ rfl ⟨rfl,trivial⟩ ⟨rfl,rfl,rfl,rfl,rfl,trivial⟩ ⟨rfl,trivial⟩ trivial (fun g KLh hok hLh=>?_)
       obtain ⟨j,dj⟩:=g
       obtain ⟨oj1,oj2,oj4⟩:=hok
       dsimp only at oj1 oj2 oj4 ⊢
       have hfix : Go.Sort.fixDown ltN a k d1 = Go.Sort.shiftDown ltN j dj:=by rw [Go.Sort.fixDown,if_pos (by omega),oj1]
       refine Cd.seq fun K27 hK27=>?_
       refine Cd.seq fun K28 hK28=>?_
       refine Cd.qac [(0,false),(1,false)] rfl rfl ?_
       refine Jp.y 64 rfl (qaa rfl) rfl rfl Kp.true (Y.move rfl rfl) ?_
       refine Jp.y 65 rfl (qaa rfl) rfl rfl Kp.true (Y.geq rfl rfl rfl) ?_
       refine Jp.qae hK28 ?_
       refine Cd.qaq rfl (fun gj=>?_) (fun gj=>?_)
       ·simp only [decide_eq_true_eq] at gj
        obtain ⟨p,rfl⟩ : ∃ p,j = p + 1:=⟨j - 1,by omega⟩
        have cj:=qed (b:=b) (n:=n) (c:=c) (d:=dj) (i:=p + 1) (by omega)
        have ci:=qed (b:=b) (n:=n) (c:=c) (d:=dj) (i:=p) (by omega)
        refine Cd.qbp hK27 ?_
        refine Cd.seq fun K29 hK29=>?_
        refine Cd.block ?_
        refine Cd.seq fun K30 hK30=>?_
        refine Cd.seq fun K31 hK31=>?_
        refine Cd.drawn [(0,_)] ⟨rfl,trivial⟩ [(0,true),(1,true),(2,true),(3,true),(4,true),(5,true),(6,true),(7,true),(8,true),(9,false),(10,true)] follows (by kernel_rfl) (fun hrl=>?_)
        refine Jp.q 68 rfl (qaa rfl) rfl rfl (Y.move rfl rfl) ?_
        refine Jp.q 69 rfl (qaa rfl) rfl rfl (Y.move rfl rfl) ?_
        refine Jp.q 70 rfl (qaa rfl) rfl rfl (Y.qag (q:=p + 1) rfl rfl rfl underlying22 sizeOf24 (by omega) (by omega) (by omega)) ?_
        refine Jp.q 71 rfl (qaa rfl) rfl rfl (by exact Y.qas 0 rfl isAgg24 rfl rfl cj) ?_
        refine Jp.q 72 rfl (qaa rfl) rfl rfl (Y.move rfl rfl) ?_
        refine Jp.q 73 rfl (qaa rfl) rfl rfl (Y.move rfl rfl) ?_
        refine Jp.q 74 rfl (qaa rfl) rfl rfl (Y.qcp rfl rfl rfl (by exact qaf (by omega) (by omega))) ?_
        refine Jp.q 75 rfl (qaa rfl) rfl rfl (Y.qag (q:=p) rfl rfl rfl underlying22 sizeOf24 (by omega) (by omega) (by omega)) ?_
        refine Jp.q 76 rfl (qaa rfl) rfl rfl (by exact Y.qas 0 rfl isAgg24 rfl rfl ci) ?_
        refine Jp.call [] [] (qbw dj[p + 1]! dj[p]!) 77 rfl (qaa rfl) rfl rfl (Runs.fn rfl call108 rfl) (by decide) (by decide) rfl trivial ?_
        rintro v6 ρ6 L6 ⟨rfl,rfl,rfl⟩
        refine ⟨rfl,fun hle6=>⟨(Kp.st ⟨rfl,trivial⟩),?_⟩⟩
        have hst : Go.Sort.shiftDown ltN (p + 1) dj = if (!ltN dj[p + 1]! dj[p]!) = true then dj else Go.Sort.shiftDown ltN p (Go.Sort.swp dj (p + 1) p):=rfl
        refine Jp.q 78 rfl (qaa rfl) rfl rfl (Y.not rfl rfl) ?_
        refine Jp.qae hK31 ?_
        refine Cd.qaq rfl (fun gl=>?_) (fun gl=>?_)
        ·rw [gl,if_pos rfl] at hst
         refine Cd.qen rfl hK16 ?_
         exact Cd.qce (hj2 dj ⟨by rw [hfix,hst],oj4⟩) ⟨rfl,rfl,rfl,rfl,rfl,trivial⟩ ⟨rfl,trivial⟩
        ·rw [gl,if_neg (by simp)] at hst
         refine Cd.qbp hK30 ?_
         refine Cd.qcl [(0,_)] ⟨rfl,trivial⟩ [(2,true),(3,true),(4,true)] [(0,true),(1,true),(5,true),(6,true),(7,true),(8,true),(9,true),(10,true),(11,true),(12,true),(13,true),(14,true)] 15 [(16,true),(17,false)] follows (by kernel_rfl) (fun hrl=>?_)
         refine Jp2.q 81 rfl (qaa rfl) rfl rfl (fun _=>(Y.move rfl rfl)) ?_
         refine Jp2.q 82 rfl (qaa rfl) rfl rfl (fun _=>(Y.move rfl rfl)) ?_
         refine Jp2.q 83 rfl (qaa rfl) rfl rfl (fun _=>(Y.qcp rfl rfl rfl (by exact qaf (by omega) (by omega)))) ?_
         refine Jp2.head ?_
         refine Jp.q 79 rfl (qaa rfl) rfl rfl (Y.move rfl rfl) ?_
         refine Jp.q 80 rfl (qaa rfl) rfl rfl (Y.move rfl rfl) ?_
         refine Jp.q 84 rfl (qaa rfl) rfl rfl (Y.move rfl rfl) ?_
         refine Jp.q 85 rfl (qaa rfl) rfl rfl (Y.move rfl rfl) ?_
         refine Jp.q 86 rfl (qaa rfl) rfl rfl (Y.qcp rfl rfl rfl (by exact qaf (by omega) (by omega))) ?_
         refine Jp.q 87 rfl (qaa rfl) rfl rfl (Y.qag (q:=p) rfl rfl rfl underlying22 sizeOf24 (by omega) (by omega) (by omega)) ?_
         refine Jp.q 88 rfl (qaa rfl) rfl rfl (by exact Y.qas 0 rfl isAgg24 rfl rfl ci) ?_
         refine Jp.q 89 rfl (qaa rfl) rfl rfl (Y.move rfl rfl) ?_
         refine Jp.q 90 rfl (qaa rfl) rfl rfl (Y.move rfl rfl) ?_
         refine Jp.q 91 rfl (qaa rfl) rfl rfl (Y.qag (q:=p + 1) rfl rfl rfl underlying22 sizeOf24 (by omega) (by omega) (by omega)) ?_
         refine Jp.q 92 rfl (qaa rfl) rfl rfl (by exact Y.qas 0 rfl isAgg24 rfl rfl cj) ?_
         refine Jp.q 93 rfl (qaa rfl) rfl rfl (Y.qag (q:=p + 1) rfl rfl rfl underlying22 sizeOf24 (by omega) (by omega) (by omega)) ?_
         refine Jp2.qct ?_
         refine Jp2.qeo ?_
         refine Jp.qbu 0 (q:=p + 1) rfl (qaa rfl) rfl rfl sizeOf24 rfl rfl rfl rfl rfl (by omega) (qbd .u32 (dj.toList.set (p + 1) dj[p]!)) (qbc _ _ _ _) Kp.true ?_
         refine Jp2.qct ?_
         refine Jp2.q 94 rfl (qaa rfl) rfl rfl (fun _=>(Y.qag (q:=p) rfl rfl rfl underlying22 sizeOf24 (by omega) (by omega) (by omega))) ?_
         refine Jp2.qeo ?_
         refine Jp.qbu 0 (q:=p) rfl (qaa rfl) rfl rfl sizeOf24 rfl rfl rfl rfl rfl (by omega) (qbd .u32 (Go.Sort.swp dj (p + 1) p).toList) (by rw [qbc,swpL]) Kp.true ?_
         refine Jp2.qct ?_
         refine Jp2.nil ?_
         refine Jp.over rfl hK29 ?_
         refine Cd.qac [(0,false),(1,false),(2,false)] rfl rfl ?_
         refine Jp.y 66 rfl (qaa rfl) rfl rfl Kp.true (Y.move rfl rfl) ?_
         refine Jp.y 67 rfl (qaa rfl) rfl rfl Kp.true (Y.qcp rfl rfl rfl (by exact qaf (by omega) (by omega))) ?_
         refine Jp.y 9 rfl (qaa rfl) rfl rfl Kp.true (Y.assign rfl rfl) ?_
         rw [show ((p + 1 : Nat) : Int) - 1 = (p : Int) by omega]
         refine Jp.again hLh ⟨p,Go.Sort.swp dj (p + 1) p⟩ ⟨by rw [← hst,oj1],by show p < n; omega,by rw [qch]; exact oj4⟩ (by show p < p + 1; omega) rfl ⟨rfl,rfl,rfl,rfl,rfl,rfl,trivial⟩ ⟨rfl,trivial⟩
       ·simp only [decide_eq_false_iff_not] at gj
        obtain rfl : j = 0:=by omega
        refine Cd.qen rfl hK16 ?_
        exact Cd.qce (hj2 dj ⟨by rw [hfix]; rfl,oj4⟩) ⟨rfl,rfl,rfl,rfl,rfl,trivial⟩ ⟨rfl,trivial⟩
      ·simp only [decide_eq_false_iff_not] at gd
       refine Cd.qbp hK16 ?_
       exact Cd.qce (hj2 d1 ⟨by rw [Go.Sort.fixDown,if_neg (by omega)],hs1⟩) ⟨rfl,rfl,rfl,rfl,rfl,trivial⟩ ⟨rfl,trivial⟩
  ·skip
   refine Cd.qcr (G:=Nat) (fun g=>Go.Sort.scanSorted ltN d e g = Go.Sort.scanSorted ltN d e i ∧ a + 1 ≤ g ∧ g ≤ e) (fun g=>e - g) (fun _=>_) (fun g=>[(7,.int .i64 (g : Int))]) [(0,_),(1,_),(2,_),(8,_)] (fun g=>[]) [(0,_)] i ⟨rfl,ok2,ok3⟩ rfl ⟨rfl,trivial⟩ ⟨rfl,rfl,rfl,rfl,trivial⟩ trivial ⟨rfl,trivial⟩ (fun g KLk hok hLk=>?_)
   obtain ⟨k,hk⟩ : ∃ k,k = g:=⟨_,rfl⟩
   rw [← hk] at hok ⊢
   obtain ⟨ow1,ow2,ow3⟩:=hok
   refine Cd.ownAt 0 rfl (show 0 < n by omega) ?_
   rintro b rfl
   refine Cd.seq fun K33 hK33=>?_
   refine Cd.seq fun K34 hK34=>?_
   refine Cd.drawn [(0,_)] ⟨rfl,trivial⟩ [(0,true),(1,true),(2,true),(3,true),(4,true),(5,true),(6,true),(7,true),(8,true),(9,true),(10,true),(11,true),(12,true),(13,false),(14,true),(15,true)] follows (by kernel_rfl) (fun hrl=>?_)
   refine Jp.q 17 rfl (qaa rfl) rfl rfl (Y.move rfl rfl) ?_
   refine Jp.q 18 rfl (qaa rfl) rfl rfl (Y.move rfl rfl) ?_
   refine Jp.q 19 rfl (qaa rfl) rfl rfl (Y.lss rfl rfl rfl) ?_
   refine Jp.q 20 rfl (qaa rfl) rfl rfl (Y.move rfl rfl) ?_
   refine Jp.qel 20 rfl (fun g20=>?_) (fun g20=>?_)
   ·skip
    simp only [decide_eq_false_iff_not] at g20
    refine Jp.qbb 21 rfl (qab rfl rfl rfl rfl) rfl rfl ?_
    refine Jp.qbb 22 rfl (qab rfl rfl rfl rfl) rfl rfl ?_
    refine Jp.qbb 23 rfl (qab rfl rfl rfl rfl) rfl rfl ?_
    refine Jp.qbb 24 rfl (qab rfl rfl rfl rfl) rfl rfl ?_
    refine Jp.qbb 25 rfl (qab rfl rfl rfl rfl) rfl rfl ?_
    refine Jp.qbb 26 rfl (qab rfl rfl rfl rfl) rfl rfl ?_
    refine Jp.qbb 27 rfl (qab rfl rfl rfl rfl) rfl rfl ?_
    refine Jp.qbb 28 rfl (qab rfl rfl rfl rfl) rfl rfl ?_
    refine Jp.qbb 29 rfl (qab rfl rfl rfl rfl) rfl rfl ?_
    refine Jp.qar 30 rfl (qab rfl rfl rfl rfl) rfl rfl (Kp.st ⟨rfl,trivial⟩) ?_
    refine Jp.qbb 31 rfl (qab rfl rfl rfl rfl) rfl rfl ?_
    refine Jp.q 32 rfl (qaa rfl) rfl rfl (Y.qay rfl rfl rfl) ?_
    refine Jp.qae hK34 ?_
    refine Cd.qbs rfl ?_
    refine Cd.qen rfl hK8 ?_
    exact Cd.qce (hj1 k ⟨by rw [← ow1,Go.Sort.scanSorted,if_neg (by simp only [Bool.and_eq_true,decide_eq_true_eq,not_and]; intro h; omega)],ow2,ow3⟩) ⟨rfl,rfl,rfl,rfl,rfl,trivial⟩ ⟨rfl,trivial⟩
   try simp only [sG0] at g20
   refine Jp.q 21 rfl (qab rfl rfl rfl rfl) rfl rfl (Y.move rfl rfl) ?_
   refine Jp.q 22 rfl (qab rfl rfl rfl rfl) rfl rfl (Y.move rfl rfl) ?_
   have hke : k < e:=by omega
   have ck:=qed (b:=b) (n:=n) (c:=c) (d:=d) (i:=k) (by omega)
   have cj:=qed (b:=b) (n:=n) (c:=c) (d:=d) (i:=k - 1) (by omega)
   refine Jp.q 23 rfl (qab rfl rfl rfl rfl) rfl rfl (Y.qag (q:=k) rfl rfl rfl underlying22 sizeOf24 (by omega) (by omega) (by omega)) ?_
   refine Jp.q 24 rfl (qab rfl rfl rfl rfl) rfl rfl (by exact Y.qas 0 rfl isAgg24 rfl rfl ck) ?_
   refine Jp.q 25 rfl (qab rfl rfl rfl rfl) rfl rfl (Y.move rfl rfl) ?_
   refine Jp.q 26 rfl (qab rfl rfl rfl rfl) rfl rfl (Y.move rfl rfl) ?_
   refine Jp.q 27 rfl (qab rfl rfl rfl rfl) rfl rfl (Y.qcp rfl rfl rfl (by exact qaf (by omega) (by omega))) ?_
   refine Jp.q 28 rfl (qab rfl rfl rfl rfl) rfl rfl (Y.qag (q:=k - 1) rfl rfl rfl underlying22 sizeOf24 (by omega) (by omega) (by omega)) ?_
   refine Jp.q 29 rfl (qab rfl rfl rfl rfl) rfl rfl (by exact Y.qas 0 rfl isAgg24 rfl rfl cj) ?_
   refine Jp.call [] [] (qbw d[k]! d[k - 1]!) 30 rfl (qab rfl rfl rfl rfl) rfl rfl (Runs.fn rfl call108 rfl) (by decide) (by decide) rfl trivial ?_
   rintro v7 ρ7 L7 ⟨rfl,rfl,rfl⟩
   refine ⟨rfl,fun hle7=>⟨(Kp.st ⟨rfl,trivial⟩),?_⟩⟩
   have hst : Go.Sort.scanSorted ltN d e k = if (!ltN d[k]! d[k - 1]!) = true then Go.Sort.scanSorted ltN d e (k + 1) else k:=by
    rw [Go.Sort.scanSorted]; simp [hke]
   refine Jp.q 31 rfl (qab rfl rfl rfl rfl) rfl rfl (Y.not rfl rfl) ?_
   refine Jp.q 32 rfl (qaa rfl) rfl rfl (Y.qav rfl rfl rfl) ?_
   refine Jp.qae hK34 ?_
   refine Cd.qaq rfl (fun gl=>?_) (fun gl=>?_)
   ·rw [gl,if_pos rfl] at hst
    refine Cd.qbp hK33 ?_
    refine Cd.block ?_
    refine Cd.qac [(0,false),(1,false),(2,false)] rfl rfl ?_
    refine Jp.y 33 rfl (qaa rfl) rfl rfl Kp.true (Y.move rfl rfl) ?_
    refine Jp.y 34 rfl (qaa rfl) rfl rfl Kp.true (Y.qbq rfl rfl rfl (by exact qaf (by omega) (by omega))) ?_
    refine Jp.y 7 rfl (qaa rfl) rfl rfl Kp.true (Y.assign rfl rfl) ?_
    rw [show (k : Int) + 1 = ((k + 1 : Nat) : Int) by omega]
    refine JpQ.again rfl hLk (k + 1) ⟨by rw [← hst,ow1],by omega,by omega⟩ (by omega) rfl ⟨rfl,rfl,rfl,rfl,rfl,trivial⟩ ⟨rfl,trivial⟩
   ·rw [gl,if_neg (by simp)] at hst
    refine Cd.qen rfl hK8 ?_
    exact Cd.qce (hj1 k ⟨by rw [← ow1,hst],ow2,ow3⟩) ⟨rfl,rfl,rfl,rfl,rfl,trivial⟩ ⟨rfl,trivial⟩
 ·simp only [decide_eq_false_iff_not] at ga
  rw [show 5 - q = 0 by omega] at ok1
  have hdd : (d,false) = T:=ok1
  subst hdd
  refine Cd.qen rfl hK3 ?_
  refine Cd.seq fun K36 hK36=>?_
  refine Cd.qac [(0,false)] rfl rfl ?_
  refine Jp.y 6 rfl (qaa rfl) rfl rfl Kp.true (Y.assign rfl rfl) ?_
  refine Jp.qae hK36 ?_
  refine Cd.ret [(0,_)] rfl (qbf rfl rfl) ⟨rfl,trivial⟩ ⟨rfl,rfl,rfl⟩
end Go.Proofs.YtnfkalpgidiafaaGreat
