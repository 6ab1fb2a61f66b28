import Derived.Test.YtnfkalpgidiafaaGreatZP8
import Derived.Test.YtnfkalpgidiafaaGreatZP7
import Derived.Test.YtnfkalpgidiafaaGreatZP1
import Derived.Test.YtnfkalpgidiafaaGreatZP6
set_option linter.unusedVariables false
set_option linter.unusedSimpArgs false
set_option maxRecDepth 100000
namespace Go.Proofs.YtnfkalpgidiafaaGreat
open _root_.Go.Proofs.Tryz
open Go
theorem up_go {p : Nat → Bool} {d : Array Nat} {i j : Nat} (h : i ≤ j) : Go.Sort.scanUp p d j i = if p d[i]! = true then Go.Sort.scanUp p d j (i + 1) else i:=by
 rw [Go.Sort.scanUp]
 simp [h]
theorem up_end {p : Nat → Bool} {d : Array Nat} {i j : Nat} (h : ¬ i ≤ j) : Go.Sort.scanUp p d j i = i:=by
 rw [Go.Sort.scanUp]
 simp [h]
theorem down_go {p : Nat → Bool} {d : Array Nat} {i j : Nat} (hj : 0 < j) (h : i ≤ j) : Go.Sort.scanDown p d i j = if p d[j]! = true then Go.Sort.scanDown p d i (j - 1) else j:=by
 obtain ⟨q,rfl⟩ : ∃ q,j = q + 1:=⟨j - 1,by omega⟩
 show (if (decide (i ≤ q + 1) && p d[q + 1]!) = true then Go.Sort.scanDown p d i q else q + 1) = _
 simp [h]
theorem down_end {p : Nat → Bool} {d : Array Nat} {i j : Nat} (h : ¬ i ≤ j) : Go.Sort.scanDown p d i j = j:=by
 cases j with
 | zero=>rfl
 | succ q =>
  show (if (decide (i ≤ q + 1) && p d[q + 1]!) = true then Go.Sort.scanDown p d i q else q + 1) = _
  simp [h]
theorem qfh (d : Array Nat) (i j : Nat) : (qbd .u32 (d.toList.set i d[j]!)).set j (.int .u32 (d[i]! : Int)) = qbd .u32 (Go.Sort.swp d i j).toList:=by rw [qbc,swpL]
theorem partEq_spec (A : Option Addr) (n c : Nat) (d0 : Array Nat) (a e pv : Nat) (hd : d0.size = n) (hp1 : a ≤ pv) (hp2 : pv < e) (hen : e ≤ n) (hn : n ≤ 4096) : Spec Tryz.prog 109 #[.slice A n c,.int .i64 a,.int .i64 e,.int .i64 pv] (fun _=>True) [(0,qdp A n c d0)]
  (fun ρ ρ' v L=>ρ' = ρ ∧ v = .int .i64 ((Go.Sort.partitionEqual ltN d0 a e pv).1 : Int) ∧ L = [(0,qdp A n c (Go.Sort.partitionEqual ltN d0 a e pv).2)]):=by
 refine Spec.of 84 Tryz.func109 rfl Tryz.ntmps109 [(0,_),(1,_),(2,_),(3,_)] rfl rfl ?_
 intro cx ρ hr h0
 obtain ⟨T,hT⟩ : ∃ T,Go.Sort.partitionEqual ltN d0 a e pv = T:=⟨_,rfl⟩
 rw [hT]
 refine Cd.ownAt 0 rfl (show 0 < n by omega) ?_
 rintro b rfl
 have ca0:=qed (b:=b) (n:=n) (c:=c) (d:=d0) (i:=a) (by omega)
 have cp:=qed (b:=b) (n:=n) (c:=c) (d:=d0) (i:=pv) (by omega)
 refine Cd.seq fun K1 hK1=>?_
 refine Cd.qac [(0,false)] rfl rfl ?_
 refine Jp.y 8 rfl (qaa rfl) rfl rfl Kp.true (Y.assign rfl rfl) ?_
 refine Jp.qae hK1 ?_
 refine Cd.seq fun K2 hK2=>?_
 refine Cd.qcl [(0,_)] ⟨rfl,trivial⟩ [(2,true),(3,true)] [(0,true),(1,true),(4,true),(5,true),(6,true),(7,true),(8,true),(9,true),(10,true),(11,true),(12,true)] 13 [(14,true),(15,false)] follows (by kernel_rfl) (fun hrl=>?_)
 refine Jp2.q 13 rfl (qaa rfl) rfl rfl (fun _=>(Y.move rfl rfl)) ?_
 refine Jp2.q 14 rfl (qaa rfl) rfl rfl (fun _=>(Y.move rfl rfl)) ?_
 refine Jp2.head ?_
 refine Jp.q 11 rfl (qaa rfl) rfl rfl (Y.move rfl rfl) ?_
 refine Jp.q 12 rfl (qaa rfl) rfl rfl (Y.move rfl rfl) ?_
 refine Jp.q 15 rfl (qaa rfl) rfl rfl (Y.move rfl rfl) ?_
 refine Jp.q 16 rfl (qaa rfl) rfl rfl (Y.move rfl rfl) ?_
 refine Jp.q 17 rfl (qaa rfl) rfl rfl (Y.qag (q:=pv) rfl rfl rfl underlying22 sizeOf24 (by omega) (by omega) (by omega)) ?_
 refine Jp.q 18 rfl (qaa rfl) rfl rfl (by exact Y.qas 0 rfl isAgg24 rfl rfl cp) ?_
 refine Jp.q 19 rfl (qaa rfl) rfl rfl (Y.move rfl rfl) ?_
 refine Jp.q 20 rfl (qaa rfl) rfl rfl (Y.move rfl rfl) ?_
 refine Jp.q 21 rfl (qaa rfl) rfl rfl (Y.qag (q:=a) rfl rfl rfl underlying22 sizeOf24 (by omega) (by omega) (by omega)) ?_
 refine Jp.q 22 rfl (qaa rfl) rfl rfl (by exact Y.qas 0 rfl isAgg24 rfl rfl ca0) ?_
 refine Jp.q 23 rfl (qaa rfl) rfl rfl (Y.qag (q:=a) rfl rfl rfl underlying22 sizeOf24 (by omega) (by omega) (by omega)) ?_
 refine Jp2.qct ?_
 refine Jp2.qeo ?_
 refine Jp.qbu 0 (q:=a) rfl (qaa rfl) rfl rfl sizeOf24 rfl rfl rfl rfl rfl (by omega) (qbd .u32 (d0.toList.set a d0[pv]!)) (qbc _ _ _ _) Kp.true ?_
 refine Jp2.qct ?_
 refine Jp2.q 24 rfl (qaa rfl) rfl rfl (fun _=>(Y.qag (q:=pv) rfl rfl rfl underlying22 sizeOf24 (by omega) (by omega) (by omega))) ?_
 refine Jp2.qeo ?_
 refine Jp.qbu 0 (q:=pv) rfl (qaa rfl) rfl rfl sizeOf24 rfl rfl rfl rfl rfl (by omega) (qbd .u32 (Go.Sort.swp d0 a pv).toList) (qfh _ _ _) Kp.true ?_
 refine Jp2.qct ?_
 refine Jp2.nil ?_
 refine Jp.qae hK2 ?_
 refine Cd.seq fun K3 hK3=>?_
 refine Cd.qac [(0,false),(1,false),(2,false),(3,false),(4,false),(5,false)] rfl rfl ?_
 refine Jp.y 25 rfl (qaa rfl) rfl rfl Kp.true (Y.move rfl rfl) ?_
 refine Jp.y 26 rfl (qaa rfl) rfl rfl Kp.true (Y.qbq rfl rfl rfl (by exact qaf (by omega) (by omega))) ?_
 refine Jp.y 27 rfl (qaa rfl) rfl rfl Kp.true (Y.move rfl rfl) ?_
 refine Jp.y 28 rfl (qaa rfl) rfl rfl Kp.true (Y.qcp rfl rfl rfl (by exact qaf (by omega) (by omega))) ?_
 refine Jp.y 9 rfl (qaa rfl) rfl rfl Kp.true (Y.assign rfl rfl) ?_
 refine Jp.y 10 rfl (qaa rfl) rfl rfl Kp.true (Y.assign rfl rfl) ?_
 refine Jp.qae hK3 ?_
 refine Cd.seq fun K4 hK4=>?_
 refine Cd.block ?_
 refine Cd.slot 9 rfl (show _ = Value.int .i64 ((a + 1 : Nat) : Int) from congrArg (Value.int .i64) (by omega)) ?_
 refine Cd.slot 10 rfl (show _ = Value.int .i64 ((e - 1 : Nat) : Int) from congrArg (Value.int .i64) (by omega)) ?_
 refine Cd.qcr (G:=Nat × Nat × Array Nat) (fun g=>Go.Sort.partEqLoop ltN a g.1 g.2.1 g.2.2 = T ∧ a + 1 ≤ g.1 ∧ g.1 ≤ g.2.1 + 2 ∧ g.2.1 < n ∧ g.2.2.size = n) (fun g=>g.2.1 + 2 - g.1) (fun _=>_) (fun g=>[(9,.int .i64 (g.1 : Int)),(10,.int .i64 (g.2.1 : Int))]) [(0,_),(1,_)] (fun g=>[(0,qdp (some ⟨b,0,none⟩) n c g.2.2)]) [] ⟨a + 1,e - 1,Go.Sort.swp d0 a pv⟩ ⟨hT,Nat.le_refl _,by show a + 1 ≤ e - 1 + 2; omega,by show e - 1 < n; omega,by rw [qch]; exact hd⟩ rfl ⟨rfl,rfl,trivial⟩ ⟨rfl,rfl,trivial⟩ ⟨rfl,trivial⟩ trivial (fun g KLa hok hLa=>?_)
 obtain ⟨i,j,d⟩:=g
 obtain ⟨ok1,ok2,ok3,ok4,ok5⟩:=hok
 dsimp only at ok1 ok2 ok3 ok4 ok5 ⊢
 rw [Go.Sort.partEqLoop_eq] at ok1
 have ca:=qed (b:=b) (n:=n) (c:=c) (d:=d) (i:=a) (by omega)
 obtain ⟨i2,hqi⟩ : ∃ i2,i2 = Go.Sort.scanUp (fun x=>!ltN d[a]! x) d j i:=⟨_,rfl⟩
 rw [← hqi] at ok1
 obtain ⟨j2,hqj⟩ : ∃ j2,j2 = Go.Sort.scanDown (fun x=>ltN d[a]! x) d i2 j:=⟨_,rfl⟩
 rw [← hqj] at ok1
 have hup:=Go.Sort.scanUp_ge (fun x=>!ltN d[a]! x) d j i
 rw [← hqi] at hup
 have hdn:=Go.Sort.scanDown_le (fun x=>ltN d[a]! x) d i2 j
 rw [← hqj] at hdn
 refine Cd.block ?_
 refine Cd.seq fun K5 hK5=>?_
 refine Cd.block ?_
 refine Cd.qdo (G:=Unit) (fun _=>True) (fun _=>[(9,.int .i64 (i2 : Int))]) [(0,_),(1,_),(10,_)] ⟨rfl,rfl,rfl,trivial⟩ (fun _=>[]) [(0,_)] ⟨rfl,trivial⟩ hK5 (fun g hφ=>?_) (fun hj1=>?_)
 ·clear hφ
  refine Cd.seq fun K6 hK6=>?_
  refine Cd.block ?_
  refine Cd.qdo (G:=Unit) (fun _=>True) (fun _=>[(10,.int .i64 (j2 : Int))]) [(0,_),(1,_),(9,_)] ⟨rfl,rfl,rfl,trivial⟩ (fun _=>[]) [(0,_)] ⟨rfl,trivial⟩ hK6 (fun g hφ=>?_) (fun hj2=>?_)
  ·clear hφ
   refine Cd.seq fun K7 hK7=>?_
   refine Cd.seq fun K8 hK8=>?_
   refine Cd.qac [(0,false),(1,false),(2,false)] rfl rfl ?_
   refine Jp.y 62 rfl (qaa rfl) rfl rfl Kp.true (Y.move rfl rfl) ?_
   refine Jp.y 63 rfl (qaa rfl) rfl rfl Kp.true (Y.move rfl rfl) ?_
   refine Jp.y 64 rfl (qaa rfl) rfl rfl Kp.true (Y.gtr rfl rfl rfl) ?_
   refine Jp.qae hK8 ?_
   refine Cd.qaq rfl (fun gx=>?_) (fun gx=>?_)
   ·simp only [decide_eq_true_eq] at gx
    rw [if_pos (by omega)] at ok1
    subst ok1
    refine Cd.qen rfl hK4 ?_
    refine Cd.seq fun K9 hK9=>?_
    refine Cd.qac [(0,false),(1,false)] rfl rfl ?_
    refine Jp.y 83 rfl (qaa rfl) rfl rfl Kp.true (Y.move rfl rfl) ?_
    refine Jp.y 8 rfl (qaa rfl) rfl rfl Kp.true (Y.assign rfl rfl) ?_
    refine Jp.qae hK9 ?_
    refine Cd.ret [(0,_)] rfl (qbf rfl rfl) ⟨rfl,trivial⟩ ⟨rfl,rfl,rfl⟩
   ·simp only [decide_eq_false_iff_not] at gx
    rw [if_neg (by omega)] at ok1
    have ci:=qed (b:=b) (n:=n) (c:=c) (d:=d) (i:=i2) (by omega)
    have cj:=qed (b:=b) (n:=n) (c:=c) (d:=d) (i:=j2) (by omega)
    refine Cd.qbp hK7 ?_
    refine Cd.seq fun K10 hK10=>?_
    refine Cd.qcl [(0,_)] ⟨rfl,trivial⟩ [(2,true),(3,true)] [(0,true),(1,true),(4,true),(5,true),(6,true),(7,true),(8,true),(9,true),(10,true),(11,true),(12,true)] 13 [(14,true),(15,false)] follows (by kernel_rfl) (fun hrl=>?_)
    refine Jp2.q 67 rfl (qaa rfl) rfl rfl (fun _=>(Y.move rfl rfl)) ?_
    refine Jp2.q 68 rfl (qaa rfl) rfl rfl (fun _=>(Y.move rfl rfl)) ?_
    refine Jp2.head ?_
    refine Jp.q 65 rfl (qaa rfl) rfl rfl (Y.move rfl rfl) ?_
    refine Jp.q 66 rfl (qaa rfl) rfl rfl (Y.move rfl rfl) ?_
    refine Jp.q 69 rfl (qaa rfl) rfl rfl (Y.move rfl rfl) ?_
    refine Jp.q 70 rfl (qaa rfl) rfl rfl (Y.move rfl rfl) ?_
    refine Jp.q 71 rfl (qaa rfl) rfl rfl (Y.qag (q:=j2) rfl rfl rfl underlying22 sizeOf24 (by omega) (by omega) (by omega)) ?_
    refine Jp.q 72 rfl (qaa rfl) rfl rfl (by exact Y.qas 0 rfl isAgg24 rfl rfl cj) ?_
    refine Jp.q 73 rfl (qaa rfl) rfl rfl (Y.move rfl rfl) ?_
    refine Jp.q 74 rfl (qaa rfl) rfl rfl (Y.move rfl rfl) ?_
    refine Jp.q 75 rfl (qaa rfl) rfl rfl (Y.qag (q:=i2) rfl rfl rfl underlying22 sizeOf24 (by omega) (by omega) (by omega)) ?_
    refine Jp.q 76 rfl (qaa rfl) rfl rfl (by exact Y.qas 0 rfl isAgg24 rfl rfl ci) ?_
    refine Jp.q 77 rfl (qaa rfl) rfl rfl (Y.qag (q:=i2) rfl rfl rfl underlying22 sizeOf24 (by omega) (by omega) (by omega)) ?_
    refine Jp2.qct ?_
    refine Jp2.qeo ?_
    refine Jp.qbu 0 (q:=i2) rfl (qaa rfl) rfl rfl sizeOf24 rfl rfl rfl rfl rfl (by omega) (qbd .u32 (d.toList.set i2 d[j2]!)) (qbc _ _ _ _) Kp.true ?_
    refine Jp2.qct ?_
    refine Jp2.q 78 rfl (qaa rfl) rfl rfl (fun _=>(Y.qag (q:=j2) rfl rfl rfl underlying22 sizeOf24 (by omega) (by omega) (by omega))) ?_
    refine Jp2.qeo ?_
    refine Jp.qbu 0 (q:=j2) rfl (qaa rfl) rfl rfl sizeOf24 rfl rfl rfl rfl rfl (by omega) (qbd .u32 (Go.Sort.swp d i2 j2).toList) (qfh _ _ _) Kp.true ?_
    refine Jp2.qct ?_
    refine Jp2.nil ?_
    refine Jp.qae hK10 ?_
    refine Cd.seq fun K11 hK11=>?_
    refine Cd.qac [(0,false),(1,false),(2,false)] rfl rfl ?_
    refine Jp.y 79 rfl (qaa rfl) rfl rfl Kp.true (Y.move rfl rfl) ?_
    refine Jp.y 80 rfl (qaa rfl) rfl rfl Kp.true (Y.qbq rfl rfl rfl (by exact qaf (by omega) (by omega))) ?_
    refine Jp.y 9 rfl (qaa rfl) rfl rfl Kp.true (Y.assign rfl rfl) ?_
    refine Jp.qae hK11 ?_
    refine Cd.qac [(0,false),(1,false),(2,false)] rfl rfl ?_
    refine Jp.y 81 rfl (qaa rfl) rfl rfl Kp.true (Y.move rfl rfl) ?_
    refine Jp.y 82 rfl (qaa rfl) rfl rfl Kp.true (Y.qcp rfl rfl rfl (by exact qaf (by omega) (by omega))) ?_
    refine Jp.y 10 rfl (qaa rfl) rfl rfl Kp.true (Y.assign rfl rfl) ?_
    refine Jp.slot 9 rfl (show _ = Value.int .i64 ((i2 + 1 : Nat) : Int) from congrArg (Value.int .i64) (by omega)) ?_
    refine Jp.slot 10 rfl (show _ = Value.int .i64 ((j2 - 1 : Nat) : Int) from congrArg (Value.int .i64) (by omega)) ?_
    refine JpQ.again rfl hLa ⟨i2 + 1,j2 - 1,Go.Sort.swp d i2 j2⟩ ⟨ok1,by show a + 1 ≤ i2 + 1; omega,by show i2 + 1 ≤ j2 - 1 + 2; omega,by show j2 - 1 < n; omega,by rw [qch]; exact ok5⟩ (by show j2 - 1 + 2 - (i2 + 1) < j + 2 - i; omega) rfl ⟨rfl,rfl,rfl,rfl,trivial⟩ ⟨rfl,trivial⟩
  ·skip
   refine Cd.qcr (G:=Nat) (fun g=>Go.Sort.scanDown (fun x=>ltN d[a]! x) d i2 g = j2 ∧ g < n) (fun g=>g) (fun _=>_) (fun g=>[(10,.int .i64 (g : Int))]) [(0,_),(1,_),(9,_)] (fun g=>[]) [(0,_)] j ⟨hqj.symm,by omega⟩ rfl ⟨rfl,trivial⟩ ⟨rfl,rfl,rfl,trivial⟩ trivial ⟨rfl,trivial⟩ (fun g KLk hok hLk=>?_)
   obtain ⟨k,hk⟩ : ∃ k,k = g:=⟨_,rfl⟩
   rw [← hk] at hok ⊢
   obtain ⟨ow1,ow2⟩:=hok
   refine Cd.seq fun K12 hK12=>?_
   refine Cd.seq fun K13 hK13=>?_
   refine Cd.drawn [(0,_)] ⟨rfl,trivial⟩ [(0,true),(1,true),(2,true),(3,true),(4,true),(5,true),(6,true),(7,true),(8,true),(9,true),(10,true),(11,true),(12,false),(13,true)] follows (by kernel_rfl) (fun hrl=>?_)
   refine Jp.q 46 rfl (qaa rfl) rfl rfl (Y.move rfl rfl) ?_
   refine Jp.q 47 rfl (qaa rfl) rfl rfl (Y.move rfl rfl) ?_
   refine Jp.q 48 rfl (qaa rfl) rfl rfl (Y.leq rfl rfl rfl) ?_
   refine Jp.q 49 rfl (qaa rfl) rfl rfl (Y.move rfl rfl) ?_
   refine Jp.qel 49 rfl (fun g49=>?_) (fun g49=>?_)
   ·skip
    simp only [decide_eq_false_iff_not] at g49
    have hst : Go.Sort.scanDown (fun x=>ltN d[a]! x) d i2 k = k:=down_end (by omega)
    have hkr : k = j2:=by rw [← ow1,hst]
    rw [hkr]
    refine Jp.qbb 50 rfl (qab rfl rfl rfl rfl) rfl rfl ?_
    refine Jp.qbb 51 rfl (qab rfl rfl rfl rfl) rfl rfl ?_
    refine Jp.qbb 52 rfl (qab rfl rfl rfl rfl) rfl rfl ?_
    refine Jp.qbb 53 rfl (qab rfl rfl rfl rfl) rfl rfl ?_
    refine Jp.qbb 54 rfl (qab rfl rfl rfl rfl) rfl rfl ?_
    refine Jp.qbb 55 rfl (qab rfl rfl rfl rfl) rfl rfl ?_
    refine Jp.qbb 56 rfl (qab rfl rfl rfl rfl) rfl rfl ?_
    refine Jp.qbb 57 rfl (qab rfl rfl rfl rfl) rfl rfl ?_
    refine Jp.qar 58 rfl (qab rfl rfl rfl rfl) rfl rfl (Kp.st ⟨rfl,trivial⟩) ?_
    refine Jp.q 59 rfl (qaa rfl) rfl rfl (Y.qay rfl rfl rfl) ?_
    refine Jp.qae hK13 ?_
    refine Cd.qbs rfl ?_
    refine Cd.qen rfl hK6 ?_
    exact Cd.qce (hj2 () trivial) ⟨rfl,rfl,rfl,rfl,trivial⟩ ⟨rfl,trivial⟩
   try simp only [sG0] at g49
   refine Jp.q 50 rfl (qab rfl rfl rfl rfl) rfl rfl (Y.move rfl rfl) ?_
   refine Jp.q 51 rfl (qab rfl rfl rfl rfl) rfl rfl (Y.move rfl rfl) ?_
   have hkj : i2 ≤ k:=by omega
   have ck:=qed (b:=b) (n:=n) (c:=c) (d:=d) (i:=k) (by omega)
   refine Jp.q 52 rfl (qab rfl rfl rfl rfl) rfl rfl (Y.qag (q:=a) rfl rfl rfl underlying22 sizeOf24 (by omega) (by omega) (by omega)) ?_
   refine Jp.q 53 rfl (qab rfl rfl rfl rfl) rfl rfl (by exact Y.qas 0 rfl isAgg24 rfl rfl ca) ?_
   refine Jp.q 54 rfl (qab rfl rfl rfl rfl) rfl rfl (Y.move rfl rfl) ?_
   refine Jp.q 55 rfl (qab rfl rfl rfl rfl) rfl rfl (Y.move rfl rfl) ?_
   refine Jp.q 56 rfl (qab rfl rfl rfl rfl) rfl rfl (Y.qag (q:=k) rfl rfl rfl underlying22 sizeOf24 (by omega) (by omega) (by omega)) ?_
   refine Jp.q 57 rfl (qab rfl rfl rfl rfl) rfl rfl (by exact Y.qas 0 rfl isAgg24 rfl rfl ck) ?_
   refine Jp.call [] [] (qbw d[a]! d[k]!) 58 rfl (qab rfl rfl rfl rfl) rfl rfl (Runs.fn rfl call108 rfl) (by decide) (by decide) rfl trivial ?_
   rintro v7 ρ7 L7 ⟨rfl,rfl,rfl⟩
   refine ⟨rfl,fun hle7=>⟨(Kp.st ⟨rfl,trivial⟩),?_⟩⟩
   have hst : Go.Sort.scanDown (fun x=>ltN d[a]! x) d i2 k = if (ltN d[a]! d[k]!) = true then Go.Sort.scanDown (fun x=>ltN d[a]! x) d i2 (k - 1) else k:=down_go (by omega) hkj
   refine Jp.q 59 rfl (qaa rfl) rfl rfl (Y.qav rfl rfl rfl) ?_
   refine Jp.qae hK13 ?_
   refine Cd.qaq rfl (fun gl=>?_) (fun gl=>?_)
   ·rw [gl,if_pos rfl] at hst
    refine Cd.qbp hK12 ?_
    refine Cd.block ?_
    refine Cd.qac [(0,false),(1,false),(2,false)] rfl rfl ?_
    refine Jp.y 60 rfl (qaa rfl) rfl rfl Kp.true (Y.move rfl rfl) ?_
    refine Jp.y 61 rfl (qaa rfl) rfl rfl Kp.true (Y.qcp rfl rfl rfl (by exact qaf (by omega) (by omega))) ?_
    refine Jp.y 10 rfl (qaa rfl) rfl rfl Kp.true (Y.assign rfl rfl) ?_
    rw [show (k : Int) - 1 = ((k - 1 : Nat) : Int) by omega]
    refine JpQ.again rfl hLk (k - 1) ⟨by rw [← hst,ow1],by omega⟩ (by omega) rfl ⟨rfl,rfl,rfl,rfl,trivial⟩ ⟨rfl,trivial⟩
   ·rw [gl,if_neg (by simp)] at hst
    have hkr : k = j2:=by rw [← ow1,hst]
    rw [hkr]
    refine Cd.qen rfl hK6 ?_
    exact Cd.qce (hj2 () trivial) ⟨rfl,rfl,rfl,rfl,trivial⟩ ⟨rfl,trivial⟩
 ·skip
  refine Cd.qcr (G:=Nat) (fun g=>Go.Sort.scanUp (fun x=>!ltN d[a]! x) d j g = i2 ∧ a + 1 ≤ g) (fun g=>j + 1 - g) (fun _=>_) (fun g=>[(9,.int .i64 (g : Int))]) [(0,_),(1,_),(10,_)] (fun g=>[]) [(0,_)] i ⟨hqi.symm,by omega⟩ rfl ⟨rfl,trivial⟩ ⟨rfl,rfl,rfl,trivial⟩ trivial ⟨rfl,trivial⟩ (fun g KLk hok hLk=>?_)
  obtain ⟨k,hk⟩ : ∃ k,k = g:=⟨_,rfl⟩
  rw [← hk] at hok ⊢
  obtain ⟨ow1,ow2⟩:=hok
  refine Cd.seq fun K15 hK15=>?_
  refine Cd.seq fun K16 hK16=>?_
  refine Cd.drawn [(0,_)] ⟨rfl,trivial⟩ [(0,true),(1,true),(2,true),(3,true),(4,true),(5,true),(6,true),(7,true),(8,true),(9,true),(10,true),(11,true),(12,false),(13,true),(14,true)] follows (by kernel_rfl) (fun hrl=>?_)
  refine Jp.q 29 rfl (qaa rfl) rfl rfl (Y.move rfl rfl) ?_
  refine Jp.q 30 rfl (qaa rfl) rfl rfl (Y.move rfl rfl) ?_
  refine Jp.q 31 rfl (qaa rfl) rfl rfl (Y.leq rfl rfl rfl) ?_
  refine Jp.q 32 rfl (qaa rfl) rfl rfl (Y.move rfl rfl) ?_
  refine Jp.qel 32 rfl (fun g32=>?_) (fun g32=>?_)
  ·skip
   simp only [decide_eq_false_iff_not] at g32
   have hst : Go.Sort.scanUp (fun x=>!ltN d[a]! x) d j k = k:=up_end (by omega)
   have hkr : k = i2:=by rw [← ow1,hst]
   rw [hkr]
   refine Jp.qbb 33 rfl (qab rfl rfl rfl rfl) rfl rfl ?_
   refine Jp.qbb 34 rfl (qab rfl rfl rfl rfl) rfl rfl ?_
   refine Jp.qbb 35 rfl (qab rfl rfl rfl rfl) rfl rfl ?_
   refine Jp.qbb 36 rfl (qab rfl rfl rfl rfl) rfl rfl ?_
   refine Jp.qbb 37 rfl (qab rfl rfl rfl rfl) rfl rfl ?_
   refine Jp.qbb 38 rfl (qab rfl rfl rfl rfl) rfl rfl ?_
   refine Jp.qbb 39 rfl (qab rfl rfl rfl rfl) rfl rfl ?_
   refine Jp.qbb 40 rfl (qab rfl rfl rfl rfl) rfl rfl ?_
   refine Jp.qar 41 rfl (qab rfl rfl rfl rfl) rfl rfl (Kp.st ⟨rfl,trivial⟩) ?_
   refine Jp.qbb 42 rfl (qab rfl rfl rfl rfl) rfl rfl ?_
   refine Jp.q 43 rfl (qaa rfl) rfl rfl (Y.qay rfl rfl rfl) ?_
   refine Jp.qae hK16 ?_
   refine Cd.qbs rfl ?_
   refine Cd.qen rfl hK5 ?_
   exact Cd.qce (hj1 () trivial) ⟨rfl,rfl,rfl,rfl,trivial⟩ ⟨rfl,trivial⟩
  try simp only [sG0] at g32
  refine Jp.q 33 rfl (qab rfl rfl rfl rfl) rfl rfl (Y.move rfl rfl) ?_
  refine Jp.q 34 rfl (qab rfl rfl rfl rfl) rfl rfl (Y.move rfl rfl) ?_
  have hkj : k ≤ j:=by omega
  have ck:=qed (b:=b) (n:=n) (c:=c) (d:=d) (i:=k) (by omega)
  refine Jp.q 35 rfl (qab rfl rfl rfl rfl) rfl rfl (Y.qag (q:=a) rfl rfl rfl underlying22 sizeOf24 (by omega) (by omega) (by omega)) ?_
  refine Jp.q 36 rfl (qab rfl rfl rfl rfl) rfl rfl (by exact Y.qas 0 rfl isAgg24 rfl rfl ca) ?_
  refine Jp.q 37 rfl (qab rfl rfl rfl rfl) rfl rfl (Y.move rfl rfl) ?_
  refine Jp.q 38 rfl (qab rfl rfl rfl rfl) rfl rfl (Y.move rfl rfl) ?_
  refine Jp.q 39 rfl (qab rfl rfl rfl rfl) rfl rfl (Y.qag (q:=k) rfl rfl rfl underlying22 sizeOf24 (by omega) (by omega) (by omega)) ?_
  refine Jp.q 40 rfl (qab rfl rfl rfl rfl) rfl rfl (by exact Y.qas 0 rfl isAgg24 rfl rfl ck) ?_
  refine Jp.call [] [] (qbw d[a]! d[k]!) 41 rfl (qab rfl rfl rfl rfl) rfl rfl (Runs.fn rfl call108 rfl) (by decide) (by decide) rfl trivial ?_
  rintro v7 ρ7 L7 ⟨rfl,rfl,rfl⟩
  refine ⟨rfl,fun hle7=>⟨(Kp.st ⟨rfl,trivial⟩),?_⟩⟩
  have hst : Go.Sort.scanUp (fun x=>!ltN d[a]! x) d j k = if (!ltN d[a]! d[k]!) = true then Go.Sort.scanUp (fun x=>!ltN d[a]! x) d j (k + 1) else k:=up_go hkj
  refine Jp.q 42 rfl (qab rfl rfl rfl rfl) rfl rfl (Y.not rfl rfl) ?_
  refine Jp.q 43 rfl (qaa rfl) rfl rfl (Y.qav rfl rfl rfl) ?_
  refine Jp.qae hK16 ?_
  refine Cd.qaq rfl (fun gl=>?_) (fun gl=>?_)
  ·rw [gl,if_pos rfl] at hst
   refine Cd.qbp hK15 ?_
   refine Cd.block ?_
   refine Cd.qac [(0,false),(1,false),(2,false)] rfl rfl ?_
   refine Jp.y 44 rfl (qaa rfl) rfl rfl Kp.true (Y.move rfl rfl) ?_
   refine Jp.y 45 rfl (qaa rfl) rfl rfl Kp.true (Y.qbq rfl rfl rfl (by exact qaf (by omega) (by omega))) ?_
   refine Jp.y 9 rfl (qaa rfl) rfl rfl Kp.true (Y.assign rfl rfl) ?_
   rw [show (k : Int) + 1 = ((k + 1 : Nat) : Int) by omega]
   refine JpQ.again rfl hLk (k + 1) ⟨by rw [← hst,ow1],by omega⟩ (by omega) rfl ⟨rfl,rfl,rfl,rfl,trivial⟩ ⟨rfl,trivial⟩
  ·rw [gl,if_neg (by simp)] at hst
   have hkr : k = i2:=by rw [← ow1,hst]
   rw [hkr]
   refine Cd.qen rfl hK5 ?_
   exact Cd.qce (hj1 () trivial) ⟨rfl,rfl,rfl,rfl,trivial⟩ ⟨rfl,trivial⟩
theorem part_eq (d0 : Array Nat) (a e pv : Nat) : Go.Sort.partition ltN d0 a e pv =
  if Go.Sort.scanUp (fun x=>ltN x (Go.Sort.swp d0 a pv)[a]!) (Go.Sort.swp d0 a pv) (e - 1) (a + 1) > Go.Sort.scanDown (fun x=>!ltN x (Go.Sort.swp d0 a pv)[a]!) (Go.Sort.swp d0 a pv) (Go.Sort.scanUp (fun x=>ltN x (Go.Sort.swp d0 a pv)[a]!) (Go.Sort.swp d0 a pv) (e - 1) (a + 1)) (e - 1) then
   (Go.Sort.scanDown (fun x=>!ltN x (Go.Sort.swp d0 a pv)[a]!) (Go.Sort.swp d0 a pv) (Go.Sort.scanUp (fun x=>ltN x (Go.Sort.swp d0 a pv)[a]!) (Go.Sort.swp d0 a pv) (e - 1) (a + 1)) (e - 1),true,Go.Sort.swp (Go.Sort.swp d0 a pv) (Go.Sort.scanDown (fun x=>!ltN x (Go.Sort.swp d0 a pv)[a]!) (Go.Sort.swp d0 a pv) (Go.Sort.scanUp (fun x=>ltN x (Go.Sort.swp d0 a pv)[a]!) (Go.Sort.swp d0 a pv) (e - 1) (a + 1)) (e - 1)) a)
  else
   ((Go.Sort.partLoop ltN a (Go.Sort.scanUp (fun x => ltN x (Go.Sort.swp d0 a pv)[a]!) (Go.Sort.swp d0 a pv) (e - 1) (a + 1) + 1) (Go.Sort.scanDown (fun x => !ltN x (Go.Sort.swp d0 a pv)[a]!) (Go.Sort.swp d0 a pv) (Go.Sort.scanUp (fun x => ltN x (Go.Sort.swp d0 a pv)[a]!) (Go.Sort.swp d0 a pv) (e - 1) (a + 1)) (e - 1) - 1) (Go.Sort.swp (Go.Sort.swp d0 a pv) (Go.Sort.scanUp (fun x => ltN x (Go.Sort.swp d0 a pv)[a]!) (Go.Sort.swp d0 a pv) (e - 1) (a + 1)) (Go.Sort.scanDown (fun x => !ltN x (Go.Sort.swp d0 a pv)[a]!) (Go.Sort.swp d0 a pv) (Go.Sort.scanUp (fun x => ltN x (Go.Sort.swp d0 a pv)[a]!) (Go.Sort.swp d0 a pv) (e - 1) (a + 1)) (e - 1)))).1, false,
    Go.Sort.swp (Go.Sort.partLoop ltN a (Go.Sort.scanUp (fun x => ltN x (Go.Sort.swp d0 a pv)[a]!) (Go.Sort.swp d0 a pv) (e - 1) (a + 1) + 1) (Go.Sort.scanDown (fun x => !ltN x (Go.Sort.swp d0 a pv)[a]!) (Go.Sort.swp d0 a pv) (Go.Sort.scanUp (fun x => ltN x (Go.Sort.swp d0 a pv)[a]!) (Go.Sort.swp d0 a pv) (e - 1) (a + 1)) (e - 1) - 1) (Go.Sort.swp (Go.Sort.swp d0 a pv) (Go.Sort.scanUp (fun x => ltN x (Go.Sort.swp d0 a pv)[a]!) (Go.Sort.swp d0 a pv) (e - 1) (a + 1)) (Go.Sort.scanDown (fun x => !ltN x (Go.Sort.swp d0 a pv)[a]!) (Go.Sort.swp d0 a pv) (Go.Sort.scanUp (fun x => ltN x (Go.Sort.swp d0 a pv)[a]!) (Go.Sort.swp d0 a pv) (e - 1) (a + 1)) (e - 1)))).2 (Go.Sort.partLoop ltN a (Go.Sort.scanUp (fun x => ltN x (Go.Sort.swp d0 a pv)[a]!) (Go.Sort.swp d0 a pv) (e - 1) (a + 1) + 1) (Go.Sort.scanDown (fun x => !ltN x (Go.Sort.swp d0 a pv)[a]!) (Go.Sort.swp d0 a pv) (Go.Sort.scanUp (fun x => ltN x (Go.Sort.swp d0 a pv)[a]!) (Go.Sort.swp d0 a pv) (e - 1) (a + 1)) (e - 1) - 1) (Go.Sort.swp (Go.Sort.swp d0 a pv) (Go.Sort.scanUp (fun x => ltN x (Go.Sort.swp d0 a pv)[a]!) (Go.Sort.swp d0 a pv) (e - 1) (a + 1)) (Go.Sort.scanDown (fun x => !ltN x (Go.Sort.swp d0 a pv)[a]!) (Go.Sort.swp d0 a pv) (Go.Sort.scanUp (fun x => ltN x (Go.Sort.swp d0 a pv)[a]!) (Go.Sort.swp d0 a pv) (e - 1) (a + 1)) (e - 1)))).1 a) := rfl
theorem part_spec (A : Option Addr) (n c : Nat) (d0 : Array Nat) (a e pv : Nat) (hd : d0.size = n) (hp1 : a ≤ pv) (hp2 : pv < e) (hen : e ≤ n) (hn : n ≤ 4096) : Spec Tryz.prog 110 #[.slice A n c,.int .i64 a,.int .i64 e,.int .i64 pv] (fun _=>True) [(0,qdp A n c d0)]
  (fun ρ ρ' v L=>ρ' = ρ ∧ v = .tuple #[.int .i64 ((Go.Sort.partition ltN d0 a e pv).1 : Int),.bool (Go.Sort.partition ltN d0 a e pv).2.1] ∧ L = [(0,qdp A n c (Go.Sort.partition ltN d0 a e pv).2.2)]):=by
 refine Spec.of 168 Tryz.func110 rfl Tryz.ntmps110 [(0,_),(1,_),(2,_),(3,_)] rfl rfl ?_
 intro cx ρ hr h0
 obtain ⟨T,hT⟩ : ∃ T,Go.Sort.partition ltN d0 a e pv = T:=⟨_,rfl⟩
 rw [hT]
 refine Cd.ownAt 0 rfl (show 0 < n by omega) ?_
 rintro b rfl
 have ca0:=qed (b:=b) (n:=n) (c:=c) (d:=d0) (i:=a) (by omega)
 have cp:=qed (b:=b) (n:=n) (c:=c) (d:=d0) (i:=pv) (by omega)
 refine Cd.seq fun K18 hK18=>?_
 refine Cd.qac [(0,false),(1,false)] rfl rfl ?_
 refine Jp.y 8 rfl (qaa rfl) rfl rfl Kp.true (Y.assign rfl rfl) ?_
 refine Jp.y 9 rfl (qaa rfl) rfl rfl Kp.true (Y.assign rfl rfl) ?_
 refine Jp.qae hK18 ?_
 refine Cd.seq fun K19 hK19=>?_
 refine Cd.qcl [(0,_)] ⟨rfl,trivial⟩ [(2,true),(3,true)] [(0,true),(1,true),(4,true),(5,true),(6,true),(7,true),(8,true),(9,true),(10,true),(11,true),(12,true)] 13 [(14,true),(15,false)] follows (by kernel_rfl) (fun hrl=>?_)
 refine Jp2.q 14 rfl (qaa rfl) rfl rfl (fun _=>(Y.move rfl rfl)) ?_
 refine Jp2.q 15 rfl (qaa rfl) rfl rfl (fun _=>(Y.move rfl rfl)) ?_
 refine Jp2.head ?_
 refine Jp.q 12 rfl (qaa rfl) rfl rfl (Y.move rfl rfl) ?_
 refine Jp.q 13 rfl (qaa rfl) rfl rfl (Y.move rfl rfl) ?_
 refine Jp.q 16 rfl (qaa rfl) rfl rfl (Y.move rfl rfl) ?_
 refine Jp.q 17 rfl (qaa rfl) rfl rfl (Y.move rfl rfl) ?_
 refine Jp.q 18 rfl (qaa rfl) rfl rfl (Y.qag (q:=pv) rfl rfl rfl underlying22 sizeOf24 (by omega) (by omega) (by omega)) ?_
 refine Jp.q 19 rfl (qaa rfl) rfl rfl (by exact Y.qas 0 rfl isAgg24 rfl rfl cp) ?_
 refine Jp.q 20 rfl (qaa rfl) rfl rfl (Y.move rfl rfl) ?_
 refine Jp.q 21 rfl (qaa rfl) rfl rfl (Y.move rfl rfl) ?_
 refine Jp.q 22 rfl (qaa rfl) rfl rfl (Y.qag (q:=a) rfl rfl rfl underlying22 sizeOf24 (by omega) (by omega) (by omega)) ?_
 refine Jp.q 23 rfl (qaa rfl) rfl rfl (by exact Y.qas 0 rfl isAgg24 rfl rfl ca0) ?_
 refine Jp.q 24 rfl (qaa rfl) rfl rfl (Y.qag (q:=a) rfl rfl rfl underlying22 sizeOf24 (by omega) (by omega) (by omega)) ?_
 refine Jp2.qct ?_
 refine Jp2.qeo ?_
 refine Jp.qbu 0 (q:=a) rfl (qaa rfl) rfl rfl sizeOf24 rfl rfl rfl rfl rfl (by omega) (qbd .u32 (d0.toList.set a d0[pv]!)) (qbc _ _ _ _) Kp.true ?_
 refine Jp2.qct ?_
 refine Jp2.q 25 rfl (qaa rfl) rfl rfl (fun _=>(Y.qag (q:=pv) rfl rfl rfl underlying22 sizeOf24 (by omega) (by omega) (by omega))) ?_
 refine Jp2.qeo ?_
 refine Jp.qbu 0 (q:=pv) rfl (qaa rfl) rfl rfl sizeOf24 rfl rfl rfl rfl rfl (by omega) (qbd .u32 (Go.Sort.swp d0 a pv).toList) (qfh _ _ _) Kp.true ?_
 refine Jp2.qct ?_
 obtain ⟨d,hd1⟩ : ∃ d,Go.Sort.swp d0 a pv = d:=⟨_,rfl⟩
 have hs1 : d.size = n:=by rw [← hd1,qch]; exact hd
 rw [part_eq,hd1] at hT
 rw [hd1]
 obtain ⟨i2,hqi⟩ : ∃ i2,i2 = Go.Sort.scanUp (fun x=>ltN x d[a]!) d (e - 1) (a + 1):=⟨_,rfl⟩
 rw [← hqi] at hT
 obtain ⟨j2,hqj⟩ : ∃ j2,j2 = Go.Sort.scanDown (fun x=>!ltN x d[a]!) d i2 (e - 1):=⟨_,rfl⟩
 rw [← hqj] at hT
 have hup:=Go.Sort.scanUp_ge (fun x=>ltN x d[a]!) d (e - 1) (a + 1)
 rw [← hqi] at hup
 have hdn:=Go.Sort.scanDown_le (fun x=>!ltN x d[a]!) d i2 (e - 1)
 rw [← hqj] at hdn
 have ca:=qed (b:=b) (n:=n) (c:=c) (d:=d) (i:=a) (by omega)
 refine Jp2.nil ?_
 refine Jp.qae hK19 ?_
 refine Cd.seq fun K20 hK20=>?_
 refine Cd.qac [(0,false),(1,false),(2,false),(3,false),(4,false),(5,false)] rfl rfl ?_
 refine Jp.y 26 rfl (qaa rfl) rfl rfl Kp.true (Y.move rfl rfl) ?_
 refine Jp.y 27 rfl (qaa rfl) rfl rfl Kp.true (Y.qbq rfl rfl rfl (by exact qaf (by omega) (by omega))) ?_
 refine Jp.y 28 rfl (qaa rfl) rfl rfl Kp.true (Y.move rfl rfl) ?_
 refine Jp.y 29 rfl (qaa rfl) rfl rfl Kp.true (Y.qcp rfl rfl rfl (by exact qaf (by omega) (by omega))) ?_
 refine Jp.y 10 rfl (qaa rfl) rfl rfl Kp.true (Y.assign rfl rfl) ?_
 refine Jp.y 11 rfl (qaa rfl) rfl rfl Kp.true (Y.assign rfl rfl) ?_
 refine Jp.qae hK20 ?_
 refine Cd.seq fun K21 hK21=>?_
 refine Cd.block ?_
 refine Cd.slot 10 rfl (show _ = Value.int .i64 ((a + 1 : Nat) : Int) from congrArg (Value.int .i64) (by omega)) ?_
 refine Cd.slot 11 rfl (show _ = Value.int .i64 ((e - 1 : Nat) : Int) from congrArg (Value.int .i64) (by omega)) ?_
 refine Cd.qdo (G:=Unit) (fun _=>True) (fun _=>[(10,.int .i64 (i2 : Int))]) [(0,_),(1,_),(11,_)] ⟨rfl,rfl,rfl,trivial⟩ (fun _=>[]) [(0,_)] ⟨rfl,trivial⟩ hK21 (fun g hφ=>?_) (fun hj3=>?_)
 ·clear hφ
  refine Cd.seq fun K22 hK22=>?_
  refine Cd.block ?_
  refine Cd.qdo (G:=Unit) (fun _=>True) (fun _=>[(11,.int .i64 (j2 : Int))]) [(0,_),(1,_),(10,_)] ⟨rfl,rfl,rfl,trivial⟩ (fun _=>[]) [(0,_)] ⟨rfl,trivial⟩ hK22 (fun g hφ=>?_) (fun hj4=>?_)
  ·clear hφ
   have cj:=qed (b:=b) (n:=n) (c:=c) (d:=d) (i:=j2) (by omega)
   refine Cd.seq fun K23 hK23=>?_
   refine Cd.seq fun K24 hK24=>?_
   refine Cd.qac [(0,false),(1,false),(2,false)] rfl rfl ?_
   refine Jp.y 63 rfl (qaa rfl) rfl rfl Kp.true (Y.move rfl rfl) ?_
   refine Jp.y 64 rfl (qaa rfl) rfl rfl Kp.true (Y.move rfl rfl) ?_
   refine Jp.y 65 rfl (qaa rfl) rfl rfl Kp.true (Y.gtr rfl rfl rfl) ?_
   refine Jp.qae hK24 ?_
   refine Cd.qaq rfl (fun gx=>?_) (fun gx=>?_)
   ·simp only [decide_eq_true_eq] at gx
    rw [if_pos (by omega)] at hT
    subst hT
    refine Cd.seq fun K25 hK25=>?_
    refine Cd.qcl [(0,_)] ⟨rfl,trivial⟩ [(2,true),(3,true)] [(0,true),(1,true),(4,true),(5,true),(6,true),(7,true),(8,true),(9,true),(10,true),(11,true),(12,true)] 13 [(14,true),(15,false)] follows (by kernel_rfl) (fun hrl=>?_)
    refine Jp2.q 68 rfl (qaa rfl) rfl rfl (fun _=>(Y.move rfl rfl)) ?_
    refine Jp2.q 69 rfl (qaa rfl) rfl rfl (fun _=>(Y.move rfl rfl)) ?_
    refine Jp2.head ?_
    refine Jp.q 66 rfl (qaa rfl) rfl rfl (Y.move rfl rfl) ?_
    refine Jp.q 67 rfl (qaa rfl) rfl rfl (Y.move rfl rfl) ?_
    refine Jp.q 70 rfl (qaa rfl) rfl rfl (Y.move rfl rfl) ?_
    refine Jp.q 71 rfl (qaa rfl) rfl rfl (Y.move rfl rfl) ?_
    refine Jp.q 72 rfl (qaa rfl) rfl rfl (Y.qag (q:=a) rfl rfl rfl underlying22 sizeOf24 (by omega) (by omega) (by omega)) ?_
    refine Jp.q 73 rfl (qaa rfl) rfl rfl (by exact Y.qas 0 rfl isAgg24 rfl rfl ca) ?_
    refine Jp.q 74 rfl (qaa rfl) rfl rfl (Y.move rfl rfl) ?_
    refine Jp.q 75 rfl (qaa rfl) rfl rfl (Y.move rfl rfl) ?_
    refine Jp.q 76 rfl (qaa rfl) rfl rfl (Y.qag (q:=j2) rfl rfl rfl underlying22 sizeOf24 (by omega) (by omega) (by omega)) ?_
    refine Jp.q 77 rfl (qaa rfl) rfl rfl (by exact Y.qas 0 rfl isAgg24 rfl rfl cj) ?_
    refine Jp.q 78 rfl (qaa rfl) rfl rfl (Y.qag (q:=j2) rfl rfl rfl underlying22 sizeOf24 (by omega) (by omega) (by omega)) ?_
    refine Jp2.qct ?_
    refine Jp2.qeo ?_
    refine Jp.qbu 0 (q:=j2) rfl (qaa rfl) rfl rfl sizeOf24 rfl rfl rfl rfl rfl (by omega) (qbd .u32 (d.toList.set j2 d[a]!)) (qbc _ _ _ _) Kp.true ?_
    refine Jp2.qct ?_
    refine Jp2.q 79 rfl (qaa rfl) rfl rfl (fun _=>(Y.qag (q:=a) rfl rfl rfl underlying22 sizeOf24 (by omega) (by omega) (by omega))) ?_
    refine Jp2.qeo ?_
    refine Jp.qbu 0 (q:=a) rfl (qaa rfl) rfl rfl sizeOf24 rfl rfl rfl rfl rfl (by omega) (qbd .u32 (Go.Sort.swp d j2 a).toList) (qfh _ _ _) Kp.true ?_
    refine Jp2.qct ?_
    refine Jp2.nil ?_
    refine Jp.qae hK25 ?_
    refine Cd.seq fun K26 hK26=>?_
    refine Cd.qac [(0,false),(1,false),(2,false)] rfl rfl ?_
    refine Jp.y 80 rfl (qaa rfl) rfl rfl Kp.true (Y.move rfl rfl) ?_
    refine Jp.y 8 rfl (qaa rfl) rfl rfl Kp.true (Y.assign rfl rfl) ?_
    refine Jp.y 9 rfl (qaa rfl) rfl rfl Kp.true (Y.assign rfl rfl) ?_
    refine Jp.qae hK26 ?_
    refine Cd.ret [(0,_)] rfl (qbv rfl rfl rfl) ⟨rfl,trivial⟩ ⟨rfl,rfl,rfl⟩
   ·simp only [decide_eq_false_iff_not] at gx
    rw [if_neg (by omega)] at hT
    have ci:=qed (b:=b) (n:=n) (c:=c) (d:=d) (i:=i2) (by omega)
    refine Cd.qbp hK23 ?_
    refine Cd.seq fun K27 hK27=>?_
    refine Cd.qcl [(0,_)] ⟨rfl,trivial⟩ [(2,true),(3,true)] [(0,true),(1,true),(4,true),(5,true),(6,true),(7,true),(8,true),(9,true),(10,true),(11,true),(12,true)] 13 [(14,true),(15,false)] follows (by kernel_rfl) (fun hrl=>?_)
    refine Jp2.q 83 rfl (qaa rfl) rfl rfl (fun _=>(Y.move rfl rfl)) ?_
    refine Jp2.q 84 rfl (qaa rfl) rfl rfl (fun _=>(Y.move rfl rfl)) ?_
    refine Jp2.head ?_
    refine Jp.q 81 rfl (qaa rfl) rfl rfl (Y.move rfl rfl) ?_
    refine Jp.q 82 rfl (qaa rfl) rfl rfl (Y.move rfl rfl) ?_
    refine Jp.q 85 rfl (qaa rfl) rfl rfl (Y.move rfl rfl) ?_
    refine Jp.q 86 rfl (qaa rfl) rfl rfl (Y.move rfl rfl) ?_
    refine Jp.q 87 rfl (qaa rfl) rfl rfl (Y.qag (q:=j2) rfl rfl rfl underlying22 sizeOf24 (by omega) (by omega) (by omega)) ?_
    refine Jp.q 88 rfl (qaa rfl) rfl rfl (by exact Y.qas 0 rfl isAgg24 rfl rfl cj) ?_
    refine Jp.q 89 rfl (qaa rfl) rfl rfl (Y.move rfl rfl) ?_
    refine Jp.q 90 rfl (qaa rfl) rfl rfl (Y.move rfl rfl) ?_
    refine Jp.q 91 rfl (qaa rfl) rfl rfl (Y.qag (q:=i2) rfl rfl rfl underlying22 sizeOf24 (by omega) (by omega) (by omega)) ?_
    refine Jp.q 92 rfl (qaa rfl) rfl rfl (by exact Y.qas 0 rfl isAgg24 rfl rfl ci) ?_
    refine Jp.q 93 rfl (qaa rfl) rfl rfl (Y.qag (q:=i2) rfl rfl rfl underlying22 sizeOf24 (by omega) (by omega) (by omega)) ?_
    refine Jp2.qct ?_
    refine Jp2.qeo ?_
    refine Jp.qbu 0 (q:=i2) rfl (qaa rfl) rfl rfl sizeOf24 rfl rfl rfl rfl rfl (by omega) (qbd .u32 (d.toList.set i2 d[j2]!)) (qbc _ _ _ _) Kp.true ?_
    refine Jp2.qct ?_
    refine Jp2.q 94 rfl (qaa rfl) rfl rfl (fun _=>(Y.qag (q:=j2) rfl rfl rfl underlying22 sizeOf24 (by omega) (by omega) (by omega))) ?_
    refine Jp2.qeo ?_
    refine Jp.qbu 0 (q:=j2) rfl (qaa rfl) rfl rfl sizeOf24 rfl rfl rfl rfl rfl (by omega) (qbd .u32 (Go.Sort.swp d i2 j2).toList) (qfh _ _ _) Kp.true ?_
    refine Jp2.qct ?_
    refine Jp2.nil ?_
    refine Jp.qae hK27 ?_
    refine Cd.seq fun K28 hK28=>?_
    refine Cd.qac [(0,false),(1,false),(2,false)] rfl rfl ?_
    refine Jp.y 95 rfl (qaa rfl) rfl rfl Kp.true (Y.move rfl rfl) ?_
    refine Jp.y 96 rfl (qaa rfl) rfl rfl Kp.true (Y.qbq rfl rfl rfl (by exact qaf (by omega) (by omega))) ?_
    refine Jp.y 10 rfl (qaa rfl) rfl rfl Kp.true (Y.assign rfl rfl) ?_
    refine Jp.qae hK28 ?_
    refine Cd.seq fun K29 hK29=>?_
    refine Cd.qac [(0,false),(1,false),(2,false)] rfl rfl ?_
    refine Jp.y 97 rfl (qaa rfl) rfl rfl Kp.true (Y.move rfl rfl) ?_
    refine Jp.y 98 rfl (qaa rfl) rfl rfl Kp.true (Y.qcp rfl rfl rfl (by exact qaf (by omega) (by omega))) ?_
    refine Jp.y 11 rfl (qaa rfl) rfl rfl Kp.true (Y.assign rfl rfl) ?_
    refine Jp.qae hK29 ?_
    refine Cd.seq fun K30 hK30=>?_
    refine Cd.block ?_
    refine Cd.slot 10 rfl (show _ = Value.int .i64 ((i2 + 1 : Nat) : Int) from congrArg (Value.int .i64) (by omega)) ?_
    refine Cd.slot 11 rfl (show _ = Value.int .i64 ((j2 - 1 : Nat) : Int) from congrArg (Value.int .i64) (by omega)) ?_
    obtain ⟨U,hU⟩ : ∃ U,Go.Sort.partLoop ltN a (i2 + 1) (j2 - 1) (Go.Sort.swp d i2 j2) = U:=⟨_,rfl⟩
    rw [hU] at hT
    clear hqi hqj ci cj ca ca0 cp
    refine Cd.imp (i:=0) rfl (fun h hh=>(show qdp (some ⟨b,0,none⟩) n c (Go.Sort.swp d i2 j2) h from hh)) ?_
    refine Cd.qdo (G:=Nat × Array Nat) (fun g=>g = U ∧ g.1 < n ∧ g.2.size = n) (fun g=>[(11,.int .i64 (g.1 : Int))]) [(0,_),(1,_)] ⟨rfl,rfl,trivial⟩ (fun g=>[(0,qdp (some ⟨b,0,none⟩) n c g.2)]) [] trivial hK30 (fun g hφ=>?_) (fun hj5=>?_)
    ·obtain ⟨p1,p2,p3⟩:=hφ
     subst p1
     obtain ⟨jz,dz⟩:=g
     dsimp only at p2 p3 hT ⊢
     have ca:=qed (b:=b) (n:=n) (c:=c) (d:=dz) (i:=a) (by omega)
     have cj:=qed (b:=b) (n:=n) (c:=c) (d:=dz) (i:=jz) (by omega)
     refine Cd.seq fun K31 hK31=>?_
     refine Cd.qcl [(0,_)] ⟨rfl,trivial⟩ [(2,true),(3,true)] [(0,true),(1,true),(4,true),(5,true),(6,true),(7,true),(8,true),(9,true),(10,true),(11,true),(12,true)] 13 [(14,true),(15,false)] follows (by kernel_rfl) (fun hrl=>?_)
     refine Jp2.q 155 rfl (qaa rfl) rfl rfl (fun _=>(Y.move rfl rfl)) ?_
     refine Jp2.q 156 rfl (qaa rfl) rfl rfl (fun _=>(Y.move rfl rfl)) ?_
     refine Jp2.head ?_
     refine Jp.q 153 rfl (qaa rfl) rfl rfl (Y.move rfl rfl) ?_
     refine Jp.q 154 rfl (qaa rfl) rfl rfl (Y.move rfl rfl) ?_
     refine Jp.q 157 rfl (qaa rfl) rfl rfl (Y.move rfl rfl) ?_
     refine Jp.q 158 rfl (qaa rfl) rfl rfl (Y.move rfl rfl) ?_
     refine Jp.q 159 rfl (qaa rfl) rfl rfl (Y.qag (q:=a) rfl rfl rfl underlying22 sizeOf24 (by omega) (by omega) (by omega)) ?_
     refine Jp.q 160 rfl (qaa rfl) rfl rfl (by exact Y.qas 0 rfl isAgg24 rfl rfl ca) ?_
     refine Jp.q 161 rfl (qaa rfl) rfl rfl (Y.move rfl rfl) ?_
     refine Jp.q 162 rfl (qaa rfl) rfl rfl (Y.move rfl rfl) ?_
     refine Jp.q 163 rfl (qaa rfl) rfl rfl (Y.qag (q:=jz) rfl rfl rfl underlying22 sizeOf24 (by omega) (by omega) (by omega)) ?_
     refine Jp.q 164 rfl (qaa rfl) rfl rfl (by exact Y.qas 0 rfl isAgg24 rfl rfl cj) ?_
     refine Jp.q 165 rfl (qaa rfl) rfl rfl (Y.qag (q:=jz) rfl rfl rfl underlying22 sizeOf24 (by omega) (by omega) (by omega)) ?_
     refine Jp2.qct ?_
     refine Jp2.qeo ?_
     refine Jp.qbu 0 (q:=jz) rfl (qaa rfl) rfl rfl sizeOf24 rfl rfl rfl rfl rfl (by omega) (qbd .u32 (dz.toList.set jz dz[a]!)) (qbc _ _ _ _) Kp.true ?_
     refine Jp2.qct ?_
     refine Jp2.q 166 rfl (qaa rfl) rfl rfl (fun _=>(Y.qag (q:=a) rfl rfl rfl underlying22 sizeOf24 (by omega) (by omega) (by omega))) ?_
     refine Jp2.qeo ?_
     refine Jp.qbu 0 (q:=a) rfl (qaa rfl) rfl rfl sizeOf24 rfl rfl rfl rfl rfl (by omega) (qbd .u32 (Go.Sort.swp dz jz a).toList) (qfh _ _ _) Kp.true ?_
     refine Jp2.qct ?_
     refine Jp2.nil ?_
     refine Jp.qae hK31 ?_
     refine Cd.seq fun K32 hK32=>?_
     refine Cd.qac [(0,false),(1,false),(2,false)] rfl rfl ?_
     refine Jp.y 167 rfl (qaa rfl) rfl rfl Kp.true (Y.move rfl rfl) ?_
     refine Jp.y 8 rfl (qaa rfl) rfl rfl Kp.true (Y.assign rfl rfl) ?_
     refine Jp.y 9 rfl (qaa rfl) rfl rfl Kp.true (Y.assign rfl rfl) ?_
     refine Jp.qae hK32 ?_
     subst hT
     refine Cd.ret [(0,_)] rfl (qbv rfl rfl rfl) ⟨rfl,trivial⟩ ⟨rfl,rfl,rfl⟩
    ·skip
     refine Cd.qcr (G:=Nat × Nat × Array Nat) (fun g=>Go.Sort.partLoop ltN a g.1 g.2.1 g.2.2 = U ∧ a + 1 ≤ g.1 ∧ g.1 ≤ g.2.1 + 2 ∧ g.2.1 < n ∧ g.2.2.size = n) (fun g=>g.2.1 + 2 - g.1) (fun _=>_) (fun g=>[(10,.int .i64 (g.1 : Int)),(11,.int .i64 (g.2.1 : Int))]) [(0,_),(1,_)] (fun g=>[(0,qdp (some ⟨b,0,none⟩) n c g.2.2)]) [] ⟨i2 + 1,j2 - 1,Go.Sort.swp d i2 j2⟩ ⟨hU,by show a + 1 ≤ i2 + 1; omega,by show i2 + 1 ≤ j2 - 1 + 2; omega,by show j2 - 1 < n; omega,by rw [qch]; exact hs1⟩ rfl ⟨rfl,rfl,trivial⟩ ⟨rfl,rfl,trivial⟩ ⟨rfl,trivial⟩ trivial (fun g KLf hok hLf=>?_)
     clear gx hT hU hs1 hd1 hup hdn d i2 j2
     obtain ⟨i,j,d⟩:=g
     obtain ⟨ok1,ok2,ok3,ok4,ok5⟩:=hok
     dsimp only at ok1 ok2 ok3 ok4 ok5 ⊢
     rw [Go.Sort.partLoop_eq] at ok1
     have ca:=qed (b:=b) (n:=n) (c:=c) (d:=d) (i:=a) (by omega)
     obtain ⟨i2,hqi⟩ : ∃ i2,i2 = Go.Sort.scanUp (fun x=>ltN x d[a]!) d j i:=⟨_,rfl⟩
     rw [← hqi] at ok1
     obtain ⟨j2,hqj⟩ : ∃ j2,j2 = Go.Sort.scanDown (fun x=>!ltN x d[a]!) d i2 j:=⟨_,rfl⟩
     rw [← hqj] at ok1
     have hup:=Go.Sort.scanUp_ge (fun x=>ltN x d[a]!) d j i
     rw [← hqi] at hup
     have hdn:=Go.Sort.scanDown_le (fun x=>!ltN x d[a]!) d i2 j
     rw [← hqj] at hdn
     refine Cd.block ?_
     refine Cd.seq fun K33 hK33=>?_
     refine Cd.block ?_
     refine Cd.qdo (G:=Unit) (fun _=>True) (fun _=>[(10,.int .i64 (i2 : Int))]) [(0,_),(1,_),(11,_)] ⟨rfl,rfl,rfl,trivial⟩ (fun _=>[]) [(0,_)] ⟨rfl,trivial⟩ hK33 (fun g hφ=>?_) (fun hj6=>?_)
     ·clear hφ
      refine Cd.seq fun K34 hK34=>?_
      refine Cd.block ?_
      refine Cd.qdo (G:=Unit) (fun _=>True) (fun _=>[(11,.int .i64 (j2 : Int))]) [(0,_),(1,_),(10,_)] ⟨rfl,rfl,rfl,trivial⟩ (fun _=>[]) [(0,_)] ⟨rfl,trivial⟩ hK34 (fun g hφ=>?_) (fun hj7=>?_)
      ·clear hφ
       refine Cd.seq fun K35 hK35=>?_
       refine Cd.seq fun K36 hK36=>?_
       refine Cd.qac [(0,false),(1,false),(2,false)] rfl rfl ?_
       refine Jp.y 132 rfl (qaa rfl) rfl rfl Kp.true (Y.move rfl rfl) ?_
       refine Jp.y 133 rfl (qaa rfl) rfl rfl Kp.true (Y.move rfl rfl) ?_
       refine Jp.y 134 rfl (qaa rfl) rfl rfl Kp.true (Y.gtr rfl rfl rfl) ?_
       refine Jp.qae hK36 ?_
       refine Cd.qaq rfl (fun gx=>?_) (fun gx=>?_)
       ·simp only [decide_eq_true_eq] at gx
        rw [if_pos (by omega)] at ok1
        refine Cd.qen rfl hK30 ?_
        exact Cd.qce (hj5 (j2,d) ⟨ok1,by show j2 < n; omega,ok5⟩) ⟨rfl,rfl,rfl,trivial⟩ ⟨rfl,trivial⟩
       ·simp only [decide_eq_false_iff_not] at gx
        rw [if_neg (by omega)] at ok1
        have ci:=qed (b:=b) (n:=n) (c:=c) (d:=d) (i:=i2) (by omega)
        have cj:=qed (b:=b) (n:=n) (c:=c) (d:=d) (i:=j2) (by omega)
        refine Cd.qbp hK35 ?_
        refine Cd.seq fun K37 hK37=>?_
        refine Cd.qcl [(0,_)] ⟨rfl,trivial⟩ [(2,true),(3,true)] [(0,true),(1,true),(4,true),(5,true),(6,true),(7,true),(8,true),(9,true),(10,true),(11,true),(12,true)] 13 [(14,true),(15,false)] follows (by kernel_rfl) (fun hrl=>?_)
        refine Jp2.q 137 rfl (qaa rfl) rfl rfl (fun _=>(Y.move rfl rfl)) ?_
        refine Jp2.q 138 rfl (qaa rfl) rfl rfl (fun _=>(Y.move rfl rfl)) ?_
        refine Jp2.head ?_
        refine Jp.q 135 rfl (qaa rfl) rfl rfl (Y.move rfl rfl) ?_
        refine Jp.q 136 rfl (qaa rfl) rfl rfl (Y.move rfl rfl) ?_
        refine Jp.q 139 rfl (qaa rfl) rfl rfl (Y.move rfl rfl) ?_
        refine Jp.q 140 rfl (qaa rfl) rfl rfl (Y.move rfl rfl) ?_
        refine Jp.q 141 rfl (qaa rfl) rfl rfl (Y.qag (q:=j2) rfl rfl rfl underlying22 sizeOf24 (by omega) (by omega) (by omega)) ?_
        refine Jp.q 142 rfl (qaa rfl) rfl rfl (by exact Y.qas 0 rfl isAgg24 rfl rfl cj) ?_
        refine Jp.q 143 rfl (qaa rfl) rfl rfl (Y.move rfl rfl) ?_
        refine Jp.q 144 rfl (qaa rfl) rfl rfl (Y.move rfl rfl) ?_
        refine Jp.q 145 rfl (qaa rfl) rfl rfl (Y.qag (q:=i2) rfl rfl rfl underlying22 sizeOf24 (by omega) (by omega) (by omega)) ?_
        refine Jp.q 146 rfl (qaa rfl) rfl rfl (by exact Y.qas 0 rfl isAgg24 rfl rfl ci) ?_
        refine Jp.q 147 rfl (qaa rfl) rfl rfl (Y.qag (q:=i2) rfl rfl rfl underlying22 sizeOf24 (by omega) (by omega) (by omega)) ?_
        refine Jp2.qct ?_
        refine Jp2.qeo ?_
        refine Jp.qbu 0 (q:=i2) rfl (qaa rfl) rfl rfl sizeOf24 rfl rfl rfl rfl rfl (by omega) (qbd .u32 (d.toList.set i2 d[j2]!)) (qbc _ _ _ _) Kp.true ?_
        refine Jp2.qct ?_
        refine Jp2.q 148 rfl (qaa rfl) rfl rfl (fun _=>(Y.qag (q:=j2) rfl rfl rfl underlying22 sizeOf24 (by omega) (by omega) (by omega))) ?_
        refine Jp2.qeo ?_
        refine Jp.qbu 0 (q:=j2) rfl (qaa rfl) rfl rfl sizeOf24 rfl rfl rfl rfl rfl (by omega) (qbd .u32 (Go.Sort.swp d i2 j2).toList) (qfh _ _ _) Kp.true ?_
        refine Jp2.qct ?_
        refine Jp2.nil ?_
        refine Jp.qae hK37 ?_
        refine Cd.seq fun K38 hK38=>?_
        refine Cd.qac [(0,false),(1,false),(2,false)] rfl rfl ?_
        refine Jp.y 149 rfl (qaa rfl) rfl rfl Kp.true (Y.move rfl rfl) ?_
        refine Jp.y 150 rfl (qaa rfl) rfl rfl Kp.true (Y.qbq rfl rfl rfl (by exact qaf (by omega) (by omega))) ?_
        refine Jp.y 10 rfl (qaa rfl) rfl rfl Kp.true (Y.assign rfl rfl) ?_
        refine Jp.qae hK38 ?_
        refine Cd.qac [(0,false),(1,false),(2,false)] rfl rfl ?_
        refine Jp.y 151 rfl (qaa rfl) rfl rfl Kp.true (Y.move rfl rfl) ?_
        refine Jp.y 152 rfl (qaa rfl) rfl rfl Kp.true (Y.qcp rfl rfl rfl (by exact qaf (by omega) (by omega))) ?_
        refine Jp.y 11 rfl (qaa rfl) rfl rfl Kp.true (Y.assign rfl rfl) ?_
        refine Jp.slot 10 rfl (show _ = Value.int .i64 ((i2 + 1 : Nat) : Int) from congrArg (Value.int .i64) (by omega)) ?_
        refine Jp.slot 11 rfl (show _ = Value.int .i64 ((j2 - 1 : Nat) : Int) from congrArg (Value.int .i64) (by omega)) ?_
        refine JpQ.again rfl hLf ⟨i2 + 1,j2 - 1,Go.Sort.swp d i2 j2⟩ ⟨ok1,by show a + 1 ≤ i2 + 1; omega,by show i2 + 1 ≤ j2 - 1 + 2; omega,by show j2 - 1 < n; omega,by rw [qch]; exact ok5⟩ (by show j2 - 1 + 2 - (i2 + 1) < j + 2 - i; omega) rfl ⟨rfl,rfl,rfl,rfl,trivial⟩ ⟨rfl,trivial⟩
      ·skip
       refine Cd.qcr (G:=Nat) (fun g=>Go.Sort.scanDown (fun x=>!ltN x d[a]!) d i2 g = j2 ∧ g < n) (fun g=>g) (fun _=>_) (fun g=>[(11,.int .i64 (g : Int))]) [(0,_),(1,_),(10,_)] (fun g=>[]) [(0,_)] j ⟨hqj.symm,by omega⟩ rfl ⟨rfl,trivial⟩ ⟨rfl,rfl,rfl,trivial⟩ trivial ⟨rfl,trivial⟩ (fun g KLk hok hLk=>?_)
       obtain ⟨k,hk⟩ : ∃ k,k = g:=⟨_,rfl⟩
       rw [← hk] at hok ⊢
       obtain ⟨ow1,ow2⟩:=hok
       refine Cd.seq fun K39 hK39=>?_
       refine Cd.seq fun K40 hK40=>?_
       refine Cd.drawn [(0,_)] ⟨rfl,trivial⟩ [(0,true),(1,true),(2,true),(3,true),(4,true),(5,true),(6,true),(7,true),(8,true),(9,true),(10,true),(11,true),(12,false),(13,true),(14,true)] follows (by kernel_rfl) (fun hrl=>?_)
       refine Jp.q 115 rfl (qaa rfl) rfl rfl (Y.move rfl rfl) ?_
       refine Jp.q 116 rfl (qaa rfl) rfl rfl (Y.move rfl rfl) ?_
       refine Jp.q 117 rfl (qaa rfl) rfl rfl (Y.leq rfl rfl rfl) ?_
       refine Jp.q 118 rfl (qaa rfl) rfl rfl (Y.move rfl rfl) ?_
       refine Jp.qel 118 rfl (fun g118=>?_) (fun g118=>?_)
       ·skip
        simp only [decide_eq_false_iff_not] at g118
        have hst : Go.Sort.scanDown (fun x=>!ltN x d[a]!) d i2 k = k:=down_end (by omega)
        have hkr : k = j2:=by rw [← ow1,hst]
        rw [hkr]
        refine Jp.qbb 119 rfl (qab rfl rfl rfl rfl) rfl rfl ?_
        refine Jp.qbb 120 rfl (qab rfl rfl rfl rfl) rfl rfl ?_
        refine Jp.qbb 121 rfl (qab rfl rfl rfl rfl) rfl rfl ?_
        refine Jp.qbb 122 rfl (qab rfl rfl rfl rfl) rfl rfl ?_
        refine Jp.qbb 123 rfl (qab rfl rfl rfl rfl) rfl rfl ?_
        refine Jp.qbb 124 rfl (qab rfl rfl rfl rfl) rfl rfl ?_
        refine Jp.qbb 125 rfl (qab rfl rfl rfl rfl) rfl rfl ?_
        refine Jp.qbb 126 rfl (qab rfl rfl rfl rfl) rfl rfl ?_
        refine Jp.qar 127 rfl (qab rfl rfl rfl rfl) rfl rfl (Kp.st ⟨rfl,trivial⟩) ?_
        refine Jp.qbb 128 rfl (qab rfl rfl rfl rfl) rfl rfl ?_
        refine Jp.q 129 rfl (qaa rfl) rfl rfl (Y.qay rfl rfl rfl) ?_
        refine Jp.qae hK40 ?_
        refine Cd.qbs rfl ?_
        refine Cd.qen rfl hK34 ?_
        exact Cd.qce (hj7 () trivial) ⟨rfl,rfl,rfl,rfl,trivial⟩ ⟨rfl,trivial⟩
       try simp only [sG0] at g118
       refine Jp.q 119 rfl (qab rfl rfl rfl rfl) rfl rfl (Y.move rfl rfl) ?_
       refine Jp.q 120 rfl (qab rfl rfl rfl rfl) rfl rfl (Y.move rfl rfl) ?_
       have hkj : i2 ≤ k:=by omega
       have ck:=qed (b:=b) (n:=n) (c:=c) (d:=d) (i:=k) (by omega)
       refine Jp.q 121 rfl (qab rfl rfl rfl rfl) rfl rfl (Y.qag (q:=k) rfl rfl rfl underlying22 sizeOf24 (by omega) (by omega) (by omega)) ?_
       refine Jp.q 122 rfl (qab rfl rfl rfl rfl) rfl rfl (by exact Y.qas 0 rfl isAgg24 rfl rfl ck) ?_
       refine Jp.q 123 rfl (qab rfl rfl rfl rfl) rfl rfl (Y.move rfl rfl) ?_
       refine Jp.q 124 rfl (qab rfl rfl rfl rfl) rfl rfl (Y.move rfl rfl) ?_
       refine Jp.q 125 rfl (qab rfl rfl rfl rfl) rfl rfl (Y.qag (q:=a) rfl rfl rfl underlying22 sizeOf24 (by omega) (by omega) (by omega)) ?_
       refine Jp.q 126 rfl (qab rfl rfl rfl rfl) rfl rfl (by exact Y.qas 0 rfl isAgg24 rfl rfl ca) ?_
       refine Jp.call [] [] (qbw d[k]! d[a]!) 127 rfl (qab rfl rfl rfl rfl) rfl rfl (Runs.fn rfl call108 rfl) (by decide) (by decide) rfl trivial ?_
       rintro v7 ρ7 L7 ⟨rfl,rfl,rfl⟩
       refine ⟨rfl,fun hle7=>⟨(Kp.st ⟨rfl,trivial⟩),?_⟩⟩
       have hst : Go.Sort.scanDown (fun x=>!ltN x d[a]!) d i2 k = if (!ltN d[k]! d[a]!) = true then Go.Sort.scanDown (fun x=>!ltN x d[a]!) d i2 (k - 1) else k:=down_go (by omega) hkj
       refine Jp.q 128 rfl (qab rfl rfl rfl rfl) rfl rfl (Y.not rfl rfl) ?_
       refine Jp.q 129 rfl (qaa rfl) rfl rfl (Y.qav rfl rfl rfl) ?_
       refine Jp.qae hK40 ?_
       refine Cd.qaq rfl (fun gl=>?_) (fun gl=>?_)
       ·rw [gl,if_pos rfl] at hst
        refine Cd.qbp hK39 ?_
        refine Cd.block ?_
        refine Cd.qac [(0,false),(1,false),(2,false)] rfl rfl ?_
        refine Jp.y 130 rfl (qaa rfl) rfl rfl Kp.true (Y.move rfl rfl) ?_
        refine Jp.y 131 rfl (qaa rfl) rfl rfl Kp.true (Y.qcp rfl rfl rfl (by exact qaf (by omega) (by omega))) ?_
        refine Jp.y 11 rfl (qaa rfl) rfl rfl Kp.true (Y.assign rfl rfl) ?_
        rw [show (k : Int) - 1 = ((k - 1 : Nat) : Int) by omega]
        refine JpQ.again rfl hLk (k - 1) ⟨by rw [← hst,ow1],by omega⟩ (by omega) rfl ⟨rfl,rfl,rfl,rfl,trivial⟩ ⟨rfl,trivial⟩
       ·rw [gl,if_neg (by simp)] at hst
        have hkr : k = j2:=by rw [← ow1,hst]
        rw [hkr]
        refine Cd.qen rfl hK34 ?_
        exact Cd.qce (hj7 () trivial) ⟨rfl,rfl,rfl,rfl,trivial⟩ ⟨rfl,trivial⟩
     ·skip
      refine Cd.qcr (G:=Nat) (fun g=>Go.Sort.scanUp (fun x=>ltN x d[a]!) d j g = i2 ∧ a + 1 ≤ g) (fun g=>j + 1 - g) (fun _=>_) (fun g=>[(10,.int .i64 (g : Int))]) [(0,_),(1,_),(11,_)] (fun g=>[]) [(0,_)] i ⟨hqi.symm,by omega⟩ rfl ⟨rfl,trivial⟩ ⟨rfl,rfl,rfl,trivial⟩ trivial ⟨rfl,trivial⟩ (fun g KLk hok hLk=>?_)
      obtain ⟨k,hk⟩ : ∃ k,k = g:=⟨_,rfl⟩
      rw [← hk] at hok ⊢
      obtain ⟨ow1,ow2⟩:=hok
      refine Cd.seq fun K42 hK42=>?_
      refine Cd.seq fun K43 hK43=>?_
      refine Cd.drawn [(0,_)] ⟨rfl,trivial⟩ [(0,true),(1,true),(2,true),(3,true),(4,true),(5,true),(6,true),(7,true),(8,true),(9,true),(10,true),(11,true),(12,false),(13,true)] follows (by kernel_rfl) (fun hrl=>?_)
      refine Jp.q 99 rfl (qaa rfl) rfl rfl (Y.move rfl rfl) ?_
      refine Jp.q 100 rfl (qaa rfl) rfl rfl (Y.move rfl rfl) ?_
      refine Jp.q 101 rfl (qaa rfl) rfl rfl (Y.leq rfl rfl rfl) ?_
      refine Jp.q 102 rfl (qaa rfl) rfl rfl (Y.move rfl rfl) ?_
      refine Jp.qel 102 rfl (fun g102=>?_) (fun g102=>?_)
      ·skip
       simp only [decide_eq_false_iff_not] at g102
       have hst : Go.Sort.scanUp (fun x=>ltN x d[a]!) d j k = k:=up_end (by omega)
       have hkr : k = i2:=by rw [← ow1,hst]
       rw [hkr]
       refine Jp.qbb 103 rfl (qab rfl rfl rfl rfl) rfl rfl ?_
       refine Jp.qbb 104 rfl (qab rfl rfl rfl rfl) rfl rfl ?_
       refine Jp.qbb 105 rfl (qab rfl rfl rfl rfl) rfl rfl ?_
       refine Jp.qbb 106 rfl (qab rfl rfl rfl rfl) rfl rfl ?_
       refine Jp.qbb 107 rfl (qab rfl rfl rfl rfl) rfl rfl ?_
       refine Jp.qbb 108 rfl (qab rfl rfl rfl rfl) rfl rfl ?_
       refine Jp.qbb 109 rfl (qab rfl rfl rfl rfl) rfl rfl ?_
       refine Jp.qbb 110 rfl (qab rfl rfl rfl rfl) rfl rfl ?_
       refine Jp.qar 111 rfl (qab rfl rfl rfl rfl) rfl rfl (Kp.st ⟨rfl,trivial⟩) ?_
       refine Jp.q 112 rfl (qaa rfl) rfl rfl (Y.qay rfl rfl rfl) ?_
       refine Jp.qae hK43 ?_
       refine Cd.qbs rfl ?_
       refine Cd.qen rfl hK33 ?_
       exact Cd.qce (hj6 () trivial) ⟨rfl,rfl,rfl,rfl,trivial⟩ ⟨rfl,trivial⟩
      try simp only [sG0] at g102
      refine Jp.q 103 rfl (qab rfl rfl rfl rfl) rfl rfl (Y.move rfl rfl) ?_
      refine Jp.q 104 rfl (qab rfl rfl rfl rfl) rfl rfl (Y.move rfl rfl) ?_
      have hkj : k ≤ j:=by omega
      have ck:=qed (b:=b) (n:=n) (c:=c) (d:=d) (i:=k) (by omega)
      refine Jp.q 105 rfl (qab rfl rfl rfl rfl) rfl rfl (Y.qag (q:=k) rfl rfl rfl underlying22 sizeOf24 (by omega) (by omega) (by omega)) ?_
      refine Jp.q 106 rfl (qab rfl rfl rfl rfl) rfl rfl (by exact Y.qas 0 rfl isAgg24 rfl rfl ck) ?_
      refine Jp.q 107 rfl (qab rfl rfl rfl rfl) rfl rfl (Y.move rfl rfl) ?_
      refine Jp.q 108 rfl (qab rfl rfl rfl rfl) rfl rfl (Y.move rfl rfl) ?_
      refine Jp.q 109 rfl (qab rfl rfl rfl rfl) rfl rfl (Y.qag (q:=a) rfl rfl rfl underlying22 sizeOf24 (by omega) (by omega) (by omega)) ?_
      refine Jp.q 110 rfl (qab rfl rfl rfl rfl) rfl rfl (by exact Y.qas 0 rfl isAgg24 rfl rfl ca) ?_
      refine Jp.call [] [] (qbw d[k]! d[a]!) 111 rfl (qab rfl rfl rfl rfl) rfl rfl (Runs.fn rfl call108 rfl) (by decide) (by decide) rfl trivial ?_
      rintro v7 ρ7 L7 ⟨rfl,rfl,rfl⟩
      refine ⟨rfl,fun hle7=>⟨(Kp.st ⟨rfl,trivial⟩),?_⟩⟩
      have hst : Go.Sort.scanUp (fun x=>ltN x d[a]!) d j k = if (ltN d[k]! d[a]!) = true then Go.Sort.scanUp (fun x=>ltN x d[a]!) d j (k + 1) else k:=up_go hkj
      refine Jp.q 112 rfl (qaa rfl) rfl rfl (Y.qav rfl rfl rfl) ?_
      refine Jp.qae hK43 ?_
      refine Cd.qaq rfl (fun gl=>?_) (fun gl=>?_)
      ·rw [gl,if_pos rfl] at hst
       refine Cd.qbp hK42 ?_
       refine Cd.block ?_
       refine Cd.qac [(0,false),(1,false),(2,false)] rfl rfl ?_
       refine Jp.y 113 rfl (qaa rfl) rfl rfl Kp.true (Y.move rfl rfl) ?_
       refine Jp.y 114 rfl (qaa rfl) rfl rfl Kp.true (Y.qbq rfl rfl rfl (by exact qaf (by omega) (by omega))) ?_
       refine Jp.y 10 rfl (qaa rfl) rfl rfl Kp.true (Y.assign rfl rfl) ?_
       rw [show (k : Int) + 1 = ((k + 1 : Nat) : Int) by omega]
       refine JpQ.again rfl hLk (k + 1) ⟨by rw [← hst,ow1],by omega⟩ (by omega) rfl ⟨rfl,rfl,rfl,rfl,trivial⟩ ⟨rfl,trivial⟩
      ·rw [gl,if_neg (by simp)] at hst
       have hkr : k = i2:=by rw [← ow1,hst]
       rw [hkr]
       refine Cd.qen rfl hK33 ?_
       exact Cd.qce (hj6 () trivial) ⟨rfl,rfl,rfl,rfl,trivial⟩ ⟨rfl,trivial⟩
  ·skip
   refine Cd.qcr (G:=Nat) (fun g=>Go.Sort.scanDown (fun x=>!ltN x d[a]!) d i2 g = j2 ∧ g < n) (fun g=>g) (fun _=>_) (fun g=>[(11,.int .i64 (g : Int))]) [(0,_),(1,_),(10,_)] (fun g=>[]) [(0,_)] (e - 1) ⟨hqj.symm,by omega⟩ rfl ⟨rfl,trivial⟩ ⟨rfl,rfl,rfl,trivial⟩ trivial ⟨rfl,trivial⟩ (fun g KLk hok hLk=>?_)
   obtain ⟨k,hk⟩ : ∃ k,k = g:=⟨_,rfl⟩
   rw [← hk] at hok ⊢
   obtain ⟨ow1,ow2⟩:=hok
   refine Cd.seq fun K45 hK45=>?_
   refine Cd.seq fun K46 hK46=>?_
   refine Cd.drawn [(0,_)] ⟨rfl,trivial⟩ [(0,true),(1,true),(2,true),(3,true),(4,true),(5,true),(6,true),(7,true),(8,true),(9,true),(10,true),(11,true),(12,false),(13,true),(14,true)] follows (by kernel_rfl) (fun hrl=>?_)
   refine Jp.q 46 rfl (qaa rfl) rfl rfl (Y.move rfl rfl) ?_
   refine Jp.q 47 rfl (qaa rfl) rfl rfl (Y.move rfl rfl) ?_
   refine Jp.q 48 rfl (qaa rfl) rfl rfl (Y.leq rfl rfl rfl) ?_
   refine Jp.q 49 rfl (qaa rfl) rfl rfl (Y.move rfl rfl) ?_
   refine Jp.qel 49 rfl (fun g49=>?_) (fun g49=>?_)
   ·skip
    simp only [decide_eq_false_iff_not] at g49
    have hst : Go.Sort.scanDown (fun x=>!ltN x d[a]!) d i2 k = k:=down_end (by omega)
    have hkr : k = j2:=by rw [← ow1,hst]
    rw [hkr]
    refine Jp.qbb 50 rfl (qab rfl rfl rfl rfl) rfl rfl ?_
    refine Jp.qbb 51 rfl (qab rfl rfl rfl rfl) rfl rfl ?_
    refine Jp.qbb 52 rfl (qab rfl rfl rfl rfl) rfl rfl ?_
    refine Jp.qbb 53 rfl (qab rfl rfl rfl rfl) rfl rfl ?_
    refine Jp.qbb 54 rfl (qab rfl rfl rfl rfl) rfl rfl ?_
    refine Jp.qbb 55 rfl (qab rfl rfl rfl rfl) rfl rfl ?_
    refine Jp.qbb 56 rfl (qab rfl rfl rfl rfl) rfl rfl ?_
    refine Jp.qbb 57 rfl (qab rfl rfl rfl rfl) rfl rfl ?_
    refine Jp.qar 58 rfl (qab rfl rfl rfl rfl) rfl rfl (Kp.st ⟨rfl,trivial⟩) ?_
    refine Jp.qbb 59 rfl (qab rfl rfl rfl rfl) rfl rfl ?_
    refine Jp.q 60 rfl (qaa rfl) rfl rfl (Y.qay rfl rfl rfl) ?_
    refine Jp.qae hK46 ?_
    refine Cd.qbs rfl ?_
    refine Cd.qen rfl hK22 ?_
    exact Cd.qce (hj4 () trivial) ⟨rfl,rfl,rfl,rfl,trivial⟩ ⟨rfl,trivial⟩
   try simp only [sG0] at g49
   refine Jp.q 50 rfl (qab rfl rfl rfl rfl) rfl rfl (Y.move rfl rfl) ?_
   refine Jp.q 51 rfl (qab rfl rfl rfl rfl) rfl rfl (Y.move rfl rfl) ?_
   have hkj : i2 ≤ k:=by omega
   have ck:=qed (b:=b) (n:=n) (c:=c) (d:=d) (i:=k) (by omega)
   refine Jp.q 52 rfl (qab rfl rfl rfl rfl) rfl rfl (Y.qag (q:=k) rfl rfl rfl underlying22 sizeOf24 (by omega) (by omega) (by omega)) ?_
   refine Jp.q 53 rfl (qab rfl rfl rfl rfl) rfl rfl (by exact Y.qas 0 rfl isAgg24 rfl rfl ck) ?_
   refine Jp.q 54 rfl (qab rfl rfl rfl rfl) rfl rfl (Y.move rfl rfl) ?_
   refine Jp.q 55 rfl (qab rfl rfl rfl rfl) rfl rfl (Y.move rfl rfl) ?_
   refine Jp.q 56 rfl (qab rfl rfl rfl rfl) rfl rfl (Y.qag (q:=a) rfl rfl rfl underlying22 sizeOf24 (by omega) (by omega) (by omega)) ?_
   refine Jp.q 57 rfl (qab rfl rfl rfl rfl) rfl rfl (by exact Y.qas 0 rfl isAgg24 rfl rfl ca) ?_
   refine Jp.call [] [] (qbw d[k]! d[a]!) 58 rfl (qab rfl rfl rfl rfl) rfl rfl (Runs.fn rfl call108 rfl) (by decide) (by decide) rfl trivial ?_
   rintro v7 ρ7 L7 ⟨rfl,rfl,rfl⟩
   refine ⟨rfl,fun hle7=>⟨(Kp.st ⟨rfl,trivial⟩),?_⟩⟩
   have hst : Go.Sort.scanDown (fun x=>!ltN x d[a]!) d i2 k = if (!ltN d[k]! d[a]!) = true then Go.Sort.scanDown (fun x=>!ltN x d[a]!) d i2 (k - 1) else k:=down_go (by omega) hkj
   refine Jp.q 59 rfl (qab rfl rfl rfl rfl) rfl rfl (Y.not rfl rfl) ?_
   refine Jp.q 60 rfl (qaa rfl) rfl rfl (Y.qav rfl rfl rfl) ?_
   refine Jp.qae hK46 ?_
   refine Cd.qaq rfl (fun gl=>?_) (fun gl=>?_)
   ·rw [gl,if_pos rfl] at hst
    refine Cd.qbp hK45 ?_
    refine Cd.block ?_
    refine Cd.qac [(0,false),(1,false),(2,false)] rfl rfl ?_
    refine Jp.y 61 rfl (qaa rfl) rfl rfl Kp.true (Y.move rfl rfl) ?_
    refine Jp.y 62 rfl (qaa rfl) rfl rfl Kp.true (Y.qcp rfl rfl rfl (by exact qaf (by omega) (by omega))) ?_
    refine Jp.y 11 rfl (qaa rfl) rfl rfl Kp.true (Y.assign rfl rfl) ?_
    rw [show (k : Int) - 1 = ((k - 1 : Nat) : Int) by omega]
    refine JpQ.again rfl hLk (k - 1) ⟨by rw [← hst,ow1],by omega⟩ (by omega) rfl ⟨rfl,rfl,rfl,rfl,trivial⟩ ⟨rfl,trivial⟩
   ·rw [gl,if_neg (by simp)] at hst
    have hkr : k = j2:=by rw [← ow1,hst]
    rw [hkr]
    refine Cd.qen rfl hK22 ?_
    exact Cd.qce (hj4 () trivial) ⟨rfl,rfl,rfl,rfl,trivial⟩ ⟨rfl,trivial⟩
 ·skip
  refine Cd.qcr (G:=Nat) (fun g=>Go.Sort.scanUp (fun x=>ltN x d[a]!) d (e - 1) g = i2 ∧ a + 1 ≤ g) (fun g=>(e - 1) + 1 - g) (fun _=>_) (fun g=>[(10,.int .i64 (g : Int))]) [(0,_),(1,_),(11,_)] (fun g=>[]) [(0,_)] (a + 1) ⟨hqi.symm,by omega⟩ rfl ⟨rfl,trivial⟩ ⟨rfl,rfl,rfl,trivial⟩ trivial ⟨rfl,trivial⟩ (fun g KLk hok hLk=>?_)
  obtain ⟨k,hk⟩ : ∃ k,k = g:=⟨_,rfl⟩
  rw [← hk] at hok ⊢
  obtain ⟨ow1,ow2⟩:=hok
  refine Cd.seq fun K48 hK48=>?_
  refine Cd.seq fun K49 hK49=>?_
  refine Cd.drawn [(0,_)] ⟨rfl,trivial⟩ [(0,true),(1,true),(2,true),(3,true),(4,true),(5,true),(6,true),(7,true),(8,true),(9,true),(10,true),(11,true),(12,false),(13,true)] follows (by kernel_rfl) (fun hrl=>?_)
  refine Jp.q 30 rfl (qaa rfl) rfl rfl (Y.move rfl rfl) ?_
  refine Jp.q 31 rfl (qaa rfl) rfl rfl (Y.move rfl rfl) ?_
  refine Jp.q 32 rfl (qaa rfl) rfl rfl (Y.leq rfl rfl rfl) ?_
  refine Jp.q 33 rfl (qaa rfl) rfl rfl (Y.move rfl rfl) ?_
  refine Jp.qel 33 rfl (fun g33=>?_) (fun g33=>?_)
  ·skip
   simp only [decide_eq_false_iff_not] at g33
   have hst : Go.Sort.scanUp (fun x=>ltN x d[a]!) d (e - 1) k = k:=up_end (by omega)
   have hkr : k = i2:=by rw [← ow1,hst]
   rw [hkr]
   refine Jp.qbb 34 rfl (qab rfl rfl rfl rfl) rfl rfl ?_
   refine Jp.qbb 35 rfl (qab rfl rfl rfl rfl) rfl rfl ?_
   refine Jp.qbb 36 rfl (qab rfl rfl rfl rfl) rfl rfl ?_
   refine Jp.qbb 37 rfl (qab rfl rfl rfl rfl) rfl rfl ?_
   refine Jp.qbb 38 rfl (qab rfl rfl rfl rfl) rfl rfl ?_
   refine Jp.qbb 39 rfl (qab rfl rfl rfl rfl) rfl rfl ?_
   refine Jp.qbb 40 rfl (qab rfl rfl rfl rfl) rfl rfl ?_
   refine Jp.qbb 41 rfl (qab rfl rfl rfl rfl) rfl rfl ?_
   refine Jp.qar 42 rfl (qab rfl rfl rfl rfl) rfl rfl (Kp.st ⟨rfl,trivial⟩) ?_
   refine Jp.q 43 rfl (qaa rfl) rfl rfl (Y.qay rfl rfl rfl) ?_
   refine Jp.qae hK49 ?_
   refine Cd.qbs rfl ?_
   refine Cd.qen rfl hK21 ?_
   exact Cd.qce (hj3 () trivial) ⟨rfl,rfl,rfl,rfl,trivial⟩ ⟨rfl,trivial⟩
  try simp only [sG0] at g33
  refine Jp.q 34 rfl (qab rfl rfl rfl rfl) rfl rfl (Y.move rfl rfl) ?_
  refine Jp.q 35 rfl (qab rfl rfl rfl rfl) rfl rfl (Y.move rfl rfl) ?_
  have hkj : k ≤ (e - 1):=by omega
  have ck:=qed (b:=b) (n:=n) (c:=c) (d:=d) (i:=k) (by omega)
  refine Jp.q 36 rfl (qab rfl rfl rfl rfl) rfl rfl (Y.qag (q:=k) rfl rfl rfl underlying22 sizeOf24 (by omega) (by omega) (by omega)) ?_
  refine Jp.q 37 rfl (qab rfl rfl rfl rfl) rfl rfl (by exact Y.qas 0 rfl isAgg24 rfl rfl ck) ?_
  refine Jp.q 38 rfl (qab rfl rfl rfl rfl) rfl rfl (Y.move rfl rfl) ?_
  refine Jp.q 39 rfl (qab rfl rfl rfl rfl) rfl rfl (Y.move rfl rfl) ?_
  refine Jp.q 40 rfl (qab rfl rfl rfl rfl) rfl rfl (Y.qag (q:=a) rfl rfl rfl underlying22 sizeOf24 (by omega) (by omega) (by omega)) ?_
  refine Jp.q 41 rfl (qab rfl rfl rfl rfl) rfl rfl (by exact Y.qas 0 rfl isAgg24 rfl rfl ca) ?_
  refine Jp.call [] [] (qbw d[k]! d[a]!) 42 rfl (qab rfl rfl rfl rfl) rfl rfl (Runs.fn rfl call108 rfl) (by decide) (by decide) rfl trivial ?_
  rintro v7 ρ7 L7 ⟨rfl,rfl,rfl⟩
  refine ⟨rfl,fun hle7=>⟨(Kp.st ⟨rfl,trivial⟩),?_⟩⟩
  have hst : Go.Sort.scanUp (fun x=>ltN x d[a]!) d (e - 1) k = if (ltN d[k]! d[a]!) = true then Go.Sort.scanUp (fun x=>ltN x d[a]!) d (e - 1) (k + 1) else k:=up_go hkj
  refine Jp.q 43 rfl (qaa rfl) rfl rfl (Y.qav rfl rfl rfl) ?_
  refine Jp.qae hK49 ?_
  refine Cd.qaq rfl (fun gl=>?_) (fun gl=>?_)
  ·rw [gl,if_pos rfl] at hst
   refine Cd.qbp hK48 ?_
   refine Cd.block ?_
   refine Cd.qac [(0,false),(1,false),(2,false)] rfl rfl ?_
   refine Jp.y 44 rfl (qaa rfl) rfl rfl Kp.true (Y.move rfl rfl) ?_
   refine Jp.y 45 rfl (qaa rfl) rfl rfl Kp.true (Y.qbq rfl rfl rfl (by exact qaf (by omega) (by omega))) ?_
   refine Jp.y 10 rfl (qaa rfl) rfl rfl Kp.true (Y.assign rfl rfl) ?_
   rw [show (k : Int) + 1 = ((k + 1 : Nat) : Int) by omega]
   refine JpQ.again rfl hLk (k + 1) ⟨by rw [← hst,ow1],by omega⟩ (by omega) rfl ⟨rfl,rfl,rfl,rfl,trivial⟩ ⟨rfl,trivial⟩
  ·rw [gl,if_neg (by simp)] at hst
   have hkr : k = i2:=by rw [← ow1,hst]
   rw [hkr]
   refine Cd.qen rfl hK21 ?_
   exact Cd.qce (hj3 () trivial) ⟨rfl,rfl,rfl,rfl,trivial⟩ ⟨rfl,trivial⟩
end Go.Proofs.YtnfkalpgidiafaaGreat
set_option linter.unusedVariables false
set_option linter.unusedSimpArgs false
set_option maxRecDepth 100000
namespace Go.Proofs.YtnfkalpgidiafaaGreat
open _root_.Go.Proofs.Tryz
open Go
def PdqOk (n a e : Nat) (d0 : Array Nat) (a1 e1 l1 : Nat) (d : Array Nat) : Prop:=a1 ≤ e1 ∧ e1 ≤ n ∧ e1 - a1 ≤ e - a ∧ l1 ≤ 64 ∧ d.size = n ∧ Go.Sort.Below ltN a1 e1 d ∧ ∀ R,Go.Sort.PermIn a1 e1 d R → Go.Sort.SortedIn ltN a1 e1 R → Go.Sort.PermIn a e d0 R ∧ Go.Sort.SortedIn ltN a e R
theorem PdqOk.step {n a e : Nat} {d0 : Array Nat} {a1 e1 l1 l2 : Nat} {d d1 : Array Nat} (h : PdqOk n a e d0 a1 e1 l1 d) (hp : Go.Sort.PermIn a1 e1 d d1) (hl : l2 ≤ 64) : PdqOk n a e d0 a1 e1 l2 d1:=by
 obtain ⟨h1,h2,h3,h4,h5,h6,h7⟩:=h
 exact ⟨h1,h2,h3,hl,by rw [hp.1]; exact h5,h6.perm (by omega) hp,fun R hR hs=>h7 R (Go.Sort.permIn_trans _ _ _ _ _ hp hR) hs⟩
theorem PdqOk.eqs {n a e : Nat} {d0 : Array Nat} {a1 e1 l1 : Nat} {d : Array Nat} (h : PdqOk n a e d0 a1 e1 l1 d) {p : Nat} (ha0 : 0 < a1) (hp1 : a1 ≤ p) (hp2 : p < e1) (hnl : ltN d[a1 - 1]! d[p]! = false) {T : Nat × Array Nat} (hT : Go.Sort.partitionEqual ltN d a1 e1 p = T) :
  a1 < T.1 ∧ PdqOk n a e d0 T.1 e1 l1 T.2:=by
 obtain ⟨h1,h2,h3,h4,h5,h6,h7⟩:=h
 obtain ⟨m,d4⟩:=T
 obtain ⟨q1,q2,q3,q4,q5⟩:=Go.Sort.round_eq swoN (Go.Sort.partitionEqual_holds ltN) ha0 hp1 hp2 (by omega) h6 hnl hT
 refine ⟨q1,q2,h2,by show e1 - m ≤ e - a; omega,h4,by rw [q3]; exact h5,q4,fun R hR hs=>?_⟩
 obtain ⟨r1,r2⟩:=q5 R hR hs
 exact h7 R r1 r2
theorem PdqOk.parts {n a e : Nat} {d0 : Array Nat} {a1 e1 l1 : Nat} {d : Array Nat} (h : PdqOk n a e d0 a1 e1 l1 d) {p : Nat} (hp1 : a1 ≤ p) (hp2 : p < e1) {T : Nat × Bool × Array Nat} (hT : Go.Sort.partition ltN d a1 e1 p = T) :
  a1 ≤ T.1 ∧ T.1 < e1 ∧ T.2.2.size = n ∧ Go.Sort.Below ltN a1 T.1 T.2.2 ∧ Go.Sort.Below ltN (T.1 + 1) e1 T.2.2 ∧
  (∀ L,Go.Sort.PermIn a1 T.1 T.2.2 L → Go.Sort.SortedIn ltN a1 T.1 L → PdqOk n a e d0 (T.1 + 1) e1 l1 L) ∧
  (∀ L,Go.Sort.PermIn (T.1 + 1) e1 T.2.2 L → Go.Sort.SortedIn ltN (T.1 + 1) e1 L → PdqOk n a e d0 a1 T.1 l1 L):=by
 obtain ⟨h1,h2,h3,h4,h5,h6,h7⟩:=h
 obtain ⟨m,ap,d4⟩:=T
 obtain ⟨q1,q2,q3,q4,q5,q6,q7⟩:=Go.Sort.round_part swoN (Go.Sort.partition_holds ltN) hp1 hp2 (by omega) h6 hT
 refine ⟨q1,q2,by rw [q3]; exact h5,q4,q5,fun L hL hs=>?_,fun L hL hs=>?_⟩
 ·obtain ⟨r1,r2⟩:=q6 L hL hs
  refine ⟨by omega,h2,by omega,h4,by rw [hL.1,q3]; exact h5,r1,fun R hR hs=>?_⟩
  obtain ⟨s1,s2⟩:=r2 R hR hs
  exact h7 R s1 s2
 ·obtain ⟨r1,r2⟩:=q7 L hL hs
  refine ⟨q1,by show m ≤ n; omega,by show m - a1 ≤ e - a; omega,h4,by rw [hL.1,q3]; exact h5,r1,fun R hR hs=>?_⟩
  obtain ⟨s1,s2⟩:=r2 R hR hs
  exact h7 R s1 s2
theorem pdq_spec : ∀ (m : Nat) (A : Option Addr) (n c : Nat) (d0 : Array Nat) (a e lim : Nat),e - a ≤ m → d0.size = n → a ≤ e → e ≤ n → n ≤ 4096 → lim ≤ 64 → Go.Sort.Below ltN a e d0 → Spec Tryz.prog 86 #[.slice A n c,.int .i64 a,.int .i64 e,.int .i64 lim] (fun _=>True) [(0,qdp A n c d0)]
  (fun ρ ρ' v L=>ρ' = ρ ∧ v = .tuple #[] ∧ ∃ R : Array Nat,Go.Sort.PermIn a e d0 R ∧ Go.Sort.SortedIn ltN a e R ∧ L = [(0,qdp A n c R)]):=by
 intro m
 induction m using Nat.strongRecOn with
 | _ m ih =>
 intro A n c d0 a e lim hm hd hae hen hn hlim hB
 refine Spec.of 134 Tryz.func86 rfl Tryz.ntmps86 [(0,_),(1,_),(2,_),(3,_)] rfl rfl ?_
 intro cx ρ hr h0
 refine Cd.seq fun K1 hK1=>?_
 refine Cd.qac [(0,false)] rfl rfl ?_
 refine Jp.y 8 rfl (qaa rfl) rfl rfl Kp.true (Y.assign rfl rfl) ?_
 refine Jp.qae hK1 ?_
 refine Cd.seq fun K2 hK2=>?_
 refine Cd.qac [(0,false)] rfl rfl ?_
 refine Jp.y 9 rfl (qaa rfl) rfl rfl Kp.true (Y.assign rfl rfl) ?_
 refine Jp.qae hK2 ?_
 refine Cd.block ?_
 refine Cd.qcr (G:=Nat × Nat × Nat × Bool × Bool × Array Nat) (fun g=>PdqOk n a e d0 g.1 g.2.1 g.2.2.1 g.2.2.2.2.2) (fun g=>g.2.1 - g.1) (fun _=>_) (fun g=>[(1,.int .i64 (g.1 : Int)),(2,.int .i64 (g.2.1 : Int)),(3,.int .i64 (g.2.2.1 : Int)),(8,.bool g.2.2.2.1),(9,.bool g.2.2.2.2.1)]) [(0,_)] (fun g=>[(0,qdp A n c g.2.2.2.2.2)]) [] ⟨a,e,lim,true,true,d0⟩ ⟨hae,hen,Nat.le_refl _,hlim,hd,hB,fun R h1 h2=>⟨h1,h2⟩⟩ rfl ⟨rfl,rfl,rfl,rfl,rfl,trivial⟩ ⟨rfl,trivial⟩ ⟨rfl,trivial⟩ trivial (fun g KLa hok hLa=>?_)
 obtain ⟨a1,e1,l1,wb,wp,d⟩:=g
 dsimp only at hok ⊢
 obtain ⟨o1,o2,o3,o4,o5,o6,o7⟩:=id hok
 refine Cd.block ?_
 refine Cd.seq fun K3 hK3=>?_
 refine Cd.qac [(0,false),(1,false),(2,false),(3,false)] rfl rfl ?_
 refine Jp.y 19 rfl (qaa rfl) rfl rfl Kp.true (Y.move rfl rfl) ?_
 refine Jp.y 20 rfl (qaa rfl) rfl rfl Kp.true (Y.move rfl rfl) ?_
 refine Jp.y 21 rfl (qaa rfl) rfl rfl Kp.true (Y.qcp rfl rfl rfl (by exact qaf (by omega) (by omega))) ?_
 refine Jp.y 10 rfl (qaa rfl) rfl rfl Kp.true (Y.assign rfl rfl) ?_
 refine Jp.qae hK3 ?_
 refine Cd.seq fun K4 hK4=>?_
 refine Cd.seq fun K5 hK5=>?_
 refine Cd.qac [(0,false),(1,false)] rfl rfl ?_
 refine Jp.y 22 rfl (qaa rfl) rfl rfl Kp.true (Y.move rfl rfl) ?_
 refine Jp.y 23 rfl (qaa rfl) rfl rfl Kp.true (Y.leq rfl rfl rfl) ?_
 refine Jp.qae hK5 ?_
 refine Cd.slot 10 rfl (show _ = Value.int .i64 ((e1 - a1 : Nat) : Int) from congrArg (Value.int .i64) (by omega)) ?_
 refine Cd.qaq rfl (fun ga=>?_) (fun ga=>?_)
 ·skip
  refine Cd.seq fun K6 hK6=>?_
  refine Cd.qac [(0,false),(1,false),(2,false),(3,false)] rfl rfl ?_
  refine Jp.y 24 rfl (qaa rfl) rfl rfl Kp.true (Y.move rfl rfl) ?_
  refine Jp.y 25 rfl (qaa rfl) rfl rfl Kp.true (Y.move rfl rfl) ?_
  refine Jp.y 26 rfl (qaa rfl) rfl rfl Kp.true (Y.move rfl rfl) ?_
  refine Jp.call [0] [0] (insSort_spec A n c d a1 e1 o5 o1 o2 hn) 27 rfl (qaa rfl) rfl rfl (Runs.fn rfl call102 rfl) (by decide) (by decide) rfl trivial ?_
  rintro v1 ρ1 L1 ⟨rfl,rfl,rfl⟩
  refine ⟨rfl,fun hle1=>⟨Kp.true,?_⟩⟩
  refine Jp.qae hK6 ?_
  obtain ⟨p1,p2⟩:=Go.Sort.insertionSort_holds swoN d a1 e1 o1 (by omega)
  obtain ⟨p3,p4⟩:=o7 _ p1 p2
  refine Cd.ret [(0,_)] rfl (res0 rfl) ⟨rfl,trivial⟩ ⟨rfl,rfl,_,p3,p4,rfl⟩
 ·simp only [decide_eq_false_iff_not] at ga
  refine Cd.qbp hK4 ?_
  refine Cd.seq fun K7 hK7=>?_
  refine Cd.seq fun K8 hK8=>?_
  refine Cd.qac [(0,false),(1,false)] rfl rfl ?_
  refine Jp.y 28 rfl (qaa rfl) rfl rfl Kp.true (Y.move rfl rfl) ?_
  refine Jp.y 29 rfl (qaa rfl) rfl rfl Kp.true (Y.eql rfl rfl rfl) ?_
  refine Jp.qae hK8 ?_
  refine Cd.qaq rfl (fun gb=>?_) (fun gb=>?_)
  ·skip
   refine Cd.seq fun K9 hK9=>?_
   refine Cd.qac [(0,false),(1,false),(2,false),(3,false)] rfl rfl ?_
   refine Jp.y 30 rfl (qaa rfl) rfl rfl Kp.true (Y.move rfl rfl) ?_
   refine Jp.y 31 rfl (qaa rfl) rfl rfl Kp.true (Y.move rfl rfl) ?_
   refine Jp.y 32 rfl (qaa rfl) rfl rfl Kp.true (Y.move rfl rfl) ?_
   refine Jp.call [0] [0] (heap_spec A n c d a1 e1 o5 (by omega) o2 hn) 33 rfl (qaa rfl) rfl rfl (Runs.fn rfl call103 rfl) (by decide) (by decide) rfl trivial ?_
   rintro v2 ρ2 L2 ⟨rfl,rfl,rfl⟩
   refine ⟨rfl,fun hle2=>⟨Kp.true,?_⟩⟩
   refine Jp.qae hK9 ?_
   obtain ⟨p1,p2⟩:=Go.Sort.heapSort_holds swoN d a1 e1 o1 (by omega)
   obtain ⟨p3,p4⟩:=o7 _ p1 p2
   refine Cd.ret [(0,_)] rfl (res0 rfl) ⟨rfl,trivial⟩ ⟨rfl,rfl,_,p3,p4,rfl⟩
  ·have hl0 : ¬ l1 = 0:=by
    have : ¬ (l1 : Int) = 0:=by simpa using gb
    omega
   refine Cd.qbp hK7 ?_
   refine Cd.seq fun K10 hK10=>?_
   refine Cd.seq fun K11 hK11=>?_
   refine Cd.qac [(0,false),(1,false)] rfl rfl ?_
   refine Jp.y 34 rfl (qaa rfl) rfl rfl Kp.true (Y.move rfl rfl) ?_
   refine Jp.y 35 rfl (qaa rfl) rfl rfl Kp.true (Y.not rfl rfl) ?_
   refine Jp.qae hK11 ?_
   refine Cd.qdo (G:=Nat × Array Nat) (fun y=>PdqOk n a e d0 a1 e1 y.1 y.2) (fun y=>[(3,.int .i64 (y.1 : Int))]) [(0,_),(1,_),(2,_),(8,_),(9,_),(10,_)] ⟨rfl,rfl,rfl,rfl,rfl,rfl,trivial⟩ (fun y=>[(0,qdp A n c y.2)]) [] trivial hK10 (fun g hφ=>?_) (fun hj1=>?_)
   ·clear o4 o5 o6 o7 hok hl0 gb
    obtain ⟨l2,d1⟩:=g
    dsimp only at hφ ⊢
    obtain ⟨o1,o2,o3,o4,o5,o6,o7⟩:=id hφ
    refine Cd.seq fun K12 hK12=>?_
    refine Cd.qac [(0,false),(1,false),(2,false),(3,false),(4,false),(5,false),(6,false),(7,false),(8,false)] rfl rfl ?_
    refine Jp.y 43 rfl (qaa rfl) rfl rfl Kp.true (Y.move rfl rfl) ?_
    refine Jp.y 44 rfl (qaa rfl) rfl rfl Kp.true (Y.move rfl rfl) ?_
    refine Jp.y 45 rfl (qaa rfl) rfl rfl Kp.true (Y.move rfl rfl) ?_
    refine Jp.call [0] [0] (choose_spec A n c d1 a1 e1 o5 (by omega) o2 hn) 46 rfl (qaa rfl) rfl rfl (Runs.fn rfl call105 rfl) (by decide) (by decide) rfl trivial ?_
    rintro v3 ρ3 L3 ⟨rfl,p,h,hp1,hp2,rfl,rfl⟩
    refine ⟨rfl,fun hle3=>⟨Kp.true,?_⟩⟩
    refine Jp.y 42 rfl (qaa rfl) rfl rfl Kp.true (Y.move rfl rfl) ?_
    refine Jp.y 47 rfl (qaa rfl) rfl rfl Kp.true (Y.extract rfl rfl rfl) ?_
    refine Jp.y 48 rfl (qaa rfl) rfl rfl Kp.true (Y.extract rfl rfl rfl) ?_
    refine Jp.y 11 rfl (qaa rfl) rfl rfl Kp.true (Y.assign rfl rfl) ?_
    refine Jp.y 12 rfl (qaa rfl) rfl rfl Kp.true (Y.assign rfl rfl) ?_
    refine Jp.qae hK12 ?_
    refine Cd.seq fun K13 hK13=>?_
    refine Cd.seq fun K14 hK14=>?_
    refine Cd.qac [(0,false),(1,false)] rfl rfl ?_
    refine Jp.y 49 rfl (qaa rfl) rfl rfl Kp.true (Y.move rfl rfl) ?_
    refine Jp.y 50 rfl (qaa rfl) rfl rfl Kp.true (Y.eql rfl rfl rfl) ?_
    refine Jp.qae hK14 ?_
    refine Cd.qdo (G:=Nat × Int × Array Nat) (fun y=>PdqOk n a e d0 a1 e1 l2 y.2.2 ∧ a1 ≤ y.1 ∧ y.1 < e1) (fun y=>[(11,.int .i64 (y.1 : Int)),(12,.int .i64 y.2.1)]) [(0,_),(1,_),(2,_),(3,_),(8,_),(9,_),(10,_)] ⟨rfl,rfl,rfl,rfl,rfl,rfl,rfl,trivial⟩ (fun y=>[(0,qdp A n c y.2.2)]) [] trivial hK13 (fun g hφ=>?_) (fun hj2=>?_)
    ·clear o4 o5 o6 o7 hp1 hp2
     obtain ⟨p2,h2,d2⟩:=g
     dsimp only at hφ ⊢
     rename_i hφ1
     obtain ⟨hφ2,hp1,hp2⟩:=hφ
     clear hφ1
     obtain ⟨o1,o2,o3,o4,o5,o6,o7⟩:=id hφ2
     refine Cd.seq fun K15 hK15=>?_
     refine Cd.seq fun K16 hK16=>?_
     refine Cd.qac [(0,false),(1,false),(2,false),(3,false),(4,false),(5,false),(6,false),(7,false)] rfl rfl ?_
     refine Jp.y 61 rfl (qaa rfl) rfl rfl Kp.true (Y.move rfl rfl) ?_
     refine Jp.y 62 rfl (qaa rfl) rfl rfl Kp.true (Y.move rfl rfl) ?_
     refine Jp.joinG (G:=Array Nat) (fun y=>PdqOk n a e d0 a1 e1 l2 y) (fun y=>[]) [(0,_),(1,_),(2,_),(3,_),(8,_),(9,_),(10,_),(11,_)] ⟨rfl,rfl,rfl,rfl,rfl,rfl,rfl,rfl,trivial⟩ (fun y=>[(0,qdp A n c y)]) [] trivial hK15 (fun g hφ=>?_) (fun hj3=>?_)
     ·obtain ⟨d3,hd3⟩ : ∃ d3,d3 = g:=⟨_,rfl⟩
      rw [← hd3] at hφ ⊢
      clear hd3 o4 o5 o6 o7 hφ2
      obtain ⟨o1,o2,o3,o4,o5,o6,o7⟩:=id hφ
      have hok3:=hφ
      refine Cd.ownAt 0 rfl (show 0 < n by omega) ?_
      rintro b rfl
      refine Cd.seq fun K17 hK17=>?_
      refine Cd.seq fun K18 hK18=>?_
      refine Cd.drawn [(0,_)] ⟨rfl,trivial⟩ [(0,true),(1,true),(2,true),(3,true),(4,true),(5,true),(6,true),(7,true),(8,true),(9,true),(10,true),(11,true),(12,false),(13,true),(14,true)] follows (by kernel_rfl) (fun hrl=>?_)
      refine Jp.q 73 rfl (qaa rfl) rfl rfl (Y.move rfl rfl) ?_
      refine Jp.q 74 rfl (qaa rfl) rfl rfl (Y.gtr rfl rfl rfl) ?_
      refine Jp.q 75 rfl (qaa rfl) rfl rfl (Y.move rfl rfl) ?_
      refine Jp.joinG (G:=Unit) (fun y=>True) (fun y=>[]) [(0,_),(1,_),(2,_),(3,_),(10,_),(11,_)] ⟨rfl,rfl,rfl,rfl,rfl,rfl,trivial⟩ (fun y=>[]) [(0,_)] ⟨rfl,trivial⟩ hK17 (fun g hφ=>?_) (fun hj4=>?_)
      ·skip
       obtain ⟨T,hT⟩ : ∃ T,Go.Sort.partition ltN d3 a1 e1 p2 = T:=⟨_,rfl⟩
       have hps:=part_spec (some ⟨b,0,none⟩) n c d3 a1 e1 p2 o5 hp1 hp2 o2 hn
       rw [hT] at hps
       obtain ⟨t1,t2,t3,t4,t5,t6,t7⟩:=PdqOk.parts hok3 hp1 hp2 hT
       refine Cd.seq fun K20 hK20=>?_
       refine Cd.qac [(0,false),(1,false),(2,false),(3,false),(4,false),(5,false),(6,false),(7,false),(8,false),(9,false)] rfl rfl ?_
       refine Jp.y 95 rfl (qaa rfl) rfl rfl Kp.true (Y.move rfl rfl) ?_
       refine Jp.y 96 rfl (qaa rfl) rfl rfl Kp.true (Y.move rfl rfl) ?_
       refine Jp.y 97 rfl (qaa rfl) rfl rfl Kp.true (Y.move rfl rfl) ?_
       refine Jp.y 98 rfl (qaa rfl) rfl rfl Kp.true (Y.move rfl rfl) ?_
       refine Jp.call [0] [0] (hps) 99 rfl (qaa rfl) rfl rfl (Runs.fn rfl call110 rfl) (by decide) (by decide) rfl trivial ?_
       rintro v8 ρ8 L8 ⟨rfl,rfl,rfl⟩
       refine ⟨rfl,fun hle8=>⟨Kp.true,?_⟩⟩
       refine Jp.y 94 rfl (qaa rfl) rfl rfl Kp.true (Y.move rfl rfl) ?_
       refine Jp.y 100 rfl (qaa rfl) rfl rfl Kp.true (Y.extract rfl rfl rfl) ?_
       refine Jp.y 101 rfl (qaa rfl) rfl rfl Kp.true (Y.extract rfl rfl rfl) ?_
       refine Jp.y 14 rfl (qaa rfl) rfl rfl Kp.true (Y.assign rfl rfl) ?_
       refine Jp.y 15 rfl (qaa rfl) rfl rfl Kp.true (Y.assign rfl rfl) ?_
       refine Jp.qae hK20 ?_
       refine Cd.seq fun K21 hK21=>?_
       refine Cd.qac [(0,false),(1,false)] rfl rfl ?_
       refine Jp.y 102 rfl (qaa rfl) rfl rfl Kp.true (Y.move rfl rfl) ?_
       refine Jp.y 9 rfl (qaa rfl) rfl rfl Kp.true (Y.assign rfl rfl) ?_
       refine Jp.qae hK21 ?_
       refine Cd.seq fun K22 hK22=>?_
       refine Cd.qac [(0,false),(1,false),(2,false),(3,false),(4,false),(5,false),(6,false),(7,false)] rfl rfl ?_
       refine Jp.y 103 rfl (qaa rfl) rfl rfl Kp.true (Y.move rfl rfl) ?_
       refine Jp.y 104 rfl (qaa rfl) rfl rfl Kp.true (Y.move rfl rfl) ?_
       refine Jp.y 105 rfl (qaa rfl) rfl rfl Kp.true (Y.qcp rfl rfl rfl (by exact qaf (by omega) (by omega))) ?_
       refine Jp.y 106 rfl (qaa rfl) rfl rfl Kp.true (Y.move rfl rfl) ?_
       refine Jp.y 107 rfl (qaa rfl) rfl rfl Kp.true (Y.move rfl rfl) ?_
       refine Jp.y 108 rfl (qaa rfl) rfl rfl Kp.true (Y.qcp rfl rfl rfl (by exact qaf (by omega) (by omega))) ?_
       refine Jp.y 16 rfl (qaa rfl) rfl rfl Kp.true (Y.assign rfl rfl) ?_
       refine Jp.y 17 rfl (qaa rfl) rfl rfl Kp.true (Y.assign rfl rfl) ?_
       refine Jp.qae hK22 ?_
       refine Cd.seq fun K23 hK23=>?_
       refine Cd.qac [(0,false),(1,false),(2,false)] rfl rfl ?_
       refine Jp.slot 16 rfl (show _ = Value.int .i64 ((T.1 - a1 : Nat) : Int) from congrArg (Value.int .i64) (by omega)) ?_
       refine Jp.slot 17 rfl (show _ = Value.int .i64 ((e1 - T.1 : Nat) : Int) from congrArg (Value.int .i64) (by omega)) ?_
       refine Jp.y 109 rfl (qaa rfl) rfl rfl Kp.true (Y.move rfl rfl) ?_
       refine Jp.y 110 rfl (qaa rfl) rfl rfl Kp.true (by exact Y.quoN rfl rfl rfl (by omega) (by omega) (qaf (by omega) (by omega))) ?_
       refine Jp.y 18 rfl (qaa rfl) rfl rfl Kp.true (Y.assign rfl rfl) ?_
       refine Jp.qae hK23 ?_
       refine Cd.seq fun K24 hK24=>?_
       refine Cd.qac [(0,false),(1,false),(2,false)] rfl rfl ?_
       refine Jp.y 111 rfl (qaa rfl) rfl rfl Kp.true (Y.move rfl rfl) ?_
       refine Jp.y 112 rfl (qaa rfl) rfl rfl Kp.true (Y.move rfl rfl) ?_
       refine Jp.y 113 rfl (qaa rfl) rfl rfl Kp.true (Y.lss rfl rfl rfl) ?_
       refine Jp.qae hK24 ?_
       refine Cd.qaq rfl (fun gl=>?_) (fun gl=>?_)
       ·skip
        refine Cd.seq fun K25 hK25=>?_
        refine Cd.qac [(0,false),(1,false),(2,false),(3,false)] rfl rfl ?_
        refine Jp.y 114 rfl (qaa rfl) rfl rfl Kp.true (Y.move rfl rfl) ?_
        refine Jp.y 115 rfl (qaa rfl) rfl rfl Kp.true (Y.move rfl rfl) ?_
        refine Jp.y 116 rfl (qaa rfl) rfl rfl Kp.true (Y.geq rfl rfl rfl) ?_
        refine Jp.y 8 rfl (qaa rfl) rfl rfl Kp.true (Y.assign rfl rfl) ?_
        refine Jp.qae hK25 ?_
        refine Cd.seq fun K26 hK26=>?_
        refine Cd.qac [(0,false),(1,false),(2,false),(3,false),(4,false)] rfl rfl ?_
        refine Jp.y 117 rfl (qaa rfl) rfl rfl Kp.true (Y.move rfl rfl) ?_
        refine Jp.y 118 rfl (qaa rfl) rfl rfl Kp.true (Y.move rfl rfl) ?_
        refine Jp.y 119 rfl (qaa rfl) rfl rfl Kp.true (Y.move rfl rfl) ?_
        refine Jp.y 120 rfl (qaa rfl) rfl rfl Kp.true (Y.move rfl rfl) ?_
        refine Jp.call [0] [0] (ih (T.1 - a1) (by omega) _ n c T.2.2 a1 T.1 l2 (Nat.le_refl _) t3 t1 (by omega) hn o4 t4) 121 rfl (qaa rfl) rfl rfl (Runs.fn rfl call86 rfl) (by decide) (by decide) rfl trivial ?_
        rintro v9 ρ9 L9 ⟨rfl,rfl,R,r1,r2,rfl⟩
        refine ⟨rfl,fun hle9=>⟨Kp.true,?_⟩⟩
        refine Jp.qae hK26 ?_
        refine Cd.qac [(0,false),(1,false),(2,false)] rfl rfl ?_
        refine Jp.y 122 rfl (qaa rfl) rfl rfl Kp.true (Y.move rfl rfl) ?_
        refine Jp.y 123 rfl (qaa rfl) rfl rfl Kp.true (Y.qbq rfl rfl rfl (by exact qaf (by omega) (by omega))) ?_
        refine Jp.y 1 rfl (qaa rfl) rfl rfl Kp.true (Y.assign rfl rfl) ?_
        refine Jp.slot 1 rfl (show _ = Value.int .i64 ((T.1 + 1 : Nat) : Int) from congrArg (Value.int .i64) (by omega)) ?_
        refine JpQ.again rfl hLa ⟨T.1 + 1,e1,l2,_,T.2.1,R⟩ (t6 R r1 r2) (by show e1 - (T.1 + 1) < e1 - a1; omega) rfl ⟨rfl,rfl,rfl,rfl,rfl,rfl,trivial⟩ ⟨rfl,trivial⟩
       ·skip
        refine Cd.seq fun K27 hK27=>?_
        refine Cd.qac [(0,false),(1,false),(2,false),(3,false)] rfl rfl ?_
        refine Jp.y 124 rfl (qaa rfl) rfl rfl Kp.true (Y.move rfl rfl) ?_
        refine Jp.y 125 rfl (qaa rfl) rfl rfl Kp.true (Y.move rfl rfl) ?_
        refine Jp.y 126 rfl (qaa rfl) rfl rfl Kp.true (Y.geq rfl rfl rfl) ?_
        refine Jp.y 8 rfl (qaa rfl) rfl rfl Kp.true (Y.assign rfl rfl) ?_
        refine Jp.qae hK27 ?_
        refine Cd.seq fun K28 hK28=>?_
        refine Cd.qac [(0,false),(1,false),(2,false),(3,false),(4,false),(5,false)] rfl rfl ?_
        refine Jp.y 127 rfl (qaa rfl) rfl rfl Kp.true (Y.move rfl rfl) ?_
        refine Jp.y 128 rfl (qaa rfl) rfl rfl Kp.true (Y.move rfl rfl) ?_
        refine Jp.y 129 rfl (qaa rfl) rfl rfl Kp.true (Y.qbq rfl rfl rfl (by exact qaf (by omega) (by omega))) ?_
        refine Jp.y 130 rfl (qaa rfl) rfl rfl Kp.true (Y.move rfl rfl) ?_
        refine Jp.y 131 rfl (qaa rfl) rfl rfl Kp.true (Y.move rfl rfl) ?_
        refine Jp.call [0] [0] (ih (e1 - (T.1 + 1)) (by omega) _ n c T.2.2 (T.1 + 1) e1 l2 (Nat.le_refl _) t3 (by omega) o2 hn o4 t5) 132 rfl (qaa rfl) rfl rfl (Runs.fn rfl call86 rfl) (by decide) (by decide) rfl trivial ?_
        rintro v10 ρ10 L10 ⟨rfl,rfl,R,r1,r2,rfl⟩
        refine ⟨rfl,fun hle10=>⟨Kp.true,?_⟩⟩
        refine Jp.qae hK28 ?_
        refine Cd.qac [(0,false),(1,false)] rfl rfl ?_
        refine Jp.y 133 rfl (qaa rfl) rfl rfl Kp.true (Y.move rfl rfl) ?_
        refine Jp.y 2 rfl (qaa rfl) rfl rfl Kp.true (Y.assign rfl rfl) ?_
        refine JpQ.again rfl hLa ⟨a1,T.1,l2,_,T.2.1,R⟩ (t7 R r1 r2) (by show T.1 - a1 < e1 - a1; omega) rfl ⟨rfl,rfl,rfl,rfl,rfl,rfl,trivial⟩ ⟨rfl,trivial⟩
      ·skip
       refine Jp.qel 75 rfl (fun g75=>?_) (fun g75=>?_)
       ·skip
        refine Jp.qbb 76 rfl (qab rfl rfl rfl rfl) rfl rfl ?_
        refine Jp.qbb 77 rfl (qab rfl rfl rfl rfl) rfl rfl ?_
        refine Jp.qbb 78 rfl (qab rfl rfl rfl rfl) rfl rfl ?_
        refine Jp.qbb 79 rfl (qab rfl rfl rfl rfl) rfl rfl ?_
        refine Jp.qbb 80 rfl (qab rfl rfl rfl rfl) rfl rfl ?_
        refine Jp.qbb 81 rfl (qab rfl rfl rfl rfl) rfl rfl ?_
        refine Jp.qbb 82 rfl (qab rfl rfl rfl rfl) rfl rfl ?_
        refine Jp.qbb 83 rfl (qab rfl rfl rfl rfl) rfl rfl ?_
        refine Jp.qbb 84 rfl (qab rfl rfl rfl rfl) rfl rfl ?_
        refine Jp.qar 85 rfl (qab rfl rfl rfl rfl) rfl rfl (Kp.st ⟨rfl,trivial⟩) ?_
        refine Jp.qbb 86 rfl (qab rfl rfl rfl rfl) rfl rfl ?_
        refine Jp.q 87 rfl (qaa rfl) rfl rfl (Y.qay rfl rfl rfl) ?_
        refine Jp.qae hK18 ?_
        refine Cd.qbs rfl ?_
        refine Cd.qbp hK17 ?_
        exact Cd.qce (hj4 () trivial) ⟨rfl,rfl,rfl,rfl,rfl,rfl,trivial⟩ ⟨rfl,trivial⟩
       try simp only [sG0] at g75
       refine Jp.q 76 rfl (qab rfl rfl rfl rfl) rfl rfl (Y.move rfl rfl) ?_
       refine Jp.q 77 rfl (qab rfl rfl rfl rfl) rfl rfl (Y.move rfl rfl) ?_
       refine Jp.q 78 rfl (qab rfl rfl rfl rfl) rfl rfl (Y.qcp rfl rfl rfl (by exact qaf (by omega) (by omega))) ?_
       have ha0 : 0 < a1:=by omega
       have ck:=qed (b:=b) (n:=n) (c:=c) (d:=d3) (i:=a1 - 1) (by omega)
       have cj:=qed (b:=b) (n:=n) (c:=c) (d:=d3) (i:=p2) (by omega)
       refine Jp.q 79 rfl (qab rfl rfl rfl rfl) rfl rfl (Y.qag (q:=a1 - 1) rfl rfl rfl underlying22 sizeOf24 (by omega) (by omega) (by omega)) ?_
       refine Jp.q 80 rfl (qab rfl rfl rfl rfl) rfl rfl (by exact Y.qas 0 rfl isAgg24 rfl rfl ck) ?_
       refine Jp.q 81 rfl (qab rfl rfl rfl rfl) rfl rfl (Y.move rfl rfl) ?_
       refine Jp.q 82 rfl (qab rfl rfl rfl rfl) rfl rfl (Y.move rfl rfl) ?_
       refine Jp.q 83 rfl (qab rfl rfl rfl rfl) rfl rfl (Y.qag (q:=p2) rfl rfl rfl underlying22 sizeOf24 (by omega) (by omega) (by omega)) ?_
       refine Jp.q 84 rfl (qab rfl rfl rfl rfl) rfl rfl (by exact Y.qas 0 rfl isAgg24 rfl rfl cj) ?_
       refine Jp.call [] [] (qbw d3[a1 - 1]! d3[p2]!) 85 rfl (qab rfl rfl rfl rfl) rfl rfl (Runs.fn rfl call108 rfl) (by decide) (by decide) rfl trivial ?_
       rintro v11 ρ11 L11 ⟨rfl,rfl,rfl⟩
       refine ⟨rfl,fun hle11=>⟨(Kp.st ⟨rfl,trivial⟩),?_⟩⟩
       refine Jp.q 86 rfl (qab rfl rfl rfl rfl) rfl rfl (Y.not rfl rfl) ?_
       refine Jp.q 87 rfl (qaa rfl) rfl rfl (Y.qav rfl rfl rfl) ?_
       refine Jp.qae hK18 ?_
       refine Cd.qaq rfl (fun gx=>?_) (fun gx=>?_)
       ·obtain ⟨T,hT⟩ : ∃ T,Go.Sort.partitionEqual ltN d3 a1 e1 p2 = T:=⟨_,rfl⟩
        have hps:=partEq_spec (some ⟨b,0,none⟩) n c d3 a1 e1 p2 o5 hp1 hp2 o2 hn
        rw [hT] at hps
        obtain ⟨t1,t2⟩:=PdqOk.eqs hok3 ha0 hp1 hp2 (by simpa using gx) hT
        refine Cd.seq fun K29 hK29=>?_
        refine Cd.qac [(0,false),(1,false),(2,false),(3,false),(4,false),(5,false)] rfl rfl ?_
        refine Jp.y 88 rfl (qaa rfl) rfl rfl Kp.true (Y.move rfl rfl) ?_
        refine Jp.y 89 rfl (qaa rfl) rfl rfl Kp.true (Y.move rfl rfl) ?_
        refine Jp.y 90 rfl (qaa rfl) rfl rfl Kp.true (Y.move rfl rfl) ?_
        refine Jp.y 91 rfl (qaa rfl) rfl rfl Kp.true (Y.move rfl rfl) ?_
        refine Jp.call [0] [0] (hps) 92 rfl (qaa rfl) rfl rfl (Runs.fn rfl call109 rfl) (by decide) (by decide) rfl trivial ?_
        rintro v12 ρ12 L12 ⟨rfl,rfl,rfl⟩
        refine ⟨rfl,fun hle12=>⟨Kp.true,?_⟩⟩
        refine Jp.y 13 rfl (qaa rfl) rfl rfl Kp.true (Y.assign rfl rfl) ?_
        refine Jp.qae hK29 ?_
        refine Cd.seq fun K30 hK30=>?_
        refine Cd.qac [(0,false),(1,false)] rfl rfl ?_
        refine Jp.y 93 rfl (qaa rfl) rfl rfl Kp.true (Y.move rfl rfl) ?_
        refine Jp.y 1 rfl (qaa rfl) rfl rfl Kp.true (Y.assign rfl rfl) ?_
        refine Jp.qae hK30 ?_
        refine Cdx.again rfl hLa ⟨T.1,e1,l2,wb,wp,T.2⟩ t2 (by show e1 - T.1 < e1 - a1; omega) rfl ⟨rfl,rfl,rfl,rfl,rfl,rfl,trivial⟩ ⟨rfl,trivial⟩
       ·skip
        refine Cd.qbp hK17 ?_
        exact Cd.qce (hj4 () trivial) ⟨rfl,rfl,rfl,rfl,rfl,rfl,trivial⟩ ⟨rfl,trivial⟩
     ·skip
      refine Jp.qel 62 rfl (fun g62=>?_) (fun g62=>?_)
      ·skip
       refine Jp.qar 63 rfl (qab rfl rfl rfl rfl) rfl rfl Kp.true ?_
       refine Jp.y 64 rfl (qaa rfl) rfl rfl Kp.true (Y.qay rfl rfl rfl) ?_
       refine Jp.y 65 rfl (qaa rfl) rfl rfl Kp.true (Y.move rfl rfl) ?_
       refine Jp.qar 66 rfl (qab rfl rfl rfl rfl) rfl rfl Kp.true ?_
       refine Jp.qar 67 rfl (qab rfl rfl rfl rfl) rfl rfl Kp.true ?_
       refine Jp.y 68 rfl (qaa rfl) rfl rfl Kp.true (Y.qay rfl rfl rfl) ?_
       refine Jp.qae hK16 ?_
       refine Cd.qbs rfl ?_
       refine Cd.qbp hK15 ?_
       exact Cd.qce (hj3 d2 hφ2) ⟨rfl,rfl,rfl,rfl,rfl,rfl,rfl,rfl,trivial⟩ ⟨rfl,trivial⟩
      try simp only [sG0] at g62
      refine Jp.y 63 rfl (qab rfl rfl rfl rfl) rfl rfl Kp.true (Y.move rfl rfl) ?_
      refine Jp.y 64 rfl (qaa rfl) rfl rfl Kp.true (Y.qav rfl rfl rfl) ?_
      refine Jp.y 65 rfl (qaa rfl) rfl rfl Kp.true (Y.move rfl rfl) ?_
      refine Jp.qel 65 rfl (fun g65=>?_) (fun g65=>?_)
      ·skip
       refine Jp.qar 66 rfl (qab rfl rfl rfl rfl) rfl rfl Kp.true ?_
       refine Jp.qar 67 rfl (qab rfl rfl rfl rfl) rfl rfl Kp.true ?_
       refine Jp.y 68 rfl (qaa rfl) rfl rfl Kp.true (Y.qay rfl rfl rfl) ?_
       refine Jp.qae hK16 ?_
       refine Cd.qbs rfl ?_
       refine Cd.qbp hK15 ?_
       exact Cd.qce (hj3 d2 hφ2) ⟨rfl,rfl,rfl,rfl,rfl,rfl,rfl,rfl,trivial⟩ ⟨rfl,trivial⟩
      try simp only [sG0] at g65
      refine Jp.y 66 rfl (qab rfl rfl rfl rfl) rfl rfl Kp.true (Y.move rfl rfl) ?_
      refine Jp.y 67 rfl (qab rfl rfl rfl rfl) rfl rfl Kp.true (Y.eql rfl rfl rfl) ?_
      refine Jp.y 68 rfl (qaa rfl) rfl rfl Kp.true (Y.qav rfl rfl rfl) ?_
      refine Jp.qae hK16 ?_
      refine Cd.condF' rfl (fun g68=>?_) (fun g68=>?_)
      ·skip
       refine Cd.qbp hK15 ?_
       exact Cd.qce (hj3 d2 hφ2) ⟨rfl,rfl,rfl,rfl,rfl,rfl,rfl,rfl,trivial⟩ ⟨rfl,trivial⟩
      try simp only [sG0] at g68
      refine Cd.seq fun K31 hK31=>?_
      refine Cd.qac [(0,false),(1,false),(2,false),(3,false)] rfl rfl ?_
      refine Jp.y 69 rfl (qaa rfl) rfl rfl Kp.true (Y.move rfl rfl) ?_
      refine Jp.y 70 rfl (qaa rfl) rfl rfl Kp.true (Y.move rfl rfl) ?_
      refine Jp.y 71 rfl (qaa rfl) rfl rfl Kp.true (Y.move rfl rfl) ?_
      refine Jp.call [0] [0] (partial_spec A n c d2 a1 e1 o5 (by omega) o2 hn) 72 rfl (qaa rfl) rfl rfl (Runs.fn rfl call107 rfl) (by decide) (by decide) rfl trivial ?_
      rintro v6 ρ6 L6 ⟨rfl,rfl,rfl⟩
      refine ⟨rfl,fun hle6=>⟨Kp.true,?_⟩⟩
      obtain ⟨U,hU⟩ : ∃ U,Go.Sort.partialInsertionSort ltN d2 a1 e1 = U:=⟨_,rfl⟩
      have hp:=Go.Sort.partialInsertionSort_holds swoN d2 a1 e1 (by omega) (by omega) o6
      rw [hU] at hp ⊢
      obtain ⟨hpa,hpb⟩:=hp
      refine Jp.qae hK31 ?_
      refine Cd.qaq rfl (fun gp=>?_) (fun gp=>?_)
      ·skip
       obtain ⟨p3,p4⟩:=o7 _ hpa (hpb gp)
       refine Cd.ret [(0,_)] rfl (res0 rfl) ⟨rfl,trivial⟩ ⟨rfl,rfl,_,p3,p4,rfl⟩
      ·skip
       refine Cd.qbp hK15 ?_
       exact Cd.qce (hj3 U.1 (PdqOk.step hφ2 hpa o4)) ⟨rfl,rfl,rfl,rfl,rfl,rfl,rfl,rfl,trivial⟩ ⟨rfl,trivial⟩
    ·skip
     refine Cd.qaq rfl (fun gh=>?_) (fun gh=>?_)
     ·have hrv:=Go.Sort.reverseRange_holds d1 a1 e1 o1 (by omega)
      refine Cd.seq fun K32 hK32=>?_
      refine Cd.qac [(0,false),(1,false),(2,false),(3,false)] rfl rfl ?_
      refine Jp.y 51 rfl (qaa rfl) rfl rfl Kp.true (Y.move rfl rfl) ?_
      refine Jp.y 52 rfl (qaa rfl) rfl rfl Kp.true (Y.move rfl rfl) ?_
      refine Jp.y 53 rfl (qaa rfl) rfl rfl Kp.true (Y.move rfl rfl) ?_
      refine Jp.call [0] [0] (reverse_spec A n c d1 a1 e1 o5 (by omega) o2 hn) 54 rfl (qaa rfl) rfl rfl (Runs.fn rfl call106 rfl) (by decide) (by decide) rfl trivial ?_
      rintro v5 ρ5 L5 ⟨rfl,rfl,rfl⟩
      refine ⟨rfl,fun hle5=>⟨Kp.true,?_⟩⟩
      refine Jp.qae hK32 ?_
      refine Cd.seq fun K33 hK33=>?_
      refine Cd.qac [(0,false),(1,false),(2,false),(3,false),(4,false),(5,false),(6,false)] rfl rfl ?_
      refine Jp.y 55 rfl (qaa rfl) rfl rfl Kp.true (Y.move rfl rfl) ?_
      refine Jp.y 56 rfl (qaa rfl) rfl rfl Kp.true (Y.qcp rfl rfl rfl (by exact qaf (by omega) (by omega))) ?_
      refine Jp.y 57 rfl (qaa rfl) rfl rfl Kp.true (Y.move rfl rfl) ?_
      refine Jp.y 58 rfl (qaa rfl) rfl rfl Kp.true (Y.move rfl rfl) ?_
      refine Jp.y 59 rfl (qaa rfl) rfl rfl Kp.true (Y.qcp rfl rfl rfl (by exact qaf (by omega) (by omega))) ?_
      refine Jp.y 60 rfl (qaa rfl) rfl rfl Kp.true (Y.qcp rfl rfl rfl (by exact qaf (by omega) (by omega))) ?_
      refine Jp.y 11 rfl (qaa rfl) rfl rfl Kp.true (Y.assign rfl rfl) ?_
      refine Jp.qae hK33 ?_
      refine Cd.qac [(0,false)] rfl rfl ?_
      refine Jp.y 12 rfl (qaa rfl) rfl rfl Kp.true (Y.assign rfl rfl) ?_
      refine Jp.qae hK13 ?_
      refine Cd.slot 11 rfl (show _ = Value.int .i64 ((e1 - 1 - (p - a1) : Nat) : Int) from congrArg (Value.int .i64) (by omega)) ?_
      exact Cd.qce (hj2 (e1 - 1 - (p - a1),1,Go.Sort.reverseRange d1 a1 e1) ⟨PdqOk.step (l2:=l2) hφ hrv o4,by show a1 ≤ e1 - 1 - (p - a1); omega,by show e1 - 1 - (p - a1) < e1; omega⟩) ⟨rfl,rfl,rfl,rfl,rfl,rfl,rfl,rfl,rfl,trivial⟩ ⟨rfl,trivial⟩
     ·skip
      refine Cd.qbp hK13 ?_
      exact Cd.qce (hj2 (p,h,d1) ⟨hφ,hp1,hp2⟩) ⟨rfl,rfl,rfl,rfl,rfl,rfl,rfl,rfl,rfl,trivial⟩ ⟨rfl,trivial⟩
   ·skip
    refine Cd.qaq rfl (fun gw=>?_) (fun gw=>?_)
    ·skip
     refine Cd.seq fun K34 hK34=>?_
     refine Cd.qac [(0,false),(1,false),(2,false),(3,false)] rfl rfl ?_
     refine Jp.y 36 rfl (qaa rfl) rfl rfl Kp.true (Y.move rfl rfl) ?_
     refine Jp.y 37 rfl (qaa rfl) rfl rfl Kp.true (Y.move rfl rfl) ?_
     refine Jp.y 38 rfl (qaa rfl) rfl rfl Kp.true (Y.move rfl rfl) ?_
     refine Jp.call [0] [0] (break_spec A n c d a1 e1 o5 (by omega) o2 hn) 39 rfl (qaa rfl) rfl rfl (Runs.fn rfl call104 rfl) (by decide) (by decide) rfl trivial ?_
     rintro v4 ρ4 L4 ⟨rfl,d1,hp,rfl,rfl⟩
     refine ⟨rfl,fun hle4=>⟨Kp.true,?_⟩⟩
     refine Jp.qae hK34 ?_
     refine Cd.qac [(0,false),(1,false),(2,false)] rfl rfl ?_
     refine Jp.y 40 rfl (qaa rfl) rfl rfl Kp.true (Y.move rfl rfl) ?_
     refine Jp.y 41 rfl (qaa rfl) rfl rfl Kp.true (Y.qcp rfl rfl rfl (by exact qaf (by omega) (by omega))) ?_
     refine Jp.y 3 rfl (qaa rfl) rfl rfl Kp.true (Y.assign rfl rfl) ?_
     refine Jp.qae hK10 ?_
     refine Cd.slot 3 rfl (show _ = Value.int .i64 ((l1 - 1 : Nat) : Int) from congrArg (Value.int .i64) (by omega)) ?_
     exact Cd.qce (hj1 (l1 - 1,d1) (PdqOk.step (l2:=l1 - 1) hok hp (by omega))) ⟨rfl,rfl,rfl,rfl,rfl,rfl,rfl,trivial⟩ ⟨rfl,trivial⟩
    ·skip
     refine Cd.qbp hK10 ?_
     exact Cd.qce (hj1 (l1,d) hok) ⟨rfl,rfl,rfl,rfl,rfl,rfl,rfl,trivial⟩ ⟨rfl,trivial⟩
theorem sorts4096 (n : Nat) (hn : n ≤ 4096) : SortsTo n:=fun A c d hd=>by
 refine Spec.of 11 Tryz.func53 rfl Tryz.ntmps53 [(0,_)] rfl rfl ?_
 intro cx ρ hr h0
 refine Cd.seq fun K35 hK35=>?_
 refine Cd.qac [(0,false),(1,false),(2,false)] rfl rfl ?_
 refine Jp.y 3 rfl (qaa rfl) rfl rfl Kp.true (Y.move rfl rfl) ?_
 refine Jp.y 4 rfl (qaa rfl) rfl rfl Kp.true (Y.qcb rfl underlying22 rfl) ?_
 refine Jp.y 2 rfl (qaa rfl) rfl rfl Kp.true (Y.assign rfl rfl) ?_
 refine Jp.qae hK35 ?_
 refine Cd.qac [(0,false),(1,false),(2,false),(3,false),(4,false),(5,false)] rfl rfl ?_
 refine Jp.y 5 rfl (qaa rfl) rfl rfl Kp.true (Y.move rfl rfl) ?_
 refine Jp.y 6 rfl (qaa rfl) rfl rfl Kp.true (Y.move rfl rfl) ?_
 refine Jp.y 7 rfl (qaa rfl) rfl rfl Kp.true (Y.move rfl rfl) ?_
 refine Jp.y 8 rfl (qaa rfl) rfl rfl Kp.true (Y.qaz rfl rfl underlying3 underlying64 (by exact qbg (by omega) (by omega))) ?_
 refine Jp.call [] [] (len_spec n (by omega)) 9 rfl (qaa rfl) rfl rfl (Runs.fn rfl call87 rfl) (by decide) (by decide) rfl trivial ?_
 rintro v1 ρ1 L1 ⟨rfl,⟨k,hk,rfl⟩,rfl⟩
 refine ⟨rfl,fun hle1=>⟨Kp.true,?_⟩⟩
 refine Jp.call [0] [0] (pdq_spec n A n c d 0 n k (Nat.le_refl _) hd (Nat.zero_le _) (Nat.le_refl _) hn hk (Or.inl rfl)) 10 rfl (qaa rfl) rfl rfl (Runs.fn rfl call86 rfl) (by decide) (by decide) rfl trivial ?_
 rintro v2 ρ2 L2 ⟨rfl,rfl,R,h1,h2,rfl⟩
 refine ⟨rfl,fun hle2=>⟨Kp.true,?_⟩⟩
 obtain ⟨h3,h4⟩:=permIn_perm (by rw [hd]; exact h1)
 refine Jp.end [(0,_)] rfl (res0 rfl) ⟨rfl,trivial⟩ ⟨rfl,rfl,R,h4,by rw [h3,hd]; exact h2,rfl⟩
end Go.Proofs.YtnfkalpgidiafaaGreat

namespace Go.Proofs.YtnfkalpgidiafaaGreat
open _root_.Go.Proofs.Tryz
open Go
def qeq (cb pb : Nat) : qba:=Pt cb (.cells #[.map (some pb)] 65)
def shKfn (cb : Nat) : Value:=.func (.func 54) #[] #[.pointer (some ⟨cb,0,none⟩)]
theorem shAppendSeq_spec (cb pb : Nat) (pm : qcs) (hlen : pm.length ≤ 4096) : Spec Tryz.prog 85 #[.slice none 0 0,shKfn cb] (fun _=>True) [(0,qeq cb pb),(1,qcx .u32 pb pm)]
  (fun ρ ρ' v L=>∃ s A c,s.Perm (keysV pm) ∧ v = .slice A s.length c ∧ L = [(0,qeq cb pb),(1,qcx .u32 pb pm),(2,OwnS 24 1 A s.length c s)]):=by
 refine Spec.ofM 13 Tryz.func85 rfl Tryz.ntmps85 [(0,_),(1,_)] rfl rfl ?_
 intro cx ρ hr h0
 refine Cd.seq fun K1 hK1=>?_
 refine Cd.qac [(0,false),(1,false)] rfl rfl ?_
 refine Jp.box 5 2 rfl (qaa rfl) rfl rfl rfl rfl fun b5=>⟨Kp.true,?_⟩
 refine Jp.y 4 rfl (qaa rfl) rfl rfl Kp.true (Y.assign rfl rfl) ?_
 refine Jp.qae hK1 ?_
 refine Cd.seq fun K2 hK2=>?_
 refine Cd.seq fun K3 hK3=>?_
 refine Cd.qac [(0,false)] rfl rfl ?_
 refine Jp.y 6 rfl (qaa rfl) rfl rfl Kp.true (Y.move rfl rfl) ?_
 refine Jp.qae hK3 ?_
 refine Cd.block ?_
 refine Cd.make 2 (A:=OwnS 24 1 none 0 0 []) (OwnS.nil _ _ _) ?_
 intro a w ha hs
 have hw1 : St cx ρ [(0,qeq cb pb),(1,qcx .u32 pb pm),(5,Pt b5 (.cells #[.slice none 0 0] 22)),(2,OwnS 24 1 none 0 0 [])] w:=hs.sub ⟨rfl,rfl,rfl,rfl,trivial⟩
 have ht2 : a.tmps[2]? = some (.pointer (some ⟨b5,0,none⟩)):=ha.slot 2 _ rfl
 have ht6 : a.tmps[6]? = some (shKfn cb):=ha.slot 6 _ rfl
 refine (wpIn_wide (n:=1)).1 (wpIn_rangeFunc fun fn _=>?_)
 obtain ⟨W,hW⟩ : ∃ W,(w.alloc (.deferred (some []))).alloc (.loop { state:=.ready,pending:=none,fn,tmps:=a.tmps,params:=#[7],assign:=apA,body:=apB,defers:=w.heap.size }) = W:=⟨_,rfl⟩
 refine ⟨w.heap.size + 1, [{ target := .collected w.heap.size, args := #[] }], W, { target := .fn (.func 54) #[.pointer (some ⟨cb, 0, none⟩)], args := #[.func (.yield (w.heap.size + 1)) #[] #[]] }, W, 54,
  #[.func (.yield (w.heap.size + 1)) #[] #[], .pointer (some ⟨cb, 0, none⟩)], W, ?_, ?_, ?_, ?_, fun h => (by cases h), ?_⟩
 ·rw [← hW]; exact run_enterLoop_outer _ _ _ _ _
 ·simp [resolve,rangeCall,ht6,shKfn,Deferred.ofValue,go_sem]
 ·intro f' _; trivial
 ·simp [invoke,go_sem,call54]
 have hsz : (w.alloc (.deferred (some []))).heap.size = w.heap.size + 1:=World.size_alloc _ _
 have s1 : St cx ρ ((7,Pt w.heap.size (.deferred (some []))) :: [(0,qeq cb pb),(1,qcx .u32 pb pm),(5,Pt b5 (.cells #[.slice none 0 0] 22)),(2,OwnS 24 1 none 0 0 [])]) (w.alloc (.deferred (some []))):=hw1.alloc 7 _
 have s2:=s1.alloc 8 (.loop { state:=.ready,pending:=none,fn,tmps:=a.tmps,params:=#[7],assign:=apA,body:=apB,defers:=w.heap.size })
 rw [hsz] at s2
 have s3 : St cx ρ ((8,Pt (w.heap.size + 1) (.loop (qfg apA apB fn a.tmps w.heap.size .ready))) :: (7,Pt w.heap.size (.deferred (some []))) :: [(0,qeq cb pb),(1,qcx .u32 pb pm),(5,Pt b5 (.cells #[.slice none 0 0] 22)),(2,OwnS 24 1 none 0 0 [])]) ((w.alloc (.deferred (some []))).alloc (.loop { state:=.ready,pending:=none,fn,tmps:=a.tmps,params:=#[7],assign:=apA,body:=apB,defers:=w.heap.size })):=s2
 rw [hW] at s3
 have g1:=s3.glue (j:=8) (k:=7) (by decide) rfl rfl
 have g2:=g1.glue (j:=2) (k:=8) (by decide) rfl rfl
 have g3:=g2.glue (j:=5) (k:=2) (by decide) rfl rfl
 have g4:=g3.imp (i:=5) (A':=ApJ apA apB b5 (w.heap.size + 1) w.heap.size fn a.tmps []) rfl fun h hh=>⟨(none,0),hh⟩
 have g5 : St cx ρ [(0,qeq cb pb),(1,qcx .u32 pb pm),(5,ApJ apA apB b5 (w.heap.size + 1) w.heap.size fn a.tmps [])] W:=g4.sub ⟨rfl,rfl,rfl,trivial⟩
 obtain ⟨M',k1,k2⟩:=g5.call [0,1,5] [0,1,5] (by decide) (by decide)
 have hY:=apYields (b:=b5) (l:=w.heap.size + 1) (D:=w.heap.size) (fn:=fn) ha.size ht2
 refine callsIn_wide.2 ((shKeys1_spec hY cb pb pm (fun s r hp=>okKeys hlen s r hp) W M' ρ trivial k1).mono ?_)
 rintro e w2 ⟨v,ρ',Lout,rfl,⟨rfl,s,hperm,rfl⟩,hst⟩
 have hst2:=k2 w2 ρ' _ (by simp) hst
 have q0 : St cx ρ' [(5,ApJ apA apB b5 (w.heap.size + 1) w.heap.size fn a.tmps s),(0,qeq cb pb),(1,qcx .u32 pb pm)] w2:=hst2.sub ⟨rfl,rfl,rfl,trivial⟩
 obtain ⟨⟨A,c⟩,q1⟩:=q0.ex' (j:=5) (by rw [qah,if_pos rfl]; rfl)
 have q2:=q1.part (j:=5) (k:=2) (by decide) (by rw [qah,if_pos rfl])
 have q3:=q2.part (j:=2) (k:=8) (by decide) (by rw [qah,if_neg (by decide),qah,if_pos rfl])
 have q4:=q3.part (j:=8) (k:=7) (by decide) (by rw [qah,if_neg (by decide),qah,if_pos rfl])
 dsimp only at q4
 have q5 : St cx ρ' [(5,Pt b5 (.cells #[.slice A s.length c] 22)),(2,OwnS 24 1 A s.length c s),(8,Pt (w.heap.size + 1) (.loop (qfg apA apB fn a.tmps w.heap.size .ready))),(7,Pt w.heap.size (.deferred (some []))),(0,qeq cb pb),(1,qcx .u32 pb pm)] w2:=q4.sub ⟨rfl,rfl,rfl,rfl,rfl,rfl,trivial⟩
 have hl:=q5.pt (i:=8) rfl
 have hend:=run_endLoop (P:=Tryz.prog) hl (by simp [qfg])
 have q6:=q5.putObj (j:=8) (o':=.loop { qfg apA apB fn a.tmps w.heap.size .ready with state:=.exhausted }) rfl
 refine ⟨none,_,hend,?_⟩
 show K2 _ _
 refine hK2 _ _ ?_
 refine (wpIn_wide (n:=1)).1 (wpIn_seq ?_)
 have hd : a.defers = []:=ha.defers
 rw [hd,List.append_nil]
 refine qhe (D:=[{ target:=.collected w.heap.size,args:=#[] }]) (Q:=fun e a w'=>match e with | .normal=>At 13 [(4,.slice A s.length c)] a ∧ St cx ρ' [(7,Pt w.heap.size (.deferred (some []))),(2,OwnS 24 1 A s.length c s),(0,qeq cb pb),(1,qcx .u32 pb pm)] w' | _=>False)
  (fun _=>trivial) ?_ [(0,false),(1,false)] rfl rfl ?_ ha q6 ?_
 ·intro o ho
  simp only [List.mem_cons,List.not_mem_nil,or_false] at ho
  rcases ho with rfl | rfl
  ·exact vo_load rfl
  ·exact vo_assign rfl
 ·refine Jp.y 12 rfl (qaa rfl) rfl rfl Kp.true (Y.qaw 5 rfl isAgg22 rfl rfl rfl) ?_
  refine Jp.y 4 rfl (qaa rfl) rfl rfl Kp.true (Y.assign rfl rfl) ?_
  exact fun a w' ha' hs'=>⟨ha'.sub ⟨rfl,trivial⟩,hs'.sub ⟨rfl,rfl,rfl,rfl,trivial⟩⟩
 rintro a3 w3 ⟨ha3,hs3⟩
 have hD:=hs3.pt (i:=7) rfl
 have hs4:=hs3.putObj (j:=7) (o':=.deferred none) rfl
 show Code.ret.wpIn Fence.wide 1 Tryz.prog _ _ _
 refine wpIn_ret ?_
 refine ⟨by simp,.inl ⟨_,_,rfl,run_takeDeferred hD,?_⟩⟩
 have h4:=ha3.slot 4 _ rfl
 refine ⟨.slice A s.length c,?_,.slice A s.length c,ρ',_,rfl,⟨s,A,c,hperm,rfl,rfl⟩,?_⟩
 ·simp [results,Tryz.f85,h4]
 ·exact hs4.sub ⟨rfl,rfl,rfl,trivial⟩
theorem shCollect_spec (cb pb : Nat) (pm : qcs) (hlen : pm.length ≤ 4096) : Spec Tryz.prog 52 #[shKfn cb] (fun _=>True) [(0,qeq cb pb),(1,qcx .u32 pb pm)]
  (fun ρ ρ' v L=>∃ s A c,s.Perm (keysV pm) ∧ v = .slice A s.length c ∧ L = [(0,qeq cb pb),(1,qcx .u32 pb pm),(2,OwnS 24 1 A s.length c s)]):=by
 refine Spec.of 5 Tryz.func52 rfl Tryz.ntmps52 [(0,_)] rfl rfl ?_
 intro cx ρ hr h0
 refine Cd.seq fun K4 hK4=>?_
 refine Cd.qac [(0,false)] rfl rfl ?_
 refine Jp.y 2 rfl (qaa rfl) rfl rfl Kp.true (Y.assign rfl rfl) ?_
 refine Jp.qae hK4 ?_
 refine Cd.seq fun K5 hK5=>?_
 refine Cd.qac [(0,false),(1,false),(2,false)] rfl rfl ?_
 refine Jp.y 3 rfl (qaa rfl) rfl rfl Kp.true (Y.move rfl rfl) ?_
 refine Jp.call [0,1] [0,1,2] (shAppendSeq_spec cb pb pm hlen) 4 rfl (qaa rfl) rfl rfl (Runs.fn rfl call85 rfl) (by decide) (by decide) rfl trivial ?_
 rintro v1 ρ1 L1 ⟨s,A,c,hs,rfl,rfl⟩
 refine ⟨rfl,fun hle1=>⟨Kp.true,?_⟩⟩
 refine Jp.y 2 rfl (qaa rfl) rfl rfl Kp.true (Y.assign rfl rfl) ?_
 refine Jp.qae hK5 ?_
 refine Cd.ret [(0,_),(1,_),(2,_)] rfl (qbf rfl rfl) ⟨rfl,rfl,rfl,trivial⟩ ⟨s,A,c,hs,rfl,rfl⟩
theorem shKeys_spec (pb : Nat) : Spec Tryz.prog 25 #[.map (some pb)] (fun _=>True) [] (fun ρ ρ' v L=>ρ' = ρ ∧ ∃ cb,v = shKfn cb ∧ L = [(0,qeq cb pb)]):=by
 refine Spec.of 4 Tryz.func25 rfl Tryz.ntmps25 [(0,_)] rfl rfl ?_
 intro cx ρ hr h0
 refine Cd.seq fun K6 hK6=>?_
 refine Cd.qac [(0,false),(1,false)] rfl rfl ?_
 refine Jp.box 0 1 rfl (qaa rfl) rfl rfl rfl rfl fun b0=>⟨Kp.true,?_⟩
 refine Jp.y 2 rfl (qaa rfl) rfl rfl Kp.true (Y.assign rfl rfl) ?_
 refine Jp.qae hK6 ?_
 refine Cd.seq fun K7 hK7=>?_
 refine Cd.qac [(0,false),(1,false)] rfl rfl ?_
 refine Jp.y 3 rfl (qaa rfl) rfl rfl Kp.true (Y.makeFunc rfl rfl) ?_
 refine Jp.y 2 rfl (qaa rfl) rfl rfl Kp.true (Y.assign rfl rfl) ?_
 refine Jp.qae hK7 ?_
 refine Cd.ret [(0,_)] rfl (qbf rfl rfl) ⟨rfl,trivial⟩ ⟨rfl,b0,rfl,rfl⟩
theorem shSorted_spec (cb pb : Nat) (pm : qcs) (K : List Nat) (hK : K.Pairwise (· < ·)) (hp : (pm.map (·.1)).Perm (K.map fun k : Nat=>(k : Int))) (hlen : pm.length ≤ 4096) (hsort : SortsTo pm.length) : Spec Tryz.prog 24 #[shKfn cb] (fun _=>True) [(0,qeq cb pb),(1,qcx .u32 pb pm)]
  (fun ρ ρ' v L=>∃ A c,v = .slice A K.length c ∧ L = [(0,qeq cb pb),(1,qcx .u32 pb pm),(2,OwnS 24 1 A K.length c (qbd .u32 K))]):=by
 refine Spec.of 9 Tryz.func24 rfl Tryz.ntmps24 [(0,_)] rfl rfl ?_
 intro cx ρ hr h0
 have hkeys : (keysV pm).Perm (qbd .u32 K):=by
  have:=hp.map fun x : Int=>Value.int .u32 x
  simpa [keysV,qbd,List.map_map,Function.comp_def] using this
 have hKl : K.length = pm.length:=by have:=hp.length_eq; simpa using this.symm
 refine Cd.seq fun K8 hK8=>?_
 refine Cd.qac [(0,false)] rfl rfl ?_
 refine Jp.y 2 rfl (qaa rfl) rfl rfl Kp.true (Y.assign rfl rfl) ?_
 refine Jp.qae hK8 ?_
 refine Cd.seq fun K9 hK9=>?_
 refine Cd.qac [(0,false),(1,false),(2,false)] rfl rfl ?_
 refine Jp.y 4 rfl (qaa rfl) rfl rfl Kp.true (Y.move rfl rfl) ?_
 refine Jp.call [0,1] [0,1,2] (shCollect_spec cb pb pm hlen) 5 rfl (qaa rfl) rfl rfl (Runs.fn rfl call52 rfl) (by decide) (by decide) rfl trivial ?_
 rintro v1 ρ1 L1 ⟨s,A,c,hs,rfl,rfl⟩
 refine ⟨rfl,fun hle1=>⟨Kp.true,?_⟩⟩
 obtain ⟨l,rfl⟩:=natsV_inj (s:=s) fun v hv=>by
  obtain ⟨x,_,rfl⟩:=List.mem_map.1 ((hs.trans hkeys).mem_iff.1 hv)
  exact ⟨x,rfl⟩
 have hperm:=natsV_perm (hs.trans hkeys)
 have hsl : (qbd .u32 l).length = K.length:=by rw [qbd,List.length_map]; exact hperm.length_eq
 have hll : l.length = pm.length:=by rw [← hKl]; exact hperm.length_eq
 rw [hsl,hKl]
 refine Jp.y 3 rfl (qaa rfl) rfl rfl Kp.true (Y.assign rfl rfl) ?_
 refine Jp.qae hK9 ?_
 refine Cd.seq fun K10 hK10=>?_
 refine Cd.qac [(0,false),(1,false)] rfl rfl ?_
 refine Jp.imp (j:=2) rfl (fun h hh=>(show qdp A pm.length c l.toArray h from hh)) ?_
 refine Jp.y 6 rfl (qaa rfl) rfl rfl Kp.true (Y.move rfl rfl) ?_
 refine Jp.call [2] [2] (hsort A c l.toArray (by simpa using hll)) 7 rfl (qaa rfl) rfl rfl (Runs.fn rfl call53 rfl) (by decide) (by decide) rfl trivial ?_
 rintro v2 ρ2 L2 ⟨rfl,rfl,r,hr1,hr2,rfl⟩
 refine ⟨rfl,fun hle2=>⟨Kp.true,?_⟩⟩
 have hrK : r.toList = K:=sorted_is hr1 hr2 (by simpa using hperm) hK
 refine Jp.qae hK10 ?_
 refine Cd.seq fun K11 hK11=>?_
 refine Cd.qac [(0,false),(1,false)] rfl rfl ?_
 refine Jp.y 8 rfl (qaa rfl) rfl rfl Kp.true (Y.move rfl rfl) ?_
 refine Jp.y 2 rfl (qaa rfl) rfl rfl Kp.true (Y.assign rfl rfl) ?_
 refine Jp.qae hK11 ?_
 refine Cd.imp (i:=2) rfl (fun h hh=>(show OwnS 24 1 A pm.length c (qbd .u32 K) h by rw [← hrK]; exact hh)) ?_
 refine Cd.ret [(0,_),(1,_),(2,_)] rfl (qbf rfl rfl) ⟨rfl,rfl,rfl,trivial⟩ ⟨A,c,by rw [hKl],by rw [hKl]⟩
theorem shDirty_spec (b : Nat) (S : ShG) : Spec Tryz.prog 9 #[.pointer (some ⟨b,0,none⟩)] (fun _=>True) [(0,ShO b S)]
  (fun ρ ρ' v L=>∃ A c,v = .slice A S.pages.length c ∧ L = [(0,ShO b S),(1,OwnS 24 1 A S.pages.length c (qbd .u32 (S.pages.map (·.1))))]):=by
 refine Spec.of 9 Tryz.func9 rfl Tryz.ntmps9 [(0,_)] rfl rfl ?_
 intro cx ρ hr h0
 refine Cd.shOpen 0 5 6 (by decide) rfl fun x hf=>?_
 have hlen:=hf.pages.length_eq
 rw [qef,List.length_map] at hlen
 have hroom:=hf.room
 have hbud:=hf.budget
 have hrise : (S.pages.map (·.1)).Pairwise (· < ·):=by rw [List.pairwise_map]; exact hf.ok.rising
 have hp : (x.pm.map (·.1)).Perm ((S.pages.map (·.1)).map fun k : Nat=>(k : Int)):=by
  have h1:=hf.pages.map (·.1)
  rw [pmOf_keys] at h1
  rw [List.map_map]
  exact h1
 have hs2 : SortsTo x.pm.length:=sorts4096 _ (by omega)
 dsimp only [shObj]
 refine Cd.seq fun K12 hK12=>?_
 refine Cd.qac [(0,false)] rfl rfl ?_
 refine Jp.y 2 rfl (qaa rfl) rfl rfl Kp.true (Y.assign rfl rfl) ?_
 refine Jp.qae hK12 ?_
 refine Cd.seq fun K13 hK13=>?_
 refine Cd.qac [(0,false),(1,false),(2,false),(3,false),(4,false),(5,false),(6,false)] rfl rfl ?_
 refine Jp.y 3 rfl (qaa rfl) rfl rfl Kp.true (Y.move rfl rfl) ?_
 refine Jp.y 4 rfl (qaa rfl) rfl rfl Kp.true (Y.qam rfl rfl) ?_
 refine Jp.y 5 rfl (qaa rfl) rfl rfl Kp.true (by exact Y.qad rfl rfl underlying67 rfl sizeOf65 (by decide) (show _ + 1 = _ from rfl)) ?_
 refine Jp.y 6 rfl (qaa rfl) rfl rfl Kp.true (Y.qaw 0 rfl isAgg65 rfl rfl rfl) ?_
 refine Jp.call [] [8] (shKeys_spec x.pb) 7 rfl (qaa rfl) rfl rfl (Runs.fn rfl call25 rfl) (by decide) (by decide) rfl trivial ?_
 rintro v1 ρ1 L1 ⟨rfl,cb,rfl,rfl⟩
 refine ⟨rfl,fun hle1=>⟨Kp.true,?_⟩⟩
 refine Jp.call [8,5] [8,5,1] (shSorted_spec cb x.pb x.pm (S.pages.map (·.1)) hrise hp (by omega) hs2) 8 rfl (qaa rfl) rfl rfl (Runs.fn rfl call24 rfl) (by decide) (by decide) rfl trivial ?_
 rintro v2 ρ2 L2 ⟨A,c,rfl,rfl⟩
 refine ⟨rfl,fun hle2=>⟨Kp.true,?_⟩⟩
 rw [List.length_map]
 refine Jp.y 2 rfl (qaa rfl) rfl rfl Kp.true (Y.assign rfl rfl) ?_
 refine Jp.qae hK13 ?_
 refine Cd.shClose (b:=b) (S:=S) (x:=x) 0 5 6 (by decide) hf rfl rfl rfl ?_
 refine Cd.ret [(0,_),(1,_)] rfl (qbf rfl rfl) ⟨rfl,rfl,trivial⟩ ⟨A,c,rfl,rfl⟩
end Go.Proofs.YtnfkalpgidiafaaGreat

namespace Go.Proofs.YtnfkalpgidiafaaGreat
open _root_.Go.Proofs.Tryz
open Go
theorem flowP_slen (M : MemG) (S : ShG) {s : StP} (X : qap) (pp : Bool) (sk : List SinkG) (hs : StOk s) : (qgs M S s X pp sk).s.cells.length = 34:=by
 unfold qgs
 split
 ·split
  ·split
   ·exact stepP_len hs
   ·exact StP.len hs
  ·exact StP.len hs
 ·exact StP.len hs
theorem flowClean_spec (A : Option Addr) (c : Nat) (xs : List Int) (dA : Option Addr) (dc : Nat) (bs : qap) (s : StP) (p : PolG) (hxs : ∀ x ∈ xs,∃ m : Nat,x = m ∧ m < 4294967296) (hc : StRd s) : Spec Tryz.prog 3 #[.slice A xs.length c,.slice dA bs.length dc,.agg s.cells.toArray,.agg p.cells.toArray] (fun h=>RdI .u32 ⟨A,c,xs⟩ h ∧ RdB ⟨dA,dc,bs⟩ h ∧ PolG.Rd p h) []
  (fun ρ ρ' v L=>v = .bool true ∧ L = []):=by
 refine Spec.of 86 Tryz.func3 rfl Tryz.ntmps3 [(0,_),(1,_),(2,_),(3,_)] rfl rfl ?_
 intro cx ρ hr0 h0
 obtain ⟨hr,hrd,hp⟩:=hr0
 have hsi:=hp.sinks
 obtain ⟨pp,⟨sA,sc,so⟩,⟨kA,kc,ks⟩⟩:=p
 dsimp only at hsi
 have hcl:=hc.size
 have hco:=StP.one s
 have lx : xs.length ≤ 281474976710656:=hr.2.1.2
 have lb : bs.length ≤ 281474976710656:=hrd.2.1.2
 have ls : so.length ≤ 281474976710656:=hp.sources.1.2.1.2
 have lk : ks.length ≤ 281474976710656:=hsi.1.2.1.2
 refine Cd.seq fun K1 hK1=>?_
 refine Cd.qac [(0,false),(1,false),(2,false)] rfl rfl ?_
 refine Jp.box 6 6 rfl (qaa rfl) rfl rfl rfl rfl fun b6=>⟨Kp.true,?_⟩
 refine Jp.box 7 7 rfl (qaa rfl) rfl rfl rfl rfl fun b7=>⟨Kp.true,?_⟩
 refine Jp.y 8 rfl (qaa rfl) rfl rfl Kp.true (Y.assign rfl rfl) ?_
 refine Jp.qae hK1 ?_
 refine Cd.seq fun K2 hK2=>?_
 refine Cd.seq fun K3 hK3=>?_
 refine Cd.qac [(0,false),(1,false)] rfl rfl ?_
 refine Jp.imp (j:=7) rfl (fun h hh=>(show Pt b7 (.cells #[.bool pp,.slice sA so.length sc,.slice kA ks.length kc] 31) h from hh)) ?_
 refine Jp.call [] [] awake13_spec 17 rfl (qaa rfl) rfl rfl (Runs.fn rfl call5 rfl) (by decide) (by decide) rfl trivial ?_
 rintro v1 ρ1 L1 ⟨rfl,rfl⟩
 refine ⟨rfl,fun hle1=>⟨Kp.true,?_⟩⟩
 have hr:=RdI.up _ _ _ _ hle1 hr
 have hrd:=RdB.up _ _ _ hle1 hrd
 have hsi:=RdSinkGs.up _ _ _ hle1 hsi
 refine Jp.y 18 rfl (qaa rfl) rfl rfl Kp.true (Y.not rfl rfl) ?_
 refine Jp.qae hK3 ?_
 refine Cd.qaq rfl (fun g18=>?_) (fun g18=>?_)
 ·skip
  exact absurd g18 (by simp)
 try simp only [sG0] at g18
 refine Cd.qbp hK2 ?_
 refine Cd.seq fun K4 hK4=>?_
 refine Cd.seq fun K5 hK5=>?_
 refine Cd.qac [(0,false),(1,false),(2,false),(3,false),(4,false),(5,false),(6,false),(7,false),(8,false),(9,false),(10,false),(11,false),(12,false),(13,false),(14,false),(15,false),(16,false),(17,false),(18,false),(19,false),(20,false),(21,false),(22,false),(23,false),(24,false),(25,false),(26,false),(27,false),(28,false),(29,false)] rfl rfl ?_
 refine Jp.y 19 rfl (qaa rfl) rfl rfl Kp.true (Y.move rfl rfl) ?_
 refine Jp.y 20 rfl (qaa rfl) rfl rfl Kp.true (Y.qcb rfl underlying22 rfl) ?_
 refine Jp.y 21 rfl (qaa rfl) rfl rfl Kp.true (Y.gtr rfl rfl rfl) ?_
 refine Jp.y 22 rfl (qaa rfl) rfl rfl Kp.true (Y.move rfl rfl) ?_
 refine Jp.split 22 rfl (fun g22=>?_) (fun g22=>?_)
 ·skip
  refine Jp.qar 23 rfl (qab rfl rfl rfl rfl) rfl rfl Kp.true ?_
  refine Jp.qar 24 rfl (qab rfl rfl rfl rfl) rfl rfl Kp.true ?_
  refine Jp.qar 25 rfl (qab rfl rfl rfl rfl) rfl rfl Kp.true ?_
  refine Jp.y 26 rfl (qaa rfl) rfl rfl Kp.true (Y.qav rfl rfl rfl) ?_
  refine Jp.y 27 rfl (qaa rfl) rfl rfl Kp.true (Y.move rfl rfl) ?_
  refine Jp.qar 28 rfl (qab rfl rfl rfl rfl) rfl rfl Kp.true ?_
  refine Jp.qar 29 rfl (qab rfl rfl rfl rfl) rfl rfl Kp.true ?_
  refine Jp.qar 30 rfl (qab rfl rfl rfl rfl) rfl rfl Kp.true ?_
  refine Jp.y 31 rfl (qaa rfl) rfl rfl Kp.true (Y.qav rfl rfl rfl) ?_
  refine Jp.y 32 rfl (qaa rfl) rfl rfl Kp.true (Y.move rfl rfl) ?_
  refine Jp.qar 33 rfl (qab rfl rfl rfl rfl) rfl rfl Kp.true ?_
  refine Jp.qar 34 rfl (qab rfl rfl rfl rfl) rfl rfl Kp.true ?_
  refine Jp.qar 35 rfl (qab rfl rfl rfl rfl) rfl rfl Kp.true ?_
  refine Jp.y 36 rfl (qaa rfl) rfl rfl Kp.true (Y.qav rfl rfl rfl) ?_
  refine Jp.y 37 rfl (qaa rfl) rfl rfl Kp.true (Y.move rfl rfl) ?_
  refine Jp.qar 38 rfl (qab rfl rfl rfl rfl) rfl rfl Kp.true ?_
  refine Jp.qar 39 rfl (qab rfl rfl rfl rfl) rfl rfl Kp.true ?_
  refine Jp.qar 40 rfl (qab rfl rfl rfl rfl) rfl rfl Kp.true ?_
  refine Jp.qar 41 rfl (qab rfl rfl rfl rfl) rfl rfl Kp.true ?_
  refine Jp.y 42 rfl (qaa rfl) rfl rfl Kp.true (Y.qav rfl rfl rfl) ?_
  refine Jp.y 43 rfl (qaa rfl) rfl rfl Kp.true (Y.move rfl rfl) ?_
  refine Jp.qar 44 rfl (qab rfl rfl rfl rfl) rfl rfl Kp.true ?_
  refine Jp.qar 45 rfl (qab rfl rfl rfl rfl) rfl rfl Kp.true ?_
  refine Jp.qar 46 rfl (qab rfl rfl rfl rfl) rfl rfl Kp.true ?_
  refine Jp.qar 47 rfl (qab rfl rfl rfl rfl) rfl rfl Kp.true ?_
  refine Jp.y 48 rfl (qaa rfl) rfl rfl Kp.true (Y.qav rfl rfl rfl) ?_
  refine Jp.qae hK5 ?_
  refine Cd.qdd rfl ?_
  refine Cd.seq fun K6 hK6=>?_
  refine Cd.qac [(0,false)] rfl rfl ?_
  refine Jp.y 8 rfl (qaa rfl) rfl rfl Kp.true (Y.assign rfl rfl) ?_
  refine Jp.qae hK6 ?_
  refine Cd.ret [] rfl (qbf rfl rfl) trivial ⟨rfl,rfl⟩
 try simp only [sG0] at g22
 refine Jp.y 23 rfl (qab rfl rfl rfl rfl) rfl rfl Kp.true (Y.move rfl rfl) ?_
 refine Jp.y 24 rfl (qab rfl rfl rfl rfl) rfl rfl Kp.true (Y.qcb rfl underlying23 rfl) ?_
 refine Jp.y 25 rfl (qab rfl rfl rfl rfl) rfl rfl Kp.true (Y.gtr rfl rfl rfl) ?_
 refine Jp.y 26 rfl (qaa rfl) rfl rfl Kp.true (Y.qay rfl rfl rfl) ?_
 refine Jp.y 27 rfl (qaa rfl) rfl rfl Kp.true (Y.move rfl rfl) ?_
 refine Jp.split 27 rfl (fun g27=>?_) (fun g27=>?_)
 ·skip
  refine Jp.qar 28 rfl (qab rfl rfl rfl rfl) rfl rfl Kp.true ?_
  refine Jp.qar 29 rfl (qab rfl rfl rfl rfl) rfl rfl Kp.true ?_
  refine Jp.qar 30 rfl (qab rfl rfl rfl rfl) rfl rfl Kp.true ?_
  refine Jp.y 31 rfl (qaa rfl) rfl rfl Kp.true (Y.qav rfl rfl rfl) ?_
  refine Jp.y 32 rfl (qaa rfl) rfl rfl Kp.true (Y.move rfl rfl) ?_
  refine Jp.qar 33 rfl (qab rfl rfl rfl rfl) rfl rfl Kp.true ?_
  refine Jp.qar 34 rfl (qab rfl rfl rfl rfl) rfl rfl Kp.true ?_
  refine Jp.qar 35 rfl (qab rfl rfl rfl rfl) rfl rfl Kp.true ?_
  refine Jp.y 36 rfl (qaa rfl) rfl rfl Kp.true (Y.qav rfl rfl rfl) ?_
  refine Jp.y 37 rfl (qaa rfl) rfl rfl Kp.true (Y.move rfl rfl) ?_
  refine Jp.qar 38 rfl (qab rfl rfl rfl rfl) rfl rfl Kp.true ?_
  refine Jp.qar 39 rfl (qab rfl rfl rfl rfl) rfl rfl Kp.true ?_
  refine Jp.qar 40 rfl (qab rfl rfl rfl rfl) rfl rfl Kp.true ?_
  refine Jp.qar 41 rfl (qab rfl rfl rfl rfl) rfl rfl Kp.true ?_
  refine Jp.y 42 rfl (qaa rfl) rfl rfl Kp.true (Y.qav rfl rfl rfl) ?_
  refine Jp.y 43 rfl (qaa rfl) rfl rfl Kp.true (Y.move rfl rfl) ?_
  refine Jp.qar 44 rfl (qab rfl rfl rfl rfl) rfl rfl Kp.true ?_
  refine Jp.qar 45 rfl (qab rfl rfl rfl rfl) rfl rfl Kp.true ?_
  refine Jp.qar 46 rfl (qab rfl rfl rfl rfl) rfl rfl Kp.true ?_
  refine Jp.qar 47 rfl (qab rfl rfl rfl rfl) rfl rfl Kp.true ?_
  refine Jp.y 48 rfl (qaa rfl) rfl rfl Kp.true (Y.qav rfl rfl rfl) ?_
  refine Jp.qae hK5 ?_
  refine Cd.qdd rfl ?_
  refine Cd.seq fun K7 hK7=>?_
  refine Cd.qac [(0,false)] rfl rfl ?_
  refine Jp.y 8 rfl (qaa rfl) rfl rfl Kp.true (Y.assign rfl rfl) ?_
  refine Jp.qae hK7 ?_
  refine Cd.ret [] rfl (qbf rfl rfl) trivial ⟨rfl,rfl⟩
 try simp only [sG0] at g27
 refine Jp.y 28 rfl (qab rfl rfl rfl rfl) rfl rfl Kp.true (by exact Y.qad rfl rfl underlying27 rfl sizeOf2 (by decide) (show _ + 33 = _ from rfl)) ?_
 refine Jp.y 29 rfl (qab rfl rfl rfl rfl) rfl rfl Kp.true (by exact Y.qas 6 rfl isAgg2 rfl rfl (HasC.pt hc.cRet)) ?_
 refine Jp.y 30 rfl (qab rfl rfl rfl rfl) rfl rfl Kp.true (Y.lss rfl rfl rfl) ?_
 refine Jp.y 31 rfl (qaa rfl) rfl rfl Kp.true (Y.qay rfl rfl rfl) ?_
 refine Jp.y 32 rfl (qaa rfl) rfl rfl Kp.true (Y.move rfl rfl) ?_
 refine Jp.split 32 rfl (fun g32=>?_) (fun g32=>?_)
 ·skip
  refine Jp.qar 33 rfl (qab rfl rfl rfl rfl) rfl rfl Kp.true ?_
  refine Jp.qar 34 rfl (qab rfl rfl rfl rfl) rfl rfl Kp.true ?_
  refine Jp.qar 35 rfl (qab rfl rfl rfl rfl) rfl rfl Kp.true ?_
  refine Jp.y 36 rfl (qaa rfl) rfl rfl Kp.true (Y.qav rfl rfl rfl) ?_
  refine Jp.y 37 rfl (qaa rfl) rfl rfl Kp.true (Y.move rfl rfl) ?_
  refine Jp.qar 38 rfl (qab rfl rfl rfl rfl) rfl rfl Kp.true ?_
  refine Jp.qar 39 rfl (qab rfl rfl rfl rfl) rfl rfl Kp.true ?_
  refine Jp.qar 40 rfl (qab rfl rfl rfl rfl) rfl rfl Kp.true ?_
  refine Jp.qar 41 rfl (qab rfl rfl rfl rfl) rfl rfl Kp.true ?_
  refine Jp.y 42 rfl (qaa rfl) rfl rfl Kp.true (Y.qav rfl rfl rfl) ?_
  refine Jp.y 43 rfl (qaa rfl) rfl rfl Kp.true (Y.move rfl rfl) ?_
  refine Jp.qar 44 rfl (qab rfl rfl rfl rfl) rfl rfl Kp.true ?_
  refine Jp.qar 45 rfl (qab rfl rfl rfl rfl) rfl rfl Kp.true ?_
  refine Jp.qar 46 rfl (qab rfl rfl rfl rfl) rfl rfl Kp.true ?_
  refine Jp.qar 47 rfl (qab rfl rfl rfl rfl) rfl rfl Kp.true ?_
  refine Jp.y 48 rfl (qaa rfl) rfl rfl Kp.true (Y.qav rfl rfl rfl) ?_
  refine Jp.qae hK5 ?_
  refine Cd.qdd rfl ?_
  refine Cd.seq fun K8 hK8=>?_
  refine Cd.qac [(0,false)] rfl rfl ?_
  refine Jp.y 8 rfl (qaa rfl) rfl rfl Kp.true (Y.assign rfl rfl) ?_
  refine Jp.qae hK8 ?_
  refine Cd.ret [] rfl (qbf rfl rfl) trivial ⟨rfl,rfl⟩
 try simp only [sG0] at g32
 refine Jp.y 33 rfl (qab rfl rfl rfl rfl) rfl rfl Kp.true (by exact Y.qad rfl rfl underlying27 rfl sizeOf2 (by decide) (show _ + 33 = _ from rfl)) ?_
 refine Jp.y 34 rfl (qab rfl rfl rfl rfl) rfl rfl Kp.true (by exact Y.qas 6 rfl isAgg2 rfl rfl (HasC.pt hc.cRet)) ?_
 refine Jp.y 35 rfl (qab rfl rfl rfl rfl) rfl rfl Kp.true (Y.gtr rfl rfl rfl) ?_
 refine Jp.y 36 rfl (qaa rfl) rfl rfl Kp.true (Y.qay rfl rfl rfl) ?_
 refine Jp.y 37 rfl (qaa rfl) rfl rfl Kp.true (Y.move rfl rfl) ?_
 refine Jp.split 37 rfl (fun g37=>?_) (fun g37=>?_)
 ·skip
  refine Jp.qar 38 rfl (qab rfl rfl rfl rfl) rfl rfl Kp.true ?_
  refine Jp.qar 39 rfl (qab rfl rfl rfl rfl) rfl rfl Kp.true ?_
  refine Jp.qar 40 rfl (qab rfl rfl rfl rfl) rfl rfl Kp.true ?_
  refine Jp.qar 41 rfl (qab rfl rfl rfl rfl) rfl rfl Kp.true ?_
  refine Jp.y 42 rfl (qaa rfl) rfl rfl Kp.true (Y.qav rfl rfl rfl) ?_
  refine Jp.y 43 rfl (qaa rfl) rfl rfl Kp.true (Y.move rfl rfl) ?_
  refine Jp.qar 44 rfl (qab rfl rfl rfl rfl) rfl rfl Kp.true ?_
  refine Jp.qar 45 rfl (qab rfl rfl rfl rfl) rfl rfl Kp.true ?_
  refine Jp.qar 46 rfl (qab rfl rfl rfl rfl) rfl rfl Kp.true ?_
  refine Jp.qar 47 rfl (qab rfl rfl rfl rfl) rfl rfl Kp.true ?_
  refine Jp.y 48 rfl (qaa rfl) rfl rfl Kp.true (Y.qav rfl rfl rfl) ?_
  refine Jp.qae hK5 ?_
  refine Cd.qdd rfl ?_
  refine Cd.seq fun K9 hK9=>?_
  refine Cd.qac [(0,false)] rfl rfl ?_
  refine Jp.y 8 rfl (qaa rfl) rfl rfl Kp.true (Y.assign rfl rfl) ?_
  refine Jp.qae hK9 ?_
  refine Cd.ret [] rfl (qbf rfl rfl) trivial ⟨rfl,rfl⟩
 try simp only [sG0] at g37
 refine Jp.y 38 rfl (qab rfl rfl rfl rfl) rfl rfl Kp.true (by exact Y.qad rfl rfl underlying31 rfl sizeOf28 (by decide) (show _ + 1 = _ from rfl)) ?_
 refine Jp.y 39 rfl (qab rfl rfl rfl rfl) rfl rfl Kp.true (by exact Y.qaw 7 rfl isAgg28 rfl rfl rfl) ?_
 refine Jp.y 40 rfl (qab rfl rfl rfl rfl) rfl rfl Kp.true (Y.qcb rfl underlying28 rfl) ?_
 refine Jp.y 41 rfl (qab rfl rfl rfl rfl) rfl rfl Kp.true (Y.gtr rfl rfl rfl) ?_
 refine Jp.y 42 rfl (qaa rfl) rfl rfl Kp.true (Y.qay rfl rfl rfl) ?_
 refine Jp.y 43 rfl (qaa rfl) rfl rfl Kp.true (Y.move rfl rfl) ?_
 refine Jp.split 43 rfl (fun g43=>?_) (fun g43=>?_)
 ·skip
  refine Jp.qar 44 rfl (qab rfl rfl rfl rfl) rfl rfl Kp.true ?_
  refine Jp.qar 45 rfl (qab rfl rfl rfl rfl) rfl rfl Kp.true ?_
  refine Jp.qar 46 rfl (qab rfl rfl rfl rfl) rfl rfl Kp.true ?_
  refine Jp.qar 47 rfl (qab rfl rfl rfl rfl) rfl rfl Kp.true ?_
  refine Jp.y 48 rfl (qaa rfl) rfl rfl Kp.true (Y.qav rfl rfl rfl) ?_
  refine Jp.qae hK5 ?_
  refine Cd.qdd rfl ?_
  refine Cd.seq fun K10 hK10=>?_
  refine Cd.qac [(0,false)] rfl rfl ?_
  refine Jp.y 8 rfl (qaa rfl) rfl rfl Kp.true (Y.assign rfl rfl) ?_
  refine Jp.qae hK10 ?_
  refine Cd.ret [] rfl (qbf rfl rfl) trivial ⟨rfl,rfl⟩
 try simp only [sG0] at g43
 refine Jp.y 44 rfl (qab rfl rfl rfl rfl) rfl rfl Kp.true (by exact Y.qad rfl rfl underlying31 rfl sizeOf29 (by decide) (show _ + 2 = _ from rfl)) ?_
 refine Jp.y 45 rfl (qab rfl rfl rfl rfl) rfl rfl Kp.true (by exact Y.qaw 7 rfl isAgg29 rfl rfl rfl) ?_
 refine Jp.y 46 rfl (qab rfl rfl rfl rfl) rfl rfl Kp.true (Y.qcb rfl underlying29 rfl) ?_
 refine Jp.y 47 rfl (qab rfl rfl rfl rfl) rfl rfl Kp.true (Y.gtr rfl rfl rfl) ?_
 refine Jp.y 48 rfl (qaa rfl) rfl rfl Kp.true (Y.qay rfl rfl rfl) ?_
 refine Jp.qae hK5 ?_
 refine Cd.qaq rfl (fun g48=>?_) (fun g48=>?_)
 ·skip
  refine Cd.seq fun K11 hK11=>?_
  refine Cd.qac [(0,false)] rfl rfl ?_
  refine Jp.y 8 rfl (qaa rfl) rfl rfl Kp.true (Y.assign rfl rfl) ?_
  refine Jp.qae hK11 ?_
  refine Cd.ret [] rfl (qbf rfl rfl) trivial ⟨rfl,rfl⟩
 try simp only [sG0] at g48
 refine Cd.qbp hK4 ?_
 refine Cd.seq fun K12 hK12=>?_
 refine Cd.qac [(0,false),(1,false),(2,false),(3,false)] rfl rfl ?_
 have hOk : StOk s:=hc.ok (by omega)
 refine Jp.y 49 rfl (qaa rfl) rfl rfl Kp.true (Y.move rfl rfl) ?_
 refine Jp.y 50 rfl (qaa rfl) rfl rfl Kp.true (Y.move rfl rfl) ?_
 refine Jp.call [] [0] (made13_spec A c xs dA dc bs hxs) 51 rfl (qaa rfl) rfl rfl (Runs.fn rfl call6 rfl) (by decide) (by decide) rfl ⟨hr,hrd⟩ ?_
 rintro v2 ρ2 L2 ⟨b,rfl,rfl⟩
 refine ⟨rfl,fun hle2=>⟨Kp.true,?_⟩⟩
 have hsi:=RdSinkGs.up _ _ _ hle2 hsi
 obtain ⟨M,hM⟩ : ∃ M,madeD xs bs = M:=⟨_,rfl⟩
 rw [hM]
 clear hM
 refine Jp.y 9 rfl (qaa rfl) rfl rfl Kp.true (Y.assign rfl rfl) ?_
 refine Jp.qae hK12 ?_
 refine Cd.seq fun K13 hK13=>?_
 refine Cd.qac [(0,false),(1,false),(2,false),(3,false),(4,false),(5,false)] rfl rfl ?_
 refine Jp.call [] [1] (shNew_spec 0) 53 rfl (qaa rfl) rfl rfl (Runs.fn rfl call7 rfl) (by decide) (by decide) rfl trivial ?_
 rintro v3 ρ3 L3 ⟨rfl,bh,rfl,rfl⟩
 refine ⟨rfl,fun hle3=>⟨Kp.true,?_⟩⟩
 have hS:=qgx b bh M ⟨0,[]⟩ s lb0 ⟨pp,⟨sA,sc,so⟩,⟨kA,kc,ks⟩⟩ hOk rfl (show ks.length ≤ 4096 by omega)
 dsimp only at hS
 have hC:=flow_clean M 0 s pp ks
 have hGl:=flowP_slen M ⟨0,[]⟩ lb0 pp ks hOk
 obtain ⟨G,hG⟩ : ∃ G,qgs M ⟨0,[]⟩ s lb0 pp ks = G:=⟨_,rfl⟩
 rw [hG] at hS hC hGl
 clear hG
 obtain ⟨gs,gx,gal,gev,ger,gm,gsh⟩:=G
 dsimp only at hC hGl
 obtain ⟨rfl,rfl,rfl,rfl⟩:=hC
 have hGo:=StP.one gs
 have hel : gev.cells.length = 3:=rfl
 have heo : gev.cells.all one = true:=by unfold EvP.cells; simp [one]
 refine Jp.y 52 rfl (qaa rfl) rfl rfl Kp.true (Y.move rfl rfl) ?_
 refine Jp.y 54 rfl (qaa rfl) rfl rfl Kp.true (Y.extract rfl rfl rfl) ?_
 refine Jp.y 55 rfl (qaa rfl) rfl rfl Kp.true (Y.extract rfl rfl rfl) ?_
 refine Jp.y 10 rfl (qaa rfl) rfl rfl Kp.true (Y.assign rfl rfl) ?_
 refine Jp.y 11 rfl (qaa rfl) rfl rfl Kp.true (Y.assign rfl rfl) ?_
 refine Jp.qae hK13 ?_
 refine Cd.seq fun K14 hK14=>?_
 refine Cd.qac [(0,false),(1,false),(2,false),(3,false),(4,false),(5,false),(6,false),(7,false),(8,false),(9,false),(10,false),(11,false),(12,false),(13,false),(14,false),(15,false),(16,false),(17,false),(18,false),(19,false)] rfl rfl ?_
 refine Jp.y 57 rfl (qaa rfl) rfl rfl Kp.true (Y.move rfl rfl) ?_
 refine Jp.y 58 rfl (qaa rfl) rfl rfl Kp.true (Y.move rfl rfl) ?_
 refine Jp.y 59 rfl (qaa rfl) rfl rfl Kp.true (by exact Y.qaj 6 rfl isAgg27 sizeOf27 rfl rfl (by first | rfl | assumption)) ?_
 refine Jp.y 60 rfl (qaa rfl) rfl rfl Kp.true (Y.array [] [_,_,_,_,_,_,_,_,_,_,_,_,_,_,_,_,_,_,_,_,_,_,_,_,_,_,_,_,_,_,_,_,_,_,_,_,_,_,_,_,_,_,_,_,_,_,_,_,_,_,_,_,_,_,_,_,_,_,_,_,_,_,_,_,_,_,_,_,_,_,_,_,_,_,_,_,_,_,_,_,_,_,_,_,_,_,_,_,_,_,_,_,_,_,_,_,_,_,_,_,_,_,_,_,_,_,_,_,_,_,_,_,_,_,_,_,_,_,_,_,_,_,_,_,_,_,_,_] rfl rfl underlying42 sizeOf40 zeroValue42 rfl) ?_
 refine Jp.y 61 rfl (qaa rfl) rfl rfl Kp.true (by exact Y.qaj 7 rfl isAgg31 sizeOf31 rfl rfl (by first | rfl | assumption)) ?_
 refine Jp.call [0,1] [0,1,20] hS 62 rfl (qaa rfl) rfl rfl (Runs.fn rfl call8 rfl) (by decide) (by decide) rfl hsi ?_
 rintro v4 ρ4 L4 ⟨AA,cc,rfl,rfl⟩
 refine ⟨rfl,fun hle4=>⟨Kp.true,?_⟩⟩
 refine Jp.y 56 rfl (qaa rfl) rfl rfl Kp.true (Y.move rfl rfl) ?_
 refine Jp.y 63 rfl (qaa rfl) rfl rfl Kp.true (Y.extract rfl rfl rfl) ?_
 refine Jp.y 64 rfl (qaa rfl) rfl rfl Kp.true (Y.extract rfl rfl rfl) ?_
 refine Jp.y 65 rfl (qaa rfl) rfl rfl Kp.true (Y.extract rfl rfl rfl) ?_
 refine Jp.y 66 rfl (qaa rfl) rfl rfl Kp.true (Y.extract rfl rfl rfl) ?_
 refine Jp.y 67 rfl (qaa rfl) rfl rfl Kp.true (Y.extract rfl rfl rfl) ?_
 refine Jp.alloc 12 12 rfl (qaa rfl) rfl rfl rfl zeroValue27 fun b12=>⟨Kp.true,?_⟩
 refine Jp.alloc 13 13 rfl (qaa rfl) rfl rfl rfl zeroValue42 fun b13=>⟨Kp.true,?_⟩
 refine Jp.alloc 15 15 rfl (qaa rfl) rfl rfl rfl zeroValue46 fun b15=>⟨Kp.true,?_⟩
 refine Jp.qak 12 rfl (qaa rfl) rfl rfl sizeOf27 rfl rfl (by first | rfl | assumption) (by first | rfl | assumption) rfl (by first | rfl | assumption) (fun k _ _=>qat k) Kp.true ?_
 refine Jp.qak 13 rfl (qaa rfl) rfl rfl sizeOf42 rfl rfl (by first | rfl | assumption) (by first | rfl | assumption) rfl (by first | rfl | assumption) (fun k _ _=>qat k) Kp.true ?_
 refine Jp.y 14 rfl (qaa rfl) rfl rfl Kp.true (Y.assign rfl rfl) ?_
 refine Jp.qak 15 rfl (qaa rfl) rfl rfl sizeOf46 rfl rfl (by first | rfl | assumption) (by first | rfl | assumption) rfl (by first | rfl | assumption) (fun k _ _=>qat k) Kp.true ?_
 refine Jp.y 16 rfl (qaa rfl) rfl rfl Kp.true (Y.assign rfl rfl) ?_
 refine Jp.qae hK14 ?_
 refine Cd.seq fun K15 hK15=>?_
 refine Cd.qac [(0,false),(1,false),(2,false),(3,false),(4,false),(5,false),(6,false),(7,false),(8,false),(9,false),(10,false),(11,false),(12,false),(13,false),(14,false),(15,false),(16,false),(17,false),(18,false)] rfl rfl ?_
 refine Jp.y 68 rfl (qaa rfl) rfl rfl Kp.true (Y.move rfl rfl) ?_
 refine Jp.y 69 rfl (qaa rfl) rfl rfl Kp.true (Y.eql rfl rfl rfl) ?_
 refine Jp.y 70 rfl (qaa rfl) rfl rfl Kp.true (Y.move rfl rfl) ?_
 refine Jp.slot 70 rfl (show _ = Value.bool true from rfl) ?_
 refine Jp.y 71 rfl (qab rfl rfl rfl rfl) rfl rfl Kp.true (by exact Y.qaj 13 rfl isAgg42 sizeOf42 rfl rfl (by first | rfl | assumption)) ?_
 refine Jp.y 72 rfl (qab rfl rfl rfl rfl) rfl rfl Kp.true (Y.array [] [_,_,_,_,_,_,_,_,_,_,_,_,_,_,_,_,_,_,_,_,_,_,_,_,_,_,_,_,_,_,_,_,_,_,_,_,_,_,_,_,_,_,_,_,_,_,_,_,_,_,_,_,_,_,_,_,_,_,_,_,_,_,_,_,_,_,_,_,_,_,_,_,_,_,_,_,_,_,_,_,_,_,_,_,_,_,_,_,_,_,_,_,_,_,_,_,_,_,_,_,_,_,_,_,_,_,_,_,_,_,_,_,_,_,_,_,_,_,_,_,_,_,_,_,_,_,_,_] rfl rfl underlying42 sizeOf40 zeroValue42 rfl) ?_
 refine Jp.y 73 rfl (qab rfl rfl rfl rfl) rfl rfl Kp.true (Y.eqlV (xs:=(qai lb0).toArray) (ys:=(qai lb0).toArray) (r:=true) rfl rfl rfl labels_guard (fun w=>by rw [labels_eq rfl rfl,decide_eq_true rfl])) ?_
 refine Jp.y 74 rfl (qaa rfl) rfl rfl Kp.true (Y.qav rfl rfl rfl) ?_
 refine Jp.y 75 rfl (qaa rfl) rfl rfl Kp.true (Y.move rfl rfl) ?_
 refine Jp.slot 75 rfl (show _ = Value.bool true from rfl) ?_
 refine Jp.y 76 rfl (qab rfl rfl rfl rfl) rfl rfl Kp.true (Y.move rfl rfl) ?_
 refine Jp.y 77 rfl (qab rfl rfl rfl rfl) rfl rfl Kp.true (Y.qcb rfl underlying43 rfl) ?_
 refine Jp.y 78 rfl (qab rfl rfl rfl rfl) rfl rfl Kp.true (Y.eql rfl rfl rfl) ?_
 refine Jp.y 79 rfl (qaa rfl) rfl rfl Kp.true (Y.qav rfl rfl rfl) ?_
 refine Jp.y 80 rfl (qaa rfl) rfl rfl Kp.true (Y.move rfl rfl) ?_
 refine Jp.slot 80 rfl (show _ = Value.bool true from rfl) ?_
 refine Jp.y 81 rfl (qab rfl rfl rfl rfl) rfl rfl Kp.true (Y.move rfl rfl) ?_
 refine Jp.call [1] [1,30] (shDirty_spec bh ⟨0,[]⟩) 82 rfl (qab rfl rfl rfl rfl) rfl rfl (Runs.fn rfl call9 rfl) (by decide) (by decide) rfl trivial ?_
 rintro v5 ρ5 L5 ⟨AD,cD,rfl,rfl⟩
 refine ⟨rfl,fun hle5=>⟨Kp.true,?_⟩⟩
 refine Jp.y 83 rfl (qab rfl rfl rfl rfl) rfl rfl Kp.true (Y.qcb rfl underlying22 rfl) ?_
 refine Jp.y 84 rfl (qab rfl rfl rfl rfl) rfl rfl Kp.true (Y.eql rfl rfl rfl) ?_
 refine Jp.y 85 rfl (qaa rfl) rfl rfl Kp.true (Y.qav rfl rfl rfl) ?_
 refine Jp.y 8 rfl (qaa rfl) rfl rfl Kp.true (Y.assign rfl rfl) ?_
 refine Jp.qae hK15 ?_
 refine Cd.ret [] rfl (qbf rfl rfl) trivial ⟨rfl,rfl⟩
end Go.Proofs.YtnfkalpgidiafaaGreat

namespace Go.Proofs.YtnfkalpgidiafaaGreat
open Go Go.ChangeShapes Go.WideShapes Go.ChangeAt Go.RowKit
theorem Rdd.array {P : Program} {w : World} {t e : TypeId} {cs : List Value} {n : Nat} (hu : P.underlying t = some (.array n e)) (h : Rdd P w t cs) :
  cs.length = P.cellsOf t ∧ ∀ i,i < n → Rdd P w e ((cs.drop (i * P.cellsOf e)).take (P.cellsOf e)):=by
 obtain ⟨H,enc,base,spare,held,fuel,d,ps,h,hs⟩:=h
 obtain ⟨xs,m,rfl,h2,h3,h4,h5⟩:=DataW.trod_array hu h
 injection h2 with h2 _
 subst h2
 refine ⟨h3,fun i hi=>?_⟩
 have e1 : xs[i]? = some (xs[i]'(by omega)):=by simp [show i < xs.length by omega]
 refine ⟨H,enc,base,spare,held,m,(xs[i]'(by omega)).1,(xs[i]'(by omega)).2,(h5 i hi).trans e1,fun k hk=>hs k ?_⟩
 rw [DataW.weights,hu]
 exact qgu hk (List.mem_map.2 ⟨_,List.getElem_mem _,rfl⟩)
theorem Rdd.arrI {P : Program} {w : World} {t e : TypeId} {cs : List Value} {n : Nat} {k : IntKind} (hu : P.underlying t = some (.array n e)) (he : P.underlying e = some (.int k)) (hm : P.cellsOf e = 1) (ht : P.cellsOf t = n) (h : Rdd P w t cs) :
  ∃ xs : List Int,cs = xs.map (fun x=>Value.int k x) ∧ xs.length = n ∧ ∀ x ∈ xs,(Lit.int k x).wf = true:=by
 obtain ⟨h1,h2⟩:=Rdd.array hu h
 rw [ht] at h1
 have key : ∀ (cs : List Value),(∀ v ∈ cs,∃ x,v = Value.int k x ∧ (Lit.int k x).wf = true) → ∃ xs : List Int,cs = xs.map (fun x=>Value.int k x) ∧ ∀ x ∈ xs,(Lit.int k x).wf = true:=by
  intro cs
  induction cs with
  | nil=>intro _; exact ⟨[],rfl,fun x h=>by cases h⟩
  | cons v cs ih =>
   intro h
   obtain ⟨x,rfl,hx⟩:=h v (List.mem_cons_self ..)
   obtain ⟨xs,rfl,hxs⟩:=ih fun v hv=>h v (List.mem_cons_of_mem _ hv)
   refine ⟨x :: xs,rfl,fun y hy=>?_⟩
   rcases List.mem_cons.1 hy with rfl | hy
   ·exact hx
   ·exact hxs y hy
 obtain ⟨xs,e1,e2⟩:=key cs fun v hv=>by
  obtain ⟨i,hi,rfl⟩:=List.mem_iff_getElem.1 hv
  have:=h2 i (by omega)
  rw [hm,Nat.mul_one] at this
  have h3 : (cs.drop i).take 1 = [cs[i]]:=by
   rw [List.drop_eq_getElem_cons hi,List.take_succ_cons,List.take_zero]
  rw [h3] at this
  obtain ⟨x,hx,hw⟩:=Rdd.int he this
  injection hx with hx
  exact ⟨x,hx,hw⟩
 exact ⟨xs,e1,by rw [← h1,e1,List.length_map],e2⟩
theorem Rdd.arrN {P : Program} {w : World} {t e : TypeId} {cs : List Value} {n : Nat} {k : IntKind} {N : Nat} (hk : ∀ x : Int,(Lit.int k x).wf = true → 0 ≤ x ∧ x < N) (hu : P.underlying t = some (.array n e)) (he : P.underlying e = some (.int k)) (hm : P.cellsOf e = 1) (ht : P.cellsOf t = n) (h : Rdd P w t cs) :
  ∃ xs : List Nat,cs = xs.map (fun x : Nat=>Value.int k (x : Int)) ∧ xs.length = n ∧ ∀ x ∈ xs,x < N:=by
 obtain ⟨xs,rfl,h1,h2⟩:=Rdd.arrI hu he hm ht h
 refine ⟨xs.map Int.toNat,?_,by rw [List.length_map]; exact h1,fun x hx=>?_⟩
 ·rw [List.map_map]
  refine List.map_congr_left fun x hx=>?_
  have:=hk x (h2 x hx)
  simp only [Function.comp]
  rw [show ((x.toNat : Nat) : Int) = x by omega]
 ·obtain ⟨y,hy,rfl⟩:=List.mem_map.1 hx
  have:=hk y (h2 y hy)
  omega
theorem wfn_u32 (x : Int) (h : (Lit.int .u32 x).wf = true) : 0 ≤ x ∧ x < (4294967296 : Nat):=by
 rw [Lit.wf,Bool.and_eq_true] at h
 have h1 : 0 ≤ x:=of_decide_eq_true h.1
 have h2 : x ≤ 4294967295:=of_decide_eq_true h.2
 omega
end Go.Proofs.YtnfkalpgidiafaaGreat

namespace Go.Proofs.YtnfkalpgidiafaaGreat
open Go Go.ChangeShapes Go.WideShapes Go.ChangeAt Go.RowKit
end Go.Proofs.YtnfkalpgidiafaaGreat

namespace Go.Proofs.YtnfkalpgidiafaaGreat
open _root_.Go.Proofs.Tryz
open Go Go.ChangeShapes Go.WideShapes Go.ChangeAt Go.RowKit
theorem qfr : Tryz.prog.cellsOf 3 = 1:=by kernel_rfl
theorem qgy : Tryz.prog.cellsOf 24 = 1:=by kernel_rfl
theorem qig : Tryz.prog.cellsOf 5 = 1:=by kernel_rfl
theorem qgh : Tryz.prog.cellsOf 215 = 4:=by kernel_rfl
theorem bytes_215_PolRd : 1 ≤ Tryz.prog.bytesOf 215:=of_decide_eq_true (by kernel_rfl)
theorem Rdd.rSourceG {w : World} {cs : List Value} (h : Rdd Tryz.prog w 215 cs) : ∃ x : SourceG,cs = x.cells ∧ x.Rd (whole w):=by
 obtain ⟨h1,h3⟩:=Rdd.struct underlying215 h
 rw [qgh] at h1
 match cs,h1 with
 | [c0,c1,c2,c3],_ =>
  have f0:=Rdd.cut [c0] (h3 0 _ rfl) qfr rfl
  obtain ⟨x0,q0,r0⟩:=Rdd.int underlying3 f0
  injection q0 with q0
  have f1:=Rdd.cut [c1] (h3 1 _ rfl) qgy rfl
  obtain ⟨z1,q1,w1⟩:=Rdd.int underlying24 f1
  obtain ⟨x1,rfl,r1⟩:=wf_u32 w1
  injection q1 with q1
  have f2:=Rdd.cut [c2] (h3 2 _ rfl) qgy rfl
  obtain ⟨z2,q2,w2⟩:=Rdd.int underlying24 f2
  obtain ⟨x2,rfl,r2⟩:=wf_u32 w2
  injection q2 with q2
  have f3:=Rdd.cut [c3] (h3 3 _ rfl) qig rfl
  obtain ⟨z3,q3,w3⟩:=Rdd.int underlying5 f3
  obtain ⟨x3,rfl,r3⟩:=wf_u8 w3
  injection q3 with q3
  exact ⟨⟨x0,x1,x2,x3⟩,by rw [q0,q1,q2,q3]; rfl,⟨r0,r1,r2,r3⟩⟩
theorem Rdd.rSourceGs {w : World} {t : TypeId} {cs : List Value} (hu : Tryz.prog.underlying t = some (.slice 215)) (h : Rdd Tryz.prog w t cs) : ∃ s : Sl SourceG,cs = [s.v] ∧ RdSourceGs s (whole w):=by
 obtain ⟨A,len,cap,rows,e0,hl,hrow,hrd⟩:=Rdd.slice hu qgh bytes_215_PolRd h
 obtain ⟨xs,rfl,hx⟩:=rows_of (c:=SourceG.cells) (I:=fun x=>x.Rd (whole w)) (fun r hr=>Rdd.rSourceG (hrow r hr).2)
 rw [List.length_map] at hl
 subst hl
 exact ⟨⟨A,cap,xs⟩,e0,by rw [← List.flatMap_def] at hrd; exact hrd,hx⟩
theorem qgi : Tryz.prog.cellsOf 154 = 3:=by kernel_rfl
theorem bytes_154_PolRd : 1 ≤ Tryz.prog.bytesOf 154:=of_decide_eq_true (by kernel_rfl)
theorem Rdd.rSinkG {w : World} {cs : List Value} (h : Rdd Tryz.prog w 154 cs) : ∃ x : SinkG,cs = x.cells ∧ x.Rd (whole w):=by
 obtain ⟨h1,h3⟩:=Rdd.struct underlying154 h
 rw [qgi] at h1
 match cs,h1 with
 | [c0,c1,c2],_ =>
  have f0:=Rdd.cut [c0] (h3 0 _ rfl) qfr rfl
  obtain ⟨x0,q0,r0⟩:=Rdd.int underlying3 f0
  injection q0 with q0
  have f1:=Rdd.cut [c1] (h3 1 _ rfl) qfr rfl
  obtain ⟨x1,q1,r1⟩:=Rdd.int underlying3 f1
  injection q1 with q1
  have f2:=Rdd.cut [c2] (h3 2 _ rfl) qig rfl
  obtain ⟨z2,q2,w2⟩:=Rdd.int underlying5 f2
  obtain ⟨x2,rfl,r2⟩:=wf_u8 w2
  injection q2 with q2
  exact ⟨⟨x0,x1,x2⟩,by rw [q0,q1,q2]; rfl,⟨r0,r1,r2⟩⟩
theorem Rdd.rSinkGs {w : World} {t : TypeId} {cs : List Value} (hu : Tryz.prog.underlying t = some (.slice 154)) (h : Rdd Tryz.prog w t cs) : ∃ s : Sl SinkG,cs = [s.v] ∧ RdSinkGs s (whole w):=by
 obtain ⟨A,len,cap,rows,e0,hl,hrow,hrd⟩:=Rdd.slice hu qgi bytes_154_PolRd h
 obtain ⟨xs,rfl,hx⟩:=rows_of (c:=SinkG.cells) (I:=fun x=>x.Rd (whole w)) (fun r hr=>Rdd.rSinkG (hrow r hr).2)
 rw [List.length_map] at hl
 subst hl
 exact ⟨⟨A,cap,xs⟩,e0,by rw [← List.flatMap_def] at hrd; exact hrd,hx⟩
theorem cells_4_PolRd : Tryz.prog.cellsOf 4 = 1:=by kernel_rfl
theorem cells_28_PolRd : Tryz.prog.cellsOf 28 = 1:=by kernel_rfl
theorem cells_29_PolRd : Tryz.prog.cellsOf 29 = 1:=by kernel_rfl
theorem cells_31_PolRd : Tryz.prog.cellsOf 31 = 3:=by kernel_rfl
theorem Rdd.rPolG {w : World} {cs : List Value} (h : Rdd Tryz.prog w 31 cs) : ∃ x : PolG,cs = x.cells ∧ x.Rd (whole w):=by
 obtain ⟨h1,h3⟩:=Rdd.struct underlying31 h
 rw [cells_31_PolRd] at h1
 match cs,h1 with
 | [c0,c1,c2],_ =>
  have f0:=Rdd.cut [c0] (h3 0 _ rfl) cells_4_PolRd rfl
  obtain ⟨x0,q0⟩:=Rdd.bool underlying4 f0
  injection q0 with q0
  have f1:=Rdd.cut [c1] (h3 1 _ rfl) cells_28_PolRd rfl
  obtain ⟨x1,q1,r1⟩:=Rdd.rSourceGs underlying28 f1
  injection q1 with q1
  have f2:=Rdd.cut [c2] (h3 2 _ rfl) cells_29_PolRd rfl
  obtain ⟨x2,q2,r2⟩:=Rdd.rSinkGs underlying29 f2
  injection q2 with q2
  exact ⟨⟨x0,x1,x2⟩,by rw [q0,q1,q2]; rfl,⟨trivial,r1,r2⟩⟩
end Go.Proofs.YtnfkalpgidiafaaGreat

namespace Go.Proofs.YtnfkalpgidiafaaGreat
open _root_.Go.Proofs.Tryz
open Go Go.ChangeShapes Go.WideShapes Go.ChangeAt Go.RowKit
theorem scells_u32 : Tryz.prog.cellsOf 24 = 1:=by kernel_rfl
theorem scells_i64 : Tryz.prog.cellsOf 2 = 1:=by kernel_rfl
theorem scells_arr : Tryz.prog.cellsOf 25 = 32:=by kernel_rfl
theorem scells_st : Tryz.prog.cellsOf 27 = 34:=by kernel_rfl
theorem three_cut {cs : List Value} (h : cs.length = 34) : cs = (cs.drop 0).take 32 ++ ((cs.drop 32).take 1 ++ (cs.drop 33).take 1):=by
 rw [List.drop_zero]
 apply List.ext_getElem?
 intro i
 by_cases h1 : i < 32
 ·rw [List.getElem?_append_left (by rw [List.length_take]; omega),List.getElem?_take_of_lt h1]
 ·rw [List.getElem?_append_right (by rw [List.length_take]; omega),List.length_take,show min 32 cs.length = 32 by omega]
  rcases (show i = 32 ∨ i = 33 ∨ 34 ≤ i by omega) with rfl | rfl | h2
  ·rw [List.getElem?_append_left (by simp [h])]; simp
  ·rw [List.getElem?_append_right (by simp [h])]; simp [h]
  ·rw [List.getElem?_eq_none (by omega),List.getElem?_eq_none (by simp; omega)]
theorem Rdd.stW {w : World} {cs : List Value} (h : Rdd Tryz.prog w 27 cs) : ∃ s : StP,cs = s.cells ∧ StRd s:=by
 obtain ⟨h1,h3⟩:=Rdd.struct underlying27 h
 rw [scells_st] at h1
 have f0:=Rdd.cut ((cs.drop 0).take 32) (h3 0 _ rfl) scells_arr rfl
 obtain ⟨x,q0,r0,r1⟩:=Rdd.arrN wfn_u32 underlying25 underlying24 scells_u32 scells_arr f0
 have f1:=Rdd.cut ((cs.drop 32).take 1) (h3 1 _ rfl) scells_u32 rfl
 obtain ⟨z1,q1,w1⟩:=Rdd.int underlying24 f1
 obtain ⟨pc,rfl,hpc⟩:=wf_u32 w1
 have f2:=Rdd.cut ((cs.drop 33).take 1) (h3 2 _ rfl) scells_i64 rfl
 obtain ⟨ret,q2,r2⟩:=Rdd.int underlying2 f2
 refine ⟨⟨x,pc,ret⟩,?_,⟨r0,r1,hpc,wf_i64 r2⟩⟩
 rw [three_cut h1,q0,q1,q2]
 simp [StP.cells,qbd]
end Go.Proofs.YtnfkalpgidiafaaGreat

namespace Go.Proofs.YtnfkalpgidiafaaGreat
open _root_.Go.Proofs.Tryz
open Go Go.ChangeShapes Go.WideShapes Go.ChangeAt Go.RowKit
theorem cells_5_L13Ra : Tryz.prog.cellsOf 5 = 1:=by kernel_rfl
theorem bytes_5_L13Ra : 1 ≤ Tryz.prog.bytesOf 5:=of_decide_eq_true (by kernel_rfl)
theorem cells_24_L13Ra : Tryz.prog.cellsOf 24 = 1:=by kernel_rfl
theorem bytes_24_L13Ra : 1 ≤ Tryz.prog.bytesOf 24:=of_decide_eq_true (by kernel_rfl)
theorem w3 (W : World) {b : Nat} (v0 v1 v2 v3 : Value) (o0 : Value.okWide Tryz.prog W .any b 22 v0) (o1 : Value.okWide Tryz.prog W .any b 23 v1) (o2 : Value.okWide Tryz.prog W .any b 27 v2) (o3 : Value.okWide Tryz.prog W .any b 31 v3) (q0 : Rdd Tryz.prog W 22 v0.cells.toList) (q1 : Rdd Tryz.prog W 23 v1.cells.toList) (q2 : Rdd Tryz.prog W 27 v2.cells.toList) (q3 : Rdd Tryz.prog W 31 v3.cells.toList) :
  Calls Tryz.prog 3 #[v0,v1,v2,v3] W fun e w'=>e = .returned (.bool true) ∧ Below W.heap.size W w':=by
 obtain ⟨s0,e0,r0,f0⟩:=Rdd.ints underlying22 underlying24 cells_24_L13Ra bytes_24_L13Ra q0
 obtain rfl:=val_slice (w:=W) underlying22 o0 e0
 obtain ⟨s1,e1,r1⟩:=Rdd.u8s underlying23 underlying5 cells_5_L13Ra bytes_5_L13Ra q1
 obtain rfl:=val_slice (w:=W) underlying23 o1 e1
 obtain ⟨s2,e2,r2⟩:=Rdd.stW q2
 obtain rfl:=val_struct (w:=W) underlying27 o2 e2
 obtain ⟨s3,e3,r3⟩:=Rdd.rPolG q3
 obtain rfl:=val_struct (w:=W) underlying31 o3 e3
 exact (flowClean_spec s0.A s0.c s0.xs s1.A s1.c s1.xs s2 s3 (fun x hx=>wf_u32 (f0 x hx)) r2).walk W ⟨r0,r1,r3⟩
end Go.Proofs.YtnfkalpgidiafaaGreat
