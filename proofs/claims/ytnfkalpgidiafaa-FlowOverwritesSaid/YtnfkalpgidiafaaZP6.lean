import Derived.Test.YtnfkalpgidiafaaZP5
import Derived.Test.YtnfkalpgidiafaaZP2
import Derived.Test.YtnfkalpgidiafaaZP3
import Derived.Test.YtnfkalpgidiafaaZP4
import Derived.Test.YtnfkalpgidiafaaZP1
set_option linter.unusedVariables false
set_option linter.unusedSimpArgs false
set_option maxRecDepth 100000
namespace Go.Proofs.Ytnfkalpgidiafaa
open _root_.Go.Proofs.Try
open Go
structure SourceG where
 kind : Int
 arg : Nat
 flen : Nat
 label : Nat
def SourceG.cells (x : SourceG) : List Value:=[.int .i64 x.kind,.int .u32 (x.arg : Int),.int .u32 (x.flen : Int),.int .u8 (x.label : Int)]
structure SourceG.Rd (x : SourceG) (h : Hp) : Prop where
 kind : (Lit.int .i64 x.kind).wf = true
 arg : x.arg < 4294967296
 flen : x.flen < 4294967296
 label : x.label < 256
theorem SourceG.up (x : SourceG) : Up x.Rd:=fun h k l r=>⟨r.kind,r.arg,r.flen,r.label⟩
theorem SourceG.len (x : SourceG) : x.cells.length = 4:=rfl
def RdSourceGs (s : Sl SourceG) : qax:=RdRows 4 SourceG.cells SourceG.Rd s
theorem RdSourceGs.up (s : Sl SourceG) : Up (RdSourceGs s):=RdRows.up SourceG.up s
structure SinkG where
 kind : Int
 arg : Int
 mask : Nat
def SinkG.cells (x : SinkG) : List Value:=[.int .i64 x.kind,.int .i64 x.arg,.int .u8 (x.mask : Int)]
structure SinkG.Rd (x : SinkG) (h : Hp) : Prop where
 kind : (Lit.int .i64 x.kind).wf = true
 arg : (Lit.int .i64 x.arg).wf = true
 mask : x.mask < 256
theorem SinkG.up (x : SinkG) : Up x.Rd:=fun h k l r=>⟨r.kind,r.arg,r.mask⟩
theorem SinkG.len (x : SinkG) : x.cells.length = 3:=rfl
def RdSinkGs (s : Sl SinkG) : qax:=RdRows 3 SinkG.cells SinkG.Rd s
theorem RdSinkGs.up (s : Sl SinkG) : Up (RdSinkGs s):=RdRows.up SinkG.up s
structure PolG where
 pointer : Bool
 sources : Sl SourceG
 sinks : Sl SinkG
def PolG.cells (x : PolG) : List Value:=[.bool x.pointer,x.sources.v,x.sinks.v]
structure PolG.Rd (x : PolG) (h : Hp) : Prop where
 pointer : True
 sources : RdRows 4 SourceG.cells SourceG.Rd x.sources h
 sinks : RdRows 3 SinkG.cells SinkG.Rd x.sinks h
theorem PolG.up (x : PolG) : Up x.Rd:=fun h k l r=>⟨r.pointer,RdRows.up SourceG.up _ h k l r.sources,RdRows.up SinkG.up _ h k l r.sinks⟩
theorem PolG.len (x : PolG) : x.cells.length = 3:=rfl
def RdPolGs (s : Sl PolG) : qax:=RdRows 3 PolG.cells PolG.Rd s
theorem RdPolGs.up (s : Sl PolG) : Up (RdPolGs s):=RdRows.up PolG.up s
def hitB (kind arg : Int) (l : UInt8) (s : SinkG) : Bool:=s.kind == kind && (!(kind == 4) || s.arg == arg) && !((s.mask &&& l.toNat) == 0)
def qez (f : SinkG → Bool) (xs : List SinkG) (k : Nat) : List Nat:=(List.range k).filter fun j=>(xs[j]?).any f
theorem hitsK_yes {f : SinkG → Bool} {xs : List SinkG} {k : Nat} {s : SinkG} (h : xs[k]? = some s) (hf : f s = true) : qez f xs (k + 1) = qez f xs k ++ [k]:=by
 unfold qez
 rw [List.range_succ,List.filter_append]
 simp [h,hf]
theorem hitsK_no {f : SinkG → Bool} {xs : List SinkG} {k : Nat} {s : SinkG} (h : xs[k]? = some s) (hf : f s = false) : qez f xs (k + 1) = qez f xs k:=by
 unfold qez
 rw [List.range_succ,List.filter_append]
 simp [h,hf]
theorem hitsK_len (f : SinkG → Bool) (xs : List SinkG) (k : Nat) : (qez f xs k).length ≤ k:=by
 unfold qez
 refine Nat.le_trans (List.length_filter_le _ _) ?_
 rw [List.length_range]
 exact Nat.le_refl _
theorem hits_spec (kind arg : Int) (l : UInt8) (p : PolG) (hn : p.sinks.xs.length ≤ 4096) : Spec Try.prog 41 #[.agg p.cells.toArray,.int .i64 kind,.int .i64 arg,.int .u8 (l.toNat : Int)] (RdSinkGs p.sinks) []
    (fun ρ ρ' v L=>ρ' = ρ ∧ ∃ A c,v = .slice A (qez (hitB kind arg l) p.sinks.xs p.sinks.xs.length).length c ∧ L = [(0,OwnS 3 1 A (qez (hitB kind arg l) p.sinks.xs p.sinks.xs.length).length c (qcf .i64 (qez (hitB kind arg l) p.sinks.xs p.sinks.xs.length)))]):=by
  obtain ⟨pp,⟨Ao,co,so⟩,⟨A,c,xs⟩⟩:=p
  have hn : xs.length ≤ 4096:=hn
  obtain ⟨f,hf⟩ : ∃ f,hitB kind arg l = f:=⟨_,rfl⟩
  rw [hf]
  dsimp only [PolG.cells,Sl.v]
  have hll:=l.toNat_lt
  refine Spec.of 47 Try.func41 rfl Try.ntmps41 [(0,_),(1,_),(2,_),(3,_)] rfl rfl ?_
  intro cx ρ hr h0
  have hR : RdS 3 A xs.length c (xs.flatMap SinkG.cells) ρ:=hr.1
  refine Cd.seq fun K1 hK1=>?_
  refine Cd.qac [(0,false),(1,false)] rfl rfl ?_
  refine Jp.box 1 4 rfl (qaa rfl) rfl rfl rfl rfl fun b1=>⟨Kp.true,?_⟩
  refine Jp.y 8 rfl (qaa rfl) rfl rfl Kp.true (Y.assign rfl rfl) ?_
  refine Jp.qae hK1 ?_
  refine Cd.seq fun K2 hK2=>?_
  refine Cd.qac [(0,false)] rfl rfl ?_
  refine Jp.y 9 rfl (qaa rfl) rfl rfl Kp.true (Y.assign rfl rfl) ?_
  refine Jp.qae hK2 ?_
  refine Cd.seq fun K3 hK3=>?_
  refine Cd.seq fun K4 hK4=>?_
  refine Cd.qac [(0,false),(1,false),(2,false),(3,false)] rfl rfl ?_
  refine Jp.y 12 rfl (qaa rfl) rfl rfl Kp.true (by exact Y.qad rfl rfl underlying28 rfl sizeOf25 (by decide) (show _ + 2 = _ from rfl)) ?_
  refine Jp.y 13 rfl (qaa rfl) rfl rfl Kp.true (Y.qaw 1 rfl isAgg25 rfl rfl rfl) ?_
  refine Jp.y 14 rfl (qaa rfl) rfl rfl Kp.true (Y.qck rfl underlying25 rfl) ?_
  refine Jp.y 15 rfl (qaa rfl) rfl rfl Kp.true (Y.move rfl rfl) ?_
  refine Jp.qae hK4 ?_
  refine Cd.block ?_
  refine Cd.make 0 (show OwnS 3 1 none 0 0 (qcf .i64 (qez f xs 0)) Hp.emp from OwnS.nil 3 1 Hp.emp) ?_
  refine Cd.loop (G:=Nat × Option Addr × Nat) (fun g=>g.1 ≤ xs.length) (fun g=>xs.length - g.1) (fun _=>ρ) (fun g=>[(1,.int .i64 kind),(2,.int .i64 arg),(3,.int .u8 (l.toNat : Int)),(13,.slice A xs.length c),(14,.int .i64 xs.length),(15,.int .i64 g.1),(9,.slice g.2.1 (qez f xs g.1).length g.2.2)]) (fun g=>[(0,OwnS 3 1 g.2.1 (qez f xs g.1).length g.2.2 (qcf .i64 (qez f xs g.1)))]) (0,none,0) (Nat.zero_le _) rfl ⟨rfl,rfl,rfl,rfl,rfl,rfl,rfl,trivial⟩ ⟨rfl,trivial⟩ (fun g KLa hok hLa=>?_)
  obtain ⟨k,A2,c2⟩:=g
  dsimp only at hok ⊢
  refine Cd.seq fun K5 hK5=>?_
  refine Cd.qac [(0,false)] rfl rfl ?_
  refine Jp.y 16 rfl (qaa rfl) rfl rfl Kp.true (Y.lss rfl rfl rfl) ?_
  refine Jp.qae hK5 ?_
  refine Cd.seq fun K6 hK6=>?_
  refine Cd.qaq rfl (fun ga=>?_) (fun ga=>?_)
  · simp only [decide_eq_true_eq] at ga
    have hk : k < xs.length:=by omega
    obtain ⟨s,hs⟩ : ∃ s,xs[k]? = some s:=⟨xs[k],by simp [hk]⟩
    obtain ⟨ad,hA,hC,hM⟩:=RdRows.at SinkG.len (by decide) hr hs
    have hA : A = some ad:=hA
    subst hA
    have hc0 : qdq ρ ((ad.add (k * 3)).add 0) = some (.int .i64 s.kind):=hC 0 _ rfl
    have hc1 : qdq ρ ((ad.add (k * 3)).add 1) = some (.int .i64 s.arg):=hC 1 _ rfl
    have hc2 : qdq ρ ((ad.add (k * 3)).add 2) = some (.int .u8 (s.mask : Int)):=hC 2 _ rfl
    have hm : s.mask < 256:=hM.mask
    have hand : qcc .and .u8 (s.mask : Int) (l.toNat : Int) = ((s.mask &&& l.toNat : Nat) : Int):=bits_and8 hm hll
    obtain ⟨s1,s2,s3⟩:=s
    dsimp only at hc0 hc1 hc2 hm hand
    obtain ⟨m3,hm3⟩ : ∃ x,s3 &&& l.toNat = x:=⟨_,rfl⟩
    rw [hm3] at hand
    have hand : qcc .and .u8 (s3 : Int) (l.toNat : Int) = 0 ↔ m3 = 0:=by rw [hand]; omega
    have hfs : f ⟨s1,s2,s3⟩ = (s1 == kind && (!(kind == 4) || s2 == arg) && !(m3 == 0)):=by rw [← hf,← hm3]; rfl
    have hlk:=hitsK_len f xs k
    obtain ⟨q,hq⟩ : ∃ q,qez f xs k = q:=⟨_,rfl⟩
    rw [hq] at hlk ⊢
    refine Cd.qbw hK6 ?_
    refine Cd.seq fun K7 hK7=>?_
    refine Cd.block ?_
    refine Cd.seq fun K8 hK8=>?_
    refine Cd.qac [(0,false),(1,false),(2,false),(3,false),(4,false),(5,false)] rfl rfl ?_
    refine Jp.y 17 rfl (qaa rfl) rfl rfl Kp.true (Y.move rfl rfl) ?_
    refine Jp.y 18 rfl (qaa rfl) rfl rfl Kp.true (Y.qdw (q:=k * 3) rfl rfl rfl underlying25 sizeOf24 (by omega) (by omega) (by omega)) ?_
    refine Jp.y 19 rfl (qaa rfl) rfl rfl Kp.true (Y.loadAggR [.int .i64 s1,.int .i64 s2,.int .u8 (s3 : Int)] rfl isAgg24 sizeOf24 rfl rfl hC) ?_
    refine Jp.alloc 2 11 rfl (qaa rfl) rfl rfl rfl zeroValue24 fun b2=>⟨Kp.true,?_⟩
    refine Jp.y 10 rfl (qaa rfl) rfl rfl Kp.true (Y.assign rfl rfl) ?_
    refine Jp.qbo 2 rfl (qaa rfl) rfl rfl sizeOf24 rfl rfl rfl rfl rfl rfl (fun k _ _=>qap k) Kp.true ?_
    refine Jp.qae hK8 ?_
    refine Cd.seq fun K9 hK9=>?_
    refine Cd.qac [(0,false),(1,false),(2,false),(3,false),(4,false),(5,false),(6,false),(7,false),(8,false),(9,false),(10,false),(11,false),(12,false),(13,false),(14,false),(15,false),(16,false),(17,false),(18,false),(19,false),(20,false)] rfl rfl ?_
    refine Jp.y 20 rfl (qaa rfl) rfl rfl Kp.true (by exact Y.qad rfl rfl underlying24 rfl sizeOf3 (by decide) (show _ + 0 = _ from rfl)) ?_
    refine Jp.y 21 rfl (qaa rfl) rfl rfl Kp.true (by exact Y.qaw 2 rfl isAgg3 rfl rfl rfl) ?_
    refine Jp.y 22 rfl (qaa rfl) rfl rfl Kp.true (Y.move rfl rfl) ?_
    refine Jp.y 23 rfl (qaa rfl) rfl rfl Kp.true (Y.eql rfl rfl rfl) ?_
    refine Jp.y 24 rfl (qaa rfl) rfl rfl Kp.true (Y.move rfl rfl) ?_
    refine Jp.split 24 rfl (fun g24=>?_) (fun g24=>?_)
    · skip
      try simp only [sG0] at g24
      refine Jp.y 25 rfl (qab rfl rfl rfl rfl) rfl rfl Kp.true (Y.move rfl rfl) ?_
      refine Jp.y 26 rfl (qab rfl rfl rfl rfl) rfl rfl Kp.true (Y.neq rfl rfl rfl) ?_
      refine Jp.y 27 rfl (qab rfl rfl rfl rfl) rfl rfl Kp.true (Y.move rfl rfl) ?_
      refine Jp.split 27 rfl (fun g27=>?_) (fun g27=>?_)
      · skip
        try simp only [sG0] at g27
        refine Jp.qat 28 rfl (qab rfl rfl rfl rfl) rfl rfl Kp.true ?_
        refine Jp.qat 29 rfl (qab rfl rfl rfl rfl) rfl rfl Kp.true ?_
        refine Jp.qat 30 rfl (qab rfl rfl rfl rfl) rfl rfl Kp.true ?_
        refine Jp.qat 31 rfl (qab rfl rfl rfl rfl) rfl rfl Kp.true ?_
        refine Jp.y 32 rfl (qab rfl rfl rfl rfl) rfl rfl Kp.true (Y.qba rfl rfl rfl) ?_
        refine Jp.y 33 rfl (qaa rfl) rfl rfl Kp.true (Y.qba rfl rfl rfl) ?_
        refine Jp.y 34 rfl (qaa rfl) rfl rfl Kp.true (Y.move rfl rfl) ?_
        refine Jp.y 35 rfl (qab rfl rfl rfl rfl) rfl rfl Kp.true (by exact Y.qad rfl rfl underlying24 rfl sizeOf5 (by decide) (show _ + 2 = _ from rfl)) ?_
        refine Jp.y 36 rfl (qab rfl rfl rfl rfl) rfl rfl Kp.true (by exact Y.qaw 2 rfl isAgg5 rfl rfl rfl) ?_
        refine Jp.y 37 rfl (qab rfl rfl rfl rfl) rfl rfl Kp.true (Y.move rfl rfl) ?_
        refine Jp.y 38 rfl (qab rfl rfl rfl rfl) rfl rfl Kp.true (Y.bits rfl rfl rfl rfl) ?_
        refine Jp.y 39 rfl (qab rfl rfl rfl rfl) rfl rfl Kp.true (Y.neq rfl rfl rfl) ?_
        refine Jp.y 40 rfl (qaa rfl) rfl rfl Kp.true (Y.qba rfl rfl rfl) ?_
        refine Jp.qae hK9 ?_
        refine Cd.qaq rfl (fun g40=>?_) (fun g40=>?_)
        · skip
          try simp only [sG0] at g40
          have hy : f ⟨s1,s2,s3⟩ = true:=by
            have hm0 : ¬ m3 = 0:=fun h=>g40 (hand.2 h)
            rw [hfs]
            (simp [g24,g27,hm0]; done)
          have hyk:=hitsK_yes hs hy
          rw [hq] at hyk
          have hql : (q ++ [k]).length = q.length + 1:=by simp
          refine Cd.qac [(0,false),(1,false),(2,false),(3,false),(4,false)] rfl rfl ?_
          refine Jp.y 41 rfl (qaa rfl) rfl rfl Kp.true (Y.move rfl rfl) ?_
          refine Jp.y 42 rfl (qaa rfl) rfl rfl Kp.true (Y.move rfl rfl) ?_
          refine Jp.lit 43 3 [(0,_)] [_] rfl (qaa rfl) rfl rfl rfl rfl underlying114 sizeOf3 zeroValue3 rfl rfl rfl rfl rfl fun b3=>⟨Kp.true,?_⟩
          refine Jp.append 44 0 rfl (qaa rfl) rfl rfl rfl underlying114 underlying114 (.inl ⟨_,rfl⟩) sizeOf3 Try.typeInfo3 zeroValue3 rfl (by decide) rfl rfl rfl (Src.own 3 rfl) rfl ((q ++ [k]).length) ((qcf .i64 (q ++ [k]))) (by first | omega | simp) (by simp [qcf]) (by simp only [Try.t3]; omega) fun A1 c1=>⟨Kp.true,?_⟩
          refine Jp.y 9 rfl (qaa rfl) rfl rfl Kp.true (Y.assign rfl rfl) ?_
          refine Jp.over rfl hK7 ?_
          refine Cd.qac [(0,false),(1,false)] rfl rfl ?_
          refine Jp.y 45 rfl (qaa rfl) rfl rfl Kp.true (Y.qcd rfl rfl rfl (by exact qaj (by omega) (by omega))) ?_
          refine Jp.y 15 rfl (qaa rfl) rfl rfl Kp.true (Y.move rfl rfl) ?_
          rw [← hyk]
          refine Jp.again hLa (k + 1,A1,c1) (by dsimp only; omega) (by dsimp only; omega) rfl ⟨rfl,rfl,rfl,rfl,rfl,rfl,rfl,trivial⟩ ⟨rfl,trivial⟩
        · skip
          try simp only [sG0] at g40
          refine Cd.over rfl hK7 ?_
          refine Cd.qac [(0,false),(1,false)] rfl rfl ?_
          refine Jp.y 45 rfl (qaa rfl) rfl rfl Kp.true (Y.qcd rfl rfl rfl (by exact qaj (by omega) (by omega))) ?_
          refine Jp.y 15 rfl (qaa rfl) rfl rfl Kp.true (Y.move rfl rfl) ?_
          have hy : f ⟨s1,s2,s3⟩ = false:=by
            rw [hfs]
            (have hm0 : m3 = 0 := hand.1 g40
             simp [hm0]; done)
          have hyk:=hitsK_no hs hy
          rw [hq] at hyk
          rw [← hyk]
          refine Jp.again hLa (k + 1,A2,c2) (by dsimp only; omega) (by dsimp only; omega) rfl ⟨rfl,rfl,rfl,rfl,rfl,rfl,rfl,trivial⟩ ⟨rfl,trivial⟩
      · skip
        try simp only [sG0] at g27
        refine Jp.y 28 rfl (qab rfl rfl rfl rfl) rfl rfl Kp.true (by exact Y.qad rfl rfl underlying24 rfl sizeOf3 (by decide) (show _ + 1 = _ from rfl)) ?_
        refine Jp.y 29 rfl (qab rfl rfl rfl rfl) rfl rfl Kp.true (by exact Y.qaw 2 rfl isAgg3 rfl rfl rfl) ?_
        refine Jp.y 30 rfl (qab rfl rfl rfl rfl) rfl rfl Kp.true (Y.move rfl rfl) ?_
        refine Jp.y 31 rfl (qab rfl rfl rfl rfl) rfl rfl Kp.true (Y.eql rfl rfl rfl) ?_
        refine Jp.y 32 rfl (qab rfl rfl rfl rfl) rfl rfl Kp.true (Y.qaz rfl rfl rfl) ?_
        refine Jp.y 33 rfl (qaa rfl) rfl rfl Kp.true (Y.qba rfl rfl rfl) ?_
        refine Jp.y 34 rfl (qaa rfl) rfl rfl Kp.true (Y.move rfl rfl) ?_
        refine Jp.split 34 rfl (fun g34=>?_) (fun g34=>?_)
        · skip
          try simp only [sG0] at g34
          refine Jp.y 35 rfl (qab rfl rfl rfl rfl) rfl rfl Kp.true (by exact Y.qad rfl rfl underlying24 rfl sizeOf5 (by decide) (show _ + 2 = _ from rfl)) ?_
          refine Jp.y 36 rfl (qab rfl rfl rfl rfl) rfl rfl Kp.true (by exact Y.qaw 2 rfl isAgg5 rfl rfl rfl) ?_
          refine Jp.y 37 rfl (qab rfl rfl rfl rfl) rfl rfl Kp.true (Y.move rfl rfl) ?_
          refine Jp.y 38 rfl (qab rfl rfl rfl rfl) rfl rfl Kp.true (Y.bits rfl rfl rfl rfl) ?_
          refine Jp.y 39 rfl (qab rfl rfl rfl rfl) rfl rfl Kp.true (Y.neq rfl rfl rfl) ?_
          refine Jp.y 40 rfl (qaa rfl) rfl rfl Kp.true (Y.qba rfl rfl rfl) ?_
          refine Jp.qae hK9 ?_
          refine Cd.qaq rfl (fun g40=>?_) (fun g40=>?_)
          · skip
            try simp only [sG0] at g40
            have hy : f ⟨s1,s2,s3⟩ = true:=by
              have hm0 : ¬ m3 = 0:=fun h=>g40 (hand.2 h)
              rw [hfs]
              (simp [g24,g34,hm0]; done)
            have hyk:=hitsK_yes hs hy
            rw [hq] at hyk
            have hql : (q ++ [k]).length = q.length + 1:=by simp
            refine Cd.qac [(0,false),(1,false),(2,false),(3,false),(4,false)] rfl rfl ?_
            refine Jp.y 41 rfl (qaa rfl) rfl rfl Kp.true (Y.move rfl rfl) ?_
            refine Jp.y 42 rfl (qaa rfl) rfl rfl Kp.true (Y.move rfl rfl) ?_
            refine Jp.lit 43 3 [(0,_)] [_] rfl (qaa rfl) rfl rfl rfl rfl underlying114 sizeOf3 zeroValue3 rfl rfl rfl rfl rfl fun b3=>⟨Kp.true,?_⟩
            refine Jp.append 44 0 rfl (qaa rfl) rfl rfl rfl underlying114 underlying114 (.inl ⟨_,rfl⟩) sizeOf3 Try.typeInfo3 zeroValue3 rfl (by decide) rfl rfl rfl (Src.own 3 rfl) rfl ((q ++ [k]).length) ((qcf .i64 (q ++ [k]))) (by first | omega | simp) (by simp [qcf]) (by simp only [Try.t3]; omega) fun A1 c1=>⟨Kp.true,?_⟩
            refine Jp.y 9 rfl (qaa rfl) rfl rfl Kp.true (Y.assign rfl rfl) ?_
            refine Jp.over rfl hK7 ?_
            refine Cd.qac [(0,false),(1,false)] rfl rfl ?_
            refine Jp.y 45 rfl (qaa rfl) rfl rfl Kp.true (Y.qcd rfl rfl rfl (by exact qaj (by omega) (by omega))) ?_
            refine Jp.y 15 rfl (qaa rfl) rfl rfl Kp.true (Y.move rfl rfl) ?_
            rw [← hyk]
            refine Jp.again hLa (k + 1,A1,c1) (by dsimp only; omega) (by dsimp only; omega) rfl ⟨rfl,rfl,rfl,rfl,rfl,rfl,rfl,trivial⟩ ⟨rfl,trivial⟩
          · skip
            try simp only [sG0] at g40
            refine Cd.over rfl hK7 ?_
            refine Cd.qac [(0,false),(1,false)] rfl rfl ?_
            refine Jp.y 45 rfl (qaa rfl) rfl rfl Kp.true (Y.qcd rfl rfl rfl (by exact qaj (by omega) (by omega))) ?_
            refine Jp.y 15 rfl (qaa rfl) rfl rfl Kp.true (Y.move rfl rfl) ?_
            have hy : f ⟨s1,s2,s3⟩ = false:=by
              rw [hfs]
              (have hm0 : m3 = 0 := hand.1 g40
               simp [hm0]; done)
            have hyk:=hitsK_no hs hy
            rw [hq] at hyk
            rw [← hyk]
            refine Jp.again hLa (k + 1,A2,c2) (by dsimp only; omega) (by dsimp only; omega) rfl ⟨rfl,rfl,rfl,rfl,rfl,rfl,rfl,trivial⟩ ⟨rfl,trivial⟩
        · skip
          try simp only [sG0] at g34
          refine Jp.qat 35 rfl (qab rfl rfl rfl rfl) rfl rfl Kp.true ?_
          refine Jp.qat 36 rfl (qab rfl rfl rfl rfl) rfl rfl Kp.true ?_
          refine Jp.qat 37 rfl (qab rfl rfl rfl rfl) rfl rfl Kp.true ?_
          refine Jp.qat 38 rfl (qab rfl rfl rfl rfl) rfl rfl Kp.true ?_
          refine Jp.qat 39 rfl (qab rfl rfl rfl rfl) rfl rfl Kp.true ?_
          refine Jp.y 40 rfl (qaa rfl) rfl rfl Kp.true (Y.qaz rfl rfl rfl) ?_
          refine Jp.qae hK9 ?_
          refine Cd.qbu rfl ?_
          refine Cd.over rfl hK7 ?_
          refine Cd.qac [(0,false),(1,false)] rfl rfl ?_
          refine Jp.y 45 rfl (qaa rfl) rfl rfl Kp.true (Y.qcd rfl rfl rfl (by exact qaj (by omega) (by omega))) ?_
          refine Jp.y 15 rfl (qaa rfl) rfl rfl Kp.true (Y.move rfl rfl) ?_
          have hy : f ⟨s1,s2,s3⟩ = false:=by
            rw [hfs]
            (simp [g27,g34]; done)
          have hyk:=hitsK_no hs hy
          rw [hq] at hyk
          rw [← hyk]
          refine Jp.again hLa (k + 1,A2,c2) (by dsimp only; omega) (by dsimp only; omega) rfl ⟨rfl,rfl,rfl,rfl,rfl,rfl,rfl,trivial⟩ ⟨rfl,trivial⟩
    · skip
      try simp only [sG0] at g24
      refine Jp.qat 25 rfl (qab rfl rfl rfl rfl) rfl rfl Kp.true ?_
      refine Jp.qat 26 rfl (qab rfl rfl rfl rfl) rfl rfl Kp.true ?_
      refine Jp.qat 27 rfl (qab rfl rfl rfl rfl) rfl rfl Kp.true ?_
      refine Jp.qat 28 rfl (qdg rfl rfl rfl) rfl rfl Kp.true ?_
      refine Jp.qat 29 rfl (qdg rfl rfl rfl) rfl rfl Kp.true ?_
      refine Jp.qat 30 rfl (qdg rfl rfl rfl) rfl rfl Kp.true ?_
      refine Jp.qat 31 rfl (qdg rfl rfl rfl) rfl rfl Kp.true ?_
      refine Jp.qat 32 rfl (qab rfl rfl rfl rfl) rfl rfl Kp.true ?_
      refine Jp.y 33 rfl (qaa rfl) rfl rfl Kp.true (Y.qaz rfl rfl rfl) ?_
      refine Jp.y 34 rfl (qaa rfl) rfl rfl Kp.true (Y.move rfl rfl) ?_
      refine Jp.qat 35 rfl (qab rfl rfl rfl rfl) rfl rfl Kp.true ?_
      refine Jp.qat 36 rfl (qab rfl rfl rfl rfl) rfl rfl Kp.true ?_
      refine Jp.qat 37 rfl (qab rfl rfl rfl rfl) rfl rfl Kp.true ?_
      refine Jp.qat 38 rfl (qab rfl rfl rfl rfl) rfl rfl Kp.true ?_
      refine Jp.qat 39 rfl (qab rfl rfl rfl rfl) rfl rfl Kp.true ?_
      refine Jp.y 40 rfl (qaa rfl) rfl rfl Kp.true (Y.qaz rfl rfl rfl) ?_
      refine Jp.qae hK9 ?_
      refine Cd.qbu rfl ?_
      refine Cd.over rfl hK7 ?_
      refine Cd.qac [(0,false),(1,false)] rfl rfl ?_
      refine Jp.y 45 rfl (qaa rfl) rfl rfl Kp.true (Y.qcd rfl rfl rfl (by exact qaj (by omega) (by omega))) ?_
      refine Jp.y 15 rfl (qaa rfl) rfl rfl Kp.true (Y.move rfl rfl) ?_
      have hy : f ⟨s1,s2,s3⟩ = false:=by
        rw [hfs]
        (simp [g24]; done)
      have hyk:=hitsK_no hs hy
      rw [hq] at hyk
      rw [← hyk]
      refine Jp.again hLa (k + 1,A2,c2) (by dsimp only; omega) (by dsimp only; omega) rfl ⟨rfl,rfl,rfl,rfl,rfl,rfl,rfl,trivial⟩ ⟨rfl,trivial⟩
  · simp only [decide_eq_false_iff_not] at ga
    obtain rfl : xs.length = k:=by omega
    refine Cd.exit rfl hK3 ?_
    refine Cd.seq fun K10 hK10=>?_
    refine Cd.qac [(0,false),(1,false)] rfl rfl ?_
    refine Jp.y 46 rfl (qaa rfl) rfl rfl Kp.true (Y.move rfl rfl) ?_
    refine Jp.y 8 rfl (qaa rfl) rfl rfl Kp.true (Y.assign rfl rfl) ?_
    refine Jp.qae hK10 ?_
    refine Cd.ret [(0,_)] rfl (qbe rfl rfl) ⟨rfl,trivial⟩ ?_
    exact ⟨rfl,A2,c2,rfl,rfl⟩
end Go.Proofs.Ytnfkalpgidiafaa

namespace Go.Proofs.Ytnfkalpgidiafaa
open _root_.Go.Proofs.Try
open Go
structure AlP where
 ret : Int
 pc : Nat
 sink : Nat
 lab : UInt8
def AlP.cells (a : AlP) : List Value:=[.int .i64 a.ret,.int .u32 (a.pc : Int),.int .i64 (a.sink : Int),.int .u8 (a.lab.toNat : Int)]
def qfu (op r1 : Nat) (s : StP) (X : qam) (sk : List SinkG) : List AlP :=
 if sinkP op = 0 then [] else (qez (hitB (sinkP op) 0 (allT (qch X r1))) sk sk.length).map fun k=>⟨s.ret,s.pc,k,allT (qch X r1)⟩
def AlO (A : Option Addr) (c : Nat) (l : List AlP) : qax:=OwnS 55 4 A l.length c (l.flatMap AlP.cells)
theorem natsV_at (k : IntKind) {l : List Nat} {q x : Nat} (h : l[q]? = some x) : (qcf k l)[q]? = some (.int k x):=by rw [qcf,List.getElem?_map,h]; rfl
theorem als_snoc {q : List Nat} {F : Nat → AlP} {g k : Nat} (h : q[g]? = some k) : ((q.take g).map F).flatMap AlP.cells ++ (F k).cells = ((q.take (g + 1)).map F).flatMap AlP.cells:=by
 rw [List.take_add_one,h]
 simp
theorem watch_spec (i : InsP) (s : StP) (X : qam) (p : PolG) (hs : StOk s) (hi : InsOk i) (hX : X.length = 128) (hn : p.sinks.xs.length ≤ 4096) :
  Spec Try.prog 19 #[.agg i.cells.toArray,.agg s.cells.toArray,.agg (qaf X).toArray,.agg p.cells.toArray] (RdSinkGs p.sinks) []
  (fun ρ ρ' v L=>ρ' = ρ ∧ ∃ A c,v = .slice A (qfu i.op i.r1 s X p.sinks.xs).length c ∧ L = [(0,AlO A c (qfu i.op i.r1 s X p.sinks.xs))]):=by
 obtain ⟨op,rd,r1,r2,imm⟩:=i
 dsimp only
 obtain ⟨W,hW⟩ : ∃ W,qfu op r1 s X p.sinks.xs = W:=⟨_,rfl⟩
 rw [hW]
 unfold qfu at hW
 have hL:=qca hX hi.r1
 dsimp only at hL
 have hH:=hits_spec (sinkP op : Int) 0 (allT (qch X r1)) p hn
 obtain ⟨q,hq⟩ : ∃ q,qez (hitB (sinkP op) 0 (allT (qch X r1))) p.sinks.xs p.sinks.xs.length = q:=⟨_,rfl⟩
 have hql : q.length ≤ p.sinks.xs.length:=by rw [← hq]; exact hitsK_len _ _ _
 rw [hq] at hH hW
 refine Spec.of 44 Try.func19 rfl Try.ntmps19 [(0,_),(1,_),(2,_),(3,_)] rfl rfl ?_
 intro cx ρ hr h0
 have hsl:=StP.len hs
 have hso:=StP.one s
 have hXl : (qaf X).length = 128:=by rw [qbc,hX]
 have hXo:=qbd X
 refine Cd.seq fun K1 hK1=>?_
 refine Cd.qac [(0,false),(1,false),(2,false),(3,false),(4,false)] rfl rfl ?_
 refine Jp.box 4 4 rfl (qaa rfl) rfl rfl rfl rfl fun b4=>⟨Kp.true,?_⟩
 refine Jp.box 5 5 rfl (qaa rfl) rfl rfl rfl rfl fun b5=>⟨Kp.true,?_⟩
 refine Jp.box 6 6 rfl (qaa rfl) rfl rfl rfl rfl fun b6=>⟨Kp.true,?_⟩
 refine Jp.box 7 7 rfl (qaa rfl) rfl rfl rfl rfl fun b7=>⟨Kp.true,?_⟩
 refine Jp.y 8 rfl (qaa rfl) rfl rfl Kp.true (Y.assign rfl rfl) ?_
 refine Jp.qae hK1 ?_
 refine Cd.seq fun K2 hK2=>?_
 refine Cd.drawn [(4,_),(5,_),(7,_)] ⟨rfl,rfl,rfl,trivial⟩ [(0,true),(1,true),(3,true),(4,true),(2,false),(5,false),(6,false),(7,true),(8,true)] follows (by kernel_rfl) (fun hrl=>?_)
 refine Jp.q 14 rfl (qaa rfl) rfl rfl (by exact Y.qad rfl rfl underlying34 rfl sizeOf3 (by decide) (show _ + 0 = _ from rfl)) ?_
 refine Jp.q 15 rfl (qaa rfl) rfl rfl (by exact Y.qaw 4 rfl isAgg3 rfl rfl rfl) ?_
 refine Jp.q 17 rfl (qaa rfl) rfl rfl (by exact Y.qad rfl rfl underlying34 rfl sizeOf3 (by decide) (show _ + 2 = _ from rfl)) ?_
 refine Jp.q 18 rfl (qaa rfl) rfl rfl (by exact Y.qaw 4 rfl isAgg3 rfl rfl rfl) ?_
 refine Jp.call [] [] (sink_spec op) 16 rfl (qaa rfl) rfl rfl (Runs.fn rfl call38 rfl) (by decide) (by decide) rfl trivial ?_
 rintro v1 ρ1 L1 ⟨rfl,rfl,rfl⟩
 refine ⟨rfl,fun hle1=>⟨(Kp.st ⟨rfl,rfl,rfl,trivial⟩),?_⟩⟩
 refine Jp.call [6] [6] (qge b6 X r1 hX hi.r1) 19 rfl (qaa rfl) rfl rfl (Runs.fn rfl call40 rfl) (by decide) (by decide) rfl trivial ?_
 rintro v2 ρ2 L2 ⟨rfl,rfl,rfl⟩
 refine ⟨rfl,fun hle2=>⟨(Kp.st ⟨rfl,rfl,rfl,trivial⟩),?_⟩⟩
 refine Jp.call [] [] (qcm (qch X r1) hL) 20 rfl (qaa rfl) rfl rfl (Runs.fn rfl call39 rfl) (by decide) (by decide) rfl trivial ?_
 rintro v3 ρ3 L3 ⟨rfl,rfl,rfl⟩
 refine ⟨rfl,fun hle3=>⟨(Kp.st ⟨rfl,rfl,rfl,trivial⟩),?_⟩⟩
 refine Jp.q 9 rfl (qaa rfl) rfl rfl (Y.assign rfl rfl) ?_
 refine Jp.q 10 rfl (qaa rfl) rfl rfl (Y.assign rfl rfl) ?_
 refine Jp.qae hK2 ?_
 refine Cd.seq fun K4 hK4=>?_
 refine Cd.seq fun K5 hK5=>?_
 refine Cd.qac [(0,false),(1,false)] rfl rfl ?_
 refine Jp.y 21 rfl (qaa rfl) rfl rfl Kp.true (Y.move rfl rfl) ?_
 refine Jp.y 22 rfl (qaa rfl) rfl rfl Kp.true (Y.eql rfl rfl rfl) ?_
 refine Jp.qae hK5 ?_
 refine Cd.qaq rfl (fun ga=>?_) (fun ga=>?_)
 ·rw [if_pos (show sinkP op = 0 by simp at ga; omega)] at hW
  subst hW
  refine Cd.seq fun K6 hK6=>?_
  refine Cd.qac [(0,false)] rfl rfl ?_
  refine Jp.y 8 rfl (qaa rfl) rfl rfl Kp.true (Y.assign rfl rfl) ?_
  refine Jp.qae hK6 ?_
  refine Cd.make 0 (show AlO none 0 [] Hp.emp from OwnS.nil 55 4 Hp.emp) ?_
  refine Cd.ret [(0,_)] rfl (qbe rfl rfl) ⟨rfl,trivial⟩ ?_
  exact ⟨rfl,none,0,rfl,rfl⟩
 ·rw [if_neg (show ¬ sinkP op = 0 by simp at ga; omega)] at hW
  refine Cd.qbw hK4 ?_
  refine Cd.seq fun K7 hK7=>?_
  refine Cd.qac [(0,false)] rfl rfl ?_
  refine Jp.y 11 rfl (qaa rfl) rfl rfl Kp.true (Y.assign rfl rfl) ?_
  refine Jp.qae hK7 ?_
  refine Cd.seq fun K8 hK8=>?_
  refine Cd.seq fun K9 hK9=>?_
  refine Cd.qac [(0,false),(1,false),(2,false),(3,false),(4,false),(5,false)] rfl rfl ?_
  refine Jp.y 23 rfl (qaa rfl) rfl rfl Kp.true (by exact Y.qag 7 rfl isAgg28 sizeOf28 rfl rfl (by first | rfl | assumption)) ?_
  refine Jp.y 24 rfl (qaa rfl) rfl rfl Kp.true (Y.move rfl rfl) ?_
  refine Jp.y 25 rfl (qaa rfl) rfl rfl Kp.true (Y.move rfl rfl) ?_
  refine Jp.call [] [1] hH 26 rfl (qaa rfl) rfl rfl (Runs.fn rfl call41 rfl) (by decide) (by decide) rfl hr ?_
  rintro v4 ρ4 L4 ⟨rfl,A1,c1,rfl,rfl⟩
  refine ⟨rfl,fun hle4=>⟨Kp.true,?_⟩⟩
  refine Jp.y 27 rfl (qaa rfl) rfl rfl Kp.true (Y.qck rfl underlying114 rfl) ?_
  refine Jp.y 28 rfl (qaa rfl) rfl rfl Kp.true (Y.move rfl rfl) ?_
  refine Jp.qae hK9 ?_
  refine Cd.block ?_
  obtain ⟨lab,hlab⟩ : ∃ lab,allT (qch X r1) = lab:=⟨_,rfl⟩
  rw [hlab] at hW ⊢
  obtain ⟨F,hF⟩ : ∃ F : Nat → AlP,(fun k=>(⟨s.ret,s.pc,k,lab⟩ : AlP)) = F:=⟨_,rfl⟩
  rw [hF] at hW
  refine Cd.make 0 (show OwnS 55 4 none 0 0 (((q.take 0).map F).flatMap AlP.cells) Hp.emp from OwnS.nil 55 4 Hp.emp) ?_
  refine Cd.loop (G:=Nat × Option Addr × Nat) (fun g=>g.1 ≤ q.length) (fun g=>q.length - g.1) (fun _=>ρ4) (fun g=>[(5,.pointer (some ⟨b5,0,none⟩)),(10,.int .u8 (lab.toNat : Int)),(26,.slice A1 q.length c1),(27,.int .i64 q.length),(28,.int .i64 g.1),(11,.slice g.2.1 g.1 g.2.2)]) (fun g=>[(5,Pt b5 (.cells s.cells.toArray 46)),(1,OwnS 3 1 A1 q.length c1 (qcf .i64 q)),(0,OwnS 55 4 g.2.1 g.1 g.2.2 (((q.take g.1).map F).flatMap AlP.cells))]) (0,none,0) (Nat.zero_le _) rfl ⟨rfl,rfl,rfl,rfl,rfl,rfl,trivial⟩ ⟨rfl,rfl,rfl,trivial⟩ (fun g KLa hok hLa=>?_)
  obtain ⟨k,A2,c2⟩:=g
  dsimp only at hok ⊢
  refine Cd.seq fun K10 hK10=>?_
  refine Cd.qac [(0,false)] rfl rfl ?_
  refine Jp.y 29 rfl (qaa rfl) rfl rfl Kp.true (Y.lss rfl rfl rfl) ?_
  refine Jp.qae hK10 ?_
  refine Cd.seq fun K11 hK11=>?_
  refine Cd.qaq rfl (fun gb=>?_) (fun gb=>?_)
  ·simp only [decide_eq_true_eq] at gb
   have hk : k < q.length:=by omega
   obtain ⟨y,hy⟩ : ∃ y,q[k]? = some y:=⟨q[k],by simp [hk]⟩
   refine Cd.ownAt 1 rfl (show 0 < q.length by omega) ?_
   rintro b1 rfl
   have hc0:=OwnS.hasC (e:=3) (m:=1) (k:=q.length) (c:=c1) (ad:=⟨b1,0,none⟩) (natsV_at .i64 hy)
   have hsn:=als_snoc (F:=F) hy
   have hFy : (F y).cells = [Value.int .i64 s.ret,.int .u32 (s.pc : Int),.int .i64 (y : Int),.int .u8 (lab.toNat : Int)]:=by rw [← hF]; rfl
   rw [hFy] at hsn
   refine Cd.qbw hK11 ?_
   refine Cd.seq fun K12 hK12=>?_
   refine Cd.block ?_
   refine Cd.seq fun K13 hK13=>?_
   refine Cd.qac [(0,false),(1,false),(2,false)] rfl rfl ?_
   refine Jp.y 30 rfl (qaa rfl) rfl rfl Kp.true (Y.qdw (q:=k) rfl rfl rfl underlying114 sizeOf3 (by omega) (by omega) (by omega)) ?_
   refine Jp.y 31 rfl (qaa rfl) rfl rfl Kp.true (by exact Y.qbk 1 rfl isAgg3 rfl rfl hc0) ?_
   refine Jp.y 13 rfl (qaa rfl) rfl rfl Kp.true (Y.assign rfl rfl) ?_
   refine Jp.qae hK13 ?_
   refine Cd.qac [(0,false),(1,false),(2,false),(3,false),(4,false),(5,false),(6,false),(7,false),(8,false),(9,false),(10,false)] rfl rfl ?_
   refine Jp.y 32 rfl (qaa rfl) rfl rfl Kp.true (Y.move rfl rfl) ?_
   refine Jp.y 33 rfl (qaa rfl) rfl rfl Kp.true (by exact Y.qad rfl rfl underlying46 rfl sizeOf2 (by decide) (show _ + 33 = _ from rfl)) ?_
   refine Jp.y 34 rfl (qaa rfl) rfl rfl Kp.true (by exact Y.qbk 5 rfl isAgg2 rfl rfl (HasC.pt (StP.cRet hs))) ?_
   refine Jp.y 35 rfl (qaa rfl) rfl rfl Kp.true (by exact Y.qad rfl rfl underlying46 rfl sizeOf31 (by decide) (show _ + 32 = _ from rfl)) ?_
   refine Jp.y 36 rfl (qaa rfl) rfl rfl Kp.true (by exact Y.qbk 5 rfl isAgg31 rfl rfl (HasC.pt (StP.cPc hs))) ?_
   refine Jp.y 37 rfl (qaa rfl) rfl rfl Kp.true (Y.move rfl rfl) ?_
   refine Jp.y 38 rfl (qaa rfl) rfl rfl Kp.true (Y.move rfl rfl) ?_
   refine Jp.y 39 rfl (qaa rfl) rfl rfl Kp.true (Y.struct [(0,_),(1,_),(2,_),(3,_)] [_,_,_,_] rfl rfl places55 zeroValue55 rfl) ?_
   refine Jp.lit 40 3 [(0,_)] [_,_,_,_] rfl (qaa rfl) rfl rfl rfl rfl underlying47 sizeOf55 zeroValue55 rfl rfl rfl rfl rfl fun b3=>⟨Kp.true,?_⟩
   refine Jp.append 41 0 rfl (qaa rfl) rfl rfl rfl underlying47 underlying47 (.inl ⟨_,rfl⟩) sizeOf55 Try.typeInfo55 zeroValue55 rfl (by decide) rfl rfl rfl (Src.own 3 rfl) rfl (k + 1) ((((q.take (k + 1)).map F).flatMap AlP.cells)) (by first | omega | simp) hsn (by simp only [Try.t55]; omega) fun A2 c2=>⟨Kp.true,?_⟩
   refine Jp.y 11 rfl (qaa rfl) rfl rfl Kp.true (Y.assign rfl rfl) ?_
   refine Jp.over rfl hK12 ?_
   refine Cd.qac [(0,false),(1,false)] rfl rfl ?_
   refine Jp.y 42 rfl (qaa rfl) rfl rfl Kp.true (Y.qcd rfl rfl rfl (by exact qaj (by omega) (by omega))) ?_
   refine Jp.y 28 rfl (qaa rfl) rfl rfl Kp.true (Y.move rfl rfl) ?_
   refine Jp.again hLa (k + 1,A2,c2) (by dsimp only; omega) (by dsimp only; omega) rfl ⟨rfl,rfl,rfl,rfl,rfl,rfl,trivial⟩ ⟨rfl,rfl,rfl,trivial⟩
  ·simp only [decide_eq_false_iff_not] at gb
   obtain rfl : q.length = k:=by omega
   have hWl : W.length = q.length:=by rw [← hW,List.length_map]
   rw [List.take_of_length_le (Nat.le_refl _),hW]
   rw [← hWl]
   refine Cd.exit rfl hK8 ?_
   refine Cd.seq fun K14 hK14=>?_
   refine Cd.qac [(0,false),(1,false)] rfl rfl ?_
   refine Jp.y 43 rfl (qaa rfl) rfl rfl Kp.true (Y.move rfl rfl) ?_
   refine Jp.y 8 rfl (qaa rfl) rfl rfl Kp.true (Y.assign rfl rfl) ?_
   refine Jp.qae hK14 ?_
   refine Cd.ret [(0,_)] rfl (qbe rfl rfl) ⟨rfl,trivial⟩ ?_
   exact ⟨rfl,A2,c2,rfl,rfl⟩
end Go.Proofs.Ytnfkalpgidiafaa

namespace Go.Proofs.Ytnfkalpgidiafaa
open _root_.Go.Proofs.Try
open Go
structure FlS where
 s : StP
 x : qam
 al : List AlP
 ev : EvP
 er : Int
 m : MemG
 sh : ShG
def setL (X t : qam) (r : Nat) : qam:=X.take (r * 4) ++ t ++ X.drop (r * 4 + 4)
theorem setL_len {X t : qam} {r : Nat} (hX : X.length = 128) (ht : t.length = 4) (hr : r < 32) : (setL X t r).length = 128:=by
 simp [setL,hX,ht]; omega
theorem spl_setL {X t : qam} {r : Nat} (hX : X.length = 128) (ht : t.length = 4) (hr : r < 32) : spl (qaf X).toArray (r * 4) (qaf t) = (qaf (setL X t r)).toArray:=by
 apply Array.ext_getElem?
 intro j
 have htl : (qaf t).length = 4:=by rw [qbc,ht]
 rw [spl_get (qaf t) (qaf X).toArray (r * 4) j (by rw [htl,qeu,hX]; omega),htl]
 simp only [List.getElem?_toArray,qaf,setL,List.map_append,List.map_take,List.map_drop]
 have hl1 : ((X.map fun b : UInt8=>Value.int .u8 (b.toNat : Int)).take (r * 4)).length = r * 4:=by simp [hX]; omega
 have hl2 : (t.map fun b : UInt8=>Value.int .u8 (b.toNat : Int)).length = 4:=by simp [ht]
 by_cases h : r * 4 ≤ j ∧ j < r * 4 + 4
 ·rw [if_pos h,List.getElem?_append_left (by rw [List.length_append,hl1,hl2]; omega),List.getElem?_append_right (by rw [hl1]; omega),hl1]
 ·rw [if_neg h]
  by_cases h1 : j < r * 4
  ·rw [List.getElem?_append_left (by rw [List.length_append,hl1,hl2]; omega),List.getElem?_append_left (by rw [hl1]; omega),List.getElem?_take,if_pos h1]
  ·rw [List.getElem?_append_right (by rw [List.length_append,hl1,hl2]; omega),List.length_append,hl1,hl2,List.getElem?_drop,show r * 4 + 4 + (j - (r * 4 + 4)) = j by omega]
theorem splL_app : ∀ (cs pre mid suf : List Value),mid.length = cs.length → splL (pre ++ (mid ++ suf)) pre.length cs = pre ++ (cs ++ suf)
 | [],pre,mid,suf,h=>by
  cases mid with
  | nil=>rfl
  | cons x l=>simp at h
 | c :: cs,pre,mid,suf,h=>by
  cases mid with
  | nil=>simp at h
  | cons x l =>
   have:=splL_app cs (pre ++ [c]) l suf (by simpa using h)
   rw [splL]
   have e : (pre ++ (x :: l ++ suf)).set pre.length c = pre ++ [c] ++ (l ++ suf):=by simp
   rw [e,show pre.length + 1 = (pre ++ [c]).length by simp,this]
   simp
theorem qek {place : Nat → Option (Nat × Nat)} {cells cs : List Value} {i off size : Nat} {v : Value} {rest : List (Nat × Value)} (h : place i = some (off,size)) (hv : v.cells.toList = cs) (h1 : cs.length = size) (h2 : off + size ≤ cells.length) : fillL place cells ((i,v) :: rest) = fillL place (splL cells off cs) rest:=by
 rw [fillL,h]
 simp only [hv,h1,Nat.beq_refl,Nat.ble_eq_true_of_le h2,Bool.and_self,cond_true]
def machZ : List Value:=[.pointer none,.pointer none,.int .u32 0,.int .u32 0,.int .u32 0,.int .u32 0,.int .u32 0,.int .u32 0,.int .u32 0,.int .u32 0,.int .u32 0,.int .u32 0,.int .u32 0,.int .u32 0,.int .u32 0,.int .u32 0,.int .u32 0,.int .u32 0,.int .u32 0,.int .u32 0,.int .u32 0,.int .u32 0,.int .u32 0,.int .u32 0,.int .u32 0,.int .u32 0,.int .u32 0,.int .u32 0,.int .u32 0,.int .u32 0,.int .u32 0,.int .u32 0,.int .u32 0,.int .u32 0,.int .u32 0,.int .i64 0,.pointer none,.bool false,.slice none 0 0,.slice none 0 0]
theorem fill_mach {bm bs bx : Nat} {s : StP} (hs : StOk s) (p : PolG) : fillL (nth [(0,1),(1,1),(2,34),(36,1),(37,3)]) machZ [(0,.pointer (some ⟨bm,0,none⟩)),(1,.pointer (some ⟨bs,0,none⟩)),(2,.agg s.cells.toArray),(3,.pointer (some ⟨bx,0,none⟩)),(4,.agg p.cells.toArray)] = some (qes bm bs s bx p.pointer p.sources.v p.sinks.v):=by
 have hl:=StP.len hs
 rw [qek (cs:=[.pointer (some ⟨bm,0,none⟩)]) rfl rfl rfl (Nat.le_of_ble_eq_true rfl)]
 rw [show splL machZ 0 [.pointer (some ⟨bm,0,none⟩)] = [.pointer (some ⟨bm,0,none⟩)] ++ machZ.drop 1 from rfl]
 rw [qek (cs:=[.pointer (some ⟨bs,0,none⟩)]) rfl rfl rfl (Nat.le_of_ble_eq_true rfl)]
 rw [show splL ([.pointer (some ⟨bm,0,none⟩)] ++ machZ.drop 1) 1 [.pointer (some ⟨bs,0,none⟩)] = [.pointer (some ⟨bm,0,none⟩),.pointer (some ⟨bs,0,none⟩)] ++ ((machZ.drop 2).take 34 ++ machZ.drop 36) from rfl]
 rw [qek (cs:=s.cells) rfl rfl hl (Nat.le_of_ble_eq_true rfl)]
 rw [show (2 : Nat) = ([.pointer (some ⟨bm,0,none⟩),.pointer (some ⟨bs,0,none⟩)] : List Value).length from rfl,splL_app s.cells _ _ _ (by rw [hl]; rfl)]
 have hp : ([.pointer (some ⟨bm,0,none⟩),.pointer (some ⟨bs,0,none⟩)] ++ s.cells : List Value).length = 36:=by rw [List.length_append,hl]; rfl
 have hp2 : ([.pointer (some ⟨bm,0,none⟩),.pointer (some ⟨bs,0,none⟩)] ++ s.cells ++ [.pointer (some ⟨bx,0,none⟩)] : List Value).length = 37:=by rw [List.length_append,hp]; rfl
 rw [qek (cs:=[.pointer (some ⟨bx,0,none⟩)]) rfl rfl rfl (by rw [List.length_append,List.length_append,hl]; exact Nat.le_of_ble_eq_true rfl)]
 rw [← List.append_assoc]
 have e1:=splL_app [.pointer (some ⟨bx,0,none⟩)] ([.pointer (some ⟨bm,0,none⟩),.pointer (some ⟨bs,0,none⟩)] ++ s.cells) [.pointer none] (machZ.drop 37) rfl
 rw [hp] at e1
 rw [show machZ.drop 36 = [.pointer none] ++ machZ.drop 37 from rfl,e1]
 rw [qek (cs:=p.cells) rfl rfl rfl (by rw [List.length_append,hp]; exact Nat.le_of_ble_eq_true rfl)]
 have e2:=splL_app p.cells ([.pointer (some ⟨bm,0,none⟩),.pointer (some ⟨bs,0,none⟩)] ++ s.cells ++ [.pointer (some ⟨bx,0,none⟩)]) (machZ.drop 37) [] rfl
 rw [hp2,List.append_nil,List.append_nil] at e2
 rw [← List.append_assoc,e2,fillL]
 simp [qes,PolG.cells]
theorem doInsP_len {M : MemG} {i : InsP} {s : StP} (hs : StOk s) : (qhf M i s).1.cells.length = 34:=by
 unfold qhf
 have:=hs.len
 repeat' split
 all_goals simp [outP,StP.cells,qcf,this]
theorem stepP_len {M : MemG} {s : StP} (hs : StOk s) : (qec M s).1.cells.length = 34:=by
 unfold qec
 split
 ·exact doInsP_len hs
 ·exact StP.len hs
def layF (M : MemG) (S : ShG) (X : qam) (pp : Bool) (i : InsP) (s : StP) : Int × ShG:=if storesP i.op = true then layT M S X pp i s else (0,S)
def newL (S : ShG) (X : qam) (pp : Bool) (i : InsP) (s : StP) : qam:=if qcq i.op = true then setL X (valueT S X pp i s) i.rd else X
theorem valueT_len {S : ShG} {X : qam} {pp : Bool} {i : InsP} {s : StP} (hX : X.length = 128) (hi : InsOk i) : (valueT S X pp i s).length = 4:=by
 unfold valueT
 split
 ·exact qdu ((qgf _ _ _).trans (tagM_len _ _ _)) (ptrT_len _ _ _)
 ·split
  ·exact flowT_len _ _ _ (qca hX hi.r1) (by split; exact qca hX hi.r2; rfl)
  ·rfl
def qhe (M : MemG) (S : ShG) (s : StP) (X : qam) (pp : Bool) (sk : List SinkG) : FlS :=
 if (qbn M s.pc).2.kind = 0 then
  if (layF M S X pp (qbn M s.pc).1 s).1 = 0 then
   if (qec M s).2.1.kind = 0 then ⟨(qec M s).1,setL (newL (layF M S X pp (qbn M s.pc).1 s).2 X pp (qbn M s.pc).1 s) zeroT 0,qfu (qbn M s.pc).1.op (qbn M s.pc).1.r1 s X sk,(qec M s).2.1,0,(qec M s).2.2,(layF M S X pp (qbn M s.pc).1 s).2⟩
   else ⟨s,X,qfu (qbn M s.pc).1.op (qbn M s.pc).1.r1 s X sk,(qec M s).2.1,0,(qec M s).2.2,(layF M S X pp (qbn M s.pc).1 s).2⟩
  else ⟨s,X,[],noEv,(layF M S X pp (qbn M s.pc).1 s).1,M,(layF M S X pp (qbn M s.pc).1 s).2⟩
 else ⟨s,X,[],(qbn M s.pc).2,0,M,S⟩
theorem insC1 (i : InsP) : i.cells.toArray[1]? = some (.int .i64 (i.rd : Int)):=rfl
def flowV (G : FlS) (A : Option Addr) (c : Nat) : Value:=.tuple #[.agg G.s.cells.toArray,.agg (qaf G.x).toArray,.slice A G.al.length c,.agg G.ev.cells.toArray,.int .i64 G.er]
theorem qee (bm bs : Nat) (M : MemG) (S : ShG) (s : StP) (X : qam) (p : PolG) (hs : StOk s) (hX : X.length = 128) (hn : p.sinks.xs.length ≤ 4096) :
  Spec Try.prog 10 #[.pointer (some ⟨bm,0,none⟩),.pointer (some ⟨bs,0,none⟩),.agg s.cells.toArray,.agg (qaf X).toArray,.agg p.cells.toArray] (RdSinkGs p.sinks) [(0,qfz bm M),(1,ShO bs S)]
  (fun ρ ρ' v L=>∃ A c,v = flowV (qhe M S s X p.pointer p.sinks.xs) A c ∧ L = [(0,qfz bm (qhe M S s X p.pointer p.sinks.xs).m),(1,ShO bs (qhe M S s X p.pointer p.sinks.xs).sh),(2,AlO A c (qhe M S s X p.pointer p.sinks.xs).al)]):=by
 obtain ⟨G,hG⟩ : ∃ G,qhe M S s X p.pointer p.sinks.xs = G:=⟨_,rfl⟩
 rw [hG]
 unfold qhe at hG
 have hF:=fetch_spec bm M s.pc hs.pc (qgx M s.pc 4 (by omega) 4)
 have hi:=fetchP_ok M s.pc
 obtain ⟨F,hFe⟩ : ∃ F,qbn M s.pc = F:=⟨_,rfl⟩
 rw [hFe] at hF hi hG
 obtain ⟨i,⟨kd,ead,wy⟩⟩:=F
 dsimp only at hF hi hG
 have hil : i.cells.length = 5:=rfl
 have hio : i.cells.all one = true:=by unfold InsP.cells; simp [one]
 have hW:=watch_spec i s X p hs hi hX hn
 obtain ⟨W,hWe⟩ : ∃ W,qfu i.op i.r1 s X p.sinks.xs = W:=⟨_,rfl⟩
 rw [hWe] at hW hG
 have hLy : ∀ bc bx,Spec _ _ _ _ _ _:=fun bc bx=>lay13_spec bc bm bs bx M S s X p.pointer p.sources.v p.sinks.v i hs hi hX
 have hVl':=fun bc bx S'=>value13_spec bc bm bs bx S' s X p.pointer p.sources.v p.sinks.v i hs hi hX
 have hSt:=step_spec bm M s hs
 obtain ⟨D,hD⟩ : ∃ D,qec M s = D:=⟨_,rfl⟩
 rw [hD] at hSt hG
 obtain ⟨s2,⟨kd2,ead2,wy2⟩,M2⟩:=D
 dsimp only at hSt hG
 have hs2l : s2.cells.length = 34:=by
  have e : (qec M s).1 = s2:=by rw [hD]
  rw [← e]
  exact stepP_len hs
 have hs2o:=StP.one s2
 refine Spec.of 91 Try.func10 rfl Try.ntmps10 [(0,_),(1,_),(2,_),(3,_),(4,_)] rfl rfl ?_
 intro cx ρ hr h0
 have hsl:=StP.len hs
 have hso:=StP.one s
 have hXl : (qaf X).length = 128:=by rw [qbc,hX]
 have hXo:=qbd X
 have hpl : p.cells.length = 3:=rfl
 have hpo : p.cells.all one = true:=by unfold PolG.cells; simp [one,Sl.v]
 refine Cd.seq fun K1 hK1=>?_
 refine Cd.qac [(0,false),(1,false),(2,false),(3,false),(4,false),(5,false),(6,false),(7,false)] rfl rfl ?_
 refine Jp.box 7 7 rfl (qaa rfl) rfl rfl rfl rfl fun b7=>⟨Kp.true,?_⟩
 refine Jp.box 8 8 rfl (qaa rfl) rfl rfl rfl rfl fun b8=>⟨Kp.true,?_⟩
 refine Jp.box 9 9 rfl (qaa rfl) rfl rfl rfl rfl fun b9=>⟨Kp.true,?_⟩
 refine Jp.alloc 10 10 rfl (qaa rfl) rfl rfl rfl zeroValue46 fun b10=>⟨Kp.true,?_⟩
 refine Jp.alloc 11 11 rfl (qaa rfl) rfl rfl rfl zeroValue43 fun b11=>⟨Kp.true,?_⟩
 refine Jp.y 12 rfl (qaa rfl) rfl rfl Kp.true (Y.assign rfl rfl) ?_
 refine Jp.alloc 13 13 rfl (qaa rfl) rfl rfl rfl zeroValue50 fun b13=>⟨Kp.true,?_⟩
 refine Jp.y 14 rfl (qaa rfl) rfl rfl Kp.true (Y.assign rfl rfl) ?_
 refine Jp.qae hK1 ?_
 refine Cd.seq fun K2 hK2=>?_
 refine Cd.qac [(0,false),(1,false),(2,false),(3,false),(4,false),(5,false),(6,false),(7,false),(8,false),(9,false),(10,false)] rfl rfl ?_
 refine Jp.y 23 rfl (qaa rfl) rfl rfl Kp.true (Y.move rfl rfl) ?_
 refine Jp.y 24 rfl (qaa rfl) rfl rfl Kp.true (by exact Y.qad rfl rfl underlying46 rfl sizeOf31 (by decide) (show _ + 32 = _ from rfl)) ?_
 refine Jp.y 25 rfl (qaa rfl) rfl rfl Kp.true (by exact Y.qbk 7 rfl isAgg31 rfl rfl (HasC.pt (StP.cPc hs))) ?_
 refine Jp.call [0] [0] hF 26 rfl (qaa rfl) rfl rfl (Runs.fn rfl call18 rfl) (by decide) (by decide) rfl trivial ?_
 rintro v1 ρ1 L1 ⟨rfl,rfl,rfl⟩
 refine ⟨rfl,fun hle1=>⟨Kp.true,?_⟩⟩
 refine Jp.y 22 rfl (qaa rfl) rfl rfl Kp.true (Y.move rfl rfl) ?_
 refine Jp.y 27 rfl (qaa rfl) rfl rfl Kp.true (Y.extract rfl rfl rfl) ?_
 refine Jp.y 28 rfl (qaa rfl) rfl rfl Kp.true (Y.extract rfl rfl rfl) ?_
 refine Jp.alloc 15 15 rfl (qaa rfl) rfl rfl rfl zeroValue34 fun b15=>⟨Kp.true,?_⟩
 refine Jp.alloc 16 16 rfl (qaa rfl) rfl rfl rfl zeroValue50 fun b16=>⟨Kp.true,?_⟩
 refine Jp.qah 15 rfl (qaa rfl) rfl rfl sizeOf34 rfl rfl (by first | rfl | assumption) (by first | rfl | assumption) rfl (by first | rfl | assumption) (fun k _ _=>qap k) Kp.true ?_
 refine Jp.qah 16 rfl (qaa rfl) rfl rfl sizeOf50 rfl rfl (by first | rfl | assumption) (by first | rfl | assumption) rfl (by first | rfl | assumption) (fun k _ _=>qap k) Kp.true ?_
 refine Jp.qae hK2 ?_
 refine Cd.seq fun K3 hK3=>?_
 refine Cd.seq fun K4 hK4=>?_
 refine Cd.qac [(0,false),(1,false),(2,false)] rfl rfl ?_
 refine Jp.y 29 rfl (qaa rfl) rfl rfl Kp.true (by exact Y.qad rfl rfl underlying50 rfl sizeOf3 (by decide) (show _ + 0 = _ from rfl)) ?_
 refine Jp.y 30 rfl (qaa rfl) rfl rfl Kp.true (by exact Y.qaw 16 rfl isAgg3 rfl rfl rfl) ?_
 refine Jp.y 31 rfl (qaa rfl) rfl rfl Kp.true (Y.neq rfl rfl rfl) ?_
 refine Jp.qae hK4 ?_
 refine Cd.qaq rfl (fun ga=>?_) (fun ga=>?_)
 ·rw [if_neg (show ¬ kd = 0 by simpa using ga)] at hG
  subst hG
  refine Cd.seq fun K5 hK5=>?_
  refine Cd.drawn [(7,_),(8,_),(16,_)] ⟨rfl,rfl,rfl,trivial⟩ [(0,true),(1,true),(2,true),(3,false),(4,false),(5,true),(6,false),(7,true)] follows (by kernel_rfl) (fun hrl=>?_)
  refine Jp.q 32 rfl (qaa rfl) rfl rfl (by exact Y.qag 7 rfl isAgg46 sizeOf46 rfl rfl (by first | rfl | assumption)) ?_
  refine Jp.q 33 rfl (qaa rfl) rfl rfl (by exact Y.qag 8 rfl isAgg43 sizeOf43 rfl rfl (by first | rfl | assumption)) ?_
  refine Jp.q 34 rfl (qaa rfl) rfl rfl (by exact Y.qag 16 rfl isAgg50 sizeOf50 rfl rfl (by first | rfl | assumption)) ?_
  refine Jp.qah 10 rfl (qaa rfl) rfl rfl sizeOf46 rfl rfl (by first | rfl | assumption) (by first | rfl | assumption) rfl (by first | rfl | assumption) (fun k _ _=>qap k) (Kp.st ⟨rfl,rfl,rfl,trivial⟩) ?_
  refine Jp.qah 11 rfl (qaa rfl) rfl rfl sizeOf43 rfl rfl (by first | rfl | assumption) (by first | rfl | assumption) rfl (by first | rfl | assumption) (fun k _ _=>qap k) (Kp.st ⟨rfl,rfl,rfl,trivial⟩) ?_
  refine Jp.q 12 rfl (qaa rfl) rfl rfl (Y.assign rfl rfl) ?_
  refine Jp.qah 13 rfl (qaa rfl) rfl rfl sizeOf50 rfl rfl (by first | rfl | assumption) (by first | rfl | assumption) rfl (by first | rfl | assumption) (fun k _ _=>qap k) (Kp.st ⟨rfl,rfl,rfl,trivial⟩) ?_
  refine Jp.q 14 rfl (qaa rfl) rfl rfl (Y.assign rfl rfl) ?_
  refine Jp.qae hK5 ?_
  refine Cd.make 2 (show AlO none 0 [] Hp.emp from OwnS.nil 55 4 Hp.emp) ?_
  refine Cd.ret [(0,_),(1,_),(2,_)] rfl (resCCTCT 10 11 13 rfl rfl rfl rfl rfl rfl isAgg46 sizeOf46 isAgg43 sizeOf43 isAgg50 sizeOf50 rfl (by first | rfl | assumption) rfl (by first | rfl | assumption) rfl (by first | rfl | assumption)) ⟨rfl,rfl,rfl,trivial⟩ ⟨none,0,rfl,rfl⟩
 ·have hk0 : kd = 0:=by simpa using ga
  rw [if_pos hk0] at hG
  refine Cd.qbw hK3 ?_
  refine Cd.seq fun K7 hK7=>?_
  refine Cd.qac [(0,false),(1,false),(2,false),(3,false),(4,false),(5,false)] rfl rfl ?_
  refine Jp.y 35 rfl (qaa rfl) rfl rfl Kp.true (by exact Y.qag 15 rfl isAgg34 sizeOf34 rfl rfl (by first | rfl | assumption)) ?_
  refine Jp.y 36 rfl (qaa rfl) rfl rfl Kp.true (by exact Y.qag 7 rfl isAgg46 sizeOf46 rfl rfl (by first | rfl | assumption)) ?_
  refine Jp.y 37 rfl (qaa rfl) rfl rfl Kp.true (by exact Y.qag 8 rfl isAgg43 sizeOf43 rfl rfl (by first | rfl | assumption)) ?_
  refine Jp.y 38 rfl (qaa rfl) rfl rfl Kp.true (by exact Y.qag 9 rfl isAgg28 sizeOf28 rfl rfl (by first | rfl | assumption)) ?_
  refine Jp.call [] [2] hW 39 rfl (qaa rfl) rfl rfl (Runs.fn rfl call19 rfl) (by decide) (by decide) rfl hr ?_
  rintro v2 ρ2 L2 ⟨rfl,A,c,rfl,rfl⟩
  refine ⟨rfl,fun hle2=>⟨Kp.true,?_⟩⟩
  refine Jp.y 17 rfl (qaa rfl) rfl rfl Kp.true (Y.assign rfl rfl) ?_
  refine Jp.qae hK7 ?_
  refine Cd.seq fun K8 hK8=>?_
  refine Cd.qac [(0,false),(1,false),(2,false),(3,false),(4,false),(5,false),(6,false)] rfl rfl ?_
  refine Jp.y 40 rfl (qaa rfl) rfl rfl Kp.true (Y.move rfl rfl) ?_
  refine Jp.y 41 rfl (qaa rfl) rfl rfl Kp.true (Y.move rfl rfl) ?_
  refine Jp.y 42 rfl (qaa rfl) rfl rfl Kp.true (by exact Y.qag 7 rfl isAgg46 sizeOf46 rfl rfl (by first | rfl | assumption)) ?_
  refine Jp.y 43 rfl (qaa rfl) rfl rfl Kp.true (by exact Y.qag 9 rfl isAgg28 sizeOf28 rfl rfl (by first | rfl | assumption)) ?_
  refine Jp.y 44 rfl (qaa rfl) rfl rfl Kp.true (Y.struct [(0,.pointer (some ⟨bm,0,none⟩)),(1,.pointer (some ⟨bs,0,none⟩)),(2,.agg s.cells.toArray),(3,.pointer (some ⟨b8,0,none⟩)),(4,.agg p.cells.toArray)] (qes bm bs s b8 p.pointer p.sources.v p.sinks.v) rfl rfl places76 zeroValue76 (fill_mach hs p)) ?_
  refine Jp.box 18 45 rfl (qaa rfl) rfl rfl rfl rfl fun b18=>⟨Kp.true,?_⟩
  refine Jp.y 18 rfl (qaa rfl) rfl rfl Kp.true (Y.assign rfl rfl) ?_
  refine Jp.qae hK8 ?_
  refine Cd.seq fun K9 hK9=>?_
  refine Cd.seq fun K10 hK10=>?_
  refine Cd.qac [(0,false),(1,false),(2,false)] rfl rfl ?_
  refine Jp.y 46 rfl (qaa rfl) rfl rfl Kp.true (by exact Y.qad rfl rfl underlying34 rfl sizeOf3 (by decide) (show _ + 0 = _ from rfl)) ?_
  refine Jp.y 47 rfl (qaa rfl) rfl rfl Kp.true (by exact Y.qaw 15 rfl isAgg3 rfl rfl rfl) ?_
  refine Jp.call [] [] (qgc i.op) 48 rfl (qaa rfl) rfl rfl (Runs.fn rfl call20 rfl) (by decide) (by decide) rfl trivial ?_
  rintro v3 ρ3 L3 ⟨rfl,rfl,rfl⟩
  refine ⟨rfl,fun hle3=>⟨Kp.true,?_⟩⟩
  obtain ⟨Y,hY⟩ : ∃ Y,layF M S X p.pointer i s = Y:=⟨_,rfl⟩
  rw [hY] at hG
  obtain ⟨ye,S2⟩:=Y
  dsimp only at hG
  unfold layF at hY
  refine Jp.qae hK10 ?_
  refine Cd.joinR (G:=Hp) (fun z=>ye = 0) (fun z=>z) (fun _=>[]) [(0,_),(7,_),(8,_),(10,_),(11,_),(13,_),(15,_),(16,_),(17,_),(18,_)] ⟨rfl,rfl,rfl,rfl,rfl,rfl,rfl,rfl,rfl,rfl,trivial⟩ (fun z=>[(1,ShO bs S2)]) [(0,_),(2,_),(7,_),(8,_),(9,_),(10,_),(11,_),(13,_),(15,_),(16,_),(18,_)] ⟨rfl,rfl,rfl,rfl,rfl,rfl,rfl,rfl,rfl,rfl,rfl,trivial⟩ hK9 (fun g hφ=>?_) (fun hj1=>?_)
  ·rw [if_pos hφ] at hG
   refine Cd.seq fun K11 hK11=>?_
   refine Cd.qac [(0,false),(1,false),(2,false)] rfl rfl ?_
   refine Jp.y 58 rfl (qaa rfl) rfl rfl Kp.true (Y.array [] [_,_,_,_] rfl rfl underlying41 sizeOf5 zeroValue41 rfl) ?_
   refine Jp.alloc 20 20 rfl (qaa rfl) rfl rfl rfl zeroValue41 fun b20=>⟨Kp.true,?_⟩
   refine Jp.qah 20 rfl (qaa rfl) rfl rfl sizeOf41 rfl rfl (by first | rfl | assumption) (by first | rfl | assumption) rfl (by first | rfl | assumption) (fun k _ _=>qap k) Kp.true ?_
   refine Jp.qae hK11 ?_
   refine Cd.seq fun K12 hK12=>?_
   refine Cd.seq fun K13 hK13=>?_
   refine Cd.qac [(0,false),(1,false),(2,false)] rfl rfl ?_
   refine Jp.y 59 rfl (qaa rfl) rfl rfl Kp.true (by exact Y.qad rfl rfl underlying34 rfl sizeOf3 (by decide) (show _ + 0 = _ from rfl)) ?_
   refine Jp.y 60 rfl (qaa rfl) rfl rfl Kp.true (by exact Y.qaw 15 rfl isAgg3 rfl rfl rfl) ?_
   refine Jp.imp (j:=20) rfl (fun h hh=>(show Pt b20 (.cells (qaf zeroT).toArray 41) h from hh)) ?_
   refine Jp.call [] [] (qga i.op) 61 rfl (qaa rfl) rfl rfl (Runs.fn rfl call22 rfl) (by decide) (by decide) rfl trivial ?_
   rintro v4 ρ4 L4 ⟨rfl,rfl,rfl⟩
   refine ⟨rfl,fun hle4=>⟨Kp.true,?_⟩⟩
   refine Jp.qae hK13 ?_
   obtain ⟨V,hV⟩ : ∃ V,valueT S2 X p.pointer i s = V:=⟨_,rfl⟩
   have hVl : V.length = 4:=by rw [← hV]; exact valueT_len hX hi
   refine Cd.qhi (G:=Unit) (fun _=>True) (fun _=>[]) [(0,_),(7,_),(8,_),(10,_),(11,_),(13,_),(15,_),(16,_),(17,_),(20,_)] ⟨rfl,rfl,rfl,rfl,rfl,rfl,rfl,rfl,rfl,rfl,trivial⟩ (fun _=>[(20,Pt b20 (.cells (qaf (if qcq i.op = true then V else zeroT)).toArray 41))]) [(0,_),(1,_),(2,_),(7,_),(8,_),(9,_),(10,_),(11,_),(13,_),(15,_),(16,_),(18,_)] ⟨rfl,rfl,rfl,rfl,rfl,rfl,rfl,rfl,rfl,rfl,rfl,rfl,trivial⟩ hK12 (fun g hφ=>?_) (fun hj2=>?_)
   ·obtain ⟨T,hT⟩ : ∃ T,(if qcq i.op = true then V else zeroT) = T:=⟨_,rfl⟩
    rw [hT]
    have hTl : T.length = 4:=by rw [← hT]; split; exact hVl; rfl
    have hTl4 : (qaf T).length = 4:=by rw [qbc,hTl]
    have hTo:=qbd T
    have hrd : i.rd < 32:=hi.rd
    refine Cd.seq fun K14 hK14=>?_
    refine Cd.qac [(0,false),(1,false),(2,false),(3,false),(4,false),(5,false),(6,false),(7,false),(8,false)] rfl rfl ?_
    refine Jp.y 66 rfl (qaa rfl) rfl rfl Kp.true (Y.move rfl rfl) ?_
    refine Jp.y 67 rfl (qaa rfl) rfl rfl Kp.true (by exact Y.qag 7 rfl isAgg46 sizeOf46 rfl rfl (by first | rfl | assumption)) ?_
    refine Jp.call [0] [0] hSt 68 rfl (qaa rfl) rfl rfl (Runs.fn rfl call24 rfl) (by decide) (by decide) rfl trivial ?_
    rintro v5 ρ5 L5 ⟨rfl,rfl,rfl⟩
    refine ⟨rfl,fun hle5=>⟨Kp.true,?_⟩⟩
    refine Jp.y 65 rfl (qaa rfl) rfl rfl Kp.true (Y.move rfl rfl) ?_
    refine Jp.y 69 rfl (qaa rfl) rfl rfl Kp.true (Y.extract rfl rfl rfl) ?_
    refine Jp.y 70 rfl (qaa rfl) rfl rfl Kp.true (Y.extract rfl rfl rfl) ?_
    refine Jp.alloc 21 21 rfl (qaa rfl) rfl rfl rfl zeroValue46 fun b21=>⟨Kp.true,?_⟩
    refine Jp.qah 21 rfl (qaa rfl) rfl rfl sizeOf46 rfl rfl (by first | rfl | assumption) (by first | rfl | assumption) rfl (by first | rfl | assumption) (fun k _ _=>qap k) Kp.true ?_
    refine Jp.qah 16 rfl (qaa rfl) rfl rfl sizeOf50 rfl rfl (by first | rfl | assumption) (by first | rfl | assumption) rfl (by first | rfl | assumption) (fun k _ _=>qap k) Kp.true ?_
    refine Jp.qae hK14 ?_
    refine Cd.seq fun K15 hK15=>?_
    refine Cd.seq fun K16 hK16=>?_
    refine Cd.qac [(0,false),(1,false),(2,false)] rfl rfl ?_
    refine Jp.y 71 rfl (qaa rfl) rfl rfl Kp.true (by exact Y.qad rfl rfl underlying50 rfl sizeOf3 (by decide) (show _ + 0 = _ from rfl)) ?_
    refine Jp.y 72 rfl (qaa rfl) rfl rfl Kp.true (by exact Y.qaw 16 rfl isAgg3 rfl rfl rfl) ?_
    refine Jp.y 73 rfl (qaa rfl) rfl rfl Kp.true (Y.neq rfl rfl rfl) ?_
    refine Jp.qae hK16 ?_
    refine Cd.qaq rfl (fun gb=>?_) (fun gb=>?_)
    ·rw [if_neg (show ¬ kd2 = 0 by simpa using gb)] at hG
     subst hG
     refine Cd.seq fun K17 hK17=>?_
     refine Cd.drawn [(7,_),(8,_),(16,_)] ⟨rfl,rfl,rfl,trivial⟩ [(0,true),(1,true),(2,true),(3,true),(4,false),(5,false),(6,true),(7,false),(8,true)] follows (by kernel_rfl) (fun hrl=>?_)
     refine Jp.q 74 rfl (qaa rfl) rfl rfl (by exact Y.qag 7 rfl isAgg46 sizeOf46 rfl rfl (by first | rfl | assumption)) ?_
     refine Jp.q 75 rfl (qaa rfl) rfl rfl (by exact Y.qag 8 rfl isAgg43 sizeOf43 rfl rfl (by first | rfl | assumption)) ?_
     refine Jp.q 76 rfl (qaa rfl) rfl rfl (Y.move rfl rfl) ?_
     refine Jp.q 77 rfl (qaa rfl) rfl rfl (by exact Y.qag 16 rfl isAgg50 sizeOf50 rfl rfl (by first | rfl | assumption)) ?_
     refine Jp.qah 10 rfl (qaa rfl) rfl rfl sizeOf46 rfl rfl (by first | rfl | assumption) (by first | rfl | assumption) rfl (by first | rfl | assumption) (fun k _ _=>qap k) (Kp.st ⟨rfl,rfl,rfl,trivial⟩) ?_
     refine Jp.qah 11 rfl (qaa rfl) rfl rfl sizeOf43 rfl rfl (by first | rfl | assumption) (by first | rfl | assumption) rfl (by first | rfl | assumption) (fun k _ _=>qap k) (Kp.st ⟨rfl,rfl,rfl,trivial⟩) ?_
     refine Jp.q 12 rfl (qaa rfl) rfl rfl (Y.assign rfl rfl) ?_
     refine Jp.qah 13 rfl (qaa rfl) rfl rfl sizeOf50 rfl rfl (by first | rfl | assumption) (by first | rfl | assumption) rfl (by first | rfl | assumption) (fun k _ _=>qap k) (Kp.st ⟨rfl,rfl,rfl,trivial⟩) ?_
     refine Jp.q 14 rfl (qaa rfl) rfl rfl (Y.assign rfl rfl) ?_
     refine Jp.qae hK17 ?_
     refine Cd.ret [(0,_),(1,_),(2,_)] rfl (resCCTCT 10 11 13 rfl rfl rfl rfl rfl rfl isAgg46 sizeOf46 isAgg43 sizeOf43 isAgg50 sizeOf50 rfl (by first | rfl | assumption) rfl (by first | rfl | assumption) rfl (by first | rfl | assumption)) ⟨rfl,rfl,rfl,trivial⟩ ⟨A,c,rfl,rfl⟩
    ·rw [if_pos (show kd2 = 0 by simpa using gb)] at hG
     refine Cd.qbw hK15 ?_
     refine Cd.seq fun K19 hK19=>?_
     refine Cd.seq fun K20 hK20=>?_
     refine Cd.qac [(0,false),(1,false),(2,false)] rfl rfl ?_
     refine Jp.y 78 rfl (qaa rfl) rfl rfl Kp.true (by exact Y.qad rfl rfl underlying34 rfl sizeOf3 (by decide) (show _ + 0 = _ from rfl)) ?_
     refine Jp.y 79 rfl (qaa rfl) rfl rfl Kp.true (by exact Y.qaw 15 rfl isAgg3 rfl rfl rfl) ?_
     refine Jp.call [] [] (qga i.op) 80 rfl (qaa rfl) rfl rfl (Runs.fn rfl call22 rfl) (by decide) (by decide) rfl trivial ?_
     rintro v6 ρ6 L6 ⟨rfl,rfl,rfl⟩
     refine ⟨rfl,fun hle6=>⟨Kp.true,?_⟩⟩
     refine Jp.qae hK20 ?_
     refine Cd.qhi (G:=Unit) (fun _=>True) (fun _=>[]) [(8,_),(10,_),(11,_),(13,_),(16,_),(17,_),(21,_)] ⟨rfl,rfl,rfl,rfl,rfl,rfl,rfl,trivial⟩ (fun _=>[(8,Pt b8 (.cells (qaf (newL S2 X p.pointer i s)).toArray 43))]) [(0,_),(1,_),(2,_),(10,_),(11,_),(13,_),(16,_),(21,_)] ⟨rfl,rfl,rfl,rfl,rfl,rfl,rfl,rfl,trivial⟩ hK19 (fun g hφ=>?_) (fun hj3=>?_)
     ·obtain ⟨N,hN⟩ : ∃ N,newL S2 X p.pointer i s = N:=⟨_,rfl⟩
      rw [hN] at hG ⊢
      have hNl : N.length = 128:=by
       rw [← hN]; unfold newL; split
       ·exact setL_len hX (valueT_len hX hi) hi.rd
       ·exact hX
      have hN2l : (qaf (setL N zeroT 0)).length = 128:=by rw [qbc,setL_len hNl rfl (by decide)]
      have hN2o:=qbd (setL N zeroT 0)
      refine Cd.seq fun K21 hK21=>?_
      refine Cd.qac [(0,false),(1,false),(2,false)] rfl rfl ?_
      refine Jp.y 85 rfl (qaa rfl) rfl rfl Kp.true (Y.array [] [_,_,_,_] rfl rfl underlying41 sizeOf5 zeroValue41 rfl) ?_
      refine Jp.y 86 rfl (qaa rfl) rfl rfl Kp.true (Y.qal rfl rfl rfl underlying43 sizeOf41 (by first | decide | omega) (by first | decide | omega) rfl) ?_
      refine Jp.qbo 8 rfl (qaa rfl) rfl rfl sizeOf41 rfl rfl (qbd zeroT) rfl rfl (Nat.ble_eq_true_of_le (by rw [qeu,hNl]; decide)) (fun k _ _=>qap k) Kp.true ?_
      refine Jp.imp (j:=8) rfl (fun h hh=>(show Pt b8 (.cells (qaf (setL N zeroT 0)).toArray 43) h from (by rw [← spl_setL hNl rfl (by decide)]; exact hh))) ?_
      subst hG
      refine Jp.qae hK21 ?_
      refine Cd.seq fun K22 hK22=>?_
      refine Cd.drawn [(8,_),(16,_),(21,_)] ⟨rfl,rfl,rfl,trivial⟩ [(0,true),(1,true),(2,true),(3,true),(4,false),(5,false),(6,true),(7,false),(8,true)] follows (by kernel_rfl) (fun hrl=>?_)
      refine Jp.q 87 rfl (qaa rfl) rfl rfl (by exact Y.qag 21 rfl isAgg46 sizeOf46 rfl rfl (by first | rfl | assumption)) ?_
      refine Jp.q 88 rfl (qaa rfl) rfl rfl (by exact Y.qag 8 rfl isAgg43 sizeOf43 rfl rfl (by first | rfl | assumption)) ?_
      refine Jp.q 89 rfl (qaa rfl) rfl rfl (Y.move rfl rfl) ?_
      refine Jp.q 90 rfl (qaa rfl) rfl rfl (by exact Y.qag 16 rfl isAgg50 sizeOf50 rfl rfl (by first | rfl | assumption)) ?_
      refine Jp.qah 10 rfl (qaa rfl) rfl rfl sizeOf46 rfl rfl (by first | rfl | assumption) (by first | rfl | assumption) rfl (by first | rfl | assumption) (fun k _ _=>qap k) (Kp.st ⟨rfl,rfl,rfl,trivial⟩) ?_
      refine Jp.qah 11 rfl (qaa rfl) rfl rfl sizeOf43 rfl rfl (by first | rfl | assumption) (by first | rfl | assumption) rfl (by first | rfl | assumption) (fun k _ _=>qap k) (Kp.st ⟨rfl,rfl,rfl,trivial⟩) ?_
      refine Jp.q 12 rfl (qaa rfl) rfl rfl (Y.assign rfl rfl) ?_
      refine Jp.qah 13 rfl (qaa rfl) rfl rfl sizeOf50 rfl rfl (by first | rfl | assumption) (by first | rfl | assumption) rfl (by first | rfl | assumption) (fun k _ _=>qap k) (Kp.st ⟨rfl,rfl,rfl,trivial⟩) ?_
      refine Jp.q 14 rfl (qaa rfl) rfl rfl (Y.assign rfl rfl) ?_
      refine Jp.qae hK22 ?_
      refine Cd.ret [(0,_),(1,_),(2,_)] rfl (resCCTCT 10 11 13 rfl rfl rfl rfl rfl rfl isAgg46 sizeOf46 isAgg43 sizeOf43 isAgg50 sizeOf50 rfl (by first | rfl | assumption) rfl (by first | rfl | assumption) rfl (by first | rfl | assumption)) ⟨rfl,rfl,rfl,trivial⟩ ⟨A,c,rfl,rfl⟩
     ·skip
      refine Cd.qaq rfl (fun gc=>?_) (fun gc=>?_)
      ·skip
       refine Cd.qac [(0,false),(1,false),(2,false),(3,false),(4,false)] rfl rfl ?_
       refine Jp.y 81 rfl (qaa rfl) rfl rfl Kp.true (by exact Y.qad rfl rfl underlying34 rfl sizeOf3 (by decide) (show _ + 1 = _ from rfl)) ?_
       refine Jp.y 82 rfl (qaa rfl) rfl rfl Kp.true (by exact Y.qaw 15 rfl isAgg3 rfl rfl rfl) ?_
       refine Jp.y 83 rfl (qaa rfl) rfl rfl Kp.true (by exact Y.qag 20 rfl isAgg41 sizeOf41 rfl rfl (by first | rfl | assumption)) ?_
       refine Jp.y 84 rfl (qaa rfl) rfl rfl Kp.true (Y.qal (q:=i.rd * 4) rfl rfl rfl underlying43 sizeOf41 (by omega) (by omega) (by omega)) ?_
       refine Jp.qbo 8 rfl (qaa rfl) rfl rfl sizeOf41 rfl rfl hTo hTl4 rfl (Nat.ble_eq_true_of_le (show i.rd * 4 + 4 ≤ (qaf X).toArray.size by rw [qeu,hX]; omega)) (fun k _ _=>qap k) Kp.true ?_
       refine Jp.imp (j:=8) rfl (fun h hh=>(show Pt b8 (.cells (qaf (newL S2 X p.pointer i s)).toArray 43) h from (by rw [newL,if_pos gc,hV,show V = T by rw [← hT,if_pos gc],← spl_setL hX hTl hi.rd]; exact hh))) ?_
       refine Jp.qae hK19 ?_
       exact Cd.qcz (hj3 () trivial) ⟨rfl,rfl,rfl,rfl,rfl,rfl,rfl,trivial⟩ ⟨rfl,rfl,rfl,rfl,rfl,rfl,rfl,rfl,rfl,trivial⟩
      ·skip
       refine Cd.imp (i:=8) rfl (fun h hh=>(show Pt b8 (.cells (qaf (newL S2 X p.pointer i s)).toArray 43) h from (by rw [newL,if_neg (by simpa using gc)]; exact hh))) ?_
       refine Cd.qbw hK19 ?_
       exact Cd.qcz (hj3 () trivial) ⟨rfl,rfl,rfl,rfl,rfl,rfl,rfl,trivial⟩ ⟨rfl,rfl,rfl,rfl,rfl,rfl,rfl,rfl,rfl,trivial⟩
   ·skip
    refine Cd.qaq rfl (fun gc=>?_) (fun gc=>?_)
    ·skip
     refine Cd.qac [(0,false),(1,false),(2,false),(3,false)] rfl rfl ?_
     refine Jp.y 62 rfl (qaa rfl) rfl rfl Kp.true (Y.move rfl rfl) ?_
     refine Jp.y 63 rfl (qaa rfl) rfl rfl Kp.true (by exact Y.qag 15 rfl isAgg34 sizeOf34 rfl rfl (by first | rfl | assumption)) ?_
     refine Jp.call [18,8,1] [18,8,1] (hVl' b18 b8 S2) 64 rfl (qaa rfl) rfl rfl (Runs.fn rfl call23 rfl) (by decide) (by decide) rfl trivial ?_
     rintro v5 ρ5 L5 ⟨rfl,rfl,rfl⟩
     refine ⟨rfl,fun hle5=>⟨Kp.true,?_⟩⟩
     rw [hV]
     have hV4 : (qaf V).length = 4:=by rw [qbc,hVl]
     have hVo:=qbd V
     refine Jp.qah 20 rfl (qaa rfl) rfl rfl sizeOf41 rfl rfl (by first | rfl | assumption) (by first | rfl | assumption) rfl (by first | rfl | assumption) (fun k _ _=>qap k) Kp.true ?_
     refine Jp.qae hK12 ?_
     refine Cd.imp (i:=20) rfl (fun h hh=>(show Pt b20 (.cells (qaf (if qcq i.op = true then V else zeroT)).toArray 41) h from (by rw [if_pos gc]; exact hh))) ?_
     exact Cd.qcz (hj2 () trivial) ⟨rfl,rfl,rfl,rfl,rfl,rfl,rfl,rfl,rfl,rfl,trivial⟩ ⟨rfl,rfl,rfl,rfl,rfl,rfl,rfl,rfl,rfl,rfl,rfl,rfl,rfl,trivial⟩
    ·skip
     refine Cd.imp (i:=20) rfl (fun h hh=>(show Pt b20 (.cells (qaf (if qcq i.op = true then V else zeroT)).toArray 41) h from (by rw [if_neg (by simpa using gc)]; exact hh))) ?_
     refine Cd.qbw hK12 ?_
     exact Cd.qcz (hj2 () trivial) ⟨rfl,rfl,rfl,rfl,rfl,rfl,rfl,rfl,rfl,rfl,trivial⟩ ⟨rfl,rfl,rfl,rfl,rfl,rfl,rfl,rfl,rfl,rfl,rfl,rfl,rfl,trivial⟩
  ·skip
   refine Cd.qaq rfl (fun gd=>?_) (fun gd=>?_)
   ·rw [if_pos gd] at hY
    have hLy:=hLy b18 b8
    rw [hY] at hLy
    dsimp only at hLy
    refine Cd.seq fun K24 hK24=>?_
    refine Cd.qac [(0,false),(1,false),(2,false),(3,false)] rfl rfl ?_
    refine Jp.y 49 rfl (qaa rfl) rfl rfl Kp.true (Y.move rfl rfl) ?_
    refine Jp.y 50 rfl (qaa rfl) rfl rfl Kp.true (by exact Y.qag 15 rfl isAgg34 sizeOf34 rfl rfl (by first | rfl | assumption)) ?_
    refine Jp.call [18,8,1,0] [18,8,1,0] hLy 51 rfl (qaa rfl) rfl rfl (Runs.fn rfl call21 rfl) (by decide) (by decide) rfl trivial ?_
    rintro v4 ρ4 L4 ⟨rfl,rfl⟩
    refine ⟨rfl,fun hle4=>⟨Kp.true,?_⟩⟩
    refine Jp.y 19 rfl (qaa rfl) rfl rfl Kp.true (Y.assign rfl rfl) ?_
    refine Jp.qae hK24 ?_
    refine Cd.seq fun K25 hK25=>?_
    refine Cd.qac [(0,false),(1,false)] rfl rfl ?_
    refine Jp.y 52 rfl (qaa rfl) rfl rfl Kp.true (Y.move rfl rfl) ?_
    refine Jp.y 53 rfl (qaa rfl) rfl rfl Kp.true (Y.neq rfl rfl rfl) ?_
    refine Jp.qae hK25 ?_
    refine Cd.qaq rfl (fun ge=>?_) (fun ge=>?_)
    ·rw [if_neg (show ¬ ye = 0 by simpa using ge)] at hG
     subst hG
     refine Cd.seq fun K26 hK26=>?_
     refine Cd.drawn [(7,_),(8,_)] ⟨rfl,rfl,trivial⟩ [(0,true),(1,true),(2,true),(3,true),(4,false),(5,false),(6,true),(7,false),(8,true)] follows (by kernel_rfl) (fun hrl=>?_)
     refine Jp.q 54 rfl (qaa rfl) rfl rfl (by exact Y.qag 7 rfl isAgg46 sizeOf46 rfl rfl (by first | rfl | assumption)) ?_
     refine Jp.q 55 rfl (qaa rfl) rfl rfl (by exact Y.qag 8 rfl isAgg43 sizeOf43 rfl rfl (by first | rfl | assumption)) ?_
     refine Jp.q 56 rfl (qaa rfl) rfl rfl (Y.struct [] [_,_,_] rfl rfl qbs zeroValue50 rfl) ?_
     refine Jp.q 57 rfl (qaa rfl) rfl rfl (Y.move rfl rfl) ?_
     refine Jp.qah 10 rfl (qaa rfl) rfl rfl sizeOf46 rfl rfl (by first | rfl | assumption) (by first | rfl | assumption) rfl (by first | rfl | assumption) (fun k _ _=>qap k) (Kp.st ⟨rfl,rfl,trivial⟩) ?_
     refine Jp.qah 11 rfl (qaa rfl) rfl rfl sizeOf43 rfl rfl (by first | rfl | assumption) (by first | rfl | assumption) rfl (by first | rfl | assumption) (fun k _ _=>qap k) (Kp.st ⟨rfl,rfl,trivial⟩) ?_
     refine Jp.q 12 rfl (qaa rfl) rfl rfl (Y.assign rfl rfl) ?_
     refine Jp.qah 13 rfl (qaa rfl) rfl rfl sizeOf50 rfl rfl (by first | rfl | assumption) (by first | rfl | assumption) rfl (by first | rfl | assumption) (fun k _ _=>qap k) (Kp.st ⟨rfl,rfl,trivial⟩) ?_
     refine Jp.q 14 rfl (qaa rfl) rfl rfl (Y.assign rfl rfl) ?_
     refine Jp.qae hK26 ?_
     refine Cd.make 2 (show AlO none 0 [] Hp.emp from OwnS.nil 55 4 Hp.emp) ?_
     refine Cd.ret [(0,_),(1,_),(2,_)] rfl (resCCTCT 10 11 13 rfl rfl rfl rfl rfl rfl isAgg46 sizeOf46 isAgg43 sizeOf43 isAgg50 sizeOf50 rfl (by first | rfl | assumption) rfl (by first | rfl | assumption) rfl (by first | rfl | assumption)) ⟨rfl,rfl,rfl,trivial⟩ ⟨none,0,rfl,rfl⟩
    ·skip
     refine Cd.qbw hK9 ?_
     exact Cd.qcz (hj1 ρ4 (by simpa using ge)) ⟨rfl,rfl,rfl,rfl,rfl,rfl,rfl,rfl,rfl,rfl,trivial⟩ ⟨rfl,rfl,rfl,rfl,rfl,rfl,rfl,rfl,rfl,rfl,rfl,rfl,trivial⟩
   ·rw [if_neg (by simpa using gd)] at hY
    injection hY with hY1 hY2
    subst hY2
    refine Cd.qbw hK9 ?_
    exact Cd.qcz (hj1 _ hY1.symm) ⟨rfl,rfl,rfl,rfl,rfl,rfl,rfl,rfl,rfl,rfl,trivial⟩ ⟨rfl,rfl,rfl,rfl,rfl,rfl,rfl,rfl,rfl,rfl,rfl,rfl,trivial⟩
end Go.Proofs.Ytnfkalpgidiafaa

namespace Go.Proofs.Ytnfkalpgidiafaa
open _root_.Go.Proofs.Try
open Go
def placeP (v : Int) (n : Nat) : Nat:=u32 ((u32 v * 2 ^ n : Nat) : Int)
theorem qak (v : Int) (n : Nat) : placeP v n < 4294967296:=u32_lt _
theorem qas (v : Int) (n : Nat) (hn : n < 32) : Spec Try.prog 34 #[.int .i64 v,.int .i64 n] (fun _=>True) [] (fun ρ ρ' r L=>ρ' = ρ ∧ r = .int .u32 (placeP v n : Int) ∧ L = []):=by
 refine Spec.of 9 Try.func34 rfl Try.ntmps34 [(0,_),(1,_)] rfl rfl ?_
 intro cx ρ hr h0
 refine Cd.seq fun K1 hK1=>?_
 refine Cd.qac [(0,false)] rfl rfl ?_
 refine Jp.y 4 rfl (qaa rfl) rfl rfl Kp.true (Y.assign rfl rfl) ?_
 refine Jp.qae hK1 ?_
 refine Cd.seq fun K2 hK2=>?_
 refine Cd.qac [(0,false),(1,false),(2,false),(3,false),(4,false)] rfl rfl ?_
 refine Jp.y 5 rfl (qaa rfl) rfl rfl Kp.true (Y.move rfl rfl) ?_
 refine Jp.y 6 rfl (qaa rfl) rfl rfl Kp.true (Y.qav rfl rfl underlying3 underlying31 (by rfl)) ?_
 refine Jp.y 7 rfl (qaa rfl) rfl rfl Kp.true (Y.move rfl rfl) ?_
 refine Jp.slot 6 rfl (show _ = Value.int .u32 (u32 v : Int) from congrArg (Value.int .u32) (qbz v)) ?_
 refine Jp.y 8 rfl (qaa rfl) rfl rfl Kp.true (Y.shl rfl rfl rfl (by first | decide | omega)) ?_
 refine Jp.y 4 rfl (qaa rfl) rfl rfl Kp.true (Y.assign rfl rfl) ?_
 refine Jp.qae hK2 ?_
 refine Cd.ret [] rfl (qbe rfl rfl) trivial ⟨rfl,congrArg (Value.int .u32) (shl_u (u32 v) n hn),rfl⟩
def codeT : List (Nat × Nat × Nat) := [(0, 0, 0), (55, 0, 0), (23, 0, 0), (111, 0, 0), (103, 0, 0),
 (99,0,0),(99,1,0),(99,4,0),(99,5,0),(99,6,0),(99,7,0),(3,0,0),(3,1,0),(3,2,0),(3,4,0),(3,5,0),(35,0,0),(35,1,0),(35,2,0),
 (19,0,0),(19,2,0),(19,3,0),(19,4,0),(19,6,0),(19,7,0),(19,1,0),(19,5,0),(19,5,32),
 (51,0,0),(51,0,32),(51,1,0),(51,2,0),(51,3,0),(51,4,0),(51,5,0),(51,5,32),(51,6,0),(51,7,0),
 (51, 0, 1), (51, 1, 1), (51, 2, 1), (51, 3, 1), (51, 4, 1), (51, 5, 1), (51, 6, 1), (51, 7, 1)]
def qdv (op : Nat) : Nat × Nat × Nat:=codeT.getD op (0,0,0)
def codeV (op : Nat) : Value:=.tuple #[.int .i64 ((qdv op).1 : Int),.int .i64 ((qdv op).2.1 : Int),.int .i64 ((qdv op).2.2 : Int)]
theorem code_spec (op : Nat) (h : 1 ≤ op ∧ op ≤ 45) : Spec Try.prog 33 #[.int .i64 op] (fun _=>True) [] (fun ρ ρ' v L=>ρ' = ρ ∧ v = codeV op ∧ L = []):=by
  refine Spec.of 67 Try.func33 rfl Try.ntmps33 [(0,_)] rfl rfl ?_
  intro cx ρ hr h0
  refine Cd.seq fun K3 hK3=>?_
  refine Cd.qac [(0,false),(1,false),(2,false)] rfl rfl ?_
  refine Jp.y 2 rfl (qaa rfl) rfl rfl Kp.true (Y.assign rfl rfl) ?_
  refine Jp.y 3 rfl (qaa rfl) rfl rfl Kp.true (Y.assign rfl rfl) ?_
  refine Jp.y 4 rfl (qaa rfl) rfl rfl Kp.true (Y.assign rfl rfl) ?_
  refine Jp.qae hK3 ?_
  refine Cd.seq fun K4 hK4=>?_
  refine Cd.block ?_
  refine Cd.seq fun K5 hK5=>?_
  refine Cd.qac [(0,false),(1,false),(2,false)] rfl rfl ?_
  refine Jp.y 6 rfl (qaa rfl) rfl rfl Kp.true (Y.move rfl rfl) ?_
  refine Jp.y 7 rfl (qaa rfl) rfl rfl Kp.true (Y.eql rfl rfl rfl) ?_
  refine Jp.y 5 rfl (qaa rfl) rfl rfl Kp.true (Y.assign rfl rfl) ?_
  refine Jp.qae hK5 ?_
  refine Cd.qaq rfl (fun g5=>?_) (fun g5=>?_)
  · skip
    try simp only [sG0] at g5
    refine Cd.seq fun K6 hK6=>?_
    refine Cd.qac [(0,false),(1,false),(2,false)] rfl rfl ?_
    refine Jp.y 2 rfl (qaa rfl) rfl rfl Kp.true (Y.assign rfl rfl) ?_
    refine Jp.y 3 rfl (qaa rfl) rfl rfl Kp.true (Y.assign rfl rfl) ?_
    refine Jp.y 4 rfl (qaa rfl) rfl rfl Kp.true (Y.assign rfl rfl) ?_
    refine Jp.qae hK6 ?_
    refine Cd.ret [] rfl (res3 rfl rfl rfl rfl) trivial ⟨rfl, by
      (obtain rfl : op = 1 := by omega
       rfl), rfl⟩
  · skip
    try simp only [sG0] at g5
    refine Cd.seq fun K7 hK7=>?_
    refine Cd.qac [(0,false),(1,false),(2,false)] rfl rfl ?_
    refine Jp.y 9 rfl (qaa rfl) rfl rfl Kp.true (Y.move rfl rfl) ?_
    refine Jp.y 10 rfl (qaa rfl) rfl rfl Kp.true (Y.eql rfl rfl rfl) ?_
    refine Jp.y 8 rfl (qaa rfl) rfl rfl Kp.true (Y.assign rfl rfl) ?_
    refine Jp.qae hK7 ?_
    refine Cd.qaq rfl (fun g8=>?_) (fun g8=>?_)
    · skip
      try simp only [sG0] at g8
      refine Cd.seq fun K8 hK8=>?_
      refine Cd.qac [(0,false),(1,false),(2,false)] rfl rfl ?_
      refine Jp.y 2 rfl (qaa rfl) rfl rfl Kp.true (Y.assign rfl rfl) ?_
      refine Jp.y 3 rfl (qaa rfl) rfl rfl Kp.true (Y.assign rfl rfl) ?_
      refine Jp.y 4 rfl (qaa rfl) rfl rfl Kp.true (Y.assign rfl rfl) ?_
      refine Jp.qae hK8 ?_
      refine Cd.ret [] rfl (res3 rfl rfl rfl rfl) trivial ⟨rfl, by
        (obtain rfl : op = 2 := by omega
         rfl), rfl⟩
    · skip
      try simp only [sG0] at g8
      refine Cd.seq fun K9 hK9=>?_
      refine Cd.qac [(0,false),(1,false),(2,false)] rfl rfl ?_
      refine Jp.y 12 rfl (qaa rfl) rfl rfl Kp.true (Y.move rfl rfl) ?_
      refine Jp.y 13 rfl (qaa rfl) rfl rfl Kp.true (Y.eql rfl rfl rfl) ?_
      refine Jp.y 11 rfl (qaa rfl) rfl rfl Kp.true (Y.assign rfl rfl) ?_
      refine Jp.qae hK9 ?_
      refine Cd.qaq rfl (fun g11=>?_) (fun g11=>?_)
      · skip
        try simp only [sG0] at g11
        refine Cd.seq fun K10 hK10=>?_
        refine Cd.qac [(0,false),(1,false),(2,false)] rfl rfl ?_
        refine Jp.y 2 rfl (qaa rfl) rfl rfl Kp.true (Y.assign rfl rfl) ?_
        refine Jp.y 3 rfl (qaa rfl) rfl rfl Kp.true (Y.assign rfl rfl) ?_
        refine Jp.y 4 rfl (qaa rfl) rfl rfl Kp.true (Y.assign rfl rfl) ?_
        refine Jp.qae hK10 ?_
        refine Cd.ret [] rfl (res3 rfl rfl rfl rfl) trivial ⟨rfl, by
          (obtain rfl : op = 3 := by omega
           rfl), rfl⟩
      · skip
        try simp only [sG0] at g11
        refine Cd.seq fun K11 hK11=>?_
        refine Cd.qac [(0,false),(1,false),(2,false)] rfl rfl ?_
        refine Jp.y 15 rfl (qaa rfl) rfl rfl Kp.true (Y.move rfl rfl) ?_
        refine Jp.y 16 rfl (qaa rfl) rfl rfl Kp.true (Y.eql rfl rfl rfl) ?_
        refine Jp.y 14 rfl (qaa rfl) rfl rfl Kp.true (Y.assign rfl rfl) ?_
        refine Jp.qae hK11 ?_
        refine Cd.qaq rfl (fun g14=>?_) (fun g14=>?_)
        · skip
          try simp only [sG0] at g14
          refine Cd.seq fun K12 hK12=>?_
          refine Cd.qac [(0,false),(1,false),(2,false)] rfl rfl ?_
          refine Jp.y 2 rfl (qaa rfl) rfl rfl Kp.true (Y.assign rfl rfl) ?_
          refine Jp.y 3 rfl (qaa rfl) rfl rfl Kp.true (Y.assign rfl rfl) ?_
          refine Jp.y 4 rfl (qaa rfl) rfl rfl Kp.true (Y.assign rfl rfl) ?_
          refine Jp.qae hK12 ?_
          refine Cd.ret [] rfl (res3 rfl rfl rfl rfl) trivial ⟨rfl, by
            (obtain rfl : op = 4 := by omega
             rfl), rfl⟩
        · skip
          try simp only [sG0] at g14
          refine Cd.seq fun K13 hK13=>?_
          refine Cd.qac [(0,false),(1,false),(2,false)] rfl rfl ?_
          refine Jp.y 18 rfl (qaa rfl) rfl rfl Kp.true (Y.move rfl rfl) ?_
          refine Jp.y 19 rfl (qaa rfl) rfl rfl Kp.true (Y.leq rfl rfl rfl) ?_
          refine Jp.y 17 rfl (qaa rfl) rfl rfl Kp.true (Y.assign rfl rfl) ?_
          refine Jp.qae hK13 ?_
          refine Cd.qaq rfl (fun g17=>?_) (fun g17=>?_)
          · skip
            try simp only [sG0] at g17
            refine Cd.seq fun K14 hK14=>?_
            have hidx : (#[Value.int .i64 0,Value.int .i64 1,Value.int .i64 4,Value.int .i64 5,Value.int .i64 6,Value.int .i64 7] : Array Value)[((op : Int) - 5).toNat * 1]? = some (.int .i64 ((qdv op).2.1 : Int)):=by
              rcases (show op = 5 ∨ op = 6 ∨ op = 7 ∨ op = 8 ∨ op = 9 ∨ op = 10 by omega) with rfl | rfl | rfl | rfl | rfl | rfl <;> rfl
            refine Cd.drawn [] trivial [(0,true),(1,true),(2,true),(3,true),(4,true),(5,true),(6,true)] follows (by kernel_rfl) (fun hrl=>?_)
            refine Jp.q 20 rfl (qaa rfl) rfl rfl (Y.array [(0,_),(1,_),(2,_),(3,_),(4,_),(5,_)] [_,_,_,_,_,_] rfl rfl underlying130 sizeOf3 zeroValue130 rfl) ?_
            refine Jp.q 21 rfl (qaa rfl) rfl rfl (Y.move rfl rfl) ?_
            refine Jp.q 22 rfl (qaa rfl) rfl rfl (Y.qfy rfl rfl rfl (by exact qaj (by omega) (by omega))) ?_
            refine Jp.q 23 rfl (qaa rfl) rfl rfl (Y.qcj (v:=.int .i64 ((qdv op).2.1 : Int)) rfl underlying130 sizeOf3 isAgg3 rfl rfl (by omega) (by omega) hidx) ?_
            refine Jp.q 2 rfl (qaa rfl) rfl rfl (Y.assign rfl rfl) ?_
            refine Jp.q 3 rfl (qaa rfl) rfl rfl (Y.assign rfl rfl) ?_
            refine Jp.q 4 rfl (qaa rfl) rfl rfl (Y.assign rfl rfl) ?_
            refine Jp.qae hK14 ?_
            refine Cd.ret [] rfl (res3 rfl rfl rfl rfl) trivial ⟨rfl,by rcases (show op = 5 ∨ op = 6 ∨ op = 7 ∨ op = 8 ∨ op = 9 ∨ op = 10 by omega) with rfl | rfl | rfl | rfl | rfl | rfl <;> rfl,rfl⟩
          · skip
            try simp only [sG0] at g17
            refine Cd.seq fun K16 hK16=>?_
            refine Cd.qac [(0,false),(1,false),(2,false)] rfl rfl ?_
            refine Jp.y 25 rfl (qaa rfl) rfl rfl Kp.true (Y.move rfl rfl) ?_
            refine Jp.y 26 rfl (qaa rfl) rfl rfl Kp.true (Y.leq rfl rfl rfl) ?_
            refine Jp.y 24 rfl (qaa rfl) rfl rfl Kp.true (Y.assign rfl rfl) ?_
            refine Jp.qae hK16 ?_
            refine Cd.qaq rfl (fun g24=>?_) (fun g24=>?_)
            · skip
              try simp only [sG0] at g24
              refine Cd.seq fun K17 hK17=>?_
              have hidx : (#[Value.int .i64 0,Value.int .i64 1,Value.int .i64 2,Value.int .i64 4,Value.int .i64 5] : Array Value)[((op : Int) - 11).toNat * 1]? = some (.int .i64 ((qdv op).2.1 : Int)):=by
                rcases (show op = 11 ∨ op = 12 ∨ op = 13 ∨ op = 14 ∨ op = 15 by omega) with rfl | rfl | rfl | rfl | rfl <;> rfl
              refine Cd.drawn [] trivial [(0,true),(1,true),(2,true),(3,true),(4,true),(5,true),(6,true)] follows (by kernel_rfl) (fun hrl=>?_)
              refine Jp.q 27 rfl (qaa rfl) rfl rfl (Y.array [(0,_),(1,_),(2,_),(3,_),(4,_)] [_,_,_,_,_] rfl rfl underlying131 sizeOf3 zeroValue131 rfl) ?_
              refine Jp.q 28 rfl (qaa rfl) rfl rfl (Y.move rfl rfl) ?_
              refine Jp.q 29 rfl (qaa rfl) rfl rfl (Y.qfy rfl rfl rfl (by exact qaj (by omega) (by omega))) ?_
              refine Jp.q 30 rfl (qaa rfl) rfl rfl (Y.qcj (v:=.int .i64 ((qdv op).2.1 : Int)) rfl underlying131 sizeOf3 isAgg3 rfl rfl (by omega) (by omega) hidx) ?_
              refine Jp.q 2 rfl (qaa rfl) rfl rfl (Y.assign rfl rfl) ?_
              refine Jp.q 3 rfl (qaa rfl) rfl rfl (Y.assign rfl rfl) ?_
              refine Jp.q 4 rfl (qaa rfl) rfl rfl (Y.assign rfl rfl) ?_
              refine Jp.qae hK17 ?_
              refine Cd.ret [] rfl (res3 rfl rfl rfl rfl) trivial ⟨rfl,by rcases (show op = 11 ∨ op = 12 ∨ op = 13 ∨ op = 14 ∨ op = 15 by omega) with rfl | rfl | rfl | rfl | rfl <;> rfl,rfl⟩
            · skip
              try simp only [sG0] at g24
              refine Cd.seq fun K19 hK19=>?_
              refine Cd.qac [(0,false),(1,false),(2,false)] rfl rfl ?_
              refine Jp.y 32 rfl (qaa rfl) rfl rfl Kp.true (Y.move rfl rfl) ?_
              refine Jp.y 33 rfl (qaa rfl) rfl rfl Kp.true (Y.leq rfl rfl rfl) ?_
              refine Jp.y 31 rfl (qaa rfl) rfl rfl Kp.true (Y.assign rfl rfl) ?_
              refine Jp.qae hK19 ?_
              refine Cd.qaq rfl (fun g31=>?_) (fun g31=>?_)
              · skip
                try simp only [sG0] at g31
                refine Cd.seq fun K20 hK20=>?_
                refine Cd.qac [(0,false),(1,false),(2,false),(3,false),(4,false)] rfl rfl ?_
                refine Jp.y 34 rfl (qaa rfl) rfl rfl Kp.true (Y.move rfl rfl) ?_
                refine Jp.y 35 rfl (qaa rfl) rfl rfl Kp.true (Y.qfy rfl rfl rfl (by exact qaj (by omega) (by omega))) ?_
                refine Jp.y 2 rfl (qaa rfl) rfl rfl Kp.true (Y.assign rfl rfl) ?_
                refine Jp.y 3 rfl (qaa rfl) rfl rfl Kp.true (Y.assign rfl rfl) ?_
                refine Jp.y 4 rfl (qaa rfl) rfl rfl Kp.true (Y.assign rfl rfl) ?_
                refine Jp.qae hK20 ?_
                refine Cd.ret [] rfl (res3 rfl rfl rfl rfl) trivial ⟨rfl, by
                  (rcases (show op = 16 ∨ op = 17 ∨ op = 18 by omega) with rfl | rfl | rfl <;> rfl), rfl⟩
              · skip
                try simp only [sG0] at g31
                refine Cd.seq fun K21 hK21=>?_
                refine Cd.qac [(0,false),(1,false),(2,false)] rfl rfl ?_
                refine Jp.y 37 rfl (qaa rfl) rfl rfl Kp.true (Y.move rfl rfl) ?_
                refine Jp.y 38 rfl (qaa rfl) rfl rfl Kp.true (Y.leq rfl rfl rfl) ?_
                refine Jp.y 36 rfl (qaa rfl) rfl rfl Kp.true (Y.assign rfl rfl) ?_
                refine Jp.qae hK21 ?_
                refine Cd.qaq rfl (fun g36=>?_) (fun g36=>?_)
                · skip
                  try simp only [sG0] at g36
                  refine Cd.seq fun K22 hK22=>?_
                  have hidx : (#[Value.int .i64 0,Value.int .i64 2,Value.int .i64 3,Value.int .i64 4,Value.int .i64 6,Value.int .i64 7] : Array Value)[((op : Int) - 19).toNat * 1]? = some (.int .i64 ((qdv op).2.1 : Int)):=by
                    rcases (show op = 19 ∨ op = 20 ∨ op = 21 ∨ op = 22 ∨ op = 23 ∨ op = 24 by omega) with rfl | rfl | rfl | rfl | rfl | rfl <;> rfl
                  refine Cd.drawn [] trivial [(0,true),(1,true),(2,true),(3,true),(4,true),(5,true),(6,true)] follows (by kernel_rfl) (fun hrl=>?_)
                  refine Jp.q 39 rfl (qaa rfl) rfl rfl (Y.array [(0,_),(1,_),(2,_),(3,_),(4,_),(5,_)] [_,_,_,_,_,_] rfl rfl underlying130 sizeOf3 zeroValue130 rfl) ?_
                  refine Jp.q 40 rfl (qaa rfl) rfl rfl (Y.move rfl rfl) ?_
                  refine Jp.q 41 rfl (qaa rfl) rfl rfl (Y.qfy rfl rfl rfl (by exact qaj (by omega) (by omega))) ?_
                  refine Jp.q 42 rfl (qaa rfl) rfl rfl (Y.qcj (v:=.int .i64 ((qdv op).2.1 : Int)) rfl underlying130 sizeOf3 isAgg3 rfl rfl (by omega) (by omega) hidx) ?_
                  refine Jp.q 2 rfl (qaa rfl) rfl rfl (Y.assign rfl rfl) ?_
                  refine Jp.q 3 rfl (qaa rfl) rfl rfl (Y.assign rfl rfl) ?_
                  refine Jp.q 4 rfl (qaa rfl) rfl rfl (Y.assign rfl rfl) ?_
                  refine Jp.qae hK22 ?_
                  refine Cd.ret [] rfl (res3 rfl rfl rfl rfl) trivial ⟨rfl,by rcases (show op = 19 ∨ op = 20 ∨ op = 21 ∨ op = 22 ∨ op = 23 ∨ op = 24 by omega) with rfl | rfl | rfl | rfl | rfl | rfl <;> rfl,rfl⟩
                · skip
                  try simp only [sG0] at g36
                  refine Cd.seq fun K24 hK24=>?_
                  refine Cd.qac [(0,false),(1,false),(2,false)] rfl rfl ?_
                  refine Jp.y 44 rfl (qaa rfl) rfl rfl Kp.true (Y.move rfl rfl) ?_
                  refine Jp.y 45 rfl (qaa rfl) rfl rfl Kp.true (Y.leq rfl rfl rfl) ?_
                  refine Jp.y 43 rfl (qaa rfl) rfl rfl Kp.true (Y.assign rfl rfl) ?_
                  refine Jp.qae hK24 ?_
                  refine Cd.qaq rfl (fun g43=>?_) (fun g43=>?_)
                  · skip
                    try simp only [sG0] at g43
                    refine Cd.seq fun K25 hK25=>?_
                    have hcs : op = 25 ∨ op = 26 ∨ op = 27:=by omega
                    have hidx : (#[Value.int .i64 1,Value.int .i64 5,Value.int .i64 5] : Array Value)[((op : Int) - 25).toNat * 1]? = some (.int .i64 ((qdv op).2.1 : Int)):=by
                      rcases hcs with rfl | rfl | rfl <;> rfl
                    have hidx2 : (#[Value.int .i64 0,Value.int .i64 0,Value.int .i64 32] : Array Value)[((op : Int) - 25).toNat * 1]? = some (.int .i64 ((qdv op).2.2 : Int)):=by
                      rcases hcs with rfl | rfl | rfl <;> rfl
                    refine Cd.drawn [] trivial [(0,true),(1,true),(2,true),(3,true),(4,true),(5,true),(6,true),(7,true),(8,true),(9,true),(10,true)] follows (by kernel_rfl) (fun hrl=>?_)
                    refine Jp.q 46 rfl (qaa rfl) rfl rfl (Y.array [(0,_),(1,_),(2,_)] [_,_,_] rfl rfl underlying132 sizeOf3 zeroValue132 rfl) ?_
                    refine Jp.q 47 rfl (qaa rfl) rfl rfl (Y.move rfl rfl) ?_
                    refine Jp.q 48 rfl (qaa rfl) rfl rfl (Y.qfy rfl rfl rfl (by exact qaj (by omega) (by omega))) ?_
                    refine Jp.q 49 rfl (qaa rfl) rfl rfl (Y.qcj (v:=.int .i64 ((qdv op).2.1 : Int)) rfl underlying132 sizeOf3 isAgg3 rfl rfl (by omega) (by omega) hidx) ?_
                    refine Jp.q 50 rfl (qaa rfl) rfl rfl (Y.array [(0,_),(1,_),(2,_)] [_,_,_] rfl rfl underlying132 sizeOf3 zeroValue132 rfl) ?_
                    refine Jp.q 51 rfl (qaa rfl) rfl rfl (Y.move rfl rfl) ?_
                    refine Jp.q 52 rfl (qaa rfl) rfl rfl (Y.qfy rfl rfl rfl (by exact qaj (by omega) (by omega))) ?_
                    refine Jp.q 53 rfl (qaa rfl) rfl rfl (Y.qcj (v:=.int .i64 ((qdv op).2.2 : Int)) rfl underlying132 sizeOf3 isAgg3 rfl rfl (by omega) (by omega) hidx2) ?_
                    refine Jp.q 2 rfl (qaa rfl) rfl rfl (Y.assign rfl rfl) ?_
                    refine Jp.q 3 rfl (qaa rfl) rfl rfl (Y.assign rfl rfl) ?_
                    refine Jp.q 4 rfl (qaa rfl) rfl rfl (Y.assign rfl rfl) ?_
                    refine Jp.qae hK25 ?_
                    refine Cd.ret [] rfl (res3 rfl rfl rfl rfl) trivial ⟨rfl,by rcases hcs with rfl | rfl | rfl <;> rfl,rfl⟩
                  · skip
                    try simp only [sG0] at g43
                    refine Cd.seq fun K27 hK27=>?_
                    refine Cd.qac [(0,false),(1,false),(2,false)] rfl rfl ?_
                    refine Jp.y 55 rfl (qaa rfl) rfl rfl Kp.true (Y.move rfl rfl) ?_
                    refine Jp.y 56 rfl (qaa rfl) rfl rfl Kp.true (Y.leq rfl rfl rfl) ?_
                    refine Jp.y 54 rfl (qaa rfl) rfl rfl Kp.true (Y.assign rfl rfl) ?_
                    refine Jp.qae hK27 ?_
                    refine Cd.qaq rfl (fun g54=>?_) (fun g54=>?_)
                    · skip
                      try simp only [sG0] at g54
                      refine Cd.seq fun K28 hK28=>?_
                      have hcs : op = 28 ∨ op = 29 ∨ op = 30 ∨ op = 31 ∨ op = 32 ∨ op = 33 ∨ op = 34 ∨ op = 35 ∨ op = 36 ∨ op = 37:=by omega
                      have hidx : (#[Value.int .i64 0,Value.int .i64 0,Value.int .i64 1,Value.int .i64 2,Value.int .i64 3,Value.int .i64 4,Value.int .i64 5,Value.int .i64 5,Value.int .i64 6,Value.int .i64 7] : Array Value)[((op : Int) - 28).toNat * 1]? = some (.int .i64 ((qdv op).2.1 : Int)):=by
                        rcases hcs with rfl | rfl | rfl | rfl | rfl | rfl | rfl | rfl | rfl | rfl <;> rfl
                      have hidx2 : (#[Value.int .i64 0,Value.int .i64 32,Value.int .i64 0,Value.int .i64 0,Value.int .i64 0,Value.int .i64 0,Value.int .i64 0,Value.int .i64 32,Value.int .i64 0,Value.int .i64 0] : Array Value)[((op : Int) - 28).toNat * 1]? = some (.int .i64 ((qdv op).2.2 : Int)):=by
                        rcases hcs with rfl | rfl | rfl | rfl | rfl | rfl | rfl | rfl | rfl | rfl <;> rfl
                      refine Cd.drawn [] trivial [(0,true),(1,true),(2,true),(3,true),(4,true),(5,true),(6,true),(7,true),(8,true),(9,true),(10,true)] follows (by kernel_rfl) (fun hrl=>?_)
                      refine Jp.q 57 rfl (qaa rfl) rfl rfl (Y.array [(0,_),(1,_),(2,_),(3,_),(4,_),(5,_),(6,_),(7,_),(8,_),(9,_)] [_,_,_,_,_,_,_,_,_,_] rfl rfl underlying133 sizeOf3 zeroValue133 rfl) ?_
                      refine Jp.q 58 rfl (qaa rfl) rfl rfl (Y.move rfl rfl) ?_
                      refine Jp.q 59 rfl (qaa rfl) rfl rfl (Y.qfy rfl rfl rfl (by exact qaj (by omega) (by omega))) ?_
                      refine Jp.q 60 rfl (qaa rfl) rfl rfl (Y.qcj (v:=.int .i64 ((qdv op).2.1 : Int)) rfl underlying133 sizeOf3 isAgg3 rfl rfl (by omega) (by omega) hidx) ?_
                      refine Jp.q 61 rfl (qaa rfl) rfl rfl (Y.array [(0,_),(1,_),(2,_),(3,_),(4,_),(5,_),(6,_),(7,_),(8,_),(9,_)] [_,_,_,_,_,_,_,_,_,_] rfl rfl underlying133 sizeOf3 zeroValue133 rfl) ?_
                      refine Jp.q 62 rfl (qaa rfl) rfl rfl (Y.move rfl rfl) ?_
                      refine Jp.q 63 rfl (qaa rfl) rfl rfl (Y.qfy rfl rfl rfl (by exact qaj (by omega) (by omega))) ?_
                      refine Jp.q 64 rfl (qaa rfl) rfl rfl (Y.qcj (v:=.int .i64 ((qdv op).2.2 : Int)) rfl underlying133 sizeOf3 isAgg3 rfl rfl (by omega) (by omega) hidx2) ?_
                      refine Jp.q 2 rfl (qaa rfl) rfl rfl (Y.assign rfl rfl) ?_
                      refine Jp.q 3 rfl (qaa rfl) rfl rfl (Y.assign rfl rfl) ?_
                      refine Jp.q 4 rfl (qaa rfl) rfl rfl (Y.assign rfl rfl) ?_
                      refine Jp.qae hK28 ?_
                      refine Cd.ret [] rfl (res3 rfl rfl rfl rfl) trivial ⟨rfl,by rcases hcs with rfl | rfl | rfl | rfl | rfl | rfl | rfl | rfl | rfl | rfl <;> rfl,rfl⟩
                    · skip
                      try simp only [sG0] at g54
                      refine Cd.over rfl hK4 ?_
                      refine Cd.seq fun K30 hK30=>?_
                      refine Cd.qac [(0,false),(1,false),(2,false),(3,false),(4,false)] rfl rfl ?_
                      refine Jp.y 65 rfl (qaa rfl) rfl rfl Kp.true (Y.move rfl rfl) ?_
                      refine Jp.y 66 rfl (qaa rfl) rfl rfl Kp.true (Y.qfy rfl rfl rfl (by exact qaj (by omega) (by omega))) ?_
                      refine Jp.y 2 rfl (qaa rfl) rfl rfl Kp.true (Y.assign rfl rfl) ?_
                      refine Jp.y 3 rfl (qaa rfl) rfl rfl Kp.true (Y.assign rfl rfl) ?_
                      refine Jp.y 4 rfl (qaa rfl) rfl rfl Kp.true (Y.assign rfl rfl) ?_
                      refine Jp.qae hK30 ?_
                      refine Cd.ret [] rfl (res3 rfl rfl rfl rfl) trivial ⟨rfl, by
                        (rcases (show op = 38 ∨ op = 39 ∨ op = 40 ∨ op = 41 ∨ op = 42 ∨ op = 43 ∨ op = 44 ∨ op = 45 by omega) with rfl | rfl | rfl | rfl | rfl | rfl | rfl | rfl <;> rfl), rfl⟩
def cutI (v : Int) (n : Nat) (m : Int) : Int:=qcc .and .i64 (v.fdiv (2 ^ n)) m
def bitsP (op : Nat) (v : Int) : Nat :=
 if op ≤ 2 then u32 v - u32 v % 4096 else if op = 3 then placeP (cutI v 20 1) 31 ||| placeP (cutI v 1 1023) 21 ||| placeP (cutI v 11 1) 20 ||| placeP (cutI v 12 255) 12 else
 if 5 ≤ op ∧ op ≤ 10 then placeP (cutI v 12 1) 31 ||| placeP (cutI v 5 63) 25 ||| placeP (cutI v 1 15) 8 ||| placeP (cutI v 11 1) 7 else
 if 16 ≤ op ∧ op ≤ 18 then placeP (cutI v 5 127) 25 ||| placeP (qcc .and .i64 v 31) 7 else if 25 ≤ op ∧ op ≤ 27 then placeP (qcc .and .i64 v 31) 20 else
 if 28 ≤ op then 0 else placeP (qcc .and .i64 v 4095) 20
theorem qex {a b : Nat} (ha : a < 4294967296) (hb : b < 4294967296) : a ||| b < 4294967296:=Nat.or_lt_two_pow (n:=32) ha hb
theorem or4_u {a b c d : Nat} (ha : a < 4294967296) (hb : b < 4294967296) (hc : c < 4294967296) (hd : d < 4294967296) : qcc .or .u32 (qcc .or .u32 (qcc .or .u32 (a : Int) b) c) d = ((a ||| b ||| c ||| d : Nat) : Int):=by
 rw [qbj ha hb,qbj (qex ha hb) hc,qbj (qex (qex ha hb) hc) hd]
section
attribute [local irreducible] qcc IntKind.wrap u32
theorem bits_spec (op : Nat) (v : Int) (hv : -2147483648 ≤ v ∧ v ≤ 2147483647) : Spec Try.prog 35 #[.int .i64 op,.int .i32 v] (fun _=>True) [] (fun ρ ρ' r L=>ρ' = ρ ∧ r = .int .u32 (bitsP op v : Int) ∧ L = []):=by
 refine Spec.of 93 Try.func35 rfl Try.ntmps35 [(0,_),(1,_)] rfl rfl ?_
 intro cx ρ hr h0
 obtain ⟨hv1,hv2⟩:=hv
 have hm : qcc .and .u32 (IntKind.u32.wrap v) 4294963200 = ((u32 v - u32 v % 4096 : Nat) : Int):=by
  have h:=qds (b:=4294963200) (u32_lt v) (by omega)
  rw [and_hi12 _ (u32_lt v)] at h
  rw [qbz]; exact h
 refine Cd.seq fun K31 hK31=>?_
 refine Cd.qac [(0,false)] rfl rfl ?_
 refine Jp.y 4 rfl (qaa rfl) rfl rfl Kp.true (Y.assign rfl rfl) ?_
 refine Jp.qae hK31 ?_
 refine Cd.seq fun K32 hK32=>?_
 refine Cd.qac [(0,false),(1,false),(2,false)] rfl rfl ?_
 refine Jp.y 6 rfl (qaa rfl) rfl rfl Kp.true (Y.move rfl rfl) ?_
 refine Jp.y 7 rfl (qaa rfl) rfl rfl Kp.true (Y.qav rfl rfl underlying21 underlying3 (by exact qaj (by omega) (by omega))) ?_
 refine Jp.y 5 rfl (qaa rfl) rfl rfl Kp.true (Y.assign rfl rfl) ?_
 refine Jp.qae hK32 ?_
 refine Cd.seq fun K33 hK33=>?_
 refine Cd.block ?_
 refine Cd.seq fun K34 hK34=>?_
 refine Cd.qac [(0,false),(1,false),(2,false)] rfl rfl ?_
 refine Jp.y 9 rfl (qaa rfl) rfl rfl Kp.true (Y.move rfl rfl) ?_
 refine Jp.y 10 rfl (qaa rfl) rfl rfl Kp.true (Y.leq rfl rfl rfl) ?_
 refine Jp.y 8 rfl (qaa rfl) rfl rfl Kp.true (Y.assign rfl rfl) ?_
 refine Jp.qae hK34 ?_
 refine Cd.qaq rfl (fun g8=>?_) (fun g8=>?_)
 ·skip
  try simp only [sG0] at g8
  refine Cd.seq fun K35 hK35=>?_
  refine Cd.qac [(0,false),(1,false),(2,false),(3,false)] rfl rfl ?_
  refine Jp.y 11 rfl (qaa rfl) rfl rfl Kp.true (Y.move rfl rfl) ?_
  refine Jp.y 12 rfl (qaa rfl) rfl rfl Kp.true (Y.qav rfl rfl underlying21 underlying31 (by rfl)) ?_
  refine Jp.y 13 rfl (qaa rfl) rfl rfl Kp.true (Y.bits rfl rfl rfl rfl) ?_
  refine Jp.y 4 rfl (qaa rfl) rfl rfl Kp.true (Y.assign rfl rfl) ?_
  refine Jp.qae hK35 ?_
  refine Cd.ret [] rfl (qbe rfl rfl) trivial ⟨rfl, congrArg (Value.int .u32) (by
   (rw [bitsP]; repeat first | exact hm | exact or4_u (qak _ _) (qak _ _) (qak _ _) (qak _ _) | exact qbj (qak _ _) (qak _ _) | rfl | rw [if_pos (by omega)] | rw [if_neg (by omega)])), rfl⟩
 ·skip
  try simp only [sG0] at g8
  refine Cd.seq fun K36 hK36=>?_
  refine Cd.qac [(0,false),(1,false),(2,false)] rfl rfl ?_
  refine Jp.y 15 rfl (qaa rfl) rfl rfl Kp.true (Y.move rfl rfl) ?_
  refine Jp.y 16 rfl (qaa rfl) rfl rfl Kp.true (Y.eql rfl rfl rfl) ?_
  refine Jp.y 14 rfl (qaa rfl) rfl rfl Kp.true (Y.assign rfl rfl) ?_
  refine Jp.qae hK36 ?_
  refine Cd.qaq rfl (fun g14=>?_) (fun g14=>?_)
  ·skip
   try simp only [sG0] at g14
   refine Cd.seq fun K37 hK37=>?_
   refine Cd.qac [(0,false),(1,false),(2,false),(3,false),(4,false),(5,false),(6,false),(7,false),(8,false),(9,false),(10,false),(11,false),(12,false),(13,false),(14,false),(15,false),(16,false),(17,false),(18,false),(19,false)] rfl rfl ?_
   refine Jp.y 17 rfl (qaa rfl) rfl rfl Kp.true (Y.move rfl rfl) ?_
   refine Jp.y 18 rfl (qaa rfl) rfl rfl Kp.true (Y.shr rfl rfl rfl (by first | decide | omega)) ?_
   refine Jp.y 19 rfl (qaa rfl) rfl rfl Kp.true (Y.bits rfl rfl rfl rfl) ?_
   refine Jp.call [] [] (qas _ _ (by decide)) 20 rfl (qaa rfl) rfl rfl (Runs.fn rfl call34 rfl) (by decide) (by decide) rfl trivial ?_
   rintro v101 ρ101 L101 ⟨rfl,rfl,rfl⟩
   refine ⟨rfl,fun hle101=>⟨Kp.true,?_⟩⟩
   refine Jp.y 21 rfl (qaa rfl) rfl rfl Kp.true (Y.move rfl rfl) ?_
   refine Jp.y 22 rfl (qaa rfl) rfl rfl Kp.true (Y.shr rfl rfl rfl (by first | decide | omega)) ?_
   refine Jp.y 23 rfl (qaa rfl) rfl rfl Kp.true (Y.bits rfl rfl rfl rfl) ?_
   refine Jp.call [] [] (qas _ _ (by decide)) 24 rfl (qaa rfl) rfl rfl (Runs.fn rfl call34 rfl) (by decide) (by decide) rfl trivial ?_
   rintro v102 ρ102 L102 ⟨rfl,rfl,rfl⟩
   refine ⟨rfl,fun hle102=>⟨Kp.true,?_⟩⟩
   refine Jp.y 25 rfl (qaa rfl) rfl rfl Kp.true (Y.bits rfl rfl rfl rfl) ?_
   refine Jp.y 26 rfl (qaa rfl) rfl rfl Kp.true (Y.move rfl rfl) ?_
   refine Jp.y 27 rfl (qaa rfl) rfl rfl Kp.true (Y.shr rfl rfl rfl (by first | decide | omega)) ?_
   refine Jp.y 28 rfl (qaa rfl) rfl rfl Kp.true (Y.bits rfl rfl rfl rfl) ?_
   refine Jp.call [] [] (qas _ _ (by decide)) 29 rfl (qaa rfl) rfl rfl (Runs.fn rfl call34 rfl) (by decide) (by decide) rfl trivial ?_
   rintro v103 ρ103 L103 ⟨rfl,rfl,rfl⟩
   refine ⟨rfl,fun hle103=>⟨Kp.true,?_⟩⟩
   refine Jp.y 30 rfl (qaa rfl) rfl rfl Kp.true (Y.bits rfl rfl rfl rfl) ?_
   refine Jp.y 31 rfl (qaa rfl) rfl rfl Kp.true (Y.move rfl rfl) ?_
   refine Jp.y 32 rfl (qaa rfl) rfl rfl Kp.true (Y.shr rfl rfl rfl (by first | decide | omega)) ?_
   refine Jp.y 33 rfl (qaa rfl) rfl rfl Kp.true (Y.bits rfl rfl rfl rfl) ?_
   refine Jp.call [] [] (qas _ _ (by decide)) 34 rfl (qaa rfl) rfl rfl (Runs.fn rfl call34 rfl) (by decide) (by decide) rfl trivial ?_
   rintro v104 ρ104 L104 ⟨rfl,rfl,rfl⟩
   refine ⟨rfl,fun hle104=>⟨Kp.true,?_⟩⟩
   refine Jp.y 35 rfl (qaa rfl) rfl rfl Kp.true (Y.bits rfl rfl rfl rfl) ?_
   refine Jp.y 4 rfl (qaa rfl) rfl rfl Kp.true (Y.assign rfl rfl) ?_
   refine Jp.qae hK37 ?_
   refine Cd.ret [] rfl (qbe rfl rfl) trivial ⟨rfl, congrArg (Value.int .u32) (by
    (rw [bitsP]; repeat first | exact hm | exact or4_u (qak _ _) (qak _ _) (qak _ _) (qak _ _) | exact qbj (qak _ _) (qak _ _) | rfl | rw [if_pos (by omega)] | rw [if_neg (by omega)])), rfl⟩
  ·skip
   try simp only [sG0] at g14
   refine Cd.seq fun K38 hK38=>?_
   refine Cd.qac [(0,false),(1,false),(2,false),(3,false),(4,false),(5,false),(6,false)] rfl rfl ?_
   refine Jp.y 37 rfl (qaa rfl) rfl rfl Kp.true (Y.move rfl rfl) ?_
   refine Jp.y 38 rfl (qaa rfl) rfl rfl Kp.true (Y.geq rfl rfl rfl) ?_
   refine Jp.y 39 rfl (qaa rfl) rfl rfl Kp.true (Y.move rfl rfl) ?_
   refine Jp.split 39 rfl (fun g39=>?_) (fun g39=>?_)
   ·skip
    try simp only [sG0] at g39
    refine Jp.y 40 rfl (qab rfl rfl rfl rfl) rfl rfl Kp.true (Y.move rfl rfl) ?_
    refine Jp.y 41 rfl (qab rfl rfl rfl rfl) rfl rfl Kp.true (Y.leq rfl rfl rfl) ?_
    refine Jp.y 42 rfl (qaa rfl) rfl rfl Kp.true (Y.qba rfl rfl rfl) ?_
    refine Jp.y 36 rfl (qaa rfl) rfl rfl Kp.true (Y.assign rfl rfl) ?_
    refine Jp.qae hK38 ?_
    refine Cd.qaq rfl (fun g36=>?_) (fun g36=>?_)
    ·skip
     try simp only [sG0] at g36
     refine Cd.seq fun K39 hK39=>?_
     refine Cd.qac [(0,false),(1,false),(2,false),(3,false),(4,false),(5,false),(6,false),(7,false),(8,false),(9,false),(10,false),(11,false),(12,false),(13,false),(14,false),(15,false),(16,false),(17,false),(18,false),(19,false)] rfl rfl ?_
     refine Jp.y 43 rfl (qaa rfl) rfl rfl Kp.true (Y.move rfl rfl) ?_
     refine Jp.y 44 rfl (qaa rfl) rfl rfl Kp.true (Y.shr rfl rfl rfl (by first | decide | omega)) ?_
     refine Jp.y 45 rfl (qaa rfl) rfl rfl Kp.true (Y.bits rfl rfl rfl rfl) ?_
     refine Jp.call [] [] (qas _ _ (by decide)) 46 rfl (qaa rfl) rfl rfl (Runs.fn rfl call34 rfl) (by decide) (by decide) rfl trivial ?_
     rintro v105 ρ105 L105 ⟨rfl,rfl,rfl⟩
     refine ⟨rfl,fun hle105=>⟨Kp.true,?_⟩⟩
     refine Jp.y 47 rfl (qaa rfl) rfl rfl Kp.true (Y.move rfl rfl) ?_
     refine Jp.y 48 rfl (qaa rfl) rfl rfl Kp.true (Y.shr rfl rfl rfl (by first | decide | omega)) ?_
     refine Jp.y 49 rfl (qaa rfl) rfl rfl Kp.true (Y.bits rfl rfl rfl rfl) ?_
     refine Jp.call [] [] (qas _ _ (by decide)) 50 rfl (qaa rfl) rfl rfl (Runs.fn rfl call34 rfl) (by decide) (by decide) rfl trivial ?_
     rintro v106 ρ106 L106 ⟨rfl,rfl,rfl⟩
     refine ⟨rfl,fun hle106=>⟨Kp.true,?_⟩⟩
     refine Jp.y 51 rfl (qaa rfl) rfl rfl Kp.true (Y.bits rfl rfl rfl rfl) ?_
     refine Jp.y 52 rfl (qaa rfl) rfl rfl Kp.true (Y.move rfl rfl) ?_
     refine Jp.y 53 rfl (qaa rfl) rfl rfl Kp.true (Y.shr rfl rfl rfl (by first | decide | omega)) ?_
     refine Jp.y 54 rfl (qaa rfl) rfl rfl Kp.true (Y.bits rfl rfl rfl rfl) ?_
     refine Jp.call [] [] (qas _ _ (by decide)) 55 rfl (qaa rfl) rfl rfl (Runs.fn rfl call34 rfl) (by decide) (by decide) rfl trivial ?_
     rintro v107 ρ107 L107 ⟨rfl,rfl,rfl⟩
     refine ⟨rfl,fun hle107=>⟨Kp.true,?_⟩⟩
     refine Jp.y 56 rfl (qaa rfl) rfl rfl Kp.true (Y.bits rfl rfl rfl rfl) ?_
     refine Jp.y 57 rfl (qaa rfl) rfl rfl Kp.true (Y.move rfl rfl) ?_
     refine Jp.y 58 rfl (qaa rfl) rfl rfl Kp.true (Y.shr rfl rfl rfl (by first | decide | omega)) ?_
     refine Jp.y 59 rfl (qaa rfl) rfl rfl Kp.true (Y.bits rfl rfl rfl rfl) ?_
     refine Jp.call [] [] (qas _ _ (by decide)) 60 rfl (qaa rfl) rfl rfl (Runs.fn rfl call34 rfl) (by decide) (by decide) rfl trivial ?_
     rintro v108 ρ108 L108 ⟨rfl,rfl,rfl⟩
     refine ⟨rfl,fun hle108=>⟨Kp.true,?_⟩⟩
     refine Jp.y 61 rfl (qaa rfl) rfl rfl Kp.true (Y.bits rfl rfl rfl rfl) ?_
     refine Jp.y 4 rfl (qaa rfl) rfl rfl Kp.true (Y.assign rfl rfl) ?_
     refine Jp.qae hK39 ?_
     refine Cd.ret [] rfl (qbe rfl rfl) trivial ⟨rfl, congrArg (Value.int .u32) (by
      (rw [bitsP]; repeat first | exact hm | exact or4_u (qak _ _) (qak _ _) (qak _ _) (qak _ _) | exact qbj (qak _ _) (qak _ _) | rfl | rw [if_pos (by omega)] | rw [if_neg (by omega)])), rfl⟩
    ·skip
     try simp only [sG0] at g36
     refine Cd.seq fun K40 hK40=>?_
     refine Cd.qac [(0,false),(1,false),(2,false),(3,false),(4,false),(5,false),(6,false)] rfl rfl ?_
     refine Jp.y 63 rfl (qaa rfl) rfl rfl Kp.true (Y.move rfl rfl) ?_
     refine Jp.y 64 rfl (qaa rfl) rfl rfl Kp.true (Y.geq rfl rfl rfl) ?_
     refine Jp.y 65 rfl (qaa rfl) rfl rfl Kp.true (Y.move rfl rfl) ?_
     refine Jp.split 65 rfl (fun g65=>?_) (fun g65=>?_)
     ·skip
      try simp only [sG0] at g65
      refine Jp.y 66 rfl (qab rfl rfl rfl rfl) rfl rfl Kp.true (Y.move rfl rfl) ?_
      refine Jp.y 67 rfl (qab rfl rfl rfl rfl) rfl rfl Kp.true (Y.leq rfl rfl rfl) ?_
      refine Jp.y 68 rfl (qaa rfl) rfl rfl Kp.true (Y.qba rfl rfl rfl) ?_
      refine Jp.y 62 rfl (qaa rfl) rfl rfl Kp.true (Y.assign rfl rfl) ?_
      refine Jp.qae hK40 ?_
      refine Cd.qaq rfl (fun g62=>?_) (fun g62=>?_)
      ·skip
       try simp only [sG0] at g62
       refine Cd.seq fun K41 hK41=>?_
       refine Cd.qac [(0,false),(1,false),(2,false),(3,false),(4,false),(5,false),(6,false),(7,false),(8,false)] rfl rfl ?_
       refine Jp.y 69 rfl (qaa rfl) rfl rfl Kp.true (Y.move rfl rfl) ?_
       refine Jp.y 70 rfl (qaa rfl) rfl rfl Kp.true (Y.shr rfl rfl rfl (by first | decide | omega)) ?_
       refine Jp.y 71 rfl (qaa rfl) rfl rfl Kp.true (Y.bits rfl rfl rfl rfl) ?_
       refine Jp.call [] [] (qas _ _ (by decide)) 72 rfl (qaa rfl) rfl rfl (Runs.fn rfl call34 rfl) (by decide) (by decide) rfl trivial ?_
       rintro v109 ρ109 L109 ⟨rfl,rfl,rfl⟩
       refine ⟨rfl,fun hle109=>⟨Kp.true,?_⟩⟩
       refine Jp.y 73 rfl (qaa rfl) rfl rfl Kp.true (Y.move rfl rfl) ?_
       refine Jp.y 74 rfl (qaa rfl) rfl rfl Kp.true (Y.bits rfl rfl rfl rfl) ?_
       refine Jp.call [] [] (qas _ _ (by decide)) 75 rfl (qaa rfl) rfl rfl (Runs.fn rfl call34 rfl) (by decide) (by decide) rfl trivial ?_
       rintro v110 ρ110 L110 ⟨rfl,rfl,rfl⟩
       refine ⟨rfl,fun hle110=>⟨Kp.true,?_⟩⟩
       refine Jp.y 76 rfl (qaa rfl) rfl rfl Kp.true (Y.bits rfl rfl rfl rfl) ?_
       refine Jp.y 4 rfl (qaa rfl) rfl rfl Kp.true (Y.assign rfl rfl) ?_
       refine Jp.qae hK41 ?_
       refine Cd.ret [] rfl (qbe rfl rfl) trivial ⟨rfl, congrArg (Value.int .u32) (by
        (rw [bitsP]; repeat first | exact hm | exact or4_u (qak _ _) (qak _ _) (qak _ _) (qak _ _) | exact qbj (qak _ _) (qak _ _) | rfl | rw [if_pos (by omega)] | rw [if_neg (by omega)])), rfl⟩
      ·skip
       try simp only [sG0] at g62
       refine Cd.seq fun K42 hK42=>?_
       refine Cd.qac [(0,false),(1,false),(2,false),(3,false),(4,false),(5,false),(6,false)] rfl rfl ?_
       refine Jp.y 78 rfl (qaa rfl) rfl rfl Kp.true (Y.move rfl rfl) ?_
       refine Jp.y 79 rfl (qaa rfl) rfl rfl Kp.true (Y.geq rfl rfl rfl) ?_
       refine Jp.y 80 rfl (qaa rfl) rfl rfl Kp.true (Y.move rfl rfl) ?_
       refine Jp.split 80 rfl (fun g80=>?_) (fun g80=>?_)
       ·skip
        try simp only [sG0] at g80
        refine Jp.y 81 rfl (qab rfl rfl rfl rfl) rfl rfl Kp.true (Y.move rfl rfl) ?_
        refine Jp.y 82 rfl (qab rfl rfl rfl rfl) rfl rfl Kp.true (Y.leq rfl rfl rfl) ?_
        refine Jp.y 83 rfl (qaa rfl) rfl rfl Kp.true (Y.qba rfl rfl rfl) ?_
        refine Jp.y 77 rfl (qaa rfl) rfl rfl Kp.true (Y.assign rfl rfl) ?_
        refine Jp.qae hK42 ?_
        refine Cd.qaq rfl (fun g77=>?_) (fun g77=>?_)
        ·skip
         try simp only [sG0] at g77
         refine Cd.seq fun K43 hK43=>?_
         refine Cd.qac [(0,false),(1,false),(2,false),(3,false)] rfl rfl ?_
         refine Jp.y 84 rfl (qaa rfl) rfl rfl Kp.true (Y.move rfl rfl) ?_
         refine Jp.y 85 rfl (qaa rfl) rfl rfl Kp.true (Y.bits rfl rfl rfl rfl) ?_
         refine Jp.call [] [] (qas _ _ (by decide)) 86 rfl (qaa rfl) rfl rfl (Runs.fn rfl call34 rfl) (by decide) (by decide) rfl trivial ?_
         rintro v111 ρ111 L111 ⟨rfl,rfl,rfl⟩
         refine ⟨rfl,fun hle111=>⟨Kp.true,?_⟩⟩
         refine Jp.y 4 rfl (qaa rfl) rfl rfl Kp.true (Y.assign rfl rfl) ?_
         refine Jp.qae hK43 ?_
         refine Cd.ret [] rfl (qbe rfl rfl) trivial ⟨rfl, congrArg (Value.int .u32) (by
          (rw [bitsP]; repeat first | exact hm | exact or4_u (qak _ _) (qak _ _) (qak _ _) (qak _ _) | exact qbj (qak _ _) (qak _ _) | rfl | rw [if_pos (by omega)] | rw [if_neg (by omega)])), rfl⟩
        ·skip
         try simp only [sG0] at g77
         refine Cd.seq fun K44 hK44=>?_
         refine Cd.qac [(0,false),(1,false),(2,false)] rfl rfl ?_
         refine Jp.y 88 rfl (qaa rfl) rfl rfl Kp.true (Y.move rfl rfl) ?_
         refine Jp.y 89 rfl (qaa rfl) rfl rfl Kp.true (Y.geq rfl rfl rfl) ?_
         refine Jp.y 87 rfl (qaa rfl) rfl rfl Kp.true (Y.assign rfl rfl) ?_
         refine Jp.qae hK44 ?_
         refine Cd.qaq rfl (fun g87=>?_) (fun g87=>?_)
         ·skip
          try simp only [sG0] at g87
          refine Cd.seq fun K45 hK45=>?_
          refine Cd.qac [(0,false)] rfl rfl ?_
          refine Jp.y 4 rfl (qaa rfl) rfl rfl Kp.true (Y.assign rfl rfl) ?_
          refine Jp.qae hK45 ?_
          refine Cd.ret [] rfl (qbe rfl rfl) trivial ⟨rfl, congrArg (Value.int .u32) (by
           (rw [bitsP]; repeat first | exact hm | exact or4_u (qak _ _) (qak _ _) (qak _ _) (qak _ _) | exact qbj (qak _ _) (qak _ _) | rfl | rw [if_pos (by omega)] | rw [if_neg (by omega)])), rfl⟩
         ·skip
          try simp only [sG0] at g87
          refine Cd.over rfl hK33 ?_
          refine Cd.seq fun K46 hK46=>?_
          refine Cd.qac [(0,false),(1,false),(2,false),(3,false)] rfl rfl ?_
          refine Jp.y 90 rfl (qaa rfl) rfl rfl Kp.true (Y.move rfl rfl) ?_
          refine Jp.y 91 rfl (qaa rfl) rfl rfl Kp.true (Y.bits rfl rfl rfl rfl) ?_
          refine Jp.call [] [] (qas _ _ (by decide)) 92 rfl (qaa rfl) rfl rfl (Runs.fn rfl call34 rfl) (by decide) (by decide) rfl trivial ?_
          rintro v112 ρ112 L112 ⟨rfl,rfl,rfl⟩
          refine ⟨rfl,fun hle112=>⟨Kp.true,?_⟩⟩
          refine Jp.y 4 rfl (qaa rfl) rfl rfl Kp.true (Y.assign rfl rfl) ?_
          refine Jp.qae hK46 ?_
          refine Cd.ret [] rfl (qbe rfl rfl) trivial ⟨rfl, congrArg (Value.int .u32) (by
           (exfalso; omega)), rfl⟩
       ·skip
        try simp only [sG0] at g80
        refine Jp.qat 81 rfl (qab rfl rfl rfl rfl) rfl rfl Kp.true ?_
        refine Jp.qat 82 rfl (qab rfl rfl rfl rfl) rfl rfl Kp.true ?_
        refine Jp.y 83 rfl (qaa rfl) rfl rfl Kp.true (Y.qaz rfl rfl rfl) ?_
        refine Jp.y 77 rfl (qaa rfl) rfl rfl Kp.true (Y.assign rfl rfl) ?_
        refine Jp.qae hK42 ?_
        refine Cd.qbu rfl ?_
        refine Cd.seq fun K47 hK47=>?_
        refine Cd.qac [(0,false),(1,false),(2,false)] rfl rfl ?_
        refine Jp.y 88 rfl (qaa rfl) rfl rfl Kp.true (Y.move rfl rfl) ?_
        refine Jp.y 89 rfl (qaa rfl) rfl rfl Kp.true (Y.geq rfl rfl rfl) ?_
        refine Jp.y 87 rfl (qaa rfl) rfl rfl Kp.true (Y.assign rfl rfl) ?_
        refine Jp.qae hK47 ?_
        refine Cd.qaq rfl (fun g87=>?_) (fun g87=>?_)
        ·skip
         try simp only [sG0] at g87
         refine Cd.seq fun K48 hK48=>?_
         refine Cd.qac [(0,false)] rfl rfl ?_
         refine Jp.y 4 rfl (qaa rfl) rfl rfl Kp.true (Y.assign rfl rfl) ?_
         refine Jp.qae hK48 ?_
         refine Cd.ret [] rfl (qbe rfl rfl) trivial ⟨rfl, congrArg (Value.int .u32) (by
          (exfalso; omega)), rfl⟩
        ·skip
         try simp only [sG0] at g87
         refine Cd.over rfl hK33 ?_
         refine Cd.seq fun K49 hK49=>?_
         refine Cd.qac [(0,false),(1,false),(2,false),(3,false)] rfl rfl ?_
         refine Jp.y 90 rfl (qaa rfl) rfl rfl Kp.true (Y.move rfl rfl) ?_
         refine Jp.y 91 rfl (qaa rfl) rfl rfl Kp.true (Y.bits rfl rfl rfl rfl) ?_
         refine Jp.call [] [] (qas _ _ (by decide)) 92 rfl (qaa rfl) rfl rfl (Runs.fn rfl call34 rfl) (by decide) (by decide) rfl trivial ?_
         rintro v113 ρ113 L113 ⟨rfl,rfl,rfl⟩
         refine ⟨rfl,fun hle113=>⟨Kp.true,?_⟩⟩
         refine Jp.y 4 rfl (qaa rfl) rfl rfl Kp.true (Y.assign rfl rfl) ?_
         refine Jp.qae hK49 ?_
         refine Cd.ret [] rfl (qbe rfl rfl) trivial ⟨rfl, congrArg (Value.int .u32) (by
          (rw [bitsP]; repeat first | exact hm | exact or4_u (qak _ _) (qak _ _) (qak _ _) (qak _ _) | exact qbj (qak _ _) (qak _ _) | rfl | rw [if_pos (by omega)] | rw [if_neg (by omega)])), rfl⟩
     ·skip
      try simp only [sG0] at g65
      refine Jp.qat 66 rfl (qab rfl rfl rfl rfl) rfl rfl Kp.true ?_
      refine Jp.qat 67 rfl (qab rfl rfl rfl rfl) rfl rfl Kp.true ?_
      refine Jp.y 68 rfl (qaa rfl) rfl rfl Kp.true (Y.qaz rfl rfl rfl) ?_
      refine Jp.y 62 rfl (qaa rfl) rfl rfl Kp.true (Y.assign rfl rfl) ?_
      refine Jp.qae hK40 ?_
      refine Cd.qbu rfl ?_
      refine Cd.seq fun K50 hK50=>?_
      refine Cd.qac [(0,false),(1,false),(2,false),(3,false),(4,false),(5,false),(6,false)] rfl rfl ?_
      refine Jp.y 78 rfl (qaa rfl) rfl rfl Kp.true (Y.move rfl rfl) ?_
      refine Jp.y 79 rfl (qaa rfl) rfl rfl Kp.true (Y.geq rfl rfl rfl) ?_
      refine Jp.y 80 rfl (qaa rfl) rfl rfl Kp.true (Y.move rfl rfl) ?_
      refine Jp.split 80 rfl (fun g80=>?_) (fun g80=>?_)
      ·skip
       try simp only [sG0] at g80
       refine Jp.y 81 rfl (qab rfl rfl rfl rfl) rfl rfl Kp.true (Y.move rfl rfl) ?_
       refine Jp.y 82 rfl (qab rfl rfl rfl rfl) rfl rfl Kp.true (Y.leq rfl rfl rfl) ?_
       refine Jp.y 83 rfl (qaa rfl) rfl rfl Kp.true (Y.qba rfl rfl rfl) ?_
       refine Jp.y 77 rfl (qaa rfl) rfl rfl Kp.true (Y.assign rfl rfl) ?_
       refine Jp.qae hK50 ?_
       refine Cd.qaq rfl (fun g77=>?_) (fun g77=>?_)
       ·skip
        try simp only [sG0] at g77
        refine Cd.seq fun K51 hK51=>?_
        refine Cd.qac [(0,false),(1,false),(2,false),(3,false)] rfl rfl ?_
        refine Jp.y 84 rfl (qaa rfl) rfl rfl Kp.true (Y.move rfl rfl) ?_
        refine Jp.y 85 rfl (qaa rfl) rfl rfl Kp.true (Y.bits rfl rfl rfl rfl) ?_
        refine Jp.call [] [] (qas _ _ (by decide)) 86 rfl (qaa rfl) rfl rfl (Runs.fn rfl call34 rfl) (by decide) (by decide) rfl trivial ?_
        rintro v114 ρ114 L114 ⟨rfl,rfl,rfl⟩
        refine ⟨rfl,fun hle114=>⟨Kp.true,?_⟩⟩
        refine Jp.y 4 rfl (qaa rfl) rfl rfl Kp.true (Y.assign rfl rfl) ?_
        refine Jp.qae hK51 ?_
        refine Cd.ret [] rfl (qbe rfl rfl) trivial ⟨rfl, congrArg (Value.int .u32) (by
         (exfalso; omega)), rfl⟩
       ·skip
        try simp only [sG0] at g77
        refine Cd.seq fun K52 hK52=>?_
        refine Cd.qac [(0,false),(1,false),(2,false)] rfl rfl ?_
        refine Jp.y 88 rfl (qaa rfl) rfl rfl Kp.true (Y.move rfl rfl) ?_
        refine Jp.y 89 rfl (qaa rfl) rfl rfl Kp.true (Y.geq rfl rfl rfl) ?_
        refine Jp.y 87 rfl (qaa rfl) rfl rfl Kp.true (Y.assign rfl rfl) ?_
        refine Jp.qae hK52 ?_
        refine Cd.qaq rfl (fun g87=>?_) (fun g87=>?_)
        ·skip
         try simp only [sG0] at g87
         refine Cd.seq fun K53 hK53=>?_
         refine Cd.qac [(0,false)] rfl rfl ?_
         refine Jp.y 4 rfl (qaa rfl) rfl rfl Kp.true (Y.assign rfl rfl) ?_
         refine Jp.qae hK53 ?_
         refine Cd.ret [] rfl (qbe rfl rfl) trivial ⟨rfl, congrArg (Value.int .u32) (by
          (exfalso; omega)), rfl⟩
        ·skip
         try simp only [sG0] at g87
         refine Cd.over rfl hK33 ?_
         refine Cd.seq fun K54 hK54=>?_
         refine Cd.qac [(0,false),(1,false),(2,false),(3,false)] rfl rfl ?_
         refine Jp.y 90 rfl (qaa rfl) rfl rfl Kp.true (Y.move rfl rfl) ?_
         refine Jp.y 91 rfl (qaa rfl) rfl rfl Kp.true (Y.bits rfl rfl rfl rfl) ?_
         refine Jp.call [] [] (qas _ _ (by decide)) 92 rfl (qaa rfl) rfl rfl (Runs.fn rfl call34 rfl) (by decide) (by decide) rfl trivial ?_
         rintro v115 ρ115 L115 ⟨rfl,rfl,rfl⟩
         refine ⟨rfl,fun hle115=>⟨Kp.true,?_⟩⟩
         refine Jp.y 4 rfl (qaa rfl) rfl rfl Kp.true (Y.assign rfl rfl) ?_
         refine Jp.qae hK54 ?_
         refine Cd.ret [] rfl (qbe rfl rfl) trivial ⟨rfl, congrArg (Value.int .u32) (by
          (exfalso; omega)), rfl⟩
      ·skip
       try simp only [sG0] at g80
       refine Jp.qat 81 rfl (qab rfl rfl rfl rfl) rfl rfl Kp.true ?_
       refine Jp.qat 82 rfl (qab rfl rfl rfl rfl) rfl rfl Kp.true ?_
       refine Jp.y 83 rfl (qaa rfl) rfl rfl Kp.true (Y.qaz rfl rfl rfl) ?_
       refine Jp.y 77 rfl (qaa rfl) rfl rfl Kp.true (Y.assign rfl rfl) ?_
       refine Jp.qae hK50 ?_
       refine Cd.qbu rfl ?_
       refine Cd.seq fun K55 hK55=>?_
       refine Cd.qac [(0,false),(1,false),(2,false)] rfl rfl ?_
       refine Jp.y 88 rfl (qaa rfl) rfl rfl Kp.true (Y.move rfl rfl) ?_
       refine Jp.y 89 rfl (qaa rfl) rfl rfl Kp.true (Y.geq rfl rfl rfl) ?_
       refine Jp.y 87 rfl (qaa rfl) rfl rfl Kp.true (Y.assign rfl rfl) ?_
       refine Jp.qae hK55 ?_
       refine Cd.qaq rfl (fun g87=>?_) (fun g87=>?_)
       ·skip
        try simp only [sG0] at g87
        refine Cd.seq fun K56 hK56=>?_
        refine Cd.qac [(0,false)] rfl rfl ?_
        refine Jp.y 4 rfl (qaa rfl) rfl rfl Kp.true (Y.assign rfl rfl) ?_
        refine Jp.qae hK56 ?_
        refine Cd.ret [] rfl (qbe rfl rfl) trivial ⟨rfl, congrArg (Value.int .u32) (by
         (exfalso; omega)), rfl⟩
       ·skip
        try simp only [sG0] at g87
        refine Cd.over rfl hK33 ?_
        refine Cd.seq fun K57 hK57=>?_
        refine Cd.qac [(0,false),(1,false),(2,false),(3,false)] rfl rfl ?_
        refine Jp.y 90 rfl (qaa rfl) rfl rfl Kp.true (Y.move rfl rfl) ?_
        refine Jp.y 91 rfl (qaa rfl) rfl rfl Kp.true (Y.bits rfl rfl rfl rfl) ?_
        refine Jp.call [] [] (qas _ _ (by decide)) 92 rfl (qaa rfl) rfl rfl (Runs.fn rfl call34 rfl) (by decide) (by decide) rfl trivial ?_
        rintro v116 ρ116 L116 ⟨rfl,rfl,rfl⟩
        refine ⟨rfl,fun hle116=>⟨Kp.true,?_⟩⟩
        refine Jp.y 4 rfl (qaa rfl) rfl rfl Kp.true (Y.assign rfl rfl) ?_
        refine Jp.qae hK57 ?_
        refine Cd.ret [] rfl (qbe rfl rfl) trivial ⟨rfl, congrArg (Value.int .u32) (by
         (rw [bitsP]; repeat first | exact hm | exact or4_u (qak _ _) (qak _ _) (qak _ _) (qak _ _) | exact qbj (qak _ _) (qak _ _) | rfl | rw [if_pos (by omega)] | rw [if_neg (by omega)])), rfl⟩
   ·skip
    try simp only [sG0] at g39
    refine Jp.qat 40 rfl (qab rfl rfl rfl rfl) rfl rfl Kp.true ?_
    refine Jp.qat 41 rfl (qab rfl rfl rfl rfl) rfl rfl Kp.true ?_
    refine Jp.y 42 rfl (qaa rfl) rfl rfl Kp.true (Y.qaz rfl rfl rfl) ?_
    refine Jp.y 36 rfl (qaa rfl) rfl rfl Kp.true (Y.assign rfl rfl) ?_
    refine Jp.qae hK38 ?_
    refine Cd.qbu rfl ?_
    refine Cd.seq fun K58 hK58=>?_
    refine Cd.qac [(0,false),(1,false),(2,false),(3,false),(4,false),(5,false),(6,false)] rfl rfl ?_
    refine Jp.y 63 rfl (qaa rfl) rfl rfl Kp.true (Y.move rfl rfl) ?_
    refine Jp.y 64 rfl (qaa rfl) rfl rfl Kp.true (Y.geq rfl rfl rfl) ?_
    refine Jp.y 65 rfl (qaa rfl) rfl rfl Kp.true (Y.move rfl rfl) ?_
    refine Jp.split 65 rfl (fun g65=>?_) (fun g65=>?_)
    ·skip
     try simp only [sG0] at g65
     refine Jp.y 66 rfl (qab rfl rfl rfl rfl) rfl rfl Kp.true (Y.move rfl rfl) ?_
     refine Jp.y 67 rfl (qab rfl rfl rfl rfl) rfl rfl Kp.true (Y.leq rfl rfl rfl) ?_
     refine Jp.y 68 rfl (qaa rfl) rfl rfl Kp.true (Y.qba rfl rfl rfl) ?_
     refine Jp.y 62 rfl (qaa rfl) rfl rfl Kp.true (Y.assign rfl rfl) ?_
     refine Jp.qae hK58 ?_
     refine Cd.qaq rfl (fun g62=>?_) (fun g62=>?_)
     ·skip
      try simp only [sG0] at g62
      refine Cd.seq fun K59 hK59=>?_
      refine Cd.qac [(0,false),(1,false),(2,false),(3,false),(4,false),(5,false),(6,false),(7,false),(8,false)] rfl rfl ?_
      refine Jp.y 69 rfl (qaa rfl) rfl rfl Kp.true (Y.move rfl rfl) ?_
      refine Jp.y 70 rfl (qaa rfl) rfl rfl Kp.true (Y.shr rfl rfl rfl (by first | decide | omega)) ?_
      refine Jp.y 71 rfl (qaa rfl) rfl rfl Kp.true (Y.bits rfl rfl rfl rfl) ?_
      refine Jp.call [] [] (qas _ _ (by decide)) 72 rfl (qaa rfl) rfl rfl (Runs.fn rfl call34 rfl) (by decide) (by decide) rfl trivial ?_
      rintro v117 ρ117 L117 ⟨rfl,rfl,rfl⟩
      refine ⟨rfl,fun hle117=>⟨Kp.true,?_⟩⟩
      refine Jp.y 73 rfl (qaa rfl) rfl rfl Kp.true (Y.move rfl rfl) ?_
      refine Jp.y 74 rfl (qaa rfl) rfl rfl Kp.true (Y.bits rfl rfl rfl rfl) ?_
      refine Jp.call [] [] (qas _ _ (by decide)) 75 rfl (qaa rfl) rfl rfl (Runs.fn rfl call34 rfl) (by decide) (by decide) rfl trivial ?_
      rintro v118 ρ118 L118 ⟨rfl,rfl,rfl⟩
      refine ⟨rfl,fun hle118=>⟨Kp.true,?_⟩⟩
      refine Jp.y 76 rfl (qaa rfl) rfl rfl Kp.true (Y.bits rfl rfl rfl rfl) ?_
      refine Jp.y 4 rfl (qaa rfl) rfl rfl Kp.true (Y.assign rfl rfl) ?_
      refine Jp.qae hK59 ?_
      refine Cd.ret [] rfl (qbe rfl rfl) trivial ⟨rfl, congrArg (Value.int .u32) (by
       (exfalso; omega)), rfl⟩
     ·skip
      try simp only [sG0] at g62
      refine Cd.seq fun K60 hK60=>?_
      refine Cd.qac [(0,false),(1,false),(2,false),(3,false),(4,false),(5,false),(6,false)] rfl rfl ?_
      refine Jp.y 78 rfl (qaa rfl) rfl rfl Kp.true (Y.move rfl rfl) ?_
      refine Jp.y 79 rfl (qaa rfl) rfl rfl Kp.true (Y.geq rfl rfl rfl) ?_
      refine Jp.y 80 rfl (qaa rfl) rfl rfl Kp.true (Y.move rfl rfl) ?_
      refine Jp.split 80 rfl (fun g80=>?_) (fun g80=>?_)
      ·skip
       try simp only [sG0] at g80
       refine Jp.y 81 rfl (qab rfl rfl rfl rfl) rfl rfl Kp.true (Y.move rfl rfl) ?_
       refine Jp.y 82 rfl (qab rfl rfl rfl rfl) rfl rfl Kp.true (Y.leq rfl rfl rfl) ?_
       refine Jp.y 83 rfl (qaa rfl) rfl rfl Kp.true (Y.qba rfl rfl rfl) ?_
       refine Jp.y 77 rfl (qaa rfl) rfl rfl Kp.true (Y.assign rfl rfl) ?_
       refine Jp.qae hK60 ?_
       refine Cd.qaq rfl (fun g77=>?_) (fun g77=>?_)
       ·skip
        try simp only [sG0] at g77
        refine Cd.seq fun K61 hK61=>?_
        refine Cd.qac [(0,false),(1,false),(2,false),(3,false)] rfl rfl ?_
        refine Jp.y 84 rfl (qaa rfl) rfl rfl Kp.true (Y.move rfl rfl) ?_
        refine Jp.y 85 rfl (qaa rfl) rfl rfl Kp.true (Y.bits rfl rfl rfl rfl) ?_
        refine Jp.call [] [] (qas _ _ (by decide)) 86 rfl (qaa rfl) rfl rfl (Runs.fn rfl call34 rfl) (by decide) (by decide) rfl trivial ?_
        rintro v119 ρ119 L119 ⟨rfl,rfl,rfl⟩
        refine ⟨rfl,fun hle119=>⟨Kp.true,?_⟩⟩
        refine Jp.y 4 rfl (qaa rfl) rfl rfl Kp.true (Y.assign rfl rfl) ?_
        refine Jp.qae hK61 ?_
        refine Cd.ret [] rfl (qbe rfl rfl) trivial ⟨rfl, congrArg (Value.int .u32) (by
         (exfalso; omega)), rfl⟩
       ·skip
        try simp only [sG0] at g77
        refine Cd.seq fun K62 hK62=>?_
        refine Cd.qac [(0,false),(1,false),(2,false)] rfl rfl ?_
        refine Jp.y 88 rfl (qaa rfl) rfl rfl Kp.true (Y.move rfl rfl) ?_
        refine Jp.y 89 rfl (qaa rfl) rfl rfl Kp.true (Y.geq rfl rfl rfl) ?_
        refine Jp.y 87 rfl (qaa rfl) rfl rfl Kp.true (Y.assign rfl rfl) ?_
        refine Jp.qae hK62 ?_
        refine Cd.qaq rfl (fun g87=>?_) (fun g87=>?_)
        ·skip
         try simp only [sG0] at g87
         refine Cd.seq fun K63 hK63=>?_
         refine Cd.qac [(0,false)] rfl rfl ?_
         refine Jp.y 4 rfl (qaa rfl) rfl rfl Kp.true (Y.assign rfl rfl) ?_
         refine Jp.qae hK63 ?_
         refine Cd.ret [] rfl (qbe rfl rfl) trivial ⟨rfl, congrArg (Value.int .u32) (by
          (exfalso; omega)), rfl⟩
        ·skip
         try simp only [sG0] at g87
         refine Cd.over rfl hK33 ?_
         refine Cd.seq fun K64 hK64=>?_
         refine Cd.qac [(0,false),(1,false),(2,false),(3,false)] rfl rfl ?_
         refine Jp.y 90 rfl (qaa rfl) rfl rfl Kp.true (Y.move rfl rfl) ?_
         refine Jp.y 91 rfl (qaa rfl) rfl rfl Kp.true (Y.bits rfl rfl rfl rfl) ?_
         refine Jp.call [] [] (qas _ _ (by decide)) 92 rfl (qaa rfl) rfl rfl (Runs.fn rfl call34 rfl) (by decide) (by decide) rfl trivial ?_
         rintro v120 ρ120 L120 ⟨rfl,rfl,rfl⟩
         refine ⟨rfl,fun hle120=>⟨Kp.true,?_⟩⟩
         refine Jp.y 4 rfl (qaa rfl) rfl rfl Kp.true (Y.assign rfl rfl) ?_
         refine Jp.qae hK64 ?_
         refine Cd.ret [] rfl (qbe rfl rfl) trivial ⟨rfl, congrArg (Value.int .u32) (by
          (exfalso; omega)), rfl⟩
      ·skip
       try simp only [sG0] at g80
       refine Jp.qat 81 rfl (qab rfl rfl rfl rfl) rfl rfl Kp.true ?_
       refine Jp.qat 82 rfl (qab rfl rfl rfl rfl) rfl rfl Kp.true ?_
       refine Jp.y 83 rfl (qaa rfl) rfl rfl Kp.true (Y.qaz rfl rfl rfl) ?_
       refine Jp.y 77 rfl (qaa rfl) rfl rfl Kp.true (Y.assign rfl rfl) ?_
       refine Jp.qae hK60 ?_
       refine Cd.qbu rfl ?_
       refine Cd.seq fun K65 hK65=>?_
       refine Cd.qac [(0,false),(1,false),(2,false)] rfl rfl ?_
       refine Jp.y 88 rfl (qaa rfl) rfl rfl Kp.true (Y.move rfl rfl) ?_
       refine Jp.y 89 rfl (qaa rfl) rfl rfl Kp.true (Y.geq rfl rfl rfl) ?_
       refine Jp.y 87 rfl (qaa rfl) rfl rfl Kp.true (Y.assign rfl rfl) ?_
       refine Jp.qae hK65 ?_
       refine Cd.qaq rfl (fun g87=>?_) (fun g87=>?_)
       ·skip
        try simp only [sG0] at g87
        refine Cd.seq fun K66 hK66=>?_
        refine Cd.qac [(0,false)] rfl rfl ?_
        refine Jp.y 4 rfl (qaa rfl) rfl rfl Kp.true (Y.assign rfl rfl) ?_
        refine Jp.qae hK66 ?_
        refine Cd.ret [] rfl (qbe rfl rfl) trivial ⟨rfl, congrArg (Value.int .u32) (by
         (exfalso; omega)), rfl⟩
       ·skip
        try simp only [sG0] at g87
        refine Cd.over rfl hK33 ?_
        refine Cd.seq fun K67 hK67=>?_
        refine Cd.qac [(0,false),(1,false),(2,false),(3,false)] rfl rfl ?_
        refine Jp.y 90 rfl (qaa rfl) rfl rfl Kp.true (Y.move rfl rfl) ?_
        refine Jp.y 91 rfl (qaa rfl) rfl rfl Kp.true (Y.bits rfl rfl rfl rfl) ?_
        refine Jp.call [] [] (qas _ _ (by decide)) 92 rfl (qaa rfl) rfl rfl (Runs.fn rfl call34 rfl) (by decide) (by decide) rfl trivial ?_
        rintro v121 ρ121 L121 ⟨rfl,rfl,rfl⟩
        refine ⟨rfl,fun hle121=>⟨Kp.true,?_⟩⟩
        refine Jp.y 4 rfl (qaa rfl) rfl rfl Kp.true (Y.assign rfl rfl) ?_
        refine Jp.qae hK67 ?_
        refine Cd.ret [] rfl (qbe rfl rfl) trivial ⟨rfl, congrArg (Value.int .u32) (by
         (exfalso; omega)), rfl⟩
    ·skip
     try simp only [sG0] at g65
     refine Jp.qat 66 rfl (qab rfl rfl rfl rfl) rfl rfl Kp.true ?_
     refine Jp.qat 67 rfl (qab rfl rfl rfl rfl) rfl rfl Kp.true ?_
     refine Jp.y 68 rfl (qaa rfl) rfl rfl Kp.true (Y.qaz rfl rfl rfl) ?_
     refine Jp.y 62 rfl (qaa rfl) rfl rfl Kp.true (Y.assign rfl rfl) ?_
     refine Jp.qae hK58 ?_
     refine Cd.qbu rfl ?_
     refine Cd.seq fun K68 hK68=>?_
     refine Cd.qac [(0,false),(1,false),(2,false),(3,false),(4,false),(5,false),(6,false)] rfl rfl ?_
     refine Jp.y 78 rfl (qaa rfl) rfl rfl Kp.true (Y.move rfl rfl) ?_
     refine Jp.y 79 rfl (qaa rfl) rfl rfl Kp.true (Y.geq rfl rfl rfl) ?_
     refine Jp.y 80 rfl (qaa rfl) rfl rfl Kp.true (Y.move rfl rfl) ?_
     refine Jp.split 80 rfl (fun g80=>?_) (fun g80=>?_)
     ·skip
      try simp only [sG0] at g80
      refine Jp.y 81 rfl (qab rfl rfl rfl rfl) rfl rfl Kp.true (Y.move rfl rfl) ?_
      refine Jp.y 82 rfl (qab rfl rfl rfl rfl) rfl rfl Kp.true (Y.leq rfl rfl rfl) ?_
      refine Jp.y 83 rfl (qaa rfl) rfl rfl Kp.true (Y.qba rfl rfl rfl) ?_
      refine Jp.y 77 rfl (qaa rfl) rfl rfl Kp.true (Y.assign rfl rfl) ?_
      refine Jp.qae hK68 ?_
      refine Cd.qaq rfl (fun g77=>?_) (fun g77=>?_)
      ·skip
       try simp only [sG0] at g77
       refine Cd.seq fun K69 hK69=>?_
       refine Cd.qac [(0,false),(1,false),(2,false),(3,false)] rfl rfl ?_
       refine Jp.y 84 rfl (qaa rfl) rfl rfl Kp.true (Y.move rfl rfl) ?_
       refine Jp.y 85 rfl (qaa rfl) rfl rfl Kp.true (Y.bits rfl rfl rfl rfl) ?_
       refine Jp.call [] [] (qas _ _ (by decide)) 86 rfl (qaa rfl) rfl rfl (Runs.fn rfl call34 rfl) (by decide) (by decide) rfl trivial ?_
       rintro v122 ρ122 L122 ⟨rfl,rfl,rfl⟩
       refine ⟨rfl,fun hle122=>⟨Kp.true,?_⟩⟩
       refine Jp.y 4 rfl (qaa rfl) rfl rfl Kp.true (Y.assign rfl rfl) ?_
       refine Jp.qae hK69 ?_
       refine Cd.ret [] rfl (qbe rfl rfl) trivial ⟨rfl, congrArg (Value.int .u32) (by
        (exfalso; omega)), rfl⟩
      ·skip
       try simp only [sG0] at g77
       refine Cd.seq fun K70 hK70=>?_
       refine Cd.qac [(0,false),(1,false),(2,false)] rfl rfl ?_
       refine Jp.y 88 rfl (qaa rfl) rfl rfl Kp.true (Y.move rfl rfl) ?_
       refine Jp.y 89 rfl (qaa rfl) rfl rfl Kp.true (Y.geq rfl rfl rfl) ?_
       refine Jp.y 87 rfl (qaa rfl) rfl rfl Kp.true (Y.assign rfl rfl) ?_
       refine Jp.qae hK70 ?_
       refine Cd.qaq rfl (fun g87=>?_) (fun g87=>?_)
       ·skip
        try simp only [sG0] at g87
        refine Cd.seq fun K71 hK71=>?_
        refine Cd.qac [(0,false)] rfl rfl ?_
        refine Jp.y 4 rfl (qaa rfl) rfl rfl Kp.true (Y.assign rfl rfl) ?_
        refine Jp.qae hK71 ?_
        refine Cd.ret [] rfl (qbe rfl rfl) trivial ⟨rfl, congrArg (Value.int .u32) (by
         (exfalso; omega)), rfl⟩
       ·skip
        try simp only [sG0] at g87
        refine Cd.over rfl hK33 ?_
        refine Cd.seq fun K72 hK72=>?_
        refine Cd.qac [(0,false),(1,false),(2,false),(3,false)] rfl rfl ?_
        refine Jp.y 90 rfl (qaa rfl) rfl rfl Kp.true (Y.move rfl rfl) ?_
        refine Jp.y 91 rfl (qaa rfl) rfl rfl Kp.true (Y.bits rfl rfl rfl rfl) ?_
        refine Jp.call [] [] (qas _ _ (by decide)) 92 rfl (qaa rfl) rfl rfl (Runs.fn rfl call34 rfl) (by decide) (by decide) rfl trivial ?_
        rintro v123 ρ123 L123 ⟨rfl,rfl,rfl⟩
        refine ⟨rfl,fun hle123=>⟨Kp.true,?_⟩⟩
        refine Jp.y 4 rfl (qaa rfl) rfl rfl Kp.true (Y.assign rfl rfl) ?_
        refine Jp.qae hK72 ?_
        refine Cd.ret [] rfl (qbe rfl rfl) trivial ⟨rfl, congrArg (Value.int .u32) (by
         (exfalso; omega)), rfl⟩
     ·skip
      try simp only [sG0] at g80
      refine Jp.qat 81 rfl (qab rfl rfl rfl rfl) rfl rfl Kp.true ?_
      refine Jp.qat 82 rfl (qab rfl rfl rfl rfl) rfl rfl Kp.true ?_
      refine Jp.y 83 rfl (qaa rfl) rfl rfl Kp.true (Y.qaz rfl rfl rfl) ?_
      refine Jp.y 77 rfl (qaa rfl) rfl rfl Kp.true (Y.assign rfl rfl) ?_
      refine Jp.qae hK68 ?_
      refine Cd.qbu rfl ?_
      refine Cd.seq fun K73 hK73=>?_
      refine Cd.qac [(0,false),(1,false),(2,false)] rfl rfl ?_
      refine Jp.y 88 rfl (qaa rfl) rfl rfl Kp.true (Y.move rfl rfl) ?_
      refine Jp.y 89 rfl (qaa rfl) rfl rfl Kp.true (Y.geq rfl rfl rfl) ?_
      refine Jp.y 87 rfl (qaa rfl) rfl rfl Kp.true (Y.assign rfl rfl) ?_
      refine Jp.qae hK73 ?_
      refine Cd.qaq rfl (fun g87=>?_) (fun g87=>?_)
      ·skip
       try simp only [sG0] at g87
       refine Cd.seq fun K74 hK74=>?_
       refine Cd.qac [(0,false)] rfl rfl ?_
       refine Jp.y 4 rfl (qaa rfl) rfl rfl Kp.true (Y.assign rfl rfl) ?_
       refine Jp.qae hK74 ?_
       refine Cd.ret [] rfl (qbe rfl rfl) trivial ⟨rfl, congrArg (Value.int .u32) (by
        (exfalso; omega)), rfl⟩
      ·skip
       try simp only [sG0] at g87
       refine Cd.over rfl hK33 ?_
       refine Cd.seq fun K75 hK75=>?_
       refine Cd.qac [(0,false),(1,false),(2,false),(3,false)] rfl rfl ?_
       refine Jp.y 90 rfl (qaa rfl) rfl rfl Kp.true (Y.move rfl rfl) ?_
       refine Jp.y 91 rfl (qaa rfl) rfl rfl Kp.true (Y.bits rfl rfl rfl rfl) ?_
       refine Jp.call [] [] (qas _ _ (by decide)) 92 rfl (qaa rfl) rfl rfl (Runs.fn rfl call34 rfl) (by decide) (by decide) rfl trivial ?_
       rintro v124 ρ124 L124 ⟨rfl,rfl,rfl⟩
       refine ⟨rfl,fun hle124=>⟨Kp.true,?_⟩⟩
       refine Jp.y 4 rfl (qaa rfl) rfl rfl Kp.true (Y.assign rfl rfl) ?_
       refine Jp.qae hK75 ?_
       refine Cd.ret [] rfl (qbe rfl rfl) trivial ⟨rfl, congrArg (Value.int .u32) (by
        (rw [bitsP]; repeat first | exact hm | exact or4_u (qak _ _) (qak _ _) (qak _ _) (qak _ _) | exact qbj (qak _ _) (qak _ _) | rfl | rw [if_pos (by omega)] | rw [if_neg (by omega)])), rfl⟩
end
end Go.Proofs.Ytnfkalpgidiafaa

namespace Go.Proofs.Ytnfkalpgidiafaa
open Go
def qcr (l : List Int) : qam:=l.flatMap fun x=>leB x.toNat 4
theorem wordsB_len (l : List Int) : (qcr l).length = 4 * l.length:=by
 induction l with
 | nil=>rfl
 | cons x l ih =>
  have : qcr (x :: l) = leB x.toNat 4 ++ qcr l:=rfl
  rw [this,List.length_append,ih,qei,List.length_cons]; omega
theorem wordsB_snoc {xs : List Int} {i m : Nat} (hi : i < xs.length) (hm : xs[i] = (m : Int)) : qcr (xs.take (i + 1)) = qcr (xs.take i) ++ leB m 4:=by
 rw [← List.take_append_getElem hi,hm]
 unfold qcr
 rw [List.flatMap_append]
 simp
def map3 : MemG:=(mapM (mapM (mapM (newM 50) 4096 256 5).2 65536 256 3).2 65792 256 1).2
def madeM (xs : List Int) : MemG:=(qdl (qdl map3 4096 (qcr (xs.take 64)) 65536 0).2 65536 [] 65536 0).2
end Go.Proofs.Ytnfkalpgidiafaa

namespace Go.Proofs.Ytnfkalpgidiafaa
open Go
def atP (pc k : Nat) : Nat:=(pc + 4 * k) % 4294967296
def findL (M : MemG) (pc : Nat) : Nat → Nat → List InsP
 | 0,_=>[]
 | n + 1,k=>if atP pc k / 256 = pc / 256 ∧ (qbn M (atP pc k)).2.kind = 0 then (qbn M (atP pc k)).1 :: (if endsP (qbn M (atP pc k)).1.op then [] else findL M pc n (k + 1)) else []
def mostP (most : Int) : Nat:=(min (max most 1) 64).toNat
def blockC (pc : Nat) (B : Option Addr) (l d gen : Nat) : List Value:=[.int .u32 (pc : Int),.slice B l d,.int .u32 (gen : Int)]
end Go.Proofs.Ytnfkalpgidiafaa

namespace Go.Proofs.Ytnfkalpgidiafaa
open _root_.Go.Proofs.Try
open Go
def insEq (a b : InsP) : Bool:=((a.op : Int) == (b.op : Int)) && (((a.rd : Int) == (b.rd : Int)) && (((a.r1 : Int) == (b.r1 : Int)) && (((a.r2 : Int) == (b.r2 : Int)) && ((a.imm == b.imm) && true))))
def evEq (a b : EvP) : Bool:=((a.kind : Int) == (b.kind : Int)) && (((a.addr : Int) == (b.addr : Int)) && ((a.why == b.why) && true))
theorem evEq_iff (a b : EvP) : evEq a b = true ↔ a = b:=by
 obtain ⟨a1,a2,a3⟩:=a
 obtain ⟨b1,b2,b3⟩:=b
 simp [evEq]
 omega
theorem ins_guard : Try.prog.eqGuardType Try.prog.depth 34 = false:=by kernel_rfl
theorem ins_stood : Try.prog.stoodInHeld 34 = false:=by kernel_rfl
theorem ins_fields : Try.prog.underlying 34 = some (.struct (Try.prog.fieldsOf 34)):=by kernel_rfl
theorem ev_guard : Try.prog.eqGuardType Try.prog.depth 50 = false:=by kernel_rfl
theorem ev_stood : Try.prog.stoodInHeld 50 = false:=by kernel_rfl
theorem ev_fields : Try.prog.underlying 50 = some (.struct (Try.prog.fieldsOf 50)):=by kernel_rfl
theorem ins_list : (Try.prog.fieldsOf 34).toList = [Field.mk "Op" 3 0 false "" "" 0, Field.mk "Rd" 3 1 false "" "" 8, Field.mk "Rs1" 3 2 false "" "" 16, Field.mk "Rs2" 3 3 false "" "" 24, Field.mk "Imm" 21 4 false "" "" 32] := by kernel_rfl
theorem ev_list : (Try.prog.fieldsOf 50).toList = [Field.mk "Kind" 3 0 false "" "" 0, Field.mk "Addr" 31 1 false "" "" 8, Field.mk "Why" 48 2 false "" "" 16] := by kernel_rfl
theorem ins_eq (a b : InsP) (w : World) : (Op.eqFields 9999 a.cells.toArray b.cells.toArray (Try.prog.fieldsOf 34).toList).run Try.prog w = .ok (insEq a b) w:=by
 rw [ins_list]
 exact qcb (by decide) (qbt isAgg3 rfl) (qbt isAgg3 rfl) underlying3 (qcb (by decide) (qbt isAgg3 rfl) (qbt isAgg3 rfl) underlying3 (qcb (by decide) (qbt isAgg3 rfl) (qbt isAgg3 rfl) underlying3 (qcb (by decide) (qbt isAgg3 rfl) (qbt isAgg3 rfl) underlying3 (qcb (by decide) (qbt isAgg21 rfl) (qbt isAgg21 rfl) underlying21 rfl))))
theorem ev_eq (a b : EvP) (w : World) : (Op.eqFields 9999 a.cells.toArray b.cells.toArray (Try.prog.fieldsOf 50).toList).run Try.prog w = .ok (evEq a b) w:=by
 rw [ev_list]
 exact qcb (by decide) (qbt isAgg3 rfl) (qbt isAgg3 rfl) underlying3 (qcb (by decide) (qbt isAgg31 rfl) (qbt isAgg31 rfl) underlying31 (qcb (by decide) (qbt isAgg48 rfl) (qbt isAgg48 rfl) underlying48 rfl))
end Go.Proofs.Ytnfkalpgidiafaa

namespace Go.Proofs.Ytnfkalpgidiafaa
open _root_.Go.Proofs.Try
open Go
def wholeP (op : Nat) : Nat:=if op = 46 then 267386895 else if op = 47 then 4111 else if op = 48 then 115 else if op = 49 then 1048691 else 0
theorem whole_spec (op : Nat) (h : op < 50) : Spec Try.prog 31 #[.int .i64 op] (fun _=>True) [] (fun ρ ρ' v L=>ρ' = ρ ∧ v = .tuple #[.int .u32 (wholeP op : Int),.bool (decide (46 ≤ op))] ∧ L = []):=by
  refine Spec.of 13 Try.func31 rfl Try.ntmps31 [(0,_)] rfl rfl ?_
  intro cx ρ hr h0
  refine Cd.seq fun K1 hK1=>?_
  refine Cd.qac [(0,false),(1,false)] rfl rfl ?_
  refine Jp.y 2 rfl (qaa rfl) rfl rfl Kp.true (Y.assign rfl rfl) ?_
  refine Jp.y 3 rfl (qaa rfl) rfl rfl Kp.true (Y.assign rfl rfl) ?_
  refine Jp.qae hK1 ?_
  refine Cd.seq fun K2 hK2=>?_
  refine Cd.seq fun K3 hK3=>?_
  refine Cd.qac [(0,false)] rfl rfl ?_
  refine Jp.y 4 rfl (qaa rfl) rfl rfl Kp.true (Y.move rfl rfl) ?_
  refine Jp.qae hK3 ?_
  refine Cd.block ?_
  refine Cd.seq fun K4 hK4=>?_
  refine Cd.qac [(0,false),(1,false)] rfl rfl ?_
  refine Jp.y 6 rfl (qaa rfl) rfl rfl Kp.true (Y.eql rfl rfl rfl) ?_
  refine Jp.y 5 rfl (qaa rfl) rfl rfl Kp.true (Y.assign rfl rfl) ?_
  refine Jp.qae hK4 ?_
  refine Cd.qaq rfl (fun g5=>?_) (fun g5=>?_)
  · skip
    try simp only [sG0] at g5
    refine Cd.seq fun K5 hK5=>?_
    refine Cd.qac [(0,false),(1,false)] rfl rfl ?_
    refine Jp.y 2 rfl (qaa rfl) rfl rfl Kp.true (Y.assign rfl rfl) ?_
    refine Jp.y 3 rfl (qaa rfl) rfl rfl Kp.true (Y.assign rfl rfl) ?_
    refine Jp.qae hK5 ?_
    refine Cd.ret [] rfl (qbr rfl rfl rfl) trivial ⟨rfl, by
      (obtain rfl : op = 46 := by omega
       rfl), rfl⟩
  · skip
    try simp only [sG0] at g5
    refine Cd.seq fun K6 hK6=>?_
    refine Cd.qac [(0,false),(1,false)] rfl rfl ?_
    refine Jp.y 8 rfl (qaa rfl) rfl rfl Kp.true (Y.eql rfl rfl rfl) ?_
    refine Jp.y 7 rfl (qaa rfl) rfl rfl Kp.true (Y.assign rfl rfl) ?_
    refine Jp.qae hK6 ?_
    refine Cd.qaq rfl (fun g7=>?_) (fun g7=>?_)
    · skip
      try simp only [sG0] at g7
      refine Cd.seq fun K7 hK7=>?_
      refine Cd.qac [(0,false),(1,false)] rfl rfl ?_
      refine Jp.y 2 rfl (qaa rfl) rfl rfl Kp.true (Y.assign rfl rfl) ?_
      refine Jp.y 3 rfl (qaa rfl) rfl rfl Kp.true (Y.assign rfl rfl) ?_
      refine Jp.qae hK7 ?_
      refine Cd.ret [] rfl (qbr rfl rfl rfl) trivial ⟨rfl, by
        (obtain rfl : op = 47 := by omega
         rfl), rfl⟩
    · skip
      try simp only [sG0] at g7
      refine Cd.seq fun K8 hK8=>?_
      refine Cd.qac [(0,false),(1,false)] rfl rfl ?_
      refine Jp.y 10 rfl (qaa rfl) rfl rfl Kp.true (Y.eql rfl rfl rfl) ?_
      refine Jp.y 9 rfl (qaa rfl) rfl rfl Kp.true (Y.assign rfl rfl) ?_
      refine Jp.qae hK8 ?_
      refine Cd.qaq rfl (fun g9=>?_) (fun g9=>?_)
      · skip
        try simp only [sG0] at g9
        refine Cd.seq fun K9 hK9=>?_
        refine Cd.qac [(0,false),(1,false)] rfl rfl ?_
        refine Jp.y 2 rfl (qaa rfl) rfl rfl Kp.true (Y.assign rfl rfl) ?_
        refine Jp.y 3 rfl (qaa rfl) rfl rfl Kp.true (Y.assign rfl rfl) ?_
        refine Jp.qae hK9 ?_
        refine Cd.ret [] rfl (qbr rfl rfl rfl) trivial ⟨rfl, by
          (obtain rfl : op = 48 := by omega
           rfl), rfl⟩
      · skip
        try simp only [sG0] at g9
        refine Cd.seq fun K10 hK10=>?_
        refine Cd.qac [(0,false),(1,false)] rfl rfl ?_
        refine Jp.y 12 rfl (qaa rfl) rfl rfl Kp.true (Y.eql rfl rfl rfl) ?_
        refine Jp.y 11 rfl (qaa rfl) rfl rfl Kp.true (Y.assign rfl rfl) ?_
        refine Jp.qae hK10 ?_
        refine Cd.qaq rfl (fun g11=>?_) (fun g11=>?_)
        · skip
          try simp only [sG0] at g11
          refine Cd.seq fun K11 hK11=>?_
          refine Cd.qac [(0,false),(1,false)] rfl rfl ?_
          refine Jp.y 2 rfl (qaa rfl) rfl rfl Kp.true (Y.assign rfl rfl) ?_
          refine Jp.y 3 rfl (qaa rfl) rfl rfl Kp.true (Y.assign rfl rfl) ?_
          refine Jp.qae hK11 ?_
          refine Cd.ret [] rfl (qbr rfl rfl rfl) trivial ⟨rfl, by
            (obtain rfl : op = 49 := by omega
             rfl), rfl⟩
        · skip
          try simp only [sG0] at g11
          refine Cd.over rfl hK2 ?_
          refine Cd.seq fun K12 hK12=>?_
          refine Cd.qac [(0,false),(1,false)] rfl rfl ?_
          refine Jp.y 2 rfl (qaa rfl) rfl rfl Kp.true (Y.assign rfl rfl) ?_
          refine Jp.y 3 rfl (qaa rfl) rfl rfl Kp.true (Y.assign rfl rfl) ?_
          refine Jp.qae hK12 ?_
          refine Cd.ret [] rfl (qbr rfl rfl rfl) trivial ⟨rfl, by
            (rw [wholeP, if_neg (by omega), if_neg (by omega), if_neg (by omega), if_neg (by omega), decide_eq_false (by omega)]; rfl), rfl⟩
theorem regs_spec (A : Option Addr) (c : Nat) (xs : List Int) (hxs : ∀ x ∈ xs,0 ≤ x ∧ x ≤ 31) (hl : xs.length ≤ 1000) : Spec Try.prog 32 #[.slice A xs.length c] (RdI .i64 ⟨A,c,xs⟩) [] (fun ρ ρ' v L=>ρ' = ρ ∧ v = .bool true ∧ L = []):=by
 refine Spec.of 18 Try.func32 rfl Try.ntmps32 [(0,_)] rfl rfl ?_
 intro cx ρ hr h0
 refine Cd.seq fun K13 hK13=>?_
 refine Cd.qac [(0,false)] rfl rfl ?_
 refine Jp.y 2 rfl (qaa rfl) rfl rfl Kp.true (Y.assign rfl rfl) ?_
 refine Jp.qae hK13 ?_
 refine Cd.seq fun K14 hK14=>?_
 refine Cd.seq fun K15 hK15=>?_
 refine Cd.qac [(0,false),(1,false),(2,false)] rfl rfl ?_
 refine Jp.y 5 rfl (qaa rfl) rfl rfl Kp.true (Y.move rfl rfl) ?_
 refine Jp.y 6 rfl (qaa rfl) rfl rfl Kp.true (Y.qck rfl underlying114 rfl) ?_
 refine Jp.y 7 rfl (qaa rfl) rfl rfl Kp.true (Y.move rfl rfl) ?_
 refine Jp.qae hK15 ?_
 refine Cd.block ?_
 refine Cd.qfl (G:=Nat) (fun g=>g ≤ xs.length) (fun g=>xs.length - g) (fun _=>_) (fun g=>[(7,.int .i64 (g : Int))]) [(5,_),(6,_)] (fun g=>[]) [] 0 (Nat.zero_le _) rfl ⟨rfl,trivial⟩ ⟨rfl,rfl,trivial⟩ trivial trivial (fun g KLa hok hLa=>?_)
 refine Cd.seq fun K16 hK16=>?_
 refine Cd.qac [(0,false)] rfl rfl ?_
 refine Jp.y 8 rfl (qaa rfl) rfl rfl Kp.true (Y.lss rfl rfl rfl) ?_
 refine Jp.qae hK16 ?_
 refine Cd.seq fun K17 hK17=>?_
 refine Cd.qaq rfl (fun ga=>?_) (fun ga=>?_)
 ·have hi : g < xs.length:=by simp at ga; omega
  obtain ⟨x,hx⟩ : ∃ x,xs[g]? = some x:=⟨_,List.getElem?_eq_getElem hi⟩
  obtain ⟨b1,b2⟩:=hxs x (List.mem_of_getElem? hx)
  obtain ⟨ad,hA,hc⟩:=hr.2.2 g (.int .i64 x) (by simp [intsV,hx])
  have hA : A = some ad:=hA
  subst hA
  refine Cd.qbw hK17 ?_
  refine Cd.seq fun K18 hK18=>?_
  refine Cd.block ?_
  refine Cd.seq fun K19 hK19=>?_
  refine Cd.qac [(0,false),(1,false),(2,false)] rfl rfl ?_
  refine Jp.y 9 rfl (qaa rfl) rfl rfl Kp.true (Y.qdw (q:=g) rfl rfl rfl underlying114 sizeOf3 (by omega) (by omega) (by omega)) ?_
  refine Jp.y 10 rfl (qaa rfl) rfl rfl Kp.true (Y.loadR rfl isAgg3 rfl hc) ?_
  refine Jp.y 4 rfl (qaa rfl) rfl rfl Kp.true (Y.assign rfl rfl) ?_
  refine Jp.qae hK19 ?_
  refine Cd.seq fun K20 hK20=>?_
  refine Cd.qac [(0,false),(1,false),(2,false),(3,false),(4,false),(5,false)] rfl rfl ?_
  refine Jp.y 11 rfl (qaa rfl) rfl rfl Kp.true (Y.move rfl rfl) ?_
  refine Jp.y 12 rfl (qaa rfl) rfl rfl Kp.true (Y.lss rfl rfl rfl) ?_
  refine Jp.y 13 rfl (qaa rfl) rfl rfl Kp.true (Y.move rfl rfl) ?_
  refine Jp.split 13 rfl (fun g13=>?_) (fun g13=>?_)
  ·skip
   try simp only [sG0] at g13
   exfalso
   omega
  try simp only [sG0] at g13
  refine Jp.y 14 rfl (qab rfl rfl rfl rfl) rfl rfl Kp.true (Y.move rfl rfl) ?_
  refine Jp.y 15 rfl (qab rfl rfl rfl rfl) rfl rfl Kp.true (Y.gtr rfl rfl rfl) ?_
  refine Jp.y 16 rfl (qaa rfl) rfl rfl Kp.true (Y.qaz rfl rfl rfl) ?_
  refine Jp.qae hK20 ?_
  refine Cd.qaq rfl (fun g16=>?_) (fun g16=>?_)
  ·skip
   try simp only [sG0] at g16
   exfalso
   omega
  try simp only [sG0] at g16
  refine Cd.over rfl hK18 ?_
  refine Cd.qac [(0,false),(1,false)] rfl rfl ?_
  refine Jp.y 17 rfl (qaa rfl) rfl rfl Kp.true (Y.qcd rfl rfl rfl (by exact qaj (by omega) (by omega))) ?_
  refine Jp.y 7 rfl (qaa rfl) rfl rfl Kp.true (Y.move rfl rfl) ?_
  rw [show (g : Int) + 1 = ((g + 1 : Nat) : Int) by omega]
  refine Jp.again hLa (g + 1) hi (by omega) rfl ⟨rfl,rfl,rfl,trivial⟩ trivial
 ·skip
  refine Cd.exit rfl hK14 ?_
  refine Cd.seq fun K21 hK21=>?_
  refine Cd.qac [(0,false)] rfl rfl ?_
  refine Jp.y 2 rfl (qaa rfl) rfl rfl Kp.true (Y.assign rfl rfl) ?_
  refine Jp.qae hK21 ?_
  refine Cd.ret [] rfl (qbe rfl rfl) trivial ⟨rfl,rfl,rfl⟩
def encW (i : InsP) : Nat:=if 46 ≤ i.op then wholeP i.op else
 placeP ((qdv i.op).1 : Int) 0 ||| placeP (i.rd : Int) 7 ||| placeP ((qdv i.op).2.1 : Int) 12 ||| placeP (i.r1 : Int) 15 ||| placeP (i.r2 : Int) 20 ||| placeP ((qdv i.op).2.2 : Int) 25 ||| bitsP i.op i.imm
theorem bitsP_lt (op : Nat) (v : Int) : bitsP op v < 4294967296:=by
 have h1:=qak
 unfold bitsP
 repeat' split
 all_goals first | exact qex (qex (qex (h1 _ _) (h1 _ _)) (h1 _ _)) (h1 _ _) | exact qex (h1 _ _) (h1 _ _) | exact h1 _ _ | exact Nat.lt_of_le_of_lt (Nat.sub_le ..) (u32_lt _) | exact Nat.zero_lt_succ _
theorem encW_lt (i : InsP) : encW i < 4294967296:=by
 have h1:=qak
 unfold encW
 split
 ·unfold wholeP
  repeat' split
  all_goals exact of_decide_eq_true rfl
 ·exact qex (qex (qex (qex (qex (qex (h1 _ _) (h1 _ _)) (h1 _ _)) (h1 _ _)) (h1 _ _)) (h1 _ _)) (bitsP_lt _ _)
def encP (i : InsP) : Nat × Int:=if insEq (decP (encW i)) i = true then (encW i,0) else (0,1)
theorem or7_u {a b c d e f g : Nat} (ha : a < 4294967296) (hb : b < 4294967296) (hc : c < 4294967296) (hd : d < 4294967296) (he : e < 4294967296) (hf : f < 4294967296) (hg : g < 4294967296) :
  qcc .or .u32 (qcc .or .u32 (qcc .or .u32 (qcc .or .u32 (qcc .or .u32 (qcc .or .u32 (a : Int) b) c) d) e) f) g = ((a ||| b ||| c ||| d ||| e ||| f ||| g : Nat) : Int):=by
 have h2:=qex ha hb
 have h3:=qex h2 hc
 have h4:=qex h3 hd
 have h5:=qex h4 he
 rw [qbj ha hb,qbj h2 hc,qbj h3 hd,qbj h4 he,qbj h5 hf,qbj (qex h5 hf) hg]
section
attribute [local irreducible] qcc IntKind.wrap u32
theorem encode_spec (i : InsP) (hi : InsOk i) (hop : 1 ≤ i.op) : Spec Try.prog 17 #[.agg i.cells.toArray] (fun _=>True) [] (fun ρ ρ' v L=>ρ' = ρ ∧ v = .tuple #[.int .u32 ((encP i).1 : Int),.int .i64 (encP i).2] ∧ L = []):=by
 obtain ⟨D,hD⟩ : ∃ D,encP i = D:=⟨_,rfl⟩
 rw [hD]
 unfold encP at hD
 have hW : encW i = if 46 ≤ i.op then wholeP i.op else
  placeP ((qdv i.op).1 : Int) 0 ||| placeP (i.rd : Int) 7 ||| placeP ((qdv i.op).2.1 : Int) 12 ||| placeP (i.r1 : Int) 15 ||| placeP (i.r2 : Int) 20 ||| placeP ((qdv i.op).2.2 : Int) 25 ||| bitsP i.op i.imm:=rfl
 have hWl:=encW_lt i
 obtain ⟨W,hWe⟩ : ∃ W,encW i = W:=⟨_,rfl⟩
 rw [hWe] at hD hW hWl
 have hDec:=decode_spec W hWl
 have hCmp:=fun w=>ins_eq (decP W) i w
 obtain ⟨j,hj⟩ : ∃ j,decP W = j:=⟨_,rfl⟩
 rw [hj] at hD hDec hCmp
 obtain ⟨op,rd,r1,r2,imm⟩:=i
 have hop50 : op < 50:=hi.op
 have himm:=hi.imm
 dsimp only at hW hop himm
 have hcode:=code_spec op
 have hrd:=hi.rd
 have hr1:=hi.r1
 have hr2:=hi.r2
 dsimp only at hrd hr1 hr2
 refine Spec.of 74 Try.func17 rfl Try.ntmps17 [(0,_)] rfl rfl ?_
 intro cx ρ hr h0
 refine Cd.seq fun K22 hK22=>?_
 refine Cd.qac [(0,false),(1,false),(2,false)] rfl rfl ?_
 refine Jp.box 1 1 rfl (qaa rfl) rfl rfl rfl rfl fun b1=>⟨Kp.true,?_⟩
 refine Jp.y 2 rfl (qaa rfl) rfl rfl Kp.true (Y.assign rfl rfl) ?_
 refine Jp.y 3 rfl (qaa rfl) rfl rfl Kp.true (Y.assign rfl rfl) ?_
 refine Jp.qae hK22 ?_
 refine Cd.seq fun K23 hK23=>?_
 refine Cd.qac [(0,false),(1,false),(2,false),(3,false),(4,false),(5,false),(6,false),(7,false)] rfl rfl ?_
 refine Jp.y 10 rfl (qaa rfl) rfl rfl Kp.true (by exact Y.qad rfl rfl underlying34 rfl sizeOf3 (by decide) (show _ + 0 = _ from rfl)) ?_
 refine Jp.y 11 rfl (qaa rfl) rfl rfl Kp.true (by exact Y.qaw 1 rfl isAgg3 rfl rfl rfl) ?_
 refine Jp.call [] [] (whole_spec op hop50) 12 rfl (qaa rfl) rfl rfl (Runs.fn rfl call31 rfl) (by decide) (by decide) rfl trivial ?_
 rintro v1 ρ1 L1 ⟨rfl,rfl,rfl⟩
 refine ⟨rfl,fun hle1=>⟨Kp.true,?_⟩⟩
 refine Jp.y 9 rfl (qaa rfl) rfl rfl Kp.true (Y.move rfl rfl) ?_
 refine Jp.y 13 rfl (qaa rfl) rfl rfl Kp.true (Y.extract rfl rfl rfl) ?_
 refine Jp.y 14 rfl (qaa rfl) rfl rfl Kp.true (Y.extract rfl rfl rfl) ?_
 refine Jp.y 4 rfl (qaa rfl) rfl rfl Kp.true (Y.assign rfl rfl) ?_
 refine Jp.y 5 rfl (qaa rfl) rfl rfl Kp.true (Y.assign rfl rfl) ?_
 refine Jp.qae hK23 ?_
 refine Cd.seq fun K24 hK24=>?_
 refine Cd.seq fun K25 hK25=>?_
 refine Cd.qac [(0,false),(1,false)] rfl rfl ?_
 refine Jp.y 15 rfl (qaa rfl) rfl rfl Kp.true (Y.move rfl rfl) ?_
 refine Jp.y 16 rfl (qaa rfl) rfl rfl Kp.true (Y.not rfl rfl) ?_
 refine Jp.qae hK25 ?_
 refine Cd.qhi (G:=Unit) (fun _=>True) (fun _=>[(4,.int .u32 (W : Int))]) [(1,_)] ⟨rfl,trivial⟩ (fun _=>[]) [(1,_)] ⟨rfl,trivial⟩ hK24 (fun g hφ=>?_) (fun hj1=>?_)
 ·clear hφ
  refine Cd.seq fun K26 hK26=>?_
  refine Cd.seq fun K27 hK27=>?_
  refine Cd.drawn [(1,_)] ⟨rfl,trivial⟩ [(0,true),(2,true),(1,false),(3,true)] follows (by kernel_rfl) (fun hrl=>?_)
  refine Jp.q 69 rfl (qaa rfl) rfl rfl (Y.move rfl rfl) ?_
  refine Jp.q 71 rfl (qaa rfl) rfl rfl (by exact Y.qag 1 rfl isAgg34 sizeOf34 rfl rfl rfl) ?_
  refine Jp.call [] [] hDec 70 rfl (qaa rfl) rfl rfl (Runs.fn rfl call36 rfl) (by decide) (by decide) rfl trivial ?_
  rintro v20 ρ20 L20 ⟨rfl,rfl,rfl⟩
  refine ⟨rfl,fun hle20=>⟨(Kp.st ⟨rfl,trivial⟩),?_⟩⟩
  refine Jp.q 72 rfl (qaa rfl) rfl rfl (Y.neqS (xs:=j.cells.toArray) (ys:=(InsP.mk op rd r1 r2 imm).cells.toArray) (r:=insEq j ⟨op,rd,r1,r2,imm⟩) rfl rfl rfl ins_guard ins_fields ins_stood hCmp) ?_
  refine Jp.qae hK27 ?_
  refine Cd.qaq rfl (fun gz=>?_) (fun gz=>?_)
  ·rw [if_neg (by simpa using gz)] at hD
   refine Cd.seq fun K29 hK29=>?_
   refine Cd.qac [(0,false),(1,false)] rfl rfl ?_
   refine Jp.y 2 rfl (qaa rfl) rfl rfl Kp.true (Y.assign rfl rfl) ?_
   refine Jp.y 3 rfl (qaa rfl) rfl rfl Kp.true (Y.assign rfl rfl) ?_
   refine Jp.qae hK29 ?_
   refine Cd.ret [] rfl (qbr rfl rfl rfl) trivial ⟨rfl,by rw [← hD] <;> rfl,rfl⟩
  ·rw [if_pos (by simpa using gz)] at hD
   refine Cd.qbw hK26 ?_
   refine Cd.seq fun K30 hK30=>?_
   refine Cd.qac [(0,false),(1,false),(2,false)] rfl rfl ?_
   refine Jp.y 73 rfl (qaa rfl) rfl rfl Kp.true (Y.move rfl rfl) ?_
   refine Jp.y 2 rfl (qaa rfl) rfl rfl Kp.true (Y.assign rfl rfl) ?_
   refine Jp.y 3 rfl (qaa rfl) rfl rfl Kp.true (Y.assign rfl rfl) ?_
   refine Jp.qae hK30 ?_
   refine Cd.ret [] rfl (qbr rfl rfl rfl) trivial ⟨rfl,by rw [← hD] <;> rfl,rfl⟩
 ·skip
  refine Cd.qaq rfl (fun ga=>?_) (fun ga=>?_)
  ·have h46 : ¬ 46 ≤ op:=by simp at ga; omega
   rw [if_neg h46] at hW
   have hcode:=hcode ⟨hop,by omega⟩
   unfold codeV at hcode
   refine Cd.seq fun K31 hK31=>?_
   refine Cd.seq fun K32 hK32=>?_
   refine Cd.qac [(0,false),(1,false),(2,false),(3,false),(4,false),(5,false),(6,false),(7,false),(8,false),(9,false),(10,false),(11,false),(12,false),(13,false),(14,false),(15,false),(16,false),(17,false),(18,false)] rfl rfl ?_
   refine Jp.y 17 rfl (qaa rfl) rfl rfl Kp.true (by exact Y.qad rfl rfl underlying34 rfl sizeOf3 (by decide) (show _ + 0 = _ from rfl)) ?_
   refine Jp.y 18 rfl (qaa rfl) rfl rfl Kp.true (by exact Y.qaw 1 rfl isAgg3 rfl rfl rfl) ?_
   refine Jp.y 19 rfl (qaa rfl) rfl rfl Kp.true (Y.lss rfl rfl rfl) ?_
   refine Jp.slot 19 rfl (show _ = Value.bool false from congrArg Value.bool (decide_eq_false (by dsimp only; omega))) ?_
   refine Jp.y 20 rfl (qaa rfl) rfl rfl Kp.true (Y.move rfl rfl) ?_
   refine Jp.y 21 rfl (qab rfl rfl rfl rfl) rfl rfl Kp.true (by exact Y.qad rfl rfl underlying34 rfl sizeOf3 (by decide) (show _ + 0 = _ from rfl)) ?_
   refine Jp.y 22 rfl (qab rfl rfl rfl rfl) rfl rfl Kp.true (by exact Y.qaw 1 rfl isAgg3 rfl rfl rfl) ?_
   refine Jp.y 23 rfl (qab rfl rfl rfl rfl) rfl rfl Kp.true (Y.gtr rfl rfl rfl) ?_
   refine Jp.slot 23 rfl (show _ = Value.bool false from congrArg Value.bool (decide_eq_false (by dsimp only; omega))) ?_
   refine Jp.y 24 rfl (qaa rfl) rfl rfl Kp.true (Y.qaz rfl rfl rfl) ?_
   refine Jp.y 25 rfl (qaa rfl) rfl rfl Kp.true (Y.move rfl rfl) ?_
   refine Jp.y 26 rfl (qab rfl rfl rfl rfl) rfl rfl Kp.true (by exact Y.qad rfl rfl underlying34 rfl sizeOf3 (by decide) (show _ + 1 = _ from rfl)) ?_
   refine Jp.y 27 rfl (qab rfl rfl rfl rfl) rfl rfl Kp.true (by exact Y.qaw 1 rfl isAgg3 rfl rfl rfl) ?_
   refine Jp.y 28 rfl (qab rfl rfl rfl rfl) rfl rfl Kp.true (by exact Y.qad rfl rfl underlying34 rfl sizeOf3 (by decide) (show _ + 2 = _ from rfl)) ?_
   refine Jp.y 29 rfl (qab rfl rfl rfl rfl) rfl rfl Kp.true (by exact Y.qaw 1 rfl isAgg3 rfl rfl rfl) ?_
   refine Jp.y 30 rfl (qab rfl rfl rfl rfl) rfl rfl Kp.true (by exact Y.qad rfl rfl underlying34 rfl sizeOf3 (by decide) (show _ + 3 = _ from rfl)) ?_
   refine Jp.y 31 rfl (qab rfl rfl rfl rfl) rfl rfl Kp.true (by exact Y.qaw 1 rfl isAgg3 rfl rfl rfl) ?_
   refine Jp.lit 32 9 [(0,_),(1,_),(2,_)] [_,_,_] rfl (qab rfl rfl rfl rfl) rfl rfl rfl rfl underlying114 sizeOf3 zeroValue3 rfl rfl rfl rfl rfl fun b9=>⟨Kp.true,?_⟩
   refine Jp.freeze (i:=9) rfl (OwnS.up _ _ _ _ _ _) fun ρ9 hle9 hA9=>?_
   refine Jp.call [] [] (regs_spec (some ⟨b9,0,none⟩) 3 [(rd : Int),(r1 : Int),(r2 : Int)] (by intro x hx; simp at hx; omega) (Nat.le_of_ble_eq_true rfl)) 33 rfl (qab rfl rfl rfl rfl) rfl rfl (Runs.fn rfl call32 rfl) (by decide) (by decide) rfl hA9.rd ?_
   rintro v2 ρ2 L2 ⟨rfl,rfl,rfl⟩
   refine ⟨rfl,fun hle2=>⟨Kp.true,?_⟩⟩
   refine Jp.y 34 rfl (qab rfl rfl rfl rfl) rfl rfl Kp.true (Y.not rfl rfl) ?_
   refine Jp.y 35 rfl (qaa rfl) rfl rfl Kp.true (Y.qaz rfl rfl rfl) ?_
   refine Jp.qae hK32 ?_
   refine Cd.qaq rfl (fun gb=>?_) (fun gb=>?_)
   ·exact absurd gb (by simp)
   ·skip
    refine Cd.qbw hK31 ?_
    refine Cd.seq fun K33 hK33=>?_
    refine Cd.qac [(0,false),(1,false),(2,false),(3,false),(4,false),(5,false),(6,false),(7,false),(8,false),(9,false)] rfl rfl ?_
    refine Jp.y 37 rfl (qaa rfl) rfl rfl Kp.true (by exact Y.qad rfl rfl underlying34 rfl sizeOf3 (by decide) (show _ + 0 = _ from rfl)) ?_
    refine Jp.y 38 rfl (qaa rfl) rfl rfl Kp.true (by exact Y.qaw 1 rfl isAgg3 rfl rfl rfl) ?_
    refine Jp.call [] [] hcode 39 rfl (qaa rfl) rfl rfl (Runs.fn rfl call33 rfl) (by decide) (by decide) rfl trivial ?_
    rintro v3 ρ3 L3 ⟨rfl,rfl,rfl⟩
    refine ⟨rfl,fun hle3=>⟨Kp.true,?_⟩⟩
    refine Jp.y 36 rfl (qaa rfl) rfl rfl Kp.true (Y.move rfl rfl) ?_
    refine Jp.y 40 rfl (qaa rfl) rfl rfl Kp.true (Y.extract rfl rfl rfl) ?_
    refine Jp.y 41 rfl (qaa rfl) rfl rfl Kp.true (Y.extract rfl rfl rfl) ?_
    refine Jp.y 42 rfl (qaa rfl) rfl rfl Kp.true (Y.extract rfl rfl rfl) ?_
    refine Jp.y 6 rfl (qaa rfl) rfl rfl Kp.true (Y.assign rfl rfl) ?_
    refine Jp.y 7 rfl (qaa rfl) rfl rfl Kp.true (Y.assign rfl rfl) ?_
    refine Jp.y 8 rfl (qaa rfl) rfl rfl Kp.true (Y.assign rfl rfl) ?_
    refine Jp.qae hK33 ?_
    refine Cd.drawn [(1,_)] ⟨rfl,trivial⟩ [(0,true),(2,true),(3,true),(6,true),(9,true),(10,true),(13,true),(14,true),(17,true),(20,true),(21,true),(22,true),(23,true),(1,false),(4,false),(5,true),(7,false),(8,true),(11,false),(12,true),(15,false),(16,true),(18,false),(19,true),(24,false),(25,true),(26,true)] follows (by kernel_rfl) (fun hrl=>?_)
    refine Jp.q 43 rfl (qaa rfl) rfl rfl (Y.move rfl rfl) ?_
    refine Jp.q 45 rfl (qaa rfl) rfl rfl (by exact Y.qad rfl rfl underlying34 rfl sizeOf3 (by decide) (show _ + 1 = _ from rfl)) ?_
    refine Jp.q 46 rfl (qaa rfl) rfl rfl (by exact Y.qaw 1 rfl isAgg3 rfl rfl rfl) ?_
    refine Jp.q 49 rfl (qaa rfl) rfl rfl (Y.move rfl rfl) ?_
    refine Jp.q 52 rfl (qaa rfl) rfl rfl (by exact Y.qad rfl rfl underlying34 rfl sizeOf3 (by decide) (show _ + 2 = _ from rfl)) ?_
    refine Jp.q 53 rfl (qaa rfl) rfl rfl (by exact Y.qaw 1 rfl isAgg3 rfl rfl rfl) ?_
    refine Jp.q 56 rfl (qaa rfl) rfl rfl (by exact Y.qad rfl rfl underlying34 rfl sizeOf3 (by decide) (show _ + 3 = _ from rfl)) ?_
    refine Jp.q 57 rfl (qaa rfl) rfl rfl (by exact Y.qaw 1 rfl isAgg3 rfl rfl rfl) ?_
    refine Jp.q 60 rfl (qaa rfl) rfl rfl (Y.move rfl rfl) ?_
    refine Jp.q 63 rfl (qaa rfl) rfl rfl (by exact Y.qad rfl rfl underlying34 rfl sizeOf3 (by decide) (show _ + 0 = _ from rfl)) ?_
    refine Jp.q 64 rfl (qaa rfl) rfl rfl (by exact Y.qaw 1 rfl isAgg3 rfl rfl rfl) ?_
    refine Jp.q 65 rfl (qaa rfl) rfl rfl (by exact Y.qad rfl rfl underlying34 rfl sizeOf21 (by decide) (show _ + 4 = _ from rfl)) ?_
    refine Jp.q 66 rfl (qaa rfl) rfl rfl (by exact Y.qaw 1 rfl isAgg21 rfl rfl rfl) ?_
    refine Jp.call [] [] (qas _ _ (by decide)) 44 rfl (qaa rfl) rfl rfl (Runs.fn rfl call34 rfl) (by decide) (by decide) rfl trivial ?_
    rintro v101 ρ101 L101 ⟨rfl,rfl,rfl⟩
    refine ⟨rfl,fun hle101=>⟨(Kp.st ⟨rfl,trivial⟩),?_⟩⟩
    refine Jp.call [] [] (qas _ _ (by decide)) 47 rfl (qaa rfl) rfl rfl (Runs.fn rfl call34 rfl) (by decide) (by decide) rfl trivial ?_
    rintro v102 ρ102 L102 ⟨rfl,rfl,rfl⟩
    refine ⟨rfl,fun hle102=>⟨(Kp.st ⟨rfl,trivial⟩),?_⟩⟩
    refine Jp.q 48 rfl (qaa rfl) rfl rfl (Y.bits rfl rfl rfl rfl) ?_
    refine Jp.call [] [] (qas _ _ (by decide)) 50 rfl (qaa rfl) rfl rfl (Runs.fn rfl call34 rfl) (by decide) (by decide) rfl trivial ?_
    rintro v103 ρ103 L103 ⟨rfl,rfl,rfl⟩
    refine ⟨rfl,fun hle103=>⟨(Kp.st ⟨rfl,trivial⟩),?_⟩⟩
    refine Jp.q 51 rfl (qaa rfl) rfl rfl (Y.bits rfl rfl rfl rfl) ?_
    refine Jp.call [] [] (qas _ _ (by decide)) 54 rfl (qaa rfl) rfl rfl (Runs.fn rfl call34 rfl) (by decide) (by decide) rfl trivial ?_
    rintro v104 ρ104 L104 ⟨rfl,rfl,rfl⟩
    refine ⟨rfl,fun hle104=>⟨(Kp.st ⟨rfl,trivial⟩),?_⟩⟩
    refine Jp.q 55 rfl (qaa rfl) rfl rfl (Y.bits rfl rfl rfl rfl) ?_
    refine Jp.call [] [] (qas _ _ (by decide)) 58 rfl (qaa rfl) rfl rfl (Runs.fn rfl call34 rfl) (by decide) (by decide) rfl trivial ?_
    rintro v105 ρ105 L105 ⟨rfl,rfl,rfl⟩
    refine ⟨rfl,fun hle105=>⟨(Kp.st ⟨rfl,trivial⟩),?_⟩⟩
    refine Jp.q 59 rfl (qaa rfl) rfl rfl (Y.bits rfl rfl rfl rfl) ?_
    refine Jp.call [] [] (qas _ _ (by decide)) 61 rfl (qaa rfl) rfl rfl (Runs.fn rfl call34 rfl) (by decide) (by decide) rfl trivial ?_
    rintro v106 ρ106 L106 ⟨rfl,rfl,rfl⟩
    refine ⟨rfl,fun hle106=>⟨(Kp.st ⟨rfl,trivial⟩),?_⟩⟩
    refine Jp.q 62 rfl (qaa rfl) rfl rfl (Y.bits rfl rfl rfl rfl) ?_
    refine Jp.call [] [] (bits_spec op imm himm) 67 rfl (qaa rfl) rfl rfl (Runs.fn rfl call35 rfl) (by decide) (by decide) rfl trivial ?_
    rintro v107 ρ107 L107 ⟨rfl,rfl,rfl⟩
    refine ⟨rfl,fun hle107=>⟨(Kp.st ⟨rfl,trivial⟩),?_⟩⟩
    refine Jp.q 68 rfl (qaa rfl) rfl rfl (Y.bits rfl rfl rfl rfl) ?_
    refine Jp.q 4 rfl (qaa rfl) rfl rfl (Y.assign rfl rfl) ?_
    refine Jp.qae hK24 ?_
    refine Cd.slot 4 rfl (show _ = Value.int .u32 (W : Int) from congrArg (Value.int .u32) ((or7_u (qak _ _) (qak _ _) (qak _ _) (qak _ _) (qak _ _) (qak _ _) (bitsP_lt _ _)).trans (congrArg Int.ofNat hW.symm))) ?_
    exact Cd.meet' (hj1 () trivial) hle9 (by rw [h0]; exact Hp.le_refl _) ⟨rfl,rfl,trivial⟩ ⟨rfl,trivial⟩
  ·have h46 : 46 ≤ op:=by simp at ga; omega
   rw [if_pos h46] at hW
   refine Cd.qbw hK24 ?_
   rw [← hW]
   exact Cd.qcz (hj1 () trivial) ⟨rfl,rfl,trivial⟩ ⟨rfl,trivial⟩
end
end Go.Proofs.Ytnfkalpgidiafaa

namespace Go.Proofs.Ytnfkalpgidiafaa
open Go
def wideP (a : Nat) : Int:=if a / 2147483648 = 1 then (a : Int) - 4294967296 else a
def shP (k a n : Nat) : Nat:=if k = 2 then u32 ((a * 2 ^ n : Nat) : Int) else if k = 6 then a / 2 ^ n else u32 ((s32 a).fdiv (2 ^ n))
def shBit (k a n i : Nat) : Nat:=if k = 2 then (if n ≤ i then a / 2 ^ (i - n) % 2 else 0) else if i + n < 32 then a / 2 ^ (i + n) % 2 else if k = 7 then a / 2147483648 else 0
def hiP (k a b : Nat) : Nat :=
 let h:=a * b / 4294967296
 let h1:=if k ≠ 13 ∧ a / 2147483648 = 1 then u32 ((h : Int) - b) else h
 if k = 11 ∧ b / 2147483648 = 1 then u32 ((h1 : Int) - a) else h1
end Go.Proofs.Ytnfkalpgidiafaa

namespace Go.Proofs.Ytnfkalpgidiafaa
open Go
def madeD (xs : List Int) (bs : qam) : MemG:=(qdl (qdl map3 4096 (qcr (xs.take 64)) 65536 0).2 65536 (bs.take 512) 65536 0).2
theorem RdB.takeN {A : Option Addr} {c : Nat} {xs : qam} {ρ : Hp} (h : RdB ⟨A,c,xs⟩ ρ) {n : Nat} (hn : n ≤ xs.length) : RdB ⟨A,c,xs.take n⟩ ρ:=by
 have h5:=RdS.take (l:=n) h (show n ≤ xs.length from hn)
 rw [Nat.mul_one] at h5
 have h6 : (qaf xs).take n = qaf (xs.take n):=by simp [qaf]
 show RdS 1 _ (xs.take n).length _ _ _
 rw [show (xs.take n).length = n by rw [List.length_take]; omega,← h6]; exact h5
theorem encP_lt (i : InsP) : (encP i).1 < 4294967296:=by
 unfold encP
 split
 ·exact encW_lt i
 ·exact Nat.zero_lt_succ _
def awIns : InsP:=⟨19,1,0,0,5⟩
def st0 (pc : Nat) : StP:=⟨List.replicate 32 0,pc,0⟩
theorem st0_ok {pc : Nat} (h : pc < 4294967296) : StOk (st0 pc):=⟨rfl,fun y hy=>by rw [List.eq_of_mem_replicate hy]; decide,h,(show -9223372036854775808 ≤ (0 : Int) ∧ (0 : Int) ≤ 4611686018427387904 by decide)⟩
def awOut : StP:=⟨[0,5] ++ List.replicate 30 0,4100,1⟩
end Go.Proofs.Ytnfkalpgidiafaa

namespace Go.Proofs.Ytnfkalpgidiafaa
open Go
structure StRd (s : StP) : Prop where
 len : s.x.length = 32
 lt : ∀ y ∈ s.x,y < 4294967296
 pc : s.pc < 4294967296
 ret : -9223372036854775808 ≤ s.ret ∧ s.ret ≤ 9223372036854775807
theorem StRd.ok {s : StP} (h : StRd s) (h2 : s.ret ≤ 4611686018427387904) : StOk s:=⟨h.len,h.lt,h.pc,h.ret.1,h2⟩
theorem StRd.cRet {s : StP} (h : StRd s) : s.cells.toArray[33]? = some (.int .i64 s.ret):=by simp [StP.cells,qcf,List.getElem?_append,h.len]
theorem StRd.size {s : StP} (h : StRd s) : s.cells.length = 34:=by simp [StP.cells,qcf,h.len]
end Go.Proofs.Ytnfkalpgidiafaa

namespace Go.Proofs.Ytnfkalpgidiafaa
open _root_.Go.Proofs.Try
open Go
theorem made13_spec (A : Option Addr) (c : Nat) (xs : List Int) (dA : Option Addr) (dc : Nat) (bs : qam) (hxs : ∀ x ∈ xs,∃ m : Nat,x = m ∧ m < 4294967296) : Spec Try.prog 7 #[.slice A xs.length c,.slice dA bs.length dc] (fun h=>RdI .u32 ⟨A,c,xs⟩ h ∧ RdB ⟨dA,dc,bs⟩ h) []
  (fun ρ ρ' v L=>∃ b,v = .pointer (some ⟨b,0,none⟩) ∧ L = [(0,qfz b (madeD xs bs))]):=by
 refine Spec.of 60 Try.func7 rfl Try.ntmps7 [(0,_),(1,_)] rfl rfl ?_
 intro cx ρ hr0 h0
 obtain ⟨hr,hrd⟩:=hr0
 have lx : xs.length ≤ 281474976710656:=hr.2.1.2
 have hcap : bs.length ≤ dc ∧ bs.length ≤ 281474976710656:=hrd.2.1
 refine Cd.seq fun K1 hK1=>?_
 refine Cd.qac [(0,false)] rfl rfl ?_
 refine Jp.y 4 rfl (qaa rfl) rfl rfl Kp.true (Y.assign rfl rfl) ?_
 refine Jp.qae hK1 ?_
 refine Cd.seq fun K2 hK2=>?_
 refine Cd.qac [(0,false),(1,false),(2,false),(3,false),(4,false),(5,false)] rfl rfl ?_
 refine Jp.call [] [0] (new_yes 50 (by omega)) 11 rfl (qaa rfl) rfl rfl (Runs.fn rfl call14 rfl) (by decide) (by decide) rfl trivial ?_
 rintro v1 ρ1 L1 ⟨rfl,b,rfl,rfl⟩
 refine ⟨rfl,fun hle1=>⟨Kp.true,?_⟩⟩
 refine Jp.y 10 rfl (qaa rfl) rfl rfl Kp.true (Y.move rfl rfl) ?_
 refine Jp.y 12 rfl (qaa rfl) rfl rfl Kp.true (Y.extract rfl rfl rfl) ?_
 refine Jp.y 13 rfl (qaa rfl) rfl rfl Kp.true (Y.extract rfl rfl rfl) ?_
 refine Jp.y 5 rfl (qaa rfl) rfl rfl Kp.true (Y.assign rfl rfl) ?_
 refine Jp.y 6 rfl (qaa rfl) rfl rfl Kp.true (Y.assign rfl rfl) ?_
 refine Jp.qae hK2 ?_
 refine Cd.seq fun K3 hK3=>?_
 refine Cd.qac [(0,false),(1,false)] rfl rfl ?_
 refine Jp.y 14 rfl (qaa rfl) rfl rfl Kp.true (Y.move rfl rfl) ?_
 refine Jp.call [0] [0] (map_spec b (newM 50) 4096 256 5 (by omega) (by omega)) 15 rfl (qaa rfl) rfl rfl (Runs.fn rfl call15 rfl) (by decide) (by decide) rfl trivial ?_
 rintro v2 ρ2 L2 ⟨rfl,rfl,rfl⟩
 refine ⟨rfl,fun hle2=>⟨Kp.true,?_⟩⟩
 refine Jp.qae hK3 ?_
 refine Cd.seq fun K4 hK4=>?_
 refine Cd.qac [(0,false),(1,false)] rfl rfl ?_
 refine Jp.y 16 rfl (qaa rfl) rfl rfl Kp.true (Y.move rfl rfl) ?_
 refine Jp.call [0] [0] (map_spec b (mapM (newM 50) 4096 256 5).2 65536 256 3 (by omega) (by omega)) 17 rfl (qaa rfl) rfl rfl (Runs.fn rfl call15 rfl) (by decide) (by decide) rfl trivial ?_
 rintro v3 ρ3 L3 ⟨rfl,rfl,rfl⟩
 refine ⟨rfl,fun hle3=>⟨Kp.true,?_⟩⟩
 refine Jp.qae hK4 ?_
 refine Cd.seq fun K5 hK5=>?_
 refine Cd.qac [(0,false),(1,false)] rfl rfl ?_
 refine Jp.y 18 rfl (qaa rfl) rfl rfl Kp.true (Y.move rfl rfl) ?_
 refine Jp.call [0] [0] (map_spec b (mapM (mapM (newM 50) 4096 256 5).2 65536 256 3).2 65792 256 1 (by omega) (by omega)) 19 rfl (qaa rfl) rfl rfl (Runs.fn rfl call15 rfl) (by decide) (by decide) rfl trivial ?_
 rintro v4 ρ4 L4 ⟨rfl,rfl,rfl⟩
 refine ⟨rfl,fun hle4=>⟨Kp.true,?_⟩⟩
 refine Jp.imp (j:=0) rfl (fun h hh=>(show qfz b map3 h from hh)) ?_
 obtain ⟨M3,hM3⟩ : ∃ M,map3 = M:=⟨_,rfl⟩
 have hmade : madeD xs bs = (qdl (qdl M3 4096 (qcr (xs.take 64)) 65536 0).2 65536 (bs.take 512) 65536 0).2:=by rw [← hM3]; rfl
 rw [hM3]
 clear hM3
 refine Jp.qae hK5 ?_
 refine Cd.seq fun K6 hK6=>?_
 refine Cd.qac [(0,false)] rfl rfl ?_
 refine Jp.y 7 rfl (qaa rfl) rfl rfl Kp.true (Y.assign rfl rfl) ?_
 refine Jp.qae hK6 ?_
 refine Cd.seq fun K7 hK7=>?_
 refine Cd.seq fun K8 hK8=>?_
 refine Cd.qac [(0,false)] rfl rfl ?_
 refine Jp.y 8 rfl (qaa rfl) rfl rfl Kp.true (Y.assign rfl rfl) ?_
 refine Jp.qae hK8 ?_
 refine Cd.block ?_
 refine Cd.make 1 (A:=OwnS 5 1 none 0 0 (qaf (qcr (xs.take 0)))) (OwnS.nil _ _ _) ?_
 refine Cd.qhi (G:=Option Addr × Nat) (fun _=>True) (fun g=>[(7,.slice g.1 (qcr (xs.take 64)).length g.2)]) [(1,_),(5,_)] ⟨rfl,rfl,trivial⟩ (fun g=>[(1,OwnS 5 1 g.1 (qcr (xs.take 64)).length g.2 (qaf (qcr (xs.take 64))))]) [(0,_)] ⟨rfl,trivial⟩ hK7 (fun g hφ=>?_) (fun hj1=>?_)
 ·obtain ⟨B,d⟩:=g
  clear hφ
  dsimp only
  have hlw:=wordsB_len (xs.take 64)
  have hlt : (xs.take 64).length ≤ 64:=by rw [List.length_take]; omega
  refine Cd.freeze (i:=1) rfl (OwnS.up _ _ _ _ _ _) fun ρ7 hle7 hA7=>?_
  have hrd:=RdS.up _ _ _ _ _ _ _ hle7 hrd
  refine Cd.seq fun K9 hK9=>?_
  refine Cd.qac [(0,false),(1,false),(2,false)] rfl rfl ?_
  refine Jp.y 48 rfl (qaa rfl) rfl rfl Kp.true (Y.move rfl rfl) ?_
  refine Jp.y 49 rfl (qaa rfl) rfl rfl Kp.true (Y.move rfl rfl) ?_
  refine Jp.call [0] [0] (Poke_spec b M3 4096 ⟨B,d,qcr (xs.take 64)⟩ (by omega)) 50 rfl (qaa rfl) rfl rfl (Runs.fn rfl call16 rfl) (by decide) (by decide) rfl hA7.rd ?_
  rintro v5 ρ5 L5 ⟨rfl,rfl,rfl⟩
  refine ⟨rfl,fun hle5=>⟨Kp.true,?_⟩⟩
  refine Jp.qae hK9 ?_
  refine Cd.seq fun K10 hK10=>?_
  refine Cd.seq fun K11 hK11=>?_
  refine Cd.qac [(0,false),(1,false),(2,false)] rfl rfl ?_
  refine Jp.y 51 rfl (qaa rfl) rfl rfl Kp.true (Y.move rfl rfl) ?_
  refine Jp.y 52 rfl (qaa rfl) rfl rfl Kp.true (Y.qck rfl underlying58 rfl) ?_
  refine Jp.y 53 rfl (qaa rfl) rfl rfl Kp.true (Y.gtr rfl rfl rfl) ?_
  refine Jp.qae hK11 ?_
  refine Cd.qaq rfl (fun gx=>?_) (fun gx=>?_)
  ·have hbl : 512 < bs.length:=by simp at gx; omega
   have hcl : (bs.take 512).length = 512:=by rw [List.length_take]; omega
   refine Cd.qac [(0,false),(1,false),(2,false)] rfl rfl ?_
   refine Jp.y 54 rfl (qaa rfl) rfl rfl Kp.true (Y.move rfl rfl) ?_
   refine Jp.y 55 rfl (qaa rfl) rfl rfl Kp.true (Y.sliceTo (hi:=512) rfl rfl rfl underlying58 sizeOf5 (by omega) (by omega)) ?_
   refine Jp.y 1 rfl (qaa rfl) rfl rfl Kp.true (Y.assign rfl rfl) ?_
   refine Jp.qae hK10 ?_
   refine Cd.seq fun K12 hK12=>?_
   refine Cd.qac [(0,false),(1,false),(2,false)] rfl rfl ?_
   refine Jp.y 56 rfl (qaa rfl) rfl rfl Kp.true (Y.move rfl rfl) ?_
   refine Jp.y 57 rfl (qaa rfl) rfl rfl Kp.true (Y.move rfl rfl) ?_
   refine Jp.slot 57 rfl (show _ = Value.slice dA (bs.take 512).length dc by rw [hcl]) ?_
   refine Jp.call [0] [0] (Poke_spec b _ 65536 ⟨dA,dc,bs.take 512⟩ (by omega)) 58 rfl (qaa rfl) rfl rfl (Runs.fn rfl call16 rfl) (by decide) (by decide) rfl (RdB.takeN hrd (by omega)) ?_
   rintro v6 ρ6 L6 ⟨rfl,rfl,rfl⟩
   refine ⟨rfl,fun hle6=>⟨Kp.true,?_⟩⟩
   refine Jp.qae hK12 ?_
   refine Cd.seq fun K13 hK13=>?_
   refine Cd.qac [(0,false),(1,false)] rfl rfl ?_
   refine Jp.y 59 rfl (qaa rfl) rfl rfl Kp.true (Y.move rfl rfl) ?_
   refine Jp.y 4 rfl (qaa rfl) rfl rfl Kp.true (Y.assign rfl rfl) ?_
   refine Jp.qae hK13 ?_
   refine Cd.ret [(0,_)] rfl (qbe rfl rfl) ⟨rfl,trivial⟩ ⟨b,rfl,by rw [hmade]⟩
  ·have hbl : bs.take 512 = bs:=List.take_of_length_le (by simp at gx; omega)
   refine Cd.qbw hK10 ?_
   refine Cd.seq fun K14 hK14=>?_
   refine Cd.qac [(0,false),(1,false),(2,false)] rfl rfl ?_
   refine Jp.y 56 rfl (qaa rfl) rfl rfl Kp.true (Y.move rfl rfl) ?_
   refine Jp.y 57 rfl (qaa rfl) rfl rfl Kp.true (Y.move rfl rfl) ?_
   refine Jp.call [0] [0] (Poke_spec b _ 65536 ⟨dA,dc,bs⟩ (by omega)) 58 rfl (qaa rfl) rfl rfl (Runs.fn rfl call16 rfl) (by decide) (by decide) rfl hrd ?_
   rintro v6 ρ6 L6 ⟨rfl,rfl,rfl⟩
   refine ⟨rfl,fun hle6=>⟨Kp.true,?_⟩⟩
   refine Jp.qae hK14 ?_
   refine Cd.seq fun K15 hK15=>?_
   refine Cd.qac [(0,false),(1,false)] rfl rfl ?_
   refine Jp.y 59 rfl (qaa rfl) rfl rfl Kp.true (Y.move rfl rfl) ?_
   refine Jp.y 4 rfl (qaa rfl) rfl rfl Kp.true (Y.assign rfl rfl) ?_
   refine Jp.qae hK15 ?_
   refine Cd.ret [(0,_)] rfl (qbe rfl rfl) ⟨rfl,trivial⟩ ⟨b,rfl,by rw [hmade,hbl]⟩
 ·skip
  refine Cd.qfl (G:=Nat × Option Addr × Nat) (fun g=>g.1 ≤ xs.length ∧ g.1 ≤ 64) (fun g=>64 - g.1) (fun _=>_) (fun g=>[(7,.slice g.2.1 (qcr (xs.take g.1)).length g.2.2),(8,.int .i64 (g.1 : Int))]) [(0,_),(1,_),(5,_)] (fun g=>[(1,OwnS 5 1 g.2.1 (qcr (xs.take g.1)).length g.2.2 (qaf (qcr (xs.take g.1))))]) [(0,_)] ⟨0,none,0⟩ ⟨Nat.zero_le _,Nat.zero_le _⟩ rfl ⟨rfl,rfl,trivial⟩ ⟨rfl,rfl,rfl,trivial⟩ ⟨rfl,trivial⟩ ⟨rfl,trivial⟩ (fun g KLa hok hLa=>?_)
  obtain ⟨i,B,d⟩:=g
  obtain ⟨ok1,ok2⟩:=hok
  dsimp only at ok1 ok2 ⊢
  refine Cd.seq fun K16 hK16=>?_
  refine Cd.seq fun K17 hK17=>?_
  refine Cd.qac [(0,false),(1,false),(2,false),(3,false),(4,false),(5,false),(6,false),(7,false)] rfl rfl ?_
  refine Jp.y 20 rfl (qaa rfl) rfl rfl Kp.true (Y.move rfl rfl) ?_
  refine Jp.y 21 rfl (qaa rfl) rfl rfl Kp.true (Y.move rfl rfl) ?_
  refine Jp.y 22 rfl (qaa rfl) rfl rfl Kp.true (Y.qck rfl underlying35 rfl) ?_
  refine Jp.y 23 rfl (qaa rfl) rfl rfl Kp.true (Y.lss rfl rfl rfl) ?_
  refine Jp.y 24 rfl (qaa rfl) rfl rfl Kp.true (Y.move rfl rfl) ?_
  refine Jp.splitF 24 rfl (fun g24=>?_) (fun g24=>?_)
  ·skip
   simp only [decide_eq_false_iff_not] at g24
   have e : xs.take i = xs.take 64:=by
    rcases (show xs.length ≤ i ∨ i = 64 by omega) with h | h
    ·rw [List.take_of_length_le h,List.take_of_length_le (by omega)]
    ·rw [h]
   rw [e]
   refine Jp.qat 25 rfl (qab rfl rfl rfl rfl) rfl rfl Kp.true ?_
   refine Jp.qat 26 rfl (qab rfl rfl rfl rfl) rfl rfl Kp.true ?_
   refine Jp.y 27 rfl (qaa rfl) rfl rfl Kp.true (Y.qaz rfl rfl rfl) ?_
   refine Jp.qae hK17 ?_
   refine Cd.qbu rfl ?_
   refine Cd.exit rfl hK7 ?_
   exact Cd.qcz (hj1 ⟨B,d⟩ trivial) ⟨rfl,rfl,rfl,trivial⟩ ⟨rfl,rfl,trivial⟩
  try simp only [sG0] at g24
  refine Jp.y 25 rfl (qab rfl rfl rfl rfl) rfl rfl Kp.true (Y.move rfl rfl) ?_
  refine Jp.y 26 rfl (qab rfl rfl rfl rfl) rfl rfl Kp.true (Y.lss rfl rfl rfl) ?_
  refine Jp.y 27 rfl (qaa rfl) rfl rfl Kp.true (Y.qba rfl rfl rfl) ?_
  refine Jp.qae hK17 ?_
  refine Cd.condF' rfl (fun g27=>?_) (fun g27=>?_)
  ·skip
   simp only [decide_eq_false_iff_not] at g27
   have e : xs.take i = xs.take 64:=by
    rcases (show xs.length ≤ i ∨ i = 64 by omega) with h | h
    ·rw [List.take_of_length_le h,List.take_of_length_le (by omega)]
    ·rw [h]
   rw [e]
   refine Cd.exit rfl hK7 ?_
   exact Cd.qcz (hj1 ⟨B,d⟩ trivial) ⟨rfl,rfl,rfl,trivial⟩ ⟨rfl,rfl,trivial⟩
  try simp only [sG0] at g27
  refine Cd.qbw hK16 ?_
  refine Cd.seq fun K18 hK18=>?_
  refine Cd.block ?_
  refine Cd.seq fun K19 hK19=>?_
  refine Cd.qac [(0,false),(1,false),(2,false),(3,false),(4,false)] rfl rfl ?_
  refine Jp.y 30 rfl (qaa rfl) rfl rfl Kp.true (Y.move rfl rfl) ?_
  refine Jp.y 31 rfl (qaa rfl) rfl rfl Kp.true (Y.move rfl rfl) ?_
  have hi : i < xs.length:=by omega
  obtain ⟨m,hm,hml⟩:=hxs xs[i] (List.getElem_mem _)
  have hl1:=wordsB_len (xs.take i)
  have hl2:=wordsB_len (xs.take (i + 1))
  rw [List.length_take] at hl1 hl2
  obtain ⟨ad,hA,hc⟩:=hr.2.2 i (.int .u32 m) (by simp [intsV,hi,hm])
  subst hA
  refine Jp.y 32 rfl (qaa rfl) rfl rfl Kp.true (Y.qdw (q:=i) rfl rfl rfl underlying35 sizeOf31 (by omega) (by omega) (by omega)) ?_
  refine Jp.y 33 rfl (qaa rfl) rfl rfl Kp.true (Y.loadR rfl isAgg31 rfl hc) ?_
  refine Jp.y 9 rfl (qaa rfl) rfl rfl Kp.true (Y.assign rfl rfl) ?_
  refine Jp.qae hK19 ?_
  refine Cd.qac [(0,false),(1,false),(2,false),(3,false),(4,false),(5,false),(6,false),(7,false),(8,false),(9,false),(10,false),(11,false),(12,false),(13,false),(14,false)] rfl rfl ?_
  refine Jp.y 34 rfl (qaa rfl) rfl rfl Kp.true (Y.move rfl rfl) ?_
  refine Jp.y 35 rfl (qaa rfl) rfl rfl Kp.true (Y.move rfl rfl) ?_
  refine Jp.y 36 rfl (qaa rfl) rfl rfl Kp.true (Y.qav rfl rfl underlying31 underlying5 (conv8 m)) ?_
  refine Jp.y 37 rfl (qaa rfl) rfl rfl Kp.true (Y.move rfl rfl) ?_
  refine Jp.y 38 rfl (qaa rfl) rfl rfl Kp.true (Y.shr rfl rfl rfl (by first | decide | omega)) ?_
  refine Jp.y 39 rfl (qaa rfl) rfl rfl Kp.true (Y.qav rfl rfl underlying31 underlying5 (shr8 m 1 (by omega))) ?_
  refine Jp.y 40 rfl (qaa rfl) rfl rfl Kp.true (Y.move rfl rfl) ?_
  refine Jp.y 41 rfl (qaa rfl) rfl rfl Kp.true (Y.shr rfl rfl rfl (by first | decide | omega)) ?_
  refine Jp.y 42 rfl (qaa rfl) rfl rfl Kp.true (Y.qav rfl rfl underlying31 underlying5 (shr8 m 2 (by omega))) ?_
  refine Jp.y 43 rfl (qaa rfl) rfl rfl Kp.true (Y.move rfl rfl) ?_
  refine Jp.y 44 rfl (qaa rfl) rfl rfl Kp.true (Y.shr rfl rfl rfl (by first | decide | omega)) ?_
  refine Jp.y 45 rfl (qaa rfl) rfl rfl Kp.true (Y.qav rfl rfl underlying31 underlying5 (shr8 m 3 (by omega))) ?_
  refine Jp.lit 46 2 [(0,_),(1,_),(2,_),(3,_)] [_,_,_,_] rfl (qaa rfl) rfl rfl rfl rfl underlying58 sizeOf5 zeroValue5 rfl rfl rfl rfl rfl fun b2=>⟨Kp.true,?_⟩
  refine Jp.append 47 1 rfl (qaa rfl) rfl rfl rfl underlying58 underlying58 (.inl ⟨_,rfl⟩) sizeOf5 Try.typeInfo5 zeroValue5 rfl (by decide) rfl rfl rfl (Src.own 2 rfl) rfl ((qcr (xs.take (i + 1))).length) (qaf (qcr (xs.take (i + 1)))) (by first | omega | simp) (by rw [wordsB_snoc hi hm]; exact bytesV_leB _ _) (by simp only [Try.t5]; omega) fun A7 c7=>⟨Kp.true,?_⟩
  refine Jp.y 7 rfl (qaa rfl) rfl rfl Kp.true (Y.assign rfl rfl) ?_
  refine Jp.over rfl hK18 ?_
  refine Cd.qac [(0,false),(1,false),(2,false)] rfl rfl ?_
  refine Jp.y 28 rfl (qaa rfl) rfl rfl Kp.true (Y.move rfl rfl) ?_
  refine Jp.y 29 rfl (qaa rfl) rfl rfl Kp.true (Y.qcd rfl rfl rfl (by exact qaj (by omega) (by omega))) ?_
  refine Jp.y 8 rfl (qaa rfl) rfl rfl Kp.true (Y.assign rfl rfl) ?_
  rw [show (i : Int) + 1 = ((i + 1 : Nat) : Int) by omega]
  refine Jp.again hLa ⟨i + 1,A7,c7⟩ ⟨hi,by show i + 1 ≤ 64; omega⟩ (by show 64 - (i + 1) < 64 - i; omega) rfl ⟨rfl,rfl,rfl,rfl,rfl,trivial⟩ ⟨rfl,rfl,trivial⟩
theorem qgb (i : InsP) (hi : InsOk i) (hop : 1 ≤ i.op) : Spec Try.prog 8 #[.agg i.cells.toArray] (fun _=>True) [] (fun ρ ρ' v L=>ρ' = ρ ∧ v = .int .u32 ((encP i).1 : Int) ∧ L = []):=by
 have hE:=encode_spec i hi hop
 obtain ⟨op,rd,r1,r2,imm⟩:=i
 refine Spec.of 11 Try.func8 rfl Try.ntmps8 [(0,_)] rfl rfl ?_
 intro cx ρ hr' h0
 refine Cd.seq fun K20 hK20=>?_
 refine Cd.qac [(0,false),(1,false)] rfl rfl ?_
 refine Jp.box 1 1 rfl (qaa rfl) rfl rfl rfl rfl fun b1=>⟨Kp.true,?_⟩
 refine Jp.y 2 rfl (qaa rfl) rfl rfl Kp.true (Y.assign rfl rfl) ?_
 refine Jp.qae hK20 ?_
 refine Cd.seq fun K21 hK21=>?_
 refine Cd.qac [(0,false),(1,false),(2,false),(3,false),(4,false),(5,false),(6,false)] rfl rfl ?_
 refine Jp.y 6 rfl (qaa rfl) rfl rfl Kp.true (by exact Y.qag 1 rfl isAgg34 sizeOf34 rfl rfl rfl) ?_
 refine Jp.call [] [] hE 7 rfl (qaa rfl) rfl rfl (Runs.fn rfl call17 rfl) (by decide) (by decide) rfl trivial ?_
 rintro v1 ρ1 L1 ⟨rfl,rfl,rfl⟩
 refine ⟨rfl,fun hle1=>⟨Kp.true,?_⟩⟩
 refine Jp.y 5 rfl (qaa rfl) rfl rfl Kp.true (Y.move rfl rfl) ?_
 refine Jp.y 8 rfl (qaa rfl) rfl rfl Kp.true (Y.extract rfl rfl rfl) ?_
 refine Jp.y 9 rfl (qaa rfl) rfl rfl Kp.true (Y.extract rfl rfl rfl) ?_
 refine Jp.y 3 rfl (qaa rfl) rfl rfl Kp.true (Y.assign rfl rfl) ?_
 refine Jp.y 4 rfl (qaa rfl) rfl rfl Kp.true (Y.assign rfl rfl) ?_
 refine Jp.qae hK21 ?_
 refine Cd.seq fun K22 hK22=>?_
 refine Cd.qac [(0,false),(1,false)] rfl rfl ?_
 refine Jp.y 10 rfl (qaa rfl) rfl rfl Kp.true (Y.move rfl rfl) ?_
 refine Jp.y 2 rfl (qaa rfl) rfl rfl Kp.true (Y.assign rfl rfl) ?_
 refine Jp.qae hK22 ?_
 refine Cd.ret [] rfl (qbe rfl rfl) trivial ⟨rfl,rfl,rfl⟩
end Go.Proofs.Ytnfkalpgidiafaa

namespace Go.Proofs.Ytnfkalpgidiafaa
open Go
def stEq (a b : StP) : Bool:=decide (a.x = b.x) && (((a.pc : Int) == (b.pc : Int)) && ((a.ret == b.ret) && true))
end Go.Proofs.Ytnfkalpgidiafaa

namespace Go.Proofs.Ytnfkalpgidiafaa
open _root_.Go.Proofs.Try
open Go
theorem tg_guard : Try.prog.eqGuardType Try.prog.depth 41 = false:=by kernel_rfl
theorem tg_info : (Try.prog.info? 5).isSome = true:=by kernel_rfl
theorem tg_cells : Try.prog.cellsOf 5 = 1:=by kernel_rfl
theorem tg_eqd (d : Nat) {a b : qam} (ha : a.length = 4) (hb : b.length = 4) (w : World) : (Op.equalIn (d + 2) 41 (.agg (qaf a).toArray) (.agg (qaf b).toArray)).run Try.prog w = .ok (decide (a = b)) w:=by
 rw [bytesV_int,bytesV_int,equal_arr (d:=d) underlying41 tg_info tg_cells isAgg5 underlying5 (by rw [List.length_map]; exact ha) (by rw [List.length_map]; exact hb),bytes_dec]
def chunkL (X : qam) (i : Nat) : qam:=(X.drop (i * 4)).take 4
def alEq (a b : AlP) : Bool:=(a.ret == b.ret) && (((a.pc : Int) == (b.pc : Int)) && (((a.sink : Int) == (b.sink : Int)) && (((a.lab.toNat : Int) == (b.lab.toNat : Int)) && true)))
theorem AlP.len (a : AlP) : a.cells.length = 4:=rfl
end Go.Proofs.Ytnfkalpgidiafaa
