import Derived.Test.YtnfkalpgidiafaaGreatZP1
import Derived.Sort.Defs
import Derived.Sort.AssemblyPlain
import Derived.Test.YtnfkalpgidiafaaGreatZP5
import Derived.Test.YtnfkalpgidiafaaGreatZP4
import Derived.Test.YtnfkalpgidiafaaGreatZP7
import Derived.Test.YtnfkalpgidiafaaGreatZP3
import Derived.Test.YtnfkalpgidiafaaGreatZP6
set_option linter.unusedVariables false
set_option linter.unusedSimpArgs false
set_option maxRecDepth 100000
namespace Go.Proofs.YtnfkalpgidiafaaGreat
open _root_.Go.Proofs.Tryz
open Go
theorem vo_move {o : Oper} {x : Operand} (h : o.op = .move x) : qgb o := ⟨fun c e => (by rw [h] at e; cases e), fun ev P w nx w' hr => by
 simp only [execOp, h, Sem.run_pure] at hr; injection hr with h1 _; exact .inl ⟨_, h1.symm⟩⟩
theorem vo_assign {o : Oper} {x : Operand} (h : o.op = .assign x) : qgb o := ⟨fun c e => (by rw [h] at e; cases e), fun ev P w nx w' hr => by
 simp only [execOp, h, Sem.run_pure] at hr; injection hr with h1 _; exact .inl ⟨_, h1.symm⟩⟩
theorem vo_load {o : Oper} {t : TypeId} {x : Operand} (h : o.op = .load t x) : qgb o := ⟨fun c e => (by rw [h] at e; cases e), fun ev P w nx w' hr => by
 simp only [execOp, h] at hr; exact .inl (run_val hr)⟩
theorem vo_store {o : Oper} {t : TypeId} {x y : Operand} (h : o.op = .store t x y) : qgb o := ⟨fun c e => (by rw [h] at e; cases e), fun ev P w nx w' hr => by
 simp only [execOp, h] at hr; exact .inr (run_then hr)⟩
theorem vo_buildSlice {o : Oper} {t : TypeId} {n : Nat} {ps : Array (Nat × Operand)} (h : o.op = .buildSlice t n ps) : qgb o := ⟨fun c e => (by rw [h] at e; cases e), fun ev P w nx w' hr => by
 simp only [execOp, h] at hr; exact .inl (run_val hr)⟩
theorem vo_append {o : Oper} {xs : Array Operand} {ts : Array TypeId} (h : o.op = .call { callee := .builtin .append, args := xs, argTypes := ts }) : qgb o := ⟨fun c e => (by rw [h] at e; cases e), fun ev P w nx w' hr => by
 simp only [execOp,h,resolve,Sem.run_bind,Sem.run_pure,Result.andThen_ok,invoke,builtin] at hr
 cases hx : (Builtin.append_ ts o.type (Array.map ev xs)).run P w with
 | ok v w1=>rw [hx] at hr; injection hr with h1 _; exact .inl ⟨v,h1.symm⟩
 | halt s w1 => rw [hx] at hr; cases hr⟩
def qet (A B : Code) (fn : FuncId) (tmps : Array Value) (D : Nat) (st : LoopState) : Loop:={ state:=st,pending:=none,fn:=fn,tmps:=tmps,params:=#[7],assign:=A,body:=B,defers:=D }
def ApJ (A B : Code) (b l D : Nat) (fn : FuncId) (tmps : Array Value) (seen : List Value) : qax:=Ex fun x : Option Addr × Nat =>
 Sep (Pt b (.cells #[.slice x.1 seen.length x.2] 22)) (Sep (OwnS 24 1 x.1 seen.length x.2 seen) (Sep (Pt l (.loop (qet A B fn tmps D .ready))) (Pt D (.deferred (some [])))))
def qfw : Code → Option (Code × Code)
 | .rangeFunc _ _ A B=>some (A,B)
 | .seq a b=>(qfw a).or (qfw b)
 | .block _ c=>qfw c
 | _=>none
noncomputable def apA : Code:=((Tryz.f85.body.bind qfw).map (·.1)).getD .skip
noncomputable def apB : Code:=((Tryz.f85.body.bind qfw).map (·.2)).getD .skip
theorem St.putObj {cx : Cx} {ρ : Hp} {L : Own} {w : World} (hs : St cx ρ L w) {j b : Nat} {o o' : Obj} (hj : look L j = some (Pt b o)) : St cx ρ ((j,Pt b o') :: L) (w.putObj b o'):=by
 have hb:=hs.pt hj
 have hlt:=qco hb
 refine hs.turn hj (by simp [World.putObj,hlt]) (fun p hp=>by simp [World.putObj,Array.getElem?_setIfInBounds,Ne.symm hp]) (by simp [World.putObj]) rfl rfl rfl
theorem apYields {b l D : Nat} {fn : FuncId} {tmps : Array Value} (hsz : tmps.size = 13) (h2 : tmps[2]? = some (.pointer (some ⟨b,0,none⟩))) :
  Yields Tryz.prog l (ApJ apA apB b l D fn tmps) (fun s=>s.length ≤ 4096 ∧ ∀ v ∈ s,∃ x : Int,v = .int .u32 x):=by
 intro seen k hok w M ρ hs
 obtain ⟨hok1,hok2⟩:=hok
 rw [List.length_append,List.length_singleton] at hok1
 obtain ⟨x,rfl⟩:=hok2 k (by simp)
 obtain ⟨⟨A,c⟩,hs0⟩:=hs.ex' (j:=0) (by rw [qag,if_pos rfl]; rfl)
 have hs1:=hs0.part (j:=0) (k:=1) (by decide) (by rw [qag,if_pos rfl])
 have hs2:=hs1.part (j:=1) (k:=2) (by decide) (by rw [qag,if_neg (by decide),qag,if_pos rfl])
 have hs3:=hs2.part (j:=2) (k:=3) (by decide) (by rw [qag,if_neg (by decide),qag,if_pos rfl])
 dsimp only at hs3
 have hsA : St ⟨w,M,ρ⟩ ρ [(0,Pt b (.cells #[.slice A seen.length c] 22)),(1,OwnS 24 1 A seen.length c seen),(2,Pt l (.loop (qet apA apB fn tmps D .ready))),(3,Pt D (.deferred (some [])))] w:=hs3.sub ⟨rfl,rfl,rfl,rfl,trivial⟩
 have hr:=hsA.pt (i:=2) rfl
 refine ⟨_,hr,rfl,fun m=>roundIn_of_wpIn trivial ?_⟩
 have ht : ((qet apA apB fn tmps D .ready).params.zip #[.int .u32 x]).foldl (fun tmps (t,a)=>tmps.setIfInBounds t a) (qet apA apB fn tmps D .ready).tmps = tmps.setIfInBounds 7 (.int .u32 x):=by simp [qet]
 rw [ht]
 have ha : At 13 [(2,.pointer (some ⟨b,0,none⟩)),(7,.int .u32 x)] { tmps:=tmps.setIfInBounds 7 (.int .u32 x),defers:=[] }:=by
  refine ⟨rfl,by simp [hsz],fun t v e=>?_⟩
  simp only [qag] at e
  split at e
  ·rename_i h; subst h; injection e with e; subst e
   show (tmps.setIfInBounds 7 (.int .u32 x))[2]? = _
   rw [Array.getElem?_setIfInBounds_ne (by decide)]; exact h2
  ·split at e
   ·rename_i h; subst h; injection e with e; subst e
    show (tmps.setIfInBounds 7 (.int .u32 x))[7]? = _
    rw [Array.getElem?_setIfInBounds]; simp [hsz]
   ·simp [look] at e
 have hF : ∀ f,(Fence.wide.inRound l).fn f:=fun _=>trivial
 refine qgv (Q:=fun e a w'=>match e with | .normal=>At 13 [(5,.int .u32 x),(2,.pointer (some ⟨b,0,none⟩)),(7,.int .u32 x)] a ∧ St ⟨w,M,ρ⟩ ρ [(0,Pt b (.cells #[.slice A seen.length c] 22)),(1,OwnS 24 1 A seen.length c seen),(2,Pt l (.loop (qet apA apB fn tmps D .ready))),(3,Pt D (.deferred (some [])))] w' | _=>False)
  hF ?_ [(0,false)] rfl rfl ?_ ha hsA ?_
 ·intro o ho
  rcases List.mem_singleton.1 ho with rfl
  exact vo_assign rfl
 ·refine Jp.y 5 rfl (qaa rfl) rfl rfl Kp.true (Y.assign rfl rfl) ?_
  exact fun a w' ha' hs'=>⟨ha',hs'⟩
 rintro a1 w1 ⟨ha1,hsB⟩
 have hd1 : ({ a1 with defers:=[] } : Act) = a1:=by cases a1; have:=ha1.defers; simp at this; subst this; rfl
 rw [hd1]
 have hrB:=hsB.pt (i:=2) rfl
 refine ⟨_,run_beginRound hrB rfl,?_⟩
 have hsC:=hsB.putObj (j:=2) (o':=.loop { qet apA apB fn tmps D .ready with state:=.busy }) rfl
 refine wpIn_block ?_
 rw [← hd1]
 refine qgv (Q:=fun e a w'=>match e with | .normal=>∃ A' c' ρ',At 13 [(2,.pointer (some ⟨b,0,none⟩))] a ∧ St ⟨w,M,ρ⟩ ρ' [(0,Pt b (.cells #[.slice A' (seen.length + 1) c'] 22)),(1,OwnS 24 1 A' (seen.length + 1) c' (seen ++ [.int .u32 x])),(2,Pt l (.loop { qet apA apB fn tmps D .ready with state:=.busy })),(3,Pt D (.deferred (some [])))] w' | _=>False)
  hF ?_ [(0,false),(1,false),(2,false),(3,false),(4,false)] rfl rfl ?_ ha1 hsC ?_
 ·intro o ho
  simp only [List.mem_cons,List.not_mem_nil,or_false] at ho
  rcases ho with rfl | rfl | rfl | rfl | rfl
  ·exact vo_load rfl
  ·exact vo_move rfl
  ·exact vo_buildSlice rfl
  ·exact vo_append rfl
  ·exact vo_store rfl
 ·refine Jp.y 8 rfl (qaa rfl) rfl rfl Kp.true (Y.qau 0 rfl isAgg22 rfl rfl rfl) ?_
  refine Jp.y 9 rfl (qaa rfl) rfl rfl Kp.true (Y.move rfl rfl) ?_
  refine Jp.lit 10 4 [(0,_)] [_] rfl (qaa rfl) rfl rfl rfl rfl underlying22 sizeOf24 zeroValue24 rfl rfl rfl rfl rfl fun b4=>⟨Kp.true,?_⟩
  refine Jp.append 11 1 rfl (qaa rfl) rfl rfl rfl underlying22 underlying22 (.inl ⟨_,rfl⟩) sizeOf24 Tryz.typeInfo24 zeroValue24 rfl (by decide) rfl rfl rfl (Src.own 4 rfl) rfl (seen.length + 1) (seen ++ [.int .u32 x]) rfl rfl (by simp only [Tryz.t24]; omega) fun A' c'=>⟨Kp.true,?_⟩
  refine Jp.store 0 rfl (qaa rfl) rfl rfl sizeOf22 rfl rfl rfl rfl rfl rfl Kp.true ?_
  exact fun a w' ha' hs'=>⟨A',c',ρ,ha'.sub ⟨rfl,trivial⟩,hs'.sub ⟨rfl,rfl,rfl,rfl,trivial⟩⟩
 rintro a2 w2 ⟨A',c',ρ',ha2,hsD⟩
 have hrD:=hsD.pt (i:=2) rfl
 refine ⟨_,_,run_endRound none hrD,ρ',rfl,?_⟩
 have hsE:=hsD.putObj (j:=2) (o':=.loop (qet apA apB fn tmps D .ready)) rfl
 have g1:=hsE.glue (j:=2) (k:=3) (by decide) rfl rfl
 have g2:=g1.glue (j:=1) (k:=2) (by decide) rfl rfl
 have g3:=g2.glue (j:=0) (k:=1) (by decide) rfl rfl
 have g4 := g3.imp (i := 0) (A' := ApJ apA apB b l D fn tmps (seen ++ [.int .u32 x])) rfl fun h hh => ⟨(A', c'), by
  dsimp only
  rw [List.length_append, List.length_singleton]; exact hh⟩
 exact g4.sub ⟨rfl,trivial⟩
end Go.Proofs.YtnfkalpgidiafaaGreat
set_option linter.unusedVariables false
set_option linter.unusedSimpArgs false
set_option maxRecDepth 100000
namespace Go.Proofs.YtnfkalpgidiafaaGreat
open _root_.Go.Proofs.Tryz
open Go
def keysV (m : qcp) : List Value:=m.map fun y=>Value.int .u32 y.1
theorem keys1_spec {l : Nat} {J : List Value → qax} {ok : List Value → Prop} (hY : Yields Tryz.prog l J ok) (cb pb : Nat) (pm : qcp) (hok0 : ∀ s r,(s ++ r).Perm (keysV pm) → ok s) :
  Spec Tryz.prog 91 #[.func (.yield l) #[] #[],.pointer (some ⟨cb,0,none⟩)] (fun _=>True) [(0,Pt cb (.cells #[.map (some pb)] 99)),(1,qcn .u32 pb pm),(2,J [])]
  (fun ρ ρ' v L=>v = .tuple #[] ∧ ∃ s,s.Perm (keysV pm) ∧ L = [(0,Pt cb (.cells #[.map (some pb)] 99)),(1,qcn .u32 pb pm),(2,J s)]):=by
 refine Spec.of 14 Tryz.func91 rfl Tryz.ntmps91 [(0,_),(1,_)] rfl rfl ?_
 intro cx ρ hr h0
 refine Cd.seq fun K1 hK1=>?_
 refine Cd.qac [(0,false),(1,false)] rfl rfl ?_
 refine Jp.y 4 rfl (qaa rfl) rfl rfl Kp.true (Y.qau 0 rfl isAgg99 rfl rfl rfl) ?_
 first | refine Jp.range 5 1 50 (by decide) rfl (qaa rfl) rfl rfl rfl rfl underlying99 rfl fun r1=>⟨Kp.true,?_⟩
 refine Jp.qae hK1 ?_
 refine Cd.block ?_
 refine Cd.qdv (G:=qcp × List Value × Option (Int × Value) × Hp) (fun g=>(g.2.1 ++ keysV g.1).Perm (keysV pm)) (fun g=>g.1.length) (fun g=>g.2.2.2) (fun g=>[]) [(0,_),(5,_)] (fun g=>[(1,RangeO .u32 pb r1 pm g.1 g.2.2.1),(2,J g.2.1)]) [(0,_)] ⟨pm,[],none,ρ⟩ (List.Perm.refl _) rfl trivial ⟨rfl,rfl,trivial⟩ ⟨rfl,rfl,trivial⟩ ⟨rfl,trivial⟩ (fun g KLa hok hLa=>?_)
 obtain ⟨left,s,cur,ρg⟩:=g
 dsimp only at hok ⊢
 refine Cd.seq fun K2 hK2=>?_
 refine Cd.qac [(0,false),(1,false)] rfl rfl ?_
 refine Jp.next 6 1 rfl (qaa rfl) rfl rfl (fun _=>rfl) rfl rfl (fun hn=>⟨Kp.true,?_⟩) (fun q y hq=>⟨Kp.true,?_⟩)
 ·skip
  refine Jp.y 7 rfl (qaa rfl) rfl rfl Kp.true (Y.extract rfl rfl rfl) ?_
  refine Jp.qae hK2 ?_
  refine Cd.seq fun K3 hK3=>?_
  refine Cd.qbz rfl ?_
  subst hn
  refine Cd.imp (i:=1) rfl RangeO.map ?_
  refine Cdx.end [(0,_),(1,_),(2,_)] rfl (res0 rfl) ⟨rfl,rfl,rfl,trivial⟩ ⟨rfl,s,by simpa [keysV] using hok,rfl⟩
 ·have hpe:=qge hq
  have hql:=(List.getElem?_eq_some_iff.1 hq).1
  have hel : (left.eraseIdx q).length < left.length:=by rw [List.length_eraseIdx]; split <;> omega
  have hp2 : (s ++ [Value.int .u32 y.1] ++ keysV (left.eraseIdx q)).Perm (keysV pm):=by
   rw [List.append_assoc]
   exact (List.Perm.append_left s ((hpe.map fun (z : Int × Value)=>Value.int .u32 z.1).symm)).trans hok
  refine Jp.y 7 rfl (qaa rfl) rfl rfl Kp.true (Y.extract rfl rfl rfl) ?_
  refine Jp.qae hK2 ?_
  refine Cd.seq fun K4 hK4=>?_
  refine Cd.qcw rfl ?_
  refine Cd.qbu hK4 ?_
  refine Cd.block ?_
  refine Cd.seq fun K5 hK5=>?_
  refine Cd.qac [(0,false),(1,false),(2,false)] rfl rfl ?_
  refine Jp.y 8 rfl (qaa rfl) rfl rfl Kp.true (by first | exact Y.entry 1 rfl rfl rfl) ?_
  refine Jp.y 9 rfl (qaa rfl) rfl rfl Kp.true (Y.extract rfl rfl rfl) ?_
  refine Jp.y 3 rfl (qaa rfl) rfl rfl Kp.true (Y.assign rfl rfl) ?_
  refine Jp.qae hK5 ?_
  refine Cd.seq fun K6 hK6=>?_
  refine Cd.yield 2 rfl rfl rfl rfl rfl rfl (by decide) rfl hY (hok0 _ _ hp2) (fun ρY hleY=>?_)
  refine Jp.qae hK6 ?_
  refine Cd.qbz rfl ?_
  refine CdQ.again rfl hLa ⟨left.eraseIdx q,s ++ [Value.int .u32 y.1],some y,ρY⟩ hp2 hel rfl ⟨rfl,rfl,trivial⟩ ⟨rfl,rfl,rfl,trivial⟩
end Go.Proofs.YtnfkalpgidiafaaGreat
set_option linter.unusedVariables false
set_option linter.unusedSimpArgs false
set_option maxRecDepth 100000
namespace Go.Proofs.YtnfkalpgidiafaaGreat
open _root_.Go.Proofs.Tryz
open Go
def capO (cb pb : Nat) : qax:=Pt cb (.cells #[.map (some pb)] 99)
def kfn (cb : Nat) : Value:=.func (.func 91) #[] #[.pointer (some ⟨cb,0,none⟩)]
theorem okKeys {pm : qcp} (h : pm.length ≤ 4096) (s r : List Value) (hp : (s ++ r).Perm (keysV pm)) : s.length ≤ 4096 ∧ ∀ v ∈ s,∃ x : Int,v = .int .u32 x:=by
 have h1:=hp.length_eq
 rw [List.length_append,keysV,List.length_map] at h1
 refine ⟨by omega,fun v hv=>?_⟩
 have:=hp.mem_iff.1 (List.mem_append_left r hv)
 obtain ⟨y,_,rfl⟩:=List.mem_map.1 this
 exact ⟨_,rfl⟩
theorem appendSeq_spec (cb pb : Nat) (pm : qcp) (hlen : pm.length ≤ 4096) : Spec Tryz.prog 85 #[.slice none 0 0,kfn cb] (fun _=>True) [(0,capO cb pb),(1,qcn .u32 pb pm)]
  (fun ρ ρ' v L=>∃ s A c,s.Perm (keysV pm) ∧ v = .slice A s.length c ∧ L = [(0,capO cb pb),(1,qcn .u32 pb pm),(2,OwnS 24 1 A s.length c s)]):=by
 refine Spec.ofM 13 Tryz.func85 rfl Tryz.ntmps85 [(0,_),(1,_)] rfl rfl ?_
 intro cx ρ hr h0
 refine Cd.seq fun K1 hK1=>?_
 refine Cd.qac [(0,false),(1,false)] rfl rfl ?_
 refine Jp.box 5 2 rfl (qaa rfl) rfl rfl rfl rfl fun b5=>⟨Kp.true,?_⟩
 refine Jp.y 4 rfl (qaa rfl) rfl rfl Kp.true (Y.assign rfl rfl) ?_
 refine Jp.qae hK1 ?_
 refine Cd.seq fun K2 hK2=>?_
 refine Cd.seq fun K3 hK3=>?_
 refine Cd.qac [(0,false)] rfl rfl ?_
 refine Jp.y 6 rfl (qaa rfl) rfl rfl Kp.true (Y.move rfl rfl) ?_
 refine Jp.qae hK3 ?_
 refine Cd.block ?_
 refine Cd.make 2 (A:=OwnS 24 1 none 0 0 []) (OwnS.nil _ _ _) ?_
 intro a w ha hs
 have hw1 : St cx ρ [(0,capO cb pb),(1,qcn .u32 pb pm),(5,Pt b5 (.cells #[.slice none 0 0] 22)),(2,OwnS 24 1 none 0 0 [])] w:=hs.sub ⟨rfl,rfl,rfl,rfl,trivial⟩
 have ht2 : a.tmps[2]? = some (.pointer (some ⟨b5,0,none⟩)):=ha.slot 2 _ rfl
 have ht6 : a.tmps[6]? = some (kfn cb):=ha.slot 6 _ rfl
 refine (wpIn_wide (n:=1)).1 (wpIn_rangeFunc fun fn _=>?_)
 obtain ⟨W,hW⟩ : ∃ W,(w.alloc (.deferred (some []))).alloc (.loop { state:=.ready,pending:=none,fn,tmps:=a.tmps,params:=#[7],assign:=apA,body:=apB,defers:=w.heap.size }) = W:=⟨_,rfl⟩
 refine ⟨w.heap.size + 1, [{ target := .collected w.heap.size, args := #[] }], W, { target := .fn (.func 91) #[.pointer (some ⟨cb, 0, none⟩)], args := #[.func (.yield (w.heap.size + 1)) #[] #[]] }, W, 91,
  #[.func (.yield (w.heap.size + 1)) #[] #[], .pointer (some ⟨cb, 0, none⟩)], W, ?_, ?_, ?_, ?_, fun h => (by cases h), ?_⟩
 ·rw [← hW]; exact run_enterLoop_outer _ _ _ _ _
 ·simp [resolve,rangeCall,ht6,kfn,Deferred.ofValue,go_sem]
 ·intro f' _; trivial
 ·simp [invoke,go_sem,call91]
 have hsz : (w.alloc (.deferred (some []))).heap.size = w.heap.size + 1:=World.size_alloc _ _
 have s1 : St cx ρ ((7,Pt w.heap.size (.deferred (some []))) :: [(0,capO cb pb),(1,qcn .u32 pb pm),(5,Pt b5 (.cells #[.slice none 0 0] 22)),(2,OwnS 24 1 none 0 0 [])]) (w.alloc (.deferred (some []))):=hw1.alloc 7 _
 have s2:=s1.alloc 8 (.loop { state:=.ready,pending:=none,fn,tmps:=a.tmps,params:=#[7],assign:=apA,body:=apB,defers:=w.heap.size })
 rw [hsz] at s2
 have s3 : St cx ρ ((8,Pt (w.heap.size + 1) (.loop (qet apA apB fn a.tmps w.heap.size .ready))) :: (7,Pt w.heap.size (.deferred (some []))) :: [(0,capO cb pb),(1,qcn .u32 pb pm),(5,Pt b5 (.cells #[.slice none 0 0] 22)),(2,OwnS 24 1 none 0 0 [])]) ((w.alloc (.deferred (some []))).alloc (.loop { state:=.ready,pending:=none,fn,tmps:=a.tmps,params:=#[7],assign:=apA,body:=apB,defers:=w.heap.size })):=s2
 rw [hW] at s3
 have g1:=s3.glue (j:=8) (k:=7) (by decide) rfl rfl
 have g2:=g1.glue (j:=2) (k:=8) (by decide) rfl rfl
 have g3:=g2.glue (j:=5) (k:=2) (by decide) rfl rfl
 have g4:=g3.imp (i:=5) (A':=ApJ apA apB b5 (w.heap.size + 1) w.heap.size fn a.tmps []) rfl fun h hh=>⟨(none,0),hh⟩
 have g5 : St cx ρ [(0,capO cb pb),(1,qcn .u32 pb pm),(5,ApJ apA apB b5 (w.heap.size + 1) w.heap.size fn a.tmps [])] W:=g4.sub ⟨rfl,rfl,rfl,trivial⟩
 obtain ⟨M',k1,k2⟩:=g5.call [0,1,5] [0,1,5] (by decide) (by decide)
 have hY:=apYields (b:=b5) (l:=w.heap.size + 1) (D:=w.heap.size) (fn:=fn) ha.size ht2
 refine callsIn_wide.2 ((keys1_spec hY cb pb pm (fun s r hp=>okKeys hlen s r hp) W M' ρ trivial k1).mono ?_)
 rintro e w2 ⟨v,ρ',Lout,rfl,⟨rfl,s,hperm,rfl⟩,hst⟩
 have hst2:=k2 w2 ρ' _ (by simp) hst
 have q0 : St cx ρ' [(5,ApJ apA apB b5 (w.heap.size + 1) w.heap.size fn a.tmps s),(0,capO cb pb),(1,qcn .u32 pb pm)] w2:=hst2.sub ⟨rfl,rfl,rfl,trivial⟩
 obtain ⟨⟨A,c⟩,q1⟩:=q0.ex' (j:=5) (by rw [qag,if_pos rfl]; rfl)
 have q2:=q1.part (j:=5) (k:=2) (by decide) (by rw [qag,if_pos rfl])
 have q3:=q2.part (j:=2) (k:=8) (by decide) (by rw [qag,if_neg (by decide),qag,if_pos rfl])
 have q4:=q3.part (j:=8) (k:=7) (by decide) (by rw [qag,if_neg (by decide),qag,if_pos rfl])
 dsimp only at q4
 have q5 : St cx ρ' [(5,Pt b5 (.cells #[.slice A s.length c] 22)),(2,OwnS 24 1 A s.length c s),(8,Pt (w.heap.size + 1) (.loop (qet apA apB fn a.tmps w.heap.size .ready))),(7,Pt w.heap.size (.deferred (some []))),(0,capO cb pb),(1,qcn .u32 pb pm)] w2:=q4.sub ⟨rfl,rfl,rfl,rfl,rfl,rfl,trivial⟩
 have hl:=q5.pt (i:=8) rfl
 have hend:=run_endLoop (P:=Tryz.prog) hl (by simp [qet])
 have q6:=q5.putObj (j:=8) (o':=.loop { qet apA apB fn a.tmps w.heap.size .ready with state:=.exhausted }) rfl
 refine ⟨none,_,hend,?_⟩
 show K2 _ _
 refine hK2 _ _ ?_
 refine (wpIn_wide (n:=1)).1 (wpIn_seq ?_)
 have hd : a.defers = []:=ha.defers
 rw [hd,List.append_nil]
 refine qgv (D:=[{ target:=.collected w.heap.size,args:=#[] }]) (Q:=fun e a w'=>match e with | .normal=>At 13 [(4,.slice A s.length c)] a ∧ St cx ρ' [(7,Pt w.heap.size (.deferred (some []))),(2,OwnS 24 1 A s.length c s),(0,capO cb pb),(1,qcn .u32 pb pm)] w' | _=>False)
  (fun _=>trivial) ?_ [(0,false),(1,false)] rfl rfl ?_ ha q6 ?_
 ·intro o ho
  simp only [List.mem_cons,List.not_mem_nil,or_false] at ho
  rcases ho with rfl | rfl
  ·exact vo_load rfl
  ·exact vo_assign rfl
 ·refine Jp.y 12 rfl (qaa rfl) rfl rfl Kp.true (Y.qau 5 rfl isAgg22 rfl rfl rfl) ?_
  refine Jp.y 4 rfl (qaa rfl) rfl rfl Kp.true (Y.assign rfl rfl) ?_
  exact fun a w' ha' hs'=>⟨ha'.sub ⟨rfl,trivial⟩,hs'.sub ⟨rfl,rfl,rfl,rfl,trivial⟩⟩
 rintro a3 w3 ⟨ha3,hs3⟩
 have hD:=hs3.pt (i:=7) rfl
 have hs4:=hs3.putObj (j:=7) (o':=.deferred none) rfl
 show Code.ret.wpIn Fence.wide 1 Tryz.prog _ _ _
 refine wpIn_ret ?_
 refine ⟨by simp,.inl ⟨_,_,rfl,run_takeDeferred hD,?_⟩⟩
 have h4:=ha3.slot 4 _ rfl
 refine ⟨.slice A s.length c,?_,.slice A s.length c,ρ',_,rfl,⟨s,A,c,hperm,rfl,rfl⟩,?_⟩
 ·simp [results,Tryz.f85,h4]
 ·exact hs4.sub ⟨rfl,rfl,rfl,trivial⟩
theorem collect_spec (cb pb : Nat) (pm : qcp) (hlen : pm.length ≤ 4096) : Spec Tryz.prog 52 #[kfn cb] (fun _=>True) [(0,capO cb pb),(1,qcn .u32 pb pm)]
  (fun ρ ρ' v L=>∃ s A c,s.Perm (keysV pm) ∧ v = .slice A s.length c ∧ L = [(0,capO cb pb),(1,qcn .u32 pb pm),(2,OwnS 24 1 A s.length c s)]):=by
 refine Spec.of 5 Tryz.func52 rfl Tryz.ntmps52 [(0,_)] rfl rfl ?_
 intro cx ρ hr h0
 refine Cd.seq fun K4 hK4=>?_
 refine Cd.qac [(0,false)] rfl rfl ?_
 refine Jp.y 2 rfl (qaa rfl) rfl rfl Kp.true (Y.assign rfl rfl) ?_
 refine Jp.qae hK4 ?_
 refine Cd.seq fun K5 hK5=>?_
 refine Cd.qac [(0,false),(1,false),(2,false)] rfl rfl ?_
 refine Jp.y 3 rfl (qaa rfl) rfl rfl Kp.true (Y.move rfl rfl) ?_
 refine Jp.call [0,1] [0,1,2] (appendSeq_spec cb pb pm hlen) 4 rfl (qaa rfl) rfl rfl (Runs.fn rfl call85 rfl) (by decide) (by decide) rfl trivial ?_
 rintro v1 ρ1 L1 ⟨s,A,c,hs,rfl,rfl⟩
 refine ⟨rfl,fun hle1=>⟨Kp.true,?_⟩⟩
 refine Jp.y 2 rfl (qaa rfl) rfl rfl Kp.true (Y.assign rfl rfl) ?_
 refine Jp.qae hK5 ?_
 refine Cd.ret [(0,_),(1,_),(2,_)] rfl (qbd rfl rfl) ⟨rfl,rfl,rfl,trivial⟩ ⟨s,A,c,hs,rfl,rfl⟩
theorem keys_spec (pb : Nat) : Spec Tryz.prog 63 #[.map (some pb)] (fun _=>True) [] (fun ρ ρ' v L=>ρ' = ρ ∧ ∃ cb,v = kfn cb ∧ L = [(0,capO cb pb)]):=by
 refine Spec.of 4 Tryz.func63 rfl Tryz.ntmps63 [(0,_)] rfl rfl ?_
 intro cx ρ hr h0
 refine Cd.seq fun K6 hK6=>?_
 refine Cd.qac [(0,false),(1,false)] rfl rfl ?_
 refine Jp.box 0 1 rfl (qaa rfl) rfl rfl rfl rfl fun b0=>⟨Kp.true,?_⟩
 refine Jp.y 2 rfl (qaa rfl) rfl rfl Kp.true (Y.assign rfl rfl) ?_
 refine Jp.qae hK6 ?_
 refine Cd.seq fun K7 hK7=>?_
 refine Cd.qac [(0,false),(1,false)] rfl rfl ?_
 refine Jp.y 3 rfl (qaa rfl) rfl rfl Kp.true (Y.makeFunc rfl rfl) ?_
 refine Jp.y 2 rfl (qaa rfl) rfl rfl Kp.true (Y.assign rfl rfl) ?_
 refine Jp.qae hK7 ?_
 refine Cd.ret [(0,_)] rfl (qbd rfl rfl) ⟨rfl,trivial⟩ ⟨rfl,b0,rfl,rfl⟩
end Go.Proofs.YtnfkalpgidiafaaGreat
set_option linter.unusedVariables false
set_option linter.unusedSimpArgs false
set_option maxRecDepth 100000
namespace Go.Proofs.YtnfkalpgidiafaaGreat
open _root_.Go.Proofs.Tryz
open Go
def ltN (x y : Nat) : Bool:=decide (x < y)
theorem isNaN_spec (x : Int) : Spec Tryz.prog 119 #[.int .u32 x] (fun _=>True) [] (fun ρ ρ' v L=>ρ' = ρ ∧ v = .bool false ∧ L = []):=by
 refine Spec.of 6 Tryz.func119 rfl Tryz.ntmps119 [(0,_)] rfl rfl ?_
 intro cx ρ hr h0
 refine Cd.seq fun K1 hK1=>?_
 refine Cd.qac [(0,false)] rfl rfl ?_
 refine Jp.y 2 rfl (qaa rfl) rfl rfl Kp.true (Y.assign rfl rfl) ?_
 refine Jp.qae hK1 ?_
 refine Cd.seq fun K2 hK2=>?_
 refine Cd.qac [(0,false),(1,false),(2,false),(3,false)] rfl rfl ?_
 refine Jp.y 3 rfl (qaa rfl) rfl rfl Kp.true (Y.move rfl rfl) ?_
 refine Jp.y 4 rfl (qaa rfl) rfl rfl Kp.true (Y.move rfl rfl) ?_
 refine Jp.y 5 rfl (qaa rfl) rfl rfl Kp.true (Y.neq rfl rfl rfl) ?_
 refine Jp.y 2 rfl (qaa rfl) rfl rfl Kp.true (Y.assign rfl rfl) ?_
 refine Jp.qae hK2 ?_
 refine Cd.ret [] rfl (qbd rfl rfl) trivial ⟨rfl,by simp,rfl⟩
theorem less_spec (x y : Nat) : Spec Tryz.prog 108 #[.int .u32 x,.int .u32 y] (fun _=>True) [] (fun ρ ρ' v L=>ρ' = ρ ∧ v = .bool (ltN x y) ∧ L = []):=by
 refine Spec.of 17 Tryz.func108 rfl Tryz.ntmps108 [(0,_),(1,_)] rfl rfl ?_
 intro cx ρ hr h0
 refine Cd.seq fun K3 hK3=>?_
 refine Cd.qac [(0,false)] rfl rfl ?_
 refine Jp.y 4 rfl (qaa rfl) rfl rfl Kp.true (Y.assign rfl rfl) ?_
 refine Jp.qae hK3 ?_
 refine Cd.seq fun K4 hK4=>?_
 refine Cd.qac [(0,false),(1,false),(2,false),(3,false),(4,false),(5,false),(6,false),(7,false),(8,false),(9,false),(10,false),(11,false),(12,false)] rfl rfl ?_
 refine Jp.y 5 rfl (qaa rfl) rfl rfl Kp.true (Y.move rfl rfl) ?_
 refine Jp.call [] [] (isNaN_spec x) 6 rfl (qaa rfl) rfl rfl (Runs.fn rfl call119 rfl) (by decide) (by decide) rfl trivial ?_
 rintro v1 ρ1 L1 ⟨rfl,rfl,rfl⟩
 refine ⟨rfl,fun hle1=>⟨Kp.true,?_⟩⟩
 refine Jp.y 7 rfl (qaa rfl) rfl rfl Kp.true (Y.move rfl rfl) ?_
 refine Jp.split 7 rfl (fun g7=>?_) (fun g7=>?_)
 ·skip
  cases g7
 try simp only [sG0] at g7
 refine Jp.qaq 8 rfl (qab rfl rfl rfl rfl) rfl rfl Kp.true ?_
 refine Jp.qaq 9 rfl (qab rfl rfl rfl rfl) rfl rfl Kp.true ?_
 refine Jp.qaq 10 rfl (qab rfl rfl rfl rfl) rfl rfl Kp.true ?_
 refine Jp.y 11 rfl (qaa rfl) rfl rfl Kp.true (Y.qay rfl rfl rfl) ?_
 refine Jp.y 12 rfl (qaa rfl) rfl rfl Kp.true (Y.move rfl rfl) ?_
 refine Jp.y 13 rfl (qab rfl rfl rfl rfl) rfl rfl Kp.true (Y.move rfl rfl) ?_
 refine Jp.y 14 rfl (qab rfl rfl rfl rfl) rfl rfl Kp.true (Y.move rfl rfl) ?_
 refine Jp.y 15 rfl (qab rfl rfl rfl rfl) rfl rfl Kp.true (Y.lss rfl rfl rfl) ?_
 refine Jp.y 16 rfl (qaa rfl) rfl rfl Kp.true (Y.qay rfl rfl rfl) ?_
 refine Jp.y 4 rfl (qaa rfl) rfl rfl Kp.true (Y.assign rfl rfl) ?_
 refine Jp.qae hK4 ?_
 refine Cd.ret [] rfl (qbd rfl rfl) trivial ⟨rfl,congrArg Value.bool (decide_eq_decide.2 (by omega)),rfl⟩
theorem natsV_get (k : IntKind) {l : List Nat} {q x : Nat} (h : l[q]? = some x) : (qbk k l)[q]? = some (.int k x):=by rw [qbk,List.getElem?_map,h]; rfl
theorem natsV_set (k : IntKind) (l : List Nat) (q x : Nat) : (qbk k l).set q (.int k x) = qbk k (l.set q x):=by rw [qbk,qbk,List.map_set]
theorem swp_list (d : Array Nat) {i j : Nat} (hi : i < d.size) (hj : j < d.size) : (Go.Sort.swp d i j).toList = (d.toList.set i d[j]).set j d[i]:=by
 simp [Go.Sort.swp,hi,hj]
theorem swp_size (d : Array Nat) (i j : Nat) : (Go.Sort.swp d i j).size = d.size:=by simp [Go.Sort.swp]
def rowO (A : Option Addr) (n c : Nat) (d : Array Nat) : qax:=OwnS 24 1 A n c (qbk .u32 d.toList)
theorem insSort_spec (A : Option Addr) (n c : Nat) (d0 : Array Nat) (a e : Nat) (hd : d0.size = n) (hae : a ≤ e) (hen : e ≤ n) (hn : n ≤ 4096) : Spec Tryz.prog 102 #[.slice A n c,.int .i64 a,.int .i64 e] (fun _=>True) [(0,rowO A n c d0)]
  (fun ρ ρ' v L=>ρ' = ρ ∧ v = .tuple #[] ∧ L = [(0,rowO A n c (Go.Sort.insertionSort ltN d0 a e))]):=by
 refine Spec.of 49 Tryz.func102 rfl Tryz.ntmps102 [(0,_),(1,_),(2,_)] rfl rfl ?_
 intro cx ρ hr h0
 refine Cd.seq fun K5 hK5=>?_
 refine Cd.qac [(0,false),(1,false),(2,false)] rfl rfl ?_
 refine Jp.y 8 rfl (qaa rfl) rfl rfl Kp.true (Y.move rfl rfl) ?_
 refine Jp.y 9 rfl (qaa rfl) rfl rfl Kp.true (Y.qcj rfl rfl rfl (by exact qaj (by omega) (by omega))) ?_
 refine Jp.y 6 rfl (qaa rfl) rfl rfl Kp.true (Y.assign rfl rfl) ?_
 refine Jp.qae hK5 ?_
 refine Cd.block ?_
 refine Cd.qdv (G:=Nat × Array Nat) (fun g=>Go.Sort.insOuter ltN a e g.1 g.2 = Go.Sort.insertionSort ltN d0 a e ∧ a + 1 ≤ g.1 ∧ g.1 ≤ e + 1 ∧ g.2.size = n) (fun g=>e + 1 - g.1) (fun _=>_) (fun g=>[(6,.int .i64 g.1)]) [(0,_),(1,_),(2,_)] (fun g=>[(0,rowO A n c g.2)]) [] ⟨a + 1,d0⟩ ⟨rfl,Nat.le_refl _,(by show a + 1 ≤ e + 1; omega),hd⟩ rfl ⟨rfl,trivial⟩ ⟨rfl,rfl,rfl,trivial⟩ ⟨rfl,trivial⟩ trivial (fun g KLa hok hLa=>?_)
 obtain ⟨i,d⟩:=g
 obtain ⟨ok1,ok2,ok3,ok4⟩:=hok
 dsimp only at ok1 ok2 ok3 ok4 ⊢
 refine Cd.seq fun K6 hK6=>?_
 refine Cd.seq fun K7 hK7=>?_
 refine Cd.qac [(0,false),(1,false),(2,false)] rfl rfl ?_
 refine Jp.y 10 rfl (qaa rfl) rfl rfl Kp.true (Y.move rfl rfl) ?_
 refine Jp.y 11 rfl (qaa rfl) rfl rfl Kp.true (Y.move rfl rfl) ?_
 refine Jp.y 12 rfl (qaa rfl) rfl rfl Kp.true (Y.lss rfl rfl rfl) ?_
 refine Jp.qae hK7 ?_
 refine Cd.qar rfl (fun ga=>?_) (fun ga=>?_)
 ·simp only [decide_eq_true_eq] at ga
  have hie : i < e:=by omega
  rw [Go.Sort.insOuter,if_pos hie] at ok1
  obtain ⟨d2,hd2⟩ : ∃ d2,d2 = Go.Sort.insInner ltN a i d:=⟨_,rfl⟩
  rw [← hd2] at ok1
  refine Cd.qbu hK6 ?_
  refine Cd.seq fun K8 hK8=>?_
  refine Cd.block ?_
  refine Cd.seq fun K9 hK9=>?_
  refine Cd.qac [(0,false),(1,false)] rfl rfl ?_
  refine Jp.y 15 rfl (qaa rfl) rfl rfl Kp.true (Y.move rfl rfl) ?_
  refine Jp.y 7 rfl (qaa rfl) rfl rfl Kp.true (Y.assign rfl rfl) ?_
  refine Jp.qae hK9 ?_
  refine Cd.block ?_
  refine Cd.qdv (G:=Nat × Array Nat) (fun g=>Go.Sort.insInner ltN a g.1 g.2 = d2 ∧ a ≤ g.1 ∧ g.1 ≤ i ∧ g.2.size = n) (fun g=>g.1) (fun _=>_) (fun g=>[(7,.int .i64 g.1)]) [(0,_),(1,_),(2,_),(6,_)] (fun g=>[(0,rowO A n c g.2)]) [] ⟨i,d⟩ ⟨hd2.symm,(by show a ≤ i; omega),Nat.le_refl _,ok4⟩ rfl ⟨rfl,trivial⟩ ⟨rfl,rfl,rfl,rfl,trivial⟩ ⟨rfl,trivial⟩ trivial (fun g KLb hok hLb=>?_)
  obtain ⟨j,dj⟩:=g
  obtain ⟨oj1,oj2,oj3,oj4⟩:=hok
  dsimp only at oj1 oj2 oj3 oj4 ⊢
  refine Cd.seq fun K10 hK10=>?_
  refine Cd.seq fun K11 hK11=>?_
  refine Cd.drawn [(0,_)] ⟨rfl,trivial⟩ [(0,true),(1,true),(2,true),(3,true),(4,true),(5,true),(6,true),(7,true),(8,true),(9,true),(10,true),(11,true),(12,true),(13,false),(14,true)] follows (by kernel_rfl) (fun hrl=>?_)
  refine Jp.q 16 rfl (qaa rfl) rfl rfl (Y.move rfl rfl) ?_
  refine Jp.q 17 rfl (qaa rfl) rfl rfl (Y.move rfl rfl) ?_
  refine Jp.q 18 rfl (qaa rfl) rfl rfl (Y.gtr rfl rfl rfl) ?_
  refine Jp.q 19 rfl (qaa rfl) rfl rfl (Y.move rfl rfl) ?_
  refine Jp.splitF 19 rfl (fun g19=>?_) (fun g19=>?_)
  ·skip
   try simp only [sG0] at g19
   have e1 : Go.Sort.insInner ltN a j dj = dj:=by
    cases j with
    | zero=>rfl
    | succ j=>rw [Go.Sort.insInner,if_neg (by simp; omega)]
   rw [e1] at oj1
   subst oj1
   refine Jp.qskip 20 rfl (qab rfl rfl rfl rfl) rfl rfl ?_
   refine Jp.qskip 21 rfl (qab rfl rfl rfl rfl) rfl rfl ?_
   refine Jp.qskip 22 rfl (qab rfl rfl rfl rfl) rfl rfl ?_
   refine Jp.qskip 23 rfl (qab rfl rfl rfl rfl) rfl rfl ?_
   refine Jp.qskip 24 rfl (qab rfl rfl rfl rfl) rfl rfl ?_
   refine Jp.qskip 25 rfl (qab rfl rfl rfl rfl) rfl rfl ?_
   refine Jp.qskip 26 rfl (qab rfl rfl rfl rfl) rfl rfl ?_
   refine Jp.qskip 27 rfl (qab rfl rfl rfl rfl) rfl rfl ?_
   refine Jp.qskip 28 rfl (qab rfl rfl rfl rfl) rfl rfl ?_
   refine Jp.qaq 29 rfl (qab rfl rfl rfl rfl) rfl rfl (Kp.st ⟨rfl,trivial⟩) ?_
   refine Jp.q 30 rfl (qaa rfl) rfl rfl (Y.qay rfl rfl rfl) ?_
   refine Jp.qae hK11 ?_
   refine Cd.qbz rfl ?_
   refine Cd.exit rfl hK8 ?_
   refine Cd.qac [(0,false),(1,false),(2,false)] rfl rfl ?_
   refine Jp.y 13 rfl (qaa rfl) rfl rfl Kp.true (Y.move rfl rfl) ?_
   refine Jp.y 14 rfl (qaa rfl) rfl rfl Kp.true (Y.qcj rfl rfl rfl (by exact qaj (by omega) (by omega))) ?_
   refine Jp.y 6 rfl (qaa rfl) rfl rfl Kp.true (Y.assign rfl rfl) ?_
   refine Jp.again hLa ⟨i + 1,dj⟩ ⟨ok1,by show a + 1 ≤ i + 1; omega,by show i + 1 ≤ e + 1; omega,oj4⟩ (by show e + 1 - (i + 1) < e + 1 - i; omega) rfl ⟨rfl,rfl,rfl,rfl,trivial⟩ ⟨rfl,trivial⟩
  try simp only [sG0] at g19
  refine Jp.q 20 rfl (qab rfl rfl rfl rfl) rfl rfl (Y.move rfl rfl) ?_
  obtain ⟨q,rfl⟩ : ∃ q,j = q + 1:=⟨j - 1,by omega⟩
  have hq1 : q + 1 < dj.size:=by omega
  have hq0 : q < dj.size:=by omega
  have v1 : dj.toList[q + 1]? = some dj[q + 1]:=by simp
  have v0 : dj.toList[q]? = some dj[q]:=by simp
  refine Jp.ownAt 0 rfl (show 0 < n by omega) ?_
  rintro b rfl
  have c1 : HasC (rowO (some ⟨b,0,none⟩) n c dj) _ _:=OwnS.hasC (natsV_get .u32 v1)
  have c0 : HasC (rowO (some ⟨b,0,none⟩) n c dj) _ _:=OwnS.hasC (natsV_get .u32 v0)
  have hin : Go.Sort.insInner ltN a (q + 1) dj = if (decide (q + 1 > a) && ltN dj[q + 1] dj[q]) = true then Go.Sort.insInner ltN a q (Go.Sort.swp dj (q + 1) q) else dj:=by
   rw [Go.Sort.insInner]
   simp [hq1,hq0]
  have hqa : decide (q + 1 > a) = true:=decide_eq_true (by omega)
  rw [hqa,Bool.true_and] at hin
  refine Jp.q 21 rfl (qab rfl rfl rfl rfl) rfl rfl (Y.move rfl rfl) ?_
  refine Jp.q 22 rfl (qab rfl rfl rfl rfl) rfl rfl (Y.qbr (q:=q + 1) rfl rfl rfl underlying22 sizeOf24 (by omega) (by omega) (by omega)) ?_
  refine Jp.q 23 rfl (qab rfl rfl rfl rfl) rfl rfl (by exact Y.qbg 0 rfl isAgg24 rfl rfl c1) ?_
  refine Jp.q 24 rfl (qab rfl rfl rfl rfl) rfl rfl (Y.move rfl rfl) ?_
  refine Jp.q 25 rfl (qab rfl rfl rfl rfl) rfl rfl (Y.move rfl rfl) ?_
  refine Jp.q 26 rfl (qab rfl rfl rfl rfl) rfl rfl (Y.qfm rfl rfl rfl (by exact qaj (by omega) (by omega))) ?_
  refine Jp.q 27 rfl (qab rfl rfl rfl rfl) rfl rfl (Y.qbr (q:=q) rfl rfl rfl underlying22 sizeOf24 (by omega) (by omega) (by omega)) ?_
  refine Jp.q 28 rfl (qab rfl rfl rfl rfl) rfl rfl (by exact Y.qbg 0 rfl isAgg24 rfl rfl c0) ?_
  refine Jp.call [] [] (less_spec dj[q + 1] dj[q]) 29 rfl (qab rfl rfl rfl rfl) rfl rfl (Runs.fn rfl call108 rfl) (by decide) (by decide) rfl trivial ?_
  rintro v1 ρ1 L1 ⟨rfl,rfl,rfl⟩
  refine ⟨rfl,fun hle1=>⟨(Kp.st ⟨rfl,trivial⟩),?_⟩⟩
  refine Jp.q 30 rfl (qaa rfl) rfl rfl (Y.qav rfl rfl rfl) ?_
  refine Jp.qae hK11 ?_
  refine Cd.qar rfl (fun gb=>?_) (fun gb=>?_)
  ·rw [gb,if_pos rfl] at hin
   refine Cd.qbu hK10 ?_
   refine Cd.seq fun K13 hK13=>?_
   refine Cd.block ?_
   refine Cd.drawn3 [(0,_)] ⟨rfl,trivial⟩ [(2,true),(3,true),(4,true)] [(0,true),(1,true),(5,true),(6,true),(7,true),(8,true),(9,true),(10,true),(11,true),(12,true),(13,true),(14,true)] 15 [(16,true),(17,false)] follows (by kernel_rfl) (fun hrl=>?_)
   refine Jp2.q 35 rfl (qaa rfl) rfl rfl (fun _=>(Y.move rfl rfl)) ?_
   refine Jp2.q 36 rfl (qaa rfl) rfl rfl (fun _=>(Y.move rfl rfl)) ?_
   refine Jp2.q 37 rfl (qaa rfl) rfl rfl (fun _=>(Y.qfm rfl rfl rfl (by exact qaj (by omega) (by omega)))) ?_
   refine Jp2.head ?_
   refine Jp.q 33 rfl (qaa rfl) rfl rfl (Y.move rfl rfl) ?_
   refine Jp.q 34 rfl (qaa rfl) rfl rfl (Y.move rfl rfl) ?_
   refine Jp.q 38 rfl (qaa rfl) rfl rfl (Y.move rfl rfl) ?_
   refine Jp.q 39 rfl (qaa rfl) rfl rfl (Y.move rfl rfl) ?_
   refine Jp.q 40 rfl (qaa rfl) rfl rfl (Y.qfm rfl rfl rfl (by exact qaj (by omega) (by omega))) ?_
   refine Jp.q 41 rfl (qaa rfl) rfl rfl (Y.qbr (q:=q) rfl rfl rfl underlying22 sizeOf24 (by omega) (by omega) (by omega)) ?_
   refine Jp.q 42 rfl (qaa rfl) rfl rfl (by exact Y.qbg 0 rfl isAgg24 rfl rfl c0) ?_
   refine Jp.q 43 rfl (qaa rfl) rfl rfl (Y.move rfl rfl) ?_
   refine Jp.q 44 rfl (qaa rfl) rfl rfl (Y.move rfl rfl) ?_
   refine Jp.q 45 rfl (qaa rfl) rfl rfl (Y.qbr (q:=q + 1) rfl rfl rfl underlying22 sizeOf24 (by omega) (by omega) (by omega)) ?_
   refine Jp.q 46 rfl (qaa rfl) rfl rfl (by exact Y.qbg 0 rfl isAgg24 rfl rfl c1) ?_
   refine Jp.q 47 rfl (qaa rfl) rfl rfl (Y.qbr (q:=q + 1) rfl rfl rfl underlying22 sizeOf24 (by omega) (by omega) (by omega)) ?_
   refine Jp2.tail ?_
   refine Jp2.loud ?_
   refine Jp.storeS 0 (q:=q + 1) rfl (qaa rfl) rfl rfl sizeOf24 rfl rfl rfl rfl rfl (by omega) (qbk .u32 (dj.toList.set (q + 1) dj[q])) (natsV_set _ _ _ _) Kp.true ?_
   refine Jp2.tail ?_
   refine Jp2.q 48 rfl (qaa rfl) rfl rfl (fun _=>(Y.qbr (q:=q) rfl rfl rfl underlying22 sizeOf24 (by omega) (by omega) (by omega))) ?_
   refine Jp2.loud ?_
   refine Jp.storeS 0 (q:=q) rfl (qaa rfl) rfl rfl sizeOf24 rfl rfl rfl rfl rfl (by omega) (qbk .u32 (Go.Sort.swp dj (q + 1) q).toList) (by rw [natsV_set,swp_list dj hq1 hq0]) Kp.true ?_
   refine Jp2.tail ?_
   refine Jp2.nil ?_
   refine Jp.over rfl hK13 ?_
   refine Cd.qac [(0,false),(1,false),(2,false)] rfl rfl ?_
   refine Jp.y 31 rfl (qaa rfl) rfl rfl Kp.true (Y.move rfl rfl) ?_
   refine Jp.y 32 rfl (qaa rfl) rfl rfl Kp.true (Y.qfm rfl rfl rfl (by exact qaj (by omega) (by omega))) ?_
   refine Jp.y 7 rfl (qaa rfl) rfl rfl Kp.true (Y.assign rfl rfl) ?_
   refine Jp.slot 7 rfl (congrArg (Value.int .i64) (show ((q + 1 : Nat) : Int) - 1 = (q : Int) by omega)) ?_
   refine Jp.again hLb ⟨q,Go.Sort.swp dj (q + 1) q⟩ ⟨by rw [← oj1,hin],by show a ≤ q; omega,by show q ≤ i; omega,by rw [swp_size]; exact oj4⟩ (by show q < q + 1; omega) rfl ⟨rfl,rfl,rfl,rfl,rfl,trivial⟩ ⟨rfl,trivial⟩
  ·rw [gb] at hin
   rw [if_neg (by simp)] at hin
   rw [hin] at oj1
   subst oj1
   refine Cd.exit rfl hK8 ?_
   refine Cd.qac [(0,false),(1,false),(2,false)] rfl rfl ?_
   refine Jp.y 13 rfl (qaa rfl) rfl rfl Kp.true (Y.move rfl rfl) ?_
   refine Jp.y 14 rfl (qaa rfl) rfl rfl Kp.true (Y.qcj rfl rfl rfl (by exact qaj (by omega) (by omega))) ?_
   refine Jp.y 6 rfl (qaa rfl) rfl rfl Kp.true (Y.assign rfl rfl) ?_
   refine Jp.again hLa ⟨i + 1,dj⟩ ⟨ok1,by show a + 1 ≤ i + 1; omega,by show i + 1 ≤ e + 1; omega,oj4⟩ (by show e + 1 - (i + 1) < e + 1 - i; omega) rfl ⟨rfl,rfl,rfl,rfl,trivial⟩ ⟨rfl,trivial⟩
 ·simp only [decide_eq_false_iff_not] at ga
  have : ¬ i < e:=by omega
  rw [Go.Sort.insOuter,if_neg this] at ok1
  subst ok1
  refine Cdx.end [(0,_)] rfl (res0 rfl) ⟨rfl,trivial⟩ ⟨rfl,rfl,rfl⟩
end Go.Proofs.YtnfkalpgidiafaaGreat

namespace Go.Proofs.YtnfkalpgidiafaaGreat
open _root_.Go.Proofs.Tryz
open Go
theorem Jp.tab {P : Program} {n : Nat} {cx : Cx} {ρ : Hp} {E : Env} {L : Own} {ops : Array Oper} {Q : Exit → Act → World → Prop} {S : World → Prop} {π : List (Nat × Bool)} (t : Nat) {s : ByteArray} {q : Nat} {h : q < s.size} (ht : look E t = some (.int .u8 ((s[q]'h).toNat : Int)))
  (hs : (str s).all (fun b=>decide (b.toNat ≤ 8)) = true) (hk : ∀ k : Nat,k ≤ 8 → Jp P ops Q S n cx π ρ ((t,.int .u8 k) :: E) L) : Jp P ops Q S n cx π ρ E L:=by
 have h1 : (s[q]'h).toNat ≤ 8:=by
  have := List.all_eq_true.1 hs (s[q]'h) (by
   have : s[q]'h = (str s)[q]'(by rw [← str_size]; exact h):=by simp [str]; rfl
   rw [this]; exact List.getElem_mem _)
  exact of_decide_eq_true this
 exact Jp.slot t ht rfl (hk _ h1)
theorem len64_spec (x : Nat) (hx : x ≤ 4096) : Spec Tryz.prog 112 #[.int .u64 x] (fun _=>True) [] (fun ρ ρ' v L=>ρ' = ρ ∧ (∃ k : Nat,k ≤ 64 ∧ v = .int .i64 k) ∧ L = []):=by
 refine Spec.of 25 Tryz.func112 rfl Tryz.ntmps112 [(0,_)] rfl rfl ?_
 intro cx ρ hr h0
 refine Cd.seq fun K1 hK1=>?_
 refine Cd.qac [(0,false)] rfl rfl ?_
 refine Jp.y 2 rfl (qaa rfl) rfl rfl Kp.true (Y.assign rfl rfl) ?_
 refine Jp.qae hK1 ?_
 refine Cd.seq fun K2 hK2=>?_
 refine Cd.seq fun K3 hK3=>?_
 refine Cd.qac [(0,false),(1,false)] rfl rfl ?_
 refine Jp.y 3 rfl (qaa rfl) rfl rfl Kp.true (Y.move rfl rfl) ?_
 refine Jp.y 4 rfl (qaa rfl) rfl rfl Kp.true (Y.geq rfl rfl rfl) ?_
 refine Jp.qae hK3 ?_
 refine Cd.qar rfl (fun g4=>?_) (fun g4=>?_)
 ·skip
  exact absurd g4 (by simp; omega)
 try simp only [sG0] at g4
 refine Cd.qbu hK2 ?_
 refine Cd.seq fun K4 hK4=>?_
 refine Cd.seq fun K5 hK5=>?_
 refine Cd.qac [(0,false),(1,false)] rfl rfl ?_
 refine Jp.y 7 rfl (qaa rfl) rfl rfl Kp.true (Y.move rfl rfl) ?_
 refine Jp.y 8 rfl (qaa rfl) rfl rfl Kp.true (Y.geq rfl rfl rfl) ?_
 refine Jp.qae hK5 ?_
 refine Cd.qar rfl (fun g8=>?_) (fun g8=>?_)
 ·skip
  exact absurd g8 (by simp; omega)
 try simp only [sG0] at g8
 refine Cd.qbu hK4 ?_
 refine Cd.seq fun K6 hK6=>?_
 refine Cd.seq fun K7 hK7=>?_
 refine Cd.qac [(0,false),(1,false)] rfl rfl ?_
 refine Jp.y 13 rfl (qaa rfl) rfl rfl Kp.true (Y.move rfl rfl) ?_
 refine Jp.y 14 rfl (qaa rfl) rfl rfl Kp.true (Y.geq rfl rfl rfl) ?_
 refine Jp.qae hK7 ?_
 refine Cd.qgm (G:=Nat × Nat) (fun g=>g.1 < 256 ∧ g.2 ≤ 8) (fun g=>[(0,.int .u64 g.1),(2,.int .i64 g.2)]) [] trivial (fun _=>[]) [] trivial hK6 (fun g hφ=>?_) (fun hj1=>?_)
 ·obtain ⟨y,k0⟩:=g
  obtain ⟨hy,hk0⟩:=hφ
  dsimp only at hy hk0 ⊢
  refine Cd.seq fun K8 hK8=>?_
  refine Cd.qac [(0,false),(1,false),(2,false),(3,false),(4,false),(5,false),(6,false)] rfl rfl ?_
  refine Jp.y 19 rfl (qaa rfl) rfl rfl Kp.true (Y.move rfl rfl) ?_
  refine Jp.y 20 rfl (qaa rfl) rfl rfl Kp.true (Y.move rfl rfl) ?_
  refine Jp.y 21 rfl (qaa rfl) rfl rfl Kp.true (Y.qaw rfl rfl underlying103 underlying5 (by exact wrap_u8 (by omega) (by omega))) ?_
  refine Jp.y 22 rfl (qaa rfl) rfl rfl Kp.true (Y.indexstr (q:=y) rfl underlying9 rfl rfl (by omega) (by show (y : Int) < ((256 : Nat) : Int); omega) (by omega)) ?_
  refine Jp.tab 22 rfl (by kernel_rfl) fun k hk=>?_
  refine Jp.y 23 rfl (qaa rfl) rfl rfl Kp.true (Y.qaw rfl rfl underlying5 underlying3 (by exact qaj (by omega) (by omega))) ?_
  refine Jp.y 24 rfl (qaa rfl) rfl rfl Kp.true (Y.qcj rfl rfl rfl (by exact qaj (by omega) (by omega))) ?_
  refine Jp.y 2 rfl (qaa rfl) rfl rfl Kp.true (Y.assign rfl rfl) ?_
  refine Jp.qae hK8 ?_
  refine Cd.ret [] rfl (qbd rfl rfl) trivial ⟨rfl,⟨k0 + k,by omega,by simp⟩,rfl⟩
 ·skip
  refine Cd.qar rfl (fun ga=>?_) (fun ga=>?_)
  ·simp only [decide_eq_true_eq] at ga
   refine Cd.seq fun K9 hK9=>?_
   refine Cd.qac [(0,false),(1,false),(2,false)] rfl rfl ?_
   refine Jp.y 15 rfl (qaa rfl) rfl rfl Kp.true (Y.move rfl rfl) ?_
   refine Jp.y 16 rfl (qaa rfl) rfl rfl Kp.true (Y.shr rfl rfl rfl (by first | decide | omega)) ?_
   refine Jp.slot 16 rfl (show _ = Value.int .u64 ((x / 256 : Nat) : Int) by rw [Int.fdiv_eq_ediv_of_nonneg _ (by decide)]; exact congrArg (Value.int .u64) (show (x : Int) / 256 = ((x / 256 : Nat) : Int) by omega)) ?_
   refine Jp.y 0 rfl (qaa rfl) rfl rfl Kp.true (Y.assign rfl rfl) ?_
   refine Jp.qae hK9 ?_
   refine Cd.qac [(0,false),(1,false),(2,false)] rfl rfl ?_
   refine Jp.y 17 rfl (qaa rfl) rfl rfl Kp.true (Y.move rfl rfl) ?_
   refine Jp.y 18 rfl (qaa rfl) rfl rfl Kp.true (Y.qcj rfl rfl rfl (by exact qaj (by omega) (by omega))) ?_
   refine Jp.y 2 rfl (qaa rfl) rfl rfl Kp.true (Y.assign rfl rfl) ?_
   refine Jp.qae hK6 ?_
   exact Cd.qcz (hj1 ⟨x / 256,8⟩ ⟨by show x / 256 < 256; omega,Nat.le_refl _⟩) ⟨rfl,rfl,trivial⟩ trivial
  ·simp only [decide_eq_false_iff_not] at ga
   refine Cd.qbu hK6 ?_
   exact Cd.qcz (hj1 ⟨x,0⟩ ⟨by show x < 256; omega,Nat.zero_le _⟩) ⟨rfl,rfl,trivial⟩ trivial
theorem len_spec (x : Nat) (hx : x ≤ 4096) : Spec Tryz.prog 87 #[.int .u64 x] (fun _=>True) [] (fun ρ ρ' v L=>ρ' = ρ ∧ (∃ k : Nat,k ≤ 64 ∧ v = .int .i64 k) ∧ L = []):=by
 refine Spec.of 8 Tryz.func87 rfl Tryz.ntmps87 [(0,_)] rfl rfl ?_
 intro cx ρ hr h0
 refine Cd.seq fun K10 hK10=>?_
 refine Cd.qac [(0,false)] rfl rfl ?_
 refine Jp.y 2 rfl (qaa rfl) rfl rfl Kp.true (Y.assign rfl rfl) ?_
 refine Jp.qae hK10 ?_
 refine Cd.seq fun K11 hK11=>?_
 refine Cd.qbz rfl ?_
 refine Cd.qbu hK11 ?_
 refine Cd.seq fun K12 hK12=>?_
 refine Cd.qac [(0,false),(1,false),(2,false)] rfl rfl ?_
 refine Jp.y 6 rfl (qaa rfl) rfl rfl Kp.true (Y.move rfl rfl) ?_
 refine Jp.call [] [] (len64_spec x hx) 7 rfl (qaa rfl) rfl rfl (Runs.fn rfl call112 rfl) (by decide) (by decide) rfl trivial ?_
 rintro v1 ρ1 L1 ⟨rfl,⟨k,hk,rfl⟩,rfl⟩
 refine ⟨rfl,fun hle1=>⟨Kp.true,?_⟩⟩
 refine Jp.y 2 rfl (qaa rfl) rfl rfl Kp.true (Y.assign rfl rfl) ?_
 refine Jp.qae hK12 ?_
 refine Cd.ret [] rfl (qbd rfl rfl) trivial ⟨rfl,⟨k,hk,rfl⟩,rfl⟩
theorem pdqSmall_spec (A : Option Addr) (n c : Nat) (d0 : Array Nat) (lim : Int) (hd : d0.size = n) (hn : n ≤ 12) : Spec Tryz.prog 86 #[.slice A n c,.int .i64 0,.int .i64 n,.int .i64 lim] (fun _=>True) [(0,rowO A n c d0)]
  (fun ρ ρ' v L=>ρ' = ρ ∧ v = .tuple #[] ∧ L = [(0,rowO A n c (Go.Sort.insertionSort ltN d0 0 n))]):=by
 refine Spec.of 134 Tryz.func86 rfl Tryz.ntmps86 [(0,_),(1,_),(2,_),(3,_)] rfl rfl ?_
 intro cx ρ hr h0
 refine Cd.seq fun K13 hK13=>?_
 refine Cd.qac [(0,false)] rfl rfl ?_
 refine Jp.y 8 rfl (qaa rfl) rfl rfl Kp.true (Y.assign rfl rfl) ?_
 refine Jp.qae hK13 ?_
 refine Cd.seq fun K14 hK14=>?_
 refine Cd.qac [(0,false)] rfl rfl ?_
 refine Jp.y 9 rfl (qaa rfl) rfl rfl Kp.true (Y.assign rfl rfl) ?_
 refine Jp.qae hK14 ?_
 refine Cd.block ?_
 refine Cd.qdv (G:=Unit) (fun _=>True) (fun _=>0) (fun _=>_) (fun _=>[]) [(0,_),(1,_),(2,_),(3,_),(8,_),(9,_)] (fun _=>[]) [(0,_)] () trivial rfl trivial ⟨rfl,rfl,rfl,rfl,rfl,rfl,trivial⟩ trivial ⟨rfl,trivial⟩ (fun g KLa hok hLa=>?_)
 refine Cd.block ?_
 refine Cd.seq fun K15 hK15=>?_
 refine Cd.qac [(0,false),(1,false),(2,false),(3,false)] rfl rfl ?_
 refine Jp.y 19 rfl (qaa rfl) rfl rfl Kp.true (Y.move rfl rfl) ?_
 refine Jp.y 20 rfl (qaa rfl) rfl rfl Kp.true (Y.move rfl rfl) ?_
 refine Jp.y 21 rfl (qaa rfl) rfl rfl Kp.true (Y.qfm rfl rfl rfl (by exact qaj (by omega) (by omega))) ?_
 refine Jp.y 10 rfl (qaa rfl) rfl rfl Kp.true (Y.assign rfl rfl) ?_
 refine Jp.qae hK15 ?_
 refine Cd.seq fun K16 hK16=>?_
 refine Cd.seq fun K17 hK17=>?_
 refine Cd.qac [(0,false),(1,false)] rfl rfl ?_
 refine Jp.y 22 rfl (qaa rfl) rfl rfl Kp.true (Y.move rfl rfl) ?_
 refine Jp.y 23 rfl (qaa rfl) rfl rfl Kp.true (Y.leq rfl rfl rfl) ?_
 refine Jp.qae hK17 ?_
 refine Cd.qar rfl (fun ga=>?_) (fun ga=>?_)
 ·skip
  refine Cd.seq fun K18 hK18=>?_
  refine Cd.qac [(0,false),(1,false),(2,false),(3,false)] rfl rfl ?_
  refine Jp.y 24 rfl (qaa rfl) rfl rfl Kp.true (Y.move rfl rfl) ?_
  refine Jp.y 25 rfl (qaa rfl) rfl rfl Kp.true (Y.move rfl rfl) ?_
  refine Jp.y 26 rfl (qaa rfl) rfl rfl Kp.true (Y.move rfl rfl) ?_
  refine Jp.call [0] [0] (insSort_spec A n c d0 0 n hd (Nat.zero_le _) (Nat.le_refl _) (by omega)) 27 rfl (qaa rfl) rfl rfl (Runs.fn rfl call102 rfl) (by decide) (by decide) rfl trivial ?_
  rintro v1 ρ1 L1 ⟨rfl,rfl,rfl⟩
  refine ⟨rfl,fun hle1=>⟨Kp.true,?_⟩⟩
  refine Jp.qae hK18 ?_
  refine Cd.ret [(0,_)] rfl (res0 rfl) ⟨rfl,trivial⟩ ⟨rfl,rfl,rfl⟩
 ·exact absurd ga (by simp; omega)
theorem sortSmall_spec (A : Option Addr) (n c : Nat) (d0 : Array Nat) (hd : d0.size = n) (hn : n ≤ 12) : Spec Tryz.prog 53 #[.slice A n c] (fun _=>True) [(0,rowO A n c d0)]
  (fun ρ ρ' v L=>ρ' = ρ ∧ v = .tuple #[] ∧ L = [(0,rowO A n c (Go.Sort.insertionSort ltN d0 0 n))]):=by
 refine Spec.of 11 Tryz.func53 rfl Tryz.ntmps53 [(0,_)] rfl rfl ?_
 intro cx ρ hr h0
 refine Cd.seq fun K19 hK19=>?_
 refine Cd.qac [(0,false),(1,false),(2,false)] rfl rfl ?_
 refine Jp.y 3 rfl (qaa rfl) rfl rfl Kp.true (Y.move rfl rfl) ?_
 refine Jp.y 4 rfl (qaa rfl) rfl rfl Kp.true (Y.qbq rfl underlying22 rfl) ?_
 refine Jp.y 2 rfl (qaa rfl) rfl rfl Kp.true (Y.assign rfl rfl) ?_
 refine Jp.qae hK19 ?_
 refine Cd.qac [(0,false),(1,false),(2,false),(3,false),(4,false),(5,false)] rfl rfl ?_
 refine Jp.y 5 rfl (qaa rfl) rfl rfl Kp.true (Y.move rfl rfl) ?_
 refine Jp.y 6 rfl (qaa rfl) rfl rfl Kp.true (Y.move rfl rfl) ?_
 refine Jp.y 7 rfl (qaa rfl) rfl rfl Kp.true (Y.move rfl rfl) ?_
 refine Jp.y 8 rfl (qaa rfl) rfl rfl Kp.true (Y.qaw rfl rfl underlying3 underlying64 (by exact qbh (by omega) (by omega))) ?_
 refine Jp.call [] [] (len_spec n (by omega)) 9 rfl (qaa rfl) rfl rfl (Runs.fn rfl call87 rfl) (by decide) (by decide) rfl trivial ?_
 rintro v1 ρ1 L1 ⟨rfl,⟨k,hk,rfl⟩,rfl⟩
 refine ⟨rfl,fun hle1=>⟨Kp.true,?_⟩⟩
 refine Jp.call [0] [0] (pdqSmall_spec A n c d0 k hd hn) 10 rfl (qaa rfl) rfl rfl (Runs.fn rfl call86 rfl) (by decide) (by decide) rfl trivial ?_
 rintro v2 ρ2 L2 ⟨rfl,rfl,rfl⟩
 refine ⟨rfl,fun hle2=>⟨Kp.true,?_⟩⟩
 refine Jp.end [(0,_)] rfl (res0 rfl) ⟨rfl,trivial⟩ ⟨rfl,rfl,rfl⟩
end Go.Proofs.YtnfkalpgidiafaaGreat
set_option linter.unusedVariables false
set_option linter.unusedSimpArgs false
set_option maxRecDepth 100000
namespace Go.Proofs.YtnfkalpgidiafaaGreat
open _root_.Go.Proofs.Tryz
open Go
theorem swoN : Go.Sort.SWO ltN:=⟨fun x=>by simp [ltN],fun x y z h1 h2=>by simp [ltN] at *; omega,fun x y z h1 h2=>by simp [ltN] at *; omega⟩
theorem sorted_le {r : Array Nat} (hs : Go.Sort.SortedIn ltN 0 r.size r) : r.toList.Pairwise (· ≤ ·):=by
 rw [List.pairwise_iff_getElem]
 intro i j hi hj hij
 have hj' : j < r.size:=by simpa using hj
 have:=hs i j (Nat.zero_le _) hij hj'
 have hi' : i < r.size:=by omega
 simp only [ltN,getElem!_pos r i hi',getElem!_pos r j hj',decide_eq_false_iff_not] at this
 simp; omega
theorem sorted_is {r : Array Nat} {s K : List Nat} (hp : r.toList.Perm s) (hs : Go.Sort.SortedIn ltN 0 r.size r) (hk : s.Perm K) (hK : K.Pairwise (· < ·)) : r.toList = K :=
 List.Perm.eq_of_pairwise (le:=(· ≤ ·)) (fun a b _ _ h1 h2=>by omega) (sorted_le hs) (hK.imp fun h=>Nat.le_of_lt h) (hp.trans hk)
theorem permIn_perm {d r : Array Nat} (h : Go.Sort.PermIn 0 d.size d r) : r.size = d.size ∧ r.toList.Perm d.toList:=by
 obtain ⟨h1,_,h3⟩:=h
 refine ⟨h1,?_⟩
 have e1 : (r.extract 0 d.size).toList = r.toList:=by rw [← h1]; simp
 have e2 : (d.extract 0 d.size).toList = d.toList:=by simp
 rw [e1,e2] at h3; exact h3
def SortsTo (n : Nat) : Prop:=∀ (A : Option Addr) (c : Nat) (d : Array Nat),d.size = n → Spec Tryz.prog 53 #[.slice A n c] (fun _=>True) [(0,rowO A n c d)]
  (fun ρ ρ' v L=>ρ' = ρ ∧ v = .tuple #[] ∧ ∃ r : Array Nat,r.toList.Perm d.toList ∧ Go.Sort.SortedIn ltN 0 r.size r ∧ L = [(0,rowO A n c r)])
theorem sorts12 (n : Nat) (hn : n ≤ 12) : SortsTo n:=fun A c d hd=>by
 refine (sortSmall_spec A n c d hd hn).mono (fun _ h=>h) ?_
 rintro ρ ρ' v L ⟨rfl,rfl,rfl⟩
 obtain ⟨h1,h2⟩:=Go.Sort.insertionSort_holds swoN d 0 n (Nat.zero_le _) (by omega)
 obtain ⟨h3,h4⟩:=permIn_perm (by rw [hd]; exact h1)
 exact ⟨rfl,rfl,_,h4,by rw [h3,hd]; exact h2,rfl⟩
theorem natsV_inj {s : List Value} (h : ∀ v ∈ s,∃ x : Nat,v = .int .u32 x) : ∃ l : List Nat,s = qbk .u32 l:=by
 induction s with
 | nil=>exact ⟨[],rfl⟩
 | cons v s ih =>
  obtain ⟨x,rfl⟩:=h v (by simp)
  obtain ⟨l,rfl⟩:=ih fun v hv=>h v (List.mem_cons_of_mem _ hv)
  exact ⟨x :: l,rfl⟩
theorem natsV_perm {l K : List Nat} (h : (qbk .u32 l).Perm (qbk .u32 K)) : l.Perm K:=by
 have h2:=h.map fun v=>match v with | .int _ x=>x.toNat | _=>0
 simpa [qbk,List.map_map,Function.comp_def] using h2
theorem sorted_spec (cb pb : Nat) (pm : qcp) (K : List Nat) (hK : K.Pairwise (· < ·)) (hp : (pm.map (·.1)).Perm (K.map fun k : Nat=>(k : Int))) (hlen : pm.length ≤ 4096) (hsort : SortsTo pm.length) : Spec Tryz.prog 24 #[kfn cb] (fun _=>True) [(0,capO cb pb),(1,qcn .u32 pb pm)]
  (fun ρ ρ' v L=>∃ A c,v = .slice A K.length c ∧ L = [(0,capO cb pb),(1,qcn .u32 pb pm),(2,OwnS 24 1 A K.length c (qbk .u32 K))]):=by
 refine Spec.of 9 Tryz.func24 rfl Tryz.ntmps24 [(0,_)] rfl rfl ?_
 intro cx ρ hr h0
 have hkeys : (keysV pm).Perm (qbk .u32 K):=by
  have:=hp.map fun x : Int=>Value.int .u32 x
  simpa [keysV,qbk,List.map_map,Function.comp_def] using this
 have hKl : K.length = pm.length:=by have:=hp.length_eq; simpa using this.symm
 refine Cd.seq fun K1 hK1=>?_
 refine Cd.qac [(0,false)] rfl rfl ?_
 refine Jp.y 2 rfl (qaa rfl) rfl rfl Kp.true (Y.assign rfl rfl) ?_
 refine Jp.qae hK1 ?_
 refine Cd.seq fun K2 hK2=>?_
 refine Cd.qac [(0,false),(1,false),(2,false)] rfl rfl ?_
 refine Jp.y 4 rfl (qaa rfl) rfl rfl Kp.true (Y.move rfl rfl) ?_
 refine Jp.call [0,1] [0,1,2] (collect_spec cb pb pm hlen) 5 rfl (qaa rfl) rfl rfl (Runs.fn rfl call52 rfl) (by decide) (by decide) rfl trivial ?_
 rintro v1 ρ1 L1 ⟨s,A,c,hs,rfl,rfl⟩
 refine ⟨rfl,fun hle1=>⟨Kp.true,?_⟩⟩
 obtain ⟨l,rfl⟩:=natsV_inj (s:=s) fun v hv=>by
  obtain ⟨x,_,rfl⟩:=List.mem_map.1 ((hs.trans hkeys).mem_iff.1 hv)
  exact ⟨x,rfl⟩
 have hperm:=natsV_perm (hs.trans hkeys)
 have hsl : (qbk .u32 l).length = K.length:=by rw [qbk,List.length_map]; exact hperm.length_eq
 have hll : l.length = pm.length:=by rw [← hKl]; exact hperm.length_eq
 rw [hsl,hKl]
 refine Jp.y 3 rfl (qaa rfl) rfl rfl Kp.true (Y.assign rfl rfl) ?_
 refine Jp.qae hK2 ?_
 refine Cd.seq fun K3 hK3=>?_
 refine Cd.qac [(0,false),(1,false)] rfl rfl ?_
 refine Jp.imp (j:=2) rfl (fun h hh=>(show rowO A pm.length c l.toArray h from hh)) ?_
 refine Jp.y 6 rfl (qaa rfl) rfl rfl Kp.true (Y.move rfl rfl) ?_
 refine Jp.call [2] [2] (hsort A c l.toArray (by simpa using hll)) 7 rfl (qaa rfl) rfl rfl (Runs.fn rfl call53 rfl) (by decide) (by decide) rfl trivial ?_
 rintro v2 ρ2 L2 ⟨rfl,rfl,r,hr1,hr2,rfl⟩
 refine ⟨rfl,fun hle2=>⟨Kp.true,?_⟩⟩
 have hrK : r.toList = K:=sorted_is hr1 hr2 (by simpa using hperm) hK
 refine Jp.qae hK3 ?_
 refine Cd.seq fun K4 hK4=>?_
 refine Cd.qac [(0,false),(1,false)] rfl rfl ?_
 refine Jp.y 8 rfl (qaa rfl) rfl rfl Kp.true (Y.move rfl rfl) ?_
 refine Jp.y 2 rfl (qaa rfl) rfl rfl Kp.true (Y.assign rfl rfl) ?_
 refine Jp.qae hK4 ?_
 refine Cd.imp (i:=2) rfl (fun h hh=>(show OwnS 24 1 A pm.length c (qbk .u32 K) h by rw [← hrK]; exact hh)) ?_
 refine Cd.ret [(0,_),(1,_),(2,_)] rfl (qbd rfl rfl) ⟨rfl,rfl,rfl,trivial⟩ ⟨A,c,by rw [hKl],by rw [hKl]⟩
end Go.Proofs.YtnfkalpgidiafaaGreat
set_option linter.unusedVariables false
set_option linter.unusedSimpArgs false
set_option maxRecDepth 100000
namespace Go.Proofs.YtnfkalpgidiafaaGreat
open _root_.Go.Proofs.Tryz
open Go
end Go.Proofs.YtnfkalpgidiafaaGreat
set_option linter.unusedVariables false
set_option linter.unusedSimpArgs false
set_option maxRecDepth 100000
namespace Go.Proofs.YtnfkalpgidiafaaGreat
open _root_.Go.Proofs.Tryz
open Go
theorem pages_spec (b : Nat) (M : MemG) (hsort : SortsTo M.pages.length) : Spec Tryz.prog 29 #[.pointer (some ⟨b,0,none⟩)] (fun _=>True) [(0,qew b M)]
  (fun ρ ρ' v L=>∃ A c,v = .slice A M.pages.length c ∧ L = [(0,qew b M),(1,OwnS 24 1 A M.pages.length c (qbk .u32 (M.pages.map (·.1))))]):=by
 refine Spec.of 9 Tryz.func29 rfl Tryz.ntmps29 [(0,_)] rfl rfl ?_
 intro cx ρ hr h0
 refine Cd.memOpen 0 5 6 7 (by decide) rfl fun x hf=>?_
 have hlen:=hf.pages.length_eq
 rw [List.length_map] at hlen
 have hroom:=hf.ok.room
 have hbud:=hf.ok.budget.2
 have hrise : (M.pages.map (·.1)).Pairwise (· < ·):=by rw [List.pairwise_map]; exact hf.ok.rising
 have hp : (x.pm.map (·.1)).Perm ((M.pages.map (·.1)).map fun k : Nat=>(k : Int)):=by
  have h1:=hf.pages.map (·.1)
  rw [List.map_map] at h1
  rw [List.map_map]
  exact h1
 have hs2 : SortsTo x.pm.length:=by rw [hlen]; exact hsort
 dsimp only [qcx]
 refine Cd.seq fun K1 hK1=>?_
 refine Cd.qac [(0,false)] rfl rfl ?_
 refine Jp.y 2 rfl (qaa rfl) rfl rfl Kp.true (Y.assign rfl rfl) ?_
 refine Jp.qae hK1 ?_
 refine Cd.seq fun K2 hK2=>?_
 refine Cd.qac [(0,false),(1,false),(2,false),(3,false),(4,false),(5,false),(6,false)] rfl rfl ?_
 refine Jp.y 3 rfl (qaa rfl) rfl rfl Kp.true (Y.move rfl rfl) ?_
 refine Jp.y 4 rfl (qaa rfl) rfl rfl Kp.true (Y.qan rfl rfl) ?_
 refine Jp.y 5 rfl (qaa rfl) rfl rfl Kp.true (by exact Y.qad rfl rfl underlying102 rfl sizeOf99 (by decide) (show _ + 1 = _ from rfl)) ?_
 refine Jp.y 6 rfl (qaa rfl) rfl rfl Kp.true (Y.qau 0 rfl isAgg99 rfl rfl rfl) ?_
 refine Jp.call [] [8] (keys_spec x.pb) 7 rfl (qaa rfl) rfl rfl (Runs.fn rfl call63 rfl) (by decide) (by decide) rfl trivial ?_
 rintro v1 ρ1 L1 ⟨rfl,cb,rfl,rfl⟩
 refine ⟨rfl,fun hle1=>⟨Kp.true,?_⟩⟩
 refine Jp.call [8,5] [8,5,1] (sorted_spec cb x.pb x.pm (M.pages.map (·.1)) hrise hp (by omega) hs2) 8 rfl (qaa rfl) rfl rfl (Runs.fn rfl call24 rfl) (by decide) (by decide) rfl trivial ?_
 rintro v2 ρ2 L2 ⟨A,c,rfl,rfl⟩
 refine ⟨rfl,fun hle2=>⟨Kp.true,?_⟩⟩
 rw [List.length_map]
 refine Jp.y 2 rfl (qaa rfl) rfl rfl Kp.true (Y.assign rfl rfl) ?_
 refine Jp.qae hK2 ?_
 refine Cd.memClose (b:=b) (x:=x) 0 5 6 7 (by decide) hf rfl rfl rfl rfl ?_
 refine Cd.ret [(0,_),(1,_)] rfl (qbd rfl rfl) ⟨rfl,rfl,trivial⟩ ⟨A,c,rfl,rfl⟩
end Go.Proofs.YtnfkalpgidiafaaGreat

namespace Go.Proofs.YtnfkalpgidiafaaGreat
open _root_.Go.Proofs.Tryz
open Go
theorem memO_okM {b : Nat} {M : MemG} : ∀ h,qew b M h → MemOk M:=fun h ⟨x,hf,_⟩=>hf.ok
theorem may_zero {p : Nat} (h : p ≤ 7) : may p 0 = true:=by
 have : p = 0 ∨ p = 1 ∨ p = 2 ∨ p = 3 ∨ p = 4 ∨ p = 5 ∨ p = 6 ∨ p = 7:=by omega
 rcases this with rfl | rfl | rfl | rfl | rfl | rfl | rfl | rfl <;> rfl
theorem load_byteM {M : MemG} (h : MemOk M) {y : Nat × Pg} (hy : y ∈ M.pages) {k : Nat} (hk : k < 256) : qdq M (y.1 + k) 1 0 = ((y.2.b.getD k 0).toNat,0):=by
 have hp:=h.page y hy
 have hal:=hp.al
 have hlen:=hp.len
 have hg : qao M.pages y.1 = some y.2:=qcd h.rising.nodup hy
 have hb : qap (y.1 + k) = y.1:=by unfold qap; omega
 have hl : qcv M (y.1 + k) 1 0 = 0:=by
  rw [qcv,if_neg (by simp [qdy]),hb,hg]
  dsimp only
  rw [may_zero hp.perm,if_pos rfl]
 rw [qdq,if_pos hl,hb,hg]
 dsimp only
 rw [show (y.1 + k) % 256 = k by omega,show (1 : Int).toNat = 1 from rfl,List.drop_eq_getElem_cons (show k < y.2.b.length by omega),List.take_succ_cons,List.take_zero]
 rw [List.getD_eq_getElem?_getD,List.getElem?_eq_getElem (show k < y.2.b.length by omega)]
 rfl
theorem perm_of {M : MemG} (h : MemOk M) {y : Nat × Pg} (hy : y ∈ M.pages) : permM M y.1 = ((y.2.perm : Int),true):=by
 have hg : qao M.pages y.1 = some y.2:=qcd h.rising.nodup hy
 have hal:=(h.page y hy).al
 rw [permM,show qap y.1 = y.1 by unfold qap; omega,hg]
def partB (b : qal) (k : Nat) : qal:=b.take k ++ List.replicate (256 - k) 0
theorem partB_len {b : qal} (h : b.length = 256) {k : Nat} (hk : k ≤ 256) : (partB b k).length = 256:=by simp [partB,h]; omega
theorem partB_all {b : qal} (h : b.length = 256) : partB b 256 = b:=by simp [partB,← h]
theorem partB_set {b : qal} (h : b.length = 256) {k : Nat} (hk : k < 256) : (partB b k).set k (b.getD k 0) = partB b (k + 1):=by
 unfold partB
 rw [List.set_append_right _ _ (by rw [List.length_take]; omega),List.length_take,Nat.min_eq_left (by omega),Nat.sub_self]
 rw [show 256 - k = (256 - (k + 1)) + 1 by omega,List.replicate_succ,List.set_cons_zero,List.getD_eq_getElem?_getD,List.getElem?_eq_getElem (by omega : k < b.length)]
 rw [← List.take_append_getElem (by omega : k < b.length),List.append_assoc]
 rfl
theorem refPg_setByte {x : Nat × Pg} (h : x.2.b.length = 256) {j : Nat} (hj : j < 256) (u : UInt8) : (qcf x).toArray.setIfInBounds (2 + j) (.int .u8 (u.toNat : Int)) = (qcf (x.1,⟨x.2.b.set j u,x.2.perm⟩)).toArray:=by
 rw [List.setIfInBounds_toArray]
 congr 1
 unfold qcf
 rw [show 2 + j = (j + 1) + 1 by omega,List.set_cons_succ,List.set_cons_succ]
 simp [qaf,List.map_set]
theorem refPg_ones (x : Nat × Pg) : (qcf x).all one = true:=by
 have:=pgs_one (l:=[x])
 simpa using this
theorem mem2_spec (b : Nat) (M : MemG) (B : Int) (hsort : SortsTo M.pages.length) : Spec Tryz.prog 13 #[.pointer (some ⟨b,0,none⟩),.int .i64 B] (fun _=>True) [(0,qew b M)]
  (fun ρ ρ' v L=>∃ b2 A c,v = .pointer (some ⟨b2,0,none⟩) ∧ L = [(0,qew b M),(1,Pt b2 (refObj B A M.pages.length c none 0 0)),(2,OwnS 92 258 A M.pages.length c (M.pages.flatMap qcf))]):=by
 refine Spec.of 69 Tryz.func13 rfl Tryz.ntmps13 [(0,_),(1,_)] rfl rfl ?_
 intro cx ρ hr h0
 refine Cd.know (A:=qew b M) 0 rfl memO_okM fun hmem=>?_
 have hroom:=hmem.room
 have hbud:=hmem.budget.2
 refine Cd.seq fun K1 hK1=>?_
 refine Cd.qac [(0,false)] rfl rfl ?_
 refine Jp.y 4 rfl (qaa rfl) rfl rfl Kp.true (Y.assign rfl rfl) ?_
 refine Jp.qae hK1 ?_
 refine Cd.seq fun K2 hK2=>?_
 refine Cd.qac [(0,false),(1,false),(2,false),(3,false)] rfl rfl ?_
 refine Jp.y 12 rfl (qaa rfl) rfl rfl Kp.true (Y.move rfl rfl) ?_
 refine Jp.y 13 rfl (qaa rfl) rfl rfl Kp.true (Y.struct [(0,_)] [_,_,_] rfl rfl places89 zeroValue89 rfl) ?_
 refine Jp.box 1 14 rfl (qaa rfl) rfl rfl rfl rfl fun b1=>⟨Kp.true,?_⟩
 refine Jp.y 5 rfl (qaa rfl) rfl rfl Kp.true (Y.assign rfl rfl) ?_
 refine Jp.qae hK2 ?_
 refine Cd.seq fun K3 hK3=>?_
 refine Cd.qac [(0,false),(1,false),(2,false)] rfl rfl ?_
 refine Jp.y 15 rfl (qaa rfl) rfl rfl Kp.true (Y.move rfl rfl) ?_
 refine Jp.call [0] [0,6] (pages_spec b M hsort) 16 rfl (qaa rfl) rfl rfl (Runs.fn rfl call29 rfl) (by decide) (by decide) rfl trivial ?_
 rintro v1 ρ1 L1 ⟨KA,kc,rfl,rfl⟩
 refine ⟨rfl,fun hle1=>⟨Kp.true,?_⟩⟩
 refine Jp.y 6 rfl (qaa rfl) rfl rfl Kp.true (Y.assign rfl rfl) ?_
 refine Jp.qae hK3 ?_
 refine Cd.seq fun K4 hK4=>?_
 refine Cd.seq fun K5 hK5=>?_
 refine Cd.qac [(0,false)] rfl rfl ?_
 refine Jp.y 7 rfl (qaa rfl) rfl rfl Kp.true (Y.assign rfl rfl) ?_
 refine Jp.qae hK5 ?_
 refine Cd.block ?_
 refine Cd.make 2 (A:=OwnS 92 258 none 0 0 []) (OwnS.nil _ _ _) ?_
 refine Cd.qdv (G:=Nat × Option Addr × Nat) (fun g=>g.1 ≤ M.pages.length) (fun g=>M.pages.length - g.1) (fun _=>_) (fun g=>[(7,.int .i64 (g.1 : Int))]) [(0,_),(5,_),(6,_)] (fun g=>[(1,Pt b1 (refObj B g.2.1 (M.pages.take g.1).length g.2.2 none 0 0)),(2,OwnS 92 258 g.2.1 (M.pages.take g.1).length g.2.2 ((M.pages.take g.1).flatMap qcf))]) [(0,_),(6,_)] ⟨0,none,0⟩ (Nat.zero_le _) rfl ⟨rfl,trivial⟩ ⟨rfl,rfl,rfl,trivial⟩ ⟨rfl,rfl,trivial⟩ ⟨rfl,rfl,trivial⟩ (fun g KLa hok hLa=>?_)
 obtain ⟨i,PA,pc⟩:=g
 have hil : i ≤ M.pages.length:=hok
 dsimp only
 refine Cd.seq fun K6 hK6=>?_
 refine Cd.seq fun K7 hK7=>?_
 refine Cd.qac [(0,false),(1,false),(2,false),(3,false)] rfl rfl ?_
 refine Jp.y 17 rfl (qaa rfl) rfl rfl Kp.true (Y.move rfl rfl) ?_
 refine Jp.y 18 rfl (qaa rfl) rfl rfl Kp.true (Y.move rfl rfl) ?_
 refine Jp.y 19 rfl (qaa rfl) rfl rfl Kp.true (Y.qbq rfl underlying22 rfl) ?_
 refine Jp.y 20 rfl (qaa rfl) rfl rfl Kp.true (Y.lss rfl rfl rfl) ?_
 refine Jp.qae hK7 ?_
 refine Cd.qar rfl (fun ga=>?_) (fun ga=>?_)
 ·have hi : i < M.pages.length:=by simp at ga; omega
  have hx : M.pages[i]? = some M.pages[i]:=List.getElem?_eq_getElem hi
  obtain ⟨y,hy⟩ : ∃ y,y = M.pages[i]:=⟨_,rfl⟩
  rw [← hy] at hx
  have hym:=List.mem_of_getElem? hx
  have hp:=hmem.page y hym
  have hyl:=hp.lt
  have hya:=hp.al
  have hlen:=hp.len
  have hpl:=hp.perm
  have hkx : (qbk .u32 (M.pages.map (·.1)))[i]? = some (.int .u32 (y.1 : Int)):=natsV_get .u32 (by rw [List.getElem?_map,hx]; rfl)
  refine Cd.ownAt 6 rfl (show 0 < M.pages.length by omega) ?_
  rintro b6 rfl
  have c6:=OwnS.hasC (e:=24) (m:=1) (k:=M.pages.length) (c:=kc) (ad:=⟨b6,0,none⟩) (cs:=qbk .u32 (M.pages.map (·.1))) (q:=i) hkx
  have hz : (qcf (y.1,⟨List.replicate 256 0,0⟩)).length = 258:=qdk rfl
  have hzo:=refPg_ones (y.1,⟨List.replicate 256 0,0⟩)
  refine Cd.qbu hK6 ?_
  refine Cd.seq fun K8 hK8=>?_
  refine Cd.block ?_
  refine Cd.seq fun K9 hK9=>?_
  refine Cd.qac [(0,false),(1,false),(2,false),(3,false),(4,false),(5,false),(6,false)] rfl rfl ?_
  refine Jp.y 23 rfl (qaa rfl) rfl rfl Kp.true (Y.move rfl rfl) ?_
  refine Jp.y 24 rfl (qaa rfl) rfl rfl Kp.true (Y.move rfl rfl) ?_
  refine Jp.y 25 rfl (qaa rfl) rfl rfl Kp.true (Y.qbr (q:=i) rfl rfl rfl underlying22 sizeOf24 (by omega) (by omega) (by omega)) ?_
  refine Jp.y 26 rfl (qaa rfl) rfl rfl Kp.true (by exact Y.qbg 6 rfl isAgg24 rfl rfl c6) ?_
  refine Jp.y 27 rfl (qaa rfl) rfl rfl Kp.true (Y.struct [(0,_)] (qcf (y.1,⟨List.replicate 256 0,0⟩)) rfl rfl places92 zeroValue92 rfl) ?_
  refine Jp.alloc 8 8 rfl (qaa rfl) rfl rfl rfl zeroValue92 fun b8=>⟨Kp.true,?_⟩
  first | refine Jp.qai 8 rfl (qaa rfl) rfl rfl sizeOf92 rfl rfl (by first | rfl | assumption) (by first | rfl | assumption) rfl (by first | rfl | assumption) (fun k _ _=>qas k) Kp.true ?_
  refine Jp.qae hK9 ?_
  refine Cd.seq fun K10 hK10=>?_
  refine Cd.qac [(0,false),(1,false),(2,false),(3,false),(4,false),(5,false),(6,false),(7,false),(8,false),(9,false),(10,false)] rfl rfl ?_
  refine Jp.y 29 rfl (qaa rfl) rfl rfl Kp.true (Y.move rfl rfl) ?_
  refine Jp.y 30 rfl (qaa rfl) rfl rfl Kp.true (Y.move rfl rfl) ?_
  refine Jp.y 31 rfl (qaa rfl) rfl rfl Kp.true (Y.move rfl rfl) ?_
  refine Jp.y 32 rfl (qaa rfl) rfl rfl Kp.true (Y.qbr (q:=i) rfl rfl rfl underlying22 sizeOf24 (by omega) (by omega) (by omega)) ?_
  refine Jp.y 33 rfl (qaa rfl) rfl rfl Kp.true (by exact Y.qbg 6 rfl isAgg24 rfl rfl c6) ?_
  refine Jp.call [0] [0] (perm_spec b M y.1 hyl) 34 rfl (qaa rfl) rfl rfl (Runs.fn rfl call30 rfl) (by decide) (by decide) rfl trivial ?_
  rintro v2 ρ2 L2 ⟨rfl,rfl,rfl⟩
  refine ⟨rfl,fun hle2=>⟨Kp.true,?_⟩⟩
  rw [perm_of hmem hym]
  refine Jp.y 28 rfl (qaa rfl) rfl rfl Kp.true (Y.move rfl rfl) ?_
  refine Jp.y 35 rfl (qaa rfl) rfl rfl Kp.true (Y.extract rfl rfl rfl) ?_
  refine Jp.y 36 rfl (qaa rfl) rfl rfl Kp.true (Y.extract rfl rfl rfl) ?_
  refine Jp.y 37 rfl (qaa rfl) rfl rfl Kp.true (by exact Y.qad rfl rfl underlying92 rfl sizeOf3 (by decide) (show _ + 1 = _ from rfl)) ?_
  refine Jp.qct 8 (Pt b8 (.cells (qcf (y.1,⟨partB y.2.b 0,y.2.perm⟩)).toArray 92)) rfl (qaa rfl) rfl rfl sizeOf3 rfl rfl rfl rfl rfl (SetC.pt (by rw [List.size_toArray,hz]; decide) (qas _) (by rw [List.setIfInBounds_toArray]; rfl)) Kp.true ?_
  refine Jp.qae hK10 ?_
  refine Cd.seq fun K11 hK11=>?_
  refine Cd.seq fun K12 hK12=>?_
  refine Cd.qac [(0,false)] rfl rfl ?_
  refine Jp.y 9 rfl (qaa rfl) rfl rfl Kp.true (Y.assign rfl rfl) ?_
  refine Jp.qae hK12 ?_
  refine Cd.block ?_
  refine Cd.qgm (G:=Unit) (fun _=>True) (fun _=>[]) [(0,_),(5,_),(6,_),(7,_),(8,_)] ⟨rfl,rfl,rfl,rfl,rfl,trivial⟩ (fun _=>[(8,Pt b8 (.cells (qcf y).toArray 92))]) [(0,_),(1,_),(2,_),(6,_)] ⟨rfl,rfl,rfl,rfl,trivial⟩ hK11 (fun g hφ=>?_) (fun hj1=>?_)
  ·clear hφ
   have hyL : (qcf y).length = 258:=qdk hlen
   have hyO:=refPg_ones y
   have htl : (M.pages.take i).length = i:=by rw [List.length_take]; omega
   have htl2 : (M.pages.take (i + 1)).length = i + 1:=by rw [List.length_take]; omega
   have htk : M.pages.take (i + 1) = M.pages.take i ++ [y]:=by rw [← List.take_append_getElem hi,hy]
   have hrows : ((M.pages.take i).flatMap qcf).length = (M.pages.take i).length * 258:=rs_len fun x hx=>qdk (hmem.page x (List.mem_of_mem_take hx)).len
   refine Cd.drawn [(1,_),(8,_)] ⟨rfl,rfl,trivial⟩ [(0,true),(1,true),(2,true),(3,true),(4,true),(5,true),(6,false),(7,false),(8,true),(9,true),(10,false)] follows (by kernel_rfl) (fun hrl=>?_)
   refine Jp.q 58 rfl (qaa rfl) rfl rfl (Y.move rfl rfl) ?_
   refine Jp.q 59 rfl (qaa rfl) rfl rfl (Y.move rfl rfl) ?_
   refine Jp.q 60 rfl (qaa rfl) rfl rfl (Y.qan rfl rfl) ?_
   refine Jp.q 61 rfl (qaa rfl) rfl rfl (by exact Y.qad rfl rfl underlying89 rfl sizeOf86 (by decide) (show _ + 1 = _ from rfl)) ?_
   refine Jp.q 62 rfl (qaa rfl) rfl rfl (by exact Y.qau 1 rfl isAgg86 rfl rfl rfl) ?_
   refine Jp.q 63 rfl (qaa rfl) rfl rfl (by exact Y.qah 8 rfl isAgg92 sizeOf92 rfl rfl (by first | rfl | assumption)) ?_
   refine Jp.lit 64 9 [(0,_)] (qcf y) rfl (qaa rfl) rfl rfl rfl rfl underlying86 sizeOf92 zeroValue92 rfl rfl (fill_one hyL) hyL rfl fun b9=>⟨(Kp.st ⟨rfl,rfl,trivial⟩),?_⟩
   refine Jp.append 65 2 rfl (qaa rfl) rfl rfl rfl underlying86 underlying86 (.inl ⟨_,rfl⟩) sizeOf92 Tryz.typeInfo92 zeroValue92 rfl (by decide) rfl rfl rfl (Src.own 9 rfl) hyO ((M.pages.take (i + 1)).length) (((M.pages.take (i + 1)).flatMap qcf)) (by first | omega | simp) (by rw [htk,List.flatMap_append]; simp) (by simp only [Tryz.t92]; omega) fun A7 c7=>⟨(Kp.st ⟨rfl,rfl,trivial⟩),?_⟩
   refine Jp.q 66 rfl (qaa rfl) rfl rfl (Y.qan rfl rfl) ?_
   refine Jp.q 67 rfl (qaa rfl) rfl rfl (by exact Y.qad rfl rfl underlying89 rfl sizeOf86 (by decide) (show _ + 1 = _ from rfl)) ?_
   refine Jp.store 1 rfl (qaa rfl) rfl rfl sizeOf86 rfl rfl rfl rfl rfl rfl Kp.last ?_
   refine Jp.over rfl hK8 ?_
   refine Cd.qac [(0,false),(1,false),(2,false)] rfl rfl ?_
   refine Jp.y 21 rfl (qaa rfl) rfl rfl Kp.true (Y.move rfl rfl) ?_
   refine Jp.y 22 rfl (qaa rfl) rfl rfl Kp.true (Y.qcj rfl rfl rfl (by exact qaj (by omega) (by omega))) ?_
   refine Jp.y 7 rfl (qaa rfl) rfl rfl Kp.true (Y.assign rfl rfl) ?_
   rw [show (i : Int) + 1 = ((i + 1 : Nat) : Int) by omega]
   refine Jp.again hLa ⟨i + 1,A7,c7⟩ hi (by show M.pages.length - (i + 1) < M.pages.length - i; omega) rfl ⟨rfl,rfl,rfl,rfl,trivial⟩ ⟨rfl,rfl,rfl,rfl,trivial⟩
  ·skip
   refine Cd.qdv (G:=Nat) (fun k=>k ≤ 256) (fun k=>256 - k) (fun _=>_) (fun k=>[(9,.int .u32 (k : Int))]) [(0,_),(5,_),(6,_),(7,_),(8,_)] (fun k=>[(8,Pt b8 (.cells (qcf (y.1,⟨partB y.2.b k,y.2.perm⟩)).toArray 92))]) [(0,_),(1,_),(2,_),(6,_)] 0 (Nat.zero_le _) rfl ⟨rfl,trivial⟩ ⟨rfl,rfl,rfl,rfl,rfl,trivial⟩ ⟨rfl,trivial⟩ ⟨rfl,rfl,rfl,rfl,trivial⟩ (fun g KLb hok hLb=>?_)
   obtain ⟨k,hk⟩ : ∃ k,k = g:=⟨_,rfl⟩
   rw [← hk] at hok ⊢
   refine Cd.seq fun K14 hK14=>?_
   refine Cd.seq fun K15 hK15=>?_
   refine Cd.qac [(0,false),(1,false)] rfl rfl ?_
   refine Jp.y 38 rfl (qaa rfl) rfl rfl Kp.true (Y.move rfl rfl) ?_
   refine Jp.y 39 rfl (qaa rfl) rfl rfl Kp.true (Y.lss rfl rfl rfl) ?_
   refine Jp.qae hK15 ?_
   refine Cd.qar rfl (fun gb=>?_) (fun gb=>?_)
   ·have hk2 : k < 256:=by simp at gb; omega
    have hbl:=(y.2.b.getD k 0).toNat_lt
    have hld:=load_byteM hmem hym hk2
    have hL:=qho b M (y.1 + k) 1 0 (by omega)
    rw [hld] at hL
    refine Cd.qbu hK14 ?_
    refine Cd.seq fun K16 hK16=>?_
    refine Cd.block ?_
    refine Cd.seq fun K17 hK17=>?_
    refine Cd.qac [(0,false),(1,false),(2,false),(3,false),(4,false),(5,false),(6,false),(7,false),(8,false),(9,false),(10,false),(11,false),(12,false)] rfl rfl ?_
    refine Jp.y 43 rfl (qaa rfl) rfl rfl Kp.true (Y.move rfl rfl) ?_
    refine Jp.y 44 rfl (qaa rfl) rfl rfl Kp.true (Y.move rfl rfl) ?_
    refine Jp.y 45 rfl (qaa rfl) rfl rfl Kp.true (Y.move rfl rfl) ?_
    refine Jp.y 46 rfl (qaa rfl) rfl rfl Kp.true (Y.qbr (q:=i) rfl rfl rfl underlying22 sizeOf24 (by omega) (by omega) (by omega)) ?_
    refine Jp.y 47 rfl (qaa rfl) rfl rfl Kp.true (by exact Y.qbg 6 rfl isAgg24 rfl rfl c6) ?_
    refine Jp.y 48 rfl (qaa rfl) rfl rfl Kp.true (Y.move rfl rfl) ?_
    refine Jp.y 49 rfl (qaa rfl) rfl rfl Kp.true (Y.qcj rfl rfl rfl (by exact qba (by omega) (by omega))) ?_
    refine Jp.slot 49 rfl (show _ = Value.int .u32 ((y.1 + k : Nat) : Int) from rfl) ?_
    refine Jp.call [0] [0] hL 50 rfl (qaa rfl) rfl rfl (Runs.fn rfl call31 rfl) (by decide) (by decide) rfl trivial ?_
    rintro v3 ρ3 L3 ⟨rfl,rfl,rfl⟩
    refine ⟨rfl,fun hle3=>⟨Kp.true,?_⟩⟩
    refine Jp.y 42 rfl (qaa rfl) rfl rfl Kp.true (Y.move rfl rfl) ?_
    refine Jp.y 51 rfl (qaa rfl) rfl rfl Kp.true (Y.extract rfl rfl rfl) ?_
    refine Jp.y 52 rfl (qaa rfl) rfl rfl Kp.true (Y.extract rfl rfl rfl) ?_
    refine Jp.y 10 rfl (qaa rfl) rfl rfl Kp.true (Y.assign rfl rfl) ?_
    refine Jp.y 11 rfl (qaa rfl) rfl rfl Kp.true (Y.assign rfl rfl) ?_
    refine Jp.qae hK17 ?_
    refine Cd.qac [(0,false),(1,false),(2,false),(3,false),(4,false),(5,false)] rfl rfl ?_
    refine Jp.y 53 rfl (qaa rfl) rfl rfl Kp.true (Y.move rfl rfl) ?_
    refine Jp.y 54 rfl (qaa rfl) rfl rfl Kp.true (Y.move rfl rfl) ?_
    refine Jp.y 55 rfl (qaa rfl) rfl rfl Kp.true (Y.qaw rfl rfl underlying24 underlying5 (by exact wrap_u8 (by omega) (by omega))) ?_
    refine Jp.y 56 rfl (qaa rfl) rfl rfl Kp.true (by exact Y.qad rfl rfl underlying92 rfl sizeOf90 (by decide) (show _ + 2 = _ from rfl)) ?_
    refine Jp.y 57 rfl (qaa rfl) rfl rfl Kp.true (Y.qam (q:=2 + k) rfl rfl rfl underlying90 sizeOf5 (by omega) (by omega) (by omega)) ?_
    refine Jp.qct 8 (Pt b8 (.cells (qcf (y.1,⟨partB y.2.b (k + 1),y.2.perm⟩)).toArray 92)) rfl (qaa rfl) rfl rfl sizeOf5 rfl rfl rfl rfl rfl (SetC.pt (by rw [List.size_toArray,qdk (partB_len hlen (by omega))]; omega) (qas _) (by rw [← partB_set hlen hk2]; exact refPg_setByte (x:=(y.1,⟨partB y.2.b k,y.2.perm⟩)) (partB_len hlen (by omega)) hk2 _)) Kp.true ?_
    refine Jp.over rfl hK16 ?_
    refine Cd.qac [(0,false),(1,false),(2,false)] rfl rfl ?_
    refine Jp.y 40 rfl (qaa rfl) rfl rfl Kp.true (Y.move rfl rfl) ?_
    refine Jp.y 41 rfl (qaa rfl) rfl rfl Kp.true (Y.qcj rfl rfl rfl (by exact qba (by omega) (by omega))) ?_
    refine Jp.y 9 rfl (qaa rfl) rfl rfl Kp.true (Y.assign rfl rfl) ?_
    refine Jp.slot 9 rfl (show _ = Value.int .u32 ((k + 1 : Nat) : Int) from rfl) ?_
    refine Jp.again hLb (k + 1) hk2 (by omega) rfl ⟨rfl,rfl,rfl,rfl,rfl,rfl,trivial⟩ ⟨rfl,rfl,rfl,rfl,rfl,trivial⟩
   ·have hk2 : k = 256:=by simp at gb; omega
    rw [hk2,partB_all hlen]
    refine Cd.exit rfl hK11 ?_
    exact Cd.qcz (hj1 () trivial) ⟨rfl,rfl,rfl,rfl,rfl,trivial⟩ ⟨rfl,rfl,rfl,rfl,rfl,trivial⟩
 ·have hi : i = M.pages.length:=by simp at ga; omega
  refine Cd.exit rfl hK4 ?_
  refine Cd.seq fun K18 hK18=>?_
  refine Cd.qac [(0,false),(1,false)] rfl rfl ?_
  refine Jp.y 68 rfl (qaa rfl) rfl rfl Kp.true (Y.move rfl rfl) ?_
  refine Jp.y 4 rfl (qaa rfl) rfl rfl Kp.true (Y.assign rfl rfl) ?_
  refine Jp.qae hK18 ?_
  refine Cd.ret [(0,_),(1,_),(2,_)] rfl (qbd rfl rfl) ⟨rfl,rfl,rfl,trivial⟩ ⟨b1,PA,pc,rfl,by rw [hi,List.take_length]⟩
end Go.Proofs.YtnfkalpgidiafaaGreat

namespace Go.Proofs.YtnfkalpgidiafaaGreat
open _root_.Go.Proofs.Tryz
open Go
theorem b256_info : (Tryz.prog.info? 5).isSome = true:=by kernel_rfl
theorem b256_one : Tryz.prog.cellsOf 5 = 1:=by kernel_rfl
theorem b256_eqd (d : Nat) {a b : qal} (ha : a.length = 256) (hb : b.length = 256) (w : World) : (Op.equalIn (d + 2) 90 (.agg (qaf a).toArray) (.agg (qaf b).toArray)).run Tryz.prog w = .ok (decide (a = b)) w:=by
 rw [qgh,qgh,equal_arr underlying90 b256_info b256_one isAgg5 underlying5 (by rw [List.length_map]; exact ha) (by rw [List.length_map]; exact hb) w,bytes_dec]
theorem pg_guard : Tryz.prog.eqGuardType Tryz.prog.depth 92 = false:=by kernel_rfl
theorem pg_stood : Tryz.prog.stoodInHeld 92 = false:=by kernel_rfl
theorem pg_fields : Tryz.prog.underlying 92 = some (.struct (Tryz.prog.fieldsOf 92)):=by kernel_rfl
theorem pg_list : (Tryz.prog.fieldsOf 92).toList = [Field.mk "Base" 24 0 false "" "" 0, Field.mk "Perm" 3 1 false "" "" 8, Field.mk "B" 90 2 false "" "" 16] := by kernel_rfl
theorem pg_cut {x : Nat × Pg} (h : x.2.b.length = 256) : (qcf x).toArray.extract 2 (2 + 256) = (qaf x.2.b).toArray:=by
 rw [List.extract_toArray]
 congr 1
 simp only [qcf,qaf,List.extract]
 exact List.take_of_length_le (by simp [h])
theorem pg_self {x : Nat × Pg} (h : x.2.b.length = 256) (w : World) : (Op.eqFields 9999 (qcf x).toArray (qcf x).toArray (Tryz.prog.fieldsOf 92).toList).run Tryz.prog w = .ok true w:=by
 rw [pg_list]
 have h3 : (Op.eqFields 9999 (qcf x).toArray (qcf x).toArray [Field.mk "B" 90 2 false "" "" 16]).run Tryz.prog w = .ok true w := by
  refine eqFields_any (r1:=true) (r:=true) (by decide) (part_agg (m:=256) isAgg90 sizeOf90) (part_agg (m:=256) isAgg90 sizeOf90) ?_ rfl
  show (Op.equalIn 9999 90 (.agg ((qcf x).toArray.extract 2 (2 + 256))) (.agg ((qcf x).toArray.extract 2 (2 + 256)))).run Tryz.prog w = _
  rw [pg_cut h,b256_eqd 9997 h h w,decide_eq_true rfl]
 have h2 := qbo (P := Tryz.prog) (d := 9998) (f := Field.mk "Perm" 3 1 false "" "" 8) (a := (x.2.perm : Int)) (b := (x.2.perm : Int)) (k := .i64) (by decide) (qbl (xs := (qcf x).toArray) isAgg3 rfl) (qbl (xs := (qcf x).toArray) isAgg3 rfl) underlying3 h3
 have h1 := qbo (P := Tryz.prog) (d := 9998) (f := Field.mk "Base" 24 0 false "" "" 0) (a := (x.1 : Int)) (b := (x.1 : Int)) (k := .u32) (by decide) (qbl (xs := (qcf x).toArray) isAgg24 rfl) (qbl (xs := (qcf x).toArray) isAgg24 rfl) underlying24 h2
 simpa using h1
theorem sameMem_spec (b1 b2 : Nat) (l : List (Nat × Pg)) (h1 : ∀ y ∈ l,y.2.b.length = 256) (hl : l.length ≤ 16777217) (B1 B2 : Int) (A1 A2 X1 X2 : Option Addr) (c1 c2 m1 m2 d1 d2 : Nat) :
  Spec Tryz.prog 12 #[.pointer (some ⟨b1,0,none⟩),.pointer (some ⟨b2,0,none⟩)] (fun _=>True)
   [(0,Pt b1 (refObj B1 A1 l.length c1 X1 m1 d1)),(1,OwnS 92 258 A1 l.length c1 (l.flatMap qcf)),(2,Pt b2 (refObj B2 A2 l.length c2 X2 m2 d2)),(3,OwnS 92 258 A2 l.length c2 (l.flatMap qcf))]
  (fun ρ ρ' v L=>ρ' = ρ ∧ v = .bool true ∧ L = []):=by
 refine Spec.of 41 Tryz.func12 rfl Tryz.ntmps12 [(0,_),(1,_)] rfl rfl ?_
 intro cx ρ hr h0
 have hrow : ∀ y ∈ l,(qcf y).length = 258:=fun y hy=>qdk (h1 y hy)
 refine Cd.seq fun K1 hK1=>?_
 refine Cd.qac [(0,false)] rfl rfl ?_
 refine Jp.y 4 rfl (qaa rfl) rfl rfl Kp.true (Y.assign rfl rfl) ?_
 refine Jp.qae hK1 ?_
 refine Cd.seq fun K2 hK2=>?_
 refine Cd.seq fun K3 hK3=>?_
 refine Cd.drawn [(0,_),(1,_),(2,_),(3,_)] ⟨rfl,rfl,rfl,rfl,trivial⟩ [(0,true),(1,true),(2,true),(3,true),(4,true),(5,true),(6,true),(7,true),(8,true),(9,true),(10,true)] follows (by kernel_rfl) (fun hrl=>?_)
 refine Jp.q 6 rfl (qaa rfl) rfl rfl (Y.move rfl rfl) ?_
 refine Jp.q 7 rfl (qaa rfl) rfl rfl (Y.qan rfl rfl) ?_
 refine Jp.q 8 rfl (qaa rfl) rfl rfl (by exact Y.qad rfl rfl underlying89 rfl sizeOf86 (by decide) (show _ + 1 = _ from rfl)) ?_
 refine Jp.q 9 rfl (qaa rfl) rfl rfl (by exact Y.qau 0 rfl isAgg86 rfl rfl rfl) ?_
 refine Jp.q 10 rfl (qaa rfl) rfl rfl (Y.qbq rfl underlying86 rfl) ?_
 refine Jp.q 11 rfl (qaa rfl) rfl rfl (Y.move rfl rfl) ?_
 refine Jp.q 12 rfl (qaa rfl) rfl rfl (Y.qan rfl rfl) ?_
 refine Jp.q 13 rfl (qaa rfl) rfl rfl (by exact Y.qad rfl rfl underlying89 rfl sizeOf86 (by decide) (show _ + 1 = _ from rfl)) ?_
 refine Jp.q 14 rfl (qaa rfl) rfl rfl (by exact Y.qau 2 rfl isAgg86 rfl rfl rfl) ?_
 refine Jp.q 15 rfl (qaa rfl) rfl rfl (Y.qbq rfl underlying86 rfl) ?_
 refine Jp.q 16 rfl (qaa rfl) rfl rfl (Y.neq rfl rfl rfl) ?_
 refine Jp.qae hK3 ?_
 refine Cd.qar rfl (fun ga=>?_) (fun ga=>?_)
 ·exact absurd ga (by simp)
 ·skip
  refine Cd.qbu hK2 ?_
  refine Cd.seq fun K5 hK5=>?_
  refine Cd.seq fun K6 hK6=>?_
  refine Cd.qac [(0,false)] rfl rfl ?_
  refine Jp.y 5 rfl (qaa rfl) rfl rfl Kp.true (Y.assign rfl rfl) ?_
  refine Jp.qae hK6 ?_
  refine Cd.block ?_
  refine Cd.qdv (G:=Nat) (fun g=>g ≤ l.length) (fun g=>l.length - g) (fun _=>_) (fun g=>[(5,.int .i64 (g : Int))]) [(0,_),(1,_)] (fun _=>[]) [(0,_),(1,_),(2,_),(3,_)] 0 (Nat.zero_le _) rfl ⟨rfl,trivial⟩ ⟨rfl,rfl,trivial⟩ trivial ⟨rfl,rfl,rfl,rfl,trivial⟩ (fun g KLa hok hLa=>?_)
  obtain ⟨i,hi⟩ : ∃ i,i = g:=⟨_,rfl⟩
  rw [← hi] at hok ⊢
  refine Cd.seq fun K7 hK7=>?_
  refine Cd.seq fun K8 hK8=>?_
  refine Cd.qac [(0,false),(1,false),(2,false),(3,false),(4,false),(5,false),(6,false)] rfl rfl ?_
  refine Jp.y 17 rfl (qaa rfl) rfl rfl Kp.true (Y.move rfl rfl) ?_
  refine Jp.y 18 rfl (qaa rfl) rfl rfl Kp.true (Y.move rfl rfl) ?_
  refine Jp.y 19 rfl (qaa rfl) rfl rfl Kp.true (Y.qan rfl rfl) ?_
  refine Jp.y 20 rfl (qaa rfl) rfl rfl Kp.true (by exact Y.qad rfl rfl underlying89 rfl sizeOf86 (by decide) (show _ + 1 = _ from rfl)) ?_
  refine Jp.y 21 rfl (qaa rfl) rfl rfl Kp.true (by exact Y.qau 0 rfl isAgg86 rfl rfl rfl) ?_
  refine Jp.y 22 rfl (qaa rfl) rfl rfl Kp.true (Y.qbq rfl underlying86 rfl) ?_
  refine Jp.y 23 rfl (qaa rfl) rfl rfl Kp.true (Y.lss rfl rfl rfl) ?_
  refine Jp.qae hK8 ?_
  refine Cd.qar rfl (fun gb=>?_) (fun gb=>?_)
  ·have hin : i < l.length:=by simp at gb; omega
   have hx : l[i]? = some l[i]:=List.getElem?_eq_getElem hin
   obtain ⟨x,hxe⟩ : ∃ x,x = l[i]:=⟨_,rfl⟩
   rw [← hxe] at hx
   have hxl:=h1 x (List.mem_of_getElem? hx)
   refine Cd.ownAt 1 rfl (show 0 < l.length by omega) ?_
   rintro p1 rfl
   refine Cd.ownAt 3 rfl (show 0 < l.length by omega) ?_
   rintro p2 rfl
   have hget : ∀ j v,(qcf x)[j]? = some v → (l.flatMap qcf)[i * 258 + j]? = some v:=fun j v hv=>rs_get hrow hx hv
   refine Cd.qbu hK7 ?_
   refine Cd.seq fun K9 hK9=>?_
   refine Cd.block ?_
   refine Cd.seq fun K10 hK10=>?_
   refine Cd.drawn [(0,_),(1,_),(2,_),(3,_)] ⟨rfl,rfl,rfl,rfl,trivial⟩ [(0,true),(1,true),(2,true),(3,true),(4,true),(5,true),(6,true),(7,true),(8,true),(9,true),(10,true),(11,true),(12,true),(13,true),(14,true)] follows (by kernel_rfl) (fun hrl=>?_)
   refine Jp.q 26 rfl (qaa rfl) rfl rfl (Y.move rfl rfl) ?_
   refine Jp.q 27 rfl (qaa rfl) rfl rfl (Y.qan rfl rfl) ?_
   refine Jp.q 28 rfl (qaa rfl) rfl rfl (by exact Y.qad rfl rfl underlying89 rfl sizeOf86 (by decide) (show _ + 1 = _ from rfl)) ?_
   refine Jp.q 29 rfl (qaa rfl) rfl rfl (by exact Y.qau 0 rfl isAgg86 rfl rfl rfl) ?_
   refine Jp.q 30 rfl (qaa rfl) rfl rfl (Y.move rfl rfl) ?_
   refine Jp.q 31 rfl (qaa rfl) rfl rfl (Y.qbr (q:=i * 258) rfl rfl rfl underlying86 sizeOf92 (by omega) (by omega) (by omega)) ?_
   refine Jp.q 32 rfl (qaa rfl) rfl rfl (Y.loadSAgg 1 (q:=i * 258) (qcf x) rfl isAgg92 sizeOf92 rfl rfl rfl (qdk hxl) hget) ?_
   refine Jp.q 33 rfl (qaa rfl) rfl rfl (Y.move rfl rfl) ?_
   refine Jp.q 34 rfl (qaa rfl) rfl rfl (Y.qan rfl rfl) ?_
   refine Jp.q 35 rfl (qaa rfl) rfl rfl (by exact Y.qad rfl rfl underlying89 rfl sizeOf86 (by decide) (show _ + 1 = _ from rfl)) ?_
   refine Jp.q 36 rfl (qaa rfl) rfl rfl (by exact Y.qau 2 rfl isAgg86 rfl rfl rfl) ?_
   refine Jp.q 37 rfl (qaa rfl) rfl rfl (Y.move rfl rfl) ?_
   refine Jp.q 38 rfl (qaa rfl) rfl rfl (Y.qbr (q:=i * 258) rfl rfl rfl underlying86 sizeOf92 (by omega) (by omega) (by omega)) ?_
   refine Jp.q 39 rfl (qaa rfl) rfl rfl (Y.loadSAgg 3 (q:=i * 258) (qcf x) rfl isAgg92 sizeOf92 rfl rfl rfl (qdk hxl) hget) ?_
   refine Jp.q 40 rfl (qaa rfl) rfl rfl (Y.neqS (xs:=(qcf x).toArray) (ys:=(qcf x).toArray) (r:=true) rfl rfl rfl pg_guard pg_fields pg_stood (fun w=>pg_self hxl w)) ?_
   refine Jp.qae hK10 ?_
   refine Cd.qar rfl (fun gc=>?_) (fun gc=>?_)
   ·exact absurd gc (by simp)
   ·skip
    refine Cd.over rfl hK9 ?_
    refine Cd.qac [(0,false),(1,false),(2,false)] rfl rfl ?_
    refine Jp.y 24 rfl (qaa rfl) rfl rfl Kp.true (Y.move rfl rfl) ?_
    refine Jp.y 25 rfl (qaa rfl) rfl rfl Kp.true (Y.qcj rfl rfl rfl (by exact qaj (by omega) (by omega))) ?_
    refine Jp.y 5 rfl (qaa rfl) rfl rfl Kp.true (Y.assign rfl rfl) ?_
    rw [show (i : Int) + 1 = ((i + 1 : Nat) : Int) by omega]
    refine Jp.again hLa (i + 1) hin (by omega) rfl ⟨rfl,rfl,rfl,trivial⟩ ⟨rfl,rfl,rfl,rfl,trivial⟩
  ·skip
   refine Cd.exit rfl hK5 ?_
   refine Cd.seq fun K12 hK12=>?_
   refine Cd.qac [(0,false)] rfl rfl ?_
   refine Jp.y 4 rfl (qaa rfl) rfl rfl Kp.true (Y.assign rfl rfl) ?_
   refine Jp.qae hK12 ?_
   refine Cd.ret [] rfl (qbd rfl rfl) trivial ⟨rfl,rfl,rfl⟩
end Go.Proofs.YtnfkalpgidiafaaGreat

namespace Go.Proofs.YtnfkalpgidiafaaGreat
open _root_.Go.Proofs.Tryz
open Go
theorem flowP_xlen (M : MemG) (S : ShG) (s : StP) {X : qal} (pp : Bool) (sk : List SinkG) (hX : X.length = 128) : (qgk M S s X pp sk).x.length = 128:=by
 have hi:=fetchP_ok M s.pc
 have hn : ∀ S',(newL S' X pp (qbs M s.pc).1 s).length = 128:=fun S'=>by
  unfold newL
  split
  ·exact setL_len hX (valueT_len hX hi) hi.rd
  ·exact hX
 unfold qgk
 split
 ·split
  ·split
   ·exact setL_len (hn _) rfl (by decide)
   ·exact hX
  ·exact hX
 ·exact hX
theorem as_set {l : qal} (h : l.length ≤ 512) : setM ⟨100,[]⟩ 65536 l = (0,⟨100,layP [] 65536 l⟩):=setM_yes (S:=⟨100,[]⟩) (N:=2) shOk_nil (by omega) (by omega) (by decide)
theorem flowAsCpu_spec (A : Option Addr) (c : Nat) (xs : List Int) (dA : Option Addr) (dc : Nat) (bs : qal) (lA : Option Addr) (lc : Nat) (l : qal) (s : StP) (X : qal) (p : PolG) (hxs : ∀ x ∈ xs,∃ m : Nat,x = m ∧ m < 4294967296) (hc : StRd s) (hX : X.length = 128) :
  Spec Tryz.prog 4 #[.slice A xs.length c,.slice dA bs.length dc,.slice lA l.length lc,.agg s.cells.toArray,.agg (qaf X).toArray,.agg p.cells.toArray] (fun h=>RdI .u32 ⟨A,c,xs⟩ h ∧ RdB ⟨dA,dc,bs⟩ h ∧ RdB ⟨lA,lc,l⟩ h ∧ PolG.Rd p h) []
  (fun ρ ρ' v L=>v = .bool true ∧ L = []):=by
 refine Spec.of 111 Tryz.func4 rfl Tryz.ntmps4 [(0,_),(1,_),(2,_),(3,_),(4,_),(5,_)] rfl rfl ?_
 intro cx ρ hr0 h0
 obtain ⟨hr,hrd,hrl,hp⟩:=hr0
 have hsi:=hp.sinks
 obtain ⟨pp,⟨sA,sc,so⟩,⟨kA,kc,ks⟩⟩:=p
 dsimp only at hsi
 have hcl:=hc.size
 have hco:=StP.one s
 have hXl : (qaf X).length = 128:=by rw [qaz,hX]
 have hXo:=qbe X
 have lx : xs.length ≤ 281474976710656:=hr.2.1.2
 have lb : bs.length ≤ 281474976710656:=hrd.2.1.2
 have ll : l.length ≤ 281474976710656:=hrl.2.1.2
 have ls : so.length ≤ 281474976710656:=hp.sources.1.2.1.2
 have lk : ks.length ≤ 281474976710656:=hsi.1.2.1.2
 refine Cd.seq fun K1 hK1=>?_
 refine Cd.qac [(0,false),(1,false),(2,false),(3,false)] rfl rfl ?_
 refine Jp.box 9 9 rfl (qaa rfl) rfl rfl rfl rfl fun b9=>⟨Kp.true,?_⟩
 refine Jp.box 10 10 rfl (qaa rfl) rfl rfl rfl rfl fun b10=>⟨Kp.true,?_⟩
 refine Jp.box 11 11 rfl (qaa rfl) rfl rfl rfl rfl fun b11=>⟨Kp.true,?_⟩
 refine Jp.y 12 rfl (qaa rfl) rfl rfl Kp.true (Y.assign rfl rfl) ?_
 refine Jp.qae hK1 ?_
 refine Cd.seq fun K2 hK2=>?_
 refine Cd.seq fun K3 hK3=>?_
 refine Cd.qac [(0,false),(1,false)] rfl rfl ?_
 refine Jp.imp (j:=11) rfl (fun h hh=>(show Pt b11 (.cells #[.bool pp,.slice sA so.length sc,.slice kA ks.length kc] 31) h from hh)) ?_
 refine Jp.call [] [] awake13_spec 24 rfl (qaa rfl) rfl rfl (Runs.fn rfl call5 rfl) (by decide) (by decide) rfl trivial ?_
 rintro v1 ρ1 L1 ⟨rfl,rfl⟩
 refine ⟨rfl,fun hle1=>⟨Kp.true,?_⟩⟩
 have hr:=RdI.up _ _ _ _ hle1 hr
 have hrd:=RdB.up _ _ _ hle1 hrd
 have hrl:=RdB.up _ _ _ hle1 hrl
 have hsi:=RdSinkGs.up _ _ _ hle1 hsi
 refine Jp.y 25 rfl (qaa rfl) rfl rfl Kp.true (Y.not rfl rfl) ?_
 refine Jp.qae hK3 ?_
 refine Cd.qar rfl (fun g25=>?_) (fun g25=>?_)
 ·skip
  exact absurd g25 (by simp)
 try simp only [sG0] at g25
 refine Cd.qbu hK2 ?_
 refine Cd.seq fun K4 hK4=>?_
 refine Cd.seq fun K5 hK5=>?_
 refine Cd.qac [(0,false),(1,false),(2,false),(3,false),(4,false),(5,false),(6,false),(7,false),(8,false),(9,false),(10,false),(11,false),(12,false),(13,false),(14,false),(15,false),(16,false),(17,false),(18,false),(19,false),(20,false),(21,false),(22,false),(23,false),(24,false),(25,false),(26,false),(27,false),(28,false),(29,false),(30,false),(31,false),(32,false),(33,false),(34,false)] rfl rfl ?_
 refine Jp.y 26 rfl (qaa rfl) rfl rfl Kp.true (Y.move rfl rfl) ?_
 refine Jp.y 27 rfl (qaa rfl) rfl rfl Kp.true (Y.qbq rfl underlying22 rfl) ?_
 refine Jp.y 28 rfl (qaa rfl) rfl rfl Kp.true (Y.gtr rfl rfl rfl) ?_
 refine Jp.y 29 rfl (qaa rfl) rfl rfl Kp.true (Y.move rfl rfl) ?_
 refine Jp.split 29 rfl (fun g29=>?_) (fun g29=>?_)
 ·skip
  refine Jp.qaq 30 rfl (qab rfl rfl rfl rfl) rfl rfl Kp.true ?_
  refine Jp.qaq 31 rfl (qab rfl rfl rfl rfl) rfl rfl Kp.true ?_
  refine Jp.qaq 32 rfl (qab rfl rfl rfl rfl) rfl rfl Kp.true ?_
  refine Jp.y 33 rfl (qaa rfl) rfl rfl Kp.true (Y.qav rfl rfl rfl) ?_
  refine Jp.y 34 rfl (qaa rfl) rfl rfl Kp.true (Y.move rfl rfl) ?_
  refine Jp.qaq 35 rfl (qab rfl rfl rfl rfl) rfl rfl Kp.true ?_
  refine Jp.qaq 36 rfl (qab rfl rfl rfl rfl) rfl rfl Kp.true ?_
  refine Jp.qaq 37 rfl (qab rfl rfl rfl rfl) rfl rfl Kp.true ?_
  refine Jp.y 38 rfl (qaa rfl) rfl rfl Kp.true (Y.qav rfl rfl rfl) ?_
  refine Jp.y 39 rfl (qaa rfl) rfl rfl Kp.true (Y.move rfl rfl) ?_
  refine Jp.qaq 40 rfl (qab rfl rfl rfl rfl) rfl rfl Kp.true ?_
  refine Jp.qaq 41 rfl (qab rfl rfl rfl rfl) rfl rfl Kp.true ?_
  refine Jp.qaq 42 rfl (qab rfl rfl rfl rfl) rfl rfl Kp.true ?_
  refine Jp.y 43 rfl (qaa rfl) rfl rfl Kp.true (Y.qav rfl rfl rfl) ?_
  refine Jp.y 44 rfl (qaa rfl) rfl rfl Kp.true (Y.move rfl rfl) ?_
  refine Jp.qaq 45 rfl (qab rfl rfl rfl rfl) rfl rfl Kp.true ?_
  refine Jp.qaq 46 rfl (qab rfl rfl rfl rfl) rfl rfl Kp.true ?_
  refine Jp.qaq 47 rfl (qab rfl rfl rfl rfl) rfl rfl Kp.true ?_
  refine Jp.y 48 rfl (qaa rfl) rfl rfl Kp.true (Y.qav rfl rfl rfl) ?_
  refine Jp.y 49 rfl (qaa rfl) rfl rfl Kp.true (Y.move rfl rfl) ?_
  refine Jp.qaq 50 rfl (qab rfl rfl rfl rfl) rfl rfl Kp.true ?_
  refine Jp.qaq 51 rfl (qab rfl rfl rfl rfl) rfl rfl Kp.true ?_
  refine Jp.qaq 52 rfl (qab rfl rfl rfl rfl) rfl rfl Kp.true ?_
  refine Jp.qaq 53 rfl (qab rfl rfl rfl rfl) rfl rfl Kp.true ?_
  refine Jp.y 54 rfl (qaa rfl) rfl rfl Kp.true (Y.qav rfl rfl rfl) ?_
  refine Jp.y 55 rfl (qaa rfl) rfl rfl Kp.true (Y.move rfl rfl) ?_
  refine Jp.qaq 56 rfl (qab rfl rfl rfl rfl) rfl rfl Kp.true ?_
  refine Jp.qaq 57 rfl (qab rfl rfl rfl rfl) rfl rfl Kp.true ?_
  refine Jp.qaq 58 rfl (qab rfl rfl rfl rfl) rfl rfl Kp.true ?_
  refine Jp.qaq 59 rfl (qab rfl rfl rfl rfl) rfl rfl Kp.true ?_
  refine Jp.y 60 rfl (qaa rfl) rfl rfl Kp.true (Y.qav rfl rfl rfl) ?_
  refine Jp.qae hK5 ?_
  refine Cd.qcw rfl ?_
  refine Cd.seq fun K6 hK6=>?_
  refine Cd.qac [(0,false)] rfl rfl ?_
  refine Jp.y 12 rfl (qaa rfl) rfl rfl Kp.true (Y.assign rfl rfl) ?_
  refine Jp.qae hK6 ?_
  refine Cd.ret [] rfl (qbd rfl rfl) trivial ⟨rfl,rfl⟩
 try simp only [sG0] at g29
 refine Jp.y 30 rfl (qab rfl rfl rfl rfl) rfl rfl Kp.true (Y.move rfl rfl) ?_
 refine Jp.y 31 rfl (qab rfl rfl rfl rfl) rfl rfl Kp.true (Y.qbq rfl underlying23 rfl) ?_
 refine Jp.y 32 rfl (qab rfl rfl rfl rfl) rfl rfl Kp.true (Y.gtr rfl rfl rfl) ?_
 refine Jp.y 33 rfl (qaa rfl) rfl rfl Kp.true (Y.qay rfl rfl rfl) ?_
 refine Jp.y 34 rfl (qaa rfl) rfl rfl Kp.true (Y.move rfl rfl) ?_
 refine Jp.split 34 rfl (fun g34=>?_) (fun g34=>?_)
 ·skip
  refine Jp.qaq 35 rfl (qab rfl rfl rfl rfl) rfl rfl Kp.true ?_
  refine Jp.qaq 36 rfl (qab rfl rfl rfl rfl) rfl rfl Kp.true ?_
  refine Jp.qaq 37 rfl (qab rfl rfl rfl rfl) rfl rfl Kp.true ?_
  refine Jp.y 38 rfl (qaa rfl) rfl rfl Kp.true (Y.qav rfl rfl rfl) ?_
  refine Jp.y 39 rfl (qaa rfl) rfl rfl Kp.true (Y.move rfl rfl) ?_
  refine Jp.qaq 40 rfl (qab rfl rfl rfl rfl) rfl rfl Kp.true ?_
  refine Jp.qaq 41 rfl (qab rfl rfl rfl rfl) rfl rfl Kp.true ?_
  refine Jp.qaq 42 rfl (qab rfl rfl rfl rfl) rfl rfl Kp.true ?_
  refine Jp.y 43 rfl (qaa rfl) rfl rfl Kp.true (Y.qav rfl rfl rfl) ?_
  refine Jp.y 44 rfl (qaa rfl) rfl rfl Kp.true (Y.move rfl rfl) ?_
  refine Jp.qaq 45 rfl (qab rfl rfl rfl rfl) rfl rfl Kp.true ?_
  refine Jp.qaq 46 rfl (qab rfl rfl rfl rfl) rfl rfl Kp.true ?_
  refine Jp.qaq 47 rfl (qab rfl rfl rfl rfl) rfl rfl Kp.true ?_
  refine Jp.y 48 rfl (qaa rfl) rfl rfl Kp.true (Y.qav rfl rfl rfl) ?_
  refine Jp.y 49 rfl (qaa rfl) rfl rfl Kp.true (Y.move rfl rfl) ?_
  refine Jp.qaq 50 rfl (qab rfl rfl rfl rfl) rfl rfl Kp.true ?_
  refine Jp.qaq 51 rfl (qab rfl rfl rfl rfl) rfl rfl Kp.true ?_
  refine Jp.qaq 52 rfl (qab rfl rfl rfl rfl) rfl rfl Kp.true ?_
  refine Jp.qaq 53 rfl (qab rfl rfl rfl rfl) rfl rfl Kp.true ?_
  refine Jp.y 54 rfl (qaa rfl) rfl rfl Kp.true (Y.qav rfl rfl rfl) ?_
  refine Jp.y 55 rfl (qaa rfl) rfl rfl Kp.true (Y.move rfl rfl) ?_
  refine Jp.qaq 56 rfl (qab rfl rfl rfl rfl) rfl rfl Kp.true ?_
  refine Jp.qaq 57 rfl (qab rfl rfl rfl rfl) rfl rfl Kp.true ?_
  refine Jp.qaq 58 rfl (qab rfl rfl rfl rfl) rfl rfl Kp.true ?_
  refine Jp.qaq 59 rfl (qab rfl rfl rfl rfl) rfl rfl Kp.true ?_
  refine Jp.y 60 rfl (qaa rfl) rfl rfl Kp.true (Y.qav rfl rfl rfl) ?_
  refine Jp.qae hK5 ?_
  refine Cd.qcw rfl ?_
  refine Cd.seq fun K7 hK7=>?_
  refine Cd.qac [(0,false)] rfl rfl ?_
  refine Jp.y 12 rfl (qaa rfl) rfl rfl Kp.true (Y.assign rfl rfl) ?_
  refine Jp.qae hK7 ?_
  refine Cd.ret [] rfl (qbd rfl rfl) trivial ⟨rfl,rfl⟩
 try simp only [sG0] at g34
 refine Jp.y 35 rfl (qab rfl rfl rfl rfl) rfl rfl Kp.true (Y.move rfl rfl) ?_
 refine Jp.y 36 rfl (qab rfl rfl rfl rfl) rfl rfl Kp.true (Y.qbq rfl underlying23 rfl) ?_
 refine Jp.y 37 rfl (qab rfl rfl rfl rfl) rfl rfl Kp.true (Y.gtr rfl rfl rfl) ?_
 refine Jp.y 38 rfl (qaa rfl) rfl rfl Kp.true (Y.qay rfl rfl rfl) ?_
 refine Jp.y 39 rfl (qaa rfl) rfl rfl Kp.true (Y.move rfl rfl) ?_
 refine Jp.split 39 rfl (fun g39=>?_) (fun g39=>?_)
 ·skip
  refine Jp.qaq 40 rfl (qab rfl rfl rfl rfl) rfl rfl Kp.true ?_
  refine Jp.qaq 41 rfl (qab rfl rfl rfl rfl) rfl rfl Kp.true ?_
  refine Jp.qaq 42 rfl (qab rfl rfl rfl rfl) rfl rfl Kp.true ?_
  refine Jp.y 43 rfl (qaa rfl) rfl rfl Kp.true (Y.qav rfl rfl rfl) ?_
  refine Jp.y 44 rfl (qaa rfl) rfl rfl Kp.true (Y.move rfl rfl) ?_
  refine Jp.qaq 45 rfl (qab rfl rfl rfl rfl) rfl rfl Kp.true ?_
  refine Jp.qaq 46 rfl (qab rfl rfl rfl rfl) rfl rfl Kp.true ?_
  refine Jp.qaq 47 rfl (qab rfl rfl rfl rfl) rfl rfl Kp.true ?_
  refine Jp.y 48 rfl (qaa rfl) rfl rfl Kp.true (Y.qav rfl rfl rfl) ?_
  refine Jp.y 49 rfl (qaa rfl) rfl rfl Kp.true (Y.move rfl rfl) ?_
  refine Jp.qaq 50 rfl (qab rfl rfl rfl rfl) rfl rfl Kp.true ?_
  refine Jp.qaq 51 rfl (qab rfl rfl rfl rfl) rfl rfl Kp.true ?_
  refine Jp.qaq 52 rfl (qab rfl rfl rfl rfl) rfl rfl Kp.true ?_
  refine Jp.qaq 53 rfl (qab rfl rfl rfl rfl) rfl rfl Kp.true ?_
  refine Jp.y 54 rfl (qaa rfl) rfl rfl Kp.true (Y.qav rfl rfl rfl) ?_
  refine Jp.y 55 rfl (qaa rfl) rfl rfl Kp.true (Y.move rfl rfl) ?_
  refine Jp.qaq 56 rfl (qab rfl rfl rfl rfl) rfl rfl Kp.true ?_
  refine Jp.qaq 57 rfl (qab rfl rfl rfl rfl) rfl rfl Kp.true ?_
  refine Jp.qaq 58 rfl (qab rfl rfl rfl rfl) rfl rfl Kp.true ?_
  refine Jp.qaq 59 rfl (qab rfl rfl rfl rfl) rfl rfl Kp.true ?_
  refine Jp.y 60 rfl (qaa rfl) rfl rfl Kp.true (Y.qav rfl rfl rfl) ?_
  refine Jp.qae hK5 ?_
  refine Cd.qcw rfl ?_
  refine Cd.seq fun K8 hK8=>?_
  refine Cd.qac [(0,false)] rfl rfl ?_
  refine Jp.y 12 rfl (qaa rfl) rfl rfl Kp.true (Y.assign rfl rfl) ?_
  refine Jp.qae hK8 ?_
  refine Cd.ret [] rfl (qbd rfl rfl) trivial ⟨rfl,rfl⟩
 try simp only [sG0] at g39
 refine Jp.y 40 rfl (qab rfl rfl rfl rfl) rfl rfl Kp.true (by exact Y.qad rfl rfl underlying27 rfl sizeOf2 (by decide) (show _ + 33 = _ from rfl)) ?_
 refine Jp.y 41 rfl (qab rfl rfl rfl rfl) rfl rfl Kp.true (by exact Y.qbg 9 rfl isAgg2 rfl rfl (HasC.pt hc.cRet)) ?_
 refine Jp.y 42 rfl (qab rfl rfl rfl rfl) rfl rfl Kp.true (Y.lss rfl rfl rfl) ?_
 refine Jp.y 43 rfl (qaa rfl) rfl rfl Kp.true (Y.qay rfl rfl rfl) ?_
 refine Jp.y 44 rfl (qaa rfl) rfl rfl Kp.true (Y.move rfl rfl) ?_
 refine Jp.split 44 rfl (fun g44=>?_) (fun g44=>?_)
 ·skip
  refine Jp.qaq 45 rfl (qab rfl rfl rfl rfl) rfl rfl Kp.true ?_
  refine Jp.qaq 46 rfl (qab rfl rfl rfl rfl) rfl rfl Kp.true ?_
  refine Jp.qaq 47 rfl (qab rfl rfl rfl rfl) rfl rfl Kp.true ?_
  refine Jp.y 48 rfl (qaa rfl) rfl rfl Kp.true (Y.qav rfl rfl rfl) ?_
  refine Jp.y 49 rfl (qaa rfl) rfl rfl Kp.true (Y.move rfl rfl) ?_
  refine Jp.qaq 50 rfl (qab rfl rfl rfl rfl) rfl rfl Kp.true ?_
  refine Jp.qaq 51 rfl (qab rfl rfl rfl rfl) rfl rfl Kp.true ?_
  refine Jp.qaq 52 rfl (qab rfl rfl rfl rfl) rfl rfl Kp.true ?_
  refine Jp.qaq 53 rfl (qab rfl rfl rfl rfl) rfl rfl Kp.true ?_
  refine Jp.y 54 rfl (qaa rfl) rfl rfl Kp.true (Y.qav rfl rfl rfl) ?_
  refine Jp.y 55 rfl (qaa rfl) rfl rfl Kp.true (Y.move rfl rfl) ?_
  refine Jp.qaq 56 rfl (qab rfl rfl rfl rfl) rfl rfl Kp.true ?_
  refine Jp.qaq 57 rfl (qab rfl rfl rfl rfl) rfl rfl Kp.true ?_
  refine Jp.qaq 58 rfl (qab rfl rfl rfl rfl) rfl rfl Kp.true ?_
  refine Jp.qaq 59 rfl (qab rfl rfl rfl rfl) rfl rfl Kp.true ?_
  refine Jp.y 60 rfl (qaa rfl) rfl rfl Kp.true (Y.qav rfl rfl rfl) ?_
  refine Jp.qae hK5 ?_
  refine Cd.qcw rfl ?_
  refine Cd.seq fun K9 hK9=>?_
  refine Cd.qac [(0,false)] rfl rfl ?_
  refine Jp.y 12 rfl (qaa rfl) rfl rfl Kp.true (Y.assign rfl rfl) ?_
  refine Jp.qae hK9 ?_
  refine Cd.ret [] rfl (qbd rfl rfl) trivial ⟨rfl,rfl⟩
 try simp only [sG0] at g44
 refine Jp.y 45 rfl (qab rfl rfl rfl rfl) rfl rfl Kp.true (by exact Y.qad rfl rfl underlying27 rfl sizeOf2 (by decide) (show _ + 33 = _ from rfl)) ?_
 refine Jp.y 46 rfl (qab rfl rfl rfl rfl) rfl rfl Kp.true (by exact Y.qbg 9 rfl isAgg2 rfl rfl (HasC.pt hc.cRet)) ?_
 refine Jp.y 47 rfl (qab rfl rfl rfl rfl) rfl rfl Kp.true (Y.gtr rfl rfl rfl) ?_
 refine Jp.y 48 rfl (qaa rfl) rfl rfl Kp.true (Y.qay rfl rfl rfl) ?_
 refine Jp.y 49 rfl (qaa rfl) rfl rfl Kp.true (Y.move rfl rfl) ?_
 refine Jp.split 49 rfl (fun g49=>?_) (fun g49=>?_)
 ·skip
  refine Jp.qaq 50 rfl (qab rfl rfl rfl rfl) rfl rfl Kp.true ?_
  refine Jp.qaq 51 rfl (qab rfl rfl rfl rfl) rfl rfl Kp.true ?_
  refine Jp.qaq 52 rfl (qab rfl rfl rfl rfl) rfl rfl Kp.true ?_
  refine Jp.qaq 53 rfl (qab rfl rfl rfl rfl) rfl rfl Kp.true ?_
  refine Jp.y 54 rfl (qaa rfl) rfl rfl Kp.true (Y.qav rfl rfl rfl) ?_
  refine Jp.y 55 rfl (qaa rfl) rfl rfl Kp.true (Y.move rfl rfl) ?_
  refine Jp.qaq 56 rfl (qab rfl rfl rfl rfl) rfl rfl Kp.true ?_
  refine Jp.qaq 57 rfl (qab rfl rfl rfl rfl) rfl rfl Kp.true ?_
  refine Jp.qaq 58 rfl (qab rfl rfl rfl rfl) rfl rfl Kp.true ?_
  refine Jp.qaq 59 rfl (qab rfl rfl rfl rfl) rfl rfl Kp.true ?_
  refine Jp.y 60 rfl (qaa rfl) rfl rfl Kp.true (Y.qav rfl rfl rfl) ?_
  refine Jp.qae hK5 ?_
  refine Cd.qcw rfl ?_
  refine Cd.seq fun K10 hK10=>?_
  refine Cd.qac [(0,false)] rfl rfl ?_
  refine Jp.y 12 rfl (qaa rfl) rfl rfl Kp.true (Y.assign rfl rfl) ?_
  refine Jp.qae hK10 ?_
  refine Cd.ret [] rfl (qbd rfl rfl) trivial ⟨rfl,rfl⟩
 try simp only [sG0] at g49
 refine Jp.y 50 rfl (qab rfl rfl rfl rfl) rfl rfl Kp.true (by exact Y.qad rfl rfl underlying31 rfl sizeOf28 (by decide) (show _ + 1 = _ from rfl)) ?_
 refine Jp.y 51 rfl (qab rfl rfl rfl rfl) rfl rfl Kp.true (by exact Y.qau 11 rfl isAgg28 rfl rfl rfl) ?_
 refine Jp.y 52 rfl (qab rfl rfl rfl rfl) rfl rfl Kp.true (Y.qbq rfl underlying28 rfl) ?_
 refine Jp.y 53 rfl (qab rfl rfl rfl rfl) rfl rfl Kp.true (Y.gtr rfl rfl rfl) ?_
 refine Jp.y 54 rfl (qaa rfl) rfl rfl Kp.true (Y.qay rfl rfl rfl) ?_
 refine Jp.y 55 rfl (qaa rfl) rfl rfl Kp.true (Y.move rfl rfl) ?_
 refine Jp.split 55 rfl (fun g55=>?_) (fun g55=>?_)
 ·skip
  refine Jp.qaq 56 rfl (qab rfl rfl rfl rfl) rfl rfl Kp.true ?_
  refine Jp.qaq 57 rfl (qab rfl rfl rfl rfl) rfl rfl Kp.true ?_
  refine Jp.qaq 58 rfl (qab rfl rfl rfl rfl) rfl rfl Kp.true ?_
  refine Jp.qaq 59 rfl (qab rfl rfl rfl rfl) rfl rfl Kp.true ?_
  refine Jp.y 60 rfl (qaa rfl) rfl rfl Kp.true (Y.qav rfl rfl rfl) ?_
  refine Jp.qae hK5 ?_
  refine Cd.qcw rfl ?_
  refine Cd.seq fun K11 hK11=>?_
  refine Cd.qac [(0,false)] rfl rfl ?_
  refine Jp.y 12 rfl (qaa rfl) rfl rfl Kp.true (Y.assign rfl rfl) ?_
  refine Jp.qae hK11 ?_
  refine Cd.ret [] rfl (qbd rfl rfl) trivial ⟨rfl,rfl⟩
 try simp only [sG0] at g55
 refine Jp.y 56 rfl (qab rfl rfl rfl rfl) rfl rfl Kp.true (by exact Y.qad rfl rfl underlying31 rfl sizeOf29 (by decide) (show _ + 2 = _ from rfl)) ?_
 refine Jp.y 57 rfl (qab rfl rfl rfl rfl) rfl rfl Kp.true (by exact Y.qau 11 rfl isAgg29 rfl rfl rfl) ?_
 refine Jp.y 58 rfl (qab rfl rfl rfl rfl) rfl rfl Kp.true (Y.qbq rfl underlying29 rfl) ?_
 refine Jp.y 59 rfl (qab rfl rfl rfl rfl) rfl rfl Kp.true (Y.gtr rfl rfl rfl) ?_
 refine Jp.y 60 rfl (qaa rfl) rfl rfl Kp.true (Y.qay rfl rfl rfl) ?_
 refine Jp.qae hK5 ?_
 refine Cd.qar rfl (fun g60=>?_) (fun g60=>?_)
 ·skip
  refine Cd.seq fun K12 hK12=>?_
  refine Cd.qac [(0,false)] rfl rfl ?_
  refine Jp.y 12 rfl (qaa rfl) rfl rfl Kp.true (Y.assign rfl rfl) ?_
  refine Jp.qae hK12 ?_
  refine Cd.ret [] rfl (qbd rfl rfl) trivial ⟨rfl,rfl⟩
 try simp only [sG0] at g60
 refine Cd.qbu hK4 ?_
 refine Cd.seq fun K13 hK13=>?_
 refine Cd.qac [(0,false),(1,false),(2,false),(3,false),(4,false),(5,false),(6,false),(7,false)] rfl rfl ?_
 have hOk : StOk s:=hc.ok (by omega)
 have hl5 : l.length ≤ 512:=by omega
 refine Jp.y 61 rfl (qaa rfl) rfl rfl Kp.true (Y.move rfl rfl) ?_
 refine Jp.y 62 rfl (qaa rfl) rfl rfl Kp.true (Y.move rfl rfl) ?_
 refine Jp.call [] [0] (qgz A c xs dA dc bs hxs) 63 rfl (qaa rfl) rfl rfl (Runs.fn rfl call6 rfl) (by decide) (by decide) rfl ⟨hr,hrd⟩ ?_
 rintro v2 ρ2 L2 ⟨b,rfl,rfl⟩
 refine ⟨rfl,fun hle2=>⟨Kp.true,?_⟩⟩
 have hr:=RdI.up _ _ _ _ hle2 hr
 have hrd:=RdB.up _ _ _ hle2 hrd
 have hrl:=RdB.up _ _ _ hle2 hrl
 have hsi:=RdSinkGs.up _ _ _ hle2 hsi
 refine Jp.y 64 rfl (qaa rfl) rfl rfl Kp.true (Y.move rfl rfl) ?_
 refine Jp.y 65 rfl (qaa rfl) rfl rfl Kp.true (Y.move rfl rfl) ?_
 refine Jp.call [] [2] (qgz A c xs dA dc bs hxs) 66 rfl (qaa rfl) rfl rfl (Runs.fn rfl call6 rfl) (by decide) (by decide) rfl ⟨hr,hrd⟩ ?_
 rintro v3 ρ3 L3 ⟨b2,rfl,rfl⟩
 refine ⟨rfl,fun hle3=>⟨Kp.true,?_⟩⟩
 have hrl:=RdB.up _ _ _ hle3 hrl
 have hsi:=RdSinkGs.up _ _ _ hle3 hsi
 have hml:=madeD_len13 xs bs
 obtain ⟨M,hM⟩ : ∃ M,madeD xs bs = M:=⟨_,rfl⟩
 rw [hM] at hml ⊢
 clear hM
 refine Jp.y 13 rfl (qaa rfl) rfl rfl Kp.true (Y.assign rfl rfl) ?_
 refine Jp.y 14 rfl (qaa rfl) rfl rfl Kp.true (Y.assign rfl rfl) ?_
 refine Jp.qae hK13 ?_
 refine Cd.seq fun K14 hK14=>?_
 refine Cd.qac [(0,false),(1,false),(2,false),(3,false),(4,false),(5,false)] rfl rfl ?_
 refine Jp.call [] [1] (shNew_spec 100) 68 rfl (qaa rfl) rfl rfl (Runs.fn rfl call7 rfl) (by decide) (by decide) rfl trivial ?_
 rintro v4 ρ4 L4 ⟨rfl,bh,rfl,rfl⟩
 refine ⟨rfl,fun hle4=>⟨Kp.true,?_⟩⟩
 have hSet:=shSet_spec bh ⟨100,[]⟩ 65536 ⟨lA,lc,l⟩ (by decide) (show l.length ≤ 1048576 by omega)
 rw [show setM ⟨100,[]⟩ 65536 (Sl.xs ⟨lA,lc,l⟩) = _ from as_set hl5] at hSet
 refine Jp.y 67 rfl (qaa rfl) rfl rfl Kp.true (Y.move rfl rfl) ?_
 refine Jp.y 69 rfl (qaa rfl) rfl rfl Kp.true (Y.extract rfl rfl rfl) ?_
 refine Jp.y 70 rfl (qaa rfl) rfl rfl Kp.true (Y.extract rfl rfl rfl) ?_
 refine Jp.y 15 rfl (qaa rfl) rfl rfl Kp.true (Y.assign rfl rfl) ?_
 refine Jp.y 16 rfl (qaa rfl) rfl rfl Kp.true (Y.assign rfl rfl) ?_
 refine Jp.qae hK14 ?_
 refine Cd.seq fun K15 hK15=>?_
 refine Cd.qac [(0,false),(1,false),(2,false)] rfl rfl ?_
 refine Jp.y 71 rfl (qaa rfl) rfl rfl Kp.true (Y.move rfl rfl) ?_
 refine Jp.y 72 rfl (qaa rfl) rfl rfl Kp.true (Y.move rfl rfl) ?_
 refine Jp.call [1] [1] hSet 73 rfl (qaa rfl) rfl rfl (Runs.fn rfl call10 rfl) (by decide) (by decide) rfl hrl ?_
 rintro v5 ρ5 L5 ⟨rfl,rfl,rfl⟩
 refine ⟨rfl,fun hle5=>⟨Kp.true,?_⟩⟩
 have hSok : ShOk (layP [] 65536 l):=lay_ok shOk_nil (by omega)
 have hSl:=lay_more (l:=[]) (bs:=l) (a:=65536) shOk_nil (by omega) (N:=2) (by omega)
 obtain ⟨S,hSe⟩ : ∃ S,layP [] 65536 l = S:=⟨_,rfl⟩
 rw [hSe] at hSok hSl ⊢
 simp only [List.length_nil] at hSl
 have hLay:=lay_room M (S:=⟨100,S⟩) X pp (qbs M s.pc).1 s hSok (show S.length + 2 ≤ 100 by omega)
 have hS:=qgq b bh M ⟨100,S⟩ s X ⟨pp,⟨sA,sc,so⟩,⟨kA,kc,ks⟩⟩ hOk hX (show ks.length ≤ 4096 by omega)
 dsimp only at hS
 have hC:=flow_cpu M ⟨100,S⟩ s X pp ks hLay
 have hGx:=flowP_xlen M ⟨100,S⟩ s pp ks hX
 obtain ⟨G,hG⟩ : ∃ G,qgk M ⟨100,S⟩ s X pp ks = G:=⟨_,rfl⟩
 rw [hG] at hS hC hGx
 clear hG
 have hT:=step_spec b2 M s hOk
 have hPl:=stepP_pages13 M s
 have hul:=stepP_len (M:=M) hOk
 obtain ⟨D,hD⟩ : ∃ D,qdo M s = D:=⟨_,rfl⟩
 rw [hD] at hT hC hPl hul
 clear hD
 obtain ⟨u,ev,M'⟩:=D
 obtain ⟨gs,gx,gal,gev,ger,gm,gsh⟩:=G
 dsimp only at hC hGx hT hPl hul
 obtain ⟨rfl,rfl,rfl,rfl⟩:=hC
 have huo:=StP.one gs
 have hux : gs.x.length = 32:=by
  unfold StP.cells qbk at hul
  rw [List.length_append,List.length_map] at hul
  simp only [List.length_cons,List.length_nil] at hul
  omega
 have hel : gev.cells.length = 3:=rfl
 have heo : gev.cells.all one = true:=by unfold EvP.cells; simp [one]
 have hgl : (qaf gx).length = 128:=by rw [qaz,hGx]
 have hgo:=qbe gx
 refine Jp.qae hK15 ?_
 refine Cd.seq fun K16 hK16=>?_
 refine Cd.qac [(0,false),(1,false),(2,false),(3,false),(4,false),(5,false),(6,false),(7,false),(8,false),(9,false),(10,false),(11,false),(12,false),(13,false),(14,false),(15,false),(16,false),(17,false),(18,false),(19,false)] rfl rfl ?_
 refine Jp.y 75 rfl (qaa rfl) rfl rfl Kp.true (Y.move rfl rfl) ?_
 refine Jp.y 76 rfl (qaa rfl) rfl rfl Kp.true (Y.move rfl rfl) ?_
 refine Jp.y 77 rfl (qaa rfl) rfl rfl Kp.true (by exact Y.qah 9 rfl isAgg27 sizeOf27 rfl rfl (by first | rfl | assumption)) ?_
 refine Jp.y 78 rfl (qaa rfl) rfl rfl Kp.true (by exact Y.qah 10 rfl isAgg42 sizeOf42 rfl rfl (by first | rfl | assumption)) ?_
 refine Jp.y 79 rfl (qaa rfl) rfl rfl Kp.true (by exact Y.qah 11 rfl isAgg31 sizeOf31 rfl rfl (by first | rfl | assumption)) ?_
 refine Jp.call [0,1] [0,1,20] hS 80 rfl (qaa rfl) rfl rfl (Runs.fn rfl call8 rfl) (by decide) (by decide) rfl hsi ?_
 rintro v6 ρ6 L6 ⟨AA,cc,rfl,rfl⟩
 refine ⟨rfl,fun hle6=>⟨Kp.true,?_⟩⟩
 refine Jp.y 74 rfl (qaa rfl) rfl rfl Kp.true (Y.move rfl rfl) ?_
 refine Jp.y 81 rfl (qaa rfl) rfl rfl Kp.true (Y.extract rfl rfl rfl) ?_
 refine Jp.y 82 rfl (qaa rfl) rfl rfl Kp.true (Y.extract rfl rfl rfl) ?_
 refine Jp.y 83 rfl (qaa rfl) rfl rfl Kp.true (Y.extract rfl rfl rfl) ?_
 refine Jp.y 84 rfl (qaa rfl) rfl rfl Kp.true (Y.extract rfl rfl rfl) ?_
 refine Jp.y 85 rfl (qaa rfl) rfl rfl Kp.true (Y.extract rfl rfl rfl) ?_
 refine Jp.alloc 17 17 rfl (qaa rfl) rfl rfl rfl zeroValue27 fun b17=>⟨Kp.true,?_⟩
 refine Jp.alloc 18 18 rfl (qaa rfl) rfl rfl rfl zeroValue42 fun b18=>⟨Kp.true,?_⟩
 refine Jp.alloc 15 20 rfl (qaa rfl) rfl rfl rfl zeroValue46 fun b15=>⟨Kp.true,?_⟩
 refine Jp.qai 17 rfl (qaa rfl) rfl rfl sizeOf27 rfl rfl (by first | rfl | assumption) (by first | rfl | assumption) rfl (by first | rfl | assumption) (fun k _ _=>qas k) Kp.true ?_
 refine Jp.qai 18 rfl (qaa rfl) rfl rfl sizeOf42 rfl rfl (by first | rfl | assumption) (by first | rfl | assumption) rfl (by first | rfl | assumption) (fun k _ _=>qas k) Kp.true ?_
 refine Jp.y 19 rfl (qaa rfl) rfl rfl Kp.true (Y.assign rfl rfl) ?_
 refine Jp.qai 15 rfl (qaa rfl) rfl rfl sizeOf46 rfl rfl (by first | rfl | assumption) (by first | rfl | assumption) rfl (by first | rfl | assumption) (fun k _ _=>qas k) Kp.true ?_
 refine Jp.y 21 rfl (qaa rfl) rfl rfl Kp.true (Y.assign rfl rfl) ?_
 refine Jp.qae hK16 ?_
 refine Cd.seq fun K17 hK17=>?_
 refine Cd.qac [(0,false),(1,false),(2,false),(3,false),(4,false),(5,false),(6,false),(7,false),(8,false),(9,false)] rfl rfl ?_
 refine Jp.y 87 rfl (qaa rfl) rfl rfl Kp.true (Y.move rfl rfl) ?_
 refine Jp.y 88 rfl (qaa rfl) rfl rfl Kp.true (by first | exact Y.qah 9 rfl isAgg27 sizeOf27 rfl rfl (by first | rfl | assumption)) ?_
 refine Jp.call [2] [2] hT 89 rfl (qaa rfl) rfl rfl (Runs.fn rfl call11 rfl) (by decide) (by decide) rfl trivial ?_
 rintro v7 ρ7 L7 ⟨rfl,rfl,rfl⟩
 refine ⟨rfl,fun hle7=>⟨Kp.true,?_⟩⟩
 refine Jp.y 86 rfl (qaa rfl) rfl rfl Kp.true (Y.move rfl rfl) ?_
 refine Jp.y 90 rfl (qaa rfl) rfl rfl Kp.true (Y.extract rfl rfl rfl) ?_
 refine Jp.y 91 rfl (qaa rfl) rfl rfl Kp.true (Y.extract rfl rfl rfl) ?_
 refine Jp.alloc 22 22 rfl (qaa rfl) rfl rfl rfl zeroValue27 fun b22=>⟨Kp.true,?_⟩
 refine Jp.alloc 23 23 rfl (qaa rfl) rfl rfl rfl zeroValue46 fun b23=>⟨Kp.true,?_⟩
 refine Jp.qai 22 rfl (qaa rfl) rfl rfl sizeOf27 rfl rfl (by first | rfl | assumption) (by first | rfl | assumption) rfl (by first | rfl | assumption) (fun k _ _=>qas k) Kp.true ?_
 refine Jp.qai 23 rfl (qaa rfl) rfl rfl sizeOf46 rfl rfl (by first | rfl | assumption) (by first | rfl | assumption) rfl (by first | rfl | assumption) (fun k _ _=>qas k) Kp.true ?_
 refine Jp.qae hK17 ?_
 refine Cd.seq fun K18 hK18=>?_
 refine Cd.qac [(0,false),(1,false),(2,false),(3,false),(4,false),(5,false),(6,false),(7,false),(8,false),(9,false),(10,false),(11,false),(12,false),(13,false),(14,false),(15,false),(16,false),(17,false),(18,false),(19,false)] rfl rfl ?_
 refine Jp.y 92 rfl (qaa rfl) rfl rfl Kp.true (Y.move rfl rfl) ?_
 refine Jp.y 93 rfl (qaa rfl) rfl rfl Kp.true (Y.eql rfl rfl rfl) ?_
 refine Jp.y 94 rfl (qaa rfl) rfl rfl Kp.true (Y.move rfl rfl) ?_
 refine Jp.slot 94 rfl (show _ = Value.bool true from rfl) ?_
 refine Jp.y 95 rfl (qab rfl rfl rfl rfl) rfl rfl Kp.true (by exact Y.qah 17 rfl isAgg27 sizeOf27 rfl rfl (by first | rfl | assumption)) ?_
 refine Jp.y 96 rfl (qab rfl rfl rfl rfl) rfl rfl Kp.true (by exact Y.qah 22 rfl isAgg27 sizeOf27 rfl rfl (by first | rfl | assumption)) ?_
 refine Jp.y 97 rfl (qab rfl rfl rfl rfl) rfl rfl Kp.true (Y.eqlS (xs:=gs.cells.toArray) (ys:=gs.cells.toArray) (r:=true) rfl rfl rfl st_guard st_fields st_stood (fun w=>by rw [st_eq gs gs hux hux w,(stEq_iff _ _).2 rfl])) ?_
 refine Jp.y 98 rfl (qaa rfl) rfl rfl Kp.true (Y.qav rfl rfl rfl) ?_
 refine Jp.y 99 rfl (qaa rfl) rfl rfl Kp.true (Y.move rfl rfl) ?_
 refine Jp.slot 99 rfl (show _ = Value.bool true from rfl) ?_
 refine Jp.y 100 rfl (qab rfl rfl rfl rfl) rfl rfl Kp.true (by exact Y.qah 15 rfl isAgg46 sizeOf46 rfl rfl (by first | rfl | assumption)) ?_
 refine Jp.y 101 rfl (qab rfl rfl rfl rfl) rfl rfl Kp.true (by exact Y.qah 23 rfl isAgg46 sizeOf46 rfl rfl (by first | rfl | assumption)) ?_
 refine Jp.y 102 rfl (qab rfl rfl rfl rfl) rfl rfl Kp.true (Y.eqlS (xs:=gev.cells.toArray) (ys:=gev.cells.toArray) (r:=true) rfl rfl rfl ev_guard ev_fields ev_stood (fun w=>by rw [ev_eq,(evEq_iff _ _).2 rfl])) ?_
 refine Jp.y 103 rfl (qaa rfl) rfl rfl Kp.true (Y.qav rfl rfl rfl) ?_
 refine Jp.y 104 rfl (qaa rfl) rfl rfl Kp.true (Y.move rfl rfl) ?_
 refine Jp.slot 104 rfl (show _ = Value.bool true from rfl) ?_
 refine Jp.know (A:=qew b gm) 0 rfl memO_okM fun hmem=>?_
 have hpl : ∀ y ∈ gm.pages,y.2.b.length = 256:=fun y hy=>(hmem.page y hy).len
 refine Jp.y 105 rfl (qab rfl rfl rfl rfl) rfl rfl Kp.true (Y.move rfl rfl) ?_
 refine Jp.call [0] [0,30,31] (mem2_spec b gm 50 (sorts12 _ (by omega))) 106 rfl (qab rfl rfl rfl rfl) rfl rfl (Runs.fn rfl call13 rfl) (by decide) (by decide) rfl trivial ?_
 rintro v8 ρ8 L8 ⟨b3,PA,pcap,rfl,rfl⟩
 refine ⟨rfl,fun hle8=>⟨Kp.true,?_⟩⟩
 refine Jp.y 107 rfl (qab rfl rfl rfl rfl) rfl rfl Kp.true (Y.move rfl rfl) ?_
 refine Jp.call [2] [2,32,33] (mem2_spec b2 gm 50 (sorts12 _ (by omega))) 108 rfl (qab rfl rfl rfl rfl) rfl rfl (Runs.fn rfl call13 rfl) (by decide) (by decide) rfl trivial ?_
 rintro v9 ρ9 L9 ⟨b4,PB,pcb,rfl,rfl⟩
 refine ⟨rfl,fun hle9=>⟨Kp.true,?_⟩⟩
 refine Jp.call [30,31,32,33] [] (sameMem_spec b3 b4 gm.pages hpl (by omega) 50 50 PA PB none none pcap pcb 0 0 0 0) 109 rfl (qab rfl rfl rfl rfl) rfl rfl (Runs.fn rfl call12 rfl) (by decide) (by decide) rfl trivial ?_
 rintro v10 ρ10 L10 ⟨rfl,rfl,rfl⟩
 refine ⟨rfl,fun hle10=>⟨Kp.true,?_⟩⟩
 refine Jp.y 110 rfl (qaa rfl) rfl rfl Kp.true (Y.qav rfl rfl rfl) ?_
 refine Jp.y 12 rfl (qaa rfl) rfl rfl Kp.true (Y.assign rfl rfl) ?_
 refine Jp.qae hK18 ?_
 refine Cd.ret [] rfl (qbd rfl rfl) trivial ⟨rfl,rfl⟩
end Go.Proofs.YtnfkalpgidiafaaGreat

namespace Go.Proofs.YtnfkalpgidiafaaGreat
open _root_.Go.Proofs.Tryz
open Go Go.ChangeShapes Go.WideShapes Go.ChangeAt Go.RowKit
theorem qff : Tryz.prog.cellsOf 3 = 1:=by kernel_rfl
theorem qgr : Tryz.prog.cellsOf 24 = 1:=by kernel_rfl
theorem qhy : Tryz.prog.cellsOf 5 = 1:=by kernel_rfl
theorem qfy : Tryz.prog.cellsOf 215 = 4:=by kernel_rfl
theorem bytes_215_PolRd : 1 ≤ Tryz.prog.bytesOf 215:=of_decide_eq_true (by kernel_rfl)
theorem Rdd.rSourceG {w : World} {cs : List Value} (h : Rdd Tryz.prog w 215 cs) : ∃ x : SourceG,cs = x.cells ∧ x.Rd (whole w):=by
 obtain ⟨h1,h3⟩:=Rdd.struct underlying215 h
 rw [qfy] at h1
 match cs,h1 with
 | [c0,c1,c2,c3],_ =>
  have f0:=Rdd.cut [c0] (h3 0 _ rfl) qff rfl
  obtain ⟨x0,q0,r0⟩:=Rdd.int underlying3 f0
  injection q0 with q0
  have f1:=Rdd.cut [c1] (h3 1 _ rfl) qgr rfl
  obtain ⟨z1,q1,w1⟩:=Rdd.int underlying24 f1
  obtain ⟨x1,rfl,r1⟩:=wf_u32 w1
  injection q1 with q1
  have f2:=Rdd.cut [c2] (h3 2 _ rfl) qgr rfl
  obtain ⟨z2,q2,w2⟩:=Rdd.int underlying24 f2
  obtain ⟨x2,rfl,r2⟩:=wf_u32 w2
  injection q2 with q2
  have f3:=Rdd.cut [c3] (h3 3 _ rfl) qhy rfl
  obtain ⟨z3,q3,w3⟩:=Rdd.int underlying5 f3
  obtain ⟨x3,rfl,r3⟩:=wf_u8 w3
  injection q3 with q3
  exact ⟨⟨x0,x1,x2,x3⟩,by rw [q0,q1,q2,q3]; rfl,⟨r0,r1,r2,r3⟩⟩
theorem Rdd.rSourceGs {w : World} {t : TypeId} {cs : List Value} (hu : Tryz.prog.underlying t = some (.slice 215)) (h : Rdd Tryz.prog w t cs) : ∃ s : Sl SourceG,cs = [s.v] ∧ RdSourceGs s (whole w):=by
 obtain ⟨A,len,cap,rows,e0,hl,hrow,hrd⟩:=Rdd.slice hu qfy bytes_215_PolRd h
 obtain ⟨xs,rfl,hx⟩:=rows_of (c:=SourceG.cells) (I:=fun x=>x.Rd (whole w)) (fun r hr=>Rdd.rSourceG (hrow r hr).2)
 rw [List.length_map] at hl
 subst hl
 exact ⟨⟨A,cap,xs⟩,e0,by rw [← List.flatMap_def] at hrd; exact hrd,hx⟩
theorem qfz : Tryz.prog.cellsOf 154 = 3:=by kernel_rfl
theorem bytes_154_PolRd : 1 ≤ Tryz.prog.bytesOf 154:=of_decide_eq_true (by kernel_rfl)
theorem Rdd.rSinkG {w : World} {cs : List Value} (h : Rdd Tryz.prog w 154 cs) : ∃ x : SinkG,cs = x.cells ∧ x.Rd (whole w):=by
 obtain ⟨h1,h3⟩:=Rdd.struct underlying154 h
 rw [qfz] at h1
 match cs,h1 with
 | [c0,c1,c2],_ =>
  have f0:=Rdd.cut [c0] (h3 0 _ rfl) qff rfl
  obtain ⟨x0,q0,r0⟩:=Rdd.int underlying3 f0
  injection q0 with q0
  have f1:=Rdd.cut [c1] (h3 1 _ rfl) qff rfl
  obtain ⟨x1,q1,r1⟩:=Rdd.int underlying3 f1
  injection q1 with q1
  have f2:=Rdd.cut [c2] (h3 2 _ rfl) qhy rfl
  obtain ⟨z2,q2,w2⟩:=Rdd.int underlying5 f2
  obtain ⟨x2,rfl,r2⟩:=wf_u8 w2
  injection q2 with q2
  exact ⟨⟨x0,x1,x2⟩,by rw [q0,q1,q2]; rfl,⟨r0,r1,r2⟩⟩
theorem Rdd.rSinkGs {w : World} {t : TypeId} {cs : List Value} (hu : Tryz.prog.underlying t = some (.slice 154)) (h : Rdd Tryz.prog w t cs) : ∃ s : Sl SinkG,cs = [s.v] ∧ RdSinkGs s (whole w):=by
 obtain ⟨A,len,cap,rows,e0,hl,hrow,hrd⟩:=Rdd.slice hu qfz bytes_154_PolRd h
 obtain ⟨xs,rfl,hx⟩:=rows_of (c:=SinkG.cells) (I:=fun x=>x.Rd (whole w)) (fun r hr=>Rdd.rSinkG (hrow r hr).2)
 rw [List.length_map] at hl
 subst hl
 exact ⟨⟨A,cap,xs⟩,e0,by rw [← List.flatMap_def] at hrd; exact hrd,hx⟩
theorem cells_4_PolRd : Tryz.prog.cellsOf 4 = 1:=by kernel_rfl
theorem cells_28_PolRd : Tryz.prog.cellsOf 28 = 1:=by kernel_rfl
theorem cells_29_PolRd : Tryz.prog.cellsOf 29 = 1:=by kernel_rfl
theorem cells_31_PolRd : Tryz.prog.cellsOf 31 = 3:=by kernel_rfl
theorem Rdd.rPolG {w : World} {cs : List Value} (h : Rdd Tryz.prog w 31 cs) : ∃ x : PolG,cs = x.cells ∧ x.Rd (whole w):=by
 obtain ⟨h1,h3⟩:=Rdd.struct underlying31 h
 rw [cells_31_PolRd] at h1
 match cs,h1 with
 | [c0,c1,c2],_ =>
  have f0:=Rdd.cut [c0] (h3 0 _ rfl) cells_4_PolRd rfl
  obtain ⟨x0,q0⟩:=Rdd.bool underlying4 f0
  injection q0 with q0
  have f1:=Rdd.cut [c1] (h3 1 _ rfl) cells_28_PolRd rfl
  obtain ⟨x1,q1,r1⟩:=Rdd.rSourceGs underlying28 f1
  injection q1 with q1
  have f2:=Rdd.cut [c2] (h3 2 _ rfl) cells_29_PolRd rfl
  obtain ⟨x2,q2,r2⟩:=Rdd.rSinkGs underlying29 f2
  injection q2 with q2
  exact ⟨⟨x0,x1,x2⟩,by rw [q0,q1,q2]; rfl,⟨trivial,r1,r2⟩⟩
end Go.Proofs.YtnfkalpgidiafaaGreat

namespace Go.Proofs.YtnfkalpgidiafaaGreat
open _root_.Go.Proofs.Tryz
open Go Go.ChangeShapes Go.WideShapes Go.ChangeAt Go.RowKit
theorem scells_u32 : Tryz.prog.cellsOf 24 = 1:=by kernel_rfl
theorem scells_i64 : Tryz.prog.cellsOf 2 = 1:=by kernel_rfl
theorem scells_arr : Tryz.prog.cellsOf 25 = 32:=by kernel_rfl
theorem scells_st : Tryz.prog.cellsOf 27 = 34:=by kernel_rfl
theorem three_cut {cs : List Value} (h : cs.length = 34) : cs = (cs.drop 0).take 32 ++ ((cs.drop 32).take 1 ++ (cs.drop 33).take 1):=by
 rw [List.drop_zero]
 apply List.ext_getElem?
 intro i
 by_cases h1 : i < 32
 ·rw [List.getElem?_append_left (by rw [List.length_take]; omega),List.getElem?_take_of_lt h1]
 ·rw [List.getElem?_append_right (by rw [List.length_take]; omega),List.length_take,show min 32 cs.length = 32 by omega]
  rcases (show i = 32 ∨ i = 33 ∨ 34 ≤ i by omega) with rfl | rfl | h2
  ·rw [List.getElem?_append_left (by simp [h])]; simp
  ·rw [List.getElem?_append_right (by simp [h])]; simp [h]
  ·rw [List.getElem?_eq_none (by omega),List.getElem?_eq_none (by simp; omega)]
theorem Rdd.stW {w : World} {cs : List Value} (h : Rdd Tryz.prog w 27 cs) : ∃ s : StP,cs = s.cells ∧ StRd s:=by
 obtain ⟨h1,h3⟩:=Rdd.struct underlying27 h
 rw [scells_st] at h1
 have f0:=Rdd.cut ((cs.drop 0).take 32) (h3 0 _ rfl) scells_arr rfl
 obtain ⟨x,q0,r0,r1⟩:=Rdd.arrN wfn_u32 underlying25 underlying24 scells_u32 scells_arr f0
 have f1:=Rdd.cut ((cs.drop 32).take 1) (h3 1 _ rfl) scells_u32 rfl
 obtain ⟨z1,q1,w1⟩:=Rdd.int underlying24 f1
 obtain ⟨pc,rfl,hpc⟩:=wf_u32 w1
 have f2:=Rdd.cut ((cs.drop 33).take 1) (h3 2 _ rfl) scells_i64 rfl
 obtain ⟨ret,q2,r2⟩:=Rdd.int underlying2 f2
 refine ⟨⟨x,pc,ret⟩,?_,⟨r0,r1,hpc,wf_i64 r2⟩⟩
 rw [three_cut h1,q0,q1,q2]
 simp [StP.cells,qbk]
end Go.Proofs.YtnfkalpgidiafaaGreat

namespace Go.Proofs.YtnfkalpgidiafaaGreat
open _root_.Go.Proofs.Tryz
open Go Go.ChangeShapes Go.WideShapes Go.ChangeAt Go.RowKit
theorem qhz : Tryz.prog.cellsOf 5 = 1:=by kernel_rfl
theorem qia : 1 ≤ Tryz.prog.bytesOf 5:=of_decide_eq_true (by kernel_rfl)
theorem cells_24_L13Rb : Tryz.prog.cellsOf 24 = 1:=by kernel_rfl
theorem bytes_24_L13Rb : 1 ≤ Tryz.prog.bytesOf 24:=of_decide_eq_true (by kernel_rfl)
theorem w4 (W : World) {b : Nat} (v0 v1 v2 v3 v4 v5 : Value) (o0 : Value.okWide Tryz.prog W .any b 22 v0) (o1 : Value.okWide Tryz.prog W .any b 23 v1) (o2 : Value.okWide Tryz.prog W .any b 23 v2) (o3 : Value.okWide Tryz.prog W .any b 27 v3) (o4 : Value.okWide Tryz.prog W .any b 42 v4) (o5 : Value.okWide Tryz.prog W .any b 31 v5) (q0 : Rdd Tryz.prog W 22 v0.cells.toList) (q1 : Rdd Tryz.prog W 23 v1.cells.toList) (q2 : Rdd Tryz.prog W 23 v2.cells.toList) (q3 : Rdd Tryz.prog W 27 v3.cells.toList) (q4 : Rdd Tryz.prog W 42 v4.cells.toList) (q5 : Rdd Tryz.prog W 31 v5.cells.toList) :
  Calls Tryz.prog 4 #[v0,v1,v2,v3,v4,v5] W fun e w'=>e = .returned (.bool true) ∧ Below W.heap.size W w':=by
 obtain ⟨s0,e0,r0,f0⟩:=Rdd.ints underlying22 underlying24 cells_24_L13Rb bytes_24_L13Rb q0
 obtain rfl:=val_slice (w:=W) underlying22 o0 e0
 obtain ⟨s1,e1,r1⟩:=Rdd.u8s underlying23 underlying5 qhz qia q1
 obtain rfl:=val_slice (w:=W) underlying23 o1 e1
 obtain ⟨s2,e2,r2⟩:=Rdd.u8s underlying23 underlying5 qhz qia q2
 obtain rfl:=val_slice (w:=W) underlying23 o2 e2
 obtain ⟨s3,e3,r3⟩:=Rdd.stW q3
 obtain rfl:=val_struct (w:=W) underlying27 o3 e3
 obtain ⟨s4,e4,r4⟩:=Rdd.labelsW q4
 obtain rfl:=val_array (w:=W) underlying42 o4 e4
 obtain ⟨s5,e5,r5⟩:=Rdd.rPolG q5
 obtain rfl:=val_struct (w:=W) underlying31 o5 e5
 exact (flowAsCpu_spec s0.A s0.c s0.xs s1.A s1.c s1.xs s2.A s2.c s2.xs s3 s4 s5 (fun x hx=>wf_u32 (f0 x hx)) r3 r4).walk W ⟨r0,r1,r2,r5⟩
end Go.Proofs.YtnfkalpgidiafaaGreat
