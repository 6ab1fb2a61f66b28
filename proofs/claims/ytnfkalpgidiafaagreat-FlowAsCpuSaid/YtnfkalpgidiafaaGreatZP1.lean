import Derived.Test.YtnfkalpgidiafaaGreatZP0
import Derived.RangeFuncLeaves
import Derived.RangeFuncRecord
import Derived.Test.YtnfkalpgidiafaaGreatRows
import Derived.WalkKit
import Derived.ProofKit
import Derived.OpenShut
import Derived.ChangeOld
import Derived.Below
import Derived.SizedLaws
import Derived.Laws.StandIn
import Derived.Test.YtnfkalpgidiafaaGreatProg
import Derived.Lib.Bytealg
import Derived.Lib.IndexLaws
set_option linter.unusedVariables false
set_option linter.unusedSimpArgs false
set_option maxRecDepth 100000
namespace Go.Proofs.YtnfkalpgidiafaaGreat
open Go
section
variable {P : Program} {n : Nat} {cx : Cx} {ρ : Hp} {E : Env} {L : Own} {o : Oper} {ops : Array Oper} {Q : Exit → Act → World → Prop} {S' : World → Prop} {π : List (Nat × Bool)} {i : Nat} {v : Value}
abbrev qcp:=List (Int × Value)
def qeg (es : Array MapEntry) (clock : Nat) : Prop:=(es.toList.map (·.born)).Nodup ∧ ∀ e ∈ es.toList,e.born < clock
def qcn (kk : IntKind) (b : Nat) (m : qcp) : qax:=fun h=>∃ es clock,h b = some (.map es clock) ∧ qeg es clock ∧ es.toList.map (fun e=>(e.key,e.val)) = m.map fun x=>(Value.int kk x.1,x.2)
def qde (k : Int) : qcp → Nat → Option (Nat × Value)
 | [],_=>none
 | (x,v) :: m,i=>if k == x then some (i,v) else qde k m (i + 1)
def qhm (m : qcp) (k : Int) : Option Value:=(qde k m 0).map (·.2)
def qgy (m : qcp) (k : Int) (v : Value) : qcp:=match qde k m 0 with
 | some (i,_)=>m.set i (k,v)
 | none=>m ++ [(k,v)]
def mdel (m : qcp) (k : Int) : qcp:=match qde k m 0 with
 | some (i,_)=>m.eraseIdx i
 | none=>m
theorem findNow_int (kk kt : IntKind) (k : Int) : ∀ (l : List MapEntry) (m : qcp) (i : Nat),l.map (fun e=>(e.key,e.val)) = m.map (fun x=>(Value.int kk x.1,x.2)) → Instr.findNow (.int kt) (.int kk k) l i = some (qde k m i):=by
 intro l
 induction l with
 | nil=>intro m i h; cases m with
  | nil=>rfl
  | cons x m=>simp at h
 | cons e l ih =>
  intro m i h
  cases m with
  | nil=>simp at h
  | cons x m =>
   obtain ⟨x,v⟩:=x
   simp only [List.map_cons,List.cons.injEq,Prod.mk.injEq] at h
   obtain ⟨⟨h1,h2⟩,h3⟩:=h
   rw [Instr.findNow,h1]
   simp only [Instr.sameNow,if_true,qde]
   cases hx : k == x with
   | true=>simp [h2]
   | false=>simpa using ih m (i + 1) h3
theorem qfa {kt kk : IntKind} {t : TypeId} {k : Int} {es : Array MapEntry} {m : qcp} (ht : P.underlying t = some (.int kt)) (h : es.toList.map (fun e=>(e.key,e.val)) = m.map fun x=>(Value.int kk x.1,x.2)) (w : World) :
  (Instr.findKey t (.int kk k) es.toList).run P w = .ok (qde k m 0) w:=by
 simp only [Instr.findKey,Sem.run_bind,run_underlying ht,Result.andThen_ok,findNow_int kk kt k es.toList m 0 h,Sem.run_pure]
theorem qef {kt kk : IntKind} {t : TypeId} {k : Int} (e : Bool) (d : Nat) (ht : P.underlying t = some (.int kt)) (w : World) : (Instr.checkKey e (d + 1) t (.int kk k)).run P w = .ok () w:=by
 simp only [Instr.checkKey,Sem.run_bind,run_underlying ht,Result.andThen_ok,Sem.run_pure]
theorem qhn {es : Array MapEntry} {m : qcp} {kk : IntKind} (h : es.toList.map (fun e=>(e.key,e.val)) = m.map fun x=>(Value.int kk x.1,x.2)) : es.size = m.length:=by
 have:=congrArg List.length h
 simpa using this
theorem qbw {w : World} {b : Nat} {es : Array MapEntry} {c : Nat} (h : w.heap[b]? = some (.map es c)) : (getObj b).run P w = .ok (.map es c) w:=by
 simp only [getObj,Sem.run,h]
theorem qdw {w : World} {b : Nat} {es : Array MapEntry} {c : Nat} {ob : Obj} (h : w.heap[b]? = some (.map es c)) : (setObj b ob).run P w = .ok () { w with heap:=w.heap.setIfInBounds b ob }:=by
 simp only [setObj,Sem.run,h]
theorem qgf {w : World} (hs : St cx ρ L w) {j b : Nat} {kk : IntKind} {m : qcp} (hj : look L j = some (qcn kk b m)) : ∃ es clock,w.heap[b]? = some (.map es clock) ∧ qeg es clock ∧ es.toList.map (fun e=>(e.key,e.val)) = m.map fun x=>(Value.int kk x.1,x.2):=by
 obtain ⟨hh,⟨es,clock,h1,hst,h2⟩,hw⟩:=hs.get hj
 exact ⟨es,clock,hw _ _ h1,hst,h2⟩
theorem run_lookup {w : World} {t kt et : TypeId} {ki kk : IntKind} {b : Nat} {k : Int} {z : Value} {es : Array MapEntry} {clock : Nat} {m : qcp} (ok : Bool) (hT : P.underlying t = some (.map kt et)) (hK : P.underlying kt = some (.int ki)) (hz : ∀ w,(zeroValue et).run P w = .ok z w)
  (hb : w.heap[b]? = some (.map es clock)) (h : es.toList.map (fun e=>(e.key,e.val)) = m.map fun x=>(Value.int kk x.1,x.2)) :
  (Instr.lookup t (.map (some b)) (.int kk k) ok).run P w = .ok (if ok then .tuple #[(qhm m k).getD z,.bool (qhm m k).isSome] else (qhm m k).getD z) w:=by
 have hf:=qfa (P:=P) (kt:=ki) (k:=k) hK h w
 have hc:=qef (P:=P) (kt:=ki) (kk:=kk) (k:=k) es.isEmpty 9999 hK w
 simp only [Instr.lookup,Sem.run_bind,run_underlying hT,Result.andThen_ok,qbw hb,Sem.run_pure,hc,hf]
 cases hx : qde k m 0 with
 | none=>simp only [qhm,hx,hz,Sem.run_bind,Result.andThen_ok,Sem.run_pure]; rfl
 | some p=>obtain ⟨q,v⟩:=p; simp only [qhm,hx,Sem.run_pure,Result.andThen_ok]; rfl
theorem Y.lookup (j : Nat) {x y : Operand} {t kt et : TypeId} {ki kk : IntKind} {b : Nat} {k : Int} {z : Value} {m : qcp} (hop : o.op = .lookup t x y false) (hx : evE E x = some (.map (some b))) (hy : evE E y = some (.int kk k)) (hT : P.underlying t = some (.map kt et)) (hK : P.underlying kt = some (.int ki)) (hz : ∀ w,(zeroValue et).run P w = .ok z w)
  (hj : look L j = some (qcn kk b m)) : Y P n cx ρ E L o ((qhm m k).getD z):=fun ac w ha hs=>by
 obtain ⟨es,clock,h1,hst,h2⟩:=qgf hs hj
 simp only [execOp,hop,ha.ev hx,ha.ev hy,Sem.run_bind,run_lookup false hT hK hz h1 h2,Result.andThen_ok,Sem.run_pure]; rfl
theorem St.setMap {w : World} (hs : St cx ρ L w) {j b : Nat} {kk : IntKind} {m m' : qcp} (hj : look L j = some (qcn kk b m)) {es es' : Array MapEntry} {clock clock' : Nat} (hb : w.heap[b]? = some (.map es clock)) (hst : qeg es' clock')
  (h : es'.toList.map (fun e=>(e.key,e.val)) = m'.map fun x=>(Value.int kk x.1,x.2)) : St cx ρ ((j,qcn kk b m') :: L) { w with heap:=w.heap.setIfInBounds b (.map es' clock') }:=by
 refine hs.setA hj (b:=b) (ob:=.map es clock) (ob':=.map es' clock') (fun h' hh' hw'=>?_) (fun h' hb'=>⟨es',clock',hb',hst,h⟩) ?_ ?_ ?_ rfl rfl rfl
 ·obtain ⟨e2,c2,p1,_,_⟩:=hh'
  have:=hw' _ _ p1
  rw [hb] at this
  rw [p1,← this]
 ·have:=qco hb
  simp [this]
 ·intro p hp; simp [Array.getElem?_setIfInBounds,Ne.symm hp]
 ·simp
theorem findI_some {k : Int} : ∀ {m : qcp} {i q : Nat} {v : Value},qde k m i = some (q,v) → i ≤ q ∧ m[q - i]? = some (k,v):=by
 intro m
 induction m with
 | nil=>intro i q v h; cases h
 | cons x m ih =>
  intro i q v h
  obtain ⟨x,u⟩:=x
  simp only [qde] at h
  split at h
  ·rename_i hx
   injection h with h
   injection h with h1 h2
   subst h1 h2
   have:=eq_of_beq hx
   subst this
   simp
  ·obtain ⟨h1,h2⟩:=ih h
   refine ⟨by omega,?_⟩
   have : q - i = (q - (i + 1)) + 1:=by omega
   rw [this]; simpa using h2
theorem run_mapUpdate {w : World} {t kt et : TypeId} {ki kk : IntKind} {b : Nat} {k : Int} {es : Array MapEntry} {clock : Nat} {m : qcp} (hT : P.underlying t = some (.map kt et)) (hK : P.underlying kt = some (.int ki))
  (hb : w.heap[b]? = some (.map es clock)) (hs : qeg es clock) (h : es.toList.map (fun e=>(e.key,e.val)) = m.map fun x=>(Value.int kk x.1,x.2)) :
  ∃ es' clock',qeg es' clock' ∧ (Instr.mapUpdate t (.map (some b)) (.int kk k) v).run P w = .ok () { w with heap:=w.heap.setIfInBounds b (.map es' clock') } ∧ es'.toList.map (fun e=>(e.key,e.val)) = (qgy m k v).map fun x=>(Value.int kk x.1,x.2):=by
 have hf:=qfa (P:=P) (kt:=ki) (k:=k) hK h w
 have hc:=qef (P:=P) (kt:=ki) (kk:=kk) (k:=k) false 9999 hK w
 cases hx : qde k m 0 with
 | none =>
  refine ⟨es.push { key:=.int kk k,val:=v,born:=clock },clock + 1,⟨?_,?_⟩,?_,?_⟩
  ·rw [Array.toList_push,List.map_append,List.nodup_append]
   refine ⟨hs.1,by simp,fun x hx y hy=>?_⟩
   obtain ⟨e,he,rfl⟩:=List.mem_map.1 hx
   simp at hy
   have:=hs.2 e he
   omega
  ·intro e he
   rw [Array.toList_push,List.mem_append] at he
   rcases he with he | he
   ·have:=hs.2 e he; omega
   ·simp at he; subst he; show clock < clock + 1; omega
  ·simp only [Instr.mapUpdate,Sem.run_bind,run_underlying hT,Result.andThen_ok,qbw hb,hc,hf,hx,qdw hb]
  ·simp only [qgy,hx,Array.toList_push,List.map_append,h]; rfl
 | some p =>
  obtain ⟨q,u⟩:=p
  obtain ⟨_,hq⟩:=findI_some hx
  rw [Nat.sub_zero] at hq
  have hkey : ((es[q]?).map (·.key)).getD (.int kk k) = .int kk k:=by
   have h1:=congrArg (fun l=>l[q]?) h
   simp only [List.getElem?_map,hq,Array.getElem?_toList,Option.map_some] at h1
   cases he : es[q]? with
   | none=>rfl
   | some e=>rw [he] at h1; simp only [Option.map_some,Option.some.injEq,Prod.mk.injEq] at h1; exact h1.1
  have hborn : (es.modify q fun e=>{ e with key:=.int kk k,val:=v }).toList.map (·.born) = es.toList.map (·.born):=by
   rw [Array.toList_modify]
   apply List.ext_getElem?
   intro p
   rw [List.getElem?_map,List.getElem?_map,List.getElem?_modify]
   by_cases hp : q = p
   ·subst hp; cases es.toList[q]? <;> simp
   ·simp [hp]
  refine ⟨es.modify q fun e=>{ e with key:=.int kk k,val:=v },clock,⟨by rw [hborn]; exact hs.1,fun e he=>?_⟩,?_,?_⟩
  ·have : e.born ∈ es.toList.map (·.born):=by rw [← hborn]; exact List.mem_map.2 ⟨e,he,rfl⟩
   obtain ⟨e',he',h'⟩:=List.mem_map.1 this
   rw [← h']; exact hs.2 e' he'
  ·have hst : (Instr.keyThatStays (.int kk k) (.int kk k)).run P w = .ok (.int kk k) w:=by
    have : Instr.sameBits 10000 (.int kk k) (.int kk k) = true:=by simp [Instr.sameBits]
    simp only [Instr.keyThatStays,this,if_true,Sem.run_pure]
   simp only [Instr.mapUpdate,Sem.run_bind,run_underlying hT,Result.andThen_ok,qbw hb,hc,hf,hx,hkey,hst,qdw hb]
  ·simp only [qgy,hx,Array.toList_modify]
   apply List.ext_getElem?
   intro p
   have h1:=congrArg (fun l=>l[p]?) h
   simp only [List.getElem?_map] at h1 ⊢
   rw [List.getElem?_modify,List.getElem?_set]
   by_cases hp : q = p
   ·subst hp
    have hlt : q < m.length:=(List.getElem?_eq_some_iff.1 hq).1
    have hes : q < es.toList.length:=by rw [Array.length_toList,qhn h]; exact hlt
    simp [hlt,List.getElem?_eq_getElem hes]
   ·simpa [hp] using h1
theorem Jp.mapUpdate (j : Nat) {x y u : Operand} {t kt et : TypeId} {ki kk : IntKind} {b : Nat} {k : Int} {m : qcp} (hi : nth ops.toList i = some o) (hw : qgl n ops E o true) (he : o.dst = none)
  (hop : o.op = .mapUpdate t x y u) (hx : evE E x = some (.map (some b))) (hy : evE E y = some (.int kk k)) (hu : evE E u = some v) (hT : P.underlying t = some (.map kt et)) (hK : P.underlying kt = some (.int ki)) (hj : look L j = some (qcn kk b m))
  (hk : Kp π S' cx ρ ((j,qcn kk b (qgy m k v)) :: L)) (h : Jp P ops Q S' n cx π ρ E ((j,qcn kk b (qgy m k v)) :: L)) : Jp P ops Q S' n cx ((i,false) :: π) ρ E L:=by
 intro a w ha hs
 obtain ⟨es,clock,h1,hst,h2⟩:=qgf hs hj
 obtain ⟨es',clock',hst',h3,h4⟩:=run_mapUpdate (P:=P) (v:=v) (k:=k) hT hK h1 hst h2
 simp only [qfn,wpOp,qbj hi,hw a ha,if_true,Oper.wp,execOp,hop,ha.ev hx,ha.ev hy,ha.ev hu,Sem.run_bind,h3,Result.andThen_ok,Sem.run_pure,Oper.upon,he]
 have hs':=St.setMap hs hj h1 hst' h4
 exact .inl ⟨hk.get hs',h _ _ ha hs'⟩
theorem Jp.makeMap (d j : Nat) (kk : IntKind) {t : TypeId} (hi : nth ops.toList i = some o) (hw : qgl n ops E o true) (he : o.dst = some d) (hd : Nat.blt d n = true) (hop : o.op = .makeMap t none)
  (h : ∀ b,Kp π S' cx ρ ((j,qcn kk b []) :: L) ∧ Jp P ops Q S' n cx π ρ ((d,.map (some b)) :: E) ((j,qcn kk b []) :: L)) : Jp P ops Q S' n cx ((i,false) :: π) ρ E L:=by
 intro a w ha hs
 obtain ⟨h1,h2⟩:=h w.heap.size
 have hr : (execOp a.eval o).run P w = .ok (.value (.map (some w.heap.size))) { w with heap:=w.heap.push (.map #[] 0) }:=by
  simp only [execOp,hop,Instr.makeMap,newObj]; rfl
 simp only [qfn,wpOp,qbj hi,hw a ha,if_true,Oper.wp,hr,Oper.upon]
 have hs' : St cx ρ ((j,qcn kk w.heap.size []) :: L) { w with heap:=w.heap.push (.map #[] 0) }:=by
  have h3:=(hs.alloc j (.map #[] 0)).imp (i:=j) (A':=qcn kk w.heap.size []) (by rw [qag]; simp; rfl) fun h' hh'=>⟨#[],0,hh',⟨by simp,by simp⟩,rfl⟩
  refine h3.subF fun q B e=>?_
  rw [qag] at e ⊢
  split at e
  ·rename_i hq; rw [if_pos hq]; exact e
  ·rename_i hq; rw [if_neg hq,qag,if_neg hq]; exact e
 exact .inl ⟨h1.get hs',h2 _ _ (ha.put' he hd _) hs'⟩
theorem qen {α β : Type} (f : α → β) : ∀ (l : List α) (q : Nat),(l.eraseIdx q).map f = (l.map f).eraseIdx q:=by
 intro l
 induction l with
 | nil=>intro q; rfl
 | cons x l ih=>intro q; cases q with
  | zero=>rfl
  | succ q=>simp [ih]
theorem Y.lenmap (j : Nat) {x : Operand} {t kt et : TypeId} {kk : IntKind} {b : Nat} {m : qcp} (hop : o.op = .call { callee:=.builtin .len,args:=#[x],argTypes:=#[t] }) (hT : P.underlying t = some (.map kt et)) (hx : evE E x = some (.map (some b))) (hj : look L j = some (qcn kk b m)) : Y P n cx ρ E L o (.int .i64 m.length):=fun ac w ha hs=>by
 obtain ⟨es,clock,h1,hst,h2⟩:=qgf hs hj
 refine run_builtin1 hop (ha.ev hx) fun c=>?_
 simp [go_sem,Builtin.len_,run_underlying hT,qbw h1,qhn h2]
theorem Jp.delete (j d : Nat) {x y : Operand} {t u kt et : TypeId} {ki kk : IntKind} {b : Nat} {k : Int} {m : qcp} (hi : nth ops.toList i = some o) (hw : qgl n ops E o true) (he : o.dst = some d) (hd : Nat.blt d n = true)
  (hop : o.op = .call { callee:=.builtin .delete,args:=#[x,y],argTypes:=#[t,u] }) (hx : evE E x = some (.map (some b))) (hy : evE E y = some (.int kk k)) (hT : P.underlying t = some (.map kt et)) (hK : P.underlying kt = some (.int ki)) (hj : look L j = some (qcn kk b m))
  (hk : Kp π S' cx ρ ((j,qcn kk b (mdel m k)) :: L)) (h : Jp P ops Q S' n cx π ρ ((d,.tuple #[]) :: E) ((j,qcn kk b (mdel m k)) :: L)) : Jp P ops Q S' n cx ((i,false) :: π) ρ E L:=by
 intro a w ha hs
 obtain ⟨es,clock,h1,hst,h2⟩:=qgf hs hj
 have hf:=qfa (P:=P) (kt:=ki) (k:=k) hK h2 w
 have hc:=qef (P:=P) (kt:=ki) (kk:=kk) (k:=k) es.isEmpty 9999 hK w
 have g0 : (#[t,u] : Array TypeId)[0]? = some t:=rfl
 have g2 : (#[.map (some b),.int kk k] : Array Value)[0]? = some (.map (some b)):=rfl
 have g3 : (#[.map (some b),.int kk k] : Array Value)[1]? = some (.int kk k):=rfl
 obtain ⟨es',hst',hrun,hes⟩ : ∃ es' : Array MapEntry,qeg es' clock ∧ (Builtin.delete_ #[t,u] o.type #[.map (some b),.int kk k]).run P w = .ok (.tuple #[]) { w with heap:=w.heap.setIfInBounds b (.map es' clock) } ∧ es'.toList.map (fun e=>(e.key,e.val)) = (mdel m k).map fun x=>(Value.int kk x.1,x.2):=by
  cases hx : qde k m 0 with
  | none =>
   refine ⟨es,hst,?_,by simp only [mdel,hx]; exact h2⟩
   unfold Builtin.delete_
   rw [g0,g2,g3]
   simp only [Sem.run_bind,run_underlying hT,Result.andThen_ok,qbw h1,hc,hf,hx,qdw h1,Sem.run_pure]
  | some p =>
   obtain ⟨q,v⟩:=p
   refine ⟨es.eraseIdxIfInBounds q,?_,?_,?_⟩
   ·rw [Array.eraseIdxIfInBounds_eq]
    split
    ·rw [qeg,Array.toList_eraseIdx]
     exact ⟨hst.1.sublist ((List.eraseIdx_sublist ..).map _),fun e he=>hst.2 e ((List.eraseIdx_sublist ..).subset he)⟩
    ·exact hst
   ·unfold Builtin.delete_
    rw [g0,g2,g3]
    simp only [Sem.run_bind,run_underlying hT,Result.andThen_ok,qbw h1,hc,hf,hx,qdw h1,Sem.run_pure]
   ·obtain ⟨_,hq⟩:=findI_some hx
    rw [Nat.sub_zero] at hq
    have hlt : q < es.size:=by rw [qhn h2]; exact (List.getElem?_eq_some_iff.1 hq).1
    simp only [mdel,hx]
    rw [Array.eraseIdxIfInBounds_eq,dif_pos hlt,Array.toList_eraseIdx,qen,qen,h2]
 have hr':=qdj (P:=P) (w:=w) (v:=.tuple #[]) (w':={ w with heap:=w.heap.setIfInBounds b (.map es' clock) }) hop (ha.ev hx) (ha.ev hy) (fun cs'=>by simp only [builtin,Sem.run_bind,hrun,Result.andThen_ok,Sem.run_pure])
 simp only [qfn,wpOp,qbj hi,hw a ha,if_true,Oper.wp,hr',Oper.upon]
 have hs':=St.setMap hs hj h1 hst' hes
 exact .inl ⟨hk.get hs',h _ _ (ha.put' he hd _) hs'⟩
end
end Go.Proofs.YtnfkalpgidiafaaGreat
set_option linter.unusedVariables false
set_option linter.unusedSimpArgs false
namespace Go.Proofs.YtnfkalpgidiafaaGreat
open Go
def Sep (A B : qax) : qax:=fun h=>∃ h1 h2,A h1 ∧ B h2 ∧ Hp.disj h1 h2 ∧ Hp.le h1 h ∧ Hp.le h2 h
theorem disj_le {h k h' : Hp} (d : Hp.disj h k) (l : Hp.le h' h) : Hp.disj h' k:=fun b=>by
 rcases d b with q | q
 ·cases hb : h' b with
  | none=>exact .inl rfl
  | some o=>rw [l _ _ hb] at q; cases q
 ·exact .inr q
section
variable {P : Program} {n : Nat} {cx : Cx} {ρ : Hp} {E : Env} {L : Own} {ops : Array Oper} {Q : Exit → Act → World → Prop} {S' : World → Prop} {π : List (Nat × Bool)}
theorem St.part {w : World} (hs : St cx ρ L w) {j k : Nat} {A B : qax} (hjk : j ≠ k) (e : look L j = some (Sep A B)) : St cx ρ ((j,A) :: (k,B) :: L) w:=by
 obtain ⟨H,a,b,c,d⟩:=hs.ex
 obtain ⟨h1,h2,ha,hb,hd,l1,l2⟩:=a j _ e
 refine { hs with ex:=⟨fun i=>if i = j then h1 else if i = k then h2 else H i,fun i C hC=>?_,fun p q hpq=>?_,fun p=>?_,fun p bb o hp=>?_⟩ }
 ·rw [qag] at hC
  split at hC
  ·rename_i h; injection hC with hC; subst hC; subst h; simpa using ha
  ·rename_i h
   rw [qag] at hC
   split at hC
   ·rename_i h'; injection hC with hC; subst hC; subst h'; simp [Ne.symm h]; exact hb
   ·rename_i h'; simp [Ne.symm h,Ne.symm h']; exact a i C hC
 ·dsimp only
  have sub : ∀ i,i ≠ j → i ≠ k → Hp.disj (H i) h1 ∧ Hp.disj (H i) h2:=fun i hi hk=>⟨Hp.disj_symm (disj_le (b j i (Ne.symm hi)) l1),Hp.disj_symm (disj_le (b j i (Ne.symm hi)) l2)⟩
  by_cases hp : p = j <;> by_cases hq : q = j <;> by_cases hp' : p = k <;> by_cases hq' : q = k <;> simp only [hp,hq,hp',hq',if_true,if_false]
  all_goals first
   | omega
   | (exfalso; omega)
   | (simp only [Ne.symm hjk,if_true,if_false]; first | exact hd | exact Hp.disj_symm hd | exact (sub _ ‹_› ‹_›).1 | exact (sub _ ‹_› ‹_›).2 | exact Hp.disj_symm (sub _ ‹_› ‹_›).2)
   | exact hd
   | exact Hp.disj_symm hd
   | exact (sub _ ‹_› ‹_›).1
   | exact (sub _ ‹_› ‹_›).2
   | exact Hp.disj_symm (sub _ ‹_› ‹_›).1
   | exact Hp.disj_symm (sub _ ‹_› ‹_›).2
   | exact b p q hpq
 ·dsimp only
  by_cases hp : p = j
  ·rw [if_pos hp]; exact disj_le (c j) l1
  ·by_cases hp' : p = k
   ·rw [if_neg hp,if_pos hp']; exact disj_le (c j) l2
   ·rw [if_neg hp,if_neg hp']; exact c p
 ·dsimp only at hp
  split at hp
  ·exact d j bb o (l1 _ _ hp)
  ·split at hp
   ·exact d j bb o (l2 _ _ hp)
   ·exact d p bb o hp
theorem St.glue {w : World} (hs : St cx ρ L w) {j k : Nat} {A B : qax} (hjk : j ≠ k) (e1 : look L j = some A) (e2 : look L k = some B) : St cx ρ ((j,Sep A B) :: (k,Emp) :: L) w:=by
 obtain ⟨H,a,b,c,d⟩:=hs.ex
 refine { hs with ex:=⟨fun i=>if i = j then Hp.union (H j) (H k) else if i = k then Hp.emp else H i,fun i C hC=>?_,fun p q hpq=>?_,fun p=>?_,fun p bb o hp=>?_⟩ }
 ·rw [qag] at hC
  split at hC
  ·rename_i h; injection hC with hC; subst hC; subst h
   dsimp only
   rw [if_pos rfl]
   exact ⟨H j,H k,a j _ e1,a k _ e2,b j k hjk,Hp.le_union_left _ _,Hp.le_union_right (b j k hjk)⟩
  ·rename_i h
   rw [qag] at hC
   split at hC
   ·rename_i h'; injection hC with hC; subst hC; exact trivial
   ·rename_i h'; dsimp only; rw [if_neg (Ne.symm h),if_neg (Ne.symm h')]; exact a i C hC
 ·have key : ∀ q,q ≠ j → q ≠ k → Hp.disj (Hp.union (H j) (H k)) (H q):=fun q hq hq' bb=>by
   cases hb : Hp.union (H j) (H k) bb with
   | none=>exact .inl rfl
   | some o =>
    rcases Hp.union_cases hb with h | ⟨_,h⟩
    ·rcases b j q (Ne.symm hq) bb with h' | h'
     ·rw [h] at h'; cases h'
     ·exact .inr h'
    ·rcases b k q (Ne.symm hq') bb with h' | h'
     ·rw [h] at h'; cases h'
     ·exact .inr h'
  dsimp only
  by_cases hp : p = j
  ·by_cases hq : q = j
   ·exact absurd (hp.trans hq.symm) hpq
   ·rw [if_pos hp,if_neg hq]
    by_cases hq' : q = k
    ·rw [if_pos hq']; exact Hp.disj_emp _
    ·rw [if_neg hq']; exact key q hq hq'
  ·rw [if_neg hp]
   by_cases hp' : p = k
   ·rw [if_pos hp']; exact Hp.emp_disj _
   ·rw [if_neg hp']
    by_cases hq : q = j
    ·rw [if_pos hq]; exact Hp.disj_symm (key p hp hp')
    ·rw [if_neg hq]
     by_cases hq' : q = k
     ·rw [if_pos hq']; exact Hp.disj_emp _
     ·rw [if_neg hq']; exact b p q hpq
 ·dsimp only
  by_cases hp : p = j
  ·rw [if_pos hp]
   intro bb
   cases hb : Hp.union (H j) (H k) bb with
   | none=>exact .inl rfl
   | some o =>
    rcases Hp.union_cases hb with h | ⟨_,h⟩
    ·rcases c j bb with h' | h'
     ·rw [h] at h'; cases h'
     ·exact .inr h'
    ·rcases c k bb with h' | h'
     ·rw [h] at h'; cases h'
     ·exact .inr h'
  ·by_cases hp' : p = k
   ·rw [if_neg hp,if_pos hp']; exact Hp.emp_disj _
   ·rw [if_neg hp,if_neg hp']; exact c p
 ·dsimp only at hp
  split at hp
  ·rcases Hp.union_cases hp with h | ⟨_,h⟩
   ·exact d j bb o h
   ·exact d k bb o h
  ·split at hp
   ·cases hp
   ·exact d p bb o hp
theorem Cd.part {d : Code} (j k : Nat) {A B : qax} (hjk : j ≠ k) (e : look L j = some (Sep A B)) (h : Cd P Q n cx ρ E ((j,A) :: (k,B) :: L) d) : Cd P Q n cx ρ E L d:=fun a w ha hs=>h a w ha (hs.part hjk e)
theorem Cd.glue {d : Code} (j k : Nat) {A B : qax} (hjk : j ≠ k) (e1 : look L j = some A) (e2 : look L k = some B) (h : Cd P Q n cx ρ E ((j,Sep A B) :: (k,Emp) :: L) d) : Cd P Q n cx ρ E L d:=fun a w ha hs=>h a w ha (hs.glue hjk e1 e2)
theorem Jp.part (j k : Nat) {A B : qax} (hjk : j ≠ k) (e : look L j = some (Sep A B)) (h : Jp P ops Q S' n cx π ρ E ((j,A) :: (k,B) :: L)) : Jp P ops Q S' n cx π ρ E L:=fun a w ha hs=>h a w ha (hs.part hjk e)
theorem Jp.glue (j k : Nat) {A B : qax} (hjk : j ≠ k) (e1 : look L j = some A) (e2 : look L k = some B) (h : Jp P ops Q S' n cx π ρ E ((j,Sep A B) :: (k,Emp) :: L)) : Jp P ops Q S' n cx π ρ E L:=fun a w ha hs=>h a w ha (hs.glue hjk e1 e2)
variable {o : Oper} {i : Nat} {v : Value}
theorem Y.indexArr {x y : Operand} {t e : TypeId} {k : IntKind} {j : Int} {A : Addr} {l m q : Nat} (hop : o.op = .indexAddr t x y) (hx : evE E x = some (.pointer (some A))) (hy : evE E y = some (.int k j)) (hT : P.underlying t = some (.array l e))
  (hz : ∀ w,(sizeOf e).run P w = .ok m w) (h0 : 0 ≤ j) (h1 : j < l) (hq : j.toNat * m = q) : Y P n cx ρ E L o (.pointer (some (A.add q))):=fun ac w ha hs=>by
 subst hq
 simp only [execOp,hop,ha.ev hx,ha.ev hy] <;> simp [Instr.indexAt,Instr.sureAddr,asIntOf,run_underlying' hT,h0,h1,hz,go_sem]
theorem Y.loadP (j : Nat) {x : Operand} {t : TypeId} {a : Addr} {b off : Nat} {cs : Array Value} {T : TypeId} {fr : Nat × Nat} (hop : o.op = .load t x) (hA : ∀ w,(isAgg t).run P w = .ok false w) (hx : evE E x = some (.pointer (some a)))
  (hj : look L j = some (Pt b (.cells cs T fr))) (ha' : a = ⟨b,off,none⟩) (hc : cs[off]? = some v) : Y P n cx ρ E L o v:=fun ac w ha hs=>by
 subst ha'
 have h1 : w.cell? ⟨b,off,none⟩ = some v:=by simp [World.cell?,hs.pt hj,hc]
 simp only [execOp,hop,ha.ev hx,Sem.run_bind,qhg hA h1,Result.andThen_ok,Sem.run_pure]
theorem Jp.storeP (j : Nat) {x y : Operand} {t : TypeId} {a : Addr} {b off : Nat} {cs res : Array Value} {T : TypeId} {fr : Nat × Nat} (hi : nth ops.toList i = some o) (hw : qgl n ops E o true) (he : o.dst = none)
  (hop : o.op = .store t x y) (hz : ∀ w,(sizeOf t).run P w = .ok 1 w) (hx : evE E x = some (.pointer (some a))) (hy : evE E y = some v) (h1 : one v = true)
  (hj : look L j = some (Pt b (.cells cs T fr))) (ha' : a = ⟨b,off,none⟩) (hlt : off < cs.size) (hfr : (decide (fr.1 ≤ off) && decide (off < fr.2)) = false) (hres : cs.setIfInBounds off v = res)
  (hk : Kp π S' cx ρ ((j,Pt b (.cells res T fr)) :: L)) (h : Jp P ops Q S' n cx π ρ E ((j,Pt b (.cells res T fr)) :: L)) : Jp P ops Q S' n cx ((i,false) :: π) ρ E L:=by
 subst ha' hres
 intro a w ha hs
 have hb:=hs.pt hj
 have hc : w.cell? ⟨b,off,none⟩ = some cs[off]:=by simp [World.cell?,hb,hlt]
 have hr:=qgc (P:=P) hz (v:=v) h1 hc (by rw [qfu hb]; exact hfr)
 simp only [qfn,wpOp,qbj hi,hw a ha,if_true,Oper.wp,execOp,hop,ha.ev hx,ha.ev hy,Sem.run_bind,hr,Result.andThen_ok,Sem.run_pure,Oper.upon,he]
 have hs':=hs.store hj off v
 exact .inl ⟨hk.get hs',h _ _ ha hs'⟩
end
end Go.Proofs.YtnfkalpgidiafaaGreat
set_option linter.unusedVariables false
set_option linter.unusedSimpArgs false
namespace Go.Proofs.YtnfkalpgidiafaaGreat
open Go
def qfk (es : Array MapEntry) (seen : Array Nat) : List MapEntry:=es.toList.filter fun e=>!seen.contains e.born
def RangeO (kk : IntKind) (b r : Nat) (m : qcp) (left : qcp) (cur : Option (Int × Value)) : qax:=fun h=>b ≠ r ∧ ∃ es clock seen,h b = some (.map es clock) ∧ h r = some (.mapIter (some b) clock seen clock) ∧ qeg es clock ∧
 es.toList.map (fun e=>(e.key,e.val)) = m.map (fun x=>(Value.int kk x.1,x.2)) ∧ (qfk es seen).map (fun e=>(e.key,e.val)) = left.map (fun x=>(Value.int kk x.1,x.2)) ∧
 ∀ x,cur = some x → ∃ e,seen.back? = some e.born ∧ e ∈ es.toList ∧ e.key = .int kk x.1 ∧ e.val = x.2
section
variable {P : Program} {n : Nat} {cx : Cx} {ρ : Hp} {E : Env} {L : Own} {o : Oper} {ops : Array Oper} {Q : Exit → Act → World → Prop} {S' : World → Prop} {π : List (Nat × Bool)} {i : Nat} {v : Value}
theorem leftE_nil (es : Array MapEntry) : qfk es #[] = es.toList:=by simp [qfk]
theorem find_born {es : Array MapEntry} {clock : Nat} (hs : qeg es clock) {e : MapEntry} (he : e ∈ es.toList) : es.find? (·.born == e.born) = some e:=by
 rw [← Array.find?_toList]
 have key : ∀ l : List MapEntry,(l.map (·.born)).Nodup → e ∈ l → l.find? (·.born == e.born) = some e:=by
  intro l
  induction l with
  | nil=>intro _ h; cases h
  | cons x l ih =>
   intro hn h
   rw [List.map_cons,List.nodup_cons] at hn
   rw [List.find?_cons]
   rcases List.mem_cons.1 h with rfl | h
   ·simp
   ·have hne : ¬ x.born = e.born:=fun q=>hn.1 (by rw [q]; exact List.mem_map.2 ⟨e,h,rfl⟩)
    rw [ih hn.2 h,beq_eq_false_iff_ne.2 hne]
 exact key _ hs.1 he
theorem leftE_push {es : Array MapEntry} {clock : Nat} (hs : qeg es clock) {seen : Array Nat} {q : Nat} {e : MapEntry} (he : (qfk es seen)[q]? = some e) : qfk es (seen.push e.born) = (qfk es seen).eraseIdx q:=by
 have h1 : qfk es (seen.push e.born) = (qfk es seen).filter fun x=>!(x.born == e.born):=by
  rw [qfk,qfk,List.filter_filter]
  congr 1; funext x
  simp only [Array.contains_push,Bool.not_or]
  rw [Bool.and_comm]
 rw [h1]
 have hn : ((qfk es seen).map (·.born)).Nodup:=hs.1.sublist (List.filter_sublist.map _)
 have key : ∀ (l : List MapEntry) (q : Nat),(l.map (·.born)).Nodup → l[q]? = some e → l.filter (fun x=>!(x.born == e.born)) = l.eraseIdx q:=by
  intro l
  induction l with
  | nil=>intro q _ h; simp at h
  | cons x l ih =>
   intro q hn h
   rw [List.map_cons,List.nodup_cons] at hn
   cases q with
   | zero =>
    simp at h; subst h
    rw [List.filter_cons_of_neg (by simp),List.eraseIdx_cons_zero,List.filter_eq_self]
    intro y hy
    have : ¬ y.born = x.born:=fun q=>hn.1 (by rw [← q]; exact List.mem_map.2 ⟨y,hy,rfl⟩)
    simp [this]
   | succ q =>
    have h' : l[q]? = some e:=by simpa using h
    have hne : ¬ x.born = e.born:=fun q'=>hn.1 (by rw [q']; exact List.mem_map.2 ⟨e,List.mem_of_getElem? h',rfl⟩)
    rw [List.filter_cons_of_pos (by simp [hne]),List.eraseIdx_cons_succ,ih q hn.2 h']
 exact key _ _ hn he
theorem qez {w : World} {r : Nat} {A : Option Nat} {a : Nat} {seen : Array Nat} {c : Nat} (h : w.heap[r]? = some (.mapIter A a seen c)) : (getObj r).run P w = .ok (.mapIter A a seen c) w:=by
 simp only [getObj,Sem.run,h]
theorem run_setIter {w : World} {r : Nat} {A : Option Nat} {a : Nat} {seen : Array Nat} {c : Nat} {ob : Obj} (h : w.heap[r]? = some (.mapIter A a seen c)) : (setObj r ob).run P w = .ok () { w with heap:=w.heap.setIfInBounds r ob }:=by
 simp only [setObj,Sem.run,h]
theorem rangeO_get {w : World} (hs : St cx ρ L w) {j b r : Nat} {kk : IntKind} {m left : qcp} {cur : Option (Int × Value)} (hj : look L j = some (RangeO kk b r m left cur)) : b ≠ r ∧ ∃ es clock seen,w.heap[b]? = some (.map es clock) ∧ w.heap[r]? = some (.mapIter (some b) clock seen clock) ∧ qeg es clock ∧
  es.toList.map (fun e=>(e.key,e.val)) = m.map (fun x=>(Value.int kk x.1,x.2)) ∧ (qfk es seen).map (fun e=>(e.key,e.val)) = left.map (fun x=>(Value.int kk x.1,x.2)) ∧
  ∀ x,cur = some x → ∃ e,seen.back? = some e.born ∧ e ∈ es.toList ∧ e.key = .int kk x.1 ∧ e.val = x.2:=by
 obtain ⟨hh,⟨hbr,es,clock,seen,h1,h2,h3⟩,hw⟩:=hs.get hj
 exact ⟨hbr,es,clock,seen,hw _ _ h1,hw _ _ h2,h3⟩
theorem Y.entry (j : Nat) {x : Operand} {b r : Nat} {kk : IntKind} {m left : qcp} {c : Int × Value} (hop : o.op = .entry x) (hx : evE E x = some (.pointer (some ⟨r,0,none⟩))) (hj : look L j = some (RangeO kk b r m left (some c))) : Y P n cx ρ E L o (.tuple #[.int kk c.1,c.2]):=fun ac w ha hs=>by
 obtain ⟨hbr,es,clock,seen,h1,h2,h3,h4,h5,h6⟩:=rangeO_get hs hj
 obtain ⟨e,g1,g2,g3,g4⟩:=h6 c rfl
 have hf:=find_born h3 g2
 simp only [execOp,hop,ha.ev hx,Instr.entry,Sem.run_bind,qez h2,Result.andThen_ok,g1,qbw h1,bne_self_eq_false,Bool.false_eq_true,if_false,hf,Sem.run_pure,g3,g4]
theorem St.exact {w : World} (hs : St cx ρ L w) {j b : Nat} {kk : IntKind} {m : qcp} (hj : look L j = some (qcn kk b m)) {es : Array MapEntry} {clock : Nat} (hb : w.heap[b]? = some (.map es clock)) : St cx ρ ((j,Pt b (.map es clock)) :: L) w:=by
 have hA : ∀ h : Hp,qcn kk b m h → (∀ b o,h b = some o → w.heap[b]? = some o) → h b = some (.map es clock):=fun h a hk=>by
  obtain ⟨e2,c2,p1,_⟩:=a
  have:=hk _ _ p1
  rw [hb] at this
  rw [p1,← this]
 exact hs.set hj (fun k a hk=>⟨k,hA k a hk,fun b o hb=>⟨hk b o hb,by rw [hb]; simp⟩,fun _ _=>rfl⟩) rfl rfl rfl rfl
theorem Jp.range (d j k : Nat) {x : Operand} {t kt et : TypeId} {kk : IntKind} {b : Nat} {m : qcp} (hjk : j ≠ k) (hi : nth ops.toList i = some o) (hw : qgl n ops E o true) (he : o.dst = some d) (hd : Nat.blt d n = true) (hop : o.op = .range t x)
  (hx : evE E x = some (.map (some b))) (hT : P.underlying t = some (.map kt et)) (hj : look L j = some (qcn kk b m))
  (h : ∀ r,Kp π S' cx ρ ((j,RangeO kk b r m m none) :: (k,Emp) :: L) ∧ Jp P ops Q S' n cx π ρ ((d,.pointer (some ⟨r,0,none⟩)) :: E) ((j,RangeO kk b r m m none) :: (k,Emp) :: L)) : Jp P ops Q S' n cx ((i,false) :: π) ρ E L:=by
 intro a w ha hs
 obtain ⟨es,clock,h1,hst,h2⟩:=qgf hs hj
 obtain ⟨k1,k2⟩:=h w.heap.size
 have hr : (execOp a.eval o).run P w = .ok (.value (.pointer (some ⟨w.heap.size,0,none⟩))) { w with heap:=w.heap.push (.mapIter (some b) clock #[] clock) }:=by
  simp only [execOp,hop,ha.ev hx,Instr.range,Sem.run_bind,run_underlying hT,Result.andThen_ok,qbw h1,Sem.run_pure,newObj]; rfl
 simp only [qfn,wpOp,qbj hi,hw a ha,if_true,Oper.wp,hr,Oper.upon]
 have hbl : b ≠ w.heap.size:=Nat.ne_of_lt (qco h1)
 have s1:=(hs.exact hj h1).alloc k (.mapIter (some b) clock #[] clock)
 have s2:=s1.glue hjk (A:=Pt b (.map es clock)) (B:=Pt w.heap.size (.mapIter (some b) clock #[] clock)) (by rw [qag,if_neg (Ne.symm hjk),qag,if_pos rfl]) (by rw [qag,if_pos rfl])
 have s3:=s2.imp (i:=j) (A:=Sep (Pt b (.map es clock)) (Pt w.heap.size (.mapIter (some b) clock #[] clock))) (A':=RangeO kk b w.heap.size m m none) (by rw [qag,if_pos rfl]) fun h' ⟨g1,g2,e1,e2,_,l1,l2⟩=>⟨hbl,es,clock,#[],l1 _ _ e1,l2 _ _ e2,hst,h2,by rw [leftE_nil]; exact h2,fun x hx=>by cases hx⟩
 have hs' : St cx ρ ((j,RangeO kk b w.heap.size m m none) :: (k,Emp) :: L) { w with heap:=w.heap.push (.mapIter (some b) clock #[] clock) }:=s3.subF fun q B e=>by
  rw [qag] at e ⊢
  split at e
  ·rename_i hq; rw [if_pos hq]; exact e
  ·rename_i hq
   rw [if_neg hq,qag,if_neg hq]
   rw [qag] at e ⊢
   split at e
   ·rename_i hq'; rw [if_pos hq']; exact e
   ·rename_i hq'; rw [if_neg hq',qag,if_neg hq',qag,if_neg hq]; exact e
 exact .inl ⟨k1.get hs',k2 _ _ (ha.put' he hd _) hs'⟩
theorem run_next {w : World} {b r : Nat} {es : Array MapEntry} {clock : Nat} {seen : Array Nat} (T : TypeId) (h1 : w.heap[b]? = some (.map es clock)) (h2 : w.heap[r]? = some (.mapIter (some b) clock seen clock)) (hs : qeg es clock) :
  (qfk es seen = [] ∧ ∃ d,(Instr.next (.pointer (some ⟨r,0,none⟩)) false T).run P w = .ok (.tuple #[.bool false]) { w with drawn:=d }) ∨
  ∃ (q : Nat) (e : MapEntry) (d : Nat),(qfk es seen)[q]? = some e ∧ (Instr.next (.pointer (some ⟨r,0,none⟩)) false T).run P w = .ok (.tuple #[.bool true,e.key,e.val]) { w with drawn:=d,heap:=w.heap.setIfInBounds r (.mapIter (some b) clock (seen.push e.born) clock) }:=by
 have hcond : (!seen.isEmpty && !es.isEmpty && es.all (·.born ≥ clock)) = false:=by
  cases hne : es.isEmpty with
  | true=>simp
  | false =>
   have : es.all (·.born ≥ clock) = false:=by
    rw [Bool.eq_false_iff]
    intro h
    rw [Array.all_eq_true'] at h
    cases hl : es.toList with
    | nil=>simp [Array.isEmpty,← Array.length_toList,hl] at hne
    | cons e l =>
     have hm : e ∈ es.toList:=by rw [hl]; simp
     have h3:=hs.2 e hm
     have h4:=h e (by simpa using hm)
     simp at h4
     omega
   simp [this]
 have hold : (es.filter fun e=>!seen.contains e.born).filter (·.born < clock) = es.filter fun e=>!seen.contains e.born:=by
  apply Array.ext'
  rw [Array.toList_filter,List.filter_eq_self]
  intro e he
  rw [Array.toList_filter] at he
  exact decide_eq_true (hs.2 e (List.mem_filter.1 he).1)
 have hnew : (es.filter fun e=>!seen.contains e.born).filter (·.born ≥ clock) = #[]:=by
  apply Array.ext'
  rw [Array.toList_filter,List.filter_eq_nil_iff]
  intro e he
  rw [Array.toList_filter] at he
  have:=hs.2 e (List.mem_filter.1 he).1
  simp; omega
 have hleft : (es.filter fun e=>!seen.contains e.born).toList = qfk es seen:=by rw [Array.toList_filter]; rfl
 have hsz : (es.filter fun e=>!seen.contains e.born).size = (qfk es seen).length:=by rw [← hleft,Array.length_toList]
 cases hl : qfk es seen with
 | nil =>
  have hem : (es.filter fun e=>!seen.contains e.born) = #[]:=by apply Array.ext'; rw [hleft,hl]
  rw [hem] at hold hnew
  refine .inl ⟨rfl,w.drawn,?_⟩
  unfold Instr.next
  simp only [Sem.run_bind,qez h2,Result.andThen_ok,qbw h1,hcond,Bool.false_eq_true,if_false,Sem.run_pure,hem,hold,hnew]
  simp [choose,Sem.run,Question.forced]
 | cons e0 l0 =>
  refine .inr ?_
  obtain ⟨F,hF⟩ : ∃ F,F = es.filter fun e=>!seen.contains e.born:=⟨_,rfl⟩
  rw [← hF] at hold hnew hleft hsz
  have hne : F.isEmpty = false:=by
   rw [hl] at hsz
   simp only [List.length_cons] at hsz
   rw [Array.isEmpty_eq_false_iff]; intro h; rw [h] at hsz; simp at hsz
  have hpos : 0 < F.size:=by rw [hsz,hl]; simp
  have hcand : (#[] ++ (F ++ #[]).map some : Array (Option MapEntry)) = F.map some:=by simp
  have key : ∀ q,q < F.size → ∃ e,(qfk es seen)[q]? = some e ∧ (F.map some)[q]? = some (some e):=fun q hq=>by
   refine ⟨F[q],by rw [← hleft,Array.getElem?_toList]; simp [hq],by simp [hq]⟩
  rw [← hl]
  by_cases h1n : F.size ≤ 1
  ·obtain ⟨e,k1,k2⟩:=key 0 hpos
   refine ⟨0,e,w.drawn,k1,?_⟩
   unfold Instr.next
   simp only [Sem.run_bind,qez h2,Result.andThen_ok,qbw h1,hcond,Bool.false_eq_true,if_false,Sem.run_pure,← hF,hold,hnew,hne,hcand]
   simp only [choose,Sem.run,Question.forced,Array.size_map,h1n,decide_true,if_true,Result.andThen_ok,k2,Sem.run_bind,run_setIter h2,Sem.run_pure]
  ·obtain ⟨e,k1,k2⟩:=key (w.tape w.drawn (.mapNext F.size) % F.size) (Nat.mod_lt _ hpos)
   refine ⟨_,e,w.drawn + 1,k1,?_⟩
   unfold Instr.next
   simp only [Sem.run_bind,qez h2,Result.andThen_ok,qbw h1,hcond,Bool.false_eq_true,if_false,Sem.run_pure,← hF,hold,hnew,hne,hcand]
   simp only [choose,Sem.run,Question.forced,Question.cut,Array.size_map,h1n,decide_false,Bool.false_eq_true,if_false,Result.andThen_ok,k2,Sem.run_bind,Sem.run_pure]
   rw [run_setIter (w:={ w with drawn:=w.drawn + 1 }) h2]; rfl
theorem Jp.next (d j : Nat) {x : Operand} {T : TypeId} {kk : IntKind} {b r : Nat} {m left : qcp} {cur : Option (Int × Value)} (hi : nth ops.toList i = some o) (hw : qgl n ops E o true) (he : o.dst = some d) (hd : Nat.blt d n = true)
  (hop : ∀ ρ',execOp ρ' o = (do pure (.value (← Instr.next (ρ' x) false T)))) (hx : evE E x = some (.pointer (some ⟨r,0,none⟩))) (hj : look L j = some (RangeO kk b r m left cur))
  (h0 : left = [] → Kp π S' cx ρ L ∧ Jp P ops Q S' n cx π ρ ((d,.tuple #[.bool false]) :: E) L)
  (h1 : ∀ q y,left[q]? = some y → Kp π S' cx ρ ((j,RangeO kk b r m (left.eraseIdx q) (some y)) :: L) ∧ Jp P ops Q S' n cx π ρ ((d,.tuple #[.bool true,.int kk y.1,y.2]) :: E) ((j,RangeO kk b r m (left.eraseIdx q) (some y)) :: L)) : Jp P ops Q S' n cx ((i,false) :: π) ρ E L:=by
 intro a w ha hs
 obtain ⟨hbr,es,clock,seen,g1,g2,g3,g4,g5,g6⟩:=rangeO_get hs hj
 rcases run_next (P:=P) T g1 g2 g3 with ⟨hl,dd,hrun⟩ | ⟨q,e,dd,hl,hrun⟩
 ·rw [hl] at g5
  have : left = []:=by cases left with
   | nil=>rfl
   | cons y l=>simp at g5
  obtain ⟨k1,k2⟩:=h0 this
  simp only [qfn,wpOp,qbj hi,hw a ha,if_true,Oper.wp,hop,ha.ev hx,Sem.run_bind,hrun,Result.andThen_ok,Sem.run_pure,Oper.upon]
  exact .inl ⟨k1.get (hs.drawn dd),k2 _ _ (ha.put' he hd _) (hs.drawn dd)⟩
 ·have h5:=congrArg (fun l=>l[q]?) g5
  simp only [List.getElem?_map,hl,Option.map_some] at h5
  cases hq : left[q]? with
  | none=>rw [hq] at h5; cases h5
  | some y =>
   rw [hq] at h5
   simp only [Option.map_some,Option.some.injEq,Prod.mk.injEq] at h5
   obtain ⟨e1,e2⟩:=h5
   obtain ⟨k1,k2⟩:=h1 q y hq
   simp only [qfn,wpOp,qbj hi,hw a ha,if_true,Oper.wp,hop,ha.ev hx,Sem.run_bind,hrun,Result.andThen_ok,Sem.run_pure,Oper.upon]
   have hrl:=qco g2
   have hs' : St cx ρ ((j,RangeO kk b r m (left.eraseIdx q) (some y)) :: L) { w with drawn:=dd,heap:=w.heap.setIfInBounds r (.mapIter (some b) clock (seen.push e.born) clock) }:=by
    refine (hs.drawn dd).set hj (fun k hk hkw=>?_) (by simp) rfl rfl rfl
    obtain ⟨_,es',clock',seen',p1,p2,p3,p4,p5,p6⟩:=hk
    have q1:=hkw _ _ p1
    have q2:=hkw _ _ p2
    refine ⟨fun p=>if p = r then some (.mapIter (some b) clock (seen.push e.born) clock) else k p,⟨hbr,es,clock,seen.push e.born,?_,by simp,g3,g4,?_,?_⟩,fun p ob hp=>?_,fun p hp=>?_⟩
    ·dsimp only; rw [if_neg hbr,p1]; exact (q1.symm.trans g1)
    ·rw [leftE_push g3 hl,qen,qen,g5]
    ·intro z hz
     injection hz with hz
     subst hz
     exact ⟨e,by simp,(List.mem_filter.1 (List.mem_of_getElem? hl)).1,e1,e2⟩
    ·dsimp only at hp
     split at hp
     ·rename_i h; subst h; exact ⟨by simp [hrl]; simpa using hp,by rw [p2]; simp⟩
     ·rename_i h; exact ⟨by rw [Array.getElem?_setIfInBounds_ne (Ne.symm h)]; exact hkw _ _ hp,by rw [hp]; simp⟩
    ·have : p ≠ r:=fun h=>by subst h; rw [p2] at hp; cases hp
     rw [Array.getElem?_setIfInBounds_ne (Ne.symm this)]
   rw [e1,e2]
   exact .inl ⟨k1.get hs',k2 _ _ (ha.put' he hd _) hs'⟩
end
end Go.Proofs.YtnfkalpgidiafaaGreat
set_option linter.unusedVariables false
set_option linter.unusedSimpArgs false
namespace Go.Proofs.YtnfkalpgidiafaaGreat
open Go
def Ex {ι : Type} (A : ι → qax) : qax:=fun h=>∃ x,A x h
def Fact (φ : Prop) (A : qax) : qax:=fun h=>φ ∧ A h
def Blks (l : List (Nat × Obj)) : qax:=fun h=>(l.map (·.1)).Nodup ∧ ∀ b o,(b,o) ∈ l → h b = some o
section
variable {P : Program} {n : Nat} {cx : Cx} {ρ : Hp} {E : Env} {L : Own} {o : Oper} {ops : Array Oper} {Q : Exit → Act → World → Prop} {S' : World → Prop} {π : List (Nat × Bool)} {i : Nat} {v : Value}
theorem St.ex' {w : World} (hs : St cx ρ L w) {j : Nat} {ι : Type} {A : ι → qax} (e : look L j = some (Ex A)) : ∃ x,St cx ρ ((j,A x) :: L) w:=by
 obtain ⟨H,a,b,c,d⟩:=hs.ex
 obtain ⟨x,hx⟩:=a j _ e
 refine ⟨x,{ hs with ex:=⟨H,fun i B hB=>?_,b,c,d⟩ }⟩
 rw [qag] at hB
 split at hB
 ·rename_i h; injection hB with hB; subst hB; subst h; exact hx
 ·exact a i B hB
theorem St.fact {w : World} (hs : St cx ρ L w) {j : Nat} {φ : Prop} {A : qax} (e : look L j = some (Fact φ A)) : φ ∧ St cx ρ ((j,A) :: L) w:=by
 obtain ⟨H,a,b,c,d⟩:=hs.ex
 exact ⟨(a j _ e).1,hs.imp e fun k hk=>hk.2⟩
theorem Cd.ex {d : Code} (j : Nat) {ι : Type} {A : ι → qax} (e : look L j = some (Ex A)) (h : ∀ x,Cd P Q n cx ρ E ((j,A x) :: L) d) : Cd P Q n cx ρ E L d:=fun a w ha hs =>
 let ⟨x,hx⟩:=hs.ex' e; h x a w ha hx
theorem Cd.fact {d : Code} (j : Nat) {φ : Prop} {A : qax} (e : look L j = some (Fact φ A)) (h : φ → Cd P Q n cx ρ E ((j,A) :: L) d) : Cd P Q n cx ρ E L d:=fun a w ha hs =>
 let ⟨x,hx⟩:=hs.fact e; h x a w ha hx
theorem Jp.ex (j : Nat) {ι : Type} {A : ι → qax} (e : look L j = some (Ex A)) (h : ∀ x,Jp P ops Q S' n cx π ρ E ((j,A x) :: L)) : Jp P ops Q S' n cx π ρ E L:=fun a w ha hs =>
 let ⟨x,hx⟩:=hs.ex' e; h x a w ha hx
theorem Jp.fact (j : Nat) {φ : Prop} {A : qax} (e : look L j = some (Fact φ A)) (h : φ → Jp P ops Q S' n cx π ρ E ((j,A) :: L)) : Jp P ops Q S' n cx π ρ E L:=fun a w ha hs =>
 let ⟨x,hx⟩:=hs.fact e; h x a w ha hx
theorem Cd.know {d : Code} (j : Nat) {A : qax} {φ : Prop} (e : look L j = some A) (f : ∀ k,A k → φ) (h : φ → Cd P Q n cx ρ E L d) : Cd P Q n cx ρ E L d:=fun a w ha hs =>
 let ⟨_,hk,_⟩:=hs.get e; h (f _ hk) a w ha hs
theorem Jp.know (j : Nat) {A : qax} {φ : Prop} (e : look L j = some A) (f : ∀ k,A k → φ) (h : φ → Jp P ops Q S' n cx π ρ E L) : Jp P ops Q S' n cx π ρ E L:=fun a w ha hs =>
 let ⟨_,hk,_⟩:=hs.get e; h (f _ hk) a w ha hs
def HasC (A : qax) (a : Addr) (v : Value) : Prop:=∀ h,A h → qed h a = some v
theorem Y.qbg (j : Nat) {x : Operand} {t : TypeId} {a : Addr} {A : qax} (hop : o.op = .load t x) (hA : ∀ w,(isAgg t).run P w = .ok false w) (hx : evE E x = some (.pointer (some a))) (hj : look L j = some A) (hc : HasC A a v) : Y P n cx ρ E L o v:=fun ac w ha hs=>by
 obtain ⟨k,hk,hw⟩:=hs.get hj
 simp only [execOp,hop,ha.ev hx,Sem.run_bind,qhg hA (cell_of hw (hc k hk)),Result.andThen_ok,Sem.run_pure]
theorem Y.loadAggC (j : Nat) {x : Operand} {t : TypeId} {a : Addr} {m : Nat} {A : qax} (cs : List Value) (hop : o.op = .load t x) (hA : ∀ w,(isAgg t).run P w = .ok true w) (hz : ∀ w,(sizeOf t).run P w = .ok m w) (hx : evE E x = some (.pointer (some a)))
  (hj : look L j = some A) (hm : cs.length = m) (hc : ∀ h,A h → Cells h a cs) : Y P n cx ρ E L o (.agg cs.toArray):=fun ac w ha hs=>by
 obtain ⟨k,hk,hw⟩:=hs.get hj
 simp only [execOp,hop,ha.ev hx,Sem.run_bind,qdz hA hz hm (fun j v e=>cell_of hw (hc k hk j v e)),Result.andThen_ok,Sem.run_pure]
def Hp.upd (h : Hp) (b : Nat) (ob : Obj) : Hp:=fun p=>if p = b then some ob else h p
def SetC (A A' : qax) (b off : Nat) (v : Value) : Prop:=∀ h,A h → ∃ cs T fr,h b = some (.cells cs T fr) ∧ off < cs.size ∧ noFr fr off ∧ A' (h.upd b (.cells (cs.setIfInBounds off v) T fr))
theorem Jp.qct (j : Nat) {x y : Operand} {t : TypeId} {a : Addr} {b off : Nat} {A : qax} (A' : qax) (hi : nth ops.toList i = some o) (hw : qgl n ops E o true) (he : o.dst = none)
  (hop : o.op = .store t x y) (hz : ∀ w,(sizeOf t).run P w = .ok 1 w) (hx : evE E x = some (.pointer (some a))) (hy : evE E y = some v) (h1 : one v = true)
  (hj : look L j = some A) (ha' : a = ⟨b,off,none⟩) (hset : SetC A A' b off v)
  (hk : Kp π S' cx ρ ((j,A') :: L)) (h : Jp P ops Q S' n cx π ρ E ((j,A') :: L)) : Jp P ops Q S' n cx ((i,false) :: π) ρ E L:=by
 subst ha'
 intro a w ha hs
 obtain ⟨k,hk0,hkw⟩:=hs.get hj
 obtain ⟨cs,T,fr,hb,hlt,hnf,_⟩:=hset k hk0
 have hbw:=hkw _ _ hb
 have hc : w.cell? ⟨b,off,none⟩ = some cs[off]:=by simp [World.cell?,hbw,hlt]
 have hr:=qgc (P:=P) hz (v:=v) h1 hc (by rw [qfu hbw]; exact hnf)
 simp only [qfn,wpOp,qbj hi,hw a ha,if_true,Oper.wp,execOp,hop,ha.ev hx,ha.ev hy,Sem.run_bind,hr,Result.andThen_ok,Sem.run_pure,Oper.upon,he]
 have hs' : St cx ρ ((j,A') :: L) (w.setCell ⟨b,off,none⟩ v):=by
  refine hs.set hj (fun k' hk' hkw'=>?_) (by simp) rfl rfl rfl
  obtain ⟨cs',T',fr',hb',_,_,hA'⟩:=hset k' hk'
  have e:=hkw' _ _ hb'
  rw [hbw] at e
  injection e with e
  injection e with e1 e2 e3
  subst e1 e2 e3
  refine ⟨_,hA',fun p ob hp=>?_,fun p hp=>?_⟩
  ·rw [qch hbw]
   unfold Hp.upd at hp
   split at hp
   ·rename_i hpb; subst hpb; rw [if_pos rfl]; exact ⟨hp,by rw [hb']; simp⟩
   ·rename_i hpb; rw [if_neg hpb]; exact ⟨hkw' _ _ hp,by rw [hp]; simp⟩
  ·rw [qch hbw,if_neg]
   intro e; subst e
   rw [hb'] at hp; cases hp
 exact .inl ⟨hk.get hs',h _ _ ha hs'⟩
theorem Blks.cell {l : List (Nat × Obj)} {b off : Nat} {cs : Array Value} {T : TypeId} {fr : Nat × Nat} (hm : (b,Obj.cells cs T fr) ∈ l) (hc : cs[off]? = some v) : HasC (Blks l) ⟨b,off,none⟩ v:=fun h hh=>by
 simp [qed,hh.2 _ _ hm,hc]
theorem Blks.cells {l : List (Nat × Obj)} {b : Nat} {cs : List Value} {T : TypeId} {fr : Nat × Nat} (hm : (b,Obj.cells cs.toArray T fr) ∈ l) : ∀ h,Blks l h → Cells h ⟨b,0,none⟩ cs:=fun h hh j v e=>by
 rw [qcy]; simp [qed,hh.2 _ _ hm,e]
def qhe (l : List (Nat × Obj)) (b : Nat) (ob : Obj) : List (Nat × Obj):=l.map fun p=>if p.1 = b then (b,ob) else p
theorem updB_keys (l : List (Nat × Obj)) (b : Nat) (ob : Obj) : (qhe l b ob).map (·.1) = l.map (·.1):=by
 rw [qhe,List.map_map]
 apply List.map_congr_left
 intro p _
 simp only [Function.comp]
 split
 ·rename_i h; exact h.symm
 ·rfl
theorem Blks.set {l l' : List (Nat × Obj)} {b off : Nat} {cs : Array Value} {T : TypeId} {fr : Nat × Nat} (hm : (b,Obj.cells cs T fr) ∈ l) (hlt : off < cs.size) (hnf : noFr fr off) (hl : qhe l b (.cells (cs.setIfInBounds off v) T fr) = l') : SetC (Blks l) (Blks l') b off v:=fun h hh=>by
 subst hl
 refine ⟨cs,T,fr,hh.2 _ _ hm,hlt,hnf,by rw [updB_keys]; exact hh.1,fun p ob hp=>?_⟩
 obtain ⟨q,hq,e⟩:=List.mem_map.1 hp
 unfold Hp.upd
 split at e
 ·rename_i hqb; injection e with e1 e2; subst e1 e2; rw [if_pos rfl]
 ·rename_i hqb; subst e; rw [if_neg hqb]; exact hh.2 _ _ hq
theorem Blks.sub {l l' : List (Nat × Obj)} (s : l'.Sublist l) : ∀ k,Blks l k → Blks l' k:=fun k hk=>⟨hk.1.sublist (s.map _),fun b o h=>hk.2 b o (s.subset h)⟩
theorem Blks.perm {l l' : List (Nat × Obj)} (s : l.Perm l') : ∀ k,Blks l k → Blks l' k:=fun k hk=>⟨(s.map _).nodup_iff.1 hk.1,fun b o h=>hk.2 b o (s.mem_iff.2 h)⟩
theorem Blks.join {l : List (Nat × Obj)} {b : Nat} {ob : Obj} : ∀ k,Sep (Blks l) (Pt b ob) k → Blks ((b,ob) :: l) k:=fun k ⟨h1,h2,a1,a2,d,l1,l2⟩=>by
 refine ⟨?_,fun p o hp=>?_⟩
 ·rw [List.map_cons,List.nodup_cons]
  refine ⟨fun hm=>?_,a1.1⟩
  obtain ⟨q,hq,e⟩:=List.mem_map.1 hm
  have h3:=a1.2 q.1 q.2 hq
  have h4 : h2 b = some ob:=a2
  dsimp only at e
  rw [e] at h3
  rcases d b with h | h
  ·rw [h3] at h; cases h
  ·rw [h4] at h; cases h
 ·rcases List.mem_cons.1 hp with h | h
  ·injection h with e1 e2; subst e1 e2; exact l2 _ _ a2
  ·exact l1 _ _ (a1.2 p o h)
theorem Blks.nil : Blks [] Hp.emp:=⟨by simp,fun b o h=>by cases h⟩
theorem emp_cons {j : Nat} {A B : qax} {w : World} (hs : St cx ρ ((j,A) :: (j,B) :: L) w) : St cx ρ ((j,A) :: L) w:=hs.subF fun q C e=>by
 rw [qag] at e ⊢
 split at e
 ·rename_i h; rw [if_pos h]; exact e
 ·rename_i h; rw [if_neg h,qag,if_neg h]; exact e
theorem St.joinB {w : World} (hs : St cx ρ L w) {j k b : Nat} {l : List (Nat × Obj)} {ob : Obj} (hjk : j ≠ k) (e1 : look L j = some (Blks l)) (e2 : look L k = some (Pt b ob)) : St cx ρ ((j,Blks ((b,ob) :: l)) :: (k,Emp) :: L) w :=
 emp_cons ((hs.glue hjk e1 e2).imp (i:=j) (A:=Sep (Blks l) (Pt b ob)) (by rw [qag,if_pos rfl]) Blks.join)
theorem Cd.joinB {d : Code} (j k : Nat) {b : Nat} {l : List (Nat × Obj)} {ob : Obj} (hjk : j ≠ k) (e1 : look L j = some (Blks l)) (e2 : look L k = some (Pt b ob)) (h : Cd P Q n cx ρ E ((j,Blks ((b,ob) :: l)) :: (k,Emp) :: L) d) : Cd P Q n cx ρ E L d:=fun a w ha hs=>h a w ha (hs.joinB hjk e1 e2)
theorem Jp.joinB (j k : Nat) {b : Nat} {l : List (Nat × Obj)} {ob : Obj} (hjk : j ≠ k) (e1 : look L j = some (Blks l)) (e2 : look L k = some (Pt b ob)) (h : Jp P ops Q S' n cx π ρ E ((j,Blks ((b,ob) :: l)) :: (k,Emp) :: L)) : Jp P ops Q S' n cx π ρ E L:=fun a w ha hs=>h a w ha (hs.joinB hjk e1 e2)
theorem Cd.qcz {d : Code} {E' : Env} {L' : Own} (h : Cd P Q n cx ρ E' L' d) (hE : Subl E' E) (hL : Subl L' L) : Cd P Q n cx ρ E L d:=h.trim hE hL
theorem Jp.joinG {r : Code} {K : Act → World → Prop} {Q'' : Exit → Act → World → Prop} {G : Type} (φ : G → Prop) (Ev : G → Env) (Ek : Env) (hEk : Subl Ek E) (Lv : G → Own) (Lk : Own) (hLk : Subl Lk L) (hK : ∀ a w,r.wp P Q'' a w → K a w)
  (main : ∀ g,φ g → Cd P Q'' n cx ρ (Ev g ++ Ek) (Lv g ++ Lk) r) (rest : (∀ g,φ g → Cd P Q'' n cx ρ (Ev g ++ Ek) (Lv g ++ Lk) r) → Jp P ops Q S' n cx π ρ E L) : Jp P ops Q S' n cx π ρ E L:=rest main
theorem Cd.qgm {r d : Code} {K : Act → World → Prop} {Q'' : Exit → Act → World → Prop} {G : Type} (φ : G → Prop) (Ev : G → Env) (Ek : Env) (hEk : Subl Ek E) (Lv : G → Own) (Lk : Own) (hLk : Subl Lk L) (hK : ∀ a w,r.wp P Q'' a w → K a w)
  (main : ∀ g,φ g → Cd P Q'' n cx ρ (Ev g ++ Ek) (Lv g ++ Lk) r) (rest : (∀ g,φ g → Cd P Q'' n cx ρ (Ev g ++ Ek) (Lv g ++ Lk) r) → Cd P Q n cx ρ E L d) : Cd P Q n cx ρ E L d:=rest main
theorem Cd.meet' {d : Code} {E' : Env} {L' : Own} {ρs : Hp} (h : Cd P Q n cx ρs E' L' d) (hle : Hp.le ρs ρ) (h0 : Hp.le cx.r0 ρs) (hE : Subl E' E) (hL : Subl L' L) : Cd P Q n cx ρ E L d:=fun a w ha hs=>h a w (ha.sub hE) ((hs.down hle h0).sub hL)
theorem subl_app {α : Type} {l m : List (Nat × α)} {k : List (Nat × α)} (h1 : Subl l k) (h2 : Subl m k) : Subl (l ++ m) k:=by
 induction l with
 | nil=>exact h2
 | cons p l ih=>exact ⟨h1.1,ih h1.2⟩
theorem JpQ.again {G : Type} {ok : G → Prop} {mu : G → Nat} {ro : G → Hp} {Eo : G → Env} {Lo : G → Own} {g : G} {K : Act → World → Prop} (hQ : Q .normal = K)
  (hK : ∀ g' a w,ok g' → mu g' < mu g → At n (Eo g') a → St cx (ro g') (Lo g') w → K a w) (g' : G) (h1 : ok g') (h2 : mu g' < mu g) (hr : ro g' = ρ) (hE : Subl (Eo g') E) (hL : Subl (Lo g') L) : Jp P ops Q S' n cx [] ρ E L :=
 fun a w ha hs=>by rw [qfn,hQ]; exact hK g' a w h1 h2 (ha.sub hE) (by rw [hr]; exact hs.sub hL)
theorem CdQ.again {G : Type} {ok : G → Prop} {mu : G → Nat} {ro : G → Hp} {Eo : G → Env} {Lo : G → Own} {g : G} {K : Act → World → Prop} (hQ : Q .normal = K)
  (hK : ∀ g' a w,ok g' → mu g' < mu g → At n (Eo g') a → St cx (ro g') (Lo g') w → K a w) (g' : G) (h1 : ok g') (h2 : mu g' < mu g) (hr : ro g' = ρ) (hE : Subl (Eo g') E) (hL : Subl (Lo g') L) : Cd P Q n cx ρ E L .skip :=
 fun a w ha hs=>wp_skip (by rw [hQ]; exact hK g' a w h1 h2 (ha.sub hE) (by rw [hr]; exact hs.sub hL))
theorem Cd.qdv {c : Code} {G : Type} (ok : G → Prop) (mu : G → Nat) (ro : G → Hp) (Ev : G → Env) (Ek : Env) (Lv : G → Own) (Lk : Own) (g0 : G) (h0 : ok g0) (hr : ro g0 = ρ) (hE : Subl (Ev g0) E) (hEk : Subl Ek E) (hL : Subl (Lv g0) L) (hLk : Subl Lk L)
  (round : ∀ (g : G) (K : Act → World → Prop),ok g → (∀ g' a w,ok g' → mu g' < mu g → At n (Ev g' ++ Ek) a → St cx (ro g') (Lv g' ++ Lk) w → K a w) → Cd P (Exit.then K Q) n cx (ro g) (Ev g ++ Ek) (Lv g ++ Lk) c) :
  Cd P Q n cx ρ E L (.loop c):=Cd.loop ok mu ro (fun g=>Ev g ++ Ek) (fun g=>Lv g ++ Lk) g0 h0 hr (subl_app hE hEk) (subl_app hL hLk) round
end
end Go.Proofs.YtnfkalpgidiafaaGreat
set_option linter.unusedVariables false
set_option linter.unusedSimpArgs false
namespace Go.Proofs.YtnfkalpgidiafaaGreat
open Go
theorem qfe (k : Int) : ∀ (m : qcp) (i : Nat),qde k m (i + 1) = (qde k m i).map fun p=>(p.1 + 1,p.2):=by
 intro m
 induction m with
 | nil=>intro i; rfl
 | cons x m ih =>
  intro i
  obtain ⟨x,u⟩:=x
  simp only [qde]
  split
  ·rfl
  ·rw [ih]
theorem mget_nil (k : Int) : qhm [] k = none:=rfl
theorem qcl (x : Int) (u : Value) (m : qcp) (k : Int) : qhm ((x,u) :: m) k = if k = x then some u else qhm m k:=by
 simp only [qhm,qde]
 by_cases h : k = x
 ·subst h; simp
 ·have : (k == x) = false:=by simpa using h
  rw [this,if_neg h,qfe]
  cases qde k m 0 <;> rfl
theorem mget_append (m l : qcp) (k : Int) : qhm (m ++ l) k = (qhm m k).or (qhm l k):=by
 induction m with
 | nil=>simp [mget_nil]
 | cons x m ih =>
  obtain ⟨x,u⟩:=x
  rw [List.cons_append,qcl,qcl,ih]
  split <;> simp
theorem mget_some {m : qcp} {k : Int} {v : Value} (h : qhm m k = some v) : (k,v) ∈ m:=by
 induction m with
 | nil=>cases h
 | cons x m ih =>
  obtain ⟨x,u⟩:=x
  rw [qcl] at h
  split at h
  ·rename_i e; subst e; injection h with h; subst h; exact List.mem_cons_self ..
  ·exact List.mem_cons_of_mem _ (ih h)
theorem mget_none {m : qcp} {k : Int} : qhm m k = none ↔ k ∉ m.map (·.1):=by
 induction m with
 | nil=>simp [mget_nil]
 | cons x m ih =>
  obtain ⟨x,u⟩:=x
  rw [qcl]
  by_cases h : k = x
  ·subst h; simp
  ·rw [if_neg h,ih]; simp [h]
theorem mget_mem {m : qcp} (hn : (m.map (·.1)).Nodup) {k : Int} {v : Value} (h : (k,v) ∈ m) : qhm m k = some v:=by
 induction m with
 | nil=>cases h
 | cons x m ih =>
  obtain ⟨x,u⟩:=x
  rw [List.map_cons,List.nodup_cons] at hn
  rw [qcl]
  rcases List.mem_cons.1 h with h0 | h0
  ·injection h0 with h1 h2; subst h1 h2; simp
  ·rw [if_neg,ih hn.2 h0]
   intro e; subst e
   exact hn.1 (List.mem_map.2 ⟨(k,v),h0,rfl⟩)
theorem mget_perm {m l : qcp} (hp : m.Perm l) (hn : (l.map (·.1)).Nodup) (k : Int) : qhm m k = qhm l k:=by
 have hm : (m.map (·.1)).Nodup:=(hp.map (·.1)).nodup_iff.2 hn
 cases h : qhm l k with
 | none=>rw [mget_none] at h ⊢; intro h2; exact h ((hp.map (·.1)).mem_iff.1 h2)
 | some v=>exact mget_mem hm (hp.mem_iff.2 (mget_some h))
theorem findI_none {m : qcp} {k : Int} : qde k m 0 = none ↔ k ∉ m.map (·.1):=by
 rw [← mget_none,qhm]; cases qde k m 0 <;> simp
theorem mset_new {m : qcp} {k : Int} {v : Value} (h : k ∉ m.map (·.1)) : qgy m k v = m ++ [(k,v)]:=by
 rw [qgy,findI_none.2 h]
theorem mget_mset (m : qcp) (k : Int) (v : Value) (k' : Int) : qhm (qgy m k v) k' = if k' = k then some v else qhm m k':=by
 by_cases h : k ∈ m.map (·.1)
 ·induction m with
  | nil=>simp at h
  | cons x m ih =>
   obtain ⟨x,u⟩:=x
   by_cases hx : k = x
   ·subst hx
    have : qgy ((k,u) :: m) k v = (k,v) :: m:=by simp [qgy,qde]
    rw [this,qcl,qcl]
    by_cases h' : k' = k <;> simp [h']
   ·have hm : k ∈ m.map (·.1):=by simpa [hx] using h
    have : qgy ((x,u) :: m) k v = (x,u) :: qgy m k v:=by
     have hb : (k == x) = false:=by simpa using hx
     simp only [qgy,qde,hb,qfe]
     cases hf : qde k m 0 with
     | none=>exact absurd hm (findI_none.1 hf)
     | some p=>rfl
    rw [this,qcl,qcl,ih hm]
    by_cases h' : k' = x
    ·subst h'; simp [Ne.symm hx]
    ·simp [h']
 ·rw [mset_new h,mget_append,qcl,mget_nil]
  by_cases h' : k' = k
  ·subst h'; rw [mget_none.2 h]; simp
  ·simp [h']
theorem mset_perm {m l : qcp} {k : Int} {v : Value} (hp : m.Perm l) (h : k ∉ l.map (·.1)) : (qgy m k v).Perm ((k,v) :: l):=by
 rw [mset_new fun h2=>h ((hp.map (·.1)).mem_iff.1 h2)]
 exact (List.perm_append_comm).trans (hp.cons _)
theorem mset_perm' {m l : qcp} {k : Int} {v : Value} (hn : (l.map (·.1)).Nodup) (hp : m.Perm l) : (k ∈ l.map (·.1)) → (qgy m k v).Perm (l.map fun x=>if x.1 = k then (k,v) else x):=by
 intro h
 have hk : k ∈ m.map (·.1):=(hp.map (·.1)).mem_iff.2 h
 have e : qgy m k v = m.map fun x=>if x.1 = k then (k,v) else x:=by
  have hm : (m.map (·.1)).Nodup:=(hp.map (·.1)).nodup_iff.2 hn
  clear hp hn h
  induction m with
  | nil=>simp at hk
  | cons x m ih =>
   obtain ⟨x,u⟩:=x
   rw [List.map_cons,List.nodup_cons] at hm
   by_cases hx : k = x
   ·subst hx
    have : qgy ((k,u) :: m) k v = (k,v) :: m:=by simp [qgy,qde]
    rw [this,List.map_cons,if_pos rfl]
    congr 1
    symm
    have e2 : m.map (fun x=>if x.1 = k then (k,v) else x) = m.map id:=List.map_congr_left fun y hy=>by
     rw [if_neg]; rfl
     intro e; exact hm.1 (e ▸ List.mem_map.2 ⟨y,hy,rfl⟩)
    rw [e2,List.map_id]
   ·have hm' : k ∈ m.map (·.1):=by simpa [hx] using hk
    have : qgy ((x,u) :: m) k v = (x,u) :: qgy m k v:=by
     have hb : (k == x) = false:=by simpa using hx
     simp only [qgy,qde,hb,qfe]
     cases hf : qde k m 0 with
     | none=>exact absurd hm' (findI_none.1 hf)
     | some p=>rfl
    rw [this,ih hm' hm.2,List.map_cons,if_neg (Ne.symm hx)]
 rw [e]; exact hp.map _
theorem mdel_eq {m : qcp} (hm : (m.map (·.1)).Nodup) (k : Int) : mdel m k = m.filter fun x=>x.1 != k:=by
 induction m with
 | nil=>rfl
 | cons x m ih =>
  obtain ⟨x,u⟩:=x
  rw [List.map_cons,List.nodup_cons] at hm
  by_cases hx : k = x
  ·subst hx
   have : mdel ((k,u) :: m) k = m:=by simp [mdel,qde]
   rw [this,List.filter_cons_of_neg (by simp),List.filter_eq_self.2]
   intro y hy
   have : y.1 ≠ k:=fun e=>hm.1 (e ▸ List.mem_map.2 ⟨y,hy,rfl⟩)
   simpa using this
  ·have hb : (k == x) = false:=by simpa using hx
   have : mdel ((x,u) :: m) k = (x,u) :: mdel m k:=by
    simp only [mdel,qde,hb,qfe]
    cases hf : qde k m 0 <;> rfl
   rw [this,ih hm.2,List.filter_cons_of_pos (by simpa using Ne.symm hx)]
theorem mdel_perm {m l : qcp} (hp : m.Perm l) (hn : (l.map (·.1)).Nodup) (k : Int) : (mdel m k).Perm (l.filter fun x=>x.1 != k):=by
 rw [mdel_eq ((hp.map (·.1)).nodup_iff.2 hn)]; exact hp.filter _
theorem RangeO.map {kk : IntKind} {b r : Nat} {m left : qcp} {cur : Option (Int × Value)} : ∀ k,RangeO kk b r m left cur k → qcn kk b m k:=fun k ⟨_,es,clock,seen,h1,_,h3,h4,_⟩=>⟨es,clock,h1,h3,h4⟩
theorem qge {α : Type} : ∀ {l : List α} {q : Nat} {y : α},l[q]? = some y → l.Perm (y :: l.eraseIdx q):=by
 intro l
 induction l with
 | nil=>intro q y h; simp at h
 | cons x l ih =>
  intro q y h
  cases q with
  | zero=>simp at h; subst h; exact List.Perm.refl _
  | succ q =>
   have:=ih (q:=q) (y:=y) (by simpa using h)
   rw [List.eraseIdx_cons_succ]
   exact (this.cons x).trans (List.Perm.swap ..)
section
variable {P : Program} {n : Nat} {cx : Cx} {ρ : Hp} {E : Env} {L : Own} {o : Oper}
theorem Y.remN {x y : Operand} {t u : TypeId} {k : IntKind} {a b : Int} (hop : o.op = .binOp .rem t x y u) (hx : evE E x = some (.int k a)) (hy : evE E y = some (.int k b)) (ha : 0 ≤ a) (hb : 0 < b) : Y P n cx ρ E L o (.int k (a % b)) :=
 (Y.rem hop hx hy (by omega)).to (by rw [Int.tmod_eq_emod_of_nonneg ha])
theorem Y.quoN {x y : Operand} {t u : TypeId} {k : IntKind} {a b : Int} (hop : o.op = .binOp .quo t x y u) (hx : evE E x = some (.int k a)) (hy : evE E y = some (.int k b)) (ha : 0 ≤ a) (hb : 0 < b) (hw : k.wrap (a / b) = a / b) : Y P n cx ρ E L o (.int k (a / b)) :=
 (Y.quo hop hx hy (by omega)).to (by rw [Int.tdiv_eq_ediv_of_nonneg ha,hw])
end
end Go.Proofs.YtnfkalpgidiafaaGreat
set_option linter.unusedVariables false
set_option linter.unusedSimpArgs false
namespace Go.Proofs.YtnfkalpgidiafaaGreat
open Go
theorem qck (w a : Nat) (h : a < 2 ^ w) : (BitVec.ofInt w (a : Int)).toNat = a:=by
 rw [BitVec.ofInt_natCast,BitVec.toNat_ofNat,Nat.mod_eq_of_lt h]
theorem qbn {a b : Nat} (ha : a < 4294967296) (hb : b < 4294967296) : qci .or .u32 a b = ((a ||| b : Nat) : Int):=by
 have h1 : a ||| b < 2 ^ 32:=Nat.or_lt_two_pow ha hb
 show IntKind.u32.wrap ((BitVec.ofInt 32 (a : Int) ||| BitVec.ofInt 32 (b : Int)).toNat : Int) = _
 rw [BitVec.toNat_or,qck 32 a ha,qck 32 b hb]
 exact qba (x:=((a ||| b : Nat) : Int)) (by omega) (by omega)
theorem qdx {a b : Nat} (ha : a < 4294967296) (hb : b < 4294967296) : qci .and .u32 a b = ((a &&& b : Nat) : Int):=by
 have h1 : a &&& b < 2 ^ 32:=Nat.and_lt_two_pow a hb
 show IntKind.u32.wrap ((BitVec.ofInt 32 (a : Int) &&& BitVec.ofInt 32 (b : Int)).toNat : Int) = _
 rw [BitVec.toNat_and,qck 32 a ha,qck 32 b hb]
 exact qba (x:=((a &&& b : Nat) : Int)) (by omega) (by omega)
theorem bits_xor32 {a b : Nat} (ha : a < 4294967296) (hb : b < 4294967296) : qci .xor .u32 a b = ((a ^^^ b : Nat) : Int):=by
 have h1 : a ^^^ b < 2 ^ 32:=Nat.xor_lt_two_pow ha hb
 show IntKind.u32.wrap ((BitVec.ofInt 32 (a : Int) ^^^ BitVec.ofInt 32 (b : Int)).toNat : Int) = _
 rw [BitVec.toNat_xor,qck 32 a ha,qck 32 b hb]
 exact qba (x:=((a ^^^ b : Nat) : Int)) (by omega) (by omega)
theorem bits_and8 {a b : Nat} (ha : a < 256) (hb : b < 256) : qci .and .u8 a b = ((a &&& b : Nat) : Int):=by
 have h1 : a &&& b < 2 ^ 8:=Nat.and_lt_two_pow a hb
 show IntKind.u8.wrap ((BitVec.ofInt 8 (a : Int) &&& BitVec.ofInt 8 (b : Int)).toNat : Int) = _
 rw [BitVec.toNat_and,qck 8 a ha,qck 8 b hb]
 exact wrap_u8 (x:=((a &&& b : Nat) : Int)) (by omega) (by omega)
theorem min_lit {i : Nat} (b : Nat) (h : i ≤ b) : min (i : Int).toNat b = i:=by rw [Int.toNat_natCast]; omega
theorem shl32 {a i : Nat} (hi : i ≤ 32) (h : a * 2 ^ i < 4294967296) : IntKind.u32.wrap ((a : Int) * 2 ^ (min (i : Int).toNat IntKind.u32.bits)) = ((a * 2 ^ i : Nat) : Int):=by
 rw [show IntKind.u32.bits = 32 from rfl,min_lit 32 hi]
 have e : (a : Int) * 2 ^ i = ((a * 2 ^ i : Nat) : Int):=by simp
 rw [e]; exact qba (by omega) (by omega)
theorem shr32 (a i : Nat) (hi : i ≤ 32) : (a : Int).fdiv (2 ^ (min (i : Int).toNat IntKind.u32.bits)) = ((a / 2 ^ i : Nat) : Int):=by
 rw [show IntKind.u32.bits = 32 from rfl,min_lit 32 hi]
 have e : (2 : Int) ^ i = ((2 ^ i : Nat) : Int):=by simp
 rw [e,Int.fdiv_eq_ediv_of_nonneg _ (Int.natCast_nonneg _)]
 simp
theorem conv8 (a : Nat) : IntKind.u8.wrap (a : Int) = ((UInt8.ofNat a).toNat : Int):=by
 rw [UInt8.toNat_ofNat']
 simp only [IntKind.wrap,IntKind.bits,IntKind.signed]
 simp
def leN : List UInt8 → Nat
 | []=>0
 | b :: l=>b.toNat + 256 * leN l
theorem leN_lt (l : List UInt8) : leN l < 256 ^ l.length:=by
 induction l with
 | nil=>simp [leN]
 | cons b l ih =>
  have:=b.toNat_lt
  simp only [leN,List.length_cons,Nat.pow_succ]
  omega
theorem leN_snoc (l : List UInt8) (x : UInt8) : leN (l ++ [x]) = leN l + x.toNat * 256 ^ l.length:=by
 induction l with
 | nil=>simp [leN]
 | cons b l ih=>simp only [List.cons_append,leN,ih,List.length_cons,Nat.pow_succ,Nat.mul_add]; rw [Nat.mul_left_comm 256 x.toNat,Nat.mul_comm 256 (256 ^ l.length)]; omega
theorem pow256 (i : Nat) : 256 ^ i = 2 ^ (8 * i):=by rw [Nat.pow_mul]
theorem or_shift {a b i : Nat} (h : a < 2 ^ i) : a ||| (b * 2 ^ i) = a + b * 2 ^ i:=by
 rw [← Nat.shiftLeft_eq,Nat.or_comm,← Nat.shiftLeft_add_eq_or_of_lt h,Nat.add_comm]
theorem le_or {l : List UInt8} {x : UInt8} (h : l.length ≤ 3) : qci .or .u32 (leN l) (IntKind.u32.wrap ((x.toNat : Int) * 2 ^ (min ((8 * l.length : Nat) : Int).toNat IntKind.u32.bits))) = (leN (l ++ [x]) : Int):=by
 have h1:=leN_lt l
 have hx:=x.toNat_lt
 have h2 : 256 ^ l.length ≤ 256 ^ 3:=Nat.pow_le_pow_right (by omega) h
 have h3 : x.toNat * 2 ^ (8 * l.length) < 4294967296:=by
  rw [← pow256]
  have:=Nat.mul_le_mul (show x.toNat ≤ 255 by omega) h2
  omega
 rw [shl32 (by omega) h3,qbn (by omega) h3,leN_snoc,or_shift (by rw [← pow256]; exact h1),pow256]
theorem le_or2 {l : List UInt8} {x : UInt8} {i : Nat} (hl : l.length = i) (h : i ≤ 3) : qci .or .u32 (leN l) (IntKind.u32.wrap ((x.toNat : Int) * 2 ^ (min (8 * (i : Int)).toNat IntKind.u32.bits))) = (leN (l ++ [x]) : Int):=by
 subst hl
 rw [← le_or h]
 simp
theorem shr8 (v i : Nat) (h : i ≤ 3) : IntKind.u8.wrap ((v : Int).fdiv (2 ^ (min (8 * (i : Int)).toNat IntKind.u32.bits))) = ((UInt8.ofNat (v / 2 ^ (8 * i))).toNat : Int):=by
 have:=shr32 v (8 * i) (by omega)
 rw [← conv8,← this]
 simp
def leB (v : Nat) (n : Nat) : List UInt8:=(List.range n).map fun i=>UInt8.ofNat (v / 2 ^ (8 * i))
theorem qeq (v n : Nat) : (leB v n).length = n:=by simp [leB]
theorem leB_succ (v n : Nat) : leB v (n + 1) = leB v n ++ [UInt8.ofNat (v / 2 ^ (8 * n))]:=by simp [leB,List.range_succ]
section
variable {P : Program} {n : Nat} {cx : Cx} {ρ : Hp} {E : Env} {L : Own} {o : Oper} {ops : Array Oper} {Q : Exit → Act → World → Prop} {S' : World → Prop} {π : List (Nat × Bool)} {i : Nat} {v : Value}
theorem Jp.delete0 (j : Nat) {x y : Operand} {t u kt et : TypeId} {ki kk : IntKind} {b : Nat} {k : Int} {m : qcp} (hi : nth ops.toList i = some o) (hw : qgl n ops E o true) (he : o.dst = none)
  (hop : o.op = .call { callee:=.builtin .delete,args:=#[x,y],argTypes:=#[t,u] }) (hx : evE E x = some (.map (some b))) (hy : evE E y = some (.int kk k)) (hT : P.underlying t = some (.map kt et)) (hK : P.underlying kt = some (.int ki)) (hj : look L j = some (qcn kk b m))
  (hk : Kp π S' cx ρ ((j,qcn kk b (mdel m k)) :: L)) (h : Jp P ops Q S' n cx π ρ E ((j,qcn kk b (mdel m k)) :: L)) : Jp P ops Q S' n cx ((i,false) :: π) ρ E L:=by
 intro a w ha hs
 obtain ⟨es,clock,h1,hst,h2⟩:=qgf hs hj
 have hf:=qfa (P:=P) (kt:=ki) (k:=k) hK h2 w
 have hc:=qef (P:=P) (kt:=ki) (kk:=kk) (k:=k) es.isEmpty 9999 hK w
 have g0 : (#[t,u] : Array TypeId)[0]? = some t:=rfl
 have g2 : (#[.map (some b),.int kk k] : Array Value)[0]? = some (.map (some b)):=rfl
 have g3 : (#[.map (some b),.int kk k] : Array Value)[1]? = some (.int kk k):=rfl
 obtain ⟨es',hst',hrun,hes⟩ : ∃ es' : Array MapEntry,qeg es' clock ∧ (Builtin.delete_ #[t,u] o.type #[.map (some b),.int kk k]).run P w = .ok (.tuple #[]) { w with heap:=w.heap.setIfInBounds b (.map es' clock) } ∧ es'.toList.map (fun e=>(e.key,e.val)) = (mdel m k).map fun x=>(Value.int kk x.1,x.2):=by
  cases hx : qde k m 0 with
  | none =>
   refine ⟨es,hst,?_,by simp only [mdel,hx]; exact h2⟩
   unfold Builtin.delete_
   rw [g0,g2,g3]
   simp only [Sem.run_bind,run_underlying hT,Result.andThen_ok,qbw h1,hc,hf,hx,qdw h1,Sem.run_pure]
  | some p =>
   obtain ⟨q,v⟩:=p
   refine ⟨es.eraseIdxIfInBounds q,?_,?_,?_⟩
   ·rw [Array.eraseIdxIfInBounds_eq]
    split
    ·rw [qeg,Array.toList_eraseIdx]
     exact ⟨hst.1.sublist ((List.eraseIdx_sublist ..).map _),fun e he=>hst.2 e ((List.eraseIdx_sublist ..).subset he)⟩
    ·exact hst
   ·unfold Builtin.delete_
    rw [g0,g2,g3]
    simp only [Sem.run_bind,run_underlying hT,Result.andThen_ok,qbw h1,hc,hf,hx,qdw h1,Sem.run_pure]
   ·obtain ⟨_,hq⟩:=findI_some hx
    rw [Nat.sub_zero] at hq
    have hlt : q < es.size:=by rw [qhn h2]; exact (List.getElem?_eq_some_iff.1 hq).1
    simp only [mdel,hx]
    rw [Array.eraseIdxIfInBounds_eq,dif_pos hlt,Array.toList_eraseIdx,qen,qen,h2]
 have hr':=qdj (P:=P) (w:=w) (v:=.tuple #[]) (w':={ w with heap:=w.heap.setIfInBounds b (.map es' clock) }) hop (ha.ev hx) (ha.ev hy) (fun cs'=>by simp only [builtin,Sem.run_bind,hrun,Result.andThen_ok,Sem.run_pure])
 simp only [qfn,wpOp,qbj hi,hw a ha,if_true,Oper.wp,hr',Oper.upon,he]
 have hs':=St.setMap hs hj h1 hst' hes
 exact .inl ⟨hk.get hs',h _ _ ha hs'⟩
end
section
variable {P : Program} {n : Nat} {cx : Cx} {ρ : Hp} {E : Env} {L : Own} {o : Oper}
theorem Y.qad {x : Operand} {s : TypeId} {f b off q : Nat} {fs : Array Field} {fd : Field} {m : Nat} (hop : o.op = .fieldAddr s x f) (hx : evE E x = some (.pointer (some ⟨b,off,none⟩))) (hT : P.underlying s = some (.struct fs)) (hf : nth fs.toList f = some fd)
  (hz : ∀ w,(sizeOf fd.type).run P w = .ok m w) (hm : m ≠ 0) (hq : off + fd.offset = q) : Y P n cx ρ E L o (.pointer (some ⟨b,q,none⟩)):=by
 subst hq
 have:=Y.fieldAddr (n:=n) (cx:=cx) (ρ:=ρ) (L:=L) hop hx hT hf hz hm
 rw [qcy] at this
 exact this
theorem Y.qam {x y : Operand} {t e : TypeId} {k : IntKind} {j : Int} {b off : Nat} {l m q : Nat} (hop : o.op = .indexAddr t x y) (hx : evE E x = some (.pointer (some ⟨b,off,none⟩))) (hy : evE E y = some (.int k j)) (hT : P.underlying t = some (.array l e))
  (hz : ∀ w,(sizeOf e).run P w = .ok m w) (h0 : 0 ≤ j) (h1 : j < l) (hq : off + j.toNat * m = q) : Y P n cx ρ E L o (.pointer (some ⟨b,q,none⟩)):=by
 subst hq
 have:=Y.indexArr (n:=n) (cx:=cx) (ρ:=ρ) (L:=L) hop hx hy hT hz h0 h1 rfl
 rw [qcy] at this
 exact this
end
end Go.Proofs.YtnfkalpgidiafaaGreat
set_option linter.unusedVariables false
set_option linter.unusedSimpArgs false
namespace Go.Proofs.YtnfkalpgidiafaaGreat
open Go
def wpT (P : Program) (ops : Array Oper) (Q : Exit → Act → World → Prop) (S : World → Prop) (x : Nat) : Nat → Array Bool → Act → World → Prop
 | 0,listed,a,w=>Region.ready .any ops listed = [] ∧ Q .normal a w
 | fuel + 1,listed,a,w=>(Region.ready .any ops listed = [] → Q .normal a w) ∧
  ∀ i ∈ Region.ready .any ops listed,wpOp P ops Q i (fun a' w'=>((listed.setIfInBounds i true).getD x false = true ∨ S w') ∧ wpT P ops Q S x fuel (listed.setIfInBounds i true) a' w') a w
theorem wpT_any {P : Program} {ops : Array Oper} {Q : Exit → Act → World → Prop} {S : World → Prop} {x : Nat} : ∀ (fuel : Nat) (listed : Array Bool) (a : Act) (w : World),wpT P ops Q S x fuel listed a w → wpAny P .any ops Q fuel listed a w
 | 0,_,_,_,h=>h
 | fuel + 1,_,_,_,h=>And.intro h.1 fun i hi=>wpOp_mono (fun a' w' h'=>wpT_any fuel _ a' w' h'.2) (h.2 i hi)
theorem wpT_mono {P : Program} {ops : Array Oper} {Q : Exit → Act → World → Prop} {S S' : World → Prop} {x : Nat} (hm : ∀ w,S' w → S w) : ∀ (fuel : Nat) (listed : Array Bool) (a : Act) (w : World),wpT P ops Q S' x fuel listed a w → wpT P ops Q S x fuel listed a w
 | 0,_,_,_,h=>h
 | fuel + 1,_,_,_,h=>And.intro h.1 fun i hi=>wpOp_mono (fun a' w' h'=>⟨h'.1.imp id (hm _),wpT_mono hm fuel _ a' w' h'.2⟩) (h.2 i hi)
theorem qht {l : Array Bool} {i x : Nat} (h : l.getD x false = true) : (l.setIfInBounds i true).getD x false = true:=by
 by_cases hix : i = x
 ·subst hix
  have hlt : i < l.size:=by
   rcases Nat.lt_or_ge i l.size with q | q
   ·exact q
   ·rw [Array.getD_eq_getD_getElem?,Array.getElem?_eq_none q] at h; simp at h
  rw [Array.getD_eq_getD_getElem?,Array.getElem?_setIfInBounds]; simp [hlt]
 ·rw [getD_set_ne false hix]; exact h
theorem wpT_first {P : Program} {ops : Array Oper} {Q : Exit → Act → World → Prop} {S Y : World → Prop} {i x : Nat} {oi : Oper} {v : Value} (hi : ops[i]? = some oi) (hix : i ≠ x) (hsel : Region.noSelect ops = true) (hQ : ∀ c a w,Q (.panic c) (a.put oi.dst v) w → Q (.panic c) a w)
  (hY : (∀ w,Y w) ∨ ((∀ w,S w → Y w) ∧ ∃ f ox,ops[x]? = some ox ∧ cov ops f x i = true)) :
  ∀ (fuel : Nat) (listed : Array Bool) (a : Act) (w : World),Closed ops listed →
   (∀ j oj,ops[j]? = some oj → j ≠ i → listed.getD j true = false → (∀ e ∈ oj.after,Region.binds .any e = true → e.on ≠ i) → oi.apart ops oj = true) →
   i ∈ Region.ready .any ops listed → YieldsIf P ops Y oi v a → Y w → (listed.getD x false = true ∨ S w) → wpT P ops Q S x fuel (listed.setIfInBounds i true) (a.put oi.dst v) w → wpT P ops Q S x (fuel + 1) listed a w:=by
 have sel:=Region.noSelect_spec hsel
 intro fuel
 induction fuel with
 | zero =>
  intro listed a w _ _ hr hy hYw hS H
  refine ⟨fun h=>?_,fun j hj=>?_⟩
  ·rw [h] at hr; cases hr
  rcases Decidable.em (j = i) with rfl | hji
  ·exact hy.wpOp hi hYw ⟨hS.imp qht id,H⟩
  ·have:=ready_mono hj hji
   rw [H.1] at this; cases this
 | succ fuel ih =>
  intro listed a w hc hfree hr hy hYw hS H
  refine ⟨fun h=>?_,fun j hj=>?_⟩
  ·rw [h] at hr; cases hr
  rcases Decidable.em (j = i) with rfl | hji
  ·exact hy.wpOp hi hYw ⟨hS.imp qht id,H⟩
  ·have h1:=H.2 j (ready_mono hj hji)
   obtain ⟨hjun,oj,hoj,hall⟩:=mem_ready.1 hj
   have hi0:=(mem_ready.1 hr).1
   have hilt : i < listed.size:=by
    rcases Nat.lt_or_ge i listed.size with q | q
    ·exact q
    ·simp [Array.getElem?_eq_none q] at hi0
   have hnot : ∀ e ∈ oj.after,Region.binds .any e = true → e.on ≠ i:=fun e he hb heq=>by
    have h2:=hall e he hb
    rw [heq] at h2
    simp [hilt] at h2 hi0
    rw [hi0] at h2; cases h2
   have hiun : ∀ q,q ≠ i → (listed.setIfInBounds q true).getD i false = false:=fun q hq=>by
    rw [getD_set_ne false hq]
    rw [Array.getD_eq_getD_getElem?] at hi0 ⊢
    simp [hilt] at hi0 ⊢; exact hi0
   have h2:=wpOp_putIf hoj (hfree j oj hoj hji hjun hnot) (fun cs b=>sel i oi cs b hi) (fun cs b=>sel j oj cs b hoj) hQ hy h1
   refine wpOp_mono (fun a' w' h3=>?_) h2
   obtain ⟨h4,h5,h6⟩:=h3
   have hcj:=hc.set hj
   have h7 : (listed.setIfInBounds j true).getD x false = true ∨ S w':=by
    rcases h5 with h5 | h5
    ·left
     rw [Array.setIfInBounds_comm _ _ (Ne.symm hji)] at h5
     rwa [getD_set_ne false hix] at h5
    ·exact .inr h5
   have h8 : Y w':=by
    rcases hY with hY | ⟨hY,f,ox,hox,hcov⟩
    ·exact hY w'
    ·rcases h7 with h7 | h7
     ·have:=closed_cov hcj f x i ox hox (fun e he hb=>hcj x ox hox h7 e he hb) hcov
      rw [hiun j hji] at this; cases this
     ·exact hY w' h7
   refine ⟨h7,ih _ a' w' hcj (fun k ok hk hki hun hno=>hfree k ok hk hki ?_ hno) (ready_mono hr (Ne.symm hji)) h4 h8 h7 ?_⟩
   ·rcases Decidable.em (j = k) with rfl | hjk
    ·exact hjun
    ·rw [getD_set_ne true hjk] at hun; exact hun
   ·rw [Array.setIfInBounds_comm _ _ hji]; exact h6
theorem wpOp_qn {P : Program} {ops : Array Oper} {N N' K : Act → World → Prop} {i : Nat} {a : Act} {w : World} (h : wpOp P ops (Qn N) i K a w) : wpOp P ops (Qn N') i K a w:=by
 unfold wpOp at h ⊢
 cases ho : ops[i]? with
 | none=>rw [ho] at h; exact h
 | some o =>
  rw [ho] at h
  simp only at h ⊢
  by_cases hw : Region.wanted o (yielded ops a.tmps) = true
  ·rw [if_pos hw] at h ⊢
   rcases h with h | ⟨h1,a',w',h2⟩
   ·left
    unfold Oper.wp at h ⊢
    cases hr : (execOp a.eval o).run P w with
    | ok nx w'=>rw [hr] at h; cases nx <;> exact h
    | halt s w'=>rw [hr] at h; cases s <;> exact h
   ·exact h2.elim
  ·rw [if_neg hw] at h ⊢; exact h
def wpPiP (P : Program) (ops : Array Oper) (N : Act → World → Prop) : List (Nat × Bool) → Act → World → Prop
 | [],a,w=>N a w
 | (i,true) :: π,a,w=>∃ o v,ops[i]? = some o ∧ YieldsIf P ops (fun _=>True) o v a ∧ wpPiP P ops N π (a.put o.dst v) w
 | (i,false) :: π,a,w=>wpOp P ops (Qn N) i (fun a' w'=>wpPiP P ops N π a' w') a w
section
variable {P : Program} {ops : Array Oper} {N : Act → World → Prop}
theorem pi_sound2 (hs : Region.noSelect ops = true) {x : Nat} (S : World → Prop) : ∀ (π : List (Nat × Bool)) (listed : Array Bool) (a : Act) (w : World),Closed ops listed → (∀ p ∈ π,p.2 = true → p.1 ≠ x) →
  okPi ops π listed = true → (listed.getD x false = true ∨ ∃ π',π = (x,false) :: π') → (x < listed.size) → wpPiP P ops N π a w → wpT P ops (Qn N) S x π.length listed a w:=by
 intro π
 induction π with
 | nil =>
  intro listed a w _ _ h _ _ hw
  exact ⟨by simpa [okPi] using h,hw⟩
 | cons p π ih =>
  obtain ⟨i,b⟩:=p
  intro listed a w hc hq h hx hxl hw
  cases b with
  | true =>
   simp only [okPi,Bool.and_eq_true] at h
   have hxd : listed.getD x false = true:=by
    rcases hx with hx | ⟨π',e⟩
    ·exact hx
    ·injection e with e _; injection e with _ e; cases e
   obtain ⟨o,v,ho,hy,hk⟩:=hw
   have hmem : i ∈ Region.ready .any ops listed:=by simpa using h.1.2
   have hne : i ≠ x:=hq (i,true) (List.mem_cons_self ..) rfl
   exact wpT_first (Y:=fun _=>True) ho hne hs (fun c a w hc=>hc.elim) (.inl fun _=>trivial) _ _ _ _ hc (Region.free_spec ho h.1.1) hmem hy trivial (.inl hxd)
    (ih _ _ _ (hc.set hmem) (fun p hp=>hq p (List.mem_cons_of_mem _ hp)) h.2 (.inl (qht hxd)) (by simpa using hxl) hk)
  | false =>
   simp only [okPi,Bool.and_eq_true,beq_iff_eq] at h
   refine ⟨fun h0=>?_,fun j hj=>?_⟩
   ·rw [h.1] at h0; cases h0
   have hc':=hc.set hj
   rw [h.1] at hj
   simp at hj
   subst hj
   have hd : (listed.setIfInBounds j true).getD x false = true:=by
    rcases hx with hx | ⟨π',e⟩
    ·exact qht hx
    ·injection e with e _; injection e with e _; subst e
     rw [Array.getD_eq_getD_getElem?,Array.getElem?_setIfInBounds]; simp [hxl]
   exact wpOp_mono (fun a' w' h'=>⟨.inl hd,ih _ _ _ hc' (fun p hp=>hq p (List.mem_cons_of_mem _ hp)) h.2 (.inl hd) (by simpa using hxl) h'⟩) hw
def qfr : List (Nat × Bool) → Bool
 | []=>true
 | [(_,b)]=>b
 | _ :: π=>qfr π
theorem pi_sound1 (hs : Region.noSelect ops = true) {x : Nat} {ox : Oper} (hox : ops[x]? = some ox) {π2 : List (Nat × Bool)} (hx2 : ∃ π',π2 = (x,false) :: π') (hq2 : ∀ p ∈ π2,p.2 = true → p.1 ≠ x) : ∀ (π : List (Nat × Bool)) (S : World → Prop) (listed : Array Bool) (a : Act) (w : World),Closed ops listed → qfr π = true → (∀ p ∈ π,p.1 ≠ x ∧ cov ops 10 x p.1 = true) →
  okPi ops (π ++ π2) listed = true → S w → (x < listed.size) → qfn P ops (wpPiP P ops N π2) S π a w → wpT P ops (Qn N) S x (π.length + π2.length) listed a w:=by
 intro π
 induction π with
 | nil =>
  intro S listed a w hc _ _ h hS hxl hw
  rw [List.length_nil,Nat.zero_add]
  exact pi_sound2 hs S π2 listed a w hc hq2 h (.inr hx2) hxl hw
 | cons p π ih =>
  obtain ⟨i,b⟩:=p
  intro S listed a w hc hl hcv h hS hxl hw
  rw [List.length_cons,show π.length + 1 + π2.length = (π.length + π2.length) + 1 by omega]
  have hl' : qfr π = true:=by
   cases π with
   | nil=>rfl
   | cons q π=>exact hl
  cases b with
  | true =>
   rw [List.cons_append] at h
   simp only [okPi,Bool.and_eq_true] at h
   obtain ⟨S',hm,hSw',o,v,ho,hy,hk⟩:=hw
   have hSw':=hSw' hS
   have hmem : i ∈ Region.ready .any ops listed:=by simpa using h.1.2
   obtain ⟨hne,hcov⟩:=hcv (i,true) (List.mem_cons_self ..)
   exact wpT_mono hm _ _ _ _ (wpT_first (Y := S') (S := S') ho hne hs (fun c a w hc => hc.elim) (.inr ⟨fun _ h => h, 10, ox, hox, hcov⟩) _ _ _ _ hc (Region.free_spec ho h.1.1) hmem hy hSw' (.inr hSw')
    (ih S' _ _ _ (hc.set hmem) hl' (fun p hp => hcv p (List.mem_cons_of_mem _ hp)) h.2 hSw' (by simpa using hxl) hk))
  | false =>
   rw [List.cons_append] at h
   simp only [okPi,Bool.and_eq_true,beq_iff_eq] at h
   refine ⟨fun h0=>?_,fun j hj=>?_⟩
   ·rw [h.1] at h0; cases h0
   have hc':=hc.set hj
   rw [h.1] at hj
   simp at hj
   subst hj
   refine wpOp_mono (fun a' w' h'=>?_) (wpOp_qn hw)
   obtain ⟨h1,h2⟩:=h'
   have h1 : S w':=by
    rcases h1 with q | q
    ·subst q; cases hl
    ·exact q
   exact ⟨.inr h1,ih S _ _ _ hc' hl' (fun p hp=>hcv p (List.mem_cons_of_mem _ hp)) h.2 h1 (by simpa using hxl) h2⟩
theorem pi_sound0 (hs : Region.noSelect ops = true) {x : Nat} (S : World → Prop) {k : Nat} {rest : List (Nat × Bool)} {N1 : Act → World → Prop}
  (key : ∀ listed a w,Closed ops listed → okPi ops rest listed = true → x < listed.size → S w → N1 a w → wpT P ops (Qn N) S x k listed a w) : ∀ (π : List (Nat × Bool)) (listed : Array Bool) (a : Act) (w : World),Closed ops listed → (∀ p ∈ π,p.2 = true ∧ p.1 ≠ x) →
  okPi ops (π ++ rest) listed = true → S w → x < listed.size → wpPiP P ops N1 π a w → wpT P ops (Qn N) S x (π.length + k) listed a w:=by
 intro π
 induction π with
 | nil =>
  intro listed a w hc _ h hS hxl hw
  rw [List.length_nil,Nat.zero_add]
  exact key listed a w hc h hxl hS hw
 | cons p π ih =>
  obtain ⟨i,b⟩:=p
  intro listed a w hc hq h hS hxl hw
  obtain ⟨hb,hne⟩:=hq (i,b) (List.mem_cons_self ..)
  dsimp only at hb hne
  subst hb
  rw [List.length_cons,show π.length + 1 + k = (π.length + k) + 1 by omega]
  rw [List.cons_append] at h
  simp only [okPi,Bool.and_eq_true] at h
  obtain ⟨o,v,ho,hy,hk⟩:=hw
  have hmem : i ∈ Region.ready .any ops listed:=by simpa using h.1.2
  exact wpT_first (Y:=fun _=>True) ho hne hs (fun c a w hc=>hc.elim) (.inl fun _=>trivial) _ _ _ _ hc (Region.free_spec ho h.1.1) hmem hy trivial (.inr hS)
   (ih _ _ _ (hc.set hmem) (fun p hp=>hq p (List.mem_cons_of_mem _ hp)) h.2 hS (by simpa using hxl) hk)
def okRegion3 (ops : Array Oper) (π0 π1 : List (Nat × Bool)) (x : Nat) (π2 : List (Nat × Bool)) : Bool :=
 Region.noSelect ops && ((π0 ++ (π1 ++ (x,false) :: π2)).length == ops.size) && qfr π1 && (π1.all fun p=>!(Nat.beq p.1 x) && cov ops 10 x p.1) && (π2.all fun p=>!p.2 || !(Nat.beq p.1 x)) && (π0.all fun p=>p.2 && !(Nat.beq p.1 x)) && okPi ops (π0 ++ (π1 ++ (x,false) :: π2)) (Array.replicate ops.size false) && decide (x < ops.size)
def okRegion2 (ops : Array Oper) (π1 : List (Nat × Bool)) (x : Nat) (π2 : List (Nat × Bool)) : Bool :=
 Region.noSelect ops && ((π1 ++ (x,false) :: π2).length == ops.size) && qfr π1 && (π1.all fun p=>!(Nat.beq p.1 x) && cov ops 10 x p.1) && (π2.all fun p=>!p.2 || !(Nat.beq p.1 x)) && okPi ops (π1 ++ (x,false) :: π2) (Array.replicate ops.size false) && decide (x < ops.size)
end
section
variable {P : Program} {Q : Exit → Act → World → Prop} {n : Nat} {cx : Cx} {ρ ρs : Hp} {E E' : Env} {L L' Ls : Own} {ops : Array Oper} {S : World → Prop} {π : List (Nat × Bool)} {i : Nat} {o : Oper} {v : Value}
def Jp2 (P : Program) (ops : Array Oper) (Q : Exit → Act → World → Prop) (n : Nat) (cx : Cx) (π : List (Nat × Bool)) (ρ : Hp) (E : Env) (L : Own) : Prop :=
 ∀ a w,At n E a → St cx ρ L w → wpPiP P ops (Q .normal) π a w
def tailQ (P : Program) (ops : Array Oper) (Q : Exit → Act → World → Prop) (π : List (Nat × Bool)) : Exit → Act → World → Prop
 | .normal,a,w=>wpPiP P ops (Q .normal) π a w
 | e,a,w=>Q e a w
theorem Jp2.loud (h : Jp P ops (tailQ P ops Q π) (fun _=>True) n cx [(i,false)] ρ E L) : Jp2 P ops Q n cx ((i,false) :: π) ρ E L:=fun a w ha hs =>
 wpOp_mono (K:=fun a' w'=>([] = ([] : List (Nat × Bool)) ∨ True) ∧ wpPiP P ops (Q .normal) π a' w') (fun a' w' h'=>h'.2) (wpOp_qn (h a w ha hs))
theorem Jp2.tail (h : Jp2 P ops Q n cx π ρ E L) : Jp P ops (tailQ P ops Q π) S n cx [] ρ E L:=h
theorem Jp2.nil (h : Jp P ops Q (fun _=>True) n cx [] ρ E L) : Jp2 P ops Q n cx [] ρ E L:=h
theorem St.any (w : World) : St ⟨w,fun _=>False,Hp.emp⟩ Hp.emp [] w:=St.refl w _ _ fun b o e=>by cases e
theorem Jp2.q (d : Nat) (hi : nth ops.toList i = some o) (hw : qgl n ops E o true) (he : o.dst = some d) (hd : Nat.blt d n = true) (hy : ∀ cx,Y P n cx Hp.emp E [] o v)
  (h : Jp2 P ops Q n cx π ρ ((d,v) :: E) L) : Jp2 P ops Q n cx ((i,true) :: π) ρ E L :=
 fun a w ha hs=>⟨o,v,qbj hi,.inl ⟨hw a ha,fun w' _=>hy _ a w' ha (St.any w')⟩,h _ _ (ha.put' he hd v) hs⟩
theorem Jp2.qskip (d : Nat) (hi : nth ops.toList i = some o) (hw : qgl n ops E o false) (he : o.dst = some d) (hd : Nat.blt d n = true)
  (h : Jp2 P ops Q n cx π ρ ((d,undef) :: E) L) : Jp2 P ops Q n cx ((i,true) :: π) ρ E L :=
 fun a w ha hs=>⟨o,undef,qbj hi,.inr ⟨hw a ha,rfl⟩,h _ _ (ha.put' he hd _) hs⟩
theorem Jp2.split {c : Bool} (t : Nat) (ht : look E t = some (.bool c)) (h1 : c = true → Jp2 P ops Q n cx π ρ ((t,.bool true) :: E) L) (h2 : c = false → Jp2 P ops Q n cx π ρ ((t,.bool false) :: E) L) : Jp2 P ops Q n cx π ρ E L:=by
 intro a w ha hs
 cases c with
 | true=>exact h1 rfl a w ⟨ha.defers,ha.size,fun u x e=>qdi ha ht e⟩ hs
 | false=>exact h2 rfl a w ⟨ha.defers,ha.size,fun u x e=>qdi ha ht e⟩ hs
theorem Jp2.slot {u u' : Value} (t : Nat) (ht : look E t = some u) (e : u = u') (h : Jp2 P ops Q n cx π ρ ((t,u') :: E) L) : Jp2 P ops Q n cx π ρ E L:=by
 subst e
 exact fun a w ha hs=>h a w ⟨ha.defers,ha.size,fun k x e=>qdi ha ht e⟩ hs
def headQ (P : Program) (ops : Array Oper) (Q : Exit → Act → World → Prop) (S : World → Prop) (π : List (Nat × Bool)) : Exit → Act → World → Prop
 | .normal,a,w=>qfn P ops (Q .normal) S π a w
 | e,a,w=>Q e a w
theorem Jp2.head (h : Jp P ops Q S n cx π ρ E L) : Jp2 P ops (headQ P ops Q S π) n cx [] ρ E L:=h
theorem Cd.drawn3 {id : Nat} {ops : Array Oper} (Ls : Own) (hL : Subl Ls L) (π0 π1 : List (Nat × Bool)) (x : Nat) (π2 : List (Nat × Bool)) (hm : P.follows .mixedOrders = true) (hok : okRegion3 ops π0 π1 x π2 = true)
  (h : Hp.le cx.r0 ρ → Jp2 P ops (headQ P ops (tailQ P ops Q ((x,false) :: π2)) (fun w=>St cx ρ Ls w) π1) n cx π0 ρ E L) : Cd P Q n cx ρ E L (.region id ops true):=fun a w ha hs=>by
 simp only [okRegion3,Bool.and_eq_true,beq_iff_eq,decide_eq_true_eq] at hok
 obtain ⟨⟨⟨⟨⟨⟨⟨h1,h2⟩,h3⟩,h4⟩,h5⟩,h8⟩,h6⟩,h7⟩:=hok
 have hox : ops[x]? = some ops[x]:=by simp [h7]
 refine wp_mono (wp_region_any (Q:=Qn (Q .normal)) hm (wpT_any (S:=fun w=>St cx ρ Ls w) (x:=x) _ _ _ _ ?_)) (qn_mono fun _ _ h=>h)
 have key1 := fun listed a w hc hok hxl hS hN => pi_sound1 (P := P) (N := Q .normal) h1 hox (π2 := (x, false) :: π2) ⟨π2, rfl⟩ (fun p hp hb => by
   rcases List.mem_cons.1 hp with rfl | hp
   ·cases hb
   ·have:=List.all_eq_true.1 h5 p hp
    rw [hb] at this
    intro e
    rw [e] at this; simp at this) π1 (fun w => St cx ρ Ls w) listed a w hc h3
  (fun p hp => by
   have:=List.all_eq_true.1 h4 p hp
   simp only [Bool.and_eq_true,Bool.not_eq_true'] at this
   exact ⟨fun e => by rw [e] at this; simp at this, this.2⟩) hok hS hxl hN
 have key:=pi_sound0 (P:=P) (N:=Q .normal) h1 (x:=x) (fun w=>St cx ρ Ls w) key1 π0 (Array.replicate ops.size false) a _ (fun j o _ hl=>by rw [Array.getD_eq_getD_getElem?,Array.getElem?_replicate] at hl; split at hl <;> simp at hl)
  (fun p hp => by
   have:=List.all_eq_true.1 h8 p hp
   simp only [Bool.and_eq_true,Bool.not_eq_true'] at this
   exact ⟨this.1, fun e => by rw [e] at this; simp at this⟩) h6 (hs.drew.sub hL) (by simpa using h7) (h hs.rle a _ ha hs.drew)
 rw [List.length_append,List.length_append] at h2
 rw [h2] at key
 exact key
end
theorem OwnS.hasC {e : TypeId} {m k c q : Nat} {ad : Addr} {cs : List Value} {v : Value} (hv : cs[q]? = some v) : HasC (OwnS e m (some ad) k c cs) (ad.add q) v:=fun h hh=>by
 obtain ⟨ad',e1,e2⟩:=hh.rd.2.2 q v hv
 injection e1 with e1
 subst e1
 exact e2
end Go.Proofs.YtnfkalpgidiafaaGreat
set_option linter.unusedVariables false
set_option linter.unusedSimpArgs false
namespace Go.Proofs.YtnfkalpgidiafaaGreat
open Go
def qgb (o : Oper) : Prop:=(∀ c,o.op ≠ .defer c) ∧ ∀ ev P w nx w',(execOp ev o).run P w = .ok nx w' → (∃ v,nx = .value v) ∨ nx = .skip
theorem run_val {x : Sem Value} {P : Program} {w w' : World} {nx : Next} (h : (do pure (Next.value (← x)) : Sem Next).run P w = .ok nx w') : ∃ v,nx = .value v:=by
 rw [Sem.run_bind] at h
 cases hx : x.run P w with
 | ok v w1=>rw [hx] at h; simp only [Result.andThen_ok,Sem.run_pure] at h; injection h with h1 h2; exact ⟨v,h1.symm⟩
 | halt s w1=>rw [hx] at h; cases h
theorem run_then {x : Sem Unit} {nx0 : Next} {P : Program} {w w' : World} {nx : Next} (h : (do x; pure nx0 : Sem Next).run P w = .ok nx w') : nx = nx0:=by
 rw [Sem.run_bind] at h
 cases hx : x.run P w with
 | ok v w1=>rw [hx] at h; simp only [Result.andThen_ok,Sem.run_pure] at h; injection h with h1 h2; exact h1.symm
 | halt s w1=>rw [hx] at h; cases h
theorem opsIn_of {P : Program} {ops : Array Oper} {F : Fence} {m : Nat} {N N' : Act → World → Prop} {D : List Deferred} (hF : ∀ f,F.fn f) (hval : ∀ (i : Nat) (o : Oper),ops[i]? = some o → qgb o) (hN : ∀ a w,N a w → N' { a with defers:=D } w) :
  ∀ (l : List Nat) (a : Act) (w : World),wpOps P ops (Qn N) l a w → wpOpsIn F m P ops (Qn N') l { a with defers:=D } w:=by
 intro l
 induction l with
 | nil=>intro a w h; exact hN a w h
 | cons i l ih =>
  intro a w h
  simp only [wpOps] at h
  simp only [wpOpsIn]
  cases ho : ops[i]? with
  | none=>simp only [ho] at h ⊢; exact ih a w h
  | some o =>
   simp only [ho] at h ⊢
   have hput : ∀ v,({ a.put o.dst v with defers:=D } : Act) = ({ a with defers:=D } : Act).put o.dst v:=fun v=>by
    cases o.dst <;> rfl
   by_cases hw : Region.wanted o (yielded ops a.tmps) = true
   ·rw [if_pos hw] at h
    rw [if_pos hw]
    have h1 : o.wp P a w (wpOps P ops (Qn N) l) (Qn N):=by
     rcases h with h | ⟨_,h⟩
     ·exact h
     ·obtain ⟨a',w',h'⟩:=h; exact h'.elim
    refine ⟨fun f _=>hF f,?_⟩
    rw [Oper.semAt_eq _ _ _ (hval i o ho).1]
    show o.uponIn F m P { a with defers:=D } (wpOpsIn F m P ops (Qn N') l) (Qn N') ((execOp a.eval o).run P w)
    unfold Oper.wp at h1
    cases hr : (execOp a.eval o).run P w with
    | ok nx w' =>
     rw [hr] at h1
     rcases (hval i o ho).2 _ _ _ _ _ hr with ⟨v,rfl⟩ | rfl
     ·show wpOpsIn F m P ops (Qn N') l (({ a with defers:=D } : Act).put o.dst v) w'
      rw [← hput]; exact ih _ _ h1
     ·show wpOpsIn F m P ops (Qn N') l (({ a with defers:=D } : Act).put o.dst undef) w'
      rw [← hput]; exact ih _ _ h1
    | halt s w' =>
     rw [hr] at h1
     cases s <;> first | exact h1.elim | exact h1
   ·rw [if_neg hw] at h
    rw [if_neg hw]
    exact ⟨fun f _=>hF f,by rw [← hput]; exact ih _ _ h⟩
theorem qgv {P : Program} {n : Nat} {cx : Cx} {ρ : Hp} {E : Env} {L : Own} {Q : Exit → Act → World → Prop} {F : Fence} {m id : Nat} {l : List Oper} {D : List Deferred} {Q' : Exit → Act → World → Prop} (hF : ∀ f,F.fn f) (hval : ∀ o ∈ l,qgb o) (π : List (Nat × Bool)) (hπ : π.map (·.1) = List.range l.length) (hf : π.all (fun p=>!p.2) = true)
  (h : Jp P l.toArray Q (fun _=>True) n cx π ρ E L) {a : Act} {w : World} (ha : At n E a) (hs : St cx ρ L w) (hN : ∀ a w,Q .normal a w → Q' .normal { a with defers:=D } w) : (Code.region id l.toArray false).wpIn F m P Q' { a with defers:=D } w:=by
 refine wpIn_mono (wpIn_region (Q:=Qn (Q' .normal)) ?_) (fun e a w h=>by cases e <;> first | exact h | exact h.elim)
 have:=wpOps_of_pi (ops:=l.toArray) π a w (fun p hp=>by have:=List.all_eq_true.1 hf p hp; simpa using this) (h a w ha hs)
 rw [hπ] at this
 have h2:=opsIn_of (F:=F) (m:=m) (N':=Q' .normal) (D:=D) hF (fun i o ho=>hval o (by rw [List.getElem?_toArray] at ho; exact List.mem_of_getElem? ho)) hN _ _ _ this
 simpa using h2
def Yields (P : Program) (l : Nat) (J : List Value → qax) (ok : List Value → Prop) : Prop :=
 ∀ seen k,ok (seen ++ [k]) → ∀ w M ρ,St ⟨w,M,ρ⟩ ρ [(0,J seen)] w → ∃ r : Loop,w.heap[l]? = some (.loop r) ∧ r.params.size = 1 ∧
  ∀ m,RoundIn Fence.wide m P l r.fn ((r.params.zip #[k]).foldl (fun tmps (t,a)=>tmps.setIfInBounds t a) r.tmps) r.assign r.body w
   fun e w'=>∃ ρ',e = .returned (.bool true) ∧ St ⟨w,M,ρ⟩ ρ' [(0,J (seen ++ [k]))] w'
theorem opsIn_y {P : Program} {ops : Array Oper} {F : Fence} {m : Nat} {Q : Exit → Act → World → Prop} (hF : ∀ f,F.fn f) {i : Nat} {rest : List Nat} {o : Oper} {a : Act} {w w' : World} {v : Value} (hi : nth ops.toList i = some o) (hg : o.guard = none) (hnd : ∀ c,o.op ≠ .defer c)
  (hr : (execOp a.eval o).run P w = .ok (.value v) w') (h : wpOpsIn F m P ops Q rest (a.put o.dst v) w') : wpOpsIn F m P ops Q (i :: rest) a w:=by
 have hw : Region.wanted o (yielded ops a.tmps) = true:=by simp [Region.wanted,hg]
 simp only [wpOpsIn,qbj hi]
 rw [if_pos hw]
 refine ⟨fun f _=>hF f,?_⟩
 rw [Oper.semAt_eq _ _ _ hnd,hr]; exact h
theorem opsIn_round {P : Program} {ops : Array Oper} {F : Fence} {m : Nat} {Q : Exit → Act → World → Prop} (hF : ∀ f,F.fn f) (hdep : F.depth = none) {i l : Nat} {rest : List Nat} {o : Oper} {a : Act} {w w' : World} {f : FuncId} {tmps : Array Value} {A B : Code} {R : Ending → World → Prop} (hi : nth ops.toList i = some o) (hg : o.guard = none) (hnd : ∀ c,o.op ≠ .defer c)
  (hr : (execOp a.eval o).run P w = .ok (.round l f tmps A B) w') (h : RoundIn F (m - 1) P l f tmps A B w' R) (hR : ∀ e w'',R e w'' → ∃ v,e = .returned v ∧ wpOpsIn F m P ops Q rest (a.put o.dst v) w'') : wpOpsIn F m P ops Q (i :: rest) a w:=by
 have hw : Region.wanted o (yielded ops a.tmps) = true:=by simp [Region.wanted,hg]
 simp only [wpOpsIn,qbj hi]
 rw [if_pos hw]
 refine ⟨fun f _=>hF f,?_⟩
 rw [Oper.semAt_eq _ _ _ hnd,hr]
 refine ⟨fun hd=>(by rw [hdep] at hd; cases hd),h.mono ?_⟩
 intro e w'' hre
 obtain ⟨v,rfl,h2⟩:=hR e w'' hre
 exact h2
section
variable {P : Program} {n : Nat} {cx : Cx} {ρ : Hp} {E : Env} {L : Own} {Q : Exit → Act → World → Prop}
theorem Cd.yield (j : Nat) {id l d0 d1 d2 d3 t3 ty0 ty1 ty2 ty3 : Nat} {at0 : TypeId} {x y : Operand} {k : Value} {seen : List Value} {J : List Value → qax} {ok : List Value → Prop} {p0 p1 p2 p3 : String} {e0 e1 e2 e3 : Array Edge}
  (hx : evE E x = some (.func (.yield l) #[] #[])) (hy : evE ((d0,.func (.yield l) #[] #[]) :: E) y = some k) (hd0 : Nat.blt d0 n = true) (hd1 : Nat.blt d1 n = true) (hd2 : Nat.blt d2 n = true) (hd3 : Nat.blt d3 n = true) (hne : ¬ d1 = d0)
  (hj : look L j = some (J seen)) (hY : Yields P l J ok) (hok : ok (seen ++ [k]))
  (h : ∀ ρ',Hp.le ρ ρ' → Jp P #[] Q (fun _=>True) n cx [] ρ' ((d3,.bool false) :: (d2,.bool true) :: (d1,k) :: (d0,.func (.yield l) #[] #[]) :: E) ((j,J (seen ++ [k])) :: (j,Emp) :: L)) :
  Cd P Q n cx ρ E L (.region id #[{ dst := some d0, op := .move x, type := ty0, pos := p0, after := e0, guard := none }, { dst := some d1, op := .move y, type := ty1, pos := p1, after := e1, guard := none },
   { dst := some d2, op := .call { callee := .value (.tmp d0), args := #[.tmp d1], argTypes := #[at0] }, type := ty2, pos := p2, after := e2, guard := none }, { dst := some d3, op := .unOp .not t3 (.tmp d2), type := ty3, pos := p3, after := e3, guard := none }] false) := by
 intro a w ha hs
 refine (wpIn_wide (n:=1)).1 (wpIn_mono (wpIn_region (Q:=Qn (Q .normal)) ?_) (qn_mono fun _ _ h=>h))
 have hW : ∀ f,Fence.wide.fn f:=fun _=>trivial
 obtain ⟨M',hh,hback⟩:=hs.call [j] [j] (by simp) (by simp)
 have hh' : St ⟨w,M',ρ⟩ ρ [(0,J seen)] w:=by
  have e : hand L 0 [j] = [(0,J seen)]:=by simp [hand,hj]
  rw [e] at hh; exact hh
 obtain ⟨r,hr,hrp,hround⟩:=hY seen k hok w M' ρ hh'
 have a1:=ha.put' (dst:=some d0) rfl hd0 (.func (.yield l) #[] #[])
 have a2:=a1.put' (dst:=some d1) rfl hd1 k
 show wpOpsIn Fence.wide 1 P _ _ [0,1,2,3] a w
 refine opsIn_y hW (v:=.func (.yield l) #[] #[]) rfl rfl (fun c h=>by cases h) (Y.move (n:=n) (cx:=cx) (ρ:=ρ) (L:=L) rfl hx a w ha hs) ?_
 refine opsIn_y hW (v:=k) rfl rfl (fun c h=>by cases h) (Y.move (n:=n) (cx:=cx) (ρ:=ρ) (L:=L) rfl hy _ w a1 hs) ?_
 have h0 : ((a.put (some d0) (.func (.yield l) #[] #[])).put (some d1) k).eval (.tmp d0) = .func (.yield l) #[] #[]:=a2.ev (x:=.tmp d0) (by simp only [evE]; rw [qag,if_neg hne,qag,if_pos rfl])
 have h1 : ((a.put (some d0) (.func (.yield l) #[] #[])).put (some d1) k).eval (.tmp d1) = k:=a2.ev (x:=.tmp d1) (by simp only [evE]; rw [qag,if_pos rfl])
 have hrun : (execOp ((a.put (some d0) (.func (.yield l) #[] #[])).put (some d1) k).eval { dst:=some d2,op:=.call { callee:=.value (.tmp d0),args:=#[.tmp d1],argTypes:=#[at0] },type:=ty2,pos:=p2,after:=e2,guard:=none }).run P w =
   .ok (.round l r.fn ((r.params.zip #[k]).foldl (fun tmps (t,a)=>tmps.setIfInBounds t a) r.tmps) r.assign r.body) w:=by
  have hy2:=run_yield (P:=P) (args:=#[k]) hr (by simp [hrp])
  simp only [execOp,resolve,List.map_toArray,List.map_cons,List.map_nil,h0,h1,Deferred.ofValue,Sem.run_bind,Sem.run_pure,Result.andThen_ok,invoke]
  simpa using hy2
 refine opsIn_round hW rfl (i:=2) (rest:=[3]) (o:={ dst:=some d2,op:=.call { callee:=.value (.tmp d0),args:=#[.tmp d1],argTypes:=#[at0] },type:=ty2,pos:=p2,after:=e2,guard:=none }) rfl rfl (fun c h=>by cases h) hrun (hround _) ?_
 rintro e w' ⟨ρ',rfl,hst'⟩
 have hst2:=hback w' ρ' [(0,J (seen ++ [k]))] (by simp) hst'
 have hle : Hp.le ρ ρ':=hst'.rle
 have a3:=a2.put' (dst:=some d2) rfl hd2 (.bool true)
 refine ⟨_,rfl,?_⟩
 refine opsIn_y hW (i:=3) (rest:=[]) (o:={ dst:=some d3,op:=.unOp .not t3 (.tmp d2),type:=ty3,pos:=p3,after:=e3,guard:=none }) (v:=.bool false) rfl rfl (fun c h=>by cases h) (Y.not (n:=n) (cx:=cx) (ρ:=ρ') (L:=back [j] [(0,J (seen ++ [k]))] ++ (gone [j] ++ L)) (x:=.tmp d2) rfl (by simp only [evE]; rw [qag,if_pos rfl]) _ w' a3 hst2) ?_
 exact h ρ' hle _ w' (a3.put' rfl hd3 _) (by simpa [back,gone] using hst2)
end
theorem Spec.ofM {P : Program} {f : FuncId} {fn : Func} {c : Code} {vs : List Value} {R : Hp → Prop} {Lin : Own} {Post : Hp → Hp → Value → Own → Prop} (N : Nat) (hf : P.funcs[f]? = some fn) (hb : fn.body = some c) (hN : fn.ntmps = N) (E : Env)
  (hE : argsE 0 vs = E) (hsz : Nat.ble vs.length N = true)
  (h : ∀ cx ρ,R ρ → cx.r0 = ρ → Cd P (bodyPostM Fence.wide 1 P fn fun e w'=>∃ v ρ' Lout,e = .returned v ∧ Post ρ ρ' v Lout ∧ St cx ρ' Lout w') N cx ρ E Lin c) : Spec P f vs.toArray R Lin Post:=by
 intro w M ρ hR hs
 refine (callsIn_wide (n:=1)).1 (callsIn_of_wp_marks hf hb trivial (wpIn_wide.2 ?_) rfl)
 have hsz' : vs.length ≤ N:=Nat.le_of_ble_eq_true hsz
 refine h ⟨w,M,ρ⟩ ρ hR rfl _ w ⟨rfl,?_,?_⟩ hs
 ·simp only [hN,Array.size_append,Array.size_replicate,List.size_toArray]; omega
 ·intro t v e
  subst hE
  obtain ⟨j,hj,hx⟩:=look_argsE vs 0 t v e
  have : t = j:=by omega
  subst this
  have hlt : t < vs.length:=(List.getElem?_eq_some_iff.1 hx).1
  rw [hN,Array.getElem?_append_left (by simpa using hlt)]
  simpa using hx
end Go.Proofs.YtnfkalpgidiafaaGreat
set_option linter.unusedVariables false
set_option linter.unusedSimpArgs false
namespace Go.Proofs.YtnfkalpgidiafaaGreat
open Go
section
variable {α β : Type}
def gget : List (Int × α) → Int → Option α
 | [],_=>none
 | (x,v) :: m,k=>if k = x then some v else gget m k
def gset : List (Int × α) → Int → α → List (Int × α)
 | [],k,v=>[(k,v)]
 | (x,u) :: m,k,v=>if k = x then (k,v) :: m else (x,u) :: gset m k v
def gdel : List (Int × α) → Int → List (Int × α)
 | [],_=>[]
 | (x,u) :: m,k=>if k = x then m else (x,u) :: gdel m k
def gmap (f : α → β) (m : List (Int × α)) : List (Int × β):=m.map fun x=>(x.1,f x.2)
end
section
variable {α : Type}
end
section
variable {P : Program} {n : Nat} {cx : Cx} {ρ : Hp} {E : Env} {L : Own} {o : Oper}
theorem Y.array {t e : TypeId} {len m : Nat} {parts : List (Nat × Operand)} {z : Value} (pv : List (Nat × Value)) (cells : List Value) (hop : o.op = .build t parts.toArray) (hp : parts.map (fun p=>(p.1,evE E p.2)) = pv.map (fun p=>(p.1,some p.2)))
  (hT : P.underlying t = some (.array len e)) (hz : ∀ w,(sizeOf e).run P w = .ok m w) (hzero : ∀ w,(zeroValue t).run P w = .ok z w) (hfill' : qha (fun i=>some (i * m,m)) z.cells.toList pv = some cells) : Y P n cx ρ E L o (.agg cells.toArray):=by
 refine Y.build hop hp fun w=>?_
 have hfill:=fillL_eq _ _ _ _ hfill'
 simp only [Instr.build,Sem.run_bind,hzero,Result.andThen_ok,run_underlying hT,hz,hfill,Sem.run_pure]
theorem Y.qcm {x y : Operand} {t e : TypeId} {len m : Nat} {cs : Array Value} {k : IntKind} {i : Int} {v : Value} (hop : o.op = .index t x y) (hT : P.underlying t = some (.array len e)) (hz : ∀ w,(sizeOf e).run P w = .ok m w) (hA : ∀ w,(isAgg e).run P w = .ok false w)
  (hx : evE E x = some (.agg cs)) (hy : evE E y = some (.int k i)) (h0 : 0 ≤ i) (h1 : i < len) (hv : cs[i.toNat * m]? = some v) : Y P n cx ρ E L o v:=fun ac w ha _=>by
 have hi : (asIntOf (.int k i)).run P w = .ok (k,i) w:=rfl
 simp only [execOp,hop,ha.ev hx,ha.ev hy,Instr.index,Sem.run_bind,hi,Result.andThen_ok,run_underlying hT,if_pos (And.intro h0 h1),hz,part,run_isAgg hA,Bool.false_eq_true,if_false,hv,Sem.run_pure]
end
end Go.Proofs.YtnfkalpgidiafaaGreat
set_option linter.unusedVariables false
set_option linter.unusedSimpArgs false
namespace Go.Proofs.YtnfkalpgidiafaaGreat
open Go
section
variable {P : Program} {n : Nat} {cx : Cx} {ρ : Hp} {E : Env} {L : Own} {o : Oper} {ops : Array Oper} {Q : Exit → Act → World → Prop} {S' : World → Prop} {π : List (Nat × Bool)} {i : Nat}
theorem Jp.mark (d j : Nat) {x : Operand} {t e : TypeId} {m k c b : Nat} {cs : List Value} (hi : nth ops.toList i = some o) (hw : qgl n ops E o true) (he : o.dst = some d) (hd : Nat.blt d n = true)
  (hop : o.op = .convert t t x) (hT : P.underlying t = some (.slice e)) (hE : P.underlying e = some (.int .u8)) (hx : evE E x = some (.slice (some ⟨b,0,none⟩) k c)) (hj : look L j = some (OwnS e m (some ⟨b,0,none⟩) k c cs))
  (hk : Kp π S' cx ρ ((j,RdS m (some ⟨b,0,none⟩) k c cs) :: L)) (h : Jp P ops Q S' n cx π ρ ((d,.slice (some ⟨b,0,none⟩) k c) :: E) ((j,RdS m (some ⟨b,0,none⟩) k c cs) :: L)) : Jp P ops Q S' n cx ((i,false) :: π) ρ E L:=by
 intro a w ha hs
 obtain ⟨hh,hA,hhw⟩:=hs.get hj
 rcases hA.2 with ⟨h1,_,_⟩ | ⟨b',cur,fr,h1,hb,hsz,hkc,hget,hnf⟩
 ·cases h1
 ·injection h1 with h1
  injection h1 with h1 _
  subst h1
  have hbw:=hhw _ _ hb
  obtain ⟨lo,hi'⟩:=fr
  obtain ⟨fr',hfr'⟩ : ∃ fr' : Nat × Nat,fr' = (if lo == hi' then (cur.size,cur.size + 1) else (min lo cur.size,max hi' (cur.size + 1))):=⟨_,rfl⟩
  obtain ⟨w',hw'⟩ : ∃ w' : World,w' = w.freeze ⟨b,cur.size,none⟩ 1:=⟨_,rfl⟩
  have hheap : w'.heap = w.heap.modify b fun | .cells c elem (lo,hi)=>.cells c elem (if lo == hi then (cur.size,cur.size + 1) else (min lo cur.size,max hi (cur.size + 1))) | o=>o:=by
   rw [hw',World.freeze]; rfl
  have hlt:=qco hbw
  have g1 : w'.heap[b]? = some (.cells cur e fr'):=by
   rw [hheap,Array.getElem?_modify,if_pos rfl,hbw,hfr']; rfl
  have g2 : ∀ p,p ≠ b → w'.heap[p]? = w.heap[p]?:=fun p hp=>by rw [hheap,Array.getElem?_modify,if_neg (Ne.symm hp)]
  have g3 : w'.heap.size = w.heap.size:=by rw [hheap,Array.size_modify]
  have hs' : St cx ρ ((j,RdS m (some ⟨b,0,none⟩) k c cs) :: L) w':=by
   refine hs.setA hj (b:=b) (ob:=.cells cur e (lo,hi')) (ob':=.cells cur e fr') (fun h' hh' hw2=>?_) (fun h' hb'=>?_) g1 g2 g3 (by rw [hw']; rfl) (by rw [hw']; rfl) (by rw [hw']; rfl)
   ·rcases hh'.2 with ⟨q,_,_⟩ | ⟨b2,cur2,fr2,q,hb2,_⟩
    ·cases q
    ·injection q with q
     injection q with q _
     subst q
     have:=hw2 _ _ hb2
     rw [hbw] at this
     rw [hb2,← this]
   ·refine ⟨hA.1.1,⟨hkc,hA.1.2⟩,fun q v hq=>⟨_,rfl,?_⟩⟩
    have hql:=(List.getElem?_eq_some_iff.1 hq).1
    rw [hA.1.1] at hql
    rw [qcy,Nat.zero_add]
    simp only [qed,hb']
    have h2:=hget q hql
    rw [hq] at h2
    exact h2
  have hr : (execOp a.eval o).run P w = .ok (.value (.slice (some ⟨b,0,none⟩) k c)) w':=by
   have hsh : w.shape? b = some (e,cur.size):=by rw [World.shape?,hbw]
   simp only [execOp,hop,ha.ev hx,convert,Sem.run_bind,run_underlying hT,Result.andThen_ok,beq_self_eq_true,run_underlying hE,markStringish,shape,Go.freeze,Sem.run,hsh,Sem.run_pure,← hw']
  simp only [qfn,wpOp,qbj hi,hw a ha,if_true,Oper.wp,hr,Oper.upon]
  exact .inl ⟨hk.get hs',h _ _ (ha.put' he hd _) hs'⟩
theorem Jp.bytes (d j : Nat) {x : Operand} {st t e : TypeId} {v : ByteArray} (hi : nth ops.toList i = some o) (hw : qgl n ops E o true) (he : o.dst = some d) (hd : Nat.blt d n = true)
  (hop : o.op = .convert st t x) (hS : P.underlying st = some .string) (hT : P.underlying t = some (.slice e)) (hE : P.underlying e = some (.int .u8)) (hx : evE E x = some (.string v)) (hsz : v.size ≤ 281474976710656)
  (h : ∀ b c,Kp π S' cx ρ ((j,RdS 1 (some ⟨b,0,none⟩) v.size c (qaf (str v))) :: L) ∧ Jp P ops Q S' n cx π ρ ((d,.slice (some ⟨b,0,none⟩) v.size c) :: E) ((j,RdS 1 (some ⟨b,0,none⟩) v.size c (qaf (str v))) :: L)) : Jp P ops Q S' n cx ((i,false) :: π) ρ E L:=by
 intro a w ha hs
 obtain ⟨c,hc⟩ : ∃ c : Nat,c = (Question.appendCap v.size 0 e).cut (w.tape w.drawn (Question.appendCap v.size 0 e)):=⟨_,rfl⟩
 have hcv : v.size ≤ c:=by rw [hc]; simp [Question.cut]
 obtain ⟨h1,h2⟩:=h w.heap.size c
 obtain ⟨cur,hcur⟩ : ∃ cur : Array Value,cur = v.data.map (fun b=>Value.int .u8 b.toNat) ++ Array.replicate (c - v.size) (.int .u8 0):=⟨_,rfl⟩
 obtain ⟨w1,hw1⟩ : ∃ w1 : World,w1 = { w with drawn:=w.drawn + 1,heap:=w.heap.push (.cells cur e) }:=⟨_,rfl⟩
 have hsh : w1.shape? w.heap.size = some (e,cur.size):=by rw [World.shape?,hw1]; simp
 obtain ⟨w',hw'⟩ : ∃ w' : World,w' = w1.freeze ⟨w.heap.size,cur.size,none⟩ 1:=⟨_,rfl⟩
 have hheap : w'.heap = w.heap.push (.cells cur e (cur.size,cur.size + 1)):=by
  rw [hw',World.freeze,hw1]
  apply Array.ext_getElem?
  intro p
  simp only [Nat.succ_ne_zero,if_false,Array.getElem?_modify,Array.getElem?_push]
  by_cases hp : w.heap.size = p
  ·subst hp; simp
  ·rw [if_neg hp]
   split
   ·rename_i q; exact absurd q.symm hp
   ·rfl
 have hr : (execOp a.eval o).run P w = .ok (.value (.slice (some ⟨w.heap.size,0,none⟩) v.size c)) w':=by
  simp only [execOp,hop,ha.ev hx,convert,Sem.run_bind,run_underlying hS,run_underlying hT,Result.andThen_ok,run_underlying hE,Conv.stringToBytes,choose,Sem.run,Question.forced,← hc,newRow,newObj,markStringish,shape,Go.freeze,Bool.false_eq_true,if_false,← hcur]
  simp only [← hw1,hsh,Sem.run,Sem.run_pure,Result.andThen_ok,← hw']
 have hs' : St cx ρ ((j,RdS 1 (some ⟨w.heap.size,0,none⟩) v.size c (qaf (str v))) :: L) w':=by
  have h3:=(hs.drawn (w.drawn + 1)).allocA j (A:=RdS 1 (some ⟨w.heap.size,0,none⟩) v.size c (qaf (str v))) (.cells cur e (cur.size,cur.size + 1)) fun h' hh'=>by
   refine ⟨by simp [qaf,str],⟨hcv,hsz⟩,fun q u hq=>⟨_,rfl,?_⟩⟩
   rw [qcy,Nat.zero_add]
   have hh'' : h' w.heap.size = some (.cells cur e (cur.size,cur.size + 1)):=hh'
   simp only [qed,hh'']
   rw [qaf,List.getElem?_map] at hq
   obtain ⟨y,hy,rfl⟩:=Option.map_eq_some_iff.1 hq
   rw [str,Array.getElem?_toList] at hy
   have hlt:=(Array.getElem?_eq_some_iff.1 hy).1
   have : cur[q]? = some (.int .u8 y.toNat):=by
    rw [hcur,Array.getElem?_append_left (by simpa using hlt),Array.getElem?_map,hy]; rfl
   exact this
  have e1 : w' = { { w with drawn:=w.drawn + 1 } with heap:=w.heap.push (.cells cur e (cur.size,cur.size + 1)) }:=by
   have : w' = { w1 with heap:=w'.heap }:=by rw [hw',World.freeze]; rfl
   rw [this,hheap,hw1]
  rw [e1]; exact h3
 simp only [qfn,wpOp,qbj hi,hw a ha,if_true,Oper.wp,hr,Oper.upon]
 exact .inl ⟨h1.get hs',h2 _ _ (ha.put' he hd _) hs'⟩
end
end Go.Proofs.YtnfkalpgidiafaaGreat
set_option linter.unusedVariables false
set_option linter.unusedSimpArgs false
namespace Go.Proofs.YtnfkalpgidiafaaGreat
open Go Go.ChangeShapes Go.WideShapes Go.ChangeAt Go.RowKit
def whole (w : World) : Hp:=fun b=>w.heap[b]?
theorem cellH_whole {w : World} {a : Addr} {v : Value} (h : w.cell? a = some v) : qed (whole w) a = some v:=h
def Rdd (P : Program) (w : World) (t : TypeId) (cs : List Value) : Prop :=
 ∃ (H : Type) (enc : TypeId × Value → H) (base : Nat) (spare : Nat → Bool) (held : Bool) (fuel : Nat) (d : DataW H) (ps : List MemPlace),
  DataW.trod enc P w base spare held fuel t cs = some (d,ps) ∧ ∀ n ∈ d.weights P t,n ≤ reachBytes
theorem Rdd.arg {H : Type} {enc : TypeId × Value → H} {P : Program} {w : World} {base : Nat} {spare : Nat → Bool} {held : Bool} {t : TypeId} {v : Value} {d : DataW H} {ps : List MemPlace} {ts : List TypeId} {ds : List (DataW H)} {j : Nat}
  (h : DataW.Trod enc P w base spare held t v d ps) (hs : (DataW.weightsEach P ts ds).all (· ≤ reachBytes) = true) (ht : ts[j]? = some t) (hd : ds[j]? = some d) : Rdd P w t v.cells.toList:=by
 obtain ⟨fuel,h⟩:=h
 exact ⟨H,enc,base,spare,held,fuel,d,ps,h,fun n hn=>by simpa using List.all_eq_true.1 hs n (DataW.weights_mem_each ht hd n hn)⟩
theorem Rdd.int {P : Program} {w : World} {t : TypeId} {cs : List Value} {k : IntKind} (hu : P.underlying t = some (.int k)) (h : Rdd P w t cs) : ∃ n,cs = [.int k n] ∧ (Lit.int k n).wf = true:=by
 obtain ⟨H,enc,base,spare,held,fuel,d,ps,h,hs⟩:=h
 obtain ⟨n,h1,_,h3⟩:=DataW.trod_int hu h
 exact ⟨n,h1,h3⟩
theorem Rdd.bool {P : Program} {w : World} {t : TypeId} {cs : List Value} (hu : P.underlying t = some .bool) (h : Rdd P w t cs) : ∃ b,cs = [.bool b]:=by
 obtain ⟨H,enc,base,spare,held,fuel,d,ps,h,hs⟩:=h
 obtain ⟨n,h1,_⟩:=DataW.trod_bool hu h
 exact ⟨n,h1⟩
theorem Rdd.string {P : Program} {w : World} {t : TypeId} {cs : List Value} (hu : P.underlying t = some .string) (h : Rdd P w t cs) : ∃ s : ByteArray,cs = [.string s] ∧ s.size ≤ reachBytes:=by
 obtain ⟨H,enc,base,spare,held,fuel,d,ps,h,hs⟩:=h
 obtain ⟨s,h1,h2,_⟩:=DataW.trod_string hu h
 injection h2 with h2 _
 subst h2
 exact ⟨s,h1,hs _ (by rw [DataW.weights]; simp)⟩
theorem Rdd.struct {P : Program} {w : World} {t : TypeId} {cs : List Value} {fs : Array Field} (hu : P.underlying t = some (.struct fs)) (h : Rdd P w t cs) :
  cs.length = P.cellsOf t ∧ ∀ (i : Nat) (f : Field),fs[i]? = some f → Rdd P w f.type ((cs.drop f.offset).take (P.cellsOf f.type)):=by
 obtain ⟨H,enc,base,spare,held,fuel,d,ps,h,hs⟩:=h
 obtain ⟨xs,n,rfl,h2,h3,h4,h5⟩:=DataW.trod_struct hu h
 injection h2 with h2 _
 subst h2
 refine ⟨h3,fun i f hf=>?_⟩
 have hi : i < xs.length:=by rw [h4]; exact (Array.getElem?_eq_some_iff.1 hf).1
 have e : xs[i]? = some xs[i]:=by simp [hi]
 refine ⟨H,enc,base,spare,held,n,xs[i].1,xs[i].2,(h5 i f hf).trans e,fun m hm=>hs m ?_⟩
 rw [DataW.weights,hu]
 exact DataW.weights_mem_each (j:=i) (t:=f.type) (d:=xs[i].1) (by rw [List.getElem?_map,Array.getElem?_toList,hf]; rfl) (by rw [List.getElem?_map,e]; rfl) m hm
theorem qgn {H : Type} {P : Program} {e : TypeId} {d : DataW H} {n : Nat} (hn : n ∈ d.weights P e) : ∀ {l : List (DataW H)},d ∈ l → n ∈ DataW.weightsAll P e l:=by
 intro l
 induction l with
 | nil=>intro h; cases h
 | cons x l ih =>
  intro h
  rw [DataW.weightsAll,List.mem_append]
  rcases List.mem_cons.1 h with rfl | h
  ·exact .inl hn
  ·exact .inr (ih h)
theorem flatten_get {α : Type} {m : Nat} : ∀ {rows : List (List α)},(∀ r ∈ rows,r.length = m) → ∀ {j : Nat} {v : α},rows.flatten[j]? = some v → ∃ i r k,rows[i]? = some r ∧ k < m ∧ r[k]? = some v ∧ j = i * m + k:=by
 intro rows
 induction rows with
 | nil=>intro _ j v h; simp at h
 | cons r rs ih =>
  intro hm j v h
  have hr:=hm r (by simp)
  rw [List.flatten_cons] at h
  by_cases hj : j < m
  ·rw [List.getElem?_append_left (by omega)] at h
   exact ⟨0,r,j,rfl,hj,h,by omega⟩
  ·rw [List.getElem?_append_right (by omega),hr] at h
   obtain ⟨i,r',k,h1,h2,h3,h4⟩:=ih (fun r hr=>hm r (by simp [hr])) h
   exact ⟨i + 1,r',k,by simpa using h1,h2,h3,by rw [Nat.succ_mul]; omega⟩
theorem flatten_len {α : Type} {m : Nat} : ∀ {rows : List (List α)},(∀ r ∈ rows,r.length = m) → rows.flatten.length = rows.length * m:=by
 intro rows
 induction rows with
 | nil=>intro _; simp
 | cons r rs ih=>intro hm; rw [List.flatten_cons,List.length_append,ih (fun r hr=>hm r (by simp [hr])),hm r (by simp),List.length_cons,Nat.succ_mul]; omega
theorem Rdd.slice {P : Program} {w : World} {t e : TypeId} {cs : List Value} {m : Nat} (hu : P.underlying t = some (.slice e)) (hm : P.cellsOf e = m) (hb : 1 ≤ P.bytesOf e) (h : Rdd P w t cs) :
  ∃ (A : Option Addr) (len cap : Nat) (rows : List (List Value)),cs = [.slice A len cap] ∧ rows.length = len ∧ (∀ r ∈ rows,r.length = m ∧ Rdd P w e r) ∧ RdS m A len cap rows.flatten (whole w):=by
 subst hm
 obtain ⟨H,enc,base,spare,held,fuel,d,ps,h,hs⟩:=h
 rcases DataW.trod_slice hu h with ⟨h1,h2⟩ | ⟨a,len,cap,elems,rest,n,rfl,h1,h2,h3,h4,h5,h6,h7,h8,h9⟩
 ·exact ⟨none,0,0,[],h1,rfl,fun r hr=>absurd hr (by simp),RdS.nil _ _⟩
 ·injection h2 with h2 _
  subst h2
  rw [DataW.weights,hu] at hs
  have hw:=hs _ (List.mem_cons_self ..)
  have hlen : len ≤ 281474976710656:=by
   have:=Nat.mul_le_mul_left ((elems.map (·.1)).length + (rest.map (·.1)).length) hb
   rw [List.length_map,List.length_map] at this hw
   have h10 : reachBytes = 140737488351232:=rfl
   omega
  have key : ∀ i,i < len → ∃ r x,elems[i]? = some x ∧ w.cells? base (a.add (i * P.cellsOf e)) (P.cellsOf e) = some r ∧ DataW.trod enc P w base spare held n e r = some x:=by
   intro i hi
   have h10:=h7 i hi
   have e1 : elems[i]? = some elems[i]:=by simp [h6,hi]
   rw [e1,Option.bind_eq_some_iff] at h10
   obtain ⟨r,h11,h12⟩:=h10
   exact ⟨r,_,e1,h11,h12⟩
  have hrow : ∀ i,i < len → ∃ x,elems[i]? = some x ∧ w.cells? base (a.add (i * P.cellsOf e)) (P.cellsOf e) = some ((w.cells? base (a.add (i * P.cellsOf e)) (P.cellsOf e)).getD []) ∧ DataW.trod enc P w base spare held n e ((w.cells? base (a.add (i * P.cellsOf e)) (P.cellsOf e)).getD []) = some x:=by
   intro i hi
   obtain ⟨r,x,e1,e2,e3⟩:=key i hi
   rw [e2]; exact ⟨x,e1,rfl,e3⟩
  have hall : ∀ r ∈ (List.range len).map (fun i=>(w.cells? base (a.add (i * P.cellsOf e)) (P.cellsOf e)).getD []),r.length = P.cellsOf e ∧ Rdd P w e r:=by
   intro r hr
   obtain ⟨i,hi,rfl⟩:=List.mem_map.1 hr
   obtain ⟨x,e1,e2,e3⟩:=hrow i (List.mem_range.1 hi)
   refine ⟨(World.cells?_some e2).2.1,H,enc,base,spare,held,n,x.1,x.2,e3,fun q hq=>hs q (List.mem_cons_of_mem _ (List.mem_append_left _ (qgn hq (List.mem_map.2 ⟨x,List.mem_of_getElem? e1,rfl⟩))))⟩
  refine ⟨some a,len,cap,(List.range len).map fun i=>(w.cells? base (a.add (i * P.cellsOf e)) (P.cellsOf e)).getD [],h1,by simp,hall,?_⟩
  refine ⟨by rw [flatten_len (fun r hr=>(hall r hr).1)]; simp,⟨h4,hlen⟩,fun j v hj=>?_⟩
  obtain ⟨i,r,k,f1,f2,f3,rfl⟩:=flatten_get (fun r hr=>(hall r hr).1) hj
  rw [List.getElem?_map] at f1
  cases hi : (List.range len)[i]? with
  | none=>rw [hi] at f1; cases f1
  | some i' =>
   rw [hi] at f1
   injection f1 with f1
   obtain ⟨g1,g2⟩:=List.getElem?_eq_some_iff.1 hi
   rw [List.getElem_range] at g2
   subst g2
   rw [List.length_range] at g1
   obtain ⟨x,e1,e2,e3⟩:=hrow i g1
   dsimp only at f1
   rw [f1] at e2
   have:=(World.cells?_some e2).2.2 k f2
   rw [f3,Addr.add_add] at this
   exact ⟨a,rfl,cellH_whole this⟩
theorem rows_of {α : Type} {rows : List (List Value)} {c : α → List Value} {I : α → Prop} (h : ∀ r ∈ rows,∃ x,r = c x ∧ I x) : ∃ xs : List α,rows = xs.map c ∧ ∀ x ∈ xs,I x:=by
 induction rows with
 | nil=>exact ⟨[],rfl,fun x hx=>by cases hx⟩
 | cons r rs ih =>
  obtain ⟨x,hx,ix⟩:=h r (by simp)
  obtain ⟨xs,h1,h2⟩:=ih (fun r hr=>h r (by simp [hr]))
  exact ⟨x :: xs,by rw [hx,h1]; rfl,fun y hy=>by rcases List.mem_cons.1 hy with rfl | hy; exact ix; exact h2 y hy⟩
theorem flat_one {α : Type} {c : α → Value} (l : List α) : (l.map fun x=>[c x]).flatten = l.map c:=by
 induction l with
 | nil=>rfl
 | cons x l ih=>simp [ih]
theorem Rdd.cut {P : Program} {w : World} {e : TypeId} {cs : List Value} {o m : Nat} (cs' : List Value) (h : Rdd P w e ((cs.drop o).take (P.cellsOf e))) (hm : P.cellsOf e = m) (hc : (cs.drop o).take m = cs') : Rdd P w e cs':=by subst hm hc; exact h
theorem val_slice {P : Program} {w W : World} {r : Reach} {b : Nat} {t e : TypeId} {v : Value} {A : Option Addr} {l c : Nat} (hu : P.underlying t = some (.slice e)) (h : Value.okWide P W r b t v) (hc : v.cells.toList = [.slice A l c]) : v = .slice A l c:=by
 cases v <;> simp_all [Value.okWide,Cell.okWide,Cell.ok,Value.cells]
theorem val_struct {P : Program} {w W : World} {r : Reach} {b : Nat} {t : TypeId} {v : Value} {fs : Array Field} {cs : List Value} (hu : P.underlying t = some (.struct fs)) (h : Value.okWide P W r b t v) (hc : v.cells.toList = cs) : v = .agg cs.toArray:=by
 simp only [Value.okWide,hu] at h
 obtain ⟨cs',rfl,_⟩:=h
 subst hc
 simp [Value.cells]
theorem Spec.walk {P : Program} {f : FuncId} {args : Array Value} {R : Hp → Prop} (h : Spec P f args R [] (fun _ _ v L=>v = .bool true ∧ L = [])) (w : World) (hR : R (whole w)) :
  Calls P f args w fun e w'=>e = .returned (.bool true) ∧ Below w.heap.size w w':=by
 refine (h w (fun _=>False) (whole w) hR (St.refl w _ _ fun b o e=>e)).mono fun e w' ⟨v,ρ',L,he,⟨hv,hL⟩,hs⟩=>?_
 subst hv
 exact ⟨he,⟨hs.os,hs.tape,hs.output,hs.size,fun k hk=>hs.frame k hk id⟩⟩
end Go.Proofs.YtnfkalpgidiafaaGreat
set_option linter.unusedVariables false
set_option linter.unusedSimpArgs false
namespace Go.Proofs.YtnfkalpgidiafaaGreat
open Go
section
variable {P : Program} {n : Nat} {cx : Cx} {ρ : Hp} {E : Env} {L : Own} {o : Oper} {ops : Array Oper} {Q : Exit → Act → World → Prop} {S' : World → Prop} {π : List (Nat × Bool)} {i : Nat} {v : Value}
end
end Go.Proofs.YtnfkalpgidiafaaGreat
set_option linter.unusedVariables false
set_option linter.unusedSimpArgs false
namespace Go.Proofs.YtnfkalpgidiafaaGreat
open Go
def wpPiF (P : Program) (ops : Array Oper) (N : Act → World → Prop) (πA πB : List (Nat × Bool)) : (World → Prop) → List (Nat × Bool) → Act → World → Prop
 | S,[],a,w=>qfn P ops N S πA a w ∧ qfn P ops N S πB a w
 | S,(i,true) :: π,a,w=>∃ S' : World → Prop,(∀ w,S' w → S w) ∧ (S w → S' w) ∧ ∃ o v,ops[i]? = some o ∧ YieldsIf P ops S' o v a ∧ wpPiF P ops N πA πB S' π (a.put o.dst v) w
 | S,(i,false) :: π,a,w=>wpOp P ops (Qn N) i (fun a' w'=>S w' ∧ wpPiF P ops N πA πB S π a' w') a w
def okPiF (ops : Array Oper) (πA πB : List (Nat × Bool)) : List (Nat × Bool) → Array Bool → Bool
 | [],listed=>match πA,πB with
  | (i,false) :: tA,(j,false) :: tB=>(Region.ready .any ops listed == [i,j]) && (okPi ops tA (listed.setIfInBounds i true) && okPi ops tB (listed.setIfInBounds j true))
  | _,_=>false
 | (i,true) :: π,listed=>Region.free .any ops listed i && (Region.ready .any ops listed).contains i && okPiF ops πA πB π (listed.setIfInBounds i true)
 | (i,false) :: π,listed=>(Region.ready .any ops listed == [i]) && okPiF ops πA πB π (listed.setIfInBounds i true)
def okRegionF (ops : Array Oper) (πA πB π : List (Nat × Bool)) : Bool :=
 Region.noSelect ops && (π.length + πA.length == ops.size) && (πA.length == πB.length) && Nat.ble 2 πA.length && qhq ops πA && (πA.getLast? == πB.getLast?) && okPiF ops πA πB π (Array.replicate ops.size false)
section
variable {P : Program} {ops : Array Oper} {N : Act → World → Prop}
end
def JpF (P : Program) (ops : Array Oper) (Q : Exit → Act → World → Prop) (S : World → Prop) (n : Nat) (cx : Cx) (πA πB π : List (Nat × Bool)) (ρ : Hp) (E : Env) (L : Own) : Prop :=
 ∀ a w,At n E a → St cx ρ L w → wpPiF P ops (Q .normal) πA πB S π a w
section
variable {P : Program} {Q : Exit → Act → World → Prop} {n : Nat} {cx : Cx} {ρ ρs : Hp} {E : Env} {L Ls : Own} {ops : Array Oper} {S : World → Prop} {π πA πB : List (Nat × Bool)} {i : Nat} {o : Oper} {v : Value}
theorem JpF.q (d : Nat) (hi : nth ops.toList i = some o) (hw : qgl n ops E o true) (he : o.dst = some d) (hd : Nat.blt d n = true) (hy : Y P n cx ρs E Ls o v)
  (h : JpF P ops Q (fun w=>St cx ρs Ls w) n cx πA πB π ρ ((d,v) :: E) L) : JpF P ops Q (fun w=>St cx ρs Ls w) n cx πA πB ((i,true) :: π) ρ E L :=
 fun a w ha hs=>⟨_,fun _ h=>h,id,o,v,qbj hi,.inl ⟨hw a ha,fun w' h'=>hy a w' ha h'⟩,h _ _ (ha.put' he hd v) hs⟩
theorem JpF.split (hA : Jp P ops Q S n cx πA ρ E L) (hB : Jp P ops Q S n cx πB ρ E L) : JpF P ops Q S n cx πA πB [] ρ E L:=fun a w ha hs=>⟨hA a w ha hs,hB a w ha hs⟩
end
end Go.Proofs.YtnfkalpgidiafaaGreat
set_option linter.unusedVariables false
set_option linter.unusedSimpArgs false
namespace Go.Proofs.YtnfkalpgidiafaaGreat
open Go
section
variable {P : Program} {n : Nat} {cx : Cx} {ρ : Hp} {E : Env} {L : Own}
theorem qgu (j : Nat) {fn : Func} {s u : Tmp} {t : TypeId} {b m : Nat} {cs : List Value} {T : TypeId} {fr : Nat × Nat} {x : Value} (h : fn.results = #[.cell s t,.tmp u]) (he : look E s = some (.pointer (some ⟨b,0,none⟩))) (hA : ∀ w,(isAgg t).run P w = .ok true w) (hz : ∀ w,(sizeOf t).run P w = .ok m w)
  (hj : look L j = some (Pt b (.cells cs.toArray T fr))) (hm : cs.length = m) (hu : look E u = some x) : ∀ a w,At n E a → St cx ρ L w → (results fn a.tmps).run P w = .ok (.tuple #[.agg cs.toArray,x]) w:=fun a w ha hs=>by
 have h1:=ha.slot s _ he
 have h3:=ha.slot u _ hu
 have hb:=hs.pt hj
 have hc : ∀ k v,cs[k]? = some v → w.cell? ((⟨b,0,none⟩ : Addr).add k) = some v:=fun k v e=>by rw [qcy]; simp [World.cell?,hb,e]
 subst hm
 have h2 : (loadVar t ⟨b,0,none⟩).run P w = .ok (.agg cs.toArray) w:=by
  simp only [loadVar,Sem.run_bind,Sem.run_pure,Result.andThen_ok,hA,hz,if_true,run_loadCells_list w _ cs hc]
 simp [results,h,h1,h3,asAddr,h2]
end
end Go.Proofs.YtnfkalpgidiafaaGreat

namespace Go.Proofs.YtnfkalpgidiafaaGreat
open _root_.Go.Proofs.Tryz
open Go
theorem follows : Tryz.prog.follows .mixedOrders = true:=by kernel_rfl
theorem places27 : qev Tryz.prog 27 [(0,32),(32,1),(33,1)]:=⟨_,underlying27,fun w=>by kernel_rfl⟩
theorem places31 : qev Tryz.prog 31 [(0,1),(1,1),(2,1)]:=⟨_,underlying31,fun w=>by kernel_rfl⟩
theorem qca : qev Tryz.prog 46 [(0,1),(1,1),(2,1)]:=⟨_,underlying46,fun w=>by kernel_rfl⟩
theorem places60 : qev Tryz.prog 60 [(0,1),(1,1),(2,1),(3,1),(4,1)]:=⟨_,underlying60,fun w=>by kernel_rfl⟩
theorem places67 : qev Tryz.prog 67 [(0,1),(1,1)]:=⟨_,underlying67,fun w=>by kernel_rfl⟩
theorem places74 : qev Tryz.prog 74 [(0,1),(1,1),(2,34),(36,1),(37,3)]:=⟨_,underlying74,fun w=>by kernel_rfl⟩
theorem places89 : qev Tryz.prog 89 [(0,1),(1,1),(2,1)]:=⟨_,underlying89,fun w=>by kernel_rfl⟩
theorem places92 : qev Tryz.prog 92 [(0,1),(1,1),(2,256)]:=⟨_,underlying92,fun w=>by kernel_rfl⟩
theorem places102 : qev Tryz.prog 102 [(0,1),(1,1),(2,1)]:=⟨_,underlying102,fun w=>by kernel_rfl⟩
theorem places109 : qev Tryz.prog 109 [(0,256),(256,1)]:=⟨_,underlying109,fun w=>by kernel_rfl⟩
theorem places118 : qev Tryz.prog 118 [(0,1),(1,1),(2,1),(3,1)]:=⟨_,underlying118,fun w=>by kernel_rfl⟩
theorem places132 : qev Tryz.prog 132 [(0,256),(256,1)]:=⟨_,underlying132,fun w=>by kernel_rfl⟩
end Go.Proofs.YtnfkalpgidiafaaGreat

namespace Go.Proofs.YtnfkalpgidiafaaGreat
open Go
abbrev qal:=List UInt8
structure Sl (α : Type) where
 A : Option Addr
 c : Nat
 xs : List α
def Sl.v {α : Type} (s : Sl α) : Value:=.slice s.A s.xs.length s.c
def intsV (k : IntKind) (l : List Int) : List Value:=l.map fun x=>.int k x
def strsV (l : List ByteArray) : List Value:=l.map fun s=>.string s
theorem str_size (s : ByteArray) : s.size = (str s).length:=by unfold str; rw [Array.length_toList]; rfl
def RdB (s : Sl UInt8) : qax:=RdS 1 s.A s.xs.length s.c (qaf s.xs)
def RdI (k : IntKind) (s : Sl Int) : qax:=RdS 1 s.A s.xs.length s.c (intsV k s.xs)
def RdStr (s : Sl ByteArray) : qax:=RdS 1 s.A s.xs.length s.c (strsV s.xs)
theorem RdB.up (s : Sl UInt8) : Up (RdB s):=RdS.up _ _ _ _ _
theorem RdI.up (k : IntKind) (s : Sl Int) : Up (RdI k s):=RdS.up _ _ _ _ _
theorem RdStr.up (s : Sl ByteArray) : Up (RdStr s):=RdS.up _ _ _ _ _
def RdRows {α : Type} (m : Nat) (c : α → List Value) (I : α → qax) (s : Sl α) : qax:=fun h=>RdS m s.A s.xs.length s.c (s.xs.flatMap c) h ∧ ∀ x ∈ s.xs,I x h
theorem RdRows.up {α : Type} {m : Nat} {c : α → List Value} {I : α → qax} (hI : ∀ x,Up (I x)) (s : Sl α) : Up (RdRows m c I s):=fun h k l ⟨a,b⟩=>⟨RdS.up _ _ _ _ _ h k l a,fun x hx=>hI x h k l (b x hx)⟩
theorem flatMap_get {α : Type} {m : Nat} {c : α → List Value} (hm : ∀ x,(c x).length = m) : ∀ {l : List α} {k j : Nat} {x : α} {v : Value},l[k]? = some x → (c x)[j]? = some v → (l.flatMap c)[k * m + j]? = some v:=by
 intro l
 induction l with
 | nil=>intro k j x v h; simp at h
 | cons y l ih =>
  intro k j x v h hv
  rw [List.flatMap_cons]
  have hj : j < m:=by rw [← hm x]; exact (List.getElem?_eq_some_iff.1 hv).1
  cases k with
  | zero =>
   simp at h; subst h
   rw [List.getElem?_append_left (by rw [hm]; omega),Nat.zero_mul,Nat.zero_add]; exact hv
  | succ k =>
   have h' : l[k]? = some x:=by simpa using h
   rw [List.getElem?_append_right (by rw [hm,Nat.succ_mul]; omega),hm,← ih h' hv]
   congr 1
   rw [Nat.succ_mul]; omega
theorem RdRows.at {α : Type} {m : Nat} {c : α → List Value} {I : α → qax} {s : Sl α} {h : Hp} (hm : ∀ x,(c x).length = m) (hm0 : 0 < m) (r : RdRows m c I s h) {k : Nat} {x : α} (e : s.xs[k]? = some x) : ∃ ad,s.A = some ad ∧ Cells h (ad.add (k * m)) (c x) ∧ I x h:=by
 have key : ∀ j v,(c x)[j]? = some v → ∃ ad,s.A = some ad ∧ qed h (ad.add (k * m + j)) = some v:=fun j v hv=>r.1.2.2 _ _ (flatMap_get hm e hv)
 obtain ⟨ad,hA,_⟩:=key 0 ((c x)[0]'(by rw [hm]; exact hm0)) (by simp [hm,hm0])
 refine ⟨ad,hA,fun j v hv=>?_,r.2 x (List.mem_of_getElem? e)⟩
 obtain ⟨ad',h1,h2⟩:=key j v hv
 rw [hA] at h1
 injection h1 with h1
 rw [add_add,h1]; exact h2
def qbk (k : IntKind) (l : List Nat) : List Value:=l.map fun (x : Nat)=>Value.int k (x : Int)
end Go.Proofs.YtnfkalpgidiafaaGreat
set_option linter.unusedVariables false
set_option linter.unusedSimpArgs false
set_option maxRecDepth 100000
namespace Go.Proofs.YtnfkalpgidiafaaGreat
open Go Go.ChangeShapes Go.WideShapes Go.ChangeAt Go.RowKit
theorem wf_i64 {n : Int} (h : (Lit.int .i64 n).wf = true) : -9223372036854775808 ≤ n ∧ n ≤ 9223372036854775807:=by
 rw [Lit.wf,Bool.and_eq_true] at h
 exact ⟨of_decide_eq_true h.1,of_decide_eq_true h.2⟩
theorem wf_u32 {n : Int} (h : (Lit.int .u32 n).wf = true) : ∃ m : Nat,n = m ∧ m < 4294967296:=by
 rw [Lit.wf,Bool.and_eq_true] at h
 have h1 : 0 ≤ n:=of_decide_eq_true h.1
 have h2 : n ≤ 4294967295:=of_decide_eq_true h.2
 exact ⟨n.toNat,by omega,by omega⟩
theorem wf_u8 {n : Int} (h : (Lit.int .u8 n).wf = true) : ∃ m : Nat,n = m ∧ m < 256:=by
 rw [Lit.wf,Bool.and_eq_true] at h
 have h1 : 0 ≤ n:=of_decide_eq_true h.1
 have h2 : n ≤ 255:=of_decide_eq_true h.2
 exact ⟨n.toNat,by omega,by omega⟩
theorem Rdd.ints {w : World} {t e : TypeId} {cs : List Value} {k : IntKind} (hu : Tryz.prog.underlying t = some (.slice e)) (he : Tryz.prog.underlying e = some (.int k)) (hm : Tryz.prog.cellsOf e = 1) (hb : 1 ≤ Tryz.prog.bytesOf e) (h : Rdd Tryz.prog w t cs) :
  ∃ s : Sl Int,cs = [s.v] ∧ RdI k s (whole w) ∧ ∀ x ∈ s.xs,(Lit.int k x).wf = true:=by
 obtain ⟨A,len,cap,rows,e0,hl,hrow,hrd⟩:=Rdd.slice hu hm hb h
 obtain ⟨xs, rfl, hx⟩ := rows_of (c := fun x => [Value.int k x]) (I := fun x => (Lit.int k x).wf = true) (fun r hr => by
  obtain ⟨n, h1, h2⟩ := Rdd.int he (hrow r hr).2; exact ⟨n, h1, h2⟩)
 rw [flat_one] at hrd
 rw [List.length_map] at hl
 subst hl
 exact ⟨⟨A,cap,xs⟩,e0,hrd,hx⟩
theorem Rdd.u8s {w : World} {t e : TypeId} {cs : List Value} (hu : Tryz.prog.underlying t = some (.slice e)) (he : Tryz.prog.underlying e = some (.int .u8)) (hm : Tryz.prog.cellsOf e = 1) (hb : 1 ≤ Tryz.prog.bytesOf e) (h : Rdd Tryz.prog w t cs) :
  ∃ s : Sl UInt8,cs = [s.v] ∧ RdB s (whole w):=by
 obtain ⟨A,len,cap,rows,e0,hl,hrow,hrd⟩:=Rdd.slice hu hm hb h
 obtain ⟨xs, rfl, hx⟩ := rows_of (c := fun x : UInt8 => [Value.int .u8 (x.toNat : Int)]) (I := fun x => True) (fun r hr => by
  obtain ⟨n,h1,h2⟩:=Rdd.int he (hrow r hr).2
  rw [Lit.wf,Bool.and_eq_true] at h2
  refine ⟨UInt8.ofNat n.toNat,?_,trivial⟩
  rw [h1]
  have : ((UInt8.ofNat n.toNat).toNat : Int) = n:=by
   rw [UInt8.toNat_ofNat']
   have h3 : 0 ≤ n:=of_decide_eq_true h2.1
   have h4 : n ≤ 255:=of_decide_eq_true h2.2
   omega
  rw [this])
 rw [flat_one] at hrd
 rw [List.length_map] at hl
 subst hl
 exact ⟨⟨A,cap,xs⟩,e0,hrd⟩
end Go.Proofs.YtnfkalpgidiafaaGreat
set_option linter.unusedVariables false
set_option linter.unusedSimpArgs false
set_option maxRecDepth 100000
namespace Go.Proofs.YtnfkalpgidiafaaGreat
open Go
theorem bytesV_leB (xs : qal) (v : Nat) : qaf xs ++ [.int .u8 ((UInt8.ofNat v).toNat : Int),.int .u8 ((UInt8.ofNat (v / 2 ^ (8 * 1))).toNat : Int),.int .u8 ((UInt8.ofNat (v / 2 ^ (8 * 2))).toNat : Int),.int .u8 ((UInt8.ofNat (v / 2 ^ (8 * 3))).toNat : Int)] = qaf (xs ++ leB v 4):=by
 have e : leB v 4 = [UInt8.ofNat v,UInt8.ofNat (v / 2 ^ (8 * 1)),UInt8.ofNat (v / 2 ^ (8 * 2)),UInt8.ofNat (v / 2 ^ (8 * 3))]:=by
  simp [leB,List.range,List.range.loop]
 rw [e,qaf,qaf,List.map_append]; rfl
end Go.Proofs.YtnfkalpgidiafaaGreat
set_option linter.unusedVariables false
set_option linter.unusedSimpArgs false
set_option maxRecDepth 100000
namespace Go.Proofs.YtnfkalpgidiafaaGreat
open Go
def lay (p : qal) (k : Nat) (b : qal) : qal:=p.take k ++ b ++ p.drop (k + b.length)
theorem lay_length {p : qal} {k : Nat} {b : qal} (h : k + b.length ≤ p.length) : (lay p k b).length = p.length:=by
 simp only [lay,List.length_append,List.length_take,List.length_drop]; omega
theorem lay_nil (p : qal) (k : Nat) : lay p k [] = p:=by simp [lay]
theorem lay_snoc_set {p : qal} {k : Nat} {a : qal} {x : UInt8} (h : k + a.length < p.length) : (lay p k a).set (k + a.length) x = lay p k (a ++ [x]):=by
 have h1 : (p.take k ++ a).length = k + a.length:=by rw [List.length_append,List.length_take]; omega
 rw [lay,List.set_append_right _ _ (by omega),h1,Nat.sub_self,lay]
 have : p.drop (k + a.length) = p[k + a.length] :: p.drop (k + a.length + 1):=List.drop_eq_getElem_cons h
 rw [this,List.set_cons_zero,List.length_append,List.length_singleton,List.append_assoc,List.append_assoc,List.append_assoc]; rfl
theorem bytesV_set (p : qal) (k : Nat) (x : UInt8) : (qaf p).set k (.int .u8 (x.toNat : Int)) = qaf (p.set k x):=by rw [qaf,qaf,List.map_set]
def byteAt (x : Int) (j : Nat) : UInt8:=UInt8.ofNat (x.toNat / 2 ^ (8 * j) % 256)
def le32 (x : Int) : qal:=[byteAt x 0,byteAt x 1,byteAt x 2,byteAt x 3]
end Go.Proofs.YtnfkalpgidiafaaGreat
