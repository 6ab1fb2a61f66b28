import Derived.Test.YtnfkalpgidiafaaGreatZP5
import Derived.Test.YtnfkalpgidiafaaGreatZP1
import Derived.Test.YtnfkalpgidiafaaGreatZP3
set_option linter.unusedVariables false
set_option linter.unusedSimpArgs false
set_option maxRecDepth 100000
namespace Go.Proofs.YtnfkalpgidiafaaGreat
open Go
theorem Blks.app {l m : List (Nat × Obj)} : ∀ k,Sep (Blks l) (Blks m) k → Blks (l ++ m) k:=fun k ⟨h1,h2,a1,a2,d,l1,l2⟩=>by
 refine ⟨?_,fun p o hp=>?_⟩
 ·rw [List.map_append,List.nodup_append]
  refine ⟨a1.1,a2.1,fun x hx y hy e=>?_⟩
  subst e
  obtain ⟨p,hp,rfl⟩:=List.mem_map.1 hx
  obtain ⟨q,hq,e⟩:=List.mem_map.1 hy
  have h3:=a1.2 p.1 p.2 hp
  have h4:=a2.2 q.1 q.2 hq
  rw [e] at h4
  rcases d p.1 with h | h
  ·rw [h3] at h; cases h
  ·rw [h4] at h; cases h
 ·rcases List.mem_append.1 hp with h | h
  ·exact l1 _ _ (a1.2 p o h)
  ·exact l2 _ _ (a2.2 p o h)
theorem Blks.subset {l m : List (Nat × Obj)} (hn : (m.map (·.1)).Nodup) (hs : ∀ x ∈ m,x ∈ l) : ∀ k,Blks l k → Blks m k:=fun k hk=>⟨hn,fun b o h=>hk.2 b o (hs _ h)⟩
section
variable {P : Program} {n : Nat} {cx : Cx} {ρ : Hp} {E : Env} {L : Own} {ops : Array Oper} {Q : Exit → Act → World → Prop} {S' : World → Prop} {π : List (Nat × Bool)}
theorem St.joinBB {w : World} (hs : St cx ρ L w) {j k : Nat} {l m : List (Nat × Obj)} (hjk : j ≠ k) (e1 : look L j = some (Blks l)) (e2 : look L k = some (Blks m)) : St cx ρ ((j,Blks (l ++ m)) :: (k,Emp) :: L) w :=
 emp_cons ((hs.glue hjk e1 e2).imp (i:=j) (A:=Sep (Blks l) (Blks m)) (by rw [qag,if_pos rfl]) Blks.app)
theorem Cd.joinBB {d : Code} (j k : Nat) {l m : List (Nat × Obj)} (hjk : j ≠ k) (e1 : look L j = some (Blks l)) (e2 : look L k = some (Blks m)) (h : Cd P Q n cx ρ E ((j,Blks (l ++ m)) :: (k,Emp) :: L) d) : Cd P Q n cx ρ E L d:=fun a w ha hs=>h a w ha (hs.joinBB hjk e1 e2)
end
theorem updB_sh {l : List (Nat × Pg)} {blk : Nat → Nat} (hn : ((qbi l blk).map (·.1)).Nodup) {k : Nat} {p p' : Pg} (hg : qao l k = some p) : qhe (qbi l blk) (blk k) (qdf p') = qbi (qbt l k p') blk:=by
 rw [qhe,qbi,qbi,qbt,List.map_map,List.map_map]
 apply List.map_congr_left
 intro y hy
 simp only [Function.comp]
 by_cases h : y.1 = k
 ·simp [h]
 ·rw [if_neg h,if_neg]
  intro e
  rw [qbi,List.map_map] at hn
  exact h (congrArg (·.1) (qdd (f:=fun p : Nat × Pg=>blk p.1) hn hy (qbc hg) e))
theorem pmOf_set (l : List (Nat × Pg)) (k : Nat) (p : Pg) (blk : Nat → Nat) : qex (qbt l k p) blk = qex l blk:=setPg_map l k p fun k=>((k : Int),qee blk k)
theorem pmOf_keys (l : List (Nat × Pg)) (blk : Nat → Nat) : (qex l blk).map (·.1) = l.map fun p=>(p.1 : Int):=by rw [qex,List.map_map]; rfl
theorem qhj {l : List (Nat × Pg)} {blk : Nat → Nat} {k : Nat} : (k : Int) ∈ (qex l blk).map (·.1) ↔ k ∈ l.map (·.1):=by
 rw [pmOf_keys]
 constructor
 ·intro h
  obtain ⟨y,hy,e⟩:=List.mem_map.1 h
  have e : (y.1 : Int) = (k : Int):=e
  exact List.mem_map.2 ⟨y,hy,by omega⟩
 ·intro h
  obtain ⟨y,hy,e⟩:=List.mem_map.1 h
  exact List.mem_map.2 ⟨y,hy,by show (y.1 : Int) = k; rw [← e]⟩
theorem pmOf_congr {l : List (Nat × Pg)} {blk blk' : Nat → Nat} (h : ∀ y ∈ l,blk' y.1 = blk y.1) : qex l blk' = qex l blk:=List.map_congr_left fun y hy=>by rw [qee,qee,h y hy]
theorem shBlks_congr {l : List (Nat × Pg)} {blk blk' : Nat → Nat} (h : ∀ y ∈ l,blk' y.1 = blk y.1) : qbi l blk' = qbi l blk:=List.map_congr_left fun y hy=>by rw [h y hy]
theorem pm_put {l : List (Nat × Pg)} (h : ShOk l) {pm : qcp} {bk bk' : Nat → Nat} {k : Nat} {b : qal} (hp : pm.Perm (qex l bk)) (hb : ∀ j,j ≠ k → bk' j = bk j) :
  (if qek b = 0 then mdel pm k else qgy pm k (qee bk' k)).Perm (qex (qdh l k b) bk'):=by
 have hn:=pmOf_nodup h.rising.nodup bk
 have hrem : qex (remPg l k) bk' = (qex l bk).filter fun x=>x.1 != (k : Int):=by
  unfold remPg qex
  rw [List.filter_map]
  have : (fun x : Nat × Pg=>x.1 != k) = (fun x : Int × Value=>x.1 != (k : Int)) ∘ fun p : Nat × Pg=>((p.1 : Int),qee bk p.1):=by
   funext y
   simp only [Function.comp]
   rw [Bool.eq_iff_iff]
   simp
   omega
  rw [← this]
  refine List.map_congr_left fun y hy=>?_
  have:=(List.mem_filter.1 hy).2
  rw [qee,qee,hb _ (by simpa using this)]
 by_cases hz : qek b = 0
 ·rw [if_pos hz]
  have h1:=mdel_perm hp hn (k : Int)
  unfold qdh
  cases e : qao l k with
  | some p=>dsimp only; rw [if_pos hz,hrem]; exact h1
  | none =>
   dsimp only
   rw [if_pos hz]
   have hk:=qbm.1 e
   have e2 : (qex l bk).filter (fun x=>x.1 != (k : Int)) = qex l bk':=by
    rw [← hrem,remPg,List.filter_eq_self.2]
    intro y hy
    have : y.1 ≠ k:=fun e=>hk (List.mem_map.2 ⟨y,hy,e⟩)
    simpa using this
   rw [e2] at h1
   exact h1
 ·rw [if_neg hz]
  unfold qdh
  cases e : qao l k with
  | some p =>
   dsimp only
   rw [if_neg hz,pmOf_set]
   have hk : k ∈ l.map (·.1):=List.mem_map.2 ⟨_,qbc e,rfl⟩
   refine (mset_perm' hn hp (qhj.2 hk)).trans (List.Perm.of_eq ?_)
   rw [qex,qex,List.map_map]
   refine List.map_congr_left fun y hy=>?_
   simp only [Function.comp]
   by_cases hyk : y.1 = k
   ·rw [if_pos (by omega),hyk]
   ·rw [if_neg (by omega),qee,qee,hb _ hyk]
  | none =>
   dsimp only
   rw [if_neg hz]
   have hk:=qbm.1 e
   refine (mset_perm hp (fun hm=>hk (qhj.1 hm))).trans ?_
   refine List.Perm.trans ?_ ((qby k (pgB b) l).symm.map fun p=>((p.1 : Int),qee bk' p.1))
   rw [List.map_cons]
   refine List.Perm.cons _ (List.Perm.of_eq ?_)
   refine (pmOf_congr fun y hy=>?_).symm
   exact hb _ fun e=>hk (List.mem_map.2 ⟨y,hy,e⟩)
def layM (S : ShG) (a : Nat) (bs : qal) : Int × ShG:=if S.budget < (layP S.pages a bs).length then (6,S) else (0,⟨S.budget,layP S.pages a bs⟩)
theorem pgB_bOf {l : List (Nat × Pg)} (h : ShOk l) {k : Nat} {p : Pg} (e : qao l k = some p) : pgB (bOf l k) = p:=by
 have:=(h.get e).cnt
 unfold pgB bOf
 rw [e]
 obtain ⟨b,q⟩:=p
 dsimp only at this ⊢
 rw [this]
theorem pgB_none {l : List (Nat × Pg)} {k : Nat} (e : qao l k = none) : pgB (bOf l k) = ⟨zeroB,0⟩:=by
 unfold pgB bOf
 rw [e]
 dsimp only
 rw [zeroB_cnt]
theorem shSpl_full {cur : Array Value} {cs : List Value} (h : cs.length = cur.size) : spl cur 0 cs = cs.toArray:=by
 apply Array.ext_getElem?
 intro j
 rw [spl_get cs cur 0 j (by omega)]
 by_cases hj : j < cs.length
 ·rw [if_pos ⟨Nat.zero_le _,by omega⟩]; simp
 ·rw [if_neg (by omega)]
  have h1 : cur[j]? = none:=by rw [Array.getElem?_eq_none_iff]; omega
  rw [h1]; simp; omega
theorem qey {p : Pg} (h : p.b.length = 256) : (qbb p).length = 257:=by simp [qbb,qaf,h]
theorem shCells_one (p : Pg) : (qbb p).all one = true:=by
 rw [qbb,List.all_append,qbe]; rfl
theorem setPg_now {now now2 : List (Nat × Pg)} {k : Nat} {q : Pg} {p : Pg} (h : now2 = qds now k p) : qbt now2 k q = qds now k q:=by
 subst h
 unfold qds
 cases e : qao now k with
 | some r=>dsimp only; rw [setPg_set]
 | none =>
  dsimp only
  rw [qbt,List.map_append]
  have : now.map (fun x=>if x.1 = k then (k,q) else x) = now.map id:=List.map_congr_left fun y hy=>if_neg fun e2=>qbm.1 e (List.mem_map.2 ⟨y,hy,e2⟩)
  rw [this,List.map_id]
  simp
theorem moreP_le (l : List (Nat × Pg)) : ∀ now : List (Nat × Pg),-(now.length : Int) ≤ qhl l now ∧ qhl l now ≤ now.length
 | []=>by simp [qhl]
 | y :: now=>by
  have h1:=moreP_le l now
  have h2:=cOf_le l y
  unfold qhl at h1 ⊢
  rw [List.map_cons,List.sum_cons,List.length_cons]
  omega
def bkOf (N : List (Nat × Pg)) (blk xblk : Nat → Nat) (left : qcp) (k : Nat) : Nat:=if k ∈ N.map (·.1) ∧ (k : Int) ∉ left.map (·.1) then blk k else xblk k
structure LInv (N l0 fin : List (Nat × Pg)) (blk xblk : Nat → Nat) (left : qcp) (l : List (Nat × Pg)) (pm : qcp) : Prop where
 ok : ShOk l
 perm : pm.Perm (qex l (bkOf N blk xblk left))
 sub : ∀ y ∈ left,y ∈ qex N blk
 nodup : (left.map (·.1)).Nodup
 fin : ∀ j : Nat,(j : Int) ∉ left.map (·.1) → qao l j = qao fin j
def finOf (N l0 : List (Nat × Pg)) (j : Nat) : Option Pg:=match qao N j with
 | some p=>if qek p.b = 0 then none else some (pgB p.b)
 | none=>qao l0 j
theorem LInv.start {N l0 fin : List (Nat × Pg)} {blk xblk : Nat → Nat} {pm : qcp} (h0 : ShOk l0) (hN : NowOk N) (hp : pm.Perm (qex l0 xblk)) (hf : ∀ j,qao fin j = finOf N l0 j) : LInv N l0 fin blk xblk (qex N blk) l0 pm:=by
 refine ⟨h0,?_,fun y h=>h,pmOf_nodup hN.nodup blk,fun j hj=>?_⟩
 ·rw [pmOf_congr (blk:=xblk)]
  ·exact hp
  ·intro y hy
   unfold bkOf
   rw [if_neg]
   exact fun h=>h.2 (qhj.2 h.1)
 ·rw [hf,finOf,qbm.2 (fun h=>hj (qhj.2 h))]
theorem LInv.step {N l0 fin : List (Nat × Pg)} {blk xblk : Nat → Nat} {left : qcp} {l : List (Nat × Pg)} {pm : qcp} (h : LInv N l0 fin blk xblk left l pm) {q : Nat} {p : Nat × Pg} (hq : left[q]? = some ((p.1 : Int),qee blk p.1)) (hp : p ∈ N) (hN : NowOk N) (hf : ∀ j,qao fin j = finOf N l0 j) :
  LInv N l0 fin blk xblk (left.eraseIdx q) (qdh l p.1 p.2.b) (if qek p.2.b = 0 then mdel pm (p.1 : Int) else qgy pm (p.1 : Int) (qee blk p.1)):=by
 have hpe:=(qge hq).map (·.1)
 rw [List.map_cons] at hpe
 have hn2:=hpe.nodup_iff.1 h.nodup
 rw [List.nodup_cons] at hn2
 have hne : ((p.1 : Int)) ∉ (left.eraseIdx q).map (·.1):=hn2.1
 have hin : p.1 ∈ N.map (·.1):=List.mem_map.2 ⟨p,hp,rfl⟩
 have hb' : bkOf N blk xblk (left.eraseIdx q) p.1 = blk p.1:=if_pos ⟨hin,hne⟩
 have hbj : ∀ j,j ≠ p.1 → bkOf N blk xblk (left.eraseIdx q) j = bkOf N blk xblk left j:=fun j hj=>by
  unfold bkOf
  have : ((j : Int) ∈ left.map (·.1)) ↔ ((j : Int) ∈ (left.eraseIdx q).map (·.1)):=by
   rw [hpe.mem_iff,List.mem_cons]
   constructor
   ·intro hx; exact hx.resolve_left (by omega)
   ·exact .inr
  simp only [this]
 have hal:=hN.al p hp
 refine ⟨qhi h.ok hal.1 hal.2 (hN.len p hp),?_,fun y hy=>h.sub y (List.mem_of_mem_eraseIdx hy),hn2.2,fun j hj=>?_⟩
 ·have:=pm_put (bk':=bkOf N blk xblk (left.eraseIdx q)) (k:=p.1) (b:=p.2.b) h.ok h.perm hbj
  rw [qee,hb'] at this
  exact this
 ·rw [qer h.ok]
  by_cases e : j = p.1
  ·subst e
   rw [if_pos rfl,hf,finOf,qcd hN.nodup hp]; rfl
  ·rw [if_neg e]
   refine h.fin j ?_
   intro hx
   have:=hpe.mem_iff.1 hx
   rw [List.mem_cons] at this
   exact this.elim (fun e2=>e (by have e2 : (j : Int) = (p.1 : Int):=e2; omega)) hj
theorem fin_blks {N l0 fin : List (Nat × Pg)} {blk xblk : Nat → Nat} (hfo : ShOk fin) (hN : NowOk N) (hf : ∀ j,qao fin j = finOf N l0 j) (hn : ((qbi l0 xblk ++ qbi N blk).map (·.1)).Nodup) :
  ((qbi fin (bkOf N blk xblk [])).map (·.1)).Nodup ∧ ∀ x ∈ qbi fin (bkOf N blk xblk []),x ∈ qbi l0 xblk ++ qbi N blk:=by
 have hin : ∀ y ∈ fin,(qao N y.1 = some y.2 ∧ bkOf N blk xblk [] y.1 = blk y.1) ∨ (y.1 ∉ N.map (·.1) ∧ qao l0 y.1 = some y.2 ∧ bkOf N blk xblk [] y.1 = xblk y.1):=by
  intro y hy
  have hg:=qcd hfo.rising.nodup (k:=y.1) (p:=y.2) hy
  rw [hf,finOf] at hg
  cases e : qao N y.1 with
  | some p =>
   rw [e] at hg
   dsimp only at hg
   split at hg
   ·cases hg
   ·injection hg with hg
    have hc:=hN.cnt _ (qbc e)
    refine .inl ⟨?_,if_pos ⟨List.mem_map.2 ⟨_,qbc e,rfl⟩,by simp⟩⟩
    rw [← hg]
    obtain ⟨pb,pq⟩:=p
    unfold pgB
    dsimp only at hc ⊢
    rw [hc]
  | none =>
   rw [e] at hg
   exact .inr ⟨qbm.1 e,hg,if_neg fun h=>qbm.1 e h.1⟩
 rw [List.map_append,List.nodup_append] at hn
 obtain ⟨n1,n2,n3⟩:=hn
 rw [qbi,List.map_map] at n1 n2
 have hmem : ∀ y ∈ fin,(bkOf N blk xblk [] y.1,qdf y.2) ∈ qbi l0 xblk ++ qbi N blk:=by
  intro y hy
  rcases hin y hy with ⟨h1,h2⟩ | ⟨_,h1,h2⟩
  ·rw [h2]; exact List.mem_append_right _ (shMem h1)
  ·rw [h2]; exact List.mem_append_left _ (shMem h1)
 refine ⟨?_,fun x hx=>?_⟩
 ·rw [qbi,List.map_map,List.Nodup,List.pairwise_map]
  have hr : fin.Pairwise fun x y=>x.1 ≠ y.1:=hfo.rising.imp fun h=>by omega
  refine (List.Pairwise.and_mem.1 hr).imp fun {y z} hyz e=>?_
  obtain ⟨hy,hz,hne⟩:=hyz
  simp only [Function.comp] at e
  rcases hin y hy with ⟨h1,h2⟩ | ⟨h0,h1,h2⟩ <;> rcases hin z hz with ⟨g1,g2⟩ | ⟨g0,g1,g2⟩
  ·rw [h2,g2] at e
   exact hne (congrArg (·.1) (qdd (f:=fun p : Nat × Pg=>blk p.1) n2 (qbc h1) (qbc g1) e))
  ·rw [h2,g2] at e
   exact n3 (xblk z.1) (List.mem_map.2 ⟨_,shMem g1,rfl⟩) (blk y.1) (List.mem_map.2 ⟨_,shMem h1,rfl⟩) e.symm
  ·rw [h2,g2] at e
   exact n3 (xblk y.1) (List.mem_map.2 ⟨_,shMem h1,rfl⟩) (blk z.1) (List.mem_map.2 ⟨_,shMem g1,rfl⟩) e
  ·rw [h2,g2] at e
   exact hne (congrArg (·.1) (qdd (f:=fun p : Nat × Pg=>xblk p.1) n1 (qbc h1) (qbc g1) e))
 ·obtain ⟨y,hy,rfl⟩:=List.mem_map.1 hx
  exact hmem y hy
end Go.Proofs.YtnfkalpgidiafaaGreat

namespace Go.Proofs.YtnfkalpgidiafaaGreat
open _root_.Go.Proofs.Tryz
open Go
theorem shBlks_put {now : List (Nat × Pg)} {blk : Nat → Nat} {k b7 : Nat} {p : Pg} (hk : qao now k = none) : ((b7,qdf p) :: qbi now blk).Perm (qbi (now ++ [(k,p)]) (fun j=>if j = k then b7 else blk j)):=by
 have h1 : qbi now (fun j=>if j = k then b7 else blk j) = qbi now blk:=shBlks_congr fun y hy=>if_neg fun e=>qbm.1 hk (List.mem_map.2 ⟨y,hy,e⟩)
 have h2 : qbi (now ++ [(k,p)]) (fun j=>if j = k then b7 else blk j) = qbi now blk ++ [(b7,qdf p)]:=by
  rw [← h1]; unfold qbi; rw [List.map_append]; simp
 rw [h2]
 exact List.perm_append_comm (l₁:=[(b7,qdf p)])
theorem pmOf_put {now : List (Nat × Pg)} {blk : Nat → Nat} {k b7 : Nat} {p : Pg} (hk : qao now k = none) : qgy (qex now blk) (k : Int) (.pointer (some ⟨b7,0,none⟩)) = qex (now ++ [(k,p)]) (fun j=>if j = k then b7 else blk j):=by
 have h1 : qex now (fun j=>if j = k then b7 else blk j) = qex now blk:=pmOf_congr fun y hy=>if_neg fun e=>qbm.1 hk (List.mem_map.2 ⟨y,hy,e⟩)
 rw [mset_new (fun hm=>qbm.1 hk (qhj.1 hm)),← h1]
 unfold qex
 rw [List.map_append]
 simp [qee]
theorem shLay_spec (b : Nat) (S : ShG) (a : Nat) (n : Int) (bs : qal) (F : FuncId) (cap : List Value) (R : Hp → Prop) (A : qax) (ha : a < 4294967296) (hn : n ≤ 9223372036854775807) (hbs : min n.toNat (4294967296 - a) = bs.length) (hlb : bs.length ≤ 1048576)
  (hcF : ∀ args w,(callFunc F args).run Tryz.prog w = .ok (.enter F args) w)
  (hF : ∀ (i : Nat) (v : UInt8),bs[i]? = some v → Spec Tryz.prog F ([Value.int .i64 (i : Int)] ++ cap).toArray R [(0,A)] (fun ρ ρ' r L=>ρ' = ρ ∧ r = .int .u8 (v.toNat : Int) ∧ L = [(0,A)])) :
  Spec Tryz.prog 26 #[.pointer (some ⟨b,0,none⟩),.int .u32 a,.int .i64 n,.func (.func F) #[] cap.toArray] R [(0,ShO b S),(1,A)]
  (fun ρ ρ' r L=>ρ' = ρ ∧ r = .int .i64 (layM S a bs).1 ∧ L = [(0,ShO b (layM S a bs).2),(1,A)]):=by
 refine Spec.of 103 Tryz.func26 rfl Tryz.ntmps26 [(0,_),(1,_),(2,_),(3,_)] rfl rfl ?_
 intro cx ρ hr h0
 refine Cd.shOpen 0 3 4 (by decide) rfl fun x hf=>?_
 have hroom:=hf.room
 have hbud:=hf.budget
 have hend : endN a n = a + bs.length:=by unfold endN; omega
 have hab : a + bs.length ≤ 4294967296:=by omega
 obtain ⟨l0,hl0⟩ : ∃ l,S.pages = l:=⟨_,rfl⟩
 have hok0 : ShOk l0:=hl0 ▸ hf.ok
 refine Cd.seq fun K1 hK1=>?_
 refine Cd.qac [(0,false)] rfl rfl ?_
 refine Jp.y 8 rfl (qaa rfl) rfl rfl Kp.true (Y.assign rfl rfl) ?_
 refine Jp.qae hK1 ?_
 refine Cd.seq fun K2 hK2=>?_
 refine Cd.qac [(0,false),(1,false)] rfl rfl ?_
 refine Jp.makeMap 16 5 .u32 rfl (qaa rfl) rfl rfl rfl fun b5=>⟨Kp.true,?_⟩
 refine Jp.y 9 rfl (qaa rfl) rfl rfl Kp.true (Y.assign rfl rfl) ?_
 refine Jp.qae hK2 ?_
 refine Cd.seq fun K3 hK3=>?_
 refine Cd.seq fun K4 hK4=>?_
 refine Cd.qac [(0,false),(1,false),(2,false),(3,false),(4,false),(5,false),(6,false),(7,false)] rfl rfl ?_
 refine Jp.make 6 Blks.nil ?_
 have hE:=shEnd_spec a n ha hn
 rw [hend] at hE
 refine Jp.y 17 rfl (qaa rfl) rfl rfl Kp.true (Y.move rfl rfl) ?_
 refine Jp.y 18 rfl (qaa rfl) rfl rfl Kp.true (Y.move rfl rfl) ?_
 refine Jp.call [] [] hE 19 rfl (qaa rfl) rfl rfl (Runs.fn rfl call55 rfl) (by decide) (by decide) rfl trivial ?_
 rintro v1 ρ1 L1 ⟨rfl,rfl,rfl⟩
 refine ⟨rfl,fun hle1=>⟨Kp.true,?_⟩⟩
 refine Jp.y 20 rfl (qaa rfl) rfl rfl Kp.true (Y.move rfl rfl) ?_
 refine Jp.y 21 rfl (qaa rfl) rfl rfl Kp.true (Y.qaw rfl rfl underlying24 underlying103 (by exact qbh (by omega) (by omega))) ?_
 refine Jp.y 22 rfl (qaa rfl) rfl rfl Kp.true (Y.qfm rfl rfl rfl (by exact qbh (by omega) (by omega))) ?_
 refine Jp.y 23 rfl (qaa rfl) rfl rfl Kp.true (Y.qaw rfl rfl underlying103 underlying3 (by exact qaj (by omega) (by omega))) ?_
 refine Jp.slot 23 rfl (show _ = Value.int .i64 (bs.length : Int) from congrArg (Value.int .i64) (by omega)) ?_
 refine Jp.y 24 rfl (qaa rfl) rfl rfl Kp.true (Y.move rfl rfl) ?_
 refine Jp.qae hK4 ?_
 refine Cd.block ?_
 refine Cd.qgm (G:=Nat → Nat) (fun _=>True) (fun _=>[]) [(0,_),(9,_)] ⟨rfl,rfl,trivial⟩ (fun blk=>[(5,qcn .u32 b5 (qex (nowP l0 a bs bs.length) blk)),(6,Blks (qbi (nowP l0 a bs bs.length) blk))]) [(0,_),(1,_),(3,_),(4,_)] ⟨rfl,rfl,rfl,rfl,trivial⟩ hK3 (fun g hφ=>?_) (fun hj1=>?_)
 ·obtain ⟨blk,hblk⟩ : ∃ blk,blk = g:=⟨_,rfl⟩
  rw [← hblk]
  clear hφ hblk
  have hno:=nowP_ok hok0 (bs:=bs) hab
  have hnl:=nowP_length (l:=l0) (a:=a) (bs:=bs) (i:=bs.length)
  have hfin:=lay_putAll hok0 hab
  obtain ⟨N,hN⟩ : ∃ N,nowP l0 a bs bs.length = N:=⟨_,rfl⟩
  rw [hN] at hno hnl hfin ⊢
  have hmore:=shMore_spec b S x hf b5 (qex N blk) N blk (List.Perm.refl _) hno.nodup (fun y hy=>⟨(hno.al y hy).2,hno.len y hy⟩) (by omega)
  have hlen:=putAll_len hok0 hno.nodup hno.al hno.len hno.cnt
  have hml:=moreP_le l0 N
  have hgf : ∀ j,qao (layP l0 a bs) j = finOf N l0 j:=fun j=>by rw [← hfin]; exact qfs hok0 hno.nodup hno.al hno.len j
  rw [hfin] at hlen
  rw [hl0] at hmore
  have hpl : x.pm.length = l0.length:=(hf.pages.length_eq).trans (by rw [qex,List.length_map,hl0])
  have hl0l : l0.length ≤ S.budget:=by rw [← hl0]; exact hroom
  refine Cd.seq fun K5 hK5=>?_
  refine Cd.seq fun K6 hK6=>?_
  refine Cd.drawn [(0,_),(3,_)] ⟨rfl,rfl,trivial⟩ [(0,true),(1,true),(2,true),(3,true),(4,true),(5,true),(6,true),(9,true),(10,true),(11,true),(12,true),(7,false),(8,true),(13,true)] follows (by kernel_rfl) (fun hrl=>?_)
  refine Jp.q 66 rfl (qaa rfl) rfl rfl (Y.move rfl rfl) ?_
  refine Jp.q 67 rfl (qaa rfl) rfl rfl (Y.qan rfl rfl) ?_
  refine Jp.q 68 rfl (qaa rfl) rfl rfl (by exact Y.qad rfl rfl underlying67 rfl sizeOf65 (by decide) (show _ + 1 = _ from rfl)) ?_
  refine Jp.q 69 rfl (qaa rfl) rfl rfl (Y.qau 0 rfl isAgg65 rfl rfl rfl) ?_
  refine Jp.q 70 rfl (qaa rfl) rfl rfl (by first | exact Y.lenmap 3 rfl underlying65 rfl rfl) ?_
  refine Jp.q 71 rfl (qaa rfl) rfl rfl (Y.move rfl rfl) ?_
  refine Jp.q 72 rfl (qaa rfl) rfl rfl (Y.move rfl rfl) ?_
  refine Jp.q 75 rfl (qaa rfl) rfl rfl (Y.move rfl rfl) ?_
  refine Jp.q 76 rfl (qaa rfl) rfl rfl (Y.qan rfl rfl) ?_
  refine Jp.q 77 rfl (qaa rfl) rfl rfl (by exact Y.qad rfl rfl underlying67 rfl sizeOf3 (by decide) (show _ + 0 = _ from rfl)) ?_
  refine Jp.q 78 rfl (qaa rfl) rfl rfl (Y.qau 0 rfl isAgg3 rfl rfl rfl) ?_
  refine Jp.call [0,3,5,6] [0,3,5,6] hmore 73 rfl (qaa rfl) rfl rfl (Runs.fn rfl call58 rfl) (by decide) (by decide) rfl trivial ?_
  rintro v3 ρ3 L3 ⟨rfl,rfl,rfl⟩
  refine ⟨rfl,fun hle3=>⟨(Kp.st ⟨rfl,rfl,trivial⟩),?_⟩⟩
  refine Jp.q 74 rfl (qaa rfl) rfl rfl (Y.qcj rfl rfl rfl (by exact qaj (by omega) (by omega))) ?_
  refine Jp.slot 74 rfl (show _ = Value.int .i64 ((layP l0 a bs).length : Int) from congrArg (Value.int .i64) (by rw [hlen,hpl])) ?_
  refine Jp.q 79 rfl (qaa rfl) rfl rfl (Y.gtr rfl rfl rfl) ?_
  refine Jp.qae hK6 ?_
  refine Cd.qar rfl (fun gb=>?_) (fun gb=>?_)
  ·have hb : S.budget < (layP l0 a bs).length:=by simpa using gb
   have e : layM S a bs = (6,S):=by rw [layM,hl0,if_pos hb]
   refine Cd.seq fun K8 hK8=>?_
   refine Cd.qac [(0,false)] rfl rfl ?_
   refine Jp.y 8 rfl (qaa rfl) rfl rfl Kp.true (Y.assign rfl rfl) ?_
   refine Jp.qae hK8 ?_
   refine Cd.shClose (b:=b) (S:=S) (x:=x) 0 3 4 (by decide) hf rfl rfl rfl ?_
   refine Cd.ret [(0,_),(1,_)] rfl (qbd rfl rfl) ⟨rfl,rfl,trivial⟩ ⟨rfl,by rw [e],by rw [e]⟩
  ·have hb : (layP l0 a bs).length ≤ S.budget:=by simpa using gb
   have e : layM S a bs = (0,⟨S.budget,layP l0 a bs⟩):=by rw [layM,hl0,if_neg (by omega)]
   have hokf : ShOk (layP l0 a bs):=lay_ok hok0 hab
   obtain ⟨fin,hfe⟩ : ∃ fin,layP l0 a bs = fin:=⟨_,rfl⟩
   rw [hfe] at hb e hokf hgf
   refine Cd.joinBB 4 6 (by decide) rfl rfl ?_
   refine Cd.know (φ:=((qbi l0 x.blk ++ qbi N blk).map (·.1)).Nodup) (A:=Blks (qbi S.pages x.blk ++ qbi N blk)) 4 rfl (fun _ h=>by rw [← hl0]; exact h.1) fun hTn=>?_
   refine Cd.qbu hK5 ?_
   refine Cd.seq fun K9 hK9=>?_
   refine Cd.seq fun K10 hK10=>?_
   refine Cd.qac [(0,false),(1,false)] rfl rfl ?_
   refine Jp.y 80 rfl (qaa rfl) rfl rfl Kp.true (Y.move rfl rfl) ?_
   first | refine Jp.range 81 5 50 (by decide) rfl (qaa rfl) rfl rfl rfl rfl underlying65 rfl fun r5=>⟨Kp.true,?_⟩
   refine Jp.qae hK10 ?_
   refine Cd.block ?_
   refine Cd.qdv (G:=qcp × List (Nat × Pg) × qcp × Option (Int × Value)) (fun g=>LInv N l0 fin blk x.blk g.1 g.2.1 g.2.2.1) (fun g=>g.1.length) (fun _=>_) (fun g=>[]) [(0,_),(81,_)] (fun g=>[(3,qcn .u32 x.pb g.2.2.1),(5,RangeO .u32 b5 r5 (qex N blk) g.1 g.2.2.2)]) [(0,_),(1,_),(4,_)] ⟨qex N blk,l0,x.pm,none⟩ (LInv.start hok0 hno (hl0 ▸ hf.pages) hgf) rfl trivial ⟨rfl,rfl,trivial⟩ ⟨rfl,rfl,trivial⟩ ⟨rfl,rfl,rfl,trivial⟩ (fun g KLc hok hLc=>?_)
   obtain ⟨left,l,pm,cur⟩:=g
   dsimp only at hok ⊢
   refine Cd.seq fun K11 hK11=>?_
   refine Cd.qac [(0,false),(1,false)] rfl rfl ?_
   refine Jp.next 82 5 rfl (qaa rfl) rfl rfl (fun _=>rfl) rfl rfl (fun hn=>⟨Kp.true,?_⟩) (fun q y hq=>⟨Kp.true,?_⟩)
   ·skip
    refine Jp.y 83 rfl (qaa rfl) rfl rfl Kp.true (Y.extract rfl rfl rfl) ?_
    refine Jp.qae hK11 ?_
    refine Cd.seq fun K12 hK12=>?_
    refine Cd.qbz rfl ?_
    refine Cd.exit rfl hK9 ?_
    refine Cd.seq fun K13 hK13=>?_
    refine Cd.qac [(0,false)] rfl rfl ?_
    refine Jp.y 8 rfl (qaa rfl) rfl rfl Kp.true (Y.assign rfl rfl) ?_
    refine Jp.qae hK13 ?_
    subst hn
    have hl : l = fin:=rising_ext hok.ok.rising hokf.rising fun k=>hok.fin k (by simp)
    have hfb:=fin_blks (blk:=blk) (xblk:=x.blk) hokf hno hgf hTn
    refine Cd.imp (i:=4) rfl (Blks.subset hfb.1 (fun y hy=>by rw [hl0]; exact hfb.2 y hy)) ?_
    refine Cd.shClose (b:=b) (S:=⟨S.budget,fin⟩) (x:=⟨x.pb,pm,bkOf N blk x.blk []⟩) 0 3 4 (by decide) ⟨hokf,hb,hbud,hl ▸ hok.perm⟩ rfl rfl rfl ?_
    refine Cd.ret [(0,_),(1,_)] rfl (qbd rfl rfl) ⟨rfl,rfl,trivial⟩ ⟨rfl,by rw [e],by rw [e]⟩
   ·have hy:=hok.sub y (List.mem_of_getElem? hq)
    obtain ⟨p,hp,hpy⟩:=List.mem_map.1 hy
    subst hpy
    have hql:=(List.getElem?_eq_some_iff.1 hq).1
    have hel : (left.eraseIdx q).length < left.length:=by rw [List.length_eraseIdx,if_pos hql]; omega
    have hst:=hok.step hq hp hno hgf
    have hpl2:=hno.len p hp
    have hpc:=hno.cnt p hp
    have hplt:=(hno.al p hp).2
    have hmem : (blk p.1,qdf p.2) ∈ qbi S.pages x.blk ++ qbi N blk:=List.mem_append_right _ (List.mem_map.2 ⟨p,hp,rfl⟩)
    have hcell:=Blks.cell hmem (qbv p.2 hpl2)
    refine Jp.y 83 rfl (qaa rfl) rfl rfl Kp.true (Y.extract rfl rfl rfl) ?_
    refine Jp.qae hK11 ?_
    refine Cd.seq fun K14 hK14=>?_
    refine Cd.qcw rfl ?_
    refine Cd.qbu hK14 ?_
    refine Cd.block ?_
    refine Cd.seq fun K15 hK15=>?_
    refine Cd.qac [(0,false),(1,false),(2,false),(3,false),(4,false)] rfl rfl ?_
    refine Jp.y 84 rfl (qaa rfl) rfl rfl Kp.true (by first | exact Y.entry 5 rfl rfl rfl) ?_
    refine Jp.y 85 rfl (qaa rfl) rfl rfl Kp.true (Y.extract rfl rfl rfl) ?_
    refine Jp.y 86 rfl (qaa rfl) rfl rfl Kp.true (Y.extract rfl rfl rfl) ?_
    refine Jp.y 14 rfl (qaa rfl) rfl rfl Kp.true (Y.assign rfl rfl) ?_
    refine Jp.y 15 rfl (qaa rfl) rfl rfl Kp.true (Y.assign rfl rfl) ?_
    refine Jp.qae hK15 ?_
    refine Cd.seq fun K16 hK16=>?_
    refine Cd.qac [(0,false),(1,false),(2,false),(3,false),(4,false)] rfl rfl ?_
    refine Jp.y 87 rfl (qaa rfl) rfl rfl Kp.true (Y.move rfl rfl) ?_
    refine Jp.y 88 rfl (qaa rfl) rfl rfl Kp.true (Y.qan rfl rfl) ?_
    refine Jp.y 89 rfl (qaa rfl) rfl rfl Kp.true (by exact Y.qad rfl rfl underlying132 rfl sizeOf3 (by decide) (show _ + 256 = _ from rfl)) ?_
    refine Jp.y 90 rfl (qaa rfl) rfl rfl Kp.true (by exact Y.qbg 4 rfl isAgg3 rfl rfl hcell) ?_
    refine Jp.y 91 rfl (qaa rfl) rfl rfl Kp.true (Y.gtr rfl rfl rfl) ?_
    refine Jp.qae hK16 ?_
    refine Cd.qar rfl (fun gp=>?_) (fun gp=>?_)
    ·have hz : qek p.2.b ≠ 0:=by simp at gp; omega
     rw [if_neg hz] at hst
     refine Cd.qac [(0,false),(1,false),(2,false),(3,false),(4,false),(5,false),(6,false)] rfl rfl ?_
     refine Jp.y 92 rfl (qaa rfl) rfl rfl Kp.true (Y.move rfl rfl) ?_
     refine Jp.y 93 rfl (qaa rfl) rfl rfl Kp.true (Y.qan rfl rfl) ?_
     refine Jp.y 94 rfl (qaa rfl) rfl rfl Kp.true (by exact Y.qad rfl rfl underlying67 rfl sizeOf65 (by decide) (show _ + 1 = _ from rfl)) ?_
     refine Jp.y 95 rfl (qaa rfl) rfl rfl Kp.true (Y.qau 0 rfl isAgg65 rfl rfl rfl) ?_
     refine Jp.y 96 rfl (qaa rfl) rfl rfl Kp.true (Y.move rfl rfl) ?_
     refine Jp.y 97 rfl (qaa rfl) rfl rfl Kp.true (Y.move rfl rfl) ?_
     first | refine Jp.mapUpdate 3 rfl (qaa rfl) rfl rfl rfl rfl rfl underlying65 underlying24 rfl Kp.true ?_
     refine JpQ.again rfl hLc ⟨left.eraseIdx q,qdh l p.1 p.2.b,_,_⟩ hst hel rfl ⟨rfl,rfl,trivial⟩ ⟨rfl,rfl,rfl,rfl,rfl,trivial⟩
    ·have hz : qek p.2.b = 0:=by simp at gp; omega
     rw [if_pos hz] at hst
     refine Cd.qac [(0,false),(1,false),(2,false),(3,false),(4,false),(5,false)] rfl rfl ?_
     refine Jp.y 98 rfl (qaa rfl) rfl rfl Kp.true (Y.move rfl rfl) ?_
     refine Jp.y 99 rfl (qaa rfl) rfl rfl Kp.true (Y.qan rfl rfl) ?_
     refine Jp.y 100 rfl (qaa rfl) rfl rfl Kp.true (by exact Y.qad rfl rfl underlying67 rfl sizeOf65 (by decide) (show _ + 1 = _ from rfl)) ?_
     refine Jp.y 101 rfl (qaa rfl) rfl rfl Kp.true (Y.qau 0 rfl isAgg65 rfl rfl rfl) ?_
     refine Jp.y 102 rfl (qaa rfl) rfl rfl Kp.true (Y.move rfl rfl) ?_
     first | refine Jp.delete0 3 rfl (qaa rfl) rfl rfl rfl rfl underlying65 underlying24 rfl Kp.true ?_
     refine JpQ.again rfl hLc ⟨left.eraseIdx q,qdh l p.1 p.2.b,_,_⟩ hst hel rfl ⟨rfl,rfl,trivial⟩ ⟨rfl,rfl,rfl,rfl,rfl,trivial⟩
 ·skip
  refine Cd.qdv (G:=Nat × (Nat → Nat)) (fun g=>g.1 ≤ bs.length) (fun g=>bs.length - g.1) (fun _=>_) (fun g=>[(24,.int .i64 (g.1 : Int))]) [(0,_),(1,_),(3,_),(9,_),(23,_)] (fun g=>[(5,qcn .u32 b5 (qex (nowP l0 a bs g.1) g.2)),(6,Blks (qbi (nowP l0 a bs g.1) g.2))]) [(0,_),(1,_),(3,_),(4,_)] ⟨0,fun _=>0⟩ (Nat.zero_le _) rfl ⟨rfl,trivial⟩ ⟨rfl,rfl,rfl,rfl,rfl,trivial⟩ ⟨rfl,rfl,trivial⟩ ⟨rfl,rfl,rfl,rfl,trivial⟩ (fun g KLa hok hLa=>?_)
  obtain ⟨i,blk⟩:=g
  dsimp only at hok ⊢
  refine Cd.seq fun K17 hK17=>?_
  refine Cd.qac [(0,false)] rfl rfl ?_
  refine Jp.y 25 rfl (qaa rfl) rfl rfl Kp.true (Y.lss rfl rfl rfl) ?_
  refine Jp.qae hK17 ?_
  refine Cd.seq fun K18 hK18=>?_
  refine Cd.condF' rfl (fun g25=>?_) (fun g25=>?_)
  ·skip
   try simp only [sG0] at g25
   have e : i = bs.length:=by omega
   rw [e]
   refine Cd.exit rfl hK3 ?_
   exact Cd.qcz (hj1 blk trivial) ⟨rfl,rfl,trivial⟩ ⟨rfl,rfl,rfl,rfl,rfl,rfl,trivial⟩
  try simp only [sG0] at g25
  refine Cd.qbu hK18 ?_
  refine Cd.seq fun K19 hK19=>?_
  refine Cd.block ?_
  refine Cd.seq fun K20 hK20=>?_
  refine Cd.qac [(0,false),(1,false)] rfl rfl ?_
  have hi : i < bs.length:=by omega
  have hv : bs[i]? = some bs[i]:=List.getElem?_eq_getElem hi
  obtain ⟨v,hve⟩ : ∃ v,v = bs[i]:=⟨_,rfl⟩
  rw [← hve] at hv
  have hnow : NowOk (nowP l0 a bs i):=nowP_ok hok0 (by omega)
  have hstep : nowP l0 a bs (i + 1) = now1 l0 (nowP l0 a bs i) (a + i) v:=by
   rw [nowP,List.getD_eq_getElem?_getD,hv]; rfl
  obtain ⟨now,hno⟩ : ∃ now,nowP l0 a bs i = now:=⟨_,rfl⟩
  rw [hno] at hnow hstep ⊢
  obtain ⟨k,hk⟩ : ∃ k,qap (a + i) = k:=⟨_,rfl⟩
  have hkb:=base_mod (a + i)
  have hkl:=base_le (a + i)
  rw [hk] at hkb hkl
  have hB:=shBase_spec (a + i) (by omega)
  rw [hk] at hB
  obtain ⟨nb,hnb⟩ : ∃ x,nowB l0 now k = x:=⟨_,rfl⟩
  have hnbl : nb.length = 256:=by rw [← hnb]; exact nowB_len hok0 hnow k
  have hgetn:=pm_get (blk:=blk) hnow.nodup (List.Perm.refl _) k
  have hget0:=hf.get k
  rw [hl0] at hget0
  refine Jp.y 26 rfl (qaa rfl) rfl rfl Kp.true (Y.move rfl rfl) ?_
  refine Jp.y 10 rfl (qaa rfl) rfl rfl Kp.true (Y.assign rfl rfl) ?_
  refine Jp.qae hK20 ?_
  refine Cd.seq fun K21 hK21=>?_
  refine Cd.qac [(0,false),(1,false),(2,false),(3,false),(4,false)] rfl rfl ?_
  refine Jp.y 27 rfl (qaa rfl) rfl rfl Kp.true (Y.move rfl rfl) ?_
  refine Jp.y 28 rfl (qaa rfl) rfl rfl Kp.true (Y.move rfl rfl) ?_
  refine Jp.y 29 rfl (qaa rfl) rfl rfl Kp.true (Y.qaw rfl rfl underlying3 underlying24 (by exact qba (by omega) (by omega))) ?_
  refine Jp.y 30 rfl (qaa rfl) rfl rfl Kp.true (Y.qcj rfl rfl rfl (by exact qba (by omega) (by omega))) ?_
  refine Jp.y 11 rfl (qaa rfl) rfl rfl Kp.true (Y.assign rfl rfl) ?_
  refine Jp.qae hK21 ?_
  refine Cd.seq fun K22 hK22=>?_
  refine Cd.qac [(0,false),(1,false),(2,false),(3,false),(4,false)] rfl rfl ?_
  refine Jp.slot 11 rfl (show _ = Value.int .u32 ((a + i : Nat) : Int) from congrArg (Value.int .u32) (by omega)) ?_
  refine Jp.y 31 rfl (qaa rfl) rfl rfl Kp.true (Y.move rfl rfl) ?_
  refine Jp.y 32 rfl (qaa rfl) rfl rfl Kp.true (Y.move rfl rfl) ?_
  refine Jp.call [] [] hB 33 rfl (qaa rfl) rfl rfl (Runs.fn rfl call56 rfl) (by decide) (by decide) rfl trivial ?_
  rintro v101 ρ101 L101 ⟨rfl,rfl,rfl⟩
  refine ⟨rfl,fun hle101=>⟨Kp.true,?_⟩⟩
  refine Jp.y 34 rfl (qaa rfl) rfl rfl Kp.true (by first | exact Y.lookup 5 rfl rfl rfl underlying65 underlying24 zeroValue82 rfl) ?_
  refine Jp.y 12 rfl (qaa rfl) rfl rfl Kp.true (Y.assign rfl rfl) ?_
  refine Jp.qae hK22 ?_
  refine Cd.seq fun K23 hK23=>?_
  refine Cd.seq fun K24 hK24=>?_
  refine Cd.qac [(0,false),(1,false)] rfl rfl ?_
  refine Jp.slot 12 rfl (show _ = Value.pointer ((qao now k).map fun _=>⟨blk k,0,none⟩) by rw [hgetn]; cases qao now k <;> rfl) ?_
  refine Jp.y 35 rfl (qaa rfl) rfl rfl Kp.true (Y.move rfl rfl) ?_
  refine Jp.y 36 rfl (qaa rfl) rfl rfl Kp.true (Y.qeu rfl underlying82 rfl rfl) ?_
  refine Jp.qae hK24 ?_
  refine Cd.qgm (G:=List (Nat × Pg) × (Nat → Nat)) (fun z=>z.1 = qds now k (pgB nb)) (fun z=>[(12,qee z.2 k)]) [(0,_),(1,_),(3,_),(9,_),(10,_),(11,_),(23,_),(24,_)] ⟨rfl,rfl,rfl,rfl,rfl,rfl,rfl,rfl,trivial⟩ (fun z=>[(5,qcn .u32 b5 (qex z.1 z.2)),(6,Blks (qbi z.1 z.2))]) [(0,_),(1,_),(3,_),(4,_)] ⟨rfl,rfl,rfl,rfl,trivial⟩ hK23 (fun g hφ=>?_) (fun hj2=>?_)
  ·obtain ⟨now2,blk2⟩:=g
   dsimp only at hφ ⊢
   have hg2 : qao now2 k = some (pgB nb):=by rw [hφ,getPg_nowPut,if_pos rfl]
   refine Cd.qac [(0,false),(1,false),(2,false),(3,false),(4,false),(5,false),(6,false),(7,false)] rfl rfl ?_
   refine Jp.y 57 rfl (qaa rfl) rfl rfl Kp.true (Y.move rfl rfl) ?_
   refine Jp.y 58 rfl (qaa rfl) rfl rfl Kp.true (Y.move rfl rfl) ?_
   refine Jp.y 59 rfl (qaa rfl) rfl rfl Kp.true (by exact Y.remN rfl rfl rfl (by omega) (by omega)) ?_
   refine Jp.slot 59 rfl (show _ = Value.int .u32 (((a + i) % 256 : Nat) : Int) from congrArg (Value.int .u32) (by omega)) ?_
   refine Jp.y 60 rfl (qaa rfl) rfl rfl Kp.true (Y.qaw rfl rfl underlying24 underlying3 (by exact qaj (by omega) (by omega))) ?_
   refine Jp.y 61 rfl (qaa rfl) rfl rfl Kp.true (Y.move rfl rfl) ?_
   refine Jp.y 62 rfl (qaa rfl) rfl rfl Kp.true (Y.move rfl rfl) ?_
   refine Jp.call [1] [1] (hF i v hv) 63 rfl (qaa rfl) rfl rfl (Runs.val rfl rfl hcF rfl) (by decide) (by decide) rfl hr ?_
   rintro v7 ρ7 L7 ⟨rfl,rfl,rfl⟩
   refine ⟨rfl,fun hle7=>⟨Kp.true,?_⟩⟩
   refine Jp.know (φ:=((qbi now2 blk2).map (·.1)).Nodup) (A:=Blks (qbi now2 blk2)) 6 rfl (fun _ h=>h.1) fun hnd2=>?_
   refine Jp.call [6] [6] (shPut_spec (qbi now2 blk2) (blk2 k) (pgB nb) ((a + i) % 256) v (shMem hg2) hnbl rfl (Nat.mod_lt _ (by decide))) 64 rfl (qaa rfl) rfl rfl (Runs.fn rfl call57 rfl) (by decide) (by decide) rfl trivial ?_
   rintro v8 ρ8 L8 ⟨rfl,rfl,rfl⟩
   refine ⟨rfl,fun hle8=>⟨Kp.true,?_⟩⟩
   have he : qbt now2 k (pgB (nb.set ((a + i) % 256) v)) = nowP l0 a bs (i + 1):=by
    rw [setPg_now hφ,hstep,now1,hk,hnb]
   refine Jp.imp (j:=6) rfl (fun h hh=>(show Blks (qbi (nowP l0 a bs (i + 1)) blk2) h by rw [← he,← updB_sh hnd2 hg2]; exact hh)) ?_
   refine Jp.imp (j:=5) rfl (fun h hh=>(show qcn .u32 b5 (qex (nowP l0 a bs (i + 1)) blk2) h by rw [← he,pmOf_set]; exact hh)) ?_
   refine Jp.over rfl hK19 ?_
   refine Cd.qac [(0,false),(1,false)] rfl rfl ?_
   refine Jp.y 65 rfl (qaa rfl) rfl rfl Kp.true (Y.qcj rfl rfl rfl (by exact qaj (by omega) (by omega))) ?_
   refine Jp.y 24 rfl (qaa rfl) rfl rfl Kp.true (Y.move rfl rfl) ?_
   rw [show (i : Int) + 1 = ((i + 1 : Nat) : Int) by omega]
   refine Jp.again hLa ⟨i + 1,blk2⟩ hi (by show bs.length - (i + 1) < bs.length - i; omega) rfl ⟨rfl,rfl,rfl,rfl,rfl,rfl,trivial⟩ ⟨rfl,rfl,rfl,rfl,rfl,rfl,trivial⟩
  ·skip
   refine Cd.qar rfl (fun gn=>?_) (fun gn=>?_)
   ·have hgn : qao now k = none:=by cases h : qao now k with
     | none=>rfl
     | some p=>rw [h] at gn; cases gn
    have hnb0 : nb = bOf l0 k:=by rw [← hnb,nowB,hgn]
    refine Cd.seq fun K25 hK25=>?_
    refine Cd.qac [(0,false),(1,false),(2,false)] rfl rfl ?_
    refine Jp.y 37 rfl (qaa rfl) rfl rfl Kp.true (Y.struct [] (qbb ⟨zeroB,0⟩) rfl rfl places132 zeroValue132 rfl) ?_
    refine Jp.box 7 38 rfl (qaa rfl) rfl rfl rfl rfl fun b7=>⟨Kp.true,?_⟩
    refine Jp.y 12 rfl (qaa rfl) rfl rfl Kp.true (Y.assign rfl rfl) ?_
    refine Jp.qae hK25 ?_
    refine Cd.seq fun K26 hK26=>?_
    refine Cd.seq fun K27 hK27=>?_
    refine Cd.drawn [(0,_),(3,_)] ⟨rfl,rfl,trivial⟩ [(0,true),(1,true),(2,true),(3,true),(4,true),(5,false),(6,true),(7,true)] follows (by kernel_rfl) (fun hrl=>?_)
    refine Jp.imp (j:=7) rfl (fun h hh=>(show Pt b7 (qdf ⟨zeroB,0⟩) h from hh)) ?_
    refine Jp.q 39 rfl (qaa rfl) rfl rfl (Y.move rfl rfl) ?_
    refine Jp.q 40 rfl (qaa rfl) rfl rfl (Y.qan rfl rfl) ?_
    refine Jp.q 41 rfl (qaa rfl) rfl rfl (by exact Y.qad rfl rfl underlying67 rfl sizeOf65 (by decide) (show _ + 1 = _ from rfl)) ?_
    refine Jp.q 42 rfl (qaa rfl) rfl rfl (by exact Y.qau 0 rfl isAgg65 rfl rfl rfl) ?_
    refine Jp.q 43 rfl (qaa rfl) rfl rfl (Y.move rfl rfl) ?_
    refine Jp.call [] [] hB 44 rfl (qaa rfl) rfl rfl (Runs.fn rfl call56 rfl) (by decide) (by decide) rfl trivial ?_
    rintro v102 ρ102 L102 ⟨rfl,rfl,rfl⟩
    refine ⟨rfl,fun hle102=>⟨(Kp.st ⟨rfl,rfl,trivial⟩),?_⟩⟩
    refine Jp.q 45 rfl (qaa rfl) rfl rfl (by first | exact Y.lookup 3 rfl rfl rfl underlying65 underlying24 zeroValue82 rfl) ?_
    refine Jp.q 13 rfl (qaa rfl) rfl rfl (Y.assign rfl rfl) ?_
    refine Jp.qae hK27 ?_
    refine Cd.seq fun K29 hK29=>?_
    refine Cd.qac [(0,false),(1,false)] rfl rfl ?_
    refine Jp.slot 13 rfl (show _ = Value.pointer ((qao l0 k).map fun _=>⟨x.blk k,0,none⟩) by rw [hget0]; cases qao l0 k <;> rfl) ?_
    refine Jp.y 46 rfl (qaa rfl) rfl rfl Kp.true (Y.move rfl rfl) ?_
    refine Jp.y 47 rfl (qaa rfl) rfl rfl Kp.true (Y.ptrNotNil rfl underlying82 rfl rfl) ?_
    refine Jp.qae hK29 ?_
    refine Cd.qgm (G:=Unit) (fun _=>True) (fun _=>[]) [(0,_),(1,_),(3,_),(9,_),(10,_),(11,_),(12,_),(23,_),(24,_)] ⟨rfl,rfl,rfl,rfl,rfl,rfl,rfl,rfl,rfl,trivial⟩ (fun _=>[(7,Pt b7 (qdf (pgB nb)))]) [(0,_),(1,_),(3,_),(4,_),(5,_),(6,_)] ⟨rfl,rfl,rfl,rfl,rfl,rfl,trivial⟩ hK26 (fun g hφ=>?_) (fun hj3=>?_)
    ·clear hφ
     refine Cd.qac [(0,false),(1,false),(2,false),(3,false),(4,false)] rfl rfl ?_
     refine Jp.y 53 rfl (qaa rfl) rfl rfl Kp.true (Y.move rfl rfl) ?_
     refine Jp.y 54 rfl (qaa rfl) rfl rfl Kp.true (Y.move rfl rfl) ?_
     refine Jp.call [] [] hB 55 rfl (qaa rfl) rfl rfl (Runs.fn rfl call56 rfl) (by decide) (by decide) rfl trivial ?_
     rintro v103 ρ103 L103 ⟨rfl,rfl,rfl⟩
     refine ⟨rfl,fun hle103=>⟨Kp.true,?_⟩⟩
     refine Jp.y 56 rfl (qaa rfl) rfl rfl Kp.true (Y.move rfl rfl) ?_
     first | refine Jp.mapUpdate 5 rfl (qaa rfl) rfl rfl rfl rfl rfl underlying65 underlying24 rfl Kp.true ?_
     refine Jp.qae hK23 ?_
     refine Cd.joinB (ob:=qdf (pgB nb)) 6 7 (by decide) rfl rfl ?_
     refine Cd.imp (i:=6) rfl (Blks.perm (shBlks_put hgn)) ?_
     rw [pmOf_put (p:=pgB nb) hgn]
     refine Cd.slot 12 rfl (show _ = qee (fun j=>if j = k then b7 else blk j) k by simp [qee]) ?_
     exact Cd.qcz (hj2 ⟨now ++ [(k,pgB nb)],fun j=>if j = k then b7 else blk j⟩ (by show _ = qds now k (pgB nb); rw [qds,hgn])) ⟨rfl,rfl,rfl,rfl,rfl,rfl,rfl,rfl,rfl,trivial⟩ ⟨rfl,rfl,rfl,rfl,rfl,rfl,trivial⟩
    ·skip
     refine Cd.qar rfl (fun g0=>?_) (fun g0=>?_)
     ·obtain ⟨p0,hg0⟩ : ∃ p,qao l0 k = some p:=by cases h : qao l0 k with
       | none=>rw [h] at g0; simp at g0
       | some p=>exact ⟨p,rfl⟩
      have hp0 : pgB nb = p0:=by rw [hnb0]; exact pgB_bOf hok0 hg0
      have hlen0:=(hok0.get hg0).len
      rw [hg0]
      refine Cd.qac [(0,false),(1,false),(2,false),(3,false),(4,false),(5,false)] rfl rfl ?_
      refine Jp.y 48 rfl (qaa rfl) rfl rfl Kp.true (Y.move rfl rfl) ?_
      refine Jp.y 49 rfl (qaa rfl) rfl rfl Kp.true (Y.move rfl rfl) ?_
      refine Jp.y 50 rfl (qaa rfl) rfl rfl Kp.true (Y.qan rfl rfl) ?_
      refine Jp.y 51 rfl (qaa rfl) rfl rfl Kp.true (Y.loadAggC 4 (qbb p0) rfl isAgg132 sizeOf132 rfl rfl (qey hlen0) (Blks.cells (shMem (by rw [hl0]; exact hg0)))) ?_
      refine Jp.y 52 rfl (qaa rfl) rfl rfl Kp.true (Y.qan rfl rfl) ?_
      refine Jp.qcb 7 rfl (qaa rfl) rfl rfl sizeOf132 rfl rfl (shCells_one p0) (qey hlen0) rfl rfl (fun k _ _=>qas k) Kp.true ?_
      refine Jp.imp (j:=7) (A:=Pt b7 (.cells (spl (qbb ⟨zeroB,0⟩).toArray 0 (qbb p0)) 132)) (A':=Pt b7 (qdf (pgB nb))) rfl (fun h hh=>by rw [shSpl_full (by rw [qey hlen0]; exact (qey qda).symm)] at hh; rw [hp0]; exact hh) ?_
      refine Jp.qae hK26 ?_
      exact Cd.qcz (hj3 () trivial) ⟨rfl,rfl,rfl,rfl,rfl,rfl,rfl,rfl,rfl,trivial⟩ ⟨rfl,rfl,rfl,rfl,rfl,rfl,rfl,trivial⟩
     ·have hg0 : qao l0 k = none:=by cases h : qao l0 k with
       | none=>rfl
       | some p=>rw [h] at g0; simp at g0
      refine Cd.qbu hK26 ?_
      refine Cd.imp (i:=7) rfl (fun h hh=>(show Pt b7 (qdf (pgB nb)) h by rw [hnb0,pgB_none hg0]; exact hh)) ?_
      exact Cd.qcz (hj3 () trivial) ⟨rfl,rfl,rfl,rfl,rfl,rfl,rfl,rfl,rfl,trivial⟩ ⟨rfl,rfl,rfl,rfl,rfl,rfl,rfl,trivial⟩
   ·obtain ⟨p,hgn⟩ : ∃ p,qao now k = some p:=by cases h : qao now k with
     | none=>rw [h] at gn; cases gn
     | some p=>exact ⟨p,rfl⟩
    have hpp : p = pgB nb:=by
     have:=hnow.cnt _ (qbc hgn)
     rw [← hnb,nowB,hgn]
     obtain ⟨pb,pq⟩:=p
     unfold pgB
     dsimp only at this ⊢
     rw [this]
    rw [hgn]
    refine Cd.qbu hK23 ?_
    exact Cd.qcz (hj2 ⟨now,blk⟩ (by show now = qds now k (pgB nb); rw [qds,hgn,← hpp]; exact (setPg_same hnow.nodup hgn).symm)) ⟨rfl,rfl,rfl,rfl,rfl,rfl,rfl,rfl,rfl,trivial⟩ ⟨rfl,rfl,rfl,rfl,rfl,rfl,trivial⟩
end Go.Proofs.YtnfkalpgidiafaaGreat

namespace Go.Proofs.YtnfkalpgidiafaaGreat
open _root_.Go.Proofs.Tryz
open Go
theorem setFn_spec (cb : Nat) (s : Sl UInt8) (i : Nat) (v : UInt8) (hv : s.xs[i]? = some v) : Spec Tryz.prog 27 #[.int .i64 (i : Int),.pointer (some ⟨cb,0,none⟩)] (RdB s) [(0,Pt cb (.cells #[s.v] 23))]
  (fun ρ ρ' r L=>ρ' = ρ ∧ r = .int .u8 (v.toNat : Int) ∧ L = [(0,Pt cb (.cells #[s.v] 23))]):=by
 obtain ⟨A,c,xs⟩:=s
 dsimp only [Sl.v]
 refine Spec.of 8 Tryz.func27 rfl Tryz.ntmps27 [(0,_),(1,_)] rfl rfl ?_
 intro cx ρ hr h0
 have hi : i < xs.length:=(List.getElem?_eq_some_iff.1 hv).1
 obtain ⟨ad,hA,hc⟩:=RdB.cell hr hv
 have hA : A = some ad:=hA
 subst hA
 refine Cd.seq fun K1 hK1=>?_
 refine Cd.qac [(0,false)] rfl rfl ?_
 refine Jp.y 3 rfl (qaa rfl) rfl rfl Kp.true (Y.assign rfl rfl) ?_
 refine Jp.qae hK1 ?_
 refine Cd.seq fun K2 hK2=>?_
 refine Cd.qac [(0,false),(1,false),(2,false),(3,false),(4,false)] rfl rfl ?_
 refine Jp.y 4 rfl (qaa rfl) rfl rfl Kp.true (Y.qau 0 rfl isAgg23 rfl rfl rfl) ?_
 refine Jp.y 5 rfl (qaa rfl) rfl rfl Kp.true (Y.move rfl rfl) ?_
 refine Jp.y 6 rfl (qaa rfl) rfl rfl Kp.true (Y.qbr (q:=i) rfl rfl rfl underlying23 sizeOf5 (by omega) (by omega) (by omega)) ?_
 refine Jp.y 7 rfl (qaa rfl) rfl rfl Kp.true (Y.loadR rfl isAgg5 rfl hc) ?_
 refine Jp.y 3 rfl (qaa rfl) rfl rfl Kp.true (Y.assign rfl rfl) ?_
 refine Jp.qae hK2 ?_
 refine Cd.ret [(0,_)] rfl (qbd rfl rfl) ⟨rfl,trivial⟩ ⟨rfl,rfl,rfl⟩
theorem shSet_spec (b : Nat) (S : ShG) (a : Nat) (s : Sl UInt8) (ha : a < 4294967296) (hl : s.xs.length ≤ 1048576) : Spec Tryz.prog 10 #[.pointer (some ⟨b,0,none⟩),.int .u32 a,s.v] (RdB s) [(0,ShO b S)]
  (fun ρ ρ' r L=>ρ' = ρ ∧ r = .int .i64 (setM S a s.xs).1 ∧ L = [(0,ShO b (setM S a s.xs).2)]):=by
 obtain ⟨A,c,xs⟩:=s
 dsimp only [Sl.v] at hl ⊢
 refine Spec.of 13 Tryz.func10 rfl Tryz.ntmps10 [(0,_),(1,_),(2,_)] rfl rfl ?_
 intro cx ρ hr h0
 refine Cd.seq fun K3 hK3=>?_
 refine Cd.qac [(0,false),(1,false)] rfl rfl ?_
 refine Jp.box 5 5 rfl (qaa rfl) rfl rfl rfl rfl fun b5=>⟨Kp.true,?_⟩
 refine Jp.y 6 rfl (qaa rfl) rfl rfl Kp.true (Y.assign rfl rfl) ?_
 refine Jp.qae hK3 ?_
 refine Cd.seq fun K4 hK4=>?_
 refine Cd.qac [(0,false),(1,false),(2,false),(3,false),(4,false),(5,false),(6,false)] rfl rfl ?_
 refine Jp.y 7 rfl (qaa rfl) rfl rfl Kp.true (Y.move rfl rfl) ?_
 refine Jp.y 8 rfl (qaa rfl) rfl rfl Kp.true (Y.move rfl rfl) ?_
 refine Jp.y 9 rfl (qaa rfl) rfl rfl Kp.true (Y.qau 5 rfl isAgg23 rfl rfl rfl) ?_
 refine Jp.y 10 rfl (qaa rfl) rfl rfl Kp.true (Y.qbq rfl underlying23 rfl) ?_
 refine Jp.y 11 rfl (qaa rfl) rfl rfl Kp.true (Y.makeFunc rfl rfl) ?_
 have hlay := shLay_spec b S a (xs.length : Int) (xs.take (4294967296 - a)) 27 [.pointer (some ⟨b5, 0, none⟩)] (RdB ⟨A, c, xs⟩) (Pt b5 (.cells #[.slice A xs.length c] 23)) ha (by omega) (by rw [List.length_take]; omega) (by rw [List.length_take]; omega) call27 (fun i v hv => setFn_spec b5 ⟨A, c, xs⟩ i v (by
  have:=hv
  rw [List.getElem?_take] at this
  split at this
  ·exact this
  ·cases this))
 refine Jp.call [0,5] [0,5] hlay 12 rfl (qaa rfl) rfl rfl (Runs.fn rfl call26 rfl) (by decide) (by decide) rfl hr ?_
 rintro v1 ρ1 L1 ⟨rfl,rfl,rfl⟩
 refine ⟨rfl,fun hle1=>⟨Kp.true,?_⟩⟩
 refine Jp.y 6 rfl (qaa rfl) rfl rfl Kp.true (Y.assign rfl rfl) ?_
 refine Jp.qae hK4 ?_
 refine Cd.ret [(0,_)] rfl (qbd rfl rfl) ⟨rfl,trivial⟩ ⟨rfl,rfl,rfl⟩
theorem shPutN_spec (b : Nat) (S : ShG) (a : Nat) (size : Int) (t : qal) (ha : a < 4294967296) (ht : t.length = 4) : Spec Tryz.prog 43 #[.pointer (some ⟨b,0,none⟩),.int .u32 a,.int .i64 size,.agg (qaf t).toArray] (fun _=>True) [(0,ShO b S)]
  (fun ρ ρ' r L=>r = .int .i64 (putM S a size t).1 ∧ L = [(0,ShO b (putM S a size t).2)]):=by
 refine Spec.of 15 Tryz.func43 rfl Tryz.ntmps43 [(0,_),(1,_),(2,_),(3,_)] rfl rfl ?_
 intro cx ρ hr h0
 have hsz : sizedP size ≤ 4:=by unfold sizedP; split <;> omega
 refine Cd.seq fun K5 hK5=>?_
 refine Cd.qac [(0,false),(1,false)] rfl rfl ?_
 refine Jp.box 5 7 rfl (qaa rfl) rfl rfl rfl rfl fun b5=>⟨Kp.true,?_⟩
 refine Jp.y 8 rfl (qaa rfl) rfl rfl Kp.true (Y.assign rfl rfl) ?_
 refine Jp.qae hK5 ?_
 refine Cd.seq fun K6 hK6=>?_
 refine Cd.qac [(0,false),(1,false),(2,false),(3,false),(4,false),(5,false),(6,false)] rfl rfl ?_
 refine Jp.y 9 rfl (qaa rfl) rfl rfl Kp.true (Y.move rfl rfl) ?_
 refine Jp.y 10 rfl (qaa rfl) rfl rfl Kp.true (Y.move rfl rfl) ?_
 refine Jp.y 11 rfl (qaa rfl) rfl rfl Kp.true (Y.move rfl rfl) ?_
 refine Jp.call [] [] (shSized_spec size) 12 rfl (qaa rfl) rfl rfl (Runs.fn rfl call78 rfl) (by decide) (by decide) rfl trivial ?_
 rintro v1 ρ1 L1 ⟨rfl,rfl,rfl⟩
 refine ⟨rfl,fun hle1=>⟨Kp.true,?_⟩⟩
 obtain ⟨z,hz⟩ : ∃ z,sizedP size = z:=⟨_,rfl⟩
 have hpm : putM S a size t = setM S a (t.take z):=by rw [putM,hz]
 rw [hz] at hsz ⊢
 refine Jp.y 13 rfl (qaa rfl) rfl rfl Kp.true (Y.sliceArrTo (hi:=z) rfl rfl rfl underlying40 sizeOf5 (by omega) (by omega)) ?_
 refine Jp.freeze (i:=5) (A:=Pt b5 (.cells (qaf t).toArray 40)) rfl (Pt.up _ _) fun ρ5 hle5 hA5=>?_
 have hlt : (t.take z).length = z:=by rw [List.length_take]; omega
 have hrd : RdB ⟨some ⟨b5,0,none⟩,4,t.take (z)⟩ ρ5:=by
  refine ⟨by simp [qaf],⟨by show (t.take (z)).length ≤ 4; omega,by show (t.take (z)).length ≤ _; omega⟩,fun j v hj=>⟨_,rfl,?_⟩⟩
  rw [qcy]
  have hA5 : ρ5 b5 = some (.cells (qaf t).toArray 40):=hA5
  have hj2 : (qaf t)[j]? = some v:=by
   have h1 : (qaf (t.take (z)))[j]? = some v:=hj
   unfold qaf at h1 ⊢
   rw [List.map_take,List.getElem?_take] at h1
   split at h1
   ·exact h1
   ·cases h1
  simp [qed,hA5,hj2]
 have hS:=shSet_spec b S a ⟨some ⟨b5,0,none⟩,4,t.take (z)⟩ ha (by show (t.take (z)).length ≤ _; omega)
 unfold Sl.v at hS
 dsimp only at hS
 rw [hlt] at hS
 refine Jp.call [0] [0] hS 14 rfl (qaa rfl) rfl rfl (Runs.fn rfl call10 rfl) (by decide) (by decide) rfl hrd ?_
 rintro v2 ρ2 L2 ⟨rfl,rfl,rfl⟩
 refine ⟨rfl,fun hle2=>⟨Kp.true,?_⟩⟩
 refine Jp.y 8 rfl (qaa rfl) rfl rfl Kp.true (Y.assign rfl rfl) ?_
 refine Jp.qae hK6 ?_
 refine Cd.ret [(0,_)] rfl (qbd rfl rfl) ⟨rfl,trivial⟩ ⟨by rw [hpm],by rw [hpm]⟩
theorem shNew_spec (budget : Int) : Spec Tryz.prog 7 #[.int .i64 budget] (fun _=>True) []
  (fun ρ ρ' v L=>ρ' = ρ ∧ if 0 ≤ budget ∧ budget ≤ 4096 then ∃ b,v = .tuple #[.pointer (some ⟨b,0,none⟩),.int .i64 0] ∧ L = [(0,ShO b ⟨budget.toNat,[]⟩)] else v = .tuple #[.pointer none,.int .i64 1] ∧ L = []):=by
 refine Spec.of 14 Tryz.func7 rfl Tryz.ntmps7 [(0,_)] rfl rfl ?_
 intro cx ρ hr h0
 refine Cd.seq fun K7 hK7=>?_
 refine Cd.qac [(0,false),(1,false)] rfl rfl ?_
 refine Jp.y 2 rfl (qaa rfl) rfl rfl Kp.true (Y.assign rfl rfl) ?_
 refine Jp.y 3 rfl (qaa rfl) rfl rfl Kp.true (Y.assign rfl rfl) ?_
 refine Jp.qae hK7 ?_
 refine Cd.seq fun K8 hK8=>?_
 refine Cd.seq fun K9 hK9=>?_
 refine Cd.qac [(0,false),(1,false),(2,false),(3,false),(4,false),(5,false)] rfl rfl ?_
 refine Jp.y 4 rfl (qaa rfl) rfl rfl Kp.true (Y.move rfl rfl) ?_
 refine Jp.y 5 rfl (qaa rfl) rfl rfl Kp.true (Y.lss rfl rfl rfl) ?_
 refine Jp.y 6 rfl (qaa rfl) rfl rfl Kp.true (Y.move rfl rfl) ?_
 refine Jp.split 6 rfl (fun g6=>?_) (fun g6=>?_)
 ·skip
  try simp only [sG0] at g6
  refine Jp.qaq 7 rfl (qab rfl rfl rfl rfl) rfl rfl Kp.true ?_
  refine Jp.qaq 8 rfl (qab rfl rfl rfl rfl) rfl rfl Kp.true ?_
  refine Jp.y 9 rfl (qaa rfl) rfl rfl Kp.true (Y.qav rfl rfl rfl) ?_
  refine Jp.qae hK9 ?_
  refine Cd.qcw rfl ?_
  refine Cd.seq fun K10 hK10=>?_
  refine Cd.qac [(0,false),(1,false)] rfl rfl ?_
  refine Jp.y 2 rfl (qaa rfl) rfl rfl Kp.true (Y.assign rfl rfl) ?_
  refine Jp.y 3 rfl (qaa rfl) rfl rfl Kp.true (Y.assign rfl rfl) ?_
  refine Jp.qae hK10 ?_
  refine Cd.ret [] rfl (qbx rfl rfl rfl) trivial ⟨rfl,?_⟩
  rw [if_neg (by omega)]
  exact ⟨rfl,rfl⟩
 try simp only [sG0] at g6
 refine Jp.y 7 rfl (qab rfl rfl rfl rfl) rfl rfl Kp.true (Y.move rfl rfl) ?_
 refine Jp.y 8 rfl (qab rfl rfl rfl rfl) rfl rfl Kp.true (Y.gtr rfl rfl rfl) ?_
 refine Jp.y 9 rfl (qaa rfl) rfl rfl Kp.true (Y.qay rfl rfl rfl) ?_
 refine Jp.qae hK9 ?_
 refine Cd.qar rfl (fun g9=>?_) (fun g9=>?_)
 ·skip
  try simp only [sG0] at g9
  refine Cd.seq fun K11 hK11=>?_
  refine Cd.qac [(0,false),(1,false)] rfl rfl ?_
  refine Jp.y 2 rfl (qaa rfl) rfl rfl Kp.true (Y.assign rfl rfl) ?_
  refine Jp.y 3 rfl (qaa rfl) rfl rfl Kp.true (Y.assign rfl rfl) ?_
  refine Jp.qae hK11 ?_
  refine Cd.ret [] rfl (qbx rfl rfl rfl) trivial ⟨rfl,?_⟩
  rw [if_neg (by omega)]
  exact ⟨rfl,rfl⟩
 try simp only [sG0] at g9
 refine Cd.qbu hK8 ?_
 refine Cd.seq fun K12 hK12=>?_
 refine Cd.qac [(0,false),(1,false),(2,false),(3,false),(4,false),(5,false)] rfl rfl ?_
 refine Jp.y 10 rfl (qaa rfl) rfl rfl Kp.true (Y.move rfl rfl) ?_
 refine Jp.makeMap 11 1 .u32 rfl (qaa rfl) rfl rfl rfl fun b1=>⟨Kp.true,?_⟩
 refine Jp.y 12 rfl (qaa rfl) rfl rfl Kp.true (Y.struct [(0,_),(1,_)] [_,_] rfl rfl places67 zeroValue67 rfl) ?_
 refine Jp.box 0 13 rfl (qaa rfl) rfl rfl rfl rfl fun b0=>⟨Kp.true,?_⟩
 refine Jp.y 2 rfl (qaa rfl) rfl rfl Kp.true (Y.assign rfl rfl) ?_
 refine Jp.y 3 rfl (qaa rfl) rfl rfl Kp.true (Y.assign rfl rfl) ?_
 refine Jp.qae hK12 ?_
 obtain ⟨m,rfl⟩:=Int.eq_ofNat_of_zero_le (show 0 ≤ budget by omega)
 refine Cd.make 2 Blks.nil ?_
 refine Cd.shClose (S:=⟨m,[]⟩) (x:=⟨b1,[],fun _=>0⟩) 0 1 2 (by decide) ⟨⟨List.Pairwise.nil,fun x h=>(List.not_mem_nil h).elim⟩,Nat.zero_le _,(by show m ≤ 4096; omega),List.Perm.refl _⟩ rfl rfl rfl ?_
 refine Cd.ret [(0,_)] rfl (qbx rfl rfl rfl) ⟨rfl,trivial⟩ ⟨rfl,?_⟩
 rw [if_pos (by omega)]
 exact ⟨b0,rfl,rfl⟩
theorem tagM_len (S : ShG) (a : Nat) (size : Int) : (tagM S a size).length = 4:=by simp [tagM]
def tagTo (S : ShG) (a i : Nat) : qal:=(List.range 4).map fun j=>if j < i then labL S.pages (a + j) else 0
theorem tagTo_set (S : ShG) (a i : Nat) (hi : i < 4) : (qaf (tagTo S a i)).toArray.setIfInBounds i (.int .u8 ((labL S.pages (a + i)).toNat : Int)) = (qaf (tagTo S a (i + 1))).toArray:=by
 rw [List.setIfInBounds_toArray]
 congr 1
 apply List.ext_getElem?
 intro j
 unfold qaf tagTo
 rw [List.map_map,List.map_map,List.getElem?_set,List.length_map,List.length_range,List.getElem?_map,List.getElem?_map]
 by_cases hj : i = j
 ·subst hj
  rw [if_pos rfl,if_pos hi,List.getElem?_range hi]
  simp
 ·rw [if_neg hj]
  by_cases h4 : j < 4
  ·rw [List.getElem?_range h4]
   simp only [Option.map_some,Function.comp]
   by_cases h5 : j < i
   ·rw [if_pos h5,if_pos (by omega)]
   ·rw [if_neg h5,if_neg (by omega)]
  ·rw [List.getElem?_eq_none (by rw [List.length_range]; omega)]; rfl
theorem shTag_spec (b : Nat) (S : ShG) (a : Nat) (size : Int) (ha : a < 4294967296) : Spec Tryz.prog 48 #[.pointer (some ⟨b, 0, none⟩), .int .u32 a, .int .i64 size] (fun _ => True) [(0, ShO b S)]
    (fun ρ ρ' v L => ρ' = ρ ∧ v = .agg (qaf (tagM S a size)).toArray ∧ L = [(0, ShO b S)]) := by
  refine Spec.of 30 Tryz.func48 rfl Tryz.ntmps48 [(0, _), (1, _), (2, _)] rfl rfl ?_
  intro cx ρ hr h0
  have hsz : sizedP size ≤ 4 := by unfold sizedP; split <;> omega
  obtain ⟨m, hm⟩ : ∃ m, min (sizedP size) (4294967296 - a) = m := ⟨_, rfl⟩
  have hend : endN a (sizedP size : Int) = a + m := by unfold endN; omega
  have hE := shEnd_spec a (sizedP size : Int) ha (by omega)
  rw [hend] at hE
  refine Cd.seq fun K13 hK13 => ?_
  refine Cd.qac [(0, false)] rfl rfl ?_
  refine Jp.alloc 6 6 rfl (qaa rfl) rfl rfl rfl zeroValue40 fun b6 => ⟨Kp.true, ?_⟩
  refine Jp.qae hK13 ?_
  refine Cd.seq fun K14 hK14 => ?_
  refine Cd.qac [(0, false)] rfl rfl ?_
  refine Jp.alloc 7 7 rfl (qaa rfl) rfl rfl rfl zeroValue40 fun b7 => ⟨Kp.true, ?_⟩
  refine Jp.qae hK14 ?_
  refine Cd.seq fun K15 hK15 => ?_
  refine Cd.seq fun K16 hK16 => ?_
  refine Cd.qac [(0, false), (1, false), (2, false), (3, false), (4, false), (5, false), (6, false), (7, false), (8, false)] rfl rfl ?_
  refine Jp.y 9 rfl (qaa rfl) rfl rfl Kp.true (Y.move rfl rfl) ?_
  refine Jp.y 10 rfl (qaa rfl) rfl rfl Kp.true (Y.move rfl rfl) ?_
  refine Jp.call [] [] (shSized_spec size) 11 rfl (qaa rfl) rfl rfl (Runs.fn rfl call78 rfl) (by decide) (by decide) rfl trivial ?_
  rintro v1 ρ1 L1 ⟨rfl, rfl, rfl⟩
  refine ⟨rfl, fun hle1 => ⟨Kp.true, ?_⟩⟩
  refine Jp.call [] [] hE 12 rfl (qaa rfl) rfl rfl (Runs.fn rfl call55 rfl) (by decide) (by decide) rfl trivial ?_
  rintro v2 ρ2 L2 ⟨rfl, rfl, rfl⟩
  refine ⟨rfl, fun hle2 => ⟨Kp.true, ?_⟩⟩
  refine Jp.imp (j := 7) rfl (fun h hh => (show Pt b7 (.cells (qaf (tagTo S a 0)).toArray 40) h from hh)) ?_
  refine Jp.y 13 rfl (qaa rfl) rfl rfl Kp.true (Y.move rfl rfl) ?_
  refine Jp.y 14 rfl (qaa rfl) rfl rfl Kp.true (Y.qaw rfl rfl underlying24 underlying103 (by exact qbh (by omega) (by omega))) ?_
  refine Jp.y 15 rfl (qaa rfl) rfl rfl Kp.true (Y.qfm rfl rfl rfl (by exact qbh (by omega) (by omega))) ?_
  refine Jp.y 16 rfl (qaa rfl) rfl rfl Kp.true (Y.qaw rfl rfl underlying103 underlying3 (by exact qaj (by omega) (by omega))) ?_
  refine Jp.slot 16 rfl (show _ = Value.int .i64 (m : Int) from congrArg (Value.int .i64) (by omega)) ?_
  refine Jp.y 17 rfl (qaa rfl) rfl rfl Kp.true (Y.move rfl rfl) ?_
  refine Jp.qae hK16 ?_
  refine Cd.block ?_
  refine Cd.qdv (G := Nat) (fun i => i ≤ m) (fun i => m - i) (fun _ => _) (fun i => [(17, .int .i64 (i : Int))]) [(0, _), (1, _), (6, _), (7, _), (16, _)] (fun i => [(7, Pt b7 (.cells (qaf (tagTo S a i)).toArray 40))]) [(0, _), (6, _)] 0 (Nat.zero_le _) rfl ⟨rfl, trivial⟩ ⟨rfl, rfl, rfl, rfl, rfl, trivial⟩ ⟨rfl, trivial⟩ ⟨rfl, rfl, trivial⟩ (fun g KLa hok hLa => ?_)
  obtain ⟨i, hi⟩ : ∃ i, i = g := ⟨_, rfl⟩
  rw [← hi] at hok ⊢
  refine Cd.seq fun K17 hK17 => ?_
  refine Cd.qac [(0, false)] rfl rfl ?_
  refine Jp.y 18 rfl (qaa rfl) rfl rfl Kp.true (Y.lss rfl rfl rfl) ?_
  refine Jp.qae hK17 ?_
  refine Cd.seq fun K18 hK18 => ?_
  refine Cd.qar rfl (fun ga => ?_) (fun ga => ?_)
  · have him : i < m := by simpa using ga
    refine Cd.qbu hK18 ?_
    refine Cd.seq fun K19 hK19 => ?_
    refine Cd.block ?_
    refine Cd.seq fun K20 hK20 => ?_
    refine Cd.qac [(0, false), (1, false)] rfl rfl ?_
    refine Jp.y 19 rfl (qaa rfl) rfl rfl Kp.true (Y.move rfl rfl) ?_
    refine Jp.y 8 rfl (qaa rfl) rfl rfl Kp.true (Y.assign rfl rfl) ?_
    refine Jp.qae hK20 ?_
    refine Cd.qac [(0, false), (1, false), (2, false), (3, false), (4, false), (5, false), (6, false), (7, false), (8, false)] rfl rfl ?_
    refine Jp.y 20 rfl (qaa rfl) rfl rfl Kp.true (Y.move rfl rfl) ?_
    refine Jp.y 21 rfl (qaa rfl) rfl rfl Kp.true (Y.move rfl rfl) ?_
    refine Jp.y 22 rfl (qaa rfl) rfl rfl Kp.true (Y.move rfl rfl) ?_
    refine Jp.y 23 rfl (qaa rfl) rfl rfl Kp.true (Y.move rfl rfl) ?_
    refine Jp.y 24 rfl (qaa rfl) rfl rfl Kp.true (Y.qaw rfl rfl underlying3 underlying24 (by exact qba (by omega) (by omega))) ?_
    refine Jp.y 25 rfl (qaa rfl) rfl rfl Kp.true (Y.qcj rfl rfl rfl (by exact qba (by omega) (by omega))) ?_
    refine Jp.slot 25 rfl (show _ = Value.int .u32 ((a + i : Nat) : Int) from congrArg (Value.int .u32) (by omega)) ?_
    refine Jp.call [0] [0] (shAt_spec b S (a + i) (by omega)) 26 rfl (qaa rfl) rfl rfl (Runs.fn rfl call80 rfl) (by decide) (by decide) rfl trivial ?_
    rintro v3 ρ3 L3 ⟨rfl, rfl, rfl⟩
    refine ⟨rfl, fun hle3 => ⟨Kp.true, ?_⟩⟩
    refine Jp.y 27 rfl (qaa rfl) rfl rfl Kp.true (Y.qam (q := i) rfl rfl rfl underlying40 sizeOf5 (by omega) (by omega) (by omega)) ?_
    refine Jp.qct 7 (Pt b7 (.cells (qaf (tagTo S a (i + 1))).toArray 40)) rfl (qaa rfl) rfl rfl sizeOf5 rfl rfl rfl rfl rfl (SetC.pt (by simp [qaf, tagTo]; omega) (qas _) (tagTo_set S a i (by omega))) Kp.true ?_
    refine Jp.over rfl hK19 ?_
    refine Cd.qac [(0, false), (1, false)] rfl rfl ?_
    refine Jp.y 28 rfl (qaa rfl) rfl rfl Kp.true (Y.qcj rfl rfl rfl (by exact qaj (by omega) (by omega))) ?_
    refine Jp.y 17 rfl (qaa rfl) rfl rfl Kp.true (Y.move rfl rfl) ?_
    rw [show (i : Int) + 1 = ((i + 1 : Nat) : Int) by omega]
    refine Jp.again hLa (i + 1) (by omega) (by omega) rfl ⟨rfl, rfl, rfl, rfl, rfl, rfl, trivial⟩ ⟨rfl, rfl, rfl, trivial⟩
  · have him : i = m := by have : ¬ i < m := by simpa using ga
                           omega
    have he : tagTo S a i = tagM S a size := by
      unfold tagTo tagM
      refine List.map_congr_left fun j hj => ?_
      have := List.mem_range.1 hj
      by_cases h1 : j < i
      · rw [if_pos h1, if_pos (by omega)]
      · rw [if_neg h1, if_neg (by omega)]
    refine Cd.exit rfl hK15 ?_
    refine Cd.seq fun K21 hK21 => ?_
    refine Cd.qac [(0, false), (1, false)] rfl rfl ?_
    refine Jp.y 29 rfl (qaa rfl) rfl rfl Kp.true (by exact Y.qah 7 rfl isAgg40 sizeOf40 rfl rfl rfl) ?_
    refine Jp.qcb 6 rfl (qaa rfl) rfl rfl sizeOf40 rfl rfl rfl rfl rfl rfl (fun k _ _ => qas k) Kp.true ?_
    refine Jp.qae hK21 ?_
    refine Cd.ret [(0, _)] rfl (by exact qfb 6 rfl rfl isAgg40 sizeOf40 rfl rfl) ⟨rfl, trivial⟩ ⟨rfl, by rw [← he]; rfl, rfl⟩
end Go.Proofs.YtnfkalpgidiafaaGreat

namespace Go.Proofs.YtnfkalpgidiafaaGreat
open Go
inductive PT where
 | nil : PT
 | q (i : Nat) (t : PT) : PT
 | l (i : Nat) (t : PT) : PT
 | f (i : Nat) (tA : PT) (j : Nat) (tB : PT) : PT
def PT.len : PT → Nat
 | .nil=>0
 | .q _ t=>t.len + 1
 | .l _ t=>t.len + 1
 | .f _ tA _ _=>tA.len + 1
def PT.isNil : PT → Bool
 | .nil=>true
 | _=>false
def PT.last (x : Nat) : PT → Bool
 | .nil=>true
 | .q _ t=>t.last x
 | .l i t=>(!t.isNil || i == x) && t.last x
 | .f _ tA _ tB=>!tA.isNil && !tB.isNil && tA.last x && tB.last x
def okPT (ops : Array Oper) : PT → Array Bool → Bool
 | .nil,listed=>(Region.ready .any ops listed).isEmpty
 | .q i t,listed=>Region.free .any ops listed i && (Region.ready .any ops listed).contains i && okPT ops t (listed.setIfInBounds i true)
 | .l i t,listed=>(Region.ready .any ops listed == [i]) && okPT ops t (listed.setIfInBounds i true)
 | .f i tA j tB,listed=>(Region.ready .any ops listed == [i,j]) && (tA.len == tB.len) && okPT ops tA (listed.setIfInBounds i true) && okPT ops tB (listed.setIfInBounds j true)
def okRegionT (ops : Array Oper) (x : Nat) (t : PT) : Bool :=
 Region.noSelect ops && (t.len == ops.size) && qdu ops x && t.last x && okPT ops t (Array.replicate ops.size false)
def wpPT (P : Program) (ops : Array Oper) (N : Act → World → Prop) : (World → Prop) → PT → Act → World → Prop
 | _,.nil,a,w=>N a w
 | S,.q i t,a,w=>∃ S' : World → Prop,(∀ w,S' w → S w) ∧ (S w → S' w) ∧ ∃ o v,ops[i]? = some o ∧ YieldsIf P ops S' o v a ∧ wpPT P ops N S' t (a.put o.dst v) w
 | S,.l i t,a,w=>wpOp P ops (Qn N) i (fun a' w'=>(t = .nil ∨ S w') ∧ wpPT P ops N S t a' w') a w
 | S,.f i tA j tB,a,w=>wpOp P ops (Qn N) i (fun a' w'=>(tA = .nil ∨ S w') ∧ wpPT P ops N S tA a' w') a w ∧ wpOp P ops (Qn N) j (fun a' w'=>(tB = .nil ∨ S w') ∧ wpPT P ops N S tB a' w') a w
theorem PT.notNil {t : PT} (h : (!t.isNil) = true) : t ≠ .nil:=fun e=>by subst e; cases h
section
variable {P : Program} {ops : Array Oper} {N : Act → World → Prop}
theorem pt_sound (hs : Region.noSelect ops = true) {x : Nat} (hx : qdu ops x = true) : ∀ (t : PT) (S : World → Prop) (listed : Array Bool) (a : Act) (w : World),t.last x = true → Closed ops listed →
  okPT ops t listed = true → (t = .nil ∨ S w) → wpPT P ops N S t a w → wpL P ops (Qn N) S x t.len listed a w:=by
 intro t
 induction t with
 | nil =>
  intro S listed a w _ _ h _ hw
  exact ⟨by simpa [okPT] using h,hw⟩
 | q i t ih =>
  intro S listed a w hl hc h hS hw
  have hSw : S w:=by
   rcases hS with q | q
   ·cases q
   ·exact q
  simp only [okPT,Bool.and_eq_true] at h
  obtain ⟨S',hm,hSw',o,v,ho,hy,hk⟩:=hw
  have hSw':=hSw' hSw
  have hmem : i ∈ Region.ready .any ops listed:=by simpa using h.1.2
  exact wpL_mono hm _ _ _ _ (wpL_first ho hs hx (fun c a w hc=>hc.elim) _ _ _ _ hc (Region.free_spec ho h.1.1) hmem hy hSw' (ih S' _ _ _ hl (hc.set hmem) h.2 (.inr hSw') hk))
 | l i t ih =>
  intro S listed a w hl hc h hS hw
  simp only [okPT,Bool.and_eq_true,beq_iff_eq] at h
  simp only [PT.last,Bool.and_eq_true] at hl
  refine ⟨fun h0=>?_,fun j hj=>?_⟩
  ·rw [h.1] at h0; cases h0
  have hc':=hc.set hj
  rw [h.1] at hj
  simp at hj
  subst hj
  refine wpOp_mono (fun a' w' h'=>⟨?_,ih S _ _ _ hl.2 hc' h.2 h'.1 h'.2⟩) hw
  rcases h'.1 with q | q
  ·left
   have:=hl.1
   subst q
   simpa [PT.isNil] using this
  ·exact .inr q
 | f i tA j tB ihA ihB =>
  intro S listed a w hl hc h hS hw
  simp only [okPT,Bool.and_eq_true,beq_iff_eq] at h
  simp only [PT.last,Bool.and_eq_true] at hl
  obtain ⟨⟨⟨hr,hlen⟩,hokA⟩,hokB⟩:=h
  obtain ⟨⟨⟨nA,nB⟩,lA⟩,lB⟩:=hl
  refine ⟨fun h0=>?_,fun k hk=>?_⟩
  ·rw [hr] at h0; cases h0
  have hc':=hc.set hk
  rw [hr] at hk
  simp only [List.mem_cons,List.not_mem_nil,or_false] at hk
  rcases hk with rfl | rfl
  ·refine wpOp_mono (fun a' w' h'=>⟨?_,ihA S _ _ _ lA hc' hokA h'.1 h'.2⟩) hw.1
   rcases h'.1 with q | q
   ·exact absurd q (PT.notNil nA)
   ·exact .inr q
  ·refine wpOp_mono (fun a' w' h'=>⟨?_,?_⟩) hw.2
   ·rcases h'.1 with q | q
    ·exact absurd q (PT.notNil nB)
    ·exact .inr q
   ·show wpL P ops (Qn N) S x tA.len _ _ _
    rw [hlen]; exact ihB S _ _ _ lB hc' hokB h'.1 h'.2
end
def JT (P : Program) (ops : Array Oper) (Q : Exit → Act → World → Prop) (S : World → Prop) (n : Nat) (cx : Cx) (t : PT) (ρ : Hp) (E : Env) (L : Own) : Prop :=
 ∀ a w,At n E a → St cx ρ L w → wpPT P ops (Q .normal) S t a w
def tailT (P : Program) (ops : Array Oper) (Q : Exit → Act → World → Prop) (S : World → Prop) (t : PT) : Exit → Act → World → Prop
 | .normal,a,w=>(t = .nil ∨ S w) ∧ wpPT P ops (Q .normal) S t a w
 | _,_,_=>False
section
variable {P : Program} {Q : Exit → Act → World → Prop} {n : Nat} {cx : Cx} {ρ ρs : Hp} {E : Env} {L Ls : Own} {ops : Array Oper} {S : World → Prop} {t tA tB : PT} {i j : Nat} {o : Oper} {v : Value}
theorem JT.q (d : Nat) (hi : nth ops.toList i = some o) (hw : qgl n ops E o true) (he : o.dst = some d) (hd : Nat.blt d n = true) (hy : Y P n cx ρs E Ls o v)
  (h : JT P ops Q (fun w=>St cx ρs Ls w) n cx t ρ ((d,v) :: E) L) : JT P ops Q (fun w=>St cx ρs Ls w) n cx (.q i t) ρ E L :=
 fun a w ha hs=>⟨_,fun _ h=>h,id,o,v,qbj hi,.inl ⟨hw a ha,fun w' h'=>hy a w' ha h'⟩,h _ _ (ha.put' he hd v) hs⟩
theorem JT.qskip (d : Nat) (hi : nth ops.toList i = some o) (hw : qgl n ops E o false) (he : o.dst = some d) (hd : Nat.blt d n = true)
  (h : JT P ops Q S n cx t ρ ((d,undef) :: E) L) : JT P ops Q S n cx (.q i t) ρ E L :=
 fun a w ha hs=>⟨S,fun _ h=>h,id,o,undef,qbj hi,.inr ⟨hw a ha,rfl⟩,h _ _ (ha.put' he hd undef) hs⟩
theorem loudT (h : Jp P ops (tailT P ops Q S t) (fun _=>True) n cx [(i,false)] ρ E L) : ∀ a w,At n E a → St cx ρ L w → wpOp P ops (Qn (Q .normal)) i (fun a' w'=>(t = .nil ∨ S w') ∧ wpPT P ops (Q .normal) S t a' w') a w:=fun a w ha hs =>
 wpOp_mono (K:=fun a' w'=>([] = ([] : List (Nat × Bool)) ∨ True) ∧ ((t = .nil ∨ S w') ∧ wpPT P ops (Q .normal) S t a' w')) (fun a' w' h'=>h'.2) (wpOp_qn (h a w ha hs))
theorem JT.loud (h : Jp P ops (tailT P ops Q S t) (fun _=>True) n cx [(i,false)] ρ E L) : JT P ops Q S n cx (.l i t) ρ E L:=loudT h
theorem JT.fork (hA : JT P ops Q S n cx (.l i tA) ρ E L) (hB : JT P ops Q S n cx (.l j tB) ρ E L) : JT P ops Q S n cx (.f i tA j tB) ρ E L:=fun a w ha hs=>⟨hA a w ha hs,hB a w ha hs⟩
theorem JT.tail (hk : t = .nil ∨ ∀ w,St cx ρ L w → S w) (h : JT P ops Q S n cx t ρ E L) : Jp P ops (tailT P ops Q S t) (fun _=>True) n cx [] ρ E L:=fun a w ha hs=>⟨hk.imp id fun f=>f w hs,h a w ha hs⟩
theorem JT.nil (h : Jp P ops Q (fun _=>True) n cx [] ρ E L) : JT P ops Q S n cx .nil ρ E L:=h
theorem JT.split {c : Bool} (k : Nat) (ht : look E k = some (.bool c)) (h1 : c = true → JT P ops Q S n cx t ρ ((k,.bool true) :: E) L) (h2 : c = false → JT P ops Q S n cx t ρ ((k,.bool false) :: E) L) : JT P ops Q S n cx t ρ E L:=by
 cases c
 ·exact fun a w ha hs=>h2 rfl a w ⟨ha.defers,ha.size,fun j v e=>qdi ha ht e⟩ hs
 ·exact fun a w ha hs=>h1 rfl a w ⟨ha.defers,ha.size,fun j v e=>qdi ha ht e⟩ hs
theorem JT.slot {u u' : Value} (k : Nat) (ht : look E k = some u) (e : u = u') (h : JT P ops Q S n cx t ρ ((k,u') :: E) L) : JT P ops Q S n cx t ρ E L:=by
 subst e
 exact fun a w ha hs=>h a w ⟨ha.defers,ha.size,fun j v e=>qdi ha ht e⟩ hs
theorem JT.imp {A A' : qax} (e : look L j = Option.some A) (f : ∀ k,A k → A' k) (h : JT P ops Q S n cx t ρ E ((j,A') :: L)) : JT P ops Q S n cx t ρ E L:=fun a w ha hs=>h a w ha (hs.imp e f)
theorem KT.st (hs : Subl Ls L) : t = .nil ∨ ∀ w,St cx ρ L w → St cx ρ Ls w:=.inr fun _ h=>h.sub hs
theorem KT.st' (hs : Subl Ls L) (hle : Hp.le ρs ρ) (h0 : Hp.le cx.r0 ρs) : t = .nil ∨ ∀ w,St cx ρ L w → St cx ρs Ls w:=.inr fun _ h=>(h.down hle h0).sub hs
theorem KT.last {φ : Prop} : PT.nil = .nil ∨ φ:=.inl rfl
theorem JT.freeze {A : qax} (e : look L j = some A) (up : Up A) (h : ∀ ρ',Hp.le ρ ρ' → A ρ' → JT P ops Q S n cx t ρ' E ((j,Emp) :: L)) : JT P ops Q S n cx t ρ E L:=fun a w ha hs =>
 let ⟨ρ',hle,hA,h2⟩:=hs.freeze e up; h ρ' hle hA a w ha h2
theorem Cd.drawnT {id : Nat} {ops : Array Oper} (Ls : Own) (hL : Subl Ls L) (x : Nat) (t : PT) (hm : P.follows .mixedOrders = true) (hok : okRegionT ops x t = true)
  (h : Hp.le cx.r0 ρ → JT P ops Q (fun w=>St cx ρ Ls w) n cx t ρ E L) : Cd P Q n cx ρ E L (.region id ops true):=fun a w ha hs=>by
 simp only [okRegionT,Bool.and_eq_true,beq_iff_eq] at hok
 obtain ⟨⟨⟨⟨o1,o2⟩,o3⟩,o4⟩,o5⟩:=hok
 refine wp_mono (wp_region_any (Q:=Qn (Q .normal)) hm (wpL_any (S:=fun w=>St cx ρ Ls w) (x:=x) _ _ _ _ ?_)) (qn_mono fun _ _ h=>h)
 have h1:=pt_sound o1 o3 t _ _ a _ o4 (fun j o _ hl=>by rw [Array.getD_eq_getD_getElem?,Array.getElem?_replicate] at hl; split at hl <;> simp at hl) o5 (.inr (hs.drew.sub hL)) (h hs.rle a _ ha hs.drew)
 rw [o2] at h1
 exact h1
end
section
variable {P : Program} {n : Nat} {cx : Cx} {ρ : Hp} {E : Env} {L : Own} {ops : Array Oper} {Q : Exit → Act → World → Prop} {S' : World → Prop} {π : List (Nat × Bool)}
theorem St.move {w : World} (hs : St cx ρ L w) {j k : Nat} {A : qax} (hjk : j ≠ k) (e1 : look L j = some Emp) (e2 : look L k = some A) (up : Up A) : St cx ρ ((j,A) :: (k,Emp) :: L) w :=
 emp_cons ((hs.glue hjk e1 e2).imp (i:=j) (A:=Sep Emp A) (by rw [qag,if_pos rfl]) fun k ⟨h1,h2,_,a2,_,_,l2⟩=>up _ _ l2 a2)
theorem Cd.move {d : Code} (j k : Nat) {A : qax} (hjk : j ≠ k) (e1 : look L j = some Emp) (e2 : look L k = some A) (up : Up A) (h : Cd P Q n cx ρ E ((j,A) :: (k,Emp) :: L) d) : Cd P Q n cx ρ E L d:=fun a w ha hs=>h a w ha (hs.move hjk e1 e2 up)
theorem Jp.move (j k : Nat) {A : qax} (hjk : j ≠ k) (e1 : look L j = some Emp) (e2 : look L k = some A) (up : Up A) (h : Jp P ops Q S' n cx π ρ E ((j,A) :: (k,Emp) :: L)) : Jp P ops Q S' n cx π ρ E L:=fun a w ha hs=>h a w ha (hs.move hjk e1 e2 up)
end
end Go.Proofs.YtnfkalpgidiafaaGreat

namespace Go.Proofs.YtnfkalpgidiafaaGreat
open _root_.Go.Proofs.Tryz
open Go
def valueT (S : ShG) (X : qal) (pp : Bool) (i : InsP) (s : StP) : qal :=
 if qep i.op = true then qdr (qdp (tagM S (addrP i s) (qcq i.op).1) (qcq i.op).1 (qcq i.op).2) (ptrT X pp i.r1) else
 if isKind i.op = true then qfv (kindA i.op) (opdP i s) (regP s i.r1) (qcr X i.r1) (if 27 < i.op then qcr X i.r2 else qgj) else qgj
theorem value13_spec (bc bm bs bx : Nat) (S : ShG) (s : StP) (X : qal) (pp : Bool) (so si : Value) (i : InsP) (hs : StOk s) (hi : InsOk i) (hX : X.length = 128) :
  Spec Tryz.prog 23 #[.pointer (some ⟨bc,0,none⟩),.agg i.cells.toArray] (fun _=>True)
   [(0,Pt bc (.cells (qfc bm bs s bx pp so si).toArray 74)),(1,Pt bx (.cells (qaf X).toArray 42)),(2,ShO bs S)]
  (fun ρ ρ' v L=>ρ' = ρ ∧ v = .agg (qaf (valueT S X pp i s)).toArray ∧ L = [(0,Pt bc (.cells (qfc bm bs s bx pp so si).toArray 74)),(1,Pt bx (.cells (qaf X).toArray 42)),(2,ShO bs S)]):=by
 obtain ⟨V,hV⟩ : ∃ V,valueT S X pp i s = V:=⟨_,rfl⟩
 rw [hV]
 unfold valueT at hV
 have hA:=qdm i s hs hi
 have hal:=qgi i s
 have hP:=pointer_spec bc bm bs bx s X pp so si i hs hi hX
 have hSz:=qhf i.op
 obtain ⟨ad,had⟩ : ∃ ad,addrP i s = ad:=⟨_,rfl⟩
 rw [had] at hA hal hV
 obtain ⟨op,rd,r1,r2,imm⟩:=i
 dsimp only at hV hP hSz
 obtain ⟨szp,hsz⟩ : ∃ x,qcq op = x:=⟨_,rfl⟩
 rw [hsz] at hSz hV
 obtain ⟨sz,sg⟩:=szp
 dsimp only at hSz hV
 have hpl:=ptrT_len X pp r1
 have hT:=shTag_spec bs S ad sz hal
 have htl:=tagM_len S ad sz
 obtain ⟨tg,htg⟩ : ∃ x,tagM S ad sz = x:=⟨_,rfl⟩
 rw [htg] at hT htl hV
 have hnl:=(qgx tg sz sg).trans htl
 refine Spec.of 89 Tryz.func23 rfl Tryz.ntmps23 [(0,_),(1,_)] rfl rfl ?_
 intro cx ρ hr' h0
 have hsl:=StP.len hs
 have hso:=StP.one s
 refine Cd.seq fun K1 hK1=>?_
 refine Cd.qac [(0,false),(1,false)] rfl rfl ?_
 refine Jp.box 3 3 rfl (qaa rfl) rfl rfl rfl rfl fun b3=>⟨Kp.true,?_⟩
 refine Jp.alloc 4 4 rfl (qaa rfl) rfl rfl rfl zeroValue40 fun b4=>⟨Kp.true,?_⟩
 refine Jp.qae hK1 ?_
 refine Cd.seq fun K2 hK2=>?_
 refine Cd.seq fun K3 hK3=>?_
 refine Cd.qac [(0,false),(1,false),(2,false)] rfl rfl ?_
 refine Jp.y 13 rfl (qaa rfl) rfl rfl Kp.true (by exact Y.qad rfl rfl underlying60 rfl sizeOf3 (by decide) (show _ + 0 = _ from rfl)) ?_
 refine Jp.y 14 rfl (qaa rfl) rfl rfl Kp.true (by exact Y.qau 3 rfl isAgg3 rfl rfl rfl) ?_
 refine Jp.call [] [] (qeo op) 15 rfl (qaa rfl) rfl rfl (Runs.fn rfl call46 rfl) (by decide) (by decide) rfl trivial ?_
 rintro v1 ρ1 L1 ⟨rfl,rfl,rfl⟩
 refine ⟨rfl,fun hle1=>⟨Kp.true,?_⟩⟩
 refine Jp.qae hK3 ?_
 refine Cd.qar rfl (fun ga=>?_) (fun ga=>?_)
 ·rw [if_pos ga] at hV
  have hjl : (qaf (qdr (qdp tg sz sg) (ptrT X pp r1))).length = 4:=by rw [qaz,qeb hnl hpl]
  have hjo:=qbe (qdr (qdp tg sz sg) (ptrT X pp r1))
  refine Cd.seq fun K4 hK4=>?_
  refine Cd.qac [(0,false),(1,false),(2,false),(3,false),(4,false),(5,false),(6,false),(7,false)] rfl rfl ?_
  refine Jp.y 17 rfl (qaa rfl) rfl rfl Kp.true (by exact Y.qad rfl rfl underlying60 rfl sizeOf3 (by decide) (show _ + 0 = _ from rfl)) ?_
  refine Jp.y 18 rfl (qaa rfl) rfl rfl Kp.true (by exact Y.qau 3 rfl isAgg3 rfl rfl rfl) ?_
  refine Jp.call [] [] hSz 19 rfl (qaa rfl) rfl rfl (Runs.fn rfl call41 rfl) (by decide) (by decide) rfl trivial ?_
  rintro v2 ρ2 L2 ⟨rfl,rfl,rfl⟩
  refine ⟨rfl,fun hle2=>⟨Kp.true,?_⟩⟩
  refine Jp.y 16 rfl (qaa rfl) rfl rfl Kp.true (Y.move rfl rfl) ?_
  refine Jp.y 20 rfl (qaa rfl) rfl rfl Kp.true (Y.extract rfl rfl rfl) ?_
  refine Jp.y 21 rfl (qaa rfl) rfl rfl Kp.true (Y.extract rfl rfl rfl) ?_
  refine Jp.y 5 rfl (qaa rfl) rfl rfl Kp.true (Y.assign rfl rfl) ?_
  refine Jp.y 6 rfl (qaa rfl) rfl rfl Kp.true (Y.assign rfl rfl) ?_
  refine Jp.qae hK4 ?_
  refine Cd.seq fun K5 hK5=>?_
  refine Cd.drawn [(0,_),(3,_)] ⟨rfl,rfl,trivial⟩ [(0,true),(1,true),(2,true),(3,true),(4,true),(5,true),(6,true),(7,true),(8,true),(10,true),(12,true),(13,true),(15,true),(16,true),(9,false),(11,false),(14,false),(17,false),(18,false),(19,false)] follows (by kernel_rfl) (fun hrl=>?_)
  refine Jp.q 22 rfl (qaa rfl) rfl rfl (Y.move rfl rfl) ?_
  refine Jp.q 23 rfl (qaa rfl) rfl rfl (Y.qan rfl rfl) ?_
  refine Jp.q 24 rfl (qaa rfl) rfl rfl (by exact Y.qad rfl rfl underlying74 rfl sizeOf35 (by decide) (show _ + 1 = _ from rfl)) ?_
  refine Jp.q 25 rfl (qaa rfl) rfl rfl (by exact Y.qbg 0 rfl isAgg35 rfl rfl (HasC.pt (machC_sh))) ?_
  refine Jp.q 26 rfl (qaa rfl) rfl rfl (by exact Y.qah 3 rfl isAgg60 sizeOf60 rfl rfl (by first | rfl | assumption)) ?_
  refine Jp.q 27 rfl (qaa rfl) rfl rfl (Y.move rfl rfl) ?_
  refine Jp.q 28 rfl (qaa rfl) rfl rfl (Y.qan rfl rfl) ?_
  refine Jp.q 29 rfl (qaa rfl) rfl rfl (by exact Y.qad rfl rfl underlying74 rfl sizeOf27 (by decide) (show _ + 2 = _ from rfl)) ?_
  refine Jp.q 30 rfl (qaa rfl) rfl rfl (Y.qic 0 s.cells rfl isAgg27 sizeOf27 rfl rfl hsl (fun p v h=>machC_s hs p v h)) ?_
  refine Jp.q 32 rfl (qaa rfl) rfl rfl (Y.move rfl rfl) ?_
  refine Jp.q 34 rfl (qaa rfl) rfl rfl (Y.move rfl rfl) ?_
  refine Jp.q 35 rfl (qaa rfl) rfl rfl (Y.move rfl rfl) ?_
  refine Jp.q 37 rfl (qaa rfl) rfl rfl (Y.move rfl rfl) ?_
  refine Jp.q 38 rfl (qaa rfl) rfl rfl (by exact Y.qah 3 rfl isAgg60 sizeOf60 rfl rfl (by first | rfl | assumption)) ?_
  refine Jp.call [] [] hA 31 rfl (qaa rfl) rfl rfl (Runs.fn rfl call42 rfl) (by decide) (by decide) rfl trivial ?_
  rintro v3 ρ3 L3 ⟨rfl,rfl,rfl⟩
  refine ⟨rfl,fun hle3=>⟨(Kp.st ⟨rfl,rfl,trivial⟩),?_⟩⟩
  refine Jp.call [2] [2] hT 33 rfl (qaa rfl) rfl rfl (Runs.fn rfl call48 rfl) (by decide) (by decide) rfl trivial ?_
  rintro v4 ρ4 L4 ⟨rfl,rfl,rfl⟩
  refine ⟨rfl,fun hle4=>⟨(Kp.st ⟨rfl,rfl,trivial⟩),?_⟩⟩
  refine Jp.call [] [] (narrow_spec tg sz sg htl) 36 rfl (qaa rfl) rfl rfl (Runs.fn rfl call47 rfl) (by decide) (by decide) rfl trivial ?_
  rintro v5 ρ5 L5 ⟨rfl,rfl,rfl⟩
  refine ⟨rfl,fun hle5=>⟨(Kp.st ⟨rfl,rfl,trivial⟩),?_⟩⟩
  refine Jp.call [0,1] [0,1] hP 39 rfl (qaa rfl) rfl rfl (Runs.fn rfl call45 rfl) (by decide) (by decide) rfl trivial ?_
  rintro v6 ρ6 L6 ⟨rfl,rfl,rfl⟩
  refine ⟨rfl,fun hle6=>⟨(Kp.st ⟨rfl,rfl,trivial⟩),?_⟩⟩
  refine Jp.call [] [] (qea (qdp tg sz sg) (ptrT X pp r1) hnl hpl) 40 rfl (qaa rfl) rfl rfl (Runs.fn rfl call44 rfl) (by decide) (by decide) rfl trivial ?_
  rintro v7 ρ7 L7 ⟨rfl,rfl,rfl⟩
  refine ⟨rfl,fun hle7=>⟨(Kp.st ⟨rfl,rfl,trivial⟩),?_⟩⟩
  refine Jp.qai 4 rfl (qaa rfl) rfl rfl sizeOf40 rfl rfl (by first | rfl | assumption) (by first | rfl | assumption) rfl (by first | rfl | assumption) (fun k _ _=>qas k) Kp.last ?_
  refine Jp.qae hK5 ?_
  refine Cd.ret [(0,_),(1,_),(2,_)] rfl (by exact qfb 4 rfl rfl isAgg40 sizeOf40 rfl (by first | rfl | assumption)) ⟨rfl,rfl,rfl,trivial⟩ ⟨rfl,by rw [← hV],rfl⟩
 ·rw [if_neg (by rw [ga]; decide)] at hV
  refine Cd.qbu hK2 ?_
  refine Cd.seq fun K7 hK7=>?_
  refine Cd.qac [(0,false),(1,false),(2,false),(3,false),(4,false),(5,false),(6,false),(7,false)] rfl rfl ?_
  refine Jp.y 42 rfl (qaa rfl) rfl rfl Kp.true (by exact Y.qad rfl rfl underlying60 rfl sizeOf3 (by decide) (show _ + 0 = _ from rfl)) ?_
  refine Jp.y 43 rfl (qaa rfl) rfl rfl Kp.true (by exact Y.qau 3 rfl isAgg3 rfl rfl rfl) ?_
  refine Jp.call [] [] (kind_spec op) 44 rfl (qaa rfl) rfl rfl (Runs.fn rfl call49 rfl) (by decide) (by decide) rfl trivial ?_
  rintro v2 ρ2 L2 ⟨rfl,rfl,rfl⟩
  refine ⟨rfl,fun hle2=>⟨Kp.true,?_⟩⟩
  refine Jp.y 41 rfl (qaa rfl) rfl rfl Kp.true (Y.move rfl rfl) ?_
  refine Jp.y 45 rfl (qaa rfl) rfl rfl Kp.true (Y.extract rfl rfl rfl) ?_
  refine Jp.y 46 rfl (qaa rfl) rfl rfl Kp.true (Y.extract rfl rfl rfl) ?_
  refine Jp.y 7 rfl (qaa rfl) rfl rfl Kp.true (Y.assign rfl rfl) ?_
  refine Jp.y 8 rfl (qaa rfl) rfl rfl Kp.true (Y.assign rfl rfl) ?_
  refine Jp.qae hK7 ?_
  refine Cd.seq fun K8 hK8=>?_
  refine Cd.seq fun K9 hK9=>?_
  refine Cd.qac [(0,false),(1,false)] rfl rfl ?_
  refine Jp.y 47 rfl (qaa rfl) rfl rfl Kp.true (Y.move rfl rfl) ?_
  refine Jp.y 48 rfl (qaa rfl) rfl rfl Kp.true (Y.not rfl rfl) ?_
  refine Jp.qae hK9 ?_
  refine Cd.qar rfl (fun gb=>?_) (fun gb=>?_)
  ·rw [if_neg (by simpa using gb)] at hV
   refine Cd.seq fun K10 hK10=>?_
   refine Cd.qac [(0,false),(1,false)] rfl rfl ?_
   refine Jp.y 49 rfl (qaa rfl) rfl rfl Kp.true (Y.array [] [_,_,_,_] rfl rfl underlying40 sizeOf5 zeroValue40 rfl) ?_
   refine Jp.qai 4 rfl (qaa rfl) rfl rfl sizeOf40 rfl rfl (by first | rfl | assumption) (by first | rfl | assumption) rfl (by first | rfl | assumption) (fun k _ _=>qas k) Kp.true ?_
   refine Jp.qae hK10 ?_
   refine Cd.ret [(0,_),(1,_),(2,_)] rfl (by exact qfb 4 rfl rfl isAgg40 sizeOf40 rfl (by first | rfl | assumption)) ⟨rfl,rfl,rfl,trivial⟩ ⟨rfl,by rw [← hV]; rfl,rfl⟩
  ·rw [if_pos (by simpa using gb)] at hV
   obtain ⟨s',hs'⟩ : ∃ s' : StP,s' = ⟨s.x.set 0 0,s.pc,s.ret⟩:=⟨_,rfl⟩
   have hx' : s'.x = s.x.set 0 0:=by rw [hs']
   have hreg : ∀ r,regP s' r = regP s r:=fun r=>by
    unfold regP
    by_cases h : r = 0
    ·rw [if_pos h,if_pos h]
    ·rw [if_neg h,if_neg h,hx']
     simp only [List.getD_eq_getElem?_getD]
     rw [List.getElem?_set_ne (by omega)]
   have hok' : StOk s' := ⟨by rw [hx', List.length_set]; exact hs.len, fun y hy => by
    rw [hx'] at hy
    rcases List.mem_or_eq_of_mem_set hy with h | h
    ·exact hs.lt y h
    ·rw [h]; decide, by rw [hs']; exact hs.pc, by rw [hs']; exact hs.ret⟩
   have hO:=operand_spec ⟨op,rd,r1,r2,imm⟩ s' hok' hi
   have hol:=opdP_lt (i:=⟨op,rd,r1,r2,imm⟩) hs
   rw [show opdP ⟨op,rd,r1,r2,imm⟩ s' = opdP ⟨op,rd,r1,r2,imm⟩ s by (unfold opdP; rw [hreg])] at hO
   have l1:=regP_lt hs r1
   have hg1 : s'.x[r1]? = some (regP s r1):=by
    rw [hx']
    by_cases h : r1 = 0
    ·rw [h,List.getElem?_set_self (by rw [hs.len]; decide)]; rfl
    ·rw [List.getElem?_set_ne (by omega),regP_get hs hi.r1 h]
   have hsl':=StP.len hok'
   refine Cd.qbu hK8 ?_
   refine Cd.seq fun K11 hK11=>?_
   refine Cd.qac [(0,false),(1,false),(2,false)] rfl rfl ?_
   refine Jp.y 50 rfl (qaa rfl) rfl rfl Kp.true (Y.array [] [_,_,_,_] rfl rfl underlying40 sizeOf5 zeroValue40 rfl) ?_
   refine Jp.alloc 9 9 rfl (qaa rfl) rfl rfl rfl zeroValue40 fun b9=>⟨Kp.true,?_⟩
   refine Jp.qai 9 rfl (qaa rfl) rfl rfl sizeOf40 rfl rfl (by first | rfl | assumption) (by first | rfl | assumption) rfl (by first | rfl | assumption) (fun k _ _=>qas k) Kp.true ?_
   refine Jp.qae hK11 ?_
   refine Cd.seq fun K12 hK12=>?_
   refine Cd.seq fun K13 hK13=>?_
   refine Cd.qac [(0,false),(1,false),(2,false)] rfl rfl ?_
   refine Jp.y 51 rfl (qaa rfl) rfl rfl Kp.true (by exact Y.qad rfl rfl underlying60 rfl sizeOf3 (by decide) (show _ + 0 = _ from rfl)) ?_
   refine Jp.y 52 rfl (qaa rfl) rfl rfl Kp.true (by exact Y.qau 3 rfl isAgg3 rfl rfl rfl) ?_
   refine Jp.y 53 rfl (qaa rfl) rfl rfl Kp.true (Y.gtr rfl rfl rfl) ?_
   refine Jp.qae hK13 ?_
   refine Cd.qgm (G:=qal) (fun g=>g = (if 27 < op then qcr X r2 else qgj)) (fun _=>[]) [(0,_),(3,_),(4,_),(7,_),(9,_)] ⟨rfl,rfl,rfl,rfl,rfl,trivial⟩ (fun g=>[(9,Pt b9 (.cells (qaf g).toArray 40))]) [(0,_),(1,_),(2,_),(3,_),(4,_)] ⟨rfl,rfl,rfl,rfl,rfl,trivial⟩ hK12 (fun g hφ=>?_) (fun hj1=>?_)
   ·obtain ⟨u,hu⟩ : ∃ u,u = g:=⟨_,rfl⟩
    rw [← hu] at hφ ⊢
    have hul : u.length = 4:=by
     rw [hφ]; split
     ·exact qcg hX hi.r2
     ·rfl
    rw [← hφ] at hV
    have hu4 : (qaf u).length = 4:=by rw [qaz,hul]
    have hVl : (qaf V).length = 4:=by rw [qaz,← hV]; exact flowT_len _ _ _ (qcg hX hi.r1) hul
    have hVo:=qbe V
    refine Cd.seq fun K14 hK14=>?_
    refine Cd.qac [(0,false),(1,false),(2,false),(3,false),(4,false),(5,false)] rfl rfl ?_
    refine Jp.y 61 rfl (qaa rfl) rfl rfl Kp.true (Y.move rfl rfl) ?_
    refine Jp.y 62 rfl (qaa rfl) rfl rfl Kp.true (Y.qan rfl rfl) ?_
    refine Jp.y 63 rfl (qaa rfl) rfl rfl Kp.true (by exact Y.qad rfl rfl underlying74 rfl sizeOf27 (by decide) (show _ + 2 = _ from rfl)) ?_
    refine Jp.y 64 rfl (qaa rfl) rfl rfl Kp.true (Y.qic 0 s.cells rfl isAgg27 sizeOf27 rfl rfl hsl (fun p v h=>machC_s hs p v h)) ?_
    refine Jp.alloc 10 10 rfl (qaa rfl) rfl rfl rfl zeroValue27 fun b10=>⟨Kp.true,?_⟩
    refine Jp.qai 10 rfl (qaa rfl) rfl rfl sizeOf27 rfl rfl (by first | rfl | assumption) (by first | rfl | assumption) rfl (by first | rfl | assumption) (fun k _ _=>qas k) Kp.true ?_
    refine Jp.qae hK14 ?_
    refine Cd.seq fun K15 hK15=>?_
    refine Cd.qac [(0,false),(1,false),(2,false)] rfl rfl ?_
    refine Jp.y 65 rfl (qaa rfl) rfl rfl Kp.true (by exact Y.qad rfl rfl underlying27 rfl sizeOf25 (by decide) (show _ + 0 = _ from rfl)) ?_
    refine Jp.y 66 rfl (qaa rfl) rfl rfl Kp.true (Y.qam rfl rfl rfl underlying25 sizeOf24 (by first | decide | omega) (by first | decide | omega) rfl) ?_
    refine Jp.qct 10 (Pt b10 (.cells s'.cells.toArray 27)) rfl (qaa rfl) rfl rfl sizeOf24 rfl rfl rfl rfl rfl (by rw [hs']; exact SetC.st hs.len (by omega) 0) Kp.true ?_
    have hr132 : r1 < 32:=hi.r1
    refine Jp.qae hK15 ?_
    refine Cd.seq fun K16 hK16=>?_
    refine Cd.drawnT [(0,_),(3,_),(9,_),(10,_)] ⟨rfl,rfl,rfl,rfl,trivial⟩ 24 (.q 0 (.q 1 (.q 2 (.q 3 (.q 4 (.q 5 (.q 6 (.q 7 (.q 9 (.q 10 (.q 11 (.q 12 (.q 13 (.q 14 (.q 16 (.f 8 (.f 15 (.f 17 (.q 18 (.q 19 (.q 20 (.l 21 (.l 22 (.q 23 .nil)))))) 21 (.l 17 (.q 18 (.q 19 (.q 20 (.l 22 (.q 23 .nil))))))) 21 (.l 15 (.l 17 (.q 18 (.q 19 (.q 20 (.l 22 (.q 23 .nil)))))))) 21 (.l 8 (.l 15 (.l 17 (.q 18 (.q 19 (.q 20 (.l 22 (.q 23 .nil)))))))))))))))))))))))) follows (by kernel_rfl) (fun hrl=>?_)
    refine JT.q 68 rfl (qaa rfl) rfl rfl (Y.move rfl rfl) ?_
    refine JT.q 69 rfl (qaa rfl) rfl rfl (by exact Y.qad rfl rfl underlying60 rfl sizeOf3 (by decide) (show _ + 2 = _ from rfl)) ?_
    refine JT.q 70 rfl (qaa rfl) rfl rfl (by exact Y.qau 3 rfl isAgg3 rfl rfl rfl) ?_
    refine JT.q 71 rfl (qaa rfl) rfl rfl (by exact Y.qad rfl rfl underlying27 rfl sizeOf25 (by decide) (show _ + 0 = _ from rfl)) ?_
    refine JT.slot 70 rfl (show _ = Value.int .i64 (r1 : Int) from rfl) ?_
    refine JT.q 72 rfl (qaa rfl) rfl rfl (Y.qam (q:=r1) rfl rfl rfl underlying25 sizeOf24 (by omega) (by omega) (by omega)) ?_
    refine JT.q 73 rfl (qaa rfl) rfl rfl (by exact Y.qbg 10 rfl isAgg24 rfl rfl (HasC.pt (StP.cX hok' hg1))) ?_
    refine JT.q 74 rfl (qaa rfl) rfl rfl (by exact Y.qah 3 rfl isAgg60 sizeOf60 rfl rfl (by first | rfl | assumption)) ?_
    refine JT.q 75 rfl (qaa rfl) rfl rfl (by exact Y.qah 10 rfl isAgg27 sizeOf27 rfl rfl (by first | rfl | assumption)) ?_
    refine JT.q 77 rfl (qaa rfl) rfl rfl (Y.move rfl rfl) ?_
    refine JT.q 78 rfl (qaa rfl) rfl rfl (Y.qan rfl rfl) ?_
    refine JT.q 79 rfl (qaa rfl) rfl rfl (by exact Y.qad rfl rfl underlying74 rfl sizeOf72 (by decide) (show _ + 36 = _ from rfl)) ?_
    refine JT.q 80 rfl (qaa rfl) rfl rfl (by exact Y.qbg 0 rfl isAgg72 rfl rfl (HasC.pt (machC_x hs))) ?_
    refine JT.q 81 rfl (qaa rfl) rfl rfl (by exact Y.qad rfl rfl underlying60 rfl sizeOf3 (by decide) (show _ + 2 = _ from rfl)) ?_
    refine JT.q 82 rfl (qaa rfl) rfl rfl (by exact Y.qau 3 rfl isAgg3 rfl rfl rfl) ?_
    refine JT.q 84 rfl (qaa rfl) rfl rfl (by exact Y.qah 9 rfl isAgg40 sizeOf40 rfl rfl (by first | rfl | assumption)) ?_
    refine JT.fork ?_ ?_
    ·skip
     refine JT.loud ?_
     refine Jp.call [] [] hO 76 rfl (qaa rfl) rfl rfl (Runs.fn rfl call51 rfl) (by decide) (by decide) rfl trivial ?_
     rintro v3 ρ3 L3 ⟨rfl,rfl,rfl⟩
     refine ⟨rfl,fun hle3=>⟨Kp.true,?_⟩⟩
     refine JT.tail (KT.st ⟨rfl,rfl,rfl,rfl,trivial⟩) ?_
     refine JT.fork ?_ ?_
     ·skip
      refine JT.loud ?_
      refine Jp.call [1] [1] (qgw bx X r1 hX hi.r1) 83 rfl (qaa rfl) rfl rfl (Runs.fn rfl call39 rfl) (by decide) (by decide) rfl trivial ?_
      rintro v4 ρ4 L4 ⟨rfl,rfl,rfl⟩
      refine ⟨rfl,fun hle4=>⟨Kp.true,?_⟩⟩
      refine JT.tail (KT.st ⟨rfl,rfl,rfl,rfl,trivial⟩) ?_
      refine JT.fork ?_ ?_
      ·skip
       refine JT.loud ?_
       refine Jp.call [] [] (qhv (kindA op) (regP s r1) (opdP ⟨op,rd,r1,r2,imm⟩ s) (qcr X r1) u (qhr op) l1 hol (qcg hX hi.r1) hul) 85 rfl (qaa rfl) rfl rfl (Runs.fn rfl call50 rfl) (by decide) (by decide) rfl trivial ?_
       rintro v5 ρ5 L5 ⟨rfl,rfl,rfl⟩
       refine ⟨rfl,fun hle5=>⟨Kp.true,?_⟩⟩
       refine JT.tail (KT.st ⟨rfl,rfl,rfl,rfl,trivial⟩) ?_
       rw [hV]
       refine JT.q 67 rfl (qaa rfl) rfl rfl (Y.move rfl rfl) ?_
       refine JT.q 86 rfl (qaa rfl) rfl rfl (Y.extract rfl rfl rfl) ?_
       refine JT.q 87 rfl (qaa rfl) rfl rfl (Y.extract rfl rfl rfl) ?_
       refine JT.loud ?_
       refine Jp.alloc 11 11 rfl (qaa rfl) rfl rfl rfl zeroValue40 fun b11=>⟨Kp.true,?_⟩
       refine JT.tail (KT.st ⟨rfl,rfl,rfl,rfl,trivial⟩) ?_
       refine JT.loud ?_
       refine Jp.qai 11 rfl (qaa rfl) rfl rfl sizeOf40 rfl rfl (by first | rfl | assumption) (by first | rfl | assumption) rfl (by first | rfl | assumption) (fun k _ _=>qas k) Kp.true ?_
       refine JT.tail (KT.st ⟨rfl,rfl,rfl,rfl,trivial⟩) ?_
       refine JT.q 12 rfl (qaa rfl) rfl rfl (Y.assign rfl rfl) ?_
       refine JT.nil ?_
       refine Jp.qae hK16 ?_
       refine Cd.seq fun K17 hK17=>?_
       refine Cd.qac [(0,false),(1,false)] rfl rfl ?_
       refine Jp.y 88 rfl (qaa rfl) rfl rfl Kp.true (by exact Y.qah 11 rfl isAgg40 sizeOf40 rfl rfl (by first | rfl | assumption)) ?_
       refine Jp.qai 4 rfl (qaa rfl) rfl rfl sizeOf40 rfl rfl (by first | rfl | assumption) (by first | rfl | assumption) rfl (by first | rfl | assumption) (fun k _ _=>qas k) Kp.true ?_
       refine Jp.qae hK17 ?_
       refine Cd.ret [(0,_),(1,_),(2,_)] rfl (by exact qfb 4 rfl rfl isAgg40 sizeOf40 rfl (by first | rfl | assumption)) ⟨rfl,rfl,rfl,trivial⟩ ⟨rfl,rfl,rfl⟩
      ·skip
       refine JT.loud ?_
       refine Jp.alloc 11 11 rfl (qaa rfl) rfl rfl rfl zeroValue40 fun b11=>⟨Kp.true,?_⟩
       refine JT.tail (KT.st ⟨rfl,rfl,rfl,rfl,trivial⟩) ?_
       refine JT.loud ?_
       refine Jp.call [] [] (qhv (kindA op) (regP s r1) (opdP ⟨op,rd,r1,r2,imm⟩ s) (qcr X r1) u (qhr op) l1 hol (qcg hX hi.r1) hul) 85 rfl (qaa rfl) rfl rfl (Runs.fn rfl call50 rfl) (by decide) (by decide) rfl trivial ?_
       rintro v5 ρ5 L5 ⟨rfl,rfl,rfl⟩
       refine ⟨rfl,fun hle5=>⟨Kp.true,?_⟩⟩
       refine JT.tail (KT.st ⟨rfl,rfl,rfl,rfl,trivial⟩) ?_
       rw [hV]
       refine JT.q 67 rfl (qaa rfl) rfl rfl (Y.move rfl rfl) ?_
       refine JT.q 86 rfl (qaa rfl) rfl rfl (Y.extract rfl rfl rfl) ?_
       refine JT.q 87 rfl (qaa rfl) rfl rfl (Y.extract rfl rfl rfl) ?_
       refine JT.loud ?_
       refine Jp.qai 11 rfl (qaa rfl) rfl rfl sizeOf40 rfl rfl (by first | rfl | assumption) (by first | rfl | assumption) rfl (by first | rfl | assumption) (fun k _ _=>qas k) Kp.true ?_
       refine JT.tail (KT.st ⟨rfl,rfl,rfl,rfl,trivial⟩) ?_
       refine JT.q 12 rfl (qaa rfl) rfl rfl (Y.assign rfl rfl) ?_
       refine JT.nil ?_
       refine Jp.qae hK16 ?_
       refine Cd.seq fun K18 hK18=>?_
       refine Cd.qac [(0,false),(1,false)] rfl rfl ?_
       refine Jp.y 88 rfl (qaa rfl) rfl rfl Kp.true (by exact Y.qah 11 rfl isAgg40 sizeOf40 rfl rfl (by first | rfl | assumption)) ?_
       refine Jp.qai 4 rfl (qaa rfl) rfl rfl sizeOf40 rfl rfl (by first | rfl | assumption) (by first | rfl | assumption) rfl (by first | rfl | assumption) (fun k _ _=>qas k) Kp.true ?_
       refine Jp.qae hK18 ?_
       refine Cd.ret [(0,_),(1,_),(2,_)] rfl (by exact qfb 4 rfl rfl isAgg40 sizeOf40 rfl (by first | rfl | assumption)) ⟨rfl,rfl,rfl,trivial⟩ ⟨rfl,rfl,rfl⟩
     ·skip
      refine JT.loud ?_
      refine Jp.alloc 11 11 rfl (qaa rfl) rfl rfl rfl zeroValue40 fun b11=>⟨Kp.true,?_⟩
      refine JT.tail (KT.st ⟨rfl,rfl,rfl,rfl,trivial⟩) ?_
      refine JT.loud ?_
      refine Jp.call [1] [1] (qgw bx X r1 hX hi.r1) 83 rfl (qaa rfl) rfl rfl (Runs.fn rfl call39 rfl) (by decide) (by decide) rfl trivial ?_
      rintro v4 ρ4 L4 ⟨rfl,rfl,rfl⟩
      refine ⟨rfl,fun hle4=>⟨Kp.true,?_⟩⟩
      refine JT.tail (KT.st ⟨rfl,rfl,rfl,rfl,trivial⟩) ?_
      refine JT.loud ?_
      refine Jp.call [] [] (qhv (kindA op) (regP s r1) (opdP ⟨op,rd,r1,r2,imm⟩ s) (qcr X r1) u (qhr op) l1 hol (qcg hX hi.r1) hul) 85 rfl (qaa rfl) rfl rfl (Runs.fn rfl call50 rfl) (by decide) (by decide) rfl trivial ?_
      rintro v5 ρ5 L5 ⟨rfl,rfl,rfl⟩
      refine ⟨rfl,fun hle5=>⟨Kp.true,?_⟩⟩
      refine JT.tail (KT.st ⟨rfl,rfl,rfl,rfl,trivial⟩) ?_
      rw [hV]
      refine JT.q 67 rfl (qaa rfl) rfl rfl (Y.move rfl rfl) ?_
      refine JT.q 86 rfl (qaa rfl) rfl rfl (Y.extract rfl rfl rfl) ?_
      refine JT.q 87 rfl (qaa rfl) rfl rfl (Y.extract rfl rfl rfl) ?_
      refine JT.loud ?_
      refine Jp.qai 11 rfl (qaa rfl) rfl rfl sizeOf40 rfl rfl (by first | rfl | assumption) (by first | rfl | assumption) rfl (by first | rfl | assumption) (fun k _ _=>qas k) Kp.true ?_
      refine JT.tail (KT.st ⟨rfl,rfl,rfl,rfl,trivial⟩) ?_
      refine JT.q 12 rfl (qaa rfl) rfl rfl (Y.assign rfl rfl) ?_
      refine JT.nil ?_
      refine Jp.qae hK16 ?_
      refine Cd.seq fun K19 hK19=>?_
      refine Cd.qac [(0,false),(1,false)] rfl rfl ?_
      refine Jp.y 88 rfl (qaa rfl) rfl rfl Kp.true (by exact Y.qah 11 rfl isAgg40 sizeOf40 rfl rfl (by first | rfl | assumption)) ?_
      refine Jp.qai 4 rfl (qaa rfl) rfl rfl sizeOf40 rfl rfl (by first | rfl | assumption) (by first | rfl | assumption) rfl (by first | rfl | assumption) (fun k _ _=>qas k) Kp.true ?_
      refine Jp.qae hK19 ?_
      refine Cd.ret [(0,_),(1,_),(2,_)] rfl (by exact qfb 4 rfl rfl isAgg40 sizeOf40 rfl (by first | rfl | assumption)) ⟨rfl,rfl,rfl,trivial⟩ ⟨rfl,rfl,rfl⟩
    ·skip
     refine JT.loud ?_
     refine Jp.alloc 11 11 rfl (qaa rfl) rfl rfl rfl zeroValue40 fun b11=>⟨Kp.true,?_⟩
     refine JT.tail (KT.st ⟨rfl,rfl,rfl,rfl,trivial⟩) ?_
     refine JT.loud ?_
     refine Jp.call [] [] hO 76 rfl (qaa rfl) rfl rfl (Runs.fn rfl call51 rfl) (by decide) (by decide) rfl trivial ?_
     rintro v3 ρ3 L3 ⟨rfl,rfl,rfl⟩
     refine ⟨rfl,fun hle3=>⟨Kp.true,?_⟩⟩
     refine JT.tail (KT.st ⟨rfl,rfl,rfl,rfl,trivial⟩) ?_
     refine JT.loud ?_
     refine Jp.call [1] [1] (qgw bx X r1 hX hi.r1) 83 rfl (qaa rfl) rfl rfl (Runs.fn rfl call39 rfl) (by decide) (by decide) rfl trivial ?_
     rintro v4 ρ4 L4 ⟨rfl,rfl,rfl⟩
     refine ⟨rfl,fun hle4=>⟨Kp.true,?_⟩⟩
     refine JT.tail (KT.st ⟨rfl,rfl,rfl,rfl,trivial⟩) ?_
     refine JT.loud ?_
     refine Jp.call [] [] (qhv (kindA op) (regP s r1) (opdP ⟨op,rd,r1,r2,imm⟩ s) (qcr X r1) u (qhr op) l1 hol (qcg hX hi.r1) hul) 85 rfl (qaa rfl) rfl rfl (Runs.fn rfl call50 rfl) (by decide) (by decide) rfl trivial ?_
     rintro v5 ρ5 L5 ⟨rfl,rfl,rfl⟩
     refine ⟨rfl,fun hle5=>⟨Kp.true,?_⟩⟩
     refine JT.tail (KT.st ⟨rfl,rfl,rfl,rfl,trivial⟩) ?_
     rw [hV]
     refine JT.q 67 rfl (qaa rfl) rfl rfl (Y.move rfl rfl) ?_
     refine JT.q 86 rfl (qaa rfl) rfl rfl (Y.extract rfl rfl rfl) ?_
     refine JT.q 87 rfl (qaa rfl) rfl rfl (Y.extract rfl rfl rfl) ?_
     refine JT.loud ?_
     refine Jp.qai 11 rfl (qaa rfl) rfl rfl sizeOf40 rfl rfl (by first | rfl | assumption) (by first | rfl | assumption) rfl (by first | rfl | assumption) (fun k _ _=>qas k) Kp.true ?_
     refine JT.tail (KT.st ⟨rfl,rfl,rfl,rfl,trivial⟩) ?_
     refine JT.q 12 rfl (qaa rfl) rfl rfl (Y.assign rfl rfl) ?_
     refine JT.nil ?_
     refine Jp.qae hK16 ?_
     refine Cd.seq fun K20 hK20=>?_
     refine Cd.qac [(0,false),(1,false)] rfl rfl ?_
     refine Jp.y 88 rfl (qaa rfl) rfl rfl Kp.true (by exact Y.qah 11 rfl isAgg40 sizeOf40 rfl rfl (by first | rfl | assumption)) ?_
     refine Jp.qai 4 rfl (qaa rfl) rfl rfl sizeOf40 rfl rfl (by first | rfl | assumption) (by first | rfl | assumption) rfl (by first | rfl | assumption) (fun k _ _=>qas k) Kp.true ?_
     refine Jp.qae hK20 ?_
     refine Cd.ret [(0,_),(1,_),(2,_)] rfl (by exact qfb 4 rfl rfl isAgg40 sizeOf40 rfl (by first | rfl | assumption)) ⟨rfl,rfl,rfl,trivial⟩ ⟨rfl,rfl,rfl⟩
   ·skip
    refine Cd.qar rfl (fun gc=>?_) (fun gc=>?_)
    ·skip
     have hl2 : (qaf (qcr X r2)).length = 4:=by rw [qaz,qcg hX hi.r2]
     have ho2:=qbe (qcr X r2)
     refine Cd.drawn [(0,_),(3,_)] ⟨rfl,rfl,trivial⟩ [(0,true),(1,true),(2,true),(3,true),(4,true),(5,true),(6,false),(7,false)] follows (by kernel_rfl) (fun hrl=>?_)
     refine Jp.q 54 rfl (qaa rfl) rfl rfl (Y.move rfl rfl) ?_
     refine Jp.q 55 rfl (qaa rfl) rfl rfl (Y.qan rfl rfl) ?_
     refine Jp.q 56 rfl (qaa rfl) rfl rfl (by exact Y.qad rfl rfl underlying74 rfl sizeOf72 (by decide) (show _ + 36 = _ from rfl)) ?_
     refine Jp.q 57 rfl (qaa rfl) rfl rfl (by exact Y.qbg 0 rfl isAgg72 rfl rfl (HasC.pt (machC_x hs))) ?_
     refine Jp.q 58 rfl (qaa rfl) rfl rfl (by exact Y.qad rfl rfl underlying60 rfl sizeOf3 (by decide) (show _ + 3 = _ from rfl)) ?_
     refine Jp.q 59 rfl (qaa rfl) rfl rfl (by exact Y.qau 3 rfl isAgg3 rfl rfl rfl) ?_
     refine Jp.call [1] [1] (qgw bx X r2 hX hi.r2) 60 rfl (qaa rfl) rfl rfl (Runs.fn rfl call39 rfl) (by decide) (by decide) rfl trivial ?_
     rintro v3 ρ3 L3 ⟨rfl,rfl,rfl⟩
     refine ⟨rfl,fun hle3=>⟨(Kp.st ⟨rfl,rfl,trivial⟩),?_⟩⟩
     first | refine Jp.qai 9 rfl (qaa rfl) rfl rfl sizeOf40 rfl rfl (by first | rfl | assumption) (by first | rfl | assumption) rfl (by first | rfl | assumption) (fun k _ _=>qas k) Kp.last ?_
     refine Jp.qae hK12 ?_
     exact Cd.qcz (hj1 (qcr X r2) (if_pos (by simp at gc; omega)).symm) ⟨rfl,rfl,rfl,rfl,rfl,trivial⟩ ⟨rfl,rfl,rfl,rfl,rfl,rfl,trivial⟩
    ·skip
     refine Cd.qbu hK12 ?_
     exact Cd.qcz (hj1 qgj (if_neg (by simp at gc; omega)).symm) ⟨rfl,rfl,rfl,rfl,rfl,trivial⟩ ⟨rfl,rfl,rfl,rfl,rfl,rfl,trivial⟩
end Go.Proofs.YtnfkalpgidiafaaGreat

namespace Go.Proofs.YtnfkalpgidiafaaGreat
open _root_.Go.Proofs.Tryz
open Go
def layT (M : MemG) (S : ShG) (X : qal) (pp : Bool) (i : InsP) (s : StP) : Int × ShG :=
 if (qdq M (addrP i s) (qcq i.op).1 2).2 = 0 then putM S (addrP i s) (qcq i.op).1 (qdr (qcr X i.r2) (ptrT X pp i.r1)) else (0,S)
theorem lay13_spec (bc bm bs bx : Nat) (M : MemG) (S : ShG) (s : StP) (X : qal) (pp : Bool) (so si : Value) (i : InsP) (hs : StOk s) (hi : InsOk i) (hX : X.length = 128) :
  Spec Tryz.prog 21 #[.pointer (some ⟨bc,0,none⟩),.agg i.cells.toArray] (fun _=>True)
   [(0,Pt bc (.cells (qfc bm bs s bx pp so si).toArray 74)),(1,Pt bx (.cells (qaf X).toArray 42)),(2,ShO bs S),(3,qew bm M)]
  (fun ρ ρ' v L=>v = .int .i64 (layT M S X pp i s).1 ∧ L = [(0,Pt bc (.cells (qfc bm bs s bx pp so si).toArray 74)),(1,Pt bx (.cells (qaf X).toArray 42)),(2,ShO bs (layT M S X pp i s).2),(3,qew bm M)]):=by
 obtain ⟨V,hV⟩ : ∃ V,layT M S X pp i s = V:=⟨_,rfl⟩
 rw [hV]
 unfold layT at hV
 have hA:=qdm i s hs hi
 have hal:=qgi i s
 have hP:=pointer_spec bc bm bs bx s X pp so si i hs hi hX
 have hSz:=qhf i.op
 obtain ⟨ad,had⟩ : ∃ ad,addrP i s = ad:=⟨_,rfl⟩
 rw [had] at hA hal hV
 obtain ⟨op,rd,r1,r2,imm⟩:=i
 dsimp only at hV hP hSz
 obtain ⟨szp,hsz⟩ : ∃ x,qcq op = x:=⟨_,rfl⟩
 rw [hsz] at hSz hV
 obtain ⟨sz,sg⟩:=szp
 dsimp only at hSz hV
 have hpl:=ptrT_len X pp r1
 have hll:=qcg hX hi.r2
 have hL:=qho bm M ad sz 2 hal
 obtain ⟨ldp,hld⟩ : ∃ x,qdq M ad sz 2 = x:=⟨_,rfl⟩
 rw [hld] at hL hV
 obtain ⟨lv,lf⟩:=ldp
 dsimp only at hL hV
 refine Spec.of 52 Tryz.func21 rfl Tryz.ntmps21 [(0,_),(1,_)] rfl rfl ?_
 intro cx ρ hr' h0
 have hsl:=StP.len hs
 have hso:=StP.one s
 refine Cd.seq fun K1 hK1=>?_
 refine Cd.qac [(0,false),(1,false)] rfl rfl ?_
 refine Jp.box 4 3 rfl (qaa rfl) rfl rfl rfl rfl fun b4=>⟨Kp.true,?_⟩
 refine Jp.y 4 rfl (qaa rfl) rfl rfl Kp.true (Y.assign rfl rfl) ?_
 refine Jp.qae hK1 ?_
 refine Cd.seq fun K2 hK2=>?_
 refine Cd.qac [(0,false),(1,false),(2,false),(3,false),(4,false),(5,false),(6,false),(7,false)] rfl rfl ?_
 refine Jp.y 11 rfl (qaa rfl) rfl rfl Kp.true (by exact Y.qad rfl rfl underlying60 rfl sizeOf3 (by decide) (show _ + 0 = _ from rfl)) ?_
 refine Jp.y 12 rfl (qaa rfl) rfl rfl Kp.true (by exact Y.qau 4 rfl isAgg3 rfl rfl rfl) ?_
 refine Jp.call [] [] hSz 13 rfl (qaa rfl) rfl rfl (Runs.fn rfl call41 rfl) (by decide) (by decide) rfl trivial ?_
 rintro v1 ρ1 L1 ⟨rfl,rfl,rfl⟩
 refine ⟨rfl,fun hle1=>⟨Kp.true,?_⟩⟩
 refine Jp.y 10 rfl (qaa rfl) rfl rfl Kp.true (Y.move rfl rfl) ?_
 refine Jp.y 14 rfl (qaa rfl) rfl rfl Kp.true (Y.extract rfl rfl rfl) ?_
 refine Jp.y 15 rfl (qaa rfl) rfl rfl Kp.true (Y.extract rfl rfl rfl) ?_
 refine Jp.y 5 rfl (qaa rfl) rfl rfl Kp.true (Y.assign rfl rfl) ?_
 refine Jp.y 6 rfl (qaa rfl) rfl rfl Kp.true (Y.assign rfl rfl) ?_
 refine Jp.qae hK2 ?_
 refine Cd.seq fun K3 hK3=>?_
 refine Cd.drawn [(0,_),(4,_)] ⟨rfl,rfl,trivial⟩ [(0,true),(1,true),(2,true),(3,true),(4,true),(5,false),(6,true)] follows (by kernel_rfl) (fun hrl=>?_)
 refine Jp.q 16 rfl (qaa rfl) rfl rfl (by exact Y.qah 4 rfl isAgg60 sizeOf60 rfl rfl (by first | rfl | assumption)) ?_
 refine Jp.q 17 rfl (qaa rfl) rfl rfl (Y.move rfl rfl) ?_
 refine Jp.q 18 rfl (qaa rfl) rfl rfl (Y.qan rfl rfl) ?_
 refine Jp.q 19 rfl (qaa rfl) rfl rfl (by exact Y.qad rfl rfl underlying74 rfl sizeOf27 (by decide) (show _ + 2 = _ from rfl)) ?_
 refine Jp.q 20 rfl (qaa rfl) rfl rfl (Y.qic 0 s.cells rfl isAgg27 sizeOf27 rfl rfl hsl (fun p v h=>machC_s hs p v h)) ?_
 refine Jp.call [] [] hA 21 rfl (qaa rfl) rfl rfl (Runs.fn rfl call42 rfl) (by decide) (by decide) rfl trivial ?_
 rintro v2 ρ2 L2 ⟨rfl,rfl,rfl⟩
 refine ⟨rfl,fun hle2=>⟨(Kp.st ⟨rfl,rfl,trivial⟩),?_⟩⟩
 refine Jp.q 7 rfl (qaa rfl) rfl rfl (Y.assign rfl rfl) ?_
 refine Jp.qae hK3 ?_
 refine Cd.seq fun K5 hK5=>?_
 refine Cd.seq fun K6 hK6=>?_
 refine Cd.qac [(0,false),(1,false),(2,false),(3,false),(4,false),(5,false),(6,false),(7,false),(8,false),(9,false),(10,false),(11,false)] rfl rfl ?_
 refine Jp.y 23 rfl (qaa rfl) rfl rfl Kp.true (Y.move rfl rfl) ?_
 refine Jp.y 24 rfl (qaa rfl) rfl rfl Kp.true (Y.qan rfl rfl) ?_
 refine Jp.y 25 rfl (qaa rfl) rfl rfl Kp.true (by exact Y.qad rfl rfl underlying74 rfl sizeOf33 (by decide) (show _ + 0 = _ from rfl)) ?_
 refine Jp.y 26 rfl (qaa rfl) rfl rfl Kp.true (by exact Y.qbg 0 rfl isAgg33 rfl rfl (HasC.pt machC_m)) ?_
 refine Jp.y 27 rfl (qaa rfl) rfl rfl Kp.true (Y.move rfl rfl) ?_
 refine Jp.y 28 rfl (qaa rfl) rfl rfl Kp.true (Y.move rfl rfl) ?_
 refine Jp.call [3] [3] hL 29 rfl (qaa rfl) rfl rfl (Runs.fn rfl call31 rfl) (by decide) (by decide) rfl trivial ?_
 rintro v3 ρ3 L3 ⟨rfl,rfl,rfl⟩
 refine ⟨rfl,fun hle3=>⟨Kp.true,?_⟩⟩
 refine Jp.y 22 rfl (qaa rfl) rfl rfl Kp.true (Y.move rfl rfl) ?_
 refine Jp.y 30 rfl (qaa rfl) rfl rfl Kp.true (Y.extract rfl rfl rfl) ?_
 refine Jp.y 31 rfl (qaa rfl) rfl rfl Kp.true (Y.extract rfl rfl rfl) ?_
 refine Jp.y 8 rfl (qaa rfl) rfl rfl Kp.true (Y.assign rfl rfl) ?_
 refine Jp.y 9 rfl (qaa rfl) rfl rfl Kp.true (Y.assign rfl rfl) ?_
 refine Jp.qae hK6 ?_
 refine Cd.seq fun K7 hK7=>?_
 refine Cd.qac [(0,false),(1,false)] rfl rfl ?_
 refine Jp.y 32 rfl (qaa rfl) rfl rfl Kp.true (Y.move rfl rfl) ?_
 refine Jp.y 33 rfl (qaa rfl) rfl rfl Kp.true (Y.neq rfl rfl rfl) ?_
 refine Jp.qae hK7 ?_
 refine Cd.qar rfl (fun ga=>?_) (fun ga=>?_)
 ·rw [if_neg (show ¬ lf = 0 by simpa using ga)] at hV
  subst hV
  refine Cd.seq fun K8 hK8=>?_
  refine Cd.qac [(0,false)] rfl rfl ?_
  refine Jp.y 4 rfl (qaa rfl) rfl rfl Kp.true (Y.assign rfl rfl) ?_
  refine Jp.qae hK8 ?_
  refine Cd.ret [(0,_),(1,_),(2,_),(3,_)] rfl (qbd rfl rfl) ⟨rfl,rfl,rfl,rfl,trivial⟩ ⟨rfl,rfl⟩
 ·rw [if_pos (show lf = 0 by simpa using ga)] at hV
  subst hV
  refine Cd.qbu hK5 ?_
  refine Cd.seq fun K9 hK9=>?_
  refine Cd.drawn [(0,_),(4,_)] ⟨rfl,rfl,trivial⟩ [(0,true),(1,true),(2,true),(3,true),(4,true),(5,true),(6,true),(7,true),(8,true),(9,true),(10,true),(11,true),(13,true),(14,true),(12,false),(15,false),(16,false),(17,false),(18,true)] follows (by kernel_rfl) (fun hrl=>?_)
  refine Jp.q 34 rfl (qaa rfl) rfl rfl (Y.move rfl rfl) ?_
  refine Jp.q 35 rfl (qaa rfl) rfl rfl (Y.qan rfl rfl) ?_
  refine Jp.q 36 rfl (qaa rfl) rfl rfl (by exact Y.qad rfl rfl underlying74 rfl sizeOf35 (by decide) (show _ + 1 = _ from rfl)) ?_
  refine Jp.q 37 rfl (qaa rfl) rfl rfl (by exact Y.qbg 0 rfl isAgg35 rfl rfl (HasC.pt machC_sh)) ?_
  refine Jp.q 38 rfl (qaa rfl) rfl rfl (Y.move rfl rfl) ?_
  refine Jp.q 39 rfl (qaa rfl) rfl rfl (Y.move rfl rfl) ?_
  refine Jp.q 40 rfl (qaa rfl) rfl rfl (Y.move rfl rfl) ?_
  refine Jp.q 41 rfl (qaa rfl) rfl rfl (Y.qan rfl rfl) ?_
  refine Jp.q 42 rfl (qaa rfl) rfl rfl (by exact Y.qad rfl rfl underlying74 rfl sizeOf72 (by decide) (show _ + 36 = _ from rfl)) ?_
  refine Jp.q 43 rfl (qaa rfl) rfl rfl (by exact Y.qbg 0 rfl isAgg72 rfl rfl (HasC.pt (machC_x hs))) ?_
  refine Jp.q 44 rfl (qaa rfl) rfl rfl (by exact Y.qad rfl rfl underlying60 rfl sizeOf3 (by decide) (show _ + 3 = _ from rfl)) ?_
  refine Jp.q 45 rfl (qaa rfl) rfl rfl (by exact Y.qau 4 rfl isAgg3 rfl rfl rfl) ?_
  refine Jp.q 47 rfl (qaa rfl) rfl rfl (Y.move rfl rfl) ?_
  refine Jp.q 48 rfl (qaa rfl) rfl rfl (by exact Y.qah 4 rfl isAgg60 sizeOf60 rfl rfl (by first | rfl | assumption)) ?_
  refine Jp.call [1] [1] (qgw bx X r2 hX hi.r2) 46 rfl (qaa rfl) rfl rfl (Runs.fn rfl call39 rfl) (by decide) (by decide) rfl trivial ?_
  rintro v4 ρ4 L4 ⟨rfl,rfl,rfl⟩
  refine ⟨rfl,fun hle4=>⟨(Kp.st ⟨rfl,rfl,trivial⟩),?_⟩⟩
  refine Jp.call [0,1] [0,1] hP 49 rfl (qaa rfl) rfl rfl (Runs.fn rfl call45 rfl) (by decide) (by decide) rfl trivial ?_
  rintro v5 ρ5 L5 ⟨rfl,rfl,rfl⟩
  refine ⟨rfl,fun hle5=>⟨(Kp.st ⟨rfl,rfl,trivial⟩),?_⟩⟩
  refine Jp.call [] [] (qea (qcr X r2) (ptrT X pp r1) hll hpl) 50 rfl (qaa rfl) rfl rfl (Runs.fn rfl call44 rfl) (by decide) (by decide) rfl trivial ?_
  rintro v6 ρ6 L6 ⟨rfl,rfl,rfl⟩
  refine ⟨rfl,fun hle6=>⟨(Kp.st ⟨rfl,rfl,trivial⟩),?_⟩⟩
  refine Jp.call [2] [2] (shPutN_spec bs S ad sz (qdr (qcr X r2) (ptrT X pp r1)) hal (qeb hll hpl)) 51 rfl (qaa rfl) rfl rfl (Runs.fn rfl call43 rfl) (by decide) (by decide) rfl trivial ?_
  rintro v7 ρ7 L7 ⟨rfl,rfl⟩
  refine ⟨rfl,fun hle7=>⟨(Kp.st' ⟨rfl,rfl,trivial⟩ hle7 (by rw [h0]; exact Hp.le_refl _)),?_⟩⟩
  refine Jp.q 4 rfl (qaa rfl) rfl rfl (Y.assign rfl rfl) ?_
  refine Jp.qae hK9 ?_
  refine Cd.ret [(0,_),(1,_),(2,_),(3,_)] rfl (qbd rfl rfl) ⟨rfl,rfl,rfl,rfl,trivial⟩ ⟨rfl,rfl⟩
end Go.Proofs.YtnfkalpgidiafaaGreat

namespace Go.Proofs.YtnfkalpgidiafaaGreat
open _root_.Go.Proofs.Tryz
open Go
structure SourceG where
 kind : Int
 arg : Nat
 flen : Nat
 label : Nat
def SourceG.cells (x : SourceG) : List Value:=[.int .i64 x.kind,.int .u32 (x.arg : Int),.int .u32 (x.flen : Int),.int .u8 (x.label : Int)]
structure SourceG.Rd (x : SourceG) (h : Hp) : Prop where
 kind : (Lit.int .i64 x.kind).wf = true
 arg : x.arg < 4294967296
 flen : x.flen < 4294967296
 label : x.label < 256
theorem SourceG.up (x : SourceG) : Up x.Rd:=fun h k l r=>⟨r.kind,r.arg,r.flen,r.label⟩
theorem SourceG.len (x : SourceG) : x.cells.length = 4:=rfl
def RdSourceGs (s : Sl SourceG) : qax:=RdRows 4 SourceG.cells SourceG.Rd s
theorem RdSourceGs.up (s : Sl SourceG) : Up (RdSourceGs s):=RdRows.up SourceG.up s
structure SinkG where
 kind : Int
 arg : Int
 mask : Nat
def SinkG.cells (x : SinkG) : List Value:=[.int .i64 x.kind,.int .i64 x.arg,.int .u8 (x.mask : Int)]
structure SinkG.Rd (x : SinkG) (h : Hp) : Prop where
 kind : (Lit.int .i64 x.kind).wf = true
 arg : (Lit.int .i64 x.arg).wf = true
 mask : x.mask < 256
theorem SinkG.up (x : SinkG) : Up x.Rd:=fun h k l r=>⟨r.kind,r.arg,r.mask⟩
theorem SinkG.len (x : SinkG) : x.cells.length = 3:=rfl
def RdSinkGs (s : Sl SinkG) : qax:=RdRows 3 SinkG.cells SinkG.Rd s
theorem RdSinkGs.up (s : Sl SinkG) : Up (RdSinkGs s):=RdRows.up SinkG.up s
structure PolG where
 pointer : Bool
 sources : Sl SourceG
 sinks : Sl SinkG
def PolG.cells (x : PolG) : List Value:=[.bool x.pointer,x.sources.v,x.sinks.v]
structure PolG.Rd (x : PolG) (h : Hp) : Prop where
 pointer : True
 sources : RdRows 4 SourceG.cells SourceG.Rd x.sources h
 sinks : RdRows 3 SinkG.cells SinkG.Rd x.sinks h
theorem PolG.up (x : PolG) : Up x.Rd:=fun h k l r=>⟨r.pointer,RdRows.up SourceG.up _ h k l r.sources,RdRows.up SinkG.up _ h k l r.sinks⟩
theorem PolG.len (x : PolG) : x.cells.length = 3:=rfl
def RdPolGs (s : Sl PolG) : qax:=RdRows 3 PolG.cells PolG.Rd s
theorem RdPolGs.up (s : Sl PolG) : Up (RdPolGs s):=RdRows.up PolG.up s
def hitB (kind arg : Int) (l : UInt8) (s : SinkG) : Bool:=s.kind == kind && (!(kind == 4) || s.arg == arg) && !((s.mask &&& l.toNat) == 0)
def qfl (f : SinkG → Bool) (xs : List SinkG) (k : Nat) : List Nat:=(List.range k).filter fun j=>(xs[j]?).any f
theorem hitsK_yes {f : SinkG → Bool} {xs : List SinkG} {k : Nat} {s : SinkG} (h : xs[k]? = some s) (hf : f s = true) : qfl f xs (k + 1) = qfl f xs k ++ [k]:=by
 unfold qfl
 rw [List.range_succ,List.filter_append]
 simp [h,hf]
theorem hitsK_no {f : SinkG → Bool} {xs : List SinkG} {k : Nat} {s : SinkG} (h : xs[k]? = some s) (hf : f s = false) : qfl f xs (k + 1) = qfl f xs k:=by
 unfold qfl
 rw [List.range_succ,List.filter_append]
 simp [h,hf]
theorem hitsK_len (f : SinkG → Bool) (xs : List SinkG) (k : Nat) : (qfl f xs k).length ≤ k:=by
 unfold qfl
 refine Nat.le_trans (List.length_filter_le _ _) ?_
 rw [List.length_range]
 exact Nat.le_refl _
theorem hits_spec (kind arg : Int) (l : UInt8) (p : PolG) (hn : p.sinks.xs.length ≤ 4096) : Spec Tryz.prog 40 #[.agg p.cells.toArray,.int .i64 kind,.int .i64 arg,.int .u8 (l.toNat : Int)] (RdSinkGs p.sinks) []
    (fun ρ ρ' v L=>ρ' = ρ ∧ ∃ A c,v = .slice A (qfl (hitB kind arg l) p.sinks.xs p.sinks.xs.length).length c ∧ L = [(0,OwnS 3 1 A (qfl (hitB kind arg l) p.sinks.xs p.sinks.xs.length).length c (qbk .i64 (qfl (hitB kind arg l) p.sinks.xs p.sinks.xs.length)))]):=by
  obtain ⟨pp,⟨Ao,co,so⟩,⟨A,c,xs⟩⟩:=p
  have hn : xs.length ≤ 4096:=hn
  obtain ⟨f,hf⟩ : ∃ f,hitB kind arg l = f:=⟨_,rfl⟩
  rw [hf]
  dsimp only [PolG.cells,Sl.v]
  have hll:=l.toNat_lt
  refine Spec.of 47 Tryz.func40 rfl Tryz.ntmps40 [(0,_),(1,_),(2,_),(3,_)] rfl rfl ?_
  intro cx ρ hr h0
  have hR : RdS 3 A xs.length c (xs.flatMap SinkG.cells) ρ:=hr.1
  refine Cd.seq fun K1 hK1=>?_
  refine Cd.qac [(0,false),(1,false)] rfl rfl ?_
  refine Jp.box 1 4 rfl (qaa rfl) rfl rfl rfl rfl fun b1=>⟨Kp.true,?_⟩
  refine Jp.y 8 rfl (qaa rfl) rfl rfl Kp.true (Y.assign rfl rfl) ?_
  refine Jp.qae hK1 ?_
  refine Cd.seq fun K2 hK2=>?_
  refine Cd.qac [(0,false)] rfl rfl ?_
  refine Jp.y 9 rfl (qaa rfl) rfl rfl Kp.true (Y.assign rfl rfl) ?_
  refine Jp.qae hK2 ?_
  refine Cd.seq fun K3 hK3=>?_
  refine Cd.seq fun K4 hK4=>?_
  refine Cd.qac [(0,false),(1,false),(2,false),(3,false)] rfl rfl ?_
  refine Jp.y 12 rfl (qaa rfl) rfl rfl Kp.true (by exact Y.qad rfl rfl underlying31 rfl sizeOf29 (by decide) (show _ + 2 = _ from rfl)) ?_
  refine Jp.y 13 rfl (qaa rfl) rfl rfl Kp.true (Y.qau 1 rfl isAgg29 rfl rfl rfl) ?_
  refine Jp.y 14 rfl (qaa rfl) rfl rfl Kp.true (Y.qbq rfl underlying29 rfl) ?_
  refine Jp.y 15 rfl (qaa rfl) rfl rfl Kp.true (Y.move rfl rfl) ?_
  refine Jp.qae hK4 ?_
  refine Cd.block ?_
  refine Cd.make 0 (show OwnS 3 1 none 0 0 (qbk .i64 (qfl f xs 0)) Hp.emp from OwnS.nil 3 1 Hp.emp) ?_
  refine Cd.loop (G:=Nat × Option Addr × Nat) (fun g=>g.1 ≤ xs.length) (fun g=>xs.length - g.1) (fun _=>ρ) (fun g=>[(1,.int .i64 kind),(2,.int .i64 arg),(3,.int .u8 (l.toNat : Int)),(13,.slice A xs.length c),(14,.int .i64 xs.length),(15,.int .i64 g.1),(9,.slice g.2.1 (qfl f xs g.1).length g.2.2)]) (fun g=>[(0,OwnS 3 1 g.2.1 (qfl f xs g.1).length g.2.2 (qbk .i64 (qfl f xs g.1)))]) (0,none,0) (Nat.zero_le _) rfl ⟨rfl,rfl,rfl,rfl,rfl,rfl,rfl,trivial⟩ ⟨rfl,trivial⟩ (fun g KLa hok hLa=>?_)
  obtain ⟨k,A2,c2⟩:=g
  dsimp only at hok ⊢
  refine Cd.seq fun K5 hK5=>?_
  refine Cd.qac [(0,false)] rfl rfl ?_
  refine Jp.y 16 rfl (qaa rfl) rfl rfl Kp.true (Y.lss rfl rfl rfl) ?_
  refine Jp.qae hK5 ?_
  refine Cd.seq fun K6 hK6=>?_
  refine Cd.qar rfl (fun ga=>?_) (fun ga=>?_)
  · simp only [decide_eq_true_eq] at ga
    have hk : k < xs.length:=by omega
    obtain ⟨s,hs⟩ : ∃ s,xs[k]? = some s:=⟨xs[k],by simp [hk]⟩
    obtain ⟨ad,hA,hC,hM⟩:=RdRows.at SinkG.len (by decide) hr hs
    have hA : A = some ad:=hA
    subst hA
    have hc0 : qed ρ ((ad.add (k * 3)).add 0) = some (.int .i64 s.kind):=hC 0 _ rfl
    have hc1 : qed ρ ((ad.add (k * 3)).add 1) = some (.int .i64 s.arg):=hC 1 _ rfl
    have hc2 : qed ρ ((ad.add (k * 3)).add 2) = some (.int .u8 (s.mask : Int)):=hC 2 _ rfl
    have hm : s.mask < 256:=hM.mask
    have hand : qci .and .u8 (s.mask : Int) (l.toNat : Int) = ((s.mask &&& l.toNat : Nat) : Int):=bits_and8 hm hll
    obtain ⟨s1,s2,s3⟩:=s
    dsimp only at hc0 hc1 hc2 hm hand
    obtain ⟨m3,hm3⟩ : ∃ x,s3 &&& l.toNat = x:=⟨_,rfl⟩
    rw [hm3] at hand
    have hand : qci .and .u8 (s3 : Int) (l.toNat : Int) = 0 ↔ m3 = 0:=by rw [hand]; omega
    have hfs : f ⟨s1,s2,s3⟩ = (s1 == kind && (!(kind == 4) || s2 == arg) && !(m3 == 0)):=by rw [← hf,← hm3]; rfl
    have hlk:=hitsK_len f xs k
    obtain ⟨q,hq⟩ : ∃ q,qfl f xs k = q:=⟨_,rfl⟩
    rw [hq] at hlk ⊢
    refine Cd.qbu hK6 ?_
    refine Cd.seq fun K7 hK7=>?_
    refine Cd.block ?_
    refine Cd.seq fun K8 hK8=>?_
    refine Cd.qac [(0,false),(1,false),(2,false),(3,false),(4,false),(5,false)] rfl rfl ?_
    refine Jp.y 17 rfl (qaa rfl) rfl rfl Kp.true (Y.move rfl rfl) ?_
    refine Jp.y 18 rfl (qaa rfl) rfl rfl Kp.true (Y.qbr (q:=k * 3) rfl rfl rfl underlying29 sizeOf154 (by omega) (by omega) (by omega)) ?_
    refine Jp.y 19 rfl (qaa rfl) rfl rfl Kp.true (Y.loadAggR [.int .i64 s1,.int .i64 s2,.int .u8 (s3 : Int)] rfl isAgg154 sizeOf154 rfl rfl hC) ?_
    refine Jp.alloc 2 11 rfl (qaa rfl) rfl rfl rfl zeroValue154 fun b2=>⟨Kp.true,?_⟩
    refine Jp.y 10 rfl (qaa rfl) rfl rfl Kp.true (Y.assign rfl rfl) ?_
    refine Jp.qcb 2 rfl (qaa rfl) rfl rfl sizeOf154 rfl rfl rfl rfl rfl rfl (fun k _ _=>qas k) Kp.true ?_
    refine Jp.qae hK8 ?_
    refine Cd.seq fun K9 hK9=>?_
    refine Cd.qac [(0,false),(1,false),(2,false),(3,false),(4,false),(5,false),(6,false),(7,false),(8,false),(9,false),(10,false),(11,false),(12,false),(13,false),(14,false),(15,false),(16,false),(17,false),(18,false),(19,false),(20,false)] rfl rfl ?_
    refine Jp.y 20 rfl (qaa rfl) rfl rfl Kp.true (by exact Y.qad rfl rfl underlying154 rfl sizeOf3 (by decide) (show _ + 0 = _ from rfl)) ?_
    refine Jp.y 21 rfl (qaa rfl) rfl rfl Kp.true (by exact Y.qau 2 rfl isAgg3 rfl rfl rfl) ?_
    refine Jp.y 22 rfl (qaa rfl) rfl rfl Kp.true (Y.move rfl rfl) ?_
    refine Jp.y 23 rfl (qaa rfl) rfl rfl Kp.true (Y.eql rfl rfl rfl) ?_
    refine Jp.y 24 rfl (qaa rfl) rfl rfl Kp.true (Y.move rfl rfl) ?_
    refine Jp.split 24 rfl (fun g24=>?_) (fun g24=>?_)
    · skip
      try simp only [sG0] at g24
      refine Jp.y 25 rfl (qab rfl rfl rfl rfl) rfl rfl Kp.true (Y.move rfl rfl) ?_
      refine Jp.y 26 rfl (qab rfl rfl rfl rfl) rfl rfl Kp.true (Y.neq rfl rfl rfl) ?_
      refine Jp.y 27 rfl (qab rfl rfl rfl rfl) rfl rfl Kp.true (Y.move rfl rfl) ?_
      refine Jp.split 27 rfl (fun g27=>?_) (fun g27=>?_)
      · skip
        try simp only [sG0] at g27
        refine Jp.qaq 28 rfl (qab rfl rfl rfl rfl) rfl rfl Kp.true ?_
        refine Jp.qaq 29 rfl (qab rfl rfl rfl rfl) rfl rfl Kp.true ?_
        refine Jp.qaq 30 rfl (qab rfl rfl rfl rfl) rfl rfl Kp.true ?_
        refine Jp.qaq 31 rfl (qab rfl rfl rfl rfl) rfl rfl Kp.true ?_
        refine Jp.y 32 rfl (qab rfl rfl rfl rfl) rfl rfl Kp.true (Y.qav rfl rfl rfl) ?_
        refine Jp.y 33 rfl (qaa rfl) rfl rfl Kp.true (Y.qav rfl rfl rfl) ?_
        refine Jp.y 34 rfl (qaa rfl) rfl rfl Kp.true (Y.move rfl rfl) ?_
        refine Jp.y 35 rfl (qab rfl rfl rfl rfl) rfl rfl Kp.true (by exact Y.qad rfl rfl underlying154 rfl sizeOf5 (by decide) (show _ + 2 = _ from rfl)) ?_
        refine Jp.y 36 rfl (qab rfl rfl rfl rfl) rfl rfl Kp.true (by exact Y.qau 2 rfl isAgg5 rfl rfl rfl) ?_
        refine Jp.y 37 rfl (qab rfl rfl rfl rfl) rfl rfl Kp.true (Y.move rfl rfl) ?_
        refine Jp.y 38 rfl (qab rfl rfl rfl rfl) rfl rfl Kp.true (Y.bits rfl rfl rfl rfl) ?_
        refine Jp.y 39 rfl (qab rfl rfl rfl rfl) rfl rfl Kp.true (Y.neq rfl rfl rfl) ?_
        refine Jp.y 40 rfl (qaa rfl) rfl rfl Kp.true (Y.qav rfl rfl rfl) ?_
        refine Jp.qae hK9 ?_
        refine Cd.qar rfl (fun g40=>?_) (fun g40=>?_)
        · skip
          try simp only [sG0] at g40
          have hy : f ⟨s1,s2,s3⟩ = true:=by
            have hm0 : ¬ m3 = 0:=fun h=>g40 (hand.2 h)
            rw [hfs]
            (simp [g24,g27,hm0]; done)
          have hyk:=hitsK_yes hs hy
          rw [hq] at hyk
          have hql : (q ++ [k]).length = q.length + 1:=by simp
          refine Cd.qac [(0,false),(1,false),(2,false),(3,false),(4,false)] rfl rfl ?_
          refine Jp.y 41 rfl (qaa rfl) rfl rfl Kp.true (Y.move rfl rfl) ?_
          refine Jp.y 42 rfl (qaa rfl) rfl rfl Kp.true (Y.move rfl rfl) ?_
          refine Jp.lit 43 3 [(0,_)] [_] rfl (qaa rfl) rfl rfl rfl rfl underlying115 sizeOf3 zeroValue3 rfl rfl rfl rfl rfl fun b3=>⟨Kp.true,?_⟩
          refine Jp.append 44 0 rfl (qaa rfl) rfl rfl rfl underlying115 underlying115 (.inl ⟨_,rfl⟩) sizeOf3 Tryz.typeInfo3 zeroValue3 rfl (by decide) rfl rfl rfl (Src.own 3 rfl) rfl ((q ++ [k]).length) ((qbk .i64 (q ++ [k]))) (by first | omega | simp) (by simp [qbk]) (by simp only [Tryz.t3]; omega) fun A1 c1=>⟨Kp.true,?_⟩
          refine Jp.y 9 rfl (qaa rfl) rfl rfl Kp.true (Y.assign rfl rfl) ?_
          refine Jp.over rfl hK7 ?_
          refine Cd.qac [(0,false),(1,false)] rfl rfl ?_
          refine Jp.y 45 rfl (qaa rfl) rfl rfl Kp.true (Y.qcj rfl rfl rfl (by exact qaj (by omega) (by omega))) ?_
          refine Jp.y 15 rfl (qaa rfl) rfl rfl Kp.true (Y.move rfl rfl) ?_
          rw [← hyk]
          refine Jp.again hLa (k + 1,A1,c1) (by dsimp only; omega) (by dsimp only; omega) rfl ⟨rfl,rfl,rfl,rfl,rfl,rfl,rfl,trivial⟩ ⟨rfl,trivial⟩
        · skip
          try simp only [sG0] at g40
          refine Cd.over rfl hK7 ?_
          refine Cd.qac [(0,false),(1,false)] rfl rfl ?_
          refine Jp.y 45 rfl (qaa rfl) rfl rfl Kp.true (Y.qcj rfl rfl rfl (by exact qaj (by omega) (by omega))) ?_
          refine Jp.y 15 rfl (qaa rfl) rfl rfl Kp.true (Y.move rfl rfl) ?_
          have hy : f ⟨s1,s2,s3⟩ = false:=by
            rw [hfs]
            (have hm0 : m3 = 0 := hand.1 g40
             simp [hm0]; done)
          have hyk:=hitsK_no hs hy
          rw [hq] at hyk
          rw [← hyk]
          refine Jp.again hLa (k + 1,A2,c2) (by dsimp only; omega) (by dsimp only; omega) rfl ⟨rfl,rfl,rfl,rfl,rfl,rfl,rfl,trivial⟩ ⟨rfl,trivial⟩
      · skip
        try simp only [sG0] at g27
        refine Jp.y 28 rfl (qab rfl rfl rfl rfl) rfl rfl Kp.true (by exact Y.qad rfl rfl underlying154 rfl sizeOf3 (by decide) (show _ + 1 = _ from rfl)) ?_
        refine Jp.y 29 rfl (qab rfl rfl rfl rfl) rfl rfl Kp.true (by exact Y.qau 2 rfl isAgg3 rfl rfl rfl) ?_
        refine Jp.y 30 rfl (qab rfl rfl rfl rfl) rfl rfl Kp.true (Y.move rfl rfl) ?_
        refine Jp.y 31 rfl (qab rfl rfl rfl rfl) rfl rfl Kp.true (Y.eql rfl rfl rfl) ?_
        refine Jp.y 32 rfl (qab rfl rfl rfl rfl) rfl rfl Kp.true (Y.qay rfl rfl rfl) ?_
        refine Jp.y 33 rfl (qaa rfl) rfl rfl Kp.true (Y.qav rfl rfl rfl) ?_
        refine Jp.y 34 rfl (qaa rfl) rfl rfl Kp.true (Y.move rfl rfl) ?_
        refine Jp.split 34 rfl (fun g34=>?_) (fun g34=>?_)
        · skip
          try simp only [sG0] at g34
          refine Jp.y 35 rfl (qab rfl rfl rfl rfl) rfl rfl Kp.true (by exact Y.qad rfl rfl underlying154 rfl sizeOf5 (by decide) (show _ + 2 = _ from rfl)) ?_
          refine Jp.y 36 rfl (qab rfl rfl rfl rfl) rfl rfl Kp.true (by exact Y.qau 2 rfl isAgg5 rfl rfl rfl) ?_
          refine Jp.y 37 rfl (qab rfl rfl rfl rfl) rfl rfl Kp.true (Y.move rfl rfl) ?_
          refine Jp.y 38 rfl (qab rfl rfl rfl rfl) rfl rfl Kp.true (Y.bits rfl rfl rfl rfl) ?_
          refine Jp.y 39 rfl (qab rfl rfl rfl rfl) rfl rfl Kp.true (Y.neq rfl rfl rfl) ?_
          refine Jp.y 40 rfl (qaa rfl) rfl rfl Kp.true (Y.qav rfl rfl rfl) ?_
          refine Jp.qae hK9 ?_
          refine Cd.qar rfl (fun g40=>?_) (fun g40=>?_)
          · skip
            try simp only [sG0] at g40
            have hy : f ⟨s1,s2,s3⟩ = true:=by
              have hm0 : ¬ m3 = 0:=fun h=>g40 (hand.2 h)
              rw [hfs]
              (simp [g24,g34,hm0]; done)
            have hyk:=hitsK_yes hs hy
            rw [hq] at hyk
            have hql : (q ++ [k]).length = q.length + 1:=by simp
            refine Cd.qac [(0,false),(1,false),(2,false),(3,false),(4,false)] rfl rfl ?_
            refine Jp.y 41 rfl (qaa rfl) rfl rfl Kp.true (Y.move rfl rfl) ?_
            refine Jp.y 42 rfl (qaa rfl) rfl rfl Kp.true (Y.move rfl rfl) ?_
            refine Jp.lit 43 3 [(0,_)] [_] rfl (qaa rfl) rfl rfl rfl rfl underlying115 sizeOf3 zeroValue3 rfl rfl rfl rfl rfl fun b3=>⟨Kp.true,?_⟩
            refine Jp.append 44 0 rfl (qaa rfl) rfl rfl rfl underlying115 underlying115 (.inl ⟨_,rfl⟩) sizeOf3 Tryz.typeInfo3 zeroValue3 rfl (by decide) rfl rfl rfl (Src.own 3 rfl) rfl ((q ++ [k]).length) ((qbk .i64 (q ++ [k]))) (by first | omega | simp) (by simp [qbk]) (by simp only [Tryz.t3]; omega) fun A1 c1=>⟨Kp.true,?_⟩
            refine Jp.y 9 rfl (qaa rfl) rfl rfl Kp.true (Y.assign rfl rfl) ?_
            refine Jp.over rfl hK7 ?_
            refine Cd.qac [(0,false),(1,false)] rfl rfl ?_
            refine Jp.y 45 rfl (qaa rfl) rfl rfl Kp.true (Y.qcj rfl rfl rfl (by exact qaj (by omega) (by omega))) ?_
            refine Jp.y 15 rfl (qaa rfl) rfl rfl Kp.true (Y.move rfl rfl) ?_
            rw [← hyk]
            refine Jp.again hLa (k + 1,A1,c1) (by dsimp only; omega) (by dsimp only; omega) rfl ⟨rfl,rfl,rfl,rfl,rfl,rfl,rfl,trivial⟩ ⟨rfl,trivial⟩
          · skip
            try simp only [sG0] at g40
            refine Cd.over rfl hK7 ?_
            refine Cd.qac [(0,false),(1,false)] rfl rfl ?_
            refine Jp.y 45 rfl (qaa rfl) rfl rfl Kp.true (Y.qcj rfl rfl rfl (by exact qaj (by omega) (by omega))) ?_
            refine Jp.y 15 rfl (qaa rfl) rfl rfl Kp.true (Y.move rfl rfl) ?_
            have hy : f ⟨s1,s2,s3⟩ = false:=by
              rw [hfs]
              (have hm0 : m3 = 0 := hand.1 g40
               simp [hm0]; done)
            have hyk:=hitsK_no hs hy
            rw [hq] at hyk
            rw [← hyk]
            refine Jp.again hLa (k + 1,A2,c2) (by dsimp only; omega) (by dsimp only; omega) rfl ⟨rfl,rfl,rfl,rfl,rfl,rfl,rfl,trivial⟩ ⟨rfl,trivial⟩
        · skip
          try simp only [sG0] at g34
          refine Jp.qaq 35 rfl (qab rfl rfl rfl rfl) rfl rfl Kp.true ?_
          refine Jp.qaq 36 rfl (qab rfl rfl rfl rfl) rfl rfl Kp.true ?_
          refine Jp.qaq 37 rfl (qab rfl rfl rfl rfl) rfl rfl Kp.true ?_
          refine Jp.qaq 38 rfl (qab rfl rfl rfl rfl) rfl rfl Kp.true ?_
          refine Jp.qaq 39 rfl (qab rfl rfl rfl rfl) rfl rfl Kp.true ?_
          refine Jp.y 40 rfl (qaa rfl) rfl rfl Kp.true (Y.qay rfl rfl rfl) ?_
          refine Jp.qae hK9 ?_
          refine Cd.qbz rfl ?_
          refine Cd.over rfl hK7 ?_
          refine Cd.qac [(0,false),(1,false)] rfl rfl ?_
          refine Jp.y 45 rfl (qaa rfl) rfl rfl Kp.true (Y.qcj rfl rfl rfl (by exact qaj (by omega) (by omega))) ?_
          refine Jp.y 15 rfl (qaa rfl) rfl rfl Kp.true (Y.move rfl rfl) ?_
          have hy : f ⟨s1,s2,s3⟩ = false:=by
            rw [hfs]
            (simp [g27,g34]; done)
          have hyk:=hitsK_no hs hy
          rw [hq] at hyk
          rw [← hyk]
          refine Jp.again hLa (k + 1,A2,c2) (by dsimp only; omega) (by dsimp only; omega) rfl ⟨rfl,rfl,rfl,rfl,rfl,rfl,rfl,trivial⟩ ⟨rfl,trivial⟩
    · skip
      try simp only [sG0] at g24
      refine Jp.qaq 25 rfl (qab rfl rfl rfl rfl) rfl rfl Kp.true ?_
      refine Jp.qaq 26 rfl (qab rfl rfl rfl rfl) rfl rfl Kp.true ?_
      refine Jp.qaq 27 rfl (qab rfl rfl rfl rfl) rfl rfl Kp.true ?_
      refine Jp.qaq 28 rfl (qdn rfl rfl rfl) rfl rfl Kp.true ?_
      refine Jp.qaq 29 rfl (qdn rfl rfl rfl) rfl rfl Kp.true ?_
      refine Jp.qaq 30 rfl (qdn rfl rfl rfl) rfl rfl Kp.true ?_
      refine Jp.qaq 31 rfl (qdn rfl rfl rfl) rfl rfl Kp.true ?_
      refine Jp.qaq 32 rfl (qab rfl rfl rfl rfl) rfl rfl Kp.true ?_
      refine Jp.y 33 rfl (qaa rfl) rfl rfl Kp.true (Y.qay rfl rfl rfl) ?_
      refine Jp.y 34 rfl (qaa rfl) rfl rfl Kp.true (Y.move rfl rfl) ?_
      refine Jp.qaq 35 rfl (qab rfl rfl rfl rfl) rfl rfl Kp.true ?_
      refine Jp.qaq 36 rfl (qab rfl rfl rfl rfl) rfl rfl Kp.true ?_
      refine Jp.qaq 37 rfl (qab rfl rfl rfl rfl) rfl rfl Kp.true ?_
      refine Jp.qaq 38 rfl (qab rfl rfl rfl rfl) rfl rfl Kp.true ?_
      refine Jp.qaq 39 rfl (qab rfl rfl rfl rfl) rfl rfl Kp.true ?_
      refine Jp.y 40 rfl (qaa rfl) rfl rfl Kp.true (Y.qay rfl rfl rfl) ?_
      refine Jp.qae hK9 ?_
      refine Cd.qbz rfl ?_
      refine Cd.over rfl hK7 ?_
      refine Cd.qac [(0,false),(1,false)] rfl rfl ?_
      refine Jp.y 45 rfl (qaa rfl) rfl rfl Kp.true (Y.qcj rfl rfl rfl (by exact qaj (by omega) (by omega))) ?_
      refine Jp.y 15 rfl (qaa rfl) rfl rfl Kp.true (Y.move rfl rfl) ?_
      have hy : f ⟨s1,s2,s3⟩ = false:=by
        rw [hfs]
        (simp [g24]; done)
      have hyk:=hitsK_no hs hy
      rw [hq] at hyk
      rw [← hyk]
      refine Jp.again hLa (k + 1,A2,c2) (by dsimp only; omega) (by dsimp only; omega) rfl ⟨rfl,rfl,rfl,rfl,rfl,rfl,rfl,trivial⟩ ⟨rfl,trivial⟩
  · simp only [decide_eq_false_iff_not] at ga
    obtain rfl : xs.length = k:=by omega
    refine Cd.exit rfl hK3 ?_
    refine Cd.seq fun K10 hK10=>?_
    refine Cd.qac [(0,false),(1,false)] rfl rfl ?_
    refine Jp.y 46 rfl (qaa rfl) rfl rfl Kp.true (Y.move rfl rfl) ?_
    refine Jp.y 8 rfl (qaa rfl) rfl rfl Kp.true (Y.assign rfl rfl) ?_
    refine Jp.qae hK10 ?_
    refine Cd.ret [(0,_)] rfl (qbd rfl rfl) ⟨rfl,trivial⟩ ?_
    exact ⟨rfl,A2,c2,rfl,rfl⟩
end Go.Proofs.YtnfkalpgidiafaaGreat

namespace Go.Proofs.YtnfkalpgidiafaaGreat
open _root_.Go.Proofs.Tryz
open Go
structure AlP where
 ret : Int
 pc : Nat
 sink : Nat
 lab : UInt8
def AlP.cells (a : AlP) : List Value:=[.int .i64 a.ret,.int .u32 (a.pc : Int),.int .i64 (a.sink : Int),.int .u8 (a.lab.toNat : Int)]
def watchP (op r1 : Nat) (s : StP) (X : qal) (sk : List SinkG) : List AlP :=
 if sinkP op = 0 then [] else (qfl (hitB (sinkP op) 0 (allT (qcr X r1))) sk sk.length).map fun k=>⟨s.ret,s.pc,k,allT (qcr X r1)⟩
def AlO (A : Option Addr) (c : Nat) (l : List AlP) : qax:=OwnS 118 4 A l.length c (l.flatMap AlP.cells)
theorem natsV_at (k : IntKind) {l : List Nat} {q x : Nat} (h : l[q]? = some x) : (qbk k l)[q]? = some (.int k x):=by rw [qbk,List.getElem?_map,h]; rfl
theorem als_snoc {q : List Nat} {F : Nat → AlP} {g k : Nat} (h : q[g]? = some k) : ((q.take g).map F).flatMap AlP.cells ++ (F k).cells = ((q.take (g + 1)).map F).flatMap AlP.cells:=by
 rw [List.take_add_one,h]
 simp
theorem watch_spec (i : InsP) (s : StP) (X : qal) (p : PolG) (hs : StOk s) (hi : InsOk i) (hX : X.length = 128) (hn : p.sinks.xs.length ≤ 4096) :
  Spec Tryz.prog 19 #[.agg i.cells.toArray,.agg s.cells.toArray,.agg (qaf X).toArray,.agg p.cells.toArray] (RdSinkGs p.sinks) []
  (fun ρ ρ' v L=>ρ' = ρ ∧ ∃ A c,v = .slice A (watchP i.op i.r1 s X p.sinks.xs).length c ∧ L = [(0,AlO A c (watchP i.op i.r1 s X p.sinks.xs))]):=by
 obtain ⟨op,rd,r1,r2,imm⟩:=i
 dsimp only
 obtain ⟨W,hW⟩ : ∃ W,watchP op r1 s X p.sinks.xs = W:=⟨_,rfl⟩
 rw [hW]
 unfold watchP at hW
 have hL:=qcg hX hi.r1
 dsimp only at hL
 have hH:=hits_spec (sinkP op : Int) 0 (allT (qcr X r1)) p hn
 obtain ⟨q,hq⟩ : ∃ q,qfl (hitB (sinkP op) 0 (allT (qcr X r1))) p.sinks.xs p.sinks.xs.length = q:=⟨_,rfl⟩
 have hql : q.length ≤ p.sinks.xs.length:=by rw [← hq]; exact hitsK_len _ _ _
 rw [hq] at hH hW
 refine Spec.of 44 Tryz.func19 rfl Tryz.ntmps19 [(0,_),(1,_),(2,_),(3,_)] rfl rfl ?_
 intro cx ρ hr h0
 have hsl:=StP.len hs
 have hso:=StP.one s
 have hXl : (qaf X).length = 128:=by rw [qaz,hX]
 have hXo:=qbe X
 refine Cd.seq fun K1 hK1=>?_
 refine Cd.qac [(0,false),(1,false),(2,false),(3,false),(4,false)] rfl rfl ?_
 refine Jp.box 4 4 rfl (qaa rfl) rfl rfl rfl rfl fun b4=>⟨Kp.true,?_⟩
 refine Jp.box 5 5 rfl (qaa rfl) rfl rfl rfl rfl fun b5=>⟨Kp.true,?_⟩
 refine Jp.box 6 6 rfl (qaa rfl) rfl rfl rfl rfl fun b6=>⟨Kp.true,?_⟩
 refine Jp.box 7 7 rfl (qaa rfl) rfl rfl rfl rfl fun b7=>⟨Kp.true,?_⟩
 refine Jp.y 8 rfl (qaa rfl) rfl rfl Kp.true (Y.assign rfl rfl) ?_
 refine Jp.qae hK1 ?_
 refine Cd.seq fun K2 hK2=>?_
 refine Cd.drawn [(4,_),(5,_),(7,_)] ⟨rfl,rfl,rfl,trivial⟩ [(0,true),(1,true),(3,true),(4,true),(2,false),(5,false),(6,false),(7,true),(8,true)] follows (by kernel_rfl) (fun hrl=>?_)
 refine Jp.q 14 rfl (qaa rfl) rfl rfl (by exact Y.qad rfl rfl underlying60 rfl sizeOf3 (by decide) (show _ + 0 = _ from rfl)) ?_
 refine Jp.q 15 rfl (qaa rfl) rfl rfl (by exact Y.qau 4 rfl isAgg3 rfl rfl rfl) ?_
 refine Jp.q 17 rfl (qaa rfl) rfl rfl (by exact Y.qad rfl rfl underlying60 rfl sizeOf3 (by decide) (show _ + 2 = _ from rfl)) ?_
 refine Jp.q 18 rfl (qaa rfl) rfl rfl (by exact Y.qau 4 rfl isAgg3 rfl rfl rfl) ?_
 refine Jp.call [] [] (sink_spec op) 16 rfl (qaa rfl) rfl rfl (Runs.fn rfl call37 rfl) (by decide) (by decide) rfl trivial ?_
 rintro v1 ρ1 L1 ⟨rfl,rfl,rfl⟩
 refine ⟨rfl,fun hle1=>⟨(Kp.st ⟨rfl,rfl,rfl,trivial⟩),?_⟩⟩
 refine Jp.call [6] [6] (qgw b6 X r1 hX hi.r1) 19 rfl (qaa rfl) rfl rfl (Runs.fn rfl call39 rfl) (by decide) (by decide) rfl trivial ?_
 rintro v2 ρ2 L2 ⟨rfl,rfl,rfl⟩
 refine ⟨rfl,fun hle2=>⟨(Kp.st ⟨rfl,rfl,rfl,trivial⟩),?_⟩⟩
 refine Jp.call [] [] (qcu (qcr X r1) hL) 20 rfl (qaa rfl) rfl rfl (Runs.fn rfl call38 rfl) (by decide) (by decide) rfl trivial ?_
 rintro v3 ρ3 L3 ⟨rfl,rfl,rfl⟩
 refine ⟨rfl,fun hle3=>⟨(Kp.st ⟨rfl,rfl,rfl,trivial⟩),?_⟩⟩
 refine Jp.q 9 rfl (qaa rfl) rfl rfl (Y.assign rfl rfl) ?_
 refine Jp.q 10 rfl (qaa rfl) rfl rfl (Y.assign rfl rfl) ?_
 refine Jp.qae hK2 ?_
 refine Cd.seq fun K4 hK4=>?_
 refine Cd.seq fun K5 hK5=>?_
 refine Cd.qac [(0,false),(1,false)] rfl rfl ?_
 refine Jp.y 21 rfl (qaa rfl) rfl rfl Kp.true (Y.move rfl rfl) ?_
 refine Jp.y 22 rfl (qaa rfl) rfl rfl Kp.true (Y.eql rfl rfl rfl) ?_
 refine Jp.qae hK5 ?_
 refine Cd.qar rfl (fun ga=>?_) (fun ga=>?_)
 ·rw [if_pos (show sinkP op = 0 by simp at ga; omega)] at hW
  subst hW
  refine Cd.seq fun K6 hK6=>?_
  refine Cd.qac [(0,false)] rfl rfl ?_
  refine Jp.y 8 rfl (qaa rfl) rfl rfl Kp.true (Y.assign rfl rfl) ?_
  refine Jp.qae hK6 ?_
  refine Cd.make 0 (show AlO none 0 [] Hp.emp from OwnS.nil 118 4 Hp.emp) ?_
  refine Cd.ret [(0,_)] rfl (qbd rfl rfl) ⟨rfl,trivial⟩ ?_
  exact ⟨rfl,none,0,rfl,rfl⟩
 ·rw [if_neg (show ¬ sinkP op = 0 by simp at ga; omega)] at hW
  refine Cd.qbu hK4 ?_
  refine Cd.seq fun K7 hK7=>?_
  refine Cd.qac [(0,false)] rfl rfl ?_
  refine Jp.y 11 rfl (qaa rfl) rfl rfl Kp.true (Y.assign rfl rfl) ?_
  refine Jp.qae hK7 ?_
  refine Cd.seq fun K8 hK8=>?_
  refine Cd.seq fun K9 hK9=>?_
  refine Cd.qac [(0,false),(1,false),(2,false),(3,false),(4,false),(5,false)] rfl rfl ?_
  refine Jp.y 23 rfl (qaa rfl) rfl rfl Kp.true (by exact Y.qah 7 rfl isAgg31 sizeOf31 rfl rfl (by first | rfl | assumption)) ?_
  refine Jp.y 24 rfl (qaa rfl) rfl rfl Kp.true (Y.move rfl rfl) ?_
  refine Jp.y 25 rfl (qaa rfl) rfl rfl Kp.true (Y.move rfl rfl) ?_
  refine Jp.call [] [1] hH 26 rfl (qaa rfl) rfl rfl (Runs.fn rfl call40 rfl) (by decide) (by decide) rfl hr ?_
  rintro v4 ρ4 L4 ⟨rfl,A1,c1,rfl,rfl⟩
  refine ⟨rfl,fun hle4=>⟨Kp.true,?_⟩⟩
  refine Jp.y 27 rfl (qaa rfl) rfl rfl Kp.true (Y.qbq rfl underlying115 rfl) ?_
  refine Jp.y 28 rfl (qaa rfl) rfl rfl Kp.true (Y.move rfl rfl) ?_
  refine Jp.qae hK9 ?_
  refine Cd.block ?_
  obtain ⟨lab,hlab⟩ : ∃ lab,allT (qcr X r1) = lab:=⟨_,rfl⟩
  rw [hlab] at hW ⊢
  obtain ⟨F,hF⟩ : ∃ F : Nat → AlP,(fun k=>(⟨s.ret,s.pc,k,lab⟩ : AlP)) = F:=⟨_,rfl⟩
  rw [hF] at hW
  refine Cd.make 0 (show OwnS 118 4 none 0 0 (((q.take 0).map F).flatMap AlP.cells) Hp.emp from OwnS.nil 118 4 Hp.emp) ?_
  refine Cd.loop (G:=Nat × Option Addr × Nat) (fun g=>g.1 ≤ q.length) (fun g=>q.length - g.1) (fun _=>ρ4) (fun g=>[(5,.pointer (some ⟨b5,0,none⟩)),(10,.int .u8 (lab.toNat : Int)),(26,.slice A1 q.length c1),(27,.int .i64 q.length),(28,.int .i64 g.1),(11,.slice g.2.1 g.1 g.2.2)]) (fun g=>[(5,Pt b5 (.cells s.cells.toArray 27)),(1,OwnS 3 1 A1 q.length c1 (qbk .i64 q)),(0,OwnS 118 4 g.2.1 g.1 g.2.2 (((q.take g.1).map F).flatMap AlP.cells))]) (0,none,0) (Nat.zero_le _) rfl ⟨rfl,rfl,rfl,rfl,rfl,rfl,trivial⟩ ⟨rfl,rfl,rfl,trivial⟩ (fun g KLa hok hLa=>?_)
  obtain ⟨k,A2,c2⟩:=g
  dsimp only at hok ⊢
  refine Cd.seq fun K10 hK10=>?_
  refine Cd.qac [(0,false)] rfl rfl ?_
  refine Jp.y 29 rfl (qaa rfl) rfl rfl Kp.true (Y.lss rfl rfl rfl) ?_
  refine Jp.qae hK10 ?_
  refine Cd.seq fun K11 hK11=>?_
  refine Cd.qar rfl (fun gb=>?_) (fun gb=>?_)
  ·simp only [decide_eq_true_eq] at gb
   have hk : k < q.length:=by omega
   obtain ⟨y,hy⟩ : ∃ y,q[k]? = some y:=⟨q[k],by simp [hk]⟩
   refine Cd.ownAt 1 rfl (show 0 < q.length by omega) ?_
   rintro b1 rfl
   have hc0:=OwnS.hasC (e:=3) (m:=1) (k:=q.length) (c:=c1) (ad:=⟨b1,0,none⟩) (natsV_at .i64 hy)
   have hsn:=als_snoc (F:=F) hy
   have hFy : (F y).cells = [Value.int .i64 s.ret,.int .u32 (s.pc : Int),.int .i64 (y : Int),.int .u8 (lab.toNat : Int)]:=by rw [← hF]; rfl
   rw [hFy] at hsn
   refine Cd.qbu hK11 ?_
   refine Cd.seq fun K12 hK12=>?_
   refine Cd.block ?_
   refine Cd.seq fun K13 hK13=>?_
   refine Cd.qac [(0,false),(1,false),(2,false)] rfl rfl ?_
   refine Jp.y 30 rfl (qaa rfl) rfl rfl Kp.true (Y.qbr (q:=k) rfl rfl rfl underlying115 sizeOf3 (by omega) (by omega) (by omega)) ?_
   refine Jp.y 31 rfl (qaa rfl) rfl rfl Kp.true (by exact Y.qbg 1 rfl isAgg3 rfl rfl hc0) ?_
   refine Jp.y 13 rfl (qaa rfl) rfl rfl Kp.true (Y.assign rfl rfl) ?_
   refine Jp.qae hK13 ?_
   refine Cd.qac [(0,false),(1,false),(2,false),(3,false),(4,false),(5,false),(6,false),(7,false),(8,false),(9,false),(10,false)] rfl rfl ?_
   refine Jp.y 32 rfl (qaa rfl) rfl rfl Kp.true (Y.move rfl rfl) ?_
   refine Jp.y 33 rfl (qaa rfl) rfl rfl Kp.true (by exact Y.qad rfl rfl underlying27 rfl sizeOf2 (by decide) (show _ + 33 = _ from rfl)) ?_
   refine Jp.y 34 rfl (qaa rfl) rfl rfl Kp.true (by exact Y.qbg 5 rfl isAgg2 rfl rfl (HasC.pt (StP.cRet hs))) ?_
   refine Jp.y 35 rfl (qaa rfl) rfl rfl Kp.true (by exact Y.qad rfl rfl underlying27 rfl sizeOf24 (by decide) (show _ + 32 = _ from rfl)) ?_
   refine Jp.y 36 rfl (qaa rfl) rfl rfl Kp.true (by exact Y.qbg 5 rfl isAgg24 rfl rfl (HasC.pt (StP.cPc hs))) ?_
   refine Jp.y 37 rfl (qaa rfl) rfl rfl Kp.true (Y.move rfl rfl) ?_
   refine Jp.y 38 rfl (qaa rfl) rfl rfl Kp.true (Y.move rfl rfl) ?_
   refine Jp.y 39 rfl (qaa rfl) rfl rfl Kp.true (Y.struct [(0,_),(1,_),(2,_),(3,_)] [_,_,_,_] rfl rfl places118 zeroValue118 rfl) ?_
   refine Jp.lit 40 3 [(0,_)] [_,_,_,_] rfl (qaa rfl) rfl rfl rfl rfl underlying43 sizeOf118 zeroValue118 rfl rfl rfl rfl rfl fun b3=>⟨Kp.true,?_⟩
   refine Jp.append 41 0 rfl (qaa rfl) rfl rfl rfl underlying43 underlying43 (.inl ⟨_,rfl⟩) sizeOf118 Tryz.typeInfo118 zeroValue118 rfl (by decide) rfl rfl rfl (Src.own 3 rfl) rfl (k + 1) ((((q.take (k + 1)).map F).flatMap AlP.cells)) (by first | omega | simp) hsn (by simp only [Tryz.t118]; omega) fun A2 c2=>⟨Kp.true,?_⟩
   refine Jp.y 11 rfl (qaa rfl) rfl rfl Kp.true (Y.assign rfl rfl) ?_
   refine Jp.over rfl hK12 ?_
   refine Cd.qac [(0,false),(1,false)] rfl rfl ?_
   refine Jp.y 42 rfl (qaa rfl) rfl rfl Kp.true (Y.qcj rfl rfl rfl (by exact qaj (by omega) (by omega))) ?_
   refine Jp.y 28 rfl (qaa rfl) rfl rfl Kp.true (Y.move rfl rfl) ?_
   refine Jp.again hLa (k + 1,A2,c2) (by dsimp only; omega) (by dsimp only; omega) rfl ⟨rfl,rfl,rfl,rfl,rfl,rfl,trivial⟩ ⟨rfl,rfl,rfl,trivial⟩
  ·simp only [decide_eq_false_iff_not] at gb
   obtain rfl : q.length = k:=by omega
   have hWl : W.length = q.length:=by rw [← hW,List.length_map]
   rw [List.take_of_length_le (Nat.le_refl _),hW]
   rw [← hWl]
   refine Cd.exit rfl hK8 ?_
   refine Cd.seq fun K14 hK14=>?_
   refine Cd.qac [(0,false),(1,false)] rfl rfl ?_
   refine Jp.y 43 rfl (qaa rfl) rfl rfl Kp.true (Y.move rfl rfl) ?_
   refine Jp.y 8 rfl (qaa rfl) rfl rfl Kp.true (Y.assign rfl rfl) ?_
   refine Jp.qae hK14 ?_
   refine Cd.ret [(0,_)] rfl (qbd rfl rfl) ⟨rfl,trivial⟩ ?_
   exact ⟨rfl,A2,c2,rfl,rfl⟩
end Go.Proofs.YtnfkalpgidiafaaGreat

namespace Go.Proofs.YtnfkalpgidiafaaGreat
open _root_.Go.Proofs.Tryz
open Go
structure FlS where
 s : StP
 x : qal
 al : List AlP
 ev : EvP
 er : Int
 m : MemG
 sh : ShG
def setL (X t : qal) (r : Nat) : qal:=X.take (r * 4) ++ t ++ X.drop (r * 4 + 4)
theorem setL_len {X t : qal} {r : Nat} (hX : X.length = 128) (ht : t.length = 4) (hr : r < 32) : (setL X t r).length = 128:=by
 simp [setL,hX,ht]; omega
theorem spl_setL {X t : qal} {r : Nat} (hX : X.length = 128) (ht : t.length = 4) (hr : r < 32) : spl (qaf X).toArray (r * 4) (qaf t) = (qaf (setL X t r)).toArray:=by
 apply Array.ext_getElem?
 intro j
 have htl : (qaf t).length = 4:=by rw [qaz,ht]
 rw [spl_get (qaf t) (qaf X).toArray (r * 4) j (by rw [htl,qfg,hX]; omega),htl]
 simp only [List.getElem?_toArray,qaf,setL,List.map_append,List.map_take,List.map_drop]
 have hl1 : ((X.map fun b : UInt8=>Value.int .u8 (b.toNat : Int)).take (r * 4)).length = r * 4:=by simp [hX]; omega
 have hl2 : (t.map fun b : UInt8=>Value.int .u8 (b.toNat : Int)).length = 4:=by simp [ht]
 by_cases h : r * 4 ≤ j ∧ j < r * 4 + 4
 ·rw [if_pos h,List.getElem?_append_left (by rw [List.length_append,hl1,hl2]; omega),List.getElem?_append_right (by rw [hl1]; omega),hl1]
 ·rw [if_neg h]
  by_cases h1 : j < r * 4
  ·rw [List.getElem?_append_left (by rw [List.length_append,hl1,hl2]; omega),List.getElem?_append_left (by rw [hl1]; omega),List.getElem?_take,if_pos h1]
  ·rw [List.getElem?_append_right (by rw [List.length_append,hl1,hl2]; omega),List.length_append,hl1,hl2,List.getElem?_drop,show r * 4 + 4 + (j - (r * 4 + 4)) = j by omega]
theorem splL_app : ∀ (cs pre mid suf : List Value),mid.length = cs.length → splL (pre ++ (mid ++ suf)) pre.length cs = pre ++ (cs ++ suf)
 | [],pre,mid,suf,h=>by
  cases mid with
  | nil=>rfl
  | cons x l=>simp at h
 | c :: cs,pre,mid,suf,h=>by
  cases mid with
  | nil=>simp at h
  | cons x l =>
   have:=splL_app cs (pre ++ [c]) l suf (by simpa using h)
   rw [splL]
   have e : (pre ++ (x :: l ++ suf)).set pre.length c = pre ++ [c] ++ (l ++ suf):=by simp
   rw [e,show pre.length + 1 = (pre ++ [c]).length by simp,this]
   simp
theorem qes {place : Nat → Option (Nat × Nat)} {cells cs : List Value} {i off size : Nat} {v : Value} {rest : List (Nat × Value)} (h : place i = some (off,size)) (hv : v.cells.toList = cs) (h1 : cs.length = size) (h2 : off + size ≤ cells.length) : qha place cells ((i,v) :: rest) = qha place (splL cells off cs) rest:=by
 rw [qha,h]
 simp only [hv,h1,Nat.beq_refl,Nat.ble_eq_true_of_le h2,Bool.and_self,cond_true]
def machZ : List Value:=[.pointer none,.pointer none,.int .u32 0,.int .u32 0,.int .u32 0,.int .u32 0,.int .u32 0,.int .u32 0,.int .u32 0,.int .u32 0,.int .u32 0,.int .u32 0,.int .u32 0,.int .u32 0,.int .u32 0,.int .u32 0,.int .u32 0,.int .u32 0,.int .u32 0,.int .u32 0,.int .u32 0,.int .u32 0,.int .u32 0,.int .u32 0,.int .u32 0,.int .u32 0,.int .u32 0,.int .u32 0,.int .u32 0,.int .u32 0,.int .u32 0,.int .u32 0,.int .u32 0,.int .u32 0,.int .u32 0,.int .i64 0,.pointer none,.bool false,.slice none 0 0,.slice none 0 0]
theorem fill_mach {bm bs bx : Nat} {s : StP} (hs : StOk s) (p : PolG) : qha (nth [(0,1),(1,1),(2,34),(36,1),(37,3)]) machZ [(0,.pointer (some ⟨bm,0,none⟩)),(1,.pointer (some ⟨bs,0,none⟩)),(2,.agg s.cells.toArray),(3,.pointer (some ⟨bx,0,none⟩)),(4,.agg p.cells.toArray)] = some (qfc bm bs s bx p.pointer p.sources.v p.sinks.v):=by
 have hl:=StP.len hs
 rw [qes (cs:=[.pointer (some ⟨bm,0,none⟩)]) rfl rfl rfl (Nat.le_of_ble_eq_true rfl)]
 rw [show splL machZ 0 [.pointer (some ⟨bm,0,none⟩)] = [.pointer (some ⟨bm,0,none⟩)] ++ machZ.drop 1 from rfl]
 rw [qes (cs:=[.pointer (some ⟨bs,0,none⟩)]) rfl rfl rfl (Nat.le_of_ble_eq_true rfl)]
 rw [show splL ([.pointer (some ⟨bm,0,none⟩)] ++ machZ.drop 1) 1 [.pointer (some ⟨bs,0,none⟩)] = [.pointer (some ⟨bm,0,none⟩),.pointer (some ⟨bs,0,none⟩)] ++ ((machZ.drop 2).take 34 ++ machZ.drop 36) from rfl]
 rw [qes (cs:=s.cells) rfl rfl hl (Nat.le_of_ble_eq_true rfl)]
 rw [show (2 : Nat) = ([.pointer (some ⟨bm,0,none⟩),.pointer (some ⟨bs,0,none⟩)] : List Value).length from rfl,splL_app s.cells _ _ _ (by rw [hl]; rfl)]
 have hp : ([.pointer (some ⟨bm,0,none⟩),.pointer (some ⟨bs,0,none⟩)] ++ s.cells : List Value).length = 36:=by rw [List.length_append,hl]; rfl
 have hp2 : ([.pointer (some ⟨bm,0,none⟩),.pointer (some ⟨bs,0,none⟩)] ++ s.cells ++ [.pointer (some ⟨bx,0,none⟩)] : List Value).length = 37:=by rw [List.length_append,hp]; rfl
 rw [qes (cs:=[.pointer (some ⟨bx,0,none⟩)]) rfl rfl rfl (by rw [List.length_append,List.length_append,hl]; exact Nat.le_of_ble_eq_true rfl)]
 rw [← List.append_assoc]
 have e1:=splL_app [.pointer (some ⟨bx,0,none⟩)] ([.pointer (some ⟨bm,0,none⟩),.pointer (some ⟨bs,0,none⟩)] ++ s.cells) [.pointer none] (machZ.drop 37) rfl
 rw [hp] at e1
 rw [show machZ.drop 36 = [.pointer none] ++ machZ.drop 37 from rfl,e1]
 rw [qes (cs:=p.cells) rfl rfl rfl (by rw [List.length_append,hp]; exact Nat.le_of_ble_eq_true rfl)]
 have e2:=splL_app p.cells ([.pointer (some ⟨bm,0,none⟩),.pointer (some ⟨bs,0,none⟩)] ++ s.cells ++ [.pointer (some ⟨bx,0,none⟩)]) (machZ.drop 37) [] rfl
 rw [hp2,List.append_nil,List.append_nil] at e2
 rw [← List.append_assoc,e2,qha]
 simp [qfc,PolG.cells]
theorem doInsP_len {M : MemG} {i : InsP} {s : StP} (hs : StOk s) : (qfi M i s).1.cells.length = 34:=by
 unfold qfi
 have:=hs.len
 repeat' split
 all_goals simp [outP,StP.cells,qbk,this]
theorem stepP_len {M : MemG} {s : StP} (hs : StOk s) : (qdo M s).1.cells.length = 34:=by
 unfold qdo
 split
 ·exact doInsP_len hs
 ·exact StP.len hs
def layF (M : MemG) (S : ShG) (X : qal) (pp : Bool) (i : InsP) (s : StP) : Int × ShG:=if storesP i.op = true then layT M S X pp i s else (0,S)
def newL (S : ShG) (X : qal) (pp : Bool) (i : InsP) (s : StP) : qal:=if qdb i.op = true then setL X (valueT S X pp i s) i.rd else X
theorem valueT_len {S : ShG} {X : qal} {pp : Bool} {i : InsP} {s : StP} (hX : X.length = 128) (hi : InsOk i) : (valueT S X pp i s).length = 4:=by
 unfold valueT
 split
 ·exact qeb ((qgx _ _ _).trans (tagM_len _ _ _)) (ptrT_len _ _ _)
 ·split
  ·exact flowT_len _ _ _ (qcg hX hi.r1) (by split; exact qcg hX hi.r2; rfl)
  ·rfl
def qgk (M : MemG) (S : ShG) (s : StP) (X : qal) (pp : Bool) (sk : List SinkG) : FlS :=
 if (qbs M s.pc).2.kind = 0 then
  if (layF M S X pp (qbs M s.pc).1 s).1 = 0 then
   if (qdo M s).2.1.kind = 0 then ⟨(qdo M s).1,setL (newL (layF M S X pp (qbs M s.pc).1 s).2 X pp (qbs M s.pc).1 s) qgj 0,watchP (qbs M s.pc).1.op (qbs M s.pc).1.r1 s X sk,(qdo M s).2.1,0,(qdo M s).2.2,(layF M S X pp (qbs M s.pc).1 s).2⟩
   else ⟨s,X,watchP (qbs M s.pc).1.op (qbs M s.pc).1.r1 s X sk,(qdo M s).2.1,0,(qdo M s).2.2,(layF M S X pp (qbs M s.pc).1 s).2⟩
  else ⟨s,X,[],noEv,(layF M S X pp (qbs M s.pc).1 s).1,M,(layF M S X pp (qbs M s.pc).1 s).2⟩
 else ⟨s,X,[],(qbs M s.pc).2,0,M,S⟩
theorem insC1 (i : InsP) : i.cells.toArray[1]? = some (.int .i64 (i.rd : Int)):=rfl
def flowV (G : FlS) (A : Option Addr) (c : Nat) : Value:=.tuple #[.agg G.s.cells.toArray,.agg (qaf G.x).toArray,.slice A G.al.length c,.agg G.ev.cells.toArray,.int .i64 G.er]
theorem qgq (bm bs : Nat) (M : MemG) (S : ShG) (s : StP) (X : qal) (p : PolG) (hs : StOk s) (hX : X.length = 128) (hn : p.sinks.xs.length ≤ 4096) :
  Spec Tryz.prog 8 #[.pointer (some ⟨bm,0,none⟩),.pointer (some ⟨bs,0,none⟩),.agg s.cells.toArray,.agg (qaf X).toArray,.agg p.cells.toArray] (RdSinkGs p.sinks) [(0,qew bm M),(1,ShO bs S)]
  (fun ρ ρ' v L=>∃ A c,v = flowV (qgk M S s X p.pointer p.sinks.xs) A c ∧ L = [(0,qew bm (qgk M S s X p.pointer p.sinks.xs).m),(1,ShO bs (qgk M S s X p.pointer p.sinks.xs).sh),(2,AlO A c (qgk M S s X p.pointer p.sinks.xs).al)]):=by
 obtain ⟨G,hG⟩ : ∃ G,qgk M S s X p.pointer p.sinks.xs = G:=⟨_,rfl⟩
 rw [hG]
 unfold qgk at hG
 have hF:=fetch_spec bm M s.pc hs.pc (qhp M s.pc 4 (by omega) 4)
 have hi:=fetchP_ok M s.pc
 obtain ⟨F,hFe⟩ : ∃ F,qbs M s.pc = F:=⟨_,rfl⟩
 rw [hFe] at hF hi hG
 obtain ⟨i,⟨kd,ead,wy⟩⟩:=F
 dsimp only at hF hi hG
 have hil : i.cells.length = 5:=rfl
 have hio : i.cells.all one = true:=by unfold InsP.cells; simp [one]
 have hW:=watch_spec i s X p hs hi hX hn
 obtain ⟨W,hWe⟩ : ∃ W,watchP i.op i.r1 s X p.sinks.xs = W:=⟨_,rfl⟩
 rw [hWe] at hW hG
 have hLy : ∀ bc bx,Spec _ _ _ _ _ _:=fun bc bx=>lay13_spec bc bm bs bx M S s X p.pointer p.sources.v p.sinks.v i hs hi hX
 have hVl':=fun bc bx S'=>value13_spec bc bm bs bx S' s X p.pointer p.sources.v p.sinks.v i hs hi hX
 have hSt:=step_spec bm M s hs
 obtain ⟨D,hD⟩ : ∃ D,qdo M s = D:=⟨_,rfl⟩
 rw [hD] at hSt hG
 obtain ⟨s2,⟨kd2,ead2,wy2⟩,M2⟩:=D
 dsimp only at hSt hG
 have hs2l : s2.cells.length = 34:=by
  have e : (qdo M s).1 = s2:=by rw [hD]
  rw [← e]
  exact stepP_len hs
 have hs2o:=StP.one s2
 refine Spec.of 91 Tryz.func8 rfl Tryz.ntmps8 [(0,_),(1,_),(2,_),(3,_),(4,_)] rfl rfl ?_
 intro cx ρ hr h0
 have hsl:=StP.len hs
 have hso:=StP.one s
 have hXl : (qaf X).length = 128:=by rw [qaz,hX]
 have hXo:=qbe X
 have hpl : p.cells.length = 3:=rfl
 have hpo : p.cells.all one = true:=by unfold PolG.cells; simp [one,Sl.v]
 refine Cd.seq fun K1 hK1=>?_
 refine Cd.qac [(0,false),(1,false),(2,false),(3,false),(4,false),(5,false),(6,false),(7,false)] rfl rfl ?_
 refine Jp.box 7 7 rfl (qaa rfl) rfl rfl rfl rfl fun b7=>⟨Kp.true,?_⟩
 refine Jp.box 8 8 rfl (qaa rfl) rfl rfl rfl rfl fun b8=>⟨Kp.true,?_⟩
 refine Jp.box 9 9 rfl (qaa rfl) rfl rfl rfl rfl fun b9=>⟨Kp.true,?_⟩
 refine Jp.alloc 10 10 rfl (qaa rfl) rfl rfl rfl zeroValue27 fun b10=>⟨Kp.true,?_⟩
 refine Jp.alloc 11 11 rfl (qaa rfl) rfl rfl rfl zeroValue42 fun b11=>⟨Kp.true,?_⟩
 refine Jp.y 12 rfl (qaa rfl) rfl rfl Kp.true (Y.assign rfl rfl) ?_
 refine Jp.alloc 13 13 rfl (qaa rfl) rfl rfl rfl zeroValue46 fun b13=>⟨Kp.true,?_⟩
 refine Jp.y 14 rfl (qaa rfl) rfl rfl Kp.true (Y.assign rfl rfl) ?_
 refine Jp.qae hK1 ?_
 refine Cd.seq fun K2 hK2=>?_
 refine Cd.qac [(0,false),(1,false),(2,false),(3,false),(4,false),(5,false),(6,false),(7,false),(8,false),(9,false),(10,false)] rfl rfl ?_
 refine Jp.y 23 rfl (qaa rfl) rfl rfl Kp.true (Y.move rfl rfl) ?_
 refine Jp.y 24 rfl (qaa rfl) rfl rfl Kp.true (by exact Y.qad rfl rfl underlying27 rfl sizeOf24 (by decide) (show _ + 32 = _ from rfl)) ?_
 refine Jp.y 25 rfl (qaa rfl) rfl rfl Kp.true (by exact Y.qbg 7 rfl isAgg24 rfl rfl (HasC.pt (StP.cPc hs))) ?_
 refine Jp.call [0] [0] hF 26 rfl (qaa rfl) rfl rfl (Runs.fn rfl call18 rfl) (by decide) (by decide) rfl trivial ?_
 rintro v1 ρ1 L1 ⟨rfl,rfl,rfl⟩
 refine ⟨rfl,fun hle1=>⟨Kp.true,?_⟩⟩
 refine Jp.y 22 rfl (qaa rfl) rfl rfl Kp.true (Y.move rfl rfl) ?_
 refine Jp.y 27 rfl (qaa rfl) rfl rfl Kp.true (Y.extract rfl rfl rfl) ?_
 refine Jp.y 28 rfl (qaa rfl) rfl rfl Kp.true (Y.extract rfl rfl rfl) ?_
 refine Jp.alloc 15 15 rfl (qaa rfl) rfl rfl rfl zeroValue60 fun b15=>⟨Kp.true,?_⟩
 refine Jp.alloc 16 16 rfl (qaa rfl) rfl rfl rfl zeroValue46 fun b16=>⟨Kp.true,?_⟩
 refine Jp.qai 15 rfl (qaa rfl) rfl rfl sizeOf60 rfl rfl (by first | rfl | assumption) (by first | rfl | assumption) rfl (by first | rfl | assumption) (fun k _ _=>qas k) Kp.true ?_
 refine Jp.qai 16 rfl (qaa rfl) rfl rfl sizeOf46 rfl rfl (by first | rfl | assumption) (by first | rfl | assumption) rfl (by first | rfl | assumption) (fun k _ _=>qas k) Kp.true ?_
 refine Jp.qae hK2 ?_
 refine Cd.seq fun K3 hK3=>?_
 refine Cd.seq fun K4 hK4=>?_
 refine Cd.qac [(0,false),(1,false),(2,false)] rfl rfl ?_
 refine Jp.y 29 rfl (qaa rfl) rfl rfl Kp.true (by exact Y.qad rfl rfl underlying46 rfl sizeOf3 (by decide) (show _ + 0 = _ from rfl)) ?_
 refine Jp.y 30 rfl (qaa rfl) rfl rfl Kp.true (by exact Y.qau 16 rfl isAgg3 rfl rfl rfl) ?_
 refine Jp.y 31 rfl (qaa rfl) rfl rfl Kp.true (Y.neq rfl rfl rfl) ?_
 refine Jp.qae hK4 ?_
 refine Cd.qar rfl (fun ga=>?_) (fun ga=>?_)
 ·rw [if_neg (show ¬ kd = 0 by simpa using ga)] at hG
  subst hG
  refine Cd.seq fun K5 hK5=>?_
  refine Cd.drawn [(7,_),(8,_),(16,_)] ⟨rfl,rfl,rfl,trivial⟩ [(0,true),(1,true),(2,true),(3,false),(4,false),(5,true),(6,false),(7,true)] follows (by kernel_rfl) (fun hrl=>?_)
  refine Jp.q 32 rfl (qaa rfl) rfl rfl (by exact Y.qah 7 rfl isAgg27 sizeOf27 rfl rfl (by first | rfl | assumption)) ?_
  refine Jp.q 33 rfl (qaa rfl) rfl rfl (by exact Y.qah 8 rfl isAgg42 sizeOf42 rfl rfl (by first | rfl | assumption)) ?_
  refine Jp.q 34 rfl (qaa rfl) rfl rfl (by exact Y.qah 16 rfl isAgg46 sizeOf46 rfl rfl (by first | rfl | assumption)) ?_
  refine Jp.qai 10 rfl (qaa rfl) rfl rfl sizeOf27 rfl rfl (by first | rfl | assumption) (by first | rfl | assumption) rfl (by first | rfl | assumption) (fun k _ _=>qas k) (Kp.st ⟨rfl,rfl,rfl,trivial⟩) ?_
  refine Jp.qai 11 rfl (qaa rfl) rfl rfl sizeOf42 rfl rfl (by first | rfl | assumption) (by first | rfl | assumption) rfl (by first | rfl | assumption) (fun k _ _=>qas k) (Kp.st ⟨rfl,rfl,rfl,trivial⟩) ?_
  refine Jp.q 12 rfl (qaa rfl) rfl rfl (Y.assign rfl rfl) ?_
  refine Jp.qai 13 rfl (qaa rfl) rfl rfl sizeOf46 rfl rfl (by first | rfl | assumption) (by first | rfl | assumption) rfl (by first | rfl | assumption) (fun k _ _=>qas k) (Kp.st ⟨rfl,rfl,rfl,trivial⟩) ?_
  refine Jp.q 14 rfl (qaa rfl) rfl rfl (Y.assign rfl rfl) ?_
  refine Jp.qae hK5 ?_
  refine Cd.make 2 (show AlO none 0 [] Hp.emp from OwnS.nil 118 4 Hp.emp) ?_
  refine Cd.ret [(0,_),(1,_),(2,_)] rfl (resCCTCT 10 11 13 rfl rfl rfl rfl rfl rfl isAgg27 sizeOf27 isAgg42 sizeOf42 isAgg46 sizeOf46 rfl (by first | rfl | assumption) rfl (by first | rfl | assumption) rfl (by first | rfl | assumption)) ⟨rfl,rfl,rfl,trivial⟩ ⟨none,0,rfl,rfl⟩
 ·have hk0 : kd = 0:=by simpa using ga
  rw [if_pos hk0] at hG
  refine Cd.qbu hK3 ?_
  refine Cd.seq fun K7 hK7=>?_
  refine Cd.qac [(0,false),(1,false),(2,false),(3,false),(4,false),(5,false)] rfl rfl ?_
  refine Jp.y 35 rfl (qaa rfl) rfl rfl Kp.true (by exact Y.qah 15 rfl isAgg60 sizeOf60 rfl rfl (by first | rfl | assumption)) ?_
  refine Jp.y 36 rfl (qaa rfl) rfl rfl Kp.true (by exact Y.qah 7 rfl isAgg27 sizeOf27 rfl rfl (by first | rfl | assumption)) ?_
  refine Jp.y 37 rfl (qaa rfl) rfl rfl Kp.true (by exact Y.qah 8 rfl isAgg42 sizeOf42 rfl rfl (by first | rfl | assumption)) ?_
  refine Jp.y 38 rfl (qaa rfl) rfl rfl Kp.true (by exact Y.qah 9 rfl isAgg31 sizeOf31 rfl rfl (by first | rfl | assumption)) ?_
  refine Jp.call [] [2] hW 39 rfl (qaa rfl) rfl rfl (Runs.fn rfl call19 rfl) (by decide) (by decide) rfl hr ?_
  rintro v2 ρ2 L2 ⟨rfl,A,c,rfl,rfl⟩
  refine ⟨rfl,fun hle2=>⟨Kp.true,?_⟩⟩
  refine Jp.y 17 rfl (qaa rfl) rfl rfl Kp.true (Y.assign rfl rfl) ?_
  refine Jp.qae hK7 ?_
  refine Cd.seq fun K8 hK8=>?_
  refine Cd.qac [(0,false),(1,false),(2,false),(3,false),(4,false),(5,false),(6,false)] rfl rfl ?_
  refine Jp.y 40 rfl (qaa rfl) rfl rfl Kp.true (Y.move rfl rfl) ?_
  refine Jp.y 41 rfl (qaa rfl) rfl rfl Kp.true (Y.move rfl rfl) ?_
  refine Jp.y 42 rfl (qaa rfl) rfl rfl Kp.true (by exact Y.qah 7 rfl isAgg27 sizeOf27 rfl rfl (by first | rfl | assumption)) ?_
  refine Jp.y 43 rfl (qaa rfl) rfl rfl Kp.true (by exact Y.qah 9 rfl isAgg31 sizeOf31 rfl rfl (by first | rfl | assumption)) ?_
  refine Jp.y 44 rfl (qaa rfl) rfl rfl Kp.true (Y.struct [(0,.pointer (some ⟨bm,0,none⟩)),(1,.pointer (some ⟨bs,0,none⟩)),(2,.agg s.cells.toArray),(3,.pointer (some ⟨b8,0,none⟩)),(4,.agg p.cells.toArray)] (qfc bm bs s b8 p.pointer p.sources.v p.sinks.v) rfl rfl places74 zeroValue74 (fill_mach hs p)) ?_
  refine Jp.box 18 45 rfl (qaa rfl) rfl rfl rfl rfl fun b18=>⟨Kp.true,?_⟩
  refine Jp.y 18 rfl (qaa rfl) rfl rfl Kp.true (Y.assign rfl rfl) ?_
  refine Jp.qae hK8 ?_
  refine Cd.seq fun K9 hK9=>?_
  refine Cd.seq fun K10 hK10=>?_
  refine Cd.qac [(0,false),(1,false),(2,false)] rfl rfl ?_
  refine Jp.y 46 rfl (qaa rfl) rfl rfl Kp.true (by exact Y.qad rfl rfl underlying60 rfl sizeOf3 (by decide) (show _ + 0 = _ from rfl)) ?_
  refine Jp.y 47 rfl (qaa rfl) rfl rfl Kp.true (by exact Y.qau 15 rfl isAgg3 rfl rfl rfl) ?_
  refine Jp.call [] [] (qgt i.op) 48 rfl (qaa rfl) rfl rfl (Runs.fn rfl call20 rfl) (by decide) (by decide) rfl trivial ?_
  rintro v3 ρ3 L3 ⟨rfl,rfl,rfl⟩
  refine ⟨rfl,fun hle3=>⟨Kp.true,?_⟩⟩
  obtain ⟨Y,hY⟩ : ∃ Y,layF M S X p.pointer i s = Y:=⟨_,rfl⟩
  rw [hY] at hG
  obtain ⟨ye,S2⟩:=Y
  dsimp only at hG
  unfold layF at hY
  refine Jp.qae hK10 ?_
  refine Cd.joinR (G:=Hp) (fun z=>ye = 0) (fun z=>z) (fun _=>[]) [(0,_),(7,_),(8,_),(10,_),(11,_),(13,_),(15,_),(16,_),(17,_),(18,_)] ⟨rfl,rfl,rfl,rfl,rfl,rfl,rfl,rfl,rfl,rfl,trivial⟩ (fun z=>[(1,ShO bs S2)]) [(0,_),(2,_),(7,_),(8,_),(9,_),(10,_),(11,_),(13,_),(15,_),(16,_),(18,_)] ⟨rfl,rfl,rfl,rfl,rfl,rfl,rfl,rfl,rfl,rfl,rfl,trivial⟩ hK9 (fun g hφ=>?_) (fun hj1=>?_)
  ·rw [if_pos hφ] at hG
   refine Cd.seq fun K11 hK11=>?_
   refine Cd.qac [(0,false),(1,false),(2,false)] rfl rfl ?_
   refine Jp.y 58 rfl (qaa rfl) rfl rfl Kp.true (Y.array [] [_,_,_,_] rfl rfl underlying40 sizeOf5 zeroValue40 rfl) ?_
   refine Jp.alloc 20 20 rfl (qaa rfl) rfl rfl rfl zeroValue40 fun b20=>⟨Kp.true,?_⟩
   refine Jp.qai 20 rfl (qaa rfl) rfl rfl sizeOf40 rfl rfl (by first | rfl | assumption) (by first | rfl | assumption) rfl (by first | rfl | assumption) (fun k _ _=>qas k) Kp.true ?_
   refine Jp.qae hK11 ?_
   refine Cd.seq fun K12 hK12=>?_
   refine Cd.seq fun K13 hK13=>?_
   refine Cd.qac [(0,false),(1,false),(2,false)] rfl rfl ?_
   refine Jp.y 59 rfl (qaa rfl) rfl rfl Kp.true (by exact Y.qad rfl rfl underlying60 rfl sizeOf3 (by decide) (show _ + 0 = _ from rfl)) ?_
   refine Jp.y 60 rfl (qaa rfl) rfl rfl Kp.true (by exact Y.qau 15 rfl isAgg3 rfl rfl rfl) ?_
   refine Jp.imp (j:=20) rfl (fun h hh=>(show Pt b20 (.cells (qaf qgj).toArray 40) h from hh)) ?_
   refine Jp.call [] [] (qgs i.op) 61 rfl (qaa rfl) rfl rfl (Runs.fn rfl call22 rfl) (by decide) (by decide) rfl trivial ?_
   rintro v4 ρ4 L4 ⟨rfl,rfl,rfl⟩
   refine ⟨rfl,fun hle4=>⟨Kp.true,?_⟩⟩
   refine Jp.qae hK13 ?_
   obtain ⟨V,hV⟩ : ∃ V,valueT S2 X p.pointer i s = V:=⟨_,rfl⟩
   have hVl : V.length = 4:=by rw [← hV]; exact valueT_len hX hi
   refine Cd.qgm (G:=Unit) (fun _=>True) (fun _=>[]) [(0,_),(7,_),(8,_),(10,_),(11,_),(13,_),(15,_),(16,_),(17,_),(20,_)] ⟨rfl,rfl,rfl,rfl,rfl,rfl,rfl,rfl,rfl,rfl,trivial⟩ (fun _=>[(20,Pt b20 (.cells (qaf (if qdb i.op = true then V else qgj)).toArray 40))]) [(0,_),(1,_),(2,_),(7,_),(8,_),(9,_),(10,_),(11,_),(13,_),(15,_),(16,_),(18,_)] ⟨rfl,rfl,rfl,rfl,rfl,rfl,rfl,rfl,rfl,rfl,rfl,rfl,trivial⟩ hK12 (fun g hφ=>?_) (fun hj2=>?_)
   ·obtain ⟨T,hT⟩ : ∃ T,(if qdb i.op = true then V else qgj) = T:=⟨_,rfl⟩
    rw [hT]
    have hTl : T.length = 4:=by rw [← hT]; split; exact hVl; rfl
    have hTl4 : (qaf T).length = 4:=by rw [qaz,hTl]
    have hTo:=qbe T
    have hrd : i.rd < 32:=hi.rd
    refine Cd.seq fun K14 hK14=>?_
    refine Cd.qac [(0,false),(1,false),(2,false),(3,false),(4,false),(5,false),(6,false),(7,false),(8,false)] rfl rfl ?_
    refine Jp.y 66 rfl (qaa rfl) rfl rfl Kp.true (Y.move rfl rfl) ?_
    refine Jp.y 67 rfl (qaa rfl) rfl rfl Kp.true (by exact Y.qah 7 rfl isAgg27 sizeOf27 rfl rfl (by first | rfl | assumption)) ?_
    refine Jp.call [0] [0] hSt 68 rfl (qaa rfl) rfl rfl (Runs.fn rfl call11 rfl) (by decide) (by decide) rfl trivial ?_
    rintro v5 ρ5 L5 ⟨rfl,rfl,rfl⟩
    refine ⟨rfl,fun hle5=>⟨Kp.true,?_⟩⟩
    refine Jp.y 65 rfl (qaa rfl) rfl rfl Kp.true (Y.move rfl rfl) ?_
    refine Jp.y 69 rfl (qaa rfl) rfl rfl Kp.true (Y.extract rfl rfl rfl) ?_
    refine Jp.y 70 rfl (qaa rfl) rfl rfl Kp.true (Y.extract rfl rfl rfl) ?_
    refine Jp.alloc 21 21 rfl (qaa rfl) rfl rfl rfl zeroValue27 fun b21=>⟨Kp.true,?_⟩
    refine Jp.qai 21 rfl (qaa rfl) rfl rfl sizeOf27 rfl rfl (by first | rfl | assumption) (by first | rfl | assumption) rfl (by first | rfl | assumption) (fun k _ _=>qas k) Kp.true ?_
    refine Jp.qai 16 rfl (qaa rfl) rfl rfl sizeOf46 rfl rfl (by first | rfl | assumption) (by first | rfl | assumption) rfl (by first | rfl | assumption) (fun k _ _=>qas k) Kp.true ?_
    refine Jp.qae hK14 ?_
    refine Cd.seq fun K15 hK15=>?_
    refine Cd.seq fun K16 hK16=>?_
    refine Cd.qac [(0,false),(1,false),(2,false)] rfl rfl ?_
    refine Jp.y 71 rfl (qaa rfl) rfl rfl Kp.true (by exact Y.qad rfl rfl underlying46 rfl sizeOf3 (by decide) (show _ + 0 = _ from rfl)) ?_
    refine Jp.y 72 rfl (qaa rfl) rfl rfl Kp.true (by exact Y.qau 16 rfl isAgg3 rfl rfl rfl) ?_
    refine Jp.y 73 rfl (qaa rfl) rfl rfl Kp.true (Y.neq rfl rfl rfl) ?_
    refine Jp.qae hK16 ?_
    refine Cd.qar rfl (fun gb=>?_) (fun gb=>?_)
    ·rw [if_neg (show ¬ kd2 = 0 by simpa using gb)] at hG
     subst hG
     refine Cd.seq fun K17 hK17=>?_
     refine Cd.drawn [(7,_),(8,_),(16,_)] ⟨rfl,rfl,rfl,trivial⟩ [(0,true),(1,true),(2,true),(3,true),(4,false),(5,false),(6,true),(7,false),(8,true)] follows (by kernel_rfl) (fun hrl=>?_)
     refine Jp.q 74 rfl (qaa rfl) rfl rfl (by exact Y.qah 7 rfl isAgg27 sizeOf27 rfl rfl (by first | rfl | assumption)) ?_
     refine Jp.q 75 rfl (qaa rfl) rfl rfl (by exact Y.qah 8 rfl isAgg42 sizeOf42 rfl rfl (by first | rfl | assumption)) ?_
     refine Jp.q 76 rfl (qaa rfl) rfl rfl (Y.move rfl rfl) ?_
     refine Jp.q 77 rfl (qaa rfl) rfl rfl (by exact Y.qah 16 rfl isAgg46 sizeOf46 rfl rfl (by first | rfl | assumption)) ?_
     refine Jp.qai 10 rfl (qaa rfl) rfl rfl sizeOf27 rfl rfl (by first | rfl | assumption) (by first | rfl | assumption) rfl (by first | rfl | assumption) (fun k _ _=>qas k) (Kp.st ⟨rfl,rfl,rfl,trivial⟩) ?_
     refine Jp.qai 11 rfl (qaa rfl) rfl rfl sizeOf42 rfl rfl (by first | rfl | assumption) (by first | rfl | assumption) rfl (by first | rfl | assumption) (fun k _ _=>qas k) (Kp.st ⟨rfl,rfl,rfl,trivial⟩) ?_
     refine Jp.q 12 rfl (qaa rfl) rfl rfl (Y.assign rfl rfl) ?_
     refine Jp.qai 13 rfl (qaa rfl) rfl rfl sizeOf46 rfl rfl (by first | rfl | assumption) (by first | rfl | assumption) rfl (by first | rfl | assumption) (fun k _ _=>qas k) (Kp.st ⟨rfl,rfl,rfl,trivial⟩) ?_
     refine Jp.q 14 rfl (qaa rfl) rfl rfl (Y.assign rfl rfl) ?_
     refine Jp.qae hK17 ?_
     refine Cd.ret [(0,_),(1,_),(2,_)] rfl (resCCTCT 10 11 13 rfl rfl rfl rfl rfl rfl isAgg27 sizeOf27 isAgg42 sizeOf42 isAgg46 sizeOf46 rfl (by first | rfl | assumption) rfl (by first | rfl | assumption) rfl (by first | rfl | assumption)) ⟨rfl,rfl,rfl,trivial⟩ ⟨A,c,rfl,rfl⟩
    ·rw [if_pos (show kd2 = 0 by simpa using gb)] at hG
     refine Cd.qbu hK15 ?_
     refine Cd.seq fun K19 hK19=>?_
     refine Cd.seq fun K20 hK20=>?_
     refine Cd.qac [(0,false),(1,false),(2,false)] rfl rfl ?_
     refine Jp.y 78 rfl (qaa rfl) rfl rfl Kp.true (by exact Y.qad rfl rfl underlying60 rfl sizeOf3 (by decide) (show _ + 0 = _ from rfl)) ?_
     refine Jp.y 79 rfl (qaa rfl) rfl rfl Kp.true (by exact Y.qau 15 rfl isAgg3 rfl rfl rfl) ?_
     refine Jp.call [] [] (qgs i.op) 80 rfl (qaa rfl) rfl rfl (Runs.fn rfl call22 rfl) (by decide) (by decide) rfl trivial ?_
     rintro v6 ρ6 L6 ⟨rfl,rfl,rfl⟩
     refine ⟨rfl,fun hle6=>⟨Kp.true,?_⟩⟩
     refine Jp.qae hK20 ?_
     refine Cd.qgm (G:=Unit) (fun _=>True) (fun _=>[]) [(8,_),(10,_),(11,_),(13,_),(16,_),(17,_),(21,_)] ⟨rfl,rfl,rfl,rfl,rfl,rfl,rfl,trivial⟩ (fun _=>[(8,Pt b8 (.cells (qaf (newL S2 X p.pointer i s)).toArray 42))]) [(0,_),(1,_),(2,_),(10,_),(11,_),(13,_),(16,_),(21,_)] ⟨rfl,rfl,rfl,rfl,rfl,rfl,rfl,rfl,trivial⟩ hK19 (fun g hφ=>?_) (fun hj3=>?_)
     ·obtain ⟨N,hN⟩ : ∃ N,newL S2 X p.pointer i s = N:=⟨_,rfl⟩
      rw [hN] at hG ⊢
      have hNl : N.length = 128:=by
       rw [← hN]; unfold newL; split
       ·exact setL_len hX (valueT_len hX hi) hi.rd
       ·exact hX
      have hN2l : (qaf (setL N qgj 0)).length = 128:=by rw [qaz,setL_len hNl rfl (by decide)]
      have hN2o:=qbe (setL N qgj 0)
      refine Cd.seq fun K21 hK21=>?_
      refine Cd.qac [(0,false),(1,false),(2,false)] rfl rfl ?_
      refine Jp.y 85 rfl (qaa rfl) rfl rfl Kp.true (Y.array [] [_,_,_,_] rfl rfl underlying40 sizeOf5 zeroValue40 rfl) ?_
      refine Jp.y 86 rfl (qaa rfl) rfl rfl Kp.true (Y.qam rfl rfl rfl underlying42 sizeOf40 (by first | decide | omega) (by first | decide | omega) rfl) ?_
      refine Jp.qcb 8 rfl (qaa rfl) rfl rfl sizeOf40 rfl rfl (qbe qgj) rfl rfl (Nat.ble_eq_true_of_le (by rw [qfg,hNl]; decide)) (fun k _ _=>qas k) Kp.true ?_
      refine Jp.imp (j:=8) rfl (fun h hh=>(show Pt b8 (.cells (qaf (setL N qgj 0)).toArray 42) h from (by rw [← spl_setL hNl rfl (by decide)]; exact hh))) ?_
      subst hG
      refine Jp.qae hK21 ?_
      refine Cd.seq fun K22 hK22=>?_
      refine Cd.drawn [(8,_),(16,_),(21,_)] ⟨rfl,rfl,rfl,trivial⟩ [(0,true),(1,true),(2,true),(3,true),(4,false),(5,false),(6,true),(7,false),(8,true)] follows (by kernel_rfl) (fun hrl=>?_)
      refine Jp.q 87 rfl (qaa rfl) rfl rfl (by exact Y.qah 21 rfl isAgg27 sizeOf27 rfl rfl (by first | rfl | assumption)) ?_
      refine Jp.q 88 rfl (qaa rfl) rfl rfl (by exact Y.qah 8 rfl isAgg42 sizeOf42 rfl rfl (by first | rfl | assumption)) ?_
      refine Jp.q 89 rfl (qaa rfl) rfl rfl (Y.move rfl rfl) ?_
      refine Jp.q 90 rfl (qaa rfl) rfl rfl (by exact Y.qah 16 rfl isAgg46 sizeOf46 rfl rfl (by first | rfl | assumption)) ?_
      refine Jp.qai 10 rfl (qaa rfl) rfl rfl sizeOf27 rfl rfl (by first | rfl | assumption) (by first | rfl | assumption) rfl (by first | rfl | assumption) (fun k _ _=>qas k) (Kp.st ⟨rfl,rfl,rfl,trivial⟩) ?_
      refine Jp.qai 11 rfl (qaa rfl) rfl rfl sizeOf42 rfl rfl (by first | rfl | assumption) (by first | rfl | assumption) rfl (by first | rfl | assumption) (fun k _ _=>qas k) (Kp.st ⟨rfl,rfl,rfl,trivial⟩) ?_
      refine Jp.q 12 rfl (qaa rfl) rfl rfl (Y.assign rfl rfl) ?_
      refine Jp.qai 13 rfl (qaa rfl) rfl rfl sizeOf46 rfl rfl (by first | rfl | assumption) (by first | rfl | assumption) rfl (by first | rfl | assumption) (fun k _ _=>qas k) (Kp.st ⟨rfl,rfl,rfl,trivial⟩) ?_
      refine Jp.q 14 rfl (qaa rfl) rfl rfl (Y.assign rfl rfl) ?_
      refine Jp.qae hK22 ?_
      refine Cd.ret [(0,_),(1,_),(2,_)] rfl (resCCTCT 10 11 13 rfl rfl rfl rfl rfl rfl isAgg27 sizeOf27 isAgg42 sizeOf42 isAgg46 sizeOf46 rfl (by first | rfl | assumption) rfl (by first | rfl | assumption) rfl (by first | rfl | assumption)) ⟨rfl,rfl,rfl,trivial⟩ ⟨A,c,rfl,rfl⟩
     ·skip
      refine Cd.qar rfl (fun gc=>?_) (fun gc=>?_)
      ·skip
       refine Cd.qac [(0,false),(1,false),(2,false),(3,false),(4,false)] rfl rfl ?_
       refine Jp.y 81 rfl (qaa rfl) rfl rfl Kp.true (by exact Y.qad rfl rfl underlying60 rfl sizeOf3 (by decide) (show _ + 1 = _ from rfl)) ?_
       refine Jp.y 82 rfl (qaa rfl) rfl rfl Kp.true (by exact Y.qau 15 rfl isAgg3 rfl rfl rfl) ?_
       refine Jp.y 83 rfl (qaa rfl) rfl rfl Kp.true (by exact Y.qah 20 rfl isAgg40 sizeOf40 rfl rfl (by first | rfl | assumption)) ?_
       refine Jp.y 84 rfl (qaa rfl) rfl rfl Kp.true (Y.qam (q:=i.rd * 4) rfl rfl rfl underlying42 sizeOf40 (by omega) (by omega) (by omega)) ?_
       refine Jp.qcb 8 rfl (qaa rfl) rfl rfl sizeOf40 rfl rfl hTo hTl4 rfl (Nat.ble_eq_true_of_le (show i.rd * 4 + 4 ≤ (qaf X).toArray.size by rw [qfg,hX]; omega)) (fun k _ _=>qas k) Kp.true ?_
       refine Jp.imp (j:=8) rfl (fun h hh=>(show Pt b8 (.cells (qaf (newL S2 X p.pointer i s)).toArray 42) h from (by rw [newL,if_pos gc,hV,show V = T by rw [← hT,if_pos gc],← spl_setL hX hTl hi.rd]; exact hh))) ?_
       refine Jp.qae hK19 ?_
       exact Cd.qcz (hj3 () trivial) ⟨rfl,rfl,rfl,rfl,rfl,rfl,rfl,trivial⟩ ⟨rfl,rfl,rfl,rfl,rfl,rfl,rfl,rfl,rfl,trivial⟩
      ·skip
       refine Cd.imp (i:=8) rfl (fun h hh=>(show Pt b8 (.cells (qaf (newL S2 X p.pointer i s)).toArray 42) h from (by rw [newL,if_neg (by simpa using gc)]; exact hh))) ?_
       refine Cd.qbu hK19 ?_
       exact Cd.qcz (hj3 () trivial) ⟨rfl,rfl,rfl,rfl,rfl,rfl,rfl,trivial⟩ ⟨rfl,rfl,rfl,rfl,rfl,rfl,rfl,rfl,rfl,trivial⟩
   ·skip
    refine Cd.qar rfl (fun gc=>?_) (fun gc=>?_)
    ·skip
     refine Cd.qac [(0,false),(1,false),(2,false),(3,false)] rfl rfl ?_
     refine Jp.y 62 rfl (qaa rfl) rfl rfl Kp.true (Y.move rfl rfl) ?_
     refine Jp.y 63 rfl (qaa rfl) rfl rfl Kp.true (by exact Y.qah 15 rfl isAgg60 sizeOf60 rfl rfl (by first | rfl | assumption)) ?_
     refine Jp.call [18,8,1] [18,8,1] (hVl' b18 b8 S2) 64 rfl (qaa rfl) rfl rfl (Runs.fn rfl call23 rfl) (by decide) (by decide) rfl trivial ?_
     rintro v5 ρ5 L5 ⟨rfl,rfl,rfl⟩
     refine ⟨rfl,fun hle5=>⟨Kp.true,?_⟩⟩
     rw [hV]
     have hV4 : (qaf V).length = 4:=by rw [qaz,hVl]
     have hVo:=qbe V
     refine Jp.qai 20 rfl (qaa rfl) rfl rfl sizeOf40 rfl rfl (by first | rfl | assumption) (by first | rfl | assumption) rfl (by first | rfl | assumption) (fun k _ _=>qas k) Kp.true ?_
     refine Jp.qae hK12 ?_
     refine Cd.imp (i:=20) rfl (fun h hh=>(show Pt b20 (.cells (qaf (if qdb i.op = true then V else qgj)).toArray 40) h from (by rw [if_pos gc]; exact hh))) ?_
     exact Cd.qcz (hj2 () trivial) ⟨rfl,rfl,rfl,rfl,rfl,rfl,rfl,rfl,rfl,rfl,trivial⟩ ⟨rfl,rfl,rfl,rfl,rfl,rfl,rfl,rfl,rfl,rfl,rfl,rfl,rfl,trivial⟩
    ·skip
     refine Cd.imp (i:=20) rfl (fun h hh=>(show Pt b20 (.cells (qaf (if qdb i.op = true then V else qgj)).toArray 40) h from (by rw [if_neg (by simpa using gc)]; exact hh))) ?_
     refine Cd.qbu hK12 ?_
     exact Cd.qcz (hj2 () trivial) ⟨rfl,rfl,rfl,rfl,rfl,rfl,rfl,rfl,rfl,rfl,trivial⟩ ⟨rfl,rfl,rfl,rfl,rfl,rfl,rfl,rfl,rfl,rfl,rfl,rfl,rfl,trivial⟩
  ·skip
   refine Cd.qar rfl (fun gd=>?_) (fun gd=>?_)
   ·rw [if_pos gd] at hY
    have hLy:=hLy b18 b8
    rw [hY] at hLy
    dsimp only at hLy
    refine Cd.seq fun K24 hK24=>?_
    refine Cd.qac [(0,false),(1,false),(2,false),(3,false)] rfl rfl ?_
    refine Jp.y 49 rfl (qaa rfl) rfl rfl Kp.true (Y.move rfl rfl) ?_
    refine Jp.y 50 rfl (qaa rfl) rfl rfl Kp.true (by exact Y.qah 15 rfl isAgg60 sizeOf60 rfl rfl (by first | rfl | assumption)) ?_
    refine Jp.call [18,8,1,0] [18,8,1,0] hLy 51 rfl (qaa rfl) rfl rfl (Runs.fn rfl call21 rfl) (by decide) (by decide) rfl trivial ?_
    rintro v4 ρ4 L4 ⟨rfl,rfl⟩
    refine ⟨rfl,fun hle4=>⟨Kp.true,?_⟩⟩
    refine Jp.y 19 rfl (qaa rfl) rfl rfl Kp.true (Y.assign rfl rfl) ?_
    refine Jp.qae hK24 ?_
    refine Cd.seq fun K25 hK25=>?_
    refine Cd.qac [(0,false),(1,false)] rfl rfl ?_
    refine Jp.y 52 rfl (qaa rfl) rfl rfl Kp.true (Y.move rfl rfl) ?_
    refine Jp.y 53 rfl (qaa rfl) rfl rfl Kp.true (Y.neq rfl rfl rfl) ?_
    refine Jp.qae hK25 ?_
    refine Cd.qar rfl (fun ge=>?_) (fun ge=>?_)
    ·rw [if_neg (show ¬ ye = 0 by simpa using ge)] at hG
     subst hG
     refine Cd.seq fun K26 hK26=>?_
     refine Cd.drawn [(7,_),(8,_)] ⟨rfl,rfl,trivial⟩ [(0,true),(1,true),(2,true),(3,true),(4,false),(5,false),(6,true),(7,false),(8,true)] follows (by kernel_rfl) (fun hrl=>?_)
     refine Jp.q 54 rfl (qaa rfl) rfl rfl (by exact Y.qah 7 rfl isAgg27 sizeOf27 rfl rfl (by first | rfl | assumption)) ?_
     refine Jp.q 55 rfl (qaa rfl) rfl rfl (by exact Y.qah 8 rfl isAgg42 sizeOf42 rfl rfl (by first | rfl | assumption)) ?_
     refine Jp.q 56 rfl (qaa rfl) rfl rfl (Y.struct [] [_,_,_] rfl rfl qca zeroValue46 rfl) ?_
     refine Jp.q 57 rfl (qaa rfl) rfl rfl (Y.move rfl rfl) ?_
     refine Jp.qai 10 rfl (qaa rfl) rfl rfl sizeOf27 rfl rfl (by first | rfl | assumption) (by first | rfl | assumption) rfl (by first | rfl | assumption) (fun k _ _=>qas k) (Kp.st ⟨rfl,rfl,trivial⟩) ?_
     refine Jp.qai 11 rfl (qaa rfl) rfl rfl sizeOf42 rfl rfl (by first | rfl | assumption) (by first | rfl | assumption) rfl (by first | rfl | assumption) (fun k _ _=>qas k) (Kp.st ⟨rfl,rfl,trivial⟩) ?_
     refine Jp.q 12 rfl (qaa rfl) rfl rfl (Y.assign rfl rfl) ?_
     refine Jp.qai 13 rfl (qaa rfl) rfl rfl sizeOf46 rfl rfl (by first | rfl | assumption) (by first | rfl | assumption) rfl (by first | rfl | assumption) (fun k _ _=>qas k) (Kp.st ⟨rfl,rfl,trivial⟩) ?_
     refine Jp.q 14 rfl (qaa rfl) rfl rfl (Y.assign rfl rfl) ?_
     refine Jp.qae hK26 ?_
     refine Cd.make 2 (show AlO none 0 [] Hp.emp from OwnS.nil 118 4 Hp.emp) ?_
     refine Cd.ret [(0,_),(1,_),(2,_)] rfl (resCCTCT 10 11 13 rfl rfl rfl rfl rfl rfl isAgg27 sizeOf27 isAgg42 sizeOf42 isAgg46 sizeOf46 rfl (by first | rfl | assumption) rfl (by first | rfl | assumption) rfl (by first | rfl | assumption)) ⟨rfl,rfl,rfl,trivial⟩ ⟨none,0,rfl,rfl⟩
    ·skip
     refine Cd.qbu hK9 ?_
     exact Cd.qcz (hj1 ρ4 (by simpa using ge)) ⟨rfl,rfl,rfl,rfl,rfl,rfl,rfl,rfl,rfl,rfl,trivial⟩ ⟨rfl,rfl,rfl,rfl,rfl,rfl,rfl,rfl,rfl,rfl,rfl,rfl,trivial⟩
   ·rw [if_neg (by simpa using gd)] at hY
    injection hY with hY1 hY2
    subst hY2
    refine Cd.qbu hK9 ?_
    exact Cd.qcz (hj1 _ hY1.symm) ⟨rfl,rfl,rfl,rfl,rfl,rfl,rfl,rfl,rfl,rfl,trivial⟩ ⟨rfl,rfl,rfl,rfl,rfl,rfl,rfl,rfl,rfl,rfl,rfl,rfl,trivial⟩
end Go.Proofs.YtnfkalpgidiafaaGreat
