import Derived.Test.YtnfkalpgidiafaaZP4
import Derived.Test.YtnfkalpgidiafaaZP2
import Derived.Test.YtnfkalpgidiafaaZP3
import Derived.Test.YtnfkalpgidiafaaZP1
set_option linter.unusedVariables false
set_option linter.unusedSimpArgs false
set_option maxRecDepth 100000
namespace Go.Proofs.Ytnfkalpgidiafaa
open _root_.Go.Proofs.Try
open Go
def qes (bm bs : Nat) (s : StP) (bx : Nat) (pp : Bool) (so si : Value) : List Value:=[.pointer (some ⟨bm,0,none⟩),.pointer (some ⟨bs,0,none⟩)] ++ (s.cells ++ [.pointer (some ⟨bx,0,none⟩),.bool pp,so,si])
theorem machC_m {bm bs bx : Nat} {s : StP} {pp : Bool} {so si : Value} : (qes bm bs s bx pp so si).toArray[0]? = some (.pointer (some ⟨bm,0,none⟩)):=by simp [qes]
theorem machC_sh {bm bs bx : Nat} {s : StP} {pp : Bool} {so si : Value} : (qes bm bs s bx pp so si).toArray[1]? = some (.pointer (some ⟨bs,0,none⟩)):=by simp [qes]
theorem machC_s {bm bs bx : Nat} {s : StP} {pp : Bool} {so si : Value} (hs : StOk s) (p : Nat) (v : Value) (h : s.cells[p]? = some v) : (qes bm bs s bx pp so si)[2 + p]? = some v:=by
 have hp : p < s.cells.length:=(List.getElem?_eq_some_iff.1 h).1
 rw [qes,List.getElem?_append_right (by simp)]
 rw [List.getElem?_append_left (by simpa using hp)]
 simpa using h
theorem machC_x {bm bs bx : Nat} {s : StP} {pp : Bool} {so si : Value} (hs : StOk s) : (qes bm bs s bx pp so si).toArray[36]? = some (.pointer (some ⟨bx,0,none⟩)):=by
 have:=StP.len hs
 simp [qes,List.getElem?_append,this]
theorem machC_p {bm bs bx : Nat} {s : StP} {pp : Bool} {so si : Value} (hs : StOk s) : (qes bm bs s bx pp so si).toArray[37]? = some (.bool pp):=by
 have:=StP.len hs
 simp [qes,List.getElem?_append,this]
def zeroT : qam:=[0,0,0,0]
def ptrT (X : qam) (pp : Bool) (r : Nat) : qam:=if pp = true then List.replicate 4 (allT (qch X r)) else zeroT
theorem ptrT_len (X : qam) (pp : Bool) (r : Nat) : (ptrT X pp r).length = 4:=by
 unfold ptrT
 split <;> rfl
theorem pointer_spec (bc bm bs bx : Nat) (s : StP) (X : qam) (pp : Bool) (so si : Value) (i : InsP) (hs : StOk s) (hi : InsOk i) (hX : X.length = 128) :
  Spec Try.prog 46 #[.pointer (some ⟨bc,0,none⟩),.agg i.cells.toArray] (fun _=>True)
   [(0,Pt bc (.cells (qes bm bs s bx pp so si).toArray 76)),(1,Pt bx (.cells (qaf X).toArray 43))]
  (fun ρ ρ' v L=>ρ' = ρ ∧ v = .agg (qaf (ptrT X pp i.r1)).toArray ∧ L = [(0,Pt bc (.cells (qes bm bs s bx pp so si).toArray 76)),(1,Pt bx (.cells (qaf X).toArray 43))]):=by
 obtain ⟨op,rd,r1,r2,imm⟩:=i
 refine Spec.of 21 Try.func46 rfl Try.ntmps46 [(0,_),(1,_)] rfl rfl ?_
 intro cx ρ hr' h0
 have hL:=qca hX hi.r1
 refine Cd.seq fun K1 hK1=>?_
 refine Cd.qac [(0,false),(1,false)] rfl rfl ?_
 refine Jp.box 3 3 rfl (qaa rfl) rfl rfl rfl rfl fun b3=>⟨Kp.true,?_⟩
 refine Jp.alloc 4 4 rfl (qaa rfl) rfl rfl rfl zeroValue41 fun b4=>⟨Kp.true,?_⟩
 refine Jp.qae hK1 ?_
 refine Cd.seq fun K2 hK2=>?_
 refine Cd.seq fun K3 hK3=>?_
 refine Cd.qac [(0,false),(1,false),(2,false),(3,false),(4,false),(5,false)] rfl rfl ?_
 refine Jp.y 5 rfl (qaa rfl) rfl rfl Kp.true (Y.move rfl rfl) ?_
 refine Jp.y 6 rfl (qaa rfl) rfl rfl Kp.true (Y.qao rfl rfl) ?_
 refine Jp.y 7 rfl (qaa rfl) rfl rfl Kp.true (by exact Y.qad rfl rfl underlying76 rfl sizeOf28 (by decide) (show _ + 37 = _ from rfl)) ?_
 refine Jp.y 8 rfl (qaa rfl) rfl rfl Kp.true (by exact Y.qad rfl rfl underlying28 rfl sizeOf4 (by decide) (show _ + 0 = _ from rfl)) ?_
 refine Jp.y 9 rfl (qaa rfl) rfl rfl Kp.true (by exact Y.qbk 0 rfl isAgg4 rfl rfl (HasC.pt (machC_p hs))) ?_
 refine Jp.y 10 rfl (qaa rfl) rfl rfl Kp.true (Y.not rfl rfl) ?_
 refine Jp.qae hK3 ?_
 refine Cd.qaq rfl (fun ga=>?_) (fun ga=>?_)
 ·have hp : pp = false:=by simpa using ga
  refine Cd.seq fun K4 hK4=>?_
  refine Cd.qac [(0,false),(1,false)] rfl rfl ?_
  refine Jp.y 11 rfl (qaa rfl) rfl rfl Kp.true (Y.array [] [_,_,_,_] rfl rfl underlying41 sizeOf5 zeroValue41 rfl) ?_
  refine Jp.qah 4 rfl (qaa rfl) rfl rfl sizeOf41 rfl rfl (by first | rfl | assumption) (by first | rfl | assumption) rfl (by first | rfl | assumption) (fun k _ _=>qap k) Kp.true ?_
  refine Jp.qae hK4 ?_
  refine Cd.ret [(0,_),(1,_)] rfl (by exact qer 4 rfl rfl isAgg41 sizeOf41 rfl (by first | rfl | assumption)) ⟨rfl,rfl,trivial⟩ ⟨rfl,by rw [hp]; rfl,rfl⟩
 ·have hp : pp = true:=by simpa using ga
  refine Cd.qbw hK2 ?_
  refine Cd.seq fun K5 hK5=>?_
  refine Cd.drawn [(0,_),(3,_)] ⟨rfl,rfl,trivial⟩ [(0,true),(1,true),(2,true),(3,true),(4,true),(5,true),(6,false),(7,false),(8,false),(9,false)] follows (by kernel_rfl) (fun hrl=>?_)
  refine Jp.q 12 rfl (qaa rfl) rfl rfl (Y.move rfl rfl) ?_
  refine Jp.q 13 rfl (qaa rfl) rfl rfl (Y.qao rfl rfl) ?_
  refine Jp.q 14 rfl (qaa rfl) rfl rfl (by exact Y.qad rfl rfl underlying76 rfl sizeOf74 (by decide) (show _ + 36 = _ from rfl)) ?_
  refine Jp.q 15 rfl (qaa rfl) rfl rfl (by exact Y.qbk 0 rfl isAgg74 rfl rfl (HasC.pt (machC_x hs))) ?_
  refine Jp.q 16 rfl (qaa rfl) rfl rfl (by exact Y.qad rfl rfl underlying34 rfl sizeOf3 (by decide) (show _ + 2 = _ from rfl)) ?_
  refine Jp.q 17 rfl (qaa rfl) rfl rfl (by exact Y.qaw 3 rfl isAgg3 rfl rfl rfl) ?_
  refine Jp.call [1] [1] (qge bx X r1 hX hi.r1) 18 rfl (qaa rfl) rfl rfl (Runs.fn rfl call40 rfl) (by decide) (by decide) rfl trivial ?_
  rintro v1 ρ1 L1 ⟨rfl,rfl,rfl⟩
  refine ⟨rfl,fun hle1=>⟨(Kp.st ⟨rfl,rfl,trivial⟩),?_⟩⟩
  refine Jp.call [] [] (qcm (qch X r1) hL) 19 rfl (qaa rfl) rfl rfl (Runs.fn rfl call39 rfl) (by decide) (by decide) rfl trivial ?_
  rintro v2 ρ2 L2 ⟨rfl,rfl,rfl⟩
  refine ⟨rfl,fun hle2=>⟨(Kp.st ⟨rfl,rfl,trivial⟩),?_⟩⟩
  refine Jp.call [] [] (qfh (allT (qch X r1))) 20 rfl (qaa rfl) rfl rfl (Runs.fn rfl call68 rfl) (by decide) (by decide) rfl trivial ?_
  rintro v3 ρ3 L3 ⟨rfl,rfl,rfl⟩
  refine ⟨rfl,fun hle3=>⟨(Kp.st ⟨rfl,rfl,trivial⟩),?_⟩⟩
  refine Jp.qah 4 rfl (qaa rfl) rfl rfl sizeOf41 rfl rfl (by first | rfl | assumption) (by first | rfl | assumption) rfl (by first | rfl | assumption) (fun k _ _=>qap k) Kp.last ?_
  refine Jp.qae hK5 ?_
  refine Cd.ret [(0,_),(1,_)] rfl (by exact qer 4 rfl rfl isAgg41 sizeOf41 rfl (by first | rfl | assumption)) ⟨rfl,rfl,trivial⟩ ⟨rfl,by rw [hp]; rfl,rfl⟩
end Go.Proofs.Ytnfkalpgidiafaa

namespace Go.Proofs.Ytnfkalpgidiafaa
open Go
structure ShG where
 budget : Nat
 pages : List (Nat × Pg)
def qew (b : qam) : Nat:=b.countP (· != 0)
structure ShPgOk (x : Nat × Pg) : Prop where
 al : x.1 % 256 = 0
 lt : x.1 < 4294967296
 len : x.2.b.length = 256
 cnt : x.2.perm = qew x.2.b
 pos : 0 < x.2.perm
structure ShOk (l : List (Nat × Pg)) : Prop where
 rising : Rising l
 page : ∀ x ∈ l,ShPgOk x
def labL (l : List (Nat × Pg)) (a : Nat) : UInt8:=match qan l (qar a) with
 | some p=>p.b.getD (a % 256) 0
 | none=>0
def zeroB : qam:=List.replicate 256 0
def remPg (l : List (Nat × Pg)) (k : Nat) : List (Nat × Pg):=l.filter fun x=>x.1 != k
def qdh (l : List (Nat × Pg)) (k : Nat) (b : qam) : List (Nat × Pg):=match qan l k with
 | some _=>if qew b = 0 then remPg l k else qbx l k ⟨b,qew b⟩
 | none=>if qew b = 0 then l else qgh k ⟨b,qew b⟩ l
def bOf (l : List (Nat × Pg)) (k : Nat) : qam:=match qan l k with
 | some p=>p.b
 | none=>zeroB
def oneP (l : List (Nat × Pg)) (a : Nat) (v : UInt8) : List (Nat × Pg):=qdh l (qar a) ((bOf l (qar a)).set (a % 256) v)
def qfx (l : List (Nat × Pg)) : Nat → qam → List (Nat × Pg)
 | _,[]=>l
 | a,v :: bs=>qfx (oneP l a v) (a + 1) bs
theorem rising_ext : ∀ {l m : List (Nat × Pg)},Rising l → Rising m → (∀ k,qan l k = qan m k) → l = m
 | [],[],_,_,_=>rfl
 | [],(k,p) :: m,_,_,h=>by have:=h k; simp [qan] at this
 | (k,p) :: l,[],_,_,h=>by have:=h k; simp [qan] at this
 | (k,p) :: l,(j,q) :: m,hl,hm,h=>by
  obtain ⟨h1,h2⟩:=List.pairwise_cons.1 hl
  obtain ⟨h3,h4⟩:=List.pairwise_cons.1 hm
  have hkj : k = j:=by
   have a1:=h k
   have a2:=h j
   simp only [qan,if_true] at a1 a2
   by_cases e : k = j
   ·exact e
   ·rw [if_neg (Ne.symm e)] at a1
    rw [if_neg e] at a2
    have b1:=h3 _ (qbb a1.symm)
    have b2:=h1 _ (qbb a2)
    have b1 : j < k:=b1
    have b2 : k < j:=b2
    omega
  subst hkj
  have hp : p = q:=by have:=h k; simpa [qan] using this
  subst hp
  rw [rising_ext h2 h4 fun x=>?_]
  have:=h x
  simp only [qan] at this
  by_cases e : k = x
  ·subst e
   have n1 : qan l k = none:=qbi.2 fun hm=>by
    obtain ⟨y,hy,e⟩:=List.mem_map.1 hm
    have:=h1 y hy; have : k < y.1:=this; omega
   have n2 : qan m k = none:=qbi.2 fun hm=>by
    obtain ⟨y,hy,e⟩:=List.mem_map.1 hm
    have:=h3 y hy; have : k < y.1:=this; omega
   rw [n1,n2]
  ·rwa [if_neg e,if_neg e] at this
theorem ShOk.get {l : List (Nat × Pg)} (h : ShOk l) {k : Nat} {p : Pg} (e : qan l k = some p) : ShPgOk (k,p):=h.page _ (qbb e)
theorem cntB_zero {b : qam} : qew b = 0 ↔ ∀ x ∈ b,x = 0:=by
 rw [qew,List.countP_eq_zero]; simp
theorem cntB_len (b : qam) : qew b ≤ b.length:=List.countP_le_length
theorem zeroB_cnt : qew zeroB = 0:=by
 rw [cntB_zero]; intro x hx; exact (List.mem_replicate.1 hx).2
theorem qgj : zeroB.length = 256:=List.length_replicate
theorem zeroB_get (j : Nat) : zeroB.getD j 0 = 0:=by
 rw [List.getD_eq_getElem?_getD]
 cases h : zeroB[j]? with
 | none=>rfl
 | some x=>exact (List.mem_replicate.1 (List.mem_of_getElem? h)).2
theorem bytes_ext {b c : qam} (hb : b.length = 256) (hc : c.length = 256) (h : ∀ j,j < 256 → b.getD j 0 = c.getD j 0) : b = c:=by
 apply List.ext_getElem (by omega)
 intro j h1 h2
 have:=h j (by omega)
 simpa [List.getD_eq_getElem?_getD,h1,h2] using this
theorem getPg_rem (l : List (Nat × Pg)) (k j : Nat) : qan (remPg l k) j = if j = k then none else qan l j:=by
 unfold remPg
 rw [getPg_filter l (fun y=>y != k) j]
 by_cases h : j = k <;> simp [h]
theorem getPg_ins {l : List (Nat × Pg)} (hr : Rising l) {k : Nat} (p : Pg) (hk : k ∉ l.map (·.1)) (j : Nat) : qan (qgh k p l) j = if j = k then some p else qan l j:=by
 have hr2:=hr.ins p hk
 by_cases h : j = k
 ·subst h
  rw [if_pos rfl]
  exact qci hr2.nodup ((qbq _ _ _).mem_iff.2 (List.mem_cons_self ..))
 ·rw [if_neg h]
  cases e : qan l j with
  | none =>
   rw [qbi] at e ⊢
   intro hm
   have:=((qbq k p l).map (·.1)).mem_iff.1 hm
   rw [List.map_cons,List.mem_cons] at this
   exact this.elim h e
  | some q=>exact qci hr2.nodup ((qbq _ _ _).mem_iff.2 (List.mem_cons_of_mem _ (qbb e)))
theorem bOf_len {l : List (Nat × Pg)} (h : ShOk l) (k : Nat) : (bOf l k).length = 256:=by
 unfold bOf
 cases e : qan l k with
 | none=>exact qgj
 | some p=>exact (h.get e).len
theorem qfq (l : List (Nat × Pg)) (a : Nat) : labL l a = (bOf l (qar a)).getD (a % 256) 0:=by
 unfold labL bOf
 cases e : qan l (qar a) with
 | none =>
  show (0 : UInt8) = zeroB.getD (a % 256) 0
  exact (zeroB_get _).symm
 | some p=>rfl
theorem qej {l : List (Nat × Pg)} (h : ShOk l) (k : Nat) (b : qam) (j : Nat) : qan (qdh l k b) j = if j = k then (if qew b = 0 then none else some ⟨b,qew b⟩) else qan l j:=by
 unfold qdh
 cases e : qan l k with
 | none =>
  dsimp only
  split
  ·by_cases hj : j = k
   ·subst hj; rw [if_pos rfl,e]
   ·rw [if_neg hj]
  ·exact getPg_ins h.rising _ (qbi.1 e) j
 | some p =>
  dsimp only
  split
  ·exact getPg_rem l k j
  ·rw [qha,e]
   rfl
theorem qgr {l : List (Nat × Pg)} (h : ShOk l) {k : Nat} {b : qam} (hk : k % 256 = 0) (hk2 : k < 4294967296) (hb : b.length = 256) : ShOk (qdh l k b):=by
 have hpg : ∀ x ∈ qdh l k b,ShPgOk x:=by
  intro x hx
  have hr : Rising (qdh l k b):=by
   unfold qdh
   split
   ·split
    ·exact h.rising.sublist List.filter_sublist
    ·exact h.rising.set _ _
   ·rename_i e
    split
    ·exact h.rising
    ·exact h.rising.ins _ (qbi.1 e)
  have hg:=qci hr.nodup (k:=x.1) (p:=x.2) hx
  rw [qej h] at hg
  split at hg
  ·rename_i e
   split at hg
   ·cases hg
   ·injection hg with hg
    obtain ⟨x1,x2⟩:=x
    dsimp only at e hg
    subst e
    rw [← hg]
    exact ⟨hk,hk2,hb,rfl,by show 0 < qew b; omega⟩
  ·exact h.get hg
 refine ⟨?_,hpg⟩
 unfold qdh
 split
 ·split
  ·exact h.rising.sublist List.filter_sublist
  ·exact h.rising.set _ _
 ·rename_i e
  split
  ·exact h.rising
  ·exact h.rising.ins _ (qbi.1 e)
theorem bOf_put {l : List (Nat × Pg)} (h : ShOk l) {k : Nat} {b : qam} (hb : b.length = 256) (j : Nat) : bOf (qdh l k b) j = if j = k then b else bOf l j:=by
 unfold bOf
 rw [qej h]
 by_cases hj : j = k
 ·rw [if_pos hj,if_pos hj]
  by_cases hc : qew b = 0
  ·rw [if_pos hc]
   have h0:=cntB_zero.1 hc
   refine bytes_ext qgj hb fun i hi=>?_
   have : b.getD i 0 = 0:=by
    rw [List.getD_eq_getElem?_getD,List.getElem?_eq_getElem (by omega)]
    exact h0 _ (List.getElem_mem _)
   rw [this]
   exact zeroB_get _
  ·rw [if_neg hc]
 ·rw [if_neg hj,if_neg hj]
theorem base_mod (a : Nat) : qar a % 256 = 0:=by unfold qar; omega
theorem base_le (a : Nat) : qar a ≤ a:=by unfold qar; omega
theorem one_ok {l : List (Nat × Pg)} (h : ShOk l) {a : Nat} (ha : a < 4294967296) (v : UInt8) : ShOk (oneP l a v) :=
 qgr h (base_mod a) (by have:=base_le a; omega) (by rw [List.length_set]; exact bOf_len h _)
theorem labL_one {l : List (Nat × Pg)} (h : ShOk l) (a : Nat) (v : UInt8) (x : Nat) : labL (oneP l a v) x = if x = a then v else labL l x:=by
 have hl:=bOf_len h (qar a)
 have hm : a % 256 < 256:=Nat.mod_lt _ (by decide)
 rw [qfq,qfq,oneP,bOf_put h (by rw [List.length_set]; exact hl)]
 by_cases hb : qar x = qar a
 ·rw [if_pos hb]
  by_cases hx : x = a
  ·subst hx
   rw [if_pos rfl,List.getD_eq_getElem?_getD,List.getElem?_set_self (by omega)]; rfl
  ·rw [if_neg hx,hb,List.getD_eq_getElem?_getD,List.getD_eq_getElem?_getD,List.getElem?_set_ne]
   intro e; exact hx (base_eq hb e.symm)
 ·rw [if_neg hb,if_neg (by intro e; exact hb (by rw [e]))]
theorem lay_ok : ∀ {bs : qam} {l : List (Nat × Pg)} {a : Nat},ShOk l → a + bs.length ≤ 4294967296 → ShOk (qfx l a bs)
 | [],_,_,h,_=>h
 | v :: bs,l,a,h,ha=>by
  rw [List.length_cons] at ha
  exact lay_ok (l:=oneP l a v) (a:=a + 1) (one_ok h (by omega) v) (by omega)
theorem labL_lay : ∀ {bs : qam} {l : List (Nat × Pg)} {a : Nat},ShOk l → a + bs.length ≤ 4294967296 → ∀ x,labL (qfx l a bs) x = if a ≤ x ∧ x < a + bs.length then bs.getD (x - a) 0 else labL l x
 | [],l,a,h,_,x=>by rw [if_neg (by rw [List.length_nil]; omega)]; rfl
 | v :: bs,l,a,h,ha,x=>by
  rw [List.length_cons] at ha
  rw [qfx,labL_lay (one_ok h (by omega) v) (by omega),labL_one h,List.length_cons]
  by_cases h1 : x = a
  ·subst h1
   rw [if_neg (by omega),if_pos rfl,if_pos (by omega),Nat.sub_self]; rfl
  ·by_cases h2 : a + 1 ≤ x ∧ x < a + 1 + bs.length
   ·rw [if_pos h2,if_pos (by omega),show x - a = x - (a + 1) + 1 by omega,List.getD_cons_succ]
   ·rw [if_neg h2,if_neg h1,if_neg (by omega)]
theorem lab_ext {l m : List (Nat × Pg)} (hl : ShOk l) (hm : ShOk m) (h : ∀ x,x < 4294967296 → labL l x = labL m x) : l = m:=by
 refine rising_ext hl.rising hm.rising fun k=>?_
 have hb : k % 256 = 0 → k < 4294967296 → bOf l k = bOf m k:=fun h1 h2=>by
  refine bytes_ext (bOf_len hl k) (bOf_len hm k) fun j hj=>?_
  have:=h (k + j) (by omega)
  have hk : qar (k + j) = k:=by unfold qar; omega
  have hj2 : (k + j) % 256 = j:=by omega
  rw [qfq,qfq,hk,hj2] at this
  exact this
 have zero : ∀ {p : Pg},ShPgOk (k,p) → p.b ≠ zeroB:=fun hp e=>by
  have h1:=hp.cnt
  have h2:=hp.pos
  rw [h1,e,zeroB_cnt] at h2
  omega
 unfold bOf at hb
 cases e1 : qan l k with
 | none =>
  cases e2 : qan m k with
  | none=>rfl
  | some q =>
   have hq:=hm.get e2
   rw [e1,e2] at hb
   exact absurd (hb hq.al hq.lt).symm (zero hq)
 | some p =>
  have hp:=hl.get e1
  have:=hb hp.al hp.lt
  rw [e1] at this
  cases e2 : qan m k with
  | none=>rw [e2] at this; exact absurd this (zero hp)
  | some q =>
   rw [e2] at this
   have hq:=hm.get e2
   obtain ⟨pb,pp⟩:=p
   obtain ⟨qb,qp⟩:=q
   dsimp only at this
   subst this
   rw [show pp = qp from hp.cnt.trans hq.cnt.symm]
def sizedP (size : Int) : Nat:=if size < 0 ∨ 4 < size then 4 else size.toNat
def endN (a : Nat) (n : Int) : Nat:=a + min n.toNat (4294967296 - a)
def setM (S : ShG) (a : Nat) (bs : qam) : Int × ShG:=if S.budget < (qfx S.pages a (bs.take (4294967296 - a))).length then (6,S) else (0,⟨S.budget,qfx S.pages a (bs.take (4294967296 - a))⟩)
def fillM (S : ShG) (a : Nat) (n : Int) (v : UInt8) : Int × ShG:=if 1048576 < n then (1,S) else setM S a (List.replicate n.toNat v)
def putM (S : ShG) (a : Nat) (size : Int) (t : qam) : Int × ShG:=setM S a (t.take (sizedP size))
def tagM (S : ShG) (a : Nat) (size : Int) : qam:=(List.range 4).map fun i=>if i < sizedP size ∧ a + i < 4294967296 then labL S.pages (a + i) else 0
def cutP (k a e : Nat) (b : qam) : qam:=(b.take (min (k + 256) e - k)).drop (max k a - k)
def orL (l : qam) : UInt8:=l.foldl (· ||| ·) 0
def anyM (S : ShG) (a : Nat) (n : Int) : UInt8:=orL (S.pages.flatMap fun x=>cutP x.1 a (endN a n) x.2.b)
def clrB (k a e : Nat) (b : qam) : qam:=b.zipIdx.map fun x=>if a ≤ k + x.2 ∧ k + x.2 < e then 0 else x.1
def clearP (l : List (Nat × Pg)) (a e : Nat) : List (Nat × Pg):=(l.map fun x=>(x.1,(⟨clrB x.1 a e x.2.b,qew (clrB x.1 a e x.2.b)⟩ : Pg))).filter fun x=>x.2.perm != 0
def clearM (S : ShG) (a : Nat) (n : Int) : ShG:=⟨S.budget,clearP S.pages a (endN a n)⟩
end Go.Proofs.Ytnfkalpgidiafaa

namespace Go.Proofs.Ytnfkalpgidiafaa
open _root_.Go.Proofs.Try
open Go
structure ShX where
 pb : Nat
 pm : qcp
 blk : Nat → Nat
def qdx (blk : Nat → Nat) (k : Nat) : Value:=.pointer (some ⟨blk k,0,none⟩)
def qel (l : List (Nat × Pg)) (blk : Nat → Nat) : qcp:=l.map fun p=>((p.1 : Int),qdx blk p.1)
structure ShF (S : ShG) (x : ShX) : Prop where
 ok : ShOk S.pages
 room : S.pages.length ≤ S.budget
 budget : S.budget ≤ 4096
 pages : x.pm.Perm (qel S.pages x.blk)
def qcy (p : Pg) : Obj:=.cells (qay p).toArray 86
def shObj (S : ShG) (x : ShX) : Obj:=.cells #[.int .i64 S.budget,.map (some x.pb)] 69
def qbg (l : List (Nat × Pg)) (blk : Nat → Nat) : List (Nat × Obj):=l.map fun p=>(blk p.1,qcy p.2)
def ShO (b : Nat) (S : ShG) : qax:=Ex fun x : ShX=>Fact (ShF S x) (Sep (Pt b (shObj S x)) (Sep (qda .u32 x.pb x.pm) (Blks (qbg S.pages x.blk))))
theorem pmOf_nodup {l : List (Nat × Pg)} (h : (l.map (·.1)).Nodup) (blk : Nat → Nat) : ((qel l blk).map (·.1)).Nodup:=by
 unfold qel
 rw [List.map_map]
 have e : ((fun x=>x.1) ∘ fun p : Nat × Pg=>((p.1 : Int),qdx blk p.1)) = (fun k : Nat=>(k : Int)) ∘ fun p=>p.1:=rfl
 rw [e,← List.map_map]
 rw [List.Nodup,List.pairwise_map]
 exact h.imp fun h=>by omega
theorem pm_get {l : List (Nat × Pg)} {pm : qcp} {blk : Nat → Nat} (hn : (l.map (·.1)).Nodup) (hp : pm.Perm (qel l blk)) (k : Nat) : qgv pm (k : Int) = (qan l k).map fun _=>qdx blk k:=by
 rw [mget_perm hp (pmOf_nodup hn blk)]
 exact mget_pages (qdx blk) k
theorem ShF.get {S : ShG} {x : ShX} (f : ShF S x) (k : Nat) : qgv x.pm (k : Int) = (qan S.pages k).map fun _=>qdx x.blk k:=pm_get f.ok.rising.nodup f.pages k
section
variable {P : Program} {n : Nat} {cx : Cx} {ρ : Hp} {E : Env} {L : Own} {ops : Array Oper} {Q : Exit → Act → World → Prop} {S' : World → Prop} {π : List (Nat × Bool)}
theorem St.shOpen {w : World} (hs : St cx ρ L w) {b : Nat} {S : ShG} (j j1 j2 : Nat) (hd : [j,j1,j2].Nodup) (e : look L j = some (ShO b S)) :
  ∃ x,ShF S x ∧ St cx ρ ((j,Pt b (shObj S x)) :: (j1,qda .u32 x.pb x.pm) :: (j2,Blks (qbg S.pages x.blk)) :: L) w:=by
 obtain ⟨x,h1⟩:=hs.ex' e
 obtain ⟨hf,h2⟩:=h1.fact (j:=j) (by rw [qai,if_pos rfl])
 simp only [List.nodup_cons,List.mem_cons,not_or,List.not_mem_nil,not_false_eq_true,List.nodup_nil,and_true] at hd
 obtain ⟨⟨d1,d2⟩,d4⟩:=hd
 have h3:=h2.part (j:=j) (k:=j1) d1 (by rw [qai,if_pos rfl])
 have h4:=h3.part (j:=j1) (k:=j2) d4 (by rw [qai,if_neg d1,qai,if_pos rfl])
 refine ⟨x,hf,h4.subF fun q C hq=>?_⟩
 simp only [qai] at hq ⊢
 by_cases q0 : j = q <;> by_cases q1 : j1 = q <;> by_cases q2 : j2 = q <;> simp only [q0,q1,q2,if_true,if_false] at hq ⊢ <;> first | exact hq | (exfalso; omega)
theorem St.shClose {w : World} (hs : St cx ρ L w) {b : Nat} {S : ShG} {x : ShX} (j j1 j2 : Nat) (hd : [j,j1,j2].Nodup) (hf : ShF S x) (e : look L j = some (Pt b (shObj S x))) (e1 : look L j1 = some (qda .u32 x.pb x.pm)) (e2 : look L j2 = some (Blks (qbg S.pages x.blk))) :
  St cx ρ ((j,ShO b S) :: (j1,Emp) :: (j2,Emp) :: L) w:=by
 simp only [List.nodup_cons,List.mem_cons,not_or,List.not_mem_nil,not_false_eq_true,List.nodup_nil,and_true] at hd
 obtain ⟨⟨d1,d2⟩,d4⟩:=hd
 have h4:=hs.glue (j:=j1) (k:=j2) d4 e1 e2
 have h5:=h4.glue (j:=j) (k:=j1) d1 (by rw [qai,if_neg (Ne.symm d1),qai,if_neg (Ne.symm d2)]; exact e) (by rw [qai,if_pos rfl])
 have h6:=h5.imp (i:=j) (A':=ShO b S) (by rw [qai,if_pos rfl]) fun k hk=>⟨x,hf,hk⟩
 refine h6.subF fun q C hq=>?_
 simp only [qai] at hq ⊢
 by_cases q0 : j = q <;> by_cases q1 : j1 = q <;> by_cases q2 : j2 = q <;> simp only [q0,q1,q2,if_true,if_false] at hq ⊢ <;> first | exact hq | (exfalso; omega)
theorem Cd.shOpen {d : Code} {b : Nat} {S : ShG} (j j1 j2 : Nat) (hd : [j,j1,j2].Nodup) (e : look L j = some (ShO b S))
  (h : ∀ x,ShF S x → Cd P Q n cx ρ E ((j,Pt b (shObj S x)) :: (j1,qda .u32 x.pb x.pm) :: (j2,Blks (qbg S.pages x.blk)) :: L) d) : Cd P Q n cx ρ E L d:=fun a w ha hs =>
 let ⟨x,hf,h2⟩:=hs.shOpen j j1 j2 hd e; h x hf a w ha h2
theorem Cd.shClose {d : Code} {b : Nat} {S : ShG} {x : ShX} (j j1 j2 : Nat) (hd : [j,j1,j2].Nodup) (hf : ShF S x) (e : look L j = some (Pt b (shObj S x))) (e1 : look L j1 = some (qda .u32 x.pb x.pm)) (e2 : look L j2 = some (Blks (qbg S.pages x.blk)))
  (h : Cd P Q n cx ρ E ((j,ShO b S) :: (j1,Emp) :: (j2,Emp) :: L) d) : Cd P Q n cx ρ E L d:=fun a w ha hs=>h a w ha (hs.shClose j j1 j2 hd hf e e1 e2)
end
theorem shBase_spec (a : Nat) (ha : a < 4294967296) : Spec Try.prog 25 #[.int .u32 a] (fun _=>True) [] (fun ρ ρ' v L=>ρ' = ρ ∧ v = .int .u32 (qar a) ∧ L = []):=by
 refine Spec.of 7 Try.func25 rfl Try.ntmps25 [(0,_)] rfl rfl ?_
 intro cx ρ hr h0
 refine Cd.seq fun K1 hK1=>?_
 refine Cd.qac [(0,false)] rfl rfl ?_
 refine Jp.y 2 rfl (qaa rfl) rfl rfl Kp.true (Y.assign rfl rfl) ?_
 refine Jp.qae hK1 ?_
 refine Cd.seq fun K2 hK2=>?_
 refine Cd.qac [(0,false),(1,false),(2,false),(3,false),(4,false)] rfl rfl ?_
 refine Jp.y 3 rfl (qaa rfl) rfl rfl Kp.true (Y.move rfl rfl) ?_
 refine Jp.y 4 rfl (qaa rfl) rfl rfl Kp.true (Y.move rfl rfl) ?_
 refine Jp.y 5 rfl (qaa rfl) rfl rfl Kp.true (by exact Y.remN rfl rfl rfl (by omega) (by omega)) ?_
 refine Jp.y 6 rfl (qaa rfl) rfl rfl Kp.true (Y.qfy rfl rfl rfl (qau (by omega) (by omega))) ?_
 refine Jp.y 2 rfl (qaa rfl) rfl rfl Kp.true (Y.assign rfl rfl) ?_
 refine Jp.qae hK2 ?_
 refine Cd.ret [] rfl (qbe rfl rfl) trivial ⟨rfl,congrArg (Value.int .u32) (by unfold qar; omega),rfl⟩
theorem shSized_spec (size : Int) : Spec Try.prog 67 #[.int .i64 size] (fun _=>True) [] (fun ρ ρ' v L=>ρ' = ρ ∧ v = .int .i64 (sizedP size : Int) ∧ L = []):=by
 refine Spec.of 10 Try.func67 rfl Try.ntmps67 [(0,_)] rfl rfl ?_
 intro cx ρ hr h0
 refine Cd.seq fun K3 hK3=>?_
 refine Cd.qac [(0,false)] rfl rfl ?_
 refine Jp.y 2 rfl (qaa rfl) rfl rfl Kp.true (Y.assign rfl rfl) ?_
 refine Jp.qae hK3 ?_
 refine Cd.seq fun K4 hK4=>?_
 refine Cd.seq fun K5 hK5=>?_
 refine Cd.qac [(0,false),(1,false),(2,false),(3,false),(4,false),(5,false)] rfl rfl ?_
 refine Jp.y 3 rfl (qaa rfl) rfl rfl Kp.true (Y.move rfl rfl) ?_
 refine Jp.y 4 rfl (qaa rfl) rfl rfl Kp.true (Y.lss rfl rfl rfl) ?_
 refine Jp.y 5 rfl (qaa rfl) rfl rfl Kp.true (Y.move rfl rfl) ?_
 refine Jp.split 5 rfl (fun g5=>?_) (fun g5=>?_)
 ·skip
  try simp only [sG0] at g5
  refine Jp.qat 6 rfl (qab rfl rfl rfl rfl) rfl rfl Kp.true ?_
  refine Jp.qat 7 rfl (qab rfl rfl rfl rfl) rfl rfl Kp.true ?_
  refine Jp.y 8 rfl (qaa rfl) rfl rfl Kp.true (Y.qba rfl rfl rfl) ?_
  refine Jp.qae hK5 ?_
  refine Cd.qdk rfl ?_
  refine Cd.seq fun K6 hK6=>?_
  refine Cd.qac [(0,false)] rfl rfl ?_
  refine Jp.y 2 rfl (qaa rfl) rfl rfl Kp.true (Y.assign rfl rfl) ?_
  refine Jp.qae hK6 ?_
  refine Cd.ret [] rfl (qbe rfl rfl) trivial ⟨rfl,congrArg (Value.int .i64) (by unfold sizedP; (rw [if_pos (by omega)]; rfl)),rfl⟩
 ·skip
  try simp only [sG0] at g5
  refine Jp.y 6 rfl (qab rfl rfl rfl rfl) rfl rfl Kp.true (Y.move rfl rfl) ?_
  refine Jp.y 7 rfl (qab rfl rfl rfl rfl) rfl rfl Kp.true (Y.gtr rfl rfl rfl) ?_
  refine Jp.y 8 rfl (qaa rfl) rfl rfl Kp.true (Y.qaz rfl rfl rfl) ?_
  refine Jp.qae hK5 ?_
  refine Cd.qaq rfl (fun g8=>?_) (fun g8=>?_)
  ·skip
   try simp only [sG0] at g8
   refine Cd.seq fun K7 hK7=>?_
   refine Cd.qac [(0,false)] rfl rfl ?_
   refine Jp.y 2 rfl (qaa rfl) rfl rfl Kp.true (Y.assign rfl rfl) ?_
   refine Jp.qae hK7 ?_
   refine Cd.ret [] rfl (qbe rfl rfl) trivial ⟨rfl,congrArg (Value.int .i64) (by unfold sizedP; (rw [if_pos (by omega)]; rfl)),rfl⟩
  ·skip
   try simp only [sG0] at g8
   refine Cd.qbw hK4 ?_
   refine Cd.seq fun K8 hK8=>?_
   refine Cd.qac [(0,false),(1,false)] rfl rfl ?_
   refine Jp.y 9 rfl (qaa rfl) rfl rfl Kp.true (Y.move rfl rfl) ?_
   refine Jp.y 2 rfl (qaa rfl) rfl rfl Kp.true (Y.assign rfl rfl) ?_
   refine Jp.qae hK8 ?_
   refine Cd.ret [] rfl (qbe rfl rfl) trivial ⟨rfl,congrArg (Value.int .i64) (by unfold sizedP; (rw [if_neg (by omega)]; omega)),rfl⟩
theorem shEnd_spec (a : Nat) (n : Int) (ha : a < 4294967296) (hn : n ≤ 9223372036854775807) : Spec Try.prog 54 #[.int .u32 a,.int .i64 n] (fun _=>True) [] (fun ρ ρ' v L=>ρ' = ρ ∧ v = .int .u64 (endN a n : Int) ∧ L = []):=by
 refine Spec.of 15 Try.func54 rfl Try.ntmps54 [(0,_),(1,_)] rfl rfl ?_
 intro cx ρ hr h0
 refine Cd.seq fun K9 hK9=>?_
 refine Cd.qac [(0,false)] rfl rfl ?_
 refine Jp.y 4 rfl (qaa rfl) rfl rfl Kp.true (Y.assign rfl rfl) ?_
 refine Jp.qae hK9 ?_
 refine Cd.seq fun K10 hK10=>?_
 refine Cd.qac [(0,false),(1,false),(2,false),(3,false),(4,false),(5,false),(6,false),(7,false),(8,false),(9,false),(10,false)] rfl rfl ?_
 refine Jp.y 5 rfl (qaa rfl) rfl rfl Kp.true (Y.move rfl rfl) ?_
 refine Jp.y 6 rfl (qaa rfl) rfl rfl Kp.true (Y.qav rfl rfl underlying31 underlying93 (by exact qbh (by omega) (by omega))) ?_
 refine Jp.y 7 rfl (qaa rfl) rfl rfl Kp.true (Y.move rfl rfl) ?_
 refine Jp.y 8 rfl (qaa rfl) rfl rfl Kp.true (Y.max2 rfl rfl rfl) ?_
 refine Jp.slot 8 rfl (show _ = Value.int .i64 ((n.toNat : Nat) : Int) from congrArg (Value.int .i64) (by split <;> omega)) ?_
 refine Jp.y 9 rfl (qaa rfl) rfl rfl Kp.true (Y.qav rfl rfl underlying3 underlying93 (by exact qbh (by omega) (by omega))) ?_
 refine Jp.y 10 rfl (qaa rfl) rfl rfl Kp.true (Y.move rfl rfl) ?_
 refine Jp.y 11 rfl (qaa rfl) rfl rfl Kp.true (Y.qav rfl rfl underlying31 underlying93 (by exact qbh (by omega) (by omega))) ?_
 refine Jp.y 12 rfl (qaa rfl) rfl rfl Kp.true (Y.qfy rfl rfl rfl (by exact qbh (by omega) (by omega))) ?_
 refine Jp.y 13 rfl (qaa rfl) rfl rfl Kp.true (Y.min2 rfl rfl rfl) ?_
 refine Jp.slot 13 rfl (show _ = Value.int .u64 ((min n.toNat (4294967296 - a) : Nat) : Int) from congrArg (Value.int .u64) (by split <;> omega)) ?_
 refine Jp.y 14 rfl (qaa rfl) rfl rfl Kp.true (Y.qcd rfl rfl rfl (by exact qbh (by omega) (by omega))) ?_
 refine Jp.y 4 rfl (qaa rfl) rfl rfl Kp.true (Y.assign rfl rfl) ?_
 refine Jp.qae hK10 ?_
 refine Cd.ret [] rfl (qbe rfl rfl) trivial ⟨rfl,congrArg (Value.int .u64) (by unfold endN; omega),rfl⟩
def partP (p a e : Nat) : Nat × Nat:=if min (p + 256) e ≤ max p a then (0,0) else (max p a - p,min (p + 256) e - p)
theorem shMem {l : List (Nat × Pg)} {blk : Nat → Nat} {k : Nat} {p : Pg} (h : qan l k = some p) : (blk k,qcy p) ∈ qbg l blk:=List.mem_map.2 ⟨(k,p),qbb h,rfl⟩
theorem labL_some {l : List (Nat × Pg)} {a : Nat} {p : Pg} (h : qan l (qar a) = some p) : labL l a = p.b.getD (a % 256) 0:=by unfold labL; rw [h]
theorem labL_none {l : List (Nat × Pg)} {a : Nat} (h : qan l (qar a) = none) : labL l a = 0:=by unfold labL; rw [h]
theorem qgo (b : Nat) (S : ShG) (a : Nat) (ha : a < 4294967296) : Spec Try.prog 12 #[.pointer (some ⟨b,0,none⟩),.int .u32 a] (fun _=>True) [(0,ShO b S)]
  (fun ρ ρ' v L=>ρ' = ρ ∧ v = .int .u8 ((labL S.pages a).toNat : Int) ∧ L = [(0,ShO b S)]):=by
 refine Spec.of 22 Try.func12 rfl Try.ntmps12 [(0,_),(1,_)] rfl rfl ?_
 intro cx ρ hr h0
 refine Cd.shOpen 0 1 2 (by decide) rfl fun x hf=>?_
 refine Cd.seq fun K11 hK11=>?_
 refine Cd.qac [(0,false)] rfl rfl ?_
 refine Jp.y 4 rfl (qaa rfl) rfl rfl Kp.true (Y.assign rfl rfl) ?_
 refine Jp.qae hK11 ?_
 refine Cd.seq fun K12 hK12=>?_
 refine Cd.drawn [(0,_),(1,_)] ⟨rfl,rfl,trivial⟩ [(0,true),(1,true),(2,true),(3,true),(4,true),(5,false),(6,true),(7,true)] follows (by kernel_rfl) (fun hrl=>?_)
 refine Jp.q 6 rfl (qaa rfl) rfl rfl (Y.move rfl rfl) ?_
 refine Jp.q 7 rfl (qaa rfl) rfl rfl (Y.qao rfl rfl) ?_
 refine Jp.q 8 rfl (qaa rfl) rfl rfl (by exact Y.qad rfl rfl underlying69 rfl sizeOf67 (by decide) (show _ + 1 = _ from rfl)) ?_
 refine Jp.q 9 rfl (qaa rfl) rfl rfl (Y.qaw 0 rfl isAgg67 rfl rfl rfl) ?_
 refine Jp.q 10 rfl (qaa rfl) rfl rfl (Y.move rfl rfl) ?_
 refine Jp.call [] [] (shBase_spec a ha) 11 rfl (qaa rfl) rfl rfl (Runs.fn rfl call25 rfl) (by decide) (by decide) rfl trivial ?_
 rintro v101 ρ101 L101 ⟨rfl,rfl,rfl⟩
 refine ⟨rfl,fun hle101=>⟨(Kp.st ⟨rfl,rfl,trivial⟩),?_⟩⟩
 refine Jp.q 12 rfl (qaa rfl) rfl rfl (by first | exact Y.lookup 1 rfl rfl rfl underlying67 underlying31 zeroValue82 rfl) ?_
 refine Jp.q 5 rfl (qaa rfl) rfl rfl (Y.assign rfl rfl) ?_
 refine Jp.qae hK12 ?_
 refine Cd.seq fun K14 hK14=>?_
 refine Cd.seq fun K15 hK15=>?_
 refine Cd.qac [(0,false),(1,false)] rfl rfl ?_
 have hget:=hf.get (qar a)
 rcases hg : qan S.pages (qar a) with _ | p
 ·rw [hg] at hget
  refine Jp.slot 5 rfl (show _ = Value.pointer none by rw [hget]; rfl) ?_
  refine Jp.y 13 rfl (qaa rfl) rfl rfl Kp.true (Y.move rfl rfl) ?_
  refine Jp.y 14 rfl (qaa rfl) rfl rfl Kp.true (Y.qfj rfl underlying82 rfl rfl) ?_
  refine Jp.qae hK15 ?_
  refine Cd.qaq rfl (fun gx=>?_) (fun gx=>?_)
  ·skip
   refine Cd.seq fun K16 hK16=>?_
   refine Cd.qac [(0,false)] rfl rfl ?_
   refine Jp.y 4 rfl (qaa rfl) rfl rfl Kp.true (Y.assign rfl rfl) ?_
   refine Jp.qae hK16 ?_
   refine Cd.shClose (b:=b) (x:=x) 0 1 2 (by decide) hf rfl rfl rfl ?_
   refine Cd.ret [(0,_)] rfl (qbe rfl rfl) ⟨rfl,trivial⟩ ⟨rfl,by rw [labL_none hg]; rfl,rfl⟩
  ·exact absurd gx (by simp)
 ·rw [hg] at hget
  refine Jp.slot 5 rfl (show _ = Value.pointer (some ⟨x.blk (qar a),0,none⟩) by rw [hget]; rfl) ?_
  refine Jp.y 13 rfl (qaa rfl) rfl rfl Kp.true (Y.move rfl rfl) ?_
  refine Jp.y 14 rfl (qaa rfl) rfl rfl Kp.true (Y.qfj rfl underlying82 rfl rfl) ?_
  refine Jp.qae hK15 ?_
  refine Cd.qaq rfl (fun gx=>?_) (fun gx=>?_)
  ·exact absurd gx (by simp)
  ·have hlen : p.b.length = 256:=(hf.ok.get hg).len
   have hm : a % 256 < 256:=Nat.mod_lt _ (by decide)
   have hcell:=Blks.cell (shMem (blk:=x.blk) hg) (qed p hlen hm)
   refine Cd.qbw hK14 ?_
   refine Cd.seq fun K17 hK17=>?_
   refine Cd.qac [(0,false),(1,false),(2,false),(3,false),(4,false),(5,false),(6,false),(7,false)] rfl rfl ?_
   refine Jp.y 15 rfl (qaa rfl) rfl rfl Kp.true (Y.move rfl rfl) ?_
   refine Jp.y 16 rfl (qaa rfl) rfl rfl Kp.true (Y.move rfl rfl) ?_
   refine Jp.y 17 rfl (qaa rfl) rfl rfl Kp.true (by exact Y.remN rfl rfl rfl (by omega) (by omega)) ?_
   refine Jp.y 18 rfl (qaa rfl) rfl rfl Kp.true (Y.qao rfl rfl) ?_
   refine Jp.y 19 rfl (qaa rfl) rfl rfl Kp.true (by exact Y.qad rfl rfl underlying86 rfl sizeOf84 (by decide) (show _ + 0 = _ from rfl)) ?_
   refine Jp.y 20 rfl (qaa rfl) rfl rfl Kp.true (Y.qal (q:=a % 256) rfl rfl rfl underlying84 sizeOf5 (by omega) (by omega) (by omega)) ?_
   refine Jp.y 21 rfl (qaa rfl) rfl rfl Kp.true (Y.qbk 2 rfl isAgg5 rfl rfl hcell) ?_
   refine Jp.y 4 rfl (qaa rfl) rfl rfl Kp.true (Y.assign rfl rfl) ?_
   refine Jp.qae hK17 ?_
   refine Cd.shClose (b:=b) (x:=x) 0 1 2 (by decide) hf rfl rfl rfl ?_
   refine Cd.ret [(0,_)] rfl (qbe rfl rfl) ⟨rfl,trivial⟩ ⟨rfl,by rw [labL_some hg,List.getD_eq_getElem?_getD,List.getElem?_eq_getElem (by omega)]; rfl,rfl⟩
end Go.Proofs.Ytnfkalpgidiafaa

namespace Go.Proofs.Ytnfkalpgidiafaa
open _root_.Go.Proofs.Try
open Go
theorem updB_mem {l : List (Nat × Obj)} {b : Nat} {o : Obj} (o' : Obj) (h : (b,o) ∈ l) : (b,o') ∈ qgm l b o':=List.mem_map.2 ⟨(b,o),h,by simp⟩
theorem updB_updB (l : List (Nat × Obj)) (b : Nat) (o o' : Obj) : qgm (qgm l b o) b o' = qgm l b o':=by
 rw [qgm,qgm,qgm,List.map_map]
 apply List.map_congr_left
 intro x _
 simp only [Function.comp]
 by_cases h : x.1 = b <;> simp [h]
theorem updB_id {l : List (Nat × Obj)} {b : Nat} {o : Obj} (hn : (l.map (·.1)).Nodup) (h : (b,o) ∈ l) : qgm l b o = l:=by
 rw [qgm]
 have : l.map (fun p=>if p.1 = b then (b,o) else p) = l.map id:=by
  apply List.map_congr_left
  intro x hx
  split
  ·rename_i e
   exact (qcs (f:=fun p : Nat × Obj=>p.1) hn h hx e.symm)
  ·rfl
 rw [this,List.map_id]
def c1 (v : UInt8) : Nat:=if v = 0 then 0 else 1
theorem cntB_set : ∀ {b : qam} {j : Nat} {v : UInt8} (h : j < b.length),qew (b.set j v) + c1 b[j] = qew b + c1 v
 | [],j,v,h=>by simp at h
 | x :: b,0,v,h=>by
  unfold qew c1
  simp only [List.set_cons_zero,List.countP_cons,List.getElem_cons_zero]
  by_cases h1 : v = 0 <;> by_cases h2 : x = 0 <;> simp [h1,h2] <;> omega
 | x :: b,j + 1,v,h=>by
  have:=cntB_set (b:=b) (j:=j) (v:=v) (by simpa using h)
  unfold qew at this ⊢
  simp only [List.set_cons_succ,List.countP_cons,List.getElem_cons_succ]
  omega
theorem shPut_spec (l : List (Nat × Obj)) (bp : Nat) (p : Pg) (q : Nat) (v : UInt8) (hm : (bp, qcy p) ∈ l) (hlen : p.b.length = 256) (hcnt : p.perm = qew p.b) (hq : q < 256) : Spec Try.prog 55 #[.pointer (some ⟨bp, 0, none⟩), .int .i64 q, .int .u8 (v.toNat : Int)] (fun _ => True) [(0, Blks l)]
    (fun ρ ρ' r L => ρ' = ρ ∧ r = .tuple #[] ∧ L = [(0, Blks (qgm l bp (qcy ⟨p.b.set q v, qew (p.b.set q v)⟩)))]) := by
  refine Spec.of 35 Try.func55 rfl Try.ntmps55 [(0, _), (1, _), (2, _)] rfl rfl ?_
  intro cx ρ hr h0
  refine Cd.know (φ := (l.map (·.1)).Nodup) (A := Blks l) 0 rfl (fun _ h => h.1) fun hnd => ?_
  have hcs := cntB_set (b := p.b) (j := q) (v := v) (by omega)
  have hcl := cntB_len p.b
  have hv256 := v.toNat_lt
  obtain ⟨old, hold⟩ : ∃ x, p.b[q]'(by omega) = x := ⟨_, rfl⟩
  have hcell := Blks.cell hm (qed p hlen hq)
  have hcs0 := cntB_set (b := p.b) (j := q) (v := 0) (by omega)
  rw [hold] at hcell hcs hcs0
  have hc3 : c1 old ≤ qew p.b := by
    have : c1 0 = 0 := rfl
    omega
  have hoz : ((old.toNat : Int) != 0) = decide (c1 old = 1) := by
    unfold c1
    by_cases h : old = 0
    · simp [h]
    · have : old.toNat ≠ 0 := fun e => h (UInt8.toNat_inj.1 (by simpa using e))
      rw [if_neg h]; simp; omega
  have hvz : ((v.toNat : Int) != 0) = decide (c1 v = 1) := by
    unfold c1
    by_cases h : v = 0
    · simp [h]
    · have : v.toNat ≠ 0 := fun e => h (UInt8.toNat_inj.1 (by simpa using e))
      rw [if_neg h]; simp; omega
  have hc1 : c1 old ≤ 1 := by unfold c1; split <;> omega
  have hc2 : c1 v ≤ 1 := by unfold c1; split <;> omega
  have hkeep : ∀ k, Blks l k → Blks (qgm l bp (qcy ⟨p.b, p.perm⟩)) k := fun k hk => by
    have : qgm l bp (qcy ⟨p.b, p.perm⟩) = l := updB_id hnd hm
    rw [this]; exact hk
  refine Cd.seq fun K1 hK1 => ?_
  refine Cd.seq fun K2 hK2 => ?_
  refine Cd.qac [(0, false), (1, false), (2, false), (3, false), (4, false), (5, false), (6, false)] rfl rfl ?_
  refine Jp.y 6 rfl (qaa rfl) rfl rfl Kp.true (Y.move rfl rfl) ?_
  refine Jp.y 7 rfl (qaa rfl) rfl rfl Kp.true (Y.move rfl rfl) ?_
  refine Jp.y 8 rfl (qaa rfl) rfl rfl Kp.true (Y.qao rfl rfl) ?_
  refine Jp.y 9 rfl (qaa rfl) rfl rfl Kp.true (by exact Y.qad rfl rfl underlying86 rfl sizeOf84 (by decide) (show _ + 0 = _ from rfl)) ?_
  refine Jp.y 10 rfl (qaa rfl) rfl rfl Kp.true (Y.qal (q := q) rfl rfl rfl underlying84 sizeOf5 (by omega) (by omega) (by omega)) ?_
  refine Jp.y 11 rfl (qaa rfl) rfl rfl Kp.true (Y.qbk 0 rfl isAgg5 rfl rfl hcell) ?_
  refine Jp.y 12 rfl (qaa rfl) rfl rfl Kp.true (Y.neq rfl rfl rfl) ?_
  refine Jp.qae hK2 ?_
  refine Cd.imp (i := 0) rfl (hkeep) ?_
  refine Cd.slot 12 rfl (show _ = Value.bool (decide (c1 old = 1)) from congrArg Value.bool hoz) ?_
  have hstep : ∀ (x : qam) (a b' : Nat), x.length = 256 → SetC (Blks (qgm l bp (qcy ⟨x, a⟩))) (Blks (qgm l bp (qcy ⟨x, b'⟩))) bp 256 (.int .i64 (b' : Int)) := fun x a b' hx => by
    refine Blks.set (updB_mem _ hm) (by simp [qay, qaf, hx]) (qap _) ?_
    rw [pageCells_perm2 _ hx]
    exact updB_updB _ _ _ _
  have hperm : ∀ (x : qam) (a : Nat), x.length = 256 → HasC (Blks (qgm l bp (qcy ⟨x, a⟩))) ⟨bp, 256, none⟩ (.int .i64 (a : Int)) := fun x a hx => Blks.cell (updB_mem _ hm) (qby ⟨x, a⟩ hx)
  refine Cd.qhi (G := Unit) (fun _ => True) (fun _ => []) [(0, _), (1, _), (2, _)] ⟨rfl, rfl, rfl, trivial⟩ (fun _ => [(0, Blks (qgm l bp (qcy ⟨p.b, p.perm - c1 old⟩)))]) [] trivial hK1 (fun g hφ => ?_) (fun hj1 => ?_)
  · clear hφ
    refine Cd.seq fun K3 hK3 => ?_
    refine Cd.seq fun K4 hK4 => ?_
    refine Cd.qac [(0, false), (1, false)] rfl rfl ?_
    refine Jp.y 20 rfl (qaa rfl) rfl rfl Kp.true (Y.move rfl rfl) ?_
    refine Jp.y 21 rfl (qaa rfl) rfl rfl Kp.true (Y.neq rfl rfl rfl) ?_
    refine Jp.qae hK4 ?_
    refine Cd.slot 21 rfl (show _ = Value.bool (decide (c1 v = 1)) from congrArg Value.bool hvz) ?_
    refine Cd.qhi (G := Unit) (fun _ => True) (fun _ => []) [(0, _), (1, _), (2, _)] ⟨rfl, rfl, rfl, trivial⟩ (fun _ => [(0, Blks (qgm l bp (qcy ⟨p.b, p.perm - c1 old + c1 v⟩)))]) [] trivial hK3 (fun g hφ => ?_) (fun hj2 => ?_)
    · clear hφ
      have e : p.perm - c1 old + c1 v = qew (p.b.set q v) := by omega
      rw [e]
      refine Cd.qac [(0, false), (1, false), (2, false), (3, false), (4, false), (5, false), (6, false)] rfl rfl ?_
      refine Jp.y 29 rfl (qaa rfl) rfl rfl Kp.true (Y.move rfl rfl) ?_
      refine Jp.y 30 rfl (qaa rfl) rfl rfl Kp.true (Y.move rfl rfl) ?_
      refine Jp.y 31 rfl (qaa rfl) rfl rfl Kp.true (Y.move rfl rfl) ?_
      refine Jp.y 32 rfl (qaa rfl) rfl rfl Kp.true (Y.qao rfl rfl) ?_
      refine Jp.y 33 rfl (qaa rfl) rfl rfl Kp.true (by exact Y.qad rfl rfl underlying86 rfl sizeOf84 (by decide) (show _ + 0 = _ from rfl)) ?_
      refine Jp.y 34 rfl (qaa rfl) rfl rfl Kp.true (Y.qal (q := q) rfl rfl rfl underlying84 sizeOf5 (by omega) (by omega) (by omega)) ?_
      refine Jp.qcx 0 (Blks (qgm l bp (qcy ⟨p.b.set q v, qew (p.b.set q v)⟩))) rfl (qaa rfl) rfl rfl sizeOf5 rfl rfl rfl rfl rfl (Blks.set (updB_mem _ hm) (by simp [qay, qaf, hlen]; omega) (qap _) (by rw [qgt ⟨p.b, qew (p.b.set q v)⟩ hlen hq v]; exact updB_updB _ _ _ _)) Kp.true ?_
      refine Jp.end [(0, _)] rfl (res0 rfl) ⟨rfl, trivial⟩ ⟨rfl, rfl, rfl⟩
    · skip
      refine Cd.qaq rfl (fun gv => ?_) (fun gv => ?_)
      · have e : c1 v = 1 := by simpa using gv
        refine Cd.qac [(0, false), (1, false), (2, false), (3, false), (4, false), (5, false), (6, false), (7, false)] rfl rfl ?_
        refine Jp.y 22 rfl (qaa rfl) rfl rfl Kp.true (Y.move rfl rfl) ?_
        refine Jp.y 23 rfl (qaa rfl) rfl rfl Kp.true (Y.qao rfl rfl) ?_
        refine Jp.y 24 rfl (qaa rfl) rfl rfl Kp.true (by exact Y.qad rfl rfl underlying86 rfl sizeOf3 (by decide) (show _ + 256 = _ from rfl)) ?_
        refine Jp.y 25 rfl (qaa rfl) rfl rfl Kp.true (Y.qbk 0 rfl isAgg3 rfl rfl (hperm p.b (p.perm - c1 old) hlen)) ?_
        refine Jp.y 26 rfl (qaa rfl) rfl rfl Kp.true (Y.qcd rfl rfl rfl (by exact qaj (by omega) (by omega))) ?_
        refine Jp.y 27 rfl (qaa rfl) rfl rfl Kp.true (Y.qao rfl rfl) ?_
        refine Jp.y 28 rfl (qaa rfl) rfl rfl Kp.true (by exact Y.qad rfl rfl underlying86 rfl sizeOf3 (by decide) (show _ + 256 = _ from rfl)) ?_
        refine Jp.slot 26 rfl (show _ = Value.int .i64 ((p.perm - c1 old + c1 v : Nat) : Int) from congrArg (Value.int .i64) (by omega)) ?_
        refine Jp.qcx 0 (Blks (qgm l bp (qcy ⟨p.b, p.perm - c1 old + c1 v⟩))) rfl (qaa rfl) rfl rfl sizeOf3 rfl rfl rfl rfl rfl (hstep p.b _ _ hlen) Kp.true ?_
        refine Jp.qae hK3 ?_
        exact Cd.qcz (hj2 () trivial) ⟨rfl, rfl, rfl, trivial⟩ ⟨rfl, trivial⟩
      · have e : c1 v = 0 := by have : ¬ c1 v = 1 := by simpa using gv
                                omega
        refine Cd.imp (i := 0) rfl (fun k hk => (show Blks (qgm l bp (qcy ⟨p.b, p.perm - c1 old + c1 v⟩)) k by rw [e, Nat.add_zero]; exact hk)) ?_
        refine Cd.qbw hK3 ?_
        exact Cd.qcz (hj2 () trivial) ⟨rfl, rfl, rfl, trivial⟩ ⟨rfl, trivial⟩
  · skip
    refine Cd.qaq rfl (fun gv => ?_) (fun gv => ?_)
    · have e : c1 old = 1 := by simpa using gv
      refine Cd.qac [(0, false), (1, false), (2, false), (3, false), (4, false), (5, false), (6, false), (7, false)] rfl rfl ?_
      refine Jp.y 13 rfl (qaa rfl) rfl rfl Kp.true (Y.move rfl rfl) ?_
      refine Jp.y 14 rfl (qaa rfl) rfl rfl Kp.true (Y.qao rfl rfl) ?_
      refine Jp.y 15 rfl (qaa rfl) rfl rfl Kp.true (by exact Y.qad rfl rfl underlying86 rfl sizeOf3 (by decide) (show _ + 256 = _ from rfl)) ?_
      refine Jp.y 16 rfl (qaa rfl) rfl rfl Kp.true (Y.qbk 0 rfl isAgg3 rfl rfl (hperm p.b p.perm hlen)) ?_
      refine Jp.y 17 rfl (qaa rfl) rfl rfl Kp.true (Y.qfy rfl rfl rfl (by exact qaj (by omega) (by omega))) ?_
      refine Jp.y 18 rfl (qaa rfl) rfl rfl Kp.true (Y.qao rfl rfl) ?_
      refine Jp.y 19 rfl (qaa rfl) rfl rfl Kp.true (by exact Y.qad rfl rfl underlying86 rfl sizeOf3 (by decide) (show _ + 256 = _ from rfl)) ?_
      refine Jp.slot 17 rfl (show _ = Value.int .i64 ((p.perm - c1 old : Nat) : Int) from congrArg (Value.int .i64) (by omega)) ?_
      refine Jp.qcx 0 (Blks (qgm l bp (qcy ⟨p.b, p.perm - c1 old⟩))) rfl (qaa rfl) rfl rfl sizeOf3 rfl rfl rfl rfl rfl (hstep p.b _ _ hlen) Kp.true ?_
      refine Jp.qae hK1 ?_
      exact Cd.qcz (hj1 () trivial) ⟨rfl, rfl, rfl, trivial⟩ ⟨rfl, trivial⟩
    · have e : c1 old = 0 := by have : ¬ c1 old = 1 := by simpa using gv
                                omega
      refine Cd.imp (i := 0) rfl (fun k hk => (show Blks (qgm l bp (qcy ⟨p.b, p.perm - c1 old⟩)) k by rw [e, Nat.sub_zero]; exact hk)) ?_
      refine Cd.qbw hK1 ?_
      exact Cd.qcz (hj1 () trivial) ⟨rfl, rfl, rfl, trivial⟩ ⟨rfl, trivial⟩
def cOf (l : List (Nat × Pg)) (y : Nat × Pg) : Int:=(if 0 < y.2.perm then 1 else 0) - (if (qan l y.1).isSome then 1 else 0)
def qgu (l now : List (Nat × Pg)) : Int:=(now.map (cOf l)).sum
theorem perm_sum {l m : List Int} (h : l.Perm m) : l.sum = m.sum:=by
 induction h with
 | nil=>rfl
 | cons x _ ih=>simp [ih]
 | swap x y l=>simp; omega
 | trans _ _ ih1 ih2=>rw [ih1,ih2]
theorem cOf_le (l : List (Nat × Pg)) (y : Nat × Pg) : -1 ≤ cOf l y ∧ cOf l y ≤ 1:=by unfold cOf; split <;> split <;> omega
theorem shMore_spec (b : Nat) (S : ShG) (x : ShX) (hf : ShF S x) (nb : Nat) (nm : qcp) (now : List (Nat × Pg)) (nblk : Nat → Nat) (hnow : nm.Perm (qel now nblk)) (hnd : (now.map (·.1)).Nodup) (hlt : ∀ y ∈ now,y.1 < 4294967296 ∧ y.2.b.length = 256) (hl : now.length ≤ 16777216) :
  Spec Try.prog 56 #[.pointer (some ⟨b,0,none⟩),.map (some nb)] (fun _=>True) [(0,Pt b (shObj S x)),(1,qda .u32 x.pb x.pm),(2,qda .u32 nb nm),(3,Blks (qbg now nblk))]
  (fun ρ ρ' v L=>ρ' = ρ ∧ v = .int .i64 (qgu S.pages now) ∧ L = [(0,Pt b (shObj S x)),(1,qda .u32 x.pb x.pm),(2,qda .u32 nb nm),(3,Blks (qbg now nblk))]):=by
 refine Spec.of 32 Try.func56 rfl Try.ntmps56 [(0,_),(1,_)] rfl rfl ?_
 intro cx ρ hr h0
 have hlen:=hnow.length_eq
 have hlen2 : (qel now nblk).length = now.length:=List.length_map ..
 obtain ⟨K,hK⟩ : ∃ K : qcp → List Int,K = fun l=>l.map fun y=>cOf S.pages (y.1.toNat,(qan now y.1.toNat).getD ⟨[],0⟩):=⟨_,rfl⟩
 have hKp : ∀ p ∈ now,cOf S.pages ((p.1 : Int).toNat,(qan now (p.1 : Int).toNat).getD ⟨[],0⟩) = cOf S.pages p:=fun p hp=>by
  rw [Int.toNat_natCast,qci hnd hp]; rfl
 have hstart : (K nm).sum = qgu S.pages now:=by
  rw [hK,perm_sum (hnow.map _),qel,List.map_map,qgu]
  congr 1
  exact List.map_congr_left fun p hp=>hKp p hp
 refine Cd.seq fun K5 hK5=>?_
 refine Cd.qac [(0,false)] rfl rfl ?_
 refine Jp.y 4 rfl (qaa rfl) rfl rfl Kp.true (Y.assign rfl rfl) ?_
 refine Jp.qae hK5 ?_
 refine Cd.seq fun K6 hK6=>?_
 refine Cd.qac [(0,false)] rfl rfl ?_
 refine Jp.y 5 rfl (qaa rfl) rfl rfl Kp.true (Y.assign rfl rfl) ?_
 refine Jp.qae hK6 ?_
 refine Cd.seq fun K7 hK7=>?_
 refine Cd.seq fun K8 hK8=>?_
 refine Cd.qac [(0,false),(1,false)] rfl rfl ?_
 refine Jp.y 8 rfl (qaa rfl) rfl rfl Kp.true (Y.move rfl rfl) ?_
 first | refine Jp.range 9 2 50 (by decide) rfl (qaa rfl) rfl rfl rfl rfl underlying67 rfl fun r2=>⟨Kp.true,?_⟩
 refine Jp.qae hK8 ?_
 refine Cd.block ?_
 refine Cd.qfl (G:=qcp × Int × Option (Int × Value)) (fun g=>g.2.1 + (K g.1).sum = qgu S.pages now ∧ (∀ y ∈ g.1,y ∈ nm) ∧ g.2.1.natAbs + g.1.length ≤ 16777216) (fun g=>g.1.length) (fun _=>_) (fun g=>[(5,.int .i64 g.2.1)]) [(0,_),(9,_)] (fun g=>[(2,RangeO .u32 nb r2 nm g.1 g.2.2)]) [(0,_),(1,_),(3,_)] ⟨nm,0,none⟩ ⟨by rw [hstart]; simp,fun y h=>h,by show (0 : Int).natAbs + nm.length ≤ _; simp; omega⟩ rfl ⟨rfl,trivial⟩ ⟨rfl,rfl,trivial⟩ ⟨rfl,trivial⟩ ⟨rfl,rfl,rfl,trivial⟩ (fun g KLa hok hLa=>?_)
 obtain ⟨left,k,cur⟩:=g
 obtain ⟨ok1,ok2,ok3⟩:=hok
 dsimp only at ok1 ok2 ok3 ⊢
 refine Cd.seq fun K9 hK9=>?_
 refine Cd.qac [(0,false),(1,false)] rfl rfl ?_
 refine Jp.next 10 2 rfl (qaa rfl) rfl rfl (fun _=>rfl) rfl rfl (fun hn=>⟨Kp.true,?_⟩) (fun q y hq=>⟨Kp.true,?_⟩)
 ·skip
  refine Jp.y 11 rfl (qaa rfl) rfl rfl Kp.true (Y.extract rfl rfl rfl) ?_
  refine Jp.qae hK9 ?_
  refine Cd.seq fun K10 hK10=>?_
  refine Cd.qbu rfl ?_
  refine Cd.exit rfl hK7 ?_
  refine Cd.seq fun K11 hK11=>?_
  refine Cd.qac [(0,false),(1,false)] rfl rfl ?_
  refine Jp.y 31 rfl (qaa rfl) rfl rfl Kp.true (Y.move rfl rfl) ?_
  refine Jp.y 4 rfl (qaa rfl) rfl rfl Kp.true (Y.assign rfl rfl) ?_
  refine Jp.qae hK11 ?_
  refine Cd.imp (i:=2) rfl RangeO.map ?_
  subst hn
  refine Cd.ret [(0,_),(1,_),(2,_),(3,_)] rfl (qbe rfl rfl) ⟨rfl,rfl,rfl,rfl,trivial⟩ ⟨rfl,congrArg (Value.int .i64) (by rw [← ok1,hK]; simp),rfl⟩
 ·have hy:=ok2 y (List.mem_of_getElem? hq)
  obtain ⟨p,hp,hpy⟩:=List.mem_map.1 (hnow.mem_iff.1 hy)
  subst hpy
  obtain ⟨hplt,hplen⟩:=hlt p hp
  have hpe:=perm_erase hq
  have hql:=(List.getElem?_eq_some_iff.1 hq).1
  have hel : (left.eraseIdx q).length + 1 = left.length:=by rw [List.length_eraseIdx,if_pos hql]; omega
  have hsub : ∀ z ∈ left.eraseIdx q,z ∈ nm:=fun z hz=>ok2 z (List.mem_of_mem_eraseIdx hz)
  have hs : (K left).sum = cOf S.pages p + (K (left.eraseIdx q)).sum:=by
   rw [hK,perm_sum (hpe.map _),List.map_cons,List.sum_cons]
   exact congrArg (· + _) (hKp p hp)
  have hcl:=cOf_le S.pages p
  have hget:=hf.get p.1
  have hmem : (nblk p.1,qcy p.2) ∈ qbg now nblk:=List.mem_map.2 ⟨p,hp,rfl⟩
  have hcell:=Blks.cell hmem (qby p.2 hplen)
  have hlook : ∀ P,(qgv x.pm (p.1 : Int)).getD (.pointer none) = P → P ≠ Value.pointer none ∨ True:=fun _ _=>.inr trivial
  refine Jp.y 11 rfl (qaa rfl) rfl rfl Kp.true (Y.extract rfl rfl rfl) ?_
  refine Jp.qae hK9 ?_
  refine Cd.seq fun K12 hK12=>?_
  refine Cd.qdk rfl ?_
  refine Cd.qbw hK12 ?_
  refine Cd.block ?_
  refine Cd.seq fun K13 hK13=>?_
  refine Cd.qac [(0,false),(1,false),(2,false),(3,false),(4,false)] rfl rfl ?_
  refine Jp.y 12 rfl (qaa rfl) rfl rfl Kp.true (by first | exact Y.entry 2 rfl rfl rfl) ?_
  refine Jp.y 13 rfl (qaa rfl) rfl rfl Kp.true (Y.extract rfl rfl rfl) ?_
  refine Jp.y 14 rfl (qaa rfl) rfl rfl Kp.true (Y.extract rfl rfl rfl) ?_
  refine Jp.y 6 rfl (qaa rfl) rfl rfl Kp.true (Y.assign rfl rfl) ?_
  refine Jp.y 7 rfl (qaa rfl) rfl rfl Kp.true (Y.assign rfl rfl) ?_
  refine Jp.qae hK13 ?_
  refine Cd.seq fun K14 hK14=>?_
  refine Cd.seq fun K15 hK15=>?_
  refine Cd.qac [(0,false),(1,false),(2,false),(3,false),(4,false)] rfl rfl ?_
  refine Jp.y 15 rfl (qaa rfl) rfl rfl Kp.true (Y.move rfl rfl) ?_
  refine Jp.y 16 rfl (qaa rfl) rfl rfl Kp.true (Y.qao rfl rfl) ?_
  refine Jp.y 17 rfl (qaa rfl) rfl rfl Kp.true (by exact Y.qad rfl rfl underlying86 rfl sizeOf3 (by decide) (show _ + 256 = _ from rfl)) ?_
  refine Jp.y 18 rfl (qaa rfl) rfl rfl Kp.true (by exact Y.qbk 3 rfl isAgg3 rfl rfl hcell) ?_
  refine Jp.y 19 rfl (qaa rfl) rfl rfl Kp.true (Y.gtr rfl rfl rfl) ?_
  refine Jp.qae hK15 ?_
  refine Cd.slot 19 rfl (show _ = Value.bool (decide (0 < p.2.perm)) from congrArg Value.bool (by simp)) ?_
  refine Cd.qhi (G:=Unit) (fun _=>True) (fun _=>[(5,.int .i64 (k + (if 0 < p.2.perm then 1 else 0)))]) [(0,_),(6,_),(9,_)] ⟨rfl,rfl,rfl,trivial⟩ (fun _=>[]) [(0,_),(1,_),(2,_),(3,_)] ⟨rfl,rfl,rfl,rfl,trivial⟩ hK14 (fun g hφ=>?_) (fun hj3=>?_)
  ·clear hφ
   refine Cd.seq fun K16 hK16=>?_
   refine Cd.qac [(0,false),(1,false),(2,false),(3,false),(4,false),(5,false),(6,false)] rfl rfl ?_
   rcases hg : qan S.pages p.1 with _ | p0
   ·have hc : cOf S.pages p = (if 0 < p.2.perm then 1 else 0):=by unfold cOf; rw [hg]; simp
    rw [hg] at hget
    refine Jp.y 22 rfl (qaa rfl) rfl rfl Kp.true (Y.move rfl rfl) ?_
    refine Jp.y 23 rfl (qaa rfl) rfl rfl Kp.true (Y.qao rfl rfl) ?_
    refine Jp.y 24 rfl (qaa rfl) rfl rfl Kp.true (by exact Y.qad rfl rfl underlying69 rfl sizeOf67 (by decide) (show _ + 1 = _ from rfl)) ?_
    refine Jp.y 25 rfl (qaa rfl) rfl rfl Kp.true (by exact Y.qaw 0 rfl isAgg67 rfl rfl rfl) ?_
    refine Jp.y 26 rfl (qaa rfl) rfl rfl Kp.true (Y.move rfl rfl) ?_
    refine Jp.y 27 rfl (qaa rfl) rfl rfl Kp.true (by first | exact Y.lookup 1 rfl rfl rfl underlying67 underlying31 zeroValue82 rfl) ?_
    refine Jp.slot 27 rfl (show _ = Value.pointer none by rw [hget]; rfl) ?_
    refine Jp.y 28 rfl (qaa rfl) rfl rfl Kp.true (Y.ptrNotNil rfl underlying82 rfl rfl) ?_
    refine Jp.qae hK16 ?_
    refine Cd.qaq rfl (fun gz=>?_) (fun gz=>?_)
    ·exact absurd gz (by simp)
    ·rw [← hc]
     refine CdQ.again rfl hLa ⟨left.eraseIdx q,k + cOf S.pages p,_⟩ ⟨by show k + cOf S.pages p + (K (left.eraseIdx q)).sum = _; omega,hsub,by show (k + cOf S.pages p).natAbs + (left.eraseIdx q).length ≤ _; omega⟩ (by show (left.eraseIdx q).length < left.length; omega) rfl ⟨rfl,rfl,rfl,trivial⟩ ⟨rfl,rfl,rfl,rfl,trivial⟩
   ·have hc : cOf S.pages p = (if 0 < p.2.perm then 1 else 0) - 1:=by unfold cOf; rw [hg]; simp
    rw [hg] at hget
    refine Jp.y 22 rfl (qaa rfl) rfl rfl Kp.true (Y.move rfl rfl) ?_
    refine Jp.y 23 rfl (qaa rfl) rfl rfl Kp.true (Y.qao rfl rfl) ?_
    refine Jp.y 24 rfl (qaa rfl) rfl rfl Kp.true (by exact Y.qad rfl rfl underlying69 rfl sizeOf67 (by decide) (show _ + 1 = _ from rfl)) ?_
    refine Jp.y 25 rfl (qaa rfl) rfl rfl Kp.true (by exact Y.qaw 0 rfl isAgg67 rfl rfl rfl) ?_
    refine Jp.y 26 rfl (qaa rfl) rfl rfl Kp.true (Y.move rfl rfl) ?_
    refine Jp.y 27 rfl (qaa rfl) rfl rfl Kp.true (by first | exact Y.lookup 1 rfl rfl rfl underlying67 underlying31 zeroValue82 rfl) ?_
    refine Jp.slot 27 rfl (show _ = Value.pointer (some ⟨x.blk p.1,0,none⟩) by rw [hget]; rfl) ?_
    refine Jp.y 28 rfl (qaa rfl) rfl rfl Kp.true (Y.ptrNotNil rfl underlying82 rfl rfl) ?_
    refine Jp.qae hK16 ?_
    refine Cd.qaq rfl (fun gz=>?_) (fun gz=>?_)
    ·have e1 : k + (if 0 < p.2.perm then 1 else 0) = k + cOf S.pages p + 1:=by omega
     rw [e1]
     refine Cd.qac [(0,false),(1,false),(2,false)] rfl rfl ?_
     refine Jp.y 29 rfl (qaa rfl) rfl rfl Kp.true (Y.move rfl rfl) ?_
     refine Jp.y 30 rfl (qaa rfl) rfl rfl Kp.true (Y.qfy rfl rfl rfl (by exact qaj (by omega) (by omega))) ?_
     refine Jp.slot 30 rfl (show _ = Value.int .i64 (k + cOf S.pages p) from congrArg (Value.int .i64) (by omega)) ?_
     refine Jp.y 5 rfl (qaa rfl) rfl rfl Kp.true (Y.assign rfl rfl) ?_
     refine JpQ.again rfl hLa ⟨left.eraseIdx q,k + cOf S.pages p,_⟩ ⟨by show k + cOf S.pages p + (K (left.eraseIdx q)).sum = _; omega,hsub,by show (k + cOf S.pages p).natAbs + (left.eraseIdx q).length ≤ _; omega⟩ (by show (left.eraseIdx q).length < left.length; omega) rfl ⟨rfl,rfl,rfl,trivial⟩ ⟨rfl,rfl,rfl,rfl,trivial⟩
    ·exact absurd gz (by simp)
  ·skip
   refine Cd.qaq rfl (fun gp=>?_) (fun gp=>?_)
   ·have e : 0 < p.2.perm:=by simpa using gp
    refine Cd.qac [(0,false),(1,false),(2,false)] rfl rfl ?_
    refine Jp.y 20 rfl (qaa rfl) rfl rfl Kp.true (Y.move rfl rfl) ?_
    refine Jp.y 21 rfl (qaa rfl) rfl rfl Kp.true (Y.qcd rfl rfl rfl (by exact qaj (by omega) (by omega))) ?_
    refine Jp.slot 21 rfl (show _ = Value.int .i64 (k + (if 0 < p.2.perm then 1 else 0)) from congrArg (Value.int .i64) (by rw [if_pos e])) ?_
    refine Jp.y 5 rfl (qaa rfl) rfl rfl Kp.true (Y.assign rfl rfl) ?_
    refine Jp.qae hK14 ?_
    exact Cd.qcz (hj3 () trivial) ⟨rfl,rfl,rfl,rfl,trivial⟩ ⟨rfl,rfl,rfl,rfl,trivial⟩
   ·have e : ¬ 0 < p.2.perm:=by simpa using gp
    refine Cd.slot 5 rfl (show _ = Value.int .i64 (k + (if 0 < p.2.perm then 1 else 0)) from congrArg (Value.int .i64) (by rw [if_neg e,Int.add_zero])) ?_
    refine Cd.qbw hK14 ?_
    exact Cd.qcz (hj3 () trivial) ⟨rfl,rfl,rfl,rfl,trivial⟩ ⟨rfl,rfl,rfl,rfl,trivial⟩
end Go.Proofs.Ytnfkalpgidiafaa

namespace Go.Proofs.Ytnfkalpgidiafaa
open Go
structure NowOk (now : List (Nat × Pg)) : Prop where
 nodup : (now.map (·.1)).Nodup
 al : ∀ y ∈ now,y.1 % 256 = 0 ∧ y.1 < 4294967296
 len : ∀ y ∈ now,y.2.b.length = 256
 cnt : ∀ y ∈ now,y.2.perm = qew y.2.b
def nowB (l now : List (Nat × Pg)) (k : Nat) : qam:=match qan now k with
 | some p=>p.b
 | none=>bOf l k
def qdm (now : List (Nat × Pg)) (k : Nat) (p : Pg) : List (Nat × Pg):=match qan now k with
 | some _=>qbx now k p
 | none=>now ++ [(k,p)]
def pgB (b : qam) : Pg:=⟨b,qew b⟩
def now1 (l now : List (Nat × Pg)) (x : Nat) (v : UInt8) : List (Nat × Pg):=qdm now (qar x) (pgB ((nowB l now (qar x)).set (x % 256) v))
def nowP (l : List (Nat × Pg)) (a : Nat) (bs : qam) : Nat → List (Nat × Pg)
 | 0=>[]
 | i + 1=>now1 l (nowP l a bs i) (a + i) (bs.getD i 0)
theorem getPg_snoc {l : List (Nat × Pg)} {k : Nat} {p : Pg} (h : qan l k = none) (j : Nat) : qan (l ++ [(k,p)]) j = if j = k then some p else qan l j:=by
 induction l with
 | nil =>
  simp only [List.nil_append,qan]
  by_cases e : k = j
  ·subst e; simp
  ·rw [if_neg e,if_neg (Ne.symm e)]
 | cons y l ih =>
  obtain ⟨y,q⟩:=y
  simp only [qan] at h
  split at h
  ·cases h
  ·rename_i hy
   simp only [List.cons_append,qan]
   by_cases e : y = j
   ·subst e; rw [if_pos rfl,if_neg hy,if_pos rfl]
   ·rw [if_neg e,if_neg e]; exact ih h
theorem getPg_nowPut (now : List (Nat × Pg)) (k : Nat) (p : Pg) (j : Nat) : qan (qdm now k p) j = if j = k then some p else qan now j:=by
 unfold qdm
 cases h : qan now k with
 | none=>exact getPg_snoc h j
 | some q=>dsimp only; rw [qha,h]; rfl
theorem nowPut_ok {now : List (Nat × Pg)} (h : NowOk now) {k : Nat} {b : qam} (hk : k % 256 = 0) (hk2 : k < 4294967296) (hb : b.length = 256) : NowOk (qdm now k (pgB b)):=by
 have hmem : ∀ y ∈ qdm now k (pgB b),y = (k,pgB b) ∨ y ∈ now:=by
  intro y hy
  unfold qdm at hy
  split at hy
  ·obtain ⟨z,hz,e⟩:=List.mem_map.1 hy
   split at e
   ·exact .inl e.symm
   ·exact .inr (e ▸ hz)
  ·rcases List.mem_append.1 hy with h | h
   ·exact .inr h
   ·exact .inl (List.mem_singleton.1 h)
 refine ⟨?_,fun y hy=>?_,fun y hy=>?_,fun y hy=>?_⟩
 ·unfold qdm
  split
  ·rw [qfm]; exact h.nodup
  ·rename_i e
   rw [List.map_append,List.nodup_append]
   refine ⟨h.nodup,by simp,fun x hx y hy=>?_⟩
   simp at hy
   subst hy
   intro e2
   subst e2
   exact qbi.1 e hx
 ·rcases hmem y hy with rfl | h'
  ·exact ⟨hk,hk2⟩
  ·exact h.al y h'
 ·rcases hmem y hy with rfl | h'
  ·exact hb
  ·exact h.len y h'
 ·rcases hmem y hy with rfl | h'
  ·rfl
  ·exact h.cnt y h'
theorem nowB_len {l now : List (Nat × Pg)} (h : ShOk l) (hn : NowOk now) (k : Nat) : (nowB l now k).length = 256:=by
 unfold nowB
 cases e : qan now k with
 | none=>exact bOf_len h k
 | some p=>exact hn.len _ (qbb e)
theorem now1_ok {l now : List (Nat × Pg)} (h : ShOk l) (hn : NowOk now) {x : Nat} (hx : x < 4294967296) (v : UInt8) : NowOk (now1 l now x v) :=
 nowPut_ok hn (base_mod x) (by have:=base_le x; omega) (by rw [List.length_set]; exact nowB_len h hn _)
theorem nowP_ok {l : List (Nat × Pg)} (h : ShOk l) {a : Nat} {bs : qam} : ∀ {i : Nat},a + i ≤ 4294967296 → NowOk (nowP l a bs i)
 | 0,_=>⟨by simp [nowP],fun y h=>by simp [nowP] at h,fun y h=>by simp [nowP] at h,fun y h=>by simp [nowP] at h⟩
 | i + 1,hi=>now1_ok h (nowP_ok h (by omega)) (by omega) _
def labN (l now : List (Nat × Pg)) (x : Nat) : UInt8:=(nowB l now (qar x)).getD (x % 256) 0
theorem labN_now1 {l now : List (Nat × Pg)} (h : ShOk l) (hn : NowOk now) (a : Nat) (v : UInt8) (x : Nat) : labN l (now1 l now a v) x = if x = a then v else labN l now x:=by
 have hl:=nowB_len h hn (qar a)
 have hm : a % 256 < 256:=Nat.mod_lt _ (by decide)
 have hB : ∀ k,nowB l (now1 l now a v) k = if k = qar a then (nowB l now (qar a)).set (a % 256) v else nowB l now k:=fun k=>by
  conv=>lhs; unfold nowB now1
  rw [getPg_nowPut]
  by_cases e : k = qar a
  ·rw [if_pos e,if_pos e]; rfl
  ·rw [if_neg e,if_neg e]; rfl
 unfold labN
 rw [hB]
 by_cases hb : qar x = qar a
 ·rw [if_pos hb]
  by_cases hx : x = a
  ·subst hx
   rw [if_pos rfl,List.getD_eq_getElem?_getD,List.getElem?_set_self (by omega)]; rfl
  ·rw [if_neg hx,hb,List.getD_eq_getElem?_getD,List.getD_eq_getElem?_getD,List.getElem?_set_ne]
   intro e; exact hx (base_eq hb e.symm)
 ·rw [if_neg hb,if_neg (by intro e; exact hb (by rw [e]))]
theorem labN_nowP {l : List (Nat × Pg)} (h : ShOk l) {a : Nat} {bs : qam} : ∀ {i : Nat},a + i ≤ 4294967296 → ∀ x,labN l (nowP l a bs i) x = if a ≤ x ∧ x < a + i then bs.getD (x - a) 0 else labL l x
 | 0,_,x=>by rw [if_neg (by omega),qfq]; rfl
 | i + 1,hi,x=>by
  rw [nowP,labN_now1 h (nowP_ok h (by omega)),labN_nowP h (by omega)]
  by_cases e : x = a + i
  ·rw [if_pos e,if_pos (by omega),e,Nat.add_sub_cancel_left]
  ·rw [if_neg e]
   by_cases e2 : a ≤ x ∧ x < a + i
   ·rw [if_pos e2,if_pos (by omega)]
   ·rw [if_neg e2,if_neg (by omega)]
def putAll (l now : List (Nat × Pg)) : List (Nat × Pg):=now.foldl (fun l y=>qdh l y.1 y.2.b) l
theorem putAll_ok : ∀ {now l : List (Nat × Pg)},ShOk l → (∀ y ∈ now,y.1 % 256 = 0 ∧ y.1 < 4294967296) → (∀ y ∈ now,y.2.b.length = 256) → ShOk (putAll l now)
 | [],l,h,_,_=>h
 | y :: now,l,h,h1,h2=>putAll_ok (now:=now) (qgr h (h1 y (List.mem_cons_self ..)).1 (h1 y (List.mem_cons_self ..)).2 (h2 y (List.mem_cons_self ..))) (fun z hz=>h1 z (List.mem_cons_of_mem _ hz)) fun z hz=>h2 z (List.mem_cons_of_mem _ hz)
theorem qfe : ∀ {now l : List (Nat × Pg)},ShOk l → (now.map (·.1)).Nodup → (∀ y ∈ now,y.1 % 256 = 0 ∧ y.1 < 4294967296) → (∀ y ∈ now,y.2.b.length = 256) → ∀ j,qan (putAll l now) j = match qan now j with
  | some p=>if qew p.b = 0 then none else some (pgB p.b)
  | none=>qan l j
 | [],l,h,_,_,_,j=>rfl
 | y :: now,l,h,hn,h1,h2,j=>by
  rw [List.map_cons,List.nodup_cons] at hn
  have h' : ShOk (qdh l y.1 y.2.b):=qgr h (h1 y (List.mem_cons_self ..)).1 (h1 y (List.mem_cons_self ..)).2 (h2 y (List.mem_cons_self ..))
  have ih:=qfe (now:=now) h' hn.2 (fun z hz=>h1 z (List.mem_cons_of_mem _ hz)) (fun z hz=>h2 z (List.mem_cons_of_mem _ hz)) j
  show qan (putAll (qdh l y.1 y.2.b) now) j = _
  rw [ih]
  obtain ⟨k,p⟩:=y
  simp only [qan]
  by_cases e : k = j
  ·subst e
   rw [qbi.2 hn.1,if_pos rfl]
   dsimp only
   rw [qej h,if_pos rfl]; rfl
  ·rw [if_neg e]
   cases hg : qan now j with
   | some q=>rfl
   | none=>dsimp only; rw [qej h,if_neg (Ne.symm e)]
theorem lay_putAll {l : List (Nat × Pg)} (h : ShOk l) {a : Nat} {bs : qam} (ha : a + bs.length ≤ 4294967296) : putAll l (nowP l a bs bs.length) = qfx l a bs:=by
 have hn:=nowP_ok h (bs:=bs) ha
 have hok:=putAll_ok h hn.al hn.len
 refine lab_ext hok (lay_ok h ha) fun x hx=>?_
 rw [labL_lay h ha,← labN_nowP h (bs:=bs) ha,qfq]
 unfold labN
 congr 1
 have hg:=qfe h hn.nodup hn.al hn.len (qar x)
 unfold nowB
 conv=>lhs; unfold bOf
 rw [hg]
 cases e : qan (nowP l a bs bs.length) (qar x) with
 | none=>dsimp only; unfold bOf; rfl
 | some p =>
  dsimp only
  by_cases hz : qew p.b = 0
  ·rw [if_pos hz]
   have h0:=cntB_zero.1 hz
   refine bytes_ext qgj (hn.len _ (qbb e)) fun i hi=>?_
   have hl : p.b.length = 256:=hn.len _ (qbb e)
   rw [zeroB_get,List.getD_eq_getElem?_getD,List.getElem?_eq_getElem (by omega)]
   exact (h0 _ (List.getElem_mem _)).symm
  ·rw [if_neg hz]; rfl
theorem putPg_len {l : List (Nat × Pg)} (h : ShOk l) (k : Nat) (b : qam) : ((qdh l k b).length : Int) = l.length + cOf l (k,pgB b):=by
 unfold qdh cOf pgB
 cases e : qan l k with
 | none =>
  dsimp only
  split
  ·rename_i hz; simp [hz]
  ·rw [(qbq _ _ _).length_eq,List.length_cons]
   have : 0 < qew b:=by omega
   simp [this]
 | some p =>
  dsimp only
  have hrem : (remPg l k).length + 1 = l.length:=by
   have hn:=h.rising.nodup
   have hm:=qbb e
   clear e h
   unfold remPg
   induction l with
   | nil=>cases hm
   | cons y l ih =>
    rw [List.map_cons,List.nodup_cons] at hn
    rw [List.filter_cons]
    by_cases hy : y.1 = k
    ·have hall : l.filter (fun x=>x.1 != k) = l:=List.filter_eq_self.2 fun z hz=>by
      have : z.1 ≠ k:=fun e=>hn.1 (by rw [hy,← e]; exact List.mem_map.2 ⟨z,hz,rfl⟩)
      simpa using this
     simp [hy,hall]
    ·have hm' : (k,p) ∈ l:=(List.mem_cons.1 hm).resolve_left fun e=>hy (by rw [← e])
     have:=ih hn.2 hm'
     simp [hy]; omega
  split
  ·rename_i hz
   simp [hz]; omega
  ·have : 0 < qew b:=by omega
   rw [qbx,List.length_map]
   simp [this]
theorem putAll_len : ∀ {now l : List (Nat × Pg)},ShOk l → (now.map (·.1)).Nodup → (∀ y ∈ now,y.1 % 256 = 0 ∧ y.1 < 4294967296) → (∀ y ∈ now,y.2.b.length = 256) → (∀ y ∈ now,y.2.perm = qew y.2.b) → ((putAll l now).length : Int) = l.length + qgu l now
 | [],l,h,_,_,_,_=>by simp [putAll,qgu]
 | y :: now,l,h,hn,h1,h2,h3=>by
  rw [List.map_cons,List.nodup_cons] at hn
  have h' : ShOk (qdh l y.1 y.2.b):=qgr h (h1 y (List.mem_cons_self ..)).1 (h1 y (List.mem_cons_self ..)).2 (h2 y (List.mem_cons_self ..))
  have ih:=putAll_len (now:=now) h' hn.2 (fun z hz=>h1 z (List.mem_cons_of_mem _ hz)) (fun z hz=>h2 z (List.mem_cons_of_mem _ hz)) (fun z hz=>h3 z (List.mem_cons_of_mem _ hz))
  have e1 : qgu (qdh l y.1 y.2.b) now = qgu l now:=by
   unfold qgu
   congr 1
   refine List.map_congr_left fun z hz=>?_
   unfold cOf
   have hne : ¬ z.1 = y.1:=fun e=>hn.1 (by rw [← e]; exact List.mem_map.2 ⟨z,hz,rfl⟩)
   rw [qej h,if_neg hne]
  have e2 : cOf l (y.1,pgB y.2.b) = cOf l y:=by
   have:=h3 y (List.mem_cons_self ..)
   unfold cOf pgB
   rw [this]
  show ((putAll (qdh l y.1 y.2.b) now).length : Int) = _
  rw [ih,e1,putPg_len h,e2]
  show _ = _ + (cOf l y :: now.map (cOf l)).sum
  rw [List.sum_cons]
  unfold qgu
  omega
theorem nowP_length {l : List (Nat × Pg)} {a : Nat} {bs : qam} : ∀ {i : Nat},(nowP l a bs i).length ≤ i
 | 0=>Nat.le_refl _
 | i + 1=>by
  have:=nowP_length (l:=l) (a:=a) (bs:=bs) (i:=i)
  rw [nowP,now1,qdm]
  split
  ·rw [qbx,List.length_map]; omega
  ·rw [List.length_append,List.length_singleton]; omega
end Go.Proofs.Ytnfkalpgidiafaa

namespace Go.Proofs.Ytnfkalpgidiafaa
open Go
theorem Blks.app {l m : List (Nat × Obj)} : ∀ k,Sep (Blks l) (Blks m) k → Blks (l ++ m) k:=fun k ⟨h1,h2,a1,a2,d,l1,l2⟩=>by
 refine ⟨?_,fun p o hp=>?_⟩
 ·rw [List.map_append,List.nodup_append]
  refine ⟨a1.1,a2.1,fun x hx y hy e=>?_⟩
  subst e
  obtain ⟨p,hp,rfl⟩:=List.mem_map.1 hx
  obtain ⟨q,hq,e⟩:=List.mem_map.1 hy
  have h3:=a1.2 p.1 p.2 hp
  have h4:=a2.2 q.1 q.2 hq
  rw [e] at h4
  rcases d p.1 with h | h
  ·rw [h3] at h; cases h
  ·rw [h4] at h; cases h
 ·rcases List.mem_append.1 hp with h | h
  ·exact l1 _ _ (a1.2 p o h)
  ·exact l2 _ _ (a2.2 p o h)
theorem Blks.subset {l m : List (Nat × Obj)} (hn : (m.map (·.1)).Nodup) (hs : ∀ x ∈ m,x ∈ l) : ∀ k,Blks l k → Blks m k:=fun k hk=>⟨hn,fun b o h=>hk.2 b o (hs _ h)⟩
section
variable {P : Program} {n : Nat} {cx : Cx} {ρ : Hp} {E : Env} {L : Own} {ops : Array Oper} {Q : Exit → Act → World → Prop} {S' : World → Prop} {π : List (Nat × Bool)}
theorem St.joinBB {w : World} (hs : St cx ρ L w) {j k : Nat} {l m : List (Nat × Obj)} (hjk : j ≠ k) (e1 : look L j = some (Blks l)) (e2 : look L k = some (Blks m)) : St cx ρ ((j,Blks (l ++ m)) :: (k,Emp) :: L) w :=
 emp_cons ((hs.glue hjk e1 e2).imp (i:=j) (A:=Sep (Blks l) (Blks m)) (by rw [qai,if_pos rfl]) Blks.app)
theorem Cd.joinBB {d : Code} (j k : Nat) {l m : List (Nat × Obj)} (hjk : j ≠ k) (e1 : look L j = some (Blks l)) (e2 : look L k = some (Blks m)) (h : Cd P Q n cx ρ E ((j,Blks (l ++ m)) :: (k,Emp) :: L) d) : Cd P Q n cx ρ E L d:=fun a w ha hs=>h a w ha (hs.joinBB hjk e1 e2)
end
theorem updB_sh {l : List (Nat × Pg)} {blk : Nat → Nat} (hn : ((qbg l blk).map (·.1)).Nodup) {k : Nat} {p p' : Pg} (hg : qan l k = some p) : qgm (qbg l blk) (blk k) (qcy p') = qbg (qbx l k p') blk:=by
 rw [qgm,qbg,qbg,qbx,List.map_map,List.map_map]
 apply List.map_congr_left
 intro y hy
 simp only [Function.comp]
 by_cases h : y.1 = k
 ·simp [h]
 ·rw [if_neg h,if_neg]
  intro e
  rw [qbg,List.map_map] at hn
  exact h (congrArg (·.1) (qcs (f:=fun p : Nat × Pg=>blk p.1) hn hy (qbb hg) e))
theorem pmOf_set (l : List (Nat × Pg)) (k : Nat) (p : Pg) (blk : Nat → Nat) : qel (qbx l k p) blk = qel l blk:=setPg_map l k p fun k=>((k : Int),qdx blk k)
theorem pmOf_keys (l : List (Nat × Pg)) (blk : Nat → Nat) : (qel l blk).map (·.1) = l.map fun p=>(p.1 : Int):=by rw [qel,List.map_map]; rfl
theorem qgs {l : List (Nat × Pg)} {blk : Nat → Nat} {k : Nat} : (k : Int) ∈ (qel l blk).map (·.1) ↔ k ∈ l.map (·.1):=by
 rw [pmOf_keys]
 constructor
 ·intro h
  obtain ⟨y,hy,e⟩:=List.mem_map.1 h
  have e : (y.1 : Int) = (k : Int):=e
  exact List.mem_map.2 ⟨y,hy,by omega⟩
 ·intro h
  obtain ⟨y,hy,e⟩:=List.mem_map.1 h
  exact List.mem_map.2 ⟨y,hy,by show (y.1 : Int) = k; rw [← e]⟩
theorem pmOf_congr {l : List (Nat × Pg)} {blk blk' : Nat → Nat} (h : ∀ y ∈ l,blk' y.1 = blk y.1) : qel l blk' = qel l blk:=List.map_congr_left fun y hy=>by rw [qdx,qdx,h y hy]
theorem shBlks_congr {l : List (Nat × Pg)} {blk blk' : Nat → Nat} (h : ∀ y ∈ l,blk' y.1 = blk y.1) : qbg l blk' = qbg l blk:=List.map_congr_left fun y hy=>by rw [h y hy]
theorem pm_put {l : List (Nat × Pg)} (h : ShOk l) {pm : qcp} {bk bk' : Nat → Nat} {k : Nat} {b : qam} (hp : pm.Perm (qel l bk)) (hb : ∀ j,j ≠ k → bk' j = bk j) :
  (if qew b = 0 then mdel pm k else qgg pm k (qdx bk' k)).Perm (qel (qdh l k b) bk'):=by
 have hn:=pmOf_nodup h.rising.nodup bk
 have hrem : qel (remPg l k) bk' = (qel l bk).filter fun x=>x.1 != (k : Int):=by
  unfold remPg qel
  rw [List.filter_map]
  have : (fun x : Nat × Pg=>x.1 != k) = (fun x : Int × Value=>x.1 != (k : Int)) ∘ fun p : Nat × Pg=>((p.1 : Int),qdx bk p.1):=by
   funext y
   simp only [Function.comp]
   rw [Bool.eq_iff_iff]
   simp
   omega
  rw [← this]
  refine List.map_congr_left fun y hy=>?_
  have:=(List.mem_filter.1 hy).2
  rw [qdx,qdx,hb _ (by simpa using this)]
 by_cases hz : qew b = 0
 ·rw [if_pos hz]
  have h1:=mdel_perm hp hn (k : Int)
  unfold qdh
  cases e : qan l k with
  | some p=>dsimp only; rw [if_pos hz,hrem]; exact h1
  | none =>
   dsimp only
   rw [if_pos hz]
   have hk:=qbi.1 e
   have e2 : (qel l bk).filter (fun x=>x.1 != (k : Int)) = qel l bk':=by
    rw [← hrem,remPg,List.filter_eq_self.2]
    intro y hy
    have : y.1 ≠ k:=fun e=>hk (List.mem_map.2 ⟨y,hy,e⟩)
    simpa using this
   rw [e2] at h1
   exact h1
 ·rw [if_neg hz]
  unfold qdh
  cases e : qan l k with
  | some p =>
   dsimp only
   rw [if_neg hz,pmOf_set]
   have hk : k ∈ l.map (·.1):=List.mem_map.2 ⟨_,qbb e,rfl⟩
   refine (mset_perm' hn hp (qgs.2 hk)).trans (List.Perm.of_eq ?_)
   rw [qel,qel,List.map_map]
   refine List.map_congr_left fun y hy=>?_
   simp only [Function.comp]
   by_cases hyk : y.1 = k
   ·rw [if_pos (by omega),hyk]
   ·rw [if_neg (by omega),qdx,qdx,hb _ hyk]
  | none =>
   dsimp only
   rw [if_neg hz]
   have hk:=qbi.1 e
   refine (mset_perm hp (fun hm=>hk (qgs.1 hm))).trans ?_
   refine List.Perm.trans ?_ ((qbq k (pgB b) l).symm.map fun p=>((p.1 : Int),qdx bk' p.1))
   rw [List.map_cons]
   refine List.Perm.cons _ (List.Perm.of_eq ?_)
   refine (pmOf_congr fun y hy=>?_).symm
   exact hb _ fun e=>hk (List.mem_map.2 ⟨y,hy,e⟩)
def layM (S : ShG) (a : Nat) (bs : qam) : Int × ShG:=if S.budget < (qfx S.pages a bs).length then (6,S) else (0,⟨S.budget,qfx S.pages a bs⟩)
theorem pgB_bOf {l : List (Nat × Pg)} (h : ShOk l) {k : Nat} {p : Pg} (e : qan l k = some p) : pgB (bOf l k) = p:=by
 have:=(h.get e).cnt
 unfold pgB bOf
 rw [e]
 obtain ⟨b,q⟩:=p
 dsimp only at this ⊢
 rw [this]
theorem pgB_none {l : List (Nat × Pg)} {k : Nat} (e : qan l k = none) : pgB (bOf l k) = ⟨zeroB,0⟩:=by
 unfold pgB bOf
 rw [e]
 dsimp only
 rw [zeroB_cnt]
theorem shSpl_full {cur : Array Value} {cs : List Value} (h : cs.length = cur.size) : spl cur 0 cs = cs.toArray:=by
 apply Array.ext_getElem?
 intro j
 rw [spl_get cs cur 0 j (by omega)]
 by_cases hj : j < cs.length
 ·rw [if_pos ⟨Nat.zero_le _,by omega⟩]; simp
 ·rw [if_neg (by omega)]
  have h1 : cur[j]? = none:=by rw [Array.getElem?_eq_none_iff]; omega
  rw [h1]; simp; omega
theorem qen {p : Pg} (h : p.b.length = 256) : (qay p).length = 257:=by simp [qay,qaf,h]
theorem shCells_one (p : Pg) : (qay p).all one = true:=by
 rw [qay,List.all_append,qbd]; rfl
theorem setPg_now {now now2 : List (Nat × Pg)} {k : Nat} {q : Pg} {p : Pg} (h : now2 = qdm now k p) : qbx now2 k q = qdm now k q:=by
 subst h
 unfold qdm
 cases e : qan now k with
 | some r=>dsimp only; rw [setPg_set]
 | none =>
  dsimp only
  rw [qbx,List.map_append]
  have : now.map (fun x=>if x.1 = k then (k,q) else x) = now.map id:=List.map_congr_left fun y hy=>if_neg fun e2=>qbi.1 e (List.mem_map.2 ⟨y,hy,e2⟩)
  rw [this,List.map_id]
  simp
theorem moreP_le (l : List (Nat × Pg)) : ∀ now : List (Nat × Pg),-(now.length : Int) ≤ qgu l now ∧ qgu l now ≤ now.length
 | []=>by simp [qgu]
 | y :: now=>by
  have h1:=moreP_le l now
  have h2:=cOf_le l y
  unfold qgu at h1 ⊢
  rw [List.map_cons,List.sum_cons,List.length_cons]
  omega
def bkOf (N : List (Nat × Pg)) (blk xblk : Nat → Nat) (left : qcp) (k : Nat) : Nat:=if k ∈ N.map (·.1) ∧ (k : Int) ∉ left.map (·.1) then blk k else xblk k
structure LInv (N l0 fin : List (Nat × Pg)) (blk xblk : Nat → Nat) (left : qcp) (l : List (Nat × Pg)) (pm : qcp) : Prop where
 ok : ShOk l
 perm : pm.Perm (qel l (bkOf N blk xblk left))
 sub : ∀ y ∈ left,y ∈ qel N blk
 nodup : (left.map (·.1)).Nodup
 fin : ∀ j : Nat,(j : Int) ∉ left.map (·.1) → qan l j = qan fin j
def finOf (N l0 : List (Nat × Pg)) (j : Nat) : Option Pg:=match qan N j with
 | some p=>if qew p.b = 0 then none else some (pgB p.b)
 | none=>qan l0 j
theorem LInv.start {N l0 fin : List (Nat × Pg)} {blk xblk : Nat → Nat} {pm : qcp} (h0 : ShOk l0) (hN : NowOk N) (hp : pm.Perm (qel l0 xblk)) (hf : ∀ j,qan fin j = finOf N l0 j) : LInv N l0 fin blk xblk (qel N blk) l0 pm:=by
 refine ⟨h0,?_,fun y h=>h,pmOf_nodup hN.nodup blk,fun j hj=>?_⟩
 ·rw [pmOf_congr (blk:=xblk)]
  ·exact hp
  ·intro y hy
   unfold bkOf
   rw [if_neg]
   exact fun h=>h.2 (qgs.2 h.1)
 ·rw [hf,finOf,qbi.2 (fun h=>hj (qgs.2 h))]
theorem LInv.step {N l0 fin : List (Nat × Pg)} {blk xblk : Nat → Nat} {left : qcp} {l : List (Nat × Pg)} {pm : qcp} (h : LInv N l0 fin blk xblk left l pm) {q : Nat} {p : Nat × Pg} (hq : left[q]? = some ((p.1 : Int),qdx blk p.1)) (hp : p ∈ N) (hN : NowOk N) (hf : ∀ j,qan fin j = finOf N l0 j) :
  LInv N l0 fin blk xblk (left.eraseIdx q) (qdh l p.1 p.2.b) (if qew p.2.b = 0 then mdel pm (p.1 : Int) else qgg pm (p.1 : Int) (qdx blk p.1)):=by
 have hpe:=(perm_erase hq).map (·.1)
 rw [List.map_cons] at hpe
 have hn2:=hpe.nodup_iff.1 h.nodup
 rw [List.nodup_cons] at hn2
 have hne : ((p.1 : Int)) ∉ (left.eraseIdx q).map (·.1):=hn2.1
 have hin : p.1 ∈ N.map (·.1):=List.mem_map.2 ⟨p,hp,rfl⟩
 have hb' : bkOf N blk xblk (left.eraseIdx q) p.1 = blk p.1:=if_pos ⟨hin,hne⟩
 have hbj : ∀ j,j ≠ p.1 → bkOf N blk xblk (left.eraseIdx q) j = bkOf N blk xblk left j:=fun j hj=>by
  unfold bkOf
  have : ((j : Int) ∈ left.map (·.1)) ↔ ((j : Int) ∈ (left.eraseIdx q).map (·.1)):=by
   rw [hpe.mem_iff,List.mem_cons]
   constructor
   ·intro hx; exact hx.resolve_left (by omega)
   ·exact .inr
  simp only [this]
 have hal:=hN.al p hp
 refine ⟨qgr h.ok hal.1 hal.2 (hN.len p hp),?_,fun y hy=>h.sub y (List.mem_of_mem_eraseIdx hy),hn2.2,fun j hj=>?_⟩
 ·have:=pm_put (bk':=bkOf N blk xblk (left.eraseIdx q)) (k:=p.1) (b:=p.2.b) h.ok h.perm hbj
  rw [qdx,hb'] at this
  exact this
 ·rw [qej h.ok]
  by_cases e : j = p.1
  ·subst e
   rw [if_pos rfl,hf,finOf,qci hN.nodup hp]; rfl
  ·rw [if_neg e]
   refine h.fin j ?_
   intro hx
   have:=hpe.mem_iff.1 hx
   rw [List.mem_cons] at this
   exact this.elim (fun e2=>e (by have e2 : (j : Int) = (p.1 : Int):=e2; omega)) hj
theorem fin_blks {N l0 fin : List (Nat × Pg)} {blk xblk : Nat → Nat} (hfo : ShOk fin) (hN : NowOk N) (hf : ∀ j,qan fin j = finOf N l0 j) (hn : ((qbg l0 xblk ++ qbg N blk).map (·.1)).Nodup) :
  ((qbg fin (bkOf N blk xblk [])).map (·.1)).Nodup ∧ ∀ x ∈ qbg fin (bkOf N blk xblk []),x ∈ qbg l0 xblk ++ qbg N blk:=by
 have hin : ∀ y ∈ fin,(qan N y.1 = some y.2 ∧ bkOf N blk xblk [] y.1 = blk y.1) ∨ (y.1 ∉ N.map (·.1) ∧ qan l0 y.1 = some y.2 ∧ bkOf N blk xblk [] y.1 = xblk y.1):=by
  intro y hy
  have hg:=qci hfo.rising.nodup (k:=y.1) (p:=y.2) hy
  rw [hf,finOf] at hg
  cases e : qan N y.1 with
  | some p =>
   rw [e] at hg
   dsimp only at hg
   split at hg
   ·cases hg
   ·injection hg with hg
    have hc:=hN.cnt _ (qbb e)
    refine .inl ⟨?_,if_pos ⟨List.mem_map.2 ⟨_,qbb e,rfl⟩,by simp⟩⟩
    rw [← hg]
    obtain ⟨pb,pq⟩:=p
    unfold pgB
    dsimp only at hc ⊢
    rw [hc]
  | none =>
   rw [e] at hg
   exact .inr ⟨qbi.1 e,hg,if_neg fun h=>qbi.1 e h.1⟩
 rw [List.map_append,List.nodup_append] at hn
 obtain ⟨n1,n2,n3⟩:=hn
 rw [qbg,List.map_map] at n1 n2
 have hmem : ∀ y ∈ fin,(bkOf N blk xblk [] y.1,qcy y.2) ∈ qbg l0 xblk ++ qbg N blk:=by
  intro y hy
  rcases hin y hy with ⟨h1,h2⟩ | ⟨_,h1,h2⟩
  ·rw [h2]; exact List.mem_append_right _ (shMem h1)
  ·rw [h2]; exact List.mem_append_left _ (shMem h1)
 refine ⟨?_,fun x hx=>?_⟩
 ·rw [qbg,List.map_map,List.Nodup,List.pairwise_map]
  have hr : fin.Pairwise fun x y=>x.1 ≠ y.1:=hfo.rising.imp fun h=>by omega
  refine (List.Pairwise.and_mem.1 hr).imp fun {y z} hyz e=>?_
  obtain ⟨hy,hz,hne⟩:=hyz
  simp only [Function.comp] at e
  rcases hin y hy with ⟨h1,h2⟩ | ⟨h0,h1,h2⟩ <;> rcases hin z hz with ⟨g1,g2⟩ | ⟨g0,g1,g2⟩
  ·rw [h2,g2] at e
   exact hne (congrArg (·.1) (qcs (f:=fun p : Nat × Pg=>blk p.1) n2 (qbb h1) (qbb g1) e))
  ·rw [h2,g2] at e
   exact n3 (xblk z.1) (List.mem_map.2 ⟨_,shMem g1,rfl⟩) (blk y.1) (List.mem_map.2 ⟨_,shMem h1,rfl⟩) e.symm
  ·rw [h2,g2] at e
   exact n3 (xblk y.1) (List.mem_map.2 ⟨_,shMem h1,rfl⟩) (blk z.1) (List.mem_map.2 ⟨_,shMem g1,rfl⟩) e
  ·rw [h2,g2] at e
   exact hne (congrArg (·.1) (qcs (f:=fun p : Nat × Pg=>xblk p.1) n1 (qbb h1) (qbb g1) e))
 ·obtain ⟨y,hy,rfl⟩:=List.mem_map.1 hx
  exact hmem y hy
end Go.Proofs.Ytnfkalpgidiafaa

namespace Go.Proofs.Ytnfkalpgidiafaa
open _root_.Go.Proofs.Try
open Go
theorem shBlks_put {now : List (Nat × Pg)} {blk : Nat → Nat} {k b7 : Nat} {p : Pg} (hk : qan now k = none) : ((b7,qcy p) :: qbg now blk).Perm (qbg (now ++ [(k,p)]) (fun j=>if j = k then b7 else blk j)):=by
 have h1 : qbg now (fun j=>if j = k then b7 else blk j) = qbg now blk:=shBlks_congr fun y hy=>if_neg fun e=>qbi.1 hk (List.mem_map.2 ⟨y,hy,e⟩)
 have h2 : qbg (now ++ [(k,p)]) (fun j=>if j = k then b7 else blk j) = qbg now blk ++ [(b7,qcy p)]:=by
  rw [← h1]; unfold qbg; rw [List.map_append]; simp
 rw [h2]
 exact List.perm_append_comm (l₁:=[(b7,qcy p)])
theorem pmOf_put {now : List (Nat × Pg)} {blk : Nat → Nat} {k b7 : Nat} {p : Pg} (hk : qan now k = none) : qgg (qel now blk) (k : Int) (.pointer (some ⟨b7,0,none⟩)) = qel (now ++ [(k,p)]) (fun j=>if j = k then b7 else blk j):=by
 have h1 : qel now (fun j=>if j = k then b7 else blk j) = qel now blk:=pmOf_congr fun y hy=>if_neg fun e=>qbi.1 hk (List.mem_map.2 ⟨y,hy,e⟩)
 rw [mset_new (fun hm=>qbi.1 hk (qgs.1 hm)),← h1]
 unfold qel
 rw [List.map_append]
 simp [qdx]
theorem shLay_spec (b : Nat) (S : ShG) (a : Nat) (n : Int) (bs : qam) (F : FuncId) (cap : List Value) (R : Hp → Prop) (A : qax) (ha : a < 4294967296) (hn : n ≤ 9223372036854775807) (hbs : min n.toNat (4294967296 - a) = bs.length) (hlb : bs.length ≤ 1048576)
  (hcF : ∀ args w,(callFunc F args).run Try.prog w = .ok (.enter F args) w)
  (hF : ∀ (i : Nat) (v : UInt8),bs[i]? = some v → Spec Try.prog F ([Value.int .i64 (i : Int)] ++ cap).toArray R [(0,A)] (fun ρ ρ' r L=>ρ' = ρ ∧ r = .int .u8 (v.toNat : Int) ∧ L = [(0,A)])) :
  Spec Try.prog 26 #[.pointer (some ⟨b,0,none⟩),.int .u32 a,.int .i64 n,.func (.func F) #[] cap.toArray] R [(0,ShO b S),(1,A)]
  (fun ρ ρ' r L=>ρ' = ρ ∧ r = .int .i64 (layM S a bs).1 ∧ L = [(0,ShO b (layM S a bs).2),(1,A)]):=by
 refine Spec.of 103 Try.func26 rfl Try.ntmps26 [(0,_),(1,_),(2,_),(3,_)] rfl rfl ?_
 intro cx ρ hr h0
 refine Cd.shOpen 0 3 4 (by decide) rfl fun x hf=>?_
 have hroom:=hf.room
 have hbud:=hf.budget
 have hend : endN a n = a + bs.length:=by unfold endN; omega
 have hab : a + bs.length ≤ 4294967296:=by omega
 obtain ⟨l0,hl0⟩ : ∃ l,S.pages = l:=⟨_,rfl⟩
 have hok0 : ShOk l0:=hl0 ▸ hf.ok
 refine Cd.seq fun K1 hK1=>?_
 refine Cd.qac [(0,false)] rfl rfl ?_
 refine Jp.y 8 rfl (qaa rfl) rfl rfl Kp.true (Y.assign rfl rfl) ?_
 refine Jp.qae hK1 ?_
 refine Cd.seq fun K2 hK2=>?_
 refine Cd.qac [(0,false),(1,false)] rfl rfl ?_
 refine Jp.makeMap 16 5 .u32 rfl (qaa rfl) rfl rfl rfl fun b5=>⟨Kp.true,?_⟩
 refine Jp.y 9 rfl (qaa rfl) rfl rfl Kp.true (Y.assign rfl rfl) ?_
 refine Jp.qae hK2 ?_
 refine Cd.seq fun K3 hK3=>?_
 refine Cd.seq fun K4 hK4=>?_
 refine Cd.qac [(0,false),(1,false),(2,false),(3,false),(4,false),(5,false),(6,false),(7,false)] rfl rfl ?_
 refine Jp.make 6 Blks.nil ?_
 have hE:=shEnd_spec a n ha hn
 rw [hend] at hE
 refine Jp.y 17 rfl (qaa rfl) rfl rfl Kp.true (Y.move rfl rfl) ?_
 refine Jp.y 18 rfl (qaa rfl) rfl rfl Kp.true (Y.move rfl rfl) ?_
 refine Jp.call [] [] hE 19 rfl (qaa rfl) rfl rfl (Runs.fn rfl call54 rfl) (by decide) (by decide) rfl trivial ?_
 rintro v1 ρ1 L1 ⟨rfl,rfl,rfl⟩
 refine ⟨rfl,fun hle1=>⟨Kp.true,?_⟩⟩
 refine Jp.y 20 rfl (qaa rfl) rfl rfl Kp.true (Y.move rfl rfl) ?_
 refine Jp.y 21 rfl (qaa rfl) rfl rfl Kp.true (Y.qav rfl rfl underlying31 underlying93 (by exact qbh (by omega) (by omega))) ?_
 refine Jp.y 22 rfl (qaa rfl) rfl rfl Kp.true (Y.qfy rfl rfl rfl (by exact qbh (by omega) (by omega))) ?_
 refine Jp.y 23 rfl (qaa rfl) rfl rfl Kp.true (Y.qav rfl rfl underlying93 underlying3 (by exact qaj (by omega) (by omega))) ?_
 refine Jp.slot 23 rfl (show _ = Value.int .i64 (bs.length : Int) from congrArg (Value.int .i64) (by omega)) ?_
 refine Jp.y 24 rfl (qaa rfl) rfl rfl Kp.true (Y.move rfl rfl) ?_
 refine Jp.qae hK4 ?_
 refine Cd.block ?_
 refine Cd.qhi (G:=Nat → Nat) (fun _=>True) (fun _=>[]) [(0,_),(9,_)] ⟨rfl,rfl,trivial⟩ (fun blk=>[(5,qda .u32 b5 (qel (nowP l0 a bs bs.length) blk)),(6,Blks (qbg (nowP l0 a bs bs.length) blk))]) [(0,_),(1,_),(3,_),(4,_)] ⟨rfl,rfl,rfl,rfl,trivial⟩ hK3 (fun g hφ=>?_) (fun hj1=>?_)
 ·obtain ⟨blk,hblk⟩ : ∃ blk,blk = g:=⟨_,rfl⟩
  rw [← hblk]
  clear hφ hblk
  have hno:=nowP_ok hok0 (bs:=bs) hab
  have hnl:=nowP_length (l:=l0) (a:=a) (bs:=bs) (i:=bs.length)
  have hfin:=lay_putAll hok0 hab
  obtain ⟨N,hN⟩ : ∃ N,nowP l0 a bs bs.length = N:=⟨_,rfl⟩
  rw [hN] at hno hnl hfin ⊢
  have hmore:=shMore_spec b S x hf b5 (qel N blk) N blk (List.Perm.refl _) hno.nodup (fun y hy=>⟨(hno.al y hy).2,hno.len y hy⟩) (by omega)
  have hlen:=putAll_len hok0 hno.nodup hno.al hno.len hno.cnt
  have hml:=moreP_le l0 N
  have hgf : ∀ j,qan (qfx l0 a bs) j = finOf N l0 j:=fun j=>by rw [← hfin]; exact qfe hok0 hno.nodup hno.al hno.len j
  rw [hfin] at hlen
  rw [hl0] at hmore
  have hpl : x.pm.length = l0.length:=(hf.pages.length_eq).trans (by rw [qel,List.length_map,hl0])
  have hl0l : l0.length ≤ S.budget:=by rw [← hl0]; exact hroom
  refine Cd.seq fun K5 hK5=>?_
  refine Cd.seq fun K6 hK6=>?_
  refine Cd.drawn [(0,_),(3,_)] ⟨rfl,rfl,trivial⟩ [(0,true),(1,true),(2,true),(3,true),(4,true),(5,true),(6,true),(9,true),(10,true),(11,true),(12,true),(7,false),(8,true),(13,true)] follows (by kernel_rfl) (fun hrl=>?_)
  refine Jp.q 66 rfl (qaa rfl) rfl rfl (Y.move rfl rfl) ?_
  refine Jp.q 67 rfl (qaa rfl) rfl rfl (Y.qao rfl rfl) ?_
  refine Jp.q 68 rfl (qaa rfl) rfl rfl (by exact Y.qad rfl rfl underlying69 rfl sizeOf67 (by decide) (show _ + 1 = _ from rfl)) ?_
  refine Jp.q 69 rfl (qaa rfl) rfl rfl (Y.qaw 0 rfl isAgg67 rfl rfl rfl) ?_
  refine Jp.q 70 rfl (qaa rfl) rfl rfl (by first | exact Y.lenmap 3 rfl underlying67 rfl rfl) ?_
  refine Jp.q 71 rfl (qaa rfl) rfl rfl (Y.move rfl rfl) ?_
  refine Jp.q 72 rfl (qaa rfl) rfl rfl (Y.move rfl rfl) ?_
  refine Jp.q 75 rfl (qaa rfl) rfl rfl (Y.move rfl rfl) ?_
  refine Jp.q 76 rfl (qaa rfl) rfl rfl (Y.qao rfl rfl) ?_
  refine Jp.q 77 rfl (qaa rfl) rfl rfl (by exact Y.qad rfl rfl underlying69 rfl sizeOf3 (by decide) (show _ + 0 = _ from rfl)) ?_
  refine Jp.q 78 rfl (qaa rfl) rfl rfl (Y.qaw 0 rfl isAgg3 rfl rfl rfl) ?_
  refine Jp.call [0,3,5,6] [0,3,5,6] hmore 73 rfl (qaa rfl) rfl rfl (Runs.fn rfl call56 rfl) (by decide) (by decide) rfl trivial ?_
  rintro v3 ρ3 L3 ⟨rfl,rfl,rfl⟩
  refine ⟨rfl,fun hle3=>⟨(Kp.st ⟨rfl,rfl,trivial⟩),?_⟩⟩
  refine Jp.q 74 rfl (qaa rfl) rfl rfl (Y.qcd rfl rfl rfl (by exact qaj (by omega) (by omega))) ?_
  refine Jp.slot 74 rfl (show _ = Value.int .i64 ((qfx l0 a bs).length : Int) from congrArg (Value.int .i64) (by rw [hlen,hpl])) ?_
  refine Jp.q 79 rfl (qaa rfl) rfl rfl (Y.gtr rfl rfl rfl) ?_
  refine Jp.qae hK6 ?_
  refine Cd.qaq rfl (fun gb=>?_) (fun gb=>?_)
  ·have hb : S.budget < (qfx l0 a bs).length:=by simpa using gb
   have e : layM S a bs = (6,S):=by rw [layM,hl0,if_pos hb]
   refine Cd.seq fun K8 hK8=>?_
   refine Cd.qac [(0,false)] rfl rfl ?_
   refine Jp.y 8 rfl (qaa rfl) rfl rfl Kp.true (Y.assign rfl rfl) ?_
   refine Jp.qae hK8 ?_
   refine Cd.shClose (b:=b) (S:=S) (x:=x) 0 3 4 (by decide) hf rfl rfl rfl ?_
   refine Cd.ret [(0,_),(1,_)] rfl (qbe rfl rfl) ⟨rfl,rfl,trivial⟩ ⟨rfl,by rw [e],by rw [e]⟩
  ·have hb : (qfx l0 a bs).length ≤ S.budget:=by simpa using gb
   have e : layM S a bs = (0,⟨S.budget,qfx l0 a bs⟩):=by rw [layM,hl0,if_neg (by omega)]
   have hokf : ShOk (qfx l0 a bs):=lay_ok hok0 hab
   obtain ⟨fin,hfe⟩ : ∃ fin,qfx l0 a bs = fin:=⟨_,rfl⟩
   rw [hfe] at hb e hokf hgf
   refine Cd.joinBB 4 6 (by decide) rfl rfl ?_
   refine Cd.know (φ:=((qbg l0 x.blk ++ qbg N blk).map (·.1)).Nodup) (A:=Blks (qbg S.pages x.blk ++ qbg N blk)) 4 rfl (fun _ h=>by rw [← hl0]; exact h.1) fun hTn=>?_
   refine Cd.qbw hK5 ?_
   refine Cd.seq fun K9 hK9=>?_
   refine Cd.seq fun K10 hK10=>?_
   refine Cd.qac [(0,false),(1,false)] rfl rfl ?_
   refine Jp.y 80 rfl (qaa rfl) rfl rfl Kp.true (Y.move rfl rfl) ?_
   first | refine Jp.range 81 5 50 (by decide) rfl (qaa rfl) rfl rfl rfl rfl underlying67 rfl fun r5=>⟨Kp.true,?_⟩
   refine Jp.qae hK10 ?_
   refine Cd.block ?_
   refine Cd.qfl (G:=qcp × List (Nat × Pg) × qcp × Option (Int × Value)) (fun g=>LInv N l0 fin blk x.blk g.1 g.2.1 g.2.2.1) (fun g=>g.1.length) (fun _=>_) (fun g=>[]) [(0,_),(81,_)] (fun g=>[(3,qda .u32 x.pb g.2.2.1),(5,RangeO .u32 b5 r5 (qel N blk) g.1 g.2.2.2)]) [(0,_),(1,_),(4,_)] ⟨qel N blk,l0,x.pm,none⟩ (LInv.start hok0 hno (hl0 ▸ hf.pages) hgf) rfl trivial ⟨rfl,rfl,trivial⟩ ⟨rfl,rfl,trivial⟩ ⟨rfl,rfl,rfl,trivial⟩ (fun g KLc hok hLc=>?_)
   obtain ⟨left,l,pm,cur⟩:=g
   dsimp only at hok ⊢
   refine Cd.seq fun K11 hK11=>?_
   refine Cd.qac [(0,false),(1,false)] rfl rfl ?_
   refine Jp.next 82 5 rfl (qaa rfl) rfl rfl (fun _=>rfl) rfl rfl (fun hn=>⟨Kp.true,?_⟩) (fun q y hq=>⟨Kp.true,?_⟩)
   ·skip
    refine Jp.y 83 rfl (qaa rfl) rfl rfl Kp.true (Y.extract rfl rfl rfl) ?_
    refine Jp.qae hK11 ?_
    refine Cd.seq fun K12 hK12=>?_
    refine Cd.qbu rfl ?_
    refine Cd.exit rfl hK9 ?_
    refine Cd.seq fun K13 hK13=>?_
    refine Cd.qac [(0,false)] rfl rfl ?_
    refine Jp.y 8 rfl (qaa rfl) rfl rfl Kp.true (Y.assign rfl rfl) ?_
    refine Jp.qae hK13 ?_
    subst hn
    have hl : l = fin:=rising_ext hok.ok.rising hokf.rising fun k=>hok.fin k (by simp)
    have hfb:=fin_blks (blk:=blk) (xblk:=x.blk) hokf hno hgf hTn
    refine Cd.imp (i:=4) rfl (Blks.subset hfb.1 (fun y hy=>by rw [hl0]; exact hfb.2 y hy)) ?_
    refine Cd.shClose (b:=b) (S:=⟨S.budget,fin⟩) (x:=⟨x.pb,pm,bkOf N blk x.blk []⟩) 0 3 4 (by decide) ⟨hokf,hb,hbud,hl ▸ hok.perm⟩ rfl rfl rfl ?_
    refine Cd.ret [(0,_),(1,_)] rfl (qbe rfl rfl) ⟨rfl,rfl,trivial⟩ ⟨rfl,by rw [e],by rw [e]⟩
   ·have hy:=hok.sub y (List.mem_of_getElem? hq)
    obtain ⟨p,hp,hpy⟩:=List.mem_map.1 hy
    subst hpy
    have hql:=(List.getElem?_eq_some_iff.1 hq).1
    have hel : (left.eraseIdx q).length < left.length:=by rw [List.length_eraseIdx,if_pos hql]; omega
    have hst:=hok.step hq hp hno hgf
    have hpl2:=hno.len p hp
    have hpc:=hno.cnt p hp
    have hplt:=(hno.al p hp).2
    have hmem : (blk p.1,qcy p.2) ∈ qbg S.pages x.blk ++ qbg N blk:=List.mem_append_right _ (List.mem_map.2 ⟨p,hp,rfl⟩)
    have hcell:=Blks.cell hmem (qby p.2 hpl2)
    refine Jp.y 83 rfl (qaa rfl) rfl rfl Kp.true (Y.extract rfl rfl rfl) ?_
    refine Jp.qae hK11 ?_
    refine Cd.seq fun K14 hK14=>?_
    refine Cd.qdk rfl ?_
    refine Cd.qbw hK14 ?_
    refine Cd.block ?_
    refine Cd.seq fun K15 hK15=>?_
    refine Cd.qac [(0,false),(1,false),(2,false),(3,false),(4,false)] rfl rfl ?_
    refine Jp.y 84 rfl (qaa rfl) rfl rfl Kp.true (by first | exact Y.entry 5 rfl rfl rfl) ?_
    refine Jp.y 85 rfl (qaa rfl) rfl rfl Kp.true (Y.extract rfl rfl rfl) ?_
    refine Jp.y 86 rfl (qaa rfl) rfl rfl Kp.true (Y.extract rfl rfl rfl) ?_
    refine Jp.y 14 rfl (qaa rfl) rfl rfl Kp.true (Y.assign rfl rfl) ?_
    refine Jp.y 15 rfl (qaa rfl) rfl rfl Kp.true (Y.assign rfl rfl) ?_
    refine Jp.qae hK15 ?_
    refine Cd.seq fun K16 hK16=>?_
    refine Cd.qac [(0,false),(1,false),(2,false),(3,false),(4,false)] rfl rfl ?_
    refine Jp.y 87 rfl (qaa rfl) rfl rfl Kp.true (Y.move rfl rfl) ?_
    refine Jp.y 88 rfl (qaa rfl) rfl rfl Kp.true (Y.qao rfl rfl) ?_
    refine Jp.y 89 rfl (qaa rfl) rfl rfl Kp.true (by exact Y.qad rfl rfl underlying86 rfl sizeOf3 (by decide) (show _ + 256 = _ from rfl)) ?_
    refine Jp.y 90 rfl (qaa rfl) rfl rfl Kp.true (by exact Y.qbk 4 rfl isAgg3 rfl rfl hcell) ?_
    refine Jp.y 91 rfl (qaa rfl) rfl rfl Kp.true (Y.gtr rfl rfl rfl) ?_
    refine Jp.qae hK16 ?_
    refine Cd.qaq rfl (fun gp=>?_) (fun gp=>?_)
    ·have hz : qew p.2.b ≠ 0:=by simp at gp; omega
     rw [if_neg hz] at hst
     refine Cd.qac [(0,false),(1,false),(2,false),(3,false),(4,false),(5,false),(6,false)] rfl rfl ?_
     refine Jp.y 92 rfl (qaa rfl) rfl rfl Kp.true (Y.move rfl rfl) ?_
     refine Jp.y 93 rfl (qaa rfl) rfl rfl Kp.true (Y.qao rfl rfl) ?_
     refine Jp.y 94 rfl (qaa rfl) rfl rfl Kp.true (by exact Y.qad rfl rfl underlying69 rfl sizeOf67 (by decide) (show _ + 1 = _ from rfl)) ?_
     refine Jp.y 95 rfl (qaa rfl) rfl rfl Kp.true (Y.qaw 0 rfl isAgg67 rfl rfl rfl) ?_
     refine Jp.y 96 rfl (qaa rfl) rfl rfl Kp.true (Y.move rfl rfl) ?_
     refine Jp.y 97 rfl (qaa rfl) rfl rfl Kp.true (Y.move rfl rfl) ?_
     first | refine Jp.mapUpdate 3 rfl (qaa rfl) rfl rfl rfl rfl rfl underlying67 underlying31 rfl Kp.true ?_
     refine JpQ.again rfl hLc ⟨left.eraseIdx q,qdh l p.1 p.2.b,_,_⟩ hst hel rfl ⟨rfl,rfl,trivial⟩ ⟨rfl,rfl,rfl,rfl,rfl,trivial⟩
    ·have hz : qew p.2.b = 0:=by simp at gp; omega
     rw [if_pos hz] at hst
     refine Cd.qac [(0,false),(1,false),(2,false),(3,false),(4,false),(5,false)] rfl rfl ?_
     refine Jp.y 98 rfl (qaa rfl) rfl rfl Kp.true (Y.move rfl rfl) ?_
     refine Jp.y 99 rfl (qaa rfl) rfl rfl Kp.true (Y.qao rfl rfl) ?_
     refine Jp.y 100 rfl (qaa rfl) rfl rfl Kp.true (by exact Y.qad rfl rfl underlying69 rfl sizeOf67 (by decide) (show _ + 1 = _ from rfl)) ?_
     refine Jp.y 101 rfl (qaa rfl) rfl rfl Kp.true (Y.qaw 0 rfl isAgg67 rfl rfl rfl) ?_
     refine Jp.y 102 rfl (qaa rfl) rfl rfl Kp.true (Y.move rfl rfl) ?_
     first | refine Jp.delete0 3 rfl (qaa rfl) rfl rfl rfl rfl underlying67 underlying31 rfl Kp.true ?_
     refine JpQ.again rfl hLc ⟨left.eraseIdx q,qdh l p.1 p.2.b,_,_⟩ hst hel rfl ⟨rfl,rfl,trivial⟩ ⟨rfl,rfl,rfl,rfl,rfl,trivial⟩
 ·skip
  refine Cd.qfl (G:=Nat × (Nat → Nat)) (fun g=>g.1 ≤ bs.length) (fun g=>bs.length - g.1) (fun _=>_) (fun g=>[(24,.int .i64 (g.1 : Int))]) [(0,_),(1,_),(3,_),(9,_),(23,_)] (fun g=>[(5,qda .u32 b5 (qel (nowP l0 a bs g.1) g.2)),(6,Blks (qbg (nowP l0 a bs g.1) g.2))]) [(0,_),(1,_),(3,_),(4,_)] ⟨0,fun _=>0⟩ (Nat.zero_le _) rfl ⟨rfl,trivial⟩ ⟨rfl,rfl,rfl,rfl,rfl,trivial⟩ ⟨rfl,rfl,trivial⟩ ⟨rfl,rfl,rfl,rfl,trivial⟩ (fun g KLa hok hLa=>?_)
  obtain ⟨i,blk⟩:=g
  dsimp only at hok ⊢
  refine Cd.seq fun K17 hK17=>?_
  refine Cd.qac [(0,false)] rfl rfl ?_
  refine Jp.y 25 rfl (qaa rfl) rfl rfl Kp.true (Y.lss rfl rfl rfl) ?_
  refine Jp.qae hK17 ?_
  refine Cd.seq fun K18 hK18=>?_
  refine Cd.condF' rfl (fun g25=>?_) (fun g25=>?_)
  ·skip
   try simp only [sG0] at g25
   have e : i = bs.length:=by omega
   rw [e]
   refine Cd.exit rfl hK3 ?_
   exact Cd.qcz (hj1 blk trivial) ⟨rfl,rfl,trivial⟩ ⟨rfl,rfl,rfl,rfl,rfl,rfl,trivial⟩
  try simp only [sG0] at g25
  refine Cd.qbw hK18 ?_
  refine Cd.seq fun K19 hK19=>?_
  refine Cd.block ?_
  refine Cd.seq fun K20 hK20=>?_
  refine Cd.qac [(0,false),(1,false)] rfl rfl ?_
  have hi : i < bs.length:=by omega
  have hv : bs[i]? = some bs[i]:=List.getElem?_eq_getElem hi
  obtain ⟨v,hve⟩ : ∃ v,v = bs[i]:=⟨_,rfl⟩
  rw [← hve] at hv
  have hnow : NowOk (nowP l0 a bs i):=nowP_ok hok0 (by omega)
  have hstep : nowP l0 a bs (i + 1) = now1 l0 (nowP l0 a bs i) (a + i) v:=by
   rw [nowP,List.getD_eq_getElem?_getD,hv]; rfl
  obtain ⟨now,hno⟩ : ∃ now,nowP l0 a bs i = now:=⟨_,rfl⟩
  rw [hno] at hnow hstep ⊢
  obtain ⟨k,hk⟩ : ∃ k,qar (a + i) = k:=⟨_,rfl⟩
  have hkb:=base_mod (a + i)
  have hkl:=base_le (a + i)
  rw [hk] at hkb hkl
  have hB:=shBase_spec (a + i) (by omega)
  rw [hk] at hB
  obtain ⟨nb,hnb⟩ : ∃ x,nowB l0 now k = x:=⟨_,rfl⟩
  have hnbl : nb.length = 256:=by rw [← hnb]; exact nowB_len hok0 hnow k
  have hgetn:=pm_get (blk:=blk) hnow.nodup (List.Perm.refl _) k
  have hget0:=hf.get k
  rw [hl0] at hget0
  refine Jp.y 26 rfl (qaa rfl) rfl rfl Kp.true (Y.move rfl rfl) ?_
  refine Jp.y 10 rfl (qaa rfl) rfl rfl Kp.true (Y.assign rfl rfl) ?_
  refine Jp.qae hK20 ?_
  refine Cd.seq fun K21 hK21=>?_
  refine Cd.qac [(0,false),(1,false),(2,false),(3,false),(4,false)] rfl rfl ?_
  refine Jp.y 27 rfl (qaa rfl) rfl rfl Kp.true (Y.move rfl rfl) ?_
  refine Jp.y 28 rfl (qaa rfl) rfl rfl Kp.true (Y.move rfl rfl) ?_
  refine Jp.y 29 rfl (qaa rfl) rfl rfl Kp.true (Y.qav rfl rfl underlying3 underlying31 (by exact qau (by omega) (by omega))) ?_
  refine Jp.y 30 rfl (qaa rfl) rfl rfl Kp.true (Y.qcd rfl rfl rfl (by exact qau (by omega) (by omega))) ?_
  refine Jp.y 11 rfl (qaa rfl) rfl rfl Kp.true (Y.assign rfl rfl) ?_
  refine Jp.qae hK21 ?_
  refine Cd.seq fun K22 hK22=>?_
  refine Cd.qac [(0,false),(1,false),(2,false),(3,false),(4,false)] rfl rfl ?_
  refine Jp.slot 11 rfl (show _ = Value.int .u32 ((a + i : Nat) : Int) from congrArg (Value.int .u32) (by omega)) ?_
  refine Jp.y 31 rfl (qaa rfl) rfl rfl Kp.true (Y.move rfl rfl) ?_
  refine Jp.y 32 rfl (qaa rfl) rfl rfl Kp.true (Y.move rfl rfl) ?_
  refine Jp.call [] [] hB 33 rfl (qaa rfl) rfl rfl (Runs.fn rfl call25 rfl) (by decide) (by decide) rfl trivial ?_
  rintro v101 ρ101 L101 ⟨rfl,rfl,rfl⟩
  refine ⟨rfl,fun hle101=>⟨Kp.true,?_⟩⟩
  refine Jp.y 34 rfl (qaa rfl) rfl rfl Kp.true (by first | exact Y.lookup 5 rfl rfl rfl underlying67 underlying31 zeroValue82 rfl) ?_
  refine Jp.y 12 rfl (qaa rfl) rfl rfl Kp.true (Y.assign rfl rfl) ?_
  refine Jp.qae hK22 ?_
  refine Cd.seq fun K23 hK23=>?_
  refine Cd.seq fun K24 hK24=>?_
  refine Cd.qac [(0,false),(1,false)] rfl rfl ?_
  refine Jp.slot 12 rfl (show _ = Value.pointer ((qan now k).map fun _=>⟨blk k,0,none⟩) by rw [hgetn]; cases qan now k <;> rfl) ?_
  refine Jp.y 35 rfl (qaa rfl) rfl rfl Kp.true (Y.move rfl rfl) ?_
  refine Jp.y 36 rfl (qaa rfl) rfl rfl Kp.true (Y.qfj rfl underlying82 rfl rfl) ?_
  refine Jp.qae hK24 ?_
  refine Cd.qhi (G:=List (Nat × Pg) × (Nat → Nat)) (fun z=>z.1 = qdm now k (pgB nb)) (fun z=>[(12,qdx z.2 k)]) [(0,_),(1,_),(3,_),(9,_),(10,_),(11,_),(23,_),(24,_)] ⟨rfl,rfl,rfl,rfl,rfl,rfl,rfl,rfl,trivial⟩ (fun z=>[(5,qda .u32 b5 (qel z.1 z.2)),(6,Blks (qbg z.1 z.2))]) [(0,_),(1,_),(3,_),(4,_)] ⟨rfl,rfl,rfl,rfl,trivial⟩ hK23 (fun g hφ=>?_) (fun hj2=>?_)
  ·obtain ⟨now2,blk2⟩:=g
   dsimp only at hφ ⊢
   have hg2 : qan now2 k = some (pgB nb):=by rw [hφ,getPg_nowPut,if_pos rfl]
   refine Cd.qac [(0,false),(1,false),(2,false),(3,false),(4,false),(5,false),(6,false),(7,false)] rfl rfl ?_
   refine Jp.y 57 rfl (qaa rfl) rfl rfl Kp.true (Y.move rfl rfl) ?_
   refine Jp.y 58 rfl (qaa rfl) rfl rfl Kp.true (Y.move rfl rfl) ?_
   refine Jp.y 59 rfl (qaa rfl) rfl rfl Kp.true (by exact Y.remN rfl rfl rfl (by omega) (by omega)) ?_
   refine Jp.slot 59 rfl (show _ = Value.int .u32 (((a + i) % 256 : Nat) : Int) from congrArg (Value.int .u32) (by omega)) ?_
   refine Jp.y 60 rfl (qaa rfl) rfl rfl Kp.true (Y.qav rfl rfl underlying31 underlying3 (by exact qaj (by omega) (by omega))) ?_
   refine Jp.y 61 rfl (qaa rfl) rfl rfl Kp.true (Y.move rfl rfl) ?_
   refine Jp.y 62 rfl (qaa rfl) rfl rfl Kp.true (Y.move rfl rfl) ?_
   refine Jp.call [1] [1] (hF i v hv) 63 rfl (qaa rfl) rfl rfl (Runs.val rfl rfl hcF rfl) (by decide) (by decide) rfl hr ?_
   rintro v7 ρ7 L7 ⟨rfl,rfl,rfl⟩
   refine ⟨rfl,fun hle7=>⟨Kp.true,?_⟩⟩
   refine Jp.know (φ:=((qbg now2 blk2).map (·.1)).Nodup) (A:=Blks (qbg now2 blk2)) 6 rfl (fun _ h=>h.1) fun hnd2=>?_
   refine Jp.call [6] [6] (shPut_spec (qbg now2 blk2) (blk2 k) (pgB nb) ((a + i) % 256) v (shMem hg2) hnbl rfl (Nat.mod_lt _ (by decide))) 64 rfl (qaa rfl) rfl rfl (Runs.fn rfl call55 rfl) (by decide) (by decide) rfl trivial ?_
   rintro v8 ρ8 L8 ⟨rfl,rfl,rfl⟩
   refine ⟨rfl,fun hle8=>⟨Kp.true,?_⟩⟩
   have he : qbx now2 k (pgB (nb.set ((a + i) % 256) v)) = nowP l0 a bs (i + 1):=by
    rw [setPg_now hφ,hstep,now1,hk,hnb]
   refine Jp.imp (j:=6) rfl (fun h hh=>(show Blks (qbg (nowP l0 a bs (i + 1)) blk2) h by rw [← he,← updB_sh hnd2 hg2]; exact hh)) ?_
   refine Jp.imp (j:=5) rfl (fun h hh=>(show qda .u32 b5 (qel (nowP l0 a bs (i + 1)) blk2) h by rw [← he,pmOf_set]; exact hh)) ?_
   refine Jp.over rfl hK19 ?_
   refine Cd.qac [(0,false),(1,false)] rfl rfl ?_
   refine Jp.y 65 rfl (qaa rfl) rfl rfl Kp.true (Y.qcd rfl rfl rfl (by exact qaj (by omega) (by omega))) ?_
   refine Jp.y 24 rfl (qaa rfl) rfl rfl Kp.true (Y.move rfl rfl) ?_
   rw [show (i : Int) + 1 = ((i + 1 : Nat) : Int) by omega]
   refine Jp.again hLa ⟨i + 1,blk2⟩ hi (by show bs.length - (i + 1) < bs.length - i; omega) rfl ⟨rfl,rfl,rfl,rfl,rfl,rfl,trivial⟩ ⟨rfl,rfl,rfl,rfl,rfl,rfl,trivial⟩
  ·skip
   refine Cd.qaq rfl (fun gn=>?_) (fun gn=>?_)
   ·have hgn : qan now k = none:=by cases h : qan now k with
     | none=>rfl
     | some p=>rw [h] at gn; cases gn
    have hnb0 : nb = bOf l0 k:=by rw [← hnb,nowB,hgn]
    refine Cd.seq fun K25 hK25=>?_
    refine Cd.qac [(0,false),(1,false),(2,false)] rfl rfl ?_
    refine Jp.y 37 rfl (qaa rfl) rfl rfl Kp.true (Y.struct [] (qay ⟨zeroB,0⟩) rfl rfl places86 zeroValue86 rfl) ?_
    refine Jp.box 7 38 rfl (qaa rfl) rfl rfl rfl rfl fun b7=>⟨Kp.true,?_⟩
    refine Jp.y 12 rfl (qaa rfl) rfl rfl Kp.true (Y.assign rfl rfl) ?_
    refine Jp.qae hK25 ?_
    refine Cd.seq fun K26 hK26=>?_
    refine Cd.seq fun K27 hK27=>?_
    refine Cd.drawn [(0,_),(3,_)] ⟨rfl,rfl,trivial⟩ [(0,true),(1,true),(2,true),(3,true),(4,true),(5,false),(6,true),(7,true)] follows (by kernel_rfl) (fun hrl=>?_)
    refine Jp.imp (j:=7) rfl (fun h hh=>(show Pt b7 (qcy ⟨zeroB,0⟩) h from hh)) ?_
    refine Jp.q 39 rfl (qaa rfl) rfl rfl (Y.move rfl rfl) ?_
    refine Jp.q 40 rfl (qaa rfl) rfl rfl (Y.qao rfl rfl) ?_
    refine Jp.q 41 rfl (qaa rfl) rfl rfl (by exact Y.qad rfl rfl underlying69 rfl sizeOf67 (by decide) (show _ + 1 = _ from rfl)) ?_
    refine Jp.q 42 rfl (qaa rfl) rfl rfl (by exact Y.qaw 0 rfl isAgg67 rfl rfl rfl) ?_
    refine Jp.q 43 rfl (qaa rfl) rfl rfl (Y.move rfl rfl) ?_
    refine Jp.call [] [] hB 44 rfl (qaa rfl) rfl rfl (Runs.fn rfl call25 rfl) (by decide) (by decide) rfl trivial ?_
    rintro v102 ρ102 L102 ⟨rfl,rfl,rfl⟩
    refine ⟨rfl,fun hle102=>⟨(Kp.st ⟨rfl,rfl,trivial⟩),?_⟩⟩
    refine Jp.q 45 rfl (qaa rfl) rfl rfl (by first | exact Y.lookup 3 rfl rfl rfl underlying67 underlying31 zeroValue82 rfl) ?_
    refine Jp.q 13 rfl (qaa rfl) rfl rfl (Y.assign rfl rfl) ?_
    refine Jp.qae hK27 ?_
    refine Cd.seq fun K29 hK29=>?_
    refine Cd.qac [(0,false),(1,false)] rfl rfl ?_
    refine Jp.slot 13 rfl (show _ = Value.pointer ((qan l0 k).map fun _=>⟨x.blk k,0,none⟩) by rw [hget0]; cases qan l0 k <;> rfl) ?_
    refine Jp.y 46 rfl (qaa rfl) rfl rfl Kp.true (Y.move rfl rfl) ?_
    refine Jp.y 47 rfl (qaa rfl) rfl rfl Kp.true (Y.ptrNotNil rfl underlying82 rfl rfl) ?_
    refine Jp.qae hK29 ?_
    refine Cd.qhi (G:=Unit) (fun _=>True) (fun _=>[]) [(0,_),(1,_),(3,_),(9,_),(10,_),(11,_),(12,_),(23,_),(24,_)] ⟨rfl,rfl,rfl,rfl,rfl,rfl,rfl,rfl,rfl,trivial⟩ (fun _=>[(7,Pt b7 (qcy (pgB nb)))]) [(0,_),(1,_),(3,_),(4,_),(5,_),(6,_)] ⟨rfl,rfl,rfl,rfl,rfl,rfl,trivial⟩ hK26 (fun g hφ=>?_) (fun hj3=>?_)
    ·clear hφ
     refine Cd.qac [(0,false),(1,false),(2,false),(3,false),(4,false)] rfl rfl ?_
     refine Jp.y 53 rfl (qaa rfl) rfl rfl Kp.true (Y.move rfl rfl) ?_
     refine Jp.y 54 rfl (qaa rfl) rfl rfl Kp.true (Y.move rfl rfl) ?_
     refine Jp.call [] [] hB 55 rfl (qaa rfl) rfl rfl (Runs.fn rfl call25 rfl) (by decide) (by decide) rfl trivial ?_
     rintro v103 ρ103 L103 ⟨rfl,rfl,rfl⟩
     refine ⟨rfl,fun hle103=>⟨Kp.true,?_⟩⟩
     refine Jp.y 56 rfl (qaa rfl) rfl rfl Kp.true (Y.move rfl rfl) ?_
     first | refine Jp.mapUpdate 5 rfl (qaa rfl) rfl rfl rfl rfl rfl underlying67 underlying31 rfl Kp.true ?_
     refine Jp.qae hK23 ?_
     refine Cd.joinB (ob:=qcy (pgB nb)) 6 7 (by decide) rfl rfl ?_
     refine Cd.imp (i:=6) rfl (Blks.perm (shBlks_put hgn)) ?_
     rw [pmOf_put (p:=pgB nb) hgn]
     refine Cd.slot 12 rfl (show _ = qdx (fun j=>if j = k then b7 else blk j) k by simp [qdx]) ?_
     exact Cd.qcz (hj2 ⟨now ++ [(k,pgB nb)],fun j=>if j = k then b7 else blk j⟩ (by show _ = qdm now k (pgB nb); rw [qdm,hgn])) ⟨rfl,rfl,rfl,rfl,rfl,rfl,rfl,rfl,rfl,trivial⟩ ⟨rfl,rfl,rfl,rfl,rfl,rfl,trivial⟩
    ·skip
     refine Cd.qaq rfl (fun g0=>?_) (fun g0=>?_)
     ·obtain ⟨p0,hg0⟩ : ∃ p,qan l0 k = some p:=by cases h : qan l0 k with
       | none=>rw [h] at g0; simp at g0
       | some p=>exact ⟨p,rfl⟩
      have hp0 : pgB nb = p0:=by rw [hnb0]; exact pgB_bOf hok0 hg0
      have hlen0:=(hok0.get hg0).len
      rw [hg0]
      refine Cd.qac [(0,false),(1,false),(2,false),(3,false),(4,false),(5,false)] rfl rfl ?_
      refine Jp.y 48 rfl (qaa rfl) rfl rfl Kp.true (Y.move rfl rfl) ?_
      refine Jp.y 49 rfl (qaa rfl) rfl rfl Kp.true (Y.move rfl rfl) ?_
      refine Jp.y 50 rfl (qaa rfl) rfl rfl Kp.true (Y.qao rfl rfl) ?_
      refine Jp.y 51 rfl (qaa rfl) rfl rfl Kp.true (Y.loadAggC 4 (qay p0) rfl isAgg86 sizeOf86 rfl rfl (qen hlen0) (Blks.cells (shMem (by rw [hl0]; exact hg0)))) ?_
      refine Jp.y 52 rfl (qaa rfl) rfl rfl Kp.true (Y.qao rfl rfl) ?_
      refine Jp.qbo 7 rfl (qaa rfl) rfl rfl sizeOf86 rfl rfl (shCells_one p0) (qen hlen0) rfl rfl (fun k _ _=>qap k) Kp.true ?_
      refine Jp.imp (j:=7) (A:=Pt b7 (.cells (spl (qay ⟨zeroB,0⟩).toArray 0 (qay p0)) 86)) (A':=Pt b7 (qcy (pgB nb))) rfl (fun h hh=>by rw [shSpl_full (by rw [qen hlen0]; exact (qen qgj).symm)] at hh; rw [hp0]; exact hh) ?_
      refine Jp.qae hK26 ?_
      exact Cd.qcz (hj3 () trivial) ⟨rfl,rfl,rfl,rfl,rfl,rfl,rfl,rfl,rfl,trivial⟩ ⟨rfl,rfl,rfl,rfl,rfl,rfl,rfl,trivial⟩
     ·have hg0 : qan l0 k = none:=by cases h : qan l0 k with
       | none=>rfl
       | some p=>rw [h] at g0; simp at g0
      refine Cd.qbw hK26 ?_
      refine Cd.imp (i:=7) rfl (fun h hh=>(show Pt b7 (qcy (pgB nb)) h by rw [hnb0,pgB_none hg0]; exact hh)) ?_
      exact Cd.qcz (hj3 () trivial) ⟨rfl,rfl,rfl,rfl,rfl,rfl,rfl,rfl,rfl,trivial⟩ ⟨rfl,rfl,rfl,rfl,rfl,rfl,rfl,trivial⟩
   ·obtain ⟨p,hgn⟩ : ∃ p,qan now k = some p:=by cases h : qan now k with
     | none=>rw [h] at gn; cases gn
     | some p=>exact ⟨p,rfl⟩
    have hpp : p = pgB nb:=by
     have:=hnow.cnt _ (qbb hgn)
     rw [← hnb,nowB,hgn]
     obtain ⟨pb,pq⟩:=p
     unfold pgB
     dsimp only at this ⊢
     rw [this]
    rw [hgn]
    refine Cd.qbw hK23 ?_
    exact Cd.qcz (hj2 ⟨now,blk⟩ (by show now = qdm now k (pgB nb); rw [qdm,hgn,← hpp]; exact (setPg_same hnow.nodup hgn).symm)) ⟨rfl,rfl,rfl,rfl,rfl,rfl,rfl,rfl,rfl,trivial⟩ ⟨rfl,rfl,rfl,rfl,rfl,rfl,trivial⟩
end Go.Proofs.Ytnfkalpgidiafaa

namespace Go.Proofs.Ytnfkalpgidiafaa
open _root_.Go.Proofs.Try
open Go
theorem setFn_spec (cb : Nat) (s : Sl UInt8) (i : Nat) (v : UInt8) (hv : s.xs[i]? = some v) : Spec Try.prog 27 #[.int .i64 (i : Int),.pointer (some ⟨cb,0,none⟩)] (RdB s) [(0,Pt cb (.cells #[s.v] 58))]
  (fun ρ ρ' r L=>ρ' = ρ ∧ r = .int .u8 (v.toNat : Int) ∧ L = [(0,Pt cb (.cells #[s.v] 58))]):=by
 obtain ⟨A,c,xs⟩:=s
 dsimp only [Sl.v]
 refine Spec.of 8 Try.func27 rfl Try.ntmps27 [(0,_),(1,_)] rfl rfl ?_
 intro cx ρ hr h0
 have hi : i < xs.length:=(List.getElem?_eq_some_iff.1 hv).1
 obtain ⟨ad,hA,hc⟩:=RdB.cell hr hv
 have hA : A = some ad:=hA
 subst hA
 refine Cd.seq fun K1 hK1=>?_
 refine Cd.qac [(0,false)] rfl rfl ?_
 refine Jp.y 3 rfl (qaa rfl) rfl rfl Kp.true (Y.assign rfl rfl) ?_
 refine Jp.qae hK1 ?_
 refine Cd.seq fun K2 hK2=>?_
 refine Cd.qac [(0,false),(1,false),(2,false),(3,false),(4,false)] rfl rfl ?_
 refine Jp.y 4 rfl (qaa rfl) rfl rfl Kp.true (Y.qaw 0 rfl isAgg58 rfl rfl rfl) ?_
 refine Jp.y 5 rfl (qaa rfl) rfl rfl Kp.true (Y.move rfl rfl) ?_
 refine Jp.y 6 rfl (qaa rfl) rfl rfl Kp.true (Y.qdw (q:=i) rfl rfl rfl underlying58 sizeOf5 (by omega) (by omega) (by omega)) ?_
 refine Jp.y 7 rfl (qaa rfl) rfl rfl Kp.true (Y.loadR rfl isAgg5 rfl hc) ?_
 refine Jp.y 3 rfl (qaa rfl) rfl rfl Kp.true (Y.assign rfl rfl) ?_
 refine Jp.qae hK2 ?_
 refine Cd.ret [(0,_)] rfl (qbe rfl rfl) ⟨rfl,trivial⟩ ⟨rfl,rfl,rfl⟩
theorem shSet_spec (b : Nat) (S : ShG) (a : Nat) (s : Sl UInt8) (ha : a < 4294967296) (hl : s.xs.length ≤ 1048576) : Spec Try.prog 13 #[.pointer (some ⟨b,0,none⟩),.int .u32 a,s.v] (RdB s) [(0,ShO b S)]
  (fun ρ ρ' r L=>ρ' = ρ ∧ r = .int .i64 (setM S a s.xs).1 ∧ L = [(0,ShO b (setM S a s.xs).2)]):=by
 obtain ⟨A,c,xs⟩:=s
 dsimp only [Sl.v] at hl ⊢
 refine Spec.of 13 Try.func13 rfl Try.ntmps13 [(0,_),(1,_),(2,_)] rfl rfl ?_
 intro cx ρ hr h0
 refine Cd.seq fun K3 hK3=>?_
 refine Cd.qac [(0,false),(1,false)] rfl rfl ?_
 refine Jp.box 5 5 rfl (qaa rfl) rfl rfl rfl rfl fun b5=>⟨Kp.true,?_⟩
 refine Jp.y 6 rfl (qaa rfl) rfl rfl Kp.true (Y.assign rfl rfl) ?_
 refine Jp.qae hK3 ?_
 refine Cd.seq fun K4 hK4=>?_
 refine Cd.qac [(0,false),(1,false),(2,false),(3,false),(4,false),(5,false),(6,false)] rfl rfl ?_
 refine Jp.y 7 rfl (qaa rfl) rfl rfl Kp.true (Y.move rfl rfl) ?_
 refine Jp.y 8 rfl (qaa rfl) rfl rfl Kp.true (Y.move rfl rfl) ?_
 refine Jp.y 9 rfl (qaa rfl) rfl rfl Kp.true (Y.qaw 5 rfl isAgg58 rfl rfl rfl) ?_
 refine Jp.y 10 rfl (qaa rfl) rfl rfl Kp.true (Y.qck rfl underlying58 rfl) ?_
 refine Jp.y 11 rfl (qaa rfl) rfl rfl Kp.true (Y.makeFunc rfl rfl) ?_
 have hlay := shLay_spec b S a (xs.length : Int) (xs.take (4294967296 - a)) 27 [.pointer (some ⟨b5, 0, none⟩)] (RdB ⟨A, c, xs⟩) (Pt b5 (.cells #[.slice A xs.length c] 58)) ha (by omega) (by rw [List.length_take]; omega) (by rw [List.length_take]; omega) call27 (fun i v hv => setFn_spec b5 ⟨A, c, xs⟩ i v (by
  have:=hv
  rw [List.getElem?_take] at this
  split at this
  ·exact this
  ·cases this))
 refine Jp.call [0,5] [0,5] hlay 12 rfl (qaa rfl) rfl rfl (Runs.fn rfl call26 rfl) (by decide) (by decide) rfl hr ?_
 rintro v1 ρ1 L1 ⟨rfl,rfl,rfl⟩
 refine ⟨rfl,fun hle1=>⟨Kp.true,?_⟩⟩
 refine Jp.y 6 rfl (qaa rfl) rfl rfl Kp.true (Y.assign rfl rfl) ?_
 refine Jp.qae hK4 ?_
 refine Cd.ret [(0,_)] rfl (qbe rfl rfl) ⟨rfl,trivial⟩ ⟨rfl,rfl,rfl⟩
theorem shPutN_spec (b : Nat) (S : ShG) (a : Nat) (size : Int) (t : qam) (ha : a < 4294967296) (ht : t.length = 4) : Spec Try.prog 44 #[.pointer (some ⟨b,0,none⟩),.int .u32 a,.int .i64 size,.agg (qaf t).toArray] (fun _=>True) [(0,ShO b S)]
  (fun ρ ρ' r L=>r = .int .i64 (putM S a size t).1 ∧ L = [(0,ShO b (putM S a size t).2)]):=by
 refine Spec.of 15 Try.func44 rfl Try.ntmps44 [(0,_),(1,_),(2,_),(3,_)] rfl rfl ?_
 intro cx ρ hr h0
 have hsz : sizedP size ≤ 4:=by unfold sizedP; split <;> omega
 refine Cd.seq fun K5 hK5=>?_
 refine Cd.qac [(0,false),(1,false)] rfl rfl ?_
 refine Jp.box 5 7 rfl (qaa rfl) rfl rfl rfl rfl fun b5=>⟨Kp.true,?_⟩
 refine Jp.y 8 rfl (qaa rfl) rfl rfl Kp.true (Y.assign rfl rfl) ?_
 refine Jp.qae hK5 ?_
 refine Cd.seq fun K6 hK6=>?_
 refine Cd.qac [(0,false),(1,false),(2,false),(3,false),(4,false),(5,false),(6,false)] rfl rfl ?_
 refine Jp.y 9 rfl (qaa rfl) rfl rfl Kp.true (Y.move rfl rfl) ?_
 refine Jp.y 10 rfl (qaa rfl) rfl rfl Kp.true (Y.move rfl rfl) ?_
 refine Jp.y 11 rfl (qaa rfl) rfl rfl Kp.true (Y.move rfl rfl) ?_
 refine Jp.call [] [] (shSized_spec size) 12 rfl (qaa rfl) rfl rfl (Runs.fn rfl call67 rfl) (by decide) (by decide) rfl trivial ?_
 rintro v1 ρ1 L1 ⟨rfl,rfl,rfl⟩
 refine ⟨rfl,fun hle1=>⟨Kp.true,?_⟩⟩
 obtain ⟨z,hz⟩ : ∃ z,sizedP size = z:=⟨_,rfl⟩
 have hpm : putM S a size t = setM S a (t.take z):=by rw [putM,hz]
 rw [hz] at hsz ⊢
 refine Jp.y 13 rfl (qaa rfl) rfl rfl Kp.true (Y.sliceArrTo (hi:=z) rfl rfl rfl underlying41 sizeOf5 (by omega) (by omega)) ?_
 refine Jp.freeze (i:=5) (A:=Pt b5 (.cells (qaf t).toArray 41)) rfl (Pt.up _ _) fun ρ5 hle5 hA5=>?_
 have hlt : (t.take z).length = z:=by rw [List.length_take]; omega
 have hrd : RdB ⟨some ⟨b5,0,none⟩,4,t.take (z)⟩ ρ5:=by
  refine ⟨by simp [qaf],⟨by show (t.take (z)).length ≤ 4; omega,by show (t.take (z)).length ≤ _; omega⟩,fun j v hj=>⟨_,rfl,?_⟩⟩
  rw [qdf]
  have hA5 : ρ5 b5 = some (.cells (qaf t).toArray 41):=hA5
  have hj2 : (qaf t)[j]? = some v:=by
   have h1 : (qaf (t.take (z)))[j]? = some v:=hj
   unfold qaf at h1 ⊢
   rw [List.map_take,List.getElem?_take] at h1
   split at h1
   ·exact h1
   ·cases h1
  simp [qdq,hA5,hj2]
 have hS:=shSet_spec b S a ⟨some ⟨b5,0,none⟩,4,t.take (z)⟩ ha (by show (t.take (z)).length ≤ _; omega)
 unfold Sl.v at hS
 dsimp only at hS
 rw [hlt] at hS
 refine Jp.call [0] [0] hS 14 rfl (qaa rfl) rfl rfl (Runs.fn rfl call13 rfl) (by decide) (by decide) rfl hrd ?_
 rintro v2 ρ2 L2 ⟨rfl,rfl,rfl⟩
 refine ⟨rfl,fun hle2=>⟨Kp.true,?_⟩⟩
 refine Jp.y 8 rfl (qaa rfl) rfl rfl Kp.true (Y.assign rfl rfl) ?_
 refine Jp.qae hK6 ?_
 refine Cd.ret [(0,_)] rfl (qbe rfl rfl) ⟨rfl,trivial⟩ ⟨by rw [hpm],by rw [hpm]⟩
theorem shNew_spec (budget : Int) : Spec Try.prog 9 #[.int .i64 budget] (fun _=>True) []
  (fun ρ ρ' v L=>ρ' = ρ ∧ if 0 ≤ budget ∧ budget ≤ 4096 then ∃ b,v = .tuple #[.pointer (some ⟨b,0,none⟩),.int .i64 0] ∧ L = [(0,ShO b ⟨budget.toNat,[]⟩)] else v = .tuple #[.pointer none,.int .i64 1] ∧ L = []):=by
 refine Spec.of 14 Try.func9 rfl Try.ntmps9 [(0,_)] rfl rfl ?_
 intro cx ρ hr h0
 refine Cd.seq fun K7 hK7=>?_
 refine Cd.qac [(0,false),(1,false)] rfl rfl ?_
 refine Jp.y 2 rfl (qaa rfl) rfl rfl Kp.true (Y.assign rfl rfl) ?_
 refine Jp.y 3 rfl (qaa rfl) rfl rfl Kp.true (Y.assign rfl rfl) ?_
 refine Jp.qae hK7 ?_
 refine Cd.seq fun K8 hK8=>?_
 refine Cd.seq fun K9 hK9=>?_
 refine Cd.qac [(0,false),(1,false),(2,false),(3,false),(4,false),(5,false)] rfl rfl ?_
 refine Jp.y 4 rfl (qaa rfl) rfl rfl Kp.true (Y.move rfl rfl) ?_
 refine Jp.y 5 rfl (qaa rfl) rfl rfl Kp.true (Y.lss rfl rfl rfl) ?_
 refine Jp.y 6 rfl (qaa rfl) rfl rfl Kp.true (Y.move rfl rfl) ?_
 refine Jp.split 6 rfl (fun g6=>?_) (fun g6=>?_)
 ·skip
  try simp only [sG0] at g6
  refine Jp.qat 7 rfl (qab rfl rfl rfl rfl) rfl rfl Kp.true ?_
  refine Jp.qat 8 rfl (qab rfl rfl rfl rfl) rfl rfl Kp.true ?_
  refine Jp.y 9 rfl (qaa rfl) rfl rfl Kp.true (Y.qba rfl rfl rfl) ?_
  refine Jp.qae hK9 ?_
  refine Cd.qdk rfl ?_
  refine Cd.seq fun K10 hK10=>?_
  refine Cd.qac [(0,false),(1,false)] rfl rfl ?_
  refine Jp.y 2 rfl (qaa rfl) rfl rfl Kp.true (Y.assign rfl rfl) ?_
  refine Jp.y 3 rfl (qaa rfl) rfl rfl Kp.true (Y.assign rfl rfl) ?_
  refine Jp.qae hK10 ?_
  refine Cd.ret [] rfl (qbr rfl rfl rfl) trivial ⟨rfl,?_⟩
  rw [if_neg (by omega)]
  exact ⟨rfl,rfl⟩
 try simp only [sG0] at g6
 refine Jp.y 7 rfl (qab rfl rfl rfl rfl) rfl rfl Kp.true (Y.move rfl rfl) ?_
 refine Jp.y 8 rfl (qab rfl rfl rfl rfl) rfl rfl Kp.true (Y.gtr rfl rfl rfl) ?_
 refine Jp.y 9 rfl (qaa rfl) rfl rfl Kp.true (Y.qaz rfl rfl rfl) ?_
 refine Jp.qae hK9 ?_
 refine Cd.qaq rfl (fun g9=>?_) (fun g9=>?_)
 ·skip
  try simp only [sG0] at g9
  refine Cd.seq fun K11 hK11=>?_
  refine Cd.qac [(0,false),(1,false)] rfl rfl ?_
  refine Jp.y 2 rfl (qaa rfl) rfl rfl Kp.true (Y.assign rfl rfl) ?_
  refine Jp.y 3 rfl (qaa rfl) rfl rfl Kp.true (Y.assign rfl rfl) ?_
  refine Jp.qae hK11 ?_
  refine Cd.ret [] rfl (qbr rfl rfl rfl) trivial ⟨rfl,?_⟩
  rw [if_neg (by omega)]
  exact ⟨rfl,rfl⟩
 try simp only [sG0] at g9
 refine Cd.qbw hK8 ?_
 refine Cd.seq fun K12 hK12=>?_
 refine Cd.qac [(0,false),(1,false),(2,false),(3,false),(4,false),(5,false)] rfl rfl ?_
 refine Jp.y 10 rfl (qaa rfl) rfl rfl Kp.true (Y.move rfl rfl) ?_
 refine Jp.makeMap 11 1 .u32 rfl (qaa rfl) rfl rfl rfl fun b1=>⟨Kp.true,?_⟩
 refine Jp.y 12 rfl (qaa rfl) rfl rfl Kp.true (Y.struct [(0,_),(1,_)] [_,_] rfl rfl places69 zeroValue69 rfl) ?_
 refine Jp.box 0 13 rfl (qaa rfl) rfl rfl rfl rfl fun b0=>⟨Kp.true,?_⟩
 refine Jp.y 2 rfl (qaa rfl) rfl rfl Kp.true (Y.assign rfl rfl) ?_
 refine Jp.y 3 rfl (qaa rfl) rfl rfl Kp.true (Y.assign rfl rfl) ?_
 refine Jp.qae hK12 ?_
 obtain ⟨m,rfl⟩:=Int.eq_ofNat_of_zero_le (show 0 ≤ budget by omega)
 refine Cd.make 2 Blks.nil ?_
 refine Cd.shClose (S:=⟨m,[]⟩) (x:=⟨b1,[],fun _=>0⟩) 0 1 2 (by decide) ⟨⟨List.Pairwise.nil,fun x h=>(List.not_mem_nil h).elim⟩,Nat.zero_le _,(by show m ≤ 4096; omega),List.Perm.refl _⟩ rfl rfl rfl ?_
 refine Cd.ret [(0,_)] rfl (qbr rfl rfl rfl) ⟨rfl,trivial⟩ ⟨rfl,?_⟩
 rw [if_pos (by omega)]
 exact ⟨b0,rfl,rfl⟩
theorem tagM_len (S : ShG) (a : Nat) (size : Int) : (tagM S a size).length = 4:=by simp [tagM]
def tagTo (S : ShG) (a i : Nat) : qam:=(List.range 4).map fun j=>if j < i then labL S.pages (a + j) else 0
theorem tagTo_set (S : ShG) (a i : Nat) (hi : i < 4) : (qaf (tagTo S a i)).toArray.setIfInBounds i (.int .u8 ((labL S.pages (a + i)).toNat : Int)) = (qaf (tagTo S a (i + 1))).toArray:=by
 rw [List.setIfInBounds_toArray]
 congr 1
 apply List.ext_getElem?
 intro j
 unfold qaf tagTo
 rw [List.map_map,List.map_map,List.getElem?_set,List.length_map,List.length_range,List.getElem?_map,List.getElem?_map]
 by_cases hj : i = j
 ·subst hj
  rw [if_pos rfl,if_pos hi,List.getElem?_range hi]
  simp
 ·rw [if_neg hj]
  by_cases h4 : j < 4
  ·rw [List.getElem?_range h4]
   simp only [Option.map_some,Function.comp]
   by_cases h5 : j < i
   ·rw [if_pos h5,if_pos (by omega)]
   ·rw [if_neg h5,if_neg (by omega)]
  ·rw [List.getElem?_eq_none (by rw [List.length_range]; omega)]; rfl
theorem shTag_spec (b : Nat) (S : ShG) (a : Nat) (size : Int) (ha : a < 4294967296) : Spec Try.prog 49 #[.pointer (some ⟨b, 0, none⟩), .int .u32 a, .int .i64 size] (fun _ => True) [(0, ShO b S)]
    (fun ρ ρ' v L => ρ' = ρ ∧ v = .agg (qaf (tagM S a size)).toArray ∧ L = [(0, ShO b S)]) := by
  refine Spec.of 30 Try.func49 rfl Try.ntmps49 [(0, _), (1, _), (2, _)] rfl rfl ?_
  intro cx ρ hr h0
  have hsz : sizedP size ≤ 4 := by unfold sizedP; split <;> omega
  obtain ⟨m, hm⟩ : ∃ m, min (sizedP size) (4294967296 - a) = m := ⟨_, rfl⟩
  have hend : endN a (sizedP size : Int) = a + m := by unfold endN; omega
  have hE := shEnd_spec a (sizedP size : Int) ha (by omega)
  rw [hend] at hE
  refine Cd.seq fun K13 hK13 => ?_
  refine Cd.qac [(0, false)] rfl rfl ?_
  refine Jp.alloc 6 6 rfl (qaa rfl) rfl rfl rfl zeroValue41 fun b6 => ⟨Kp.true, ?_⟩
  refine Jp.qae hK13 ?_
  refine Cd.seq fun K14 hK14 => ?_
  refine Cd.qac [(0, false)] rfl rfl ?_
  refine Jp.alloc 7 7 rfl (qaa rfl) rfl rfl rfl zeroValue41 fun b7 => ⟨Kp.true, ?_⟩
  refine Jp.qae hK14 ?_
  refine Cd.seq fun K15 hK15 => ?_
  refine Cd.seq fun K16 hK16 => ?_
  refine Cd.qac [(0, false), (1, false), (2, false), (3, false), (4, false), (5, false), (6, false), (7, false), (8, false)] rfl rfl ?_
  refine Jp.y 9 rfl (qaa rfl) rfl rfl Kp.true (Y.move rfl rfl) ?_
  refine Jp.y 10 rfl (qaa rfl) rfl rfl Kp.true (Y.move rfl rfl) ?_
  refine Jp.call [] [] (shSized_spec size) 11 rfl (qaa rfl) rfl rfl (Runs.fn rfl call67 rfl) (by decide) (by decide) rfl trivial ?_
  rintro v1 ρ1 L1 ⟨rfl, rfl, rfl⟩
  refine ⟨rfl, fun hle1 => ⟨Kp.true, ?_⟩⟩
  refine Jp.call [] [] hE 12 rfl (qaa rfl) rfl rfl (Runs.fn rfl call54 rfl) (by decide) (by decide) rfl trivial ?_
  rintro v2 ρ2 L2 ⟨rfl, rfl, rfl⟩
  refine ⟨rfl, fun hle2 => ⟨Kp.true, ?_⟩⟩
  refine Jp.imp (j := 7) rfl (fun h hh => (show Pt b7 (.cells (qaf (tagTo S a 0)).toArray 41) h from hh)) ?_
  refine Jp.y 13 rfl (qaa rfl) rfl rfl Kp.true (Y.move rfl rfl) ?_
  refine Jp.y 14 rfl (qaa rfl) rfl rfl Kp.true (Y.qav rfl rfl underlying31 underlying93 (by exact qbh (by omega) (by omega))) ?_
  refine Jp.y 15 rfl (qaa rfl) rfl rfl Kp.true (Y.qfy rfl rfl rfl (by exact qbh (by omega) (by omega))) ?_
  refine Jp.y 16 rfl (qaa rfl) rfl rfl Kp.true (Y.qav rfl rfl underlying93 underlying3 (by exact qaj (by omega) (by omega))) ?_
  refine Jp.slot 16 rfl (show _ = Value.int .i64 (m : Int) from congrArg (Value.int .i64) (by omega)) ?_
  refine Jp.y 17 rfl (qaa rfl) rfl rfl Kp.true (Y.move rfl rfl) ?_
  refine Jp.qae hK16 ?_
  refine Cd.block ?_
  refine Cd.qfl (G := Nat) (fun i => i ≤ m) (fun i => m - i) (fun _ => _) (fun i => [(17, .int .i64 (i : Int))]) [(0, _), (1, _), (6, _), (7, _), (16, _)] (fun i => [(7, Pt b7 (.cells (qaf (tagTo S a i)).toArray 41))]) [(0, _), (6, _)] 0 (Nat.zero_le _) rfl ⟨rfl, trivial⟩ ⟨rfl, rfl, rfl, rfl, rfl, trivial⟩ ⟨rfl, trivial⟩ ⟨rfl, rfl, trivial⟩ (fun g KLa hok hLa => ?_)
  obtain ⟨i, hi⟩ : ∃ i, i = g := ⟨_, rfl⟩
  rw [← hi] at hok ⊢
  refine Cd.seq fun K17 hK17 => ?_
  refine Cd.qac [(0, false)] rfl rfl ?_
  refine Jp.y 18 rfl (qaa rfl) rfl rfl Kp.true (Y.lss rfl rfl rfl) ?_
  refine Jp.qae hK17 ?_
  refine Cd.seq fun K18 hK18 => ?_
  refine Cd.qaq rfl (fun ga => ?_) (fun ga => ?_)
  · have him : i < m := by simpa using ga
    refine Cd.qbw hK18 ?_
    refine Cd.seq fun K19 hK19 => ?_
    refine Cd.block ?_
    refine Cd.seq fun K20 hK20 => ?_
    refine Cd.qac [(0, false), (1, false)] rfl rfl ?_
    refine Jp.y 19 rfl (qaa rfl) rfl rfl Kp.true (Y.move rfl rfl) ?_
    refine Jp.y 8 rfl (qaa rfl) rfl rfl Kp.true (Y.assign rfl rfl) ?_
    refine Jp.qae hK20 ?_
    refine Cd.qac [(0, false), (1, false), (2, false), (3, false), (4, false), (5, false), (6, false), (7, false), (8, false)] rfl rfl ?_
    refine Jp.y 20 rfl (qaa rfl) rfl rfl Kp.true (Y.move rfl rfl) ?_
    refine Jp.y 21 rfl (qaa rfl) rfl rfl Kp.true (Y.move rfl rfl) ?_
    refine Jp.y 22 rfl (qaa rfl) rfl rfl Kp.true (Y.move rfl rfl) ?_
    refine Jp.y 23 rfl (qaa rfl) rfl rfl Kp.true (Y.move rfl rfl) ?_
    refine Jp.y 24 rfl (qaa rfl) rfl rfl Kp.true (Y.qav rfl rfl underlying3 underlying31 (by exact qau (by omega) (by omega))) ?_
    refine Jp.y 25 rfl (qaa rfl) rfl rfl Kp.true (Y.qcd rfl rfl rfl (by exact qau (by omega) (by omega))) ?_
    refine Jp.slot 25 rfl (show _ = Value.int .u32 ((a + i : Nat) : Int) from congrArg (Value.int .u32) (by omega)) ?_
    refine Jp.call [0] [0] (qgo b S (a + i) (by omega)) 26 rfl (qaa rfl) rfl rfl (Runs.fn rfl call12 rfl) (by decide) (by decide) rfl trivial ?_
    rintro v3 ρ3 L3 ⟨rfl, rfl, rfl⟩
    refine ⟨rfl, fun hle3 => ⟨Kp.true, ?_⟩⟩
    refine Jp.y 27 rfl (qaa rfl) rfl rfl Kp.true (Y.qal (q := i) rfl rfl rfl underlying41 sizeOf5 (by omega) (by omega) (by omega)) ?_
    refine Jp.qcx 7 (Pt b7 (.cells (qaf (tagTo S a (i + 1))).toArray 41)) rfl (qaa rfl) rfl rfl sizeOf5 rfl rfl rfl rfl rfl (SetC.pt (by simp [qaf, tagTo]; omega) (qap _) (tagTo_set S a i (by omega))) Kp.true ?_
    refine Jp.over rfl hK19 ?_
    refine Cd.qac [(0, false), (1, false)] rfl rfl ?_
    refine Jp.y 28 rfl (qaa rfl) rfl rfl Kp.true (Y.qcd rfl rfl rfl (by exact qaj (by omega) (by omega))) ?_
    refine Jp.y 17 rfl (qaa rfl) rfl rfl Kp.true (Y.move rfl rfl) ?_
    rw [show (i : Int) + 1 = ((i + 1 : Nat) : Int) by omega]
    refine Jp.again hLa (i + 1) (by omega) (by omega) rfl ⟨rfl, rfl, rfl, rfl, rfl, rfl, trivial⟩ ⟨rfl, rfl, rfl, trivial⟩
  · have him : i = m := by have : ¬ i < m := by simpa using ga
                           omega
    have he : tagTo S a i = tagM S a size := by
      unfold tagTo tagM
      refine List.map_congr_left fun j hj => ?_
      have := List.mem_range.1 hj
      by_cases h1 : j < i
      · rw [if_pos h1, if_pos (by omega)]
      · rw [if_neg h1, if_neg (by omega)]
    refine Cd.exit rfl hK15 ?_
    refine Cd.seq fun K21 hK21 => ?_
    refine Cd.qac [(0, false), (1, false)] rfl rfl ?_
    refine Jp.y 29 rfl (qaa rfl) rfl rfl Kp.true (by exact Y.qag 7 rfl isAgg41 sizeOf41 rfl rfl rfl) ?_
    refine Jp.qbo 6 rfl (qaa rfl) rfl rfl sizeOf41 rfl rfl rfl rfl rfl rfl (fun k _ _ => qap k) Kp.true ?_
    refine Jp.qae hK21 ?_
    refine Cd.ret [(0, _)] rfl (by exact qer 6 rfl rfl isAgg41 sizeOf41 rfl rfl) ⟨rfl, trivial⟩ ⟨rfl, by rw [← he]; rfl, rfl⟩
end Go.Proofs.Ytnfkalpgidiafaa

namespace Go.Proofs.Ytnfkalpgidiafaa
open Go
inductive PT where
 | nil : PT
 | q (i : Nat) (t : PT) : PT
 | l (i : Nat) (t : PT) : PT
 | f (i : Nat) (tA : PT) (j : Nat) (tB : PT) : PT
def PT.len : PT → Nat
 | .nil=>0
 | .q _ t=>t.len + 1
 | .l _ t=>t.len + 1
 | .f _ tA _ _=>tA.len + 1
def PT.isNil : PT → Bool
 | .nil=>true
 | _=>false
def PT.last (x : Nat) : PT → Bool
 | .nil=>true
 | .q _ t=>t.last x
 | .l i t=>(!t.isNil || i == x) && t.last x
 | .f _ tA _ tB=>!tA.isNil && !tB.isNil && tA.last x && tB.last x
def okPT (ops : Array Oper) : PT → Array Bool → Bool
 | .nil,listed=>(Region.ready .any ops listed).isEmpty
 | .q i t,listed=>Region.free .any ops listed i && (Region.ready .any ops listed).contains i && okPT ops t (listed.setIfInBounds i true)
 | .l i t,listed=>(Region.ready .any ops listed == [i]) && okPT ops t (listed.setIfInBounds i true)
 | .f i tA j tB,listed=>(Region.ready .any ops listed == [i,j]) && (tA.len == tB.len) && okPT ops tA (listed.setIfInBounds i true) && okPT ops tB (listed.setIfInBounds j true)
def okRegionT (ops : Array Oper) (x : Nat) (t : PT) : Bool :=
 Region.noSelect ops && (t.len == ops.size) && qdo ops x && t.last x && okPT ops t (Array.replicate ops.size false)
def wpPT (P : Program) (ops : Array Oper) (N : Act → World → Prop) : (World → Prop) → PT → Act → World → Prop
 | _,.nil,a,w=>N a w
 | S,.q i t,a,w=>∃ S' : World → Prop,(∀ w,S' w → S w) ∧ (S w → S' w) ∧ ∃ o v,ops[i]? = some o ∧ YieldsIf P ops S' o v a ∧ wpPT P ops N S' t (a.put o.dst v) w
 | S,.l i t,a,w=>wpOp P ops (Qn N) i (fun a' w'=>(t = .nil ∨ S w') ∧ wpPT P ops N S t a' w') a w
 | S,.f i tA j tB,a,w=>wpOp P ops (Qn N) i (fun a' w'=>(tA = .nil ∨ S w') ∧ wpPT P ops N S tA a' w') a w ∧ wpOp P ops (Qn N) j (fun a' w'=>(tB = .nil ∨ S w') ∧ wpPT P ops N S tB a' w') a w
theorem PT.notNil {t : PT} (h : (!t.isNil) = true) : t ≠ .nil:=fun e=>by subst e; cases h
section
variable {P : Program} {ops : Array Oper} {N : Act → World → Prop}
theorem pt_sound (hs : Region.noSelect ops = true) {x : Nat} (hx : qdo ops x = true) : ∀ (t : PT) (S : World → Prop) (listed : Array Bool) (a : Act) (w : World),t.last x = true → Closed ops listed →
  okPT ops t listed = true → (t = .nil ∨ S w) → wpPT P ops N S t a w → wpL P ops (Qn N) S x t.len listed a w:=by
 intro t
 induction t with
 | nil =>
  intro S listed a w _ _ h _ hw
  exact ⟨by simpa [okPT] using h,hw⟩
 | q i t ih =>
  intro S listed a w hl hc h hS hw
  have hSw : S w:=by
   rcases hS with q | q
   ·cases q
   ·exact q
  simp only [okPT,Bool.and_eq_true] at h
  obtain ⟨S',hm,hSw',o,v,ho,hy,hk⟩:=hw
  have hSw':=hSw' hSw
  have hmem : i ∈ Region.ready .any ops listed:=by simpa using h.1.2
  exact wpL_mono hm _ _ _ _ (wpL_first ho hs hx (fun c a w hc=>hc.elim) _ _ _ _ hc (Region.free_spec ho h.1.1) hmem hy hSw' (ih S' _ _ _ hl (hc.set hmem) h.2 (.inr hSw') hk))
 | l i t ih =>
  intro S listed a w hl hc h hS hw
  simp only [okPT,Bool.and_eq_true,beq_iff_eq] at h
  simp only [PT.last,Bool.and_eq_true] at hl
  refine ⟨fun h0=>?_,fun j hj=>?_⟩
  ·rw [h.1] at h0; cases h0
  have hc':=hc.set hj
  rw [h.1] at hj
  simp at hj
  subst hj
  refine wpOp_mono (fun a' w' h'=>⟨?_,ih S _ _ _ hl.2 hc' h.2 h'.1 h'.2⟩) hw
  rcases h'.1 with q | q
  ·left
   have:=hl.1
   subst q
   simpa [PT.isNil] using this
  ·exact .inr q
 | f i tA j tB ihA ihB =>
  intro S listed a w hl hc h hS hw
  simp only [okPT,Bool.and_eq_true,beq_iff_eq] at h
  simp only [PT.last,Bool.and_eq_true] at hl
  obtain ⟨⟨⟨hr,hlen⟩,hokA⟩,hokB⟩:=h
  obtain ⟨⟨⟨nA,nB⟩,lA⟩,lB⟩:=hl
  refine ⟨fun h0=>?_,fun k hk=>?_⟩
  ·rw [hr] at h0; cases h0
  have hc':=hc.set hk
  rw [hr] at hk
  simp only [List.mem_cons,List.not_mem_nil,or_false] at hk
  rcases hk with rfl | rfl
  ·refine wpOp_mono (fun a' w' h'=>⟨?_,ihA S _ _ _ lA hc' hokA h'.1 h'.2⟩) hw.1
   rcases h'.1 with q | q
   ·exact absurd q (PT.notNil nA)
   ·exact .inr q
  ·refine wpOp_mono (fun a' w' h'=>⟨?_,?_⟩) hw.2
   ·rcases h'.1 with q | q
    ·exact absurd q (PT.notNil nB)
    ·exact .inr q
   ·show wpL P ops (Qn N) S x tA.len _ _ _
    rw [hlen]; exact ihB S _ _ _ lB hc' hokB h'.1 h'.2
end
def JT (P : Program) (ops : Array Oper) (Q : Exit → Act → World → Prop) (S : World → Prop) (n : Nat) (cx : Cx) (t : PT) (ρ : Hp) (E : Env) (L : Own) : Prop :=
 ∀ a w,At n E a → St cx ρ L w → wpPT P ops (Q .normal) S t a w
def tailT (P : Program) (ops : Array Oper) (Q : Exit → Act → World → Prop) (S : World → Prop) (t : PT) : Exit → Act → World → Prop
 | .normal,a,w=>(t = .nil ∨ S w) ∧ wpPT P ops (Q .normal) S t a w
 | _,_,_=>False
section
variable {P : Program} {Q : Exit → Act → World → Prop} {n : Nat} {cx : Cx} {ρ ρs : Hp} {E : Env} {L Ls : Own} {ops : Array Oper} {S : World → Prop} {t tA tB : PT} {i j : Nat} {o : Oper} {v : Value}
theorem JT.q (d : Nat) (hi : nth ops.toList i = some o) (hw : Want n ops E o true) (he : o.dst = some d) (hd : Nat.blt d n = true) (hy : Y P n cx ρs E Ls o v)
  (h : JT P ops Q (fun w=>St cx ρs Ls w) n cx t ρ ((d,v) :: E) L) : JT P ops Q (fun w=>St cx ρs Ls w) n cx (.q i t) ρ E L :=
 fun a w ha hs=>⟨_,fun _ h=>h,id,o,v,qbl hi,.inl ⟨hw a ha,fun w' h'=>hy a w' ha h'⟩,h _ _ (ha.put' he hd v) hs⟩
theorem loudT (h : Jp P ops (tailT P ops Q S t) (fun _=>True) n cx [(i,false)] ρ E L) : ∀ a w,At n E a → St cx ρ L w → wpOp P ops (Qn (Q .normal)) i (fun a' w'=>(t = .nil ∨ S w') ∧ wpPT P ops (Q .normal) S t a' w') a w:=fun a w ha hs =>
 wpOp_mono (K:=fun a' w'=>([] = ([] : List (Nat × Bool)) ∨ True) ∧ ((t = .nil ∨ S w') ∧ wpPT P ops (Q .normal) S t a' w')) (fun a' w' h'=>h'.2) (wpOp_qn (h a w ha hs))
theorem JT.loud (h : Jp P ops (tailT P ops Q S t) (fun _=>True) n cx [(i,false)] ρ E L) : JT P ops Q S n cx (.l i t) ρ E L:=loudT h
theorem JT.fork (hA : JT P ops Q S n cx (.l i tA) ρ E L) (hB : JT P ops Q S n cx (.l j tB) ρ E L) : JT P ops Q S n cx (.f i tA j tB) ρ E L:=fun a w ha hs=>⟨hA a w ha hs,hB a w ha hs⟩
theorem JT.tail (hk : t = .nil ∨ ∀ w,St cx ρ L w → S w) (h : JT P ops Q S n cx t ρ E L) : Jp P ops (tailT P ops Q S t) (fun _=>True) n cx [] ρ E L:=fun a w ha hs=>⟨hk.imp id fun f=>f w hs,h a w ha hs⟩
theorem JT.nil (h : Jp P ops Q (fun _=>True) n cx [] ρ E L) : JT P ops Q S n cx .nil ρ E L:=h
theorem JT.split {c : Bool} (k : Nat) (ht : look E k = some (.bool c)) (h1 : c = true → JT P ops Q S n cx t ρ ((k,.bool true) :: E) L) (h2 : c = false → JT P ops Q S n cx t ρ ((k,.bool false) :: E) L) : JT P ops Q S n cx t ρ E L:=by
 cases c
 ·exact fun a w ha hs=>h2 rfl a w ⟨ha.defers,ha.size,fun j v e=>qdb ha ht e⟩ hs
 ·exact fun a w ha hs=>h1 rfl a w ⟨ha.defers,ha.size,fun j v e=>qdb ha ht e⟩ hs
theorem JT.slot {u u' : Value} (k : Nat) (ht : look E k = some u) (e : u = u') (h : JT P ops Q S n cx t ρ ((k,u') :: E) L) : JT P ops Q S n cx t ρ E L:=by
 subst e
 exact fun a w ha hs=>h a w ⟨ha.defers,ha.size,fun j v e=>qdb ha ht e⟩ hs
theorem JT.imp {A A' : qax} (e : look L j = Option.some A) (f : ∀ k,A k → A' k) (h : JT P ops Q S n cx t ρ E ((j,A') :: L)) : JT P ops Q S n cx t ρ E L:=fun a w ha hs=>h a w ha (hs.imp e f)
theorem KT.st (hs : Subl Ls L) : t = .nil ∨ ∀ w,St cx ρ L w → St cx ρ Ls w:=.inr fun _ h=>h.sub hs
theorem KT.st' (hs : Subl Ls L) (hle : Hp.le ρs ρ) (h0 : Hp.le cx.r0 ρs) : t = .nil ∨ ∀ w,St cx ρ L w → St cx ρs Ls w:=.inr fun _ h=>(h.down hle h0).sub hs
theorem KT.last {φ : Prop} : PT.nil = .nil ∨ φ:=.inl rfl
theorem JT.freeze {A : qax} (e : look L j = some A) (up : Up A) (h : ∀ ρ',Hp.le ρ ρ' → A ρ' → JT P ops Q S n cx t ρ' E ((j,Emp) :: L)) : JT P ops Q S n cx t ρ E L:=fun a w ha hs =>
 let ⟨ρ',hle,hA,h2⟩:=hs.freeze e up; h ρ' hle hA a w ha h2
theorem Cd.drawnT {id : Nat} {ops : Array Oper} (Ls : Own) (hL : Subl Ls L) (x : Nat) (t : PT) (hm : P.follows .mixedOrders = true) (hok : okRegionT ops x t = true)
  (h : Hp.le cx.r0 ρ → JT P ops Q (fun w=>St cx ρ Ls w) n cx t ρ E L) : Cd P Q n cx ρ E L (.region id ops true):=fun a w ha hs=>by
 simp only [okRegionT,Bool.and_eq_true,beq_iff_eq] at hok
 obtain ⟨⟨⟨⟨o1,o2⟩,o3⟩,o4⟩,o5⟩:=hok
 refine wp_mono (wp_region_any (Q:=Qn (Q .normal)) hm (wpL_any (S:=fun w=>St cx ρ Ls w) (x:=x) _ _ _ _ ?_)) (qn_mono fun _ _ h=>h)
 have h1:=pt_sound o1 o3 t _ _ a _ o4 (fun j o _ hl=>by rw [Array.getD_eq_getD_getElem?,Array.getElem?_replicate] at hl; split at hl <;> simp at hl) o5 (.inr (hs.drew.sub hL)) (h hs.rle a _ ha hs.drew)
 rw [o2] at h1
 exact h1
end
section
variable {P : Program} {n : Nat} {cx : Cx} {ρ : Hp} {E : Env} {L : Own} {ops : Array Oper} {Q : Exit → Act → World → Prop} {S' : World → Prop} {π : List (Nat × Bool)}
theorem St.move {w : World} (hs : St cx ρ L w) {j k : Nat} {A : qax} (hjk : j ≠ k) (e1 : look L j = some Emp) (e2 : look L k = some A) (up : Up A) : St cx ρ ((j,A) :: (k,Emp) :: L) w :=
 emp_cons ((hs.glue hjk e1 e2).imp (i:=j) (A:=Sep Emp A) (by rw [qai,if_pos rfl]) fun k ⟨h1,h2,_,a2,_,_,l2⟩=>up _ _ l2 a2)
theorem Cd.move {d : Code} (j k : Nat) {A : qax} (hjk : j ≠ k) (e1 : look L j = some Emp) (e2 : look L k = some A) (up : Up A) (h : Cd P Q n cx ρ E ((j,A) :: (k,Emp) :: L) d) : Cd P Q n cx ρ E L d:=fun a w ha hs=>h a w ha (hs.move hjk e1 e2 up)
theorem Jp.move (j k : Nat) {A : qax} (hjk : j ≠ k) (e1 : look L j = some Emp) (e2 : look L k = some A) (up : Up A) (h : Jp P ops Q S' n cx π ρ E ((j,A) :: (k,Emp) :: L)) : Jp P ops Q S' n cx π ρ E L:=fun a w ha hs=>h a w ha (hs.move hjk e1 e2 up)
end
end Go.Proofs.Ytnfkalpgidiafaa

namespace Go.Proofs.Ytnfkalpgidiafaa
open _root_.Go.Proofs.Try
open Go
def valueT (S : ShG) (X : qam) (pp : Bool) (i : InsP) (s : StP) : qam :=
 if qeh i.op = true then qdj (qdi (tagM S (addrP i s) (qcl i.op).1) (qcl i.op).1 (qcl i.op).2) (ptrT X pp i.r1) else
 if isKind i.op = true then qfg (kindA i.op) (opdP i s) (regP s i.r1) (qch X i.r1) (if 27 < i.op then qch X i.r2 else zeroT) else zeroT
theorem value13_spec (bc bm bs bx : Nat) (S : ShG) (s : StP) (X : qam) (pp : Bool) (so si : Value) (i : InsP) (hs : StOk s) (hi : InsOk i) (hX : X.length = 128) :
  Spec Try.prog 23 #[.pointer (some ⟨bc,0,none⟩),.agg i.cells.toArray] (fun _=>True)
   [(0,Pt bc (.cells (qes bm bs s bx pp so si).toArray 76)),(1,Pt bx (.cells (qaf X).toArray 43)),(2,ShO bs S)]
  (fun ρ ρ' v L=>ρ' = ρ ∧ v = .agg (qaf (valueT S X pp i s)).toArray ∧ L = [(0,Pt bc (.cells (qes bm bs s bx pp so si).toArray 76)),(1,Pt bx (.cells (qaf X).toArray 43)),(2,ShO bs S)]):=by
 obtain ⟨V,hV⟩ : ∃ V,valueT S X pp i s = V:=⟨_,rfl⟩
 rw [hV]
 unfold valueT at hV
 have hA:=qde i s hs hi
 have hal:=qhg i s
 have hP:=pointer_spec bc bm bs bx s X pp so si i hs hi hX
 have hSz:=qgn i.op
 obtain ⟨ad,had⟩ : ∃ ad,addrP i s = ad:=⟨_,rfl⟩
 rw [had] at hA hal hV
 obtain ⟨op,rd,r1,r2,imm⟩:=i
 dsimp only at hV hP hSz
 obtain ⟨szp,hsz⟩ : ∃ x,qcl op = x:=⟨_,rfl⟩
 rw [hsz] at hSz hV
 obtain ⟨sz,sg⟩:=szp
 dsimp only at hSz hV
 have hpl:=ptrT_len X pp r1
 have hT:=shTag_spec bs S ad sz hal
 have htl:=tagM_len S ad sz
 obtain ⟨tg,htg⟩ : ∃ x,tagM S ad sz = x:=⟨_,rfl⟩
 rw [htg] at hT htl hV
 have hnl:=(qgf tg sz sg).trans htl
 refine Spec.of 89 Try.func23 rfl Try.ntmps23 [(0,_),(1,_)] rfl rfl ?_
 intro cx ρ hr' h0
 have hsl:=StP.len hs
 have hso:=StP.one s
 refine Cd.seq fun K1 hK1=>?_
 refine Cd.qac [(0,false),(1,false)] rfl rfl ?_
 refine Jp.box 3 3 rfl (qaa rfl) rfl rfl rfl rfl fun b3=>⟨Kp.true,?_⟩
 refine Jp.alloc 4 4 rfl (qaa rfl) rfl rfl rfl zeroValue41 fun b4=>⟨Kp.true,?_⟩
 refine Jp.qae hK1 ?_
 refine Cd.seq fun K2 hK2=>?_
 refine Cd.seq fun K3 hK3=>?_
 refine Cd.qac [(0,false),(1,false),(2,false)] rfl rfl ?_
 refine Jp.y 13 rfl (qaa rfl) rfl rfl Kp.true (by exact Y.qad rfl rfl underlying34 rfl sizeOf3 (by decide) (show _ + 0 = _ from rfl)) ?_
 refine Jp.y 14 rfl (qaa rfl) rfl rfl Kp.true (by exact Y.qaw 3 rfl isAgg3 rfl rfl rfl) ?_
 refine Jp.call [] [] (qeg op) 15 rfl (qaa rfl) rfl rfl (Runs.fn rfl call47 rfl) (by decide) (by decide) rfl trivial ?_
 rintro v1 ρ1 L1 ⟨rfl,rfl,rfl⟩
 refine ⟨rfl,fun hle1=>⟨Kp.true,?_⟩⟩
 refine Jp.qae hK3 ?_
 refine Cd.qaq rfl (fun ga=>?_) (fun ga=>?_)
 ·rw [if_pos ga] at hV
  have hjl : (qaf (qdj (qdi tg sz sg) (ptrT X pp r1))).length = 4:=by rw [qbc,qdu hnl hpl]
  have hjo:=qbd (qdj (qdi tg sz sg) (ptrT X pp r1))
  refine Cd.seq fun K4 hK4=>?_
  refine Cd.qac [(0,false),(1,false),(2,false),(3,false),(4,false),(5,false),(6,false),(7,false)] rfl rfl ?_
  refine Jp.y 17 rfl (qaa rfl) rfl rfl Kp.true (by exact Y.qad rfl rfl underlying34 rfl sizeOf3 (by decide) (show _ + 0 = _ from rfl)) ?_
  refine Jp.y 18 rfl (qaa rfl) rfl rfl Kp.true (by exact Y.qaw 3 rfl isAgg3 rfl rfl rfl) ?_
  refine Jp.call [] [] hSz 19 rfl (qaa rfl) rfl rfl (Runs.fn rfl call42 rfl) (by decide) (by decide) rfl trivial ?_
  rintro v2 ρ2 L2 ⟨rfl,rfl,rfl⟩
  refine ⟨rfl,fun hle2=>⟨Kp.true,?_⟩⟩
  refine Jp.y 16 rfl (qaa rfl) rfl rfl Kp.true (Y.move rfl rfl) ?_
  refine Jp.y 20 rfl (qaa rfl) rfl rfl Kp.true (Y.extract rfl rfl rfl) ?_
  refine Jp.y 21 rfl (qaa rfl) rfl rfl Kp.true (Y.extract rfl rfl rfl) ?_
  refine Jp.y 5 rfl (qaa rfl) rfl rfl Kp.true (Y.assign rfl rfl) ?_
  refine Jp.y 6 rfl (qaa rfl) rfl rfl Kp.true (Y.assign rfl rfl) ?_
  refine Jp.qae hK4 ?_
  refine Cd.seq fun K5 hK5=>?_
  refine Cd.drawn [(0,_),(3,_)] ⟨rfl,rfl,trivial⟩ [(0,true),(1,true),(2,true),(3,true),(4,true),(5,true),(6,true),(7,true),(8,true),(10,true),(12,true),(13,true),(15,true),(16,true),(9,false),(11,false),(14,false),(17,false),(18,false),(19,false)] follows (by kernel_rfl) (fun hrl=>?_)
  refine Jp.q 22 rfl (qaa rfl) rfl rfl (Y.move rfl rfl) ?_
  refine Jp.q 23 rfl (qaa rfl) rfl rfl (Y.qao rfl rfl) ?_
  refine Jp.q 24 rfl (qaa rfl) rfl rfl (by exact Y.qad rfl rfl underlying76 rfl sizeOf36 (by decide) (show _ + 1 = _ from rfl)) ?_
  refine Jp.q 25 rfl (qaa rfl) rfl rfl (by exact Y.qbk 0 rfl isAgg36 rfl rfl (HasC.pt (machC_sh))) ?_
  refine Jp.q 26 rfl (qaa rfl) rfl rfl (by exact Y.qag 3 rfl isAgg34 sizeOf34 rfl rfl (by first | rfl | assumption)) ?_
  refine Jp.q 27 rfl (qaa rfl) rfl rfl (Y.move rfl rfl) ?_
  refine Jp.q 28 rfl (qaa rfl) rfl rfl (Y.qao rfl rfl) ?_
  refine Jp.q 29 rfl (qaa rfl) rfl rfl (by exact Y.qad rfl rfl underlying76 rfl sizeOf46 (by decide) (show _ + 2 = _ from rfl)) ?_
  refine Jp.q 30 rfl (qaa rfl) rfl rfl (Y.qfr 0 s.cells rfl isAgg46 sizeOf46 rfl rfl hsl (fun p v h=>machC_s hs p v h)) ?_
  refine Jp.q 32 rfl (qaa rfl) rfl rfl (Y.move rfl rfl) ?_
  refine Jp.q 34 rfl (qaa rfl) rfl rfl (Y.move rfl rfl) ?_
  refine Jp.q 35 rfl (qaa rfl) rfl rfl (Y.move rfl rfl) ?_
  refine Jp.q 37 rfl (qaa rfl) rfl rfl (Y.move rfl rfl) ?_
  refine Jp.q 38 rfl (qaa rfl) rfl rfl (by exact Y.qag 3 rfl isAgg34 sizeOf34 rfl rfl (by first | rfl | assumption)) ?_
  refine Jp.call [] [] hA 31 rfl (qaa rfl) rfl rfl (Runs.fn rfl call43 rfl) (by decide) (by decide) rfl trivial ?_
  rintro v3 ρ3 L3 ⟨rfl,rfl,rfl⟩
  refine ⟨rfl,fun hle3=>⟨(Kp.st ⟨rfl,rfl,trivial⟩),?_⟩⟩
  refine Jp.call [2] [2] hT 33 rfl (qaa rfl) rfl rfl (Runs.fn rfl call49 rfl) (by decide) (by decide) rfl trivial ?_
  rintro v4 ρ4 L4 ⟨rfl,rfl,rfl⟩
  refine ⟨rfl,fun hle4=>⟨(Kp.st ⟨rfl,rfl,trivial⟩),?_⟩⟩
  refine Jp.call [] [] (narrow_spec tg sz sg htl) 36 rfl (qaa rfl) rfl rfl (Runs.fn rfl call48 rfl) (by decide) (by decide) rfl trivial ?_
  rintro v5 ρ5 L5 ⟨rfl,rfl,rfl⟩
  refine ⟨rfl,fun hle5=>⟨(Kp.st ⟨rfl,rfl,trivial⟩),?_⟩⟩
  refine Jp.call [0,1] [0,1] hP 39 rfl (qaa rfl) rfl rfl (Runs.fn rfl call46 rfl) (by decide) (by decide) rfl trivial ?_
  rintro v6 ρ6 L6 ⟨rfl,rfl,rfl⟩
  refine ⟨rfl,fun hle6=>⟨(Kp.st ⟨rfl,rfl,trivial⟩),?_⟩⟩
  refine Jp.call [] [] (qdt (qdi tg sz sg) (ptrT X pp r1) hnl hpl) 40 rfl (qaa rfl) rfl rfl (Runs.fn rfl call45 rfl) (by decide) (by decide) rfl trivial ?_
  rintro v7 ρ7 L7 ⟨rfl,rfl,rfl⟩
  refine ⟨rfl,fun hle7=>⟨(Kp.st ⟨rfl,rfl,trivial⟩),?_⟩⟩
  refine Jp.qah 4 rfl (qaa rfl) rfl rfl sizeOf41 rfl rfl (by first | rfl | assumption) (by first | rfl | assumption) rfl (by first | rfl | assumption) (fun k _ _=>qap k) Kp.last ?_
  refine Jp.qae hK5 ?_
  refine Cd.ret [(0,_),(1,_),(2,_)] rfl (by exact qer 4 rfl rfl isAgg41 sizeOf41 rfl (by first | rfl | assumption)) ⟨rfl,rfl,rfl,trivial⟩ ⟨rfl,by rw [← hV],rfl⟩
 ·rw [if_neg (by rw [ga]; decide)] at hV
  refine Cd.qbw hK2 ?_
  refine Cd.seq fun K7 hK7=>?_
  refine Cd.qac [(0,false),(1,false),(2,false),(3,false),(4,false),(5,false),(6,false),(7,false)] rfl rfl ?_
  refine Jp.y 42 rfl (qaa rfl) rfl rfl Kp.true (by exact Y.qad rfl rfl underlying34 rfl sizeOf3 (by decide) (show _ + 0 = _ from rfl)) ?_
  refine Jp.y 43 rfl (qaa rfl) rfl rfl Kp.true (by exact Y.qaw 3 rfl isAgg3 rfl rfl rfl) ?_
  refine Jp.call [] [] (kind_spec op) 44 rfl (qaa rfl) rfl rfl (Runs.fn rfl call50 rfl) (by decide) (by decide) rfl trivial ?_
  rintro v2 ρ2 L2 ⟨rfl,rfl,rfl⟩
  refine ⟨rfl,fun hle2=>⟨Kp.true,?_⟩⟩
  refine Jp.y 41 rfl (qaa rfl) rfl rfl Kp.true (Y.move rfl rfl) ?_
  refine Jp.y 45 rfl (qaa rfl) rfl rfl Kp.true (Y.extract rfl rfl rfl) ?_
  refine Jp.y 46 rfl (qaa rfl) rfl rfl Kp.true (Y.extract rfl rfl rfl) ?_
  refine Jp.y 7 rfl (qaa rfl) rfl rfl Kp.true (Y.assign rfl rfl) ?_
  refine Jp.y 8 rfl (qaa rfl) rfl rfl Kp.true (Y.assign rfl rfl) ?_
  refine Jp.qae hK7 ?_
  refine Cd.seq fun K8 hK8=>?_
  refine Cd.seq fun K9 hK9=>?_
  refine Cd.qac [(0,false),(1,false)] rfl rfl ?_
  refine Jp.y 47 rfl (qaa rfl) rfl rfl Kp.true (Y.move rfl rfl) ?_
  refine Jp.y 48 rfl (qaa rfl) rfl rfl Kp.true (Y.not rfl rfl) ?_
  refine Jp.qae hK9 ?_
  refine Cd.qaq rfl (fun gb=>?_) (fun gb=>?_)
  ·rw [if_neg (by simpa using gb)] at hV
   refine Cd.seq fun K10 hK10=>?_
   refine Cd.qac [(0,false),(1,false)] rfl rfl ?_
   refine Jp.y 49 rfl (qaa rfl) rfl rfl Kp.true (Y.array [] [_,_,_,_] rfl rfl underlying41 sizeOf5 zeroValue41 rfl) ?_
   refine Jp.qah 4 rfl (qaa rfl) rfl rfl sizeOf41 rfl rfl (by first | rfl | assumption) (by first | rfl | assumption) rfl (by first | rfl | assumption) (fun k _ _=>qap k) Kp.true ?_
   refine Jp.qae hK10 ?_
   refine Cd.ret [(0,_),(1,_),(2,_)] rfl (by exact qer 4 rfl rfl isAgg41 sizeOf41 rfl (by first | rfl | assumption)) ⟨rfl,rfl,rfl,trivial⟩ ⟨rfl,by rw [← hV]; rfl,rfl⟩
  ·rw [if_pos (by simpa using gb)] at hV
   obtain ⟨s',hs'⟩ : ∃ s' : StP,s' = ⟨s.x.set 0 0,s.pc,s.ret⟩:=⟨_,rfl⟩
   have hx' : s'.x = s.x.set 0 0:=by rw [hs']
   have hreg : ∀ r,regP s' r = regP s r:=fun r=>by
    unfold regP
    by_cases h : r = 0
    ·rw [if_pos h,if_pos h]
    ·rw [if_neg h,if_neg h,hx']
     simp only [List.getD_eq_getElem?_getD]
     rw [List.getElem?_set_ne (by omega)]
   have hok' : StOk s' := ⟨by rw [hx', List.length_set]; exact hs.len, fun y hy => by
    rw [hx'] at hy
    rcases List.mem_or_eq_of_mem_set hy with h | h
    ·exact hs.lt y h
    ·rw [h]; decide, by rw [hs']; exact hs.pc, by rw [hs']; exact hs.ret⟩
   have hO:=operand_spec ⟨op,rd,r1,r2,imm⟩ s' hok' hi
   have hol:=opdP_lt (i:=⟨op,rd,r1,r2,imm⟩) hs
   rw [show opdP ⟨op,rd,r1,r2,imm⟩ s' = opdP ⟨op,rd,r1,r2,imm⟩ s by (unfold opdP; rw [hreg])] at hO
   have l1:=regP_lt hs r1
   have hg1 : s'.x[r1]? = some (regP s r1):=by
    rw [hx']
    by_cases h : r1 = 0
    ·rw [h,List.getElem?_set_self (by rw [hs.len]; decide)]; rfl
    ·rw [List.getElem?_set_ne (by omega),regP_get hs hi.r1 h]
   have hsl':=StP.len hok'
   refine Cd.qbw hK8 ?_
   refine Cd.seq fun K11 hK11=>?_
   refine Cd.qac [(0,false),(1,false),(2,false)] rfl rfl ?_
   refine Jp.y 50 rfl (qaa rfl) rfl rfl Kp.true (Y.array [] [_,_,_,_] rfl rfl underlying41 sizeOf5 zeroValue41 rfl) ?_
   refine Jp.alloc 9 9 rfl (qaa rfl) rfl rfl rfl zeroValue41 fun b9=>⟨Kp.true,?_⟩
   refine Jp.qah 9 rfl (qaa rfl) rfl rfl sizeOf41 rfl rfl (by first | rfl | assumption) (by first | rfl | assumption) rfl (by first | rfl | assumption) (fun k _ _=>qap k) Kp.true ?_
   refine Jp.qae hK11 ?_
   refine Cd.seq fun K12 hK12=>?_
   refine Cd.seq fun K13 hK13=>?_
   refine Cd.qac [(0,false),(1,false),(2,false)] rfl rfl ?_
   refine Jp.y 51 rfl (qaa rfl) rfl rfl Kp.true (by exact Y.qad rfl rfl underlying34 rfl sizeOf3 (by decide) (show _ + 0 = _ from rfl)) ?_
   refine Jp.y 52 rfl (qaa rfl) rfl rfl Kp.true (by exact Y.qaw 3 rfl isAgg3 rfl rfl rfl) ?_
   refine Jp.y 53 rfl (qaa rfl) rfl rfl Kp.true (Y.gtr rfl rfl rfl) ?_
   refine Jp.qae hK13 ?_
   refine Cd.qhi (G:=qam) (fun g=>g = (if 27 < op then qch X r2 else zeroT)) (fun _=>[]) [(0,_),(3,_),(4,_),(7,_),(9,_)] ⟨rfl,rfl,rfl,rfl,rfl,trivial⟩ (fun g=>[(9,Pt b9 (.cells (qaf g).toArray 41))]) [(0,_),(1,_),(2,_),(3,_),(4,_)] ⟨rfl,rfl,rfl,rfl,rfl,trivial⟩ hK12 (fun g hφ=>?_) (fun hj1=>?_)
   ·obtain ⟨u,hu⟩ : ∃ u,u = g:=⟨_,rfl⟩
    rw [← hu] at hφ ⊢
    have hul : u.length = 4:=by
     rw [hφ]; split
     ·exact qca hX hi.r2
     ·rfl
    rw [← hφ] at hV
    have hu4 : (qaf u).length = 4:=by rw [qbc,hul]
    have hVl : (qaf V).length = 4:=by rw [qbc,← hV]; exact flowT_len _ _ _ (qca hX hi.r1) hul
    have hVo:=qbd V
    refine Cd.seq fun K14 hK14=>?_
    refine Cd.qac [(0,false),(1,false),(2,false),(3,false),(4,false),(5,false)] rfl rfl ?_
    refine Jp.y 61 rfl (qaa rfl) rfl rfl Kp.true (Y.move rfl rfl) ?_
    refine Jp.y 62 rfl (qaa rfl) rfl rfl Kp.true (Y.qao rfl rfl) ?_
    refine Jp.y 63 rfl (qaa rfl) rfl rfl Kp.true (by exact Y.qad rfl rfl underlying76 rfl sizeOf46 (by decide) (show _ + 2 = _ from rfl)) ?_
    refine Jp.y 64 rfl (qaa rfl) rfl rfl Kp.true (Y.qfr 0 s.cells rfl isAgg46 sizeOf46 rfl rfl hsl (fun p v h=>machC_s hs p v h)) ?_
    refine Jp.alloc 10 10 rfl (qaa rfl) rfl rfl rfl zeroValue46 fun b10=>⟨Kp.true,?_⟩
    refine Jp.qah 10 rfl (qaa rfl) rfl rfl sizeOf46 rfl rfl (by first | rfl | assumption) (by first | rfl | assumption) rfl (by first | rfl | assumption) (fun k _ _=>qap k) Kp.true ?_
    refine Jp.qae hK14 ?_
    refine Cd.seq fun K15 hK15=>?_
    refine Cd.qac [(0,false),(1,false),(2,false)] rfl rfl ?_
    refine Jp.y 65 rfl (qaa rfl) rfl rfl Kp.true (by exact Y.qad rfl rfl underlying46 rfl sizeOf44 (by decide) (show _ + 0 = _ from rfl)) ?_
    refine Jp.y 66 rfl (qaa rfl) rfl rfl Kp.true (Y.qal rfl rfl rfl underlying44 sizeOf31 (by first | decide | omega) (by first | decide | omega) rfl) ?_
    refine Jp.qcx 10 (Pt b10 (.cells s'.cells.toArray 46)) rfl (qaa rfl) rfl rfl sizeOf31 rfl rfl rfl rfl rfl (by rw [hs']; exact SetC.st hs.len (by omega) 0) Kp.true ?_
    have hr132 : r1 < 32:=hi.r1
    refine Jp.qae hK15 ?_
    refine Cd.seq fun K16 hK16=>?_
    refine Cd.drawnT [(0,_),(3,_),(9,_),(10,_)] ⟨rfl,rfl,rfl,rfl,trivial⟩ 24 (.q 0 (.q 1 (.q 2 (.q 3 (.q 4 (.q 5 (.q 6 (.q 7 (.q 9 (.q 10 (.q 11 (.q 12 (.q 13 (.q 14 (.q 16 (.f 8 (.f 15 (.f 17 (.q 18 (.q 19 (.q 20 (.l 21 (.l 22 (.q 23 .nil)))))) 21 (.l 17 (.q 18 (.q 19 (.q 20 (.l 22 (.q 23 .nil))))))) 21 (.l 15 (.l 17 (.q 18 (.q 19 (.q 20 (.l 22 (.q 23 .nil)))))))) 21 (.l 8 (.l 15 (.l 17 (.q 18 (.q 19 (.q 20 (.l 22 (.q 23 .nil)))))))))))))))))))))))) follows (by kernel_rfl) (fun hrl=>?_)
    refine JT.q 68 rfl (qaa rfl) rfl rfl (Y.move rfl rfl) ?_
    refine JT.q 69 rfl (qaa rfl) rfl rfl (by exact Y.qad rfl rfl underlying34 rfl sizeOf3 (by decide) (show _ + 2 = _ from rfl)) ?_
    refine JT.q 70 rfl (qaa rfl) rfl rfl (by exact Y.qaw 3 rfl isAgg3 rfl rfl rfl) ?_
    refine JT.q 71 rfl (qaa rfl) rfl rfl (by exact Y.qad rfl rfl underlying46 rfl sizeOf44 (by decide) (show _ + 0 = _ from rfl)) ?_
    refine JT.slot 70 rfl (show _ = Value.int .i64 (r1 : Int) from rfl) ?_
    refine JT.q 72 rfl (qaa rfl) rfl rfl (Y.qal (q:=r1) rfl rfl rfl underlying44 sizeOf31 (by omega) (by omega) (by omega)) ?_
    refine JT.q 73 rfl (qaa rfl) rfl rfl (by exact Y.qbk 10 rfl isAgg31 rfl rfl (HasC.pt (StP.cX hok' hg1))) ?_
    refine JT.q 74 rfl (qaa rfl) rfl rfl (by exact Y.qag 3 rfl isAgg34 sizeOf34 rfl rfl (by first | rfl | assumption)) ?_
    refine JT.q 75 rfl (qaa rfl) rfl rfl (by exact Y.qag 10 rfl isAgg46 sizeOf46 rfl rfl (by first | rfl | assumption)) ?_
    refine JT.q 77 rfl (qaa rfl) rfl rfl (Y.move rfl rfl) ?_
    refine JT.q 78 rfl (qaa rfl) rfl rfl (Y.qao rfl rfl) ?_
    refine JT.q 79 rfl (qaa rfl) rfl rfl (by exact Y.qad rfl rfl underlying76 rfl sizeOf74 (by decide) (show _ + 36 = _ from rfl)) ?_
    refine JT.q 80 rfl (qaa rfl) rfl rfl (by exact Y.qbk 0 rfl isAgg74 rfl rfl (HasC.pt (machC_x hs))) ?_
    refine JT.q 81 rfl (qaa rfl) rfl rfl (by exact Y.qad rfl rfl underlying34 rfl sizeOf3 (by decide) (show _ + 2 = _ from rfl)) ?_
    refine JT.q 82 rfl (qaa rfl) rfl rfl (by exact Y.qaw 3 rfl isAgg3 rfl rfl rfl) ?_
    refine JT.q 84 rfl (qaa rfl) rfl rfl (by exact Y.qag 9 rfl isAgg41 sizeOf41 rfl rfl (by first | rfl | assumption)) ?_
    refine JT.fork ?_ ?_
    ·skip
     refine JT.loud ?_
     refine Jp.call [] [] hO 76 rfl (qaa rfl) rfl rfl (Runs.fn rfl call52 rfl) (by decide) (by decide) rfl trivial ?_
     rintro v3 ρ3 L3 ⟨rfl,rfl,rfl⟩
     refine ⟨rfl,fun hle3=>⟨Kp.true,?_⟩⟩
     refine JT.tail (KT.st ⟨rfl,rfl,rfl,rfl,trivial⟩) ?_
     refine JT.fork ?_ ?_
     ·skip
      refine JT.loud ?_
      refine Jp.call [1] [1] (qge bx X r1 hX hi.r1) 83 rfl (qaa rfl) rfl rfl (Runs.fn rfl call40 rfl) (by decide) (by decide) rfl trivial ?_
      rintro v4 ρ4 L4 ⟨rfl,rfl,rfl⟩
      refine ⟨rfl,fun hle4=>⟨Kp.true,?_⟩⟩
      refine JT.tail (KT.st ⟨rfl,rfl,rfl,rfl,trivial⟩) ?_
      refine JT.fork ?_ ?_
      ·skip
       refine JT.loud ?_
       refine Jp.call [] [] (qhd (kindA op) (regP s r1) (opdP ⟨op,rd,r1,r2,imm⟩ s) (qch X r1) u (qgz op) l1 hol (qca hX hi.r1) hul) 85 rfl (qaa rfl) rfl rfl (Runs.fn rfl call51 rfl) (by decide) (by decide) rfl trivial ?_
       rintro v5 ρ5 L5 ⟨rfl,rfl,rfl⟩
       refine ⟨rfl,fun hle5=>⟨Kp.true,?_⟩⟩
       refine JT.tail (KT.st ⟨rfl,rfl,rfl,rfl,trivial⟩) ?_
       rw [hV]
       refine JT.q 67 rfl (qaa rfl) rfl rfl (Y.move rfl rfl) ?_
       refine JT.q 86 rfl (qaa rfl) rfl rfl (Y.extract rfl rfl rfl) ?_
       refine JT.q 87 rfl (qaa rfl) rfl rfl (Y.extract rfl rfl rfl) ?_
       refine JT.loud ?_
       refine Jp.alloc 11 11 rfl (qaa rfl) rfl rfl rfl zeroValue41 fun b11=>⟨Kp.true,?_⟩
       refine JT.tail (KT.st ⟨rfl,rfl,rfl,rfl,trivial⟩) ?_
       refine JT.loud ?_
       refine Jp.qah 11 rfl (qaa rfl) rfl rfl sizeOf41 rfl rfl (by first | rfl | assumption) (by first | rfl | assumption) rfl (by first | rfl | assumption) (fun k _ _=>qap k) Kp.true ?_
       refine JT.tail (KT.st ⟨rfl,rfl,rfl,rfl,trivial⟩) ?_
       refine JT.q 12 rfl (qaa rfl) rfl rfl (Y.assign rfl rfl) ?_
       refine JT.nil ?_
       refine Jp.qae hK16 ?_
       refine Cd.seq fun K17 hK17=>?_
       refine Cd.qac [(0,false),(1,false)] rfl rfl ?_
       refine Jp.y 88 rfl (qaa rfl) rfl rfl Kp.true (by exact Y.qag 11 rfl isAgg41 sizeOf41 rfl rfl (by first | rfl | assumption)) ?_
       refine Jp.qah 4 rfl (qaa rfl) rfl rfl sizeOf41 rfl rfl (by first | rfl | assumption) (by first | rfl | assumption) rfl (by first | rfl | assumption) (fun k _ _=>qap k) Kp.true ?_
       refine Jp.qae hK17 ?_
       refine Cd.ret [(0,_),(1,_),(2,_)] rfl (by exact qer 4 rfl rfl isAgg41 sizeOf41 rfl (by first | rfl | assumption)) ⟨rfl,rfl,rfl,trivial⟩ ⟨rfl,rfl,rfl⟩
      ·skip
       refine JT.loud ?_
       refine Jp.alloc 11 11 rfl (qaa rfl) rfl rfl rfl zeroValue41 fun b11=>⟨Kp.true,?_⟩
       refine JT.tail (KT.st ⟨rfl,rfl,rfl,rfl,trivial⟩) ?_
       refine JT.loud ?_
       refine Jp.call [] [] (qhd (kindA op) (regP s r1) (opdP ⟨op,rd,r1,r2,imm⟩ s) (qch X r1) u (qgz op) l1 hol (qca hX hi.r1) hul) 85 rfl (qaa rfl) rfl rfl (Runs.fn rfl call51 rfl) (by decide) (by decide) rfl trivial ?_
       rintro v5 ρ5 L5 ⟨rfl,rfl,rfl⟩
       refine ⟨rfl,fun hle5=>⟨Kp.true,?_⟩⟩
       refine JT.tail (KT.st ⟨rfl,rfl,rfl,rfl,trivial⟩) ?_
       rw [hV]
       refine JT.q 67 rfl (qaa rfl) rfl rfl (Y.move rfl rfl) ?_
       refine JT.q 86 rfl (qaa rfl) rfl rfl (Y.extract rfl rfl rfl) ?_
       refine JT.q 87 rfl (qaa rfl) rfl rfl (Y.extract rfl rfl rfl) ?_
       refine JT.loud ?_
       refine Jp.qah 11 rfl (qaa rfl) rfl rfl sizeOf41 rfl rfl (by first | rfl | assumption) (by first | rfl | assumption) rfl (by first | rfl | assumption) (fun k _ _=>qap k) Kp.true ?_
       refine JT.tail (KT.st ⟨rfl,rfl,rfl,rfl,trivial⟩) ?_
       refine JT.q 12 rfl (qaa rfl) rfl rfl (Y.assign rfl rfl) ?_
       refine JT.nil ?_
       refine Jp.qae hK16 ?_
       refine Cd.seq fun K18 hK18=>?_
       refine Cd.qac [(0,false),(1,false)] rfl rfl ?_
       refine Jp.y 88 rfl (qaa rfl) rfl rfl Kp.true (by exact Y.qag 11 rfl isAgg41 sizeOf41 rfl rfl (by first | rfl | assumption)) ?_
       refine Jp.qah 4 rfl (qaa rfl) rfl rfl sizeOf41 rfl rfl (by first | rfl | assumption) (by first | rfl | assumption) rfl (by first | rfl | assumption) (fun k _ _=>qap k) Kp.true ?_
       refine Jp.qae hK18 ?_
       refine Cd.ret [(0,_),(1,_),(2,_)] rfl (by exact qer 4 rfl rfl isAgg41 sizeOf41 rfl (by first | rfl | assumption)) ⟨rfl,rfl,rfl,trivial⟩ ⟨rfl,rfl,rfl⟩
     ·skip
      refine JT.loud ?_
      refine Jp.alloc 11 11 rfl (qaa rfl) rfl rfl rfl zeroValue41 fun b11=>⟨Kp.true,?_⟩
      refine JT.tail (KT.st ⟨rfl,rfl,rfl,rfl,trivial⟩) ?_
      refine JT.loud ?_
      refine Jp.call [1] [1] (qge bx X r1 hX hi.r1) 83 rfl (qaa rfl) rfl rfl (Runs.fn rfl call40 rfl) (by decide) (by decide) rfl trivial ?_
      rintro v4 ρ4 L4 ⟨rfl,rfl,rfl⟩
      refine ⟨rfl,fun hle4=>⟨Kp.true,?_⟩⟩
      refine JT.tail (KT.st ⟨rfl,rfl,rfl,rfl,trivial⟩) ?_
      refine JT.loud ?_
      refine Jp.call [] [] (qhd (kindA op) (regP s r1) (opdP ⟨op,rd,r1,r2,imm⟩ s) (qch X r1) u (qgz op) l1 hol (qca hX hi.r1) hul) 85 rfl (qaa rfl) rfl rfl (Runs.fn rfl call51 rfl) (by decide) (by decide) rfl trivial ?_
      rintro v5 ρ5 L5 ⟨rfl,rfl,rfl⟩
      refine ⟨rfl,fun hle5=>⟨Kp.true,?_⟩⟩
      refine JT.tail (KT.st ⟨rfl,rfl,rfl,rfl,trivial⟩) ?_
      rw [hV]
      refine JT.q 67 rfl (qaa rfl) rfl rfl (Y.move rfl rfl) ?_
      refine JT.q 86 rfl (qaa rfl) rfl rfl (Y.extract rfl rfl rfl) ?_
      refine JT.q 87 rfl (qaa rfl) rfl rfl (Y.extract rfl rfl rfl) ?_
      refine JT.loud ?_
      refine Jp.qah 11 rfl (qaa rfl) rfl rfl sizeOf41 rfl rfl (by first | rfl | assumption) (by first | rfl | assumption) rfl (by first | rfl | assumption) (fun k _ _=>qap k) Kp.true ?_
      refine JT.tail (KT.st ⟨rfl,rfl,rfl,rfl,trivial⟩) ?_
      refine JT.q 12 rfl (qaa rfl) rfl rfl (Y.assign rfl rfl) ?_
      refine JT.nil ?_
      refine Jp.qae hK16 ?_
      refine Cd.seq fun K19 hK19=>?_
      refine Cd.qac [(0,false),(1,false)] rfl rfl ?_
      refine Jp.y 88 rfl (qaa rfl) rfl rfl Kp.true (by exact Y.qag 11 rfl isAgg41 sizeOf41 rfl rfl (by first | rfl | assumption)) ?_
      refine Jp.qah 4 rfl (qaa rfl) rfl rfl sizeOf41 rfl rfl (by first | rfl | assumption) (by first | rfl | assumption) rfl (by first | rfl | assumption) (fun k _ _=>qap k) Kp.true ?_
      refine Jp.qae hK19 ?_
      refine Cd.ret [(0,_),(1,_),(2,_)] rfl (by exact qer 4 rfl rfl isAgg41 sizeOf41 rfl (by first | rfl | assumption)) ⟨rfl,rfl,rfl,trivial⟩ ⟨rfl,rfl,rfl⟩
    ·skip
     refine JT.loud ?_
     refine Jp.alloc 11 11 rfl (qaa rfl) rfl rfl rfl zeroValue41 fun b11=>⟨Kp.true,?_⟩
     refine JT.tail (KT.st ⟨rfl,rfl,rfl,rfl,trivial⟩) ?_
     refine JT.loud ?_
     refine Jp.call [] [] hO 76 rfl (qaa rfl) rfl rfl (Runs.fn rfl call52 rfl) (by decide) (by decide) rfl trivial ?_
     rintro v3 ρ3 L3 ⟨rfl,rfl,rfl⟩
     refine ⟨rfl,fun hle3=>⟨Kp.true,?_⟩⟩
     refine JT.tail (KT.st ⟨rfl,rfl,rfl,rfl,trivial⟩) ?_
     refine JT.loud ?_
     refine Jp.call [1] [1] (qge bx X r1 hX hi.r1) 83 rfl (qaa rfl) rfl rfl (Runs.fn rfl call40 rfl) (by decide) (by decide) rfl trivial ?_
     rintro v4 ρ4 L4 ⟨rfl,rfl,rfl⟩
     refine ⟨rfl,fun hle4=>⟨Kp.true,?_⟩⟩
     refine JT.tail (KT.st ⟨rfl,rfl,rfl,rfl,trivial⟩) ?_
     refine JT.loud ?_
     refine Jp.call [] [] (qhd (kindA op) (regP s r1) (opdP ⟨op,rd,r1,r2,imm⟩ s) (qch X r1) u (qgz op) l1 hol (qca hX hi.r1) hul) 85 rfl (qaa rfl) rfl rfl (Runs.fn rfl call51 rfl) (by decide) (by decide) rfl trivial ?_
     rintro v5 ρ5 L5 ⟨rfl,rfl,rfl⟩
     refine ⟨rfl,fun hle5=>⟨Kp.true,?_⟩⟩
     refine JT.tail (KT.st ⟨rfl,rfl,rfl,rfl,trivial⟩) ?_
     rw [hV]
     refine JT.q 67 rfl (qaa rfl) rfl rfl (Y.move rfl rfl) ?_
     refine JT.q 86 rfl (qaa rfl) rfl rfl (Y.extract rfl rfl rfl) ?_
     refine JT.q 87 rfl (qaa rfl) rfl rfl (Y.extract rfl rfl rfl) ?_
     refine JT.loud ?_
     refine Jp.qah 11 rfl (qaa rfl) rfl rfl sizeOf41 rfl rfl (by first | rfl | assumption) (by first | rfl | assumption) rfl (by first | rfl | assumption) (fun k _ _=>qap k) Kp.true ?_
     refine JT.tail (KT.st ⟨rfl,rfl,rfl,rfl,trivial⟩) ?_
     refine JT.q 12 rfl (qaa rfl) rfl rfl (Y.assign rfl rfl) ?_
     refine JT.nil ?_
     refine Jp.qae hK16 ?_
     refine Cd.seq fun K20 hK20=>?_
     refine Cd.qac [(0,false),(1,false)] rfl rfl ?_
     refine Jp.y 88 rfl (qaa rfl) rfl rfl Kp.true (by exact Y.qag 11 rfl isAgg41 sizeOf41 rfl rfl (by first | rfl | assumption)) ?_
     refine Jp.qah 4 rfl (qaa rfl) rfl rfl sizeOf41 rfl rfl (by first | rfl | assumption) (by first | rfl | assumption) rfl (by first | rfl | assumption) (fun k _ _=>qap k) Kp.true ?_
     refine Jp.qae hK20 ?_
     refine Cd.ret [(0,_),(1,_),(2,_)] rfl (by exact qer 4 rfl rfl isAgg41 sizeOf41 rfl (by first | rfl | assumption)) ⟨rfl,rfl,rfl,trivial⟩ ⟨rfl,rfl,rfl⟩
   ·skip
    refine Cd.qaq rfl (fun gc=>?_) (fun gc=>?_)
    ·skip
     have hl2 : (qaf (qch X r2)).length = 4:=by rw [qbc,qca hX hi.r2]
     have ho2:=qbd (qch X r2)
     refine Cd.drawn [(0,_),(3,_)] ⟨rfl,rfl,trivial⟩ [(0,true),(1,true),(2,true),(3,true),(4,true),(5,true),(6,false),(7,false)] follows (by kernel_rfl) (fun hrl=>?_)
     refine Jp.q 54 rfl (qaa rfl) rfl rfl (Y.move rfl rfl) ?_
     refine Jp.q 55 rfl (qaa rfl) rfl rfl (Y.qao rfl rfl) ?_
     refine Jp.q 56 rfl (qaa rfl) rfl rfl (by exact Y.qad rfl rfl underlying76 rfl sizeOf74 (by decide) (show _ + 36 = _ from rfl)) ?_
     refine Jp.q 57 rfl (qaa rfl) rfl rfl (by exact Y.qbk 0 rfl isAgg74 rfl rfl (HasC.pt (machC_x hs))) ?_
     refine Jp.q 58 rfl (qaa rfl) rfl rfl (by exact Y.qad rfl rfl underlying34 rfl sizeOf3 (by decide) (show _ + 3 = _ from rfl)) ?_
     refine Jp.q 59 rfl (qaa rfl) rfl rfl (by exact Y.qaw 3 rfl isAgg3 rfl rfl rfl) ?_
     refine Jp.call [1] [1] (qge bx X r2 hX hi.r2) 60 rfl (qaa rfl) rfl rfl (Runs.fn rfl call40 rfl) (by decide) (by decide) rfl trivial ?_
     rintro v3 ρ3 L3 ⟨rfl,rfl,rfl⟩
     refine ⟨rfl,fun hle3=>⟨(Kp.st ⟨rfl,rfl,trivial⟩),?_⟩⟩
     first | refine Jp.qah 9 rfl (qaa rfl) rfl rfl sizeOf41 rfl rfl (by first | rfl | assumption) (by first | rfl | assumption) rfl (by first | rfl | assumption) (fun k _ _=>qap k) Kp.last ?_
     refine Jp.qae hK12 ?_
     exact Cd.qcz (hj1 (qch X r2) (if_pos (by simp at gc; omega)).symm) ⟨rfl,rfl,rfl,rfl,rfl,trivial⟩ ⟨rfl,rfl,rfl,rfl,rfl,rfl,trivial⟩
    ·skip
     refine Cd.qbw hK12 ?_
     exact Cd.qcz (hj1 zeroT (if_neg (by simp at gc; omega)).symm) ⟨rfl,rfl,rfl,rfl,rfl,trivial⟩ ⟨rfl,rfl,rfl,rfl,rfl,rfl,trivial⟩
end Go.Proofs.Ytnfkalpgidiafaa

namespace Go.Proofs.Ytnfkalpgidiafaa
open _root_.Go.Proofs.Try
open Go
def layT (M : MemG) (S : ShG) (X : qam) (pp : Bool) (i : InsP) (s : StP) : Int × ShG :=
 if (qdp M (addrP i s) (qcl i.op).1 2).2 = 0 then putM S (addrP i s) (qcl i.op).1 (qdj (qch X i.r2) (ptrT X pp i.r1)) else (0,S)
theorem lay13_spec (bc bm bs bx : Nat) (M : MemG) (S : ShG) (s : StP) (X : qam) (pp : Bool) (so si : Value) (i : InsP) (hs : StOk s) (hi : InsOk i) (hX : X.length = 128) :
  Spec Try.prog 21 #[.pointer (some ⟨bc,0,none⟩),.agg i.cells.toArray] (fun _=>True)
   [(0,Pt bc (.cells (qes bm bs s bx pp so si).toArray 76)),(1,Pt bx (.cells (qaf X).toArray 43)),(2,ShO bs S),(3,qfz bm M)]
  (fun ρ ρ' v L=>v = .int .i64 (layT M S X pp i s).1 ∧ L = [(0,Pt bc (.cells (qes bm bs s bx pp so si).toArray 76)),(1,Pt bx (.cells (qaf X).toArray 43)),(2,ShO bs (layT M S X pp i s).2),(3,qfz bm M)]):=by
 obtain ⟨V,hV⟩ : ∃ V,layT M S X pp i s = V:=⟨_,rfl⟩
 rw [hV]
 unfold layT at hV
 have hA:=qde i s hs hi
 have hal:=qhg i s
 have hP:=pointer_spec bc bm bs bx s X pp so si i hs hi hX
 have hSz:=qgn i.op
 obtain ⟨ad,had⟩ : ∃ ad,addrP i s = ad:=⟨_,rfl⟩
 rw [had] at hA hal hV
 obtain ⟨op,rd,r1,r2,imm⟩:=i
 dsimp only at hV hP hSz
 obtain ⟨szp,hsz⟩ : ∃ x,qcl op = x:=⟨_,rfl⟩
 rw [hsz] at hSz hV
 obtain ⟨sz,sg⟩:=szp
 dsimp only at hSz hV
 have hpl:=ptrT_len X pp r1
 have hll:=qca hX hi.r2
 have hL:=load_spec bm M ad sz 2 hal
 obtain ⟨ldp,hld⟩ : ∃ x,qdp M ad sz 2 = x:=⟨_,rfl⟩
 rw [hld] at hL hV
 obtain ⟨lv,lf⟩:=ldp
 dsimp only at hL hV
 refine Spec.of 52 Try.func21 rfl Try.ntmps21 [(0,_),(1,_)] rfl rfl ?_
 intro cx ρ hr' h0
 have hsl:=StP.len hs
 have hso:=StP.one s
 refine Cd.seq fun K1 hK1=>?_
 refine Cd.qac [(0,false),(1,false)] rfl rfl ?_
 refine Jp.box 4 3 rfl (qaa rfl) rfl rfl rfl rfl fun b4=>⟨Kp.true,?_⟩
 refine Jp.y 4 rfl (qaa rfl) rfl rfl Kp.true (Y.assign rfl rfl) ?_
 refine Jp.qae hK1 ?_
 refine Cd.seq fun K2 hK2=>?_
 refine Cd.qac [(0,false),(1,false),(2,false),(3,false),(4,false),(5,false),(6,false),(7,false)] rfl rfl ?_
 refine Jp.y 11 rfl (qaa rfl) rfl rfl Kp.true (by exact Y.qad rfl rfl underlying34 rfl sizeOf3 (by decide) (show _ + 0 = _ from rfl)) ?_
 refine Jp.y 12 rfl (qaa rfl) rfl rfl Kp.true (by exact Y.qaw 4 rfl isAgg3 rfl rfl rfl) ?_
 refine Jp.call [] [] hSz 13 rfl (qaa rfl) rfl rfl (Runs.fn rfl call42 rfl) (by decide) (by decide) rfl trivial ?_
 rintro v1 ρ1 L1 ⟨rfl,rfl,rfl⟩
 refine ⟨rfl,fun hle1=>⟨Kp.true,?_⟩⟩
 refine Jp.y 10 rfl (qaa rfl) rfl rfl Kp.true (Y.move rfl rfl) ?_
 refine Jp.y 14 rfl (qaa rfl) rfl rfl Kp.true (Y.extract rfl rfl rfl) ?_
 refine Jp.y 15 rfl (qaa rfl) rfl rfl Kp.true (Y.extract rfl rfl rfl) ?_
 refine Jp.y 5 rfl (qaa rfl) rfl rfl Kp.true (Y.assign rfl rfl) ?_
 refine Jp.y 6 rfl (qaa rfl) rfl rfl Kp.true (Y.assign rfl rfl) ?_
 refine Jp.qae hK2 ?_
 refine Cd.seq fun K3 hK3=>?_
 refine Cd.drawn [(0,_),(4,_)] ⟨rfl,rfl,trivial⟩ [(0,true),(1,true),(2,true),(3,true),(4,true),(5,false),(6,true)] follows (by kernel_rfl) (fun hrl=>?_)
 refine Jp.q 16 rfl (qaa rfl) rfl rfl (by exact Y.qag 4 rfl isAgg34 sizeOf34 rfl rfl (by first | rfl | assumption)) ?_
 refine Jp.q 17 rfl (qaa rfl) rfl rfl (Y.move rfl rfl) ?_
 refine Jp.q 18 rfl (qaa rfl) rfl rfl (Y.qao rfl rfl) ?_
 refine Jp.q 19 rfl (qaa rfl) rfl rfl (by exact Y.qad rfl rfl underlying76 rfl sizeOf46 (by decide) (show _ + 2 = _ from rfl)) ?_
 refine Jp.q 20 rfl (qaa rfl) rfl rfl (Y.qfr 0 s.cells rfl isAgg46 sizeOf46 rfl rfl hsl (fun p v h=>machC_s hs p v h)) ?_
 refine Jp.call [] [] hA 21 rfl (qaa rfl) rfl rfl (Runs.fn rfl call43 rfl) (by decide) (by decide) rfl trivial ?_
 rintro v2 ρ2 L2 ⟨rfl,rfl,rfl⟩
 refine ⟨rfl,fun hle2=>⟨(Kp.st ⟨rfl,rfl,trivial⟩),?_⟩⟩
 refine Jp.q 7 rfl (qaa rfl) rfl rfl (Y.assign rfl rfl) ?_
 refine Jp.qae hK3 ?_
 refine Cd.seq fun K5 hK5=>?_
 refine Cd.seq fun K6 hK6=>?_
 refine Cd.qac [(0,false),(1,false),(2,false),(3,false),(4,false),(5,false),(6,false),(7,false),(8,false),(9,false),(10,false),(11,false)] rfl rfl ?_
 refine Jp.y 23 rfl (qaa rfl) rfl rfl Kp.true (Y.move rfl rfl) ?_
 refine Jp.y 24 rfl (qaa rfl) rfl rfl Kp.true (Y.qao rfl rfl) ?_
 refine Jp.y 25 rfl (qaa rfl) rfl rfl Kp.true (by exact Y.qad rfl rfl underlying76 rfl sizeOf29 (by decide) (show _ + 0 = _ from rfl)) ?_
 refine Jp.y 26 rfl (qaa rfl) rfl rfl Kp.true (by exact Y.qbk 0 rfl isAgg29 rfl rfl (HasC.pt machC_m)) ?_
 refine Jp.y 27 rfl (qaa rfl) rfl rfl Kp.true (Y.move rfl rfl) ?_
 refine Jp.y 28 rfl (qaa rfl) rfl rfl Kp.true (Y.move rfl rfl) ?_
 refine Jp.call [3] [3] hL 29 rfl (qaa rfl) rfl rfl (Runs.fn rfl call37 rfl) (by decide) (by decide) rfl trivial ?_
 rintro v3 ρ3 L3 ⟨rfl,rfl,rfl⟩
 refine ⟨rfl,fun hle3=>⟨Kp.true,?_⟩⟩
 refine Jp.y 22 rfl (qaa rfl) rfl rfl Kp.true (Y.move rfl rfl) ?_
 refine Jp.y 30 rfl (qaa rfl) rfl rfl Kp.true (Y.extract rfl rfl rfl) ?_
 refine Jp.y 31 rfl (qaa rfl) rfl rfl Kp.true (Y.extract rfl rfl rfl) ?_
 refine Jp.y 8 rfl (qaa rfl) rfl rfl Kp.true (Y.assign rfl rfl) ?_
 refine Jp.y 9 rfl (qaa rfl) rfl rfl Kp.true (Y.assign rfl rfl) ?_
 refine Jp.qae hK6 ?_
 refine Cd.seq fun K7 hK7=>?_
 refine Cd.qac [(0,false),(1,false)] rfl rfl ?_
 refine Jp.y 32 rfl (qaa rfl) rfl rfl Kp.true (Y.move rfl rfl) ?_
 refine Jp.y 33 rfl (qaa rfl) rfl rfl Kp.true (Y.neq rfl rfl rfl) ?_
 refine Jp.qae hK7 ?_
 refine Cd.qaq rfl (fun ga=>?_) (fun ga=>?_)
 ·rw [if_neg (show ¬ lf = 0 by simpa using ga)] at hV
  subst hV
  refine Cd.seq fun K8 hK8=>?_
  refine Cd.qac [(0,false)] rfl rfl ?_
  refine Jp.y 4 rfl (qaa rfl) rfl rfl Kp.true (Y.assign rfl rfl) ?_
  refine Jp.qae hK8 ?_
  refine Cd.ret [(0,_),(1,_),(2,_),(3,_)] rfl (qbe rfl rfl) ⟨rfl,rfl,rfl,rfl,trivial⟩ ⟨rfl,rfl⟩
 ·rw [if_pos (show lf = 0 by simpa using ga)] at hV
  subst hV
  refine Cd.qbw hK5 ?_
  refine Cd.seq fun K9 hK9=>?_
  refine Cd.drawn [(0,_),(4,_)] ⟨rfl,rfl,trivial⟩ [(0,true),(1,true),(2,true),(3,true),(4,true),(5,true),(6,true),(7,true),(8,true),(9,true),(10,true),(11,true),(13,true),(14,true),(12,false),(15,false),(16,false),(17,false),(18,true)] follows (by kernel_rfl) (fun hrl=>?_)
  refine Jp.q 34 rfl (qaa rfl) rfl rfl (Y.move rfl rfl) ?_
  refine Jp.q 35 rfl (qaa rfl) rfl rfl (Y.qao rfl rfl) ?_
  refine Jp.q 36 rfl (qaa rfl) rfl rfl (by exact Y.qad rfl rfl underlying76 rfl sizeOf36 (by decide) (show _ + 1 = _ from rfl)) ?_
  refine Jp.q 37 rfl (qaa rfl) rfl rfl (by exact Y.qbk 0 rfl isAgg36 rfl rfl (HasC.pt machC_sh)) ?_
  refine Jp.q 38 rfl (qaa rfl) rfl rfl (Y.move rfl rfl) ?_
  refine Jp.q 39 rfl (qaa rfl) rfl rfl (Y.move rfl rfl) ?_
  refine Jp.q 40 rfl (qaa rfl) rfl rfl (Y.move rfl rfl) ?_
  refine Jp.q 41 rfl (qaa rfl) rfl rfl (Y.qao rfl rfl) ?_
  refine Jp.q 42 rfl (qaa rfl) rfl rfl (by exact Y.qad rfl rfl underlying76 rfl sizeOf74 (by decide) (show _ + 36 = _ from rfl)) ?_
  refine Jp.q 43 rfl (qaa rfl) rfl rfl (by exact Y.qbk 0 rfl isAgg74 rfl rfl (HasC.pt (machC_x hs))) ?_
  refine Jp.q 44 rfl (qaa rfl) rfl rfl (by exact Y.qad rfl rfl underlying34 rfl sizeOf3 (by decide) (show _ + 3 = _ from rfl)) ?_
  refine Jp.q 45 rfl (qaa rfl) rfl rfl (by exact Y.qaw 4 rfl isAgg3 rfl rfl rfl) ?_
  refine Jp.q 47 rfl (qaa rfl) rfl rfl (Y.move rfl rfl) ?_
  refine Jp.q 48 rfl (qaa rfl) rfl rfl (by exact Y.qag 4 rfl isAgg34 sizeOf34 rfl rfl (by first | rfl | assumption)) ?_
  refine Jp.call [1] [1] (qge bx X r2 hX hi.r2) 46 rfl (qaa rfl) rfl rfl (Runs.fn rfl call40 rfl) (by decide) (by decide) rfl trivial ?_
  rintro v4 ρ4 L4 ⟨rfl,rfl,rfl⟩
  refine ⟨rfl,fun hle4=>⟨(Kp.st ⟨rfl,rfl,trivial⟩),?_⟩⟩
  refine Jp.call [0,1] [0,1] hP 49 rfl (qaa rfl) rfl rfl (Runs.fn rfl call46 rfl) (by decide) (by decide) rfl trivial ?_
  rintro v5 ρ5 L5 ⟨rfl,rfl,rfl⟩
  refine ⟨rfl,fun hle5=>⟨(Kp.st ⟨rfl,rfl,trivial⟩),?_⟩⟩
  refine Jp.call [] [] (qdt (qch X r2) (ptrT X pp r1) hll hpl) 50 rfl (qaa rfl) rfl rfl (Runs.fn rfl call45 rfl) (by decide) (by decide) rfl trivial ?_
  rintro v6 ρ6 L6 ⟨rfl,rfl,rfl⟩
  refine ⟨rfl,fun hle6=>⟨(Kp.st ⟨rfl,rfl,trivial⟩),?_⟩⟩
  refine Jp.call [2] [2] (shPutN_spec bs S ad sz (qdj (qch X r2) (ptrT X pp r1)) hal (qdu hll hpl)) 51 rfl (qaa rfl) rfl rfl (Runs.fn rfl call44 rfl) (by decide) (by decide) rfl trivial ?_
  rintro v7 ρ7 L7 ⟨rfl,rfl⟩
  refine ⟨rfl,fun hle7=>⟨(Kp.st' ⟨rfl,rfl,trivial⟩ hle7 (by rw [h0]; exact Hp.le_refl _)),?_⟩⟩
  refine Jp.q 4 rfl (qaa rfl) rfl rfl (Y.assign rfl rfl) ?_
  refine Jp.qae hK9 ?_
  refine Cd.ret [(0,_),(1,_),(2,_),(3,_)] rfl (qbe rfl rfl) ⟨rfl,rfl,rfl,rfl,trivial⟩ ⟨rfl,rfl⟩
end Go.Proofs.Ytnfkalpgidiafaa
