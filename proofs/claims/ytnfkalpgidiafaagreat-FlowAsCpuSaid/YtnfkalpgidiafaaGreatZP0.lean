import Derived.WalkKit
import Derived.OrdersHeld
import Derived.KernelRfl
import Derived.Laws.Bits
import Derived.WalkSpells
import Derived.WalkLawsBesides
set_option linter.unusedVariables false
set_option linter.unusedSimpArgs false
namespace Go.Proofs.YtnfkalpgidiafaaGreat
open Go
def look {α : Type} : List (Nat × α) → Nat → Option α
 | [],_=>none
 | (k,v) :: l,n=>cond (Nat.beq k n) (some v) (look l n)
theorem qag {α : Type} (k : Nat) (v : α) (l : List (Nat × α)) (n : Nat) : look ((k,v) :: l) n = if k = n then some v else look l n:=by
 simp only [look]
 by_cases h : k = n
 ·subst h; simp
 ·have : Nat.beq k n = false:=Bool.eq_false_iff.2 fun e=>h (Nat.eq_of_beq_eq_true e)
  simp [this,h]
theorem look_append {α : Type} (l m : List (Nat × α)) (n : Nat) : look (l ++ m) n = (look l n).or (look m n):=by
 induction l with
 | nil=>simp [look]
 | cons p l ih =>
  obtain ⟨k,v⟩:=p
  rw [List.cons_append,qag,qag,ih]
  split <;> simp
def Subl {α : Type} : List (Nat × α) → List (Nat × α) → Prop
 | [],_=>True
 | (k,v) :: l,m=>look m k = some v ∧ Subl l m
theorem Subl.look {α : Type} {l m : List (Nat × α)} (h : Subl l m) : ∀ {n v},look l n = some v → YtnfkalpgidiafaaGreat.look m n = some v:=by
 induction l with
 | nil=>intro n v h; simp [YtnfkalpgidiafaaGreat.look] at h
 | cons p l ih =>
  obtain ⟨k,u⟩:=p
  intro n v hl
  rw [qag] at hl
  split at hl
  ·rename_i hk; injection hl with hl; subst hl; subst hk; exact h.1
  ·exact ih h.2 hl
theorem nodup_inj {l : List Nat} (h : l.Nodup) : ∀ {x y i : Nat},l[x]? = some i → l[y]? = some i → x = y:=by
 induction l with
 | nil=>intro x y i hx; simp at hx
 | cons a l ih =>
  intro x y i hx hy
  rw [List.nodup_cons] at h
  cases x with
  | zero =>
   cases y with
   | zero=>rfl
   | succ y=>simp at hx hy; subst hx; exact absurd (List.mem_of_getElem? hy) h.1
  | succ x =>
   cases y with
   | zero=>simp at hx hy; subst hy; exact absurd (List.mem_of_getElem? hx) h.1
   | succ y=>simp at hx hy; rw [ih h.2 hx hy]
abbrev Hp:=Nat → Option Obj
abbrev qax:=Hp → Prop
def Hp.le (h k : Hp) : Prop:=∀ b o,h b = some o → k b = some o
def Hp.disj (h k : Hp) : Prop:=∀ b,h b = none ∨ k b = none
def Hp.emp : Hp:=fun _=>none
theorem Hp.le_refl (h : Hp) : Hp.le h h:=fun _ _ e=>e
theorem Hp.le_trans {h k l : Hp} (a : Hp.le h k) (b : Hp.le k l) : Hp.le h l:=fun _ _ e=>b _ _ (a _ _ e)
theorem Hp.disj_symm {h k : Hp} (a : Hp.disj h k) : Hp.disj k h:=fun b=>(a b).symm
theorem Hp.disj_emp (h : Hp) : Hp.disj h Hp.emp:=fun _=>.inr rfl
theorem Hp.emp_disj (h : Hp) : Hp.disj Hp.emp h:=fun _=>.inl rfl
open Classical in
noncomputable def Hp.union (h k : Hp) : Hp:=fun b=>if h b = none then k b else h b
theorem Hp.le_union_left (h k : Hp) : Hp.le h (Hp.union h k):=fun b o e=>by simp [Hp.union,e]
theorem Hp.union_cases {h k : Hp} {b : Nat} {o : Obj} (e : Hp.union h k b = some o) : h b = some o ∨ (h b = none ∧ k b = some o):=by
 unfold Hp.union at e
 split at e
 ·exact .inr ⟨‹_›,e⟩
 ·exact .inl e
theorem Hp.le_union_right {h k : Hp} (d : Hp.disj h k) : Hp.le k (Hp.union h k):=fun b o e=>by
 unfold Hp.union
 rcases d b with h0 | h0
 ·rw [if_pos h0]; exact e
 ·rw [h0] at e; cases e
def Up (A : qax) : Prop:=∀ h k,Hp.le h k → A h → A k
def Emp : qax:=fun _=>True
def Pt (b : Nat) (o : Obj) : qax:=fun h=>h b = some o
theorem Pt.up (b : Nat) (o : Obj) : Up (Pt b o):=fun _ _ l e=>l _ _ e
structure Cx where
 w0 : World
 M : Nat → Prop
 r0 : Hp
structure St (c : Cx) (ρ : Hp) (L : List (Nat × qax)) (w : World) : Prop where
 ex : ∃ H : Nat → Hp,(∀ i A,look L i = some A → A (H i)) ∧ (∀ i j,i ≠ j → Hp.disj (H i) (H j)) ∧
  (∀ i,Hp.disj (H i) ρ) ∧ (∀ i b o,H i b = some o → w.heap[b]? = some o ∧ (c.M b ∨ c.w0.heap.size ≤ b))
 rho : ∀ b o,ρ b = some o → w.heap[b]? = some o
 rle : Hp.le c.r0 ρ
 rdom : ∀ b o,ρ b = some o → c.r0 b = some o ∨ c.M b ∨ c.w0.heap.size ≤ b
 size : c.w0.heap.size ≤ w.heap.size
 frame : ∀ b,b < c.w0.heap.size → ¬ c.M b → w.heap[b]? = c.w0.heap[b]?
 os : w.os = c.w0.os
 tape : w.tape = c.w0.tape
 output : w.output = c.w0.output
theorem qco {w : World} {b : Nat} {o : Obj} (h : w.heap[b]? = some o) : b < w.heap.size:=(Array.getElem?_eq_some_iff.1 h).1
theorem St.sub {cx : Cx} {ρ : Hp} {L L' : List (Nat × qax)} {w : World} (h : St cx ρ L w) (s : Subl L' L) : St cx ρ L' w :=
 { h with ex:=let ⟨H,a,b,c,d⟩:=h.ex; ⟨H,fun i A e=>a i A (s.look e),b,c,d⟩ }
theorem St.subF {cx : Cx} {ρ : Hp} {L L' : List (Nat × qax)} {w : World} (h : St cx ρ L w) (s : ∀ k A,look L' k = some A → look L k = some A) : St cx ρ L' w :=
 { h with ex:=let ⟨H,a,b,c,d⟩:=h.ex; ⟨H,fun i A e=>a i A (s i A e),b,c,d⟩ }
theorem St.drew {cx : Cx} {ρ : Hp} {L : List (Nat × qax)} {w : World} (h : St cx ρ L w) : St cx ρ L { w with drawn:=w.drawn + 1 } :=
 ⟨h.ex,h.rho,h.rle,h.rdom,h.size,h.frame,h.os,h.tape,h.output⟩
theorem St.refl (w : World) (M : Nat → Prop) (ρ : Hp) (hr : ∀ b o,ρ b = some o → w.heap[b]? = some o) : St ⟨w,M,ρ⟩ ρ [] w :=
 ⟨⟨fun _=>Hp.emp,fun _ _ e=>by simp [look] at e,fun _ _ _=>Hp.emp_disj _,fun _=>Hp.emp_disj _,fun _ _ _ e=>by cases e⟩,hr,Hp.le_refl _,fun _ _ e=>.inl e,Nat.le_refl _,fun _ _ _=>rfl,rfl,rfl,rfl⟩
theorem St.get {cx : Cx} {ρ : Hp} {L : List (Nat × qax)} {w : World} (h : St cx ρ L w) {i : Nat} {A : qax} (e : look L i = some A) :
  ∃ k : Hp,A k ∧ ∀ b o,k b = some o → w.heap[b]? = some o :=
 let ⟨H,a,_,_,d⟩:=h.ex; ⟨H i,a i A e,fun b o hb=>(d i b o hb).1⟩
theorem St.pt {cx : Cx} {ρ : Hp} {L : List (Nat × qax)} {w : World} (h : St cx ρ L w) {i b : Nat} {o : Obj} (e : look L i = some (Pt b o)) : w.heap[b]? = some o :=
 let ⟨_,a,d⟩:=h.get e; d _ _ a
theorem St.set {cx : Cx} {ρ : Hp} {L : List (Nat × qax)} {w w' : World} (h : St cx ρ L w) {i : Nat} {A A' : qax} (e : look L i = some A)
  (turn : ∀ k : Hp, A k → (∀ b o, k b = some o → w.heap[b]? = some o) → ∃ k' : Hp, A' k' ∧ (∀ b o, k' b = some o → w'.heap[b]? = some o ∧ k b ≠ none) ∧
   ∀ b, k b = none → w'.heap[b]? = w.heap[b]?)
  (hs : w'.heap.size = w.heap.size) (h1 : w'.os = w.os) (h2 : w'.tape = w.tape) (h3 : w'.output = w.output) : St cx ρ ((i,A') :: L) w':=by
 obtain ⟨H,a,b,c,d⟩:=h.ex
 obtain ⟨k',ha',hk',hf⟩:=turn (H i) (a i A e) (fun b o hb=>(d i b o hb).1)
 refine ⟨⟨fun j=>if j = i then k' else H j,?_,?_,?_,?_⟩,?_,h.rle,h.rdom,by rw [hs]; exact h.size,?_,h1.trans h.os,h2.trans h.tape,h3.trans h.output⟩
 ·intro j B hj
  rw [qag] at hj
  by_cases hji : j = i
  ·subst hji; simp at hj; subst hj; simpa using ha'
  ·rw [if_neg (Ne.symm hji)] at hj; simpa [hji] using a j B hj
 ·intro x y hxy p
  by_cases hx : x = i
  ·have hy : y ≠ i:=fun q=>hxy (hx.trans q.symm)
   simp only [hx,hy,if_true,if_false]
   cases hk : k' p with
   | none=>exact .inl rfl
   | some o =>
    have:=(hk' p o hk).2
    exact .inr ((b i y (Ne.symm hy) p).resolve_left this)
  ·by_cases hy : y = i
   ·simp only [hx,hy,if_true,if_false]
    cases hk : k' p with
    | none=>exact .inr rfl
    | some o =>
     have:=(hk' p o hk).2
     exact .inl ((b i x (Ne.symm hx) p).resolve_left this)
   ·simp only [hx,hy,if_false]; exact b x y hxy p
 ·intro x p
  by_cases hx : x = i
  ·simp only [hx,if_true]
   cases hk : k' p with
   | none=>exact .inl rfl
   | some o=>exact .inr ((c i p).resolve_left (hk' p o hk).2)
  ·simp only [hx,if_false]; exact c x p
 ·intro x p o hp
  by_cases hx : x = i
  ·simp only [hx,if_true] at hp
   refine ⟨(hk' p o hp).1,?_⟩
   cases hk : H i p with
   | none=>exact absurd hk (hk' p o hp).2
   | some o'=>exact (d i p o' hk).2
  ·simp only [hx,if_false] at hp
   have hd:=d x p o hp
   have : H i p = none:=by
    rcases b i x (Ne.symm hx) p with q | q
    ·exact q
    ·rw [hp] at q; cases q
   exact ⟨by rw [hf p this]; exact hd.1,hd.2⟩
 ·intro p o hp
  have : H i p = none:=by
   rcases c i p with q | q
   ·exact q
   ·rw [hp] at q; cases q
  rw [hf p this]; exact h.rho p o hp
 ·intro p hp hM
  have : H i p = none:=by
   cases hk : H i p with
   | none=>rfl
   | some o =>
    rcases (d i p o hk).2 with q | q
    ·exact absurd q hM
    ·omega
  rw [hf p this]; exact h.frame p hp hM
theorem St.alloc {cx : Cx} {ρ : Hp} {L : List (Nat × qax)} {w : World} (h : St cx ρ L w) (n : Nat) (o : Obj) : St cx ρ ((n,Pt w.heap.size o) :: L) { w with heap:=w.heap.push o }:=by
 obtain ⟨H,a,b,c,d⟩:=h.ex
 have hlt : ∀ i p o',H i p = some o' → p < w.heap.size:=fun i p o' hp=>qco (d i p o' hp).1
 have hget : ∀ p,p < w.heap.size → (w.heap.push o)[p]? = w.heap[p]?:=fun p hp=>by rw [Array.getElem?_push]; rw [if_neg (by omega)]
 have hnew : (w.heap.push o)[w.heap.size]? = some o:=by simp
 refine ⟨⟨fun j=>if j = n then (fun p=>if p = w.heap.size then some o else none) else H j,?_,?_,?_,?_⟩,?_,h.rle,h.rdom,by simp; have:=h.size; omega,?_,h.os,h.tape,h.output⟩
 ·intro j B hj
  rw [qag] at hj
  by_cases hji : j = n
  ·subst hji; simp at hj; subst hj; simp [Pt]
  ·rw [if_neg (Ne.symm hji)] at hj; simpa [hji] using a j B hj
 ·intro x y hxy p
  by_cases hx : x = n
  ·have hy : y ≠ n:=fun q=>hxy (hx.trans q.symm)
   simp only [hx,hy,if_true,if_false]
   by_cases hp : p = w.heap.size
   ·refine .inr ?_
    cases hk : H y p with
    | none=>rfl
    | some o'=>have:=hlt y p o' hk; omega
   ·exact .inl (by simp [hp])
  ·by_cases hy : y = n
   ·simp only [hx,hy,if_true,if_false]
    by_cases hp : p = w.heap.size
    ·refine .inl ?_
     cases hk : H x p with
     | none=>rfl
     | some o'=>have:=hlt x p o' hk; omega
    ·exact .inr (by simp [hp])
   ·simp only [hx,hy,if_false]; exact b x y hxy p
 ·intro x p
  by_cases hx : x = n
  ·simp only [hx,if_true]
   by_cases hp : p = w.heap.size
   ·refine .inr ?_
    cases hk : ρ p with
    | none=>rfl
    | some o'=>have:=qco (h.rho p o' hk); omega
   ·exact .inl (by simp [hp])
  ·simp only [hx,if_false]; exact c x p
 ·intro x p o' hp
  by_cases hx : x = n
  ·simp only [hx,if_true] at hp
   by_cases hq : p = w.heap.size
   ·simp only [hq,if_true] at hp; injection hp with hp; subst hp; subst hq; exact ⟨hnew,.inr h.size⟩
   ·simp [hq] at hp
  ·simp only [hx,if_false] at hp
   have hd:=d x p o' hp
   exact ⟨by show (w.heap.push o)[p]? = _; rw [hget p (hlt x p o' hp)]; exact hd.1,hd.2⟩
 ·intro p o' hp
  show (w.heap.push o)[p]? = _
  rw [hget p (qco (h.rho p o' hp))]; exact h.rho p o' hp
 ·intro p hp hM
  show (w.heap.push o)[p]? = _
  rw [hget p (by have:=h.size; omega)]; exact h.frame p hp hM
theorem St.imp {cx : Cx} {ρ : Hp} {L : List (Nat × qax)} {w : World} (h : St cx ρ L w) {i : Nat} {A A' : qax} (e : look L i = some A) (f : ∀ k,A k → A' k) : St cx ρ ((i,A') :: L) w :=
 h.set e (fun k a hk=>⟨k,f k a,fun b o hb=>⟨hk b o hb,by rw [hb]; simp⟩,fun _ _=>rfl⟩) rfl rfl rfl rfl
theorem St.freeze {cx : Cx} {ρ : Hp} {L : List (Nat × qax)} {w : World} (h : St cx ρ L w) {i : Nat} {A : qax} (e : look L i = some A) (up : Up A) :
  ∃ ρ',Hp.le ρ ρ' ∧ A ρ' ∧ St cx ρ' ((i,Emp) :: L) w:=by
 obtain ⟨H,a,b,c,d⟩:=h.ex
 refine ⟨Hp.union (H i) ρ,Hp.le_union_right (c i),up _ _ (Hp.le_union_left _ _) (a i A e),⟨⟨fun j=>if j = i then Hp.emp else H j,?_,?_,?_,?_⟩,?_,Hp.le_trans h.rle (Hp.le_union_right (c i)),?_,h.size,h.frame,h.os,h.tape,h.output⟩⟩
 ·intro j B hj
  rw [qag] at hj
  by_cases hji : j = i
  ·subst hji; simp at hj; subst hj; simp [Emp]
  ·rw [if_neg (Ne.symm hji)] at hj; simpa [hji] using a j B hj
 ·intro x y hxy
  by_cases hx : x = i
  ·simp only [hx,if_true]; exact Hp.emp_disj _
  ·by_cases hy : y = i
   ·simp only [hx,hy,if_true,if_false]; exact Hp.disj_emp _
   ·simp only [hx,hy,if_false]; exact b x y hxy
 ·intro x p
  by_cases hx : x = i
  ·simp only [hx,if_true]; exact .inl rfl
  ·simp only [hx,if_false]
   rcases b x i hx p with q | q
   ·exact .inl q
   ·rcases c x p with r | r
    ·exact .inl r
    ·exact .inr (by simp [Hp.union,q,r])
 ·intro x p o hp
  by_cases hx : x = i
  ·simp [hx,Hp.emp] at hp
  ·simp only [hx,if_false] at hp; exact d x p o hp
 ·intro p o hp
  rcases Hp.union_cases hp with q | q
  ·exact (d i p o q).1
  ·exact h.rho p o q.2
 ·intro p o hp
  rcases Hp.union_cases hp with q | q
  ·exact .inr (d i p o q).2
  ·exact h.rdom p o q.2
def Spec (P : Program) (f : FuncId) (args : Array Value) (R : Hp → Prop) (Lin : List (Nat × qax)) (Post : Hp → Hp → Value → List (Nat × qax) → Prop) : Prop :=
 ∀ w M ρ,R ρ → St ⟨w,M,ρ⟩ ρ Lin w → Calls P f args w fun e w'=>∃ v ρ' Lout,e = .returned v ∧ Post ρ ρ' v Lout ∧ St ⟨w,M,ρ⟩ ρ' Lout w'
def hand (L : List (Nat × qax)) : Nat → List Nat → List (Nat × qax)
 | _,[]=>[]
 | n,i :: is=>(n,(look L i).getD Emp) :: hand L (n + 1) is
theorem look_hand (L : List (Nat × qax)) : ∀ (idx : List Nat) (n j : Nat) (A : qax),look (hand L n idx) j = some A → ∃ k i,j = n + k ∧ idx[k]? = some i ∧ A = (look L i).getD Emp:=by
 intro idx
 induction idx with
 | nil=>intro n j A h; simp [hand,look] at h
 | cons i is ih =>
  intro n j A h
  rw [hand,qag] at h
  split at h
  ·rename_i hn; injection h with h; exact ⟨0,i,by omega,by simp,h.symm⟩
  ·obtain ⟨k,i',hj,hk,hA⟩:=ih _ _ _ h
   exact ⟨k + 1,i',by omega,by simpa using hk,hA⟩
def back (ms : List Nat) (Lout : List (Nat × qax)) : List (Nat × qax):=Lout.map fun p=>(ms.getD p.1 0,p.2)
def gone (idx : List Nat) : List (Nat × qax):=idx.map fun i=>(i,Emp)
theorem look_gone (idx : List Nat) (i : Nat) : look (gone idx) i = if i ∈ idx then some Emp else none:=by
 induction idx with
 | nil=>simp [gone,look]
 | cons j js ih =>
  rw [gone,List.map_cons,qag]
  rw [gone] at ih
  rw [ih]
  by_cases h : j = i
  ·subst h; simp
  ·have : ¬ i = j:=fun e=>h e.symm
   simp [h,this]
theorem look_back {ms : List Nat} (hnd : ms.Nodup) : ∀ (Lout : List (Nat × qax)) (_ : ∀ p ∈ Lout,p.1 < ms.length) (i : Nat) (A : qax),look (back ms Lout) i = some A → ∃ j,ms[j]? = some i ∧ look Lout j = some A:=by
 intro Lout
 induction Lout with
 | nil=>intro _ i A h; simp [back,look] at h
 | cons p l ih =>
  obtain ⟨k,B⟩:=p
  intro hlt i A h
  rw [back,List.map_cons,qag] at h
  have hk : k < ms.length:=hlt (k,B) (List.mem_cons_self ..)
  have hkm : ms[k]? = some (ms.getD k 0):=by simp [List.getElem?_eq_getElem hk,List.getD_eq_getElem?_getD]
  split at h
  ·rename_i hi
   injection h with h
   subst h
   exact ⟨k,by rw [hkm,← hi],by rw [qag]; simp⟩
  ·rename_i hi
   obtain ⟨j,hj,hl⟩:=ih (fun p hp=>hlt p (List.mem_cons_of_mem _ hp)) i A h
   refine ⟨j,hj,?_⟩
   rw [qag,if_neg]
   ·exact hl
   ·intro e
    subst e
    rw [hkm] at hj
    injection hj with hj
    exact hi hj
theorem qgp {ms : List Nat} (Lout : List (Nat × qax)) {i : Nat} (h : look (back ms Lout) i = none) : ∀ j A,ms[j]? = some i → look Lout j = some A → False:=by
 induction Lout with
 | nil=>intro j A _ e; simp [look] at e
 | cons p l ih =>
  obtain ⟨k,B⟩:=p
  intro j A hj e
  rw [back,List.map_cons,qag] at h
  split at h
  ·cases h
  ·rename_i hi
   rw [qag] at e
   split at e
   ·rename_i hkj
    subst hkj
    apply hi
    simp [List.getD_eq_getElem?_getD,hj]
   ·exact ih h j A hj e
theorem St.call {cx : Cx} {ρ : Hp} {L : List (Nat × qax)} {w : World} (h : St cx ρ L w) (idx ms : List Nat) (hnd : idx.Nodup) (hms : ms.Nodup) :
  ∃ M',St ⟨w,M',ρ⟩ ρ (hand L 0 idx) w ∧ ∀ w' ρ' Lout,(∀ p ∈ Lout,p.1 < ms.length) → St ⟨w,M',ρ⟩ ρ' Lout w' → St cx ρ' (back ms Lout ++ (gone idx ++ L)) w':=by
 obtain ⟨H,a,b,c,d⟩:=h.ex
 have hlt : ∀ i p o',H i p = some o' → p < w.heap.size:=fun i p o' hp=>qco (d i p o' hp).1
 refine ⟨fun p=>∃ i ∈ idx,H i p ≠ none,⟨⟨fun j=>match idx[j]? with | some i=>H i | none=>Hp.emp,?_,?_,?_,?_⟩,h.rho,Hp.le_refl _,fun _ _ e=>.inl e,Nat.le_refl _,fun _ _ _=>rfl,rfl,rfl,rfl⟩,?_⟩
 ·intro j A hj
  obtain ⟨k,i,hk,hi,hA⟩:=look_hand L idx 0 j A hj
  have : j = k:=by omega
  subst this
  simp only [hi]
  subst hA
  cases hl : look L i with
  | none=>simp [Emp]
  | some B=>simpa using a i B hl
 ·intro x y hxy
  show Hp.disj (match idx[x]? with | some i=>H i | none=>Hp.emp) (match idx[y]? with | some i=>H i | none=>Hp.emp)
  cases hx : idx[x]? with
  | none=>exact Hp.emp_disj _
  | some i =>
   cases hy : idx[y]? with
   | none=>exact Hp.disj_emp _
   | some j =>
    refine b i j fun e=>hxy ?_
    subst e
    exact nodup_inj hnd hx hy
 ·intro x
  show Hp.disj (match idx[x]? with | some i=>H i | none=>Hp.emp) ρ
  cases hx : idx[x]? with
  | none=>exact Hp.emp_disj _
  | some i=>exact c i
 ·intro x p o hp
  cases hx : idx[x]? with
  | none=>simp [hx,Hp.emp] at hp
  | some i =>
   simp only [hx] at hp
   exact ⟨(d i p o hp).1,.inl ⟨i,List.mem_of_getElem? hx,by rw [hp]; simp⟩⟩
 ·intro w' ρ' Lout hlen h'
  obtain ⟨H',a',b',c',d'⟩:=h'.ex
  have hout : ∀ i p o,i ∉ idx → H i p = some o → ¬ ∃ i ∈ idx,H i p ≠ none:=fun i p o hi hp=>by
   rintro ⟨j,hj,hjp⟩
   have : i ≠ j:=fun e=>hi (e ▸ hj)
   rcases b i j this p with q | q
   ·rw [hp] at q; cases q
   ·exact hjp q
  have hkeep : ∀ i p o,i ∉ idx → H i p = some o → w'.heap[p]? = some o:=fun i p o hi hp=>by
   rw [h'.frame p (hlt i p o hp) (hout i p o hi hp)]; exact (d i p o hp).1
  have hapart : ∀ j i,i ∉ idx → Hp.disj (H' j) (H i):=fun j i hi p=>by
   cases hj : H' j p with
   | none=>exact .inl rfl
   | some o =>
    refine .inr ?_
    cases hk : H i p with
    | none=>rfl
    | some o' =>
     rcases (d' j p o hj).2 with q | q
     ·exact absurd q (hout i p o' hi hk)
     ·have:=hlt i p o' hk
      have : w.heap.size ≤ p:=q
      omega
  have hread : ∀ i,i ∉ idx → Hp.disj (H i) ρ':=fun i hi p=>by
   cases hk : H i p with
   | none=>exact .inl rfl
   | some o =>
    refine .inr ?_
    cases hr : ρ' p with
    | none=>rfl
    | some o' =>
     rcases h'.rdom p o' hr with q | q | q
     ·rcases c i p with r | r
      ·rw [hk] at r; cases r
      ·have q : ρ p = some o':=q
       rw [r] at q; cases q
     ·exact absurd q (hout i p o hi hk)
     ·have:=hlt i p o hk
      have : w.heap.size ≤ p:=q
      omega
  have hin : ∀ j p o,H' j p = some o → cx.M p ∨ cx.w0.heap.size ≤ p:=fun j p o hp=>by
   rcases (d' j p o hp).2 with ⟨k,hk1,hk2⟩ | q
   ·cases hk : H k p with
    | none=>exact absurd hk hk2
    | some o'=>exact (d k p o' hk).2
   ·exact .inr (Nat.le_trans h.size q)
  classical
  let G : Nat → Hp:=fun i=>if hm : ∃ j,ms[j]? = some i ∧ look Lout j ≠ none then H' (Classical.choose hm) else if i ∈ idx then Hp.emp else H i
  have G1 : ∀ i,(∃ j,ms[j]? = some i ∧ look Lout j ≠ none ∧ G i = H' j) ∨ (G i = Hp.emp) ∨ (i ∉ idx ∧ G i = H i ∧ ¬ ∃ j,ms[j]? = some i ∧ look Lout j ≠ none):=fun i=>by
   by_cases hm : ∃ j,ms[j]? = some i ∧ look Lout j ≠ none
   ·exact .inl ⟨_,(Classical.choose_spec hm).1,(Classical.choose_spec hm).2,dif_pos hm⟩
   ·by_cases hi : i ∈ idx
    ·exact .inr (.inl (by simp only [G]; rw [dif_neg hm,if_pos hi]))
    ·exact .inr (.inr ⟨hi,by simp only [G]; rw [dif_neg hm,if_neg hi],hm⟩)
  have inj : ∀ {x y i : Nat},ms[x]? = some i → ms[y]? = some i → x = y:=fun {x y i} hx hy=>by
   exact nodup_inj hms hx hy
  refine ⟨⟨G,?_,?_,?_,?_⟩,h'.rho,Hp.le_trans h.rle h'.rle,?_,Nat.le_trans h.size h'.size,?_,h'.os.trans h.os,h'.tape.trans h.tape,h'.output.trans h.output⟩
  ·intro i A hA
   rw [look_append] at hA
   cases hb : look (back ms Lout) i with
   | some B =>
    rw [hb] at hA
    simp at hA
    subst hA
    obtain ⟨j,hj,hl⟩:=look_back hms Lout hlen i B hb
    rcases G1 i with ⟨k,hk,_,hG⟩ | hG | ⟨_,_,hn⟩
    ·rw [hG,inj hk hj]; exact a' j B hl
    ·have hm : ∃ j,ms[j]? = some i ∧ look Lout j ≠ none:=⟨j,hj,by rw [hl]; simp⟩
     have : G i = H' (Classical.choose hm):=dif_pos hm
     rw [this,inj (Classical.choose_spec hm).1 hj]; exact a' j B hl
    ·exact absurd ⟨j,hj,by rw [hl]; simp⟩ hn
   | none =>
    rw [hb,look_append,look_gone] at hA
    by_cases hi : i ∈ idx
    ·simp [hi] at hA; subst hA; trivial
    ·simp [hi] at hA
     rcases G1 i with ⟨k,hk,hl,_⟩ | hG | ⟨_,hG,_⟩
     ·cases hx : look Lout k with
      | none=>exact absurd hx hl
      | some B=>exact (qgp Lout hb k B hk hx).elim
     ·have hm : ¬ ∃ j,ms[j]? = some i ∧ look Lout j ≠ none:=by
       rintro ⟨k,hk,hl⟩
       cases hx : look Lout k with
       | none=>exact absurd hx hl
       | some B=>exact (qgp Lout hb k B hk hx).elim
      have : G i = H i:=by simp only [G]; rw [dif_neg hm,if_neg hi]
      rw [this]; exact a i A hA
     ·rw [hG]; exact a i A hA
  ·intro x y hxy
   rcases G1 x with ⟨j,hj,_,hG⟩ | hG | ⟨hx,hG,_⟩
   ·rcases G1 y with ⟨k,hk,_,hG'⟩ | hG' | ⟨hy,hG',_⟩
    ·rw [hG,hG']
     refine b' j k fun e=>hxy ?_
     subst e
     rw [hj] at hk
     injection hk
    ·rw [hG']; exact Hp.disj_emp _
    ·rw [hG,hG']; exact hapart j y hy
   ·rw [hG]; exact Hp.emp_disj _
   ·rcases G1 y with ⟨k,hk,_,hG'⟩ | hG' | ⟨hy,hG',_⟩
    ·rw [hG,hG']; exact Hp.disj_symm (hapart k x hx)
    ·rw [hG']; exact Hp.disj_emp _
    ·rw [hG,hG']; exact b x y hxy
  ·intro x
   rcases G1 x with ⟨j,_,_,hG⟩ | hG | ⟨hx,hG,_⟩
   ·rw [hG]; exact c' j
   ·rw [hG]; exact Hp.emp_disj _
   ·rw [hG]; exact hread x hx
  ·intro x p o hp
   rcases G1 x with ⟨j,_,_,hG⟩ | hG | ⟨hx,hG,_⟩
   ·rw [hG] at hp; exact ⟨(d' j p o hp).1,hin j p o hp⟩
   ·rw [hG] at hp; cases hp
   ·rw [hG] at hp; exact ⟨hkeep x p o hx hp,(d x p o hp).2⟩
  ·intro p o hp
   rcases h'.rdom p o hp with q | ⟨k,hk1,hk2⟩ | q
   ·exact h.rdom p o q
   ·cases hk : H k p with
    | none=>exact absurd hk hk2
    | some o'=>exact .inr (d k p o' hk).2
   ·exact .inr (.inr (Nat.le_trans h.size q))
  ·intro p hp hM
   have hp' : p < w.heap.size:=Nat.lt_of_lt_of_le hp h.size
   rw [h'.frame p hp' ?_]
   ·exact h.frame p hp hM
   ·rintro ⟨k,hk1,hk2⟩
    cases hk : H k p with
    | none=>exact absurd hk hk2
    | some o' =>
     rcases (d k p o' hk).2 with q | q
     ·exact absurd q hM
     ·omega
end Go.Proofs.YtnfkalpgidiafaaGreat
set_option linter.unusedVariables false
set_option linter.unusedSimpArgs false
namespace Go.Proofs.YtnfkalpgidiafaaGreat
open Go
abbrev Env:=List (Nat × Value)
abbrev Own:=List (Nat × qax)
def evE (E : Env) : Operand → Option Value
 | .tmp t=>look E t
 | .const v=>some v
 | .global g=>some (.pointer (some ⟨g,0,none⟩))
 | .func f=>some (.func (.func f) #[] #[])
structure At (n : Nat) (E : Env) (a : Act) : Prop where
 defers : a.defers = []
 size : a.tmps.size = n
 slot : ∀ t v,look E t = some v → a.tmps[t]? = some v
theorem At.ev {n : Nat} {E : Env} {a : Act} (h : At n E a) {x : Operand} {v : Value} (e : evE E x = some v) : a.eval x = v:=by
 cases x with
 | tmp t =>
  simp only [evE] at e
  have:=h.slot t v e
  simp [Act.eval,this]
 | const u=>simp only [evE] at e; injection e
 | global g=>simp only [evE] at e; injection e
 | func f=>simp only [evE] at e; injection e
theorem At.sub {n : Nat} {E E' : Env} {a : Act} (h : At n E a) (s : Subl E' E) : At n E' a:=⟨h.defers,h.size,fun t v e=>h.slot t v (s.look e)⟩
def putE (E : Env) : Option Tmp → Value → Env
 | some d,v=>(d,v) :: E
 | none,_=>E
def dstOk (n : Nat) : Option Tmp → Bool
 | some d=>Nat.blt d n
 | none=>true
theorem At.put {n : Nat} {E : Env} {a : Act} (h : At n E a) {dst : Option Tmp} (hd : dstOk n dst = true) (v : Value) : At n (putE E dst v) (a.put dst v):=by
 cases dst with
 | none=>exact h
 | some d =>
  have hdn : d < n:=by simpa [dstOk,Nat.blt_eq] using hd
  refine ⟨h.defers,by simp [Act.put,h.size],fun t u e=>?_⟩
  simp only [putE] at e
  rw [qag] at e
  simp only [Act.put]
  by_cases ht : d = t
  ·subst ht
   simp at e
   subst e
   rw [Array.getElem?_setIfInBounds]
   simp [h.size,hdn]
  ·rw [if_neg ht] at e
   rw [Array.getElem?_setIfInBounds_ne ht]
   exact h.slot t u e
def qgl (n : Nat) (ops : Array Oper) (E : Env) (o : Oper) (b : Bool) : Prop:=∀ a,At n E a → Region.wanted o (yielded ops a.tmps) = b
theorem qaa {n : Nat} {ops : Array Oper} {E : Env} {o : Oper} (h : o.guard = none) : qgl n ops E o true:=fun _ _=>by simp [Region.wanted,h]
theorem qab {n : Nat} {ops : Array Oper} {E : Env} {o : Oper} {j t : Nat} {b c d : Bool} (h : o.guard = some (j,b)) (hj : (ops[j]?).bind (·.dst) = some t) (ht : look E t = some (.bool c)) (hd : (c == b) = d) : qgl n ops E o d:=fun a ha=>by
 have:=ha.slot t _ ht
 subst hd
 cases b <;> cases c <;> simp [Region.wanted,h,yielded,hj,this]
theorem qdn {n : Nat} {ops : Array Oper} {E : Env} {o : Oper} {j t : Nat} {b : Bool} (h : o.guard = some (j,b)) (hj : (ops[j]?).bind (·.dst) = some t) (ht : look E t = some undef) : qgl n ops E o false:=fun a ha=>by
 have:=ha.slot t _ ht
 cases b <;> simp [Region.wanted,h,yielded,hj,this,undef]
def nth {α : Type} : List α → Nat → Option α
 | [],_=>none
 | x :: _,0=>some x
 | _ :: xs,k + 1=>nth xs k
theorem nth_eq {α : Type} : ∀ (l : List α) (k : Nat),nth l k = l[k]?:=by
 intro l
 induction l with
 | nil=>intro k; simp [nth]
 | cons x xs ih=>intro k; cases k <;> simp [nth,ih]
theorem qbj {α : Type} {a : Array α} {k : Nat} {x : α} (h : nth a.toList k = some x) : a[k]? = some x:=by
 rw [nth_eq] at h; simpa using h
theorem At.put' {n : Nat} {E : Env} {a : Act} (h : At n E a) {dst : Option Tmp} {d : Nat} (e : dst = some d) (hd : Nat.blt d n = true) (v : Value) : At n ((d,v) :: E) (a.put dst v):=by
 subst e; exact h.put (dst:=some d) hd v
def Qn (N : Act → World → Prop) : Exit → Act → World → Prop
 | .normal,a,w=>N a w
 | _,_,_=>False
def qfn (P : Program) (ops : Array Oper) (N : Act → World → Prop) : (World → Prop) → List (Nat × Bool) → Act → World → Prop
 | _,[],a,w=>N a w
 | S,(i,true) :: π,a,w=>∃ S' : World → Prop,(∀ w,S' w → S w) ∧ (S w → S' w) ∧ ∃ o v,ops[i]? = some o ∧ YieldsIf P ops S' o v a ∧ qfn P ops N S' π (a.put o.dst v) w
 | S,(i,false) :: π,a,w=>wpOp P ops (Qn N) i (fun a' w'=>(π = [] ∨ S w') ∧ qfn P ops N S π a' w') a w
def wpL (P : Program) (ops : Array Oper) (Q : Exit → Act → World → Prop) (S : World → Prop) (x : Nat) : Nat → Array Bool → Act → World → Prop
 | 0,listed,a,w=>Region.ready .any ops listed = [] ∧ Q .normal a w
 | fuel + 1,listed,a,w=>(Region.ready .any ops listed = [] → Q .normal a w) ∧
  ∀ i ∈ Region.ready .any ops listed,wpOp P ops Q i (fun a' w'=>(i = x ∨ S w') ∧ wpL P ops Q S x fuel (listed.setIfInBounds i true) a' w') a w
theorem wpL_any {P : Program} {ops : Array Oper} {Q : Exit → Act → World → Prop} {S : World → Prop} {x : Nat} : ∀ (fuel : Nat) (listed : Array Bool) (a : Act) (w : World),wpL P ops Q S x fuel listed a w → wpAny P .any ops Q fuel listed a w
 | 0,_,_,_,h=>h
 | fuel + 1,_,_,_,h=>And.intro h.1 fun i hi=>wpOp_mono (fun a' w' h'=>wpL_any fuel _ a' w' h'.2) (h.2 i hi)
theorem wpL_mono {P : Program} {ops : Array Oper} {Q : Exit → Act → World → Prop} {S S' : World → Prop} {x : Nat} (hm : ∀ w,S' w → S w) : ∀ (fuel : Nat) (listed : Array Bool) (a : Act) (w : World),wpL P ops Q S' x fuel listed a w → wpL P ops Q S x fuel listed a w
 | 0,_,_,_,h=>h
 | fuel + 1,_,_,_,h=>And.intro h.1 fun i hi=>wpOp_mono (fun a' w' h'=>⟨h'.1.imp id (hm _),wpL_mono hm fuel _ a' w' h'.2⟩) (h.2 i hi)
def cov (ops : Array Oper) : Nat → Nat → Nat → Bool
 | 0,_,_=>false
 | f + 1,x,i=>match ops[x]? with
  | some o=>o.after.any fun e=>Region.binds .any e && (e.on == i || cov ops f e.on i)
  | none=>false
def qdu (ops : Array Oper) (x : Nat) : Bool:=decide (ops.size ≤ x) || (List.range ops.size).all fun i=>i == x || cov ops 10 x i
def Closed (ops : Array Oper) (listed : Array Bool) : Prop:=∀ j o,ops[j]? = some o → listed.getD j false = true → ∀ e ∈ o.after,Region.binds .any e = true → listed.getD e.on false = true
theorem closed_cov {ops : Array Oper} {listed : Array Bool} (hc : Closed ops listed) : ∀ (f x i : Nat) (o : Oper),ops[x]? = some o → (∀ e ∈ o.after,Region.binds .any e = true → listed.getD e.on false = true) → cov ops f x i = true → listed.getD i false = true:=by
 intro f
 induction f with
 | zero=>intro x i o ho hp h; simp [cov] at h
 | succ f ih =>
  intro x i o ho hp h
  simp only [cov,ho] at h
  obtain ⟨e,he,hb⟩:=Array.any_eq_true'.1 h
  simp only [Bool.and_eq_true,Bool.or_eq_true,beq_iff_eq] at hb
  have h1:=hp e he hb.1
  rcases hb.2 with q | q
  ·rw [← q]; exact h1
  ·cases hoe : ops[e.on]? with
   | none=>cases f <;> simp [cov,hoe] at q
   | some o'=>exact ih e.on i o' hoe (hc e.on o' hoe h1) q
theorem Closed.set {ops : Array Oper} {listed : Array Bool} (hc : Closed ops listed) {i : Nat} (hi : i ∈ Region.ready .any ops listed) : Closed ops (listed.setIfInBounds i true):=by
 obtain ⟨_,o,ho,hall⟩:=mem_ready.1 hi
 intro j o' ho' hl e he hb
 rcases Decidable.em (i = j) with rfl | hij
 ·rw [ho] at ho'; injection ho' with ho'; subst ho'; exact getD_set_true (hall e he hb)
 ·rw [getD_set_ne false hij] at hl
  exact getD_set_true (hc j o' ho' hl e he hb)
theorem wpL_first {P : Program} {ops : Array Oper} {Q : Exit → Act → World → Prop} {S : World → Prop} {i x : Nat} {oi : Oper} {v : Value} (hi : ops[i]? = some oi) (hsel : Region.noSelect ops = true) (hx : qdu ops x = true) (hQ : ∀ c a w,Q (.panic c) (a.put oi.dst v) w → Q (.panic c) a w) :
  ∀ (fuel : Nat) (listed : Array Bool) (a : Act) (w : World),Closed ops listed →
   (∀ j oj,ops[j]? = some oj → j ≠ i → listed.getD j true = false → (∀ e ∈ oj.after,Region.binds .any e = true → e.on ≠ i) → oi.apart ops oj = true) →
   i ∈ Region.ready .any ops listed → YieldsIf P ops S oi v a → S w → wpL P ops Q S x fuel (listed.setIfInBounds i true) (a.put oi.dst v) w → wpL P ops Q S x (fuel + 1) listed a w:=by
 have sel:=Region.noSelect_spec hsel
 have hib : i < ops.size:=(Array.getElem?_eq_some_iff.1 hi).1
 intro fuel
 induction fuel with
 | zero =>
  intro listed a w _ _ hr hy hS H
  refine ⟨fun h=>?_,fun j hj=>?_⟩
  ·rw [h] at hr; cases hr
  rcases Decidable.em (j = i) with rfl | hji
  ·exact hy.wpOp hi hS ⟨.inr hS,H⟩
  ·have:=ready_mono hj hji
   rw [H.1] at this; cases this
 | succ fuel ih =>
  intro listed a w hc hfree hr hy hS H
  refine ⟨fun h=>?_,fun j hj=>?_⟩
  ·rw [h] at hr; cases hr
  rcases Decidable.em (j = i) with rfl | hji
  ·exact hy.wpOp hi hS ⟨.inr hS,H⟩
  ·have h1:=H.2 j (ready_mono hj hji)
   obtain ⟨hjun,oj,hoj,hall⟩:=mem_ready.1 hj
   have hi0:=(mem_ready.1 hr).1
   have hilt : i < listed.size:=by
    rcases Nat.lt_or_ge i listed.size with q | q
    ·exact q
    ·simp [Array.getElem?_eq_none q] at hi0
   have hnot : ∀ e ∈ oj.after,Region.binds .any e = true → e.on ≠ i:=fun e he hb heq=>by
    have h2:=hall e he hb
    rw [heq] at h2
    simp [hilt] at h2 hi0
    rw [hi0] at h2; cases h2
   have hjx : j ≠ x:=by
    intro e
    subst e
    have hjb : j < ops.size:=(Array.getElem?_eq_some_iff.1 hoj).1
    simp only [qdu,List.all_eq_true,List.mem_range,Bool.or_eq_true,beq_iff_eq,decide_eq_true_eq] at hx
    rcases hx with q | q
    ·omega
    ·rcases q i hib with q | q
     ·exact hji q.symm
     ·have h2:=closed_cov hc 10 j i oj hoj hall q
      simp [hilt] at h2 hi0
      rw [hi0] at h2; cases h2
   have h2:=wpOp_putIf hoj (hfree j oj hoj hji hjun hnot) (fun cs b=>sel i oi cs b hi) (fun cs b=>sel j oj cs b hoj) hQ hy h1
   refine wpOp_mono (fun a' w' h3=>?_) h2
   obtain ⟨h4,h5,h6⟩:=h3
   have h5:=h5.resolve_left hjx
   refine ⟨.inr h5,ih _ a' w' (hc.set hj) (fun k ok hk hki hun hno=>hfree k ok hk hki ?_ hno) (ready_mono hr (Ne.symm hji)) h4 h5 ?_⟩
   ·rcases Decidable.em (j = k) with rfl | hjk
    ·exact hjun
    ·rw [getD_set_ne true hjk] at hun; exact hun
   ·rw [Array.setIfInBounds_comm _ _ hji]; exact h6
def qhq (ops : Array Oper) : List (Nat × Bool) → Bool
 | []=>true
 | [(x,b)]=>b || qdu ops x
 | _ :: π=>qhq ops π
def okPi (ops : Array Oper) : List (Nat × Bool) → Array Bool → Bool
 | [],listed=>(Region.ready .any ops listed).isEmpty
 | (i,true) :: π,listed=>Region.free .any ops listed i && (Region.ready .any ops listed).contains i && okPi ops π (listed.setIfInBounds i true)
 | (i,false) :: π,listed=>(Region.ready .any ops listed == [i]) && okPi ops π (listed.setIfInBounds i true)
def okRegion (ops : Array Oper) (π : List (Nat × Bool)) : Bool:=Region.noSelect ops && (π.length == ops.size) && qhq ops π && okPi ops π (Array.replicate ops.size false)
section
variable {P : Program} {ops : Array Oper} {N : Act → World → Prop}
theorem lastLoud_ex : ∀ (π : List (Nat × Bool)),qhq ops π = true → ∃ x,qdu ops x = true ∧ ∀ i,π.getLast? = some (i,false) → i = x:=by
 intro π
 induction π with
 | nil=>intro _; exact ⟨ops.size,by simp [qdu],fun i h=>by simp at h⟩
 | cons p π ih =>
  intro h
  cases π with
  | nil =>
   obtain ⟨x,b⟩:=p
   cases b with
   | true=>exact ⟨ops.size,by simp [qdu],fun i h=>by simp at h⟩
   | false=>simp only [qhq,Bool.false_or] at h; exact ⟨x,h,fun i h=>by simp at h; exact h.symm⟩
  | cons q π =>
   obtain ⟨x,h1,h2⟩:=ih h
   exact ⟨x,h1,fun i hi=>h2 i (by simpa using hi)⟩
theorem pi_sound (hs : Region.noSelect ops = true) {x : Nat} (hx : qdu ops x = true) : ∀ (π : List (Nat × Bool)) (S : World → Prop) (listed : Array Bool) (a : Act) (w : World),(∀ i,π.getLast? = some (i,false) → i = x) → Closed ops listed →
  okPi ops π listed = true → (π = [] ∨ S w) → qfn P ops N S π a w → wpL P ops (Qn N) S x π.length listed a w:=by
 intro π
 induction π with
 | nil =>
  intro S listed a w _ _ h _ hw
  exact ⟨by simpa [okPi] using h,hw⟩
 | cons p π ih =>
  obtain ⟨i,b⟩:=p
  intro S listed a w hl hc h hS hw
  have hSw : S w:=by
   rcases hS with q | q
   ·cases q
   ·exact q
  have hl' : ∀ i, π.getLast? = some (i, false) → i = x := fun k hk => hl k (by
   cases π with
   | nil=>simp at hk
   | cons q π => simpa using hk)
  cases b with
  | true =>
   simp only [okPi,Bool.and_eq_true] at h
   obtain ⟨S',hm,hSw',o,v,ho,hy,hk⟩:=hw
   have hSw':=hSw' hSw
   have hmem : i ∈ Region.ready .any ops listed:=by simpa using h.1.2
   exact wpL_mono hm _ _ _ _ (wpL_first ho hs hx (fun c a w hc=>hc.elim) _ _ _ _ hc (Region.free_spec ho h.1.1) hmem hy hSw' (ih S' _ _ _ hl' (hc.set hmem) h.2 (.inr hSw') hk))
  | false =>
   simp only [okPi,Bool.and_eq_true,beq_iff_eq] at h
   refine ⟨fun h0=>?_,fun j hj=>?_⟩
   ·rw [h.1] at h0; cases h0
   have hc':=hc.set hj
   rw [h.1] at hj
   simp at hj
   subst hj
   refine wpOp_mono (fun a' w' h'=>⟨?_,ih S _ _ _ hl' hc' h.2 h'.1 h'.2⟩) hw
   rcases h'.1 with q | q
   ·subst q; exact .inl (hl j (by simp))
   ·exact .inr q
theorem qn_mono {Q : Exit → Act → World → Prop} (hN : ∀ a w,N a w → Q .normal a w) : ∀ e a w,Qn N e a w → Q e a w:=fun e a w h=>by
 cases e <;> first | exact hN a w h | exact h.elim
theorem wpOps_of_pi : ∀ (π : List (Nat × Bool)) (a : Act) (w : World),(∀ p ∈ π,p.2 = false) → qfn P ops N (fun _=>True) π a w → wpOps P ops (Qn N) (π.map (·.1)) a w:=by
 intro π
 induction π with
 | nil=>intro a w _ h; exact h
 | cons p π ih =>
  obtain ⟨i,b⟩:=p
  intro a w hf h
  have : b = false:=hf (i,b) (List.mem_cons_self ..)
  subst this
  rw [List.map_cons,wpOps_cons]
  exact wpOp_mono (fun a' w' h'=>ih _ _ (fun p hp=>hf p (List.mem_cons_of_mem _ hp)) h'.2) h
end
theorem wp_loop_by {P : Program} {Q : Exit → Act → World → Prop} {c : Code} (I : Nat → Act → World → Prop) (m : Nat) {a : Act} {w : World} (h₀ : I m a w)
  (round : ∀ m a w,I m a w → c.wp P (Exit.then (fun a' w'=>∃ m',m' < m ∧ I m' a' w') Q) a w) : (Code.loop c).wp P Q a w:=by
 intro b k cs
 have key : ∀ m a w,I m a w → ∃ e a' w',Q e a' w' ∧ Arrives P (lone (b.at a (.code c :: .inLoop c :: k)) cs w) b k cs e a' w':=by
  intro m
  induction m using Nat.strongRecOn with
  | _ m ih =>
   intro a w hI
   obtain ⟨e,a₁,w₁,hq,harr⟩:=round m a w hI b (.inLoop c :: k) cs
   cases e with
   | normal =>
    obtain ⟨m',hlt,hI₁⟩:=hq
    obtain ⟨e₂,a₂,w₂,hq₂,harr₂⟩:=ih m' hlt a₁ w₁ hI₁
    exact ⟨e₂,a₂,w₂,hq₂,.of_steps (Steps.trans harr (.one step_inLoop)) harr₂⟩
   | exit id=>exact ⟨_,a₁,w₁,hq,.pass (x:=.inLoop c) rfl (fun _ _=>.inl (by simp)) harr⟩
   | goto l=>exact ⟨_,a₁,w₁,hq,.pass (x:=.inLoop c) rfl (fun _ _=>.inl (by simp)) harr⟩
   | ret=>exact ⟨_,a₁,w₁,hq,.pass (x:=.inLoop c) rfl (fun _ _=>.inl (by simp)) harr⟩
   | panic ch=>exact ⟨_,a₁,w₁,hq,.pass (x:=.inLoop c) rfl (fun _ _=>.inl (by simp)) harr⟩
   | outgrown=>exact ⟨_,a₁,w₁,hq,.pass (x:=.inLoop c) rfl (fun _ _=>.inl (by simp)) harr⟩
 obtain ⟨e,a',w',hq,harr⟩:=key m a w h₀
 exact ⟨e,a',w',hq,.of_steps (.one step_loop) harr⟩
def Cd (P : Program) (Q : Exit → Act → World → Prop) (n : Nat) (cx : Cx) (ρ : Hp) (E : Env) (L : Own) (c : Code) : Prop :=
 ∀ a w,At n E a → St cx ρ L w → c.wp P Q a w
def Jp (P : Program) (ops : Array Oper) (Q : Exit → Act → World → Prop) (S : World → Prop) (n : Nat) (cx : Cx) (π : List (Nat × Bool)) (ρ : Hp) (E : Env) (L : Own) : Prop :=
 ∀ a w,At n E a → St cx ρ L w → qfn P ops (Q .normal) S π a w
def Y (P : Program) (n : Nat) (cx : Cx) (ρ : Hp) (E : Env) (L : Own) (o : Oper) (v : Value) : Prop :=
 ∀ a w,At n E a → St cx ρ L w → (execOp a.eval o).run P w = .ok (.value v) w
def X (P : Program) (n : Nat) (cx : Cx) (ρ : Hp) (E : Env) (L : Own) (o : Oper) (post : Value → Hp → Own → Prop) : Prop :=
 ∀ a w (K : Act → World → Prop) (Q : Exit → Act → World → Prop),At n E a → St cx ρ L w →
  (∀ v ρ' L' w',post v ρ' L' → St cx ρ' L' w' → K (a.put o.dst v) w') → o.wp P a w K Q
def Kp (π : List (Nat × Bool)) (S : World → Prop) (cx : Cx) (ρ : Hp) (L : Own) : Prop:=π = [] ∨ ∀ w,St cx ρ L w → S w
section
variable {P : Program} {Q : Exit → Act → World → Prop} {n : Nat} {cx : Cx} {ρ ρs : Hp} {E E' : Env} {L L' Ls : Own} {ops : Array Oper} {S : World → Prop} {π : List (Nat × Bool)} {i : Nat} {o : Oper} {v : Value}
theorem Kp.true : Kp π (fun _=>True) cx ρ L:=.inr fun _ _=>trivial
theorem Kp.last : Kp [] S cx ρ L:=.inl rfl
theorem Kp.get (h : Kp π S cx ρ L) {w : World} (hs : St cx ρ L w) : π = [] ∨ S w:=h.imp id fun f=>f w hs
theorem St.down {w : World} (h : St cx ρ L w) (hle : Hp.le ρs ρ) (h0 : Hp.le cx.r0 ρs) : St cx ρs L w :=
 let ⟨H,a,b,c,d⟩:=h.ex
 { h with
  ex:=by
   refine ⟨H,a,b,fun i p=>?_,d⟩
   rcases c i p with q | q
   ·exact .inl q
   ·refine .inr ?_
    cases hr : ρs p with
    | none=>rfl
    | some o=>rw [hle p o hr] at q; cases q
  rho:=fun b o e=>h.rho b o (hle b o e)
  rle:=h0
  rdom := fun b o e => h.rdom b o (hle b o e) }
theorem Kp.st (hs : Subl Ls L) : Kp π (fun w=>St cx ρ Ls w) cx ρ L:=.inr fun _ h=>h.sub hs
theorem Kp.st' (hs : Subl Ls L) (hle : Hp.le ρs ρ) (h0 : Hp.le cx.r0 ρs) : Kp π (fun w=>St cx ρs Ls w) cx ρ L:=.inr fun _ h=>(h.down hle h0).sub hs
theorem Jp.nil (h : ∀ a w,At n E a → St cx ρ L w → Q .normal a w) : Jp P ops Q S n cx [] ρ E L:=h
theorem Jp.qae {K : Act → World → Prop} {Q' Q'' : Exit → Act → World → Prop} {y : Code} (hK : ∀ a w,y.wp P Q'' a w → K a w) (h : Cd P Q'' n cx ρ E L y) : Jp P ops (Exit.then K Q') S n cx [] ρ E L :=
 fun a w ha hw=>hK a w (h a w ha hw)
theorem Jp.q (d : Nat) (hi : nth ops.toList i = some o) (hw : qgl n ops E o true) (he : o.dst = some d) (hd : Nat.blt d n = true) (hy : Y P n cx ρs E Ls o v)
  (h : Jp P ops Q (fun w=>St cx ρs Ls w) n cx π ρ ((d,v) :: E) L) : Jp P ops Q (fun w=>St cx ρs Ls w) n cx ((i,true) :: π) ρ E L :=
 fun a w ha hs=>⟨_,fun _ h=>h,id,o,v,qbj hi,.inl ⟨hw a ha,fun w' h'=>hy a w' ha h'⟩,h _ _ (ha.put' he hd v) hs⟩
theorem Jp.qskip (d : Nat) (hi : nth ops.toList i = some o) (hw : qgl n ops E o false) (he : o.dst = some d) (hd : Nat.blt d n = true)
  (h : Jp P ops Q S n cx π ρ ((d,undef) :: E) L) : Jp P ops Q S n cx ((i,true) :: π) ρ E L :=
 fun a w ha hs=>⟨_,fun _ h=>h,id,o,undef,qbj hi,.inr ⟨hw a ha,rfl⟩,h _ _ (ha.put' he hd _) hs⟩
theorem Jp.y (d : Nat) (hi : nth ops.toList i = some o) (hw : qgl n ops E o true) (he : o.dst = some d) (hd : Nat.blt d n = true) (hk : Kp π S cx ρ L) (hy : Y P n cx ρ E L o v)
  (h : Jp P ops Q S n cx π ρ ((d,v) :: E) L) : Jp P ops Q S n cx ((i,false) :: π) ρ E L:=by
 intro a w ha hs
 simp only [qfn,wpOp,qbj hi,hw a ha,if_true,Oper.wp,hy a w ha hs,Oper.upon]
 exact .inl ⟨hk.get hs,h _ _ (ha.put' he hd v) hs⟩
theorem Jp.qaq (d : Nat) (hi : nth ops.toList i = some o) (hw : qgl n ops E o false) (he : o.dst = some d) (hd : Nat.blt d n = true) (hk : Kp π S cx ρ L)
  (h : Jp P ops Q S n cx π ρ ((d,undef) :: E) L) : Jp P ops Q S n cx ((i,false) :: π) ρ E L:=by
 intro a w ha hs
 simp only [qfn,wpOp,qbj hi,hw a ha]
 exact ⟨hk.get hs,h _ _ (ha.put' he hd _) hs⟩
theorem Jp.x {post : Value → Hp → Own → Prop} (d : Nat) (hi : nth ops.toList i = some o) (hw : qgl n ops E o true) (he : o.dst = some d) (hd : Nat.blt d n = true) (hx : X P n cx ρ E L o post)
  (h : ∀ v ρ' L',post v ρ' L' → Kp π S cx ρ' L' ∧ Jp P ops Q S n cx π ρ' ((d,v) :: E) L') : Jp P ops Q S n cx ((i,false) :: π) ρ E L:=by
 intro a w ha hs
 simp only [qfn,wpOp,qbj hi,hw a ha,if_true]
 refine .inl (hx a w _ _ ha hs fun v ρ' L' w' hp hs'=>?_)
 obtain ⟨h1,h2⟩:=h v ρ' L' hp
 exact ⟨h1.get hs',h2 _ _ (ha.put' he hd v) hs'⟩
theorem Jp.x0 {post : Value → Hp → Own → Prop} (hi : nth ops.toList i = some o) (hw : qgl n ops E o true) (he : o.dst = none) (hx : X P n cx ρ E L o post)
  (h : ∀ v ρ' L',post v ρ' L' → Kp π S cx ρ' L' ∧ Jp P ops Q S n cx π ρ' E L') : Jp P ops Q S n cx ((i,false) :: π) ρ E L:=by
 intro a w ha hs
 simp only [qfn,wpOp,qbj hi,hw a ha,if_true]
 refine .inl (hx a w _ _ ha hs fun v ρ' L' w' hp hs'=>?_)
 obtain ⟨h1,h2⟩:=h v ρ' L' hp
 rw [he]
 exact ⟨h1.get hs',h2 _ _ ha hs'⟩
theorem Jp.trim (hE : Subl E' E) (hL : Subl L' L) (h : Jp P ops Q S n cx π ρ E' L') : Jp P ops Q S n cx π ρ E L:=fun a w ha hs=>h a w (ha.sub hE) (hs.sub hL)
theorem Cd.trim {c : Code} (hE : Subl E' E) (hL : Subl L' L) (h : Cd P Q n cx ρ E' L' c) : Cd P Q n cx ρ E L c:=fun a w ha hs=>h a w (ha.sub hE) (hs.sub hL)
theorem Cd.imp {c : Code} {A A' : qax} (e : look L i = some A) (f : ∀ k,A k → A' k) (h : Cd P Q n cx ρ E ((i,A') :: L) c) : Cd P Q n cx ρ E L c:=fun a w ha hs=>h a w ha (hs.imp e f)
theorem Cd.freeze {c : Code} {A : qax} (e : look L i = some A) (up : Up A) (h : ∀ ρ',Hp.le ρ ρ' → A ρ' → Cd P Q n cx ρ' E ((i,Emp) :: L) c) : Cd P Q n cx ρ E L c:=fun a w ha hs =>
 let ⟨ρ',h1,h2,h3⟩:=hs.freeze e up; h ρ' h1 h2 a w ha h3
theorem Jp.freeze {A : qax} (e : look L i = some A) (up : Up A) (h : ∀ ρ',Hp.le ρ ρ' → A ρ' → Jp P ops Q S n cx π ρ' E ((i,Emp) :: L)) : Jp P ops Q S n cx π ρ E L:=fun a w ha hs =>
 let ⟨ρ',h1,h2,h3⟩:=hs.freeze e up; h ρ' h1 h2 a w ha h3
theorem Cd.qac {id : Nat} {l : List Oper} (π : List (Nat × Bool)) (hπ : π.map (·.1) = List.range l.length) (hf : π.all (fun p=>!p.2) = true)
  (h : Jp P l.toArray Q (fun _=>True) n cx π ρ E L) : Cd P Q n cx ρ E L (.region id l.toArray false):=fun a w ha hs=>by
 refine wp_mono (wp_region (Q:=Qn (Q .normal)) ?_) (qn_mono fun _ _ h=>h)
 have:=wpOps_of_pi (ops:=l.toArray) π a w (fun p hp=>by have:=List.all_eq_true.1 hf p hp; simpa using this) (h a w ha hs)
 rw [hπ] at this
 simpa using this
theorem Cd.drawn {id : Nat} {ops : Array Oper} (Ls : Own) (hL : Subl Ls L) (π : List (Nat × Bool)) (hm : P.follows .mixedOrders = true) (hok : okRegion ops π = true)
  (h : Hp.le cx.r0 ρ → Jp P ops Q (fun w=>St cx ρ Ls w) n cx π ρ E L) : Cd P Q n cx ρ E L (.region id ops true):=fun a w ha hs=>by
 simp only [okRegion,Bool.and_eq_true,beq_iff_eq] at hok
 obtain ⟨x,hx1,hx2⟩:=lastLoud_ex π hok.1.2
 refine wp_mono (wp_region_any (Q:=Qn (Q .normal)) hm (wpL_any (S:=fun w=>St cx ρ Ls w) (x:=x) _ _ _ _ ?_)) (qn_mono fun _ _ h=>h)
 have h1:=pi_sound hok.1.1.1 hx1 π _ _ a _ hx2 (fun j o _ hl=>by rw [Array.getD_eq_getD_getElem?,Array.getElem?_replicate] at hl; split at hl <;> simp at hl) hok.2 (.inr (hs.drew.sub hL)) (h hs.rle a _ ha hs.drew)
 rw [hok.1.1.2] at h1
 exact h1
theorem Cd.seq {x y : Code} (h : ∀ K : Act → World → Prop,(∀ a w,y.wp P Q a w → K a w) → Cd P (Exit.then K Q) n cx ρ E L x) : Cd P Q n cx ρ E L (.seq x y) :=
 fun a w ha hs=>wp_seq_k fun K hK=>h K hK a w ha hs
theorem Cd.qbu {K : Act → World → Prop} {Q' Q'' : Exit → Act → World → Prop} {y : Code} (hK : ∀ a w,y.wp P Q'' a w → K a w) (h : Cd P Q'' n cx ρ E L y) : Cd P (Exit.then K Q') n cx ρ E L .skip :=
 fun a w ha hs=>wp_skip (hK a w (h a w ha hs))
theorem Cd.qar {c : Operand} {x y : Code} {b : Bool} (hc : evE E c = some (.bool b)) (ht : b = true → Cd P Q n cx ρ E L x) (hf : b = false → Cd P Q n cx ρ E L y) : Cd P Q n cx ρ E L (.cond c x y) :=
 fun a w ha hs=>wp_cond_split (ha.ev hc) (fun h=>ht h a w ha hs) (fun h=>hf h a w ha hs)
theorem Cd.block {id : Nat} {c : Code} (h : Cd P (Exit.inBlock id Q) n cx ρ E L c) : Cd P Q n cx ρ E L (.block id c):=fun a w ha hs=>wp_block (h a w ha hs)
theorem Cd.exit {id : Nat} {K : Act → World → Prop} {Q'' : Exit → Act → World → Prop} {y : Code} (hQ : Q (.exit id) = K) (hK : ∀ a w,y.wp P Q'' a w → K a w) (h : Cd P Q'' n cx ρ E L y) : Cd P Q n cx ρ E L (.exit id) :=
 fun a w ha hs=>wp_exit (by rw [hQ]; exact hK a w (h a w ha hs))
theorem Jp.over {K : Act → World → Prop} {Q'' : Exit → Act → World → Prop} {y : Code} (hQ : Q .normal = K) (hK : ∀ a w,y.wp P Q'' a w → K a w) (h : Cd P Q'' n cx ρ E L y) : Jp P ops Q S n cx [] ρ E L :=
 fun a w ha hs=>by rw [qfn,hQ]; exact hK a w (h a w ha hs)
theorem Cd.over {K : Act → World → Prop} {Q'' : Exit → Act → World → Prop} {y : Code} (hQ : Q .normal = K) (hK : ∀ a w,y.wp P Q'' a w → K a w) (h : Cd P Q'' n cx ρ E L y) : Cd P Q n cx ρ E L .skip :=
 fun a w ha hs=>wp_skip (by rw [hQ]; exact hK a w (h a w ha hs))
def Head {G : Type} (n : Nat) (cx : Cx) (ok : G → Prop) (ro : G → Hp) (Eo : G → Env) (Lo : G → Own) (g : G) (a : Act) (w : World) : Prop :=
 ok g ∧ At n (Eo g) a ∧ St cx (ro g) (Lo g) w
theorem Cd.loop {c : Code} {G : Type} (ok : G → Prop) (mu : G → Nat) (ro : G → Hp) (Eo : G → Env) (Lo : G → Own) (g0 : G) (h0 : ok g0) (hr : ro g0 = ρ) (hE : Subl (Eo g0) E) (hL : Subl (Lo g0) L)
  (round : ∀ (g : G) (K : Act → World → Prop),ok g → (∀ g' a w,ok g' → mu g' < mu g → At n (Eo g') a → St cx (ro g') (Lo g') w → K a w) → Cd P (Exit.then K Q) n cx (ro g) (Eo g) (Lo g) c) :
  Cd P Q n cx ρ E L (.loop c):=fun a w ha hs=>by
 subst hr
 have key : ∀ (m : Nat),∀ a w,(∃ g,ok g ∧ mu g = m ∧ At n (Eo g) a ∧ St cx (ro g) (Lo g) w) → c.wp P (Exit.then (fun a' w'=>∃ m',m' < m ∧ ∃ g,ok g ∧ mu g = m' ∧ At n (Eo g) a' ∧ St cx (ro g) (Lo g) w') Q) a w:=by
  rintro m a w ⟨g,hg,rfl,ha,hs⟩
  exact round g _ hg (fun g' a' w' h1 h2 h3 h4=>⟨mu g',h2,g',h1,rfl,h3,h4⟩) a w ha hs
 refine wp_loop_by (fun m a w=>∃ g,ok g ∧ mu g = m ∧ At n (Eo g) a ∧ St cx (ro g) (Lo g) w) (mu g0) ⟨g0,h0,rfl,ha.sub hE,hs.sub hL⟩ key
theorem Jp.again {G : Type} {ok : G → Prop} {mu : G → Nat} {ro : G → Hp} {Eo : G → Env} {Lo : G → Own} {g : G} {K : Act → World → Prop} {Q' : Exit → Act → World → Prop}
  (hK : ∀ g' a w,ok g' → mu g' < mu g → At n (Eo g') a → St cx (ro g') (Lo g') w → K a w) (g' : G) (h1 : ok g') (h2 : mu g' < mu g) (hr : ro g' = ρ) (hE : Subl (Eo g') E) (hL : Subl (Lo g') L) : Jp P ops (Exit.then K Q') S n cx [] ρ E L :=
 fun a w ha hs=>hK g' a w h1 h2 (ha.sub hE) (by rw [hr]; exact hs.sub hL)
theorem Cd.again {G : Type} {ok : G → Prop} {mu : G → Nat} {ro : G → Hp} {Eo : G → Env} {Lo : G → Own} {g : G} {K : Act → World → Prop} {Q' : Exit → Act → World → Prop}
  (hK : ∀ g' a w,ok g' → mu g' < mu g → At n (Eo g') a → St cx (ro g') (Lo g') w → K a w) (g' : G) (h1 : ok g') (h2 : mu g' < mu g) (hr : ro g' = ρ) (hE : Subl (Eo g') E) (hL : Subl (Lo g') L) : Cd P (Exit.then K Q') n cx ρ E L .skip :=
 fun a w ha hs=>wp_skip (hK g' a w h1 h2 (ha.sub hE) (by rw [hr]; exact hs.sub hL))
theorem Cdx.again {G : Type} {ok : G → Prop} {mu : G → Nat} {ro : G → Hp} {Eo : G → Env} {Lo : G → Own} {g : G} {K : Act → World → Prop} {id : Nat} (hQ : Q (.exit id) = K)
  (hK : ∀ g' a w,ok g' → mu g' < mu g → At n (Eo g') a → St cx (ro g') (Lo g') w → K a w) (g' : G) (h1 : ok g') (h2 : mu g' < mu g) (hr : ro g' = ρ) (hE : Subl (Eo g') E) (hL : Subl (Lo g') L) : Cd P Q n cx ρ E L (.exit id) :=
 fun a w ha hs=>wp_exit (by rw [hQ]; exact hK g' a w h1 h2 (ha.sub hE) (by rw [hr]; exact hs.sub hL))
def argsE : Nat → List Value → Env
 | _,[]=>[]
 | k,v :: vs=>(k,v) :: argsE (k + 1) vs
theorem look_argsE : ∀ (vs : List Value) (k t : Nat) (v : Value),look (argsE k vs) t = some v → ∃ j,t = k + j ∧ vs[j]? = some v:=by
 intro vs
 induction vs with
 | nil=>intro k t v h; simp [argsE,look] at h
 | cons x xs ih =>
  intro k t v h
  rw [argsE,qag] at h
  split at h
  ·rename_i e; injection h with h; subst h; exact ⟨0,by omega,rfl⟩
  ·obtain ⟨j,hj,hx⟩:=ih _ _ _ h
   exact ⟨j + 1,by omega,by simpa using hx⟩
theorem Spec.of {f : FuncId} {fn : Func} {c : Code} {vs : List Value} {R : Hp → Prop} {Lin : Own} {Post : Hp → Hp → Value → Own → Prop} (N : Nat) (hf : P.funcs[f]? = some fn) (hb : fn.body = some c) (hN : fn.ntmps = N) (E : Env)
  (hE : argsE 0 vs = E) (hsz : Nat.ble vs.length N = true)
  (h : ∀ cx ρ,R ρ → cx.r0 = ρ → Cd P (bodyPost P fn fun e w'=>∃ v ρ' Lout,e = .returned v ∧ Post ρ ρ' v Lout ∧ St cx ρ' Lout w') N cx ρ E Lin c) : Spec P f vs.toArray R Lin Post:=by
 intro w M ρ hR hs
 refine calls_of_wp hf hb ?_
 have hsz' : vs.length ≤ N:=Nat.le_of_ble_eq_true hsz
 refine h ⟨w,M,ρ⟩ ρ hR rfl _ w ⟨rfl,?_,?_⟩ hs
 ·simp only [hN,Array.size_append,Array.size_replicate,List.size_toArray]; omega
 ·intro t v e
  subst hE
  obtain ⟨j,hj,hx⟩:=look_argsE vs 0 t v e
  have : t = j:=by omega
  subst this
  have hlt : t < vs.length:=(List.getElem?_eq_some_iff.1 hx).1
  rw [hN,Array.getElem?_append_left (by simpa using hlt)]
  simpa using hx
theorem Cd.ret {fn : Func} {R : Hp → Value → Own → Prop} {v : Value} (Lout : Own) (hQ : Q .ret = bodyPost P fn (fun e w'=>∃ v ρ' Lout,e = .returned v ∧ R ρ' v Lout ∧ St cx ρ' Lout w') .ret)
  (hv : ∀ a w,At n E a → St cx ρ L w → (results fn a.tmps).run P w = .ok v w) (hL : Subl Lout L) (hp : R ρ v Lout) : Cd P Q n cx ρ E L .ret:=fun a w ha hs =>
 wp_ret (by rw [hQ]; exact ⟨ha.defers,v,hv a w ha hs,v,ρ,Lout,rfl,hp,hs.sub hL⟩)
theorem Jp.end {fn : Func} {R : Hp → Value → Own → Prop} {v : Value} (Lout : Own) (hQ : Q .normal = bodyPost P fn (fun e w'=>∃ v ρ' Lout,e = .returned v ∧ R ρ' v Lout ∧ St cx ρ' Lout w') .normal)
  (hv : ∀ a w,At n E a → St cx ρ L w → (results fn a.tmps).run P w = .ok v w) (hL : Subl Lout L) (hp : R ρ v Lout) : Jp P ops Q S n cx [] ρ E L:=fun a w ha hs=>by
 rw [qfn,hQ]; exact ⟨ha.defers,v,hv a w ha hs,v,ρ,Lout,rfl,hp,hs.sub hL⟩
theorem Cd.end {fn : Func} {R : Hp → Value → Own → Prop} {v : Value} (Lout : Own) (hQ : Q .normal = bodyPost P fn (fun e w'=>∃ v ρ' Lout,e = .returned v ∧ R ρ' v Lout ∧ St cx ρ' Lout w') .normal)
  (hv : ∀ a w,At n E a → St cx ρ L w → (results fn a.tmps).run P w = .ok v w) (hL : Subl Lout L) (hp : R ρ v Lout) : Cd P Q n cx ρ E L .skip:=fun a w ha hs =>
 wp_skip (by rw [hQ]; exact ⟨ha.defers,v,hv a w ha hs,v,ρ,Lout,rfl,hp,hs.sub hL⟩)
theorem Cdx.end {fn : Func} {R : Hp → Value → Own → Prop} {v : Value} {id : Nat} (Lout : Own) (hQ : Q (.exit id) = bodyPost P fn (fun e w'=>∃ v ρ' Lout,e = .returned v ∧ R ρ' v Lout ∧ St cx ρ' Lout w') .normal)
  (hv : ∀ a w,At n E a → St cx ρ L w → (results fn a.tmps).run P w = .ok v w) (hL : Subl Lout L) (hp : R ρ v Lout) : Cd P Q n cx ρ E L (.exit id):=fun a w ha hs =>
 wp_exit (by rw [hQ]; exact ⟨ha.defers,v,hv a w ha hs,v,ρ,Lout,rfl,hp,hs.sub hL⟩)
theorem qbd {fn : Func} {t : Tmp} (h : fn.results = #[.tmp t]) (he : look E t = some v) : ∀ a w,At n E a → St cx ρ L w → (results fn a.tmps).run P w = .ok v w:=fun a w ha _=>by
 have:=ha.slot t v he
 simp [results,h,this]
theorem res0 {fn : Func} (h : fn.results = #[]) : ∀ a w,At n E a → St cx ρ L w → (results fn a.tmps).run P w = .ok (.tuple #[]) w:=fun a w ha _=>by
 simp [results,h]
theorem qbx {fn : Func} {t u : Tmp} {x y : Value} (h : fn.results = #[.tmp t,.tmp u]) (he : look E t = some x) (he2 : look E u = some y) : ∀ a w,At n E a → St cx ρ L w → (results fn a.tmps).run P w = .ok (.tuple #[x,y]) w:=fun a w ha _=>by
 have h1:=ha.slot t x he
 have h2:=ha.slot u y he2
 simp [results,h,h1,h2]
theorem res3 {fn : Func} {t u s : Tmp} {x y z : Value} (h : fn.results = #[.tmp t,.tmp u,.tmp s]) (he : look E t = some x) (he2 : look E u = some y) (he3 : look E s = some z) : ∀ a w,At n E a → St cx ρ L w → (results fn a.tmps).run P w = .ok (.tuple #[x,y,z]) w:=fun a w ha _=>by
 have h1:=ha.slot t x he
 have h2:=ha.slot u y he2
 have h3:=ha.slot s z he3
 simp [results,h,h1,h2,h3]
def evL (E : Env) : List Operand → Option (List Value)
 | []=>some []
 | x :: xs=>match evE E x,evL E xs with
  | some v,some vs=>some (v :: vs)
  | _,_=>none
theorem At.evs {a : Act} (h : At n E a) : ∀ {xs : List Operand} {vs : List Value},evL E xs = some vs → xs.map a.eval = vs:=by
 intro xs
 induction xs with
 | nil=>intro vs e; simp only [evL] at e; injection e with e
 | cons x xs ih =>
  intro vs e
  simp only [evL] at e
  cases h1 : evE E x with
  | none=>simp [h1] at e
  | some v =>
   cases h2 : evL E xs with
   | none=>simp [h1,h2] at e
   | some us=>simp [h1,h2] at e; subst e; rw [List.map_cons,h.ev h1,ih h2]
def Runs (P : Program) (n : Nat) (E : Env) (o : Oper) (f : FuncId) (vs : List Value) : Prop:=∀ a w,At n E a → (execOp a.eval o).run P w = .ok (.enter f vs.toArray) w
theorem Runs.fn {f : FuncId} {xs : List Operand} {ts : Array TypeId} {vs : List Value} (hop : o.op = .call { callee:=.value (.func f),args:=xs.toArray,argTypes:=ts }) (hc : ∀ args w,(callFunc f args).run P w = .ok (.enter f args) w) (hxs : evL E xs = some vs) : Runs P n E o f vs:=fun a w ha=>by
 have:=ha.evs hxs
 simp only [execOp,hop,resolve,List.map_toArray,this,Act.eval,Deferred.ofValue,Sem.run_bind,Sem.run_pure,Result.andThen_ok,invoke,hc]
 simp
theorem Jp.call {f : FuncId} {vs : List Value} {R : Hp → Prop} {Lin : Own} {Post : Hp → Hp → Value → Own → Prop} (idx ms : List Nat) (hs : Spec P f vs.toArray R Lin Post) (d : Nat) (hi : nth ops.toList i = some o) (hw : qgl n ops E o true) (he : o.dst = some d) (hd : Nat.blt d n = true)
  (hrun : Runs P n E o f vs) (hnd : idx.Nodup) (hms : ms.Nodup) (hin : hand L 0 idx = Lin) (hR : R ρ)
  (h : ∀ v ρ' Lout,Post ρ ρ' v Lout → Lout.all (fun p=>Nat.blt p.1 ms.length) = true ∧ (Hp.le ρ ρ' → Kp π S cx ρ' (back ms Lout ++ (gone idx ++ L)) ∧ Jp P ops Q S n cx π ρ' ((d,v) :: E) (back ms Lout ++ (gone idx ++ L)))) :
  Jp P ops Q S n cx ((i,false) :: π) ρ E L:=by
 intro a w ha hst
 simp only [qfn,wpOp,qbj hi,hw a ha,if_true,Oper.wp,hrun a w ha,Oper.upon]
 left
 obtain ⟨M',h1,h2⟩:=hst.call idx ms hnd hms
 rw [hin] at h1
 refine (hs w M' ρ hR h1).mono ?_
 rintro e w' ⟨v,ρ',Lout,rfl,hp,hst'⟩
 obtain ⟨h3,h4⟩:=h v ρ' Lout hp
 have h5:=h4 hst'.rle
 have h6:=h2 w' ρ' Lout (fun p hp=>by have:=List.all_eq_true.1 h3 p hp; simpa [Nat.blt_eq] using this) hst'
 exact ⟨h5.1.get h6,h5.2 _ _ (ha.put' he hd v) h6⟩
theorem Spec.mono {f : FuncId} {args : Array Value} {R R' : Hp → Prop} {Lin : Own} {Post Post' : Hp → Hp → Value → Own → Prop} (h : Spec P f args R Lin Post) (hr : ∀ ρ,R' ρ → R ρ) (hp : ∀ ρ ρ' v l,Post ρ ρ' v l → Post' ρ ρ' v l) : Spec P f args R' Lin Post' :=
 fun w M ρ r s=>(h w M ρ (hr ρ r) s).mono fun e w' ⟨v,ρ',Lout,e1,e2,e3⟩=>⟨v,ρ',Lout,e1,hp _ _ _ _ e2,e3⟩
end
end Go.Proofs.YtnfkalpgidiafaaGreat
set_option linter.unusedVariables false
set_option linter.unusedSimpArgs false
namespace Go.Proofs.YtnfkalpgidiafaaGreat
open Go
section
variable {P : Program} {Q : Exit → Act → World → Prop} {n : Nat} {cx : Cx} {ρ ρs : Hp} {E E' : Env} {L L' Ls : Own} {ops : Array Oper} {S : World → Prop} {π : List (Nat × Bool)} {i : Nat} {o : Oper} {v : Value}
theorem run_builtin1 {ac : Act} {w w' : World} {b : Builtin} {x : Operand} {ts : Array TypeId} {vx : Value} (hop : o.op = .call { callee:=.builtin b,args:=#[x],argTypes:=ts }) (hx : ac.eval x = vx) (hr : ∀ c,(builtin b ts o.type c #[vx]).run P w = .ok (.value v) w') :
  (execOp ac.eval o).run P w = .ok (.value v) w':=by
 subst hx
 simp only [execOp,hop,resolve,invoke,Sem.run_bind,Sem.run_pure,Result.andThen_ok,List.map_toArray,List.map_cons,List.map_nil,hr]
theorem qdj {ac : Act} {w w' : World} {b : Builtin} {x y : Operand} {ts : Array TypeId} {vx vy : Value} (hop : o.op = .call { callee:=.builtin b,args:=#[x,y],argTypes:=ts }) (hx : ac.eval x = vx) (hy : ac.eval y = vy) (hr : ∀ c,(builtin b ts o.type c #[vx,vy]).run P w = .ok (.value v) w') :
  (execOp ac.eval o).run P w = .ok (.value v) w':=by
 subst hx hy
 simp only [execOp,hop,resolve,invoke,Sem.run_bind,Sem.run_pure,Result.andThen_ok,List.map_toArray,List.map_cons,List.map_nil,hr]
theorem Y.move {x : Operand} (hop : o.op = .move x) (hx : evE E x = some v) : Y P n cx ρ E L o v:=fun a w ha _=>by
 simp only [execOp,hop,ha.ev hx] <;> simp [go_sem]
theorem Y.assign {x : Operand} (hop : o.op = .assign x) (hx : evE E x = some v) : Y P n cx ρ E L o v:=fun a w ha _=>by
 simp only [execOp,hop,ha.ev hx] <;> simp [go_sem]
theorem Y.qav {c x y : Operand} (hop : o.op = .pick c x y) (hc : evE E c = some (.bool true)) (hx : evE E x = some v) : Y P n cx ρ E L o v:=fun a w ha _=>by
 simp only [execOp,hop,ha.ev hc,ha.ev hx] <;> simp [asBool,go_sem]
theorem Y.qay {c x y : Operand} (hop : o.op = .pick c x y) (hc : evE E c = some (.bool false)) (hy : evE E y = some v) : Y P n cx ρ E L o v:=fun a w ha _=>by
 simp only [execOp,hop,ha.ev hc,ha.ev hy] <;> simp [asBool,go_sem]
theorem Y.qan {x : Operand} {p : Addr} (hop : o.op = .nilCheck x) (hx : evE E x = some (.pointer (some p))) : Y P n cx ρ E L o (.pointer (some p)):=fun a w ha _=>by
 simp only [execOp,hop,ha.ev hx] <;> simp [go_sem]
theorem Y.not {x : Operand} {t : TypeId} {b : Bool} (hop : o.op = .unOp .not t x) (hx : evE E x = some (.bool b)) : Y P n cx ρ E L o (.bool (!b)):=fun a w ha _=>by
 simp only [execOp,hop,ha.ev hx] <;> simp [Op.unary,go_sem]
theorem Y.extract {x : Operand} {j : Nat} {vs : Array Value} (hop : o.op = .extract x j) (hx : evE E x = some (.tuple vs)) (hj : nth vs.toList j = some v) : Y P n cx ρ E L o v:=fun a w ha _=>by
 simp only [execOp,hop,ha.ev hx] <;> simp [Instr.extract,qbj hj] <;> rfl
theorem qaj {x : Int} (h1 : -9223372036854775808 ≤ x) (h2 : x ≤ 9223372036854775807) : IntKind.i64.wrap x = x:=by
 have e : (2 : Int) ^ 64 = 18446744073709551616:=by decide
 have e2 : (2 : Int) ^ (64 - 1) = 9223372036854775808:=by decide
 simp only [IntKind.wrap,IntKind.bits,IntKind.signed]
 simp
 omega
theorem qhd {x : Int} (h1 : -2147483648 ≤ x) (h2 : x ≤ 2147483647) : IntKind.i32.wrap x = x:=by
 simp only [IntKind.wrap,IntKind.bits,IntKind.signed]
 simp
 omega
theorem wrap_u8 {x : Int} (h1 : 0 ≤ x) (h2 : x ≤ 255) : IntKind.u8.wrap x = x:=by
 simp only [IntKind.wrap,IntKind.bits,IntKind.signed]
 simp
 omega
theorem qba {x : Int} (h1 : 0 ≤ x) (h2 : x ≤ 4294967295) : IntKind.u32.wrap x = x:=by
 simp only [IntKind.wrap,IntKind.bits,IntKind.signed]
 simp
 omega
theorem qbh {x : Int} (h1 : 0 ≤ x) (h2 : x ≤ 18446744073709551615) : IntKind.u64.wrap x = x:=by
 simp only [IntKind.wrap,IntKind.bits,IntKind.signed]
 simp
 omega
theorem Y.arith {x y : Operand} {t u : TypeId} {k : IntKind} {a b r : Int} {op : BinOp} (hop : o.op = .binOp op t x y u) (hx : evE E x = some (.int k a)) (hy : evE E y = some (.int k b))
  (hr : Op.intArith op k a b = pure (.int k r)) (hk : (op = .add ∨ op = .sub ∨ op = .mul)) : Y P n cx ρ E L o (.int k r):=fun ac w ha _=>by
 simp only [execOp,hop,ha.ev hx,ha.ev hy]
 rcases hk with rfl | rfl | rfl <;> simp only [eqGuard,binOp,hr,Sem.run_bind,Sem.run_pure,Result.andThen_ok] <;> simp [Sem.run_pure,Result.andThen,hr]
theorem Y.add {x y : Operand} {t u : TypeId} {k : IntKind} {a b : Int} (hop : o.op = .binOp .add t x y u) (hx : evE E x = some (.int k a)) (hy : evE E y = some (.int k b)) : Y P n cx ρ E L o (.int k (k.wrap (a + b))) :=
 Y.arith hop hx hy rfl (.inl rfl)
theorem Y.sub {x y : Operand} {t u : TypeId} {k : IntKind} {a b : Int} (hop : o.op = .binOp .sub t x y u) (hx : evE E x = some (.int k a)) (hy : evE E y = some (.int k b)) : Y P n cx ρ E L o (.int k (k.wrap (a - b))) :=
 Y.arith hop hx hy rfl (.inr (.inl rfl))
theorem Y.mul {x y : Operand} {t u : TypeId} {k : IntKind} {a b : Int} (hop : o.op = .binOp .mul t x y u) (hx : evE E x = some (.int k a)) (hy : evE E y = some (.int k b)) : Y P n cx ρ E L o (.int k (k.wrap (a * b))) :=
 Y.arith hop hx hy rfl (.inr (.inr rfl))
theorem Y.to {v' : Value} (h : Y P n cx ρ E L o v') (e : v' = v) : Y P n cx ρ E L o v:=e ▸ h
theorem Y.qcj {x y : Operand} {t u : TypeId} {k : IntKind} {a b r : Int} (hop : o.op = .binOp .add t x y u) (hx : evE E x = some (.int k a)) (hy : evE E y = some (.int k b)) (hr : k.wrap (a + b) = r) : Y P n cx ρ E L o (.int k r):=hr ▸ Y.add hop hx hy
theorem Y.qfm {x y : Operand} {t u : TypeId} {k : IntKind} {a b r : Int} (hop : o.op = .binOp .sub t x y u) (hx : evE E x = some (.int k a)) (hy : evE E y = some (.int k b)) (hr : k.wrap (a - b) = r) : Y P n cx ρ E L o (.int k r):=hr ▸ Y.sub hop hx hy
theorem Y.mul_ {x y : Operand} {t u : TypeId} {k : IntKind} {a b r : Int} (hop : o.op = .binOp .mul t x y u) (hx : evE E x = some (.int k a)) (hy : evE E y = some (.int k b)) (hr : k.wrap (a * b) = r) : Y P n cx ρ E L o (.int k r):=hr ▸ Y.mul hop hx hy
theorem Y.quo {x y : Operand} {t u : TypeId} {k : IntKind} {a b : Int} (hop : o.op = .binOp .quo t x y u) (hx : evE E x = some (.int k a)) (hy : evE E y = some (.int k b)) (hb : b ≠ 0) : Y P n cx ρ E L o (.int k (k.wrap (a.tdiv b))):=fun ac w ha _=>by
 simp only [execOp,hop,ha.ev hx,ha.ev hy] <;> simp [eqGuard,binOp,Op.intDiv,hb,go_sem]
theorem Y.rem {x y : Operand} {t u : TypeId} {k : IntKind} {a b : Int} (hop : o.op = .binOp .rem t x y u) (hx : evE E x = some (.int k a)) (hy : evE E y = some (.int k b)) (hb : b ≠ 0) : Y P n cx ρ E L o (.int k (a.tmod b)):=fun ac w ha _=>by
 simp only [execOp,hop,ha.ev hx,ha.ev hy] <;> simp [eqGuard,binOp,Op.intDiv,hb,go_sem]
def cmpB : BinOp → Int → Int → Bool
 | .eql,x,y=>x == y
 | .neq,x,y=>x != y
 | .lss,x,y=>decide (x < y)
 | .leq,x,y=>decide (x ≤ y)
 | .gtr,x,y=>decide (y < x)
 | .geq,x,y=>decide (y ≤ x)
 | _,_,_=>false
theorem Y.cmp {x y : Operand} {t u : TypeId} {k : IntKind} {a b : Int} {op : BinOp} {c : Bool} (hop : o.op = .binOp op t x y u) (hx : evE E x = some (.int k a)) (hy : evE E y = some (.int k b))
  (hr : Op.intCmp op a b = pure (.bool c)) (hk : (match op with | .eql | .neq | .lss | .leq | .gtr | .geq=>true | _=>false) = true) : Y P n cx ρ E L o (.bool c):=fun ac w ha _=>by
 simp only [execOp,hop,ha.ev hx,ha.ev hy]
 cases op <;> simp at hk <;> simp only [eqGuard,binOp,hr,Sem.run_bind,Sem.run_pure,Result.andThen_ok] <;> simp [Sem.run_pure,Result.andThen,hr]
theorem Y.eql {x y : Operand} {t u : TypeId} {k : IntKind} {a b : Int} (hop : o.op = .binOp .eql t x y u) (hx : evE E x = some (.int k a)) (hy : evE E y = some (.int k b)) : Y P n cx ρ E L o (.bool (a == b)):=Y.cmp hop hx hy rfl rfl
theorem Y.neq {x y : Operand} {t u : TypeId} {k : IntKind} {a b : Int} (hop : o.op = .binOp .neq t x y u) (hx : evE E x = some (.int k a)) (hy : evE E y = some (.int k b)) : Y P n cx ρ E L o (.bool (a != b)):=Y.cmp hop hx hy rfl rfl
theorem Y.lss {x y : Operand} {t u : TypeId} {k : IntKind} {a b : Int} (hop : o.op = .binOp .lss t x y u) (hx : evE E x = some (.int k a)) (hy : evE E y = some (.int k b)) : Y P n cx ρ E L o (.bool (decide (a < b))):=Y.cmp hop hx hy rfl rfl
theorem Y.leq {x y : Operand} {t u : TypeId} {k : IntKind} {a b : Int} (hop : o.op = .binOp .leq t x y u) (hx : evE E x = some (.int k a)) (hy : evE E y = some (.int k b)) : Y P n cx ρ E L o (.bool (decide (a ≤ b))):=Y.cmp hop hx hy rfl rfl
theorem Y.gtr {x y : Operand} {t u : TypeId} {k : IntKind} {a b : Int} (hop : o.op = .binOp .gtr t x y u) (hx : evE E x = some (.int k a)) (hy : evE E y = some (.int k b)) : Y P n cx ρ E L o (.bool (decide (b < a))):=Y.cmp hop hx hy rfl rfl
theorem Y.geq {x y : Operand} {t u : TypeId} {k : IntKind} {a b : Int} (hop : o.op = .binOp .geq t x y u) (hx : evE E x = some (.int k a)) (hy : evE E y = some (.int k b)) : Y P n cx ρ E L o (.bool (decide (b ≤ a))):=Y.cmp hop hx hy rfl rfl
def qci (op : BinOp) (k : IntKind) (x y : Int) : Int :=
 let a:=BitVec.ofInt k.bits x
 let b:=BitVec.ofInt k.bits y
 match op with
 | .and=>k.wrap (a &&& b).toNat
 | .or=>k.wrap (a ||| b).toNat
 | .xor=>k.wrap (a ^^^ b).toNat
 | .andNot=>k.wrap (a &&& ~~~b).toNat
 | _=>0
theorem Y.bits {x y : Operand} {t u : TypeId} {k : IntKind} {a b : Int} {op : BinOp} (hop : o.op = .binOp op t x y u) (hx : evE E x = some (.int k a)) (hy : evE E y = some (.int k b))
  (hk : (match op with | .and | .or | .xor | .andNot=>true | _=>false) = true) : Y P n cx ρ E L o (.int k (qci op k a b)):=fun ac w ha _=>by
 simp only [execOp,hop,ha.ev hx,ha.ev hy]
 cases op <;> simp at hk <;> simp [eqGuard,binOp,Op.intBits,qci] <;> rfl
theorem Y.shl {x y : Operand} {t u : TypeId} {k yk : IntKind} {a b : Int} (hop : o.op = .binOp .shl t x y u) (hx : evE E x = some (.int k a)) (hy : evE E y = some (.int yk b)) (hb : 0 ≤ b) : Y P n cx ρ E L o (.int k (k.wrap (a * 2 ^ (min b.toNat k.bits)))):=fun ac w ha _=>by
 have h' : ¬ b < 0:=by omega
 simp only [execOp,hop,ha.ev hx,ha.ev hy,eqGuard,binOp,Op.shift,h',if_false]
 rfl
theorem Y.shr {x y : Operand} {t u : TypeId} {k yk : IntKind} {a b : Int} (hop : o.op = .binOp .shr t x y u) (hx : evE E x = some (.int k a)) (hy : evE E y = some (.int yk b)) (hb : 0 ≤ b) : Y P n cx ρ E L o (.int k (a.fdiv (2 ^ (min b.toNat k.bits)))):=fun ac w ha _=>by
 have h' : ¬ b < 0:=by omega
 simp only [execOp,hop,ha.ev hx,ha.ev hy,eqGuard,binOp,Op.shift,h',if_false]
 rfl
theorem run_underlying' {t : TypeId} {d : TypeDesc} (h : P.underlying t = some d) (w : World) : (underlying t).run P w = .ok d w:=run_underlying h w
theorem Y.conv {x : Operand} {s d : TypeId} {k k' : IntKind} {a : Int} {ds : TypeDesc} (hop : o.op = .convert s d x) (hx : evE E x = some (.int k a)) (hs : P.underlying s = some ds) (hd : P.underlying d = some (.int k')) : Y P n cx ρ E L o (.int k' (k'.wrap a)):=fun ac w ha _=>by
 simp only [execOp,hop,ha.ev hx] <;> simp [convert,run_underlying' hs,run_underlying' hd,Conv.intToInt,go_sem]
theorem Y.qaw {x : Operand} {s d : TypeId} {k k' : IntKind} {a r : Int} {ds : TypeDesc} (hop : o.op = .convert s d x) (hx : evE E x = some (.int k a)) (hs : P.underlying s = some ds) (hd : P.underlying d = some (.int k')) (hr : k'.wrap a = r) : Y P n cx ρ E L o (.int k' r):=hr ▸ Y.conv hop hx hs hd
theorem Y.min2 {x y : Operand} {ts : Array TypeId} {k : IntKind} {a b : Int} (hop : o.op = .call { callee:=.builtin .min,args:=#[x,y],argTypes:=ts }) (hx : evE E x = some (.int k a)) (hy : evE E y = some (.int k b)) : Y P n cx ρ E L o (.int k (if b < a then b else a)):=fun ac w ha _=>qdj hop (ha.ev hx) (ha.ev hy) fun c=>by simp [go_sem]
theorem Y.max2 {x y : Operand} {ts : Array TypeId} {k : IntKind} {a b : Int} (hop : o.op = .call { callee:=.builtin .max,args:=#[x,y],argTypes:=ts }) (hx : evE E x = some (.int k a)) (hy : evE E y = some (.int k b)) : Y P n cx ρ E L o (.int k (if a < b then b else a)):=fun ac w ha _=>qdj hop (ha.ev hx) (ha.ev hy) fun c=>by simp [go_sem]
def str (s : ByteArray) : List UInt8:=s.data.toList
theorem Y.qbq {x : Operand} {t e : TypeId} {A : Option Addr} {l c : Nat} (hop : o.op = .call { callee:=.builtin .len,args:=#[x],argTypes:=#[t] }) (hT : P.underlying t = some (.slice e)) (hx : evE E x = some (.slice A l c)) : Y P n cx ρ E L o (.int .i64 l):=fun ac w ha _=>run_builtin1 hop (ha.ev hx) fun c=>by simp [go_sem,Builtin.len_,run_underlying hT]
theorem Y.indexstr {x y : Operand} {t : TypeId} {s : ByteArray} {k : IntKind} {j : Int} {q : Nat} (hop : o.op = .index t x y) (hT : P.underlying t = some .string) (hx : evE E x = some (.string s)) (hy : evE E y = some (.int k j)) (h0 : 0 ≤ j) (h1 : j < s.size) (hq : j.toNat = q) : Y P n cx ρ E L o (.int .u8 (s[q]'(by omega)).toNat):=fun ac w ha _=>by
 subst hq
 have hl : j.toNat < s.size:=by omega
 simp only [execOp,hop,ha.ev hx,ha.ev hy] <;> simp [Instr.index,asIntOf,run_underlying' hT,h0,hl,go_sem]
def qed (h : Hp) (a : Addr) : Option Value :=
 match h a.block with
 | some (.cells c _ _)=>if a.spot.isSome then none else c[a.off]?
 | _=>none
theorem cellH_up {h k : Hp} (l : Hp.le h k) {a : Addr} {v : Value} (e : qed h a = some v) : qed k a = some v:=by
 unfold qed at *
 cases hb : h a.block with
 | none=>simp [hb] at e
 | some ob=>rw [l _ _ hb]; rw [hb] at e; exact e
theorem cell_of {h : Hp} {w : World} (l : ∀ b o,h b = some o → w.heap[b]? = some o) {a : Addr} {v : Value} (e : qed h a = some v) : w.cell? a = some v:=by
 unfold qed at e
 unfold World.cell?
 cases hb : h a.block with
 | none=>simp [hb] at e
 | some ob=>rw [l _ _ hb]; rw [hb] at e; exact e
theorem run_isAgg {t : TypeId} {b : Bool} (h : ∀ w,(isAgg t).run P w = .ok b w) (w : World) : (isAgg t).run P w = .ok b w:=h w
theorem qhg {t : TypeId} (hA : ∀ w,(isAgg t).run P w = .ok false w) {a : Addr} {v : Value} {w : World} (hc : w.cell? a = some v) : (Instr.loadAt t (.pointer (some a))).run P w = .ok v w:=by
 simp [Instr.loadAt,Instr.sureAddr,loadVar,hA,load,Sem.run,hc,go_sem]
theorem Y.loadR {x : Operand} {t : TypeId} {a : Addr} (hop : o.op = .load t x) (hA : ∀ w,(isAgg t).run P w = .ok false w) (hx : evE E x = some (.pointer (some a))) (hc : qed ρ a = some v) : Y P n cx ρ E L o v:=fun ac w ha hs=>by
 simp only [execOp,hop,ha.ev hx,Sem.run_bind,qhg hA (cell_of hs.rho hc),Result.andThen_ok,Sem.run_pure]
theorem Y.qau (j : Nat) {x : Operand} {t : TypeId} {b off : Nat} {cs : Array Value} {T : TypeId} {fr : Nat × Nat} (hop : o.op = .load t x) (hA : ∀ w,(isAgg t).run P w = .ok false w) (hx : evE E x = some (.pointer (some ⟨b,off,none⟩)))
  (hj : look L j = some (Pt b (.cells cs T fr))) (hc : nth cs.toList off = some v) : Y P n cx ρ E L o v:=fun ac w ha hs=>by
 have h1 : w.cell? ⟨b,off,none⟩ = some v:=by simp [World.cell?,hs.pt hj,qbj hc]
 simp only [execOp,hop,ha.ev hx,Sem.run_bind,qhg hA h1,Result.andThen_ok,Sem.run_pure]
theorem Y.fieldAddr {x : Operand} {s : TypeId} {f : Nat} {p : Addr} {fs : Array Field} {fd : Field} {m : Nat} (hop : o.op = .fieldAddr s x f) (hx : evE E x = some (.pointer (some p))) (hT : P.underlying s = some (.struct fs)) (hf : nth fs.toList f = some fd)
  (hz : ∀ w,(sizeOf fd.type).run P w = .ok m w) (hm : m ≠ 0) : Y P n cx ρ E L o (.pointer (some (p.add fd.offset))):=fun ac w ha hs=>by
 simp only [execOp,hop,ha.ev hx] <;> simp [Instr.fieldAt,run_underlying' hT,qbj hf,Instr.sureAddr,fieldPlace,hz,hm,go_sem]
theorem Y.qbr {x y : Operand} {t e : TypeId} {k : IntKind} {j : Int} {A : Addr} {l c m q : Nat} (hop : o.op = .indexAddr t x y) (hx : evE E x = some (.slice (some A) l c)) (hy : evE E y = some (.int k j)) (hT : P.underlying t = some (.slice e))
  (hz : ∀ w,(sizeOf e).run P w = .ok m w) (h0 : 0 ≤ j) (h1 : j < l) (hq : j.toNat * m = q) : Y P n cx ρ E L o (.pointer (some (A.add q))):=fun ac w ha hs=>by
 subst hq
 simp only [execOp,hop,ha.ev hx,ha.ev hy] <;> simp [Instr.indexAt,asIntOf,run_underlying' hT,h0,h1,hz,go_sem]
def one : Value → Bool
 | .agg _ | .tuple _=>false
 | _=>true
theorem qfu {w : World} {b : Nat} {cs : Array Value} {T : TypeId} {fr : Nat × Nat} (h : w.heap[b]? = some (.cells cs T fr)) (off : Nat) : w.frozen? ⟨b,off,none⟩ = (fr.1 ≤ off && off < fr.2):=by
 obtain ⟨lo,hi⟩:=fr
 simp [World.frozen?,h]
theorem qch {w : World} {b : Nat} {cs : Array Value} {T : TypeId} {fr : Nat × Nat} (h : w.heap[b]? = some (.cells cs T fr)) (off : Nat) (v : Value) (p : Nat) :
  (w.setCell ⟨b,off,none⟩ v).heap[p]? = if p = b then some (.cells (cs.setIfInBounds off v) T fr) else w.heap[p]?:=by
 simp only [World.setCell,Array.getElem?_modify]
 by_cases hp : b = p
 ·subst hp; simp [h]
 ·have : ¬ p = b:=fun e=>hp e.symm
  simp [hp,this]
theorem St.store {w : World} (hs : St cx ρ L w) {j b : Nat} {cs : Array Value} {T : TypeId} {fr : Nat × Nat} (hj : look L j = some (Pt b (.cells cs T fr))) (off : Nat) (v : Value) :
  St cx ρ ((j,Pt b (.cells (cs.setIfInBounds off v) T fr)) :: L) (w.setCell ⟨b,off,none⟩ v):=by
 have hb:=hs.pt hj
 refine hs.set hj (fun k hk hkw=>⟨fun p=>if p = b then some (.cells (cs.setIfInBounds off v) T fr) else none,by simp [Pt],fun p o hp=>?_,fun p hp=>?_⟩) (by simp) rfl rfl rfl
 ·rw [qch hb]
  dsimp only at hp
  split at hp
  ·rename_i e; subst e; rw [if_pos rfl]; have : k p = some (.cells cs T fr):=hk; exact ⟨hp,by rw [this]; simp⟩
  ·cases hp
 ·rw [qch hb,if_neg]
  intro e; subst e
  have : k p = some (.cells cs T fr):=hk
  rw [this] at hp; cases hp
theorem qgc {t : TypeId} (hz : ∀ w,(sizeOf t).run P w = .ok 1 w) {a : Addr} {v old : Value} {w : World} (h1 : one v = true) (hc : w.cell? a = some old) (hf : w.frozen? a = false) :
  (Instr.storeAt t (.pointer (some a)) v).run P w = .ok () (w.setCell a v):=by
 cases v <;> simp [one] at h1 <;> simp [Instr.storeAt,Instr.sureAddr,storeVar,Value.cells,storeCells,store,Sem.run,Sem.run_bind,hz,hc,hf,Result.andThen,go_sem] <;> rfl
theorem Jp.store (j : Nat) {x y : Operand} {t : TypeId} {b off : Nat} {cs : Array Value} {T : TypeId} {fr : Nat × Nat} (hi : nth ops.toList i = some o) (hw : qgl n ops E o true) (he : o.dst = none)
  (hop : o.op = .store t x y) (hz : ∀ w,(sizeOf t).run P w = .ok 1 w) (hx : evE E x = some (.pointer (some ⟨b,off,none⟩))) (hy : evE E y = some v) (h1 : one v = true)
  (hj : look L j = some (Pt b (.cells cs T fr))) (hlt' : Nat.blt off cs.size = true) (hfr : (decide (fr.1 ≤ off) && decide (off < fr.2)) = false)
  (hk : Kp π S cx ρ ((j,Pt b (.cells (cs.setIfInBounds off v) T fr)) :: L)) (h : Jp P ops Q S n cx π ρ E ((j,Pt b (.cells (cs.setIfInBounds off v) T fr)) :: L)) :
  Jp P ops Q S n cx ((i,false) :: π) ρ E L:=by
 intro a w ha hs
 have hb:=hs.pt hj
 have hlt : off < cs.size:=by simpa [Nat.blt_eq] using hlt'
 have hc : w.cell? ⟨b,off,none⟩ = some cs[off]:=by simp [World.cell?,hb,hlt]
 have hr:=qgc (P:=P) hz (v:=v) h1 hc (by rw [qfu hb]; exact hfr)
 simp only [qfn,wpOp,qbj hi,hw a ha,if_true,Oper.wp,execOp,hop,ha.ev hx,ha.ev hy,Sem.run_bind,hr,Result.andThen_ok,Sem.run_pure,Oper.upon,he]
 have hs':=hs.store hj off v
 exact .inl ⟨hk.get hs',h _ _ ha hs'⟩
theorem Jp.box (m : Nat) {x : Operand} {t : TypeId} (d : Nat) (hi : nth ops.toList i = some o) (hw : qgl n ops E o true) (he : o.dst = some d) (hd : Nat.blt d n = true)
  (hop : o.op = .box t x) (hx : evE E x = some v)
  (h : ∀ b,Kp π S cx ρ ((m,Pt b (.cells v.cells t)) :: L) ∧ Jp P ops Q S n cx π ρ ((d,.pointer (some ⟨b,0,none⟩)) :: E) ((m,Pt b (.cells v.cells t)) :: L)) :
  Jp P ops Q S n cx ((i,false) :: π) ρ E L:=by
 intro a w ha hs
 have hr : (execOp a.eval o).run P w = .ok (.value (.pointer (some ⟨w.heap.size,0,none⟩))) { w with heap:=w.heap.push (.cells v.cells t) }:=by
  simp only [execOp,hop,ha.ev hx,Instr.box,newVar,newRow,newObj]; rfl
 simp only [qfn,wpOp,qbj hi,hw a ha,if_true,Oper.wp,hr,Oper.upon]
 obtain ⟨h1,h2⟩:=h w.heap.size
 have hs':=hs.alloc m (.cells v.cells t)
 exact .inl ⟨h1.get hs',h2 _ _ (ha.put' he hd _) hs'⟩
theorem Jp.alloc (m : Nat) {t : TypeId} (d : Nat) (hi : nth ops.toList i = some o) (hw : qgl n ops E o true) (he : o.dst = some d) (hd : Nat.blt d n = true)
  (hop : o.op = .alloc t) (hz : ∀ w,(zeroValue t).run P w = .ok v w)
  (h : ∀ b,Kp π S cx ρ ((m,Pt b (.cells v.cells t)) :: L) ∧ Jp P ops Q S n cx π ρ ((d,.pointer (some ⟨b,0,none⟩)) :: E) ((m,Pt b (.cells v.cells t)) :: L)) :
  Jp P ops Q S n cx ((i,false) :: π) ρ E L:=by
 intro a w ha hs
 have hr : (execOp a.eval o).run P w = .ok (.value (.pointer (some ⟨w.heap.size,0,none⟩))) { w with heap:=w.heap.push (.cells v.cells t) }:=by
  simp only [execOp,hop,Instr.alloc,newVar,newRow,newObj,Sem.run_bind,hz,Result.andThen_ok,Sem.run_pure]; rfl
 simp only [qfn,wpOp,qbj hi,hw a ha,if_true,Oper.wp,hr,Oper.upon]
 obtain ⟨h1,h2⟩:=h w.heap.size
 have hs':=hs.alloc m (.cells v.cells t)
 exact .inl ⟨h1.get hs',h2 _ _ (ha.put' he hd _) hs'⟩
end
end Go.Proofs.YtnfkalpgidiafaaGreat
set_option linter.unusedVariables false
set_option linter.unusedSimpArgs false
namespace Go.Proofs.YtnfkalpgidiafaaGreat
open Go
section
variable {P : Program} {Q : Exit → Act → World → Prop} {n : Nat} {cx : Cx} {ρ ρs : Hp} {E E' : Env} {L L' Ls : Own} {ops : Array Oper} {S : World → Prop} {π : List (Nat × Bool)} {i : Nat} {o : Oper} {v : Value}
theorem qdi {a : Act} {t k : Nat} {u x : Value} (ha : At n E a) (ht : look E t = some u) (e : look ((t,u) :: E) k = some x) : a.tmps[k]? = some x:=by
 rw [qag] at e
 split at e
 ·rename_i q; subst q; injection e with e; subst e; exact ha.slot _ _ ht
 ·exact ha.slot k x e
theorem Jp.split {c : Bool} (t : Nat) (ht : look E t = some (.bool c)) (h1 : c = true → Jp P ops Q S n cx π ρ ((t,.bool true) :: E) L) (h2 : c = false → Jp P ops Q S n cx π ρ ((t,.bool false) :: E) L) : Jp P ops Q S n cx π ρ E L:=by
 intro a w ha hs
 cases c with
 | true=>exact h1 rfl a w ⟨ha.defers,ha.size,fun u x e=>qdi ha ht e⟩ hs
 | false=>exact h2 rfl a w ⟨ha.defers,ha.size,fun u x e=>qdi ha ht e⟩ hs
theorem Jp.splitF {c : Bool} (t : Nat) (ht : look E t = some (.bool c)) (h2 : c = false → Jp P ops Q S n cx π ρ ((t,.bool false) :: E) L) (h1 : c = true → Jp P ops Q S n cx π ρ ((t,.bool true) :: E) L) : Jp P ops Q S n cx π ρ E L:=Jp.split t ht h1 h2
theorem Cd.qcw {c : Operand} {x y : Code} (hc : evE E c = some (.bool true)) (h : Cd P Q n cx ρ E L x) : Cd P Q n cx ρ E L (.cond c x y):=Cd.qar hc (fun _=>h) (fun e=>by cases e)
theorem Cd.qbz {c : Operand} {x y : Code} (hc : evE E c = some (.bool false)) (h : Cd P Q n cx ρ E L y) : Cd P Q n cx ρ E L (.cond c x y):=Cd.qar hc (fun e=>by cases e) (fun _=>h)
theorem Cd.condF' {c : Operand} {x y : Code} {b : Bool} (hc : evE E c = some (.bool b)) (hf : b = false → Cd P Q n cx ρ E L y) (ht : b = true → Cd P Q n cx ρ E L x) : Cd P Q n cx ρ E L (.cond c x y):=Cd.qar hc ht hf
theorem Jp.slot {u u' : Value} (t : Nat) (ht : look E t = some u) (e : u = u') (h : Jp P ops Q S n cx π ρ ((t,u') :: E) L) : Jp P ops Q S n cx π ρ E L:=by
 subst e
 exact fun a w ha hs=>h a w ⟨ha.defers,ha.size,fun k x e=>qdi ha ht e⟩ hs
theorem Cd.slot {c : Code} {u u' : Value} (t : Nat) (ht : look E t = some u) (e : u = u') (h : Cd P Q n cx ρ ((t,u') :: E) L c) : Cd P Q n cx ρ E L c:=by
 subst e
 exact fun a w ha hs=>h a w ⟨ha.defers,ha.size,fun k x e=>qdi ha ht e⟩ hs
theorem Runs.val {f : FuncId} {x : Operand} {xs : List Operand} {ts : Array TypeId} {vs cap : List Value} (hop : o.op = .call { callee:=.value x,args:=xs.toArray,argTypes:=ts }) (hx : evE E x = some (.func (.func f) #[] cap.toArray)) (hc : ∀ args w,(callFunc f args).run P w = .ok (.enter f args) w) (hxs : evL E xs = some vs) : Runs P n E o f (vs ++ cap):=fun a w ha=>by
 have:=ha.evs hxs
 simp only [execOp,hop,resolve,List.map_toArray,this,ha.ev hx,Deferred.ofValue,Sem.run_bind,Sem.run_pure,Result.andThen_ok,invoke,hc]
 simp
theorem Y.makeFunc {f : FuncId} {xs : List Operand} {vs : List Value} (hop : o.op = .makeFunc (.func f) #[] xs.toArray) (hxs : evL E xs = some vs) : Y P n cx ρ E L o (.func (.func f) #[] vs.toArray):=fun a w ha _=>by
 have:=ha.evs hxs
 simp only [execOp,hop,List.map_toArray,this,Instr.makeFunc]; rfl
theorem qcy (b off k : Nat) : (⟨b,off,none⟩ : Addr).add k = ⟨b,off + k,none⟩:=by
 unfold Addr.add; split
 ·rename_i h; subst h; rfl
 ·rfl
theorem add_add (a : Addr) (j k : Nat) : (a.add j).add k = a.add (j + k):=by
 unfold Addr.add
 by_cases hj : j = 0
 ·subst hj; simp
 ·by_cases hk : k = 0
  ·subst hk; simp [hj]
  ·have : j + k ≠ 0:=by omega
   simp [hj,hk,this,Nat.add_assoc]
theorem qdz {t : TypeId} {m : Nat} (hA : ∀ w,(isAgg t).run P w = .ok true w) (hz : ∀ w,(sizeOf t).run P w = .ok m w) {a : Addr} {cs : List Value} {w : World} (hm : cs.length = m) (hc : ∀ j v,cs[j]? = some v → w.cell? (a.add j) = some v) : (Instr.loadAt t (.pointer (some a))).run P w = .ok (.agg cs.toArray) w:=by
 subst hm
 simp only [Instr.loadAt,Instr.sureAddr,loadVar,Sem.run_bind,Sem.run_pure,Result.andThen_ok,hA,hz,if_true,run_loadCells_list w a cs hc]
def Cells (h : Hp) (a : Addr) (cs : List Value) : Prop:=∀ j v,cs[j]? = some v → qed h (a.add j) = some v
theorem Cells.up {h k : Hp} (l : Hp.le h k) {a : Addr} {cs : List Value} (c : Cells h a cs) : Cells k a cs:=fun j v e=>cellH_up l (c j v e)
theorem Y.loadAggR {x : Operand} {t : TypeId} {a : Addr} {m : Nat} (cs : List Value) (hop : o.op = .load t x) (hA : ∀ w,(isAgg t).run P w = .ok true w) (hz : ∀ w,(sizeOf t).run P w = .ok m w) (hx : evE E x = some (.pointer (some a))) (hm : cs.length = m) (hc : Cells ρ a cs) : Y P n cx ρ E L o (.agg cs.toArray):=fun ac w ha hs=>by
 simp only [execOp,hop,ha.ev hx,Sem.run_bind,qdz hA hz hm (fun j v e=>cell_of hs.rho (hc j v e)),Result.andThen_ok,Sem.run_pure]
theorem Y.qah (j : Nat) {x : Operand} {t : TypeId} {b m : Nat} {cs : List Value} {T : TypeId} {fr : Nat × Nat} (hop : o.op = .load t x) (hA : ∀ w,(isAgg t).run P w = .ok true w) (hz : ∀ w,(sizeOf t).run P w = .ok m w) (hx : evE E x = some (.pointer (some ⟨b,0,none⟩)))
  (hj : look L j = some (Pt b (.cells cs.toArray T fr))) (hm : cs.length = m) : Y P n cx ρ E L o (.agg cs.toArray):=fun ac w ha hs=>by
 have hb:=hs.pt hj
 have hc : ∀ k v,cs[k]? = some v → w.cell? ((⟨b,0,none⟩ : Addr).add k) = some v:=fun k v e=>by rw [qcy]; simp [World.cell?,hb,e]
 simp only [execOp,hop,ha.ev hx,Sem.run_bind,qdz hA hz hm hc,Result.andThen_ok,Sem.run_pure]
def spl (cur : Array Value) : Nat → List Value → Array Value
 | _,[]=>cur
 | k,v :: vs=>spl (cur.setIfInBounds k v) (k + 1) vs
theorem spl_size : ∀ (vs : List Value) (cur : Array Value) (k : Nat),(spl cur k vs).size = cur.size:=by
 intro vs
 induction vs with
 | nil=>intro cur k; rfl
 | cons v vs ih=>intro cur k; rw [spl,ih]; simp
theorem spl_get : ∀ (vs : List Value) (cur : Array Value) (k j : Nat),k + vs.length ≤ cur.size → (spl cur k vs)[j]? = if k ≤ j ∧ j < k + vs.length then vs[j - k]? else cur[j]?:=by
 intro vs
 induction vs with
 | nil=>intro cur k j h; rw [if_neg (by simp only [List.length_nil]; omega)]; rfl
 | cons v vs ih =>
  intro cur k j h
  simp only [List.length_cons] at h
  rw [spl,ih _ _ _ (by simp; omega)]
  by_cases h1 : k + 1 ≤ j ∧ j < k + 1 + vs.length
  ·rw [if_pos h1,if_pos (by simp; omega)]
   obtain ⟨q,hq⟩ : ∃ q,j - k = q + 1:=⟨j - k - 1,by omega⟩
   rw [hq,show j - (k + 1) = q by omega,List.getElem?_cons_succ]
  ·rw [if_neg h1]
   by_cases h2 : k = j
   ·subst h2
    rw [if_pos (by simp)]
    rw [Array.getElem?_setIfInBounds]
    simp
    omega
   ·rw [Array.getElem?_setIfInBounds_ne h2,if_neg (by simp; omega)]
def noFr (fr : Nat × Nat) (k : Nat) : Prop:=(decide (fr.1 ≤ k) && decide (k < fr.2)) = false
theorem qas (k : Nat) : noFr (0,0) k:=by simp [noFr]
theorem qgo {b : Nat} {T : TypeId} {fr : Nat × Nat} : ∀ (vs : List Value) (off i : Nat) (w : World) (cur : Array Value),w.heap[b]? = some (.cells cur T fr) → off + i + vs.length ≤ cur.size → (∀ v ∈ vs,one v = true) → (∀ k,off + i ≤ k → k < off + i + vs.length → noFr fr k) →
  ∃ w',(storeCells ⟨b,off,none⟩ vs i).run P w = .ok () w' ∧ w'.heap[b]? = some (.cells (spl cur (off + i) vs) T fr) ∧ (∀ p,p ≠ b → w'.heap[p]? = w.heap[p]?) ∧ w'.heap.size = w.heap.size ∧ w'.os = w.os ∧ w'.tape = w.tape ∧ w'.output = w.output:=by
 intro vs
 induction vs with
 | nil=>intro off i w cur hb hl h1 hf; exact ⟨w,rfl,hb,fun _ _=>rfl,rfl,rfl,rfl,rfl⟩
 | cons v vs ih =>
  intro off i w cur hb hl h1 hf
  simp only [List.length_cons] at hl hf
  have hc : w.cell? ⟨b,off + i,none⟩ = some (cur[off + i]'(by omega)):=by simp [World.cell?,hb]
  have hfz : w.frozen? ⟨b,off + i,none⟩ = false:=by rw [qfu hb]; exact hf _ (Nat.le_refl _) (by omega)
  have hst : (store ⟨b,off + i,none⟩ v).run P w = .ok () (w.setCell ⟨b,off + i,none⟩ v):=by
   have h1v:=h1 v (List.mem_cons_self ..)
   cases v <;> simp [one] at h1v <;> simp [store,Sem.run,hc,hfz]
  have hb' : (w.setCell ⟨b,off + i,none⟩ v).heap[b]? = some (.cells (cur.setIfInBounds (off + i) v) T fr):=by rw [qch hb,if_pos rfl]
  obtain ⟨w',hr,g1,g2,g3,g4,g5,g6⟩:=ih off (i + 1) (w.setCell ⟨b,off + i,none⟩ v) _ hb' (by simp; omega) (fun u hu=>h1 u (List.mem_cons_of_mem _ hu)) (fun k hk1 hk2=>hf k (by omega) (by omega))
  refine ⟨w',?_,?_,fun p hp=>?_,by rw [g3]; simp,g4,g5,g6⟩
  ·simp only [storeCells,qcy,Sem.run_bind,hst,Result.andThen_ok,hr]
  ·rw [g1]; rfl
  ·rw [g2 p hp,qch hb,if_neg hp]
theorem St.turn {w w' : World} (hs : St cx ρ L w) {j b : Nat} {o o' : Obj} (hj : look L j = some (Pt b o)) (g1 : w'.heap[b]? = some o') (g2 : ∀ p,p ≠ b → w'.heap[p]? = w.heap[p]?) (g3 : w'.heap.size = w.heap.size) (g4 : w'.os = w.os) (g5 : w'.tape = w.tape) (g6 : w'.output = w.output) :
  St cx ρ ((j,Pt b o') :: L) w':=by
 refine hs.set hj (fun k hk hkw=>⟨fun p=>if p = b then some o' else none,by simp [Pt],fun p ob hp=>?_,fun p hp=>?_⟩) g3 g4 g5 g6
 ·dsimp only at hp
  split at hp
  ·rename_i e; subst e; injection hp with hp; subst hp; have : k p = some o:=hk; exact ⟨g1,by rw [this]; simp⟩
  ·cases hp
 ·refine g2 p fun e=>?_
  subst e
  have : k p = some o:=hk
  rw [this] at hp; cases hp
theorem Jp.qcb (j : Nat) {x y : Operand} {t : TypeId} {b off m : Nat} {cur : Array Value} {cs : List Value} {T : TypeId} {fr : Nat × Nat} (hi : nth ops.toList i = some o) (hw : qgl n ops E o true) (he : o.dst = none)
  (hop : o.op = .store t x y) (hz : ∀ w,(sizeOf t).run P w = .ok m w) (hx : evE E x = some (.pointer (some ⟨b,off,none⟩))) (hy : evE E y = some (.agg cs.toArray)) (h1' : cs.all one = true) (hm : cs.length = m)
  (hj : look L j = some (Pt b (.cells cur T fr))) (hlt' : Nat.ble (off + m) cur.size = true) (hfr : ∀ k,off ≤ k → k < off + m → noFr fr k)
  (hk : Kp π S cx ρ ((j,Pt b (.cells (spl cur off cs) T fr)) :: L)) (h : Jp P ops Q S n cx π ρ E ((j,Pt b (.cells (spl cur off cs) T fr)) :: L)) :
  Jp P ops Q S n cx ((i,false) :: π) ρ E L:=by
 intro a w ha hs
 have hb:=hs.pt hj
 have hlt:=Nat.le_of_ble_eq_true hlt'
 have h1 : ∀ v ∈ cs,one v = true:=List.all_eq_true.1 h1'
 subst hm
 obtain ⟨w',hr,g1,g2,g3,g4,g5,g6⟩:=qgo (P:=P) cs off 0 w cur hb (by omega) h1 (fun k a b=>hfr k (by omega) (by omega))
 have hr2 : (Instr.storeAt t (.pointer (some ⟨b,off,none⟩)) (.agg cs.toArray)).run P w = .ok () w':=by
  simp only [Instr.storeAt,Instr.sureAddr,storeVar,Value.cells,Sem.run_bind,Sem.run_pure,Result.andThen_ok,hz,List.size_toArray,ne_eq,not_true_eq_false,if_false,hr]
 simp only [qfn,wpOp,qbj hi,hw a ha,if_true,Oper.wp,execOp,hop,ha.ev hx,ha.ev hy,Sem.run_bind,hr2,Result.andThen_ok,Sem.run_pure,Oper.upon,he]
 have hs':=hs.turn hj g1 g2 g3 g4 g5 g6
 exact .inl ⟨hk.get hs',h _ _ ha hs'⟩
theorem Y.build {t : TypeId} {parts : List (Nat × Operand)} {pv : List (Nat × Value)} (hop : o.op = .build t parts.toArray) (hp : parts.map (fun p=>(p.1,evE E p.2)) = pv.map (fun p=>(p.1,some p.2)))
  (hr : ∀ w,(Instr.build t pv.toArray).run P w = .ok v w) : Y P n cx ρ E L o v:=fun a w ha hs=>by
 have h1 : parts.map (fun p=>(p.1,a.eval p.2)) = pv:=by
  clear hr hop
  induction parts generalizing pv with
  | nil=>cases pv with
   | nil=>rfl
   | cons q qs=>simp at hp
  | cons p ps ih =>
   cases pv with
   | nil=>simp at hp
   | cons q qs =>
    simp only [List.map_cons,List.cons.injEq,Prod.mk.injEq] at hp
    rw [List.map_cons,ih hp.2,ha.ev hp.1.2,hp.1.1]
 simp only [execOp,hop,List.map_toArray,h1,Sem.run_bind,hr,Result.andThen_ok,Sem.run_pure]
def splL (cur : List Value) : Nat → List Value → List Value
 | _,[]=>cur
 | k,v :: vs=>splL (cur.set k v) (k + 1) vs
def qha (place : Nat → Option (Nat × Nat)) (cells : List Value) : List (Nat × Value) → Option (List Value)
 | []=>some cells
 | (i,v) :: rest =>
  match place i with
  | none=>none
  | some (off,size)=>cond (Nat.beq v.cells.toList.length size && Nat.ble (off + v.cells.toList.length) cells.length) (qha place (splL cells off v.cells.toList) rest) none
theorem splL_eq (off : Nat) : ∀ (vs : List Value) (j : Nat) (cells : Array Value),((vs.zipIdx j).foldl (fun cs (p : Value × Nat)=>cs.setIfInBounds (off + p.2) p.1) cells) = (splL cells.toList (off + j) vs).toArray:=by
 intro vs
 induction vs with
 | nil=>intro j cells; simp [splL]
 | cons v vs ih =>
  intro j cells
  rw [List.zipIdx_cons,List.foldl_cons,ih,splL]
  simp [Nat.add_assoc]
theorem fillL_eq (place : Nat → Option (Nat × Nat)) : ∀ (pv : List (Nat × Value)) (cells : Array Value) (r : List Value),qha place cells.toList pv = some r → Instr.fill place cells pv = some r.toArray:=by
 intro pv
 induction pv with
 | nil=>intro cells r h; simp only [qha] at h; injection h with h; subst h; rfl
 | cons p pv ih =>
  obtain ⟨i,v⟩:=p
  intro cells r h
  simp only [qha] at h
  simp only [Instr.fill]
  cases hp : place i with
  | none=>simp [hp] at h
  | some q =>
   obtain ⟨off,size⟩:=q
   simp only [hp] at h ⊢
   cases hc : (Nat.beq v.cells.toList.length size && Nat.ble (off + v.cells.toList.length) cells.toList.length) with
   | false=>rw [hc] at h; cases h
   | true =>
    rw [hc] at h
    simp only [cond_true] at h
    simp only [Bool.and_eq_true] at hc
    have h1:=Nat.eq_of_beq_eq_true hc.1
    have h2:=Nat.le_of_ble_eq_true hc.2
    simp only [Array.length_toList] at h1 h2
    have h3 : ¬ ((decide (v.cells.size ≠ size) || decide (off + v.cells.size > cells.size)) = true):=by
     simp [h1]; omega
    rw [if_neg h3]
    refine ih _ r ?_
    have e:=splL_eq off v.cells.toList 0 cells
    rw [← Array.foldl_toList,Array.toList_zipIdx]
    rw [e]
    simpa using h
def qev (P : Program) (t : TypeId) (pl : List (Nat × Nat)) : Prop:=∃ fs,P.underlying t = some (.struct fs) ∧ ∀ w,(fs.mapM fun f=>do pure (f.offset,← sizeOf f.type) : Sem (Array (Nat × Nat))).run P w = .ok pl.toArray w
theorem Y.struct {t : TypeId} {parts : List (Nat × Operand)} {z : Value} {pl : List (Nat × Nat)} (pv : List (Nat × Value)) (cells : List Value) (hop : o.op = .build t parts.toArray) (hp : parts.map (fun p=>(p.1,evE E p.2)) = pv.map (fun p=>(p.1,some p.2)))
  (hpl : qev P t pl) (hzero : ∀ w,(zeroValue t).run P w = .ok z w) (hfill' : qha (nth pl) z.cells.toList pv = some cells) : Y P n cx ρ E L o (.agg cells.toArray):=by
 refine Y.build hop hp fun w=>?_
 have e : (nth pl) = (pl.toArray[·]?):=by funext k; rw [nth_eq]; simp
 rw [e] at hfill'
 have hfill:=fillL_eq _ _ _ _ hfill'
 obtain ⟨fs,h1,h2⟩:=hpl
 simp only [Instr.build,Sem.run_bind,hzero,Result.andThen_ok,run_underlying h1,h2,hfill,Sem.run_pure]
def RdS (m : Nat) (A : Option Addr) (k c : Nat) (cs : List Value) : qax:=fun h=>cs.length = k * m ∧ (k ≤ c ∧ k ≤ 281474976710656) ∧ ∀ j v,cs[j]? = some v → ∃ ad,A = some ad ∧ qed h (ad.add j) = some v
theorem RdS.up (m : Nat) (A : Option Addr) (k c : Nat) (cs : List Value) : Up (RdS m A k c cs):=fun h l hle ⟨a,a',b⟩=>⟨a,a',fun j v e=>let ⟨ad,e1,e2⟩:=b j v e; ⟨ad,e1,cellH_up hle e2⟩⟩
theorem RdS.nil (m : Nat) (h : Hp) : RdS m none 0 0 [] h:=⟨by simp,by omega,fun j v e=>by simp at e⟩
theorem RdS.some {m : Nat} {A : Option Addr} {k c : Nat} {cs : List Value} {h : Hp} (r : RdS m A k c cs h) (hk : 0 < k * m) : ∃ ad,A = some ad:=by
 have : 0 < cs.length:=by rw [r.1]; exact hk
 obtain ⟨ad,e,_⟩:=r.2.2 0 cs[0] (by simp [this])
 exact ⟨ad,e⟩
theorem RdS.none {m k c : Nat} {cs : List Value} {h : Hp} (r : RdS m Option.none k c cs h) : cs = []:=by
 cases cs with
 | nil=>rfl
 | cons x xs=>obtain ⟨ad,e,_⟩:=r.2.2 0 x rfl; cases e
theorem RdS.cell {m : Nat} {ad : Addr} {k c : Nat} {cs : List Value} {h : Hp} (r : RdS m (Option.some ad) k c cs h) {j : Nat} {v : Value} (e : cs[j]? = Option.some v) : qed h (ad.add j) = Option.some v:=by
 obtain ⟨ad',e1,e2⟩:=r.2.2 j v e
 injection e1 with e1; subst e1; exact e2
theorem RdS.take {m : Nat} {A : Option Addr} {k c : Nat} {cs : List Value} {h : Hp} (r : RdS m A k c cs h) {l : Nat} (hl : l ≤ k) : RdS m A l c (cs.take (l * m)) h:=by
 refine ⟨?_,⟨by have:=r.2.1; omega,by have:=r.2.1; omega⟩,fun j v e=>?_⟩
 ·rw [List.length_take,r.1]; exact Nat.min_eq_left (Nat.mul_le_mul_right m hl)
 ·rw [List.getElem?_take] at e
  split at e
  ·exact r.2.2 j v e
  ·cases e
def cutA (A : Option Addr) (c lo m : Nat) : Option Addr:=if c = lo then A else A.map (·.add (lo * m))
theorem RdS.drop {m : Nat} {A : Option Addr} {k c : Nat} {cs : List Value} {h : Hp} (r : RdS m A k c cs h) {lo : Nat} (hl : lo ≤ k) : RdS m (cutA A c lo m) (k - lo) (c - lo) (cs.drop (lo * m)) h:=by
 refine ⟨?_,⟨by have:=r.2.1; omega,by have:=r.2.1; omega⟩,fun j v e=>?_⟩
 ·rw [List.length_drop,r.1,Nat.sub_mul]
 ·rw [List.getElem?_drop] at e
  obtain ⟨ad,e1,e2⟩:=r.2.2 _ v e
  subst e1
  have hlt:=(List.getElem?_eq_some_iff.1 e).1
  rw [r.1] at hlt
  have hne : ¬ c = lo:=fun q=>by
   have h1:=r.2.1.1
   have : k = lo:=by omega
   subst this; omega
  exact ⟨ad.add (lo * m),by simp [cutA,hne],by rw [add_add]; exact e2⟩
def OwnS (e : TypeId) (m : Nat) (A : Option Addr) (k c : Nat) (cs : List Value) : qax:=fun h=>(cs.length = k * m ∧ k ≤ 281474976710656) ∧
 ((A = none ∧ k = 0 ∧ c = 0) ∨ ∃ b cur fr,A = some ⟨b,0,none⟩ ∧ h b = some (.cells cur e fr) ∧ cur.size = c * m ∧ k ≤ c ∧ (∀ j,j < k * m → cur[j]? = cs[j]?) ∧ ∀ j,j < c * m → noFr fr j)
theorem OwnS.up (e : TypeId) (m : Nat) (A : Option Addr) (k c : Nat) (cs : List Value) : Up (OwnS e m A k c cs) := fun h l hle ⟨a, b⟩ => ⟨a, by
 rcases b with b | ⟨b,cur,fr,h1,h2,h3⟩
 ·exact .inl b
 ·exact .inr ⟨b, cur, fr, h1, hle _ _ h2, h3⟩⟩
theorem OwnS.rd {e : TypeId} {m : Nat} {A : Option Addr} {k c : Nat} {cs : List Value} {h : Hp} (r : OwnS e m A k c cs h) : RdS m A k c cs h := ⟨r.1.1, ⟨by rcases r.2 with ⟨_, h2, h3⟩ | ⟨b, cur, fr, h1, h2, h3, h4, _⟩ <;> omega, r.1.2⟩, fun j v hj => by
 have hlt : j < k * m:=by have:=(List.getElem?_eq_some_iff.1 hj).1; rw [r.1.1] at this; exact this
 rcases r.2 with ⟨h1,h2,_⟩ | ⟨b,cur,fr,h1,h2,h3,h4,h5,h6⟩
 ·subst h2; simp at hlt
 ·refine ⟨_,h1,?_⟩
  rw [qcy]
  simp [qed, h2, h5 j hlt, hj]⟩
theorem OwnS.nil (e : TypeId) (m : Nat) (h : Hp) : OwnS e m none 0 0 [] h:=⟨⟨by simp,by omega⟩,.inl ⟨rfl,rfl,rfl⟩⟩
def qaf (l : List UInt8) : List Value:=l.map fun b=>.int .u8 b.toNat
def Src (P : Program) (cx : Cx) (ρ : Hp) (L : Own) (m k : Nat) (u : Value) (cs : List Value) : Prop:=(∀ w,(Builtin.lenOf u).run P w = .ok k w) ∧ ∀ w,St cx ρ L w → cs.length = k * m ∧ (Builtin.firstCells m k u).run P w = .ok cs.toArray w
theorem qhh {w : World} {m k : Nat} {A : Option Addr} {c : Nat} {cs : List Value} {h : Hp} (hw : ∀ b o,h b = some o → w.heap[b]? = some o) (r : RdS m A k c cs h) : (Builtin.firstCells m k (.slice A k c)).run P w = .ok cs.toArray w:=by
 cases A with
 | none =>
  have : cs = []:=by
   cases cs with
   | nil=>rfl
   | cons x xs=>obtain ⟨ad,e,_⟩:=r.2.2 0 x rfl; cases e
  subst this; rfl
 | some ad =>
  simp only [Builtin.firstCells]
  rw [← r.1]
  exact run_loadCells_list w ad cs fun j v e=>cell_of hw (r.cell e)
theorem qbe (l : List UInt8) : (qaf l).all one = true:=by
 rw [List.all_eq_true]; intro v hv; obtain ⟨x,_,rfl⟩:=List.mem_map.1 hv; rfl
theorem Src.rd {m k c : Nat} {A : Option Addr} {cs : List Value} (r : RdS m A k c cs ρ) : Src P cx ρ L m k (.slice A k c) cs:=⟨fun w=>rfl,fun w hs=>⟨r.1,qhh hs.rho r⟩⟩
theorem Src.own (j : Nat) {e : TypeId} {m k c : Nat} {A : Option Addr} {cs : List Value} (hj : look L j = some (OwnS e m A k c cs)) : Src P cx ρ L m k (.slice A k c) cs :=
 ⟨fun w=>rfl,fun w hs=>let ⟨h,ha,hw⟩:=hs.get hj; ⟨ha.1.1,qhh hw ha.rd⟩⟩
theorem Src.str {s : ByteArray} : Src P cx ρ L 1 s.size (.string s) (qaf s.data.toList):=by
 refine ⟨fun w=>rfl,fun w hs=>⟨?_,?_⟩⟩
 ·rw [qaf,List.length_map,Array.length_toList,Nat.mul_one]; rfl
 have h1 : (s.extract 0 s.size).data = s.data:=by
  rw [ByteArray.data_extract]
  exact Array.extract_size
 simp only [Builtin.firstCells,h1]
 show Result.ok _ w = _
 congr 1
 rw [qaf,← Array.toList_map,Array.toArray_toList]
theorem Src.nil {m : Nat} : Src P cx ρ L m 0 (.slice none 0 0) []:=⟨fun w=>rfl,fun w hs=>⟨by simp,rfl⟩⟩
theorem run_bound {w : World} {k : IntKind} {lo : Nat} {y : Nat} {code : BoundsCode} (h : lo ≤ y) : (Instr.sliceBound (.int k (lo : Int)) y code).run P w = .ok lo w:=by
 have h1 : (0 : Int) ≤ (lo : Int) ∧ (lo : Int) ≤ (y : Int):=by omega
 simp only [Instr.sliceBound,asIntOf,Sem.run_bind,Sem.run_pure,Result.andThen_ok,h1,and_self,if_true,Int.toNat_natCast]
theorem Y.sliceTo {x y : Operand} {t e : TypeId} {k : IntKind} {A : Option Addr} {l c m hi : Nat} {z : Int} (hop : o.op = .slice t x none (some y) none) (hx : evE E x = some (.slice A l c)) (hy : evE E y = some (.int k z)) (hT : P.underlying t = some (.slice e)) (hz : ∀ w,(sizeOf e).run P w = .ok m w)
  (hzi : z = (hi : Int)) (h1 : hi ≤ c) : Y P n cx ρ E L o (.slice A hi c):=fun ac w ha hs=>by
 subst hzi
 have e1 : (if c = 0 then A else A.map fun a=>a.add (0 * m)) = A:=by
  split
  ·rfl
  ·cases A <;> simp [Addr.add]
 simp only [execOp,hop,Option.map_some,Option.map_none,ha.ev hx,ha.ev hy,Instr.sliceAt,Instr.slice,Instr.sliceBounds,Sem.run_bind,Sem.run_pure,Result.andThen_ok,run_underlying hT,run_bound h1,hz,if_true,e1,Nat.sub_zero]
theorem OwnS.length {e : TypeId} {m : Nat} {A : Option Addr} {k c : Nat} {cs : List Value} {h : Hp} (r : OwnS e m A k c cs h) : cs.length = k * m:=r.1.1
theorem growBy_le : ∀ (r c newLen : Nat),c < newLen → Builtin.growBy newLen r c ≤ 2 * newLen + 1000:=by
 intro r
 induction r with
 | zero=>intro c newLen h; simp [Builtin.growBy]; omega
 | succ r ih =>
  intro c newLen h
  simp only [Builtin.growBy]
  rw [if_neg (by omega)]
  by_cases h2 : c + (c + 768) / 4 < newLen
  ·exact ih _ _ h2
  ·cases r with
   | zero=>simp only [Builtin.growBy]; omega
   | succ r=>simp only [Builtin.growBy]; rw [if_pos (by omega)]; omega
theorem nextcap_le (need c : Nat) (h : c < need) : Builtin.nextslicecap need c ≤ 2 * need + 1000:=by
 unfold Builtin.nextslicecap
 split
 ·omega
 ·split
  ·omega
  ·exact growBy_le 4 c need h
theorem St.allocA {w : World} (hs : St cx ρ L w) (j : Nat) {A : qax} (ob : Obj) (hA : ∀ h : Hp,h w.heap.size = some ob → A h) : St cx ρ ((j,A) :: L) { w with heap:=w.heap.push ob }:=by
 have h5:=(hs.alloc j ob).imp (i:=j) (A':=A) (by rw [qag]; simp; rfl) fun h hp=>hA h hp
 refine h5.subF fun k B e=>?_
 rw [qag] at e ⊢
 split at e
 ·rename_i q; rw [if_pos q]; exact e
 ·rename_i q; rw [if_neg q,qag,if_neg q]; exact e
theorem St.drawn {w : World} (hs : St cx ρ L w) (d : Nat) : St cx ρ L { w with drawn:=d }:=⟨hs.ex,hs.rho,hs.rle,hs.rdom,hs.size,hs.frame,hs.os,hs.tape,hs.output⟩
theorem St.setA {w w' : World} (hs : St cx ρ L w) {j b : Nat} {ob ob' : Obj} {A A' : qax} (hj : look L j = some A) (hA : ∀ h : Hp,A h → (∀ b o,h b = some o → w.heap[b]? = some o) → h b = some ob) (hA' : ∀ h : Hp,h b = some ob' → A' h)
  (g1 : w'.heap[b]? = some ob') (g2 : ∀ p,p ≠ b → w'.heap[p]? = w.heap[p]?) (g3 : w'.heap.size = w.heap.size) (g4 : w'.os = w.os) (g5 : w'.tape = w.tape) (g6 : w'.output = w.output) : St cx ρ ((j,A') :: L) w':=by
 have h1 : St cx ρ ((j,Pt b ob) :: L) w:=hs.set hj (fun k a hk=>⟨k,hA k a hk,fun b o hb=>⟨hk b o hb,by rw [hb]; simp⟩,fun _ _=>rfl⟩) rfl rfl rfl rfl
 have h2:=h1.turn (j:=j) (o:=ob) (by rw [qag]; simp) g1 g2 g3 g4 g5 g6
 have h3:=h2.imp (i:=j) (A':=A') (by rw [qag]; simp; rfl) fun h hh=>hA' h hh
 refine h3.subF fun k B e=>?_
 rw [qag] at e ⊢
 split at e
 ·rename_i q; rw [if_pos q]; exact e
 ·rename_i q; rw [if_neg q,qag,if_neg q,qag,if_neg q]; exact e
theorem eq_ptr {t e : TypeId} (d : Nat) {A : Option Addr} (hT : P.underlying t = some (.pointer e)) (w : World) : (Op.equalIn (d + 1) t (.pointer A) (.pointer none)).run P w = .ok A.isNone w:=by
 unfold Op.equalIn
 simp only [Sem.run_bind,run_underlying hT,Result.andThen_ok]
 cases A <;> rfl
theorem equal_eq (t : TypeId) (x y : Value) : Op.equal t x y = Op.equalIn (9999 + 1) t x y:=rfl
theorem Y.qeu {x y : Operand} {t u e : TypeId} {A : Option Addr} (hop : o.op = .binOp .eql t x y u) (hT : P.underlying t = some (.pointer e)) (hx : evE E x = some (.pointer A)) (hy : evE E y = some (.pointer none)) : Y P n cx ρ E L o (.bool A.isNone):=fun ac w ha _=>by
 simp only [execOp,hop,ha.ev hx,ha.ev hy,eqGuard,binOp,equal_eq,Sem.run_bind,Sem.run_pure,Result.andThen_ok,eq_ptr _ hT]
 rfl
theorem Y.ptrNotNil {x y : Operand} {t u e : TypeId} {A : Option Addr} (hop : o.op = .binOp .neq t x y u) (hT : P.underlying t = some (.pointer e)) (hx : evE E x = some (.pointer A)) (hy : evE E y = some (.pointer none)) : Y P n cx ρ E L o (.bool (!A.isNone)):=fun ac w ha _=>by
 simp only [execOp,hop,ha.ev hx,ha.ev hy,eqGuard,binOp,equal_eq,Sem.run_bind,Sem.run_pure,Result.andThen_ok,eq_ptr _ hT]
 rfl
theorem St.make {w : World} (hs : St cx ρ L w) (j : Nat) {A : qax} (hA : A Hp.emp) : St cx ρ ((j,A) :: L) w:=by
 obtain ⟨H,a,b,c,d⟩:=hs.ex
 refine { hs with ex:=⟨fun i=>if i = j then Hp.emp else H i,fun i B e=>?_,fun x y hxy=>?_,fun x=>?_,fun x p o hp=>?_⟩ }
 ·rw [qag] at e
  by_cases hi : i = j
  ·subst hi; simp at e; subst e; simpa using hA
  ·rw [if_neg (Ne.symm hi)] at e; simpa [hi] using a i B e
 ·by_cases hx : x = j
  ·simp only [hx,if_true]; exact Hp.emp_disj _
  ·by_cases hy : y = j
   ·simp only [hx,hy,if_true,if_false]; exact Hp.disj_emp _
   ·simp only [hx,hy,if_false]; exact b x y hxy
 ·by_cases hx : x = j
  ·simp only [hx,if_true]; exact Hp.emp_disj _
  ·simp only [hx,if_false]; exact c x
 ·by_cases hx : x = j
  ·simp [hx,Hp.emp] at hp
  ·simp only [hx,if_false] at hp; exact d x p o hp
theorem Cd.make {c : Code} (j : Nat) {A : qax} (hA : A Hp.emp) (h : Cd P Q n cx ρ E ((j,A) :: L) c) : Cd P Q n cx ρ E L c:=fun a w ha hs=>h a w ha (hs.make j hA)
theorem Jp.make (j : Nat) {A : qax} (hA : A Hp.emp) (h : Jp P ops Q S n cx π ρ E ((j,A) :: L)) : Jp P ops Q S n cx π ρ E L:=fun a w ha hs=>h a w ha (hs.make j hA)
def litZ (k m : Nat) (zs : List Value) : List Value:=(List.range k).map fun x=>(nth zs (x % m)).getD undef
theorem Jp.lit (d j : Nat) {t e : TypeId} {len m : Nat} {z : Value} {parts : List (Nat × Operand)} (pv : List (Nat × Value)) (cells : List Value) (hi : nth ops.toList i = some o) (hw : qgl n ops E o true) (he : o.dst = some d) (hd : Nat.blt d n = true)
  (hop : o.op = .buildSlice t len parts.toArray) (hp : parts.map (fun p=>(p.1,evE E p.2)) = pv.map (fun p=>(p.1,some p.2))) (hT : P.underlying t = some (.slice e)) (hz : ∀ w,(sizeOf e).run P w = .ok m w) (hzero : ∀ w,(zeroValue e).run P w = .ok z w)
  (hsm : Nat.ble (len * m) 16777216 = true) (hzm : z.cells.toList.length = m) (hfill' : qha (fun i=>some (i * m,m)) (litZ (len * m) m z.cells.toList) pv = some cells) (hlen : cells.length = len * m) (hl : Nat.ble len 281474976710656 = true)
  (h : ∀ b,Kp π S cx ρ ((j,OwnS e m (some ⟨b,0,none⟩) len len cells) :: L) ∧ Jp P ops Q S n cx π ρ ((d,.slice (some ⟨b,0,none⟩) len len) :: E) ((j,OwnS e m (some ⟨b,0,none⟩) len len cells) :: L)) :
  Jp P ops Q S n cx ((i,false) :: π) ρ E L:=by
 intro a w ha hs
 have hsm':=Nat.le_of_ble_eq_true hsm
 have h1 : parts.map (fun p=>(p.1,a.eval p.2)) = pv:=by
  clear hop hfill'
  induction parts generalizing pv with
  | nil=>cases pv with
   | nil=>rfl
   | cons q qs=>simp at hp
  | cons p ps ih =>
   cases pv with
   | nil=>simp at hp
   | cons q qs =>
    simp only [List.map_cons,List.cons.injEq,Prod.mk.injEq] at hp
    rw [List.map_cons,ih qs hp.2,ha.ev hp.1.2,hp.1.1]
 have hnl : ¬ (len * m > 2 ^ 24):=by omega
 have hr : (execOp a.eval o).run P w = .ok (.value (.slice (some ⟨w.heap.size,0,none⟩) len len)) { w with heap:=w.heap.push (.cells cells.toArray e) }:=by
  simp only [execOp,hop,List.map_toArray,h1,Instr.buildSlice,Sem.run_bind,run_underlying hT,Result.andThen_ok,hz,hnl,if_false]
  have hlz : ∀ (zero : Array Value),(len * m ≠ 0 → zero = z.cells) → ((Array.range (len * m)).map (zero[· % zero.size]!)).toList = litZ (len * m) m z.cells.toList:=fun zero hzz=>by
   rw [Array.toList_map,Array.toList_range,litZ]
   refine List.map_congr_left fun x hx=>?_
   have hx:=List.mem_range.1 hx
   have hz1:=hzz (by omega)
   subst hz1
   have hm : z.cells.size = m:=by rw [← hzm,Array.length_toList]
   have h0 : 0 < m:=by
    rcases Nat.eq_zero_or_pos m with q | q
    ·subst q; simp at hx
    ·exact q
   have hlt : x % m < z.cells.size:=by rw [hm]; exact Nat.mod_lt _ h0
   rw [nth_eq,hm,getElem!_pos z.cells (x % m) hlt]
   simp [hlt]
  by_cases hlm : len * m = 0
  ·have hfill:=fillL_eq (fun i=>some (i * m,m)) pv ((Array.range (len * m)).map ((#[] : Array Value)[· % (#[] : Array Value).size]!)) cells (by rw [hlz #[] (fun q=>absurd hlm q)]; exact hfill')
   simp only [hlm,if_true] at hfill ⊢
   simp only [Sem.run_bind,Sem.run_pure,Result.andThen_ok,hfill,newRow,newObj,Sem.run]
  ·have hfill:=fillL_eq (fun i=>some (i * m,m)) pv ((Array.range (len * m)).map (z.cells[· % z.cells.size]!)) cells (by rw [hlz z.cells (fun _=>rfl)]; exact hfill')
   simp only [hlm,if_false] at ⊢
   simp only [Sem.run_bind,hzero,Sem.run_pure,Result.andThen_ok,hfill,newRow,newObj,Sem.run]
 obtain ⟨h2,h3⟩:=h w.heap.size
 simp only [qfn,wpOp,qbj hi,hw a ha,if_true,Oper.wp,hr,Oper.upon]
 have hs':=hs.allocA j (A:=OwnS e m (some ⟨w.heap.size,0,none⟩) len len cells) (.cells cells.toArray e) fun h' hh' =>
  ⟨⟨hlen,Nat.le_of_ble_eq_true hl⟩,.inr ⟨w.heap.size,_,(0,0),rfl,hh',by simpa using hlen,Nat.le_refl _,fun q _=>by simp,fun q _=>qas q⟩⟩
 exact .inl ⟨h2.get hs',h3 _ _ (ha.put' he hd _) hs'⟩
theorem append_room {sT xT e : TypeId} {dx : TypeDesc} {m k l c : Nat} {A : Option Addr} {u : Value} {new : List Value} {w w' : World} (t : TypeId) (hsT : P.underlying sT = some (.slice e)) (hxT : P.underlying xT = some dx) (hdx : (∃ e',dx = .slice e') ∨ dx = .string)
  (hz : ∀ w,(sizeOf e).run P w = .ok m w) (hsl : ∀ w,(Builtin.lenOf u).run P w = .ok l w) (hsc : (Builtin.firstCells m l u).run P w = .ok new.toArray w) (hfit : k + l ≤ c)
  (hst : ∀ a,A = some a → (storeCells (a.add (k * m)) new).run P w = .ok () w') (hn : A = none → w' = w) : (Builtin.append_ #[sT,xT] t #[.slice A k c,u]).run P w = .ok (.slice A (k + l) c) w':=by
 have h0 : (#[sT,xT] : Array TypeId)[0]? = some sT:=rfl
 have h1 : (#[sT,xT] : Array TypeId)[1]? = some xT:=rfl
 have h2 : (#[.slice A k c,u] : Array Value)[0]? = some (.slice A k c):=rfl
 have h3 : (#[.slice A k c,u] : Array Value)[1]? = some u:=rfl
 unfold Builtin.append_
 rw [h0,h1,h2,h3]
 cases A with
 | none =>
  have:=hn rfl
  subst this
  rcases hdx with ⟨e',rfl⟩ | rfl <;> simp only [Sem.run_bind,run_underlying hsT,run_underlying hxT,Result.andThen_ok,hz,Sem.run_pure,hsl,hsc,Bool.false_eq_true,if_false,Bool.not_false,if_true,hfit]
 | some a =>
  have:=hst a rfl
  rcases hdx with ⟨e',rfl⟩ | rfl <;> simp only [Sem.run_bind,run_underlying hsT,run_underlying hxT,Result.andThen_ok,hz,Sem.run_pure,hsl,hsc,Bool.false_eq_true,if_false,Bool.not_false,if_true,hfit,this]
theorem append_grow {sT xT e : TypeId} {dx : TypeDesc} {m k l c : Nat} {A : Option Addr} {u z : Value} {old new : List Value} {ti : TypeInfo} {w : World} (t : TypeId) (hsT : P.underlying sT = some (.slice e)) (hxT : P.underlying xT = some dx) (hdx : (∃ e',dx = .slice e') ∨ dx = .string)
  (hz : ∀ w,(sizeOf e).run P w = .ok m w) (hti : ∀ w,(typeInfo e).run P w = .ok ti w) (hB0 : ti.bytes ≠ 0) (hzero : ∀ w,(zeroValue e).run P w = .ok z w)
  (hsl : ∀ w,(Builtin.lenOf u).run P w = .ok l w) (hsc : ∀ d,(Builtin.firstCells m l u).run P { w with drawn:=d } = .ok new.toArray { w with drawn:=d }) (hso : ∀ d,(Builtin.firstCells m k (.slice A k c)).run P { w with drawn:=d } = .ok old.toArray { w with drawn:=d })
  (hfit : c < k + l) (hroom : (2 * (k + l) + 1000) * ti.bytes ≤ 2 ^ 48) :
  ∃ c',k + l ≤ c' ∧ (Builtin.append_ #[sT,xT] t #[.slice A k c,u]).run P w = .ok (.slice (some ⟨w.heap.size,0,none⟩) (k + l) c') { w with drawn:=w.drawn + 1,heap:=w.heap.push (.cells (old.toArray ++ new.toArray ++ Builtin.zeroCells z.cells (c' - (k + l))) e) }:=by
 have h0 : (#[sT,xT] : Array TypeId)[0]? = some sT:=rfl
 have h1 : (#[sT,xT] : Array TypeId)[1]? = some xT:=rfl
 have h2 : (#[.slice A k c,u] : Array Value)[0]? = some (.slice A k c):=rfl
 have h3 : (#[.slice A k c,u] : Array Value)[1]? = some u:=rfl
 have hcap:=nextcap_le (k + l) c hfit
 have hb2 : ¬ (Builtin.nextslicecap (k + l) c * ti.bytes > 2 ^ 48):=by
  have:=Nat.mul_le_mul_right ti.bytes hcap
  omega
 have hnf : ¬ k + l ≤ c:=by omega
 refine ⟨(Question.appendCap (k + l) c e).cut (w.tape w.drawn (Question.appendCap (k + l) c e)),by simp [Question.cut],?_⟩
 unfold Builtin.append_
 rw [h0,h1,h2,h3]
 rcases hdx with ⟨e',rfl⟩ | rfl <;>
 ·simp only [Sem.run_bind,run_underlying hsT,run_underlying hxT,Result.andThen_ok,hz,hti,Sem.run_pure,hsl,Bool.false_eq_true,if_false,Bool.not_false,if_true,hnf,hB0,or_self,and_false,hb2,choose,Sem.run,Question.forced,askRoom]
  have hmark : ∀ (n : Nat) (w' : World),(if n > roomBytes then mark .noRoom else pure ()).run P w' = .ok () w':=fun n w'=>by
   split <;> rfl
  simp only [hmark,Result.andThen_ok,hso,hsc,hzero,newRow,newObj,Sem.run_bind,Sem.run,Sem.run_pure]
theorem Jp.append (d j : Nat) {x y : Operand} {sT xT e : TypeId} {dx : TypeDesc} {m k l c : Nat} {A : Option Addr} {u z : Value} {cs new : List Value} {ti : TypeInfo}
  (hi : nth ops.toList i = some o) (hw : qgl n ops E o true) (he : o.dst = some d) (hd : Nat.blt d n = true)
  (hop : o.op = .call { callee:=.builtin .append,args:=#[x,y],argTypes:=#[sT,xT] }) (hsT : P.underlying sT = some (.slice e)) (hxT : P.underlying xT = some dx) (hdx : (∃ e',dx = .slice e') ∨ dx = .string)
  (hz : ∀ w,(sizeOf e).run P w = .ok m w) (hti : ∀ w,(typeInfo e).run P w = .ok ti w) (hzero : ∀ w,(zeroValue e).run P w = .ok z w) (hzm : z.cells.size = m) (hB0 : ti.bytes ≠ 0)
  (hx : evE E x = some (.slice A k c)) (hy : evE E y = some u) (hj : look L j = some (OwnS e m A k c cs)) (hsrc : Src P cx ρ L m l u new) (hone' : new.all one = true) (q : Nat) (res : List Value) (hq : k + l = q) (hres : cs ++ new = res) (hroom : (2 * q + 1000) * ti.bytes ≤ 2 ^ 48)
  (h : ∀ A' c',Kp π S cx ρ ((j,OwnS e m A' q c' res) :: L) ∧ Jp P ops Q S n cx π ρ ((d,.slice A' q c') :: E) ((j,OwnS e m A' q c' res) :: L)) :
  Jp P ops Q S n cx ((i,false) :: π) ρ E L:=by
 subst hq hres
 have hone : ∀ v ∈ new,one v = true:=List.all_eq_true.1 hone'
 intro a w ha hs
 obtain ⟨hh,hA,hhw⟩:=hs.get hj
 obtain ⟨hsl,hsc⟩:=hsrc
 have hnl:=(hsc w hs).1
 have hcl:=hA.length
 suffices hrun : ∃ A' c' w',(Builtin.append_ #[sT,xT] o.type #[.slice A k c,u]).run P w = .ok (.slice A' (k + l) c') w' ∧ St cx ρ ((j,OwnS e m A' (k + l) c' (cs ++ new)) :: L) w' by
  obtain ⟨A',c',w',hr,hs'⟩:=hrun
  obtain ⟨h1,h2⟩:=h A' c'
  have hr':=qdj (P:=P) (w:=w) (v:=.slice A' (k + l) c') (w':=w') hop (ha.ev hx) (ha.ev hy) (fun cs'=>by simp only [builtin,Sem.run_bind,hr,Result.andThen_ok,Sem.run_pure])
  simp only [qfn,wpOp,qbj hi,hw a ha,if_true,Oper.wp,hr',Oper.upon]
  exact .inl ⟨h1.get hs',h2 _ _ (ha.put' he hd _) hs'⟩
 have hlen : (cs ++ new).length = (k + l) * m:=by rw [List.length_append,hcl,hnl,Nat.add_mul]
 have hkl : k + l ≤ 281474976710656:=by
  have h1 : 1 ≤ ti.bytes:=Nat.pos_of_ne_zero hB0
  have h2:=Nat.mul_le_mul_left (2 * (k + l) + 1000) h1
  omega
 by_cases hfit : k + l ≤ c
 ·rcases hA.2 with ⟨rfl,rfl,rfl⟩ | ⟨b,cur,fr,rfl,hb,hsz,hkc,hget,hnf⟩
  ·have hl0 : l = 0:=by omega
   subst hl0
   have : new = []:=by simpa using hnl
   subst this
   have : cs = []:=by simpa using hcl
   subst this
   refine ⟨none,0,w,append_room _ hsT hxT hdx hz hsl (hsc w hs).2 hfit (fun a h=>by cases h) (fun _=>rfl),?_⟩
   exact hs.subF fun q B e=>by
    rw [qag] at e
    split at e
    ·rename_i hq; subst hq; injection e with e; subst e; exact hj
    ·exact e
  ·have hbw:=hhw _ _ hb
   have hle : k * m + new.length ≤ cur.size:=by
    rw [hsz,hnl,← Nat.add_mul]; exact Nat.mul_le_mul_right m hfit
   obtain ⟨w',hr,g1,g2,g3,g4,g5,g6⟩:=qgo (P:=P) new (k * m) 0 w cur hbw (by omega) hone (fun q a b=>hnf q (by omega))
   refine ⟨some ⟨b,0,none⟩,c,w',append_room _ hsT hxT hdx hz hsl (hsc w hs).2 hfit (fun a h=>?_) (fun h=>by cases h),?_⟩
   ·injection h with h; subst h; rw [qcy,Nat.zero_add]; exact hr
   ·refine hs.setA hj (b:=b) (ob:=.cells cur e fr) (ob':=.cells (spl cur (k * m + 0) new) e fr) (fun h' hh' hw'=>?_) (fun h' hb'=>⟨⟨hlen,hkl⟩,.inr ⟨b,_,fr,rfl,hb',?_,hfit,?_,hnf⟩⟩) g1 g2 g3 g4 g5 g6
    ·rcases hh'.2 with ⟨q,_⟩ | ⟨b2,cur2,fr2,q1,q2,_⟩
     ·cases q
     ·injection q1 with q1; injection q1 with q1 _ _; subst q1
      have:=hw' _ _ q2
      rw [hbw] at this
      rw [q2,← this]
    ·rw [spl_size]; exact hsz
    ·intro q hq
     rw [spl_get _ _ _ _ (by omega)]
     by_cases h1 : k * m + 0 ≤ q
     ·rw [if_pos ⟨h1,by rw [hnl]; rw [Nat.add_mul] at hq; omega⟩,List.getElem?_append_right (by omega),hcl]; rfl
     ·rw [if_neg (by omega),hget q (by omega),List.getElem?_append_left (by omega)]
 ·obtain ⟨c',hc',hr⟩:=append_grow (P:=P) (w:=w) (old:=cs) (new:=new) (k:=k) (l:=l) (c:=c) (A:=A) (u:=u) o.type hsT hxT hdx hz hti hB0 hzero hsl (fun d=>(hsc _ (hs.drawn d)).2) (fun d=>qhh (w:={ w with drawn:=d }) hhw hA.rd) (by omega) hroom
  refine ⟨_,c',_,hr,?_⟩
  refine (hs.drawn (w.drawn + 1)).allocA j _ fun h' hh'=>⟨⟨hlen,hkl⟩,.inr ⟨w.heap.size,_,(0,0),rfl,hh',?_,hc',fun q hq=>?_,fun q _=>by simp [noFr]⟩⟩
  ·simp only [Array.size_append,List.size_toArray,hcl,hnl,size_zeroCells,hzm,← Nat.add_mul]
   congr 1; omega
  ·rw [Array.getElem?_append_left (by simp only [Array.size_append,List.size_toArray,hcl,hnl,← Nat.add_mul]; exact hq)]
   simp
def SrcN (P : Program) (cx : Cx) (ρ : Hp) (L : Own) (m l k : Nat) (u : Value) (cs : List Value) : Prop:=(∀ w,(Builtin.lenOf u).run P w = .ok l w) ∧ ∀ w,St cx ρ L w → cs.length = k * m ∧ (Builtin.firstCells m k u).run P w = .ok cs.toArray w
theorem run_cellsN {w : World} {m k l : Nat} {A : Option Addr} {c : Nat} {cs : List Value} {h : Hp} (hw : ∀ b o,h b = some o → w.heap[b]? = some o) (r : RdS m A l c cs h) (hk : k ≤ l) : (Builtin.firstCells m k (.slice A l c)).run P w = .ok (cs.take (k * m)).toArray w :=
 (show (Builtin.firstCells m k (.slice A l c)).run P w = (Builtin.firstCells m k (.slice A k c)).run P w by cases A <;> rfl).trans (qhh (P:=P) (c:=c) hw (r.take hk))
theorem SrcN.rd {m k l c : Nat} {A : Option Addr} {cs : List Value} (r : RdS m A l c cs ρ) (hk : k ≤ l) : SrcN P cx ρ L m l k (.slice A l c) (cs.take (k * m)) :=
 ⟨fun w=>rfl,fun w hs=>⟨(r.take hk).1,run_cellsN hs.rho r hk⟩⟩
theorem SrcN.own (j : Nat) {e : TypeId} {m k l c : Nat} {A : Option Addr} {cs : List Value} (hj : look L j = some (OwnS e m A l c cs)) (hk : k ≤ l) : SrcN P cx ρ L m l k (.slice A l c) (cs.take (k * m)) :=
 ⟨fun w=>rfl,fun w hs=>let ⟨h,ha,hw⟩:=hs.get hj; ⟨(ha.rd.take hk).1,run_cellsN hw ha.rd hk⟩⟩
theorem SrcN.str {s : ByteArray} {k : Nat} (hk : k ≤ s.size) : SrcN P cx ρ L 1 s.size k (.string s) ((qaf (YtnfkalpgidiafaaGreat.str s)).take k):=by
 refine ⟨fun w=>rfl,fun w hs=>⟨?_,?_⟩⟩
 ·have e0 : (qaf (YtnfkalpgidiafaaGreat.str s)).length = s.size:=by rw [qaf,List.length_map,YtnfkalpgidiafaaGreat.str,Array.length_toList]; rfl
  rw [List.length_take,e0,Nat.mul_one]; exact Nat.min_eq_left hk
 have h1 : (s.extract 0 k).data = s.data.extract 0 k:=by rw [ByteArray.data_extract]
 simp only [Builtin.firstCells,h1]
 show Result.ok _ w = _
 congr 1
 apply Array.toList_inj.1
 simp [qaf,YtnfkalpgidiafaaGreat.str,List.map_take]
end
end Go.Proofs.YtnfkalpgidiafaaGreat
set_option linter.unusedVariables false
set_option linter.unusedSimpArgs false
namespace Go.Proofs.YtnfkalpgidiafaaGreat
open Go
variable {P : Program} {n : Nat} {cx : Cx} {ρ : Hp} {E : Env} {L : Own} {o : Oper} {ops : Array Oper} {Q : Exit → Act → World → Prop} {S : Act → World → Prop} {π : List (Nat × Bool)} {i : Nat}
def mkS (l : List UInt8) : ByteArray:=⟨l.toArray⟩
theorem qfb (j : Nat) {fn : Func} {s : Tmp} {t : TypeId} {b m : Nat} {cs : List Value} {T : TypeId} {fr : Nat × Nat} (h : fn.results = #[.cell s t]) (he : look E s = some (.pointer (some ⟨b,0,none⟩))) (hA : ∀ w,(isAgg t).run P w = .ok true w) (hz : ∀ w,(sizeOf t).run P w = .ok m w)
  (hj : look L j = some (Pt b (.cells cs.toArray T fr))) (hm : cs.length = m) : ∀ a w,At n E a → St cx ρ L w → (results fn a.tmps).run P w = .ok (.agg cs.toArray) w:=fun a w ha hs=>by
 have h1:=ha.slot s _ he
 have hb:=hs.pt hj
 have hc : ∀ k v,cs[k]? = some v → w.cell? ((⟨b,0,none⟩ : Addr).add k) = some v:=fun k v e=>by rw [qcy]; simp [World.cell?,hb,e]
 subst hm
 have h2 : (loadVar t ⟨b,0,none⟩).run P w = .ok (.agg cs.toArray) w:=by
  simp only [loadVar,Sem.run_bind,Sem.run_pure,Result.andThen_ok,hA,hz,if_true,run_loadCells_list w _ cs hc]
 simp [results,h,h1,asAddr,h2]
end Go.Proofs.YtnfkalpgidiafaaGreat
set_option linter.unusedVariables false
set_option linter.unusedSimpArgs false
namespace Go.Proofs.YtnfkalpgidiafaaGreat
open Go
section
variable {P : Program} {n : Nat} {cx : Cx} {ρ : Hp} {E : Env} {L : Own} {o : Oper} {ops : Array Oper} {Q : Exit → Act → World → Prop} {S : Act → World → Prop} {S' : World → Prop} {π : List (Nat × Bool)} {i : Nat} {v : Value}
theorem own_cell {w : World} (hs : St cx ρ L w) {j : Nat} {e : TypeId} {m k c : Nat} {ad : Addr} {cs : List Value} (hj : look L j = some (OwnS e m (some ad) k c cs)) {q : Nat} (hv : cs[q]? = some v) : w.cell? (ad.add q) = some v:=by
 obtain ⟨hh,hA,hhw⟩:=hs.get hj
 obtain ⟨ad',e1,e2⟩:=hA.rd.2.2 q v hv
 injection e1 with e1
 subst e1
 exact cell_of hhw e2
theorem Y.loadSAgg (j : Nat) {x : Operand} {t e : TypeId} {a ad : Addr} {m k c q mt : Nat} {cs : List Value} (es : List Value) (hop : o.op = .load t x) (hA : ∀ w,(isAgg t).run P w = .ok true w) (hz : ∀ w,(sizeOf t).run P w = .ok mt w) (hx : evE E x = some (.pointer (some a)))
  (hj : look L j = some (OwnS e m (some ad) k c cs)) (ha' : ad.add q = a) (hm : es.length = mt) (hv : ∀ p v,es[p]? = some v → cs[q + p]? = some v) : Y P n cx ρ E L o (.agg es.toArray):=fun ac w ha hs=>by
 subst ha'
 simp only [execOp,hop,ha.ev hx,Sem.run_bind,qdz hA hz hm (fun p v e=>by rw [Addr.add_add]; exact own_cell hs hj (hv p v e)),Result.andThen_ok,Sem.run_pure]
theorem OwnS.set {w w' : World} (hs : St cx ρ L w) {j b : Nat} {e : TypeId} {m k c : Nat} {A : Option Addr} {cs cs' : List Value} {cur cur' : Array Value} {fr : Nat × Nat} (hj : look L j = some (OwnS e m A k c cs)) (hA : A = some ⟨b,0,none⟩) (hb : w.heap[b]? = some (.cells cur e fr))
  (hsz : cur'.size = c * m) (hkc : k ≤ c) (hk : k ≤ 281474976710656) (hlen : cs'.length = k * m) (hget : ∀ j,j < k * m → cur'[j]? = cs'[j]?) (hnf : ∀ j,j < c * m → noFr fr j)
  (g1 : w'.heap[b]? = some (.cells cur' e fr)) (g2 : ∀ p,p ≠ b → w'.heap[p]? = w.heap[p]?) (g3 : w'.heap.size = w.heap.size) (g4 : w'.os = w.os) (g5 : w'.tape = w.tape) (g6 : w'.output = w.output) : St cx ρ ((j,OwnS e m A k c cs') :: L) w':=by
 subst hA
 refine hs.setA hj (b:=b) (ob:=.cells cur e fr) (ob':=.cells cur' e fr) (fun h' hh' hw'=>?_) (fun h' hb'=>⟨⟨hlen,hk⟩,.inr ⟨b,_,fr,rfl,hb',hsz,hkc,hget,hnf⟩⟩) g1 g2 g3 g4 g5 g6
 rcases hh'.2 with ⟨q,_⟩ | ⟨b2,cur2,fr2,p1,p2,_⟩
 ·cases q
 ·injection p1 with p1; injection p1 with p1 _ _; subst p1
  have:=hw' _ _ p2
  rw [hb] at this
  rw [p2,← this]
theorem Jp.storeS (j : Nat) {x y : Operand} {t e : TypeId} {a ad : Addr} {m k c q : Nat} {cs : List Value} (hi : nth ops.toList i = some o) (hw : qgl n ops E o true) (he : o.dst = none)
  (hop : o.op = .store t x y) (hz : ∀ w,(sizeOf t).run P w = .ok 1 w) (hx : evE E x = some (.pointer (some a))) (hy : evE E y = some v) (h1 : one v = true)
  (hj : look L j = some (OwnS e m (some ad) k c cs)) (ha' : ad.add q = a) (hq : q < k * m) (res : List Value) (hres : cs.set q v = res)
  (hk : Kp π S' cx ρ ((j,OwnS e m (some ad) k c res) :: L)) (h : Jp P ops Q S' n cx π ρ E ((j,OwnS e m (some ad) k c res) :: L)) : Jp P ops Q S' n cx ((i,false) :: π) ρ E L:=by
 intro a' w ha hs
 subst ha' hres
 obtain ⟨hh,hA,hhw⟩:=hs.get hj
 have hcl:=hA.length
 rcases hA.2 with ⟨q,_⟩ | ⟨b,cur,fr,hA',hb,hsz,hkc,hget,hnf⟩
 ·cases q
 injection hA' with hA'
 subst hA'
 have hbw:=hhw _ _ hb
 have hqc : q < c * m:=Nat.lt_of_lt_of_le hq (Nat.mul_le_mul_right m hkc)
 have hc : w.cell? ((⟨b,0,none⟩ : Addr).add q) = some cur[q]:=by rw [qcy]; simp [World.cell?,hbw,hsz,hqc]
 have hr:=qgc (P:=P) hz (v:=v) h1 hc (by rw [qcy,Nat.zero_add,qfu hbw]; exact hnf q hqc)
 simp only [qfn,wpOp,qbj hi,hw a' ha,if_true,Oper.wp,execOp,hop,ha.ev hx,ha.ev hy,Sem.run_bind,hr,Result.andThen_ok,Sem.run_pure,Oper.upon,he]
 rw [qcy,Nat.zero_add]
 have hs' : St cx ρ ((j,OwnS e m (some ⟨b,0,none⟩) k c (cs.set q v)) :: L) (w.setCell ⟨b,q,none⟩ v):=by
  refine OwnS.set hs hj (cur':=cur.setIfInBounds q v) rfl hbw (by simpa using hsz) hkc hA.1.2 (by rw [List.length_set]; exact hcl) (fun p hp=>?_) hnf ?_ ?_ ?_ rfl rfl rfl
  ·rw [Array.getElem?_setIfInBounds,List.getElem?_set]
   by_cases hqp : q = p
   ·subst hqp
    simp [hcl,hq,hsz,hqc]
   ·simp [hqp,hget p hp]
  ·rw [qch hbw]; simp
  ·intro p hp; rw [qch hbw,if_neg hp]
  ·simp [World.setCell,hbw]
 exact .inl ⟨hk.get hs',h _ _ ha hs'⟩
theorem Jp.imp {j : Nat} {A A' : qax} (e : look L j = Option.some A) (f : ∀ k,A k → A' k) (h : Jp P ops Q S' n cx π ρ E ((j,A') :: L)) : Jp P ops Q S' n cx π ρ E L:=fun a w ha hs=>h a w ha (hs.imp e f)
theorem own_some {w : World} (hs : St cx ρ L w) {j : Nat} {e : TypeId} {m k c : Nat} {A : Option Addr} {cs : List Value} (hj : look L j = some (OwnS e m A k c cs)) (hk : 0 < k) : ∃ b,A = some ⟨b,0,none⟩:=by
 obtain ⟨hh,hA,hhw⟩:=hs.get hj
 rcases hA.2 with ⟨_,h,_⟩ | ⟨b,cur,fr,hA',_⟩
 ·omega
 ·exact ⟨b,hA'⟩
theorem Cd.ownAt {K : Exit → Act → World → Prop} {d : Code} (j : Nat) {e : TypeId} {m k c : Nat} {A : Option Addr} {cs : List Value} (hj : look L j = some (OwnS e m A k c cs)) (hk : 0 < k) (h : ∀ b,A = some ⟨b,0,none⟩ → Cd P K n cx ρ E L d) : Cd P K n cx ρ E L d:=fun a w ha hs =>
 let ⟨b,hb⟩:=own_some hs hj hk; h b hb a w ha hs
theorem Jp.ownAt (j : Nat) {e : TypeId} {m k c : Nat} {A : Option Addr} {cs : List Value} (hj : look L j = some (OwnS e m A k c cs)) (hk : 0 < k) (h : ∀ b,A = some ⟨b,0,none⟩ → Jp P ops Q S' n cx π ρ E L) : Jp P ops Q S' n cx π ρ E L:=fun a w ha hs =>
 let ⟨b,hb⟩:=own_some hs hj hk; h b hb a w ha hs
end
theorem sG0 : (∀ {p : Prop} [Decidable p],decide p = false ↔ ¬p) ∧ (∀ {p : Prop} [Decidable p],(decide p = true) = p) ∧ (∀ {a b : Int},¬a < b ↔ b ≤ a) ∧ (∀ {a b : Int},¬a ≤ b ↔ b < a) ∧ (∀ {b : Bool},(¬b = false) = (b = true)) ∧ (∀ {b : Bool},(¬b = true) = (b = false)) ∧ (!true) = false ∧ (!false) = true ∧ (∀ {b : Bool},((!b) = true) = (b = false)) ∧ (∀ {b : Bool},((!b) = false) = (b = true)) ∧ (∀ {α : Type} [BEq α] [LawfulBEq α] {a b : α},(a == b) = false ↔ a ≠ b) ∧ (∀ {α : Type} (a b : α),(a ≠ b) = ¬a = b) ∧ (∀ {α : Type} [BEq α] [LawfulBEq α] {a b : α},(a == b) = true ↔ a = b) ∧ (∀ {α : Type} [BEq α] [LawfulBEq α] {a b : α},(a != b) = true ↔ a ≠ b) ∧ (∀ {α : Type} [BEq α] [LawfulBEq α] {a b : α},(a != b) = false ↔ a = b) ∧ (∀ {p : Prop},¬¬p ↔ p):=by
 refine ⟨?_,?_,?_,?_,?_,?_,?_,?_,?_,?_,?_,?_,?_,?_,?_,?_⟩ <;> intros <;> simp
end Go.Proofs.YtnfkalpgidiafaaGreat
