import Derived.Test.YtgmhijlcdadaeaaZShD
set_option linter.unusedVariables false
set_option linter.unusedSimpArgs false
set_option maxRecDepth 100000
namespace Go.Proofs.Ytgmhijlcdadaeaa
open Go
theorem Blks.app {l m : List (Nat × Obj)} : ∀ k, Sep (Blks l) (Blks m) k → Blks (l ++ m) k := fun k ⟨h1, h2, a1, a2, d, l1, l2⟩ => by
  refine ⟨?_, fun p o hp => ?_⟩
  · rw [List.map_append, List.nodup_append]
    refine ⟨a1.1, a2.1, fun x hx y hy e => ?_⟩
    subst e
    obtain ⟨p, hp, rfl⟩ := List.mem_map.1 hx
    obtain ⟨q, hq, e⟩ := List.mem_map.1 hy
    have h3 := a1.2 p.1 p.2 hp
    have h4 := a2.2 q.1 q.2 hq
    rw [e] at h4
    rcases d p.1 with h | h
    · rw [h3] at h; cases h
    · rw [h4] at h; cases h
  · rcases List.mem_append.1 hp with h | h
    · exact l1 _ _ (a1.2 p o h)
    · exact l2 _ _ (a2.2 p o h)
theorem Blks.subset {l m : List (Nat × Obj)} (hn : (m.map (·.1)).Nodup) (hs : ∀ x ∈ m, x ∈ l) : ∀ k, Blks l k → Blks m k := fun k hk => ⟨hn, fun b o h => hk.2 b o (hs _ h)⟩
section
variable {P : Program} {n : Nat} {cx : Cx} {ρ : Hp} {E : Env} {L : Own} {ops : Array Oper} {Q : Exit → Act → World → Prop} {S' : World → Prop} {π : List (Nat × Bool)}
end
theorem pmOf_set (l : List (Nat × Pg)) (k : Nat) (p : Pg) (blk : Nat → Nat) : pmOf (setPg l k p) blk = pmOf l blk := setPg_map l k p fun k => ((k : Int), shPtr blk k)
theorem pmOf_keys (l : List (Nat × Pg)) (blk : Nat → Nat) : (pmOf l blk).map (·.1) = l.map fun p => (p.1 : Int) := by rw [pmOf, List.map_map]; rfl
theorem pmOf_mem {l : List (Nat × Pg)} {blk : Nat → Nat} {k : Nat} : (k : Int) ∈ (pmOf l blk).map (·.1) ↔ k ∈ l.map (·.1) := by
  rw [pmOf_keys]
  constructor
  · intro h
    obtain ⟨y, hy, e⟩ := List.mem_map.1 h
    have e : (y.1 : Int) = (k : Int) := e
    exact List.mem_map.2 ⟨y, hy, by omega⟩
  · intro h
    obtain ⟨y, hy, e⟩ := List.mem_map.1 h
    exact List.mem_map.2 ⟨y, hy, by show (y.1 : Int) = k; rw [← e]⟩
theorem pmOf_congr {l : List (Nat × Pg)} {blk blk' : Nat → Nat} (h : ∀ y ∈ l, blk' y.1 = blk y.1) : pmOf l blk' = pmOf l blk := List.map_congr_left fun y hy => by rw [shPtr, shPtr, h y hy]
theorem pm_put {l : List (Nat × Pg)} (h : ShOk l) {pm : MapL} {bk bk' : Nat → Nat} {k : Nat} {b : Bytes} (hp : pm.Perm (pmOf l bk)) (hb : ∀ j, j ≠ k → bk' j = bk j) :
    (if cntB b = 0 then mdel pm k else mset pm k (shPtr bk' k)).Perm (pmOf (putPg l k b) bk') := by
  have hn := pmOf_nodup h.rising.nodup bk
  have hrem : pmOf (remPg l k) bk' = (pmOf l bk).filter fun x => x.1 != (k : Int) := by
    unfold remPg pmOf
    rw [List.filter_map]
    have : (fun x : Nat × Pg => x.1 != k) = (fun x : Int × Value => x.1 != (k : Int)) ∘ fun p : Nat × Pg => ((p.1 : Int), shPtr bk p.1) := by
      funext y
      simp only [Function.comp]
      rw [Bool.eq_iff_iff]
      simp
      omega
    rw [← this]
    refine List.map_congr_left fun y hy => ?_
    have := (List.mem_filter.1 hy).2
    rw [shPtr, shPtr, hb _ (by simpa using this)]
  by_cases hz : cntB b = 0
  · rw [if_pos hz]
    have h1 := mdel_perm hp hn (k : Int)
    unfold putPg
    cases e : getPg l k with
    | some p => dsimp only; rw [if_pos hz, hrem]; exact h1
    | none =>
      dsimp only
      rw [if_pos hz]
      have hk := getPg_none.1 e
      have e2 : (pmOf l bk).filter (fun x => x.1 != (k : Int)) = pmOf l bk' := by
        rw [← hrem, remPg, List.filter_eq_self.2]
        intro y hy
        have : y.1 ≠ k := fun e => hk (List.mem_map.2 ⟨y, hy, e⟩)
        simpa using this
      rw [e2] at h1
      exact h1
  · rw [if_neg hz]
    unfold putPg
    cases e : getPg l k with
    | some p =>
      dsimp only
      rw [if_neg hz, pmOf_set]
      have hk : k ∈ l.map (·.1) := List.mem_map.2 ⟨_, getPg_mem e, rfl⟩
      refine (mset_perm' hn hp (pmOf_mem.2 hk)).trans (List.Perm.of_eq ?_)
      rw [pmOf, pmOf, List.map_map]
      refine List.map_congr_left fun y hy => ?_
      simp only [Function.comp]
      by_cases hyk : y.1 = k
      · rw [if_pos (by omega), hyk]
      · rw [if_neg (by omega), shPtr, shPtr, hb _ hyk]
    | none =>
      dsimp only
      rw [if_neg hz]
      have hk := getPg_none.1 e
      refine (mset_perm hp (fun hm => hk (pmOf_mem.1 hm))).trans ?_
      refine List.Perm.trans ?_ ((insPg_perm k (pgB b) l).symm.map fun p => ((p.1 : Int), shPtr bk' p.1))
      rw [List.map_cons]
      refine List.Perm.cons _ (List.Perm.of_eq ?_)
      refine (pmOf_congr fun y hy => ?_).symm
      exact hb _ fun e => hk (List.mem_map.2 ⟨y, hy, e⟩)
def layM (S : ShG) (a : Nat) (bs : Bytes) : Int × ShG := if S.budget < (layP S.pages a bs).length then (6, S) else (0, ⟨S.budget, layP S.pages a bs⟩)
theorem shSpl_full {cur : Array Value} {cs : List Value} (h : cs.length = cur.size) : spl cur 0 cs = cs.toArray := by
  apply Array.ext_getElem?
  intro j
  rw [spl_get cs cur 0 j (by omega)]
  by_cases hj : j < cs.length
  · rw [if_pos ⟨Nat.zero_le _, by omega⟩]; simp
  · rw [if_neg (by omega)]
    have h1 : cur[j]? = none := by rw [Array.getElem?_eq_none_iff]; omega
    rw [h1]; simp; omega
def bkOf (N : List (Nat × Pg)) (blk xblk : Nat → Nat) (left : MapL) (k : Nat) : Nat := if k ∈ N.map (·.1) ∧ (k : Int) ∉ left.map (·.1) then blk k else xblk k
structure LInv (N l0 fin : List (Nat × Pg)) (blk xblk : Nat → Nat) (left : MapL) (l : List (Nat × Pg)) (pm : MapL) : Prop where
  ok : ShOk l
  perm : pm.Perm (pmOf l (bkOf N blk xblk left))
  sub : ∀ y ∈ left, y ∈ pmOf N blk
  nodup : (left.map (·.1)).Nodup
  fin : ∀ j : Nat, (j : Int) ∉ left.map (·.1) → getPg l j = getPg fin j
def finOf (N l0 : List (Nat × Pg)) (j : Nat) : Option Pg := match getPg N j with
  | some p => if cntB p.b = 0 then none else some (pgB p.b)
  | none => getPg l0 j
theorem LInv.step {N l0 fin : List (Nat × Pg)} {blk xblk : Nat → Nat} {left : MapL} {l : List (Nat × Pg)} {pm : MapL} (h : LInv N l0 fin blk xblk left l pm) {q : Nat} {p : Nat × Pg} (hq : left[q]? = some ((p.1 : Int), shPtr blk p.1)) (hp : p ∈ N) (hN : NowOk N) (hf : ∀ j, getPg fin j = finOf N l0 j) :
    LInv N l0 fin blk xblk (left.eraseIdx q) (putPg l p.1 p.2.b) (if cntB p.2.b = 0 then mdel pm (p.1 : Int) else mset pm (p.1 : Int) (shPtr blk p.1)) := by
  have hpe := (perm_erase hq).map (·.1)
  rw [List.map_cons] at hpe
  have hn2 := hpe.nodup_iff.1 h.nodup
  rw [List.nodup_cons] at hn2
  have hne : ((p.1 : Int)) ∉ (left.eraseIdx q).map (·.1) := hn2.1
  have hin : p.1 ∈ N.map (·.1) := List.mem_map.2 ⟨p, hp, rfl⟩
  have hb' : bkOf N blk xblk (left.eraseIdx q) p.1 = blk p.1 := if_pos ⟨hin, hne⟩
  have hbj : ∀ j, j ≠ p.1 → bkOf N blk xblk (left.eraseIdx q) j = bkOf N blk xblk left j := fun j hj => by
    unfold bkOf
    have : ((j : Int) ∈ left.map (·.1)) ↔ ((j : Int) ∈ (left.eraseIdx q).map (·.1)) := by
      rw [hpe.mem_iff, List.mem_cons]
      constructor
      · intro hx; exact hx.resolve_left (by omega)
      · exact .inr
    simp only [this]
  have hal := hN.al p hp
  refine ⟨putPg_ok h.ok hal.1 hal.2 (hN.len p hp), ?_, fun y hy => h.sub y (List.mem_of_mem_eraseIdx hy), hn2.2, fun j hj => ?_⟩
  · have := pm_put (bk' := bkOf N blk xblk (left.eraseIdx q)) (k := p.1) (b := p.2.b) h.ok h.perm hbj
    rw [shPtr, hb'] at this
    exact this
  · rw [getPg_put h.ok]
    by_cases e : j = p.1
    · subst e
      rw [if_pos rfl, hf, finOf, getPg_of_mem hN.nodup hp]; rfl
    · rw [if_neg e]
      refine h.fin j ?_
      intro hx
      have := hpe.mem_iff.1 hx
      rw [List.mem_cons] at this
      exact this.elim (fun e2 => e (by have e2 : (j : Int) = (p.1 : Int) := e2; omega)) hj
end Go.Proofs.Ytgmhijlcdadaeaa
