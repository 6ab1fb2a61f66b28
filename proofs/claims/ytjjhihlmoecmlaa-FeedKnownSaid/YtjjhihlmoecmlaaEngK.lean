/- The small logic, part eleven: plain laws of maps as lists. -/
import Derived.Test.YtjjhihlmoecmlaaEngJ
set_option linter.unusedVariables false
set_option linter.unusedSimpArgs false
namespace Go.Proofs.Ytjjhihlmoecmlaa
open Go
/-! ### 32. Maps as lists: found, set, taken out -/
theorem findI_shift (k : Int) : ∀ (m : MapL) (i : Nat), findI k m (i + 1) = (findI k m i).map fun p => (p.1 + 1, p.2) := by
  intro m
  induction m with
  | nil => intro i; rfl
  | cons x m ih =>
    intro i
    obtain ⟨x, u⟩ := x
    simp only [findI]
    split
    · rfl
    · rw [ih]
theorem mget_nil (k : Int) : mget [] k = none := rfl
theorem mget_cons (x : Int) (u : Value) (m : MapL) (k : Int) : mget ((x, u) :: m) k = if k = x then some u else mget m k := by
  simp only [mget, findI]
  by_cases h : k = x
  · subst h; simp
  · have : (k == x) = false := by simpa using h
    rw [this, if_neg h, findI_shift]
    cases findI k m 0 <;> rfl
theorem mget_append (m l : MapL) (k : Int) : mget (m ++ l) k = (mget m k).or (mget l k) := by
  induction m with
  | nil => simp [mget_nil]
  | cons x m ih =>
    obtain ⟨x, u⟩ := x
    rw [List.cons_append, mget_cons, mget_cons, ih]
    split <;> simp
theorem mget_some {m : MapL} {k : Int} {v : Value} (h : mget m k = some v) : (k, v) ∈ m := by
  induction m with
  | nil => cases h
  | cons x m ih =>
    obtain ⟨x, u⟩ := x
    rw [mget_cons] at h
    split at h
    · rename_i e; subst e; injection h with h; subst h; exact List.mem_cons_self ..
    · exact List.mem_cons_of_mem _ (ih h)
theorem mget_none {m : MapL} {k : Int} : mget m k = none ↔ k ∉ m.map (·.1) := by
  induction m with
  | nil => simp [mget_nil]
  | cons x m ih =>
    obtain ⟨x, u⟩ := x
    rw [mget_cons]
    by_cases h : k = x
    · subst h; simp
    · rw [if_neg h, ih]; simp [h]
theorem mget_mem {m : MapL} (hn : (m.map (·.1)).Nodup) {k : Int} {v : Value} (h : (k, v) ∈ m) : mget m k = some v := by
  induction m with
  | nil => cases h
  | cons x m ih =>
    obtain ⟨x, u⟩ := x
    rw [List.map_cons, List.nodup_cons] at hn
    rw [mget_cons]
    rcases List.mem_cons.1 h with h0 | h0
    · injection h0 with h1 h2; subst h1 h2; simp
    · rw [if_neg, ih hn.2 h0]
      intro e; subst e
      exact hn.1 (List.mem_map.2 ⟨(k, v), h0, rfl⟩)
theorem mget_perm {m l : MapL} (hp : m.Perm l) (hn : (l.map (·.1)).Nodup) (k : Int) : mget m k = mget l k := by
  have hm : (m.map (·.1)).Nodup := (hp.map (·.1)).nodup_iff.2 hn
  cases h : mget l k with
  | none => rw [mget_none] at h ⊢; intro h2; exact h ((hp.map (·.1)).mem_iff.1 h2)
  | some v => exact mget_mem hm (hp.mem_iff.2 (mget_some h))
theorem findI_none {m : MapL} {k : Int} : findI k m 0 = none ↔ k ∉ m.map (·.1) := by
  rw [← mget_none, mget]; cases findI k m 0 <;> simp
theorem mset_new {m : MapL} {k : Int} {v : Value} (h : k ∉ m.map (·.1)) : mset m k v = m ++ [(k, v)] := by
  rw [mset, findI_none.2 h]
theorem mset_keys {m : MapL} {k : Int} {v : Value} (h : k ∈ m.map (·.1)) : (mset m k v).map (·.1) = m.map (·.1) := by
  unfold mset
  cases hf : findI k m 0 with
  | none => exact absurd h (findI_none.1 hf)
  | some p =>
    obtain ⟨q, u⟩ := p
    obtain ⟨_, h2⟩ := findI_some hf
    rw [Nat.sub_zero] at h2
    apply List.ext_getElem?
    intro j
    rw [List.getElem?_map, List.getElem?_set, List.getElem?_map]
    have hlt := (List.getElem?_eq_some_iff.1 h2).1
    by_cases hj : q = j
    · subst hj; rw [if_pos rfl, if_pos hlt, h2]; rfl
    · simp [hj]
theorem mget_mset (m : MapL) (k : Int) (v : Value) (k' : Int) : mget (mset m k v) k' = if k' = k then some v else mget m k' := by
  by_cases h : k ∈ m.map (·.1)
  · induction m with
    | nil => simp at h
    | cons x m ih =>
      obtain ⟨x, u⟩ := x
      by_cases hx : k = x
      · subst hx
        have : mset ((k, u) :: m) k v = (k, v) :: m := by simp [mset, findI]
        rw [this, mget_cons, mget_cons]
        by_cases h' : k' = k <;> simp [h']
      · have hm : k ∈ m.map (·.1) := by simpa [hx] using h
        have : mset ((x, u) :: m) k v = (x, u) :: mset m k v := by
          have hb : (k == x) = false := by simpa using hx
          simp only [mset, findI, hb, findI_shift]
          cases hf : findI k m 0 with
          | none => exact absurd hm (findI_none.1 hf)
          | some p => rfl
        rw [this, mget_cons, mget_cons, ih hm]
        by_cases h' : k' = x
        · subst h'; simp [Ne.symm hx]
        · simp [h']
  · rw [mset_new h, mget_append, mget_cons, mget_nil]
    by_cases h' : k' = k
    · subst h'; rw [mget_none.2 h]; simp
    · simp [h']
theorem mset_perm {m l : MapL} {k : Int} {v : Value} (hp : m.Perm l) (h : k ∉ l.map (·.1)) : (mset m k v).Perm ((k, v) :: l) := by
  rw [mset_new fun h2 => h ((hp.map (·.1)).mem_iff.1 h2)]
  exact (List.perm_append_comm).trans (hp.cons _)
theorem mset_perm' {m l : MapL} {k : Int} {v : Value} (hn : (l.map (·.1)).Nodup) (hp : m.Perm l) : (k ∈ l.map (·.1)) → (mset m k v).Perm (l.map fun x => if x.1 = k then (k, v) else x) := by
  intro h
  have hk : k ∈ m.map (·.1) := (hp.map (·.1)).mem_iff.2 h
  have e : mset m k v = m.map fun x => if x.1 = k then (k, v) else x := by
    have hm : (m.map (·.1)).Nodup := (hp.map (·.1)).nodup_iff.2 hn
    clear hp hn h
    induction m with
    | nil => simp at hk
    | cons x m ih =>
      obtain ⟨x, u⟩ := x
      rw [List.map_cons, List.nodup_cons] at hm
      by_cases hx : k = x
      · subst hx
        have : mset ((k, u) :: m) k v = (k, v) :: m := by simp [mset, findI]
        rw [this, List.map_cons, if_pos rfl]
        congr 1
        symm
        have e2 : m.map (fun x => if x.1 = k then (k, v) else x) = m.map id := List.map_congr_left fun y hy => by
          rw [if_neg]; rfl
          intro e; exact hm.1 (e ▸ List.mem_map.2 ⟨y, hy, rfl⟩)
        rw [e2, List.map_id]
      · have hm' : k ∈ m.map (·.1) := by simpa [hx] using hk
        have : mset ((x, u) :: m) k v = (x, u) :: mset m k v := by
          have hb : (k == x) = false := by simpa using hx
          simp only [mset, findI, hb, findI_shift]
          cases hf : findI k m 0 with
          | none => exact absurd hm' (findI_none.1 hf)
          | some p => rfl
        rw [this, ih hm' hm.2, List.map_cons, if_neg (Ne.symm hx)]
  rw [e]; exact hp.map _
theorem mdel_eq {m : MapL} (hm : (m.map (·.1)).Nodup) (k : Int) : mdel m k = m.filter fun x => x.1 != k := by
  induction m with
  | nil => rfl
  | cons x m ih =>
    obtain ⟨x, u⟩ := x
    rw [List.map_cons, List.nodup_cons] at hm
    by_cases hx : k = x
    · subst hx
      have : mdel ((k, u) :: m) k = m := by simp [mdel, findI]
      rw [this, List.filter_cons_of_neg (by simp), List.filter_eq_self.2]
      intro y hy
      have : y.1 ≠ k := fun e => hm.1 (e ▸ List.mem_map.2 ⟨y, hy, rfl⟩)
      simpa using this
    · have hb : (k == x) = false := by simpa using hx
      have : mdel ((x, u) :: m) k = (x, u) :: mdel m k := by
        simp only [mdel, findI, hb, findI_shift]
        cases hf : findI k m 0 <;> rfl
      rw [this, ih hm.2, List.filter_cons_of_pos (by simpa using Ne.symm hx)]
theorem mdel_perm {m l : MapL} (hp : m.Perm l) (hn : (l.map (·.1)).Nodup) (k : Int) : (mdel m k).Perm (l.filter fun x => x.1 != k) := by
  rw [mdel_eq ((hp.map (·.1)).nodup_iff.2 hn)]; exact hp.filter _
theorem RangeO.map {kk : IntKind} {b r : Nat} {m left : MapL} {cur : Option (Int × Value)} : ∀ k, RangeO kk b r m left cur k → MapO kk b m k := fun k ⟨_, es, clock, seen, h1, _, h3, h4, _⟩ => ⟨es, clock, h1, h3, h4⟩
theorem perm_erase {α : Type} : ∀ {l : List α} {q : Nat} {y : α}, l[q]? = some y → l.Perm (y :: l.eraseIdx q) := by
  intro l
  induction l with
  | nil => intro q y h; simp at h
  | cons x l ih =>
    intro q y h
    cases q with
    | zero => simp at h; subst h; exact List.Perm.refl _
    | succ q =>
      have := ih (q := q) (y := y) (by simpa using h)
      rw [List.eraseIdx_cons_succ]
      exact (this.cons x).trans (List.Perm.swap ..)
section
variable {P : Program} {n : Nat} {cx : Cx} {ρ : Hp} {E : Env} {L : Own} {o : Oper}
/-! ### 33. Division of numbers that are not below nought -/
theorem Y.remN {x y : Operand} {t u : TypeId} {k : IntKind} {a b : Int} (hop : o.op = .binOp .rem t x y u) (hx : evE E x = some (.int k a)) (hy : evE E y = some (.int k b)) (ha : 0 ≤ a) (hb : 0 < b) : Y P n cx ρ E L o (.int k (a % b)) :=
  (Y.rem hop hx hy (by omega)).to (by rw [Int.tmod_eq_emod_of_nonneg ha])
theorem Y.quoN {x y : Operand} {t u : TypeId} {k : IntKind} {a b : Int} (hop : o.op = .binOp .quo t x y u) (hx : evE E x = some (.int k a)) (hy : evE E y = some (.int k b)) (ha : 0 ≤ a) (hb : 0 < b) (hw : k.wrap (a / b) = a / b) : Y P n cx ρ E L o (.int k (a / b)) :=
  (Y.quo hop hx hy (by omega)).to (by rw [Int.tdiv_eq_ediv_of_nonneg ha, hw])
end
end Go.Proofs.Ytjjhihlmoecmlaa
