/- The small logic, part sixteen: maps as lists of any values. -/
import Derived.Test.YtgfbdiibndbbjaaEngO
set_option linter.unusedVariables false
set_option linter.unusedSimpArgs false
namespace Go.Proofs.Ytgfbdiibndbbjaa
open Go
section
variable {α β : Type}
def gget : List (Int × α) → Int → Option α
  | [], _ => none
  | (x, v) :: m, k => if k = x then some v else gget m k
def gset : List (Int × α) → Int → α → List (Int × α)
  | [], k, v => [(k, v)]
  | (x, u) :: m, k, v => if k = x then (k, v) :: m else (x, u) :: gset m k v
def gdel : List (Int × α) → Int → List (Int × α)
  | [], _ => []
  | (x, u) :: m, k => if k = x then m else (x, u) :: gdel m k
def gmap (f : α → β) (m : List (Int × α)) : List (Int × β) := m.map fun x => (x.1, f x.2)
theorem gmap_length (f : α → β) (m : List (Int × α)) : (gmap f m).length = m.length := by simp [gmap]
theorem gget_gmap (f : α → β) : ∀ (m : List (Int × α)) (k : Int), gget (gmap f m) k = (gget m k).map f
  | [], _ => rfl
  | (x, v) :: m, k => by
    show (if k = x then some (f v) else gget (gmap f m) k) = _
    rw [gget_gmap f m k, gget]; split <;> rfl
theorem gset_gmap (f : α → β) : ∀ (m : List (Int × α)) (k : Int) (v : α), gset (gmap f m) k (f v) = gmap f (gset m k v)
  | [], _, _ => rfl
  | (x, u) :: m, k, v => by
    show (if k = x then (k, f v) :: gmap f m else (x, f u) :: gset (gmap f m) k (f v)) = _
    rw [gset_gmap f m k v, gset]; split <;> rfl
theorem gdel_gmap (f : α → β) : ∀ (m : List (Int × α)) (k : Int), gdel (gmap f m) k = gmap f (gdel m k)
  | [], _ => rfl
  | (x, u) :: m, k => by
    show (if k = x then gmap f m else (x, f u) :: gdel (gmap f m) k) = _
    rw [gdel_gmap f m k, gdel]; split <;> rfl
theorem gmap_gmap {γ : Type} (f : α → β) (g : β → γ) (m : List (Int × α)) : gmap g (gmap f m) = gmap (fun x => g (f x)) m := by simp [gmap, Function.comp_def]
theorem gget_mem : ∀ {m : List (Int × α)} {k : Int} {v : α}, gget m k = some v → (k, v) ∈ m
  | (x, u) :: m, k, v, h => by
    rw [gget] at h
    split at h
    · rename_i e; injection h with h; subst h e; exact List.mem_cons_self
    · exact List.mem_cons_of_mem _ (gget_mem h)
theorem gget_gset : ∀ (m : List (Int × α)) (k : Int) (v : α) (j : Int), gget (gset m k v) j = if j = k then some v else gget m j
  | [], k, v, j => by simp [gset, gget]
  | (x, u) :: m, k, v, j => by
    rw [gset]
    split
    · rename_i e; subst e; rw [gget, gget]; split <;> rfl
    · rename_i e
      rw [gget, gget_gset m k v j, gget]
      by_cases h1 : j = x
      · subst h1; rw [if_pos rfl, if_pos rfl, if_neg (fun h => e h.symm)]
      · rw [if_neg h1, if_neg h1]
theorem gset_mem : ∀ {m : List (Int × α)} {k : Int} {v : α} {x : Int × α}, x ∈ gset m k v → x = (k, v) ∨ x ∈ m
  | [], k, v, x, h => by simp [gset] at h; exact .inl h
  | (y, u) :: m, k, v, x, h => by
    rw [gset] at h
    split at h
    · rcases List.mem_cons.1 h with h | h
      · exact .inl h
      · exact .inr (List.mem_cons_of_mem _ h)
    · rcases List.mem_cons.1 h with h | h
      · exact .inr (h ▸ List.mem_cons_self)
      · rcases gset_mem h with h | h
        · exact .inl h
        · exact .inr (List.mem_cons_of_mem _ h)
theorem gdel_mem : ∀ {m : List (Int × α)} {k : Int} {x : Int × α}, x ∈ gdel m k → x ∈ m
  | (y, u) :: m, k, x, h => by
    rw [gdel] at h
    split at h
    · exact List.mem_cons_of_mem _ h
    · rcases List.mem_cons.1 h with h | h
      · exact h ▸ List.mem_cons_self
      · exact List.mem_cons_of_mem _ (gdel_mem h)
theorem gget_none {m : List (Int × α)} {k : Int} : gget m k = none ↔ k ∉ m.map (·.1) := by
  induction m with
  | nil => simp [gget]
  | cons x m ih =>
    obtain ⟨x, u⟩ := x
    rw [gget]
    by_cases h : k = x
    · subst h; simp
    · rw [if_neg h, ih]; simp [h]
theorem gset_keys : ∀ (m : List (Int × α)) (k : Int) (v : α), (gset m k v).map (·.1) = if (gget m k).isSome then m.map (·.1) else m.map (·.1) ++ [k]
  | [], k, v => rfl
  | (x, u) :: m, k, v => by
    rw [gset, gget]
    by_cases h : k = x
    · subst h; simp
    · rw [if_neg h, if_neg h]
      have := gset_keys m k v
      simp only [List.map_cons, this]
      split <;> simp
theorem gset_length (m : List (Int × α)) (k : Int) (v : α) : (gset m k v).length = if (gget m k).isSome then m.length else m.length + 1 := by
  have h := congrArg List.length (gset_keys m k v)
  rw [List.length_map] at h
  rw [h]; split <;> simp
theorem gdel_keys : ∀ (m : List (Int × α)) (k : Int), (gdel m k).map (·.1) = (m.map (·.1)).erase k
  | [], k => rfl
  | (x, u) :: m, k => by
    rw [gdel]
    by_cases h : k = x
    · subst h; simp
    · rw [if_neg h]
      simp only [List.map_cons, gdel_keys m k]
      rw [List.erase_cons_tail (by simpa using fun e => h e.symm)]
theorem gget_gdel {m : List (Int × α)} (hn : (m.map (·.1)).Nodup) (k j : Int) : gget (gdel m k) j = if j = k then none else gget m j := by
  induction m with
  | nil => simp [gdel, gget]
  | cons x m ih =>
    obtain ⟨x, u⟩ := x
    rw [List.map_cons, List.nodup_cons] at hn
    rw [gdel]
    by_cases h : k = x
    · subst h
      rw [if_pos rfl, gget]
      by_cases hj : j = k
      · subst hj; rw [if_pos rfl]; exact gget_none.2 hn.1
      · rw [if_neg hj, if_neg hj]
    · rw [if_neg h, gget, ih hn.2, gget]
      by_cases hj : j = x
      · subst hj; rw [if_pos rfl, if_pos rfl, if_neg (fun e => h e.symm)]
      · rw [if_neg hj, if_neg hj]
theorem gset_nodup {m : List (Int × α)} (hn : (m.map (·.1)).Nodup) (k : Int) (v : α) : ((gset m k v).map (·.1)).Nodup := by
  rw [gset_keys]
  split
  · exact hn
  · rename_i h
    have h1 : gget m k = none := by simpa using h
    rw [List.nodup_append]
    refine ⟨hn, by simp, fun a ha b hb => ?_⟩
    simp at hb; subst hb
    exact fun e => gget_none.1 h1 (e ▸ ha)
theorem gdel_nodup {m : List (Int × α)} (hn : (m.map (·.1)).Nodup) (k : Int) : ((gdel m k).map (·.1)).Nodup := by rw [gdel_keys]; exact hn.erase k
theorem gdel_length {m : List (Int × α)} {k : Int} (h : (gget m k).isSome) : (gdel m k).length + 1 = m.length := by
  have h1 := congrArg List.length (gdel_keys m k)
  have hm : k ∈ m.map (·.1) := by
    refine Decidable.byContradiction fun hc => ?_
    rw [gget_none.2 hc] at h; cases h
  rw [List.length_map, List.length_erase_of_mem hm, List.length_map] at h1
  have : 0 < m.length := by
    have := List.length_pos_of_mem hm
    rwa [List.length_map] at this
  omega
/-- If all numbers below k are keys, k is no more than the map's length. -/
theorem range_keys : ∀ (k : Nat) (K : List Int), (∀ j : Nat, j < k → (j : Int) ∈ K) → k ≤ K.length
  | 0, _, _ => Nat.zero_le _
  | k + 1, K, h => by
    have h1 := h k (Nat.lt_succ_self k)
    have h2 := range_keys k (K.erase (k : Int)) fun j hj => (List.mem_erase_of_ne (by omega)).2 (h j (by omega))
    rw [List.length_erase_of_mem h1] at h2
    have := List.length_pos_of_mem h1
    omega
end
theorem mget_eq : ∀ (m : MapL) (k : Int), mget m k = gget m k
  | [], _ => rfl
  | (x, v) :: m, k => by rw [mget_cons, mget_eq m k, gget]
theorem mset_cons (x : Int) (u : Value) (m : MapL) (k : Int) (v : Value) : mset ((x, u) :: m) k v = if k = x then (k, v) :: m else (x, u) :: mset m k v := by
  simp only [mset, findI]
  by_cases h : k = x
  · subst h; simp
  · have h' : (k == x) = false := by simpa using h
    rw [if_neg h]
    simp only [h', findI_shift]
    cases hf : findI k m 0 with
    | none => simp
    | some p => simp
theorem mset_eq : ∀ (m : MapL) (k : Int) (v : Value), mset m k v = gset m k v
  | [], _, _ => rfl
  | (x, u) :: m, k, v => by rw [mset_cons, mset_eq m k v, gset]
theorem mdel_cons (x : Int) (u : Value) (m : MapL) (k : Int) : mdel ((x, u) :: m) k = if k = x then m else (x, u) :: mdel m k := by
  simp only [mdel, findI]
  by_cases h : k = x
  · subst h; simp
  · have h' : (k == x) = false := by simpa using h
    rw [if_neg h]
    simp only [h', findI_shift]
    cases hf : findI k m 0 with
    | none => simp
    | some p => simp
theorem mdel_eqG : ∀ (m : MapL) (k : Int), mdel m k = gdel m k
  | [], _ => rfl
  | (x, u) :: m, k => by rw [mdel_cons, mdel_eqG m k, gdel]
section
variable {α : Type}
theorem mget_gmap (f : α → Value) (m : List (Int × α)) (k : Int) : mget (gmap f m) k = (gget m k).map f := by rw [mget_eq, gget_gmap]
theorem mset_gmap (f : α → Value) (m : List (Int × α)) (k : Int) (v : α) : mset (gmap f m) k (f v) = gmap f (gset m k v) := by rw [mset_eq, gset_gmap]
theorem mdel_gmap (f : α → Value) (m : List (Int × α)) (k : Int) : mdel (gmap f m) k = gmap f (gdel m k) := by rw [mdel_eqG, gdel_gmap]
end
/-! ### Arrays as values -/
section
variable {P : Program} {n : Nat} {cx : Cx} {ρ : Hp} {E : Env} {L : Own} {o : Oper}
theorem Y.array {t e : TypeId} {len m : Nat} {parts : List (Nat × Operand)} {z : Value} (pv : List (Nat × Value)) (cells : List Value) (hop : o.op = .build t parts.toArray) (hp : parts.map (fun p => (p.1, evE E p.2)) = pv.map (fun p => (p.1, some p.2)))
    (hT : P.underlying t = some (.array len e)) (hz : ∀ w, (sizeOf e).run P w = .ok m w) (hzero : ∀ w, (zeroValue t).run P w = .ok z w) (hfill' : fillL (fun i => some (i * m, m)) z.cells.toList pv = some cells) : Y P n cx ρ E L o (.agg cells.toArray) := by
  refine Y.build hop hp fun w => ?_
  have hfill := fillL_eq _ _ _ _ hfill'
  simp only [Instr.build, Sem.run_bind, hzero, Result.andThen_ok, run_underlying hT, hz, hfill, Sem.run_pure]
theorem Y.indexV {x y : Operand} {t e : TypeId} {len m : Nat} {cs : Array Value} {k : IntKind} {i : Int} {v : Value} (hop : o.op = .index t x y) (hT : P.underlying t = some (.array len e)) (hz : ∀ w, (sizeOf e).run P w = .ok m w) (hA : ∀ w, (isAgg e).run P w = .ok false w)
    (hx : evE E x = some (.agg cs)) (hy : evE E y = some (.int k i)) (h0 : 0 ≤ i) (h1 : i < len) (hv : cs[i.toNat * m]? = some v) : Y P n cx ρ E L o v := fun ac w ha _ => by
  have hi : (asIntOf (.int k i)).run P w = .ok (k, i) w := rfl
  simp only [execOp, hop, ha.ev hx, ha.ev hy, Instr.index, Sem.run_bind, hi, Result.andThen_ok, run_underlying hT, if_pos (And.intro h0 h1), hz, part, run_isAgg hA, Bool.false_eq_true, if_false, hv, Sem.run_pure]
end
end Go.Proofs.Ytgfbdiibndbbjaa
