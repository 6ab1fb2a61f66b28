import Derived.Test.YtkjeidoplonkjaaZRsA
set_option linter.unusedVariables false
set_option linter.unusedSimpArgs false
set_option maxRecDepth 100000
namespace Go.Proofs.Ytkjeidoplonkjaa
open Go
theorem splL_run : ∀ (vs cur : List Value) (k : Nat), k + vs.length ≤ cur.length → splL cur k vs = cur.take k ++ vs ++ cur.drop (k + vs.length)
  | [], cur, k, _ => by simp [splL]
  | v :: vs, cur, k, h => by
    rw [List.length_cons] at h
    rw [splL, splL_run vs (cur.set k v) (k + 1) (by rw [List.length_set]; omega), List.length_cons]
    have h1 : (cur.set k v).take (k + 1) = cur.take k ++ [v] := by
      rw [List.take_succ_eq_append_getElem (by rw [List.length_set]; omega), List.take_set_of_le (Nat.le_refl k), List.getElem_set_self]
    rw [h1, List.drop_set_of_lt (by omega), show k + 1 + vs.length = k + (vs.length + 1) by omega, List.append_assoc, List.append_assoc, List.append_assoc]
    rfl
theorem fill_one {m : Nat} {cells zs : List Value} (hc : cells.length = m) : fillL (fun i => some (i * m, m)) (litZ (1 * m) m zs) [(0, .agg cells.toArray)] = some cells := by
  have hl : (litZ (1 * m) m zs).length = m := by simp [litZ]
  have e : (Value.agg cells.toArray).cells.toList = cells := by simp [Value.cells]
  have h1 : Nat.beq m m = true := by simp
  have h2 : Nat.ble (0 * m + m) m = true := by simp
  unfold fillL
  dsimp only
  rw [e, hl, hc, h1, h2]
  rw [Bool.and_self, cond_true, splL_run cells _ (0 * m) (by omega), hc]
  unfold fillL
  congr 1
  rw [Nat.zero_mul, List.take_zero, Nat.zero_add, List.drop_of_length_le (by omega), List.nil_append, List.append_nil]
theorem ins_at : ∀ {l : List (Nat × Pg)} {k : Nat} (p : Pg), Rising l → k ∉ l.map (·.1) → insPg k p l = l.take (l.takeWhile fun x => decide (x.1 < k)).length ++ (k, p) :: l.drop (l.takeWhile fun x => decide (x.1 < k)).length
  | [], k, p, _, _ => rfl
  | x :: l, k, p, h, hk => by
    obtain ⟨h1, h2⟩ := List.pairwise_cons.1 h
    simp only [List.map_cons, List.mem_cons, not_or] at hk
    by_cases e : x.1 < k
    · rw [insPg, if_neg (by omega), List.takeWhile_cons_of_pos (by simpa using e), List.length_cons, List.take_succ_cons, List.drop_succ_cons, ins_at p h2 hk.2]; rfl
    · rw [insPg, if_pos (by have := hk.1; omega), List.takeWhile_cons_of_neg (by simpa using e)]; rfl
theorem set_at : ∀ {l : List (Nat × Pg)} {k : Nat} {p q : Pg}, (l.map (·.1)).Nodup → l[findN l k]? = some (k, q) → setPg l k p = l.set (findN l k) (k, p)
  | [], k, p, q, _, h => by simp at h
  | x :: l, k, p, q, hn, h => by
    rw [List.map_cons, List.nodup_cons] at hn
    rw [findN_cons] at h ⊢
    unfold setPg
    by_cases e : x.1 = k
    · rw [if_pos e, List.map_cons, if_pos e, List.set_cons_zero]
      congr 1
      have : l.map (fun y => if y.1 = k then (k, p) else y) = l.map id := List.map_congr_left fun y hy => if_neg fun e2 => hn.1 (by rw [e, ← e2]; exact List.mem_map.2 ⟨y, hy, rfl⟩)
      rw [this, List.map_id]
    · rw [if_neg e] at h ⊢
      rw [List.getElem?_cons_succ] at h
      rw [List.map_cons, if_neg e, List.set_cons_succ]
      congr 1
      exact set_at hn.2 h
theorem rem_at : ∀ {l : List (Nat × Pg)} {k : Nat} {q : Pg}, (l.map (·.1)).Nodup → l[findN l k]? = some (k, q) → remPg l k = l.take (findN l k) ++ l.drop (findN l k + 1)
  | [], k, q, _, h => by simp at h
  | x :: l, k, q, hn, h => by
    rw [List.map_cons, List.nodup_cons] at hn
    rw [findN_cons] at h ⊢
    unfold remPg
    by_cases e : x.1 = k
    · rw [if_pos e, List.filter_cons_of_neg (by simpa using e), List.filter_eq_self.2]
      · rfl
      · intro y hy
        have : y.1 ≠ k := fun e2 => hn.1 (by rw [e, ← e2]; exact List.mem_map.2 ⟨y, hy, rfl⟩)
        simpa using this
    · rw [if_neg e] at h ⊢
      rw [List.getElem?_cons_succ] at h
      rw [List.filter_cons_of_pos (by simpa using e), List.take_succ_cons, List.drop_succ_cons, List.cons_append]
      congr 1
      exact rem_at hn.2 h
theorem sh_few {l : List (Nat × Pg)} (h : ShOk l) : l.length ≤ 16777216 := by
  have key : ∀ (N : Nat) (l : List Nat), l.Nodup → (∀ x ∈ l, x < N) → l.length ≤ N := by
    intro N
    induction N with
    | zero => intro l _ h; cases l with
      | nil => exact Nat.le_refl _
      | cons x l => exact absurd (h x (List.mem_cons_self ..)) (by omega)
    | succ N ih =>
      intro l hn h
      have h1 := ih (l.erase N) (hn.erase N) fun x hx => by
        have := (hn.mem_erase_iff).1 hx
        have := h x this.2
        omega
      have h2 : l.length ≤ (l.erase N).length + 1 := by rw [List.length_erase]; split <;> omega
      omega
  have h2 := key 16777216 (l.map fun x => x.1 / 256) (by
    rw [List.Nodup, List.pairwise_map]
    have hr : l.Pairwise fun x y => x.1 ≠ y.1 := h.rising.imp fun h => by omega
    refine (List.Pairwise.and_mem.1 hr).imp fun {x y} hxy => ?_
    obtain ⟨hx, hy, hne⟩ := hxy
    have a1 := (h.page x hx).al
    have a2 := (h.page y hy).al
    omega) fun x hx => by
      obtain ⟨y, hy, rfl⟩ := List.mem_map.1 hx
      have := (h.page y hy).lt
      omega
  simpa using h2
end Go.Proofs.Ytkjeidoplonkjaa
