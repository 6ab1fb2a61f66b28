import Derived.Test.YtgmhijlcdadaeaaZShC
set_option linter.unusedVariables false
set_option linter.unusedSimpArgs false
set_option maxRecDepth 100000
namespace Go.Proofs.Ytgmhijlcdadaeaa
open Go
structure NowOk (now : List (Nat × Pg)) : Prop where
  nodup : (now.map (·.1)).Nodup
  al : ∀ y ∈ now, y.1 % 256 = 0 ∧ y.1 < 4294967296
  len : ∀ y ∈ now, y.2.b.length = 256
  cnt : ∀ y ∈ now, y.2.perm = cntB y.2.b
def nowB (l now : List (Nat × Pg)) (k : Nat) : Bytes := match getPg now k with
  | some p => p.b
  | none => bOf l k
def nowPut (now : List (Nat × Pg)) (k : Nat) (p : Pg) : List (Nat × Pg) := match getPg now k with
  | some _ => setPg now k p
  | none => now ++ [(k, p)]
def pgB (b : Bytes) : Pg := ⟨b, cntB b⟩
def now1 (l now : List (Nat × Pg)) (x : Nat) (v : UInt8) : List (Nat × Pg) := nowPut now (baseN x) (pgB ((nowB l now (baseN x)).set (x % 256) v))
def nowP (l : List (Nat × Pg)) (a : Nat) (bs : Bytes) : Nat → List (Nat × Pg)
  | 0 => []
  | i + 1 => now1 l (nowP l a bs i) (a + i) (bs.getD i 0)
theorem getPg_snoc {l : List (Nat × Pg)} {k : Nat} {p : Pg} (h : getPg l k = none) (j : Nat) : getPg (l ++ [(k, p)]) j = if j = k then some p else getPg l j := by
  induction l with
  | nil =>
    simp only [List.nil_append, getPg]
    by_cases e : k = j
    · subst e; simp
    · rw [if_neg e, if_neg (Ne.symm e)]
  | cons y l ih =>
    obtain ⟨y, q⟩ := y
    simp only [getPg] at h
    split at h
    · cases h
    · rename_i hy
      simp only [List.cons_append, getPg]
      by_cases e : y = j
      · subst e; rw [if_pos rfl, if_neg hy, if_pos rfl]
      · rw [if_neg e, if_neg e]; exact ih h
theorem getPg_nowPut (now : List (Nat × Pg)) (k : Nat) (p : Pg) (j : Nat) : getPg (nowPut now k p) j = if j = k then some p else getPg now j := by
  unfold nowPut
  cases h : getPg now k with
  | none => exact getPg_snoc h j
  | some q => dsimp only; rw [getPg_set, h]; rfl
theorem nowPut_ok {now : List (Nat × Pg)} (h : NowOk now) {k : Nat} {b : Bytes} (hk : k % 256 = 0) (hk2 : k < 4294967296) (hb : b.length = 256) : NowOk (nowPut now k (pgB b)) := by
  have hmem : ∀ y ∈ nowPut now k (pgB b), y = (k, pgB b) ∨ y ∈ now := by
    intro y hy
    unfold nowPut at hy
    split at hy
    · obtain ⟨z, hz, e⟩ := List.mem_map.1 hy
      split at e
      · exact .inl e.symm
      · exact .inr (e ▸ hz)
    · rcases List.mem_append.1 hy with h | h
      · exact .inr h
      · exact .inl (List.mem_singleton.1 h)
  refine ⟨?_, fun y hy => ?_, fun y hy => ?_, fun y hy => ?_⟩
  · unfold nowPut
    split
    · rw [setPg_keys]; exact h.nodup
    · rename_i e
      rw [List.map_append, List.nodup_append]
      refine ⟨h.nodup, by simp, fun x hx y hy => ?_⟩
      simp at hy
      subst hy
      intro e2
      subst e2
      exact getPg_none.1 e hx
  · rcases hmem y hy with rfl | h'
    · exact ⟨hk, hk2⟩
    · exact h.al y h'
  · rcases hmem y hy with rfl | h'
    · exact hb
    · exact h.len y h'
  · rcases hmem y hy with rfl | h'
    · rfl
    · exact h.cnt y h'
theorem nowB_len {l now : List (Nat × Pg)} (h : ShOk l) (hn : NowOk now) (k : Nat) : (nowB l now k).length = 256 := by
  unfold nowB
  cases e : getPg now k with
  | none => exact bOf_len h k
  | some p => exact hn.len _ (getPg_mem e)
theorem now1_ok {l now : List (Nat × Pg)} (h : ShOk l) (hn : NowOk now) {x : Nat} (hx : x < 4294967296) (v : UInt8) : NowOk (now1 l now x v) :=
  nowPut_ok hn (base_mod x) (by have := base_le x; omega) (by rw [List.length_set]; exact nowB_len h hn _)
theorem nowP_ok {l : List (Nat × Pg)} (h : ShOk l) {a : Nat} {bs : Bytes} : ∀ {i : Nat}, a + i ≤ 4294967296 → NowOk (nowP l a bs i)
  | 0, _ => ⟨by simp [nowP], fun y h => by simp [nowP] at h, fun y h => by simp [nowP] at h, fun y h => by simp [nowP] at h⟩
  | i + 1, hi => now1_ok h (nowP_ok h (by omega)) (by omega) _
def labN (l now : List (Nat × Pg)) (x : Nat) : UInt8 := (nowB l now (baseN x)).getD (x % 256) 0
theorem labN_now1 {l now : List (Nat × Pg)} (h : ShOk l) (hn : NowOk now) (a : Nat) (v : UInt8) (x : Nat) : labN l (now1 l now a v) x = if x = a then v else labN l now x := by
  have hl := nowB_len h hn (baseN a)
  have hm : a % 256 < 256 := Nat.mod_lt _ (by decide)
  have hB : ∀ k, nowB l (now1 l now a v) k = if k = baseN a then (nowB l now (baseN a)).set (a % 256) v else nowB l now k := fun k => by
    conv => lhs; unfold nowB now1
    rw [getPg_nowPut]
    by_cases e : k = baseN a
    · rw [if_pos e, if_pos e]; rfl
    · rw [if_neg e, if_neg e]; rfl
  unfold labN
  rw [hB]
  by_cases hb : baseN x = baseN a
  · rw [if_pos hb]
    by_cases hx : x = a
    · subst hx
      rw [if_pos rfl, List.getD_eq_getElem?_getD, List.getElem?_set_self (by omega)]; rfl
    · rw [if_neg hx, hb, List.getD_eq_getElem?_getD, List.getD_eq_getElem?_getD, List.getElem?_set_ne]
      intro e; exact hx (base_eq hb e.symm)
  · rw [if_neg hb, if_neg (by intro e; exact hb (by rw [e]))]
theorem labN_nowP {l : List (Nat × Pg)} (h : ShOk l) {a : Nat} {bs : Bytes} : ∀ {i : Nat}, a + i ≤ 4294967296 → ∀ x, labN l (nowP l a bs i) x = if a ≤ x ∧ x < a + i then bs.getD (x - a) 0 else labL l x
  | 0, _, x => by rw [if_neg (by omega), labL_bOf]; rfl
  | i + 1, hi, x => by
    rw [nowP, labN_now1 h (nowP_ok h (by omega)), labN_nowP h (by omega)]
    by_cases e : x = a + i
    · rw [if_pos e, if_pos (by omega), e, Nat.add_sub_cancel_left]
    · rw [if_neg e]
      by_cases e2 : a ≤ x ∧ x < a + i
      · rw [if_pos e2, if_pos (by omega)]
      · rw [if_neg e2, if_neg (by omega)]
def putAll (l now : List (Nat × Pg)) : List (Nat × Pg) := now.foldl (fun l y => putPg l y.1 y.2.b) l
theorem putAll_ok : ∀ {now l : List (Nat × Pg)}, ShOk l → (∀ y ∈ now, y.1 % 256 = 0 ∧ y.1 < 4294967296) → (∀ y ∈ now, y.2.b.length = 256) → ShOk (putAll l now)
  | [], l, h, _, _ => h
  | y :: now, l, h, h1, h2 => putAll_ok (now := now) (putPg_ok h (h1 y (List.mem_cons_self ..)).1 (h1 y (List.mem_cons_self ..)).2 (h2 y (List.mem_cons_self ..))) (fun z hz => h1 z (List.mem_cons_of_mem _ hz)) fun z hz => h2 z (List.mem_cons_of_mem _ hz)
theorem getPg_putAll : ∀ {now l : List (Nat × Pg)}, ShOk l → (now.map (·.1)).Nodup → (∀ y ∈ now, y.1 % 256 = 0 ∧ y.1 < 4294967296) → (∀ y ∈ now, y.2.b.length = 256) → ∀ j, getPg (putAll l now) j = match getPg now j with
    | some p => if cntB p.b = 0 then none else some (pgB p.b)
    | none => getPg l j
  | [], l, h, _, _, _, j => rfl
  | y :: now, l, h, hn, h1, h2, j => by
    rw [List.map_cons, List.nodup_cons] at hn
    have h' : ShOk (putPg l y.1 y.2.b) := putPg_ok h (h1 y (List.mem_cons_self ..)).1 (h1 y (List.mem_cons_self ..)).2 (h2 y (List.mem_cons_self ..))
    have ih := getPg_putAll (now := now) h' hn.2 (fun z hz => h1 z (List.mem_cons_of_mem _ hz)) (fun z hz => h2 z (List.mem_cons_of_mem _ hz)) j
    show getPg (putAll (putPg l y.1 y.2.b) now) j = _
    rw [ih]
    obtain ⟨k, p⟩ := y
    simp only [getPg]
    by_cases e : k = j
    · subst e
      rw [getPg_none.2 hn.1, if_pos rfl]
      dsimp only
      rw [getPg_put h, if_pos rfl]; rfl
    · rw [if_neg e]
      cases hg : getPg now j with
      | some q => rfl
      | none => dsimp only; rw [getPg_put h, if_neg (Ne.symm e)]
theorem lay_putAll {l : List (Nat × Pg)} (h : ShOk l) {a : Nat} {bs : Bytes} (ha : a + bs.length ≤ 4294967296) : putAll l (nowP l a bs bs.length) = layP l a bs := by
  have hn := nowP_ok h (bs := bs) ha
  have hok := putAll_ok h hn.al hn.len
  refine lab_ext hok (lay_ok h ha) fun x hx => ?_
  rw [labL_lay h ha, ← labN_nowP h (bs := bs) ha, labL_bOf]
  unfold labN
  congr 1
  have hg := getPg_putAll h hn.nodup hn.al hn.len (baseN x)
  unfold nowB
  conv => lhs; unfold bOf
  rw [hg]
  cases e : getPg (nowP l a bs bs.length) (baseN x) with
  | none => dsimp only; unfold bOf; rfl
  | some p =>
    dsimp only
    by_cases hz : cntB p.b = 0
    · rw [if_pos hz]
      have h0 := cntB_zero.1 hz
      refine bytes_ext zeroB_len (hn.len _ (getPg_mem e)) fun i hi => ?_
      have hl : p.b.length = 256 := hn.len _ (getPg_mem e)
      rw [zeroB_get, List.getD_eq_getElem?_getD, List.getElem?_eq_getElem (by omega)]
      exact (h0 _ (List.getElem_mem _)).symm
    · rw [if_neg hz]; rfl
theorem putPg_len {l : List (Nat × Pg)} (h : ShOk l) (k : Nat) (b : Bytes) : ((putPg l k b).length : Int) = l.length + cOf l (k, pgB b) := by
  unfold putPg cOf pgB
  cases e : getPg l k with
  | none =>
    dsimp only
    split
    · rename_i hz; simp [hz]
    · rw [(insPg_perm _ _ _).length_eq, List.length_cons]
      have : 0 < cntB b := by omega
      simp [this]
  | some p =>
    dsimp only
    have hrem : (remPg l k).length + 1 = l.length := by
      have hn := h.rising.nodup
      have hm := getPg_mem e
      clear e h
      unfold remPg
      induction l with
      | nil => cases hm
      | cons y l ih =>
        rw [List.map_cons, List.nodup_cons] at hn
        rw [List.filter_cons]
        by_cases hy : y.1 = k
        · have hall : l.filter (fun x => x.1 != k) = l := List.filter_eq_self.2 fun z hz => by
            have : z.1 ≠ k := fun e => hn.1 (by rw [hy, ← e]; exact List.mem_map.2 ⟨z, hz, rfl⟩)
            simpa using this
          simp [hy, hall]
        · have hm' : (k, p) ∈ l := (List.mem_cons.1 hm).resolve_left fun e => hy (by rw [← e])
          have := ih hn.2 hm'
          simp [hy]; omega
    split
    · rename_i hz
      simp [hz]; omega
    · have : 0 < cntB b := by omega
      rw [setPg, List.length_map]
      simp [this]
theorem putAll_len : ∀ {now l : List (Nat × Pg)}, ShOk l → (now.map (·.1)).Nodup → (∀ y ∈ now, y.1 % 256 = 0 ∧ y.1 < 4294967296) → (∀ y ∈ now, y.2.b.length = 256) → (∀ y ∈ now, y.2.perm = cntB y.2.b) → ((putAll l now).length : Int) = l.length + moreP l now
  | [], l, h, _, _, _, _ => by simp [putAll, moreP]
  | y :: now, l, h, hn, h1, h2, h3 => by
    rw [List.map_cons, List.nodup_cons] at hn
    have h' : ShOk (putPg l y.1 y.2.b) := putPg_ok h (h1 y (List.mem_cons_self ..)).1 (h1 y (List.mem_cons_self ..)).2 (h2 y (List.mem_cons_self ..))
    have ih := putAll_len (now := now) h' hn.2 (fun z hz => h1 z (List.mem_cons_of_mem _ hz)) (fun z hz => h2 z (List.mem_cons_of_mem _ hz)) (fun z hz => h3 z (List.mem_cons_of_mem _ hz))
    have e1 : moreP (putPg l y.1 y.2.b) now = moreP l now := by
      unfold moreP
      congr 1
      refine List.map_congr_left fun z hz => ?_
      unfold cOf
      have hne : ¬ z.1 = y.1 := fun e => hn.1 (by rw [← e]; exact List.mem_map.2 ⟨z, hz, rfl⟩)
      rw [getPg_put h, if_neg hne]
    have e2 : cOf l (y.1, pgB y.2.b) = cOf l y := by
      have := h3 y (List.mem_cons_self ..)
      unfold cOf pgB
      rw [this]
    show ((putAll (putPg l y.1 y.2.b) now).length : Int) = _
    rw [ih, e1, putPg_len h, e2]
    show _ = _ + (cOf l y :: now.map (cOf l)).sum
    rw [List.sum_cons]
    unfold moreP
    omega
theorem nowP_length {l : List (Nat × Pg)} {a : Nat} {bs : Bytes} : ∀ {i : Nat}, (nowP l a bs i).length ≤ i
  | 0 => Nat.le_refl _
  | i + 1 => by
    have := nowP_length (l := l) (a := a) (bs := bs) (i := i)
    rw [nowP, now1, nowPut]
    split
    · rw [setPg, List.length_map]; omega
    · rw [List.length_append, List.length_singleton]; omega
end Go.Proofs.Ytgmhijlcdadaeaa
