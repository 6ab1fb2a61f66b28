import Derived.Test.YtgmhijlcdadaeaaZMemX2
set_option linter.unusedVariables false
set_option linter.unusedSimpArgs false
namespace Go.Proofs.Ytgmhijlcdadaeaa
open Go
structure ShG where
  budget : Nat
  pages : List (Nat × Pg)
def cntB (b : Bytes) : Nat := b.countP (· != 0)
structure ShPgOk (x : Nat × Pg) : Prop where
  al : x.1 % 256 = 0
  lt : x.1 < 4294967296
  len : x.2.b.length = 256
  cnt : x.2.perm = cntB x.2.b
  pos : 0 < x.2.perm
structure ShOk (l : List (Nat × Pg)) : Prop where
  rising : Rising l
  page : ∀ x ∈ l, ShPgOk x
def labL (l : List (Nat × Pg)) (a : Nat) : UInt8 := match getPg l (baseN a) with
  | some p => p.b.getD (a % 256) 0
  | none => 0
def zeroB : Bytes := List.replicate 256 0
def remPg (l : List (Nat × Pg)) (k : Nat) : List (Nat × Pg) := l.filter fun x => x.1 != k
def putPg (l : List (Nat × Pg)) (k : Nat) (b : Bytes) : List (Nat × Pg) := match getPg l k with
  | some _ => if cntB b = 0 then remPg l k else setPg l k ⟨b, cntB b⟩
  | none => if cntB b = 0 then l else insPg k ⟨b, cntB b⟩ l
def bOf (l : List (Nat × Pg)) (k : Nat) : Bytes := match getPg l k with
  | some p => p.b
  | none => zeroB
def oneP (l : List (Nat × Pg)) (a : Nat) (v : UInt8) : List (Nat × Pg) := putPg l (baseN a) ((bOf l (baseN a)).set (a % 256) v)
def layP (l : List (Nat × Pg)) : Nat → Bytes → List (Nat × Pg)
  | _, [] => l
  | a, v :: bs => layP (oneP l a v) (a + 1) bs
theorem rising_ext : ∀ {l m : List (Nat × Pg)}, Rising l → Rising m → (∀ k, getPg l k = getPg m k) → l = m
  | [], [], _, _, _ => rfl
  | [], (k, p) :: m, _, _, h => by have := h k; simp [getPg] at this
  | (k, p) :: l, [], _, _, h => by have := h k; simp [getPg] at this
  | (k, p) :: l, (j, q) :: m, hl, hm, h => by
    obtain ⟨h1, h2⟩ := List.pairwise_cons.1 hl
    obtain ⟨h3, h4⟩ := List.pairwise_cons.1 hm
    have hkj : k = j := by
      have a1 := h k
      have a2 := h j
      simp only [getPg, if_true] at a1 a2
      by_cases e : k = j
      · exact e
      · rw [if_neg (Ne.symm e)] at a1
        rw [if_neg e] at a2
        have b1 := h3 _ (getPg_mem a1.symm)
        have b2 := h1 _ (getPg_mem a2)
        have b1 : j < k := b1
        have b2 : k < j := b2
        omega
    subst hkj
    have hp : p = q := by have := h k; simpa [getPg] using this
    subst hp
    rw [rising_ext h2 h4 fun x => ?_]
    have := h x
    simp only [getPg] at this
    by_cases e : k = x
    · subst e
      have n1 : getPg l k = none := getPg_none.2 fun hm => by
        obtain ⟨y, hy, e⟩ := List.mem_map.1 hm
        have := h1 y hy; have : k < y.1 := this; omega
      have n2 : getPg m k = none := getPg_none.2 fun hm => by
        obtain ⟨y, hy, e⟩ := List.mem_map.1 hm
        have := h3 y hy; have : k < y.1 := this; omega
      rw [n1, n2]
    · rwa [if_neg e, if_neg e] at this
theorem ShOk.get {l : List (Nat × Pg)} (h : ShOk l) {k : Nat} {p : Pg} (e : getPg l k = some p) : ShPgOk (k, p) := h.page _ (getPg_mem e)
theorem cntB_zero {b : Bytes} : cntB b = 0 ↔ ∀ x ∈ b, x = 0 := by
  rw [cntB, List.countP_eq_zero]; simp
theorem cntB_len (b : Bytes) : cntB b ≤ b.length := List.countP_le_length
theorem zeroB_cnt : cntB zeroB = 0 := by
  rw [cntB_zero]; intro x hx; exact (List.mem_replicate.1 hx).2
theorem zeroB_len : zeroB.length = 256 := List.length_replicate
theorem zeroB_get (j : Nat) : zeroB.getD j 0 = 0 := by
  rw [List.getD_eq_getElem?_getD]
  cases h : zeroB[j]? with
  | none => rfl
  | some x => exact (List.mem_replicate.1 (List.mem_of_getElem? h)).2
theorem bytes_ext {b c : Bytes} (hb : b.length = 256) (hc : c.length = 256) (h : ∀ j, j < 256 → b.getD j 0 = c.getD j 0) : b = c := by
  apply List.ext_getElem (by omega)
  intro j h1 h2
  have := h j (by omega)
  simpa [List.getD_eq_getElem?_getD, h1, h2] using this
theorem getPg_rem (l : List (Nat × Pg)) (k j : Nat) : getPg (remPg l k) j = if j = k then none else getPg l j := by
  unfold remPg
  rw [getPg_filter l (fun y => y != k) j]
  by_cases h : j = k <;> simp [h]
theorem getPg_ins {l : List (Nat × Pg)} (hr : Rising l) {k : Nat} (p : Pg) (hk : k ∉ l.map (·.1)) (j : Nat) : getPg (insPg k p l) j = if j = k then some p else getPg l j := by
  have hr2 := hr.ins p hk
  by_cases h : j = k
  · subst h
    rw [if_pos rfl]
    exact getPg_of_mem hr2.nodup ((insPg_perm _ _ _).mem_iff.2 (List.mem_cons_self ..))
  · rw [if_neg h]
    cases e : getPg l j with
    | none =>
      rw [getPg_none] at e ⊢
      intro hm
      have := ((insPg_perm k p l).map (·.1)).mem_iff.1 hm
      rw [List.map_cons, List.mem_cons] at this
      exact this.elim h e
    | some q => exact getPg_of_mem hr2.nodup ((insPg_perm _ _ _).mem_iff.2 (List.mem_cons_of_mem _ (getPg_mem e)))
theorem bOf_len {l : List (Nat × Pg)} (h : ShOk l) (k : Nat) : (bOf l k).length = 256 := by
  unfold bOf
  cases e : getPg l k with
  | none => exact zeroB_len
  | some p => exact (h.get e).len
theorem labL_bOf (l : List (Nat × Pg)) (a : Nat) : labL l a = (bOf l (baseN a)).getD (a % 256) 0 := by
  unfold labL bOf
  cases e : getPg l (baseN a) with
  | none =>
    show (0 : UInt8) = zeroB.getD (a % 256) 0
    exact (zeroB_get _).symm
  | some p => rfl
theorem getPg_put {l : List (Nat × Pg)} (h : ShOk l) (k : Nat) (b : Bytes) (j : Nat) : getPg (putPg l k b) j = if j = k then (if cntB b = 0 then none else some ⟨b, cntB b⟩) else getPg l j := by
  unfold putPg
  cases e : getPg l k with
  | none =>
    dsimp only
    split
    · by_cases hj : j = k
      · subst hj; rw [if_pos rfl, e]
      · rw [if_neg hj]
    · exact getPg_ins h.rising _ (getPg_none.1 e) j
  | some p =>
    dsimp only
    split
    · exact getPg_rem l k j
    · rw [getPg_set, e]
      rfl
theorem putPg_ok {l : List (Nat × Pg)} (h : ShOk l) {k : Nat} {b : Bytes} (hk : k % 256 = 0) (hk2 : k < 4294967296) (hb : b.length = 256) : ShOk (putPg l k b) := by
  have hpg : ∀ x ∈ putPg l k b, ShPgOk x := by
    intro x hx
    have hr : Rising (putPg l k b) := by
      unfold putPg
      split
      · split
        · exact h.rising.sublist List.filter_sublist
        · exact h.rising.set _ _
      · rename_i e
        split
        · exact h.rising
        · exact h.rising.ins _ (getPg_none.1 e)
    have hg := getPg_of_mem hr.nodup (k := x.1) (p := x.2) hx
    rw [getPg_put h] at hg
    split at hg
    · rename_i e
      split at hg
      · cases hg
      · injection hg with hg
        obtain ⟨x1, x2⟩ := x
        dsimp only at e hg
        subst e
        rw [← hg]
        exact ⟨hk, hk2, hb, rfl, by show 0 < cntB b; omega⟩
    · exact h.get hg
  refine ⟨?_, hpg⟩
  unfold putPg
  split
  · split
    · exact h.rising.sublist List.filter_sublist
    · exact h.rising.set _ _
  · rename_i e
    split
    · exact h.rising
    · exact h.rising.ins _ (getPg_none.1 e)
theorem bOf_put {l : List (Nat × Pg)} (h : ShOk l) {k : Nat} {b : Bytes} (hb : b.length = 256) (j : Nat) : bOf (putPg l k b) j = if j = k then b else bOf l j := by
  unfold bOf
  rw [getPg_put h]
  by_cases hj : j = k
  · rw [if_pos hj, if_pos hj]
    by_cases hc : cntB b = 0
    · rw [if_pos hc]
      have h0 := cntB_zero.1 hc
      refine bytes_ext zeroB_len hb fun i hi => ?_
      have : b.getD i 0 = 0 := by
        rw [List.getD_eq_getElem?_getD, List.getElem?_eq_getElem (by omega)]
        exact h0 _ (List.getElem_mem _)
      rw [this]
      exact zeroB_get _
    · rw [if_neg hc]
  · rw [if_neg hj, if_neg hj]
theorem base_mod (a : Nat) : baseN a % 256 = 0 := by unfold baseN; omega
theorem base_le (a : Nat) : baseN a ≤ a := by unfold baseN; omega
theorem one_ok {l : List (Nat × Pg)} (h : ShOk l) {a : Nat} (ha : a < 4294967296) (v : UInt8) : ShOk (oneP l a v) :=
  putPg_ok h (base_mod a) (by have := base_le a; omega) (by rw [List.length_set]; exact bOf_len h _)
theorem labL_one {l : List (Nat × Pg)} (h : ShOk l) (a : Nat) (v : UInt8) (x : Nat) : labL (oneP l a v) x = if x = a then v else labL l x := by
  have hl := bOf_len h (baseN a)
  have hm : a % 256 < 256 := Nat.mod_lt _ (by decide)
  rw [labL_bOf, labL_bOf, oneP, bOf_put h (by rw [List.length_set]; exact hl)]
  by_cases hb : baseN x = baseN a
  · rw [if_pos hb]
    by_cases hx : x = a
    · subst hx
      rw [if_pos rfl, List.getD_eq_getElem?_getD, List.getElem?_set_self (by omega)]; rfl
    · rw [if_neg hx, hb, List.getD_eq_getElem?_getD, List.getD_eq_getElem?_getD, List.getElem?_set_ne]
      intro e; exact hx (base_eq hb e.symm)
  · rw [if_neg hb, if_neg (by intro e; exact hb (by rw [e]))]
theorem lay_ok : ∀ {bs : Bytes} {l : List (Nat × Pg)} {a : Nat}, ShOk l → a + bs.length ≤ 4294967296 → ShOk (layP l a bs)
  | [], _, _, h, _ => h
  | v :: bs, l, a, h, ha => by
    rw [List.length_cons] at ha
    exact lay_ok (l := oneP l a v) (a := a + 1) (one_ok h (by omega) v) (by omega)
theorem labL_lay : ∀ {bs : Bytes} {l : List (Nat × Pg)} {a : Nat}, ShOk l → a + bs.length ≤ 4294967296 → ∀ x, labL (layP l a bs) x = if a ≤ x ∧ x < a + bs.length then bs.getD (x - a) 0 else labL l x
  | [], l, a, h, _, x => by rw [if_neg (by rw [List.length_nil]; omega)]; rfl
  | v :: bs, l, a, h, ha, x => by
    rw [List.length_cons] at ha
    rw [layP, labL_lay (one_ok h (by omega) v) (by omega), labL_one h, List.length_cons]
    by_cases h1 : x = a
    · subst h1
      rw [if_neg (by omega), if_pos rfl, if_pos (by omega), Nat.sub_self]; rfl
    · by_cases h2 : a + 1 ≤ x ∧ x < a + 1 + bs.length
      · rw [if_pos h2, if_pos (by omega), show x - a = x - (a + 1) + 1 by omega, List.getD_cons_succ]
      · rw [if_neg h2, if_neg h1, if_neg (by omega)]
theorem lab_ext {l m : List (Nat × Pg)} (hl : ShOk l) (hm : ShOk m) (h : ∀ x, x < 4294967296 → labL l x = labL m x) : l = m := by
  refine rising_ext hl.rising hm.rising fun k => ?_
  have hb : k % 256 = 0 → k < 4294967296 → bOf l k = bOf m k := fun h1 h2 => by
    refine bytes_ext (bOf_len hl k) (bOf_len hm k) fun j hj => ?_
    have := h (k + j) (by omega)
    have hk : baseN (k + j) = k := by unfold baseN; omega
    have hj2 : (k + j) % 256 = j := by omega
    rw [labL_bOf, labL_bOf, hk, hj2] at this
    exact this
  have zero : ∀ {p : Pg}, ShPgOk (k, p) → p.b ≠ zeroB := fun hp e => by
    have h1 := hp.cnt
    have h2 := hp.pos
    rw [h1, e, zeroB_cnt] at h2
    omega
  unfold bOf at hb
  cases e1 : getPg l k with
  | none =>
    cases e2 : getPg m k with
    | none => rfl
    | some q =>
      have hq := hm.get e2
      rw [e1, e2] at hb
      exact absurd (hb hq.al hq.lt).symm (zero hq)
  | some p =>
    have hp := hl.get e1
    have := hb hp.al hp.lt
    rw [e1] at this
    cases e2 : getPg m k with
    | none => rw [e2] at this; exact absurd this (zero hp)
    | some q =>
      rw [e2] at this
      have hq := hm.get e2
      obtain ⟨pb, pp⟩ := p
      obtain ⟨qb, qp⟩ := q
      dsimp only at this
      subst this
      rw [show pp = qp from hp.cnt.trans hq.cnt.symm]
def sizedP (size : Int) : Nat := if size < 0 ∨ 4 < size then 4 else size.toNat
def endN (a : Nat) (n : Int) : Nat := a + min n.toNat (4294967296 - a)
def setM (S : ShG) (a : Nat) (bs : Bytes) : Int × ShG := if S.budget < (layP S.pages a (bs.take (4294967296 - a))).length then (6, S) else (0, ⟨S.budget, layP S.pages a (bs.take (4294967296 - a))⟩)
def fillM (S : ShG) (a : Nat) (n : Int) (v : UInt8) : Int × ShG := if 1048576 < n then (1, S) else setM S a (List.replicate n.toNat v)
def putM (S : ShG) (a : Nat) (size : Int) (t : Bytes) : Int × ShG := setM S a (t.take (sizedP size))
def tagM (S : ShG) (a : Nat) (size : Int) : Bytes := (List.range 4).map fun i => if i < sizedP size ∧ a + i < 4294967296 then labL S.pages (a + i) else 0
def cutP (k a e : Nat) (b : Bytes) : Bytes := (b.take (min (k + 256) e - k)).drop (max k a - k)
def orL (l : Bytes) : UInt8 := l.foldl (· ||| ·) 0
def anyM (S : ShG) (a : Nat) (n : Int) : UInt8 := orL (S.pages.flatMap fun x => cutP x.1 a (endN a n) x.2.b)
def clrB (k a e : Nat) (b : Bytes) : Bytes := b.zipIdx.map fun x => if a ≤ k + x.2 ∧ k + x.2 < e then 0 else x.1
def clearP (l : List (Nat × Pg)) (a e : Nat) : List (Nat × Pg) := (l.map fun x => (x.1, (⟨clrB x.1 a e x.2.b, cntB (clrB x.1 a e x.2.b)⟩ : Pg))).filter fun x => x.2.perm != 0
def clearM (S : ShG) (a : Nat) (n : Int) : ShG := ⟨S.budget, clearP S.pages a (endN a n)⟩
theorem clrB_len (k a e : Nat) (b : Bytes) : (clrB k a e b).length = b.length := by simp [clrB]
theorem clrB_get (k a e : Nat) (b : Bytes) (j : Nat) : (clrB k a e b).getD j 0 = if a ≤ k + j ∧ k + j < e then 0 else b.getD j 0 := by
  simp only [clrB, List.getD_eq_getElem?_getD, List.getElem?_map, List.getElem?_zipIdx]
  cases h : b[j]? with
  | none => simp
  | some x => simp only [Option.map_some, Option.getD_some, Nat.zero_add]
theorem clear_get {l : List (Nat × Pg)} (h : ShOk l) (a e k : Nat) : getPg (clearP l a e) k = match getPg l k with
    | some p => if cntB (clrB k a e p.b) = 0 then none else some ⟨clrB k a e p.b, cntB (clrB k a e p.b)⟩
    | none => none := by
  have key : ∀ l : List (Nat × Pg), (l.map (·.1)).Nodup → getPg (clearP l a e) k = match getPg l k with
    | some p => if cntB (clrB k a e p.b) = 0 then none else some ⟨clrB k a e p.b, cntB (clrB k a e p.b)⟩
    | none => none := by
    intro l
    induction l with
    | nil => intro _; rfl
    | cons y l ih =>
      intro hn
      obtain ⟨j, q⟩ := y
      rw [List.map_cons, List.nodup_cons] at hn
      have hc : clearP ((j, q) :: l) a e = if cntB (clrB j a e q.b) = 0 then clearP l a e else (j, ⟨clrB j a e q.b, cntB (clrB j a e q.b)⟩) :: clearP l a e := by
        unfold clearP
        rw [List.map_cons, List.filter_cons]
        by_cases hz : cntB (clrB j a e q.b) = 0 <;> simp [hz]
      rw [hc]
      by_cases e1 : j = k
      · subst e1
        have hno : getPg l j = none := getPg_none.2 hn.1
        have ih' := ih hn.2
        rw [hno] at ih'
        simp only [getPg, if_true]
        split
        · exact ih'
        · simp [getPg]
      · simp only [getPg, if_neg e1]
        split
        · exact ih hn.2
        · simp only [getPg, if_neg e1]; exact ih hn.2
  exact key l h.rising.nodup
theorem clear_rising {l : List (Nat × Pg)} (h : Rising l) (a e : Nat) : Rising (clearP l a e) := by
  unfold clearP
  refine List.Pairwise.sublist List.filter_sublist ?_
  exact List.pairwise_map.2 h
theorem clear_ok {l : List (Nat × Pg)} (h : ShOk l) (a e : Nat) : ShOk (clearP l a e) := by
  refine ⟨clear_rising h.rising a e, fun x hx => ?_⟩
  have hg := getPg_of_mem (clear_rising h.rising a e).nodup (k := x.1) (p := x.2) hx
  rw [clear_get h] at hg
  cases hp : getPg l x.1 with
  | none => rw [hp] at hg; cases hg
  | some p =>
    rw [hp] at hg
    dsimp only at hg
    split at hg
    · cases hg
    · injection hg with hg
      have hok := h.get hp
      obtain ⟨x1, x2⟩ := x
      dsimp only at hg hok
      rw [← hg]
      exact ⟨hok.al, hok.lt, by show (clrB _ _ _ _).length = 256; rw [clrB_len]; exact hok.len, rfl, by show 0 < cntB _; exact Nat.pos_of_ne_zero (by assumption)⟩
end Go.Proofs.Ytgmhijlcdadaeaa
