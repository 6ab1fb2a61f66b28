import Derived.Test.YtjfgefdcngpplaaZRsC
import Derived.Test.YtjfgefdcngpplaaZMemX2
set_option linter.unusedVariables false
set_option linter.unusedSimpArgs false
set_option maxRecDepth 100000
namespace Go.Proofs.Ytjfgefdcngpplaa
open Go
def refPg (x : Nat × Pg) : List Value := .int .u32 (x.1 : Int) :: .int .i64 (x.2.perm : Int) :: bytesV x.2.b
def refGen (x : Nat × Nat) : List Value := [.int .u32 (x.1 : Int), .int .u32 (x.2 : Int)]
structure RefX where
  A : Option Addr
  c : Nat
  B : Option Addr
  d : Nat
  g : List (Nat × Nat)
def gLook : List (Nat × Nat) → Nat → Nat
  | [], _ => 0
  | (x, n) :: l, k => if x = k then n else gLook l k
structure GenF (G : Nat → Nat) (g : List (Nat × Nat)) : Prop where
  gens : ∀ k, G k = gLook g k
  once : (g.map (·.1)).Nodup
  rng : ∀ y ∈ g, y.1 % 256 = 0 ∧ y.1 < 4294967296 ∧ y.2 < 4294967296
structure RefF (M : MemG) (x : RefX) : Prop where
  ok : MemOk M
  gen : GenF M.gens x.g
def refObj (B : Int) (A : Option Addr) (k c : Nat) (C : Option Addr) (m d : Nat) : Obj := .cells #[.int .i64 B, .slice A k c, .slice C m d] 59
def RefO (b : Nat) (M : MemG) : HProp := Ex fun x : RefX => Fact (RefF M x) (Sep (Pt b (refObj M.budget x.A M.pages.length x.c x.B x.g.length x.d)) (Sep (OwnS 63 258 x.A M.pages.length x.c (M.pages.flatMap refPg)) (OwnS 94 2 x.B x.g.length x.d (x.g.flatMap refGen))))
theorem refPg_len {x : Nat × Pg} (h : x.2.b.length = 256) : (refPg x).length = 258 := by simp [refPg, bytesV, h]
theorem refPg_base (x : Nat × Pg) : (refPg x)[0]? = some (.int .u32 (x.1 : Int)) := rfl
theorem refPg_perm (x : Nat × Pg) : (refPg x)[1]? = some (.int .i64 (x.2.perm : Int)) := rfl
theorem refPg_byte {x : Nat × Pg} (h : x.2.b.length = 256) {j : Nat} (hj : j < 256) : (refPg x)[2 + j]? = some (.int .u8 ((x.2.b.getD j 0).toNat : Int)) := by
  rw [refPg, show 2 + j = (j + 1) + 1 by omega, List.getElem?_cons_succ, List.getElem?_cons_succ, bytesV, List.getElem?_map, List.getD_eq_getElem?_getD, List.getElem?_eq_getElem (by omega)]
  rfl
theorem RefF.rows {M : MemG} {x : RefX} (f : RefF M x) : ∀ y ∈ M.pages, (refPg y).length = 258 := fun y hy => refPg_len (f.ok.page y hy).len
theorem gRows (g : List (Nat × Nat)) : ∀ y ∈ g, (refGen y).length = 2 := fun _ _ => rfl
theorem GenF.few {G : Nat → Nat} {g : List (Nat × Nat)} (f : GenF G g) : g.length ≤ 16777216 := by
  have key : ∀ (N : Nat) (l : List Nat), l.Nodup → (∀ x ∈ l, x < N) → l.length ≤ N := by
    intro N
    induction N with
    | zero => intro l _ h; cases l with
      | nil => exact Nat.le_refl _
      | cons x l => exact absurd (h x (List.mem_cons_self ..)) (by omega)
    | succ N ih =>
      intro l hn h
      have h1 := ih (l.erase N) (hn.erase N) fun x hx => by
        have := (hn.mem_erase_iff).1 hx
        have := h x this.2
        omega
      have h2 : l.length ≤ (l.erase N).length + 1 := by rw [List.length_erase]; split <;> omega
      omega
  have h := key 16777216 (g.map fun y => y.1 / 256) (by
    have h1 := f.once
    rw [List.Nodup, List.pairwise_map] at h1 ⊢
    refine (List.Pairwise.and_mem.1 h1).imp fun {a b} h => ?_
    have h2 := f.rng a h.1
    have h3 := f.rng b h.2.1
    have h4 := h.2.2
    omega) fun k hk => by
      obtain ⟨y, hy, rfl⟩ := List.mem_map.1 hk
      have := f.rng y hy
      omega
  simpa using h
section
variable {P : Program} {n : Nat} {cx : Cx} {ρ : Hp} {E : Env} {L : Own} {ops : Array Oper} {Q : Exit → Act → World → Prop} {S' : World → Prop} {π : List (Nat × Bool)}
theorem St.refOpen {w : World} (hs : St cx ρ L w) {b : Nat} {M : MemG} (j j1 j2 : Nat) (hd : [j, j1, j2].Nodup) (e : look L j = some (RefO b M)) :
    ∃ x, RefF M x ∧ St cx ρ ((j, Pt b (refObj M.budget x.A M.pages.length x.c x.B x.g.length x.d)) :: (j1, OwnS 63 258 x.A M.pages.length x.c (M.pages.flatMap refPg)) :: (j2, OwnS 94 2 x.B x.g.length x.d (x.g.flatMap refGen)) :: L) w := by
  obtain ⟨x, h1⟩ := hs.ex' e
  obtain ⟨hf, h2⟩ := h1.fact (j := j) (by rw [look_cons, if_pos rfl])
  simp only [List.nodup_cons, List.mem_cons, not_or, List.not_mem_nil, not_false_eq_true, List.nodup_nil, and_true] at hd
  obtain ⟨⟨d1, d2⟩, d4⟩ := hd
  have h3 := h2.part (j := j) (k := j1) d1 (by rw [look_cons, if_pos rfl])
  have h4 := h3.part (j := j1) (k := j2) d4 (by rw [look_cons, if_neg d1, look_cons, if_pos rfl])
  refine ⟨x, hf, h4.subF fun q C hq => ?_⟩
  simp only [look_cons] at hq ⊢
  by_cases q0 : j = q <;> by_cases q1 : j1 = q <;> by_cases q2 : j2 = q <;> simp only [q0, q1, q2, if_true, if_false] at hq ⊢ <;> first | exact hq | (exfalso; omega)
theorem St.refClose {w : World} (hs : St cx ρ L w) {b : Nat} {M : MemG} {A : Option Addr} {c : Nat} {B : Option Addr} {d : Nat} {g : List (Nat × Nat)} (j j1 j2 : Nat) (hd : [j, j1, j2].Nodup) (hf : RefF M ⟨A, c, B, d, g⟩) (e : look L j = some (Pt b (refObj M.budget A M.pages.length c B g.length d))) (e1 : look L j1 = some (OwnS 63 258 A M.pages.length c (M.pages.flatMap refPg))) (e2 : look L j2 = some (OwnS 94 2 B g.length d (g.flatMap refGen))) :
    St cx ρ ((j, RefO b M) :: (j1, Emp) :: (j2, Emp) :: L) w := by
  simp only [List.nodup_cons, List.mem_cons, not_or, List.not_mem_nil, not_false_eq_true, List.nodup_nil, and_true] at hd
  obtain ⟨⟨d1, d2⟩, d4⟩ := hd
  have h4 := hs.glue (j := j1) (k := j2) d4 e1 e2
  have h5 := h4.glue (j := j) (k := j1) d1 (by rw [look_cons, if_neg (Ne.symm d1), look_cons, if_neg (Ne.symm d2)]; exact e) (by rw [look_cons, if_pos rfl])
  have h6 := h5.imp (i := j) (A' := RefO b M) (by rw [look_cons, if_pos rfl]) fun k hk => ⟨⟨A, c, B, d, g⟩, hf, hk⟩
  refine h6.subF fun q C hq => ?_
  simp only [look_cons] at hq ⊢
  by_cases q0 : j = q <;> by_cases q1 : j1 = q <;> by_cases q2 : j2 = q <;> simp only [q0, q1, q2, if_true, if_false] at hq ⊢ <;> first | exact hq | (exfalso; omega)
theorem Cd.refOpen {d : Code} {b : Nat} {M : MemG} (j j1 j2 : Nat) (hd : [j, j1, j2].Nodup) (e : look L j = some (RefO b M))
    (h : ∀ A c B d' g, RefF M ⟨A, c, B, d', g⟩ → Cd P Q n cx ρ E ((j, Pt b (refObj M.budget A M.pages.length c B g.length d')) :: (j1, OwnS 63 258 A M.pages.length c (M.pages.flatMap refPg)) :: (j2, OwnS 94 2 B g.length d' (g.flatMap refGen)) :: L) d) : Cd P Q n cx ρ E L d := fun a w ha hs =>
  let ⟨x, hf, h2⟩ := hs.refOpen j j1 j2 hd e; h x.A x.c x.B x.d x.g hf a w ha h2
theorem Jp.refOpen {b : Nat} {M : MemG} (j j1 j2 : Nat) (hd : [j, j1, j2].Nodup) (e : look L j = some (RefO b M))
    (h : ∀ A c B d' g, RefF M ⟨A, c, B, d', g⟩ → Jp P ops Q S' n cx π ρ E ((j, Pt b (refObj M.budget A M.pages.length c B g.length d')) :: (j1, OwnS 63 258 A M.pages.length c (M.pages.flatMap refPg)) :: (j2, OwnS 94 2 B g.length d' (g.flatMap refGen)) :: L)) : Jp P ops Q S' n cx π ρ E L := fun a w ha hs =>
  let ⟨x, hf, h2⟩ := hs.refOpen j j1 j2 hd e; h x.A x.c x.B x.d x.g hf a w ha h2
theorem Cd.refClose {d : Code} {b : Nat} {M : MemG} {A : Option Addr} {c : Nat} {B : Option Addr} {d' : Nat} {g : List (Nat × Nat)} (j j1 j2 : Nat) (hd : [j, j1, j2].Nodup) (hf : RefF M ⟨A, c, B, d', g⟩) (e : look L j = some (Pt b (refObj M.budget A M.pages.length c B g.length d'))) (e1 : look L j1 = some (OwnS 63 258 A M.pages.length c (M.pages.flatMap refPg))) (e2 : look L j2 = some (OwnS 94 2 B g.length d' (g.flatMap refGen)))
    (h : Cd P Q n cx ρ E ((j, RefO b M) :: (j1, Emp) :: (j2, Emp) :: L) d) : Cd P Q n cx ρ E L d := fun a w ha hs => h a w ha (hs.refClose j j1 j2 hd hf e e1 e2)
theorem Jp.refClose {b : Nat} {M : MemG} {A : Option Addr} {c : Nat} {B : Option Addr} {d' : Nat} {g : List (Nat × Nat)} (j j1 j2 : Nat) (hd : [j, j1, j2].Nodup) (hf : RefF M ⟨A, c, B, d', g⟩) (e : look L j = some (Pt b (refObj M.budget A M.pages.length c B g.length d'))) (e1 : look L j1 = some (OwnS 63 258 A M.pages.length c (M.pages.flatMap refPg))) (e2 : look L j2 = some (OwnS 94 2 B g.length d' (g.flatMap refGen)))
    (h : Jp P ops Q S' n cx π ρ E ((j, RefO b M) :: (j1, Emp) :: (j2, Emp) :: L)) : Jp P ops Q S' n cx π ρ E L := fun a w ha hs => h a w ha (hs.refClose j j1 j2 hd hf e e1 e2)
end
theorem RefO.ok {b : Nat} {M : MemG} : ∀ h, RefO b M h → MemOk M := fun h ⟨x, hf, _⟩ => hf.ok
theorem pos_get : ∀ {l : List (Nat × Pg)}, Rising l → ∀ k, getPg l k = (l[posA l k]?).bind fun x => if x.1 = k then some x.2 else none
  | [], _, k => rfl
  | y :: l, h, k => by
    obtain ⟨y, p⟩ := y
    obtain ⟨h1, h2⟩ := List.pairwise_cons.1 h
    have ih := pos_get h2 k
    unfold posA at ih ⊢
    by_cases hy : y < k
    · rw [List.takeWhile_cons_of_pos (by simpa using hy), getPg, if_neg (by omega), ih, List.length_cons, List.getElem?_cons_succ]
    · rw [List.takeWhile_cons_of_neg (by simpa using hy), getPg]
      simp only [List.length_nil, List.getElem?_cons_zero, Option.bind_some]
      by_cases e : y = k
      · simp [e]
      · rw [if_neg e, if_neg e]
        refine getPg_none.2 fun hm => ?_
        obtain ⟨x, hx, e2⟩ := List.mem_map.1 hm
        have := h1 x hx
        have : y < x.1 := this
        omega
theorem pos_some {l : List (Nat × Pg)} (h : Rising l) {k : Nat} {p : Pg} (hg : getPg l k = some p) : l[posA l k]? = some (k, p) := by
  have := pos_get h k
  rw [hg] at this
  cases hx : l[posA l k]? with
  | none => rw [hx] at this; cases this
  | some x =>
    rw [hx] at this
    simp only [Option.bind_some] at this
    split at this
    · rename_i e
      injection this with this
      obtain ⟨x1, x2⟩ := x
      dsimp only at e this
      rw [e, this]
    · cases this
end Go.Proofs.Ytjfgefdcngpplaa
