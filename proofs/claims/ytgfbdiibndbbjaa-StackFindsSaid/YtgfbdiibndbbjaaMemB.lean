/- The memory as one piece: what lies where; its opening, its closing. -/
import Derived.Test.YtgfbdiibndbbjaaMemA
set_option linter.unusedVariables false
set_option linter.unusedSimpArgs false
set_option maxRecDepth 100000
namespace Go.Proofs.Ytgfbdiibndbbjaa
open Go
structure MemX where
  pb : Nat
  gb : Nat
  pm : MapL
  gm : MapL
  blk : Nat → Nat
def pgPtr (x : MemX) (k : Nat) : Value := .pointer (some ⟨x.blk k, 0, none⟩)
structure MemF (M : MemG) (x : MemX) : Prop where
  ok : MemOk M
  pages : x.pm.Perm (M.pages.map fun p => ((p.1 : Int), pgPtr x p.1))
  gens : ∀ k : Nat, (mget x.gm k).getD (.int .u32 0) = .int .u32 (M.gens k)
def pageCells (p : Pg) : List Value := bytesV p.b ++ [.int .i64 p.perm]
def pageO (p : Pg) : Obj := .cells (pageCells p).toArray 87
def memObj (M : MemG) (x : MemX) : Obj := .cells #[.int .i64 M.budget, .map (some x.pb), .map (some x.gb)] 79
def blksOf (M : MemG) (x : MemX) : List (Nat × Obj) := M.pages.map fun p => (x.blk p.1, pageO p.2)
/-- A memory: its block, its map of pages, its map of numbers, its pages. -/
def MemO (b : Nat) (M : MemG) : HProp := Ex fun x : MemX => Fact (MemF M x) (Sep (Pt b (memObj M x)) (Sep (MapO .u32 x.pb x.pm) (Sep (MapO .u32 x.gb x.gm) (Blks (blksOf M x)))))
theorem MemF.get {M : MemG} {x : MemX} (f : MemF M x) (k : Nat) : mget x.pm (k : Int) = (getPg M.pages k).map fun _ => pgPtr x k := by
  rw [mget_perm f.pages, mget_pages (pgPtr x)]
  have h := f.ok.rising.nodup
  rw [List.map_map]
  have e : ((fun x => x.1) ∘ fun p : Nat × Pg => ((p.1 : Int), pgPtr x p.1)) = (fun k : Nat => (k : Int)) ∘ fun p => p.1 := rfl
  rw [e, ← List.map_map]
  rw [List.Nodup, List.pairwise_map]
  exact h.imp fun h => by omega
section
variable {P : Program} {n : Nat} {cx : Cx} {ρ : Hp} {E : Env} {L : Own} {ops : Array Oper} {Q : Exit → Act → World → Prop} {S' : World → Prop} {π : List (Nat × Bool)}
theorem St.memOpen {w : World} (hs : St cx ρ L w) {b : Nat} {M : MemG} (j j1 j2 j3 : Nat) (hd : [j, j1, j2, j3].Nodup) (e : look L j = some (MemO b M)) :
    ∃ x, MemF M x ∧ St cx ρ ((j, Pt b (memObj M x)) :: (j1, MapO .u32 x.pb x.pm) :: (j2, MapO .u32 x.gb x.gm) :: (j3, Blks (blksOf M x)) :: L) w := by
  obtain ⟨x, h1⟩ := hs.ex' e
  obtain ⟨hf, h2⟩ := h1.fact (j := j) (by rw [look_cons, if_pos rfl])
  simp only [List.nodup_cons, List.mem_cons, not_or, List.not_mem_nil, not_false_eq_true, List.nodup_nil, and_true] at hd
  obtain ⟨⟨d1, d2, d3⟩, ⟨d4, d5⟩, d6⟩ := hd
  have h3 := h2.part (j := j) (k := j1) d1 (by rw [look_cons, if_pos rfl])
  have h4 := h3.part (j := j1) (k := j2) d4 (by rw [look_cons, if_neg d1, look_cons, if_pos rfl])
  have h5 := h4.part (j := j2) (k := j3) d6 (by rw [look_cons, if_neg d4, look_cons, if_pos rfl])
  refine ⟨x, hf, h5.subF fun q C hq => ?_⟩
  simp only [look_cons] at hq ⊢
  by_cases q0 : j = q <;> by_cases q1 : j1 = q <;> by_cases q2 : j2 = q <;> by_cases q3 : j3 = q <;> simp only [q0, q1, q2, q3, if_true, if_false] at hq ⊢ <;> first | exact hq | (exfalso; omega)
theorem St.memClose {w : World} (hs : St cx ρ L w) {b : Nat} {M : MemG} {x : MemX} (j j1 j2 j3 : Nat) (hd : [j, j1, j2, j3].Nodup) (hf : MemF M x) (e : look L j = some (Pt b (memObj M x))) (e1 : look L j1 = some (MapO .u32 x.pb x.pm)) (e2 : look L j2 = some (MapO .u32 x.gb x.gm)) (e3 : look L j3 = some (Blks (blksOf M x))) :
    St cx ρ ((j, MemO b M) :: (j1, Emp) :: (j2, Emp) :: (j3, Emp) :: L) w := by
  simp only [List.nodup_cons, List.mem_cons, not_or, List.not_mem_nil, not_false_eq_true, List.nodup_nil, and_true] at hd
  obtain ⟨⟨d1, d2, d3⟩, ⟨d4, d5⟩, d6⟩ := hd
  have h3 := hs.glue (j := j2) (k := j3) d6 e2 e3
  have h4 := h3.glue (j := j1) (k := j2) d4 (by rw [look_cons, if_neg (Ne.symm d4), look_cons, if_neg (Ne.symm d5)]; exact e1) (by rw [look_cons, if_pos rfl])
  have h5 := h4.glue (j := j) (k := j1) d1 (by rw [look_cons, if_neg (Ne.symm d1), look_cons, if_neg (Ne.symm d2), look_cons, if_neg (Ne.symm d2), look_cons, if_neg (Ne.symm d3)]; exact e) (by rw [look_cons, if_pos rfl])
  have h6 := h5.imp (i := j) (A' := MemO b M) (by rw [look_cons, if_pos rfl]) fun k hk => ⟨x, hf, hk⟩
  refine h6.subF fun q C hq => ?_
  simp only [look_cons] at hq ⊢
  by_cases q0 : j = q <;> by_cases q1 : j1 = q <;> by_cases q2 : j2 = q <;> by_cases q3 : j3 = q <;> simp only [q0, q1, q2, q3, if_true, if_false] at hq ⊢ <;> first | exact hq | (exfalso; omega)
theorem Cd.memOpen {d : Code} {b : Nat} {M : MemG} (j j1 j2 j3 : Nat) (hd : [j, j1, j2, j3].Nodup) (e : look L j = some (MemO b M))
    (h : ∀ x, MemF M x → Cd P Q n cx ρ E ((j, Pt b (memObj M x)) :: (j1, MapO .u32 x.pb x.pm) :: (j2, MapO .u32 x.gb x.gm) :: (j3, Blks (blksOf M x)) :: L) d) : Cd P Q n cx ρ E L d := fun a w ha hs =>
  let ⟨x, hf, h2⟩ := hs.memOpen j j1 j2 j3 hd e; h x hf a w ha h2
theorem Cd.memClose {d : Code} {b : Nat} {M : MemG} {x : MemX} (j j1 j2 j3 : Nat) (hd : [j, j1, j2, j3].Nodup) (hf : MemF M x) (e : look L j = some (Pt b (memObj M x))) (e1 : look L j1 = some (MapO .u32 x.pb x.pm)) (e2 : look L j2 = some (MapO .u32 x.gb x.gm)) (e3 : look L j3 = some (Blks (blksOf M x)))
    (h : Cd P Q n cx ρ E ((j, MemO b M) :: (j1, Emp) :: (j2, Emp) :: (j3, Emp) :: L) d) : Cd P Q n cx ρ E L d := fun a w ha hs => h a w ha (hs.memClose j j1 j2 j3 hd hf e e1 e2 e3)
end
end Go.Proofs.Ytgfbdiibndbbjaa
