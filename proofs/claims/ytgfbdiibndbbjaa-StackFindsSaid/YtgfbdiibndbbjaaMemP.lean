/- Plain laws: what is written is read; what is barred is barred. -/
import Derived.Test.YtgfbdiibndbbjaaMemL
set_option linter.unusedVariables false
set_option linter.unusedSimpArgs false
set_option maxRecDepth 100000
namespace Go.Proofs.Ytgfbdiibndbbjaa
open Go
theorem base_eq {x y : Nat} (h1 : baseN x = baseN y) (h2 : x % 256 = y % 256) : x = y := by unfold baseN at h1; omega
theorem byte_setByte {M : MemG} {l : List (Nat × Pg)} {at' : Nat} {v : UInt8} {g : Nat → Nat} {p : Pg} (hp : getPg l (baseN at') = some p) (hl : p.b.length = 256) (x : Nat) : byteM ⟨M.budget, setByte l at' v, g⟩ x = if x = at' then v else byteM ⟨M.budget, l, g⟩ x := by
  show (match getPg (setByte l at' v) (baseN x) with | some p => p.b.getD (x % 256) 0 | none => 0) = _
  rw [getPg_setByte]
  by_cases h : baseN x = baseN at'
  · rw [if_pos h, h, hp]
    show (p.b.set (at' % 256) v).getD (x % 256) 0 = _
    by_cases hx : x = at'
    · subst hx
      have : x % 256 < 256 := Nat.mod_lt _ (by omega)
      rw [if_pos rfl, List.getD_eq_getElem?_getD, List.getElem?_set_self (by omega)]; rfl
    · have hne : ¬ at' % 256 = x % 256 := fun e => hx (base_eq h e.symm)
      rw [if_neg hx, List.getD_eq_getElem?_getD, List.getElem?_set_ne hne]
      show _ = (match getPg l (baseN x) with | some p => p.b.getD (x % 256) 0 | none => 0)
      rw [h, hp]; dsimp only; rw [List.getD_eq_getElem?_getD]
  · have hx : ¬ x = at' := fun e => h (by rw [e])
    rw [if_neg h, if_neg hx]; rfl
theorem byte_wrM {M : MemG} {a : Nat} {l : Bytes} : ∀ {i : Nat}, (∀ j, j < i → ∃ p, getPg M.pages (baseN (a + j)) = some p ∧ p.b.length = 256) → ∀ x, byteM (wrM M a l i) x = if a ≤ x ∧ x < a + i then l.getD (x - a) 0 else byteM M x := by
  intro i
  induction i with
  | zero => intro _ x; rw [if_neg (by omega)]; rfl
  | succ i ih =>
    intro h x
    have ih2 := ih (fun j hj => h j (by omega)) x
    obtain ⟨p, hp, hl⟩ := h i (by omega)
    obtain ⟨q, hq, _, hq2⟩ := wrM_page a l hp i
    have h1 : byteM (wrM M a l (i + 1)) x = byteM ⟨(wrM M a l i).budget, setByte (wrM M a l i).pages (a + i) (l.getD i 0), (wrM M a l i).gens⟩ x := rfl
    rw [h1, byte_setByte (M := wrM M a l i) hq (by omega)]
    by_cases hx : x = a + i
    · subst hx; rw [if_pos rfl, if_pos (by omega)]; congr 1; omega
    · rw [if_neg hx]
      show byteM (wrM M a l i) x = _
      rw [ih2]
      by_cases h2 : a ≤ x ∧ x < a + i
      · rw [if_pos h2, if_pos (by omega)]
      · rw [if_neg h2, if_neg (by omega)]
theorem pgOk_wrM (M : MemG) (a : Nat) (l : Bytes) (i k : Nat) (need : Int) : pgOk (wrM M a l i) k need = pgOk M k need := by
  induction i with
  | zero => rfl
  | succ i ih =>
    rw [← ih]
    show (match getPg (setByte _ _ _) k with | some p => may p.perm need | none => false) = _
    rw [getPg_setByte, pgOk]
    by_cases h : k = baseN (a + i)
    · rw [if_pos h]; cases getPg (wrM M a l i).pages k <;> rfl
    · rw [if_neg h]; cases getPg (wrM M a l i).pages k <;> rfl
theorem allM_congr {M M' : MemG} (a n : Nat) (need : Int) (h : ∀ k, pgOk M' k need = pgOk M k need) : allM M' a n need = allM M a n need := by
  unfold allM
  simp only [h]
theorem readL_congr {M M' : MemG} (a n : Nat) (h : ∀ x, byteM M' x = byteM M x) : readL M' a n = readL M a n := by
  unfold readL
  simp only [h]
theorem readL_wrM {M : MemG} {a : Nat} {l : Bytes} (h : ∀ j, j < l.length → ∃ p, getPg M.pages (baseN (a + j)) = some p ∧ p.b.length = 256) : readL (wrM M a l l.length) a l.length = l := by
  apply List.ext_getElem?
  intro j
  rw [readL, List.getElem?_map]
  by_cases hj : j < l.length
  · rw [List.getElem?_range hj, Option.map_some, byte_wrM h, if_pos (by omega), Nat.add_sub_cancel_left, List.getD_eq_getElem?_getD, List.getElem?_eq_getElem hj]; rfl
  · rw [List.getElem?_eq_none (by simpa using hj), List.getElem?_eq_none (by omega)]; rfl
theorem wrM_keys (M : MemG) (a : Nat) (l : Bytes) (i : Nat) : (wrM M a l i).pages.map (·.1) = M.pages.map (·.1) := by
  induction i with
  | zero => rfl
  | succ i ih =>
    rw [← ih]
    show (setByte _ _ _).map (·.1) = _
    unfold setByte
    split
    · exact setPg_keys ..
    · rfl
theorem within_keys (M : MemG) (a many : Nat) : withinP M a many = (M.pages.map (·.1)).filter (inS a many) := by
  rw [withinP, List.filter_map]; rfl
/-- Another permission for a stretch: the same bytes. -/
def permIn (M : MemG) (a many perm : Nat) : MemG := { M with pages := M.pages.map fun y => if inS a many y.1 then (y.1, ⟨y.2.b, perm⟩) else y, gens := bumpS M (inS a many) }
theorem permIn_get (M : MemG) (a many perm k : Nat) : getPg (permIn M a many perm).pages k = (getPg M.pages k).map fun p => if inS a many k then ⟨p.b, perm⟩ else p := by
  have e : (permIn M a many perm).pages = M.pages.map fun y => (y.1, if inS a many y.1 then ⟨y.2.b, perm⟩ else y.2) := List.map_congr_left fun y _ => by
    by_cases h : inS a many y.1 = true <;> simp [h]
  rw [e, getPg_map (f := fun y => if inS a many y.1 then ⟨y.2.b, perm⟩ else y.2)]
theorem permIn_byte (M : MemG) (a many perm x : Nat) : byteM (permIn M a many perm) x = byteM M x := by
  unfold byteM
  rw [permIn_get]
  cases getPg M.pages (baseN x) with
  | none => rfl
  | some p => simp only [Option.map_some]; split <;> rfl
def dropIn (M : MemG) (a many : Nat) : MemG := { M with pages := M.pages.filter fun y => !inS a many y.1, gens := bumpS M (inS a many) }
theorem getPg_filter (l : List (Nat × Pg)) (f : Nat → Bool) (k : Nat) : getPg (l.filter fun y => f y.1) k = if f k then getPg l k else none := by
  induction l with
  | nil => simp [getPg]
  | cons x l ih =>
    obtain ⟨x, p⟩ := x
    rw [List.filter_cons]
    by_cases hx : f x = true
    · rw [if_pos hx]
      simp only [getPg]
      by_cases h : x = k
      · subst h; simp [hx]
      · rw [if_neg h, if_neg h, ih]
    · rw [if_neg hx, ih]
      simp only [getPg]
      by_cases h : x = k
      · subst h; simp [hx]
      · rw [if_neg h]
theorem dropIn_get (M : MemG) (a many k : Nat) : getPg (dropIn M a many).pages k = if inS a many k then none else getPg M.pages k := by
  show getPg (M.pages.filter fun y => !inS a many y.1) k = _
  rw [getPg_filter M.pages (fun k => !inS a many k)]
  cases inS a many k <;> rfl
theorem protect_yes {M : MemG} {a n many : Nat} {perm : Nat} (hs : stretch a n = some many) (hp : perm ≤ 7) (hw : (withinP M a many).length = many) : protectM M a n perm = (0, permIn M a many perm) := by
  rw [protectM, hs]; dsimp only; rw [if_neg (by omega), if_neg (by omega)]; rfl
theorem unmap_yes {M : MemG} {a n many : Nat} (hs : stretch a n = some many) : unmapM M a n = (0, dropIn M a many) := by
  rw [unmapM, hs]; rfl
theorem read_eq {b : Nat} {M : MemG} {a : Nat} {n : Int} {l : Bytes} {e : Int} (ha : a < 4294967296) (h : readM M a n = (l, e)) : Spec Try.prog 23 #[.pointer (some ⟨b, 0, none⟩), .int .u32 a, .int .i64 n] (fun _ => True) [(0, MemO b M)]
    (fun ρ ρ' v L => ρ' = ρ ∧ ∃ A c, v = .tuple #[.slice A l.length c, .int .i64 e] ∧ L = [(0, MemO b M), (1, OwnS 5 1 A l.length c (bytesV l))]) := by
  have := read_spec b M a n ha
  rw [h] at this; exact this
theorem write_eq {b : Nat} {M : MemG} {a : Nat} {s : Sl UInt8} {e : Int} {M' : MemG} (ha : a < 4294967296) (h : writeM M a s.xs 4096 2 = (e, M')) : Spec Try.prog 24 #[.pointer (some ⟨b, 0, none⟩), .int .u32 a, s.v] (RdB s) [(0, MemO b M)]
    (fun ρ ρ' v L => ρ' = ρ ∧ v = .int .i64 e ∧ L = [(0, MemO b M')]) := by
  have := Write_spec b M a s ha
  rw [h] at this; exact this
theorem poke_eq {b : Nat} {M : MemG} {a : Nat} {s : Sl UInt8} {e : Int} {M' : MemG} (ha : a < 4294967296) (h : writeM M a s.xs 65536 0 = (e, M')) : Spec Try.prog 34 #[.pointer (some ⟨b, 0, none⟩), .int .u32 a, s.v] (RdB s) [(0, MemO b M)]
    (fun ρ ρ' v L => ρ' = ρ ∧ v = .int .i64 e ∧ L = [(0, MemO b M')]) := by
  have := Poke_spec b M a s ha
  rw [h] at this; exact this
theorem protect_eq {b : Nat} {M : MemG} {a n : Nat} {perm : Int} {e : Int} {M' : MemG} (ha : a < 4294967296) (hn : n < 4294967296) (h : protectM M a n perm = (e, M')) : Spec Try.prog 26 #[.pointer (some ⟨b, 0, none⟩), .int .u32 a, .int .u32 n, .int .i64 perm] (fun _ => True) [(0, MemO b M)]
    (fun ρ ρ' r L => ρ' = ρ ∧ r = .int .i64 e ∧ L = [(0, MemO b M')]) := by
  have := protect_spec b M a n perm ha hn
  rw [h] at this; exact this
theorem unmap_eq {b : Nat} {M : MemG} {a n : Nat} {e : Int} {M' : MemG} (ha : a < 4294967296) (hn : n < 4294967296) (h : unmapM M a n = (e, M')) : Spec Try.prog 27 #[.pointer (some ⟨b, 0, none⟩), .int .u32 a, .int .u32 n] (fun _ => True) [(0, MemO b M)]
    (fun ρ ρ' r L => ρ' = ρ ∧ r = .int .i64 e ∧ L = [(0, MemO b M')]) := by
  have := unmap_spec b M a n ha hn
  rw [h] at this; exact this
end Go.Proofs.Ytgfbdiibndbbjaa
