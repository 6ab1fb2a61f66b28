import Derived.Test.YtgmhijlcdadaeaaZMemX1
set_option linter.unusedVariables false
set_option linter.unusedSimpArgs false
set_option maxRecDepth 100000
namespace Go.Proofs.Ytgmhijlcdadaeaa
open Go
def pgOk (M : MemG) (k : Nat) (need : Int) : Bool := match getPg M.pages k with
  | some p => may p.perm need
  | none => false
def allCnt (a n : Nat) : Nat := (a % 256 + n + 255) / 256
def allM (M : MemG) (a n : Nat) (need : Int) : Bool := decide (n = 0) || (decide (a + n ≤ 4294967296) && (List.range (allCnt a n)).all fun j => pgOk M (baseN a + 256 * j) need)
def byteM (M : MemG) (a : Nat) : UInt8 := match getPg M.pages (baseN a) with
  | some p => p.b.getD (a % 256) 0
  | none => 0
def readL (M : MemG) (a n : Nat) : Bytes := (List.range n).map fun i => byteM M (a + i)
def readM (M : MemG) (a : Nat) (n : Int) : Bytes × Int := if n < 0 ∨ 4096 < n then ([], 1) else if allM M a n.toNat 1 = false then ([], 8) else (readL M a n.toNat, 0)
end Go.Proofs.Ytgmhijlcdadaeaa
set_option linter.unusedVariables false
set_option linter.unusedSimpArgs false
set_option maxRecDepth 100000
namespace Go.Proofs.Ytgmhijlcdadaeaa
open Go
def setByte (l : List (Nat × Pg)) (at' : Nat) (x : UInt8) : List (Nat × Pg) := match getPg l (baseN at') with
  | some p => setPg l (baseN at') ⟨p.b.set (at' % 256) x, p.perm⟩
  | none => l
def wrM (M : MemG) (a : Nat) (l : Bytes) : Nat → MemG
  | 0 => M
  | i + 1 => { wrM M a l i with pages := setByte (wrM M a l i).pages (a + i) (l.getD i 0), gens := if i = 0 ∨ (a + i) % 256 = 0 then bump (wrM M a l i).gens (baseN (a + i)) else (wrM M a l i).gens }
def writeM (M : MemG) (a : Nat) (l : Bytes) (most need : Int) : Int × MemG := if most < l.length then (1, M) else if allM M a l.length need = false then (8, M) else (0, wrM M a l l.length)
theorem pageCells_set (p : Pg) {j : Nat} (h : p.b.length = 256) (hj : j < 256) (x : UInt8) : (pageCells p).toArray.setIfInBounds j (.int .u8 (x.toNat : Int)) = (pageCells ⟨p.b.set j x, p.perm⟩).toArray := by
  rw [List.setIfInBounds_toArray]
  congr 1
  rw [pageCells, List.set_append_left _ _ (by rw [bytesV, List.length_map]; omega), bytesV_set]; rfl
theorem RdB.cell {s : Sl UInt8} {ρ : Hp} (hr : RdB s ρ) {i : Nat} {x : UInt8} (h : s.xs[i]? = some x) : ∃ ad, s.A = some ad ∧ cellH ρ (ad.add i) = some (.int .u8 (x.toNat : Int)) :=
  hr.2.2 i _ (by rw [bytesV, List.getElem?_map, h]; rfl)
end Go.Proofs.Ytgmhijlcdadaeaa
set_option linter.unusedVariables false
set_option linter.unusedSimpArgs false
set_option maxRecDepth 100000
namespace Go.Proofs.Ytgmhijlcdadaeaa
open Go
def setPerm (l : List (Nat × Pg)) (k perm : Nat) : List (Nat × Pg) := match getPg l k with
  | some p => setPg l k ⟨p.b, perm⟩
  | none => l
def prot1 (perm : Nat) (M : MemG) (k : Nat) : MemG := { M with pages := setPerm M.pages k perm, gens := bump M.gens k }
def protL (M : MemG) (perm : Nat) (l : List Nat) : MemG := l.foldl (prot1 perm) M
def bumpS (M : MemG) (f : Nat → Bool) : Nat → Nat := fun k => if f k && (getPg M.pages k).isSome then (M.gens k + 1) % 4294967296 else M.gens k
def protectM (M : MemG) (a n : Nat) (perm : Int) : Int × MemG := match stretch a n with
  | none => (1, M)
  | some many => if perm < 0 ∨ 7 < perm then (1, M) else if (withinP M a many).length ≠ many then (4, M) else
    (0, { M with pages := M.pages.map fun y => if inS a many y.1 then (y.1, ⟨y.2.b, perm.toNat⟩) else y, gens := bumpS M (inS a many) })
theorem pageCells_perm2 (p : Pg) (h : p.b.length = 256) (perm : Nat) : (pageCells p).toArray.setIfInBounds 256 (.int .i64 perm) = (pageCells ⟨p.b, perm⟩).toArray := by
  rw [List.setIfInBounds_toArray]
  congr 1
  rw [pageCells, List.set_append_right _ _ (by rw [bytesV, List.length_map]; omega)]
  simp [bytesV, h, pageCells]
def del1 (M : MemG) (k : Nat) : MemG := { M with pages := M.pages.filter fun y => y.1 != k, gens := bump M.gens k }
def delL (M : MemG) (l : List Nat) : MemG := l.foldl del1 M
def unmapM (M : MemG) (a n : Nat) : Int × MemG := match stretch a n with
  | none => (1, M)
  | some many => (0, { M with pages := M.pages.filter fun y => !inS a many y.1, gens := bumpS M (inS a many) })
end Go.Proofs.Ytgmhijlcdadaeaa
set_option linter.unusedVariables false
set_option linter.unusedSimpArgs false
set_option maxRecDepth 100000
namespace Go.Proofs.Ytgmhijlcdadaeaa
open Go
theorem base_eq {x y : Nat} (h1 : baseN x = baseN y) (h2 : x % 256 = y % 256) : x = y := by unfold baseN at h1; omega
def permIn (M : MemG) (a many perm : Nat) : MemG := { M with pages := M.pages.map fun y => if inS a many y.1 then (y.1, ⟨y.2.b, perm⟩) else y, gens := bumpS M (inS a many) }
def dropIn (M : MemG) (a many : Nat) : MemG := { M with pages := M.pages.filter fun y => !inS a many y.1, gens := bumpS M (inS a many) }
theorem getPg_filter (l : List (Nat × Pg)) (f : Nat → Bool) (k : Nat) : getPg (l.filter fun y => f y.1) k = if f k then getPg l k else none := by
  induction l with
  | nil => simp [getPg]
  | cons x l ih =>
    obtain ⟨x, p⟩ := x
    rw [List.filter_cons]
    by_cases hx : f x = true
    · rw [if_pos hx]
      simp only [getPg]
      by_cases h : x = k
      · subst h; simp [hx]
      · rw [if_neg h, if_neg h, ih]
    · rw [if_neg hx, ih]
      simp only [getPg]
      by_cases h : x = k
      · subst h; simp [hx]
      · rw [if_neg h]
end Go.Proofs.Ytgmhijlcdadaeaa
