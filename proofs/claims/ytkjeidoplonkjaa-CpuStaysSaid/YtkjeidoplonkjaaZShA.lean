import Derived.Test.YtkjeidoplonkjaaZMemX2
set_option linter.unusedVariables false
set_option linter.unusedSimpArgs false
namespace Go.Proofs.Ytkjeidoplonkjaa
open Go
structure ShG where
  budget : Nat
  pages : List (Nat × Pg)
def cntB (b : Bytes) : Nat := b.countP (· != 0)
structure ShPgOk (x : Nat × Pg) : Prop where
  al : x.1 % 256 = 0
  lt : x.1 < 4294967296
  len : x.2.b.length = 256
  cnt : x.2.perm = cntB x.2.b
  pos : 0 < x.2.perm
structure ShOk (l : List (Nat × Pg)) : Prop where
  rising : Rising l
  page : ∀ x ∈ l, ShPgOk x
def labL (l : List (Nat × Pg)) (a : Nat) : UInt8 := match getPg l (baseN a) with
  | some p => p.b.getD (a % 256) 0
  | none => 0
def zeroB : Bytes := List.replicate 256 0
def remPg (l : List (Nat × Pg)) (k : Nat) : List (Nat × Pg) := l.filter fun x => x.1 != k
def putPg (l : List (Nat × Pg)) (k : Nat) (b : Bytes) : List (Nat × Pg) := match getPg l k with
  | some _ => if cntB b = 0 then remPg l k else setPg l k ⟨b, cntB b⟩
  | none => if cntB b = 0 then l else insPg k ⟨b, cntB b⟩ l
def bOf (l : List (Nat × Pg)) (k : Nat) : Bytes := match getPg l k with
  | some p => p.b
  | none => zeroB
def oneP (l : List (Nat × Pg)) (a : Nat) (v : UInt8) : List (Nat × Pg) := putPg l (baseN a) ((bOf l (baseN a)).set (a % 256) v)
def layP (l : List (Nat × Pg)) : Nat → Bytes → List (Nat × Pg)
  | _, [] => l
  | a, v :: bs => layP (oneP l a v) (a + 1) bs
theorem ShOk.get {l : List (Nat × Pg)} (h : ShOk l) {k : Nat} {p : Pg} (e : getPg l k = some p) : ShPgOk (k, p) := h.page _ (getPg_mem e)
theorem cntB_zero {b : Bytes} : cntB b = 0 ↔ ∀ x ∈ b, x = 0 := by
  rw [cntB, List.countP_eq_zero]; simp
theorem zeroB_cnt : cntB zeroB = 0 := by
  rw [cntB_zero]; intro x hx; exact (List.mem_replicate.1 hx).2
theorem zeroB_len : zeroB.length = 256 := List.length_replicate
theorem zeroB_get (j : Nat) : zeroB.getD j 0 = 0 := by
  rw [List.getD_eq_getElem?_getD]
  cases h : zeroB[j]? with
  | none => rfl
  | some x => exact (List.mem_replicate.1 (List.mem_of_getElem? h)).2
def sizedP (size : Int) : Nat := if size < 0 ∨ 4 < size then 4 else size.toNat
def endN (a : Nat) (n : Int) : Nat := a + min n.toNat (4294967296 - a)
def setM (S : ShG) (a : Nat) (bs : Bytes) : Int × ShG := if S.budget < (layP S.pages a (bs.take (4294967296 - a))).length then (6, S) else (0, ⟨S.budget, layP S.pages a (bs.take (4294967296 - a))⟩)
def fillM (S : ShG) (a : Nat) (n : Int) (v : UInt8) : Int × ShG := if 1048576 < n then (1, S) else setM S a (List.replicate n.toNat v)
def putM (S : ShG) (a : Nat) (size : Int) (t : Bytes) : Int × ShG := setM S a (t.take (sizedP size))
def tagM (S : ShG) (a : Nat) (size : Int) : Bytes := (List.range 4).map fun i => if i < sizedP size ∧ a + i < 4294967296 then labL S.pages (a + i) else 0
def cutP (k a e : Nat) (b : Bytes) : Bytes := (b.take (min (k + 256) e - k)).drop (max k a - k)
def orL (l : Bytes) : UInt8 := l.foldl (· ||| ·) 0
def anyM (S : ShG) (a : Nat) (n : Int) : UInt8 := orL (S.pages.flatMap fun x => cutP x.1 a (endN a n) x.2.b)
def clrB (k a e : Nat) (b : Bytes) : Bytes := b.zipIdx.map fun x => if a ≤ k + x.2 ∧ k + x.2 < e then 0 else x.1
def clearP (l : List (Nat × Pg)) (a e : Nat) : List (Nat × Pg) := (l.map fun x => (x.1, (⟨clrB x.1 a e x.2.b, cntB (clrB x.1 a e x.2.b)⟩ : Pg))).filter fun x => x.2.perm != 0
def clearM (S : ShG) (a : Nat) (n : Int) : ShG := ⟨S.budget, clearP S.pages a (endN a n)⟩
end Go.Proofs.Ytkjeidoplonkjaa
