import Derived.Test.YtogkncmhonomdaaZFeedG
import Derived.Test.YtogkncmhonomdaaZEngY
set_option linter.unusedVariables false
set_option linter.unusedSimpArgs false
set_option maxRecDepth 100000
namespace Go.Proofs.Ytogkncmhonomdaa
open Go
structure FilP where
  data : Bytes
  at' : Nat
  wr : Bool
structure FilesP where
  all : List (Bytes × Bytes)
  use : UseP
  op : List (Int × FilP)
  out : List (Int × Bytes)
def newFP (f : FeedP) : FilesP :=
  { all := if good f then f.files else [], use := beginP f, op := [(0, ⟨if good f then f.input else [], 0, false⟩), (1, ⟨[], 0, true⟩), (2, ⟨[], 0, true⟩)], out := [] }
def leastP {α : Type} (op : List (Int × α)) : Nat := ((List.range (op.length + 1)).find? fun (k : Nat) => (gget op (k : Int)).isNone).getD 0
def openFP (p : FilesP) (name : Bytes) : Int × FilesP := match p.all.find? (fun x => x.1 == name) with
  | none => (-2, p)
  | some x => if 16 ≤ p.op.length then (-24, p) else ((leastP p.op : Nat), { p with op := gset p.op (leastP p.op : Nat) ⟨x.2, 0, false⟩ })
def closeFP (p : FilesP) (fd : Int) : Int × FilesP := if (gget p.op fd).isSome then (0, { p with op := gdel p.op fd }) else (-9, p)
def clampN (n : Int) : Int := if 4096 < (if n < 0 then 0 else n) then 4096 else (if n < 0 then 0 else n)
def leftP (x : FilP) : Bytes := x.data.drop (min x.at' x.data.length)
def readFP (p : FilesP) (fd n : Int) : Option Bytes × FilesP := match gget p.op fd with
  | none => (none, p)
  | some x => if x.wr then (none, p) else
    let t := takeP p.use (clampN n)
    let b := (leftP x).take t.1.toNat
    (some b, { p with use := t.2, op := gset p.op fd { x with at' := x.at' + b.length } })
def writeFP (p : FilesP) (fd : Int) (b : Bytes) : Int × FilesP := match gget p.op fd with
  | none => (-9, p)
  | some x => if x.wr then
      if 65536 < ((gget p.out fd).getD []).length + b.length then (-28, p) else ((b.length : Int), { p with out := gset p.out fd ((gget p.out fd).getD [] ++ b) })
    else (-9, p)
def seekFP (p : FilesP) (fd off wh : Int) : Int × FilesP := match gget p.op fd with
  | none => (-9, p)
  | some x => if x.wr then (-29, p) else if wh < 0 ∨ 2 < wh then (-22, p) else
    let a : Int := (if wh = 0 then 0 else if wh = 1 then (x.at' : Int) else (x.data.length : Int)) + off
    if a < 0 then (-22, p) else (a, { p with op := gset p.op fd { x with at' := a.toNat } })
def outFP (p : FilesP) (fd : Int) : Bytes := (gget p.out fd).getD []
structure FsOk (p : FilesP) : Prop where
  all : p.all.length ≤ 8 ∧ ∀ x ∈ p.all, x.2.length ≤ 4096
  use : ∀ x ∈ p.use.short, 0 ≤ x
  op : ∀ x ∈ p.op, x.2.data.length ≤ 4096
  nd : (p.op.map (·.1)).Nodup
  out : ∀ x ∈ p.out, x.2.length ≤ 65536
theorem leastP_eq {α : Type} {op : List (Int × α)} {k : Nat} (h : ∀ j : Nat, j < k → (gget op (j : Int)).isSome) (hk : gget op (k : Int) = none) : leastP op = k := by
  have hle : k ≤ op.length := by
    have := range_keys k (op.map (·.1)) fun j hj => Decidable.byContradiction fun hc => by have := h j hj; rw [gget_none.2 hc] at this; cases this
    simpa using this
  have : (List.range (op.length + 1)).find? (fun (k : Nat) => (gget op (k : Int)).isNone) = some k := by
    rw [List.find?_range_eq_some]
    refine ⟨by simp [hk], by simp; omega, fun j hj => ?_⟩
    have := h j hj
    simp [Option.isSome_iff_ne_none] at this ⊢
    exact this
  rw [leastP, this]; rfl
theorem takeP_range {u : UseP} {n : Int} (hu : ∀ x ∈ u.short, 0 ≤ x) (hn : 0 ≤ n) : 0 ≤ (takeP u n).1 ∧ (takeP u n).1 ≤ n := by
  rw [takeP, if_neg (by omega)]
  split
  · exact ⟨hn, Int.le_refl _⟩
  · rename_i x hx
    have := hu x (List.mem_of_getElem? hx)
    dsimp only; split <;> omega
theorem takeP_short (u : UseP) (n : Int) : (takeP u n).2.short = u.short ∧ (takeP u n).2.random = u.random ∧ (takeP u n).2.clock = u.clock := by
  rw [takeP]; split
  · exact ⟨rfl, rfl, rfl⟩
  · split <;> exact ⟨rfl, rfl, rfl⟩
theorem clampN_range (n : Int) : 0 ≤ clampN n ∧ clampN n ≤ 4096 := by
  rw [clampN]; split <;> split <;> omega
structure FilG where
  data : Sl UInt8
  at' : Nat
  wr : Bool
def FilG.cells (f : FilG) : List Value := [f.data.v, .int .i64 (f.at' : Int), .bool f.wr]
def FilG.v (f : FilG) : Value := .agg f.cells.toArray
def FilG.p (f : FilG) : FilP := ⟨f.data.xs, f.at', f.wr⟩
structure FilesG where
  all : Sl FileG
  bu : Nat
  use : UseG
  bo : Nat
  op : List (Int × FilG)
  bw : Nat
  out : List (Int × Sl UInt8)
def FilesG.cells (g : FilesG) : List Value := [g.all.v, .pointer (some ⟨g.bu, 0, none⟩), .map (some g.bo), .map (some g.bw)]
def FilesG.p (g : FilesG) : FilesP := ⟨g.all.xs.map FileG.p, g.use.p, gmap FilG.p g.op, gmap Sl.xs g.out⟩
structure RdFs (g : FilesG) (h : Hp) : Prop where
  all : RdFiles g.all h
  use : RdUse g.use h
  op : ∀ x ∈ g.op, RdB x.2.data h
  out : ∀ x ∈ g.out, RdB x.2 h
  ok : FsOk g.p
theorem RdFs.up (g : FilesG) : Up (RdFs g) := fun h k l r => ⟨RdFiles.up _ h k l r.all, RdUse.up _ h k l r.use, fun x hx => RdB.up _ h k l (r.op x hx), fun x hx => RdB.up _ h k l (r.out x hx), r.ok⟩
def FsPt (b : Nat) (g : FilesG) : HProp := Pt b (.cells g.cells.toArray 68)
def FsL (b : Nat) (g : FilesG) : Own := [(0, FsPt b g), (1, UsePt g.bu g.use), (2, MapO .i64 g.bo (gmap FilG.v g.op)), (3, MapO .i64 g.bw (gmap Sl.v g.out))]
theorem FilesG.op_get {g : FilesG} {k : Int} {x : FilG} (h : gget g.op k = some x) : gget g.p.op k = some x.p := by
  show gget (gmap _ _) k = _
  rw [gget_gmap, h]; rfl
theorem FilesG.op_none {g : FilesG} {k : Int} (h : gget g.op k = none) : gget g.p.op k = none := by
  show gget (gmap _ _) k = _
  rw [gget_gmap, h]; rfl
theorem FilesG.out_get {g : FilesG} {k : Int} : gget g.p.out k = (gget g.out k).map Sl.xs := gget_gmap _ _ _
end Go.Proofs.Ytogkncmhonomdaa
