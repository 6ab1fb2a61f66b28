/-
  No cell of these rows narrows 'for every input' (looked for: loops, veiled, ifaces, maps, wideKeys, modest, calm, conditions, laid).
  DERIVED. THE GIVEN ROWS OF THIS SEAT. 9 by the template 'for every input the law returns true; each argument reads behind the call as it read before'; 0 by the template 'total and deterministic' (their statements: YtkjeidoplonkjaaTotals.lean).
  GIVEN WITH THE SEED: the statements are not yours to turn. If you find one false, say at which input.
  Laid BY PROGRAM, IN A SANDBOX (cutbox-rows.mjs): the forced cells as the released guide's own fill.sh prints them over the translation ed6df74482f2ef66… (all of the seat's roots in one cut). By AI agents, Wed Nov 11 2026. No macro, syntax, notation, axiom, sorry.
-/
import Derived.Test.YtkjeidoplonkjaaChecked
import GoSem.Claim
import GoSem.ClaimJoined
import GoSem.ClaimMapViews
import Derived.JoinedTies
import Derived.KernelRfl
namespace Go.Proofs.Ytkjeidoplonkjaa
/- THE CELL 'sum', in the pinned program and in every row, IS THE sha256 OF THE DUMP (.gsa) THAT YtkjeidoplonkjaaProg.lean LOADS. Nothing in Lean hashes anything: it is a label: what it is worth is what the hold of that sum in a sandbox is worth. -/
noncomputable def Try.pinned : Pinned := { name := "ytkjeidoplonkjaa", sum := "ed6df74482f2ef661ded86b367283555d855e5a0d1491117e0aaacbfd42380ef", checked := Try.checked }
namespace Rows
def none {H : Type} : Left H := { results := [], args := [] }

/-- 'tincturelaw12.CpuKnown': WHATEVER THE INPUT: true; the input reads as it did. -/
def cpuKnownSpec : ChangeSpec := { name := "cpuKnown", fn := fun _ => fun
  | [] => { results := [.lit (.bool true)], args := [] }
  | _ => none }
def cpuKnownRow : OpenClaim := { program := "ytkjeidoplonkjaa", sum := "ed6df74482f2ef661ded86b367283555d855e5a0d1491117e0aaacbfd42380ef", func := "tincture/tincturelaw12.CpuKnown", spec := "cpuKnown", apart := false }
def CpuKnownSaid : Prop := cpuKnownRow.holds Try.pinned (OpenSpec.ofChange cpuKnownSpec)

/-- ITS FALSE NEIGHBOUR: 'it returns false'. Refute it at one input. -/
def cpuKnownWrong : ChangeSpec := { name := "cpuKnown", fn := fun _ => fun
  | [] => { results := [.lit (.bool false)], args := [] }
  | _ => none }
def CpuKnownWrongFalsely : Prop := cpuKnownRow.holds Try.pinned (OpenSpec.ofChange cpuKnownWrong)

/-- 'tincturelaw12.CpuSums': WHATEVER THE INPUT: true; the input reads as it did. -/
def cpuSumsSpec : ChangeSpec := { name := "cpuSums", fn := fun _ => fun
  | [d1, d2, d3, d4, d5] => { results := [.lit (.bool true)], args := [d1, d2, d3, d4, d5] }
  | _ => none }
def cpuSumsRow : OpenClaim := { program := "ytkjeidoplonkjaa", sum := "ed6df74482f2ef661ded86b367283555d855e5a0d1491117e0aaacbfd42380ef", func := "tincture/tincturelaw12.CpuSums", spec := "cpuSums", apart := false }
def CpuSumsSaid : Prop := cpuSumsRow.holds Try.pinned (OpenSpec.ofChange cpuSumsSpec)

/-- ITS FALSE NEIGHBOUR: 'it returns false'. Refute it at one input. -/
def cpuSumsWrong : ChangeSpec := { name := "cpuSums", fn := fun _ => fun
  | [d1, d2, d3, d4, d5] => { results := [.lit (.bool false)], args := [d1, d2, d3, d4, d5] }
  | _ => none }
def CpuSumsWrongFalsely : Prop := cpuSumsRow.holds Try.pinned (OpenSpec.ofChange cpuSumsWrong)

/-- 'tincturelaw12.CpuBranches': WHATEVER THE INPUT: true; the input reads as it did. -/
def cpuBranchesSpec : ChangeSpec := { name := "cpuBranches", fn := fun _ => fun
  | [d1, d2, d3] => { results := [.lit (.bool true)], args := [d1, d2, d3] }
  | _ => none }
def cpuBranchesRow : OpenClaim := { program := "ytkjeidoplonkjaa", sum := "ed6df74482f2ef661ded86b367283555d855e5a0d1491117e0aaacbfd42380ef", func := "tincture/tincturelaw12.CpuBranches", spec := "cpuBranches", apart := false }
def CpuBranchesSaid : Prop := cpuBranchesRow.holds Try.pinned (OpenSpec.ofChange cpuBranchesSpec)

/-- ITS FALSE NEIGHBOUR: 'it returns false'. Refute it at one input. -/
def cpuBranchesWrong : ChangeSpec := { name := "cpuBranches", fn := fun _ => fun
  | [d1, d2, d3] => { results := [.lit (.bool false)], args := [d1, d2, d3] }
  | _ => none }
def CpuBranchesWrongFalsely : Prop := cpuBranchesRow.holds Try.pinned (OpenSpec.ofChange cpuBranchesWrong)

/-- 'tincturelaw12.CpuMoves': WHATEVER THE INPUT: true; the input reads as it did. -/
def cpuMovesSpec : ChangeSpec := { name := "cpuMoves", fn := fun _ => fun
  | [d1, d2] => { results := [.lit (.bool true)], args := [d1, d2] }
  | _ => none }
def cpuMovesRow : OpenClaim := { program := "ytkjeidoplonkjaa", sum := "ed6df74482f2ef661ded86b367283555d855e5a0d1491117e0aaacbfd42380ef", func := "tincture/tincturelaw12.CpuMoves", spec := "cpuMoves", apart := false }
def CpuMovesSaid : Prop := cpuMovesRow.holds Try.pinned (OpenSpec.ofChange cpuMovesSpec)

/-- ITS FALSE NEIGHBOUR: 'it returns false'. Refute it at one input. -/
def cpuMovesWrong : ChangeSpec := { name := "cpuMoves", fn := fun _ => fun
  | [d1, d2] => { results := [.lit (.bool false)], args := [d1, d2] }
  | _ => none }
def CpuMovesWrongFalsely : Prop := cpuMovesRow.holds Try.pinned (OpenSpec.ofChange cpuMovesWrong)

/-- 'tincturelaw12.CpuStays': WHATEVER THE INPUT: true; the input reads as it did. -/
def cpuStaysSpec : ChangeSpec := { name := "cpuStays", fn := fun _ => fun
  | [d1, d2, d3] => { results := [.lit (.bool true)], args := [d1, d2, d3] }
  | _ => none }
def cpuStaysRow : OpenClaim := { program := "ytkjeidoplonkjaa", sum := "ed6df74482f2ef661ded86b367283555d855e5a0d1491117e0aaacbfd42380ef", func := "tincture/tincturelaw12.CpuStays", spec := "cpuStays", unfollowed := true, recurses := true, apart := false }
def CpuStaysSaid : Prop := cpuStaysRow.holds Try.pinned (OpenSpec.ofChange cpuStaysSpec)

/-- ITS FALSE NEIGHBOUR: 'it returns false'. Refute it at one input. -/
def cpuStaysWrong : ChangeSpec := { name := "cpuStays", fn := fun _ => fun
  | [d1, d2, d3] => { results := [.lit (.bool false)], args := [d1, d2, d3] }
  | _ => none }
def CpuStaysWrongFalsely : Prop := cpuStaysRow.holds Try.pinned (OpenSpec.ofChange cpuStaysWrong)

/-- 'tincturelaw12.CpuZero': WHATEVER THE INPUT: true; the input reads as it did. -/
def cpuZeroSpec : ChangeSpec := { name := "cpuZero", fn := fun _ => fun
  | [d1, d2, d3, d4] => { results := [.lit (.bool true)], args := [d1, d2, d3, d4] }
  | _ => none }
def cpuZeroRow : OpenClaim := { program := "ytkjeidoplonkjaa", sum := "ed6df74482f2ef661ded86b367283555d855e5a0d1491117e0aaacbfd42380ef", func := "tincture/tincturelaw12.CpuZero", spec := "cpuZero", unfollowed := true, recurses := true, apart := false }
def CpuZeroSaid : Prop := cpuZeroRow.holds Try.pinned (OpenSpec.ofChange cpuZeroSpec)

/-- ITS FALSE NEIGHBOUR: 'it returns false'. Refute it at one input. -/
def cpuZeroWrong : ChangeSpec := { name := "cpuZero", fn := fun _ => fun
  | [d1, d2, d3, d4] => { results := [.lit (.bool false)], args := [d1, d2, d3, d4] }
  | _ => none }
def CpuZeroWrongFalsely : Prop := cpuZeroRow.holds Try.pinned (OpenSpec.ofChange cpuZeroWrong)

/-- 'tincturelaw14.LoadLabels': WHATEVER THE INPUT: true; the input reads as it did. -/
def loadLabelsSpec : ChangeSpec := { name := "loadLabels", fn := fun _ => fun
  | [d1, d2, d3, d4, d5] => { results := [.lit (.bool true)], args := [d1, d2, d3, d4, d5] }
  | _ => none }
def loadLabelsRow : OpenClaim := { program := "ytkjeidoplonkjaa", sum := "ed6df74482f2ef661ded86b367283555d855e5a0d1491117e0aaacbfd42380ef", func := "tincture/tincturelaw14.LoadLabels", spec := "loadLabels", inPlace := ["internal/bytealg.IndexByteString"], unfollowed := true, recurses := true, apart := false }
def LoadLabelsSaid : Prop := loadLabelsRow.holds Try.pinned (OpenSpec.ofChange loadLabelsSpec)

/-- ITS FALSE NEIGHBOUR: 'it returns false'. Refute it at one input. -/
def loadLabelsWrong : ChangeSpec := { name := "loadLabels", fn := fun _ => fun
  | [d1, d2, d3, d4, d5] => { results := [.lit (.bool false)], args := [d1, d2, d3, d4, d5] }
  | _ => none }
def LoadLabelsWrongFalsely : Prop := loadLabelsRow.holds Try.pinned (OpenSpec.ofChange loadLabelsWrong)

/-- 'tincturelaw14.LoadLays': WHATEVER THE INPUT: true; the input reads as it did. -/
def loadLaysSpec : ChangeSpec := { name := "loadLays", fn := fun _ => fun
  | [d1, d2, d3] => { results := [.lit (.bool true)], args := [d1, d2, d3] }
  | _ => none }
def loadLaysRow : OpenClaim := { program := "ytkjeidoplonkjaa", sum := "ed6df74482f2ef661ded86b367283555d855e5a0d1491117e0aaacbfd42380ef", func := "tincture/tincturelaw14.LoadLays", spec := "loadLays", inPlace := ["internal/bytealg.IndexByteString"], unfollowed := true, recurses := true, apart := false }
def LoadLaysSaid : Prop := loadLaysRow.holds Try.pinned (OpenSpec.ofChange loadLaysSpec)

/-- ITS FALSE NEIGHBOUR: 'it returns false'. Refute it at one input. -/
def loadLaysWrong : ChangeSpec := { name := "loadLays", fn := fun _ => fun
  | [d1, d2, d3] => { results := [.lit (.bool false)], args := [d1, d2, d3] }
  | _ => none }
def LoadLaysWrongFalsely : Prop := loadLaysRow.holds Try.pinned (OpenSpec.ofChange loadLaysWrong)

/-- 'tincturelaw14.LoadKnown': WHATEVER THE INPUT: true; the input reads as it did. -/
def loadKnownSpec : ChangeSpec := { name := "loadKnown", fn := fun _ => fun
  | [] => { results := [.lit (.bool true)], args := [] }
  | _ => none }
def loadKnownRow : OpenClaim := { program := "ytkjeidoplonkjaa", sum := "ed6df74482f2ef661ded86b367283555d855e5a0d1491117e0aaacbfd42380ef", func := "tincture/tincturelaw14.LoadKnown", spec := "loadKnown", inPlace := ["internal/bytealg.IndexByteString"], unfollowed := true, recurses := true, apart := false }
def LoadKnownSaid : Prop := loadKnownRow.holds Try.pinned (OpenSpec.ofChange loadKnownSpec)

/-- ITS FALSE NEIGHBOUR: 'it returns false'. Refute it at one input. -/
def loadKnownWrong : ChangeSpec := { name := "loadKnown", fn := fun _ => fun
  | [] => { results := [.lit (.bool false)], args := [] }
  | _ => none }
def LoadKnownWrongFalsely : Prop := loadKnownRow.holds Try.pinned (OpenSpec.ofChange loadKnownWrong)

/- THE SECOND FORM. 'bulk': how many values and letters a reading holds, each counted each time it is reached (what is shared counts as often as it is met; a slice's spare places count too). A statement '..UptoSaid' is the law's where the arguments, and the package variables that the reading takes, are together of bulk at most 1048576: NARROWER than '..Said'. Prove '..Said' where nothing that the law and all that it calls make is longer than what came in: it says more and counts as full. Else prove '..UptoSaid'. A law counts once. -/
mutual
def uptoBulk {H : Type} : DataW H → Nat
  | .lit (.string bytes) => bytes.length + 1
  | .lit _ => 1
  | .nil => 1
  | .ptr d => uptoBulk d + 1
  | .slice elems spare => uptoBulkAll elems + uptoBulkAll spare + 1
  | .agg parts => uptoBulkAll parts + 1
  | .iface _ d => uptoBulk d + 1
  | .map entries => uptoBulkEntries entries + 1
  | .held _ => 1
def uptoBulkAll {H : Type} : List (DataW H) → Nat
  | [] => 0
  | d :: r => uptoBulk d + uptoBulkAll r
def uptoBulkEntries {H : Type} : List (Lit × DataW H) → Nat
  | [] => 0
  | x :: r => uptoBulkEntry x + uptoBulkEntries r
def uptoBulkEntry {H : Type} : Lit × DataW H → Nat
  | (.string bytes, d) => bytes.length + uptoBulk d + 1
  | (_, d) => uptoBulk d + 1
 end
def uptoSmall : (H : Type) → List (DataW H) → Bool := fun _ ds => decide (uptoBulkAll ds ≤ 1048576)
def OpenSpec.upto (s : _root_.Go.ChangeSpec) : _root_.Go.OpenSpec := { _root_.Go.OpenSpec.ofChange s with cond := some uptoSmall }

/-- 'tincturelaw12.CpuKnown', WHERE WHAT IT READS IS OF BULK AT MOST 1048576: true; the input reads as it did. -/
def cpuKnownUptoRow : OpenClaim := { program := "ytkjeidoplonkjaa", sum := "ed6df74482f2ef661ded86b367283555d855e5a0d1491117e0aaacbfd42380ef", func := "tincture/tincturelaw12.CpuKnown", spec := "cpuKnown", apart := false, narrowed := true }
def CpuKnownUptoSaid : Prop := cpuKnownUptoRow.holds Try.pinned (OpenSpec.upto cpuKnownSpec)

/-- 'tincturelaw12.CpuSums', WHERE WHAT IT READS IS OF BULK AT MOST 1048576: true; the input reads as it did. -/
def cpuSumsUptoRow : OpenClaim := { program := "ytkjeidoplonkjaa", sum := "ed6df74482f2ef661ded86b367283555d855e5a0d1491117e0aaacbfd42380ef", func := "tincture/tincturelaw12.CpuSums", spec := "cpuSums", apart := false, narrowed := true }
def CpuSumsUptoSaid : Prop := cpuSumsUptoRow.holds Try.pinned (OpenSpec.upto cpuSumsSpec)

/-- 'tincturelaw12.CpuBranches', WHERE WHAT IT READS IS OF BULK AT MOST 1048576: true; the input reads as it did. -/
def cpuBranchesUptoRow : OpenClaim := { program := "ytkjeidoplonkjaa", sum := "ed6df74482f2ef661ded86b367283555d855e5a0d1491117e0aaacbfd42380ef", func := "tincture/tincturelaw12.CpuBranches", spec := "cpuBranches", apart := false, narrowed := true }
def CpuBranchesUptoSaid : Prop := cpuBranchesUptoRow.holds Try.pinned (OpenSpec.upto cpuBranchesSpec)

/-- 'tincturelaw12.CpuMoves', WHERE WHAT IT READS IS OF BULK AT MOST 1048576: true; the input reads as it did. -/
def cpuMovesUptoRow : OpenClaim := { program := "ytkjeidoplonkjaa", sum := "ed6df74482f2ef661ded86b367283555d855e5a0d1491117e0aaacbfd42380ef", func := "tincture/tincturelaw12.CpuMoves", spec := "cpuMoves", apart := false, narrowed := true }
def CpuMovesUptoSaid : Prop := cpuMovesUptoRow.holds Try.pinned (OpenSpec.upto cpuMovesSpec)

/-- 'tincturelaw12.CpuStays', WHERE WHAT IT READS IS OF BULK AT MOST 1048576: true; the input reads as it did. -/
def cpuStaysUptoRow : OpenClaim := { program := "ytkjeidoplonkjaa", sum := "ed6df74482f2ef661ded86b367283555d855e5a0d1491117e0aaacbfd42380ef", func := "tincture/tincturelaw12.CpuStays", spec := "cpuStays", unfollowed := true, recurses := true, apart := false, narrowed := true }
def CpuStaysUptoSaid : Prop := cpuStaysUptoRow.holds Try.pinned (OpenSpec.upto cpuStaysSpec)

/-- 'tincturelaw12.CpuZero', WHERE WHAT IT READS IS OF BULK AT MOST 1048576: true; the input reads as it did. -/
def cpuZeroUptoRow : OpenClaim := { program := "ytkjeidoplonkjaa", sum := "ed6df74482f2ef661ded86b367283555d855e5a0d1491117e0aaacbfd42380ef", func := "tincture/tincturelaw12.CpuZero", spec := "cpuZero", unfollowed := true, recurses := true, apart := false, narrowed := true }
def CpuZeroUptoSaid : Prop := cpuZeroUptoRow.holds Try.pinned (OpenSpec.upto cpuZeroSpec)

/-- 'tincturelaw14.LoadLabels', WHERE WHAT IT READS IS OF BULK AT MOST 1048576: true; the input reads as it did. -/
def loadLabelsUptoRow : OpenClaim := { program := "ytkjeidoplonkjaa", sum := "ed6df74482f2ef661ded86b367283555d855e5a0d1491117e0aaacbfd42380ef", func := "tincture/tincturelaw14.LoadLabels", spec := "loadLabels", inPlace := ["internal/bytealg.IndexByteString"], unfollowed := true, recurses := true, apart := false, narrowed := true }
def LoadLabelsUptoSaid : Prop := loadLabelsUptoRow.holds Try.pinned (OpenSpec.upto loadLabelsSpec)

/-- 'tincturelaw14.LoadLays', WHERE WHAT IT READS IS OF BULK AT MOST 1048576: true; the input reads as it did. -/
def loadLaysUptoRow : OpenClaim := { program := "ytkjeidoplonkjaa", sum := "ed6df74482f2ef661ded86b367283555d855e5a0d1491117e0aaacbfd42380ef", func := "tincture/tincturelaw14.LoadLays", spec := "loadLays", inPlace := ["internal/bytealg.IndexByteString"], unfollowed := true, recurses := true, apart := false, narrowed := true }
def LoadLaysUptoSaid : Prop := loadLaysUptoRow.holds Try.pinned (OpenSpec.upto loadLaysSpec)

/-- 'tincturelaw14.LoadKnown', WHERE WHAT IT READS IS OF BULK AT MOST 1048576: true; the input reads as it did. -/
def loadKnownUptoRow : OpenClaim := { program := "ytkjeidoplonkjaa", sum := "ed6df74482f2ef661ded86b367283555d855e5a0d1491117e0aaacbfd42380ef", func := "tincture/tincturelaw14.LoadKnown", spec := "loadKnown", inPlace := ["internal/bytealg.IndexByteString"], unfollowed := true, recurses := true, apart := false, narrowed := true }
def LoadKnownUptoSaid : Prop := loadKnownUptoRow.holds Try.pinned (OpenSpec.upto loadKnownSpec)

end Rows
end Go.Proofs.Ytkjeidoplonkjaa
