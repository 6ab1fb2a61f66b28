/-
  No cell of these rows narrows 'for every input' (looked for: loops, veiled, ifaces, maps, wideKeys, modest, calm, conditions, laid).
  DERIVED. THE GIVEN ROWS OF THIS SEAT. 2 by the template 'for every input the law returns true; each argument reads behind the call as it read before'; 0 by the template 'total and deterministic' (their statements: YtnfkalpgidiafaaGreatTotals.lean).
  GIVEN WITH THE SEED: the statements are not yours to turn. If you find one false, say at which input.
  Laid BY PROGRAM, IN A SANDBOX (cutbox-rows.mjs): the forced cells as the released guide's own fill.sh prints them over the translation eb1bfa7f5571da08… (all of the seat's roots in one cut). By AI agents, Wed Nov 11 2026. No macro, syntax, notation, axiom, sorry.
-/
import Derived.Test.YtnfkalpgidiafaaGreatChecked
import GoSem.Claim
import GoSem.ClaimJoined
import GoSem.ClaimMapViews
import Derived.JoinedTies
import Derived.KernelRfl
namespace Go.Proofs.YtnfkalpgidiafaaGreat
/- THE CELL 'sum', in the pinned program and in every row, IS THE sha256 OF THE DUMP (.gsa) THAT YtnfkalpgidiafaaGreatProg.lean LOADS. Nothing in Lean hashes anything: it is a label: what it is worth is what the hold of that sum in a sandbox is worth. -/
noncomputable def Tryz.pinned : Pinned := { name := "ytnfkalpgidiafaagreat", sum := "eb1bfa7f5571da08830402b5b1f989028eb6fe8e25223e3da4e4dfe85a4bde6d", checked := Tryz.checked }
namespace Rows
def none {H : Type} : Left H := { results := [], args := [] }

/-- 'tincturelaw13.FlowClean': WHATEVER THE INPUT: true; the input reads as it did. -/
def flowCleanSpec : ChangeSpec := { name := "flowClean", fn := fun _ => fun
  | [d1, d2, d3, d4] => { results := [.lit (.bool true)], args := [d1, d2, d3, d4] }
  | _ => none }
def flowCleanRow : OpenClaim := { program := "ytnfkalpgidiafaagreat", sum := "eb1bfa7f5571da08830402b5b1f989028eb6fe8e25223e3da4e4dfe85a4bde6d", func := "tincture/tincturelaw13.FlowClean", spec := "flowClean", unfollowed := true, recurses := true, apart := false }
def FlowCleanSaid : Prop := flowCleanRow.holds Tryz.pinned (OpenSpec.ofChange flowCleanSpec)

/-- ITS FALSE NEIGHBOUR: 'it returns false'. Refute it at one input. -/
def flowCleanWrong : ChangeSpec := { name := "flowClean", fn := fun _ => fun
  | [d1, d2, d3, d4] => { results := [.lit (.bool false)], args := [d1, d2, d3, d4] }
  | _ => none }
def FlowCleanWrongFalsely : Prop := flowCleanRow.holds Tryz.pinned (OpenSpec.ofChange flowCleanWrong)

/-- 'tincturelaw13.FlowAsCpu': WHATEVER THE INPUT: true; the input reads as it did. -/
def flowAsCpuSpec : ChangeSpec := { name := "flowAsCpu", fn := fun _ => fun
  | [d1, d2, d3, d4, d5, d6] => { results := [.lit (.bool true)], args := [d1, d2, d3, d4, d5, d6] }
  | _ => none }
def flowAsCpuRow : OpenClaim := { program := "ytnfkalpgidiafaagreat", sum := "eb1bfa7f5571da08830402b5b1f989028eb6fe8e25223e3da4e4dfe85a4bde6d", func := "tincture/tincturelaw13.FlowAsCpu", spec := "flowAsCpu", unfollowed := true, recurses := true, apart := false }
def FlowAsCpuSaid : Prop := flowAsCpuRow.holds Tryz.pinned (OpenSpec.ofChange flowAsCpuSpec)

/-- ITS FALSE NEIGHBOUR: 'it returns false'. Refute it at one input. -/
def flowAsCpuWrong : ChangeSpec := { name := "flowAsCpu", fn := fun _ => fun
  | [d1, d2, d3, d4, d5, d6] => { results := [.lit (.bool false)], args := [d1, d2, d3, d4, d5, d6] }
  | _ => none }
def FlowAsCpuWrongFalsely : Prop := flowAsCpuRow.holds Tryz.pinned (OpenSpec.ofChange flowAsCpuWrong)

/- THE SECOND FORM. 'bulk': how many values and letters a reading holds, each counted each time it is reached (what is shared counts as often as it is met; a slice's spare places count too). A statement '..UptoSaid' is the law's where the arguments, and the package variables that the reading takes, are together of bulk at most 1048576: NARROWER than '..Said'. Prove '..Said' where nothing that the law and all that it calls make is longer than what came in: it says more and counts as full. Else prove '..UptoSaid'. A law counts once. -/
mutual
def uptoBulk {H : Type} : DataW H → Nat
  | .lit (.string bytes) => bytes.length + 1
  | .lit _ => 1
  | .nil => 1
  | .ptr d => uptoBulk d + 1
  | .slice elems spare => uptoBulkAll elems + uptoBulkAll spare + 1
  | .agg parts => uptoBulkAll parts + 1
  | .iface _ d => uptoBulk d + 1
  | .map entries => uptoBulkEntries entries + 1
  | .held _ => 1
def uptoBulkAll {H : Type} : List (DataW H) → Nat
  | [] => 0
  | d :: r => uptoBulk d + uptoBulkAll r
def uptoBulkEntries {H : Type} : List (Lit × DataW H) → Nat
  | [] => 0
  | x :: r => uptoBulkEntry x + uptoBulkEntries r
def uptoBulkEntry {H : Type} : Lit × DataW H → Nat
  | (.string bytes, d) => bytes.length + uptoBulk d + 1
  | (_, d) => uptoBulk d + 1
 end
def uptoSmall : (H : Type) → List (DataW H) → Bool := fun _ ds => decide (uptoBulkAll ds ≤ 1048576)
def OpenSpec.upto (s : _root_.Go.ChangeSpec) : _root_.Go.OpenSpec := { _root_.Go.OpenSpec.ofChange s with cond := some uptoSmall }

/-- 'tincturelaw13.FlowClean', WHERE WHAT IT READS IS OF BULK AT MOST 1048576: true; the input reads as it did. -/
def flowCleanUptoRow : OpenClaim := { program := "ytnfkalpgidiafaagreat", sum := "eb1bfa7f5571da08830402b5b1f989028eb6fe8e25223e3da4e4dfe85a4bde6d", func := "tincture/tincturelaw13.FlowClean", spec := "flowClean", unfollowed := true, recurses := true, apart := false, narrowed := true }
def FlowCleanUptoSaid : Prop := flowCleanUptoRow.holds Tryz.pinned (OpenSpec.upto flowCleanSpec)

/-- 'tincturelaw13.FlowAsCpu', WHERE WHAT IT READS IS OF BULK AT MOST 1048576: true; the input reads as it did. -/
def flowAsCpuUptoRow : OpenClaim := { program := "ytnfkalpgidiafaagreat", sum := "eb1bfa7f5571da08830402b5b1f989028eb6fe8e25223e3da4e4dfe85a4bde6d", func := "tincture/tincturelaw13.FlowAsCpu", spec := "flowAsCpu", unfollowed := true, recurses := true, apart := false, narrowed := true }
def FlowAsCpuUptoSaid : Prop := flowAsCpuUptoRow.holds Tryz.pinned (OpenSpec.upto flowAsCpuSpec)

end Rows
end Go.Proofs.YtnfkalpgidiafaaGreat
