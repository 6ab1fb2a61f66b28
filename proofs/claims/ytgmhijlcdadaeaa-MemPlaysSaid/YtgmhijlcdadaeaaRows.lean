/-
  No cell of these rows narrows 'for every input' (looked for: loops, veiled, ifaces, maps, wideKeys, modest, calm, conditions, laid).
  DERIVED. THE GIVEN ROWS OF THIS SEAT. 12 by the template 'for every input the law returns true; each argument reads behind the call as it read before'; 0 by the template 'total and deterministic' (their statements: YtgmhijlcdadaeaaTotals.lean).
  GIVEN WITH THE SEED: the statements are not yours to turn. If you find one false, say at which input.
  Laid BY PROGRAM, IN A SANDBOX (cutbox-rows.mjs): the forced cells as the released guide's own fill.sh prints them over the translation 8c220a2441bf6094… (all of the seat's roots in one cut). By AI agents, Wed Nov 11 2026. No macro, syntax, notation, axiom, sorry.
-/
import Derived.Test.YtgmhijlcdadaeaaChecked
import GoSem.Claim
import GoSem.ClaimJoined
import GoSem.ClaimMapViews
import Derived.JoinedTies
import Derived.KernelRfl
namespace Go.Proofs.Ytgmhijlcdadaeaa
/- THE CELL 'sum', in the pinned program and in every row, IS THE sha256 OF THE DUMP (.gsa) THAT YtgmhijlcdadaeaaProg.lean LOADS. Nothing in Lean hashes anything: it is a label: what it is worth is what the hold of that sum in a sandbox is worth. -/
noncomputable def Try.pinned : Pinned := { name := "ytgmhijlcdadaeaa", sum := "8c220a2441bf6094946549c4ec0c457ff19873747f9d59e651c0fd73972a8215", checked := Try.checked }
namespace Rows
def none {H : Type} : Left H := { results := [], args := [] }

/-- 'tincturelaw18.BlockKnown': WHATEVER THE INPUT: true; the input reads as it did. -/
def blockKnownSpec : ChangeSpec := { name := "blockKnown", fn := fun _ => fun
  | [] => { results := [.lit (.bool true)], args := [] }
  | _ => none }
def blockKnownRow : OpenClaim := { program := "ytgmhijlcdadaeaa", sum := "8c220a2441bf6094946549c4ec0c457ff19873747f9d59e651c0fd73972a8215", func := "tincture/tincturelaw18.BlockKnown", spec := "blockKnown", apart := false }
def BlockKnownSaid : Prop := blockKnownRow.holds Try.pinned (OpenSpec.ofChange blockKnownSpec)

/-- ITS FALSE NEIGHBOUR: 'it returns false'. Refute it at one input. -/
def blockKnownWrong : ChangeSpec := { name := "blockKnown", fn := fun _ => fun
  | [] => { results := [.lit (.bool false)], args := [] }
  | _ => none }
def BlockKnownWrongFalsely : Prop := blockKnownRow.holds Try.pinned (OpenSpec.ofChange blockKnownWrong)

/-- 'tincturelaw18.BlockRows': WHATEVER THE INPUT: true; the input reads as it did. -/
def blockRowsSpec : ChangeSpec := { name := "blockRows", fn := fun _ => fun
  | [d1, d2, d3] => { results := [.lit (.bool true)], args := [d1, d2, d3] }
  | _ => none }
def blockRowsRow : OpenClaim := { program := "ytgmhijlcdadaeaa", sum := "8c220a2441bf6094946549c4ec0c457ff19873747f9d59e651c0fd73972a8215", func := "tincture/tincturelaw18.BlockRows", spec := "blockRows", apart := false }
def BlockRowsSaid : Prop := blockRowsRow.holds Try.pinned (OpenSpec.ofChange blockRowsSpec)

/-- ITS FALSE NEIGHBOUR: 'it returns false'. Refute it at one input. -/
def blockRowsWrong : ChangeSpec := { name := "blockRows", fn := fun _ => fun
  | [d1, d2, d3] => { results := [.lit (.bool false)], args := [d1, d2, d3] }
  | _ => none }
def BlockRowsWrongFalsely : Prop := blockRowsRow.holds Try.pinned (OpenSpec.ofChange blockRowsWrong)

/-- 'tincturelaw18.BlockCuts': WHATEVER THE INPUT: true; the input reads as it did. -/
def blockCutsSpec : ChangeSpec := { name := "blockCuts", fn := fun _ => fun
  | [d1, d2, d3, d4] => { results := [.lit (.bool true)], args := [d1, d2, d3, d4] }
  | _ => none }
def blockCutsRow : OpenClaim := { program := "ytgmhijlcdadaeaa", sum := "8c220a2441bf6094946549c4ec0c457ff19873747f9d59e651c0fd73972a8215", func := "tincture/tincturelaw18.BlockCuts", spec := "blockCuts", apart := false }
def BlockCutsSaid : Prop := blockCutsRow.holds Try.pinned (OpenSpec.ofChange blockCutsSpec)

/-- ITS FALSE NEIGHBOUR: 'it returns false'. Refute it at one input. -/
def blockCutsWrong : ChangeSpec := { name := "blockCuts", fn := fun _ => fun
  | [d1, d2, d3, d4] => { results := [.lit (.bool false)], args := [d1, d2, d3, d4] }
  | _ => none }
def BlockCutsWrongFalsely : Prop := blockCutsRow.holds Try.pinned (OpenSpec.ofChange blockCutsWrong)

/-- 'tincturelaw18.BlockFinds': WHATEVER THE INPUT: true; the input reads as it did. -/
def blockFindsSpec : ChangeSpec := { name := "blockFinds", fn := fun _ => fun
  | [d1, d2, d3, d4] => { results := [.lit (.bool true)], args := [d1, d2, d3, d4] }
  | _ => none }
def blockFindsRow : OpenClaim := { program := "ytgmhijlcdadaeaa", sum := "8c220a2441bf6094946549c4ec0c457ff19873747f9d59e651c0fd73972a8215", func := "tincture/tincturelaw18.BlockFinds", spec := "blockFinds", unfollowed := true, recurses := true, apart := false }
def BlockFindsSaid : Prop := blockFindsRow.holds Try.pinned (OpenSpec.ofChange blockFindsSpec)

/-- ITS FALSE NEIGHBOUR: 'it returns false'. Refute it at one input. -/
def blockFindsWrong : ChangeSpec := { name := "blockFinds", fn := fun _ => fun
  | [d1, d2, d3, d4] => { results := [.lit (.bool false)], args := [d1, d2, d3, d4] }
  | _ => none }
def BlockFindsWrongFalsely : Prop := blockFindsRow.holds Try.pinned (OpenSpec.ofChange blockFindsWrong)

/-- 'tincturelaw4.ShadowFull': WHATEVER THE INPUT: true; the input reads as it did. -/
def shadowFullSpec : ChangeSpec := { name := "shadowFull", fn := fun _ => fun
  | [d1, d2] => { results := [.lit (.bool true)], args := [d1, d2] }
  | _ => none }
def shadowFullRow : OpenClaim := { program := "ytgmhijlcdadaeaa", sum := "8c220a2441bf6094946549c4ec0c457ff19873747f9d59e651c0fd73972a8215", func := "tincture/tincturelaw4.ShadowFull", spec := "shadowFull", unfollowed := true, recurses := true, apart := false }
def ShadowFullSaid : Prop := shadowFullRow.holds Try.pinned (OpenSpec.ofChange shadowFullSpec)

/-- ITS FALSE NEIGHBOUR: 'it returns false'. Refute it at one input. -/
def shadowFullWrong : ChangeSpec := { name := "shadowFull", fn := fun _ => fun
  | [d1, d2] => { results := [.lit (.bool false)], args := [d1, d2] }
  | _ => none }
def ShadowFullWrongFalsely : Prop := shadowFullRow.holds Try.pinned (OpenSpec.ofChange shadowFullWrong)

/-- 'tincturelaw4.ShadowApart': WHATEVER THE INPUT: true; the input reads as it did. -/
def shadowApartSpec : ChangeSpec := { name := "shadowApart", fn := fun _ => fun
  | [d1, d2, d3, d4, d5] => { results := [.lit (.bool true)], args := [d1, d2, d3, d4, d5] }
  | _ => none }
def shadowApartRow : OpenClaim := { program := "ytgmhijlcdadaeaa", sum := "8c220a2441bf6094946549c4ec0c457ff19873747f9d59e651c0fd73972a8215", func := "tincture/tincturelaw4.ShadowApart", spec := "shadowApart", unfollowed := true, recurses := true, apart := false }
def ShadowApartSaid : Prop := shadowApartRow.holds Try.pinned (OpenSpec.ofChange shadowApartSpec)

/-- ITS FALSE NEIGHBOUR: 'it returns false'. Refute it at one input. -/
def shadowApartWrong : ChangeSpec := { name := "shadowApart", fn := fun _ => fun
  | [d1, d2, d3, d4, d5] => { results := [.lit (.bool false)], args := [d1, d2, d3, d4, d5] }
  | _ => none }
def ShadowApartWrongFalsely : Prop := shadowApartRow.holds Try.pinned (OpenSpec.ofChange shadowApartWrong)

/-- 'tincturelaw4.ShadowNumbers': WHATEVER THE INPUT: true; the input reads as it did. -/
def shadowNumbersSpec : ChangeSpec := { name := "shadowNumbers", fn := fun _ => fun
  | [d1, d2, d3] => { results := [.lit (.bool true)], args := [d1, d2, d3] }
  | _ => none }
def shadowNumbersRow : OpenClaim := { program := "ytgmhijlcdadaeaa", sum := "8c220a2441bf6094946549c4ec0c457ff19873747f9d59e651c0fd73972a8215", func := "tincture/tincturelaw4.ShadowNumbers", spec := "shadowNumbers", unfollowed := true, recurses := true, apart := false }
def ShadowNumbersSaid : Prop := shadowNumbersRow.holds Try.pinned (OpenSpec.ofChange shadowNumbersSpec)

/-- ITS FALSE NEIGHBOUR: 'it returns false'. Refute it at one input. -/
def shadowNumbersWrong : ChangeSpec := { name := "shadowNumbers", fn := fun _ => fun
  | [d1, d2, d3] => { results := [.lit (.bool false)], args := [d1, d2, d3] }
  | _ => none }
def ShadowNumbersWrongFalsely : Prop := shadowNumbersRow.holds Try.pinned (OpenSpec.ofChange shadowNumbersWrong)

/-- 'tincturelaw4.ShadowAny': WHATEVER THE INPUT: true; the input reads as it did. -/
def shadowAnySpec : ChangeSpec := { name := "shadowAny", fn := fun _ => fun
  | [d1, d2, d3, d4] => { results := [.lit (.bool true)], args := [d1, d2, d3, d4] }
  | _ => none }
def shadowAnyRow : OpenClaim := { program := "ytgmhijlcdadaeaa", sum := "8c220a2441bf6094946549c4ec0c457ff19873747f9d59e651c0fd73972a8215", func := "tincture/tincturelaw4.ShadowAny", spec := "shadowAny", unfollowed := true, recurses := true, apart := false }
def ShadowAnySaid : Prop := shadowAnyRow.holds Try.pinned (OpenSpec.ofChange shadowAnySpec)

/-- ITS FALSE NEIGHBOUR: 'it returns false'. Refute it at one input. -/
def shadowAnyWrong : ChangeSpec := { name := "shadowAny", fn := fun _ => fun
  | [d1, d2, d3, d4] => { results := [.lit (.bool false)], args := [d1, d2, d3, d4] }
  | _ => none }
def ShadowAnyWrongFalsely : Prop := shadowAnyRow.holds Try.pinned (OpenSpec.ofChange shadowAnyWrong)

/-- 'tincturelaw4.ShadowClean': WHATEVER THE INPUT: true; the input reads as it did. -/
def shadowCleanSpec : ChangeSpec := { name := "shadowClean", fn := fun _ => fun
  | [d] => { results := [.lit (.bool true)], args := [d] }
  | _ => none }
def shadowCleanRow : OpenClaim := { program := "ytgmhijlcdadaeaa", sum := "8c220a2441bf6094946549c4ec0c457ff19873747f9d59e651c0fd73972a8215", func := "tincture/tincturelaw4.ShadowClean", spec := "shadowClean", unfollowed := true, recurses := true, apart := false }
def ShadowCleanSaid : Prop := shadowCleanRow.holds Try.pinned (OpenSpec.ofChange shadowCleanSpec)

/-- ITS FALSE NEIGHBOUR: 'it returns false'. Refute it at one input. -/
def shadowCleanWrong : ChangeSpec := { name := "shadowClean", fn := fun _ => fun
  | [d] => { results := [.lit (.bool false)], args := [d] }
  | _ => none }
def ShadowCleanWrongFalsely : Prop := shadowCleanRow.holds Try.pinned (OpenSpec.ofChange shadowCleanWrong)

/-- 'tincturelaw4.ShadowKnown': WHATEVER THE INPUT: true; the input reads as it did. -/
def shadowKnownSpec : ChangeSpec := { name := "shadowKnown", fn := fun _ => fun
  | [] => { results := [.lit (.bool true)], args := [] }
  | _ => none }
def shadowKnownRow : OpenClaim := { program := "ytgmhijlcdadaeaa", sum := "8c220a2441bf6094946549c4ec0c457ff19873747f9d59e651c0fd73972a8215", func := "tincture/tincturelaw4.ShadowKnown", spec := "shadowKnown", unfollowed := true, recurses := true, apart := false }
def ShadowKnownSaid : Prop := shadowKnownRow.holds Try.pinned (OpenSpec.ofChange shadowKnownSpec)

/-- ITS FALSE NEIGHBOUR: 'it returns false'. Refute it at one input. -/
def shadowKnownWrong : ChangeSpec := { name := "shadowKnown", fn := fun _ => fun
  | [] => { results := [.lit (.bool false)], args := [] }
  | _ => none }
def ShadowKnownWrongFalsely : Prop := shadowKnownRow.holds Try.pinned (OpenSpec.ofChange shadowKnownWrong)

/-- 'tincturelaw4.ShadowPlays': WHATEVER THE INPUT: true; the input reads as it did. -/
def shadowPlaysSpec : ChangeSpec := { name := "shadowPlays", fn := fun _ => fun
  | [d1, d2] => { results := [.lit (.bool true)], args := [d1, d2] }
  | _ => none }
def shadowPlaysRow : OpenClaim := { program := "ytgmhijlcdadaeaa", sum := "8c220a2441bf6094946549c4ec0c457ff19873747f9d59e651c0fd73972a8215", func := "tincture/tincturelaw4.ShadowPlays", spec := "shadowPlays", unfollowed := true, recurses := true, apart := false }
def ShadowPlaysSaid : Prop := shadowPlaysRow.holds Try.pinned (OpenSpec.ofChange shadowPlaysSpec)

/-- ITS FALSE NEIGHBOUR: 'it returns false'. Refute it at one input. -/
def shadowPlaysWrong : ChangeSpec := { name := "shadowPlays", fn := fun _ => fun
  | [d1, d2] => { results := [.lit (.bool false)], args := [d1, d2] }
  | _ => none }
def ShadowPlaysWrongFalsely : Prop := shadowPlaysRow.holds Try.pinned (OpenSpec.ofChange shadowPlaysWrong)

/-- 'tincturelaw3.MemPlays': WHATEVER THE INPUT: true; the input reads as it did. -/
def memPlaysSpec : ChangeSpec := { name := "memPlays", fn := fun _ => fun
  | [d1, d2] => { results := [.lit (.bool true)], args := [d1, d2] }
  | _ => none }
def memPlaysRow : OpenClaim := { program := "ytgmhijlcdadaeaa", sum := "8c220a2441bf6094946549c4ec0c457ff19873747f9d59e651c0fd73972a8215", func := "tincture/tincturelaw3.MemPlays", spec := "memPlays", inPlace := ["maps.clone"], unfollowed := true, recurses := true, apart := false }
def MemPlaysSaid : Prop := memPlaysRow.holds Try.pinned (OpenSpec.ofChange memPlaysSpec)

/-- ITS FALSE NEIGHBOUR: 'it returns false'. Refute it at one input. -/
def memPlaysWrong : ChangeSpec := { name := "memPlays", fn := fun _ => fun
  | [d1, d2] => { results := [.lit (.bool false)], args := [d1, d2] }
  | _ => none }
def MemPlaysWrongFalsely : Prop := memPlaysRow.holds Try.pinned (OpenSpec.ofChange memPlaysWrong)

/- THE SECOND FORM. 'bulk': how many values and letters a reading holds, each counted each time it is reached (what is shared counts as often as it is met; a slice's spare places count too). A statement '..UptoSaid' is the law's where the arguments, and the package variables that the reading takes, are together of bulk at most 1048576: NARROWER than '..Said'. Prove '..Said' where nothing that the law and all that it calls make is longer than what came in: it says more and counts as full. Else prove '..UptoSaid'. A law counts once. -/
mutual
def uptoBulk {H : Type} : DataW H → Nat
  | .lit (.string bytes) => bytes.length + 1
  | .lit _ => 1
  | .nil => 1
  | .ptr d => uptoBulk d + 1
  | .slice elems spare => uptoBulkAll elems + uptoBulkAll spare + 1
  | .agg parts => uptoBulkAll parts + 1
  | .iface _ d => uptoBulk d + 1
  | .map entries => uptoBulkEntries entries + 1
  | .held _ => 1
def uptoBulkAll {H : Type} : List (DataW H) → Nat
  | [] => 0
  | d :: r => uptoBulk d + uptoBulkAll r
def uptoBulkEntries {H : Type} : List (Lit × DataW H) → Nat
  | [] => 0
  | x :: r => uptoBulkEntry x + uptoBulkEntries r
def uptoBulkEntry {H : Type} : Lit × DataW H → Nat
  | (.string bytes, d) => bytes.length + uptoBulk d + 1
  | (_, d) => uptoBulk d + 1
 end
def uptoSmall : (H : Type) → List (DataW H) → Bool := fun _ ds => decide (uptoBulkAll ds ≤ 1048576)
def OpenSpec.upto (s : _root_.Go.ChangeSpec) : _root_.Go.OpenSpec := { _root_.Go.OpenSpec.ofChange s with cond := some uptoSmall }

/-- 'tincturelaw18.BlockKnown', WHERE WHAT IT READS IS OF BULK AT MOST 1048576: true; the input reads as it did. -/
def blockKnownUptoRow : OpenClaim := { program := "ytgmhijlcdadaeaa", sum := "8c220a2441bf6094946549c4ec0c457ff19873747f9d59e651c0fd73972a8215", func := "tincture/tincturelaw18.BlockKnown", spec := "blockKnown", apart := false, narrowed := true }
def BlockKnownUptoSaid : Prop := blockKnownUptoRow.holds Try.pinned (OpenSpec.upto blockKnownSpec)

/-- 'tincturelaw18.BlockRows', WHERE WHAT IT READS IS OF BULK AT MOST 1048576: true; the input reads as it did. -/
def blockRowsUptoRow : OpenClaim := { program := "ytgmhijlcdadaeaa", sum := "8c220a2441bf6094946549c4ec0c457ff19873747f9d59e651c0fd73972a8215", func := "tincture/tincturelaw18.BlockRows", spec := "blockRows", apart := false, narrowed := true }
def BlockRowsUptoSaid : Prop := blockRowsUptoRow.holds Try.pinned (OpenSpec.upto blockRowsSpec)

/-- 'tincturelaw18.BlockCuts', WHERE WHAT IT READS IS OF BULK AT MOST 1048576: true; the input reads as it did. -/
def blockCutsUptoRow : OpenClaim := { program := "ytgmhijlcdadaeaa", sum := "8c220a2441bf6094946549c4ec0c457ff19873747f9d59e651c0fd73972a8215", func := "tincture/tincturelaw18.BlockCuts", spec := "blockCuts", apart := false, narrowed := true }
def BlockCutsUptoSaid : Prop := blockCutsUptoRow.holds Try.pinned (OpenSpec.upto blockCutsSpec)

/-- 'tincturelaw18.BlockFinds', WHERE WHAT IT READS IS OF BULK AT MOST 1048576: true; the input reads as it did. -/
def blockFindsUptoRow : OpenClaim := { program := "ytgmhijlcdadaeaa", sum := "8c220a2441bf6094946549c4ec0c457ff19873747f9d59e651c0fd73972a8215", func := "tincture/tincturelaw18.BlockFinds", spec := "blockFinds", unfollowed := true, recurses := true, apart := false, narrowed := true }
def BlockFindsUptoSaid : Prop := blockFindsUptoRow.holds Try.pinned (OpenSpec.upto blockFindsSpec)

/-- 'tincturelaw4.ShadowFull', WHERE WHAT IT READS IS OF BULK AT MOST 1048576: true; the input reads as it did. -/
def shadowFullUptoRow : OpenClaim := { program := "ytgmhijlcdadaeaa", sum := "8c220a2441bf6094946549c4ec0c457ff19873747f9d59e651c0fd73972a8215", func := "tincture/tincturelaw4.ShadowFull", spec := "shadowFull", unfollowed := true, recurses := true, apart := false, narrowed := true }
def ShadowFullUptoSaid : Prop := shadowFullUptoRow.holds Try.pinned (OpenSpec.upto shadowFullSpec)

/-- 'tincturelaw4.ShadowApart', WHERE WHAT IT READS IS OF BULK AT MOST 1048576: true; the input reads as it did. -/
def shadowApartUptoRow : OpenClaim := { program := "ytgmhijlcdadaeaa", sum := "8c220a2441bf6094946549c4ec0c457ff19873747f9d59e651c0fd73972a8215", func := "tincture/tincturelaw4.ShadowApart", spec := "shadowApart", unfollowed := true, recurses := true, apart := false, narrowed := true }
def ShadowApartUptoSaid : Prop := shadowApartUptoRow.holds Try.pinned (OpenSpec.upto shadowApartSpec)

/-- 'tincturelaw4.ShadowNumbers', WHERE WHAT IT READS IS OF BULK AT MOST 1048576: true; the input reads as it did. -/
def shadowNumbersUptoRow : OpenClaim := { program := "ytgmhijlcdadaeaa", sum := "8c220a2441bf6094946549c4ec0c457ff19873747f9d59e651c0fd73972a8215", func := "tincture/tincturelaw4.ShadowNumbers", spec := "shadowNumbers", unfollowed := true, recurses := true, apart := false, narrowed := true }
def ShadowNumbersUptoSaid : Prop := shadowNumbersUptoRow.holds Try.pinned (OpenSpec.upto shadowNumbersSpec)

/-- 'tincturelaw4.ShadowAny', WHERE WHAT IT READS IS OF BULK AT MOST 1048576: true; the input reads as it did. -/
def shadowAnyUptoRow : OpenClaim := { program := "ytgmhijlcdadaeaa", sum := "8c220a2441bf6094946549c4ec0c457ff19873747f9d59e651c0fd73972a8215", func := "tincture/tincturelaw4.ShadowAny", spec := "shadowAny", unfollowed := true, recurses := true, apart := false, narrowed := true }
def ShadowAnyUptoSaid : Prop := shadowAnyUptoRow.holds Try.pinned (OpenSpec.upto shadowAnySpec)

/-- 'tincturelaw4.ShadowClean', WHERE WHAT IT READS IS OF BULK AT MOST 1048576: true; the input reads as it did. -/
def shadowCleanUptoRow : OpenClaim := { program := "ytgmhijlcdadaeaa", sum := "8c220a2441bf6094946549c4ec0c457ff19873747f9d59e651c0fd73972a8215", func := "tincture/tincturelaw4.ShadowClean", spec := "shadowClean", unfollowed := true, recurses := true, apart := false, narrowed := true }
def ShadowCleanUptoSaid : Prop := shadowCleanUptoRow.holds Try.pinned (OpenSpec.upto shadowCleanSpec)

/-- 'tincturelaw4.ShadowKnown', WHERE WHAT IT READS IS OF BULK AT MOST 1048576: true; the input reads as it did. -/
def shadowKnownUptoRow : OpenClaim := { program := "ytgmhijlcdadaeaa", sum := "8c220a2441bf6094946549c4ec0c457ff19873747f9d59e651c0fd73972a8215", func := "tincture/tincturelaw4.ShadowKnown", spec := "shadowKnown", unfollowed := true, recurses := true, apart := false, narrowed := true }
def ShadowKnownUptoSaid : Prop := shadowKnownUptoRow.holds Try.pinned (OpenSpec.upto shadowKnownSpec)

/-- 'tincturelaw4.ShadowPlays', WHERE WHAT IT READS IS OF BULK AT MOST 1048576: true; the input reads as it did. -/
def shadowPlaysUptoRow : OpenClaim := { program := "ytgmhijlcdadaeaa", sum := "8c220a2441bf6094946549c4ec0c457ff19873747f9d59e651c0fd73972a8215", func := "tincture/tincturelaw4.ShadowPlays", spec := "shadowPlays", unfollowed := true, recurses := true, apart := false, narrowed := true }
def ShadowPlaysUptoSaid : Prop := shadowPlaysUptoRow.holds Try.pinned (OpenSpec.upto shadowPlaysSpec)

/-- 'tincturelaw3.MemPlays', WHERE WHAT IT READS IS OF BULK AT MOST 1048576: true; the input reads as it did. -/
def memPlaysUptoRow : OpenClaim := { program := "ytgmhijlcdadaeaa", sum := "8c220a2441bf6094946549c4ec0c457ff19873747f9d59e651c0fd73972a8215", func := "tincture/tincturelaw3.MemPlays", spec := "memPlays", inPlace := ["maps.clone"], unfollowed := true, recurses := true, apart := false, narrowed := true }
def MemPlaysUptoSaid : Prop := memPlaysUptoRow.holds Try.pinned (OpenSpec.upto memPlaysSpec)

end Rows
end Go.Proofs.Ytgmhijlcdadaeaa
