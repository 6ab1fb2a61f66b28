/-
  No cell of these rows narrows 'for every input' (looked for: loops, veiled, ifaces, maps, wideKeys, modest, calm, conditions, laid).
  DERIVED. THE GIVEN ROWS OF THIS SEAT. 12 by the template 'for every input the law returns true; each argument reads behind the call as it read before'; 0 by the template 'total and deterministic' (their statements: YtgfbdiibndbbjaaTotals.lean).
  GIVEN WITH THE SEED: the statements are not yours to turn. If you find one false, say at which input.
  Laid BY PROGRAM, IN A SANDBOX (cutbox-rows.mjs): the forced cells as the released guide's own fill.sh prints them over the translation 7255640d3f08fdcd… (all of the seat's roots in one cut). By AI agents, Wed Nov 11 2026. No macro, syntax, notation, axiom, sorry.
-/
import Derived.Test.YtgfbdiibndbbjaaChecked
import GoSem.Claim
import GoSem.ClaimJoined
import GoSem.ClaimMapViews
import Derived.JoinedTies
import Derived.KernelRfl
namespace Go.Proofs.Ytgfbdiibndbbjaa
/- THE CELL 'sum', in the pinned program and in every row, IS THE sha256 OF THE DUMP (.gsa) THAT YtgfbdiibndbbjaaProg.lean LOADS. Nothing in Lean hashes anything: it is a label: what it is worth is what the hold of that sum in a sandbox is worth. -/
noncomputable def Try.pinned : Pinned := { name := "ytgfbdiibndbbjaa", sum := "7255640d3f08fdcdf95a8dcef79dcd66ad6d0acbc0ba4fd6a9b2a8f1f818572a", checked := Try.checked }
namespace Rows
def none {H : Type} : Left H := { results := [], args := [] }

/-- 'tincturelaw10.StackPlaces': WHATEVER THE INPUT: true; the input reads as it did. -/
def stackPlacesSpec : ChangeSpec := { name := "stackPlaces", fn := fun _ => fun
  | [d] => { results := [.lit (.bool true)], args := [d] }
  | _ => none }
def stackPlacesRow : OpenClaim := { program := "ytgfbdiibndbbjaa", sum := "7255640d3f08fdcdf95a8dcef79dcd66ad6d0acbc0ba4fd6a9b2a8f1f818572a", func := "tincture/tincturelaw10.StackPlaces", spec := "stackPlaces", inPlace := ["internal/bytealg.IndexByteString"], apart := false }
def StackPlacesSaid : Prop := stackPlacesRow.holds Try.pinned (OpenSpec.ofChange stackPlacesSpec)

/-- ITS FALSE NEIGHBOUR: 'it returns false'. Refute it at one input. -/
def stackPlacesWrong : ChangeSpec := { name := "stackPlaces", fn := fun _ => fun
  | [d] => { results := [.lit (.bool false)], args := [d] }
  | _ => none }
def StackPlacesWrongFalsely : Prop := stackPlacesRow.holds Try.pinned (OpenSpec.ofChange stackPlacesWrong)

/-- 'tincturelaw3.MemBack': WHATEVER THE INPUT: true; the input reads as it did. -/
def memBackSpec : ChangeSpec := { name := "memBack", fn := fun _ => fun
  | [d1, d2, d3, d4, d5] => { results := [.lit (.bool true)], args := [d1, d2, d3, d4, d5] }
  | _ => none }
def memBackRow : OpenClaim := { program := "ytgfbdiibndbbjaa", sum := "7255640d3f08fdcdf95a8dcef79dcd66ad6d0acbc0ba4fd6a9b2a8f1f818572a", func := "tincture/tincturelaw3.MemBack", spec := "memBack", apart := false }
def MemBackSaid : Prop := memBackRow.holds Try.pinned (OpenSpec.ofChange memBackSpec)

/-- ITS FALSE NEIGHBOUR: 'it returns false'. Refute it at one input. -/
def memBackWrong : ChangeSpec := { name := "memBack", fn := fun _ => fun
  | [d1, d2, d3, d4, d5] => { results := [.lit (.bool false)], args := [d1, d2, d3, d4, d5] }
  | _ => none }
def MemBackWrongFalsely : Prop := memBackRow.holds Try.pinned (OpenSpec.ofChange memBackWrong)

/-- 'tincturelaw3.MemPerms': WHATEVER THE INPUT: true; the input reads as it did. -/
def memPermsSpec : ChangeSpec := { name := "memPerms", fn := fun _ => fun
  | [d1, d2, d3] => { results := [.lit (.bool true)], args := [d1, d2, d3] }
  | _ => none }
def memPermsRow : OpenClaim := { program := "ytgfbdiibndbbjaa", sum := "7255640d3f08fdcdf95a8dcef79dcd66ad6d0acbc0ba4fd6a9b2a8f1f818572a", func := "tincture/tincturelaw3.MemPerms", spec := "memPerms", apart := false }
def MemPermsSaid : Prop := memPermsRow.holds Try.pinned (OpenSpec.ofChange memPermsSpec)

/-- ITS FALSE NEIGHBOUR: 'it returns false'. Refute it at one input. -/
def memPermsWrong : ChangeSpec := { name := "memPerms", fn := fun _ => fun
  | [d1, d2, d3] => { results := [.lit (.bool false)], args := [d1, d2, d3] }
  | _ => none }
def MemPermsWrongFalsely : Prop := memPermsRow.holds Try.pinned (OpenSpec.ofChange memPermsWrong)

/-- 'tincturelaw3.MemGens': WHATEVER THE INPUT: true; the input reads as it did. -/
def memGensSpec : ChangeSpec := { name := "memGens", fn := fun _ => fun
  | [d] => { results := [.lit (.bool true)], args := [d] }
  | _ => none }
def memGensRow : OpenClaim := { program := "ytgfbdiibndbbjaa", sum := "7255640d3f08fdcdf95a8dcef79dcd66ad6d0acbc0ba4fd6a9b2a8f1f818572a", func := "tincture/tincturelaw3.MemGens", spec := "memGens", apart := false }
def MemGensSaid : Prop := memGensRow.holds Try.pinned (OpenSpec.ofChange memGensSpec)

/-- ITS FALSE NEIGHBOUR: 'it returns false'. Refute it at one input. -/
def memGensWrong : ChangeSpec := { name := "memGens", fn := fun _ => fun
  | [d] => { results := [.lit (.bool false)], args := [d] }
  | _ => none }
def MemGensWrongFalsely : Prop := memGensRow.holds Try.pinned (OpenSpec.ofChange memGensWrong)

/-- 'tincturelaw3.MemBuffers': WHATEVER THE INPUT: true; the input reads as it did. -/
def memBuffersSpec : ChangeSpec := { name := "memBuffers", fn := fun _ => fun
  | [d1, d2, d3] => { results := [.lit (.bool true)], args := [d1, d2, d3] }
  | _ => none }
def memBuffersRow : OpenClaim := { program := "ytgfbdiibndbbjaa", sum := "7255640d3f08fdcdf95a8dcef79dcd66ad6d0acbc0ba4fd6a9b2a8f1f818572a", func := "tincture/tincturelaw3.MemBuffers", spec := "memBuffers", apart := false }
def MemBuffersSaid : Prop := memBuffersRow.holds Try.pinned (OpenSpec.ofChange memBuffersSpec)

/-- ITS FALSE NEIGHBOUR: 'it returns false'. Refute it at one input. -/
def memBuffersWrong : ChangeSpec := { name := "memBuffers", fn := fun _ => fun
  | [d1, d2, d3] => { results := [.lit (.bool false)], args := [d1, d2, d3] }
  | _ => none }
def MemBuffersWrongFalsely : Prop := memBuffersRow.holds Try.pinned (OpenSpec.ofChange memBuffersWrong)

/-- 'tincturelaw10.StackFinds': WHATEVER THE INPUT: true; the input reads as it did. -/
def stackFindsSpec : ChangeSpec := { name := "stackFinds", fn := fun _ => fun
  | [d] => { results := [.lit (.bool true)], args := [d] }
  | _ => none }
def stackFindsRow : OpenClaim := { program := "ytgfbdiibndbbjaa", sum := "7255640d3f08fdcdf95a8dcef79dcd66ad6d0acbc0ba4fd6a9b2a8f1f818572a", func := "tincture/tincturelaw10.StackFinds", spec := "stackFinds", inPlace := ["internal/bytealg.IndexByteString"], apart := false }
def StackFindsSaid : Prop := stackFindsRow.holds Try.pinned (OpenSpec.ofChange stackFindsSpec)

/-- ITS FALSE NEIGHBOUR: 'it returns false'. Refute it at one input. -/
def stackFindsWrong : ChangeSpec := { name := "stackFinds", fn := fun _ => fun
  | [d] => { results := [.lit (.bool false)], args := [d] }
  | _ => none }
def StackFindsWrongFalsely : Prop := stackFindsRow.holds Try.pinned (OpenSpec.ofChange stackFindsWrong)

/-- 'tincturelaw3.MemFull': WHATEVER THE INPUT: true; the input reads as it did. -/
def memFullSpec : ChangeSpec := { name := "memFull", fn := fun _ => fun
  | [d1, d2] => { results := [.lit (.bool true)], args := [d1, d2] }
  | _ => none }
def memFullRow : OpenClaim := { program := "ytgfbdiibndbbjaa", sum := "7255640d3f08fdcdf95a8dcef79dcd66ad6d0acbc0ba4fd6a9b2a8f1f818572a", func := "tincture/tincturelaw3.MemFull", spec := "memFull", unfollowed := true, recurses := true, apart := false }
def MemFullSaid : Prop := memFullRow.holds Try.pinned (OpenSpec.ofChange memFullSpec)

/-- ITS FALSE NEIGHBOUR: 'it returns false'. Refute it at one input. -/
def memFullWrong : ChangeSpec := { name := "memFull", fn := fun _ => fun
  | [d1, d2] => { results := [.lit (.bool false)], args := [d1, d2] }
  | _ => none }
def MemFullWrongFalsely : Prop := memFullRow.holds Try.pinned (OpenSpec.ofChange memFullWrong)

/-- 'tincturelaw10.StackKnown': WHATEVER THE INPUT: true; the input reads as it did. -/
def stackKnownSpec : ChangeSpec := { name := "stackKnown", fn := fun _ => fun
  | [] => { results := [.lit (.bool true)], args := [] }
  | _ => none }
def stackKnownRow : OpenClaim := { program := "ytgfbdiibndbbjaa", sum := "7255640d3f08fdcdf95a8dcef79dcd66ad6d0acbc0ba4fd6a9b2a8f1f818572a", func := "tincture/tincturelaw10.StackKnown", spec := "stackKnown", inPlace := ["internal/bytealg.IndexByteString"], unfollowed := true, recurses := true, apart := false }
def StackKnownSaid : Prop := stackKnownRow.holds Try.pinned (OpenSpec.ofChange stackKnownSpec)

/-- ITS FALSE NEIGHBOUR: 'it returns false'. Refute it at one input. -/
def stackKnownWrong : ChangeSpec := { name := "stackKnown", fn := fun _ => fun
  | [] => { results := [.lit (.bool false)], args := [] }
  | _ => none }
def StackKnownWrongFalsely : Prop := stackKnownRow.holds Try.pinned (OpenSpec.ofChange stackKnownWrong)

/-- 'tincturelaw10.StackBuilds': WHATEVER THE INPUT: true; the input reads as it did. -/
def stackBuildsSpec : ChangeSpec := { name := "stackBuilds", fn := fun _ => fun
  | [d] => { results := [.lit (.bool true)], args := [d] }
  | _ => none }
def stackBuildsRow : OpenClaim := { program := "ytgfbdiibndbbjaa", sum := "7255640d3f08fdcdf95a8dcef79dcd66ad6d0acbc0ba4fd6a9b2a8f1f818572a", func := "tincture/tincturelaw10.StackBuilds", spec := "stackBuilds", inPlace := ["internal/bytealg.IndexByteString"], unfollowed := true, recurses := true, apart := false }
def StackBuildsSaid : Prop := stackBuildsRow.holds Try.pinned (OpenSpec.ofChange stackBuildsSpec)

/-- ITS FALSE NEIGHBOUR: 'it returns false'. Refute it at one input. -/
def stackBuildsWrong : ChangeSpec := { name := "stackBuilds", fn := fun _ => fun
  | [d] => { results := [.lit (.bool false)], args := [d] }
  | _ => none }
def StackBuildsWrongFalsely : Prop := stackBuildsRow.holds Try.pinned (OpenSpec.ofChange stackBuildsWrong)

/-- 'tincturelaw3.MemApart': WHATEVER THE INPUT: true; the input reads as it did. -/
def memApartSpec : ChangeSpec := { name := "memApart", fn := fun _ => fun
  | [d1, d2, d3] => { results := [.lit (.bool true)], args := [d1, d2, d3] }
  | _ => none }
def memApartRow : OpenClaim := { program := "ytgfbdiibndbbjaa", sum := "7255640d3f08fdcdf95a8dcef79dcd66ad6d0acbc0ba4fd6a9b2a8f1f818572a", func := "tincture/tincturelaw3.MemApart", spec := "memApart", inPlace := ["maps.clone"], unfollowed := true, recurses := true, apart := false }
def MemApartSaid : Prop := memApartRow.holds Try.pinned (OpenSpec.ofChange memApartSpec)

/-- ITS FALSE NEIGHBOUR: 'it returns false'. Refute it at one input. -/
def memApartWrong : ChangeSpec := { name := "memApart", fn := fun _ => fun
  | [d1, d2, d3] => { results := [.lit (.bool false)], args := [d1, d2, d3] }
  | _ => none }
def MemApartWrongFalsely : Prop := memApartRow.holds Try.pinned (OpenSpec.ofChange memApartWrong)

/-- 'tincturelaw3.MemKnown': WHATEVER THE INPUT: true; the input reads as it did. -/
def memKnownSpec : ChangeSpec := { name := "memKnown", fn := fun _ => fun
  | [] => { results := [.lit (.bool true)], args := [] }
  | _ => none }
def memKnownRow : OpenClaim := { program := "ytgfbdiibndbbjaa", sum := "7255640d3f08fdcdf95a8dcef79dcd66ad6d0acbc0ba4fd6a9b2a8f1f818572a", func := "tincture/tincturelaw3.MemKnown", spec := "memKnown", unfollowed := true, recurses := true, apart := false }
def MemKnownSaid : Prop := memKnownRow.holds Try.pinned (OpenSpec.ofChange memKnownSpec)

/-- ITS FALSE NEIGHBOUR: 'it returns false'. Refute it at one input. -/
def memKnownWrong : ChangeSpec := { name := "memKnown", fn := fun _ => fun
  | [] => { results := [.lit (.bool false)], args := [] }
  | _ => none }
def MemKnownWrongFalsely : Prop := memKnownRow.holds Try.pinned (OpenSpec.ofChange memKnownWrong)

/-- 'tincturelaw3.MemPlays': WHATEVER THE INPUT: true; the input reads as it did. -/
def memPlaysSpec : ChangeSpec := { name := "memPlays", fn := fun _ => fun
  | [d1, d2] => { results := [.lit (.bool true)], args := [d1, d2] }
  | _ => none }
def memPlaysRow : OpenClaim := { program := "ytgfbdiibndbbjaa", sum := "7255640d3f08fdcdf95a8dcef79dcd66ad6d0acbc0ba4fd6a9b2a8f1f818572a", func := "tincture/tincturelaw3.MemPlays", spec := "memPlays", inPlace := ["maps.clone"], unfollowed := true, recurses := true, apart := false }
def MemPlaysSaid : Prop := memPlaysRow.holds Try.pinned (OpenSpec.ofChange memPlaysSpec)

/-- ITS FALSE NEIGHBOUR: 'it returns false'. Refute it at one input. -/
def memPlaysWrong : ChangeSpec := { name := "memPlays", fn := fun _ => fun
  | [d1, d2] => { results := [.lit (.bool false)], args := [d1, d2] }
  | _ => none }
def MemPlaysWrongFalsely : Prop := memPlaysRow.holds Try.pinned (OpenSpec.ofChange memPlaysWrong)

/- THE SECOND FORM. 'bulk': how many values and letters a reading holds, each counted each time it is reached (what is shared counts as often as it is met; a slice's spare places count too). A statement '..UptoSaid' is the law's where the arguments, and the package variables that the reading takes, are together of bulk at most 1048576: NARROWER than '..Said'. Prove '..Said' where nothing that the law and all that it calls make is longer than what came in: it says more and counts as full. Else prove '..UptoSaid'. A law counts once. -/
mutual
def uptoBulk {H : Type} : DataW H → Nat
  | .lit (.string bytes) => bytes.length + 1
  | .lit _ => 1
  | .nil => 1
  | .ptr d => uptoBulk d + 1
  | .slice elems spare => uptoBulkAll elems + uptoBulkAll spare + 1
  | .agg parts => uptoBulkAll parts + 1
  | .iface _ d => uptoBulk d + 1
  | .map entries => uptoBulkEntries entries + 1
  | .held _ => 1
def uptoBulkAll {H : Type} : List (DataW H) → Nat
  | [] => 0
  | d :: r => uptoBulk d + uptoBulkAll r
def uptoBulkEntries {H : Type} : List (Lit × DataW H) → Nat
  | [] => 0
  | x :: r => uptoBulkEntry x + uptoBulkEntries r
def uptoBulkEntry {H : Type} : Lit × DataW H → Nat
  | (.string bytes, d) => bytes.length + uptoBulk d + 1
  | (_, d) => uptoBulk d + 1
 end
def uptoSmall : (H : Type) → List (DataW H) → Bool := fun _ ds => decide (uptoBulkAll ds ≤ 1048576)
def OpenSpec.upto (s : _root_.Go.ChangeSpec) : _root_.Go.OpenSpec := { _root_.Go.OpenSpec.ofChange s with cond := some uptoSmall }

/-- 'tincturelaw10.StackPlaces', WHERE WHAT IT READS IS OF BULK AT MOST 1048576: true; the input reads as it did. -/
def stackPlacesUptoRow : OpenClaim := { program := "ytgfbdiibndbbjaa", sum := "7255640d3f08fdcdf95a8dcef79dcd66ad6d0acbc0ba4fd6a9b2a8f1f818572a", func := "tincture/tincturelaw10.StackPlaces", spec := "stackPlaces", inPlace := ["internal/bytealg.IndexByteString"], apart := false, narrowed := true }
def StackPlacesUptoSaid : Prop := stackPlacesUptoRow.holds Try.pinned (OpenSpec.upto stackPlacesSpec)

/-- 'tincturelaw3.MemBack', WHERE WHAT IT READS IS OF BULK AT MOST 1048576: true; the input reads as it did. -/
def memBackUptoRow : OpenClaim := { program := "ytgfbdiibndbbjaa", sum := "7255640d3f08fdcdf95a8dcef79dcd66ad6d0acbc0ba4fd6a9b2a8f1f818572a", func := "tincture/tincturelaw3.MemBack", spec := "memBack", apart := false, narrowed := true }
def MemBackUptoSaid : Prop := memBackUptoRow.holds Try.pinned (OpenSpec.upto memBackSpec)

/-- 'tincturelaw3.MemPerms', WHERE WHAT IT READS IS OF BULK AT MOST 1048576: true; the input reads as it did. -/
def memPermsUptoRow : OpenClaim := { program := "ytgfbdiibndbbjaa", sum := "7255640d3f08fdcdf95a8dcef79dcd66ad6d0acbc0ba4fd6a9b2a8f1f818572a", func := "tincture/tincturelaw3.MemPerms", spec := "memPerms", apart := false, narrowed := true }
def MemPermsUptoSaid : Prop := memPermsUptoRow.holds Try.pinned (OpenSpec.upto memPermsSpec)

/-- 'tincturelaw3.MemGens', WHERE WHAT IT READS IS OF BULK AT MOST 1048576: true; the input reads as it did. -/
def memGensUptoRow : OpenClaim := { program := "ytgfbdiibndbbjaa", sum := "7255640d3f08fdcdf95a8dcef79dcd66ad6d0acbc0ba4fd6a9b2a8f1f818572a", func := "tincture/tincturelaw3.MemGens", spec := "memGens", apart := false, narrowed := true }
def MemGensUptoSaid : Prop := memGensUptoRow.holds Try.pinned (OpenSpec.upto memGensSpec)

/-- 'tincturelaw3.MemBuffers', WHERE WHAT IT READS IS OF BULK AT MOST 1048576: true; the input reads as it did. -/
def memBuffersUptoRow : OpenClaim := { program := "ytgfbdiibndbbjaa", sum := "7255640d3f08fdcdf95a8dcef79dcd66ad6d0acbc0ba4fd6a9b2a8f1f818572a", func := "tincture/tincturelaw3.MemBuffers", spec := "memBuffers", apart := false, narrowed := true }
def MemBuffersUptoSaid : Prop := memBuffersUptoRow.holds Try.pinned (OpenSpec.upto memBuffersSpec)

/-- 'tincturelaw10.StackFinds', WHERE WHAT IT READS IS OF BULK AT MOST 1048576: true; the input reads as it did. -/
def stackFindsUptoRow : OpenClaim := { program := "ytgfbdiibndbbjaa", sum := "7255640d3f08fdcdf95a8dcef79dcd66ad6d0acbc0ba4fd6a9b2a8f1f818572a", func := "tincture/tincturelaw10.StackFinds", spec := "stackFinds", inPlace := ["internal/bytealg.IndexByteString"], apart := false, narrowed := true }
def StackFindsUptoSaid : Prop := stackFindsUptoRow.holds Try.pinned (OpenSpec.upto stackFindsSpec)

/-- 'tincturelaw3.MemFull', WHERE WHAT IT READS IS OF BULK AT MOST 1048576: true; the input reads as it did. -/
def memFullUptoRow : OpenClaim := { program := "ytgfbdiibndbbjaa", sum := "7255640d3f08fdcdf95a8dcef79dcd66ad6d0acbc0ba4fd6a9b2a8f1f818572a", func := "tincture/tincturelaw3.MemFull", spec := "memFull", unfollowed := true, recurses := true, apart := false, narrowed := true }
def MemFullUptoSaid : Prop := memFullUptoRow.holds Try.pinned (OpenSpec.upto memFullSpec)

/-- 'tincturelaw10.StackKnown', WHERE WHAT IT READS IS OF BULK AT MOST 1048576: true; the input reads as it did. -/
def stackKnownUptoRow : OpenClaim := { program := "ytgfbdiibndbbjaa", sum := "7255640d3f08fdcdf95a8dcef79dcd66ad6d0acbc0ba4fd6a9b2a8f1f818572a", func := "tincture/tincturelaw10.StackKnown", spec := "stackKnown", inPlace := ["internal/bytealg.IndexByteString"], unfollowed := true, recurses := true, apart := false, narrowed := true }
def StackKnownUptoSaid : Prop := stackKnownUptoRow.holds Try.pinned (OpenSpec.upto stackKnownSpec)

/-- 'tincturelaw10.StackBuilds', WHERE WHAT IT READS IS OF BULK AT MOST 1048576: true; the input reads as it did. -/
def stackBuildsUptoRow : OpenClaim := { program := "ytgfbdiibndbbjaa", sum := "7255640d3f08fdcdf95a8dcef79dcd66ad6d0acbc0ba4fd6a9b2a8f1f818572a", func := "tincture/tincturelaw10.StackBuilds", spec := "stackBuilds", inPlace := ["internal/bytealg.IndexByteString"], unfollowed := true, recurses := true, apart := false, narrowed := true }
def StackBuildsUptoSaid : Prop := stackBuildsUptoRow.holds Try.pinned (OpenSpec.upto stackBuildsSpec)

/-- 'tincturelaw3.MemApart', WHERE WHAT IT READS IS OF BULK AT MOST 1048576: true; the input reads as it did. -/
def memApartUptoRow : OpenClaim := { program := "ytgfbdiibndbbjaa", sum := "7255640d3f08fdcdf95a8dcef79dcd66ad6d0acbc0ba4fd6a9b2a8f1f818572a", func := "tincture/tincturelaw3.MemApart", spec := "memApart", inPlace := ["maps.clone"], unfollowed := true, recurses := true, apart := false, narrowed := true }
def MemApartUptoSaid : Prop := memApartUptoRow.holds Try.pinned (OpenSpec.upto memApartSpec)

/-- 'tincturelaw3.MemKnown', WHERE WHAT IT READS IS OF BULK AT MOST 1048576: true; the input reads as it did. -/
def memKnownUptoRow : OpenClaim := { program := "ytgfbdiibndbbjaa", sum := "7255640d3f08fdcdf95a8dcef79dcd66ad6d0acbc0ba4fd6a9b2a8f1f818572a", func := "tincture/tincturelaw3.MemKnown", spec := "memKnown", unfollowed := true, recurses := true, apart := false, narrowed := true }
def MemKnownUptoSaid : Prop := memKnownUptoRow.holds Try.pinned (OpenSpec.upto memKnownSpec)

/-- 'tincturelaw3.MemPlays', WHERE WHAT IT READS IS OF BULK AT MOST 1048576: true; the input reads as it did. -/
def memPlaysUptoRow : OpenClaim := { program := "ytgfbdiibndbbjaa", sum := "7255640d3f08fdcdf95a8dcef79dcd66ad6d0acbc0ba4fd6a9b2a8f1f818572a", func := "tincture/tincturelaw3.MemPlays", spec := "memPlays", inPlace := ["maps.clone"], unfollowed := true, recurses := true, apart := false, narrowed := true }
def MemPlaysUptoSaid : Prop := memPlaysUptoRow.holds Try.pinned (OpenSpec.upto memPlaysSpec)

end Rows
end Go.Proofs.Ytgfbdiibndbbjaa
