/-
  No cell of these rows narrows 'for every input' (looked for: loops, veiled, ifaces, maps, wideKeys, modest, calm, conditions, laid).
  DERIVED. THE GIVEN ROWS OF THIS SEAT. 12 by the template 'for every input the law returns true; each argument reads behind the call as it read before'; 0 by the template 'total and deterministic' (their statements: YtjjhihlmoecmlaaTotals.lean).
  GIVEN WITH THE SEED: the statements are not yours to turn. If you find one false, say at which input.
  Laid BY PROGRAM, IN A SANDBOX (cutbox-rows.mjs): the forced cells as the released guide's own fill.sh prints them over the translation 6b2cb1271ca934af… (all of the seat's roots in one cut). By AI agents, Wed Nov 11 2026. No macro, syntax, notation, axiom, sorry.
-/
import Derived.Test.YtjjhihlmoecmlaaChecked
import GoSem.Claim
import GoSem.ClaimJoined
import GoSem.ClaimMapViews
import Derived.JoinedTies
import Derived.KernelRfl
namespace Go.Proofs.Ytjjhihlmoecmlaa
/- THE CELL 'sum', in the pinned program and in every row, IS THE sha256 OF THE DUMP (.gsa) THAT YtjjhihlmoecmlaaProg.lean LOADS. Nothing in Lean hashes anything: it is a label: what it is worth is what the hold of that sum in a sandbox is worth. -/
noncomputable def Try.pinned : Pinned := { name := "ytjjhihlmoecmlaa", sum := "6b2cb1271ca934af4d5ea8e41ff471d2922d0e5f51627386993b43e54da3b67a", checked := Try.checked }
namespace Rows
def none {H : Type} : Left H := { results := [], args := [] }

/-- 'tincturelaw9.FeedTakes': WHATEVER THE INPUT: true; the input reads as it did. -/
def feedTakesSpec : ChangeSpec := { name := "feedTakes", fn := fun _ => fun
  | [d1, d2] => { results := [.lit (.bool true)], args := [d1, d2] }
  | _ => none }
def feedTakesRow : OpenClaim := { program := "ytjjhihlmoecmlaa", sum := "6b2cb1271ca934af4d5ea8e41ff471d2922d0e5f51627386993b43e54da3b67a", func := "tincture/tincturelaw9.FeedTakes", spec := "feedTakes", inPlace := ["internal/bytealg.IndexByteString"], unfollowed := true, recurses := true, apart := false }
def FeedTakesSaid : Prop := feedTakesRow.holds Try.pinned (OpenSpec.ofChange feedTakesSpec)

/-- ITS FALSE NEIGHBOUR: 'it returns false'. Refute it at one input. -/
def feedTakesWrong : ChangeSpec := { name := "feedTakes", fn := fun _ => fun
  | [d1, d2] => { results := [.lit (.bool false)], args := [d1, d2] }
  | _ => none }
def FeedTakesWrongFalsely : Prop := feedTakesRow.holds Try.pinned (OpenSpec.ofChange feedTakesWrong)

/-- 'tincturelaw9.FeedParts': WHATEVER THE INPUT: true; the input reads as it did. -/
def feedPartsSpec : ChangeSpec := { name := "feedParts", fn := fun _ => fun
  | [d1, d2] => { results := [.lit (.bool true)], args := [d1, d2] }
  | _ => none }
def feedPartsRow : OpenClaim := { program := "ytjjhihlmoecmlaa", sum := "6b2cb1271ca934af4d5ea8e41ff471d2922d0e5f51627386993b43e54da3b67a", func := "tincture/tincturelaw9.FeedParts", spec := "feedParts", inPlace := ["internal/bytealg.IndexByteString"], unfollowed := true, recurses := true, apart := false }
def FeedPartsSaid : Prop := feedPartsRow.holds Try.pinned (OpenSpec.ofChange feedPartsSpec)

/-- ITS FALSE NEIGHBOUR: 'it returns false'. Refute it at one input. -/
def feedPartsWrong : ChangeSpec := { name := "feedParts", fn := fun _ => fun
  | [d1, d2] => { results := [.lit (.bool false)], args := [d1, d2] }
  | _ => none }
def FeedPartsWrongFalsely : Prop := feedPartsRow.holds Try.pinned (OpenSpec.ofChange feedPartsWrong)

/-- 'tincturelaw9.FeedPlays': WHATEVER THE INPUT: true; the input reads as it did. -/
def feedPlaysSpec : ChangeSpec := { name := "feedPlays", fn := fun _ => fun
  | [d1, d2] => { results := [.lit (.bool true)], args := [d1, d2] }
  | _ => none }
def feedPlaysRow : OpenClaim := { program := "ytjjhihlmoecmlaa", sum := "6b2cb1271ca934af4d5ea8e41ff471d2922d0e5f51627386993b43e54da3b67a", func := "tincture/tincturelaw9.FeedPlays", spec := "feedPlays", inPlace := ["internal/bytealg.IndexByteString"], unfollowed := true, recurses := true, apart := false }
def FeedPlaysSaid : Prop := feedPlaysRow.holds Try.pinned (OpenSpec.ofChange feedPlaysSpec)

/-- ITS FALSE NEIGHBOUR: 'it returns false'. Refute it at one input. -/
def feedPlaysWrong : ChangeSpec := { name := "feedPlays", fn := fun _ => fun
  | [d1, d2] => { results := [.lit (.bool false)], args := [d1, d2] }
  | _ => none }
def FeedPlaysWrongFalsely : Prop := feedPlaysRow.holds Try.pinned (OpenSpec.ofChange feedPlaysWrong)

/-- 'tincturelaw11.FilesApart': WHATEVER THE INPUT: true; the input reads as it did. -/
def filesApartSpec : ChangeSpec := { name := "filesApart", fn := fun _ => fun
  | [d1, d2] => { results := [.lit (.bool true)], args := [d1, d2] }
  | _ => none }
def filesApartRow : OpenClaim := { program := "ytjjhihlmoecmlaa", sum := "6b2cb1271ca934af4d5ea8e41ff471d2922d0e5f51627386993b43e54da3b67a", func := "tincture/tincturelaw11.FilesApart", spec := "filesApart", inPlace := ["internal/bytealg.IndexByteString", "maps.clone"], unfollowed := true, recurses := true, apart := false }
def FilesApartSaid : Prop := filesApartRow.holds Try.pinned (OpenSpec.ofChange filesApartSpec)

/-- ITS FALSE NEIGHBOUR: 'it returns false'. Refute it at one input. -/
def filesApartWrong : ChangeSpec := { name := "filesApart", fn := fun _ => fun
  | [d1, d2] => { results := [.lit (.bool false)], args := [d1, d2] }
  | _ => none }
def FilesApartWrongFalsely : Prop := filesApartRow.holds Try.pinned (OpenSpec.ofChange filesApartWrong)

/-- 'tincturelaw11.FilesWhole': WHATEVER THE INPUT: true; the input reads as it did. -/
def filesWholeSpec : ChangeSpec := { name := "filesWhole", fn := fun _ => fun
  | [d1, d2, d3] => { results := [.lit (.bool true)], args := [d1, d2, d3] }
  | _ => none }
def filesWholeRow : OpenClaim := { program := "ytjjhihlmoecmlaa", sum := "6b2cb1271ca934af4d5ea8e41ff471d2922d0e5f51627386993b43e54da3b67a", func := "tincture/tincturelaw11.FilesWhole", spec := "filesWhole", inPlace := ["internal/bytealg.IndexByteString"], unfollowed := true, recurses := true, apart := false }
def FilesWholeSaid : Prop := filesWholeRow.holds Try.pinned (OpenSpec.ofChange filesWholeSpec)

/-- ITS FALSE NEIGHBOUR: 'it returns false'. Refute it at one input. -/
def filesWholeWrong : ChangeSpec := { name := "filesWhole", fn := fun _ => fun
  | [d1, d2, d3] => { results := [.lit (.bool false)], args := [d1, d2, d3] }
  | _ => none }
def FilesWholeWrongFalsely : Prop := filesWholeRow.holds Try.pinned (OpenSpec.ofChange filesWholeWrong)

/-- 'tincturelaw11.FilesNumbers': WHATEVER THE INPUT: true; the input reads as it did. -/
def filesNumbersSpec : ChangeSpec := { name := "filesNumbers", fn := fun _ => fun
  | [d] => { results := [.lit (.bool true)], args := [d] }
  | _ => none }
def filesNumbersRow : OpenClaim := { program := "ytjjhihlmoecmlaa", sum := "6b2cb1271ca934af4d5ea8e41ff471d2922d0e5f51627386993b43e54da3b67a", func := "tincture/tincturelaw11.FilesNumbers", spec := "filesNumbers", inPlace := ["internal/bytealg.IndexByteString"], unfollowed := true, recurses := true, apart := false }
def FilesNumbersSaid : Prop := filesNumbersRow.holds Try.pinned (OpenSpec.ofChange filesNumbersSpec)

/-- ITS FALSE NEIGHBOUR: 'it returns false'. Refute it at one input. -/
def filesNumbersWrong : ChangeSpec := { name := "filesNumbers", fn := fun _ => fun
  | [d] => { results := [.lit (.bool false)], args := [d] }
  | _ => none }
def FilesNumbersWrongFalsely : Prop := filesNumbersRow.holds Try.pinned (OpenSpec.ofChange filesNumbersWrong)

/-- 'tincturelaw11.FilesSeeks': WHATEVER THE INPUT: true; the input reads as it did. -/
def filesSeeksSpec : ChangeSpec := { name := "filesSeeks", fn := fun _ => fun
  | [d1, d2, d3] => { results := [.lit (.bool true)], args := [d1, d2, d3] }
  | _ => none }
def filesSeeksRow : OpenClaim := { program := "ytjjhihlmoecmlaa", sum := "6b2cb1271ca934af4d5ea8e41ff471d2922d0e5f51627386993b43e54da3b67a", func := "tincture/tincturelaw11.FilesSeeks", spec := "filesSeeks", inPlace := ["internal/bytealg.IndexByteString"], unfollowed := true, recurses := true, apart := false }
def FilesSeeksSaid : Prop := filesSeeksRow.holds Try.pinned (OpenSpec.ofChange filesSeeksSpec)

/-- ITS FALSE NEIGHBOUR: 'it returns false'. Refute it at one input. -/
def filesSeeksWrong : ChangeSpec := { name := "filesSeeks", fn := fun _ => fun
  | [d1, d2, d3] => { results := [.lit (.bool false)], args := [d1, d2, d3] }
  | _ => none }
def FilesSeeksWrongFalsely : Prop := filesSeeksRow.holds Try.pinned (OpenSpec.ofChange filesSeeksWrong)

/-- 'tincturelaw9.FeedBytes': WHATEVER THE INPUT: true; the input reads as it did. -/
def feedBytesSpec : ChangeSpec := { name := "feedBytes", fn := fun _ => fun
  | [d1, d2] => { results := [.lit (.bool true)], args := [d1, d2] }
  | _ => none }
def feedBytesRow : OpenClaim := { program := "ytjjhihlmoecmlaa", sum := "6b2cb1271ca934af4d5ea8e41ff471d2922d0e5f51627386993b43e54da3b67a", func := "tincture/tincturelaw9.FeedBytes", spec := "feedBytes", inPlace := ["internal/bytealg.IndexByteString"], unfollowed := true, recurses := true, apart := false }
def FeedBytesSaid : Prop := feedBytesRow.holds Try.pinned (OpenSpec.ofChange feedBytesSpec)

/-- ITS FALSE NEIGHBOUR: 'it returns false'. Refute it at one input. -/
def feedBytesWrong : ChangeSpec := { name := "feedBytes", fn := fun _ => fun
  | [d1, d2] => { results := [.lit (.bool false)], args := [d1, d2] }
  | _ => none }
def FeedBytesWrongFalsely : Prop := feedBytesRow.holds Try.pinned (OpenSpec.ofChange feedBytesWrong)

/-- 'tincturelaw9.FeedBack': WHATEVER THE INPUT: true; the input reads as it did. -/
def feedBackSpec : ChangeSpec := { name := "feedBack", fn := fun _ => fun
  | [d1, d2, d3] => { results := [.lit (.bool true)], args := [d1, d2, d3] }
  | _ => none }
def feedBackRow : OpenClaim := { program := "ytjjhihlmoecmlaa", sum := "6b2cb1271ca934af4d5ea8e41ff471d2922d0e5f51627386993b43e54da3b67a", func := "tincture/tincturelaw9.FeedBack", spec := "feedBack", inPlace := ["internal/bytealg.IndexByteString"], unfollowed := true, recurses := true, apart := false }
def FeedBackSaid : Prop := feedBackRow.holds Try.pinned (OpenSpec.ofChange feedBackSpec)

/-- ITS FALSE NEIGHBOUR: 'it returns false'. Refute it at one input. -/
def feedBackWrong : ChangeSpec := { name := "feedBack", fn := fun _ => fun
  | [d1, d2, d3] => { results := [.lit (.bool false)], args := [d1, d2, d3] }
  | _ => none }
def FeedBackWrongFalsely : Prop := feedBackRow.holds Try.pinned (OpenSpec.ofChange feedBackWrong)

/-- 'tincturelaw11.FilesKnown': WHATEVER THE INPUT: true; the input reads as it did. -/
def filesKnownSpec : ChangeSpec := { name := "filesKnown", fn := fun _ => fun
  | [] => { results := [.lit (.bool true)], args := [] }
  | _ => none }
def filesKnownRow : OpenClaim := { program := "ytjjhihlmoecmlaa", sum := "6b2cb1271ca934af4d5ea8e41ff471d2922d0e5f51627386993b43e54da3b67a", func := "tincture/tincturelaw11.FilesKnown", spec := "filesKnown", inPlace := ["internal/bytealg.IndexByteString"], unfollowed := true, recurses := true, apart := false }
def FilesKnownSaid : Prop := filesKnownRow.holds Try.pinned (OpenSpec.ofChange filesKnownSpec)

/-- ITS FALSE NEIGHBOUR: 'it returns false'. Refute it at one input. -/
def filesKnownWrong : ChangeSpec := { name := "filesKnown", fn := fun _ => fun
  | [] => { results := [.lit (.bool false)], args := [] }
  | _ => none }
def FilesKnownWrongFalsely : Prop := filesKnownRow.holds Try.pinned (OpenSpec.ofChange filesKnownWrong)

/-- 'tincturelaw9.FeedKnown': WHATEVER THE INPUT: true; the input reads as it did. -/
def feedKnownSpec : ChangeSpec := { name := "feedKnown", fn := fun _ => fun
  | [] => { results := [.lit (.bool true)], args := [] }
  | _ => none }
def feedKnownRow : OpenClaim := { program := "ytjjhihlmoecmlaa", sum := "6b2cb1271ca934af4d5ea8e41ff471d2922d0e5f51627386993b43e54da3b67a", func := "tincture/tincturelaw9.FeedKnown", spec := "feedKnown", inPlace := ["internal/bytealg.IndexByteString"], unfollowed := true, recurses := true, apart := false }
def FeedKnownSaid : Prop := feedKnownRow.holds Try.pinned (OpenSpec.ofChange feedKnownSpec)

/-- ITS FALSE NEIGHBOUR: 'it returns false'. Refute it at one input. -/
def feedKnownWrong : ChangeSpec := { name := "feedKnown", fn := fun _ => fun
  | [] => { results := [.lit (.bool false)], args := [] }
  | _ => none }
def FeedKnownWrongFalsely : Prop := feedKnownRow.holds Try.pinned (OpenSpec.ofChange feedKnownWrong)

/-- 'tincturelaw11.FilesPlays': WHATEVER THE INPUT: true; the input reads as it did. -/
def filesPlaysSpec : ChangeSpec := { name := "filesPlays", fn := fun _ => fun
  | [d1, d2] => { results := [.lit (.bool true)], args := [d1, d2] }
  | _ => none }
def filesPlaysRow : OpenClaim := { program := "ytjjhihlmoecmlaa", sum := "6b2cb1271ca934af4d5ea8e41ff471d2922d0e5f51627386993b43e54da3b67a", func := "tincture/tincturelaw11.FilesPlays", spec := "filesPlays", inPlace := ["internal/bytealg.IndexByteString", "maps.clone"], unfollowed := true, recurses := true, apart := false }
def FilesPlaysSaid : Prop := filesPlaysRow.holds Try.pinned (OpenSpec.ofChange filesPlaysSpec)

/-- ITS FALSE NEIGHBOUR: 'it returns false'. Refute it at one input. -/
def filesPlaysWrong : ChangeSpec := { name := "filesPlays", fn := fun _ => fun
  | [d1, d2] => { results := [.lit (.bool false)], args := [d1, d2] }
  | _ => none }
def FilesPlaysWrongFalsely : Prop := filesPlaysRow.holds Try.pinned (OpenSpec.ofChange filesPlaysWrong)

/- THE SECOND FORM. 'bulk': how many values and letters a reading holds, each counted each time it is reached (what is shared counts as often as it is met; a slice's spare places count too). A statement '..UptoSaid' is the law's where the arguments, and the package variables that the reading takes, are together of bulk at most 1048576: NARROWER than '..Said'. Prove '..Said' where nothing that the law and all that it calls make is longer than what came in: it says more and counts as full. Else prove '..UptoSaid'. A law counts once. -/
mutual
def uptoBulk {H : Type} : DataW H → Nat
  | .lit (.string bytes) => bytes.length + 1
  | .lit _ => 1
  | .nil => 1
  | .ptr d => uptoBulk d + 1
  | .slice elems spare => uptoBulkAll elems + uptoBulkAll spare + 1
  | .agg parts => uptoBulkAll parts + 1
  | .iface _ d => uptoBulk d + 1
  | .map entries => uptoBulkEntries entries + 1
  | .held _ => 1
def uptoBulkAll {H : Type} : List (DataW H) → Nat
  | [] => 0
  | d :: r => uptoBulk d + uptoBulkAll r
def uptoBulkEntries {H : Type} : List (Lit × DataW H) → Nat
  | [] => 0
  | x :: r => uptoBulkEntry x + uptoBulkEntries r
def uptoBulkEntry {H : Type} : Lit × DataW H → Nat
  | (.string bytes, d) => bytes.length + uptoBulk d + 1
  | (_, d) => uptoBulk d + 1
 end
def uptoSmall : (H : Type) → List (DataW H) → Bool := fun _ ds => decide (uptoBulkAll ds ≤ 1048576)
def OpenSpec.upto (s : _root_.Go.ChangeSpec) : _root_.Go.OpenSpec := { _root_.Go.OpenSpec.ofChange s with cond := some uptoSmall }

/-- 'tincturelaw9.FeedTakes', WHERE WHAT IT READS IS OF BULK AT MOST 1048576: true; the input reads as it did. -/
def feedTakesUptoRow : OpenClaim := { program := "ytjjhihlmoecmlaa", sum := "6b2cb1271ca934af4d5ea8e41ff471d2922d0e5f51627386993b43e54da3b67a", func := "tincture/tincturelaw9.FeedTakes", spec := "feedTakes", inPlace := ["internal/bytealg.IndexByteString"], unfollowed := true, recurses := true, apart := false, narrowed := true }
def FeedTakesUptoSaid : Prop := feedTakesUptoRow.holds Try.pinned (OpenSpec.upto feedTakesSpec)

/-- 'tincturelaw9.FeedParts', WHERE WHAT IT READS IS OF BULK AT MOST 1048576: true; the input reads as it did. -/
def feedPartsUptoRow : OpenClaim := { program := "ytjjhihlmoecmlaa", sum := "6b2cb1271ca934af4d5ea8e41ff471d2922d0e5f51627386993b43e54da3b67a", func := "tincture/tincturelaw9.FeedParts", spec := "feedParts", inPlace := ["internal/bytealg.IndexByteString"], unfollowed := true, recurses := true, apart := false, narrowed := true }
def FeedPartsUptoSaid : Prop := feedPartsUptoRow.holds Try.pinned (OpenSpec.upto feedPartsSpec)

/-- 'tincturelaw9.FeedPlays', WHERE WHAT IT READS IS OF BULK AT MOST 1048576: true; the input reads as it did. -/
def feedPlaysUptoRow : OpenClaim := { program := "ytjjhihlmoecmlaa", sum := "6b2cb1271ca934af4d5ea8e41ff471d2922d0e5f51627386993b43e54da3b67a", func := "tincture/tincturelaw9.FeedPlays", spec := "feedPlays", inPlace := ["internal/bytealg.IndexByteString"], unfollowed := true, recurses := true, apart := false, narrowed := true }
def FeedPlaysUptoSaid : Prop := feedPlaysUptoRow.holds Try.pinned (OpenSpec.upto feedPlaysSpec)

/-- 'tincturelaw11.FilesApart', WHERE WHAT IT READS IS OF BULK AT MOST 1048576: true; the input reads as it did. -/
def filesApartUptoRow : OpenClaim := { program := "ytjjhihlmoecmlaa", sum := "6b2cb1271ca934af4d5ea8e41ff471d2922d0e5f51627386993b43e54da3b67a", func := "tincture/tincturelaw11.FilesApart", spec := "filesApart", inPlace := ["internal/bytealg.IndexByteString", "maps.clone"], unfollowed := true, recurses := true, apart := false, narrowed := true }
def FilesApartUptoSaid : Prop := filesApartUptoRow.holds Try.pinned (OpenSpec.upto filesApartSpec)

/-- 'tincturelaw11.FilesWhole', WHERE WHAT IT READS IS OF BULK AT MOST 1048576: true; the input reads as it did. -/
def filesWholeUptoRow : OpenClaim := { program := "ytjjhihlmoecmlaa", sum := "6b2cb1271ca934af4d5ea8e41ff471d2922d0e5f51627386993b43e54da3b67a", func := "tincture/tincturelaw11.FilesWhole", spec := "filesWhole", inPlace := ["internal/bytealg.IndexByteString"], unfollowed := true, recurses := true, apart := false, narrowed := true }
def FilesWholeUptoSaid : Prop := filesWholeUptoRow.holds Try.pinned (OpenSpec.upto filesWholeSpec)

/-- 'tincturelaw11.FilesNumbers', WHERE WHAT IT READS IS OF BULK AT MOST 1048576: true; the input reads as it did. -/
def filesNumbersUptoRow : OpenClaim := { program := "ytjjhihlmoecmlaa", sum := "6b2cb1271ca934af4d5ea8e41ff471d2922d0e5f51627386993b43e54da3b67a", func := "tincture/tincturelaw11.FilesNumbers", spec := "filesNumbers", inPlace := ["internal/bytealg.IndexByteString"], unfollowed := true, recurses := true, apart := false, narrowed := true }
def FilesNumbersUptoSaid : Prop := filesNumbersUptoRow.holds Try.pinned (OpenSpec.upto filesNumbersSpec)

/-- 'tincturelaw11.FilesSeeks', WHERE WHAT IT READS IS OF BULK AT MOST 1048576: true; the input reads as it did. -/
def filesSeeksUptoRow : OpenClaim := { program := "ytjjhihlmoecmlaa", sum := "6b2cb1271ca934af4d5ea8e41ff471d2922d0e5f51627386993b43e54da3b67a", func := "tincture/tincturelaw11.FilesSeeks", spec := "filesSeeks", inPlace := ["internal/bytealg.IndexByteString"], unfollowed := true, recurses := true, apart := false, narrowed := true }
def FilesSeeksUptoSaid : Prop := filesSeeksUptoRow.holds Try.pinned (OpenSpec.upto filesSeeksSpec)

/-- 'tincturelaw9.FeedBytes', WHERE WHAT IT READS IS OF BULK AT MOST 1048576: true; the input reads as it did. -/
def feedBytesUptoRow : OpenClaim := { program := "ytjjhihlmoecmlaa", sum := "6b2cb1271ca934af4d5ea8e41ff471d2922d0e5f51627386993b43e54da3b67a", func := "tincture/tincturelaw9.FeedBytes", spec := "feedBytes", inPlace := ["internal/bytealg.IndexByteString"], unfollowed := true, recurses := true, apart := false, narrowed := true }
def FeedBytesUptoSaid : Prop := feedBytesUptoRow.holds Try.pinned (OpenSpec.upto feedBytesSpec)

/-- 'tincturelaw9.FeedBack', WHERE WHAT IT READS IS OF BULK AT MOST 1048576: true; the input reads as it did. -/
def feedBackUptoRow : OpenClaim := { program := "ytjjhihlmoecmlaa", sum := "6b2cb1271ca934af4d5ea8e41ff471d2922d0e5f51627386993b43e54da3b67a", func := "tincture/tincturelaw9.FeedBack", spec := "feedBack", inPlace := ["internal/bytealg.IndexByteString"], unfollowed := true, recurses := true, apart := false, narrowed := true }
def FeedBackUptoSaid : Prop := feedBackUptoRow.holds Try.pinned (OpenSpec.upto feedBackSpec)

/-- 'tincturelaw11.FilesKnown', WHERE WHAT IT READS IS OF BULK AT MOST 1048576: true; the input reads as it did. -/
def filesKnownUptoRow : OpenClaim := { program := "ytjjhihlmoecmlaa", sum := "6b2cb1271ca934af4d5ea8e41ff471d2922d0e5f51627386993b43e54da3b67a", func := "tincture/tincturelaw11.FilesKnown", spec := "filesKnown", inPlace := ["internal/bytealg.IndexByteString"], unfollowed := true, recurses := true, apart := false, narrowed := true }
def FilesKnownUptoSaid : Prop := filesKnownUptoRow.holds Try.pinned (OpenSpec.upto filesKnownSpec)

/-- 'tincturelaw9.FeedKnown', WHERE WHAT IT READS IS OF BULK AT MOST 1048576: true; the input reads as it did. -/
def feedKnownUptoRow : OpenClaim := { program := "ytjjhihlmoecmlaa", sum := "6b2cb1271ca934af4d5ea8e41ff471d2922d0e5f51627386993b43e54da3b67a", func := "tincture/tincturelaw9.FeedKnown", spec := "feedKnown", inPlace := ["internal/bytealg.IndexByteString"], unfollowed := true, recurses := true, apart := false, narrowed := true }
def FeedKnownUptoSaid : Prop := feedKnownUptoRow.holds Try.pinned (OpenSpec.upto feedKnownSpec)

/-- 'tincturelaw11.FilesPlays', WHERE WHAT IT READS IS OF BULK AT MOST 1048576: true; the input reads as it did. -/
def filesPlaysUptoRow : OpenClaim := { program := "ytjjhihlmoecmlaa", sum := "6b2cb1271ca934af4d5ea8e41ff471d2922d0e5f51627386993b43e54da3b67a", func := "tincture/tincturelaw11.FilesPlays", spec := "filesPlays", inPlace := ["internal/bytealg.IndexByteString", "maps.clone"], unfollowed := true, recurses := true, apart := false, narrowed := true }
def FilesPlaysUptoSaid : Prop := filesPlaysUptoRow.holds Try.pinned (OpenSpec.upto filesPlaysSpec)

end Rows
end Go.Proofs.Ytjjhihlmoecmlaa
