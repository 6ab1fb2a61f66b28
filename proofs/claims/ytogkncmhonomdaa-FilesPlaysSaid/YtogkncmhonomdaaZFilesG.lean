import Derived.Test.YtogkncmhonomdaaZFilesF
set_option linter.unusedVariables false
set_option linter.unusedSimpArgs false
set_option maxRecDepth 100000
namespace Go.Proofs.Ytogkncmhonomdaa
open Go
def FeedG.ofFile (sh : Sl Int) (b : Nat) (name : ByteArray) (s : Sl UInt8) : FeedG := ⟨⟨none, 0, []⟩, ⟨none, 0, []⟩, sh, ⟨none, 0, []⟩, ⟨none, 0, []⟩, ⟨some ⟨b, 0, none⟩, 1, [⟨name, s⟩]⟩⟩
theorem RdFeed.ofFile {sh : Sl Int} {b : Nat} {name : ByteArray} {s : Sl UInt8} {h : Hp} (r0 : RdI .i64 sh h) (r1 : RdS 2 (some ⟨b, 0, none⟩) 1 1 [.string name, s.v] h) (r2 : RdB s h) : RdFeed (FeedG.ofFile sh b name s) h :=
  ⟨RdS.nil 1 h, RdS.nil 1 h, r0, RdS.nil 1 h, RdS.nil 1 h, ⟨r1, fun f hf => by
    have hf : f ∈ [FileG.mk name s] := hf
    rw [List.mem_singleton] at hf; subst hf; exact r2⟩⟩
def oneP (sh : List Int) (name data : Bytes) : FilesP := { all := [(name, data)], use := ⟨sh, [], [], 0, 0, 0⟩, op := [(0, ⟨[], 0, false⟩), (1, ⟨[], 0, true⟩), (2, ⟨[], 0, true⟩)], out := [] }
def withP (sh : List Int) (name data : Bytes) (k : Nat) (a : Nat) : FilesP := { all := [(name, data)], use := ⟨sh, [], [], k, 0, 0⟩, op := [(0, ⟨[], 0, false⟩), (1, ⟨[], 0, true⟩), (2, ⟨[], 0, true⟩), (3, ⟨data, a, false⟩)], out := [] }
end Go.Proofs.Ytogkncmhonomdaa
