import Derived.Test.YtogkncmhonomdaaZFeedI
set_option linter.unusedVariables false
set_option linter.unusedSimpArgs false
set_option maxRecDepth 100000
namespace Go.Proofs.Ytogkncmhonomdaa
open Go
def feed0 : FeedG := ⟨⟨none, 0, []⟩, ⟨none, 0, []⟩, ⟨none, 0, []⟩, ⟨none, 0, []⟩, ⟨none, 0, []⟩, ⟨none, 0, []⟩⟩
theorem RdFeed.zero (h : Hp) : RdFeed feed0 h := ⟨RdS.nil 1 h, RdS.nil 1 h, RdS.nil 1 h, RdS.nil 1 h, RdS.nil 1 h, RdS.nil 2 h, by simp [feed0]⟩
def FeedG.ofShort (s : Sl Int) : FeedG := ⟨⟨none, 0, []⟩, ⟨none, 0, []⟩, s, ⟨none, 0, []⟩, ⟨none, 0, []⟩, ⟨none, 0, []⟩⟩
theorem RdFeed.ofShort {s : Sl Int} {h : Hp} (r : RdI .i64 s h) : RdFeed (FeedG.ofShort s) h := ⟨RdS.nil 1 h, RdS.nil 1 h, r, RdS.nil 1 h, RdS.nil 1 h, RdS.nil 2 h, by simp [FeedG.ofShort]⟩
def takesP (u : UseP) (l : List Int) : Nat → UseP
  | 0 => u
  | k + 1 => (takeP (takesP u l k) (l.getD k 0)).2
end Go.Proofs.Ytogkncmhonomdaa
