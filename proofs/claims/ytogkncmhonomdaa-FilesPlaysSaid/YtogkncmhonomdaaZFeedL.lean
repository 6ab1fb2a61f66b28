import Derived.Test.YtogkncmhonomdaaZFeedJ
set_option linter.unusedVariables false
set_option linter.unusedSimpArgs false
set_option maxRecDepth 100000
namespace Go.Proofs.Ytogkncmhonomdaa
open Go
def pad (r : Bytes) (n : Nat) : Bytes := r.take n ++ List.replicate (n - r.length) 0
def FeedG.ofRandom (s : Sl UInt8) : FeedG := ⟨⟨none, 0, []⟩, ⟨none, 0, []⟩, ⟨none, 0, []⟩, s, ⟨none, 0, []⟩, ⟨none, 0, []⟩⟩
theorem RdFeed.ofRandom {s : Sl UInt8} {h : Hp} (r : RdB s h) : RdFeed (FeedG.ofRandom s) h := ⟨RdS.nil 1 h, RdS.nil 1 h, RdS.nil 1 h, r, RdS.nil 1 h, RdS.nil 2 h, by simp [FeedG.ofRandom]⟩
end Go.Proofs.Ytogkncmhonomdaa
