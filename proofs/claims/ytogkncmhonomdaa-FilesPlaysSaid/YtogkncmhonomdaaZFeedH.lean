import Derived.Test.YtogkncmhonomdaaZFeedG
import Derived.Test.YtogkncmhonomdaaZComX
set_option linter.unusedVariables false
set_option linter.unusedSimpArgs false
set_option maxRecDepth 100000
namespace Go.Proofs.Ytogkncmhonomdaa
open Go
theorem good_n1 {f : FeedP} (h : 16 < f.args.length) : good f = false := good_bad (.inr (.inr (.inr (.inr (.inr (.inl (by
  have : ¬ f.args.length ≤ 16 := by omega
  simp [goodArgs, this])))))))
theorem good_n6 {f : FeedP} (h : 8 < f.files.length) : good f = false := good_bad (.inr (.inr (.inr (.inr (.inr (.inr (by
  have : ¬ f.files.length ≤ 8 := by omega
  simp [goodFiles, this])))))))
theorem good_arg {f : FeedP} {k : Nat} {s : Bytes} (h : f.args[k]? = some s) (hb : goodArg s = false) : good f = false := good_bad (.inr (.inr (.inr (.inr (.inr (.inl (goodArgs_bad h hb)))))))
theorem good_short {f : FeedP} {k : Nat} {x : Int} (h : f.short[k]? = some x) (hb : goodShort x = false) : good f = false := good_bad (.inl (by
  rw [Bool.eq_false_iff, ne_eq, List.all_eq_true]
  intro ha
  rw [ha x (List.mem_of_getElem? h)] at hb; cases hb))
theorem good_file {f : FeedP} {k : Nat} (hk : k < f.files.length) (hb : okAt f.files k = false) : good f = false := good_bad (.inr (.inr (.inr (.inr (.inr (.inr (goodFiles_bad hk hb)))))))
end Go.Proofs.Ytogkncmhonomdaa
