import Derived.Test.YtkjeidoplonkjaaZRvC
import Derived.Test.YtkjeidoplonkjaaZComX
import Derived.Test.YtkjeidoplonkjaaZMemX2
set_option linter.unusedVariables false
set_option linter.unusedSimpArgs false
set_option maxRecDepth 100000
namespace Go.Proofs.Ytkjeidoplonkjaa
open Go
def wordsB (l : List Int) : Bytes := l.flatMap fun x => leB x.toNat 4
theorem wordsB_len (l : List Int) : (wordsB l).length = 4 * l.length := by
  induction l with
  | nil => rfl
  | cons x l ih =>
    have : wordsB (x :: l) = leB x.toNat 4 ++ wordsB l := rfl
    rw [this, List.length_append, ih, leB_length, List.length_cons]; omega
theorem wordsB_snoc {xs : List Int} {i m : Nat} (hi : i < xs.length) (hm : xs[i] = (m : Int)) : wordsB (xs.take (i + 1)) = wordsB (xs.take i) ++ leB m 4 := by
  rw [← List.take_append_getElem hi, hm]
  unfold wordsB
  rw [List.flatMap_append]
  simp
def map3 : MemG := (mapM (mapM (mapM (newM 50) 4096 256 5).2 65536 256 3).2 65792 256 1).2
def madeM (xs : List Int) : MemG := (writeM (writeM map3 4096 (wordsB (xs.take 64)) 65536 0).2 65536 [] 65536 0).2
end Go.Proofs.Ytkjeidoplonkjaa
