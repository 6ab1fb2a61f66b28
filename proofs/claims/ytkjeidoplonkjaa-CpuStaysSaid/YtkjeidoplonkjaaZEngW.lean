import Derived.Test.YtkjeidoplonkjaaZEngY
set_option linter.unusedVariables false
set_option linter.unusedSimpArgs false
namespace Go.Proofs.Ytkjeidoplonkjaa
open Go
section
variable {P : Program} {n : Nat} {cx : Cx} {ρ : Hp} {E : Env} {L : Own} {o : Oper} {ops : Array Oper} {Q : Exit → Act → World → Prop} {S' : World → Prop} {π : List (Nat × Bool)} {i : Nat} {v : Value}
theorem SetC.pt {b off : Nat} {cs cs' : Array Value} {T : TypeId} {fr : Nat × Nat} (hlt : off < cs.size) (hnf : noFr fr off) (hc : cs.setIfInBounds off v = cs') : SetC (Pt b (.cells cs T fr)) (Pt b (.cells cs' T fr)) b off v := fun h hh => by
  subst hc
  exact ⟨cs, T, fr, hh, hlt, hnf, by unfold Pt Hp.upd; rw [if_pos rfl]⟩
end
end Go.Proofs.Ytkjeidoplonkjaa
