import Derived.Test.YtogkncmhonomdaaZEngY
set_option linter.unusedVariables false
set_option linter.unusedSimpArgs false
namespace Go.Proofs.Ytogkncmhonomdaa
open Go
section
variable {P : Program} {n : Nat} {cx : Cx} {ρ : Hp} {E : Env} {L : Own} {ops : Array Oper} {Q : Exit → Act → World → Prop} {S' : World → Prop} {π : List (Nat × Bool)}
theorem Jp.joinR {r : Code} {K : Act → World → Prop} {Q'' : Exit → Act → World → Prop} {G : Type} (φ : G → Prop) (ro : G → Hp) (Ev : G → Env) (Ek : Env) (hEk : Subl Ek E) (Lv : G → Own) (Lk : Own) (hLk : Subl Lk L) (hK : ∀ a w, r.wp P Q'' a w → K a w)
    (main : ∀ g, φ g → Cd P Q'' n cx (ro g) (Ev g ++ Ek) (Lv g ++ Lk) r) (rest : (∀ g, φ g → Cd P Q'' n cx (ro g) (Ev g ++ Ek) (Lv g ++ Lk) r) → Jp P ops Q S' n cx π ρ E L) : Jp P ops Q S' n cx π ρ E L := rest main
theorem Cd.joinR {r d : Code} {K : Act → World → Prop} {Q'' : Exit → Act → World → Prop} {G : Type} (φ : G → Prop) (ro : G → Hp) (Ev : G → Env) (Ek : Env) (hEk : Subl Ek E) (Lv : G → Own) (Lk : Own) (hLk : Subl Lk L) (hK : ∀ a w, r.wp P Q'' a w → K a w)
    (main : ∀ g, φ g → Cd P Q'' n cx (ro g) (Ev g ++ Ek) (Lv g ++ Lk) r) (rest : (∀ g, φ g → Cd P Q'' n cx (ro g) (Ev g ++ Ek) (Lv g ++ Lk) r) → Cd P Q n cx ρ E L d) : Cd P Q n cx ρ E L d := rest main
end
end Go.Proofs.Ytogkncmhonomdaa
