import Derived.Test.YtkjeidoplonkjaaZShA
import Derived.Test.YtkjeidoplonkjaaZEngW
import Derived.Test.YtkjeidoplonkjaaZMemX1
set_option linter.unusedVariables false
set_option linter.unusedSimpArgs false
set_option maxRecDepth 100000
namespace Go.Proofs.Ytkjeidoplonkjaa
open Go
structure ShX where
  pb : Nat
  pm : MapL
  blk : Nat → Nat
def shPtr (blk : Nat → Nat) (k : Nat) : Value := .pointer (some ⟨blk k, 0, none⟩)
def pmOf (l : List (Nat × Pg)) (blk : Nat → Nat) : MapL := l.map fun p => ((p.1 : Int), shPtr blk p.1)
structure ShF (S : ShG) (x : ShX) : Prop where
  ok : ShOk S.pages
  room : S.pages.length ≤ S.budget
  budget : S.budget ≤ 4096
  pages : x.pm.Perm (pmOf S.pages x.blk)
def shPgO (p : Pg) : Obj := .cells (pageCells p).toArray 135
def shObj (S : ShG) (x : ShX) : Obj := .cells #[.int .i64 S.budget, .map (some x.pb)] 132
def shBlks (l : List (Nat × Pg)) (blk : Nat → Nat) : List (Nat × Obj) := l.map fun p => (blk p.1, shPgO p.2)
def ShO (b : Nat) (S : ShG) : HProp := Ex fun x : ShX => Fact (ShF S x) (Sep (Pt b (shObj S x)) (Sep (MapO .u32 x.pb x.pm) (Blks (shBlks S.pages x.blk))))
theorem pmOf_nodup {l : List (Nat × Pg)} (h : (l.map (·.1)).Nodup) (blk : Nat → Nat) : ((pmOf l blk).map (·.1)).Nodup := by
  unfold pmOf
  rw [List.map_map]
  have e : ((fun x => x.1) ∘ fun p : Nat × Pg => ((p.1 : Int), shPtr blk p.1)) = (fun k : Nat => (k : Int)) ∘ fun p => p.1 := rfl
  rw [e, ← List.map_map]
  rw [List.Nodup, List.pairwise_map]
  exact h.imp fun h => by omega
theorem pm_get {l : List (Nat × Pg)} {pm : MapL} {blk : Nat → Nat} (hn : (l.map (·.1)).Nodup) (hp : pm.Perm (pmOf l blk)) (k : Nat) : mget pm (k : Int) = (getPg l k).map fun _ => shPtr blk k := by
  rw [mget_perm hp (pmOf_nodup hn blk)]
  exact mget_pages (shPtr blk) k
theorem ShF.get {S : ShG} {x : ShX} (f : ShF S x) (k : Nat) : mget x.pm (k : Int) = (getPg S.pages k).map fun _ => shPtr x.blk k := pm_get f.ok.rising.nodup f.pages k
section
variable {P : Program} {n : Nat} {cx : Cx} {ρ : Hp} {E : Env} {L : Own} {ops : Array Oper} {Q : Exit → Act → World → Prop} {S' : World → Prop} {π : List (Nat × Bool)}
end
def partP (p a e : Nat) : Nat × Nat := if min (p + 256) e ≤ max p a then (0, 0) else (max p a - p, min (p + 256) e - p)
end Go.Proofs.Ytkjeidoplonkjaa
