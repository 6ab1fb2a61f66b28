import Derived.Test.YtkjeidoplonkjaaZEngY
set_option linter.unusedVariables false
set_option linter.unusedSimpArgs false
namespace Go.Proofs.Ytkjeidoplonkjaa
open Go
inductive PT where
  | nil : PT
  | q (i : Nat) (t : PT) : PT
  | l (i : Nat) (t : PT) : PT
  | f (i : Nat) (tA : PT) (j : Nat) (tB : PT) : PT
def PT.len : PT → Nat
  | .nil => 0
  | .q _ t => t.len + 1
  | .l _ t => t.len + 1
  | .f _ tA _ _ => tA.len + 1
def PT.isNil : PT → Bool
  | .nil => true
  | _ => false
def PT.last (x : Nat) : PT → Bool
  | .nil => true
  | .q _ t => t.last x
  | .l i t => (!t.isNil || i == x) && t.last x
  | .f _ tA _ tB => !tA.isNil && !tB.isNil && tA.last x && tB.last x
def okPT (ops : Array Oper) : PT → Array Bool → Bool
  | .nil, listed => (Region.ready .any ops listed).isEmpty
  | .q i t, listed => Region.free .any ops listed i && (Region.ready .any ops listed).contains i && okPT ops t (listed.setIfInBounds i true)
  | .l i t, listed => (Region.ready .any ops listed == [i]) && okPT ops t (listed.setIfInBounds i true)
  | .f i tA j tB, listed => (Region.ready .any ops listed == [i, j]) && (tA.len == tB.len) && okPT ops tA (listed.setIfInBounds i true) && okPT ops tB (listed.setIfInBounds j true)
def okRegionT (ops : Array Oper) (x : Nat) (t : PT) : Bool :=
  Region.noSelect ops && (t.len == ops.size) && waitsAll ops x && t.last x && okPT ops t (Array.replicate ops.size false)
def wpPT (P : Program) (ops : Array Oper) (N : Act → World → Prop) : (World → Prop) → PT → Act → World → Prop
  | _, .nil, a, w => N a w
  | S, .q i t, a, w => ∃ S' : World → Prop, (∀ w, S' w → S w) ∧ (S w → S' w) ∧ ∃ o v, ops[i]? = some o ∧ YieldsIf P ops S' o v a ∧ wpPT P ops N S' t (a.put o.dst v) w
  | S, .l i t, a, w => wpOp P ops (Qn N) i (fun a' w' => (t = .nil ∨ S w') ∧ wpPT P ops N S t a' w') a w
  | S, .f i tA j tB, a, w => wpOp P ops (Qn N) i (fun a' w' => (tA = .nil ∨ S w') ∧ wpPT P ops N S tA a' w') a w ∧ wpOp P ops (Qn N) j (fun a' w' => (tB = .nil ∨ S w') ∧ wpPT P ops N S tB a' w') a w
section
variable {P : Program} {ops : Array Oper} {N : Act → World → Prop}
end
def JT (P : Program) (ops : Array Oper) (Q : Exit → Act → World → Prop) (S : World → Prop) (n : Nat) (cx : Cx) (t : PT) (ρ : Hp) (E : Env) (L : Own) : Prop :=
  ∀ a w, At n E a → St cx ρ L w → wpPT P ops (Q .normal) S t a w
def tailT (P : Program) (ops : Array Oper) (Q : Exit → Act → World → Prop) (S : World → Prop) (t : PT) : Exit → Act → World → Prop
  | .normal, a, w => (t = .nil ∨ S w) ∧ wpPT P ops (Q .normal) S t a w
  | _, _, _ => False
section
variable {P : Program} {Q : Exit → Act → World → Prop} {n : Nat} {cx : Cx} {ρ ρs : Hp} {E : Env} {L Ls : Own} {ops : Array Oper} {S : World → Prop} {t tA tB : PT} {i j : Nat} {o : Oper} {v : Value}
theorem JT.q (d : Nat) (hi : nth ops.toList i = some o) (hw : Want n ops E o true) (he : o.dst = some d) (hd : Nat.blt d n = true) (hy : Y P n cx ρs E Ls o v)
    (h : JT P ops Q (fun w => St cx ρs Ls w) n cx t ρ ((d, v) :: E) L) : JT P ops Q (fun w => St cx ρs Ls w) n cx (.q i t) ρ E L :=
  fun a w ha hs => ⟨_, fun _ h => h, id, o, v, nth_arr hi, .inl ⟨hw a ha, fun w' h' => hy a w' ha h'⟩, h _ _ (ha.put' he hd v) hs⟩
theorem JT.qskip (d : Nat) (hi : nth ops.toList i = some o) (hw : Want n ops E o false) (he : o.dst = some d) (hd : Nat.blt d n = true)
    (h : JT P ops Q S n cx t ρ ((d, undef) :: E) L) : JT P ops Q S n cx (.q i t) ρ E L :=
  fun a w ha hs => ⟨S, fun _ h => h, id, o, undef, nth_arr hi, .inr ⟨hw a ha, rfl⟩, h _ _ (ha.put' he hd undef) hs⟩
theorem loudT (h : Jp P ops (tailT P ops Q S t) (fun _ => True) n cx [(i, false)] ρ E L) : ∀ a w, At n E a → St cx ρ L w → wpOp P ops (Qn (Q .normal)) i (fun a' w' => (t = .nil ∨ S w') ∧ wpPT P ops (Q .normal) S t a' w') a w := fun a w ha hs =>
  wpOp_mono (K := fun a' w' => ([] = ([] : List (Nat × Bool)) ∨ True) ∧ ((t = .nil ∨ S w') ∧ wpPT P ops (Q .normal) S t a' w')) (fun a' w' h' => h'.2) (wpOp_qn (h a w ha hs))
theorem JT.loud (h : Jp P ops (tailT P ops Q S t) (fun _ => True) n cx [(i, false)] ρ E L) : JT P ops Q S n cx (.l i t) ρ E L := loudT h
theorem JT.tail (hk : t = .nil ∨ ∀ w, St cx ρ L w → S w) (h : JT P ops Q S n cx t ρ E L) : Jp P ops (tailT P ops Q S t) (fun _ => True) n cx [] ρ E L := fun a w ha hs => ⟨hk.imp id fun f => f w hs, h a w ha hs⟩
theorem JT.nil (h : Jp P ops Q (fun _ => True) n cx [] ρ E L) : JT P ops Q S n cx .nil ρ E L := h
theorem JT.split {c : Bool} (k : Nat) (ht : look E k = some (.bool c)) (h1 : c = true → JT P ops Q S n cx t ρ ((k, .bool true) :: E) L) (h2 : c = false → JT P ops Q S n cx t ρ ((k, .bool false) :: E) L) : JT P ops Q S n cx t ρ E L := by
  cases c
  · exact fun a w ha hs => h2 rfl a w ⟨ha.defers, ha.size, fun j v e => put_slot ha ht e⟩ hs
  · exact fun a w ha hs => h1 rfl a w ⟨ha.defers, ha.size, fun j v e => put_slot ha ht e⟩ hs
theorem JT.slot {u u' : Value} (k : Nat) (ht : look E k = some u) (e : u = u') (h : JT P ops Q S n cx t ρ ((k, u') :: E) L) : JT P ops Q S n cx t ρ E L := by
  subst e
  exact fun a w ha hs => h a w ⟨ha.defers, ha.size, fun j v e => put_slot ha ht e⟩ hs
theorem JT.imp {A A' : HProp} (e : look L j = Option.some A) (f : ∀ k, A k → A' k) (h : JT P ops Q S n cx t ρ E ((j, A') :: L)) : JT P ops Q S n cx t ρ E L := fun a w ha hs => h a w ha (hs.imp e f)
theorem KT.st (hs : Subl Ls L) : t = .nil ∨ ∀ w, St cx ρ L w → St cx ρ Ls w := .inr fun _ h => h.sub hs
theorem KT.last {φ : Prop} : PT.nil = .nil ∨ φ := .inl rfl
theorem JT.freeze {A : HProp} (e : look L j = some A) (up : Up A) (h : ∀ ρ', Hp.le ρ ρ' → A ρ' → JT P ops Q S n cx t ρ' E ((j, Emp) :: L)) : JT P ops Q S n cx t ρ E L := fun a w ha hs =>
  let ⟨ρ', hle, hA, h2⟩ := hs.freeze e up; h ρ' hle hA a w ha h2
end
section
variable {P : Program} {n : Nat} {cx : Cx} {ρ : Hp} {E : Env} {L : Own} {ops : Array Oper} {Q : Exit → Act → World → Prop} {S' : World → Prop} {π : List (Nat × Bool)}
theorem St.move {w : World} (hs : St cx ρ L w) {j k : Nat} {A : HProp} (hjk : j ≠ k) (e1 : look L j = some Emp) (e2 : look L k = some A) (up : Up A) : St cx ρ ((j, A) :: (k, Emp) :: L) w :=
  emp_cons ((hs.glue hjk e1 e2).imp (i := j) (A := Sep Emp A) (by rw [look_cons, if_pos rfl]) fun k ⟨h1, h2, _, a2, _, _, l2⟩ => up _ _ l2 a2)
theorem Cd.move {d : Code} (j k : Nat) {A : HProp} (hjk : j ≠ k) (e1 : look L j = some Emp) (e2 : look L k = some A) (up : Up A) (h : Cd P Q n cx ρ E ((j, A) :: (k, Emp) :: L) d) : Cd P Q n cx ρ E L d := fun a w ha hs => h a w ha (hs.move hjk e1 e2 up)
theorem Jp.move (j k : Nat) {A : HProp} (hjk : j ≠ k) (e1 : look L j = some Emp) (e2 : look L k = some A) (up : Up A) (h : Jp P ops Q S' n cx π ρ E ((j, A) :: (k, Emp) :: L)) : Jp P ops Q S' n cx π ρ E L := fun a w ha hs => h a w ha (hs.move hjk e1 e2 up)
end
end Go.Proofs.Ytkjeidoplonkjaa
