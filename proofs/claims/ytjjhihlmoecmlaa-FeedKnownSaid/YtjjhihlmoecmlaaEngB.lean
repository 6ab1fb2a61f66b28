/- The logic's judgements: lists of operations in an order of our choice, code, loops, calls and returns. -/
import Derived.Test.YtjjhihlmoecmlaaEngA
set_option linter.unusedVariables false
set_option linter.unusedSimpArgs false
namespace Go.Proofs.Ytjjhihlmoecmlaa
open Go

/-! ### 5. Frames -/
abbrev Env := List (Nat × Value)
abbrev Own := List (Nat × HProp)
def evE (E : Env) : Operand → Option Value
  | .tmp t => look E t
  | .const v => some v
  | .global g => some (.pointer (some ⟨g, 0, none⟩))
  | .func f => some (.func (.func f) #[] #[])
structure At (n : Nat) (E : Env) (a : Act) : Prop where
  defers : a.defers = []
  size : a.tmps.size = n
  slot : ∀ t v, look E t = some v → a.tmps[t]? = some v
theorem At.ev {n : Nat} {E : Env} {a : Act} (h : At n E a) {x : Operand} {v : Value} (e : evE E x = some v) : a.eval x = v := by
  cases x with
  | tmp t =>
    simp only [evE] at e
    have := h.slot t v e
    simp [Act.eval, this]
  | const u => simp only [evE] at e; injection e
  | global g => simp only [evE] at e; injection e
  | func f => simp only [evE] at e; injection e
theorem At.sub {n : Nat} {E E' : Env} {a : Act} (h : At n E a) (s : Subl E' E) : At n E' a := ⟨h.defers, h.size, fun t v e => h.slot t v (s.look e)⟩
def putE (E : Env) : Option Tmp → Value → Env
  | some d, v => (d, v) :: E
  | none, _ => E
def dstOk (n : Nat) : Option Tmp → Bool
  | some d => Nat.blt d n
  | none => true
theorem At.put {n : Nat} {E : Env} {a : Act} (h : At n E a) {dst : Option Tmp} (hd : dstOk n dst = true) (v : Value) : At n (putE E dst v) (a.put dst v) := by
  cases dst with
  | none => exact h
  | some d =>
    have hdn : d < n := by simpa [dstOk, Nat.blt_eq] using hd
    refine ⟨h.defers, by simp [Act.put, h.size], fun t u e => ?_⟩
    simp only [putE] at e
    rw [look_cons] at e
    simp only [Act.put]
    by_cases ht : d = t
    · subst ht
      simp at e
      subst e
      rw [Array.getElem?_setIfInBounds]
      simp [h.size, hdn]
    · rw [if_neg ht] at e
      rw [Array.getElem?_setIfInBounds_ne ht]
      exact h.slot t u e
/-- Whether a guarded operation is carried out. -/
def Want (n : Nat) (ops : Array Oper) (E : Env) (o : Oper) (b : Bool) : Prop := ∀ a, At n E a → Region.wanted o (yielded ops a.tmps) = b
theorem want_all {n : Nat} {ops : Array Oper} {E : Env} {o : Oper} (h : o.guard = none) : Want n ops E o true := fun _ _ => by simp [Region.wanted, h]
theorem want_as {n : Nat} {ops : Array Oper} {E : Env} {o : Oper} {j t : Nat} {b c d : Bool} (h : o.guard = some (j, b)) (hj : (ops[j]?).bind (·.dst) = some t) (ht : look E t = some (.bool c)) (hd : (c == b) = d) : Want n ops E o d := fun a ha => by
  have := ha.slot t _ ht
  subst hd
  cases b <;> cases c <;> simp [Region.wanted, h, yielded, hj, this]

theorem want_un {n : Nat} {ops : Array Oper} {E : Env} {o : Oper} {j t : Nat} {b : Bool} (h : o.guard = some (j, b)) (hj : (ops[j]?).bind (·.dst) = some t) (ht : look E t = some undef) : Want n ops E o false := fun a ha => by
  have := ha.slot t _ ht
  cases b <;> simp [Region.wanted, h, yielded, hj, this, undef]

/-- The element at a place, by plain steps. -/
def nth {α : Type} : List α → Nat → Option α
  | [], _ => none
  | x :: _, 0 => some x
  | _ :: xs, k + 1 => nth xs k
theorem nth_eq {α : Type} : ∀ (l : List α) (k : Nat), nth l k = l[k]? := by
  intro l
  induction l with
  | nil => intro k; simp [nth]
  | cons x xs ih => intro k; cases k <;> simp [nth, ih]
theorem nth_arr {α : Type} {a : Array α} {k : Nat} {x : α} (h : nth a.toList k = some x) : a[k]? = some x := by
  rw [nth_eq] at h; simpa using h
theorem At.put' {n : Nat} {E : Env} {a : Act} (h : At n E a) {dst : Option Tmp} {d : Nat} (e : dst = some d) (hd : Nat.blt d n = true) (v : Value) : At n ((d, v) :: E) (a.put dst v) := by
  subst e; exact h.put (dst := some d) hd v

/-! ### 6. Operations in an order of our choice -/
/-- Nothing but a normal end. -/
def Qn (N : Act → World → Prop) : Exit → Act → World → Prop
  | .normal, a, w => N a w
  | _, _, _ => False
/-- Each operation by its number; 'true': it yields the same in every world that meets S, and may be taken as early as we like. -/
def wpPi (P : Program) (ops : Array Oper) (N : Act → World → Prop) : (World → Prop) → List (Nat × Bool) → Act → World → Prop
  | _, [], a, w => N a w
  | S, (i, true) :: π, a, w => ∃ S' : World → Prop, (∀ w, S' w → S w) ∧ (S w → S' w) ∧ ∃ o v, ops[i]? = some o ∧ YieldsIf P ops S' o v a ∧ wpPi P ops N S' π (a.put o.dst v) w
  | S, (i, false) :: π, a, w => wpOp P ops (Qn N) i (fun a' w' => (π = [] ∨ S w') ∧ wpPi P ops N S π a' w') a w
/-- Whatever order is picked; S holds behind each operation but the one that waits for all others. -/
def wpL (P : Program) (ops : Array Oper) (Q : Exit → Act → World → Prop) (S : World → Prop) (x : Nat) : Nat → Array Bool → Act → World → Prop
  | 0, listed, a, w => Region.ready .any ops listed = [] ∧ Q .normal a w
  | fuel + 1, listed, a, w => (Region.ready .any ops listed = [] → Q .normal a w) ∧
    ∀ i ∈ Region.ready .any ops listed, wpOp P ops Q i (fun a' w' => (i = x ∨ S w') ∧ wpL P ops Q S x fuel (listed.setIfInBounds i true) a' w') a w
theorem wpL_any {P : Program} {ops : Array Oper} {Q : Exit → Act → World → Prop} {S : World → Prop} {x : Nat} : ∀ (fuel : Nat) (listed : Array Bool) (a : Act) (w : World), wpL P ops Q S x fuel listed a w → wpAny P .any ops Q fuel listed a w
  | 0, _, _, _, h => h
  | fuel + 1, _, _, _, h => And.intro h.1 fun i hi => wpOp_mono (fun a' w' h' => wpL_any fuel _ a' w' h'.2) (h.2 i hi)
theorem wpL_mono {P : Program} {ops : Array Oper} {Q : Exit → Act → World → Prop} {S S' : World → Prop} {x : Nat} (hm : ∀ w, S' w → S w) : ∀ (fuel : Nat) (listed : Array Bool) (a : Act) (w : World), wpL P ops Q S' x fuel listed a w → wpL P ops Q S x fuel listed a w
  | 0, _, _, _, h => h
  | fuel + 1, _, _, _, h => And.intro h.1 fun i hi => wpOp_mono (fun a' w' h' => ⟨h'.1.imp id (hm _), wpL_mono hm fuel _ a' w' h'.2⟩) (h.2 i hi)
/-- Does x wait for i, at once or through others? -/
def cov (ops : Array Oper) : Nat → Nat → Nat → Bool
  | 0, _, _ => false
  | f + 1, x, i => match ops[x]? with
    | some o => o.after.any fun e => Region.binds .any e && (e.on == i || cov ops f e.on i)
    | none => false
/-- Does an operation wait for all others? -/
def waitsAll (ops : Array Oper) (x : Nat) : Bool := decide (ops.size ≤ x) || (List.range ops.size).all fun i => i == x || cov ops 10 x i
/-- Whatever is listed, all that it waits for is listed. -/
def Closed (ops : Array Oper) (listed : Array Bool) : Prop := ∀ j o, ops[j]? = some o → listed.getD j false = true → ∀ e ∈ o.after, Region.binds .any e = true → listed.getD e.on false = true
theorem closed_cov {ops : Array Oper} {listed : Array Bool} (hc : Closed ops listed) : ∀ (f x i : Nat) (o : Oper), ops[x]? = some o → (∀ e ∈ o.after, Region.binds .any e = true → listed.getD e.on false = true) → cov ops f x i = true → listed.getD i false = true := by
  intro f
  induction f with
  | zero => intro x i o ho hp h; simp [cov] at h
  | succ f ih =>
    intro x i o ho hp h
    simp only [cov, ho] at h
    obtain ⟨e, he, hb⟩ := Array.any_eq_true'.1 h
    simp only [Bool.and_eq_true, Bool.or_eq_true, beq_iff_eq] at hb
    have h1 := hp e he hb.1
    rcases hb.2 with q | q
    · rw [← q]; exact h1
    · cases hoe : ops[e.on]? with
      | none => cases f <;> simp [cov, hoe] at q
      | some o' => exact ih e.on i o' hoe (hc e.on o' hoe h1) q
theorem Closed.set {ops : Array Oper} {listed : Array Bool} (hc : Closed ops listed) {i : Nat} (hi : i ∈ Region.ready .any ops listed) : Closed ops (listed.setIfInBounds i true) := by
  obtain ⟨_, o, ho, hall⟩ := mem_ready.1 hi
  intro j o' ho' hl e he hb
  rcases Decidable.em (i = j) with rfl | hij
  · rw [ho] at ho'; injection ho' with ho'; subst ho'; exact getD_set_true (hall e he hb)
  · rw [getD_set_ne false hij] at hl
    exact getD_set_true (hc j o' ho' hl e he hb)
/-- An operation that yields the same in all worlds of S may be carried out first. -/
theorem wpL_first {P : Program} {ops : Array Oper} {Q : Exit → Act → World → Prop} {S : World → Prop} {i x : Nat} {oi : Oper} {v : Value} (hi : ops[i]? = some oi) (hsel : Region.noSelect ops = true) (hx : waitsAll ops x = true) (hQ : ∀ c a w, Q (.panic c) (a.put oi.dst v) w → Q (.panic c) a w) :
    ∀ (fuel : Nat) (listed : Array Bool) (a : Act) (w : World), Closed ops listed →
      (∀ j oj, ops[j]? = some oj → j ≠ i → listed.getD j true = false → (∀ e ∈ oj.after, Region.binds .any e = true → e.on ≠ i) → oi.apart ops oj = true) →
      i ∈ Region.ready .any ops listed → YieldsIf P ops S oi v a → S w → wpL P ops Q S x fuel (listed.setIfInBounds i true) (a.put oi.dst v) w → wpL P ops Q S x (fuel + 1) listed a w := by
  have sel := Region.noSelect_spec hsel
  have hib : i < ops.size := (Array.getElem?_eq_some_iff.1 hi).1
  intro fuel
  induction fuel with
  | zero =>
    intro listed a w _ _ hr hy hS H
    refine ⟨fun h => ?_, fun j hj => ?_⟩
    · rw [h] at hr; cases hr
    rcases Decidable.em (j = i) with rfl | hji
    · exact hy.wpOp hi hS ⟨.inr hS, H⟩
    · have := ready_mono hj hji
      rw [H.1] at this; cases this
  | succ fuel ih =>
    intro listed a w hc hfree hr hy hS H
    refine ⟨fun h => ?_, fun j hj => ?_⟩
    · rw [h] at hr; cases hr
    rcases Decidable.em (j = i) with rfl | hji
    · exact hy.wpOp hi hS ⟨.inr hS, H⟩
    · have h1 := H.2 j (ready_mono hj hji)
      obtain ⟨hjun, oj, hoj, hall⟩ := mem_ready.1 hj
      have hi0 := (mem_ready.1 hr).1
      have hilt : i < listed.size := by
        rcases Nat.lt_or_ge i listed.size with q | q
        · exact q
        · simp [Array.getElem?_eq_none q] at hi0
      have hnot : ∀ e ∈ oj.after, Region.binds .any e = true → e.on ≠ i := fun e he hb heq => by
        have h2 := hall e he hb
        rw [heq] at h2
        simp [hilt] at h2 hi0
        rw [hi0] at h2; cases h2
      have hjx : j ≠ x := by
        intro e
        subst e
        have hjb : j < ops.size := (Array.getElem?_eq_some_iff.1 hoj).1
        simp only [waitsAll, List.all_eq_true, List.mem_range, Bool.or_eq_true, beq_iff_eq, decide_eq_true_eq] at hx
        rcases hx with q | q
        · omega
        · rcases q i hib with q | q
          · exact hji q.symm
          · have h2 := closed_cov hc 10 j i oj hoj hall q
            simp [hilt] at h2 hi0
            rw [hi0] at h2; cases h2
      have h2 := wpOp_putIf hoj (hfree j oj hoj hji hjun hnot) (fun cs b => sel i oi cs b hi) (fun cs b => sel j oj cs b hoj) hQ hy h1
      refine wpOp_mono (fun a' w' h3 => ?_) h2
      obtain ⟨h4, h5, h6⟩ := h3
      have h5 := h5.resolve_left hjx
      refine ⟨.inr h5, ih _ a' w' (hc.set hj) (fun k ok hk hki hun hno => hfree k ok hk hki ?_ hno) (ready_mono hr (Ne.symm hji)) h4 h5 ?_⟩
      · rcases Decidable.em (j = k) with rfl | hjk
        · exact hjun
        · rw [getD_set_ne true hjk] at hun; exact hun
      · rw [Array.setIfInBounds_comm _ _ hji]; exact h6
/-- The last of a list, if it is loud. -/
def lastLoud (ops : Array Oper) : List (Nat × Bool) → Bool
  | [] => true
  | [(x, b)] => b || waitsAll ops x
  | _ :: π => lastLoud ops π
def okPi (ops : Array Oper) : List (Nat × Bool) → Array Bool → Bool
  | [], listed => (Region.ready .any ops listed).isEmpty
  | (i, true) :: π, listed => Region.free .any ops listed i && (Region.ready .any ops listed).contains i && okPi ops π (listed.setIfInBounds i true)
  | (i, false) :: π, listed => (Region.ready .any ops listed == [i]) && okPi ops π (listed.setIfInBounds i true)
def okRegion (ops : Array Oper) (π : List (Nat × Bool)) : Bool := Region.noSelect ops && (π.length == ops.size) && lastLoud ops π && okPi ops π (Array.replicate ops.size false)

section
variable {P : Program} {ops : Array Oper} {N : Act → World → Prop}
theorem lastLoud_ex : ∀ (π : List (Nat × Bool)), lastLoud ops π = true → ∃ x, waitsAll ops x = true ∧ ∀ i, π.getLast? = some (i, false) → i = x := by
  intro π
  induction π with
  | nil => intro _; exact ⟨ops.size, by simp [waitsAll], fun i h => by simp at h⟩
  | cons p π ih =>
    intro h
    cases π with
    | nil =>
      obtain ⟨x, b⟩ := p
      cases b with
      | true => exact ⟨ops.size, by simp [waitsAll], fun i h => by simp at h⟩
      | false => simp only [lastLoud, Bool.false_or] at h; exact ⟨x, h, fun i h => by simp at h; exact h.symm⟩
    | cons q π =>
      obtain ⟨x, h1, h2⟩ := ih h
      exact ⟨x, h1, fun i hi => h2 i (by simpa using hi)⟩
theorem pi_sound (hs : Region.noSelect ops = true) {x : Nat} (hx : waitsAll ops x = true) : ∀ (π : List (Nat × Bool)) (S : World → Prop) (listed : Array Bool) (a : Act) (w : World), (∀ i, π.getLast? = some (i, false) → i = x) → Closed ops listed →
    okPi ops π listed = true → (π = [] ∨ S w) → wpPi P ops N S π a w → wpL P ops (Qn N) S x π.length listed a w := by
  intro π
  induction π with
  | nil =>
    intro S listed a w _ _ h _ hw
    exact ⟨by simpa [okPi] using h, hw⟩
  | cons p π ih =>
    obtain ⟨i, b⟩ := p
    intro S listed a w hl hc h hS hw
    have hSw : S w := by
      rcases hS with q | q
      · cases q
      · exact q
    have hl' : ∀ i, π.getLast? = some (i, false) → i = x := fun k hk => hl k (by
      cases π with
      | nil => simp at hk
      | cons q π => simpa using hk)
    cases b with
    | true =>
      simp only [okPi, Bool.and_eq_true] at h
      obtain ⟨S', hm, hSw', o, v, ho, hy, hk⟩ := hw
      have hSw' := hSw' hSw
      have hmem : i ∈ Region.ready .any ops listed := by simpa using h.1.2
      exact wpL_mono hm _ _ _ _ (wpL_first ho hs hx (fun c a w hc => hc.elim) _ _ _ _ hc (Region.free_spec ho h.1.1) hmem hy hSw' (ih S' _ _ _ hl' (hc.set hmem) h.2 (.inr hSw') hk))
    | false =>
      simp only [okPi, Bool.and_eq_true, beq_iff_eq] at h
      refine ⟨fun h0 => ?_, fun j hj => ?_⟩
      · rw [h.1] at h0; cases h0
      have hc' := hc.set hj
      rw [h.1] at hj
      simp at hj
      subst hj
      refine wpOp_mono (fun a' w' h' => ⟨?_, ih S _ _ _ hl' hc' h.2 h'.1 h'.2⟩) hw
      rcases h'.1 with q | q
      · subst q; exact .inl (hl j (by simp))
      · exact .inr q
theorem qn_mono {Q : Exit → Act → World → Prop} (hN : ∀ a w, N a w → Q .normal a w) : ∀ e a w, Qn N e a w → Q e a w := fun e a w h => by
  cases e <;> first | exact hN a w h | exact h.elim
theorem wpOps_of_pi : ∀ (π : List (Nat × Bool)) (a : Act) (w : World), (∀ p ∈ π, p.2 = false) → wpPi P ops N (fun _ => True) π a w → wpOps P ops (Qn N) (π.map (·.1)) a w := by
  intro π
  induction π with
  | nil => intro a w _ h; exact h
  | cons p π ih =>
    obtain ⟨i, b⟩ := p
    intro a w hf h
    have : b = false := hf (i, b) (List.mem_cons_self ..)
    subst this
    rw [List.map_cons, wpOps_cons]
    exact wpOp_mono (fun a' w' h' => ih _ _ (fun p hp => hf p (List.mem_cons_of_mem _ hp)) h'.2) h
end

theorem wp_loop_by {P : Program} {Q : Exit → Act → World → Prop} {c : Code} (I : Nat → Act → World → Prop) (m : Nat) {a : Act} {w : World} (h₀ : I m a w)
    (round : ∀ m a w, I m a w → c.wp P (Exit.then (fun a' w' => ∃ m', m' < m ∧ I m' a' w') Q) a w) : (Code.loop c).wp P Q a w := by
  intro b k cs
  have key : ∀ m a w, I m a w → ∃ e a' w', Q e a' w' ∧ Arrives P (lone (b.at a (.code c :: .inLoop c :: k)) cs w) b k cs e a' w' := by
    intro m
    induction m using Nat.strongRecOn with
    | _ m ih =>
      intro a w hI
      obtain ⟨e, a₁, w₁, hq, harr⟩ := round m a w hI b (.inLoop c :: k) cs
      cases e with
      | normal =>
        obtain ⟨m', hlt, hI₁⟩ := hq
        obtain ⟨e₂, a₂, w₂, hq₂, harr₂⟩ := ih m' hlt a₁ w₁ hI₁
        exact ⟨e₂, a₂, w₂, hq₂, .of_steps (Steps.trans harr (.one step_inLoop)) harr₂⟩
      | exit id => exact ⟨_, a₁, w₁, hq, .pass (x := .inLoop c) rfl (fun _ _ => .inl (by simp)) harr⟩
      | goto l => exact ⟨_, a₁, w₁, hq, .pass (x := .inLoop c) rfl (fun _ _ => .inl (by simp)) harr⟩
      | ret => exact ⟨_, a₁, w₁, hq, .pass (x := .inLoop c) rfl (fun _ _ => .inl (by simp)) harr⟩
      | panic ch => exact ⟨_, a₁, w₁, hq, .pass (x := .inLoop c) rfl (fun _ _ => .inl (by simp)) harr⟩
      | outgrown => exact ⟨_, a₁, w₁, hq, .pass (x := .inLoop c) rfl (fun _ _ => .inl (by simp)) harr⟩
  obtain ⟨e, a', w', hq, harr⟩ := key m a w h₀
  exact ⟨e, a', w', hq, .of_steps (.one step_loop) harr⟩

/-! ### 7. Judgements -/
/-- Code, from whatever frame and world that agree with what is told. -/
def Cd (P : Program) (Q : Exit → Act → World → Prop) (n : Nat) (cx : Cx) (ρ : Hp) (E : Env) (L : Own) (c : Code) : Prop :=
  ∀ a w, At n E a → St cx ρ L w → c.wp P Q a w
def Jp (P : Program) (ops : Array Oper) (Q : Exit → Act → World → Prop) (S : World → Prop) (n : Nat) (cx : Cx) (π : List (Nat × Bool)) (ρ : Hp) (E : Env) (L : Own) : Prop :=
  ∀ a w, At n E a → St cx ρ L w → wpPi P ops (Q .normal) S π a w
/-- An operation's value, where it turns nothing. -/
def Y (P : Program) (n : Nat) (cx : Cx) (ρ : Hp) (E : Env) (L : Own) (o : Oper) (v : Value) : Prop :=
  ∀ a w, At n E a → St cx ρ L w → (execOp a.eval o).run P w = .ok (.value v) w
/-- What an operation may come to. -/
def X (P : Program) (n : Nat) (cx : Cx) (ρ : Hp) (E : Env) (L : Own) (o : Oper) (post : Value → Hp → Own → Prop) : Prop :=
  ∀ a w (K : Act → World → Prop) (Q : Exit → Act → World → Prop), At n E a → St cx ρ L w →
    (∀ v ρ' L' w', post v ρ' L' → St cx ρ' L' w' → K (a.put o.dst v) w') → o.wp P a w K Q
/-- S holds, or nothing is left that asks for it. -/
def Kp (π : List (Nat × Bool)) (S : World → Prop) (cx : Cx) (ρ : Hp) (L : Own) : Prop := π = [] ∨ ∀ w, St cx ρ L w → S w

section
variable {P : Program} {Q : Exit → Act → World → Prop} {n : Nat} {cx : Cx} {ρ ρs : Hp} {E E' : Env} {L L' Ls : Own} {ops : Array Oper} {S : World → Prop} {π : List (Nat × Bool)} {i : Nat} {o : Oper} {v : Value}

theorem Kp.true : Kp π (fun _ => True) cx ρ L := .inr fun _ _ => trivial
theorem Kp.last : Kp [] S cx ρ L := .inl rfl
theorem Kp.get (h : Kp π S cx ρ L) {w : World} (hs : St cx ρ L w) : π = [] ∨ S w := h.imp id fun f => f w hs
theorem St.down {w : World} (h : St cx ρ L w) (hle : Hp.le ρs ρ) (h0 : Hp.le cx.r0 ρs) : St cx ρs L w :=
  let ⟨H, a, b, c, d⟩ := h.ex
  { h with
    ex := by
      refine ⟨H, a, b, fun i p => ?_, d⟩
      rcases c i p with q | q
      · exact .inl q
      · refine .inr ?_
        cases hr : ρs p with
        | none => rfl
        | some o => rw [hle p o hr] at q; cases q
    rho := fun b o e => h.rho b o (hle b o e)
    rle := h0
    rdom := fun b o e => h.rdom b o (hle b o e) }
theorem Kp.st (hs : Subl Ls L) : Kp π (fun w => St cx ρ Ls w) cx ρ L := .inr fun _ h => h.sub hs
theorem Kp.st' (hs : Subl Ls L) (hle : Hp.le ρs ρ) (h0 : Hp.le cx.r0 ρs) : Kp π (fun w => St cx ρs Ls w) cx ρ L := .inr fun _ h => (h.down hle h0).sub hs

theorem Jp.nil (h : ∀ a w, At n E a → St cx ρ L w → Q .normal a w) : Jp P ops Q S n cx [] ρ E L := h
theorem Jp.done {K : Act → World → Prop} {Q' Q'' : Exit → Act → World → Prop} {y : Code} (hK : ∀ a w, y.wp P Q'' a w → K a w) (h : Cd P Q'' n cx ρ E L y) : Jp P ops (Exit.then K Q') S n cx [] ρ E L :=
  fun a w ha hw => hK a w (h a w ha hw)
theorem Jp.q (d : Nat) (hi : nth ops.toList i = some o) (hw : Want n ops E o true) (he : o.dst = some d) (hd : Nat.blt d n = true) (hy : Y P n cx ρs E Ls o v)
    (h : Jp P ops Q (fun w => St cx ρs Ls w) n cx π ρ ((d, v) :: E) L) : Jp P ops Q (fun w => St cx ρs Ls w) n cx ((i, true) :: π) ρ E L :=
  fun a w ha hs => ⟨_, fun _ h => h, id, o, v, nth_arr hi, .inl ⟨hw a ha, fun w' h' => hy a w' ha h'⟩, h _ _ (ha.put' he hd v) hs⟩
theorem Jp.qskip (d : Nat) (hi : nth ops.toList i = some o) (hw : Want n ops E o false) (he : o.dst = some d) (hd : Nat.blt d n = true)
    (h : Jp P ops Q S n cx π ρ ((d, undef) :: E) L) : Jp P ops Q S n cx ((i, true) :: π) ρ E L :=
  fun a w ha hs => ⟨_, fun _ h => h, id, o, undef, nth_arr hi, .inr ⟨hw a ha, rfl⟩, h _ _ (ha.put' he hd _) hs⟩
/-- What holds throughout may be told anew, and more of it, ahead of a quiet operation: what has come to be meanwhile. -/
theorem Jp.strong (Ls' : Own) (hs' : Subl Ls' L) (hsub : Subl Ls Ls') (hle : Hp.le ρs ρ) (h0 : Hp.le cx.r0 ρs)
    (h : Jp P ops Q (fun w => St cx ρ Ls' w) n cx ((i, true) :: π) ρ E L) : Jp P ops Q (fun w => St cx ρs Ls w) n cx ((i, true) :: π) ρ E L := fun a w ha hs =>
  let ⟨S', h1, h2, h3⟩ := h a w ha hs
  ⟨S', fun w hw => ((h1 w hw).down hle h0).sub hsub, fun _ => h2 (hs.sub hs'), h3⟩
theorem Jp.y (d : Nat) (hi : nth ops.toList i = some o) (hw : Want n ops E o true) (he : o.dst = some d) (hd : Nat.blt d n = true) (hk : Kp π S cx ρ L) (hy : Y P n cx ρ E L o v)
    (h : Jp P ops Q S n cx π ρ ((d, v) :: E) L) : Jp P ops Q S n cx ((i, false) :: π) ρ E L := by
  intro a w ha hs
  simp only [wpPi, wpOp, nth_arr hi, hw a ha, if_true, Oper.wp, hy a w ha hs, Oper.upon]
  exact .inl ⟨hk.get hs, h _ _ (ha.put' he hd v) hs⟩
theorem Jp.skip (d : Nat) (hi : nth ops.toList i = some o) (hw : Want n ops E o false) (he : o.dst = some d) (hd : Nat.blt d n = true) (hk : Kp π S cx ρ L)
    (h : Jp P ops Q S n cx π ρ ((d, undef) :: E) L) : Jp P ops Q S n cx ((i, false) :: π) ρ E L := by
  intro a w ha hs
  simp only [wpPi, wpOp, nth_arr hi, hw a ha]
  exact ⟨hk.get hs, h _ _ (ha.put' he hd _) hs⟩
theorem Jp.x {post : Value → Hp → Own → Prop} (d : Nat) (hi : nth ops.toList i = some o) (hw : Want n ops E o true) (he : o.dst = some d) (hd : Nat.blt d n = true) (hx : X P n cx ρ E L o post)
    (h : ∀ v ρ' L', post v ρ' L' → Kp π S cx ρ' L' ∧ Jp P ops Q S n cx π ρ' ((d, v) :: E) L') : Jp P ops Q S n cx ((i, false) :: π) ρ E L := by
  intro a w ha hs
  simp only [wpPi, wpOp, nth_arr hi, hw a ha, if_true]
  refine .inl (hx a w _ _ ha hs fun v ρ' L' w' hp hs' => ?_)
  obtain ⟨h1, h2⟩ := h v ρ' L' hp
  exact ⟨h1.get hs', h2 _ _ (ha.put' he hd v) hs'⟩
/-- An operation that yields nothing (a store). -/
theorem Jp.x0 {post : Value → Hp → Own → Prop} (hi : nth ops.toList i = some o) (hw : Want n ops E o true) (he : o.dst = none) (hx : X P n cx ρ E L o post)
    (h : ∀ v ρ' L', post v ρ' L' → Kp π S cx ρ' L' ∧ Jp P ops Q S n cx π ρ' E L') : Jp P ops Q S n cx ((i, false) :: π) ρ E L := by
  intro a w ha hs
  simp only [wpPi, wpOp, nth_arr hi, hw a ha, if_true]
  refine .inl (hx a w _ _ ha hs fun v ρ' L' w' hp hs' => ?_)
  obtain ⟨h1, h2⟩ := h v ρ' L' hp
  rw [he]
  exact ⟨h1.get hs', h2 _ _ ha hs'⟩
/-- What is no more wanted is forgotten. -/
theorem Jp.trim (hE : Subl E' E) (hL : Subl L' L) (h : Jp P ops Q S n cx π ρ E' L') : Jp P ops Q S n cx π ρ E L := fun a w ha hs => h a w (ha.sub hE) (hs.sub hL)
theorem Cd.trim {c : Code} (hE : Subl E' E) (hL : Subl L' L) (h : Cd P Q n cx ρ E' L' c) : Cd P Q n cx ρ E L c := fun a w ha hs => h a w (ha.sub hE) (hs.sub hL)
theorem Cd.imp {c : Code} {A A' : HProp} (e : look L i = some A) (f : ∀ k, A k → A' k) (h : Cd P Q n cx ρ E ((i, A') :: L) c) : Cd P Q n cx ρ E L c := fun a w ha hs => h a w ha (hs.imp e f)
theorem Cd.freeze {c : Code} {A : HProp} (e : look L i = some A) (up : Up A) (h : ∀ ρ', Hp.le ρ ρ' → A ρ' → Cd P Q n cx ρ' E ((i, Emp) :: L) c) : Cd P Q n cx ρ E L c := fun a w ha hs =>
  let ⟨ρ', h1, h2, h3⟩ := hs.freeze e up; h ρ' h1 h2 a w ha h3
theorem Jp.freeze {A : HProp} (e : look L i = some A) (up : Up A) (h : ∀ ρ', Hp.le ρ ρ' → A ρ' → Jp P ops Q S n cx π ρ' E ((i, Emp) :: L)) : Jp P ops Q S n cx π ρ E L := fun a w ha hs =>
  let ⟨ρ', h1, h2, h3⟩ := hs.freeze e up; h ρ' h1 h2 a w ha h3

/-! ### 8. Code -/
theorem Cd.plain {id : Nat} {l : List Oper} (π : List (Nat × Bool)) (hπ : π.map (·.1) = List.range l.length) (hf : π.all (fun p => !p.2) = true)
    (h : Jp P l.toArray Q (fun _ => True) n cx π ρ E L) : Cd P Q n cx ρ E L (.region id l.toArray false) := fun a w ha hs => by
  refine wp_mono (wp_region (Q := Qn (Q .normal)) ?_) (qn_mono fun _ _ h => h)
  have := wpOps_of_pi (ops := l.toArray) π a w (fun p hp => by have := List.all_eq_true.1 hf p hp; simpa using this) (h a w ha hs)
  rw [hπ] at this
  simpa using this
theorem Cd.drawn {id : Nat} {ops : Array Oper} (Ls : Own) (hL : Subl Ls L) (π : List (Nat × Bool)) (hm : P.follows .mixedOrders = true) (hok : okRegion ops π = true)
    (h : Hp.le cx.r0 ρ → Jp P ops Q (fun w => St cx ρ Ls w) n cx π ρ E L) : Cd P Q n cx ρ E L (.region id ops true) := fun a w ha hs => by
  simp only [okRegion, Bool.and_eq_true, beq_iff_eq] at hok
  obtain ⟨x, hx1, hx2⟩ := lastLoud_ex π hok.1.2
  refine wp_mono (wp_region_any (Q := Qn (Q .normal)) hm (wpL_any (S := fun w => St cx ρ Ls w) (x := x) _ _ _ _ ?_)) (qn_mono fun _ _ h => h)
  have h1 := pi_sound hok.1.1.1 hx1 π _ _ a _ hx2 (fun j o _ hl => by rw [Array.getD_eq_getD_getElem?, Array.getElem?_replicate] at hl; split at hl <;> simp at hl) hok.2 (.inr (hs.drew.sub hL)) (h hs.rle a _ ha hs.drew)
  rw [hok.1.1.2] at h1
  exact h1
theorem Cd.seq {x y : Code} (h : ∀ K : Act → World → Prop, (∀ a w, y.wp P Q a w → K a w) → Cd P (Exit.then K Q) n cx ρ E L x) : Cd P Q n cx ρ E L (.seq x y) :=
  fun a w ha hs => wp_seq_k fun K hK => h K hK a w ha hs
theorem Cd.skip {K : Act → World → Prop} {Q' Q'' : Exit → Act → World → Prop} {y : Code} (hK : ∀ a w, y.wp P Q'' a w → K a w) (h : Cd P Q'' n cx ρ E L y) : Cd P (Exit.then K Q') n cx ρ E L .skip :=
  fun a w ha hs => wp_skip (hK a w (h a w ha hs))
theorem Cd.cond {c : Operand} {x y : Code} {b : Bool} (hc : evE E c = some (.bool b)) (ht : b = true → Cd P Q n cx ρ E L x) (hf : b = false → Cd P Q n cx ρ E L y) : Cd P Q n cx ρ E L (.cond c x y) :=
  fun a w ha hs => wp_cond_split (ha.ev hc) (fun h => ht h a w ha hs) (fun h => hf h a w ha hs)
theorem Cd.block {id : Nat} {c : Code} (h : Cd P (Exit.inBlock id Q) n cx ρ E L c) : Cd P Q n cx ρ E L (.block id c) := fun a w ha hs => wp_block (h a w ha hs)
/-- Out of a block, to what stands behind it. -/
theorem Cd.exit {id : Nat} {K : Act → World → Prop} {Q'' : Exit → Act → World → Prop} {y : Code} (hQ : Q (.exit id) = K) (hK : ∀ a w, y.wp P Q'' a w → K a w) (h : Cd P Q'' n cx ρ E L y) : Cd P Q n cx ρ E L (.exit id) :=
  fun a w ha hs => wp_exit (by rw [hQ]; exact hK a w (h a w ha hs))
/-- At the end of a block's code, to what stands behind it. -/
theorem Jp.over {K : Act → World → Prop} {Q'' : Exit → Act → World → Prop} {y : Code} (hQ : Q .normal = K) (hK : ∀ a w, y.wp P Q'' a w → K a w) (h : Cd P Q'' n cx ρ E L y) : Jp P ops Q S n cx [] ρ E L :=
  fun a w ha hs => by rw [wpPi, hQ]; exact hK a w (h a w ha hs)
theorem Cd.over {K : Act → World → Prop} {Q'' : Exit → Act → World → Prop} {y : Code} (hQ : Q .normal = K) (hK : ∀ a w, y.wp P Q'' a w → K a w) (h : Cd P Q'' n cx ρ E L y) : Cd P Q n cx ρ E L .skip :=
  fun a w ha hs => wp_skip (by rw [hQ]; exact hK a w (h a w ha hs))

/-! ### 9. Loops -/
/-- What holds at a loop's head: some state of a family, of which each has its frame, its memory, its count. -/
def Head {G : Type} (n : Nat) (cx : Cx) (ok : G → Prop) (ro : G → Hp) (Eo : G → Env) (Lo : G → Own) (g : G) (a : Act) (w : World) : Prop :=
  ok g ∧ At n (Eo g) a ∧ St cx (ro g) (Lo g) w
theorem Cd.loop {c : Code} {G : Type} (ok : G → Prop) (mu : G → Nat) (ro : G → Hp) (Eo : G → Env) (Lo : G → Own) (g0 : G) (h0 : ok g0) (hr : ro g0 = ρ) (hE : Subl (Eo g0) E) (hL : Subl (Lo g0) L)
    (round : ∀ (g : G) (K : Act → World → Prop), ok g → (∀ g' a w, ok g' → mu g' < mu g → At n (Eo g') a → St cx (ro g') (Lo g') w → K a w) → Cd P (Exit.then K Q) n cx (ro g) (Eo g) (Lo g) c) :
    Cd P Q n cx ρ E L (.loop c) := fun a w ha hs => by
  subst hr
  have key : ∀ (m : Nat), ∀ a w, (∃ g, ok g ∧ mu g = m ∧ At n (Eo g) a ∧ St cx (ro g) (Lo g) w) → c.wp P (Exit.then (fun a' w' => ∃ m', m' < m ∧ ∃ g, ok g ∧ mu g = m' ∧ At n (Eo g) a' ∧ St cx (ro g) (Lo g) w') Q) a w := by
    rintro m a w ⟨g, hg, rfl, ha, hs⟩
    exact round g _ hg (fun g' a' w' h1 h2 h3 h4 => ⟨mu g', h2, g', h1, rfl, h3, h4⟩) a w ha hs
  refine wp_loop_by (fun m a w => ∃ g, ok g ∧ mu g = m ∧ At n (Eo g) a ∧ St cx (ro g) (Lo g) w) (mu g0) ⟨g0, h0, rfl, ha.sub hE, hs.sub hL⟩ key
/-- The round's end. -/
theorem Jp.again {G : Type} {ok : G → Prop} {mu : G → Nat} {ro : G → Hp} {Eo : G → Env} {Lo : G → Own} {g : G} {K : Act → World → Prop} {Q' : Exit → Act → World → Prop}
    (hK : ∀ g' a w, ok g' → mu g' < mu g → At n (Eo g') a → St cx (ro g') (Lo g') w → K a w) (g' : G) (h1 : ok g') (h2 : mu g' < mu g) (hr : ro g' = ρ) (hE : Subl (Eo g') E) (hL : Subl (Lo g') L) : Jp P ops (Exit.then K Q') S n cx [] ρ E L :=
  fun a w ha hs => hK g' a w h1 h2 (ha.sub hE) (by rw [hr]; exact hs.sub hL)

theorem Cd.again {G : Type} {ok : G → Prop} {mu : G → Nat} {ro : G → Hp} {Eo : G → Env} {Lo : G → Own} {g : G} {K : Act → World → Prop} {Q' : Exit → Act → World → Prop}
    (hK : ∀ g' a w, ok g' → mu g' < mu g → At n (Eo g') a → St cx (ro g') (Lo g') w → K a w) (g' : G) (h1 : ok g') (h2 : mu g' < mu g) (hr : ro g' = ρ) (hE : Subl (Eo g') E) (hL : Subl (Lo g') L) : Cd P (Exit.then K Q') n cx ρ E L .skip :=
  fun a w ha hs => wp_skip (hK g' a w h1 h2 (ha.sub hE) (by rw [hr]; exact hs.sub hL))
theorem Cdx.again {G : Type} {ok : G → Prop} {mu : G → Nat} {ro : G → Hp} {Eo : G → Env} {Lo : G → Own} {g : G} {K : Act → World → Prop} {id : Nat} (hQ : Q (.exit id) = K)
    (hK : ∀ g' a w, ok g' → mu g' < mu g → At n (Eo g') a → St cx (ro g') (Lo g') w → K a w) (g' : G) (h1 : ok g') (h2 : mu g' < mu g) (hr : ro g' = ρ) (hE : Subl (Eo g') E) (hL : Subl (Lo g') L) : Cd P Q n cx ρ E L (.exit id) :=
  fun a w ha hs => wp_exit (by rw [hQ]; exact hK g' a w h1 h2 (ha.sub hE) (by rw [hr]; exact hs.sub hL))

/-! ### 10. Calls -/
def argsE : Nat → List Value → Env
  | _, [] => []
  | k, v :: vs => (k, v) :: argsE (k + 1) vs
theorem look_argsE : ∀ (vs : List Value) (k t : Nat) (v : Value), look (argsE k vs) t = some v → ∃ j, t = k + j ∧ vs[j]? = some v := by
  intro vs
  induction vs with
  | nil => intro k t v h; simp [argsE, look] at h
  | cons x xs ih =>
    intro k t v h
    rw [argsE, look_cons] at h
    split at h
    · rename_i e; injection h with h; subst h; exact ⟨0, by omega, rfl⟩
    · obtain ⟨j, hj, hx⟩ := ih _ _ _ h
      exact ⟨j + 1, by omega, by simpa using hx⟩
/-- A function by its code. -/
theorem Spec.of {f : FuncId} {fn : Func} {c : Code} {vs : List Value} {R : Hp → Prop} {Lin : Own} {Post : Hp → Hp → Value → Own → Prop} (N : Nat) (hf : P.funcs[f]? = some fn) (hb : fn.body = some c) (hN : fn.ntmps = N) (E : Env)
    (hE : argsE 0 vs = E) (hsz : Nat.ble vs.length N = true)
    (h : ∀ cx ρ, R ρ → cx.r0 = ρ → Cd P (bodyPost P fn fun e w' => ∃ v ρ' Lout, e = .returned v ∧ Post ρ ρ' v Lout ∧ St cx ρ' Lout w') N cx ρ E Lin c) : Spec P f vs.toArray R Lin Post := by
  intro w M ρ hR hs
  refine calls_of_wp hf hb ?_
  have hsz' : vs.length ≤ N := Nat.le_of_ble_eq_true hsz
  refine h ⟨w, M, ρ⟩ ρ hR rfl _ w ⟨rfl, ?_, ?_⟩ hs
  · simp only [hN, Array.size_append, Array.size_replicate, List.size_toArray]; omega
  · intro t v e
    subst hE
    obtain ⟨j, hj, hx⟩ := look_argsE vs 0 t v e
    have : t = j := by omega
    subst this
    have hlt : t < vs.length := (List.getElem?_eq_some_iff.1 hx).1
    rw [hN, Array.getElem?_append_left (by simpa using hlt)]
    simpa using hx
theorem Cd.ret {fn : Func} {R : Hp → Value → Own → Prop} {v : Value} (Lout : Own) (hQ : Q .ret = bodyPost P fn (fun e w' => ∃ v ρ' Lout, e = .returned v ∧ R ρ' v Lout ∧ St cx ρ' Lout w') .ret)
    (hv : ∀ a w, At n E a → St cx ρ L w → (results fn a.tmps).run P w = .ok v w) (hL : Subl Lout L) (hp : R ρ v Lout) : Cd P Q n cx ρ E L .ret := fun a w ha hs =>
  wp_ret (by rw [hQ]; exact ⟨ha.defers, v, hv a w ha hs, v, ρ, Lout, rfl, hp, hs.sub hL⟩)
theorem Jp.end {fn : Func} {R : Hp → Value → Own → Prop} {v : Value} (Lout : Own) (hQ : Q .normal = bodyPost P fn (fun e w' => ∃ v ρ' Lout, e = .returned v ∧ R ρ' v Lout ∧ St cx ρ' Lout w') .normal)
    (hv : ∀ a w, At n E a → St cx ρ L w → (results fn a.tmps).run P w = .ok v w) (hL : Subl Lout L) (hp : R ρ v Lout) : Jp P ops Q S n cx [] ρ E L := fun a w ha hs => by
  rw [wpPi, hQ]; exact ⟨ha.defers, v, hv a w ha hs, v, ρ, Lout, rfl, hp, hs.sub hL⟩
theorem Cd.end {fn : Func} {R : Hp → Value → Own → Prop} {v : Value} (Lout : Own) (hQ : Q .normal = bodyPost P fn (fun e w' => ∃ v ρ' Lout, e = .returned v ∧ R ρ' v Lout ∧ St cx ρ' Lout w') .normal)
    (hv : ∀ a w, At n E a → St cx ρ L w → (results fn a.tmps).run P w = .ok v w) (hL : Subl Lout L) (hp : R ρ v Lout) : Cd P Q n cx ρ E L .skip := fun a w ha hs =>
  wp_skip (by rw [hQ]; exact ⟨ha.defers, v, hv a w ha hs, v, ρ, Lout, rfl, hp, hs.sub hL⟩)
theorem Cdx.end {fn : Func} {R : Hp → Value → Own → Prop} {v : Value} {id : Nat} (Lout : Own) (hQ : Q (.exit id) = bodyPost P fn (fun e w' => ∃ v ρ' Lout, e = .returned v ∧ R ρ' v Lout ∧ St cx ρ' Lout w') .normal)
    (hv : ∀ a w, At n E a → St cx ρ L w → (results fn a.tmps).run P w = .ok v w) (hL : Subl Lout L) (hp : R ρ v Lout) : Cd P Q n cx ρ E L (.exit id) := fun a w ha hs =>
  wp_exit (by rw [hQ]; exact ⟨ha.defers, v, hv a w ha hs, v, ρ, Lout, rfl, hp, hs.sub hL⟩)
theorem res1 {fn : Func} {t : Tmp} (h : fn.results = #[.tmp t]) (he : look E t = some v) : ∀ a w, At n E a → St cx ρ L w → (results fn a.tmps).run P w = .ok v w := fun a w ha _ => by
  have := ha.slot t v he
  simp [results, h, this]
theorem res0 {fn : Func} (h : fn.results = #[]) : ∀ a w, At n E a → St cx ρ L w → (results fn a.tmps).run P w = .ok (.tuple #[]) w := fun a w ha _ => by
  simp [results, h]
theorem res2 {fn : Func} {t u : Tmp} {x y : Value} (h : fn.results = #[.tmp t, .tmp u]) (he : look E t = some x) (he2 : look E u = some y) : ∀ a w, At n E a → St cx ρ L w → (results fn a.tmps).run P w = .ok (.tuple #[x, y]) w := fun a w ha _ => by
  have h1 := ha.slot t x he
  have h2 := ha.slot u y he2
  simp [results, h, h1, h2]
theorem res3 {fn : Func} {t u s : Tmp} {x y z : Value} (h : fn.results = #[.tmp t, .tmp u, .tmp s]) (he : look E t = some x) (he2 : look E u = some y) (he3 : look E s = some z) : ∀ a w, At n E a → St cx ρ L w → (results fn a.tmps).run P w = .ok (.tuple #[x, y, z]) w := fun a w ha _ => by
  have h1 := ha.slot t x he
  have h2 := ha.slot u y he2
  have h3 := ha.slot s z he3
  simp [results, h, h1, h2, h3]
def evL (E : Env) : List Operand → Option (List Value)
  | [] => some []
  | x :: xs => match evE E x, evL E xs with
    | some v, some vs => some (v :: vs)
    | _, _ => none
theorem At.evs {a : Act} (h : At n E a) : ∀ {xs : List Operand} {vs : List Value}, evL E xs = some vs → xs.map a.eval = vs := by
  intro xs
  induction xs with
  | nil => intro vs e; simp only [evL] at e; injection e with e
  | cons x xs ih =>
    intro vs e
    simp only [evL] at e
    cases h1 : evE E x with
    | none => simp [h1] at e
    | some v =>
      cases h2 : evL E xs with
      | none => simp [h1, h2] at e
      | some us => simp [h1, h2] at e; subst e; rw [List.map_cons, h.ev h1, ih h2]
/-- Which function an operation calls, with which arguments. -/
def Runs (P : Program) (n : Nat) (E : Env) (o : Oper) (f : FuncId) (vs : List Value) : Prop := ∀ a w, At n E a → (execOp a.eval o).run P w = .ok (.enter f vs.toArray) w
theorem Runs.fn {f : FuncId} {xs : List Operand} {ts : Array TypeId} {vs : List Value} (hop : o.op = .call { callee := .value (.func f), args := xs.toArray, argTypes := ts }) (hc : ∀ args w, (callFunc f args).run P w = .ok (.enter f args) w) (hxs : evL E xs = some vs) : Runs P n E o f vs := fun a w ha => by
  have := ha.evs hxs
  simp only [execOp, hop, resolve, List.map_toArray, this, Act.eval, Deferred.ofValue, Sem.run_bind, Sem.run_pure, Result.andThen_ok, invoke, hc]
  simp
/-- A call of a function by its contract: the pieces 'idx' are handed over, what comes back lies under the numbers 'ms'. -/
theorem Jp.call {f : FuncId} {vs : List Value} {R : Hp → Prop} {Lin : Own} {Post : Hp → Hp → Value → Own → Prop} (idx ms : List Nat) (hs : Spec P f vs.toArray R Lin Post) (d : Nat) (hi : nth ops.toList i = some o) (hw : Want n ops E o true) (he : o.dst = some d) (hd : Nat.blt d n = true)
    (hrun : Runs P n E o f vs) (hnd : idx.Nodup) (hms : ms.Nodup) (hin : hand L 0 idx = Lin) (hR : R ρ)
    (h : ∀ v ρ' Lout, Post ρ ρ' v Lout → Lout.all (fun p => Nat.blt p.1 ms.length) = true ∧ (Hp.le ρ ρ' → Kp π S cx ρ' (back ms Lout ++ (gone idx ++ L)) ∧ Jp P ops Q S n cx π ρ' ((d, v) :: E) (back ms Lout ++ (gone idx ++ L)))) :
    Jp P ops Q S n cx ((i, false) :: π) ρ E L := by
  intro a w ha hst
  simp only [wpPi, wpOp, nth_arr hi, hw a ha, if_true, Oper.wp, hrun a w ha, Oper.upon]
  left
  obtain ⟨M', h1, h2⟩ := hst.call idx ms hnd hms
  rw [hin] at h1
  refine (hs w M' ρ hR h1).mono ?_
  rintro e w' ⟨v, ρ', Lout, rfl, hp, hst'⟩
  obtain ⟨h3, h4⟩ := h v ρ' Lout hp
  have h5 := h4 hst'.rle
  have h6 := h2 w' ρ' Lout (fun p hp => by have := List.all_eq_true.1 h3 p hp; simpa [Nat.blt_eq] using this) hst'
  exact ⟨h5.1.get h6, h5.2 _ _ (ha.put' he hd v) h6⟩
theorem Spec.mono {f : FuncId} {args : Array Value} {R R' : Hp → Prop} {Lin : Own} {Post Post' : Hp → Hp → Value → Own → Prop} (h : Spec P f args R Lin Post) (hr : ∀ ρ, R' ρ → R ρ) (hp : ∀ ρ ρ' v l, Post ρ ρ' v l → Post' ρ ρ' v l) : Spec P f args R' Lin Post' :=
  fun w M ρ r s => (h w M ρ (hr ρ r) s).mono fun e w' ⟨v, ρ', Lout, e1, e2, e3⟩ => ⟨v, ρ', Lout, e1, hp _ _ _ _ e2, e3⟩
end
end Go.Proofs.Ytjjhihlmoecmlaa
