/- The small logic, part fourteen: regions that draw, in two phases: what is read ahead of a store that waits for it. -/
import Derived.Test.YtjjhihlmoecmlaaEngL
set_option linter.unusedVariables false
set_option linter.unusedSimpArgs false
namespace Go.Proofs.Ytjjhihlmoecmlaa
open Go
/-! ### 39. Two phases: S holds till x is listed -/
def wpT (P : Program) (ops : Array Oper) (Q : Exit → Act → World → Prop) (S : World → Prop) (x : Nat) : Nat → Array Bool → Act → World → Prop
  | 0, listed, a, w => Region.ready .any ops listed = [] ∧ Q .normal a w
  | fuel + 1, listed, a, w => (Region.ready .any ops listed = [] → Q .normal a w) ∧
    ∀ i ∈ Region.ready .any ops listed, wpOp P ops Q i (fun a' w' => ((listed.setIfInBounds i true).getD x false = true ∨ S w') ∧ wpT P ops Q S x fuel (listed.setIfInBounds i true) a' w') a w
theorem wpT_any {P : Program} {ops : Array Oper} {Q : Exit → Act → World → Prop} {S : World → Prop} {x : Nat} : ∀ (fuel : Nat) (listed : Array Bool) (a : Act) (w : World), wpT P ops Q S x fuel listed a w → wpAny P .any ops Q fuel listed a w
  | 0, _, _, _, h => h
  | fuel + 1, _, _, _, h => And.intro h.1 fun i hi => wpOp_mono (fun a' w' h' => wpT_any fuel _ a' w' h'.2) (h.2 i hi)
theorem wpT_mono {P : Program} {ops : Array Oper} {Q : Exit → Act → World → Prop} {S S' : World → Prop} {x : Nat} (hm : ∀ w, S' w → S w) : ∀ (fuel : Nat) (listed : Array Bool) (a : Act) (w : World), wpT P ops Q S' x fuel listed a w → wpT P ops Q S x fuel listed a w
  | 0, _, _, _, h => h
  | fuel + 1, _, _, _, h => And.intro h.1 fun i hi => wpOp_mono (fun a' w' h' => ⟨h'.1.imp id (hm _), wpT_mono hm fuel _ a' w' h'.2⟩) (h.2 i hi)
theorem getD_keep {l : Array Bool} {i x : Nat} (h : l.getD x false = true) : (l.setIfInBounds i true).getD x false = true := by
  by_cases hix : i = x
  · subst hix
    have hlt : i < l.size := by
      rcases Nat.lt_or_ge i l.size with q | q
      · exact q
      · rw [Array.getD_eq_getD_getElem?, Array.getElem?_eq_none q] at h; simp at h
    rw [Array.getD_eq_getD_getElem?, Array.getElem?_setIfInBounds]; simp [hlt]
  · rw [getD_set_ne false hix]; exact h
/-- An operation that yields the same in all worlds of S may be carried out first: if S is no more than what all worlds have, always; else if x waits for it. -/
theorem wpT_first {P : Program} {ops : Array Oper} {Q : Exit → Act → World → Prop} {S Y : World → Prop} {i x : Nat} {oi : Oper} {v : Value} (hi : ops[i]? = some oi) (hix : i ≠ x) (hsel : Region.noSelect ops = true) (hQ : ∀ c a w, Q (.panic c) (a.put oi.dst v) w → Q (.panic c) a w)
    (hY : (∀ w, Y w) ∨ ((∀ w, S w → Y w) ∧ ∃ f ox, ops[x]? = some ox ∧ cov ops f x i = true)) :
    ∀ (fuel : Nat) (listed : Array Bool) (a : Act) (w : World), Closed ops listed →
      (∀ j oj, ops[j]? = some oj → j ≠ i → listed.getD j true = false → (∀ e ∈ oj.after, Region.binds .any e = true → e.on ≠ i) → oi.apart ops oj = true) →
      i ∈ Region.ready .any ops listed → YieldsIf P ops Y oi v a → Y w → (listed.getD x false = true ∨ S w) → wpT P ops Q S x fuel (listed.setIfInBounds i true) (a.put oi.dst v) w → wpT P ops Q S x (fuel + 1) listed a w := by
  have sel := Region.noSelect_spec hsel
  intro fuel
  induction fuel with
  | zero =>
    intro listed a w _ _ hr hy hYw hS H
    refine ⟨fun h => ?_, fun j hj => ?_⟩
    · rw [h] at hr; cases hr
    rcases Decidable.em (j = i) with rfl | hji
    · exact hy.wpOp hi hYw ⟨hS.imp getD_keep id, H⟩
    · have := ready_mono hj hji
      rw [H.1] at this; cases this
  | succ fuel ih =>
    intro listed a w hc hfree hr hy hYw hS H
    refine ⟨fun h => ?_, fun j hj => ?_⟩
    · rw [h] at hr; cases hr
    rcases Decidable.em (j = i) with rfl | hji
    · exact hy.wpOp hi hYw ⟨hS.imp getD_keep id, H⟩
    · have h1 := H.2 j (ready_mono hj hji)
      obtain ⟨hjun, oj, hoj, hall⟩ := mem_ready.1 hj
      have hi0 := (mem_ready.1 hr).1
      have hilt : i < listed.size := by
        rcases Nat.lt_or_ge i listed.size with q | q
        · exact q
        · simp [Array.getElem?_eq_none q] at hi0
      have hnot : ∀ e ∈ oj.after, Region.binds .any e = true → e.on ≠ i := fun e he hb heq => by
        have h2 := hall e he hb
        rw [heq] at h2
        simp [hilt] at h2 hi0
        rw [hi0] at h2; cases h2
      have hiun : ∀ q, q ≠ i → (listed.setIfInBounds q true).getD i false = false := fun q hq => by
        rw [getD_set_ne false hq]
        rw [Array.getD_eq_getD_getElem?] at hi0 ⊢
        simp [hilt] at hi0 ⊢; exact hi0
      have h2 := wpOp_putIf hoj (hfree j oj hoj hji hjun hnot) (fun cs b => sel i oi cs b hi) (fun cs b => sel j oj cs b hoj) hQ hy h1
      refine wpOp_mono (fun a' w' h3 => ?_) h2
      obtain ⟨h4, h5, h6⟩ := h3
      have hcj := hc.set hj
      -- what holds behind j, ahead of i
      have h7 : (listed.setIfInBounds j true).getD x false = true ∨ S w' := by
        rcases h5 with h5 | h5
        · left
          rw [Array.setIfInBounds_comm _ _ (Ne.symm hji)] at h5
          rwa [getD_set_ne false hix] at h5
        · exact .inr h5
      have h8 : Y w' := by
        rcases hY with hY | ⟨hY, f, ox, hox, hcov⟩
        · exact hY w'
        · rcases h7 with h7 | h7
          · have := closed_cov hcj f x i ox hox (fun e he hb => hcj x ox hox h7 e he hb) hcov
            rw [hiun j hji] at this; cases this
          · exact hY w' h7
      refine ⟨h7, ih _ a' w' hcj (fun k ok hk hki hun hno => hfree k ok hk hki ?_ hno) (ready_mono hr (Ne.symm hji)) h4 h8 h7 ?_⟩
      · rcases Decidable.em (j = k) with rfl | hjk
        · exact hjun
        · rw [getD_set_ne true hjk] at hun; exact hun
      · rw [Array.setIfInBounds_comm _ _ hji]; exact h6
theorem wpOp_qn {P : Program} {ops : Array Oper} {N N' K : Act → World → Prop} {i : Nat} {a : Act} {w : World} (h : wpOp P ops (Qn N) i K a w) : wpOp P ops (Qn N') i K a w := by
  unfold wpOp at h ⊢
  cases ho : ops[i]? with
  | none => rw [ho] at h; exact h
  | some o =>
    rw [ho] at h
    simp only at h ⊢
    by_cases hw : Region.wanted o (yielded ops a.tmps) = true
    · rw [if_pos hw] at h ⊢
      rcases h with h | ⟨h1, a', w', h2⟩
      · left
        unfold Oper.wp at h ⊢
        cases hr : (execOp a.eval o).run P w with
        | ok nx w' => rw [hr] at h; cases nx <;> exact h
        | halt s w' => rw [hr] at h; cases s <;> exact h
      · exact h2.elim
    · rw [if_neg hw] at h ⊢; exact h
/-- The second phase: quiet operations ask nothing of the world. -/
def wpPiP (P : Program) (ops : Array Oper) (N : Act → World → Prop) : List (Nat × Bool) → Act → World → Prop
  | [], a, w => N a w
  | (i, true) :: π, a, w => ∃ o v, ops[i]? = some o ∧ YieldsIf P ops (fun _ => True) o v a ∧ wpPiP P ops N π (a.put o.dst v) w
  | (i, false) :: π, a, w => wpOp P ops (Qn N) i (fun a' w' => wpPiP P ops N π a' w') a w
section
variable {P : Program} {ops : Array Oper} {N : Act → World → Prop}
theorem pi_sound2 (hs : Region.noSelect ops = true) {x : Nat} (S : World → Prop) : ∀ (π : List (Nat × Bool)) (listed : Array Bool) (a : Act) (w : World), Closed ops listed → (∀ p ∈ π, p.2 = true → p.1 ≠ x) →
    okPi ops π listed = true → (listed.getD x false = true ∨ ∃ π', π = (x, false) :: π') → (x < listed.size) → wpPiP P ops N π a w → wpT P ops (Qn N) S x π.length listed a w := by
  intro π
  induction π with
  | nil =>
    intro listed a w _ _ h _ _ hw
    exact ⟨by simpa [okPi] using h, hw⟩
  | cons p π ih =>
    obtain ⟨i, b⟩ := p
    intro listed a w hc hq h hx hxl hw
    cases b with
    | true =>
      simp only [okPi, Bool.and_eq_true] at h
      have hxd : listed.getD x false = true := by
        rcases hx with hx | ⟨π', e⟩
        · exact hx
        · injection e with e _; injection e with _ e; cases e
      obtain ⟨o, v, ho, hy, hk⟩ := hw
      have hmem : i ∈ Region.ready .any ops listed := by simpa using h.1.2
      have hne : i ≠ x := hq (i, true) (List.mem_cons_self ..) rfl
      exact wpT_first (Y := fun _ => True) ho hne hs (fun c a w hc => hc.elim) (.inl fun _ => trivial) _ _ _ _ hc (Region.free_spec ho h.1.1) hmem hy trivial (.inl hxd)
        (ih _ _ _ (hc.set hmem) (fun p hp => hq p (List.mem_cons_of_mem _ hp)) h.2 (.inl (getD_keep hxd)) (by simpa using hxl) hk)
    | false =>
      simp only [okPi, Bool.and_eq_true, beq_iff_eq] at h
      refine ⟨fun h0 => ?_, fun j hj => ?_⟩
      · rw [h.1] at h0; cases h0
      have hc' := hc.set hj
      rw [h.1] at hj
      simp at hj
      subst hj
      have hd : (listed.setIfInBounds j true).getD x false = true := by
        rcases hx with hx | ⟨π', e⟩
        · exact getD_keep hx
        · injection e with e _; injection e with e _; subst e
          rw [Array.getD_eq_getD_getElem?, Array.getElem?_setIfInBounds]; simp [hxl]
      exact wpOp_mono (fun a' w' h' => ⟨.inl hd, ih _ _ _ hc' (fun p hp => hq p (List.mem_cons_of_mem _ hp)) h.2 (.inl hd) (by simpa using hxl) h'⟩) hw
def lastQuiet : List (Nat × Bool) → Bool
  | [] => true
  | [(_, b)] => b
  | _ :: π => lastQuiet π
theorem pi_sound1 (hs : Region.noSelect ops = true) {x : Nat} {ox : Oper} (hox : ops[x]? = some ox) {π2 : List (Nat × Bool)} (hx2 : ∃ π', π2 = (x, false) :: π') (hq2 : ∀ p ∈ π2, p.2 = true → p.1 ≠ x) : ∀ (π : List (Nat × Bool)) (S : World → Prop) (listed : Array Bool) (a : Act) (w : World), Closed ops listed → lastQuiet π = true → (∀ p ∈ π, p.1 ≠ x ∧ cov ops 10 x p.1 = true) →
    okPi ops (π ++ π2) listed = true → S w → (x < listed.size) → wpPi P ops (wpPiP P ops N π2) S π a w → wpT P ops (Qn N) S x (π.length + π2.length) listed a w := by
  intro π
  induction π with
  | nil =>
    intro S listed a w hc _ _ h hS hxl hw
    rw [List.length_nil, Nat.zero_add]
    exact pi_sound2 hs S π2 listed a w hc hq2 h (.inr hx2) hxl hw
  | cons p π ih =>
    obtain ⟨i, b⟩ := p
    intro S listed a w hc hl hcv h hS hxl hw
    rw [List.length_cons, show π.length + 1 + π2.length = (π.length + π2.length) + 1 by omega]
    have hl' : lastQuiet π = true := by
      cases π with
      | nil => rfl
      | cons q π => exact hl
    cases b with
    | true =>
      rw [List.cons_append] at h
      simp only [okPi, Bool.and_eq_true] at h
      obtain ⟨S', hm, hSw', o, v, ho, hy, hk⟩ := hw
      have hSw' := hSw' hS
      have hmem : i ∈ Region.ready .any ops listed := by simpa using h.1.2
      obtain ⟨hne, hcov⟩ := hcv (i, true) (List.mem_cons_self ..)
      exact wpT_mono hm _ _ _ _ (wpT_first (Y := S') (S := S') ho hne hs (fun c a w hc => hc.elim) (.inr ⟨fun _ h => h, 10, ox, hox, hcov⟩) _ _ _ _ hc (Region.free_spec ho h.1.1) hmem hy hSw' (.inr hSw')
        (ih S' _ _ _ (hc.set hmem) hl' (fun p hp => hcv p (List.mem_cons_of_mem _ hp)) h.2 hSw' (by simpa using hxl) hk))
    | false =>
      rw [List.cons_append] at h
      simp only [okPi, Bool.and_eq_true, beq_iff_eq] at h
      refine ⟨fun h0 => ?_, fun j hj => ?_⟩
      · rw [h.1] at h0; cases h0
      have hc' := hc.set hj
      rw [h.1] at hj
      simp at hj
      subst hj
      refine wpOp_mono (fun a' w' h' => ?_) (wpOp_qn hw)
      obtain ⟨h1, h2⟩ := h'
      have h1 : S w' := by
        rcases h1 with q | q
        · subst q; cases hl
        · exact q
      exact ⟨.inr h1, ih S _ _ _ hc' hl' (fun p hp => hcv p (List.mem_cons_of_mem _ hp)) h.2 h1 (by simpa using hxl) h2⟩
theorem pi_sound0 (hs : Region.noSelect ops = true) {x : Nat} (S : World → Prop) {k : Nat} {rest : List (Nat × Bool)} {N1 : Act → World → Prop}
    (key : ∀ listed a w, Closed ops listed → okPi ops rest listed = true → x < listed.size → S w → N1 a w → wpT P ops (Qn N) S x k listed a w) : ∀ (π : List (Nat × Bool)) (listed : Array Bool) (a : Act) (w : World), Closed ops listed → (∀ p ∈ π, p.2 = true ∧ p.1 ≠ x) →
    okPi ops (π ++ rest) listed = true → S w → x < listed.size → wpPiP P ops N1 π a w → wpT P ops (Qn N) S x (π.length + k) listed a w := by
  intro π
  induction π with
  | nil =>
    intro listed a w hc _ h hS hxl hw
    rw [List.length_nil, Nat.zero_add]
    exact key listed a w hc h hxl hS hw
  | cons p π ih =>
    obtain ⟨i, b⟩ := p
    intro listed a w hc hq h hS hxl hw
    obtain ⟨hb, hne⟩ := hq (i, b) (List.mem_cons_self ..)
    dsimp only at hb hne
    subst hb
    rw [List.length_cons, show π.length + 1 + k = (π.length + k) + 1 by omega]
    rw [List.cons_append] at h
    simp only [okPi, Bool.and_eq_true] at h
    obtain ⟨o, v, ho, hy, hk⟩ := hw
    have hmem : i ∈ Region.ready .any ops listed := by simpa using h.1.2
    exact wpT_first (Y := fun _ => True) ho hne hs (fun c a w hc => hc.elim) (.inl fun _ => trivial) _ _ _ _ hc (Region.free_spec ho h.1.1) hmem hy trivial (.inr hS)
      (ih _ _ _ (hc.set hmem) (fun p hp => hq p (List.mem_cons_of_mem _ hp)) h.2 hS (by simpa using hxl) hk)
def okRegion3 (ops : Array Oper) (π0 π1 : List (Nat × Bool)) (x : Nat) (π2 : List (Nat × Bool)) : Bool :=
  Region.noSelect ops && ((π0 ++ (π1 ++ (x, false) :: π2)).length == ops.size) && lastQuiet π1 && (π1.all fun p => !(Nat.beq p.1 x) && cov ops 10 x p.1) && (π2.all fun p => !p.2 || !(Nat.beq p.1 x)) && (π0.all fun p => p.2 && !(Nat.beq p.1 x)) && okPi ops (π0 ++ (π1 ++ (x, false) :: π2)) (Array.replicate ops.size false) && decide (x < ops.size)
def okRegion2 (ops : Array Oper) (π1 : List (Nat × Bool)) (x : Nat) (π2 : List (Nat × Bool)) : Bool :=
  Region.noSelect ops && ((π1 ++ (x, false) :: π2).length == ops.size) && lastQuiet π1 && (π1.all fun p => !(Nat.beq p.1 x) && cov ops 10 x p.1) && (π2.all fun p => !p.2 || !(Nat.beq p.1 x)) && okPi ops (π1 ++ (x, false) :: π2) (Array.replicate ops.size false) && decide (x < ops.size)
end
section
variable {P : Program} {Q : Exit → Act → World → Prop} {n : Nat} {cx : Cx} {ρ ρs : Hp} {E E' : Env} {L L' Ls : Own} {ops : Array Oper} {S : World → Prop} {π : List (Nat × Bool)} {i : Nat} {o : Oper} {v : Value}
def Jp2 (P : Program) (ops : Array Oper) (Q : Exit → Act → World → Prop) (n : Nat) (cx : Cx) (π : List (Nat × Bool)) (ρ : Hp) (E : Env) (L : Own) : Prop :=
  ∀ a w, At n E a → St cx ρ L w → wpPiP P ops (Q .normal) π a w
/-- What comes behind one operation of the second phase. -/
def tailQ (P : Program) (ops : Array Oper) (Q : Exit → Act → World → Prop) (π : List (Nat × Bool)) : Exit → Act → World → Prop
  | .normal, a, w => wpPiP P ops (Q .normal) π a w
  | e, a, w => Q e a w
theorem Jp2.loud (h : Jp P ops (tailQ P ops Q π) (fun _ => True) n cx [(i, false)] ρ E L) : Jp2 P ops Q n cx ((i, false) :: π) ρ E L := fun a w ha hs =>
  wpOp_mono (K := fun a' w' => ([] = ([] : List (Nat × Bool)) ∨ True) ∧ wpPiP P ops (Q .normal) π a' w') (fun a' w' h' => h'.2) (wpOp_qn (h a w ha hs))
theorem Jp2.tail (h : Jp2 P ops Q n cx π ρ E L) : Jp P ops (tailQ P ops Q π) S n cx [] ρ E L := h
theorem Jp2.nil (h : Jp P ops Q (fun _ => True) n cx [] ρ E L) : Jp2 P ops Q n cx [] ρ E L := h
theorem St.any (w : World) : St ⟨w, fun _ => False, Hp.emp⟩ Hp.emp [] w := St.refl w _ _ fun b o e => by cases e
theorem Jp2.q (d : Nat) (hi : nth ops.toList i = some o) (hw : Want n ops E o true) (he : o.dst = some d) (hd : Nat.blt d n = true) (hy : ∀ cx, Y P n cx Hp.emp E [] o v)
    (h : Jp2 P ops Q n cx π ρ ((d, v) :: E) L) : Jp2 P ops Q n cx ((i, true) :: π) ρ E L :=
  fun a w ha hs => ⟨o, v, nth_arr hi, .inl ⟨hw a ha, fun w' _ => hy _ a w' ha (St.any w')⟩, h _ _ (ha.put' he hd v) hs⟩
theorem Jp2.qskip (d : Nat) (hi : nth ops.toList i = some o) (hw : Want n ops E o false) (he : o.dst = some d) (hd : Nat.blt d n = true)
    (h : Jp2 P ops Q n cx π ρ ((d, undef) :: E) L) : Jp2 P ops Q n cx ((i, true) :: π) ρ E L :=
  fun a w ha hs => ⟨o, undef, nth_arr hi, .inr ⟨hw a ha, rfl⟩, h _ _ (ha.put' he hd _) hs⟩
theorem Jp2.split {c : Bool} (t : Nat) (ht : look E t = some (.bool c)) (h1 : c = true → Jp2 P ops Q n cx π ρ ((t, .bool true) :: E) L) (h2 : c = false → Jp2 P ops Q n cx π ρ ((t, .bool false) :: E) L) : Jp2 P ops Q n cx π ρ E L := by
  intro a w ha hs
  cases c with
  | true => exact h1 rfl a w ⟨ha.defers, ha.size, fun u x e => put_slot ha ht e⟩ hs
  | false => exact h2 rfl a w ⟨ha.defers, ha.size, fun u x e => put_slot ha ht e⟩ hs
theorem Jp2.slot {u u' : Value} (t : Nat) (ht : look E t = some u) (e : u = u') (h : Jp2 P ops Q n cx π ρ ((t, u') :: E) L) : Jp2 P ops Q n cx π ρ E L := by
  subst e
  exact fun a w ha hs => h a w ⟨ha.defers, ha.size, fun k x e => put_slot ha ht e⟩ hs
theorem Cd.drawn2 {id : Nat} {ops : Array Oper} (Ls : Own) (hL : Subl Ls L) (π1 : List (Nat × Bool)) (x : Nat) (π2 : List (Nat × Bool)) (hm : P.follows .mixedOrders = true) (hok : okRegion2 ops π1 x π2 = true)
    (h : Hp.le cx.r0 ρ → Jp P ops (tailQ P ops Q ((x, false) :: π2)) (fun w => St cx ρ Ls w) n cx π1 ρ E L) : Cd P Q n cx ρ E L (.region id ops true) := fun a w ha hs => by
  simp only [okRegion2, Bool.and_eq_true, beq_iff_eq, decide_eq_true_eq] at hok
  obtain ⟨⟨⟨⟨⟨⟨h1, h2⟩, h3⟩, h4⟩, h5⟩, h6⟩, h7⟩ := hok
  have hox : ops[x]? = some ops[x] := by simp [h7]
  refine wp_mono (wp_region_any (Q := Qn (Q .normal)) hm (wpT_any (S := fun w => St cx ρ Ls w) (x := x) _ _ _ _ ?_)) (qn_mono fun _ _ h => h)
  have key := pi_sound1 (P := P) (N := Q .normal) h1 hox (π2 := (x, false) :: π2) ⟨π2, rfl⟩ (fun p hp hb => by
      rcases List.mem_cons.1 hp with rfl | hp
      · cases hb
      · have := List.all_eq_true.1 h5 p hp
        rw [hb] at this
        intro e
        rw [e] at this; simp at this) π1 (fun w => St cx ρ Ls w) (Array.replicate ops.size false) a _ (fun j o _ hl => by rw [Array.getD_eq_getD_getElem?, Array.getElem?_replicate] at hl; split at hl <;> simp at hl) h3
    (fun p hp => by
      have := List.all_eq_true.1 h4 p hp
      simp only [Bool.and_eq_true, Bool.not_eq_true'] at this
      exact ⟨fun e => by rw [e] at this; simp at this, this.2⟩) h6 (hs.drew.sub hL) (by simpa using h7) (h hs.rle a _ ha hs.drew)
  rw [List.length_append] at h2
  rw [h2] at key
  exact key
/-- What comes behind the pure operations ahead of all. -/
def headQ (P : Program) (ops : Array Oper) (Q : Exit → Act → World → Prop) (S : World → Prop) (π : List (Nat × Bool)) : Exit → Act → World → Prop
  | .normal, a, w => wpPi P ops (Q .normal) S π a w
  | e, a, w => Q e a w
theorem Jp2.head (h : Jp P ops Q S n cx π ρ E L) : Jp2 P ops (headQ P ops Q S π) n cx [] ρ E L := h
theorem Cd.drawn3 {id : Nat} {ops : Array Oper} (Ls : Own) (hL : Subl Ls L) (π0 π1 : List (Nat × Bool)) (x : Nat) (π2 : List (Nat × Bool)) (hm : P.follows .mixedOrders = true) (hok : okRegion3 ops π0 π1 x π2 = true)
    (h : Hp.le cx.r0 ρ → Jp2 P ops (headQ P ops (tailQ P ops Q ((x, false) :: π2)) (fun w => St cx ρ Ls w) π1) n cx π0 ρ E L) : Cd P Q n cx ρ E L (.region id ops true) := fun a w ha hs => by
  simp only [okRegion3, Bool.and_eq_true, beq_iff_eq, decide_eq_true_eq] at hok
  obtain ⟨⟨⟨⟨⟨⟨⟨h1, h2⟩, h3⟩, h4⟩, h5⟩, h8⟩, h6⟩, h7⟩ := hok
  have hox : ops[x]? = some ops[x] := by simp [h7]
  refine wp_mono (wp_region_any (Q := Qn (Q .normal)) hm (wpT_any (S := fun w => St cx ρ Ls w) (x := x) _ _ _ _ ?_)) (qn_mono fun _ _ h => h)
  have key1 := fun listed a w hc hok hxl hS hN => pi_sound1 (P := P) (N := Q .normal) h1 hox (π2 := (x, false) :: π2) ⟨π2, rfl⟩ (fun p hp hb => by
      rcases List.mem_cons.1 hp with rfl | hp
      · cases hb
      · have := List.all_eq_true.1 h5 p hp
        rw [hb] at this
        intro e
        rw [e] at this; simp at this) π1 (fun w => St cx ρ Ls w) listed a w hc h3
    (fun p hp => by
      have := List.all_eq_true.1 h4 p hp
      simp only [Bool.and_eq_true, Bool.not_eq_true'] at this
      exact ⟨fun e => by rw [e] at this; simp at this, this.2⟩) hok hS hxl hN
  have key := pi_sound0 (P := P) (N := Q .normal) h1 (x := x) (fun w => St cx ρ Ls w) key1 π0 (Array.replicate ops.size false) a _ (fun j o _ hl => by rw [Array.getD_eq_getD_getElem?, Array.getElem?_replicate] at hl; split at hl <;> simp at hl)
    (fun p hp => by
      have := List.all_eq_true.1 h8 p hp
      simp only [Bool.and_eq_true, Bool.not_eq_true'] at this
      exact ⟨this.1, fun e => by rw [e] at this; simp at this⟩) h6 (hs.drew.sub hL) (by simpa using h7) (h hs.rle a _ ha hs.drew)
  rw [List.length_append, List.length_append] at h2
  rw [h2] at key
  exact key
end
theorem OwnS.hasC {e : TypeId} {m k c q : Nat} {ad : Addr} {cs : List Value} {v : Value} (hv : cs[q]? = some v) : HasC (OwnS e m (some ad) k c cs) (ad.add q) v := fun h hh => by
  obtain ⟨ad', e1, e2⟩ := hh.rd.2.2 q v hv
  injection e1 with e1
  subst e1
  exact e2
end Go.Proofs.Ytjjhihlmoecmlaa
