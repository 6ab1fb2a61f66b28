/- The small logic, part nineteen: regions that draw, where two loud operations stand in either order. -/
import Derived.Test.YtgfbdiibndbbjaaEngS
set_option linter.unusedVariables false
set_option linter.unusedSimpArgs false
namespace Go.Proofs.Ytgfbdiibndbbjaa
open Go
def wpPiF (P : Program) (ops : Array Oper) (N : Act → World → Prop) (πA πB : List (Nat × Bool)) : (World → Prop) → List (Nat × Bool) → Act → World → Prop
  | S, [], a, w => wpPi P ops N S πA a w ∧ wpPi P ops N S πB a w
  | S, (i, true) :: π, a, w => ∃ S' : World → Prop, (∀ w, S' w → S w) ∧ (S w → S' w) ∧ ∃ o v, ops[i]? = some o ∧ YieldsIf P ops S' o v a ∧ wpPiF P ops N πA πB S' π (a.put o.dst v) w
  | S, (i, false) :: π, a, w => wpOp P ops (Qn N) i (fun a' w' => S w' ∧ wpPiF P ops N πA πB S π a' w') a w
def okPiF (ops : Array Oper) (πA πB : List (Nat × Bool)) : List (Nat × Bool) → Array Bool → Bool
  | [], listed => match πA, πB with
    | (i, false) :: tA, (j, false) :: tB => (Region.ready .any ops listed == [i, j]) && (okPi ops tA (listed.setIfInBounds i true) && okPi ops tB (listed.setIfInBounds j true))
    | _, _ => false
  | (i, true) :: π, listed => Region.free .any ops listed i && (Region.ready .any ops listed).contains i && okPiF ops πA πB π (listed.setIfInBounds i true)
  | (i, false) :: π, listed => (Region.ready .any ops listed == [i]) && okPiF ops πA πB π (listed.setIfInBounds i true)
def okRegionF (ops : Array Oper) (πA πB π : List (Nat × Bool)) : Bool :=
  Region.noSelect ops && (π.length + πA.length == ops.size) && (πA.length == πB.length) && Nat.ble 2 πA.length && lastLoud ops πA && (πA.getLast? == πB.getLast?) && okPiF ops πA πB π (Array.replicate ops.size false)
section
variable {P : Program} {ops : Array Oper} {N : Act → World → Prop}
theorem pi_soundF (hs : Region.noSelect ops = true) {x : Nat} (hx : waitsAll ops x = true) {πA πB : List (Nat × Bool)} (hA : ∀ i, πA.getLast? = some (i, false) → i = x) (hB : ∀ i, πB.getLast? = some (i, false) → i = x) (hAB : πA.length = πB.length) (h2 : 2 ≤ πA.length) :
    ∀ (π : List (Nat × Bool)) (S : World → Prop) (listed : Array Bool) (a : Act) (w : World), Closed ops listed →
      okPiF ops πA πB π listed = true → S w → wpPiF P ops N πA πB S π a w → wpL P ops (Qn N) S x (π.length + πA.length) listed a w := by
  intro π
  induction π with
  | nil =>
    intro S listed a w hc h hSw hw
    cases πA with
    | nil => simp at h2
    | cons pa tA =>
    cases πB with
    | nil => simp at hAB
    | cons pb tB =>
    obtain ⟨i, bi⟩ := pa
    obtain ⟨j, bj⟩ := pb
    cases bi with
    | true => simp [okPiF] at h
    | false =>
    cases bj with
    | true => simp [okPiF] at h
    | false =>
      simp only [okPiF, Bool.and_eq_true, beq_iff_eq] at h
      obtain ⟨hr, hokA, hokB⟩ := h
      obtain ⟨hwA, hwB⟩ := hw
      have hlA : ∀ k, tA.getLast? = some (k, false) → k = x := fun k hk => hA k (by
        cases tA with
        | nil => simp at hk
        | cons q t => simpa using hk)
      have hlB : ∀ k, tB.getLast? = some (k, false) → k = x := fun k hk => hB k (by
        cases tB with
        | nil => simp at hk
        | cons q t => simpa using hk)
      have hn : tA ≠ [] := fun q => by subst q; simp at h2
      have hn' : tB ≠ [] := fun q => by subst q; simp at hAB; exact hn hAB
      have hlen : tA.length = tB.length := by simpa using hAB
      rw [List.length_nil, Nat.zero_add, List.length_cons]
      refine ⟨fun h0 => ?_, fun k hk => ?_⟩
      · rw [hr] at h0; cases h0
      have hc' := hc.set hk
      rw [hr] at hk
      simp only [List.mem_cons, List.not_mem_nil, or_false] at hk
      rcases hk with rfl | rfl
      · refine wpOp_mono (fun a' w' h' => ⟨?_, pi_sound hs hx tA S _ _ _ hlA hc' hokA h'.1 h'.2⟩) hwA
        rcases h'.1 with q | q
        · exact absurd q hn
        · exact .inr q
      · refine wpOp_mono (fun a' w' h' => ⟨?_, ?_⟩) hwB
        · rcases h'.1 with q | q
          · exact absurd q hn'
          · exact .inr q
        · rw [hlen]; exact pi_sound hs hx tB S _ _ _ hlB hc' hokB h'.1 h'.2
  | cons p π ih =>
    obtain ⟨i, b⟩ := p
    intro S listed a w hc h hSw hw
    have hlen : ((i, b) :: π).length + πA.length = (π.length + πA.length) + 1 := by rw [List.length_cons]; omega
    rw [hlen]
    cases b with
    | true =>
      simp only [okPiF, Bool.and_eq_true] at h
      obtain ⟨S', hm, hSw', o, v, ho, hy, hk⟩ := hw
      have hSw' := hSw' hSw
      have hmem : i ∈ Region.ready .any ops listed := by simpa using h.1.2
      exact wpL_mono hm _ _ _ _ (wpL_first ho hs hx (fun c a w hc => hc.elim) _ _ _ _ hc (Region.free_spec ho h.1.1) hmem hy hSw' (ih S' _ _ _ (hc.set hmem) h.2 hSw' hk))
    | false =>
      simp only [okPiF, Bool.and_eq_true, beq_iff_eq] at h
      refine ⟨fun h0 => ?_, fun j hj => ?_⟩
      · rw [h.1] at h0; cases h0
      have hc' := hc.set hj
      rw [h.1] at hj
      simp at hj
      subst hj
      exact wpOp_mono (fun a' w' h' => ⟨.inr h'.1, ih S _ _ _ hc' h.2 h'.1 h'.2⟩) hw
end
def JpF (P : Program) (ops : Array Oper) (Q : Exit → Act → World → Prop) (S : World → Prop) (n : Nat) (cx : Cx) (πA πB π : List (Nat × Bool)) (ρ : Hp) (E : Env) (L : Own) : Prop :=
  ∀ a w, At n E a → St cx ρ L w → wpPiF P ops (Q .normal) πA πB S π a w
section
variable {P : Program} {Q : Exit → Act → World → Prop} {n : Nat} {cx : Cx} {ρ ρs : Hp} {E : Env} {L Ls : Own} {ops : Array Oper} {S : World → Prop} {π πA πB : List (Nat × Bool)} {i : Nat} {o : Oper} {v : Value}
theorem JpF.q (d : Nat) (hi : nth ops.toList i = some o) (hw : Want n ops E o true) (he : o.dst = some d) (hd : Nat.blt d n = true) (hy : Y P n cx ρs E Ls o v)
    (h : JpF P ops Q (fun w => St cx ρs Ls w) n cx πA πB π ρ ((d, v) :: E) L) : JpF P ops Q (fun w => St cx ρs Ls w) n cx πA πB ((i, true) :: π) ρ E L :=
  fun a w ha hs => ⟨_, fun _ h => h, id, o, v, nth_arr hi, .inl ⟨hw a ha, fun w' h' => hy a w' ha h'⟩, h _ _ (ha.put' he hd v) hs⟩
theorem JpF.split (hA : Jp P ops Q S n cx πA ρ E L) (hB : Jp P ops Q S n cx πB ρ E L) : JpF P ops Q S n cx πA πB [] ρ E L := fun a w ha hs => ⟨hA a w ha hs, hB a w ha hs⟩
theorem Cd.drawnF {id : Nat} {ops : Array Oper} (Ls : Own) (hL : Subl Ls L) (π πA πB : List (Nat × Bool)) (hm : P.follows .mixedOrders = true) (hok : okRegionF ops πA πB π = true)
    (h : Hp.le cx.r0 ρ → JpF P ops Q (fun w => St cx ρ Ls w) n cx πA πB π ρ E L) : Cd P Q n cx ρ E L (.region id ops true) := fun a w ha hs => by
  simp only [okRegionF, Bool.and_eq_true, beq_iff_eq] at hok
  obtain ⟨⟨⟨⟨⟨⟨o1, o2⟩, o3⟩, o4⟩, o5⟩, o6⟩, o7⟩ := hok
  obtain ⟨x, hx1, hx2⟩ := lastLoud_ex πA o5
  refine wp_mono (wp_region_any (Q := Qn (Q .normal)) hm (wpL_any (S := fun w => St cx ρ Ls w) (x := x) _ _ _ _ ?_)) (qn_mono fun _ _ h => h)
  have h1 := pi_soundF o1 hx1 hx2 (fun k hk => hx2 k (by rw [o6]; exact hk)) o3 (Nat.le_of_ble_eq_true o4) π _ _ a _ (fun j o _ hl => by rw [Array.getD_eq_getD_getElem?, Array.getElem?_replicate] at hl; split at hl <;> simp at hl) o7 (hs.drew.sub hL) (h hs.rle a _ ha hs.drew)
  rw [o2] at h1
  exact h1
end
end Go.Proofs.Ytgfbdiibndbbjaa
