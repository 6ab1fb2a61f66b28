/- Bytes as a feed: plain laws of reading and writing. -/
import Derived.Test.YtjjhihlmoecmlaaFeedG
import Derived.Test.YtjjhihlmoecmlaaEngL
set_option linter.unusedVariables false
set_option linter.unusedSimpArgs false
set_option maxRecDepth 100000
namespace Go.Proofs.Ytjjhihlmoecmlaa
open Go
/-- A reader: what is left, whether something was not there. -/
abbrev PS := Bytes × Bool
section
variable {α β : Type}
def bindP (f : PS → α × PS) (g : α → PS → β × PS) : PS → β × PS := fun s => g (f s).1 (f s).2
def pureP (x : α) : PS → α × PS := fun s => (x, s)
def manyP (f : PS → α × PS) : Nat → PS → List α × PS
  | 0 => pureP []
  | k + 1 => bindP f fun x => bindP (manyP f k) fun l => pureP (x :: l)
/-- Many, till something is not there. -/
def manyR (f : PS → α × PS) : Nat → PS → List α × PS
  | 0 => pureP []
  | k + 1 => fun s => if s.2 then ([], s) else bindP f (fun x => bindP (manyR f k) fun l => pureP (x :: l)) s
def bindO (o : Bytes → Option (α × Bytes)) (p : α → Bytes → Option (β × Bytes)) : Bytes → Option (β × Bytes) := fun b => match o b with | some (x, r) => p x r | none => none
def pureO (x : α) : Bytes → Option (α × Bytes) := fun b => some (x, b)
def manyO (o : Bytes → Option (α × Bytes)) : Nat → Bytes → Option (List α × Bytes)
  | 0 => pureO []
  | k + 1 => bindO o fun x => bindO (manyO o k) fun l => pureO (x :: l)
theorem bindO_some {o : Bytes → Option (α × Bytes)} {p : α → Bytes → Option (β × Bytes)} {b : Bytes} {z : β × Bytes} : bindO o p b = some z ↔ ∃ x r, o b = some (x, r) ∧ p x r = some z := by
  unfold bindO
  cases h : o b with
  | none => simp
  | some y =>
    obtain ⟨x, r⟩ := y
    dsimp only
    constructor
    · intro e; exact ⟨x, r, rfl, e⟩
    · rintro ⟨x2, r2, e, e2⟩
      injection e with e; injection e with e3 e4; subst e3; subst e4; exact e2
/-- The one reads as the other, as long as nothing is missing. -/
def Sim (f : PS → α × PS) (o : Bytes → Option (α × Bytes)) : Prop :=
  (∀ b, (f (b, true)).2.2 = true) ∧ ∀ b, match o b with | some (x, r) => f (b, false) = (x, (r, false)) | none => (f (b, false)).2.2 = true
theorem Sim.bad {f : PS → α × PS} {o : Bytes → Option (α × Bytes)} (h : Sim f o) {s : PS} (hs : s.2 = true) : (f s).2.2 = true := by
  obtain ⟨b, t⟩ := s
  dsimp only at hs; subst hs; exact h.1 b
theorem Sim.pure (x : α) : Sim (pureP x) (pureO x) := ⟨fun _ => rfl, fun _ => rfl⟩
theorem Sim.bind {f : PS → α × PS} {o : Bytes → Option (α × Bytes)} {g : α → PS → β × PS} {p : α → Bytes → Option (β × Bytes)} (h1 : Sim f o) (h2 : ∀ x, Sim (g x) (p x)) : Sim (bindP f g) (bindO o p) := by
  refine ⟨fun b => (h2 _).bad (h1.1 b), fun b => ?_⟩
  have h := h1.2 b
  unfold bindO bindP
  cases ho : o b with
  | none => rw [ho] at h; exact (h2 _).bad h
  | some y =>
    obtain ⟨x, r⟩ := y
    rw [ho] at h; dsimp only at h ⊢
    rw [h]; exact (h2 x).2 r
theorem Sim.many {f : PS → α × PS} {o : Bytes → Option (α × Bytes)} (h : Sim f o) : ∀ k, Sim (manyP f k) (manyO o k)
  | 0 => Sim.pure _
  | k + 1 => h.bind fun _ => (h.many k).bind fun _ => Sim.pure _
theorem Sim.manyR {f : PS → α × PS} {o : Bytes → Option (α × Bytes)} (h : Sim f o) : ∀ k, Sim (manyR f k) (manyO o k)
  | 0 => Sim.pure _
  | k + 1 => by
    have := h.bind fun x => (h.manyR k).bind fun l => Sim.pure (x :: l)
    exact ⟨fun b => rfl, fun b => this.2 b⟩
/-- What stands behind does not matter. -/
def Ext (o : Bytes → Option (α × Bytes)) : Prop := ∀ b x r y, o b = some (x, r) → o (b ++ y) = some (x, r ++ y)
theorem Ext.pure (x : α) : Ext (pureO x) := fun b z r y h => by
  unfold pureO at h ⊢
  injection h with h; injection h with h1 h2; subst h1; subst h2; rfl
theorem Ext.bind {o : Bytes → Option (α × Bytes)} {p : α → Bytes → Option (β × Bytes)} (h1 : Ext o) (h2 : ∀ x, Ext (p x)) : Ext (bindO o p) := fun b z r y h => by
  obtain ⟨x, q, e1, e2⟩ := bindO_some.1 h
  exact bindO_some.2 ⟨x, q ++ y, h1 _ _ _ y e1, h2 x _ _ _ y e2⟩
theorem Ext.many {o : Bytes → Option (α × Bytes)} (h : Ext o) : ∀ k, Ext (manyO o k)
  | 0 => Ext.pure _
  | k + 1 => h.bind fun _ => (h.many k).bind fun _ => Ext.pure _
theorem many_guard {oL oU : Bytes → Option (α × Bytes)} {φ : α → Prop} (h : ∀ b x r, oL b = some (x, r) ↔ oU b = some (x, r) ∧ φ x) : ∀ k b l r, manyO oL k b = some (l, r) ↔ manyO oU k b = some (l, r) ∧ ∀ x ∈ l, φ x
  | 0, b, l, r => by
    simp only [manyO, pureO, Option.some.injEq, Prod.mk.injEq]
    exact ⟨fun ⟨h1, h2⟩ => ⟨⟨h1, h2⟩, by subst h1; simp⟩, fun h => h.1⟩
  | k + 1, b, l, r => by
    simp only [manyO]
    constructor
    · intro e
      obtain ⟨x, q, e1, e2⟩ := bindO_some.1 e
      obtain ⟨l2, q2, e3, e4⟩ := bindO_some.1 e2
      obtain ⟨f1, f2⟩ := (h _ _ _).1 e1
      obtain ⟨f3, f4⟩ := (many_guard h k _ _ _).1 e3
      refine ⟨bindO_some.2 ⟨x, q, f1, bindO_some.2 ⟨l2, q2, f3, e4⟩⟩, ?_⟩
      injection e4 with e4; injection e4 with e5 e6
      subst e5
      intro z hz
      rcases List.mem_cons.1 hz with rfl | hz
      · exact f2
      · exact f4 z hz
    · rintro ⟨e, hl⟩
      obtain ⟨x, q, e1, e2⟩ := bindO_some.1 e
      obtain ⟨l2, q2, e3, e4⟩ := bindO_some.1 e2
      have e4' := e4
      injection e4 with e4; injection e4 with e5 e6
      subst e5
      exact bindO_some.2 ⟨x, q, (h _ _ _).2 ⟨e1, hl x (by simp)⟩, bindO_some.2 ⟨l2, q2, (many_guard h k _ _ _).2 ⟨e3, fun z hz => hl z (by simp [hz])⟩, e4'⟩⟩
end
/-! ### Numbers, texts -/
def numP (s : PS) : Nat × PS := if s.1.length < 4 then (0, ([], true)) else (leN (s.1.take 4), (s.1.drop 4, s.2))
def countP (most : Nat) (s : PS) : Nat × PS := if most < (numP s).1 then (0, ([], true)) else numP s
def textRdP (most : Nat) (s : PS) : Bytes × PS := if (countP most s).2.1.length < (countP most s).1 then ([], ([], true)) else ((countP most s).2.1.take (countP most s).1, ((countP most s).2.1.drop (countP most s).1, (countP most s).2.2))
def numR (s : PS) : Nat × PS := if s.2 = true ∨ s.1.length < 4 then (0, (s.1, true)) else (leN (s.1.take 4), (s.1.drop 4, false))
def bytesR (n : Nat) (s : PS) : Bytes × PS := if s.2 = true ∨ s.1.length < n then ([], (s.1, true)) else (s.1.take n, (s.1.drop n, false))
def textR (s : PS) : Bytes × PS := bytesR (numR s).1 (numR s).2
def numO (b : Bytes) : Option (Nat × Bytes) := if b.length < 4 then none else some (leN (b.take 4), b.drop 4)
def countO (most : Nat) (b : Bytes) : Option (Nat × Bytes) := match numO b with | some (n, r) => if most < n then none else some (n, r) | none => none
def textU : Bytes → Option (Bytes × Bytes) := bindO numO fun n r => if r.length < n then none else some (r.take n, r.drop n)
def textO (most : Nat) : Bytes → Option (Bytes × Bytes) := bindO (countO most) fun n r => if r.length < n then none else some (r.take n, r.drop n)
theorem sim_num : Sim numP numO := by
  refine ⟨fun b => ?_, fun b => ?_⟩
  · unfold numP; split <;> rfl
  · unfold numO numP
    by_cases h : b.length < 4
    · rw [if_pos h, if_pos h]
    · rw [if_neg h, if_neg h]
theorem sim_count (most : Nat) : Sim (countP most) (countO most) := by
  refine ⟨fun b => ?_, fun b => ?_⟩
  · unfold countP; split
    · rfl
    · exact sim_num.1 b
  · have h := sim_num.2 b
    unfold countO countP
    cases ho : numO b with
    | none =>
      rw [ho] at h
      dsimp only at h ⊢
      split
      · rfl
      · exact h
    | some y =>
      obtain ⟨x, r⟩ := y
      rw [ho] at h
      dsimp only at h ⊢
      rw [h]
      dsimp only
      by_cases hm : most < x
      · rw [if_pos hm, if_pos hm]
      · rw [if_neg hm, if_neg hm]
theorem sim_numR : Sim numR numO := by
  refine ⟨fun b => ?_, fun b => ?_⟩
  · unfold numR; rw [if_pos (.inl rfl)]
  · unfold numO numR
    by_cases h : b.length < 4
    · rw [if_pos h, if_pos (.inr h)]
    · rw [if_neg h, if_neg (by simp; omega)]
theorem textRdP_eq (most : Nat) : textRdP most = bindP (countP most) fun n s => if s.1.length < n then ([], ([], true)) else (s.1.take n, (s.1.drop n, s.2)) := rfl
theorem textR_eq : textR = bindP numR bytesR := rfl
theorem sim_text (most : Nat) : Sim (textRdP most) (textO most) := by
  rw [textRdP_eq]
  refine (sim_count most).bind fun n => ⟨fun b => ?_, fun b => ?_⟩
  · dsimp only; split <;> rfl
  · dsimp only
    by_cases h : b.length < n
    · rw [if_pos h, if_pos h]
    · rw [if_neg h, if_neg h]
theorem sim_textR : Sim textR textU := by
  rw [textR_eq]
  refine sim_numR.bind fun n => ⟨fun b => ?_, fun b => ?_⟩
  · unfold bytesR; rw [if_pos (.inl rfl)]
  · unfold bytesR
    dsimp only
    by_cases h : b.length < n
    · rw [if_pos h, if_pos (.inr h)]
    · rw [if_neg h, if_neg (by simp; omega)]
theorem count_iff {most : Nat} {b : Bytes} {n : Nat} {r : Bytes} : countO most b = some (n, r) ↔ numO b = some (n, r) ∧ n ≤ most := by
  unfold countO
  cases ho : numO b with
  | none => simp
  | some y =>
    obtain ⟨x, q⟩ := y
    dsimp only
    by_cases hm : most < x
    · rw [if_pos hm]
      constructor
      · intro h; cases h
      · rintro ⟨h, h2⟩
        injection h with h; injection h with h3 h4; omega
    · rw [if_neg hm]
      constructor
      · intro h
        have h' := h
        injection h with h; injection h with h3 h4
        exact ⟨h', by omega⟩
      · exact fun h => h.1
theorem text_iff {most : Nat} {b : Bytes} {t r : Bytes} : textO most b = some (t, r) ↔ textU b = some (t, r) ∧ t.length ≤ most := by
  unfold textO textU
  constructor
  · intro h
    obtain ⟨n, q, h1, h2⟩ := bindO_some.1 h
    obtain ⟨h3, h4⟩ := count_iff.1 h1
    refine ⟨bindO_some.2 ⟨n, q, h3, h2⟩, ?_⟩
    split at h2
    · cases h2
    · injection h2 with h2; injection h2 with h5 h6; subst h5; rw [List.length_take]; omega
  · rintro ⟨h, hl⟩
    obtain ⟨n, q, h1, h2⟩ := bindO_some.1 h
    refine bindO_some.2 ⟨n, q, count_iff.2 ⟨h1, ?_⟩, h2⟩
    split at h2
    · cases h2
    · injection h2 with h2; injection h2 with h5 h6; subst h5; rw [List.length_take] at hl; omega
theorem ext_num : Ext numO := fun b x r y h => by
  unfold numO at h ⊢
  by_cases hb : b.length < 4
  · rw [if_pos hb] at h; cases h
  · rw [if_neg hb] at h
    injection h with h; injection h with h1 h2
    subst h1; subst h2
    rw [if_neg (by rw [List.length_append]; omega), List.take_append_of_le_length (by omega), List.drop_append_of_le_length (by omega)]
theorem ext_count (most : Nat) : Ext (countO most) := fun b x r y h => by
  obtain ⟨h1, h2⟩ := count_iff.1 h
  exact count_iff.2 ⟨ext_num _ _ _ y h1, h2⟩
theorem ext_cut (n : Nat) : Ext (fun r : Bytes => if r.length < n then none else some (r.take n, r.drop n)) := fun b x r y h => by
  dsimp only at h ⊢
  by_cases hb : b.length < n
  · rw [if_pos hb] at h; cases h
  · rw [if_neg hb] at h
    injection h with h; injection h with h1 h2
    subst h1; subst h2
    rw [if_neg (by rw [List.length_append]; omega), List.take_append_of_le_length (by omega), List.drop_append_of_le_length (by omega)]
theorem ext_text (most : Nat) : Ext (textO most) := (ext_count most).bind ext_cut
/-! ### Feeds -/
def natsI (l : List Nat) : List Int := l.map fun n : Nat => (n : Int)
def fileP : PS → (Bytes × Bytes) × PS := bindP (textRdP 40) fun n => bindP (textRdP 4096) fun d => pureP (n, d)
def fileR : PS → (Bytes × Bytes) × PS := bindP textR fun n => bindP textR fun d => pureP (n, d)
def fileO : Bytes → Option ((Bytes × Bytes) × Bytes) := bindO (textO 40) fun n => bindO (textO 4096) fun d => pureO (n, d)
def fileU : Bytes → Option ((Bytes × Bytes) × Bytes) := bindO textU fun n => bindO textU fun d => pureO (n, d)
def feedRdP : PS → FeedP × PS := bindP (countP 16) fun na => bindP (manyP (textRdP 200) na) fun args => bindP (textRdP 4096) fun inp => bindP (countP 64) fun ns => bindP (manyP numP ns) fun short =>
  bindP (textRdP 4096) fun rnd => bindP (countP 64) fun nc => bindP (manyP numP nc) fun clk => bindP (countP 8) fun nf => bindP (manyP fileP nf) fun files => pureP { args := args, input := inp, short := natsI short, random := rnd, clock := natsI clk, files := files }
def feedO : Bytes → Option (FeedP × Bytes) := bindO (countO 16) fun na => bindO (manyO (textO 200) na) fun args => bindO (textO 4096) fun inp => bindO (countO 64) fun ns => bindO (manyO numO ns) fun short =>
  bindO (textO 4096) fun rnd => bindO (countO 64) fun nc => bindO (manyO numO nc) fun clk => bindO (countO 8) fun nf => bindO (manyO fileO nf) fun files => pureO { args := args, input := inp, short := natsI short, random := rnd, clock := natsI clk, files := files }
structure RdR where
  f : FeedP
  n : Nat
  k : Nat
  c : Nat
  q : Nat
def feedRdR : PS → RdR × PS := bindP numR fun na => bindP (manyR textR (min na 20)) fun args => bindP textR fun inp => bindP numR fun ns => bindP (manyR numR (min ns 70)) fun short =>
  bindP textR fun rnd => bindP numR fun nc => bindP (manyR numR (min nc 70)) fun clk => bindP numR fun nf => bindP (manyR fileR (min nf 20)) fun files => pureP ⟨{ args := args, input := inp, short := natsI short, random := rnd, clock := natsI clk, files := files }, na, ns, nc, nf⟩
def feedU : Bytes → Option (RdR × Bytes) := bindO numO fun na => bindO (manyO textU (min na 20)) fun args => bindO textU fun inp => bindO numO fun ns => bindO (manyO numO (min ns 70)) fun short =>
  bindO textU fun rnd => bindO numO fun nc => bindO (manyO numO (min nc 70)) fun clk => bindO numO fun nf => bindO (manyO fileU (min nf 20)) fun files => pureO ⟨{ args := args, input := inp, short := natsI short, random := rnd, clock := natsI clk, files := files }, na, ns, nc, nf⟩
theorem sim_file : Sim fileP fileO := (sim_text 40).bind fun _ => (sim_text 4096).bind fun _ => Sim.pure _
theorem sim_fileR : Sim fileR fileU := sim_textR.bind fun _ => sim_textR.bind fun _ => Sim.pure _
theorem sim_feed : Sim feedRdP feedO := (sim_count 16).bind fun _ => ((sim_text 200).many _).bind fun _ => (sim_text 4096).bind fun _ => (sim_count 64).bind fun _ => (sim_num.many _).bind fun _ =>
  (sim_text 4096).bind fun _ => (sim_count 64).bind fun _ => (sim_num.many _).bind fun _ => (sim_count 8).bind fun _ => (sim_file.many _).bind fun _ => Sim.pure _
theorem sim_feedR : Sim feedRdR feedU := sim_numR.bind fun _ => (sim_textR.manyR _).bind fun _ => sim_textR.bind fun _ => sim_numR.bind fun _ => (sim_numR.manyR _).bind fun _ =>
  sim_textR.bind fun _ => sim_numR.bind fun _ => (sim_numR.manyR _).bind fun _ => sim_numR.bind fun _ => (sim_fileR.manyR _).bind fun _ => Sim.pure _
theorem ext_file : Ext fileO := (ext_text 40).bind fun _ => (ext_text 4096).bind fun _ => Ext.pure _
theorem ext_feed : Ext feedO := (ext_count 16).bind fun _ => ((ext_text 200).many _).bind fun _ => (ext_text 4096).bind fun _ => (ext_count 64).bind fun _ => (ext_num.many _).bind fun _ =>
  (ext_text 4096).bind fun _ => (ext_count 64).bind fun _ => (ext_num.many _).bind fun _ => (ext_count 8).bind fun _ => (ext_file.many _).bind fun _ => Ext.pure _
theorem file_iff {b : Bytes} {x : Bytes × Bytes} {r : Bytes} : fileO b = some (x, r) ↔ fileU b = some (x, r) ∧ (x.1.length ≤ 40 ∧ x.2.length ≤ 4096) := by
  unfold fileO fileU
  constructor
  · intro h
    obtain ⟨n, q, h1, h2⟩ := bindO_some.1 h
    obtain ⟨d, q2, h3, h4⟩ := bindO_some.1 h2
    obtain ⟨f1, f2⟩ := text_iff.1 h1
    obtain ⟨f3, f4⟩ := text_iff.1 h3
    refine ⟨bindO_some.2 ⟨n, q, f1, bindO_some.2 ⟨d, q2, f3, h4⟩⟩, ?_⟩
    injection h4 with h4; injection h4 with h5 h6; subst h5; exact ⟨f2, f4⟩
  · rintro ⟨h, l1, l2⟩
    obtain ⟨n, q, h1, h2⟩ := bindO_some.1 h
    obtain ⟨d, q2, h3, h4⟩ := bindO_some.1 h2
    have h4' := h4
    injection h4 with h4; injection h4 with h5 h6; subst h5
    exact bindO_some.2 ⟨n, q, text_iff.2 ⟨h1, l1⟩, bindO_some.2 ⟨d, q2, text_iff.2 ⟨h3, l2⟩, h4'⟩⟩
/-- What the reader of the document reads. -/
def getR (b : Bytes) : Option FeedP := if (feedRdR (b, false)).2.2 = true ∨ (feedRdR (b, false)).2.1 ≠ [] ∨ 16 < (feedRdR (b, false)).1.n ∨ 64 < (feedRdR (b, false)).1.k ∨ 64 < (feedRdR (b, false)).1.c ∨ 8 < (feedRdR (b, false)).1.q ∨ good (feedRdR (b, false)).1.f = false then none else some (feedRdR (b, false)).1.f
def getP (b : Bytes) : Option FeedP := if (feedRdP (b, false)).2.2 = true ∨ (feedRdP (b, false)).2.1 ≠ [] ∨ good (feedRdP (b, false)).1 = false then none else some (feedRdP (b, false)).1
theorem getP_some {b : Bytes} {f : FeedP} : getP b = some f ↔ feedO b = some (f, []) ∧ good f = true := by
  have h := sim_feed.2 b
  unfold getP
  cases ho : feedO b with
  | none => rw [ho] at h; dsimp only at h; simp [h]
  | some y =>
    obtain ⟨x, r⟩ := y
    rw [ho] at h; dsimp only at h
    rw [h]
    dsimp only
    by_cases hr : r = []
    · subst hr
      by_cases hg : good x = true
      · simp [hg]; rintro rfl; exact hg
      · simp [hg]; rintro rfl; simpa using hg
    · simp [hr]
theorem good_lens {f : FeedP} (h : good f = true) : f.args.length ≤ 16 ∧ f.short.length ≤ 64 ∧ f.clock.length ≤ 64 ∧ f.files.length ≤ 8 ∧ f.input.length ≤ 4096 ∧ f.random.length ≤ 4096 ∧ (∀ t ∈ f.args, t.length ≤ 200) ∧ ∀ x ∈ f.files, x.1.length ≤ 40 ∧ x.2.length ≤ 4096 := by
  simp only [good, goodArgs, goodFiles, Bool.and_eq_true, decide_eq_true_eq, List.all_eq_true, List.mem_range] at h
  obtain ⟨⟨⟨⟨⟨⟨h1, h2⟩, h3⟩, h4⟩, h5⟩, h6, h7⟩, h8, h9⟩ := h
  refine ⟨h7, h2, h3, h9, h4, h5, fun t ht => ?_, fun x hx => ?_⟩
  · have := h6 t ht
    simp only [goodArg, Bool.and_eq_true, decide_eq_true_eq] at this; exact this.1
  · obtain ⟨i, hi, e⟩ := List.getElem_of_mem hx
    have := h8 i hi
    simp only [okAt, List.getElem?_eq_getElem hi, e, goodFile, Bool.and_eq_true, decide_eq_true_eq] at this
    exact ⟨this.1.1.1.2, this.1.2⟩
theorem many_len {α : Type} {o : Bytes → Option (α × Bytes)} : ∀ {k b l r}, manyO o k b = some (l, r) → l.length = k
  | 0, b, l, r, h => by
    simp only [manyO, pureO, Option.some.injEq, Prod.mk.injEq] at h
    rw [← h.1]; rfl
  | k + 1, b, l, r, h => by
    simp only [manyO] at h
    obtain ⟨x, q, e1, e2⟩ := bindO_some.1 h
    obtain ⟨l2, q2, e3, e4⟩ := bindO_some.1 e2
    injection e4 with e4; injection e4 with e5 e6
    subst e5; rw [List.length_cons, many_len e3]
theorem getR_some {b : Bytes} {f : FeedP} : getR b = some f ↔ feedO b = some (f, []) ∧ good f = true := by
  have h := sim_feedR.2 b
  have key : getR b = some f ↔ ∃ x, feedU b = some (x, []) ∧ x.f = f ∧ x.n ≤ 16 ∧ x.k ≤ 64 ∧ x.c ≤ 64 ∧ x.q ≤ 8 ∧ good f = true := by
    unfold getR
    cases ho : feedU b with
    | none => rw [ho] at h; dsimp only at h; simp [h]
    | some y =>
      obtain ⟨x, r⟩ := y
      rw [ho] at h; dsimp only at h
      rw [h]
      dsimp only
      constructor
      · intro e
        split at e
        · cases e
        · rename_i hn
          injection e with e; subst e
          simp only [not_or, Nat.not_lt, Bool.not_eq_false] at hn
          obtain ⟨_, n1, n2, n3, n4, n5, n6⟩ := hn
          have : r = [] := by simpa using n1
          subst this
          exact ⟨x, rfl, rfl, n2, n3, n4, n5, n6⟩
      · rintro ⟨z, e, e1, n2, n3, n4, n5, n6⟩
        injection e with e; injection e with e2 e3
        subst e2; subst e3; subst e1
        rw [if_neg (by simp only [not_or, Nat.not_lt, Bool.not_eq_false]; exact ⟨by simp, by simp, n2, n3, n4, n5, n6⟩)]
  rw [key]
  constructor
  · rintro ⟨x, e, rfl, n2, n3, n4, n5, n6⟩
    refine ⟨?_, n6⟩
    obtain ⟨_, _, _, _, g5, g6, g7, g8⟩ := good_lens n6
    unfold feedU at e
    obtain ⟨na, r1, e1, e⟩ := bindO_some.1 e
    obtain ⟨args, r2, e2, e⟩ := bindO_some.1 e
    obtain ⟨inp, r3, e3, e⟩ := bindO_some.1 e
    obtain ⟨ns, r4, e4, e⟩ := bindO_some.1 e
    obtain ⟨short, r5, e5, e⟩ := bindO_some.1 e
    obtain ⟨rnd, r6, e6, e⟩ := bindO_some.1 e
    obtain ⟨nc, r7, e7, e⟩ := bindO_some.1 e
    obtain ⟨clk, r8, e8, e⟩ := bindO_some.1 e
    obtain ⟨nf, r9, e9, e⟩ := bindO_some.1 e
    obtain ⟨files, r10, e10, e⟩ := bindO_some.1 e
    injection e with e; injection e with e e'
    subst e; subst e'
    dsimp only at n2 n3 n4 n5 g5 g6 g7 g8
    rw [Nat.min_eq_left (by omega)] at e2 e5 e8 e10
    exact bindO_some.2 ⟨na, r1, count_iff.2 ⟨e1, n2⟩, bindO_some.2 ⟨args, r2, (many_guard (fun _ _ _ => text_iff) _ _ _ _).2 ⟨e2, g7⟩, bindO_some.2 ⟨inp, r3, text_iff.2 ⟨e3, g5⟩, bindO_some.2 ⟨ns, r4, count_iff.2 ⟨e4, n3⟩, bindO_some.2 ⟨short, r5, e5,
      bindO_some.2 ⟨rnd, r6, text_iff.2 ⟨e6, g6⟩, bindO_some.2 ⟨nc, r7, count_iff.2 ⟨e7, n4⟩, bindO_some.2 ⟨clk, r8, e8, bindO_some.2 ⟨nf, r9, count_iff.2 ⟨e9, n5⟩, bindO_some.2 ⟨files, [], (many_guard (fun _ _ _ => file_iff) _ _ _ _).2 ⟨e10, g8⟩, rfl⟩⟩⟩⟩⟩⟩⟩⟩⟩⟩
  · rintro ⟨e, n6⟩
    unfold feedO at e
    obtain ⟨na, r1, e1, e⟩ := bindO_some.1 e
    obtain ⟨args, r2, e2, e⟩ := bindO_some.1 e
    obtain ⟨inp, r3, e3, e⟩ := bindO_some.1 e
    obtain ⟨ns, r4, e4, e⟩ := bindO_some.1 e
    obtain ⟨short, r5, e5, e⟩ := bindO_some.1 e
    obtain ⟨rnd, r6, e6, e⟩ := bindO_some.1 e
    obtain ⟨nc, r7, e7, e⟩ := bindO_some.1 e
    obtain ⟨clk, r8, e8, e⟩ := bindO_some.1 e
    obtain ⟨nf, r9, e9, e⟩ := bindO_some.1 e
    obtain ⟨files, r10, e10, e⟩ := bindO_some.1 e
    injection e with e; injection e with e e'
    subst e; subst e'
    obtain ⟨e1, n2⟩ := count_iff.1 e1
    obtain ⟨e4, n3⟩ := count_iff.1 e4
    obtain ⟨e7, n4⟩ := count_iff.1 e7
    obtain ⟨e9, n5⟩ := count_iff.1 e9
    refine ⟨⟨_, na, ns, nc, nf⟩, bindO_some.2 ⟨na, r1, e1, bindO_some.2 ⟨args, r2, ?_, bindO_some.2 ⟨inp, r3, (text_iff.1 e3).1, bindO_some.2 ⟨ns, r4, e4, bindO_some.2 ⟨short, r5, ?_, bindO_some.2 ⟨rnd, r6, (text_iff.1 e6).1, bindO_some.2 ⟨nc, r7, e7, bindO_some.2 ⟨clk, r8, ?_,
      bindO_some.2 ⟨nf, r9, e9, bindO_some.2 ⟨files, [], ?_, rfl⟩⟩⟩⟩⟩⟩⟩⟩⟩⟩, rfl, n2, n3, n4, n5, n6⟩
    · rw [Nat.min_eq_left (by omega)]; exact ((many_guard (fun _ _ _ => text_iff) _ _ _ _).1 e2).1
    · rw [Nat.min_eq_left (by omega)]; exact e5
    · rw [Nat.min_eq_left (by omega)]; exact e8
    · rw [Nat.min_eq_left (by omega)]; exact ((many_guard (fun _ _ _ => file_iff) _ _ _ _).1 e10).1
theorem getP_getR (b : Bytes) : getP b = getR b := by
  cases h : getR b with
  | some f => exact getP_some.2 (getR_some.1 h)
  | none =>
    cases h2 : getP b with
    | none => rfl
    | some f => rw [getR_some.2 (getP_some.1 h2)] at h; cases h
/-! ### Written, read back -/
def encText (s : Bytes) : Bytes := leB s.length 4 ++ s
def encFile (x : Bytes × Bytes) : Bytes := encText x.1 ++ encText x.2
def encInt (n : Int) : Bytes := leB n.toNat 4
def putFeedP (f : FeedP) : Bytes := leB f.args.length 4 ++ f.args.flatMap encText ++ encText f.input ++ leB f.short.length 4 ++ f.short.flatMap encInt ++ encText f.random ++ leB f.clock.length 4 ++ f.clock.flatMap encInt ++ leB f.files.length 4 ++ f.files.flatMap encFile
def Reads {α : Type} (o : Bytes → Option (α × Bytes)) (x : α) (e : Bytes) : Prop := ∀ y, o (e ++ y) = some (x, y)
theorem reads_num {n : Nat} (h : n < 4294967296) : Reads numO n (leB n 4) := fun y => by
  unfold numO
  have hl := leB_length n 4
  rw [if_neg (by rw [List.length_append]; omega), List.take_append_of_le_length (by omega), List.drop_append_of_le_length (by omega), List.take_of_length_le (by omega), List.drop_of_length_le (by omega), leN_leB]
  rw [Nat.mod_eq_of_lt (by omega)]; rfl
theorem reads_count {most n : Nat} (h : n < 4294967296) (hm : n ≤ most) : Reads (countO most) n (leB n 4) := fun y => count_iff.2 ⟨reads_num h y, hm⟩
theorem Reads.bind {α β : Type} {o : Bytes → Option (α × Bytes)} {p : α → Bytes → Option (β × Bytes)} {x : α} {z : β} {e1 e2 : Bytes} (h1 : Reads o x e1) (h2 : Reads (p x) z e2) : Reads (bindO o p) z (e1 ++ e2) := fun y => bindO_some.2 ⟨x, e2 ++ y, by rw [List.append_assoc]; exact h1 _, h2 y⟩
theorem Reads.pure {α : Type} (x : α) : Reads (pureO x) x [] := fun y => rfl
theorem reads_text {most : Nat} {s : Bytes} (h : s.length < 4294967296) (hm : s.length ≤ most) : Reads (textO most) s (encText s) := by
  refine (reads_count h hm).bind fun y => ?_
  rw [if_neg (by rw [List.length_append]; omega), List.take_append_of_le_length (by omega), List.drop_append_of_le_length (by omega), List.take_of_length_le (by omega), List.drop_of_length_le (by omega)]; rfl
theorem reads_many {α : Type} {o : Bytes → Option (α × Bytes)} {enc : α → Bytes} : ∀ {l : List α}, (∀ x ∈ l, Reads o x (enc x)) → Reads (manyO o l.length) l (l.flatMap enc)
  | [], _ => Reads.pure []
  | x :: l, h => by
    have h1 := (reads_many (l := l) fun z hz => h z (by simp [hz])).bind (p := fun l => pureO (x :: l)) (Reads.pure (x :: l))
    rw [List.append_nil] at h1
    exact (h x (by simp)).bind (p := fun x => bindO (manyO o l.length) fun l => pureO (x :: l)) h1
theorem natsI_toNat {l : List Int} (h : ∀ x ∈ l, 0 ≤ x) : natsI (l.map Int.toNat) = l := by
  rw [natsI, List.map_map]
  conv => rhs; rw [← List.map_id l]
  exact List.map_congr_left fun x hx => by have := h x hx; simp; omega
theorem put_get {f : FeedP} (hg : good f = true) (hc : ∀ x ∈ f.clock, 0 ≤ x ∧ x < 4294967296) : Reads feedO f (putFeedP f) := by
  obtain ⟨g1, g2, g3, g4, g5, g6, g7, g8⟩ := good_lens hg
  have hs : ∀ x ∈ f.short, 0 ≤ x ∧ x ≤ 4096 := fun x hx => by
    simp only [good, Bool.and_eq_true, List.all_eq_true] at hg
    have := hg.1.1.1.1.1.1 x hx
    simpa [goodShort] using this
  have e1 : f.short.flatMap encInt = (f.short.map Int.toNat).flatMap (leB · 4) := by rw [List.flatMap_map]; rfl
  have e2 : f.clock.flatMap encInt = (f.clock.map Int.toNat).flatMap (leB · 4) := by rw [List.flatMap_map]; rfl
  have r1 : Reads (manyO numO f.short.length) (f.short.map Int.toNat) (f.short.flatMap encInt) := by
    have := reads_many (o := numO) (enc := (leB · 4)) (l := f.short.map Int.toNat) fun x hx => by
      obtain ⟨z, hz, rfl⟩ := List.mem_map.1 hx
      exact reads_num (by have := hs z hz; omega)
    rw [List.length_map] at this; rw [e1]; exact this
  have r2 : Reads (manyO numO f.clock.length) (f.clock.map Int.toNat) (f.clock.flatMap encInt) := by
    have := reads_many (o := numO) (enc := (leB · 4)) (l := f.clock.map Int.toNat) fun x hx => by
      obtain ⟨z, hz, rfl⟩ := List.mem_map.1 hx
      exact reads_num (by have := hc z hz; omega)
    rw [List.length_map] at this; rw [e2]; exact this
  have r3 : Reads (manyO (textO 200) f.args.length) f.args (f.args.flatMap encText) := reads_many fun x hx => reads_text (by have := g7 x hx; omega) (g7 x hx)
  have r4 : Reads (manyO fileO f.files.length) f.files (f.files.flatMap encFile) := reads_many fun x hx => by
    have h := g8 x hx
    have h2 := (reads_text (s := x.2) (by omega) h.2).bind (p := fun d => pureO (x.1, d)) (Reads.pure (x.1, x.2))
    rw [List.append_nil] at h2
    exact (reads_text (s := x.1) (by omega) h.1).bind (p := fun n => bindO (textO 4096) fun d => pureO (n, d)) h2
  have hfin : f = { args := f.args, input := f.input, short := natsI (f.short.map Int.toNat), random := f.random, clock := natsI (f.clock.map Int.toNat), files := f.files } := by
    rw [natsI_toNat fun x hx => (hs x hx).1, natsI_toNat fun x hx => (hc x hx).1]
  have e3 : putFeedP f = leB f.args.length 4 ++ (f.args.flatMap encText ++ (encText f.input ++ (leB f.short.length 4 ++ (f.short.flatMap encInt ++ (encText f.random ++ (leB f.clock.length 4 ++ (f.clock.flatMap encInt ++ (leB f.files.length 4 ++ (f.files.flatMap encFile ++ []))))))))) := by
    simp only [putFeedP, List.append_assoc, List.append_nil]
  rw [e3]
  have fin := Reads.pure { f with short := natsI (f.short.map Int.toNat), clock := natsI (f.clock.map Int.toNat) }
  rw [show ({ f with short := natsI (f.short.map Int.toNat), clock := natsI (f.clock.map Int.toNat) } : FeedP) = f from hfin.symm] at fin
  unfold feedO
  refine (reads_count (by omega) g1).bind (r3.bind ((reads_text (by omega) g5).bind ((reads_count (by omega) g2).bind (r1.bind ((reads_text (by omega) g6).bind ((reads_count (by omega) g3).bind (r2.bind ((reads_count (by omega) g4).bind (r4.bind ?_)))))))))
  rw [natsI_toNat fun x hx => (hs x hx).1, natsI_toNat fun x hx => (hc x hx).1]
  exact Reads.pure f
end Go.Proofs.Ytjjhihlmoecmlaa
