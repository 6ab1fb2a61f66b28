import Derived.Test.YtgmhijlcdadaeaaZShB
import Derived.Test.YtgmhijlcdadaeaaZEngW
import Derived.Test.YtgmhijlcdadaeaaZEngV3
import Derived.Test.YtgmhijlcdadaeaaZEngT2
set_option linter.unusedVariables false
set_option linter.unusedSimpArgs false
set_option maxRecDepth 100000
namespace Go.Proofs.Ytgmhijlcdadaeaa
open Go
theorem rs_get {α : Type} {m : Nat} {c : α → List Value} : ∀ {l : List α} {k j : Nat} {x : α} {v : Value}, (∀ x ∈ l, (c x).length = m) → l[k]? = some x → (c x)[j]? = some v → (l.flatMap c)[k * m + j]? = some v
  | [], _, _, _, _, _, e, _ => by simp at e
  | y :: l, 0, j, x, v, h, e, hv => by
    simp only [List.getElem?_cons_zero, Option.some.injEq] at e
    subst e
    have := (List.getElem?_eq_some_iff.1 hv).1
    rw [List.flatMap_cons, Nat.zero_mul, Nat.zero_add, List.getElem?_append_left this]
    exact hv
  | y :: l, k + 1, j, x, v, h, e, hv => by
    have hy := h y (List.mem_cons_self ..)
    rw [List.flatMap_cons, Nat.succ_mul, List.getElem?_append_right (by omega), hy, show k * m + m + j - m = k * m + j by omega]
    exact rs_get (fun z hz => h z (List.mem_cons_of_mem _ hz)) (by simpa using e) hv
theorem rs_set {α : Type} {m : Nat} {c : α → List Value} : ∀ {l : List α} {k j : Nat} {x x' : α} {v : Value}, (∀ x ∈ l, (c x).length = m) → l[k]? = some x → j < m → (c x).set j v = c x' → (l.flatMap c).set (k * m + j) v = (l.set k x').flatMap c
  | [], _, _, _, _, _, _, e, _, _ => by simp at e
  | y :: l, 0, j, x, x', v, h, e, hj, hv => by
    simp only [List.getElem?_cons_zero, Option.some.injEq] at e
    subst e
    rw [List.flatMap_cons, Nat.zero_mul, Nat.zero_add, List.set_append_left _ _ (by rw [h y (List.mem_cons_self ..)]; exact hj), hv]
    rfl
  | y :: l, k + 1, j, x, x', v, h, e, hj, hv => by
    have hy := h y (List.mem_cons_self ..)
    rw [List.flatMap_cons, Nat.succ_mul, List.set_append_right _ _ (by omega), hy, show k * m + m + j - m = k * m + j by omega, rs_set (fun z hz => h z (List.mem_cons_of_mem _ hz)) (by simpa using e) hj hv]
    rfl
theorem rs_take {α : Type} {m : Nat} {c : α → List Value} : ∀ {l : List α} (k : Nat), (∀ x ∈ l, (c x).length = m) → (l.flatMap c).take (k * m) = (l.take k).flatMap c
  | [], k, _ => by simp
  | y :: l, 0, h => by simp
  | y :: l, k + 1, h => by
    have hy := h y (List.mem_cons_self ..)
    rw [List.flatMap_cons, Nat.succ_mul, List.take_append, hy, List.take_of_length_le (by omega), show k * m + m - m = k * m by omega, rs_take k fun z hz => h z (List.mem_cons_of_mem _ hz), List.take_succ_cons, List.flatMap_cons]
theorem rs_drop {α : Type} {m : Nat} {c : α → List Value} : ∀ {l : List α} (k : Nat), (∀ x ∈ l, (c x).length = m) → (l.flatMap c).drop (k * m) = (l.drop k).flatMap c
  | [], k, _ => by simp
  | y :: l, 0, h => by simp
  | y :: l, k + 1, h => by
    have hy := h y (List.mem_cons_self ..)
    rw [List.flatMap_cons, Nat.succ_mul, List.drop_append, hy, List.drop_of_length_le (by omega), show k * m + m - m = k * m by omega, rs_drop k fun z hz => h z (List.mem_cons_of_mem _ hz), List.drop_succ_cons, List.nil_append]
def lbC (x : Nat × Pg) : List Value := .int .u32 (x.1 : Int) :: bytesV x.2.b
def rsObj (B : Int) (A : Option Addr) (k c : Nat) : Obj := .cells #[.int .i64 B, .slice A k c] 78
def RsO (b : Nat) (B : Int) (l : List (Nat × Pg)) : HProp := Ex fun x : Option Addr × Nat => Fact ((∀ y ∈ l, y.2.b.length = 256) ∧ l.length ≤ 16777217) (Sep (Pt b (rsObj B x.1 l.length x.2)) (OwnS 137 257 x.1 l.length x.2 (l.flatMap lbC)))
theorem lbC_len {x : Nat × Pg} (h : x.2.b.length = 256) : (lbC x).length = 257 := by simp [lbC, bytesV, h]
theorem lbC_base (x : Nat × Pg) : (lbC x)[0]? = some (.int .u32 (x.1 : Int)) := rfl
theorem lbC_byte {x : Nat × Pg} (h : x.2.b.length = 256) {j : Nat} (hj : j < 256) : (lbC x)[1 + j]? = some (.int .u8 ((x.2.b.getD j 0).toNat : Int)) := by
  rw [lbC, Nat.add_comm, List.getElem?_cons_succ, bytesV, List.getElem?_map, List.getD_eq_getElem?_getD, List.getElem?_eq_getElem (by omega)]
  rfl
section
variable {P : Program} {n : Nat} {cx : Cx} {ρ : Hp} {E : Env} {L : Own} {ops : Array Oper} {Q : Exit → Act → World → Prop} {S' : World → Prop} {π : List (Nat × Bool)}
theorem St.rsOpen {w : World} (hs : St cx ρ L w) {b : Nat} {B : Int} {l : List (Nat × Pg)} (j j1 : Nat) (hd : j ≠ j1) (e : look L j = some (RsO b B l)) :
    ∃ x : Option Addr × Nat, ((∀ y ∈ l, y.2.b.length = 256) ∧ l.length ≤ 16777217) ∧ St cx ρ ((j, Pt b (rsObj B x.1 l.length x.2)) :: (j1, OwnS 137 257 x.1 l.length x.2 (l.flatMap lbC)) :: L) w := by
  obtain ⟨x, h1⟩ := hs.ex' e
  obtain ⟨hf, h2⟩ := h1.fact (j := j) (by rw [look_cons, if_pos rfl])
  have h3 := h2.part (j := j) (k := j1) hd (by rw [look_cons, if_pos rfl])
  refine ⟨x, hf, h3.subF fun q C hq => ?_⟩
  simp only [look_cons] at hq ⊢
  by_cases q0 : j = q <;> by_cases q1 : j1 = q <;> simp only [q0, q1, if_true, if_false] at hq ⊢ <;> first | exact hq | (exfalso; omega)
theorem St.rsClose {w : World} (hs : St cx ρ L w) {b : Nat} {B : Int} {l : List (Nat × Pg)} {A : Option Addr} {c : Nat} (j j1 : Nat) (hd : j ≠ j1) (hf : (∀ y ∈ l, y.2.b.length = 256) ∧ l.length ≤ 16777217) (e : look L j = some (Pt b (rsObj B A l.length c))) (e1 : look L j1 = some (OwnS 137 257 A l.length c (l.flatMap lbC))) :
    St cx ρ ((j, RsO b B l) :: (j1, Emp) :: L) w := by
  have h5 := hs.glue (j := j) (k := j1) hd e e1
  have h6 := h5.imp (i := j) (A' := RsO b B l) (by rw [look_cons, if_pos rfl]) fun k hk => ⟨(A, c), hf, hk⟩
  refine h6.subF fun q C hq => ?_
  simp only [look_cons] at hq ⊢
  by_cases q0 : j = q <;> by_cases q1 : j1 = q <;> simp only [q0, q1, if_true, if_false] at hq ⊢ <;> first | exact hq | (exfalso; omega)
theorem Cd.rsOpen {d : Code} {b : Nat} {B : Int} {l : List (Nat × Pg)} (j j1 : Nat) (hd : j ≠ j1) (e : look L j = some (RsO b B l))
    (h : ∀ x : Option Addr × Nat, ((∀ y ∈ l, y.2.b.length = 256) ∧ l.length ≤ 16777217) → Cd P Q n cx ρ E ((j, Pt b (rsObj B x.1 l.length x.2)) :: (j1, OwnS 137 257 x.1 l.length x.2 (l.flatMap lbC)) :: L) d) : Cd P Q n cx ρ E L d := fun a w ha hs =>
  let ⟨x, hf, h2⟩ := hs.rsOpen j j1 hd e; h x hf a w ha h2
theorem Jp.rsOpen {b : Nat} {B : Int} {l : List (Nat × Pg)} (j j1 : Nat) (hd : j ≠ j1) (e : look L j = some (RsO b B l))
    (h : ∀ x : Option Addr × Nat, ((∀ y ∈ l, y.2.b.length = 256) ∧ l.length ≤ 16777217) → Jp P ops Q S' n cx π ρ E ((j, Pt b (rsObj B x.1 l.length x.2)) :: (j1, OwnS 137 257 x.1 l.length x.2 (l.flatMap lbC)) :: L)) : Jp P ops Q S' n cx π ρ E L := fun a w ha hs =>
  let ⟨x, hf, h2⟩ := hs.rsOpen j j1 hd e; h x hf a w ha h2
theorem Cd.rsClose {d : Code} {b : Nat} {B : Int} {l : List (Nat × Pg)} {A : Option Addr} {c : Nat} (j j1 : Nat) (hd : j ≠ j1) (hf : (∀ y ∈ l, y.2.b.length = 256) ∧ l.length ≤ 16777217) (e : look L j = some (Pt b (rsObj B A l.length c))) (e1 : look L j1 = some (OwnS 137 257 A l.length c (l.flatMap lbC)))
    (h : Cd P Q n cx ρ E ((j, RsO b B l) :: (j1, Emp) :: L) d) : Cd P Q n cx ρ E L d := fun a w ha hs => h a w ha (hs.rsClose j j1 hd hf e e1)
theorem Jp.rsClose {b : Nat} {B : Int} {l : List (Nat × Pg)} {A : Option Addr} {c : Nat} (j j1 : Nat) (hd : j ≠ j1) (hf : (∀ y ∈ l, y.2.b.length = 256) ∧ l.length ≤ 16777217) (e : look L j = some (Pt b (rsObj B A l.length c))) (e1 : look L j1 = some (OwnS 137 257 A l.length c (l.flatMap lbC)))
    (h : Jp P ops Q S' n cx π ρ E ((j, RsO b B l) :: (j1, Emp) :: L)) : Jp P ops Q S' n cx π ρ E L := fun a w ha hs => h a w ha (hs.rsClose j j1 hd hf e e1)
end
def findN (l : List (Nat × Pg)) (k : Nat) : Nat := l.findIdx fun x => x.1 == k
theorem findN_cons (x : Nat × Pg) (l : List (Nat × Pg)) (k : Nat) : findN (x :: l) k = if x.1 = k then 0 else findN l k + 1 := by
  unfold findN
  rw [List.findIdx_cons]
  by_cases h : x.1 = k
  · simp [h]
  · have : (x.1 == k) = false := by simpa using h
    rw [this, if_neg h]; rfl
theorem findN_get : ∀ (l : List (Nat × Pg)) (k : Nat), getPg l k = (l[findN l k]?).map (·.2) ∧ (∀ x, l[findN l k]? = some x → x.1 = k) ∧ findN l k ≤ l.length
  | [], k => by simp [findN, getPg]
  | (j, p) :: l, k => by
    have ih := findN_get l k
    rw [findN_cons]
    simp only [getPg]
    by_cases h : j = k
    · simp [h]
    · rw [if_neg h, if_neg h, List.getElem?_cons_succ, List.length_cons]
      exact ⟨ih.1, ih.2.1, by omega⟩
theorem findN_step : ∀ (l : List (Nat × Pg)) (k i : Nat), i ≤ findN l k → ∀ x, l[i]? = some x → (x.1 = k ↔ i = findN l k)
  | [], k, i, _, x, h => by simp at h
  | y :: l, k, 0, _, x, h => by
    simp at h; subst h
    rw [findN_cons]
    by_cases e : y.1 = k
    · simp [e]
    · rw [if_neg e]; simp [e]
  | y :: l, k, i + 1, hi, x, h => by
    rw [findN_cons] at hi ⊢
    by_cases e : y.1 = k
    · rw [if_pos e] at hi; omega
    · rw [if_neg e] at hi ⊢
      have := findN_step l k i (by omega) x (by simpa using h)
      omega
theorem rsFind_spec (b : Nat) (B : Int) (l : List (Nat × Pg)) (a : Nat) (ha : a < 4294967296) (hl : ∀ y ∈ l, y.1 < 4294967296) : Spec Try.prog 87 #[.pointer (some ⟨b, 0, none⟩), .int .u32 a] (fun _ => True) [(0, RsO b B l)]
    (fun ρ ρ' v L => ρ' = ρ ∧ v = .int .i64 (if findN l (baseN a) < l.length then (findN l (baseN a) : Int) else -1) ∧ L = [(0, RsO b B l)]) := by
  refine Spec.of 29 Try.func87 rfl Try.ntmps87 [(0, _), (1, _)] rfl rfl ?_
  intro cx ρ hr h0
  refine Cd.rsOpen 0 1 (by decide) rfl fun x hf => ?_
  obtain ⟨A, c⟩ := x
  dsimp only
  have hrows : ∀ y ∈ l, (lbC y).length = 257 := fun y hy => lbC_len (hf.1 y hy)
  have hmany := hf.2
  obtain ⟨k, hk⟩ : ∃ k, baseN a = k := ⟨_, rfl⟩
  have hkl := base_le a
  rw [hk] at hkl ⊢
  obtain ⟨f, hfn⟩ : ∃ f, findN l k = f := ⟨_, rfl⟩
  have hfl := (findN_get l k).2.2
  rw [hfn] at hfl ⊢
  refine Cd.seq fun K1 hK1 => ?_
  refine Cd.plain [(0, false)] rfl rfl ?_
  refine Jp.y 4 rfl (want_all rfl) rfl rfl Kp.true (Y.assign rfl rfl) ?_
  refine Jp.done hK1 ?_
  refine Cd.seq fun K2 hK2 => ?_
  refine Cd.seq fun K3 hK3 => ?_
  refine Cd.plain [(0, false)] rfl rfl ?_
  refine Jp.y 5 rfl (want_all rfl) rfl rfl Kp.true (Y.assign rfl rfl) ?_
  refine Jp.done hK3 ?_
  refine Cd.block ?_
  refine Cd.loopK (G := Nat) (fun i => i ≤ f) (fun i => f - i) (fun _ => _) (fun i => [(5, .int .i64 (i : Int))]) [(0, _), (1, _)] (fun i => []) [(0, _), (1, _)] 0 (Nat.zero_le _) rfl ⟨rfl, trivial⟩ ⟨rfl, rfl, trivial⟩ trivial ⟨rfl, rfl, trivial⟩ (fun g KLa hok hLa => ?_)
  obtain ⟨i, hi⟩ : ∃ i, i = g := ⟨_, rfl⟩
  rw [← hi] at hok ⊢
  refine Cd.seq fun K4 hK4 => ?_
  refine Cd.seq fun K5 hK5 => ?_
  refine Cd.plain [(0, false), (1, false), (2, false), (3, false), (4, false), (5, false), (6, false)] rfl rfl ?_
  refine Jp.y 6 rfl (want_all rfl) rfl rfl Kp.true (Y.move rfl rfl) ?_
  refine Jp.y 7 rfl (want_all rfl) rfl rfl Kp.true (Y.move rfl rfl) ?_
  refine Jp.y 8 rfl (want_all rfl) rfl rfl Kp.true (Y.nilCheck rfl rfl) ?_
  refine Jp.y 9 rfl (want_all rfl) rfl rfl Kp.true (by first | exact Y.fieldAddrP rfl rfl Try.underlying78 rfl Try.sizeOf76 (by decide) (show _ + 1 = _ from rfl) | exact Y.fieldAddr rfl rfl Try.underlying78 rfl Try.sizeOf76 (by decide)) ?_
  refine Jp.y 10 rfl (want_all rfl) rfl rfl Kp.true (Y.loadO 0 rfl Try.isAgg76 rfl rfl rfl) ?_
  refine Jp.y 11 rfl (want_all rfl) rfl rfl Kp.true (Y.lenslice rfl Try.underlying76 rfl) ?_
  refine Jp.y 12 rfl (want_all rfl) rfl rfl Kp.true (Y.lss rfl rfl rfl) ?_
  refine Jp.done hK5 ?_
  refine Cd.cond rfl (fun ga => ?_) (fun ga => ?_)
  · have hil : i < l.length := by simp at ga; omega
    have hx : l[i]? = some l[i] := List.getElem?_eq_getElem hil
    obtain ⟨y, hy⟩ : ∃ y, y = l[i] := ⟨_, rfl⟩
    rw [← hy] at hx
    have hst := findN_step l k i (by omega) y hx
    rw [hfn] at hst
    have hyl := hl y (List.mem_of_getElem? hx)
    refine Cd.ownAt 1 rfl (show 0 < l.length by omega) ?_
    rintro b1 rfl
    have c0 := OwnS.hasC (e := 137) (m := 257) (k := l.length) (c := c) (ad := ⟨b1, 0, none⟩) (rs_get hrows hx (lbC_base y))
    refine Cd.skip hK4 ?_
    refine Cd.seq fun K6 hK6 => ?_
    refine Cd.block ?_
    refine Cd.seq fun K7 hK7 => ?_
    refine Cd.plain [(0, false), (1, false), (2, false), (3, false), (4, false), (5, false), (6, false), (7, false), (8, false), (9, false), (10, false), (11, false), (12, false)] rfl rfl ?_
    refine Jp.y 15 rfl (want_all rfl) rfl rfl Kp.true (Y.move rfl rfl) ?_
    refine Jp.y 16 rfl (want_all rfl) rfl rfl Kp.true (Y.nilCheck rfl rfl) ?_
    refine Jp.y 17 rfl (want_all rfl) rfl rfl Kp.true (by first | exact Y.fieldAddrP rfl rfl Try.underlying78 rfl Try.sizeOf76 (by decide) (show _ + 1 = _ from rfl) | exact Y.fieldAddr rfl rfl Try.underlying78 rfl Try.sizeOf76 (by decide)) ?_
    refine Jp.y 18 rfl (want_all rfl) rfl rfl Kp.true (by first | exact Y.loadO 0 rfl Try.isAgg76 rfl rfl rfl | exact Y.loadC 1 rfl Try.isAgg76 rfl rfl c0) ?_
    refine Jp.y 19 rfl (want_all rfl) rfl rfl Kp.true (Y.move rfl rfl) ?_
    refine Jp.y 20 rfl (want_all rfl) rfl rfl Kp.true (Y.indexAddr (q := i * 257) rfl rfl rfl Try.underlying76 Try.sizeOf137 (by omega) (by omega) (by omega)) ?_
    refine Jp.y 21 rfl (want_all rfl) rfl rfl Kp.true (by first | exact Y.fieldAddrP rfl rfl Try.underlying137 rfl Try.sizeOf25 (by decide) (show _ + 0 = _ from rfl) | exact Y.fieldAddr rfl rfl Try.underlying137 rfl Try.sizeOf25 (by decide)) ?_
    refine Jp.y 22 rfl (want_all rfl) rfl rfl Kp.true (by first | exact Y.loadO 0 rfl Try.isAgg25 rfl rfl rfl | exact Y.loadC 1 rfl Try.isAgg25 rfl rfl c0) ?_
    refine Jp.y 23 rfl (want_all rfl) rfl rfl Kp.true (Y.move rfl rfl) ?_
    refine Jp.y 24 rfl (want_all rfl) rfl rfl Kp.true (Y.move rfl rfl) ?_
    refine Jp.y 25 rfl (want_all rfl) rfl rfl Kp.true (by first | exact Y.remN rfl rfl rfl (by omega) (by omega) | exact Y.rem rfl rfl rfl (by first | decide | omega)) ?_
    refine Jp.y 26 rfl (want_all rfl) rfl rfl Kp.true (Y.sub_ rfl rfl rfl (by first | exact wrap_u32 (by omega) (by omega) | rfl)) ?_
    refine Jp.slot 26 rfl (show _ = Value.int .u32 (k : Int) from congrArg (Value.int .u32) (by rw [← hk]; unfold baseN; omega)) ?_
    refine Jp.y 27 rfl (want_all rfl) rfl rfl Kp.true (Y.eql rfl rfl rfl) ?_
    refine Jp.done hK7 ?_
    refine Cd.cond rfl (fun gb => ?_) (fun gb => ?_)
    · have hib : i = f := hst.1 (by simp at gb; omega)
      rw [hib]
      refine Cd.seq fun K8 hK8 => ?_
      refine Cd.plain [(0, false), (1, false)] rfl rfl ?_
      refine Jp.y 28 rfl (want_all rfl) rfl rfl Kp.true (Y.move rfl rfl) ?_
      refine Jp.y 4 rfl (want_all rfl) rfl rfl Kp.true (Y.assign rfl rfl) ?_
      refine Jp.done hK8 ?_
      refine Cd.rsClose (b := b) (l := l) 0 1 (by decide) hf rfl rfl ?_
      refine Cd.ret [(0, _)] rfl (res1 rfl rfl) ⟨rfl, trivial⟩ ⟨rfl, by rw [if_pos (by omega)], rfl⟩
    · have hib : i ≠ f := fun e => by
        have := hst.2 e
        simp at gb; omega
      refine Cd.over rfl hK6 ?_
      refine Cd.plain [(0, false), (1, false), (2, false)] rfl rfl ?_
      refine Jp.y 13 rfl (want_all rfl) rfl rfl Kp.true (Y.move rfl rfl) ?_
      refine Jp.y 14 rfl (want_all rfl) rfl rfl Kp.true (Y.add_ rfl rfl rfl (by first | exact wrap_i64 (by omega) (by omega) | rfl)) ?_
      refine Jp.y 5 rfl (want_all rfl) rfl rfl Kp.true (Y.assign rfl rfl) ?_
      rw [show (i : Int) + 1 = ((i + 1 : Nat) : Int) by omega]
      refine Jp.again hLa (i + 1) (by omega) (by omega) rfl ⟨rfl, rfl, rfl, trivial⟩ ⟨rfl, rfl, trivial⟩
  · have hil : ¬ i < l.length := by simpa using ga
    refine Cd.exit rfl hK2 ?_
    refine Cd.seq fun K9 hK9 => ?_
    refine Cd.plain [(0, false)] rfl rfl ?_
    refine Jp.y 4 rfl (want_all rfl) rfl rfl Kp.true (Y.assign rfl rfl) ?_
    refine Jp.done hK9 ?_
    refine Cd.rsClose (b := b) (l := l) 0 1 (by decide) hf rfl rfl ?_
    refine Cd.ret [(0, _)] rfl (res1 rfl rfl) ⟨rfl, trivial⟩ ⟨rfl, by rw [if_neg (by omega)], rfl⟩
theorem rsAt_spec (b : Nat) (B : Int) (l : List (Nat × Pg)) (a : Nat) (ha : a < 4294967296) (hl : ∀ y ∈ l, y.1 < 4294967296) : Spec Try.prog 40 #[.pointer (some ⟨b, 0, none⟩), .int .u32 a] (fun _ => True) [(0, RsO b B l)]
    (fun ρ ρ' v L => ρ' = ρ ∧ v = .int .u8 ((labL l a).toNat : Int) ∧ L = [(0, RsO b B l)]) := by
  refine Spec.of 22 Try.func40 rfl Try.ntmps40 [(0, _), (1, _)] rfl rfl ?_
  intro cx ρ hr h0
  obtain ⟨f, hfn⟩ : ∃ f, findN l (baseN a) = f := ⟨_, rfl⟩
  obtain ⟨g1, g2, g3⟩ := findN_get l (baseN a)
  have hF := rsFind_spec b B l a ha hl
  rw [hfn] at hF g1 g2 g3
  refine Cd.seq fun K10 hK10 => ?_
  refine Cd.plain [(0, false)] rfl rfl ?_
  refine Jp.y 4 rfl (want_all rfl) rfl rfl Kp.true (Y.assign rfl rfl) ?_
  refine Jp.done hK10 ?_
  refine Cd.seq fun K11 hK11 => ?_
  refine Cd.plain [(0, false), (1, false), (2, false), (3, false)] rfl rfl ?_
  refine Jp.y 6 rfl (want_all rfl) rfl rfl Kp.true (Y.move rfl rfl) ?_
  refine Jp.y 7 rfl (want_all rfl) rfl rfl Kp.true (Y.move rfl rfl) ?_
  refine Jp.call [0] [0] hF 8 rfl (want_all rfl) rfl rfl (Runs.fn rfl Try.call87 rfl) (by decide) (by decide) rfl trivial ?_
  rintro v1 ρ1 L1 ⟨rfl, rfl, rfl⟩
  refine ⟨rfl, fun hle1 => ⟨Kp.true, ?_⟩⟩
  refine Jp.y 5 rfl (want_all rfl) rfl rfl Kp.true (Y.assign rfl rfl) ?_
  refine Jp.done hK11 ?_
  refine Cd.seq fun K12 hK12 => ?_
  refine Cd.seq fun K13 hK13 => ?_
  refine Cd.plain [(0, false), (1, false)] rfl rfl ?_
  by_cases hin : f < l.length
  · rw [if_pos hin]
    have hx : l[f]? = some l[f] := List.getElem?_eq_getElem hin
    obtain ⟨y, hy⟩ : ∃ y, y = l[f] := ⟨_, rfl⟩
    rw [← hy] at hx
    rw [hx] at g1
    have hg : getPg l (baseN a) = some y.2 := g1
    refine Jp.rsOpen 0 1 (by decide) rfl fun x hf => ?_
    obtain ⟨A, c⟩ := x
    dsimp only
    have hrows : ∀ y ∈ l, (lbC y).length = 257 := fun y hy => lbC_len (hf.1 y hy)
    refine Jp.ownAt 1 rfl (show 0 < l.length by omega) ?_
    rintro b1 rfl
    have hmany := hf.2
    have hm : a % 256 < 256 := Nat.mod_lt _ (by decide)
    have c0 := OwnS.hasC (e := 137) (m := 257) (k := l.length) (c := c) (ad := ⟨b1, 0, none⟩) (rs_get hrows hx (lbC_byte (hf.1 y (List.mem_of_getElem? hx)) hm))
    rw [add_mk, Nat.zero_add] at c0
    refine Jp.y 9 rfl (want_all rfl) rfl rfl Kp.true (Y.move rfl rfl) ?_
    refine Jp.y 10 rfl (want_all rfl) rfl rfl Kp.true (Y.lss rfl rfl rfl) ?_
    refine Jp.done hK13 ?_
    refine Cd.cond rfl (fun gz => ?_) (fun gz => ?_)
    · exact absurd gz (by simp)
    · skip
      refine Cd.skip hK12 ?_
      refine Cd.seq fun K14 hK14 => ?_
      refine Cd.plain [(0, false), (1, false), (2, false), (3, false), (4, false), (5, false), (6, false), (7, false), (8, false), (9, false), (10, false), (11, false)] rfl rfl ?_
      refine Jp.y 11 rfl (want_all rfl) rfl rfl Kp.true (Y.move rfl rfl) ?_
      refine Jp.y 12 rfl (want_all rfl) rfl rfl Kp.true (Y.nilCheck rfl rfl) ?_
      refine Jp.y 13 rfl (want_all rfl) rfl rfl Kp.true (by first | exact Y.fieldAddrP rfl rfl Try.underlying78 rfl Try.sizeOf76 (by decide) (show _ + 1 = _ from rfl) | exact Y.fieldAddr rfl rfl Try.underlying78 rfl Try.sizeOf76 (by decide)) ?_
      refine Jp.y 14 rfl (want_all rfl) rfl rfl Kp.true (Y.loadO 0 rfl Try.isAgg76 rfl rfl rfl) ?_
      refine Jp.y 15 rfl (want_all rfl) rfl rfl Kp.true (Y.move rfl rfl) ?_
      refine Jp.y 16 rfl (want_all rfl) rfl rfl Kp.true (Y.move rfl rfl) ?_
      refine Jp.y 17 rfl (want_all rfl) rfl rfl Kp.true (by first | exact Y.remN rfl rfl rfl (by omega) (by omega) | exact Y.rem rfl rfl rfl (by first | decide | omega)) ?_
      refine Jp.y 18 rfl (want_all rfl) rfl rfl Kp.true (Y.indexAddr (q := f * 257) rfl rfl rfl Try.underlying76 Try.sizeOf137 (by omega) (by omega) (by omega)) ?_
      refine Jp.slot 18 rfl (show _ = Value.pointer (some ⟨b1, f * 257, none⟩) by rw [add_mk, Nat.zero_add]) ?_
      refine Jp.y 19 rfl (want_all rfl) rfl rfl Kp.true (by first | exact Y.fieldAddrP rfl rfl Try.underlying137 rfl Try.sizeOf106 (by decide) (show _ + 1 = _ from rfl) | exact Y.fieldAddr rfl rfl Try.underlying137 rfl Try.sizeOf106 (by decide)) ?_
      refine Jp.y 20 rfl (want_all rfl) rfl rfl Kp.true (Y.indexArrP (q := f * 257 + (1 + a % 256)) rfl rfl rfl Try.underlying106 Try.sizeOf5 (by omega) (by omega) (by omega)) ?_
      refine Jp.y 21 rfl (want_all rfl) rfl rfl Kp.true (by first | exact Y.loadO 0 rfl Try.isAgg5 rfl rfl rfl | exact Y.loadC 1 rfl Try.isAgg5 rfl rfl c0) ?_
      refine Jp.y 4 rfl (want_all rfl) rfl rfl Kp.true (Y.assign rfl rfl) ?_
      refine Jp.done hK14 ?_
      refine Cd.rsClose (b := b) (l := l) 0 1 (by decide) hf rfl rfl ?_
      refine Cd.ret [(0, _)] rfl (res1 rfl rfl) ⟨rfl, trivial⟩ ⟨rfl, by rw [labL_some hg], rfl⟩
  · rw [if_neg hin]
    have hg : getPg l (baseN a) = none := by rw [g1, List.getElem?_eq_none (by omega)]; rfl
    refine Jp.y 9 rfl (want_all rfl) rfl rfl Kp.true (Y.move rfl rfl) ?_
    refine Jp.y 10 rfl (want_all rfl) rfl rfl Kp.true (Y.lss rfl rfl rfl) ?_
    refine Jp.done hK13 ?_
    refine Cd.cond rfl (fun gz => ?_) (fun gz => ?_)
    · skip
      refine Cd.seq fun K15 hK15 => ?_
      refine Cd.plain [(0, false)] rfl rfl ?_
      refine Jp.y 4 rfl (want_all rfl) rfl rfl Kp.true (Y.assign rfl rfl) ?_
      refine Jp.done hK15 ?_
      refine Cd.ret [(0, _)] rfl (res1 rfl rfl) ⟨rfl, trivial⟩ ⟨rfl, by rw [labL_none hg]; rfl, rfl⟩
    · exact absurd gz (by simp)
end Go.Proofs.Ytgmhijlcdadaeaa
