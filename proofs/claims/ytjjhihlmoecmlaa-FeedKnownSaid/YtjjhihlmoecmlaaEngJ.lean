/- The small logic, part ten: pieces that are told by a choice or a fact; blocks side by side in one piece; cells of any piece; loops that keep slots. -/
import Derived.Test.YtjjhihlmoecmlaaEngI
set_option linter.unusedVariables false
set_option linter.unusedSimpArgs false
namespace Go.Proofs.Ytjjhihlmoecmlaa
open Go
/-! ### 28. Choices and facts -/
/-- For some x, A x. -/
def Ex {ι : Type} (A : ι → HProp) : HProp := fun h => ∃ x, A x h
def Fact (φ : Prop) (A : HProp) : HProp := fun h => φ ∧ A h
/-- Blocks side by side: all distinct. -/
def Blks (l : List (Nat × Obj)) : HProp := fun h => (l.map (·.1)).Nodup ∧ ∀ b o, (b, o) ∈ l → h b = some o
section
variable {P : Program} {n : Nat} {cx : Cx} {ρ : Hp} {E : Env} {L : Own} {o : Oper} {ops : Array Oper} {Q : Exit → Act → World → Prop} {S' : World → Prop} {π : List (Nat × Bool)} {i : Nat} {v : Value}
theorem St.ex' {w : World} (hs : St cx ρ L w) {j : Nat} {ι : Type} {A : ι → HProp} (e : look L j = some (Ex A)) : ∃ x, St cx ρ ((j, A x) :: L) w := by
  obtain ⟨H, a, b, c, d⟩ := hs.ex
  obtain ⟨x, hx⟩ := a j _ e
  refine ⟨x, { hs with ex := ⟨H, fun i B hB => ?_, b, c, d⟩ }⟩
  rw [look_cons] at hB
  split at hB
  · rename_i h; injection hB with hB; subst hB; subst h; exact hx
  · exact a i B hB
theorem St.fact {w : World} (hs : St cx ρ L w) {j : Nat} {φ : Prop} {A : HProp} (e : look L j = some (Fact φ A)) : φ ∧ St cx ρ ((j, A) :: L) w := by
  obtain ⟨H, a, b, c, d⟩ := hs.ex
  exact ⟨(a j _ e).1, hs.imp e fun k hk => hk.2⟩
theorem Cd.ex {d : Code} (j : Nat) {ι : Type} {A : ι → HProp} (e : look L j = some (Ex A)) (h : ∀ x, Cd P Q n cx ρ E ((j, A x) :: L) d) : Cd P Q n cx ρ E L d := fun a w ha hs =>
  let ⟨x, hx⟩ := hs.ex' e; h x a w ha hx
theorem Cd.fact {d : Code} (j : Nat) {φ : Prop} {A : HProp} (e : look L j = some (Fact φ A)) (h : φ → Cd P Q n cx ρ E ((j, A) :: L) d) : Cd P Q n cx ρ E L d := fun a w ha hs =>
  let ⟨x, hx⟩ := hs.fact e; h x a w ha hx
theorem Jp.ex (j : Nat) {ι : Type} {A : ι → HProp} (e : look L j = some (Ex A)) (h : ∀ x, Jp P ops Q S' n cx π ρ E ((j, A x) :: L)) : Jp P ops Q S' n cx π ρ E L := fun a w ha hs =>
  let ⟨x, hx⟩ := hs.ex' e; h x a w ha hx
theorem Jp.fact (j : Nat) {φ : Prop} {A : HProp} (e : look L j = some (Fact φ A)) (h : φ → Jp P ops Q S' n cx π ρ E ((j, A) :: L)) : Jp P ops Q S' n cx π ρ E L := fun a w ha hs =>
  let ⟨x, hx⟩ := hs.fact e; h x a w ha hx
/-- A fact about a piece that is owned. -/
theorem Cd.know {d : Code} (j : Nat) {A : HProp} {φ : Prop} (e : look L j = some A) (f : ∀ k, A k → φ) (h : φ → Cd P Q n cx ρ E L d) : Cd P Q n cx ρ E L d := fun a w ha hs =>
  let ⟨_, hk, _⟩ := hs.get e; h (f _ hk) a w ha hs
theorem Jp.know (j : Nat) {A : HProp} {φ : Prop} (e : look L j = some A) (f : ∀ k, A k → φ) (h : φ → Jp P ops Q S' n cx π ρ E L) : Jp P ops Q S' n cx π ρ E L := fun a w ha hs =>
  let ⟨_, hk, _⟩ := hs.get e; h (f _ hk) a w ha hs
/-! ### 29. Cells of any piece -/
/-- A piece's cell. -/
def HasC (A : HProp) (a : Addr) (v : Value) : Prop := ∀ h, A h → cellH h a = some v
theorem Y.loadC (j : Nat) {x : Operand} {t : TypeId} {a : Addr} {A : HProp} (hop : o.op = .load t x) (hA : ∀ w, (isAgg t).run P w = .ok false w) (hx : evE E x = some (.pointer (some a))) (hj : look L j = some A) (hc : HasC A a v) : Y P n cx ρ E L o v := fun ac w ha hs => by
  obtain ⟨k, hk, hw⟩ := hs.get hj
  simp only [execOp, hop, ha.ev hx, Sem.run_bind, run_load1 hA (cell_of hw (hc k hk)), Result.andThen_ok, Sem.run_pure]
theorem Y.loadAggC (j : Nat) {x : Operand} {t : TypeId} {a : Addr} {m : Nat} {A : HProp} (cs : List Value) (hop : o.op = .load t x) (hA : ∀ w, (isAgg t).run P w = .ok true w) (hz : ∀ w, (sizeOf t).run P w = .ok m w) (hx : evE E x = some (.pointer (some a)))
    (hj : look L j = some A) (hm : cs.length = m) (hc : ∀ h, A h → Cells h a cs) : Y P n cx ρ E L o (.agg cs.toArray) := fun ac w ha hs => by
  obtain ⟨k, hk, hw⟩ := hs.get hj
  simp only [execOp, hop, ha.ev hx, Sem.run_bind, run_loadAgg hA hz hm (fun j v e => cell_of hw (hc k hk j v e)), Result.andThen_ok, Sem.run_pure]
def Hp.upd (h : Hp) (b : Nat) (ob : Obj) : Hp := fun p => if p = b then some ob else h p
/-- A value may be laid into a piece's cell: what comes of it. -/
def SetC (A A' : HProp) (b off : Nat) (v : Value) : Prop := ∀ h, A h → ∃ cs T fr, h b = some (.cells cs T fr) ∧ off < cs.size ∧ noFr fr off ∧ A' (h.upd b (.cells (cs.setIfInBounds off v) T fr))
theorem Jp.storeC (j : Nat) {x y : Operand} {t : TypeId} {a : Addr} {b off : Nat} {A : HProp} (A' : HProp) (hi : nth ops.toList i = some o) (hw : Want n ops E o true) (he : o.dst = none)
    (hop : o.op = .store t x y) (hz : ∀ w, (sizeOf t).run P w = .ok 1 w) (hx : evE E x = some (.pointer (some a))) (hy : evE E y = some v) (h1 : one v = true)
    (hj : look L j = some A) (ha' : a = ⟨b, off, none⟩) (hset : SetC A A' b off v)
    (hk : Kp π S' cx ρ ((j, A') :: L)) (h : Jp P ops Q S' n cx π ρ E ((j, A') :: L)) : Jp P ops Q S' n cx ((i, false) :: π) ρ E L := by
  subst ha'
  intro a w ha hs
  obtain ⟨k, hk0, hkw⟩ := hs.get hj
  obtain ⟨cs, T, fr, hb, hlt, hnf, _⟩ := hset k hk0
  have hbw := hkw _ _ hb
  have hc : w.cell? ⟨b, off, none⟩ = some cs[off] := by simp [World.cell?, hbw, hlt]
  have hr := run_store1 (P := P) hz (v := v) h1 hc (by rw [frozen_pt hbw]; exact hnf)
  simp only [wpPi, wpOp, nth_arr hi, hw a ha, if_true, Oper.wp, execOp, hop, ha.ev hx, ha.ev hy, Sem.run_bind, hr, Result.andThen_ok, Sem.run_pure, Oper.upon, he]
  have hs' : St cx ρ ((j, A') :: L) (w.setCell ⟨b, off, none⟩ v) := by
    refine hs.set hj (fun k' hk' hkw' => ?_) (by simp) rfl rfl rfl
    obtain ⟨cs', T', fr', hb', _, _, hA'⟩ := hset k' hk'
    have e := hkw' _ _ hb'
    rw [hbw] at e
    injection e with e
    injection e with e1 e2 e3
    subst e1 e2 e3
    refine ⟨_, hA', fun p ob hp => ?_, fun p hp => ?_⟩
    · rw [setCell_heap hbw]
      unfold Hp.upd at hp
      split at hp
      · rename_i hpb; subst hpb; rw [if_pos rfl]; exact ⟨hp, by rw [hb']; simp⟩
      · rename_i hpb; rw [if_neg hpb]; exact ⟨hkw' _ _ hp, by rw [hp]; simp⟩
    · rw [setCell_heap hbw, if_neg]
      intro e; subst e
      rw [hb'] at hp; cases hp
  exact .inl ⟨hk.get hs', h _ _ ha hs'⟩
/-! ### 30. Blocks side by side -/
theorem Blks.cell {l : List (Nat × Obj)} {b off : Nat} {cs : Array Value} {T : TypeId} {fr : Nat × Nat} (hm : (b, Obj.cells cs T fr) ∈ l) (hc : cs[off]? = some v) : HasC (Blks l) ⟨b, off, none⟩ v := fun h hh => by
  simp [cellH, hh.2 _ _ hm, hc]
theorem Blks.cells {l : List (Nat × Obj)} {b : Nat} {cs : List Value} {T : TypeId} {fr : Nat × Nat} (hm : (b, Obj.cells cs.toArray T fr) ∈ l) : ∀ h, Blks l h → Cells h ⟨b, 0, none⟩ cs := fun h hh j v e => by
  rw [add_mk]; simp [cellH, hh.2 _ _ hm, e]
def updB (l : List (Nat × Obj)) (b : Nat) (ob : Obj) : List (Nat × Obj) := l.map fun p => if p.1 = b then (b, ob) else p
theorem updB_keys (l : List (Nat × Obj)) (b : Nat) (ob : Obj) : (updB l b ob).map (·.1) = l.map (·.1) := by
  rw [updB, List.map_map]
  apply List.map_congr_left
  intro p _
  simp only [Function.comp]
  split
  · rename_i h; exact h.symm
  · rfl
theorem Blks.set {l l' : List (Nat × Obj)} {b off : Nat} {cs : Array Value} {T : TypeId} {fr : Nat × Nat} (hm : (b, Obj.cells cs T fr) ∈ l) (hlt : off < cs.size) (hnf : noFr fr off) (hl : updB l b (.cells (cs.setIfInBounds off v) T fr) = l') : SetC (Blks l) (Blks l') b off v := fun h hh => by
  subst hl
  refine ⟨cs, T, fr, hh.2 _ _ hm, hlt, hnf, by rw [updB_keys]; exact hh.1, fun p ob hp => ?_⟩
  obtain ⟨q, hq, e⟩ := List.mem_map.1 hp
  unfold Hp.upd
  split at e
  · rename_i hqb; injection e with e1 e2; subst e1 e2; rw [if_pos rfl]
  · rename_i hqb; subst e; rw [if_neg hqb]; exact hh.2 _ _ hq
theorem Blks.sub {l l' : List (Nat × Obj)} (s : l'.Sublist l) : ∀ k, Blks l k → Blks l' k := fun k hk => ⟨hk.1.sublist (s.map _), fun b o h => hk.2 b o (s.subset h)⟩
theorem Blks.perm {l l' : List (Nat × Obj)} (s : l.Perm l') : ∀ k, Blks l k → Blks l' k := fun k hk => ⟨(s.map _).nodup_iff.1 hk.1, fun b o h => hk.2 b o (s.mem_iff.2 h)⟩
theorem Blks.join {l : List (Nat × Obj)} {b : Nat} {ob : Obj} : ∀ k, Sep (Blks l) (Pt b ob) k → Blks ((b, ob) :: l) k := fun k ⟨h1, h2, a1, a2, d, l1, l2⟩ => by
  refine ⟨?_, fun p o hp => ?_⟩
  · rw [List.map_cons, List.nodup_cons]
    refine ⟨fun hm => ?_, a1.1⟩
    obtain ⟨q, hq, e⟩ := List.mem_map.1 hm
    have h3 := a1.2 q.1 q.2 hq
    have h4 : h2 b = some ob := a2
    dsimp only at e
    rw [e] at h3
    rcases d b with h | h
    · rw [h3] at h; cases h
    · rw [h4] at h; cases h
  · rcases List.mem_cons.1 hp with h | h
    · injection h with e1 e2; subst e1 e2; exact l2 _ _ a2
    · exact l1 _ _ (a1.2 p o h)
theorem Blks.nil : Blks [] Hp.emp := ⟨by simp, fun b o h => by cases h⟩
theorem emp_cons {j : Nat} {A B : HProp} {w : World} (hs : St cx ρ ((j, A) :: (j, B) :: L) w) : St cx ρ ((j, A) :: L) w := hs.subF fun q C e => by
  rw [look_cons] at e ⊢
  split at e
  · rename_i h; rw [if_pos h]; exact e
  · rename_i h; rw [if_neg h, look_cons, if_neg h]; exact e
theorem St.joinB {w : World} (hs : St cx ρ L w) {j k b : Nat} {l : List (Nat × Obj)} {ob : Obj} (hjk : j ≠ k) (e1 : look L j = some (Blks l)) (e2 : look L k = some (Pt b ob)) : St cx ρ ((j, Blks ((b, ob) :: l)) :: (k, Emp) :: L) w :=
  emp_cons ((hs.glue hjk e1 e2).imp (i := j) (A := Sep (Blks l) (Pt b ob)) (by rw [look_cons, if_pos rfl]) Blks.join)
theorem Cd.joinB {d : Code} (j k : Nat) {b : Nat} {l : List (Nat × Obj)} {ob : Obj} (hjk : j ≠ k) (e1 : look L j = some (Blks l)) (e2 : look L k = some (Pt b ob)) (h : Cd P Q n cx ρ E ((j, Blks ((b, ob) :: l)) :: (k, Emp) :: L) d) : Cd P Q n cx ρ E L d := fun a w ha hs => h a w ha (hs.joinB hjk e1 e2)
theorem Jp.joinB (j k : Nat) {b : Nat} {l : List (Nat × Obj)} {ob : Obj} (hjk : j ≠ k) (e1 : look L j = some (Blks l)) (e2 : look L k = some (Pt b ob)) (h : Jp P ops Q S' n cx π ρ E ((j, Blks ((b, ob) :: l)) :: (k, Emp) :: L)) : Jp P ops Q S' n cx π ρ E L := fun a w ha hs => h a w ha (hs.joinB hjk e1 e2)
/-- What stands behind a test that only leaves is proved once, for a frame and pieces of our choice. -/
theorem Jp.joinC {c : Operand} {x r : Code} {K : Act → World → Prop} {Q'' : Exit → Act → World → Prop} {φ : Prop} (hK : ∀ a w, (Code.seq (.cond c x .skip) r).wp P Q'' a w → K a w) (Ej : Env) (hE : Subl Ej E) (Lj : Own) (hL : Subl Lj L)
    (main : φ → Cd P Q'' n cx ρ Ej Lj r) (rest : (φ → Cd P Q'' n cx ρ Ej Lj r) → Jp P ops Q S' n cx π ρ E L) : Jp P ops Q S' n cx π ρ E L := rest main
theorem Cd.joinC {c : Operand} {x r d : Code} {K : Act → World → Prop} {Q'' : Exit → Act → World → Prop} {φ : Prop} (hK : ∀ a w, (Code.seq (.cond c x .skip) r).wp P Q'' a w → K a w) (Ej : Env) (hE : Subl Ej E) (Lj : Own) (hL : Subl Lj L)
    (main : φ → Cd P Q'' n cx ρ Ej Lj r) (rest : (φ → Cd P Q'' n cx ρ Ej Lj r) → Cd P Q n cx ρ E L d) : Cd P Q n cx ρ E L d := rest main
theorem Jp.joinK {r : Code} {K : Act → World → Prop} {Q'' : Exit → Act → World → Prop} {φ : Prop} (hK : ∀ a w, r.wp P Q'' a w → K a w) (Ej : Env) (hE : Subl Ej E) (Lj : Own) (hL : Subl Lj L)
    (main : φ → Cd P Q'' n cx ρ Ej Lj r) (rest : (φ → Cd P Q'' n cx ρ Ej Lj r) → Jp P ops Q S' n cx π ρ E L) : Jp P ops Q S' n cx π ρ E L := rest main
theorem Cd.joinK {r d : Code} {K : Act → World → Prop} {Q'' : Exit → Act → World → Prop} {φ : Prop} (hK : ∀ a w, r.wp P Q'' a w → K a w) (Ej : Env) (hE : Subl Ej E) (Lj : Own) (hL : Subl Lj L)
    (main : φ → Cd P Q'' n cx ρ Ej Lj r) (rest : (φ → Cd P Q'' n cx ρ Ej Lj r) → Cd P Q n cx ρ E L d) : Cd P Q n cx ρ E L d := rest main
theorem Cd.meet {d : Code} {E' : Env} {L' : Own} (h : Cd P Q n cx ρ E' L' d) (hE : Subl E' E) (hL : Subl L' L) : Cd P Q n cx ρ E L d := h.trim hE hL
/-- What stands behind, proved once for a family of states. -/
theorem Jp.joinG {r : Code} {K : Act → World → Prop} {Q'' : Exit → Act → World → Prop} {G : Type} (φ : G → Prop) (Ev : G → Env) (Ek : Env) (hEk : Subl Ek E) (Lv : G → Own) (Lk : Own) (hLk : Subl Lk L) (hK : ∀ a w, r.wp P Q'' a w → K a w)
    (main : ∀ g, φ g → Cd P Q'' n cx ρ (Ev g ++ Ek) (Lv g ++ Lk) r) (rest : (∀ g, φ g → Cd P Q'' n cx ρ (Ev g ++ Ek) (Lv g ++ Lk) r) → Jp P ops Q S' n cx π ρ E L) : Jp P ops Q S' n cx π ρ E L := rest main
theorem Cd.joinG {r d : Code} {K : Act → World → Prop} {Q'' : Exit → Act → World → Prop} {G : Type} (φ : G → Prop) (Ev : G → Env) (Ek : Env) (hEk : Subl Ek E) (Lv : G → Own) (Lk : Own) (hLk : Subl Lk L) (hK : ∀ a w, r.wp P Q'' a w → K a w)
    (main : ∀ g, φ g → Cd P Q'' n cx ρ (Ev g ++ Ek) (Lv g ++ Lk) r) (rest : (∀ g, φ g → Cd P Q'' n cx ρ (Ev g ++ Ek) (Lv g ++ Lk) r) → Cd P Q n cx ρ E L d) : Cd P Q n cx ρ E L d := rest main
theorem Cd.meet' {d : Code} {E' : Env} {L' : Own} {ρs : Hp} (h : Cd P Q n cx ρs E' L' d) (hle : Hp.le ρs ρ) (h0 : Hp.le cx.r0 ρs) (hE : Subl E' E) (hL : Subl L' L) : Cd P Q n cx ρ E L d := fun a w ha hs => h a w (ha.sub hE) ((hs.down hle h0).sub hL)
/-! ### 31. Loops that keep slots and pieces -/
theorem subl_app {α : Type} {l m : List (Nat × α)} {k : List (Nat × α)} (h1 : Subl l k) (h2 : Subl m k) : Subl (l ++ m) k := by
  induction l with
  | nil => exact h2
  | cons p l ih => exact ⟨h1.1, ih h1.2⟩
theorem JpQ.again {G : Type} {ok : G → Prop} {mu : G → Nat} {ro : G → Hp} {Eo : G → Env} {Lo : G → Own} {g : G} {K : Act → World → Prop} (hQ : Q .normal = K)
    (hK : ∀ g' a w, ok g' → mu g' < mu g → At n (Eo g') a → St cx (ro g') (Lo g') w → K a w) (g' : G) (h1 : ok g') (h2 : mu g' < mu g) (hr : ro g' = ρ) (hE : Subl (Eo g') E) (hL : Subl (Lo g') L) : Jp P ops Q S' n cx [] ρ E L :=
  fun a w ha hs => by rw [wpPi, hQ]; exact hK g' a w h1 h2 (ha.sub hE) (by rw [hr]; exact hs.sub hL)
theorem CdQ.again {G : Type} {ok : G → Prop} {mu : G → Nat} {ro : G → Hp} {Eo : G → Env} {Lo : G → Own} {g : G} {K : Act → World → Prop} (hQ : Q .normal = K)
    (hK : ∀ g' a w, ok g' → mu g' < mu g → At n (Eo g') a → St cx (ro g') (Lo g') w → K a w) (g' : G) (h1 : ok g') (h2 : mu g' < mu g) (hr : ro g' = ρ) (hE : Subl (Eo g') E) (hL : Subl (Lo g') L) : Cd P Q n cx ρ E L .skip :=
  fun a w ha hs => wp_skip (by rw [hQ]; exact hK g' a w h1 h2 (ha.sub hE) (by rw [hr]; exact hs.sub hL))
theorem Cd.loopK {c : Code} {G : Type} (ok : G → Prop) (mu : G → Nat) (ro : G → Hp) (Ev : G → Env) (Ek : Env) (Lv : G → Own) (Lk : Own) (g0 : G) (h0 : ok g0) (hr : ro g0 = ρ) (hE : Subl (Ev g0) E) (hEk : Subl Ek E) (hL : Subl (Lv g0) L) (hLk : Subl Lk L)
    (round : ∀ (g : G) (K : Act → World → Prop), ok g → (∀ g' a w, ok g' → mu g' < mu g → At n (Ev g' ++ Ek) a → St cx (ro g') (Lv g' ++ Lk) w → K a w) → Cd P (Exit.then K Q) n cx (ro g) (Ev g ++ Ek) (Lv g ++ Lk) c) :
    Cd P Q n cx ρ E L (.loop c) := Cd.loop ok mu ro (fun g => Ev g ++ Ek) (fun g => Lv g ++ Lk) g0 h0 hr (subl_app hE hEk) (subl_app hL hLk) round
end
end Go.Proofs.Ytjjhihlmoecmlaa
