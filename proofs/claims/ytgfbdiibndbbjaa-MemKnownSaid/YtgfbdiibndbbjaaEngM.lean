/- The small logic, part thirteen: ranging over a function: rounds, yield. -/
import Derived.Test.YtgfbdiibndbbjaaEngO
import Derived.RangeFuncLeaves
import Derived.RangeFuncRecord
set_option linter.unusedVariables false
set_option linter.unusedSimpArgs false
namespace Go.Proofs.Ytgfbdiibndbbjaa
open Go
/-! ### 37. Operations that enter nothing -/
/-- Whatever an operation comes to, it is a value or nothing. -/
def ValOnly (o : Oper) : Prop := (∀ c, o.op ≠ .defer c) ∧ ∀ ev P w nx w', (execOp ev o).run P w = .ok nx w' → (∃ v, nx = .value v) ∨ nx = .skip
theorem run_val {x : Sem Value} {P : Program} {w w' : World} {nx : Next} (h : (do pure (Next.value (← x)) : Sem Next).run P w = .ok nx w') : ∃ v, nx = .value v := by
  rw [Sem.run_bind] at h
  cases hx : x.run P w with
  | ok v w1 => rw [hx] at h; simp only [Result.andThen_ok, Sem.run_pure] at h; injection h with h1 h2; exact ⟨v, h1.symm⟩
  | halt s w1 => rw [hx] at h; cases h
theorem run_then {x : Sem Unit} {nx0 : Next} {P : Program} {w w' : World} {nx : Next} (h : (do x; pure nx0 : Sem Next).run P w = .ok nx w') : nx = nx0 := by
  rw [Sem.run_bind] at h
  cases hx : x.run P w with
  | ok v w1 => rw [hx] at h; simp only [Result.andThen_ok, Sem.run_pure] at h; injection h with h1 h2; exact h1.symm
  | halt s w1 => rw [hx] at h; cases h
/-- In whatever frame: operations that enter nothing are carried out as ever. -/
theorem opsIn_of {P : Program} {ops : Array Oper} {F : Fence} {m : Nat} {N N' : Act → World → Prop} {D : List Deferred} (hF : ∀ f, F.fn f) (hval : ∀ (i : Nat) (o : Oper), ops[i]? = some o → ValOnly o) (hN : ∀ a w, N a w → N' { a with defers := D } w) :
    ∀ (l : List Nat) (a : Act) (w : World), wpOps P ops (Qn N) l a w → wpOpsIn F m P ops (Qn N') l { a with defers := D } w := by
  intro l
  induction l with
  | nil => intro a w h; exact hN a w h
  | cons i l ih =>
    intro a w h
    simp only [wpOps] at h
    simp only [wpOpsIn]
    cases ho : ops[i]? with
    | none => simp only [ho] at h ⊢; exact ih a w h
    | some o =>
      simp only [ho] at h ⊢
      have hput : ∀ v, ({ a.put o.dst v with defers := D } : Act) = ({ a with defers := D } : Act).put o.dst v := fun v => by
        cases o.dst <;> rfl
      by_cases hw : Region.wanted o (yielded ops a.tmps) = true
      · rw [if_pos hw] at h
        rw [if_pos hw]
        have h1 : o.wp P a w (wpOps P ops (Qn N) l) (Qn N) := by
          rcases h with h | ⟨_, h⟩
          · exact h
          · obtain ⟨a', w', h'⟩ := h; exact h'.elim
        refine ⟨fun f _ => hF f, ?_⟩
        rw [Oper.semAt_eq _ _ _ (hval i o ho).1]
        show o.uponIn F m P { a with defers := D } (wpOpsIn F m P ops (Qn N') l) (Qn N') ((execOp a.eval o).run P w)
        unfold Oper.wp at h1
        cases hr : (execOp a.eval o).run P w with
        | ok nx w' =>
          rw [hr] at h1
          rcases (hval i o ho).2 _ _ _ _ _ hr with ⟨v, rfl⟩ | rfl
          · show wpOpsIn F m P ops (Qn N') l (({ a with defers := D } : Act).put o.dst v) w'
            rw [← hput]; exact ih _ _ h1
          · show wpOpsIn F m P ops (Qn N') l (({ a with defers := D } : Act).put o.dst undef) w'
            rw [← hput]; exact ih _ _ h1
        | halt s w' =>
          rw [hr] at h1
          cases s <;> first | exact h1.elim | exact h1
      · rw [if_neg hw] at h
        rw [if_neg hw]
        exact ⟨fun f _ => hF f, by rw [← hput]; exact ih _ _ h⟩
/-- A region of operations that enter nothing, in whatever frame. -/
theorem regionIn_of {P : Program} {n : Nat} {cx : Cx} {ρ : Hp} {E : Env} {L : Own} {Q : Exit → Act → World → Prop} {F : Fence} {m id : Nat} {l : List Oper} {D : List Deferred} {Q' : Exit → Act → World → Prop} (hF : ∀ f, F.fn f) (hval : ∀ o ∈ l, ValOnly o) (π : List (Nat × Bool)) (hπ : π.map (·.1) = List.range l.length) (hf : π.all (fun p => !p.2) = true)
    (h : Jp P l.toArray Q (fun _ => True) n cx π ρ E L) {a : Act} {w : World} (ha : At n E a) (hs : St cx ρ L w) (hN : ∀ a w, Q .normal a w → Q' .normal { a with defers := D } w) : (Code.region id l.toArray false).wpIn F m P Q' { a with defers := D } w := by
  refine wpIn_mono (wpIn_region (Q := Qn (Q' .normal)) ?_) (fun e a w h => by cases e <;> first | exact h | exact h.elim)
  have := wpOps_of_pi (ops := l.toArray) π a w (fun p hp => by have := List.all_eq_true.1 hf p hp; simpa using this) (h a w ha hs)
  rw [hπ] at this
  have h2 := opsIn_of (F := F) (m := m) (N' := Q' .normal) (D := D) hF (fun i o ho => hval o (by rw [List.getElem?_toArray] at ho; exact List.mem_of_getElem? ho)) hN _ _ _ this
  simpa using h2
/-! ### 38. Yield -/
/-- What is handed to yield is taken: the piece J of what was handed so far grows. -/
def Yields (P : Program) (l : Nat) (J : List Value → HProp) (ok : List Value → Prop) : Prop :=
  ∀ seen k, ok (seen ++ [k]) → ∀ w M ρ, St ⟨w, M, ρ⟩ ρ [(0, J seen)] w → ∃ r : Loop, w.heap[l]? = some (.loop r) ∧ r.params.size = 1 ∧
    ∀ m, RoundIn Fence.wide m P l r.fn ((r.params.zip #[k]).foldl (fun tmps (t, a) => tmps.setIfInBounds t a) r.tmps) r.assign r.body w
      fun e w' => ∃ ρ', e = .returned (.bool true) ∧ St ⟨w, M, ρ⟩ ρ' [(0, J (seen ++ [k]))] w'
theorem opsIn_y {P : Program} {ops : Array Oper} {F : Fence} {m : Nat} {Q : Exit → Act → World → Prop} (hF : ∀ f, F.fn f) {i : Nat} {rest : List Nat} {o : Oper} {a : Act} {w w' : World} {v : Value} (hi : nth ops.toList i = some o) (hg : o.guard = none) (hnd : ∀ c, o.op ≠ .defer c)
    (hr : (execOp a.eval o).run P w = .ok (.value v) w') (h : wpOpsIn F m P ops Q rest (a.put o.dst v) w') : wpOpsIn F m P ops Q (i :: rest) a w := by
  have hw : Region.wanted o (yielded ops a.tmps) = true := by simp [Region.wanted, hg]
  simp only [wpOpsIn, nth_arr hi]
  rw [if_pos hw]
  refine ⟨fun f _ => hF f, ?_⟩
  rw [Oper.semAt_eq _ _ _ hnd, hr]; exact h
theorem opsIn_round {P : Program} {ops : Array Oper} {F : Fence} {m : Nat} {Q : Exit → Act → World → Prop} (hF : ∀ f, F.fn f) (hdep : F.depth = none) {i l : Nat} {rest : List Nat} {o : Oper} {a : Act} {w w' : World} {f : FuncId} {tmps : Array Value} {A B : Code} {R : Ending → World → Prop} (hi : nth ops.toList i = some o) (hg : o.guard = none) (hnd : ∀ c, o.op ≠ .defer c)
    (hr : (execOp a.eval o).run P w = .ok (.round l f tmps A B) w') (h : RoundIn F (m - 1) P l f tmps A B w' R) (hR : ∀ e w'', R e w'' → ∃ v, e = .returned v ∧ wpOpsIn F m P ops Q rest (a.put o.dst v) w'') : wpOpsIn F m P ops Q (i :: rest) a w := by
  have hw : Region.wanted o (yielded ops a.tmps) = true := by simp [Region.wanted, hg]
  simp only [wpOpsIn, nth_arr hi]
  rw [if_pos hw]
  refine ⟨fun f _ => hF f, ?_⟩
  rw [Oper.semAt_eq _ _ _ hnd, hr]
  refine ⟨fun hd => (by rw [hdep] at hd; cases hd), h.mono ?_⟩
  intro e w'' hre
  obtain ⟨v, rfl, h2⟩ := hR e w'' hre
  exact h2
section
variable {P : Program} {n : Nat} {cx : Cx} {ρ : Hp} {E : Env} {L : Own} {Q : Exit → Act → World → Prop}
/-- 'if !yield(k)': the region of four operations. -/
theorem Cd.yield (j : Nat) {id l d0 d1 d2 d3 t3 ty0 ty1 ty2 ty3 : Nat} {at0 : TypeId} {x y : Operand} {k : Value} {seen : List Value} {J : List Value → HProp} {ok : List Value → Prop} {p0 p1 p2 p3 : String} {e0 e1 e2 e3 : Array Edge}
    (hx : evE E x = some (.func (.yield l) #[] #[])) (hy : evE ((d0, .func (.yield l) #[] #[]) :: E) y = some k) (hd0 : Nat.blt d0 n = true) (hd1 : Nat.blt d1 n = true) (hd2 : Nat.blt d2 n = true) (hd3 : Nat.blt d3 n = true) (hne : ¬ d1 = d0)
    (hj : look L j = some (J seen)) (hY : Yields P l J ok) (hok : ok (seen ++ [k]))
    (h : ∀ ρ', Hp.le ρ ρ' → Jp P #[] Q (fun _ => True) n cx [] ρ' ((d3, .bool false) :: (d2, .bool true) :: (d1, k) :: (d0, .func (.yield l) #[] #[]) :: E) ((j, J (seen ++ [k])) :: (j, Emp) :: L)) :
    Cd P Q n cx ρ E L (.region id #[{ dst := some d0, op := .move x, type := ty0, pos := p0, after := e0, guard := none }, { dst := some d1, op := .move y, type := ty1, pos := p1, after := e1, guard := none },
      { dst := some d2, op := .call { callee := .value (.tmp d0), args := #[.tmp d1], argTypes := #[at0] }, type := ty2, pos := p2, after := e2, guard := none }, { dst := some d3, op := .unOp .not t3 (.tmp d2), type := ty3, pos := p3, after := e3, guard := none }] false) := by
  intro a w ha hs
  refine (wpIn_wide (n := 1)).1 (wpIn_mono (wpIn_region (Q := Qn (Q .normal)) ?_) (qn_mono fun _ _ h => h))
  have hW : ∀ f, Fence.wide.fn f := fun _ => trivial
  obtain ⟨M', hh, hback⟩ := hs.call [j] [j] (by simp) (by simp)
  have hh' : St ⟨w, M', ρ⟩ ρ [(0, J seen)] w := by
    have e : hand L 0 [j] = [(0, J seen)] := by simp [hand, hj]
    rw [e] at hh; exact hh
  obtain ⟨r, hr, hrp, hround⟩ := hY seen k hok w M' ρ hh'
  have a1 := ha.put' (dst := some d0) rfl hd0 (.func (.yield l) #[] #[])
  have a2 := a1.put' (dst := some d1) rfl hd1 k
  show wpOpsIn Fence.wide 1 P _ _ [0, 1, 2, 3] a w
  refine opsIn_y hW (v := .func (.yield l) #[] #[]) rfl rfl (fun c h => by cases h) (Y.move (n := n) (cx := cx) (ρ := ρ) (L := L) rfl hx a w ha hs) ?_
  refine opsIn_y hW (v := k) rfl rfl (fun c h => by cases h) (Y.move (n := n) (cx := cx) (ρ := ρ) (L := L) rfl hy _ w a1 hs) ?_
  have h0 : ((a.put (some d0) (.func (.yield l) #[] #[])).put (some d1) k).eval (.tmp d0) = .func (.yield l) #[] #[] := a2.ev (x := .tmp d0) (by simp only [evE]; rw [look_cons, if_neg hne, look_cons, if_pos rfl])
  have h1 : ((a.put (some d0) (.func (.yield l) #[] #[])).put (some d1) k).eval (.tmp d1) = k := a2.ev (x := .tmp d1) (by simp only [evE]; rw [look_cons, if_pos rfl])
  have hrun : (execOp ((a.put (some d0) (.func (.yield l) #[] #[])).put (some d1) k).eval { dst := some d2, op := .call { callee := .value (.tmp d0), args := #[.tmp d1], argTypes := #[at0] }, type := ty2, pos := p2, after := e2, guard := none }).run P w =
      .ok (.round l r.fn ((r.params.zip #[k]).foldl (fun tmps (t, a) => tmps.setIfInBounds t a) r.tmps) r.assign r.body) w := by
    have hy2 := run_yield (P := P) (args := #[k]) hr (by simp [hrp])
    simp only [execOp, resolve, List.map_toArray, List.map_cons, List.map_nil, h0, h1, Deferred.ofValue, Sem.run_bind, Sem.run_pure, Result.andThen_ok, invoke]
    simpa using hy2
  refine opsIn_round hW rfl (i := 2) (rest := [3]) (o := { dst := some d2, op := .call { callee := .value (.tmp d0), args := #[.tmp d1], argTypes := #[at0] }, type := ty2, pos := p2, after := e2, guard := none }) rfl rfl (fun c h => by cases h) hrun (hround _) ?_
  rintro e w' ⟨ρ', rfl, hst'⟩
  have hst2 := hback w' ρ' [(0, J (seen ++ [k]))] (by simp) hst'
  have hle : Hp.le ρ ρ' := hst'.rle
  have a3 := a2.put' (dst := some d2) rfl hd2 (.bool true)
  refine ⟨_, rfl, ?_⟩
  refine opsIn_y hW (i := 3) (rest := []) (o := { dst := some d3, op := .unOp .not t3 (.tmp d2), type := ty3, pos := p3, after := e3, guard := none }) (v := .bool false) rfl rfl (fun c h => by cases h) (Y.not (n := n) (cx := cx) (ρ := ρ') (L := back [j] [(0, J (seen ++ [k]))] ++ (gone [j] ++ L)) (x := .tmp d2) rfl (by simp only [evE]; rw [look_cons, if_pos rfl]) _ w' a3 hst2) ?_
  exact h ρ' hle _ w' (a3.put' rfl hd3 _) (by simpa [back, gone] using hst2)
end
/-- A function that holds a range over a function. -/
theorem Spec.ofM {P : Program} {f : FuncId} {fn : Func} {c : Code} {vs : List Value} {R : Hp → Prop} {Lin : Own} {Post : Hp → Hp → Value → Own → Prop} (N : Nat) (hf : P.funcs[f]? = some fn) (hb : fn.body = some c) (hN : fn.ntmps = N) (E : Env)
    (hE : argsE 0 vs = E) (hsz : Nat.ble vs.length N = true)
    (h : ∀ cx ρ, R ρ → cx.r0 = ρ → Cd P (bodyPostM Fence.wide 1 P fn fun e w' => ∃ v ρ' Lout, e = .returned v ∧ Post ρ ρ' v Lout ∧ St cx ρ' Lout w') N cx ρ E Lin c) : Spec P f vs.toArray R Lin Post := by
  intro w M ρ hR hs
  refine (callsIn_wide (n := 1)).1 (callsIn_of_wp_marks hf hb trivial (wpIn_wide.2 ?_) rfl)
  have hsz' : vs.length ≤ N := Nat.le_of_ble_eq_true hsz
  refine h ⟨w, M, ρ⟩ ρ hR rfl _ w ⟨rfl, ?_, ?_⟩ hs
  · simp only [hN, Array.size_append, Array.size_replicate, List.size_toArray]; omega
  · intro t v e
    subst hE
    obtain ⟨j, hj, hx⟩ := look_argsE vs 0 t v e
    have : t = j := by omega
    subst this
    have hlt : t < vs.length := (List.getElem?_eq_some_iff.1 hx).1
    rw [hN, Array.getElem?_append_left (by simpa using hlt)]
    simpa using hx
end Go.Proofs.Ytgfbdiibndbbjaa
