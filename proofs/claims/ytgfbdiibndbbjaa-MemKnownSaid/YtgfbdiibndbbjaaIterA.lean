/- slices.AppendSeq over an iterator that hands its values to yield. -/
import Derived.Test.YtgfbdiibndbbjaaEngM
import Derived.Test.YtgfbdiibndbbjaaCom
set_option linter.unusedVariables false
set_option linter.unusedSimpArgs false
set_option maxRecDepth 100000
namespace Go.Proofs.Ytgfbdiibndbbjaa
open Go
theorem vo_move {o : Oper} {x : Operand} (h : o.op = .move x) : ValOnly o := ⟨fun c e => (by rw [h] at e; cases e), fun ev P w nx w' hr => by
  simp only [execOp, h, Sem.run_pure] at hr; injection hr with h1 _; exact .inl ⟨_, h1.symm⟩⟩
theorem vo_assign {o : Oper} {x : Operand} (h : o.op = .assign x) : ValOnly o := ⟨fun c e => (by rw [h] at e; cases e), fun ev P w nx w' hr => by
  simp only [execOp, h, Sem.run_pure] at hr; injection hr with h1 _; exact .inl ⟨_, h1.symm⟩⟩
theorem vo_load {o : Oper} {t : TypeId} {x : Operand} (h : o.op = .load t x) : ValOnly o := ⟨fun c e => (by rw [h] at e; cases e), fun ev P w nx w' hr => by
  simp only [execOp, h] at hr; exact .inl (run_val hr)⟩
theorem vo_store {o : Oper} {t : TypeId} {x y : Operand} (h : o.op = .store t x y) : ValOnly o := ⟨fun c e => (by rw [h] at e; cases e), fun ev P w nx w' hr => by
  simp only [execOp, h] at hr; exact .inr (run_then hr)⟩
theorem vo_buildSlice {o : Oper} {t : TypeId} {n : Nat} {ps : Array (Nat × Operand)} (h : o.op = .buildSlice t n ps) : ValOnly o := ⟨fun c e => (by rw [h] at e; cases e), fun ev P w nx w' hr => by
  simp only [execOp, h] at hr; exact .inl (run_val hr)⟩
theorem vo_append {o : Oper} {xs : Array Operand} {ts : Array TypeId} (h : o.op = .call { callee := .builtin .append, args := xs, argTypes := ts }) : ValOnly o := ⟨fun c e => (by rw [h] at e; cases e), fun ev P w nx w' hr => by
  simp only [execOp, h, resolve, Sem.run_bind, Sem.run_pure, Result.andThen_ok, invoke, builtin] at hr
  cases hx : (Builtin.append_ ts o.type (Array.map ev xs)).run P w with
  | ok v w1 => rw [hx] at hr; injection hr with h1 _; exact .inl ⟨v, h1.symm⟩
  | halt s w1 => rw [hx] at hr; cases hr⟩
/-- The record of the loop over the iterator. -/
def apLoop (A B : Code) (fn : FuncId) (tmps : Array Value) (D : Nat) (st : LoopState) : Loop := { state := st, pending := none, fn := fn, tmps := tmps, params := #[7], assign := A, body := B, defers := D }
/-- What the rounds own: the variable s, its slice, the record, the block of deferred calls. -/
def ApJ (A B : Code) (b l D : Nat) (fn : FuncId) (tmps : Array Value) (seen : List Value) : HProp := Ex fun x : Option Addr × Nat =>
  Sep (Pt b (.cells #[.slice x.1 seen.length x.2] 56)) (Sep (OwnS 26 1 x.1 seen.length x.2 seen) (Sep (Pt l (.loop (apLoop A B fn tmps D .ready))) (Pt D (.deferred (some [])))))
def findRange : Code → Option (Code × Code)
  | .rangeFunc _ _ A B => some (A, B)
  | .seq a b => (findRange a).or (findRange b)
  | .block _ c => findRange c
  | _ => none
noncomputable def apA : Code := ((Try.f75.body.bind findRange).map (·.1)).getD .skip
noncomputable def apB : Code := ((Try.f75.body.bind findRange).map (·.2)).getD .skip
theorem St.putObj {cx : Cx} {ρ : Hp} {L : Own} {w : World} (hs : St cx ρ L w) {j b : Nat} {o o' : Obj} (hj : look L j = some (Pt b o)) : St cx ρ ((j, Pt b o') :: L) (w.putObj b o') := by
  have hb := hs.pt hj
  have hlt := lt_of_heap hb
  refine hs.turn hj (by simp [World.putObj, hlt]) (fun p hp => by simp [World.putObj, Array.getElem?_setIfInBounds, Ne.symm hp]) (by simp [World.putObj]) rfl rfl rfl
theorem apYields {b l D : Nat} {fn : FuncId} {tmps : Array Value} (hsz : tmps.size = 13) (h2 : tmps[2]? = some (.pointer (some ⟨b, 0, none⟩))) :
    Yields Try.prog l (ApJ apA apB b l D fn tmps) (fun s => s.length ≤ 4096 ∧ ∀ v ∈ s, ∃ x : Int, v = .int .u32 x) := by
  intro seen k hok w M ρ hs
  obtain ⟨hok1, hok2⟩ := hok
  rw [List.length_append, List.length_singleton] at hok1
  obtain ⟨x, rfl⟩ := hok2 k (by simp)
  obtain ⟨⟨A, c⟩, hs0⟩ := hs.ex' (j := 0) (by rw [look_cons, if_pos rfl]; rfl)
  have hs1 := hs0.part (j := 0) (k := 1) (by decide) (by rw [look_cons, if_pos rfl])
  have hs2 := hs1.part (j := 1) (k := 2) (by decide) (by rw [look_cons, if_neg (by decide), look_cons, if_pos rfl])
  have hs3 := hs2.part (j := 2) (k := 3) (by decide) (by rw [look_cons, if_neg (by decide), look_cons, if_pos rfl])
  dsimp only at hs3
  have hsA : St ⟨w, M, ρ⟩ ρ [(0, Pt b (.cells #[.slice A seen.length c] 56)), (1, OwnS 26 1 A seen.length c seen), (2, Pt l (.loop (apLoop apA apB fn tmps D .ready))), (3, Pt D (.deferred (some [])))] w := hs3.sub ⟨rfl, rfl, rfl, rfl, trivial⟩
  have hr := hsA.pt (i := 2) rfl
  refine ⟨_, hr, rfl, fun m => roundIn_of_wpIn trivial ?_⟩
  have ht : ((apLoop apA apB fn tmps D .ready).params.zip #[.int .u32 x]).foldl (fun tmps (t, a) => tmps.setIfInBounds t a) (apLoop apA apB fn tmps D .ready).tmps = tmps.setIfInBounds 7 (.int .u32 x) := by simp [apLoop]
  rw [ht]
  have ha : At 13 [(2, .pointer (some ⟨b, 0, none⟩)), (7, .int .u32 x)] { tmps := tmps.setIfInBounds 7 (.int .u32 x), defers := [] } := by
    refine ⟨rfl, by simp [hsz], fun t v e => ?_⟩
    simp only [look_cons] at e
    split at e
    · rename_i h; subst h; injection e with e; subst e
      show (tmps.setIfInBounds 7 (.int .u32 x))[2]? = _
      rw [Array.getElem?_setIfInBounds_ne (by decide)]; exact h2
    · split at e
      · rename_i h; subst h; injection e with e; subst e
        show (tmps.setIfInBounds 7 (.int .u32 x))[7]? = _
        rw [Array.getElem?_setIfInBounds]; simp [hsz]
      · simp [look] at e
  have hF : ∀ f, (Fence.wide.inRound l).fn f := fun _ => trivial
  refine regionIn_of (Q := fun e a w' => match e with | .normal => At 13 [(5, .int .u32 x), (2, .pointer (some ⟨b, 0, none⟩)), (7, .int .u32 x)] a ∧ St ⟨w, M, ρ⟩ ρ [(0, Pt b (.cells #[.slice A seen.length c] 56)), (1, OwnS 26 1 A seen.length c seen), (2, Pt l (.loop (apLoop apA apB fn tmps D .ready))), (3, Pt D (.deferred (some [])))] w' | _ => False)
    hF ?_ [(0, false)] rfl rfl ?_ ha hsA ?_
  · intro o ho
    rcases List.mem_singleton.1 ho with rfl
    exact vo_assign rfl
  · refine Jp.y 5 rfl (want_all rfl) rfl rfl Kp.true (Y.assign rfl rfl) ?_
    exact fun a w' ha' hs' => ⟨ha', hs'⟩
  rintro a1 w1 ⟨ha1, hsB⟩
  have hd1 : ({ a1 with defers := [] } : Act) = a1 := by cases a1; have := ha1.defers; simp at this; subst this; rfl
  rw [hd1]
  have hrB := hsB.pt (i := 2) rfl
  refine ⟨_, run_beginRound hrB rfl, ?_⟩
  have hsC := hsB.putObj (j := 2) (o' := .loop { apLoop apA apB fn tmps D .ready with state := .busy }) rfl
  refine wpIn_block ?_
  rw [← hd1]
  refine regionIn_of (Q := fun e a w' => match e with | .normal => ∃ A' c' ρ', At 13 [(2, .pointer (some ⟨b, 0, none⟩))] a ∧ St ⟨w, M, ρ⟩ ρ' [(0, Pt b (.cells #[.slice A' (seen.length + 1) c'] 56)), (1, OwnS 26 1 A' (seen.length + 1) c' (seen ++ [.int .u32 x])), (2, Pt l (.loop { apLoop apA apB fn tmps D .ready with state := .busy })), (3, Pt D (.deferred (some [])))] w' | _ => False)
    hF ?_ [(0, false), (1, false), (2, false), (3, false), (4, false)] rfl rfl ?_ ha1 hsC ?_
  · intro o ho
    simp only [List.mem_cons, List.not_mem_nil, or_false] at ho
    rcases ho with rfl | rfl | rfl | rfl | rfl
    · exact vo_load rfl
    · exact vo_move rfl
    · exact vo_buildSlice rfl
    · exact vo_append rfl
    · exact vo_store rfl
  · refine Jp.y 8 rfl (want_all rfl) rfl rfl Kp.true (Y.loadO 0 rfl Try.isAgg56 rfl rfl rfl) ?_
    refine Jp.y 9 rfl (want_all rfl) rfl rfl Kp.true (Y.move rfl rfl) ?_
    refine Jp.lit 10 4 [(0, _)] [_] rfl (want_all rfl) rfl rfl rfl rfl Try.underlying56 Try.sizeOf26 Try.zeroValue26 rfl rfl rfl rfl rfl fun b4 => ⟨Kp.true, ?_⟩
    refine Jp.append 11 1 rfl (want_all rfl) rfl rfl rfl Try.underlying56 Try.underlying56 (.inl ⟨_, rfl⟩) Try.sizeOf26 Try.typeInfo26 Try.zeroValue26 rfl (by decide) rfl rfl rfl (Src.own 4 rfl) rfl (seen.length + 1) (seen ++ [.int .u32 x]) rfl rfl (by simp only [Try.t26]; omega) fun A' c' => ⟨Kp.true, ?_⟩
    refine Jp.store 0 rfl (want_all rfl) rfl rfl Try.sizeOf56 rfl rfl rfl rfl rfl rfl Kp.true ?_
    exact fun a w' ha' hs' => ⟨A', c', ρ, ha'.sub ⟨rfl, trivial⟩, hs'.sub ⟨rfl, rfl, rfl, rfl, trivial⟩⟩
  rintro a2 w2 ⟨A', c', ρ', ha2, hsD⟩
  have hrD := hsD.pt (i := 2) rfl
  refine ⟨_, _, run_endRound none hrD, ρ', rfl, ?_⟩
  have hsE := hsD.putObj (j := 2) (o' := .loop (apLoop apA apB fn tmps D .ready)) rfl
  have g1 := hsE.glue (j := 2) (k := 3) (by decide) rfl rfl
  have g2 := g1.glue (j := 1) (k := 2) (by decide) rfl rfl
  have g3 := g2.glue (j := 0) (k := 1) (by decide) rfl rfl
  have g4 := g3.imp (i := 0) (A' := ApJ apA apB b l D fn tmps (seen ++ [.int .u32 x])) rfl fun h hh => ⟨(A', c'), by
    dsimp only
    rw [List.length_append, List.length_singleton]; exact hh⟩
  exact g4.sub ⟨rfl, trivial⟩
end Go.Proofs.Ytgfbdiibndbbjaa
