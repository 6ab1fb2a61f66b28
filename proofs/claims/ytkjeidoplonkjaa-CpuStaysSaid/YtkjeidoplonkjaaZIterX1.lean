import Derived.Test.YtkjeidoplonkjaaZEngY
import Derived.Test.YtkjeidoplonkjaaZComX
import Derived.Sort.Defs
set_option linter.unusedVariables false
set_option linter.unusedSimpArgs false
set_option maxRecDepth 100000
namespace Go.Proofs.Ytkjeidoplonkjaa
open Go
theorem vo_move {o : Oper} {x : Operand} (h : o.op = .move x) : ValOnly o := ⟨fun c e => (by rw [h] at e; cases e), fun ev P w nx w' hr => by
  simp only [execOp, h, Sem.run_pure] at hr; injection hr with h1 _; exact .inl ⟨_, h1.symm⟩⟩
theorem vo_assign {o : Oper} {x : Operand} (h : o.op = .assign x) : ValOnly o := ⟨fun c e => (by rw [h] at e; cases e), fun ev P w nx w' hr => by
  simp only [execOp, h, Sem.run_pure] at hr; injection hr with h1 _; exact .inl ⟨_, h1.symm⟩⟩
theorem vo_load {o : Oper} {t : TypeId} {x : Operand} (h : o.op = .load t x) : ValOnly o := ⟨fun c e => (by rw [h] at e; cases e), fun ev P w nx w' hr => by
  simp only [execOp, h] at hr; exact .inl (run_val hr)⟩
theorem vo_store {o : Oper} {t : TypeId} {x y : Operand} (h : o.op = .store t x y) : ValOnly o := ⟨fun c e => (by rw [h] at e; cases e), fun ev P w nx w' hr => by
  simp only [execOp, h] at hr; exact .inr (run_then hr)⟩
theorem vo_buildSlice {o : Oper} {t : TypeId} {n : Nat} {ps : Array (Nat × Operand)} (h : o.op = .buildSlice t n ps) : ValOnly o := ⟨fun c e => (by rw [h] at e; cases e), fun ev P w nx w' hr => by
  simp only [execOp, h] at hr; exact .inl (run_val hr)⟩
theorem vo_append {o : Oper} {xs : Array Operand} {ts : Array TypeId} (h : o.op = .call { callee := .builtin .append, args := xs, argTypes := ts }) : ValOnly o := ⟨fun c e => (by rw [h] at e; cases e), fun ev P w nx w' hr => by
  simp only [execOp, h, resolve, Sem.run_bind, Sem.run_pure, Result.andThen_ok, invoke, builtin] at hr
  cases hx : (Builtin.append_ ts o.type (Array.map ev xs)).run P w with
  | ok v w1 => rw [hx] at hr; injection hr with h1 _; exact .inl ⟨v, h1.symm⟩
  | halt s w1 => rw [hx] at hr; cases hr⟩
def apLoop (A B : Code) (fn : FuncId) (tmps : Array Value) (D : Nat) (st : LoopState) : Loop := { state := st, pending := none, fn := fn, tmps := tmps, params := #[7], assign := A, body := B, defers := D }
def ApJ (A B : Code) (b l D : Nat) (fn : FuncId) (tmps : Array Value) (seen : List Value) : HProp := Ex fun x : Option Addr × Nat =>
  Sep (Pt b (.cells #[.slice x.1 seen.length x.2] 29)) (Sep (OwnS 25 1 x.1 seen.length x.2 seen) (Sep (Pt l (.loop (apLoop A B fn tmps D .ready))) (Pt D (.deferred (some [])))))
def findRange : Code → Option (Code × Code)
  | .rangeFunc _ _ A B => some (A, B)
  | .seq a b => (findRange a).or (findRange b)
  | .block _ c => findRange c
  | _ => none
noncomputable def apA : Code := ((Try.f107.body.bind findRange).map (·.1)).getD .skip
noncomputable def apB : Code := ((Try.f107.body.bind findRange).map (·.2)).getD .skip
theorem St.putObj {cx : Cx} {ρ : Hp} {L : Own} {w : World} (hs : St cx ρ L w) {j b : Nat} {o o' : Obj} (hj : look L j = some (Pt b o)) : St cx ρ ((j, Pt b o') :: L) (w.putObj b o') := by
  have hb := hs.pt hj
  have hlt := lt_of_heap hb
  refine hs.turn hj (by simp [World.putObj, hlt]) (fun p hp => by simp [World.putObj, Array.getElem?_setIfInBounds, Ne.symm hp]) (by simp [World.putObj]) rfl rfl rfl
theorem apYields {b l D : Nat} {fn : FuncId} {tmps : Array Value} (hsz : tmps.size = 13) (h2 : tmps[2]? = some (.pointer (some ⟨b, 0, none⟩))) :
    Yields Try.prog l (ApJ apA apB b l D fn tmps) (fun s => s.length ≤ 4096 ∧ ∀ v ∈ s, ∃ x : Int, v = .int .u32 x) := by
  intro seen k hok w M ρ hs
  obtain ⟨hok1, hok2⟩ := hok
  rw [List.length_append, List.length_singleton] at hok1
  obtain ⟨x, rfl⟩ := hok2 k (by simp)
  obtain ⟨⟨A, c⟩, hs0⟩ := hs.ex' (j := 0) (by rw [look_cons, if_pos rfl]; rfl)
  have hs1 := hs0.part (j := 0) (k := 1) (by decide) (by rw [look_cons, if_pos rfl])
  have hs2 := hs1.part (j := 1) (k := 2) (by decide) (by rw [look_cons, if_neg (by decide), look_cons, if_pos rfl])
  have hs3 := hs2.part (j := 2) (k := 3) (by decide) (by rw [look_cons, if_neg (by decide), look_cons, if_pos rfl])
  dsimp only at hs3
  have hsA : St ⟨w, M, ρ⟩ ρ [(0, Pt b (.cells #[.slice A seen.length c] 29)), (1, OwnS 25 1 A seen.length c seen), (2, Pt l (.loop (apLoop apA apB fn tmps D .ready))), (3, Pt D (.deferred (some [])))] w := hs3.sub ⟨rfl, rfl, rfl, rfl, trivial⟩
  have hr := hsA.pt (i := 2) rfl
  refine ⟨_, hr, rfl, fun m => roundIn_of_wpIn trivial ?_⟩
  have ht : ((apLoop apA apB fn tmps D .ready).params.zip #[.int .u32 x]).foldl (fun tmps (t, a) => tmps.setIfInBounds t a) (apLoop apA apB fn tmps D .ready).tmps = tmps.setIfInBounds 7 (.int .u32 x) := by simp [apLoop]
  rw [ht]
  have ha : At 13 [(2, .pointer (some ⟨b, 0, none⟩)), (7, .int .u32 x)] { tmps := tmps.setIfInBounds 7 (.int .u32 x), defers := [] } := by
    refine ⟨rfl, by simp [hsz], fun t v e => ?_⟩
    simp only [look_cons] at e
    split at e
    · rename_i h; subst h; injection e with e; subst e
      show (tmps.setIfInBounds 7 (.int .u32 x))[2]? = _
      rw [Array.getElem?_setIfInBounds_ne (by decide)]; exact h2
    · split at e
      · rename_i h; subst h; injection e with e; subst e
        show (tmps.setIfInBounds 7 (.int .u32 x))[7]? = _
        rw [Array.getElem?_setIfInBounds]; simp [hsz]
      · simp [look] at e
  have hF : ∀ f, (Fence.wide.inRound l).fn f := fun _ => trivial
  refine regionIn_of (Q := fun e a w' => match e with | .normal => At 13 [(5, .int .u32 x), (2, .pointer (some ⟨b, 0, none⟩)), (7, .int .u32 x)] a ∧ St ⟨w, M, ρ⟩ ρ [(0, Pt b (.cells #[.slice A seen.length c] 29)), (1, OwnS 25 1 A seen.length c seen), (2, Pt l (.loop (apLoop apA apB fn tmps D .ready))), (3, Pt D (.deferred (some [])))] w' | _ => False)
    hF ?_ [(0, false)] rfl rfl ?_ ha hsA ?_
  · intro o ho
    rcases List.mem_singleton.1 ho with rfl
    exact vo_assign rfl
  · refine Jp.y 5 rfl (want_all rfl) rfl rfl Kp.true (Y.assign rfl rfl) ?_
    exact fun a w' ha' hs' => ⟨ha', hs'⟩
  rintro a1 w1 ⟨ha1, hsB⟩
  have hd1 : ({ a1 with defers := [] } : Act) = a1 := by cases a1; have := ha1.defers; simp at this; subst this; rfl
  rw [hd1]
  have hrB := hsB.pt (i := 2) rfl
  refine ⟨_, run_beginRound hrB rfl, ?_⟩
  have hsC := hsB.putObj (j := 2) (o' := .loop { apLoop apA apB fn tmps D .ready with state := .busy }) rfl
  refine wpIn_block ?_
  rw [← hd1]
  refine regionIn_of (Q := fun e a w' => match e with | .normal => ∃ A' c' ρ', At 13 [(2, .pointer (some ⟨b, 0, none⟩))] a ∧ St ⟨w, M, ρ⟩ ρ' [(0, Pt b (.cells #[.slice A' (seen.length + 1) c'] 29)), (1, OwnS 25 1 A' (seen.length + 1) c' (seen ++ [.int .u32 x])), (2, Pt l (.loop { apLoop apA apB fn tmps D .ready with state := .busy })), (3, Pt D (.deferred (some [])))] w' | _ => False)
    hF ?_ [(0, false), (1, false), (2, false), (3, false), (4, false)] rfl rfl ?_ ha1 hsC ?_
  · intro o ho
    simp only [List.mem_cons, List.not_mem_nil, or_false] at ho
    rcases ho with rfl | rfl | rfl | rfl | rfl
    · exact vo_load rfl
    · exact vo_move rfl
    · exact vo_buildSlice rfl
    · exact vo_append rfl
    · exact vo_store rfl
  · refine Jp.y 8 rfl (want_all rfl) rfl rfl Kp.true (Y.loadO 0 rfl Try.isAgg29 rfl rfl rfl) ?_
    refine Jp.y 9 rfl (want_all rfl) rfl rfl Kp.true (Y.move rfl rfl) ?_
    refine Jp.lit 10 4 [(0, _)] [_] rfl (want_all rfl) rfl rfl rfl rfl Try.underlying29 Try.sizeOf25 Try.zeroValue25 rfl rfl rfl rfl rfl fun b4 => ⟨Kp.true, ?_⟩
    refine Jp.append 11 1 rfl (want_all rfl) rfl rfl rfl Try.underlying29 Try.underlying29 (.inl ⟨_, rfl⟩) Try.sizeOf25 Try.typeInfo25 Try.zeroValue25 rfl (by decide) rfl rfl rfl (Src.own 4 rfl) rfl (seen.length + 1) (seen ++ [.int .u32 x]) rfl rfl (by simp only [Try.t25]; omega) fun A' c' => ⟨Kp.true, ?_⟩
    refine Jp.store 0 rfl (want_all rfl) rfl rfl Try.sizeOf29 rfl rfl rfl rfl rfl rfl Kp.true ?_
    exact fun a w' ha' hs' => ⟨A', c', ρ, ha'.sub ⟨rfl, trivial⟩, hs'.sub ⟨rfl, rfl, rfl, rfl, trivial⟩⟩
  rintro a2 w2 ⟨A', c', ρ', ha2, hsD⟩
  have hrD := hsD.pt (i := 2) rfl
  refine ⟨_, _, run_endRound none hrD, ρ', rfl, ?_⟩
  have hsE := hsD.putObj (j := 2) (o' := .loop (apLoop apA apB fn tmps D .ready)) rfl
  have g1 := hsE.glue (j := 2) (k := 3) (by decide) rfl rfl
  have g2 := g1.glue (j := 1) (k := 2) (by decide) rfl rfl
  have g3 := g2.glue (j := 0) (k := 1) (by decide) rfl rfl
  have g4 := g3.imp (i := 0) (A' := ApJ apA apB b l D fn tmps (seen ++ [.int .u32 x])) rfl fun h hh => ⟨(A', c'), by
    dsimp only
    rw [List.length_append, List.length_singleton]; exact hh⟩
  exact g4.sub ⟨rfl, trivial⟩
end Go.Proofs.Ytkjeidoplonkjaa
set_option linter.unusedVariables false
set_option linter.unusedSimpArgs false
set_option maxRecDepth 100000
namespace Go.Proofs.Ytkjeidoplonkjaa
open Go
def keysV (m : MapL) : List Value := m.map fun y => Value.int .u32 y.1
theorem keys1_spec {l : Nat} {J : List Value → HProp} {ok : List Value → Prop} (hY : Yields Try.prog l J ok) (cb pb : Nat) (pm : MapL) (hok0 : ∀ s r, (s ++ r).Perm (keysV pm) → ok s) :
    Spec Try.prog 81 #[.func (.yield l) #[] #[], .pointer (some ⟨cb, 0, none⟩)] (fun _ => True) [(0, Pt cb (.cells #[.map (some pb)] 139)), (1, MapO .u32 pb pm), (2, J [])]
    (fun ρ ρ' v L => v = .tuple #[] ∧ ∃ s, s.Perm (keysV pm) ∧ L = [(0, Pt cb (.cells #[.map (some pb)] 139)), (1, MapO .u32 pb pm), (2, J s)]) := by
  refine Spec.of 14 Try.func81 rfl Try.ntmps81 [(0, _), (1, _)] rfl rfl ?_
  intro cx ρ hr h0
  refine Cd.seq fun K1 hK1 => ?_
  refine Cd.plain [(0, false), (1, false)] rfl rfl ?_
  refine Jp.y 4 rfl (want_all rfl) rfl rfl Kp.true (Y.loadO 0 rfl Try.isAgg139 rfl rfl rfl) ?_
  first | refine Jp.range 5 1 50 (by decide) rfl (want_all rfl) rfl rfl rfl rfl Try.underlying139 rfl fun r1 => ⟨Kp.true, ?_⟩
  refine Jp.done hK1 ?_
  refine Cd.block ?_
  refine Cd.loopK (G := MapL × List Value × Option (Int × Value) × Hp) (fun g => (g.2.1 ++ keysV g.1).Perm (keysV pm)) (fun g => g.1.length) (fun g => g.2.2.2) (fun g => []) [(0, _), (5, _)] (fun g => [(1, RangeO .u32 pb r1 pm g.1 g.2.2.1), (2, J g.2.1)]) [(0, _)] ⟨pm, [], none, ρ⟩ (List.Perm.refl _) rfl trivial ⟨rfl, rfl, trivial⟩ ⟨rfl, rfl, trivial⟩ ⟨rfl, trivial⟩ (fun g KLa hok hLa => ?_)
  obtain ⟨left, s, cur, ρg⟩ := g
  dsimp only at hok ⊢
  refine Cd.seq fun K2 hK2 => ?_
  refine Cd.plain [(0, false), (1, false)] rfl rfl ?_
  refine Jp.next 6 1 rfl (want_all rfl) rfl rfl (fun _ => rfl) rfl rfl (fun hn => ⟨Kp.true, ?_⟩) (fun q y hq => ⟨Kp.true, ?_⟩)
  · skip
    refine Jp.y 7 rfl (want_all rfl) rfl rfl Kp.true (Y.extract rfl rfl rfl) ?_
    refine Jp.done hK2 ?_
    refine Cd.seq fun K3 hK3 => ?_
    refine Cd.condF rfl ?_
    subst hn
    refine Cd.imp (i := 1) rfl RangeO.map ?_
    refine Cdx.end [(0, _), (1, _), (2, _)] rfl (res0 rfl) ⟨rfl, rfl, rfl, trivial⟩ ⟨rfl, s, by simpa [keysV] using hok, rfl⟩
  · have hpe := perm_erase hq
    have hql := (List.getElem?_eq_some_iff.1 hq).1
    have hel : (left.eraseIdx q).length < left.length := by rw [List.length_eraseIdx]; split <;> omega
    have hp2 : (s ++ [Value.int .u32 y.1] ++ keysV (left.eraseIdx q)).Perm (keysV pm) := by
      rw [List.append_assoc]
      exact (List.Perm.append_left s ((hpe.map fun (z : Int × Value) => Value.int .u32 z.1).symm)).trans hok
    refine Jp.y 7 rfl (want_all rfl) rfl rfl Kp.true (Y.extract rfl rfl rfl) ?_
    refine Jp.done hK2 ?_
    refine Cd.seq fun K4 hK4 => ?_
    refine Cd.condT rfl ?_
    refine Cd.skip hK4 ?_
    refine Cd.block ?_
    refine Cd.seq fun K5 hK5 => ?_
    refine Cd.plain [(0, false), (1, false), (2, false)] rfl rfl ?_
    refine Jp.y 8 rfl (want_all rfl) rfl rfl Kp.true (by first | exact Y.entry 1 rfl rfl rfl) ?_
    refine Jp.y 9 rfl (want_all rfl) rfl rfl Kp.true (Y.extract rfl rfl rfl) ?_
    refine Jp.y 3 rfl (want_all rfl) rfl rfl Kp.true (Y.assign rfl rfl) ?_
    refine Jp.done hK5 ?_
    refine Cd.seq fun K6 hK6 => ?_
    refine Cd.yield 2 rfl rfl rfl rfl rfl rfl (by decide) rfl hY (hok0 _ _ hp2) (fun ρY hleY => ?_)
    refine Jp.done hK6 ?_
    refine Cd.condF rfl ?_
    refine CdQ.again rfl hLa ⟨left.eraseIdx q, s ++ [Value.int .u32 y.1], some y, ρY⟩ hp2 hel rfl ⟨rfl, rfl, trivial⟩ ⟨rfl, rfl, rfl, trivial⟩
end Go.Proofs.Ytkjeidoplonkjaa
set_option linter.unusedVariables false
set_option linter.unusedSimpArgs false
set_option maxRecDepth 100000
namespace Go.Proofs.Ytkjeidoplonkjaa
open Go
def capO (cb pb : Nat) : HProp := Pt cb (.cells #[.map (some pb)] 139)
def kfn (cb : Nat) : Value := .func (.func 81) #[] #[.pointer (some ⟨cb, 0, none⟩)]
theorem okKeys {pm : MapL} (h : pm.length ≤ 4096) (s r : List Value) (hp : (s ++ r).Perm (keysV pm)) : s.length ≤ 4096 ∧ ∀ v ∈ s, ∃ x : Int, v = .int .u32 x := by
  have h1 := hp.length_eq
  rw [List.length_append, keysV, List.length_map] at h1
  refine ⟨by omega, fun v hv => ?_⟩
  have := hp.mem_iff.1 (List.mem_append_left r hv)
  obtain ⟨y, _, rfl⟩ := List.mem_map.1 this
  exact ⟨_, rfl⟩
theorem appendSeq_spec (cb pb : Nat) (pm : MapL) (hlen : pm.length ≤ 4096) : Spec Try.prog 107 #[.slice none 0 0, kfn cb] (fun _ => True) [(0, capO cb pb), (1, MapO .u32 pb pm)]
    (fun ρ ρ' v L => ∃ s A c, s.Perm (keysV pm) ∧ v = .slice A s.length c ∧ L = [(0, capO cb pb), (1, MapO .u32 pb pm), (2, OwnS 25 1 A s.length c s)]) := by
  refine Spec.ofM 13 Try.func107 rfl Try.ntmps107 [(0, _), (1, _)] rfl rfl ?_
  intro cx ρ hr h0
  refine Cd.seq fun K1 hK1 => ?_
  refine Cd.plain [(0, false), (1, false)] rfl rfl ?_
  refine Jp.box 5 2 rfl (want_all rfl) rfl rfl rfl rfl fun b5 => ⟨Kp.true, ?_⟩
  refine Jp.y 4 rfl (want_all rfl) rfl rfl Kp.true (Y.assign rfl rfl) ?_
  refine Jp.done hK1 ?_
  refine Cd.seq fun K2 hK2 => ?_
  refine Cd.seq fun K3 hK3 => ?_
  refine Cd.plain [(0, false)] rfl rfl ?_
  refine Jp.y 6 rfl (want_all rfl) rfl rfl Kp.true (Y.move rfl rfl) ?_
  refine Jp.done hK3 ?_
  refine Cd.block ?_
  refine Cd.make 2 (A := OwnS 25 1 none 0 0 []) (OwnS.nil _ _ _) ?_
  intro a w ha hs
  have hw1 : St cx ρ [(0, capO cb pb), (1, MapO .u32 pb pm), (5, Pt b5 (.cells #[.slice none 0 0] 29)), (2, OwnS 25 1 none 0 0 [])] w := hs.sub ⟨rfl, rfl, rfl, rfl, trivial⟩
  have ht2 : a.tmps[2]? = some (.pointer (some ⟨b5, 0, none⟩)) := ha.slot 2 _ rfl
  have ht6 : a.tmps[6]? = some (kfn cb) := ha.slot 6 _ rfl
  refine (wpIn_wide (n := 1)).1 (wpIn_rangeFunc fun fn _ => ?_)
  obtain ⟨W, hW⟩ : ∃ W, (w.alloc (.deferred (some []))).alloc (.loop { state := .ready, pending := none, fn, tmps := a.tmps, params := #[7], assign := apA, body := apB, defers := w.heap.size }) = W := ⟨_, rfl⟩
  refine ⟨w.heap.size + 1, [{ target := .collected w.heap.size, args := #[] }], W, { target := .fn (.func 81) #[.pointer (some ⟨cb, 0, none⟩)], args := #[.func (.yield (w.heap.size + 1)) #[] #[]] }, W, 81,
    #[.func (.yield (w.heap.size + 1)) #[] #[], .pointer (some ⟨cb, 0, none⟩)], W, ?_, ?_, ?_, ?_, fun h => (by cases h), ?_⟩
  · rw [← hW]; exact run_enterLoop_outer _ _ _ _ _
  · simp [resolve, rangeCall, ht6, kfn, Deferred.ofValue, go_sem]
  · intro f' _; trivial
  · simp [invoke, go_sem, Try.call81]
  have hsz : (w.alloc (.deferred (some []))).heap.size = w.heap.size + 1 := World.size_alloc _ _
  have s1 : St cx ρ ((7, Pt w.heap.size (.deferred (some []))) :: [(0, capO cb pb), (1, MapO .u32 pb pm), (5, Pt b5 (.cells #[.slice none 0 0] 29)), (2, OwnS 25 1 none 0 0 [])]) (w.alloc (.deferred (some []))) := hw1.alloc 7 _
  have s2 := s1.alloc 8 (.loop { state := .ready, pending := none, fn, tmps := a.tmps, params := #[7], assign := apA, body := apB, defers := w.heap.size })
  rw [hsz] at s2
  have s3 : St cx ρ ((8, Pt (w.heap.size + 1) (.loop (apLoop apA apB fn a.tmps w.heap.size .ready))) :: (7, Pt w.heap.size (.deferred (some []))) :: [(0, capO cb pb), (1, MapO .u32 pb pm), (5, Pt b5 (.cells #[.slice none 0 0] 29)), (2, OwnS 25 1 none 0 0 [])]) ((w.alloc (.deferred (some []))).alloc (.loop { state := .ready, pending := none, fn, tmps := a.tmps, params := #[7], assign := apA, body := apB, defers := w.heap.size })) := s2
  rw [hW] at s3
  have g1 := s3.glue (j := 8) (k := 7) (by decide) rfl rfl
  have g2 := g1.glue (j := 2) (k := 8) (by decide) rfl rfl
  have g3 := g2.glue (j := 5) (k := 2) (by decide) rfl rfl
  have g4 := g3.imp (i := 5) (A' := ApJ apA apB b5 (w.heap.size + 1) w.heap.size fn a.tmps []) rfl fun h hh => ⟨(none, 0), hh⟩
  have g5 : St cx ρ [(0, capO cb pb), (1, MapO .u32 pb pm), (5, ApJ apA apB b5 (w.heap.size + 1) w.heap.size fn a.tmps [])] W := g4.sub ⟨rfl, rfl, rfl, trivial⟩
  obtain ⟨M', k1, k2⟩ := g5.call [0, 1, 5] [0, 1, 5] (by decide) (by decide)
  have hY := apYields (b := b5) (l := w.heap.size + 1) (D := w.heap.size) (fn := fn) ha.size ht2
  refine callsIn_wide.2 ((keys1_spec hY cb pb pm (fun s r hp => okKeys hlen s r hp) W M' ρ trivial k1).mono ?_)
  rintro e w2 ⟨v, ρ', Lout, rfl, ⟨rfl, s, hperm, rfl⟩, hst⟩
  have hst2 := k2 w2 ρ' _ (by simp) hst
  have q0 : St cx ρ' [(5, ApJ apA apB b5 (w.heap.size + 1) w.heap.size fn a.tmps s), (0, capO cb pb), (1, MapO .u32 pb pm)] w2 := hst2.sub ⟨rfl, rfl, rfl, trivial⟩
  obtain ⟨⟨A, c⟩, q1⟩ := q0.ex' (j := 5) (by rw [look_cons, if_pos rfl]; rfl)
  have q2 := q1.part (j := 5) (k := 2) (by decide) (by rw [look_cons, if_pos rfl])
  have q3 := q2.part (j := 2) (k := 8) (by decide) (by rw [look_cons, if_neg (by decide), look_cons, if_pos rfl])
  have q4 := q3.part (j := 8) (k := 7) (by decide) (by rw [look_cons, if_neg (by decide), look_cons, if_pos rfl])
  dsimp only at q4
  have q5 : St cx ρ' [(5, Pt b5 (.cells #[.slice A s.length c] 29)), (2, OwnS 25 1 A s.length c s), (8, Pt (w.heap.size + 1) (.loop (apLoop apA apB fn a.tmps w.heap.size .ready))), (7, Pt w.heap.size (.deferred (some []))), (0, capO cb pb), (1, MapO .u32 pb pm)] w2 := q4.sub ⟨rfl, rfl, rfl, rfl, rfl, rfl, trivial⟩
  have hl := q5.pt (i := 8) rfl
  have hend := run_endLoop (P := Try.prog) hl (by simp [apLoop])
  have q6 := q5.putObj (j := 8) (o' := .loop { apLoop apA apB fn a.tmps w.heap.size .ready with state := .exhausted }) rfl
  refine ⟨none, _, hend, ?_⟩
  show K2 _ _
  refine hK2 _ _ ?_
  refine (wpIn_wide (n := 1)).1 (wpIn_seq ?_)
  have hd : a.defers = [] := ha.defers
  rw [hd, List.append_nil]
  refine regionIn_of (D := [{ target := .collected w.heap.size, args := #[] }]) (Q := fun e a w' => match e with | .normal => At 13 [(4, .slice A s.length c)] a ∧ St cx ρ' [(7, Pt w.heap.size (.deferred (some []))), (2, OwnS 25 1 A s.length c s), (0, capO cb pb), (1, MapO .u32 pb pm)] w' | _ => False)
    (fun _ => trivial) ?_ [(0, false), (1, false)] rfl rfl ?_ ha q6 ?_
  · intro o ho
    simp only [List.mem_cons, List.not_mem_nil, or_false] at ho
    rcases ho with rfl | rfl
    · exact vo_load rfl
    · exact vo_assign rfl
  · refine Jp.y 12 rfl (want_all rfl) rfl rfl Kp.true (Y.loadO 5 rfl Try.isAgg29 rfl rfl rfl) ?_
    refine Jp.y 4 rfl (want_all rfl) rfl rfl Kp.true (Y.assign rfl rfl) ?_
    exact fun a w' ha' hs' => ⟨ha'.sub ⟨rfl, trivial⟩, hs'.sub ⟨rfl, rfl, rfl, rfl, trivial⟩⟩
  rintro a3 w3 ⟨ha3, hs3⟩
  have hD := hs3.pt (i := 7) rfl
  have hs4 := hs3.putObj (j := 7) (o' := .deferred none) rfl
  show Code.ret.wpIn Fence.wide 1 Try.prog _ _ _
  refine wpIn_ret ?_
  refine ⟨by simp, .inl ⟨_, _, rfl, run_takeDeferred hD, ?_⟩⟩
  have h4 := ha3.slot 4 _ rfl
  refine ⟨.slice A s.length c, ?_, .slice A s.length c, ρ', _, rfl, ⟨s, A, c, hperm, rfl, rfl⟩, ?_⟩
  · simp [results, Try.f107, h4]
  · exact hs4.sub ⟨rfl, rfl, rfl, trivial⟩
theorem collect_spec (cb pb : Nat) (pm : MapL) (hlen : pm.length ≤ 4096) : Spec Try.prog 79 #[kfn cb] (fun _ => True) [(0, capO cb pb), (1, MapO .u32 pb pm)]
    (fun ρ ρ' v L => ∃ s A c, s.Perm (keysV pm) ∧ v = .slice A s.length c ∧ L = [(0, capO cb pb), (1, MapO .u32 pb pm), (2, OwnS 25 1 A s.length c s)]) := by
  refine Spec.of 5 Try.func79 rfl Try.ntmps79 [(0, _)] rfl rfl ?_
  intro cx ρ hr h0
  refine Cd.seq fun K4 hK4 => ?_
  refine Cd.plain [(0, false)] rfl rfl ?_
  refine Jp.y 2 rfl (want_all rfl) rfl rfl Kp.true (Y.assign rfl rfl) ?_
  refine Jp.done hK4 ?_
  refine Cd.seq fun K5 hK5 => ?_
  refine Cd.plain [(0, false), (1, false), (2, false)] rfl rfl ?_
  refine Jp.y 3 rfl (want_all rfl) rfl rfl Kp.true (Y.move rfl rfl) ?_
  refine Jp.call [0, 1] [0, 1, 2] (appendSeq_spec cb pb pm hlen) 4 rfl (want_all rfl) rfl rfl (Runs.fn rfl Try.call107 rfl) (by decide) (by decide) rfl trivial ?_
  rintro v1 ρ1 L1 ⟨s, A, c, hs, rfl, rfl⟩
  refine ⟨rfl, fun hle1 => ⟨Kp.true, ?_⟩⟩
  refine Jp.y 2 rfl (want_all rfl) rfl rfl Kp.true (Y.assign rfl rfl) ?_
  refine Jp.done hK5 ?_
  refine Cd.ret [(0, _), (1, _), (2, _)] rfl (res1 rfl rfl) ⟨rfl, rfl, rfl, trivial⟩ ⟨s, A, c, hs, rfl, rfl⟩
theorem keys_spec (pb : Nat) : Spec Try.prog 51 #[.map (some pb)] (fun _ => True) [] (fun ρ ρ' v L => ρ' = ρ ∧ ∃ cb, v = kfn cb ∧ L = [(0, capO cb pb)]) := by
  refine Spec.of 4 Try.func51 rfl Try.ntmps51 [(0, _)] rfl rfl ?_
  intro cx ρ hr h0
  refine Cd.seq fun K6 hK6 => ?_
  refine Cd.plain [(0, false), (1, false)] rfl rfl ?_
  refine Jp.box 0 1 rfl (want_all rfl) rfl rfl rfl rfl fun b0 => ⟨Kp.true, ?_⟩
  refine Jp.y 2 rfl (want_all rfl) rfl rfl Kp.true (Y.assign rfl rfl) ?_
  refine Jp.done hK6 ?_
  refine Cd.seq fun K7 hK7 => ?_
  refine Cd.plain [(0, false), (1, false)] rfl rfl ?_
  refine Jp.y 3 rfl (want_all rfl) rfl rfl Kp.true (Y.makeFunc rfl rfl) ?_
  refine Jp.y 2 rfl (want_all rfl) rfl rfl Kp.true (Y.assign rfl rfl) ?_
  refine Jp.done hK7 ?_
  refine Cd.ret [(0, _)] rfl (res1 rfl rfl) ⟨rfl, trivial⟩ ⟨rfl, b0, rfl, rfl⟩
end Go.Proofs.Ytkjeidoplonkjaa
set_option linter.unusedVariables false
set_option linter.unusedSimpArgs false
set_option maxRecDepth 100000
namespace Go.Proofs.Ytkjeidoplonkjaa
open Go
def ltN (x y : Nat) : Bool := decide (x < y)
theorem isNaN_spec (x : Int) : Spec Try.prog 149 #[.int .u32 x] (fun _ => True) [] (fun ρ ρ' v L => ρ' = ρ ∧ v = .bool false ∧ L = []) := by
  refine Spec.of 6 Try.func149 rfl Try.ntmps149 [(0, _)] rfl rfl ?_
  intro cx ρ hr h0
  refine Cd.seq fun K1 hK1 => ?_
  refine Cd.plain [(0, false)] rfl rfl ?_
  refine Jp.y 2 rfl (want_all rfl) rfl rfl Kp.true (Y.assign rfl rfl) ?_
  refine Jp.done hK1 ?_
  refine Cd.seq fun K2 hK2 => ?_
  refine Cd.plain [(0, false), (1, false), (2, false), (3, false)] rfl rfl ?_
  refine Jp.y 3 rfl (want_all rfl) rfl rfl Kp.true (Y.move rfl rfl) ?_
  refine Jp.y 4 rfl (want_all rfl) rfl rfl Kp.true (Y.move rfl rfl) ?_
  refine Jp.y 5 rfl (want_all rfl) rfl rfl Kp.true (Y.neq rfl rfl rfl) ?_
  refine Jp.y 2 rfl (want_all rfl) rfl rfl Kp.true (Y.assign rfl rfl) ?_
  refine Jp.done hK2 ?_
  refine Cd.ret [] rfl (res1 rfl rfl) trivial ⟨rfl, by simp, rfl⟩
theorem less_spec (x y : Nat) : Spec Try.prog 133 #[.int .u32 x, .int .u32 y] (fun _ => True) [] (fun ρ ρ' v L => ρ' = ρ ∧ v = .bool (ltN x y) ∧ L = []) := by
  refine Spec.of 17 Try.func133 rfl Try.ntmps133 [(0, _), (1, _)] rfl rfl ?_
  intro cx ρ hr h0
  refine Cd.seq fun K3 hK3 => ?_
  refine Cd.plain [(0, false)] rfl rfl ?_
  refine Jp.y 4 rfl (want_all rfl) rfl rfl Kp.true (Y.assign rfl rfl) ?_
  refine Jp.done hK3 ?_
  refine Cd.seq fun K4 hK4 => ?_
  refine Cd.plain [(0, false), (1, false), (2, false), (3, false), (4, false), (5, false), (6, false), (7, false), (8, false), (9, false), (10, false), (11, false), (12, false)] rfl rfl ?_
  refine Jp.y 5 rfl (want_all rfl) rfl rfl Kp.true (Y.move rfl rfl) ?_
  refine Jp.call [] [] (isNaN_spec x) 6 rfl (want_all rfl) rfl rfl (Runs.fn rfl Try.call149 rfl) (by decide) (by decide) rfl trivial ?_
  rintro v1 ρ1 L1 ⟨rfl, rfl, rfl⟩
  refine ⟨rfl, fun hle1 => ⟨Kp.true, ?_⟩⟩
  refine Jp.y 7 rfl (want_all rfl) rfl rfl Kp.true (Y.move rfl rfl) ?_
  refine Jp.split 7 rfl (fun g7 => ?_) (fun g7 => ?_)
  · skip
    cases g7
  try simp only [decide_eq_false_iff_not, decide_eq_true_eq, Int.not_lt, Int.not_le, Bool.not_eq_false, Bool.not_eq_true, Bool.not_true, Bool.not_false, Bool.not_eq_true', Bool.not_eq_false', beq_eq_false_iff_ne, ne_eq, beq_iff_eq, bne_iff_ne, bne_eq_false_iff_eq, Classical.not_not] at g7
  refine Jp.skip 8 rfl (want_as rfl rfl rfl rfl) rfl rfl Kp.true ?_
  refine Jp.skip 9 rfl (want_as rfl rfl rfl rfl) rfl rfl Kp.true ?_
  refine Jp.skip 10 rfl (want_as rfl rfl rfl rfl) rfl rfl Kp.true ?_
  refine Jp.y 11 rfl (want_all rfl) rfl rfl Kp.true (Y.pickF rfl rfl rfl) ?_
  refine Jp.y 12 rfl (want_all rfl) rfl rfl Kp.true (Y.move rfl rfl) ?_
  refine Jp.y 13 rfl (want_as rfl rfl rfl rfl) rfl rfl Kp.true (Y.move rfl rfl) ?_
  refine Jp.y 14 rfl (want_as rfl rfl rfl rfl) rfl rfl Kp.true (Y.move rfl rfl) ?_
  refine Jp.y 15 rfl (want_as rfl rfl rfl rfl) rfl rfl Kp.true (Y.lss rfl rfl rfl) ?_
  refine Jp.y 16 rfl (want_all rfl) rfl rfl Kp.true (Y.pickF rfl rfl rfl) ?_
  refine Jp.y 4 rfl (want_all rfl) rfl rfl Kp.true (Y.assign rfl rfl) ?_
  refine Jp.done hK4 ?_
  refine Cd.ret [] rfl (res1 rfl rfl) trivial ⟨rfl, congrArg Value.bool (decide_eq_decide.2 (by omega)), rfl⟩
theorem natsV_get (k : IntKind) {l : List Nat} {q x : Nat} (h : l[q]? = some x) : (natsV k l)[q]? = some (.int k x) := by rw [natsV, List.getElem?_map, h]; rfl
theorem natsV_set (k : IntKind) (l : List Nat) (q x : Nat) : (natsV k l).set q (.int k x) = natsV k (l.set q x) := by rw [natsV, natsV, List.map_set]
theorem swp_list (d : Array Nat) {i j : Nat} (hi : i < d.size) (hj : j < d.size) : (Go.Sort.swp d i j).toList = (d.toList.set i d[j]).set j d[i] := by
  simp [Go.Sort.swp, hi, hj]
theorem swp_size (d : Array Nat) (i j : Nat) : (Go.Sort.swp d i j).size = d.size := by simp [Go.Sort.swp]
def rowO (A : Option Addr) (n c : Nat) (d : Array Nat) : HProp := OwnS 25 1 A n c (natsV .u32 d.toList)
theorem insSort_spec (A : Option Addr) (n c : Nat) (d0 : Array Nat) (a e : Nat) (hd : d0.size = n) (hae : a ≤ e) (hen : e ≤ n) (hn : n ≤ 4096) : Spec Try.prog 127 #[.slice A n c, .int .i64 a, .int .i64 e] (fun _ => True) [(0, rowO A n c d0)]
    (fun ρ ρ' v L => ρ' = ρ ∧ v = .tuple #[] ∧ L = [(0, rowO A n c (Go.Sort.insertionSort ltN d0 a e))]) := by
  refine Spec.of 49 Try.func127 rfl Try.ntmps127 [(0, _), (1, _), (2, _)] rfl rfl ?_
  intro cx ρ hr h0
  refine Cd.seq fun K5 hK5 => ?_
  refine Cd.plain [(0, false), (1, false), (2, false)] rfl rfl ?_
  refine Jp.y 8 rfl (want_all rfl) rfl rfl Kp.true (Y.move rfl rfl) ?_
  refine Jp.y 9 rfl (want_all rfl) rfl rfl Kp.true (Y.add_ rfl rfl rfl (by first | exact wrap_i64 (by omega) (by omega) | rfl)) ?_
  refine Jp.y 6 rfl (want_all rfl) rfl rfl Kp.true (Y.assign rfl rfl) ?_
  refine Jp.done hK5 ?_
  refine Cd.block ?_
  refine Cd.loopK (G := Nat × Array Nat) (fun g => Go.Sort.insOuter ltN a e g.1 g.2 = Go.Sort.insertionSort ltN d0 a e ∧ a + 1 ≤ g.1 ∧ g.1 ≤ e + 1 ∧ g.2.size = n) (fun g => e + 1 - g.1) (fun _ => _) (fun g => [(6, .int .i64 g.1)]) [(0, _), (1, _), (2, _)] (fun g => [(0, rowO A n c g.2)]) [] ⟨a + 1, d0⟩ ⟨rfl, Nat.le_refl _, (by show a + 1 ≤ e + 1; omega), hd⟩ rfl ⟨rfl, trivial⟩ ⟨rfl, rfl, rfl, trivial⟩ ⟨rfl, trivial⟩ trivial (fun g KLa hok hLa => ?_)
  obtain ⟨i, d⟩ := g
  obtain ⟨ok1, ok2, ok3, ok4⟩ := hok
  dsimp only at ok1 ok2 ok3 ok4 ⊢
  refine Cd.seq fun K6 hK6 => ?_
  refine Cd.seq fun K7 hK7 => ?_
  refine Cd.plain [(0, false), (1, false), (2, false)] rfl rfl ?_
  refine Jp.y 10 rfl (want_all rfl) rfl rfl Kp.true (Y.move rfl rfl) ?_
  refine Jp.y 11 rfl (want_all rfl) rfl rfl Kp.true (Y.move rfl rfl) ?_
  refine Jp.y 12 rfl (want_all rfl) rfl rfl Kp.true (Y.lss rfl rfl rfl) ?_
  refine Jp.done hK7 ?_
  refine Cd.cond rfl (fun ga => ?_) (fun ga => ?_)
  · simp only [decide_eq_true_eq] at ga
    have hie : i < e := by omega
    rw [Go.Sort.insOuter, if_pos hie] at ok1
    obtain ⟨d2, hd2⟩ : ∃ d2, d2 = Go.Sort.insInner ltN a i d := ⟨_, rfl⟩
    rw [← hd2] at ok1
    refine Cd.skip hK6 ?_
    refine Cd.seq fun K8 hK8 => ?_
    refine Cd.block ?_
    refine Cd.seq fun K9 hK9 => ?_
    refine Cd.plain [(0, false), (1, false)] rfl rfl ?_
    refine Jp.y 15 rfl (want_all rfl) rfl rfl Kp.true (Y.move rfl rfl) ?_
    refine Jp.y 7 rfl (want_all rfl) rfl rfl Kp.true (Y.assign rfl rfl) ?_
    refine Jp.done hK9 ?_
    refine Cd.block ?_
    refine Cd.loopK (G := Nat × Array Nat) (fun g => Go.Sort.insInner ltN a g.1 g.2 = d2 ∧ a ≤ g.1 ∧ g.1 ≤ i ∧ g.2.size = n) (fun g => g.1) (fun _ => _) (fun g => [(7, .int .i64 g.1)]) [(0, _), (1, _), (2, _), (6, _)] (fun g => [(0, rowO A n c g.2)]) [] ⟨i, d⟩ ⟨hd2.symm, (by show a ≤ i; omega), Nat.le_refl _, ok4⟩ rfl ⟨rfl, trivial⟩ ⟨rfl, rfl, rfl, rfl, trivial⟩ ⟨rfl, trivial⟩ trivial (fun g KLb hok hLb => ?_)
    obtain ⟨j, dj⟩ := g
    obtain ⟨oj1, oj2, oj3, oj4⟩ := hok
    dsimp only at oj1 oj2 oj3 oj4 ⊢
    refine Cd.seq fun K10 hK10 => ?_
    refine Cd.seq fun K11 hK11 => ?_
    refine Cd.drawn [(0, _)] ⟨rfl, trivial⟩ [(0, true), (1, true), (2, true), (3, true), (4, true), (5, true), (6, true), (7, true), (8, true), (9, true), (10, true), (11, true), (12, true), (13, false), (14, true)] follows (by kernel_rfl) (fun hrl => ?_)
    refine Jp.q 16 rfl (want_all rfl) rfl rfl (Y.move rfl rfl) ?_
    refine Jp.q 17 rfl (want_all rfl) rfl rfl (Y.move rfl rfl) ?_
    refine Jp.q 18 rfl (want_all rfl) rfl rfl (Y.gtr rfl rfl rfl) ?_
    refine Jp.q 19 rfl (want_all rfl) rfl rfl (Y.move rfl rfl) ?_
    refine Jp.splitF 19 rfl (fun g19 => ?_) (fun g19 => ?_)
    · skip
      try simp only [decide_eq_false_iff_not, decide_eq_true_eq, Int.not_lt, Int.not_le, Bool.not_eq_false, Bool.not_eq_true, Bool.not_true, Bool.not_false, Bool.not_eq_true', Bool.not_eq_false', beq_eq_false_iff_ne, ne_eq, beq_iff_eq, bne_iff_ne, bne_eq_false_iff_eq, Classical.not_not] at g19
      have e1 : Go.Sort.insInner ltN a j dj = dj := by
        cases j with
        | zero => rfl
        | succ j => rw [Go.Sort.insInner, if_neg (by simp; omega)]
      rw [e1] at oj1
      subst oj1
      refine Jp.qskip 20 rfl (want_as rfl rfl rfl rfl) rfl rfl ?_
      refine Jp.qskip 21 rfl (want_as rfl rfl rfl rfl) rfl rfl ?_
      refine Jp.qskip 22 rfl (want_as rfl rfl rfl rfl) rfl rfl ?_
      refine Jp.qskip 23 rfl (want_as rfl rfl rfl rfl) rfl rfl ?_
      refine Jp.qskip 24 rfl (want_as rfl rfl rfl rfl) rfl rfl ?_
      refine Jp.qskip 25 rfl (want_as rfl rfl rfl rfl) rfl rfl ?_
      refine Jp.qskip 26 rfl (want_as rfl rfl rfl rfl) rfl rfl ?_
      refine Jp.qskip 27 rfl (want_as rfl rfl rfl rfl) rfl rfl ?_
      refine Jp.qskip 28 rfl (want_as rfl rfl rfl rfl) rfl rfl ?_
      refine Jp.skip 29 rfl (want_as rfl rfl rfl rfl) rfl rfl (Kp.st ⟨rfl, trivial⟩) ?_
      refine Jp.q 30 rfl (want_all rfl) rfl rfl (Y.pickF rfl rfl rfl) ?_
      refine Jp.done hK11 ?_
      refine Cd.condF rfl ?_
      refine Cd.exit rfl hK8 ?_
      refine Cd.plain [(0, false), (1, false), (2, false)] rfl rfl ?_
      refine Jp.y 13 rfl (want_all rfl) rfl rfl Kp.true (Y.move rfl rfl) ?_
      refine Jp.y 14 rfl (want_all rfl) rfl rfl Kp.true (Y.add_ rfl rfl rfl (by first | exact wrap_i64 (by omega) (by omega) | rfl)) ?_
      refine Jp.y 6 rfl (want_all rfl) rfl rfl Kp.true (Y.assign rfl rfl) ?_
      refine Jp.again hLa ⟨i + 1, dj⟩ ⟨ok1, by show a + 1 ≤ i + 1; omega, by show i + 1 ≤ e + 1; omega, oj4⟩ (by show e + 1 - (i + 1) < e + 1 - i; omega) rfl ⟨rfl, rfl, rfl, rfl, trivial⟩ ⟨rfl, trivial⟩
    try simp only [decide_eq_false_iff_not, decide_eq_true_eq, Int.not_lt, Int.not_le, Bool.not_eq_false, Bool.not_eq_true, Bool.not_true, Bool.not_false, Bool.not_eq_true', Bool.not_eq_false', beq_eq_false_iff_ne, ne_eq, beq_iff_eq, bne_iff_ne, bne_eq_false_iff_eq, Classical.not_not] at g19
    refine Jp.q 20 rfl (want_as rfl rfl rfl rfl) rfl rfl (Y.move rfl rfl) ?_
    obtain ⟨q, rfl⟩ : ∃ q, j = q + 1 := ⟨j - 1, by omega⟩
    have hq1 : q + 1 < dj.size := by omega
    have hq0 : q < dj.size := by omega
    have v1 : dj.toList[q + 1]? = some dj[q + 1] := by simp
    have v0 : dj.toList[q]? = some dj[q] := by simp
    refine Jp.ownAt 0 rfl (show 0 < n by omega) ?_
    rintro b rfl
    have c1 : HasC (rowO (some ⟨b, 0, none⟩) n c dj) _ _ := OwnS.hasC (natsV_get .u32 v1)
    have c0 : HasC (rowO (some ⟨b, 0, none⟩) n c dj) _ _ := OwnS.hasC (natsV_get .u32 v0)
    have hin : Go.Sort.insInner ltN a (q + 1) dj = if (decide (q + 1 > a) && ltN dj[q + 1] dj[q]) = true then Go.Sort.insInner ltN a q (Go.Sort.swp dj (q + 1) q) else dj := by
      rw [Go.Sort.insInner]
      simp [hq1, hq0]
    have hqa : decide (q + 1 > a) = true := decide_eq_true (by omega)
    rw [hqa, Bool.true_and] at hin
    refine Jp.q 21 rfl (want_as rfl rfl rfl rfl) rfl rfl (Y.move rfl rfl) ?_
    refine Jp.q 22 rfl (want_as rfl rfl rfl rfl) rfl rfl (Y.indexAddr (q := q + 1) rfl rfl rfl Try.underlying29 Try.sizeOf25 (by omega) (by omega) (by omega)) ?_
    refine Jp.q 23 rfl (want_as rfl rfl rfl rfl) rfl rfl (by first | exact Y.loadC 0 rfl Try.isAgg25 rfl rfl c1 | exact Y.loadC 0 rfl Try.isAgg25 rfl rfl c0) ?_
    refine Jp.q 24 rfl (want_as rfl rfl rfl rfl) rfl rfl (Y.move rfl rfl) ?_
    refine Jp.q 25 rfl (want_as rfl rfl rfl rfl) rfl rfl (Y.move rfl rfl) ?_
    refine Jp.q 26 rfl (want_as rfl rfl rfl rfl) rfl rfl (Y.sub_ rfl rfl rfl (by first | exact wrap_i64 (by omega) (by omega) | rfl)) ?_
    refine Jp.q 27 rfl (want_as rfl rfl rfl rfl) rfl rfl (Y.indexAddr (q := q) rfl rfl rfl Try.underlying29 Try.sizeOf25 (by omega) (by omega) (by omega)) ?_
    refine Jp.q 28 rfl (want_as rfl rfl rfl rfl) rfl rfl (by first | exact Y.loadC 0 rfl Try.isAgg25 rfl rfl c1 | exact Y.loadC 0 rfl Try.isAgg25 rfl rfl c0) ?_
    refine Jp.call [] [] (less_spec dj[q + 1] dj[q]) 29 rfl (want_as rfl rfl rfl rfl) rfl rfl (Runs.fn rfl Try.call133 rfl) (by decide) (by decide) rfl trivial ?_
    rintro v1 ρ1 L1 ⟨rfl, rfl, rfl⟩
    refine ⟨rfl, fun hle1 => ⟨(Kp.st ⟨rfl, trivial⟩), ?_⟩⟩
    refine Jp.q 30 rfl (want_all rfl) rfl rfl (Y.pickT rfl rfl rfl) ?_
    refine Jp.done hK11 ?_
    refine Cd.cond rfl (fun gb => ?_) (fun gb => ?_)
    · rw [gb, if_pos rfl] at hin
      refine Cd.skip hK10 ?_
      refine Cd.seq fun K13 hK13 => ?_
      refine Cd.block ?_
      refine Cd.drawn3 [(0, _)] ⟨rfl, trivial⟩ [(2, true), (3, true), (4, true)] [(0, true), (1, true), (5, true), (6, true), (7, true), (8, true), (9, true), (10, true), (11, true), (12, true), (13, true), (14, true)] 15 [(16, true), (17, false)] follows (by kernel_rfl) (fun hrl => ?_)
      refine Jp2.q 35 rfl (want_all rfl) rfl rfl (fun _ => (Y.move rfl rfl)) ?_
      refine Jp2.q 36 rfl (want_all rfl) rfl rfl (fun _ => (Y.move rfl rfl)) ?_
      refine Jp2.q 37 rfl (want_all rfl) rfl rfl (fun _ => (Y.sub_ rfl rfl rfl (by first | exact wrap_i64 (by omega) (by omega) | rfl))) ?_
      refine Jp2.head ?_
      refine Jp.q 33 rfl (want_all rfl) rfl rfl (Y.move rfl rfl) ?_
      refine Jp.q 34 rfl (want_all rfl) rfl rfl (Y.move rfl rfl) ?_
      refine Jp.q 38 rfl (want_all rfl) rfl rfl (Y.move rfl rfl) ?_
      refine Jp.q 39 rfl (want_all rfl) rfl rfl (Y.move rfl rfl) ?_
      refine Jp.q 40 rfl (want_all rfl) rfl rfl (Y.sub_ rfl rfl rfl (by first | exact wrap_i64 (by omega) (by omega) | rfl)) ?_
      refine Jp.q 41 rfl (want_all rfl) rfl rfl (Y.indexAddr (q := q) rfl rfl rfl Try.underlying29 Try.sizeOf25 (by omega) (by omega) (by omega)) ?_
      refine Jp.q 42 rfl (want_all rfl) rfl rfl (by first | exact Y.loadC 0 rfl Try.isAgg25 rfl rfl c0 | exact Y.loadC 0 rfl Try.isAgg25 rfl rfl c1) ?_
      refine Jp.q 43 rfl (want_all rfl) rfl rfl (Y.move rfl rfl) ?_
      refine Jp.q 44 rfl (want_all rfl) rfl rfl (Y.move rfl rfl) ?_
      refine Jp.q 45 rfl (want_all rfl) rfl rfl (Y.indexAddr (q := q + 1) rfl rfl rfl Try.underlying29 Try.sizeOf25 (by omega) (by omega) (by omega)) ?_
      refine Jp.q 46 rfl (want_all rfl) rfl rfl (by first | exact Y.loadC 0 rfl Try.isAgg25 rfl rfl c0 | exact Y.loadC 0 rfl Try.isAgg25 rfl rfl c1) ?_
      refine Jp.q 47 rfl (want_all rfl) rfl rfl (Y.indexAddr (q := q + 1) rfl rfl rfl Try.underlying29 Try.sizeOf25 (by omega) (by omega) (by omega)) ?_
      refine Jp2.tail ?_
      refine Jp2.loud ?_
      refine Jp.storeS 0 (q := q + 1) rfl (want_all rfl) rfl rfl Try.sizeOf25 rfl rfl rfl rfl rfl (by omega) (natsV .u32 (dj.toList.set (q + 1) dj[q])) (natsV_set _ _ _ _) Kp.true ?_
      refine Jp2.tail ?_
      refine Jp2.q 48 rfl (want_all rfl) rfl rfl (fun _ => (Y.indexAddr (q := q) rfl rfl rfl Try.underlying29 Try.sizeOf25 (by omega) (by omega) (by omega))) ?_
      refine Jp2.loud ?_
      refine Jp.storeS 0 (q := q) rfl (want_all rfl) rfl rfl Try.sizeOf25 rfl rfl rfl rfl rfl (by omega) (natsV .u32 (Go.Sort.swp dj (q + 1) q).toList) (by rw [natsV_set, swp_list dj hq1 hq0]) Kp.true ?_
      refine Jp2.tail ?_
      refine Jp2.nil ?_
      refine Jp.over rfl hK13 ?_
      refine Cd.plain [(0, false), (1, false), (2, false)] rfl rfl ?_
      refine Jp.y 31 rfl (want_all rfl) rfl rfl Kp.true (Y.move rfl rfl) ?_
      refine Jp.y 32 rfl (want_all rfl) rfl rfl Kp.true (Y.sub_ rfl rfl rfl (by first | exact wrap_i64 (by omega) (by omega) | rfl)) ?_
      refine Jp.y 7 rfl (want_all rfl) rfl rfl Kp.true (Y.assign rfl rfl) ?_
      refine Jp.slot 7 rfl (congrArg (Value.int .i64) (show ((q + 1 : Nat) : Int) - 1 = (q : Int) by omega)) ?_
      refine Jp.again hLb ⟨q, Go.Sort.swp dj (q + 1) q⟩ ⟨by rw [← oj1, hin], by show a ≤ q; omega, by show q ≤ i; omega, by rw [swp_size]; exact oj4⟩ (by show q < q + 1; omega) rfl ⟨rfl, rfl, rfl, rfl, rfl, trivial⟩ ⟨rfl, trivial⟩
    · rw [gb] at hin
      rw [if_neg (by simp)] at hin
      rw [hin] at oj1
      subst oj1
      refine Cd.exit rfl hK8 ?_
      refine Cd.plain [(0, false), (1, false), (2, false)] rfl rfl ?_
      refine Jp.y 13 rfl (want_all rfl) rfl rfl Kp.true (Y.move rfl rfl) ?_
      refine Jp.y 14 rfl (want_all rfl) rfl rfl Kp.true (Y.add_ rfl rfl rfl (by first | exact wrap_i64 (by omega) (by omega) | rfl)) ?_
      refine Jp.y 6 rfl (want_all rfl) rfl rfl Kp.true (Y.assign rfl rfl) ?_
      refine Jp.again hLa ⟨i + 1, dj⟩ ⟨ok1, by show a + 1 ≤ i + 1; omega, by show i + 1 ≤ e + 1; omega, oj4⟩ (by show e + 1 - (i + 1) < e + 1 - i; omega) rfl ⟨rfl, rfl, rfl, rfl, trivial⟩ ⟨rfl, trivial⟩
  · simp only [decide_eq_false_iff_not] at ga
    have : ¬ i < e := by omega
    rw [Go.Sort.insOuter, if_neg this] at ok1
    subst ok1
    refine Cdx.end [(0, _)] rfl (res0 rfl) ⟨rfl, trivial⟩ ⟨rfl, rfl, rfl⟩
end Go.Proofs.Ytkjeidoplonkjaa
