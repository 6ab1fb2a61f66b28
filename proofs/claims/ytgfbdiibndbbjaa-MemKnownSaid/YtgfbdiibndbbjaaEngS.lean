/- The small logic, part eighteen: interfaces that hold maps; maps.clone. -/
import Derived.Test.YtgfbdiibndbbjaaEngQ
import Derived.Laws.StandIn
set_option linter.unusedVariables false
set_option linter.unusedSimpArgs false
namespace Go.Proofs.Ytgfbdiibndbbjaa
open Go
section
variable {P : Program} {n : Nat} {cx : Cx} {ρ : Hp} {E : Env} {L : Own} {o : Oper} {ops : Array Oper} {Q : Exit → Act → World → Prop} {S' : World → Prop} {π : List (Nat × Bool)} {i : Nat} {v : Value}
theorem eq_mapNil {t kt et : TypeId} (d : Nat) {A : Option Nat} (hT : P.underlying t = some (.map kt et)) (w : World) : (Op.equalIn (d + 1) t (.map A) (.map none)).run P w = .ok A.isNone w := by
  unfold Op.equalIn
  simp only [Sem.run_bind, run_underlying hT, Result.andThen_ok]
  cases A <;> rfl
theorem Y.mapNil {x y : Operand} {t u kt et : TypeId} {A : Option Nat} (hop : o.op = .binOp .eql t x y u) (hT : P.underlying t = some (.map kt et)) (hx : evE E x = some (.map A)) (hy : evE E y = some (.map none)) : Y P n cx ρ E L o (.bool A.isNone) := fun ac w ha _ => by
  simp only [execOp, hop, ha.ev hx, ha.ev hy, eqGuard, binOp, equal_eq, Sem.run_bind, Sem.run_pure, Result.andThen_ok, eq_mapNil _ hT]
  rfl
theorem Y.ifaceMap {x : Operand} {t kt et : TypeId} (hop : o.op = .makeInterface t x) (hT : P.underlying t = some (.map kt et)) (hx : evE E x = some v) : Y P n cx ρ E L o (.iface t v) := fun ac w ha _ => by
  simp only [execOp, hop, ha.ev hx, Instr.makeInterface, Sem.run_bind, run_underlying hT, Result.andThen_ok, Sem.run_pure]
theorem Y.assertMap {x : Operand} {t s kt et : TypeId} (hop : o.op = .typeAssert x s t false) (hT : P.underlying t = some (.map kt et)) (hx : evE E x = some (.iface t v)) : Y P n cx ρ E L o v := fun ac w ha _ => by
  simp only [execOp, hop, ha.ev hx, Instr.typeAssert, Sem.run_bind, run_underlying hT, Result.andThen_ok, Sem.run_pure, if_true, Bool.false_eq_true, if_false]
theorem run_clone {t : TypeId} {b : Nat} {es : Array MapEntry} {clock : Nat} {w : World} (h : w.heap[b]? = some (.map es clock)) : (Extern.MapsClone.clone #[.iface t (.map (some b))]).run P w = .ok (.iface t (.map (some w.heap.size))) { w with heap := w.heap.push (.map es clock) } := by
  have hc : Extern.MapsClone.clone #[.iface t (.map (some b))] = (getObj b >>= fun o => match o with
    | .map entries clock => (newObj (.map entries clock) >>= fun r => pure (Value.iface t (.map (some r))))
    | _ => stuck "maps.clone: a map expected") := rfl
  rw [hc]
  simp only [Sem.run_bind, run_getObj h, Result.andThen_ok, newObj, Sem.run, Sem.run_pure]
/-- maps.clone: a new map with the same entries. -/
theorem Jp.cloneMap (d j j' : Nat) {F : FuncId} {x : Operand} {ts : Array TypeId} {t : TypeId} {kk : IntKind} {b : Nat} {m : MapL} (hi : nth ops.toList i = some o) (hw : Want n ops E o true) (he : o.dst = some d) (hd : Nat.blt d n = true)
    (hop : o.op = .call { callee := .value (.func F), args := #[x], argTypes := ts }) (hF : ∀ (args : Array Value) (w : World), (callFunc F args).run P w = ((Extern.MapsClone.clone args).run P w).andThen fun v w' => .ok (.value v) w')
    (hx : evE E x = some (.iface t (.map (some b)))) (hj : look L j = some (MapO kk b m))
    (h : ∀ b', Kp π S' cx ρ ((j', MapO kk b' m) :: L) ∧ Jp P ops Q S' n cx π ρ ((d, .iface t (.map (some b'))) :: E) ((j', MapO kk b' m) :: L)) : Jp P ops Q S' n cx ((i, false) :: π) ρ E L := by
  intro a w ha hs
  obtain ⟨es, clock, h1, hst, h2⟩ := mapO_get hs hj
  obtain ⟨h3, h4⟩ := h w.heap.size
  have hf : a.eval (.func F) = .func (.func F) #[] #[] := rfl
  have hr : (execOp a.eval o).run P w = .ok (.value (.iface t (.map (some w.heap.size)))) { w with heap := w.heap.push (.map es clock) } := by
    simp only [execOp, hop, resolve, List.map_toArray, List.map_cons, List.map_nil, ha.ev hx, hf, Deferred.ofValue, Sem.run_bind, Sem.run_pure, Result.andThen_ok, invoke]
    have e : (#[] ++ #[.iface t (.map (some b))] ++ #[] : Array Value) = #[.iface t (.map (some b))] := rfl
    simp only [e, hF, run_clone h1, Result.andThen_ok]
  simp only [wpPi, wpOp, nth_arr hi, hw a ha, if_true, Oper.wp, hr, Oper.upon]
  have hs' := hs.allocA j' (A := MapO kk w.heap.size m) (.map es clock) fun h' hh' => ⟨es, clock, hh', hst, h2⟩
  exact .inl ⟨h3.get hs', h4 _ _ (ha.put' he hd _) hs'⟩
end
end Go.Proofs.Ytgfbdiibndbbjaa
