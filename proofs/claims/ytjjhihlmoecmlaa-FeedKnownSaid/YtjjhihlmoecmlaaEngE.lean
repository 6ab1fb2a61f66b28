/- The small logic, part five: strings cut and turned. -/
import Derived.Test.YtjjhihlmoecmlaaEngD
set_option linter.unusedVariables false
set_option linter.unusedSimpArgs false
namespace Go.Proofs.Ytjjhihlmoecmlaa
open Go
variable {P : Program} {n : Nat} {cx : Cx} {ρ : Hp} {E : Env} {L : Own} {o : Oper} {ops : Array Oper} {Q : Exit → Act → World → Prop} {S : Act → World → Prop} {π : List (Nat × Bool)} {i : Nat}
/-! ### 21. Strings out of bytes, strings cut -/
def mkS (l : List UInt8) : ByteArray := ⟨l.toArray⟩
theorem str_mkS (l : List UInt8) : str (mkS l) = l := by simp [str, mkS]
theorem mkS_str (s : ByteArray) : mkS (str s) = s := by simp [str, mkS]
theorem mkS_size (l : List UInt8) : (mkS l).size = l.length := by simp [mkS, ByteArray.size]
theorem str_append (a b : ByteArray) : str (a ++ b) = str a ++ str b := by simp [str]
theorem mkS_append (a b : List UInt8) : mkS a ++ mkS b = mkS (a ++ b) := by
  have := mkS_str (mkS a ++ mkS b)
  rw [str_append, str_mkS, str_mkS] at this
  exact this.symm
theorem str_extract (s : ByteArray) (l h : Nat) : str (s.extract l h) = ((str s).take h).drop l := by
  rw [str, ByteArray.data_extract, Array.toList_extract, str, List.extract_eq_take_drop, List.take_drop]
  by_cases h' : l ≤ h
  · rw [Nat.add_sub_cancel' h']
  · rw [List.drop_eq_nil_of_le (by rw [List.length_take]; omega), List.drop_eq_nil_of_le (by rw [List.length_take]; omega)]
theorem push_all (l : List UInt8) : ∀ s : ByteArray, l.foldl (fun s b => s.push b) s = mkS (str s ++ l) := by
  induction l with
  | nil => intro s; rw [List.append_nil]; exact (mkS_str s).symm
  | cons b l ih =>
    intro s
    rw [List.foldl_cons, ih]
    congr 1
    rw [show str (s.push b) = str s ++ [b] by simp [str, ByteArray.push], List.append_assoc]; rfl
theorem run_toStr {w : World} (xs : List UInt8) : ∀ s : ByteArray, (forIn (m := Sem) ((bytesV xs).toArray) s (fun c r => match c with
    | .int .u8 n => pure (.yield (r.push (UInt8.ofNat n.toNat)))
    | _ => do stuck (α := PUnit) "bytesToString: byte expected"; pure (.yield r))).run P w = .ok (mkS (str s ++ xs)) w := by
  induction xs with
  | nil => intro s; rw [List.append_nil, mkS_str]; rfl
  | cons x xs ih =>
    intro s
    rw [← Array.forIn_toList]
    simp only [bytesV, List.map_cons, List.forIn_cons, Sem.run_bind, Sem.run_pure, Result.andThen_ok]
    have := ih (s.push x)
    rw [← Array.forIn_toList] at this
    simp only [bytesV] at this
    have e : UInt8.ofNat (Int.toNat (x.toNat : Int)) = x := by simp
    rw [e, this, show str (s.push x) = str s ++ [x] by simp [str, ByteArray.push], List.append_assoc]; rfl
theorem Y.toStr {x : Operand} {s d e : TypeId} {k : Nat} {v : Value} (xs : List UInt8) (hop : o.op = .convert s d x) (hx : evE E x = some v) (hs : P.underlying s = some (.slice e)) (hd : P.underlying d = some .string) (he : P.underlying e = some (.int .u8))
    (hsl : ∃ A c, v = .slice A k c) (hsrc : Src P cx ρ L 1 k v (bytesV xs)) : Y P n cx ρ E L o (.string (mkS xs)) := fun ac w ha hst => by
  obtain ⟨A, c, rfl⟩ := hsl
  have h := (hsrc.2 w hst).2
  simp only [execOp, hop, ha.ev hx]
  cases A with
  | none =>
    have : xs = [] := by
      simp only [Builtin.firstCells, Sem.run_pure] at h
      injection h with h _
      have := congrArg Array.size h
      simpa [bytesV] using this.symm
    subst this
    simp only [convert, Sem.run_bind, run_underlying' hs, run_underlying' hd, Result.andThen_ok, run_underlying' he, Conv.bytesToString, Sem.run_pure]; rfl
  | some a =>
    simp only [Builtin.firstCells, Nat.mul_one] at h
    have h2 := run_toStr (P := P) (w := w) xs ByteArray.empty
    simp only [convert, Sem.run_bind, run_underlying' hs, run_underlying' hd, Result.andThen_ok, run_underlying' he, Conv.bytesToString, h]
    exact (congrArg (fun r => (Result.andThen r fun a w' => Sem.run P (pure (Value.string a)) w').andThen fun a w' => Sem.run P (pure (Next.value a)) w') h2).trans (by rw [show str ByteArray.empty = [] from rfl, List.nil_append]; rfl)
theorem Y.strTo {x y : Operand} {t : TypeId} {k : IntKind} {s : ByteArray} {hi : Nat} {z : Int} (hop : o.op = .slice t x none (some y) none) (hx : evE E x = some (.string s)) (hy : evE E y = some (.int k z)) (hT : P.underlying t = some .string)
    (hzi : z = (hi : Int)) (h1 : hi ≤ s.size) : Y P n cx ρ E L o (.string (mkS ((str s).take hi))) := fun ac w ha hs => by
  subst hzi
  simp only [execOp, hop, Option.map_some, Option.map_none, ha.ev hx, ha.ev hy, Instr.sliceAt, Instr.slice, Instr.sliceBounds, Sem.run_bind, Sem.run_pure, Result.andThen_ok, run_underlying hT, run_bound h1, Option.isSome_none, Bool.false_eq_true, if_false]
  rw [← mkS_str (s.extract 0 hi), str_extract, List.drop_zero]
theorem Y.strFrom {x y : Operand} {t : TypeId} {k : IntKind} {s : ByteArray} {lo : Nat} {z : Int} (hop : o.op = .slice t x (some y) none none) (hx : evE E x = some (.string s)) (hy : evE E y = some (.int k z)) (hT : P.underlying t = some .string)
    (hzi : z = (lo : Int)) (h1 : lo ≤ s.size) : Y P n cx ρ E L o (.string (mkS ((str s).drop lo))) := fun ac w ha hs => by
  subst hzi
  simp only [execOp, hop, Option.map_some, Option.map_none, ha.ev hx, ha.ev hy, Instr.sliceAt, Instr.slice, Instr.sliceBounds, Sem.run_bind, Sem.run_pure, Result.andThen_ok, run_underlying hT, run_bound h1, Option.isSome_none, Bool.false_eq_true, if_false]
  rw [← mkS_str (s.extract lo s.size), str_extract, List.take_of_length_le (by rw [str, Array.length_toList]; exact Nat.le_refl _)]
theorem Y.strBoth {x y z : Operand} {t : TypeId} {k k' : IntKind} {s : ByteArray} {lo hi : Nat} {zl zh : Int} (hop : o.op = .slice t x (some y) (some z) none) (hx : evE E x = some (.string s)) (hy : evE E y = some (.int k zl)) (hz : evE E z = some (.int k' zh)) (hT : P.underlying t = some .string)
    (hzl : zl = (lo : Int)) (hzh : zh = (hi : Int)) (h1 : lo ≤ hi) (h2 : hi ≤ s.size) : Y P n cx ρ E L o (.string (mkS (((str s).take hi).drop lo))) := fun ac w ha hs => by
  subst hzl hzh
  simp only [execOp, hop, Option.map_some, Option.map_none, ha.ev hx, ha.ev hy, ha.ev hz, Instr.sliceAt, Instr.slice, Instr.sliceBounds, Sem.run_bind, Sem.run_pure, Result.andThen_ok, run_underlying hT, run_bound h1, run_bound h2, Option.isSome_none, Bool.false_eq_true, if_false]
  rw [← mkS_str (s.extract lo hi), str_extract]
theorem Y.stradd' {x y : Operand} {t u : TypeId} {a b : ByteArray} (hop : o.op = .binOp .add t x y u) (hx : evE E x = some (.string a)) (hy : evE E y = some (.string b)) (hsz : (str a).length + (str b).length ≤ 9223372036854775807) : Y P n cx ρ E L o (.string (mkS (str a ++ str b))) := by
  have e : a ++ b = mkS (str a ++ str b) := by rw [← mkS_append, mkS_str, mkS_str]
  rw [← e]
  refine Y.stradd hop hx hy ?_
  have e1 : ∀ s : ByteArray, s.size = (str s).length := fun s => by unfold str; rw [Array.length_toList]; rfl
  rw [e1, e1]; exact hsz
/-! ### 22. A result that lies in a cell -/
theorem resC1 (j : Nat) {fn : Func} {s : Tmp} {t : TypeId} {b m : Nat} {cs : List Value} {T : TypeId} {fr : Nat × Nat} (h : fn.results = #[.cell s t]) (he : look E s = some (.pointer (some ⟨b, 0, none⟩))) (hA : ∀ w, (isAgg t).run P w = .ok true w) (hz : ∀ w, (sizeOf t).run P w = .ok m w)
    (hj : look L j = some (Pt b (.cells cs.toArray T fr))) (hm : cs.length = m) : ∀ a w, At n E a → St cx ρ L w → (results fn a.tmps).run P w = .ok (.agg cs.toArray) w := fun a w ha hs => by
  have h1 := ha.slot s _ he
  have hb := hs.pt hj
  have hc : ∀ k v, cs[k]? = some v → w.cell? ((⟨b, 0, none⟩ : Addr).add k) = some v := fun k v e => by rw [add_mk]; simp [World.cell?, hb, e]
  subst hm
  have h2 : (loadVar t ⟨b, 0, none⟩).run P w = .ok (.agg cs.toArray) w := by
    simp only [loadVar, Sem.run_bind, Sem.run_pure, Result.andThen_ok, hA, hz, if_true, run_loadCells_list w _ cs hc]
  simp [results, h, h1, asAddr, h2]
end Go.Proofs.Ytjjhihlmoecmlaa
