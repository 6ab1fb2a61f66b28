/- The operations, one by one. -/
import Derived.Test.YtjjhihlmoecmlaaEngB
import Derived.Laws.Bits
import Derived.WalkSpells
import Derived.WalkLawsBesides
set_option linter.unusedVariables false
set_option linter.unusedSimpArgs false
namespace Go.Proofs.Ytjjhihlmoecmlaa
open Go

section
variable {P : Program} {Q : Exit → Act → World → Prop} {n : Nat} {cx : Cx} {ρ ρs : Hp} {E E' : Env} {L L' Ls : Own} {ops : Array Oper} {S : World → Prop} {π : List (Nat × Bool)} {i : Nat} {o : Oper} {v : Value}

theorem run_builtin1 {ac : Act} {w w' : World} {b : Builtin} {x : Operand} {ts : Array TypeId} {vx : Value} (hop : o.op = .call { callee := .builtin b, args := #[x], argTypes := ts }) (hx : ac.eval x = vx) (hr : ∀ c, (builtin b ts o.type c #[vx]).run P w = .ok (.value v) w') :
    (execOp ac.eval o).run P w = .ok (.value v) w' := by
  subst hx
  simp only [execOp, hop, resolve, invoke, Sem.run_bind, Sem.run_pure, Result.andThen_ok, List.map_toArray, List.map_cons, List.map_nil, hr]
theorem run_builtin2 {ac : Act} {w w' : World} {b : Builtin} {x y : Operand} {ts : Array TypeId} {vx vy : Value} (hop : o.op = .call { callee := .builtin b, args := #[x, y], argTypes := ts }) (hx : ac.eval x = vx) (hy : ac.eval y = vy) (hr : ∀ c, (builtin b ts o.type c #[vx, vy]).run P w = .ok (.value v) w') :
    (execOp ac.eval o).run P w = .ok (.value v) w' := by
  subst hx hy
  simp only [execOp, hop, resolve, invoke, Sem.run_bind, Sem.run_pure, Result.andThen_ok, List.map_toArray, List.map_cons, List.map_nil, hr]
/-! ### 11. Copies and tests -/
theorem Y.move {x : Operand} (hop : o.op = .move x) (hx : evE E x = some v) : Y P n cx ρ E L o v := fun a w ha _ => by
  simp only [execOp, hop, ha.ev hx] <;> simp [go_sem]
theorem Y.assign {x : Operand} (hop : o.op = .assign x) (hx : evE E x = some v) : Y P n cx ρ E L o v := fun a w ha _ => by
  simp only [execOp, hop, ha.ev hx] <;> simp [go_sem]
theorem Y.pickT {c x y : Operand} (hop : o.op = .pick c x y) (hc : evE E c = some (.bool true)) (hx : evE E x = some v) : Y P n cx ρ E L o v := fun a w ha _ => by
  simp only [execOp, hop, ha.ev hc, ha.ev hx] <;> simp [asBool, go_sem]
theorem Y.pickF {c x y : Operand} (hop : o.op = .pick c x y) (hc : evE E c = some (.bool false)) (hy : evE E y = some v) : Y P n cx ρ E L o v := fun a w ha _ => by
  simp only [execOp, hop, ha.ev hc, ha.ev hy] <;> simp [asBool, go_sem]
theorem Y.nilCheck {x : Operand} {p : Addr} (hop : o.op = .nilCheck x) (hx : evE E x = some (.pointer (some p))) : Y P n cx ρ E L o (.pointer (some p)) := fun a w ha _ => by
  simp only [execOp, hop, ha.ev hx] <;> simp [go_sem]
theorem Y.not {x : Operand} {t : TypeId} {b : Bool} (hop : o.op = .unOp .not t x) (hx : evE E x = some (.bool b)) : Y P n cx ρ E L o (.bool (!b)) := fun a w ha _ => by
  simp only [execOp, hop, ha.ev hx] <;> simp [Op.unary, go_sem]
theorem Y.neg {x : Operand} {t : TypeId} {k : IntKind} {m : Int} (hop : o.op = .unOp .neg t x) (hx : evE E x = some (.int k m)) : Y P n cx ρ E L o (.int k (k.wrap (0 - m))) := fun a w ha _ => by
  simp only [execOp, hop, ha.ev hx] <;> simp [Op.unary, Op.intArith] <;> rfl
theorem Y.extract {x : Operand} {j : Nat} {vs : Array Value} (hop : o.op = .extract x j) (hx : evE E x = some (.tuple vs)) (hj : nth vs.toList j = some v) : Y P n cx ρ E L o v := fun a w ha _ => by
  simp only [execOp, hop, ha.ev hx] <;> simp [Instr.extract, nth_arr hj] <;> rfl

/-! ### 12. Integers -/
theorem wrap_i64 {x : Int} (h1 : -9223372036854775808 ≤ x) (h2 : x ≤ 9223372036854775807) : IntKind.i64.wrap x = x := by
  have e : (2 : Int) ^ 64 = 18446744073709551616 := by decide
  have e2 : (2 : Int) ^ (64 - 1) = 9223372036854775808 := by decide
  simp only [IntKind.wrap, IntKind.bits, IntKind.signed]
  simp
  omega
theorem wrap_i32 {x : Int} (h1 : -2147483648 ≤ x) (h2 : x ≤ 2147483647) : IntKind.i32.wrap x = x := by
  simp only [IntKind.wrap, IntKind.bits, IntKind.signed]
  simp
  omega
theorem wrap_u8 {x : Int} (h1 : 0 ≤ x) (h2 : x ≤ 255) : IntKind.u8.wrap x = x := by
  simp only [IntKind.wrap, IntKind.bits, IntKind.signed]
  simp
  omega
theorem wrap_u32 {x : Int} (h1 : 0 ≤ x) (h2 : x ≤ 4294967295) : IntKind.u32.wrap x = x := by
  simp only [IntKind.wrap, IntKind.bits, IntKind.signed]
  simp
  omega
theorem wrap_u64 {x : Int} (h1 : 0 ≤ x) (h2 : x ≤ 18446744073709551615) : IntKind.u64.wrap x = x := by
  simp only [IntKind.wrap, IntKind.bits, IntKind.signed]
  simp
  omega
theorem Y.arith {x y : Operand} {t u : TypeId} {k : IntKind} {a b r : Int} {op : BinOp} (hop : o.op = .binOp op t x y u) (hx : evE E x = some (.int k a)) (hy : evE E y = some (.int k b))
    (hr : Op.intArith op k a b = pure (.int k r)) (hk : (op = .add ∨ op = .sub ∨ op = .mul)) : Y P n cx ρ E L o (.int k r) := fun ac w ha _ => by
  simp only [execOp, hop, ha.ev hx, ha.ev hy]
  rcases hk with rfl | rfl | rfl <;> simp only [eqGuard, binOp, hr, Sem.run_bind, Sem.run_pure, Result.andThen_ok] <;> simp [Sem.run_pure, Result.andThen, hr]
theorem Y.add {x y : Operand} {t u : TypeId} {k : IntKind} {a b : Int} (hop : o.op = .binOp .add t x y u) (hx : evE E x = some (.int k a)) (hy : evE E y = some (.int k b)) : Y P n cx ρ E L o (.int k (k.wrap (a + b))) :=
  Y.arith hop hx hy rfl (.inl rfl)
theorem Y.sub {x y : Operand} {t u : TypeId} {k : IntKind} {a b : Int} (hop : o.op = .binOp .sub t x y u) (hx : evE E x = some (.int k a)) (hy : evE E y = some (.int k b)) : Y P n cx ρ E L o (.int k (k.wrap (a - b))) :=
  Y.arith hop hx hy rfl (.inr (.inl rfl))
theorem Y.mul {x y : Operand} {t u : TypeId} {k : IntKind} {a b : Int} (hop : o.op = .binOp .mul t x y u) (hx : evE E x = some (.int k a)) (hy : evE E y = some (.int k b)) : Y P n cx ρ E L o (.int k (k.wrap (a * b))) :=
  Y.arith hop hx hy rfl (.inr (.inr rfl))
theorem Y.to {v' : Value} (h : Y P n cx ρ E L o v') (e : v' = v) : Y P n cx ρ E L o v := e ▸ h
theorem Y.add_ {x y : Operand} {t u : TypeId} {k : IntKind} {a b r : Int} (hop : o.op = .binOp .add t x y u) (hx : evE E x = some (.int k a)) (hy : evE E y = some (.int k b)) (hr : k.wrap (a + b) = r) : Y P n cx ρ E L o (.int k r) := hr ▸ Y.add hop hx hy
theorem Y.sub_ {x y : Operand} {t u : TypeId} {k : IntKind} {a b r : Int} (hop : o.op = .binOp .sub t x y u) (hx : evE E x = some (.int k a)) (hy : evE E y = some (.int k b)) (hr : k.wrap (a - b) = r) : Y P n cx ρ E L o (.int k r) := hr ▸ Y.sub hop hx hy
theorem Y.mul_ {x y : Operand} {t u : TypeId} {k : IntKind} {a b r : Int} (hop : o.op = .binOp .mul t x y u) (hx : evE E x = some (.int k a)) (hy : evE E y = some (.int k b)) (hr : k.wrap (a * b) = r) : Y P n cx ρ E L o (.int k r) := hr ▸ Y.mul hop hx hy
theorem Y.quo {x y : Operand} {t u : TypeId} {k : IntKind} {a b : Int} (hop : o.op = .binOp .quo t x y u) (hx : evE E x = some (.int k a)) (hy : evE E y = some (.int k b)) (hb : b ≠ 0) : Y P n cx ρ E L o (.int k (k.wrap (a.tdiv b))) := fun ac w ha _ => by
  simp only [execOp, hop, ha.ev hx, ha.ev hy] <;> simp [eqGuard, binOp, Op.intDiv, hb, go_sem]
theorem Y.rem {x y : Operand} {t u : TypeId} {k : IntKind} {a b : Int} (hop : o.op = .binOp .rem t x y u) (hx : evE E x = some (.int k a)) (hy : evE E y = some (.int k b)) (hb : b ≠ 0) : Y P n cx ρ E L o (.int k (a.tmod b)) := fun ac w ha _ => by
  simp only [execOp, hop, ha.ev hx, ha.ev hy] <;> simp [eqGuard, binOp, Op.intDiv, hb, go_sem]
def cmpB : BinOp → Int → Int → Bool
  | .eql, x, y => x == y
  | .neq, x, y => x != y
  | .lss, x, y => decide (x < y)
  | .leq, x, y => decide (x ≤ y)
  | .gtr, x, y => decide (y < x)
  | .geq, x, y => decide (y ≤ x)
  | _, _, _ => false
theorem Y.cmp {x y : Operand} {t u : TypeId} {k : IntKind} {a b : Int} {op : BinOp} {c : Bool} (hop : o.op = .binOp op t x y u) (hx : evE E x = some (.int k a)) (hy : evE E y = some (.int k b))
    (hr : Op.intCmp op a b = pure (.bool c)) (hk : (match op with | .eql | .neq | .lss | .leq | .gtr | .geq => true | _ => false) = true) : Y P n cx ρ E L o (.bool c) := fun ac w ha _ => by
  simp only [execOp, hop, ha.ev hx, ha.ev hy]
  cases op <;> simp at hk <;> simp only [eqGuard, binOp, hr, Sem.run_bind, Sem.run_pure, Result.andThen_ok] <;> simp [Sem.run_pure, Result.andThen, hr]
theorem Y.eql {x y : Operand} {t u : TypeId} {k : IntKind} {a b : Int} (hop : o.op = .binOp .eql t x y u) (hx : evE E x = some (.int k a)) (hy : evE E y = some (.int k b)) : Y P n cx ρ E L o (.bool (a == b)) := Y.cmp hop hx hy rfl rfl
theorem Y.neq {x y : Operand} {t u : TypeId} {k : IntKind} {a b : Int} (hop : o.op = .binOp .neq t x y u) (hx : evE E x = some (.int k a)) (hy : evE E y = some (.int k b)) : Y P n cx ρ E L o (.bool (a != b)) := Y.cmp hop hx hy rfl rfl
theorem Y.lss {x y : Operand} {t u : TypeId} {k : IntKind} {a b : Int} (hop : o.op = .binOp .lss t x y u) (hx : evE E x = some (.int k a)) (hy : evE E y = some (.int k b)) : Y P n cx ρ E L o (.bool (decide (a < b))) := Y.cmp hop hx hy rfl rfl
theorem Y.leq {x y : Operand} {t u : TypeId} {k : IntKind} {a b : Int} (hop : o.op = .binOp .leq t x y u) (hx : evE E x = some (.int k a)) (hy : evE E y = some (.int k b)) : Y P n cx ρ E L o (.bool (decide (a ≤ b))) := Y.cmp hop hx hy rfl rfl
theorem Y.gtr {x y : Operand} {t u : TypeId} {k : IntKind} {a b : Int} (hop : o.op = .binOp .gtr t x y u) (hx : evE E x = some (.int k a)) (hy : evE E y = some (.int k b)) : Y P n cx ρ E L o (.bool (decide (b < a))) := Y.cmp hop hx hy rfl rfl
theorem Y.geq {x y : Operand} {t u : TypeId} {k : IntKind} {a b : Int} (hop : o.op = .binOp .geq t x y u) (hx : evE E x = some (.int k a)) (hy : evE E y = some (.int k b)) : Y P n cx ρ E L o (.bool (decide (b ≤ a))) := Y.cmp hop hx hy rfl rfl
def bitsB (op : BinOp) (k : IntKind) (x y : Int) : Int :=
  let a := BitVec.ofInt k.bits x
  let b := BitVec.ofInt k.bits y
  match op with
  | .and => k.wrap (a &&& b).toNat
  | .or => k.wrap (a ||| b).toNat
  | .xor => k.wrap (a ^^^ b).toNat
  | .andNot => k.wrap (a &&& ~~~b).toNat
  | _ => 0
theorem Y.bits {x y : Operand} {t u : TypeId} {k : IntKind} {a b : Int} {op : BinOp} (hop : o.op = .binOp op t x y u) (hx : evE E x = some (.int k a)) (hy : evE E y = some (.int k b))
    (hk : (match op with | .and | .or | .xor | .andNot => true | _ => false) = true) : Y P n cx ρ E L o (.int k (bitsB op k a b)) := fun ac w ha _ => by
  simp only [execOp, hop, ha.ev hx, ha.ev hy]
  cases op <;> simp at hk <;> simp [eqGuard, binOp, Op.intBits, bitsB] <;> rfl
theorem Y.shl {x y : Operand} {t u : TypeId} {k yk : IntKind} {a b : Int} (hop : o.op = .binOp .shl t x y u) (hx : evE E x = some (.int k a)) (hy : evE E y = some (.int yk b)) (hb : 0 ≤ b) : Y P n cx ρ E L o (.int k (k.wrap (a * 2 ^ (min b.toNat k.bits)))) := fun ac w ha _ => by
  have h' : ¬ b < 0 := by omega
  simp only [execOp, hop, ha.ev hx, ha.ev hy, eqGuard, binOp, Op.shift, h', if_false]
  rfl
theorem Y.shr {x y : Operand} {t u : TypeId} {k yk : IntKind} {a b : Int} (hop : o.op = .binOp .shr t x y u) (hx : evE E x = some (.int k a)) (hy : evE E y = some (.int yk b)) (hb : 0 ≤ b) : Y P n cx ρ E L o (.int k (a.fdiv (2 ^ (min b.toNat k.bits)))) := fun ac w ha _ => by
  have h' : ¬ b < 0 := by omega
  simp only [execOp, hop, ha.ev hx, ha.ev hy, eqGuard, binOp, Op.shift, h', if_false]
  rfl
theorem run_underlying' {t : TypeId} {d : TypeDesc} (h : P.underlying t = some d) (w : World) : (underlying t).run P w = .ok d w := run_underlying h w
theorem Y.conv {x : Operand} {s d : TypeId} {k k' : IntKind} {a : Int} {ds : TypeDesc} (hop : o.op = .convert s d x) (hx : evE E x = some (.int k a)) (hs : P.underlying s = some ds) (hd : P.underlying d = some (.int k')) : Y P n cx ρ E L o (.int k' (k'.wrap a)) := fun ac w ha _ => by
  simp only [execOp, hop, ha.ev hx] <;> simp [convert, run_underlying' hs, run_underlying' hd, Conv.intToInt, go_sem]
theorem Y.conv_ {x : Operand} {s d : TypeId} {k k' : IntKind} {a r : Int} {ds : TypeDesc} (hop : o.op = .convert s d x) (hx : evE E x = some (.int k a)) (hs : P.underlying s = some ds) (hd : P.underlying d = some (.int k')) (hr : k'.wrap a = r) : Y P n cx ρ E L o (.int k' r) := hr ▸ Y.conv hop hx hs hd
theorem Y.min2 {x y : Operand} {ts : Array TypeId} {k : IntKind} {a b : Int} (hop : o.op = .call { callee := .builtin .min, args := #[x, y], argTypes := ts }) (hx : evE E x = some (.int k a)) (hy : evE E y = some (.int k b)) : Y P n cx ρ E L o (.int k (if b < a then b else a)) := fun ac w ha _ => run_builtin2 hop (ha.ev hx) (ha.ev hy) fun c => by simp [go_sem]
theorem Y.max2 {x y : Operand} {ts : Array TypeId} {k : IntKind} {a b : Int} (hop : o.op = .call { callee := .builtin .max, args := #[x, y], argTypes := ts }) (hx : evE E x = some (.int k a)) (hy : evE E y = some (.int k b)) : Y P n cx ρ E L o (.int k (if a < b then b else a)) := fun ac w ha _ => run_builtin2 hop (ha.ev hx) (ha.ev hy) fun c => by simp [go_sem]
/-! ### 13. Strings, bools, pointers -/
/-- A string's bytes. -/
def str (s : ByteArray) : List UInt8 := s.data.toList
theorem Y.streql {x y : Operand} {t u : TypeId} {a b : ByteArray} (hop : o.op = .binOp .eql t x y u) (hx : evE E x = some (.string a)) (hy : evE E y = some (.string b)) : Y P n cx ρ E L o (.bool (str a == str b)) := fun ac w ha _ => by
  simp only [execOp, hop, ha.ev hx, ha.ev hy, eqGuard, binOp, Op.stringOp, str, ByteArray.toList_eq]; rfl
theorem Y.strneq {x y : Operand} {t u : TypeId} {a b : ByteArray} (hop : o.op = .binOp .neq t x y u) (hx : evE E x = some (.string a)) (hy : evE E y = some (.string b)) : Y P n cx ρ E L o (.bool (!(str a == str b))) := fun ac w ha _ => by
  simp only [execOp, hop, ha.ev hx, ha.ev hy, eqGuard, binOp, Op.stringOp, str, ByteArray.toList_eq]; rfl
theorem Y.stradd {x y : Operand} {t u : TypeId} {a b : ByteArray} (hop : o.op = .binOp .add t x y u) (hx : evE E x = some (.string a)) (hy : evE E y = some (.string b)) (hsz : a.size + b.size ≤ 9223372036854775807) : Y P n cx ρ E L o (.string (a ++ b)) := fun ac w ha _ => by
  have : ¬ ((a.size + b.size : Nat) : Int) > IntKind.i64.max := by
    have : IntKind.i64.max = 9223372036854775807 := by decide
    omega
  simp only [execOp, hop, ha.ev hx, ha.ev hy, eqGuard, binOp, Op.stringOp, this, if_false] <;> rfl
theorem Y.lenstr {x : Operand} {t : TypeId} {s : ByteArray} (hop : o.op = .call { callee := .builtin .len, args := #[x], argTypes := #[t] }) (hT : P.underlying t = some .string) (hx : evE E x = some (.string s)) : Y P n cx ρ E L o (.int .i64 s.size) := fun ac w ha _ => run_builtin1 hop (ha.ev hx) fun c => by simp [go_sem, Builtin.len_, run_underlying hT]
theorem Y.lenslice {x : Operand} {t e : TypeId} {A : Option Addr} {l c : Nat} (hop : o.op = .call { callee := .builtin .len, args := #[x], argTypes := #[t] }) (hT : P.underlying t = some (.slice e)) (hx : evE E x = some (.slice A l c)) : Y P n cx ρ E L o (.int .i64 l) := fun ac w ha _ => run_builtin1 hop (ha.ev hx) fun c => by simp [go_sem, Builtin.len_, run_underlying hT]
theorem Y.indexstr {x y : Operand} {t : TypeId} {s : ByteArray} {k : IntKind} {j : Int} {q : Nat} (hop : o.op = .index t x y) (hT : P.underlying t = some .string) (hx : evE E x = some (.string s)) (hy : evE E y = some (.int k j)) (h0 : 0 ≤ j) (h1 : j < s.size) (hq : j.toNat = q) : Y P n cx ρ E L o (.int .u8 (s[q]'(by omega)).toNat) := fun ac w ha _ => by
  subst hq
  have hl : j.toNat < s.size := by omega
  simp only [execOp, hop, ha.ev hx, ha.ev hy] <;> simp [Instr.index, asIntOf, run_underlying' hT, h0, hl, go_sem]

/-! ### 14. Memory that is read -/
theorem run_sizeOf' {t : TypeId} {m : Nat} (h : ∀ w, (sizeOf t).run P w = .ok m w) (w : World) : (sizeOf t).run P w = .ok m w := h w
def cellH (h : Hp) (a : Addr) : Option Value :=
  match h a.block with
  | some (.cells c _ _) => if a.spot.isSome then none else c[a.off]?
  | _ => none
theorem cellH_up {h k : Hp} (l : Hp.le h k) {a : Addr} {v : Value} (e : cellH h a = some v) : cellH k a = some v := by
  unfold cellH at *
  cases hb : h a.block with
  | none => simp [hb] at e
  | some ob => rw [l _ _ hb]; rw [hb] at e; exact e
theorem cell_of {h : Hp} {w : World} (l : ∀ b o, h b = some o → w.heap[b]? = some o) {a : Addr} {v : Value} (e : cellH h a = some v) : w.cell? a = some v := by
  unfold cellH at e
  unfold World.cell?
  cases hb : h a.block with
  | none => simp [hb] at e
  | some ob => rw [l _ _ hb]; rw [hb] at e; exact e
theorem run_isAgg {t : TypeId} {b : Bool} (h : ∀ w, (isAgg t).run P w = .ok b w) (w : World) : (isAgg t).run P w = .ok b w := h w
theorem run_load1 {t : TypeId} (hA : ∀ w, (isAgg t).run P w = .ok false w) {a : Addr} {v : Value} {w : World} (hc : w.cell? a = some v) : (Instr.loadAt t (.pointer (some a))).run P w = .ok v w := by
  simp [Instr.loadAt, Instr.sureAddr, loadVar, hA, load, Sem.run, hc, go_sem]
/-- A cell of read-only memory. -/
theorem Y.loadR {x : Operand} {t : TypeId} {a : Addr} (hop : o.op = .load t x) (hA : ∀ w, (isAgg t).run P w = .ok false w) (hx : evE E x = some (.pointer (some a))) (hc : cellH ρ a = some v) : Y P n cx ρ E L o v := fun ac w ha hs => by
  simp only [execOp, hop, ha.ev hx, Sem.run_bind, run_load1 hA (cell_of hs.rho hc), Result.andThen_ok, Sem.run_pure]
/-- A cell of an owned block. -/
theorem Y.loadO (j : Nat) {x : Operand} {t : TypeId} {b off : Nat} {cs : Array Value} {T : TypeId} {fr : Nat × Nat} (hop : o.op = .load t x) (hA : ∀ w, (isAgg t).run P w = .ok false w) (hx : evE E x = some (.pointer (some ⟨b, off, none⟩)))
    (hj : look L j = some (Pt b (.cells cs T fr))) (hc : nth cs.toList off = some v) : Y P n cx ρ E L o v := fun ac w ha hs => by
  have h1 : w.cell? ⟨b, off, none⟩ = some v := by simp [World.cell?, hs.pt hj, nth_arr hc]
  simp only [execOp, hop, ha.ev hx, Sem.run_bind, run_load1 hA h1, Result.andThen_ok, Sem.run_pure]
theorem Y.fieldAddr {x : Operand} {s : TypeId} {f : Nat} {p : Addr} {fs : Array Field} {fd : Field} {m : Nat} (hop : o.op = .fieldAddr s x f) (hx : evE E x = some (.pointer (some p))) (hT : P.underlying s = some (.struct fs)) (hf : nth fs.toList f = some fd)
    (hz : ∀ w, (sizeOf fd.type).run P w = .ok m w) (hm : m ≠ 0) : Y P n cx ρ E L o (.pointer (some (p.add fd.offset))) := fun ac w ha hs => by
  simp only [execOp, hop, ha.ev hx] <;> simp [Instr.fieldAt, run_underlying' hT, nth_arr hf, Instr.sureAddr, fieldPlace, hz, hm, go_sem]
theorem Y.indexAddr {x y : Operand} {t e : TypeId} {k : IntKind} {j : Int} {A : Addr} {l c m q : Nat} (hop : o.op = .indexAddr t x y) (hx : evE E x = some (.slice (some A) l c)) (hy : evE E y = some (.int k j)) (hT : P.underlying t = some (.slice e))
    (hz : ∀ w, (sizeOf e).run P w = .ok m w) (h0 : 0 ≤ j) (h1 : j < l) (hq : j.toNat * m = q) : Y P n cx ρ E L o (.pointer (some (A.add q))) := fun ac w ha hs => by
  subst hq
  simp only [execOp, hop, ha.ev hx, ha.ev hy] <;> simp [Instr.indexAt, asIntOf, run_underlying' hT, h0, h1, hz, go_sem]

/-! ### 15. Memory that is written -/
def one : Value → Bool
  | .agg _ | .tuple _ => false
  | _ => true
theorem frozen_pt {w : World} {b : Nat} {cs : Array Value} {T : TypeId} {fr : Nat × Nat} (h : w.heap[b]? = some (.cells cs T fr)) (off : Nat) : w.frozen? ⟨b, off, none⟩ = (fr.1 ≤ off && off < fr.2) := by
  obtain ⟨lo, hi⟩ := fr
  simp [World.frozen?, h]
theorem setCell_heap {w : World} {b : Nat} {cs : Array Value} {T : TypeId} {fr : Nat × Nat} (h : w.heap[b]? = some (.cells cs T fr)) (off : Nat) (v : Value) (p : Nat) :
    (w.setCell ⟨b, off, none⟩ v).heap[p]? = if p = b then some (.cells (cs.setIfInBounds off v) T fr) else w.heap[p]? := by
  simp only [World.setCell, Array.getElem?_modify]
  by_cases hp : b = p
  · subst hp; simp [h]
  · have : ¬ p = b := fun e => hp e.symm
    simp [hp, this]
theorem St.store {w : World} (hs : St cx ρ L w) {j b : Nat} {cs : Array Value} {T : TypeId} {fr : Nat × Nat} (hj : look L j = some (Pt b (.cells cs T fr))) (off : Nat) (v : Value) :
    St cx ρ ((j, Pt b (.cells (cs.setIfInBounds off v) T fr)) :: L) (w.setCell ⟨b, off, none⟩ v) := by
  have hb := hs.pt hj
  refine hs.set hj (fun k hk hkw => ⟨fun p => if p = b then some (.cells (cs.setIfInBounds off v) T fr) else none, by simp [Pt], fun p o hp => ?_, fun p hp => ?_⟩) (by simp) rfl rfl rfl
  · rw [setCell_heap hb]
    dsimp only at hp
    split at hp
    · rename_i e; subst e; rw [if_pos rfl]; have : k p = some (.cells cs T fr) := hk; exact ⟨hp, by rw [this]; simp⟩
    · cases hp
  · rw [setCell_heap hb, if_neg]
    intro e; subst e
    have : k p = some (.cells cs T fr) := hk
    rw [this] at hp; cases hp
theorem run_store1 {t : TypeId} (hz : ∀ w, (sizeOf t).run P w = .ok 1 w) {a : Addr} {v old : Value} {w : World} (h1 : one v = true) (hc : w.cell? a = some old) (hf : w.frozen? a = false) :
    (Instr.storeAt t (.pointer (some a)) v).run P w = .ok () (w.setCell a v) := by
  cases v <;> simp [one] at h1 <;> simp [Instr.storeAt, Instr.sureAddr, storeVar, Value.cells, storeCells, store, Sem.run, Sem.run_bind, hz, hc, hf, Result.andThen, go_sem] <;> rfl
theorem Jp.store (j : Nat) {x y : Operand} {t : TypeId} {b off : Nat} {cs : Array Value} {T : TypeId} {fr : Nat × Nat} (hi : nth ops.toList i = some o) (hw : Want n ops E o true) (he : o.dst = none)
    (hop : o.op = .store t x y) (hz : ∀ w, (sizeOf t).run P w = .ok 1 w) (hx : evE E x = some (.pointer (some ⟨b, off, none⟩))) (hy : evE E y = some v) (h1 : one v = true)
    (hj : look L j = some (Pt b (.cells cs T fr))) (hlt' : Nat.blt off cs.size = true) (hfr : (decide (fr.1 ≤ off) && decide (off < fr.2)) = false)
    (hk : Kp π S cx ρ ((j, Pt b (.cells (cs.setIfInBounds off v) T fr)) :: L)) (h : Jp P ops Q S n cx π ρ E ((j, Pt b (.cells (cs.setIfInBounds off v) T fr)) :: L)) :
    Jp P ops Q S n cx ((i, false) :: π) ρ E L := by
  intro a w ha hs
  have hb := hs.pt hj
  have hlt : off < cs.size := by simpa [Nat.blt_eq] using hlt'
  have hc : w.cell? ⟨b, off, none⟩ = some cs[off] := by simp [World.cell?, hb, hlt]
  have hr := run_store1 (P := P) hz (v := v) h1 hc (by rw [frozen_pt hb]; exact hfr)
  simp only [wpPi, wpOp, nth_arr hi, hw a ha, if_true, Oper.wp, execOp, hop, ha.ev hx, ha.ev hy, Sem.run_bind, hr, Result.andThen_ok, Sem.run_pure, Oper.upon, he]
  have hs' := hs.store hj off v
  exact .inl ⟨hk.get hs', h _ _ ha hs'⟩
/-- A new block with a value's cells. -/
theorem Jp.box (m : Nat) {x : Operand} {t : TypeId} (d : Nat) (hi : nth ops.toList i = some o) (hw : Want n ops E o true) (he : o.dst = some d) (hd : Nat.blt d n = true)
    (hop : o.op = .box t x) (hx : evE E x = some v)
    (h : ∀ b, Kp π S cx ρ ((m, Pt b (.cells v.cells t)) :: L) ∧ Jp P ops Q S n cx π ρ ((d, .pointer (some ⟨b, 0, none⟩)) :: E) ((m, Pt b (.cells v.cells t)) :: L)) :
    Jp P ops Q S n cx ((i, false) :: π) ρ E L := by
  intro a w ha hs
  have hr : (execOp a.eval o).run P w = .ok (.value (.pointer (some ⟨w.heap.size, 0, none⟩))) { w with heap := w.heap.push (.cells v.cells t) } := by
    simp only [execOp, hop, ha.ev hx, Instr.box, newVar, newRow, newObj]; rfl
  simp only [wpPi, wpOp, nth_arr hi, hw a ha, if_true, Oper.wp, hr, Oper.upon]
  obtain ⟨h1, h2⟩ := h w.heap.size
  have hs' := hs.alloc m (.cells v.cells t)
  exact .inl ⟨h1.get hs', h2 _ _ (ha.put' he hd _) hs'⟩
theorem Jp.alloc (m : Nat) {t : TypeId} (d : Nat) (hi : nth ops.toList i = some o) (hw : Want n ops E o true) (he : o.dst = some d) (hd : Nat.blt d n = true)
    (hop : o.op = .alloc t) (hz : ∀ w, (zeroValue t).run P w = .ok v w)
    (h : ∀ b, Kp π S cx ρ ((m, Pt b (.cells v.cells t)) :: L) ∧ Jp P ops Q S n cx π ρ ((d, .pointer (some ⟨b, 0, none⟩)) :: E) ((m, Pt b (.cells v.cells t)) :: L)) :
    Jp P ops Q S n cx ((i, false) :: π) ρ E L := by
  intro a w ha hs
  have hr : (execOp a.eval o).run P w = .ok (.value (.pointer (some ⟨w.heap.size, 0, none⟩))) { w with heap := w.heap.push (.cells v.cells t) } := by
    simp only [execOp, hop, Instr.alloc, newVar, newRow, newObj, Sem.run_bind, hz, Result.andThen_ok, Sem.run_pure]; rfl
  simp only [wpPi, wpOp, nth_arr hi, hw a ha, if_true, Oper.wp, hr, Oper.upon]
  obtain ⟨h1, h2⟩ := h w.heap.size
  have hs' := hs.alloc m (.cells v.cells t)
  exact .inl ⟨h1.get hs', h2 _ _ (ha.put' he hd _) hs'⟩
end
end Go.Proofs.Ytjjhihlmoecmlaa
