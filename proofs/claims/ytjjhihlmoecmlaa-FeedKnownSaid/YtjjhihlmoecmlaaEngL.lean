/- The small logic, part twelve: numbers' bits; numbers of bytes, the least first; places of fields in plain form. -/
import Derived.Test.YtjjhihlmoecmlaaEngK
set_option linter.unusedVariables false
set_option linter.unusedSimpArgs false
namespace Go.Proofs.Ytjjhihlmoecmlaa
open Go
/-! ### 34. Bits of numbers that are not below nought -/
theorem ofInt_nat (w a : Nat) (h : a < 2 ^ w) : (BitVec.ofInt w (a : Int)).toNat = a := by
  rw [BitVec.ofInt_natCast, BitVec.toNat_ofNat, Nat.mod_eq_of_lt h]
theorem bits_or32 {a b : Nat} (ha : a < 4294967296) (hb : b < 4294967296) : bitsB .or .u32 a b = ((a ||| b : Nat) : Int) := by
  have h1 : a ||| b < 2 ^ 32 := Nat.or_lt_two_pow ha hb
  show IntKind.u32.wrap ((BitVec.ofInt 32 (a : Int) ||| BitVec.ofInt 32 (b : Int)).toNat : Int) = _
  rw [BitVec.toNat_or, ofInt_nat 32 a ha, ofInt_nat 32 b hb]
  exact wrap_u32 (x := ((a ||| b : Nat) : Int)) (by omega) (by omega)
theorem bits_and32 {a b : Nat} (ha : a < 4294967296) (hb : b < 4294967296) : bitsB .and .u32 a b = ((a &&& b : Nat) : Int) := by
  have h1 : a &&& b < 2 ^ 32 := Nat.and_lt_two_pow a hb
  show IntKind.u32.wrap ((BitVec.ofInt 32 (a : Int) &&& BitVec.ofInt 32 (b : Int)).toNat : Int) = _
  rw [BitVec.toNat_and, ofInt_nat 32 a ha, ofInt_nat 32 b hb]
  exact wrap_u32 (x := ((a &&& b : Nat) : Int)) (by omega) (by omega)
theorem bits_xor32 {a b : Nat} (ha : a < 4294967296) (hb : b < 4294967296) : bitsB .xor .u32 a b = ((a ^^^ b : Nat) : Int) := by
  have h1 : a ^^^ b < 2 ^ 32 := Nat.xor_lt_two_pow ha hb
  show IntKind.u32.wrap ((BitVec.ofInt 32 (a : Int) ^^^ BitVec.ofInt 32 (b : Int)).toNat : Int) = _
  rw [BitVec.toNat_xor, ofInt_nat 32 a ha, ofInt_nat 32 b hb]
  exact wrap_u32 (x := ((a ^^^ b : Nat) : Int)) (by omega) (by omega)
theorem bits_or8 {a b : Nat} (ha : a < 256) (hb : b < 256) : bitsB .or .u8 a b = ((a ||| b : Nat) : Int) := by
  have h1 : a ||| b < 2 ^ 8 := Nat.or_lt_two_pow ha hb
  show IntKind.u8.wrap ((BitVec.ofInt 8 (a : Int) ||| BitVec.ofInt 8 (b : Int)).toNat : Int) = _
  rw [BitVec.toNat_or, ofInt_nat 8 a ha, ofInt_nat 8 b hb]
  exact wrap_u8 (x := ((a ||| b : Nat) : Int)) (by omega) (by omega)
theorem bits_and8 {a b : Nat} (ha : a < 256) (hb : b < 256) : bitsB .and .u8 a b = ((a &&& b : Nat) : Int) := by
  have h1 : a &&& b < 2 ^ 8 := Nat.and_lt_two_pow a hb
  show IntKind.u8.wrap ((BitVec.ofInt 8 (a : Int) &&& BitVec.ofInt 8 (b : Int)).toNat : Int) = _
  rw [BitVec.toNat_and, ofInt_nat 8 a ha, ofInt_nat 8 b hb]
  exact wrap_u8 (x := ((a &&& b : Nat) : Int)) (by omega) (by omega)
theorem min_lit {i : Nat} (b : Nat) (h : i ≤ b) : min (i : Int).toNat b = i := by rw [Int.toNat_natCast]; omega
theorem shl32 {a i : Nat} (hi : i ≤ 32) (h : a * 2 ^ i < 4294967296) : IntKind.u32.wrap ((a : Int) * 2 ^ (min (i : Int).toNat IntKind.u32.bits)) = ((a * 2 ^ i : Nat) : Int) := by
  rw [show IntKind.u32.bits = 32 from rfl, min_lit 32 hi]
  have e : (a : Int) * 2 ^ i = ((a * 2 ^ i : Nat) : Int) := by simp
  rw [e]; exact wrap_u32 (by omega) (by omega)
theorem shr32 (a i : Nat) (hi : i ≤ 32) : (a : Int).fdiv (2 ^ (min (i : Int).toNat IntKind.u32.bits)) = ((a / 2 ^ i : Nat) : Int) := by
  rw [show IntKind.u32.bits = 32 from rfl, min_lit 32 hi]
  have e : (2 : Int) ^ i = ((2 ^ i : Nat) : Int) := by simp
  rw [e, Int.fdiv_eq_ediv_of_nonneg _ (Int.natCast_nonneg _)]
  simp
theorem conv8 (a : Nat) : IntKind.u8.wrap (a : Int) = ((UInt8.ofNat a).toNat : Int) := by
  rw [UInt8.toNat_ofNat']
  simp only [IntKind.wrap, IntKind.bits, IntKind.signed]
  simp
/-! ### 35. A number's bytes, the least first -/
def leN : List UInt8 → Nat
  | [] => 0
  | b :: l => b.toNat + 256 * leN l
theorem leN_lt (l : List UInt8) : leN l < 256 ^ l.length := by
  induction l with
  | nil => simp [leN]
  | cons b l ih =>
    have := b.toNat_lt
    simp only [leN, List.length_cons, Nat.pow_succ]
    omega
theorem leN_snoc (l : List UInt8) (x : UInt8) : leN (l ++ [x]) = leN l + x.toNat * 256 ^ l.length := by
  induction l with
  | nil => simp [leN]
  | cons b l ih => simp only [List.cons_append, leN, ih, List.length_cons, Nat.pow_succ, Nat.mul_add]; rw [Nat.mul_left_comm 256 x.toNat, Nat.mul_comm 256 (256 ^ l.length)]; omega
theorem pow256 (i : Nat) : 256 ^ i = 2 ^ (8 * i) := by rw [Nat.pow_mul]
theorem or_shift {a b i : Nat} (h : a < 2 ^ i) : a ||| (b * 2 ^ i) = a + b * 2 ^ i := by
  rw [← Nat.shiftLeft_eq, Nat.or_comm, ← Nat.shiftLeft_add_eq_or_of_lt h, Nat.add_comm]
theorem le_or {l : List UInt8} {x : UInt8} (h : l.length ≤ 3) : bitsB .or .u32 (leN l) (IntKind.u32.wrap ((x.toNat : Int) * 2 ^ (min ((8 * l.length : Nat) : Int).toNat IntKind.u32.bits))) = (leN (l ++ [x]) : Int) := by
  have h1 := leN_lt l
  have hx := x.toNat_lt
  have h2 : 256 ^ l.length ≤ 256 ^ 3 := Nat.pow_le_pow_right (by omega) h
  have h3 : x.toNat * 2 ^ (8 * l.length) < 4294967296 := by
    rw [← pow256]
    have := Nat.mul_le_mul (show x.toNat ≤ 255 by omega) h2
    omega
  rw [shl32 (by omega) h3, bits_or32 (by omega) h3, leN_snoc, or_shift (by rw [← pow256]; exact h1), pow256]
theorem le_or2 {l : List UInt8} {x : UInt8} {i : Nat} (hl : l.length = i) (h : i ≤ 3) : bitsB .or .u32 (leN l) (IntKind.u32.wrap ((x.toNat : Int) * 2 ^ (min (8 * (i : Int)).toNat IntKind.u32.bits))) = (leN (l ++ [x]) : Int) := by
  subst hl
  rw [← le_or h]
  simp
theorem shr8 (v i : Nat) (h : i ≤ 3) : IntKind.u8.wrap ((v : Int).fdiv (2 ^ (min (8 * (i : Int)).toNat IntKind.u32.bits))) = ((UInt8.ofNat (v / 2 ^ (8 * i))).toNat : Int) := by
  have := shr32 v (8 * i) (by omega)
  rw [← conv8, ← this]
  simp
def leB (v : Nat) (n : Nat) : List UInt8 := (List.range n).map fun i => UInt8.ofNat (v / 2 ^ (8 * i))
theorem leB_length (v n : Nat) : (leB v n).length = n := by simp [leB]
theorem leB_succ (v n : Nat) : leB v (n + 1) = leB v n ++ [UInt8.ofNat (v / 2 ^ (8 * n))] := by simp [leB, List.range_succ]
theorem leN_leB (v n : Nat) : leN (leB v n) = v % 256 ^ n := by
  induction n with
  | zero => simp [leB, leN]; omega
  | succ n ih =>
    rw [leB_succ, leN_snoc, ih, leB_length, UInt8.toNat_ofNat', ← pow256, Nat.pow_succ 256 n, Nat.mod_mul, show 2 ^ 8 = 256 from rfl, Nat.mul_comm]
section
variable {P : Program} {n : Nat} {cx : Cx} {ρ : Hp} {E : Env} {L : Own} {o : Oper} {ops : Array Oper} {Q : Exit → Act → World → Prop} {S' : World → Prop} {π : List (Nat × Bool)} {i : Nat} {v : Value}
/-! ### A deletion whose value nobody asks for -/
theorem Jp.delete0 (j : Nat) {x y : Operand} {t u kt et : TypeId} {ki kk : IntKind} {b : Nat} {k : Int} {m : MapL} (hi : nth ops.toList i = some o) (hw : Want n ops E o true) (he : o.dst = none)
    (hop : o.op = .call { callee := .builtin .delete, args := #[x, y], argTypes := #[t, u] }) (hx : evE E x = some (.map (some b))) (hy : evE E y = some (.int kk k)) (hT : P.underlying t = some (.map kt et)) (hK : P.underlying kt = some (.int ki)) (hj : look L j = some (MapO kk b m))
    (hk : Kp π S' cx ρ ((j, MapO kk b (mdel m k)) :: L)) (h : Jp P ops Q S' n cx π ρ E ((j, MapO kk b (mdel m k)) :: L)) : Jp P ops Q S' n cx ((i, false) :: π) ρ E L := by
  intro a w ha hs
  obtain ⟨es, clock, h1, hst, h2⟩ := mapO_get hs hj
  have hf := run_findKey (P := P) (kt := ki) (k := k) hK h2 w
  have hc := run_checkKey (P := P) (kt := ki) (kk := kk) (k := k) es.isEmpty 9999 hK w
  have g0 : (#[t, u] : Array TypeId)[0]? = some t := rfl
  have g2 : (#[.map (some b), .int kk k] : Array Value)[0]? = some (.map (some b)) := rfl
  have g3 : (#[.map (some b), .int kk k] : Array Value)[1]? = some (.int kk k) := rfl
  obtain ⟨es', hst', hrun, hes⟩ : ∃ es' : Array MapEntry, Stamps es' clock ∧ (Builtin.delete_ #[t, u] o.type #[.map (some b), .int kk k]).run P w = .ok (.tuple #[]) { w with heap := w.heap.setIfInBounds b (.map es' clock) } ∧ es'.toList.map (fun e => (e.key, e.val)) = (mdel m k).map fun x => (Value.int kk x.1, x.2) := by
    cases hx : findI k m 0 with
    | none =>
      refine ⟨es, hst, ?_, by simp only [mdel, hx]; exact h2⟩
      unfold Builtin.delete_
      rw [g0, g2, g3]
      simp only [Sem.run_bind, run_underlying hT, Result.andThen_ok, run_getObj h1, hc, hf, hx, run_setMap h1, Sem.run_pure]
    | some p =>
      obtain ⟨q, v⟩ := p
      refine ⟨es.eraseIdxIfInBounds q, ?_, ?_, ?_⟩
      · rw [Array.eraseIdxIfInBounds_eq]
        split
        · rw [Stamps, Array.toList_eraseIdx]
          exact ⟨hst.1.sublist ((List.eraseIdx_sublist ..).map _), fun e he => hst.2 e ((List.eraseIdx_sublist ..).subset he)⟩
        · exact hst
      · unfold Builtin.delete_
        rw [g0, g2, g3]
        simp only [Sem.run_bind, run_underlying hT, Result.andThen_ok, run_getObj h1, hc, hf, hx, run_setMap h1, Sem.run_pure]
      · obtain ⟨_, hq⟩ := findI_some hx
        rw [Nat.sub_zero] at hq
        have hlt : q < es.size := by rw [mapO_size h2]; exact (List.getElem?_eq_some_iff.1 hq).1
        simp only [mdel, hx]
        rw [Array.eraseIdxIfInBounds_eq, dif_pos hlt, Array.toList_eraseIdx, map_erase, map_erase, h2]
  have hr' := run_builtin2 (P := P) (w := w) (v := .tuple #[]) (w' := { w with heap := w.heap.setIfInBounds b (.map es' clock) }) hop (ha.ev hx) (ha.ev hy) (fun cs' => by simp only [builtin, Sem.run_bind, hrun, Result.andThen_ok, Sem.run_pure])
  simp only [wpPi, wpOp, nth_arr hi, hw a ha, if_true, Oper.wp, hr', Oper.upon, he]
  have hs' := St.setMap hs hj h1 hst' hes
  exact .inl ⟨hk.get hs', h _ _ ha hs'⟩
end
section
variable {P : Program} {n : Nat} {cx : Cx} {ρ : Hp} {E : Env} {L : Own} {o : Oper}
/-! ### 36. Places in plain form -/
theorem Y.fieldAddrP {x : Operand} {s : TypeId} {f b off q : Nat} {fs : Array Field} {fd : Field} {m : Nat} (hop : o.op = .fieldAddr s x f) (hx : evE E x = some (.pointer (some ⟨b, off, none⟩))) (hT : P.underlying s = some (.struct fs)) (hf : nth fs.toList f = some fd)
    (hz : ∀ w, (sizeOf fd.type).run P w = .ok m w) (hm : m ≠ 0) (hq : off + fd.offset = q) : Y P n cx ρ E L o (.pointer (some ⟨b, q, none⟩)) := by
  subst hq
  have := Y.fieldAddr (n := n) (cx := cx) (ρ := ρ) (L := L) hop hx hT hf hz hm
  rw [add_mk] at this
  exact this
theorem Y.indexArrP {x y : Operand} {t e : TypeId} {k : IntKind} {j : Int} {b off : Nat} {l m q : Nat} (hop : o.op = .indexAddr t x y) (hx : evE E x = some (.pointer (some ⟨b, off, none⟩))) (hy : evE E y = some (.int k j)) (hT : P.underlying t = some (.array l e))
    (hz : ∀ w, (sizeOf e).run P w = .ok m w) (h0 : 0 ≤ j) (h1 : j < l) (hq : off + j.toNat * m = q) : Y P n cx ρ E L o (.pointer (some ⟨b, q, none⟩)) := by
  subst hq
  have := Y.indexArr (n := n) (cx := cx) (ρ := ρ) (L := L) hop hx hy hT hz h0 h1 rfl
  rw [add_mk] at this
  exact this
end
end Go.Proofs.Ytjjhihlmoecmlaa
