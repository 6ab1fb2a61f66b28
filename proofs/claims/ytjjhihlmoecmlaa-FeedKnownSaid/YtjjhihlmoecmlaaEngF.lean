/- The small logic, part six: elements of slices that are owned. -/
import Derived.Test.YtjjhihlmoecmlaaEngE
set_option linter.unusedVariables false
set_option linter.unusedSimpArgs false
namespace Go.Proofs.Ytjjhihlmoecmlaa
open Go
section
variable {P : Program} {n : Nat} {cx : Cx} {ρ : Hp} {E : Env} {L : Own} {o : Oper} {ops : Array Oper} {Q : Exit → Act → World → Prop} {S : Act → World → Prop} {S' : World → Prop} {π : List (Nat × Bool)} {i : Nat} {v : Value}
/-! ### 23. Elements of a slice that is owned -/
theorem own_cell {w : World} (hs : St cx ρ L w) {j : Nat} {e : TypeId} {m k c : Nat} {ad : Addr} {cs : List Value} (hj : look L j = some (OwnS e m (some ad) k c cs)) {q : Nat} (hv : cs[q]? = some v) : w.cell? (ad.add q) = some v := by
  obtain ⟨hh, hA, hhw⟩ := hs.get hj
  obtain ⟨ad', e1, e2⟩ := hA.rd.2.2 q v hv
  injection e1 with e1
  subst e1
  exact cell_of hhw e2
theorem Y.loadS (j : Nat) {x : Operand} {t e : TypeId} {a ad : Addr} {m k c q : Nat} {cs : List Value} (hop : o.op = .load t x) (hA : ∀ w, (isAgg t).run P w = .ok false w) (hx : evE E x = some (.pointer (some a)))
    (hj : look L j = some (OwnS e m (some ad) k c cs)) (ha' : ad.add q = a) (hv : cs[q]? = some v) : Y P n cx ρ E L o v := fun ac w ha hs => by
  subst ha'
  simp only [execOp, hop, ha.ev hx, Sem.run_bind, run_load1 hA (own_cell hs hj hv), Result.andThen_ok, Sem.run_pure]
theorem Y.loadSAgg (j : Nat) {x : Operand} {t e : TypeId} {a ad : Addr} {m k c q mt : Nat} {cs : List Value} (es : List Value) (hop : o.op = .load t x) (hA : ∀ w, (isAgg t).run P w = .ok true w) (hz : ∀ w, (sizeOf t).run P w = .ok mt w) (hx : evE E x = some (.pointer (some a)))
    (hj : look L j = some (OwnS e m (some ad) k c cs)) (ha' : ad.add q = a) (hm : es.length = mt) (hv : ∀ p v, es[p]? = some v → cs[q + p]? = some v) : Y P n cx ρ E L o (.agg es.toArray) := fun ac w ha hs => by
  subst ha'
  simp only [execOp, hop, ha.ev hx, Sem.run_bind, run_loadAgg hA hz hm (fun p v e => by rw [Addr.add_add]; exact own_cell hs hj (hv p v e)), Result.andThen_ok, Sem.run_pure]
theorem OwnS.set {w w' : World} (hs : St cx ρ L w) {j b : Nat} {e : TypeId} {m k c : Nat} {A : Option Addr} {cs cs' : List Value} {cur cur' : Array Value} {fr : Nat × Nat} (hj : look L j = some (OwnS e m A k c cs)) (hA : A = some ⟨b, 0, none⟩) (hb : w.heap[b]? = some (.cells cur e fr))
    (hsz : cur'.size = c * m) (hkc : k ≤ c) (hk : k ≤ 281474976710656) (hlen : cs'.length = k * m) (hget : ∀ j, j < k * m → cur'[j]? = cs'[j]?) (hnf : ∀ j, j < c * m → noFr fr j)
    (g1 : w'.heap[b]? = some (.cells cur' e fr)) (g2 : ∀ p, p ≠ b → w'.heap[p]? = w.heap[p]?) (g3 : w'.heap.size = w.heap.size) (g4 : w'.os = w.os) (g5 : w'.tape = w.tape) (g6 : w'.output = w.output) : St cx ρ ((j, OwnS e m A k c cs') :: L) w' := by
  subst hA
  refine hs.setA hj (b := b) (ob := .cells cur e fr) (ob' := .cells cur' e fr) (fun h' hh' hw' => ?_) (fun h' hb' => ⟨⟨hlen, hk⟩, .inr ⟨b, _, fr, rfl, hb', hsz, hkc, hget, hnf⟩⟩) g1 g2 g3 g4 g5 g6
  rcases hh'.2 with ⟨q, _⟩ | ⟨b2, cur2, fr2, p1, p2, _⟩
  · cases q
  · injection p1 with p1; injection p1 with p1 _ _; subst p1
    have := hw' _ _ p2
    rw [hb] at this
    rw [p2, ← this]
theorem Jp.storeS (j : Nat) {x y : Operand} {t e : TypeId} {a ad : Addr} {m k c q : Nat} {cs : List Value} (hi : nth ops.toList i = some o) (hw : Want n ops E o true) (he : o.dst = none)
    (hop : o.op = .store t x y) (hz : ∀ w, (sizeOf t).run P w = .ok 1 w) (hx : evE E x = some (.pointer (some a))) (hy : evE E y = some v) (h1 : one v = true)
    (hj : look L j = some (OwnS e m (some ad) k c cs)) (ha' : ad.add q = a) (hq : q < k * m) (res : List Value) (hres : cs.set q v = res)
    (hk : Kp π S' cx ρ ((j, OwnS e m (some ad) k c res) :: L)) (h : Jp P ops Q S' n cx π ρ E ((j, OwnS e m (some ad) k c res) :: L)) : Jp P ops Q S' n cx ((i, false) :: π) ρ E L := by
  intro a' w ha hs
  subst ha' hres
  obtain ⟨hh, hA, hhw⟩ := hs.get hj
  have hcl := hA.length
  rcases hA.2 with ⟨q, _⟩ | ⟨b, cur, fr, hA', hb, hsz, hkc, hget, hnf⟩
  · cases q
  injection hA' with hA'
  subst hA'
  have hbw := hhw _ _ hb
  have hqc : q < c * m := Nat.lt_of_lt_of_le hq (Nat.mul_le_mul_right m hkc)
  have hc : w.cell? ((⟨b, 0, none⟩ : Addr).add q) = some cur[q] := by rw [add_mk]; simp [World.cell?, hbw, hsz, hqc]
  have hr := run_store1 (P := P) hz (v := v) h1 hc (by rw [add_mk, Nat.zero_add, frozen_pt hbw]; exact hnf q hqc)
  simp only [wpPi, wpOp, nth_arr hi, hw a' ha, if_true, Oper.wp, execOp, hop, ha.ev hx, ha.ev hy, Sem.run_bind, hr, Result.andThen_ok, Sem.run_pure, Oper.upon, he]
  rw [add_mk, Nat.zero_add]
  have hs' : St cx ρ ((j, OwnS e m (some ⟨b, 0, none⟩) k c (cs.set q v)) :: L) (w.setCell ⟨b, q, none⟩ v) := by
    refine OwnS.set hs hj (cur' := cur.setIfInBounds q v) rfl hbw (by simpa using hsz) hkc hA.1.2 (by rw [List.length_set]; exact hcl) (fun p hp => ?_) hnf ?_ ?_ ?_ rfl rfl rfl
    · rw [Array.getElem?_setIfInBounds, List.getElem?_set]
      by_cases hqp : q = p
      · subst hqp
        simp [hcl, hq, hsz, hqc]
      · simp [hqp, hget p hp]
    · rw [setCell_heap hbw]; simp
    · intro p hp; rw [setCell_heap hbw, if_neg hp]
    · simp [World.setCell, hbw]
  exact .inl ⟨hk.get hs', h _ _ ha hs'⟩
theorem Jp.imp {j : Nat} {A A' : HProp} (e : look L j = Option.some A) (f : ∀ k, A k → A' k) (h : Jp P ops Q S' n cx π ρ E ((j, A') :: L)) : Jp P ops Q S' n cx π ρ E L := fun a w ha hs => h a w ha (hs.imp e f)
theorem own_some {w : World} (hs : St cx ρ L w) {j : Nat} {e : TypeId} {m k c : Nat} {A : Option Addr} {cs : List Value} (hj : look L j = some (OwnS e m A k c cs)) (hk : 0 < k) : ∃ b, A = some ⟨b, 0, none⟩ := by
  obtain ⟨hh, hA, hhw⟩ := hs.get hj
  rcases hA.2 with ⟨_, h, _⟩ | ⟨b, cur, fr, hA', _⟩
  · omega
  · exact ⟨b, hA'⟩
/-- A slice of the call's own that is not empty leads somewhere. -/
theorem Cd.ownAt {K : Exit → Act → World → Prop} {d : Code} (j : Nat) {e : TypeId} {m k c : Nat} {A : Option Addr} {cs : List Value} (hj : look L j = some (OwnS e m A k c cs)) (hk : 0 < k) (h : ∀ b, A = some ⟨b, 0, none⟩ → Cd P K n cx ρ E L d) : Cd P K n cx ρ E L d := fun a w ha hs =>
  let ⟨b, hb⟩ := own_some hs hj hk; h b hb a w ha hs
theorem Jp.ownAt (j : Nat) {e : TypeId} {m k c : Nat} {A : Option Addr} {cs : List Value} (hj : look L j = some (OwnS e m A k c cs)) (hk : 0 < k) (h : ∀ b, A = some ⟨b, 0, none⟩ → Jp P ops Q S' n cx π ρ E L) : Jp P ops Q S' n cx π ρ E L := fun a w ha hs =>
  let ⟨b, hb⟩ := own_some hs hj hk; h b hb a w ha hs
/-- copy into an owned slice, from a place on. -/
theorem Jp.copyAt (d j lo : Nat) {x y : Operand} {sT xT e : TypeId} {m k k' c c' l r : Nat} {A : Option Addr} {u : Value} {cs new : List Value} (hi : nth ops.toList i = some o) (hw : Want n ops E o true) (he : o.dst = some d) (hd : Nat.blt d n = true)
    (hop : o.op = .call { callee := .builtin .copy, args := #[x, y], argTypes := #[sT, xT] }) (hsT : P.underlying sT = some (.slice e)) (hz : ∀ w, (sizeOf e).run P w = .ok m w)
    (hx : evE E x = some (.slice (cutA A c lo m) k' c')) (hy : evE E y = some u) (hj : look L j = some (OwnS e m A k c cs)) (hsrc : SrcN P cx ρ L m l r u new) (hkk : lo + k' ≤ k) (hr : Nat.min l k' = r) (hone' : new.all one = true) (res : List Value) (hres : cs.take (lo * m) ++ new ++ cs.drop (lo * m + r * m) = res)
    (h : Kp π S' cx ρ ((j, OwnS e m A k c res) :: L) ∧ Jp P ops Q S' n cx π ρ ((d, .int .i64 r) :: E) ((j, OwnS e m A k c res) :: L)) :
    Jp P ops Q S' n cx ((i, false) :: π) ρ E L := by
  intro a w ha hs
  subst hres
  have hone : ∀ v ∈ new, one v = true := List.all_eq_true.1 hone'
  obtain ⟨hh, hA, hhw⟩ := hs.get hj
  obtain ⟨hsl, hsc⟩ := hsrc
  obtain ⟨hnl, hsc⟩ := hsc w hs
  have hcl := hA.length
  have hrk : r ≤ k' := by subst hr; exact Nat.min_le_right ..
  obtain ⟨h1, h2⟩ := h
  by_cases hr0 : r = 0
  · subst hr0
    have hnil : new = [] := by simpa using hnl
    subst hnil
    have hcs : cs.take (lo * m) ++ [] ++ cs.drop (lo * m + 0 * m) = cs := by simp
    rw [hcs] at h1 h2
    have hs' : St cx ρ ((j, OwnS e m A k c cs) :: L) w := hs.subF fun q B e => by
      rw [look_cons] at e
      split at e
      · rename_i hq; subst hq; injection e with e; subst e; exact hj
      · exact e
    have hr1 : (Builtin.copy_ #[sT, xT] o.type #[.slice (cutA A c lo m) k' c', u]).run P w = .ok (.int .i64 (0 : Nat)) w := by
      have g0 : (#[sT, xT] : Array TypeId)[0]? = Option.some sT := rfl
      have g2 : (#[.slice (cutA A c lo m) k' c', u] : Array Value)[0]? = Option.some (.slice (cutA A c lo m) k' c') := rfl
      have g3 : (#[.slice (cutA A c lo m) k' c', u] : Array Value)[1]? = Option.some u := rfl
      unfold Builtin.copy_
      rw [g0, g2, g3]
      cases cutA A c lo m <;> simp only [Sem.run_bind, run_underlying hsT, Result.andThen_ok, hsl, hr, hz, hsc, Sem.run_pure] <;> rfl
    have hr' := run_builtin2 (P := P) (w := w) (v := .int .i64 (0 : Nat)) (w' := w) hop (ha.ev hx) (ha.ev hy) (fun cs' => by simp only [builtin, Sem.run_bind, hr1, Result.andThen_ok, Sem.run_pure])
    simp only [wpPi, wpOp, nth_arr hi, hw a ha, if_true, Oper.wp, hr', Oper.upon]
    exact .inl ⟨h1.get hs', h2 _ _ (ha.put' he hd _) hs'⟩
  rcases hA.2 with ⟨_, hk0, hc0⟩ | ⟨b, cur, fr, rfl, hb, hsz, hkc, hget, hnf⟩
  · omega
  have hbw := hhw _ _ hb
  have hcut : cutA (some ⟨b, 0, none⟩) c lo m = some ⟨b, lo * m, none⟩ := by
    rw [cutA, if_neg (by omega)]; simp [add_mk]
  rw [hcut] at hx
  have g0 : (#[sT, xT] : Array TypeId)[0]? = some sT := rfl
  have g2 : (#[.slice (some ⟨b, lo * m, none⟩) k' c', u] : Array Value)[0]? = some (.slice (some ⟨b, lo * m, none⟩) k' c') := rfl
  have g3 : (#[.slice (some ⟨b, lo * m, none⟩) k' c', u] : Array Value)[1]? = some u := rfl
  have hlr : lo * m + r * m ≤ k * m := by rw [← Nat.add_mul]; exact Nat.mul_le_mul_right m (by omega)
  have hkm := Nat.mul_le_mul_right m hkc
  have hlen : (cs.take (lo * m) ++ new ++ cs.drop (lo * m + r * m)).length = k * m := by
    simp only [List.length_append, List.length_take, List.length_drop, hnl, hcl]; omega
  obtain ⟨w', hr2, q1, q2, q3, q4, q5, q6⟩ := run_storeCells (P := P) new (lo * m) 0 w cur hbw (by omega) hone (fun q a b => hnf q (by omega))
  have hr1 : (Builtin.copy_ #[sT, xT] o.type #[.slice (some ⟨b, lo * m, none⟩) k' c', u]).run P w = .ok (.int .i64 r) w' := by
    unfold Builtin.copy_
    rw [g0, g2, g3]
    simp only [Sem.run_bind, run_underlying hsT, Result.andThen_ok, hsl, hr, hz, hsc, Sem.run_pure, hr2, goInt]
  have hs' : St cx ρ ((j, OwnS e m (some ⟨b, 0, none⟩) k c (cs.take (lo * m) ++ new ++ cs.drop (lo * m + r * m))) :: L) w' := by
    refine OwnS.set hs hj (cur' := spl cur (lo * m + 0) new) rfl hbw (by rw [spl_size]; exact hsz) hkc hA.1.2 hlen (fun q hq => ?_) hnf q1 q2 q3 q4 q5 q6
    rw [spl_get _ _ _ _ (by omega)]
    have htl : (cs.take (lo * m)).length = lo * m := by rw [List.length_take]; omega
    by_cases hh1 : lo * m + 0 ≤ q ∧ q < lo * m + 0 + new.length
    · rw [if_pos hh1, List.getElem?_append_left (by rw [List.length_append, htl]; omega), List.getElem?_append_right (by omega), htl]; rfl
    · rw [if_neg hh1, hget q hq]
      by_cases hql : q < lo * m
      · rw [List.append_assoc, List.getElem?_append_left (by omega), List.getElem?_take_of_lt hql]
      · rw [List.getElem?_append_right (by rw [List.length_append, htl]; omega), List.getElem?_drop, List.length_append, htl, hnl]
        congr 1; omega
  have hr' := run_builtin2 (P := P) (w := w) (v := .int .i64 r) (w' := w') hop (ha.ev hx) (ha.ev hy) (fun cs' => by simp only [builtin, Sem.run_bind, hr1, Result.andThen_ok, Sem.run_pure])
  simp only [wpPi, wpOp, nth_arr hi, hw a ha, if_true, Oper.wp, hr', Oper.upon]
  exact .inl ⟨h1.get hs', h2 _ _ (ha.put' he hd _) hs'⟩
theorem res4 {fn : Func} {t u s r : Tmp} {x y z q : Value} (h : fn.results = #[.tmp t, .tmp u, .tmp s, .tmp r]) (he : look E t = some x) (he2 : look E u = some y) (he3 : look E s = some z) (he4 : look E r = some q) : ∀ a w, At n E a → St cx ρ L w → (results fn a.tmps).run P w = .ok (.tuple #[x, y, z, q]) w := fun a w ha _ => by
  have h1 := ha.slot t x he
  have h2 := ha.slot u y he2
  have h3 := ha.slot s z he3
  have h4 := ha.slot r q he4
  simp [results, h, h1, h2, h3, h4]
end
end Go.Proofs.Ytjjhihlmoecmlaa
