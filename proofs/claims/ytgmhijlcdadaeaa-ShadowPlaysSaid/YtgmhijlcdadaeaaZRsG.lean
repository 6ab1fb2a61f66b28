import Derived.Test.YtgmhijlcdadaeaaZRsF
import Derived.Test.YtgmhijlcdadaeaaZShH
set_option linter.unusedVariables false
set_option linter.unusedSimpArgs false
set_option maxRecDepth 100000
namespace Go.Proofs.Ytgmhijlcdadaeaa
open Go
def clrR (k a : Nat) (n : Int) (i : Nat) (b : Bytes) : Bytes := b.zipIdx.map fun x => if x.2 < i ∧ inR (k + x.2) a n = true then 0 else x.1
theorem clrR_len (k a : Nat) (n : Int) (i : Nat) (b : Bytes) : (clrR k a n i b).length = b.length := by simp [clrR]
theorem clrR_get (k a : Nat) (n : Int) (i : Nat) (b : Bytes) (j : Nat) : (clrR k a n i b).getD j 0 = if j < i ∧ inR (k + j) a n = true then 0 else b.getD j 0 := by
  simp only [clrR, List.getD_eq_getElem?_getD, List.getElem?_map, List.getElem?_zipIdx]
  cases h : b[j]? with
  | none => simp
  | some x => simp only [Option.map_some, Option.getD_some, Nat.zero_add]
theorem clrR_zero {k a : Nat} {n : Int} {b : Bytes} (h : b.length = 256) : clrR k a n 0 b = b := bytes_ext (by rw [clrR_len]; exact h) h fun j hj => by rw [clrR_get, if_neg (by omega)]
theorem clrR_yes {k a : Nat} {n : Int} {i : Nat} {b : Bytes} (h : b.length = 256) (hi : i < 256) (hin : inR (k + i) a n = true) : (clrR k a n i b).set i 0 = clrR k a n (i + 1) b :=
  bytes_ext (by rw [List.length_set, clrR_len]; exact h) (by rw [clrR_len]; exact h) fun j hj => by
    rw [clrR_get]
    by_cases e : j = i
    · subst e
      rw [if_pos ⟨by omega, hin⟩, List.getD_eq_getElem?_getD, List.getElem?_set_self (by rw [clrR_len]; omega)]; rfl
    · rw [List.getD_eq_getElem?_getD, List.getElem?_set_ne (Ne.symm e), ← List.getD_eq_getElem?_getD, clrR_get]
      by_cases h3 : j < i ∧ inR (k + j) a n = true
      · rw [if_pos h3, if_pos ⟨by omega, h3.2⟩]
      · rw [if_neg h3, if_neg (fun h => h3 ⟨by omega, h.2⟩)]
theorem clrR_no {k a : Nat} {n : Int} {i : Nat} {b : Bytes} (h : b.length = 256) (hin : ¬ inR (k + i) a n = true) : clrR k a n i b = clrR k a n (i + 1) b :=
  bytes_ext (by rw [clrR_len]; exact h) (by rw [clrR_len]; exact h) fun j hj => by
    rw [clrR_get, clrR_get]
    by_cases h3 : j < i ∧ inR (k + j) a n = true
    · rw [if_pos h3, if_pos ⟨by omega, h3.2⟩]
    · rw [if_neg h3, if_neg]
      intro h4
      by_cases e : j = i
      · subst e; exact hin h4.2
      · exact h3 ⟨by omega, h4.2⟩
theorem clrR_fin {k a : Nat} {n : Int} {b : Bytes} (h : b.length = 256) (hk : k + 256 ≤ 4294967296) (ha : a < 4294967296) : clrR k a n 256 b = clrB k a (endN a n) b :=
  bytes_ext (by rw [clrR_len]; exact h) (by rw [clrB_len]; exact h) fun j hj => by
    rw [clrR_get, clrB_get]
    have e : (j < 256 ∧ inR (k + j) a n = true) ↔ (a ≤ k + j ∧ k + j < endN a n) := by
      unfold inR endN
      simp only [Bool.and_eq_true, decide_eq_true_eq]
      omega
    by_cases h3 : j < 256 ∧ inR (k + j) a n = true
    · rw [if_pos h3, if_pos (e.1 h3)]
    · rw [if_neg h3, if_neg (fun h => h3 (e.2 h))]
theorem clear_snoc (l : List (Nat × Pg)) (x : Nat × Pg) (a e : Nat) : clearP (l ++ [x]) a e = clearP l a e ++ (if cntB (clrB x.1 a e x.2.b) = 0 then [] else [(x.1, pgB (clrB x.1 a e x.2.b))]) := by
  unfold clearP
  rw [List.map_append, List.filter_append]
  congr 1
  by_cases h : cntB (clrB x.1 a e x.2.b) = 0
  · rw [if_pos h]; simp [h]
  · rw [if_neg h]; simp [h, pgB]
theorem rsClear_spec (b : Nat) (B : Int) (l : List (Nat × Pg)) (hok : ShOk l) (a : Nat) (n : Int) (ha : a < 4294967296) : Spec Try.prog 38 #[.pointer (some ⟨b, 0, none⟩), .int .u32 a, .int .i64 n] (fun _ => True) [(0, RsO b B l)]
    (fun ρ ρ' v L => ρ' = ρ ∧ v = .tuple #[] ∧ L = [(0, RsO b B (clearP l a (endN a n)))]) := by
  refine Spec.of 53 Try.func38 rfl Try.ntmps38 [(0, _), (1, _), (2, _)] rfl rfl ?_
  intro cx ρ hr h0
  have hsh := hok
  refine Cd.rsOpen 0 1 (by decide) rfl fun x hf => ?_
  obtain ⟨A, c⟩ := x
  dsimp only
  have hmany := hf.2
  have hfew := sh_few hsh
  have hrows : ∀ y ∈ l, (lbC y).length = 257 := fun y hy => lbC_len (hf.1 y hy)
  obtain ⟨e, he⟩ : ∃ e, endN a n = e := ⟨_, rfl⟩
  rw [he]
  refine Cd.make 2 (A := OwnS 137 257 none (clearP (l.take 0) a e).length 0 ((clearP (l.take 0) a e).flatMap lbC)) (OwnS.nil _ _ _) ?_
  refine Cd.seq fun K1 hK1 => ?_
  refine Cd.plain [(0, false)] rfl rfl ?_
  refine Jp.y 6 rfl (want_all rfl) rfl rfl Kp.true (Y.assign rfl rfl) ?_
  refine Jp.done hK1 ?_
  refine Cd.seq fun K2 hK2 => ?_
  refine Cd.seq fun K3 hK3 => ?_
  refine Cd.plain [(0, false)] rfl rfl ?_
  refine Jp.y 7 rfl (want_all rfl) rfl rfl Kp.true (Y.assign rfl rfl) ?_
  refine Jp.done hK3 ?_
  refine Cd.block ?_
  refine Cd.loopK (G := Nat × Option Addr × Nat) (fun g => g.1 ≤ l.length) (fun g => l.length - g.1) (fun _ => _) (fun g => [(6, .slice g.2.1 (clearP (l.take g.1) a e).length g.2.2), (7, .int .i64 (g.1 : Int))]) [(0, _), (1, _), (2, _)] (fun g => [(2, OwnS 137 257 g.2.1 (clearP (l.take g.1) a e).length g.2.2 ((clearP (l.take g.1) a e).flatMap lbC))]) [(0, _), (1, _)] ⟨0, none, 0⟩ (Nat.zero_le _) rfl ⟨rfl, rfl, trivial⟩ ⟨rfl, rfl, rfl, trivial⟩ ⟨rfl, trivial⟩ ⟨rfl, rfl, trivial⟩ (fun g KLa hok hLa => ?_)
  obtain ⟨i, D, d⟩ := g
  dsimp only at hok ⊢
  refine Cd.seq fun K4 hK4 => ?_
  refine Cd.seq fun K5 hK5 => ?_
  refine Cd.plain [(0, false), (1, false), (2, false), (3, false), (4, false), (5, false), (6, false)] rfl rfl ?_
  refine Jp.y 10 rfl (want_all rfl) rfl rfl Kp.true (Y.move rfl rfl) ?_
  refine Jp.y 11 rfl (want_all rfl) rfl rfl Kp.true (Y.move rfl rfl) ?_
  refine Jp.y 12 rfl (want_all rfl) rfl rfl Kp.true (Y.nilCheck rfl rfl) ?_
  refine Jp.y 13 rfl (want_all rfl) rfl rfl Kp.true (by first | exact Y.fieldAddrP rfl rfl Try.underlying78 rfl Try.sizeOf76 (by decide) (show _ + 1 = _ from rfl) | exact Y.fieldAddr rfl rfl Try.underlying78 rfl Try.sizeOf76 (by decide)) ?_
  refine Jp.y 14 rfl (want_all rfl) rfl rfl Kp.true (Y.loadO 0 rfl Try.isAgg76 rfl rfl rfl) ?_
  refine Jp.y 15 rfl (want_all rfl) rfl rfl Kp.true (Y.lenslice rfl Try.underlying76 rfl) ?_
  refine Jp.y 16 rfl (want_all rfl) rfl rfl Kp.true (Y.lss rfl rfl rfl) ?_
  refine Jp.done hK5 ?_
  refine Cd.cond rfl (fun ga => ?_) (fun ga => ?_)
  · have hil : i < l.length := by simpa using ga
    have hx : l[i]? = some l[i] := List.getElem?_eq_getElem hil
    obtain ⟨y, hy⟩ : ∃ y, y = l[i] := ⟨_, rfl⟩
    rw [← hy] at hx
    have hyk := hsh.page y (List.mem_of_getElem? hx)
    have hal := hyk.al
    have hyl := hyk.lt
    have hlen : y.2.b.length = 256 := hyk.len
    have hsn : clearP (l.take (i + 1)) a e = clearP (l.take i) a e ++ (if cntB (clrB y.1 a e y.2.b) = 0 then [] else [(y.1, pgB (clrB y.1 a e y.2.b))]) := by
      rw [← List.take_append_getElem hil, ← hy, clear_snoc]
    have hcl : ∀ m : List (Nat × Pg), (clearP m a e).length ≤ m.length := fun m => Nat.le_trans (List.length_filter_le ..) (by rw [List.length_map]; exact Nat.le_refl _)
    have hcli := hcl (l.take i)
    rw [List.length_take] at hcli
    have hfin := clrR_fin (k := y.1) (a := a) (n := n) hlen (by omega) ha
    rw [he] at hfin
    refine Cd.ownAt 1 rfl (show 0 < l.length by omega) ?_
    rintro b1 rfl
    refine Cd.skip hK4 ?_
    refine Cd.seq fun K6 hK6 => ?_
    refine Cd.block ?_
    refine Cd.seq fun K7 hK7 => ?_
    refine Cd.plain [(0, false), (1, false), (2, false), (3, false), (4, false), (5, false), (6, false), (7, false), (8, false)] rfl rfl ?_
    refine Jp.y 19 rfl (want_all rfl) rfl rfl Kp.true (Y.move rfl rfl) ?_
    refine Jp.y 20 rfl (want_all rfl) rfl rfl Kp.true (Y.nilCheck rfl rfl) ?_
    refine Jp.y 21 rfl (want_all rfl) rfl rfl Kp.true (by first | exact Y.fieldAddrP rfl rfl Try.underlying78 rfl Try.sizeOf76 (by decide) (show _ + 1 = _ from rfl) | exact Y.fieldAddr rfl rfl Try.underlying78 rfl Try.sizeOf76 (by decide)) ?_
    refine Jp.y 22 rfl (want_all rfl) rfl rfl Kp.true (Y.loadO 0 rfl Try.isAgg76 rfl rfl rfl) ?_
    refine Jp.y 23 rfl (want_all rfl) rfl rfl Kp.true (Y.move rfl rfl) ?_
    refine Jp.y 24 rfl (want_all rfl) rfl rfl Kp.true (Y.indexAddr (q := i * 257) rfl rfl rfl Try.underlying76 Try.sizeOf137 (by omega) (by omega) (by omega)) ?_
    refine Jp.y 25 rfl (want_all rfl) rfl rfl Kp.true (Y.loadSAgg 1 (q := i * 257) (lbC y) rfl Try.isAgg137 Try.sizeOf137 rfl rfl rfl (lbC_len hlen) (fun p x hx2 => rs_get hrows hx hx2)) ?_
    refine Jp.alloc 8 8 rfl (want_all rfl) rfl rfl rfl Try.zeroValue137 fun b8 => ⟨Kp.true, ?_⟩
    refine Jp.storeAgg 8 rfl (want_all rfl) rfl rfl Try.sizeOf137 rfl rfl (by have := lbs_one (l := [y]); simpa using this) (lbC_len hlen) rfl rfl (fun k _ _ => noFr0 k) Kp.true ?_
    refine Jp.imp (j := 8) (A := Pt b8 (.cells (spl (lbC (0, zPg)).toArray 0 (lbC y)) 137)) (A' := Pt b8 (.cells (lbC (y.1, pgB (clrR y.1 a n 0 y.2.b))).toArray 137)) rfl (fun h hh => by
      rw [shSpl_full (by rw [lbC_len hlen]; exact (lbC_len (x := (0, zPg)) zeroB_len).symm)] at hh
      rw [clrR_zero hlen]; exact hh) ?_
    refine Jp.done hK7 ?_
    refine Cd.seq fun K8 hK8 => ?_
    refine Cd.seq fun K9 hK9 => ?_
    refine Cd.plain [(0, false)] rfl rfl ?_
    refine Jp.y 9 rfl (want_all rfl) rfl rfl Kp.true (Y.assign rfl rfl) ?_
    refine Jp.done hK9 ?_
    refine Cd.block ?_
    refine Cd.loopK (G := Nat) (fun k => k ≤ 256) (fun k => 256 - k) (fun _ => _) (fun k => [(9, .int .i64 (k : Int))]) [(0, _), (1, _), (2, _), (6, _), (7, _), (8, _)] (fun k => [(8, Pt b8 (.cells (lbC (y.1, pgB (clrR y.1 a n k y.2.b))).toArray 137))]) [(0, _), (1, _), (2, _)] 0 (Nat.zero_le _) rfl ⟨rfl, trivial⟩ ⟨rfl, rfl, rfl, rfl, rfl, rfl, trivial⟩ ⟨rfl, trivial⟩ ⟨rfl, rfl, rfl, trivial⟩ (fun g KLc hok hLc => ?_)
    obtain ⟨k, hk⟩ : ∃ k, k = g := ⟨_, rfl⟩
    rw [← hk] at hok ⊢
    have hlk : (clrR y.1 a n k y.2.b).length = 256 := by rw [clrR_len]; exact hlen
    have c0 := Pt.hasC (b := b8) (T := 137) (fr := (0, 0)) (show (lbC (y.1, pgB (clrR y.1 a n k y.2.b))).toArray[0]? = some (.int .u32 (y.1 : Int)) from rfl)
    refine Cd.seq fun K10 hK10 => ?_
    refine Cd.seq fun K11 hK11 => ?_
    refine Cd.plain [(0, false), (1, false)] rfl rfl ?_
    refine Jp.y 26 rfl (want_all rfl) rfl rfl Kp.true (Y.move rfl rfl) ?_
    refine Jp.y 27 rfl (want_all rfl) rfl rfl Kp.true (Y.lss rfl rfl rfl) ?_
    refine Jp.done hK11 ?_
    refine Cd.cond rfl (fun gk => ?_) (fun gk => ?_)
    · have hk2 : k < 256 := by simp at gk; omega
      refine Cd.skip hK10 ?_
      refine Cd.seq fun K12 hK12 => ?_
      refine Cd.block ?_
      refine Cd.seq fun K13 hK13 => ?_
      refine Cd.plain [(0, false), (1, false), (2, false), (3, false), (4, false), (5, false), (6, false), (7, false)] rfl rfl ?_
      refine Jp.y 30 rfl (want_all rfl) rfl rfl Kp.true (by first | exact Y.fieldAddrP rfl rfl Try.underlying137 rfl Try.sizeOf25 (by decide) (show _ + 0 = _ from rfl) | exact Y.fieldAddr rfl rfl Try.underlying137 rfl Try.sizeOf25 (by decide)) ?_
      refine Jp.y 31 rfl (want_all rfl) rfl rfl Kp.true (Y.loadC 8 rfl Try.isAgg25 rfl rfl c0) ?_
      refine Jp.y 32 rfl (want_all rfl) rfl rfl Kp.true (Y.move rfl rfl) ?_
      refine Jp.y 33 rfl (want_all rfl) rfl rfl Kp.true (Y.conv_ rfl rfl Try.underlying3 Try.underlying25 (by first | exact wrap_u32 (by omega) (by omega) | rfl)) ?_
      refine Jp.y 34 rfl (want_all rfl) rfl rfl Kp.true (Y.add_ rfl rfl rfl (by first | exact wrap_u32 (by omega) (by omega) | rfl)) ?_
      refine Jp.slot 34 rfl (show _ = Value.int .u32 ((y.1 + k : Nat) : Int) from congrArg (Value.int .u32) (by omega)) ?_
      refine Jp.y 35 rfl (want_all rfl) rfl rfl Kp.true (Y.move rfl rfl) ?_
      refine Jp.y 36 rfl (want_all rfl) rfl rfl Kp.true (Y.move rfl rfl) ?_
      refine Jp.call [] [] (rsIn_spec (y.1 + k) a n (by omega) ha) 37 rfl (want_all rfl) rfl rfl (Runs.fn rfl Try.call86 rfl) (by decide) (by decide) rfl trivial ?_
      rintro v1 ρ1 L1 ⟨rfl, rfl, rfl⟩
      refine ⟨rfl, fun hle1 => ⟨Kp.true, ?_⟩⟩
      refine Jp.done hK13 ?_
      refine Cd.cond rfl (fun gin => ?_) (fun gin => ?_)
      · have hin : inR (y.1 + k) a n = true := gin
        refine Cd.plain [(0, false), (1, false), (2, false), (3, false)] rfl rfl ?_
        refine Jp.y 38 rfl (want_all rfl) rfl rfl Kp.true (Y.move rfl rfl) ?_
        refine Jp.y 39 rfl (want_all rfl) rfl rfl Kp.true (by first | exact Y.fieldAddrP rfl rfl Try.underlying137 rfl Try.sizeOf106 (by decide) (show _ + 1 = _ from rfl) | exact Y.fieldAddr rfl rfl Try.underlying137 rfl Try.sizeOf106 (by decide)) ?_
        refine Jp.y 40 rfl (want_all rfl) rfl rfl Kp.true (Y.indexArrP (q := 1 + k) rfl rfl rfl Try.underlying106 Try.sizeOf5 (by omega) (by omega) (by omega)) ?_
        refine Jp.storeC 8 (Pt b8 (.cells (lbC (y.1, pgB (clrR y.1 a n (k + 1) y.2.b))).toArray 137)) rfl (want_all rfl) rfl rfl Try.sizeOf5 rfl rfl rfl rfl rfl (SetC.pt (by rw [List.size_toArray, lbC_len hlk]; omega) (noFr0 _) (by rw [List.setIfInBounds_toArray]; exact congrArg List.toArray ((lbC_set (v := 0) rfl).trans (by rw [show (pgB (clrR y.1 a n k y.2.b)).b = clrR y.1 a n k y.2.b from rfl, clrR_yes hlen hk2 hin])))) Kp.true ?_
        refine Jp.over rfl hK12 ?_
        refine Cd.plain [(0, false), (1, false), (2, false)] rfl rfl ?_
        refine Jp.y 28 rfl (want_all rfl) rfl rfl Kp.true (Y.move rfl rfl) ?_
        refine Jp.y 29 rfl (want_all rfl) rfl rfl Kp.true (Y.add_ rfl rfl rfl (by first | exact wrap_i64 (by omega) (by omega) | rfl)) ?_
        refine Jp.y 9 rfl (want_all rfl) rfl rfl Kp.true (Y.assign rfl rfl) ?_
        rw [show (k : Int) + 1 = ((k + 1 : Nat) : Int) by omega]
        refine Jp.again hLc (k + 1) (by omega) (by omega) rfl ⟨rfl, rfl, rfl, rfl, rfl, rfl, rfl, trivial⟩ ⟨rfl, rfl, rfl, rfl, trivial⟩
      · have hin : ¬ inR (y.1 + k) a n = true := by rw [gin]; simp
        rw [clrR_no hlen hin]
        refine Cd.over rfl hK12 ?_
        refine Cd.plain [(0, false), (1, false), (2, false)] rfl rfl ?_
        refine Jp.y 28 rfl (want_all rfl) rfl rfl Kp.true (Y.move rfl rfl) ?_
        refine Jp.y 29 rfl (want_all rfl) rfl rfl Kp.true (Y.add_ rfl rfl rfl (by first | exact wrap_i64 (by omega) (by omega) | rfl)) ?_
        refine Jp.y 9 rfl (want_all rfl) rfl rfl Kp.true (Y.assign rfl rfl) ?_
        rw [show (k : Int) + 1 = ((k + 1 : Nat) : Int) by omega]
        refine Jp.again hLc (k + 1) (by omega) (by omega) rfl ⟨rfl, rfl, rfl, rfl, rfl, rfl, rfl, trivial⟩ ⟨rfl, rfl, rfl, rfl, trivial⟩
    · have hk2 : k = 256 := by simp at gk; omega
      rw [hk2, hfin]
      obtain ⟨b', hb'⟩ : ∃ b', clrB y.1 a e y.2.b = b' := ⟨_, rfl⟩
      have hbl : b'.length = 256 := by rw [← hb', clrB_len]; exact hlen
      rw [hb'] at hsn ⊢
      have hcells : ∀ h, Pt b8 (.cells (lbC (y.1, pgB b')).toArray 137) h → Cells h ⟨b8, 0 + 1, none⟩ (bytesV b') := fun h hh p x hx2 => by
        have hh : h b8 = some (.cells (lbC (y.1, pgB b')).toArray 137) := hh
        have hx3 : (lbC (y.1, pgB b'))[0 + 1 + p]? = some x := by
          rw [show 0 + 1 + p = p + 1 by omega, lbC, List.getElem?_cons_succ]; exact hx2
        rw [add_mk]
        simp [cellH, hh, hx3]
      have hlc : (lbC (y.1, pgB b')).length = 257 := lbC_len hbl
      have hone1 : (lbC (y.1, pgB b')).all one = true := by
        have := lbs_one (l := [(y.1, pgB b')])
        simpa using this
      have hbl2 : (bytesV b').length = 256 := by rw [bytesV, List.length_map]; exact hbl
      refine Cd.exit rfl hK8 ?_
      refine Cd.seq fun K14 hK14 => ?_
      refine Cd.plain [(0, false), (1, false), (2, false), (3, false)] rfl rfl ?_
      refine Jp.y 41 rfl (want_all rfl) rfl rfl Kp.true (by first | exact Y.fieldAddrP rfl rfl Try.underlying137 rfl Try.sizeOf106 (by decide) (show _ + 1 = _ from rfl) | exact Y.fieldAddr rfl rfl Try.underlying137 rfl Try.sizeOf106 (by decide)) ?_
      refine Jp.y 42 rfl (want_all rfl) rfl rfl Kp.true (Y.loadAggC 8 (bytesV b') rfl Try.isAgg106 Try.sizeOf106 rfl rfl hbl2 hcells) ?_
      refine Jp.y 43 rfl (want_all rfl) rfl rfl Kp.true (Y.array [] (bytesV zeroB) rfl rfl Try.underlying106 Try.sizeOf5 Try.zeroValue106 rfl) ?_
      refine Jp.y 44 rfl (want_all rfl) rfl rfl Kp.true (Y.neqV (xs := (bytesV b').toArray) (ys := (bytesV zeroB).toArray) (r := decide (b' = zeroB)) rfl rfl rfl lb_guard (lb_eq hbl zeroB_len)) ?_
      refine Jp.done hK14 ?_
      refine Cd.cond rfl (fun gb => ?_) (fun gb => ?_)
      · have hc : cntB b' ≠ 0 := fun h => by
          have := (cnt_zero_iff hbl).2 h
          simp at gb
          exact gb this
        rw [if_neg hc] at hsn
        have hfm : (clearP (l.take i) a e).flatMap lbC ++ lbC (y.1, pgB b') = (clearP (l.take (i + 1)) a e).flatMap lbC := by
          rw [hsn, List.flatMap_append]; simp
        have hll : (clearP (l.take (i + 1)) a e).length = (clearP (l.take i) a e).length + 1 := by rw [hsn, List.length_append]; rfl
        refine Cd.plain [(0, false), (1, false), (2, false), (3, false), (4, false)] rfl rfl ?_
        refine Jp.y 45 rfl (want_all rfl) rfl rfl Kp.true (Y.move rfl rfl) ?_
        refine Jp.y 46 rfl (want_all rfl) rfl rfl Kp.true (Y.loadAggO 8 (cs := lbC (y.1, pgB b')) rfl Try.isAgg137 Try.sizeOf137 rfl rfl hlc) ?_
        refine Jp.lit 47 9 [(0, _)] (lbC (y.1, pgB b')) rfl (want_all rfl) rfl rfl rfl rfl Try.underlying76 Try.sizeOf137 Try.zeroValue137 rfl rfl (fill_one hlc) hlc rfl fun b9 => ⟨Kp.true, ?_⟩
        refine Jp.append 48 2 rfl (want_all rfl) rfl rfl rfl Try.underlying76 Try.underlying76 (.inl ⟨_, rfl⟩) Try.sizeOf137 Try.typeInfo137 Try.zeroValue137 rfl (by decide) rfl rfl rfl (Src.own 9 rfl) hone1 ((clearP (l.take (i + 1)) a e).length) (((clearP (l.take (i + 1)) a e).flatMap lbC)) (by first | omega | simp) hfm (by simp only [Try.t137]; omega) fun A7 c7 => ⟨Kp.true, ?_⟩
        refine Jp.y 6 rfl (want_all rfl) rfl rfl Kp.true (Y.assign rfl rfl) ?_
        refine Jp.over rfl hK6 ?_
        refine Cd.plain [(0, false), (1, false), (2, false)] rfl rfl ?_
        refine Jp.y 17 rfl (want_all rfl) rfl rfl Kp.true (Y.move rfl rfl) ?_
        refine Jp.y 18 rfl (want_all rfl) rfl rfl Kp.true (Y.add_ rfl rfl rfl (by first | exact wrap_i64 (by omega) (by omega) | rfl)) ?_
        refine Jp.y 7 rfl (want_all rfl) rfl rfl Kp.true (Y.assign rfl rfl) ?_
        rw [show (i : Int) + 1 = ((i + 1 : Nat) : Int) by omega]
        refine Jp.again hLa ⟨i + 1, A7, c7⟩ (by show i + 1 ≤ l.length; omega) (by show l.length - (i + 1) < l.length - i; omega) rfl ⟨rfl, rfl, rfl, rfl, rfl, trivial⟩ ⟨rfl, rfl, rfl, trivial⟩
      · have hc : cntB b' = 0 := (cnt_zero_iff hbl).1 (by simpa using gb)
        rw [if_pos hc, List.append_nil] at hsn
        rw [← hsn]
        refine Cd.over rfl hK6 ?_
        refine Cd.plain [(0, false), (1, false), (2, false)] rfl rfl ?_
        refine Jp.y 17 rfl (want_all rfl) rfl rfl Kp.true (Y.move rfl rfl) ?_
        refine Jp.y 18 rfl (want_all rfl) rfl rfl Kp.true (Y.add_ rfl rfl rfl (by first | exact wrap_i64 (by omega) (by omega) | rfl)) ?_
        refine Jp.y 7 rfl (want_all rfl) rfl rfl Kp.true (Y.assign rfl rfl) ?_
        rw [show (i : Int) + 1 = ((i + 1 : Nat) : Int) by omega]
        refine Jp.again hLa ⟨i + 1, D, d⟩ (by show i + 1 ≤ l.length; omega) (by show l.length - (i + 1) < l.length - i; omega) rfl ⟨rfl, rfl, rfl, rfl, rfl, trivial⟩ ⟨rfl, rfl, rfl, trivial⟩
  · have hil : i = l.length := by have : ¬ i < l.length := by simpa using ga
                                  omega
    rw [hil, List.take_length]
    have hclo := clear_ok hsh a e
    have hcf := sh_few hclo
    refine Cd.exit rfl hK2 ?_
    refine Cd.plain [(0, false), (1, false), (2, false), (3, false), (4, false)] rfl rfl ?_
    refine Jp.y 49 rfl (want_all rfl) rfl rfl Kp.true (Y.move rfl rfl) ?_
    refine Jp.y 50 rfl (want_all rfl) rfl rfl Kp.true (Y.move rfl rfl) ?_
    refine Jp.y 51 rfl (want_all rfl) rfl rfl Kp.true (Y.nilCheck rfl rfl) ?_
    refine Jp.y 52 rfl (want_all rfl) rfl rfl Kp.true (by first | exact Y.fieldAddrP rfl rfl Try.underlying78 rfl Try.sizeOf76 (by decide) (show _ + 1 = _ from rfl) | exact Y.fieldAddr rfl rfl Try.underlying78 rfl Try.sizeOf76 (by decide)) ?_
    refine Jp.store 0 rfl (want_all rfl) rfl rfl Try.sizeOf76 rfl rfl rfl rfl rfl rfl Kp.true ?_
    refine Jp.rsClose (b := b) (l := clearP l a e) 0 2 (by decide) ⟨fun y hy => (hclo.page y hy).len, by omega⟩ rfl rfl ?_
    refine Jp.end [(0, _)] rfl (res0 rfl) ⟨rfl, trivial⟩ ⟨rfl, rfl, rfl⟩
end Go.Proofs.Ytgmhijlcdadaeaa
