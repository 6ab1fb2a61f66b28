import Derived.Test.YtgmhijlcdadaeaaZRsC
set_option linter.unusedVariables false
set_option linter.unusedSimpArgs false
set_option maxRecDepth 100000
namespace Go.Proofs.Ytgmhijlcdadaeaa
open Go
theorem rsOne_spec (b : Nat) (B : Int) (l : List (Nat × Pg)) (hok : ShOk l) (a : Nat) (v : UInt8) (ha : a < 4294967296) : Spec Try.prog 84 #[.pointer (some ⟨b, 0, none⟩), .int .u32 a, .int .u8 (v.toNat : Int)] (fun _ => True) [(0, RsO b B l)]
    (fun ρ ρ' r L => r = .tuple #[] ∧ L = [(0, RsO b B (oneP l a v))]) := by
  refine Spec.of 106 Try.func84 rfl Try.ntmps84 [(0, _), (1, _), (2, _)] rfl rfl ?_
  intro cx ρ hr h0
  obtain ⟨g1, g2, g3⟩ := findN_get l (baseN a)
  have hF := rsFind_spec b B l a ha (fun y hy => (hok.page y hy).lt)
  have hm : a % 256 < 256 := Nat.mod_lt _ (by decide)
  have hv256 := v.toNat_lt
  have hvz : ((v.toNat : Int) == 0) = decide (v = 0) := by
    by_cases h : v = 0
    · simp [h]
    · have : v.toNat ≠ 0 := fun e => h (UInt8.toNat_inj.1 (by simpa using e))
      rw [decide_eq_false h, beq_eq_false_iff_ne]; omega
  obtain ⟨z, hz⟩ : ∃ z : Int, (if findN l (baseN a) < l.length then (findN l (baseN a) : Int) else -1) = z := ⟨_, rfl⟩
  rw [hz] at hF
  have hnone : z < 0 → getPg l (baseN a) = none := fun h => by
    rw [g1, List.getElem?_eq_none]; rfl
    rcases Nat.lt_or_ge (findN l (baseN a)) l.length with h2 | h2
    · rw [if_pos h2] at hz; omega
    · exact h2
  have hsome : ¬ z < 0 → z = findN l (baseN a) ∧ ∃ p, getPg l (baseN a) = some p := fun h => by
    rcases Nat.lt_or_ge (findN l (baseN a)) l.length with h2 | h2
    · rw [if_pos h2] at hz
      refine ⟨hz.symm, ?_⟩
      rw [g1, List.getElem?_eq_getElem h2]
      exact ⟨_, rfl⟩
    · rw [if_neg (by omega)] at hz; omega
  have hret : z < 0 → (v.toNat : Int) = 0 → oneP l a v = l := fun h1 h2 => by
    rw [one_none (hnone h1), if_pos]
    exact UInt8.toNat_inj.1 (by show v.toNat = 0; omega)
  have hzl : z ≤ 16777217 := by
    have := sh_few hok
    by_cases h : z < 0
    · omega
    · have := (hsome h).1; omega
  refine Cd.seq fun K1 hK1 => ?_
  refine Cd.plain [(0, false), (1, false), (2, false), (3, false)] rfl rfl ?_
  refine Jp.y 8 rfl (want_all rfl) rfl rfl Kp.true (Y.move rfl rfl) ?_
  refine Jp.y 9 rfl (want_all rfl) rfl rfl Kp.true (Y.move rfl rfl) ?_
  refine Jp.call [0] [0] hF 10 rfl (want_all rfl) rfl rfl (Runs.fn rfl Try.call87 rfl) (by decide) (by decide) rfl trivial ?_
  rintro v1 ρ1 L1 ⟨rfl, rfl, rfl⟩
  refine ⟨rfl, fun hle1 => ⟨Kp.true, ?_⟩⟩
  refine Jp.y 6 rfl (want_all rfl) rfl rfl Kp.true (Y.assign rfl rfl) ?_
  refine Jp.done hK1 ?_
  refine Cd.seq fun K2 hK2 => ?_
  refine Cd.seq fun K3 hK3 => ?_
  refine Cd.plain [(0, false), (1, false), (2, false), (3, false), (4, false), (5, false)] rfl rfl ?_
  refine Jp.joinK (φ := ¬ (z < 0 ∧ (v.toNat : Int) = 0)) hK2 [(0, _), (1, _), (2, _), (6, _)] ⟨rfl, rfl, rfl, rfl, trivial⟩ [(0, _)] ⟨rfl, trivial⟩ (fun hφ => ?_) (fun hj1 => ?_)
  · refine Cd.rsOpen 0 1 (by decide) rfl fun x hf => ?_
    obtain ⟨A, c⟩ := x
    dsimp only
    refine Cd.seq fun K4 hK4 => ?_
    refine Cd.seq fun K5 hK5 => ?_
    refine Cd.plain [(0, false), (1, false)] rfl rfl ?_
    refine Jp.y 17 rfl (want_all rfl) rfl rfl Kp.true (Y.move rfl rfl) ?_
    refine Jp.y 18 rfl (want_all rfl) rfl rfl Kp.true (Y.lss rfl rfl rfl) ?_
    refine Jp.done hK5 ?_
    refine Cd.joinG (G := List (Nat × Pg) × Nat × Option Addr × Nat) (fun y => OneJ l a v y.1 y.2.1) (fun y => [(6, .int .i64 (y.2.1 : Int))]) [(0, _), (1, _), (2, _)] ⟨rfl, rfl, rfl, trivial⟩ (fun y => [(0, Pt b (rsObj B y.2.2.1 y.1.length y.2.2.2)), (1, OwnS 137 257 y.2.2.1 y.1.length y.2.2.2 (y.1.flatMap lbC))]) [] trivial hK4 (fun g hφ => ?_) (fun hj2 => ?_)
    · obtain ⟨l1, i, A1, c1'⟩ := g
      obtain ⟨j1, j2, ⟨q, j3, j3b⟩, j4, j5⟩ := hφ
      dsimp only at j1 j2 j3 j3b j4 j5 ⊢
      have hi : i < l1.length := (List.getElem?_eq_some_iff.1 j3).1
      have hrows : ∀ y ∈ l1, (lbC y).length = 257 := fun y hy => lbC_len (j2 y hy)
      obtain ⟨k, hk⟩ : ∃ k, baseN a = k := ⟨_, rfl⟩
      obtain ⟨b', hb'⟩ : ∃ x, (bOf l (baseN a)).set (a % 256) v = x := ⟨_, rfl⟩
      have hbl : b'.length = 256 := by rw [← hb', List.length_set]; exact bOf_len hok _
      rw [hb'] at j4 j5
      obtain ⟨l2, hl2⟩ : ∃ l2, l1.set i (baseN a, pgB b') = l2 := ⟨_, rfl⟩
      rw [hl2] at j4
      have hl2l : l2.length = l1.length := by rw [← hl2, List.length_set]
      have hset : (l1.flatMap lbC).set (i * 257 + (1 + a % 256)) (.int .u8 (v.toNat : Int)) = l2.flatMap lbC := by
        rw [← hl2]
        refine rs_set hrows j3 (by omega) ?_
        rw [lbC_set j3b, hb']
      have hl2i : l2[i]? = some (baseN a, pgB b') := by rw [← hl2]; exact List.getElem?_set_self hi
      have h2 : ∀ y ∈ l2, y.2.b.length = 256 := fun y hy => by
        rw [← hl2] at hy
        rcases List.mem_or_eq_of_mem_set hy with h | h
        · exact j2 y h
        · rw [h]; exact hbl
      have hrows2 : ∀ y ∈ l2, (lbC y).length = 257 := fun y hy => lbC_len (h2 y hy)
      refine Cd.ownAt 1 rfl (show 0 < l1.length by omega) ?_
      rintro b1 rfl
      refine Cd.seq fun K6 hK6 => ?_
      refine Cd.plain [(0, false), (1, false), (2, false), (3, false), (4, false), (5, false), (6, false), (7, false), (8, false), (9, false), (10, false), (11, false)] rfl rfl ?_
      refine Jp.y 66 rfl (want_all rfl) rfl rfl Kp.true (Y.move rfl rfl) ?_
      refine Jp.y 67 rfl (want_all rfl) rfl rfl Kp.true (Y.nilCheck rfl rfl) ?_
      refine Jp.y 68 rfl (want_all rfl) rfl rfl Kp.true (by first | exact Y.fieldAddrP rfl rfl Try.underlying78 rfl Try.sizeOf76 (by decide) (show _ + 1 = _ from rfl) | exact Y.fieldAddr rfl rfl Try.underlying78 rfl Try.sizeOf76 (by decide)) ?_
      refine Jp.y 69 rfl (want_all rfl) rfl rfl Kp.true (Y.loadO 0 rfl Try.isAgg76 rfl rfl rfl) ?_
      refine Jp.y 70 rfl (want_all rfl) rfl rfl Kp.true (Y.move rfl rfl) ?_
      refine Jp.y 71 rfl (want_all rfl) rfl rfl Kp.true (Y.move rfl rfl) ?_
      refine Jp.y 72 rfl (want_all rfl) rfl rfl Kp.true (by first | exact Y.remN rfl rfl rfl (by omega) (by omega) | exact Y.rem rfl rfl rfl (by first | decide | omega)) ?_
      refine Jp.y 73 rfl (want_all rfl) rfl rfl Kp.true (Y.move rfl rfl) ?_
      refine Jp.y 74 rfl (want_all rfl) rfl rfl Kp.true (Y.indexAddr (q := i * 257) rfl rfl rfl Try.underlying76 Try.sizeOf137 (by omega) (by omega) (by omega)) ?_
      refine Jp.slot 74 rfl (show _ = Value.pointer (some ⟨b1, i * 257, none⟩) by rw [add_mk, Nat.zero_add]) ?_
      refine Jp.slot 72 rfl (show _ = Value.int .u32 ((a % 256 : Nat) : Int) from congrArg (Value.int .u32) (by omega)) ?_
      refine Jp.y 75 rfl (want_all rfl) rfl rfl Kp.true (by first | exact Y.fieldAddrP rfl rfl Try.underlying137 rfl Try.sizeOf106 (by decide) (show _ + 1 = _ from rfl) | exact Y.fieldAddr rfl rfl Try.underlying137 rfl Try.sizeOf106 (by decide)) ?_
      refine Jp.y 76 rfl (want_all rfl) rfl rfl Kp.true (Y.indexArrP (q := i * 257 + (1 + a % 256)) rfl rfl rfl Try.underlying106 Try.sizeOf5 (by omega) (by omega) (by omega)) ?_
      refine Jp.storeS 1 (q := i * 257 + (1 + a % 256)) rfl (want_all rfl) rfl rfl Try.sizeOf5 rfl rfl rfl rfl (by rw [add_mk, Nat.zero_add]) (by omega) (l2.flatMap lbC) hset Kp.true ?_
      rw [← hl2l] at hi j1 ⊢
      refine Jp.done hK6 ?_
      refine Cd.seq fun K7 hK7 => ?_
      refine Cd.plain [(0, false), (1, false), (2, false), (3, false), (4, false), (5, false), (6, false), (7, false), (8, false), (9, false)] rfl rfl ?_
      refine Jp.y 77 rfl (want_all rfl) rfl rfl Kp.true (Y.move rfl rfl) ?_
      refine Jp.y 78 rfl (want_all rfl) rfl rfl Kp.true (Y.nilCheck rfl rfl) ?_
      refine Jp.y 79 rfl (want_all rfl) rfl rfl Kp.true (by first | exact Y.fieldAddrP rfl rfl Try.underlying78 rfl Try.sizeOf76 (by decide) (show _ + 1 = _ from rfl) | exact Y.fieldAddr rfl rfl Try.underlying78 rfl Try.sizeOf76 (by decide)) ?_
      refine Jp.y 80 rfl (want_all rfl) rfl rfl Kp.true (Y.loadO 0 rfl Try.isAgg76 rfl rfl rfl) ?_
      refine Jp.y 81 rfl (want_all rfl) rfl rfl Kp.true (Y.move rfl rfl) ?_
      refine Jp.y 82 rfl (want_all rfl) rfl rfl Kp.true (Y.indexAddr (q := i * 257) rfl rfl rfl Try.underlying76 Try.sizeOf137 (by omega) (by omega) (by omega)) ?_
      refine Jp.slot 82 rfl (show _ = Value.pointer (some ⟨b1, i * 257, none⟩) by rw [add_mk, Nat.zero_add]) ?_
      refine Jp.y 83 rfl (want_all rfl) rfl rfl Kp.true (by first | exact Y.fieldAddrP rfl rfl Try.underlying137 rfl Try.sizeOf106 (by decide) (show _ + 1 = _ from rfl) | exact Y.fieldAddr rfl rfl Try.underlying137 rfl Try.sizeOf106 (by decide)) ?_
      refine Jp.y 84 rfl (want_all rfl) rfl rfl Kp.true (Y.loadSAgg 1 (q := i * 257 + 1) (bytesV b') rfl Try.isAgg106 Try.sizeOf106 rfl rfl (by rw [add_mk, Nat.zero_add]) (by rw [bytesV, List.length_map]; exact hbl) (fun p x hx => by rw [show i * 257 + 1 + p = i * 257 + (p + 1) by omega]; exact rs_get hrows2 hl2i (by rw [lbC, List.getElem?_cons_succ]; exact hx))) ?_
      refine Jp.y 85 rfl (want_all rfl) rfl rfl Kp.true (Y.array [] (bytesV zeroB) rfl rfl Try.underlying106 Try.sizeOf5 Try.zeroValue106 rfl) ?_
      refine Jp.y 86 rfl (want_all rfl) rfl rfl Kp.true (Y.eqlV (xs := (bytesV b').toArray) (ys := (bytesV zeroB).toArray) (r := decide (b' = zeroB)) rfl rfl rfl lb_guard (lb_eq hbl zeroB_len)) ?_
      refine Jp.done hK7 ?_
      refine Cd.cond rfl (fun ge => ?_) (fun ge => ?_)
      · have hc := (cnt_zero_iff hbl).1 (by simpa using ge)
        have hfin := j5 hc
        have htd : l2.take i ++ l2.drop (i + 1) = oneP l a v := by
          rw [← hfin, ← hl2, List.take_set_of_le (Nat.le_refl i), List.drop_set_of_lt (by omega)]
        have hno := one_ok hok ha v
        have hfew := sh_few hno
        refine Cd.freeze (i := 1) rfl (OwnS.up _ _ _ _ _ _) fun ρ7 hle7 hA7 => ?_
        have hR1 := hA7.rd.take (l := i) (by omega)
        obtain ⟨i1, hi1⟩ : ∃ i1, i1 = i + 1 := ⟨_, rfl⟩
        rw [← hi1] at htd
        have hR2 := hA7.rd.drop (lo := i1) (by omega)
        rw [rs_take i hrows2] at hR1
        rw [rs_drop i1 hrows2] at hR2
        have hlenf : i + (l2.length - i1) = (oneP l a v).length := by
          rw [← htd, List.length_append, List.length_take, List.length_drop]; omega
        have hroomc := hA7.rd.2.1.1
        refine Cd.drawn [(0, _)] ⟨rfl, trivial⟩ [(0, true), (2, true), (3, true), (4, true), (5, true), (6, true), (7, true), (9, true), (10, true), (11, true), (12, true), (13, true), (14, true), (15, true), (1, false), (8, false), (16, false), (17, true), (18, true), (19, false)] follows (by kernel_rfl) (fun hrl => ?_)
        refine Jp.q 87 rfl (want_all rfl) rfl rfl (Y.move rfl rfl) ?_
        refine Jp.q 89 rfl (want_all rfl) rfl rfl (Y.move rfl rfl) ?_
        refine Jp.q 90 rfl (want_all rfl) rfl rfl (Y.nilCheck rfl rfl) ?_
        refine Jp.q 91 rfl (want_all rfl) rfl rfl (by first | exact Y.fieldAddrP rfl rfl Try.underlying78 rfl Try.sizeOf76 (by decide) (show _ + 1 = _ from rfl) | exact Y.fieldAddr rfl rfl Try.underlying78 rfl Try.sizeOf76 (by decide)) ?_
        refine Jp.q 92 rfl (want_all rfl) rfl rfl (Y.loadO 0 rfl Try.isAgg76 rfl rfl rfl) ?_
        refine Jp.q 93 rfl (want_all rfl) rfl rfl (Y.move rfl rfl) ?_
        refine Jp.q 94 rfl (want_all rfl) rfl rfl (Y.sliceTo (hi := i) rfl rfl rfl Try.underlying76 Try.sizeOf137 (by omega) (by omega)) ?_
        refine Jp.q 96 rfl (want_all rfl) rfl rfl (Y.move rfl rfl) ?_
        refine Jp.q 97 rfl (want_all rfl) rfl rfl (Y.nilCheck rfl rfl) ?_
        refine Jp.q 98 rfl (want_all rfl) rfl rfl (by first | exact Y.fieldAddrP rfl rfl Try.underlying78 rfl Try.sizeOf76 (by decide) (show _ + 1 = _ from rfl) | exact Y.fieldAddr rfl rfl Try.underlying78 rfl Try.sizeOf76 (by decide)) ?_
        refine Jp.q 99 rfl (want_all rfl) rfl rfl (Y.loadO 0 rfl Try.isAgg76 rfl rfl rfl) ?_
        refine Jp.q 100 rfl (want_all rfl) rfl rfl (Y.move rfl rfl) ?_
        refine Jp.q 101 rfl (want_all rfl) rfl rfl (Y.add_ rfl rfl rfl (by first | exact wrap_i64 (by omega) (by omega) | rfl)) ?_
        refine Jp.slot 101 rfl (show _ = Value.int .i64 (i1 : Int) from congrArg (Value.int .i64) (by omega)) ?_
        refine Jp.q 102 rfl (want_all rfl) rfl rfl (Y.sliceFrom (lo := i1) rfl rfl rfl Try.underlying76 Try.sizeOf137 (by omega) (by omega)) ?_
        refine Jp.lit 88 2 [] [] rfl (want_all rfl) rfl rfl rfl rfl Try.underlying76 Try.sizeOf137 Try.zeroValue137 rfl rfl rfl rfl rfl fun b2 => ⟨(Kp.st ⟨rfl, trivial⟩), ?_⟩
        refine Jp.append 95 2 rfl (want_all rfl) rfl rfl rfl Try.underlying76 Try.underlying76 (.inl ⟨_, rfl⟩) Try.sizeOf137 Try.typeInfo137 Try.zeroValue137 rfl (by decide) rfl rfl rfl (Src.rd hR1) lbs_one (i) (((l2.take i).flatMap lbC)) (by first | omega | simp) (by simp) (by simp only [Try.t137]; omega) fun A8 c8 => ⟨(Kp.st ⟨rfl, trivial⟩), ?_⟩
        refine Jp.append 103 2 rfl (want_all rfl) rfl rfl rfl Try.underlying76 Try.underlying76 (.inl ⟨_, rfl⟩) Try.sizeOf137 Try.typeInfo137 Try.zeroValue137 rfl (by decide) rfl rfl rfl (Src.rd hR2) lbs_one ((oneP l a v).length) (((oneP l a v).flatMap lbC)) (by first | omega | simp) (by rw [← htd, List.flatMap_append]) (by simp only [Try.t137]; omega) fun A9 c9 => ⟨(Kp.st ⟨rfl, trivial⟩), ?_⟩
        refine Jp.q 104 rfl (want_all rfl) rfl rfl (Y.nilCheck rfl rfl) ?_
        refine Jp.q 105 rfl (want_all rfl) rfl rfl (by first | exact Y.fieldAddrP rfl rfl Try.underlying78 rfl Try.sizeOf76 (by decide) (show _ + 1 = _ from rfl) | exact Y.fieldAddr rfl rfl Try.underlying78 rfl Try.sizeOf76 (by decide)) ?_
        first | refine Jp.store 0 rfl (want_all rfl) rfl rfl Try.sizeOf76 rfl rfl rfl rfl rfl rfl Kp.last ?_ | refine Jp.store 2 rfl (want_all rfl) rfl rfl Try.sizeOf76 rfl rfl rfl rfl rfl rfl Kp.last ?_
        refine Jp.rsClose (b := b) (l := oneP l a v) (A := A9) (c := c9) 0 2 (by decide) ⟨fun y hy => (hno.page y hy).len, by omega⟩ rfl rfl ?_
        refine Jp.end [(0, _)] rfl (res0 rfl) ⟨rfl, trivial⟩ ⟨rfl, rfl⟩
      · have hc : cntB b' ≠ 0 := fun h => by
          have := (cnt_zero_iff hbl).2 h
          simp at ge
          exact ge this
        have hfin := j4 hc
        refine Cd.rsClose (b := b) (l := l2) 0 1 (by decide) ⟨h2, j1⟩ rfl rfl ?_
        rw [hfin]
        refine Cd.end [(0, _)] rfl (res0 rfl) ⟨rfl, trivial⟩ ⟨rfl, rfl⟩
    · skip
      refine Cd.cond rfl (fun gz => ?_) (fun gz => ?_)
      · have hzn : z < 0 := by simpa using gz
        have hg := hnone hzn
        have hv : v ≠ 0 := fun e => hφ ⟨hzn, by rw [e]; rfl⟩
        have hJ := OneJ.none hok hg hv
        obtain ⟨p, hp⟩ : ∃ p, posA l a = p := ⟨_, rfl⟩
        have hpl := posA_le l a
        have hstep := fun i (hi : i ≤ posA l a) => posA_step (l := l) (a := a) (i := i) hi
        rw [hp] at hJ hpl hstep
        have hfew := sh_few hok
        have hrows : ∀ y ∈ l, (lbC y).length = 257 := fun y hy => lbC_len (hf.1 y hy)
        have hlt : ∀ y ∈ l, y.1 < 4294967296 := fun y hy => (hok.page y hy).lt
        refine Cd.seq fun K9 hK9 => ?_
        refine Cd.plain [(0, false)] rfl rfl ?_
        refine Jp.y 7 rfl (want_all rfl) rfl rfl Kp.true (Y.assign rfl rfl) ?_
        refine Jp.done hK9 ?_
        refine Cd.seq fun K10 hK10 => ?_
        refine Cd.block ?_
        refine Cd.joinG (G := Unit) (fun _ => True) (fun _ => [(7, .int .i64 (p : Int))]) [(0, _), (1, _), (2, _)] ⟨rfl, rfl, rfl, trivial⟩ (fun _ => []) [(0, _), (1, _)] ⟨rfl, rfl, trivial⟩ hK10 (fun g hφ => ?_) (fun hj3 => ?_)
        · clear hφ
          refine Cd.freeze (i := 1) rfl (OwnS.up _ _ _ _ _ _) fun ρ7 hle7 hA7 => ?_
          have hR1 := hA7.rd.take (l := p) hpl
          have hR2 := hA7.rd.drop (lo := p) hpl
          rw [rs_take p hrows] at hR1
          rw [rs_drop p hrows] at hR2
          have hroomc := hA7.rd.2.1.1
          obtain ⟨k, hk⟩ : ∃ k, baseN a = k := ⟨_, rfl⟩
          rw [hk] at hJ
          obtain ⟨l1, hl1⟩ : ∃ l1, l.take p ++ (k, zPg) :: l.drop p = l1 := ⟨_, rfl⟩
          rw [hl1] at hJ
          have hl1l : l1.length = p + 1 + (l.length - p) := by
            rw [← hl1, List.length_append, List.length_cons, List.length_take, List.length_drop]; omega
          have hm1 : (l.take p).flatMap lbC ++ lbC (k, zPg) = (l.take p ++ [(k, zPg)]).flatMap lbC := by
            rw [List.flatMap_append]; simp
          have hm2 : (l.take p ++ [(k, zPg)]).flatMap lbC ++ (l.drop p).flatMap lbC = l1.flatMap lbC := by
            rw [← hl1, ← List.flatMap_append, List.append_assoc]; rfl
          have hzc : (lbC (k, zPg)).length = 257 := lbC_len zeroB_len
          have hone1 : (lbC (k, zPg)).all one = true := by
            have := lbs_one (l := [(k, (zPg : Pg))])
            simpa using this
          refine Cd.seq fun K11 hK11 => ?_
          refine Cd.drawnT [(0, _)] ⟨rfl, trivial⟩ 25 (.q 0 (.q 2 (.q 3 (.q 4 (.q 5 (.q 6 (.q 7 (.q 9 (.q 10 (.q 11 (.q 12 (.q 13 (.q 16 (.q 17 (.q 18 (.q 19 (.q 20 (.q 21 (.f 1 (.f 8 (.l 14 (.l 15 (.l 22 (.q 23 (.q 24 (.l 25 .nil)))))) 14 (.l 8 (.l 15 (.l 22 (.q 23 (.q 24 (.l 25 .nil))))))) 14 (.l 1 (.l 8 (.l 15 (.l 22 (.q 23 (.q 24 (.l 25 .nil)))))))))))))))))))))))))) follows (by kernel_rfl) (fun hrl => ?_)
          refine JT.q 40 rfl (want_all rfl) rfl rfl (Y.move rfl rfl) ?_
          refine JT.q 42 rfl (want_all rfl) rfl rfl (Y.move rfl rfl) ?_
          refine JT.q 43 rfl (want_all rfl) rfl rfl (Y.nilCheck rfl rfl) ?_
          refine JT.q 44 rfl (want_all rfl) rfl rfl (by first | exact Y.fieldAddrP rfl rfl Try.underlying78 rfl Try.sizeOf76 (by decide) (show _ + 1 = _ from rfl) | exact Y.fieldAddr rfl rfl Try.underlying78 rfl Try.sizeOf76 (by decide)) ?_
          refine JT.q 45 rfl (want_all rfl) rfl rfl (Y.loadO 0 rfl Try.isAgg76 rfl rfl rfl) ?_
          refine JT.q 46 rfl (want_all rfl) rfl rfl (Y.move rfl rfl) ?_
          refine JT.q 47 rfl (want_all rfl) rfl rfl (Y.sliceTo (hi := p) rfl rfl rfl Try.underlying76 Try.sizeOf137 (by omega) (by omega)) ?_
          refine JT.q 49 rfl (want_all rfl) rfl rfl (Y.move rfl rfl) ?_
          refine JT.q 50 rfl (want_all rfl) rfl rfl (Y.move rfl rfl) ?_
          refine JT.q 51 rfl (want_all rfl) rfl rfl (by first | exact Y.remN rfl rfl rfl (by omega) (by omega) | exact Y.rem rfl rfl rfl (by first | decide | omega)) ?_
          refine JT.q 52 rfl (want_all rfl) rfl rfl (Y.sub_ rfl rfl rfl (by first | exact wrap_u32 (by omega) (by omega) | rfl)) ?_
          refine JT.slot 52 rfl (show _ = Value.int .u32 (k : Int) from congrArg (Value.int .u32) (by rw [← hk]; unfold baseN; omega)) ?_
          refine JT.q 53 rfl (want_all rfl) rfl rfl (Y.struct [(0, _)] (lbC (k, zPg)) rfl rfl places137 Try.zeroValue137 rfl) ?_
          refine JT.q 56 rfl (want_all rfl) rfl rfl (Y.move rfl rfl) ?_
          refine JT.q 57 rfl (want_all rfl) rfl rfl (Y.nilCheck rfl rfl) ?_
          refine JT.q 58 rfl (want_all rfl) rfl rfl (by first | exact Y.fieldAddrP rfl rfl Try.underlying78 rfl Try.sizeOf76 (by decide) (show _ + 1 = _ from rfl) | exact Y.fieldAddr rfl rfl Try.underlying78 rfl Try.sizeOf76 (by decide)) ?_
          refine JT.q 59 rfl (want_all rfl) rfl rfl (Y.loadO 0 rfl Try.isAgg76 rfl rfl rfl) ?_
          refine JT.q 60 rfl (want_all rfl) rfl rfl (Y.move rfl rfl) ?_
          refine JT.q 61 rfl (want_all rfl) rfl rfl (Y.sliceFrom (lo := p) rfl rfl rfl Try.underlying76 Try.sizeOf137 (by omega) (by omega)) ?_
          refine JT.fork ?_ ?_
          · skip
            refine JT.loud ?_
            refine Jp.lit 41 2 [] [] rfl (want_all rfl) rfl rfl rfl rfl Try.underlying76 Try.sizeOf137 Try.zeroValue137 rfl rfl rfl rfl rfl fun b2 => ⟨Kp.true, ?_⟩
            refine JT.tail (KT.st ⟨rfl, trivial⟩) ?_
            refine JT.fork ?_ ?_
            · skip
              refine JT.loud ?_
              refine Jp.append 48 2 rfl (want_all rfl) rfl rfl rfl Try.underlying76 Try.underlying76 (.inl ⟨_, rfl⟩) Try.sizeOf137 Try.typeInfo137 Try.zeroValue137 rfl (by decide) rfl rfl rfl (Src.rd hR1) lbs_one (p) (((l.take p).flatMap lbC)) (by first | omega | simp) (by simp) (by simp only [Try.t137]; omega) fun A8 c8 => ⟨Kp.true, ?_⟩
              refine JT.tail (KT.st ⟨rfl, trivial⟩) ?_
              refine JT.loud ?_
              refine Jp.lit 54 3 [(0, _)] (lbC (k, zPg)) rfl (want_all rfl) rfl rfl rfl rfl Try.underlying76 Try.sizeOf137 Try.zeroValue137 rfl rfl (fill_one hzc) hzc rfl fun b3 => ⟨Kp.true, ?_⟩
              refine JT.tail (KT.st ⟨rfl, trivial⟩) ?_
              refine JT.loud ?_
              refine Jp.append 55 2 rfl (want_all rfl) rfl rfl rfl Try.underlying76 Try.underlying76 (.inl ⟨_, rfl⟩) Try.sizeOf137 Try.typeInfo137 Try.zeroValue137 rfl (by decide) rfl rfl rfl (Src.own 3 rfl) hone1 ((p + 1)) (((l.take p ++ [(k, zPg)]).flatMap lbC)) (by first | omega | simp) hm1 (by simp only [Try.t137]; omega) fun A9 c9 => ⟨Kp.true, ?_⟩
              refine JT.tail (KT.st ⟨rfl, trivial⟩) ?_
              refine JT.loud ?_
              refine Jp.append 62 2 rfl (want_all rfl) rfl rfl rfl Try.underlying76 Try.underlying76 (.inl ⟨_, rfl⟩) Try.sizeOf137 Try.typeInfo137 Try.zeroValue137 rfl (by decide) rfl rfl rfl (Src.rd hR2) lbs_one (l1.length) ((l1.flatMap lbC)) (by first | omega | simp) hm2 (by simp only [Try.t137]; omega) fun A10 c10 => ⟨Kp.true, ?_⟩
              refine JT.tail (KT.st ⟨rfl, trivial⟩) ?_
              refine JT.q 63 rfl (want_all rfl) rfl rfl (Y.nilCheck rfl rfl) ?_
              refine JT.q 64 rfl (want_all rfl) rfl rfl (by first | exact Y.fieldAddrP rfl rfl Try.underlying78 rfl Try.sizeOf76 (by decide) (show _ + 1 = _ from rfl) | exact Y.fieldAddr rfl rfl Try.underlying78 rfl Try.sizeOf76 (by decide)) ?_
              refine JT.loud ?_
              refine Jp.store 0 rfl (want_all rfl) rfl rfl Try.sizeOf76 rfl rfl rfl rfl rfl rfl Kp.true ?_
              refine JT.tail KT.last ?_
              refine JT.nil ?_
              refine Jp.done hK11 ?_
              refine Cd.plain [(0, false), (1, false)] rfl rfl ?_
              refine Jp.y 65 rfl (want_all rfl) rfl rfl Kp.true (Y.move rfl rfl) ?_
              refine Jp.y 6 rfl (want_all rfl) rfl rfl Kp.true (Y.assign rfl rfl) ?_
              refine Jp.done hK4 ?_
              refine Cd.move 1 2 (by decide) rfl rfl (OwnS.up _ _ _ _ _ _) ?_
              exact Cd.meet' (hj2 ⟨l1, p, A10, c10⟩ hJ) hle7 (by rw [h0]; exact Hp.le_refl _) ⟨rfl, rfl, rfl, rfl, trivial⟩ ⟨rfl, rfl, trivial⟩
            · skip
              refine JT.loud ?_
              refine Jp.lit 54 3 [(0, _)] (lbC (k, zPg)) rfl (want_all rfl) rfl rfl rfl rfl Try.underlying76 Try.sizeOf137 Try.zeroValue137 rfl rfl (fill_one hzc) hzc rfl fun b3 => ⟨Kp.true, ?_⟩
              refine JT.tail (KT.st ⟨rfl, trivial⟩) ?_
              refine JT.loud ?_
              refine Jp.append 48 2 rfl (want_all rfl) rfl rfl rfl Try.underlying76 Try.underlying76 (.inl ⟨_, rfl⟩) Try.sizeOf137 Try.typeInfo137 Try.zeroValue137 rfl (by decide) rfl rfl rfl (Src.rd hR1) lbs_one (p) (((l.take p).flatMap lbC)) (by first | omega | simp) (by simp) (by simp only [Try.t137]; omega) fun A8 c8 => ⟨Kp.true, ?_⟩
              refine JT.tail (KT.st ⟨rfl, trivial⟩) ?_
              refine JT.loud ?_
              refine Jp.append 55 2 rfl (want_all rfl) rfl rfl rfl Try.underlying76 Try.underlying76 (.inl ⟨_, rfl⟩) Try.sizeOf137 Try.typeInfo137 Try.zeroValue137 rfl (by decide) rfl rfl rfl (Src.own 3 rfl) hone1 ((p + 1)) (((l.take p ++ [(k, zPg)]).flatMap lbC)) (by first | omega | simp) hm1 (by simp only [Try.t137]; omega) fun A9 c9 => ⟨Kp.true, ?_⟩
              refine JT.tail (KT.st ⟨rfl, trivial⟩) ?_
              refine JT.loud ?_
              refine Jp.append 62 2 rfl (want_all rfl) rfl rfl rfl Try.underlying76 Try.underlying76 (.inl ⟨_, rfl⟩) Try.sizeOf137 Try.typeInfo137 Try.zeroValue137 rfl (by decide) rfl rfl rfl (Src.rd hR2) lbs_one (l1.length) ((l1.flatMap lbC)) (by first | omega | simp) hm2 (by simp only [Try.t137]; omega) fun A10 c10 => ⟨Kp.true, ?_⟩
              refine JT.tail (KT.st ⟨rfl, trivial⟩) ?_
              refine JT.q 63 rfl (want_all rfl) rfl rfl (Y.nilCheck rfl rfl) ?_
              refine JT.q 64 rfl (want_all rfl) rfl rfl (by first | exact Y.fieldAddrP rfl rfl Try.underlying78 rfl Try.sizeOf76 (by decide) (show _ + 1 = _ from rfl) | exact Y.fieldAddr rfl rfl Try.underlying78 rfl Try.sizeOf76 (by decide)) ?_
              refine JT.loud ?_
              refine Jp.store 0 rfl (want_all rfl) rfl rfl Try.sizeOf76 rfl rfl rfl rfl rfl rfl Kp.true ?_
              refine JT.tail KT.last ?_
              refine JT.nil ?_
              refine Jp.done hK11 ?_
              refine Cd.plain [(0, false), (1, false)] rfl rfl ?_
              refine Jp.y 65 rfl (want_all rfl) rfl rfl Kp.true (Y.move rfl rfl) ?_
              refine Jp.y 6 rfl (want_all rfl) rfl rfl Kp.true (Y.assign rfl rfl) ?_
              refine Jp.done hK4 ?_
              refine Cd.move 1 2 (by decide) rfl rfl (OwnS.up _ _ _ _ _ _) ?_
              exact Cd.meet' (hj2 ⟨l1, p, A10, c10⟩ hJ) hle7 (by rw [h0]; exact Hp.le_refl _) ⟨rfl, rfl, rfl, rfl, trivial⟩ ⟨rfl, rfl, trivial⟩
          · skip
            refine JT.loud ?_
            refine Jp.lit 54 3 [(0, _)] (lbC (k, zPg)) rfl (want_all rfl) rfl rfl rfl rfl Try.underlying76 Try.sizeOf137 Try.zeroValue137 rfl rfl (fill_one hzc) hzc rfl fun b3 => ⟨Kp.true, ?_⟩
            refine JT.tail (KT.st ⟨rfl, trivial⟩) ?_
            refine JT.loud ?_
            refine Jp.lit 41 2 [] [] rfl (want_all rfl) rfl rfl rfl rfl Try.underlying76 Try.sizeOf137 Try.zeroValue137 rfl rfl rfl rfl rfl fun b2 => ⟨Kp.true, ?_⟩
            refine JT.tail (KT.st ⟨rfl, trivial⟩) ?_
            refine JT.loud ?_
            refine Jp.append 48 2 rfl (want_all rfl) rfl rfl rfl Try.underlying76 Try.underlying76 (.inl ⟨_, rfl⟩) Try.sizeOf137 Try.typeInfo137 Try.zeroValue137 rfl (by decide) rfl rfl rfl (Src.rd hR1) lbs_one (p) (((l.take p).flatMap lbC)) (by first | omega | simp) (by simp) (by simp only [Try.t137]; omega) fun A8 c8 => ⟨Kp.true, ?_⟩
            refine JT.tail (KT.st ⟨rfl, trivial⟩) ?_
            refine JT.loud ?_
            refine Jp.append 55 2 rfl (want_all rfl) rfl rfl rfl Try.underlying76 Try.underlying76 (.inl ⟨_, rfl⟩) Try.sizeOf137 Try.typeInfo137 Try.zeroValue137 rfl (by decide) rfl rfl rfl (Src.own 3 rfl) hone1 ((p + 1)) (((l.take p ++ [(k, zPg)]).flatMap lbC)) (by first | omega | simp) hm1 (by simp only [Try.t137]; omega) fun A9 c9 => ⟨Kp.true, ?_⟩
            refine JT.tail (KT.st ⟨rfl, trivial⟩) ?_
            refine JT.loud ?_
            refine Jp.append 62 2 rfl (want_all rfl) rfl rfl rfl Try.underlying76 Try.underlying76 (.inl ⟨_, rfl⟩) Try.sizeOf137 Try.typeInfo137 Try.zeroValue137 rfl (by decide) rfl rfl rfl (Src.rd hR2) lbs_one (l1.length) ((l1.flatMap lbC)) (by first | omega | simp) hm2 (by simp only [Try.t137]; omega) fun A10 c10 => ⟨Kp.true, ?_⟩
            refine JT.tail (KT.st ⟨rfl, trivial⟩) ?_
            refine JT.q 63 rfl (want_all rfl) rfl rfl (Y.nilCheck rfl rfl) ?_
            refine JT.q 64 rfl (want_all rfl) rfl rfl (by first | exact Y.fieldAddrP rfl rfl Try.underlying78 rfl Try.sizeOf76 (by decide) (show _ + 1 = _ from rfl) | exact Y.fieldAddr rfl rfl Try.underlying78 rfl Try.sizeOf76 (by decide)) ?_
            refine JT.loud ?_
            refine Jp.store 0 rfl (want_all rfl) rfl rfl Try.sizeOf76 rfl rfl rfl rfl rfl rfl Kp.true ?_
            refine JT.tail KT.last ?_
            refine JT.nil ?_
            refine Jp.done hK11 ?_
            refine Cd.plain [(0, false), (1, false)] rfl rfl ?_
            refine Jp.y 65 rfl (want_all rfl) rfl rfl Kp.true (Y.move rfl rfl) ?_
            refine Jp.y 6 rfl (want_all rfl) rfl rfl Kp.true (Y.assign rfl rfl) ?_
            refine Jp.done hK4 ?_
            refine Cd.move 1 2 (by decide) rfl rfl (OwnS.up _ _ _ _ _ _) ?_
            exact Cd.meet' (hj2 ⟨l1, p, A10, c10⟩ hJ) hle7 (by rw [h0]; exact Hp.le_refl _) ⟨rfl, rfl, rfl, rfl, trivial⟩ ⟨rfl, rfl, trivial⟩
        · skip
          refine Cd.loopK (G := Nat) (fun i => i ≤ p) (fun i => p - i) (fun _ => _) (fun i => [(7, .int .i64 (i : Int))]) [(0, _), (1, _), (2, _)] (fun i => []) [(0, _), (1, _)] 0 (Nat.zero_le _) rfl ⟨rfl, trivial⟩ ⟨rfl, rfl, rfl, trivial⟩ trivial ⟨rfl, rfl, trivial⟩ (fun g KLa hok hLa => ?_)
          obtain ⟨i, hi⟩ : ∃ i, i = g := ⟨_, rfl⟩
          rw [← hi] at hok ⊢
          have hst := hstep i hok
          refine Cd.seq fun K12 hK12 => ?_
          refine Cd.seq fun K13 hK13 => ?_
          refine Cd.plain [(0, false), (1, false), (2, false), (3, false), (4, false), (5, false), (6, false), (7, false), (8, false), (9, false), (10, false), (11, false), (12, false), (13, false), (14, false), (15, false), (16, false), (17, false), (18, false)] rfl rfl ?_
          refine Jp.y 19 rfl (want_all rfl) rfl rfl Kp.true (Y.move rfl rfl) ?_
          refine Jp.y 20 rfl (want_all rfl) rfl rfl Kp.true (Y.move rfl rfl) ?_
          refine Jp.y 21 rfl (want_all rfl) rfl rfl Kp.true (Y.nilCheck rfl rfl) ?_
          refine Jp.y 22 rfl (want_all rfl) rfl rfl Kp.true (by first | exact Y.fieldAddrP rfl rfl Try.underlying78 rfl Try.sizeOf76 (by decide) (show _ + 1 = _ from rfl) | exact Y.fieldAddr rfl rfl Try.underlying78 rfl Try.sizeOf76 (by decide)) ?_
          refine Jp.y 23 rfl (want_all rfl) rfl rfl Kp.true (Y.loadO 0 rfl Try.isAgg76 rfl rfl rfl) ?_
          refine Jp.y 24 rfl (want_all rfl) rfl rfl Kp.true (Y.lenslice rfl Try.underlying76 rfl) ?_
          refine Jp.y 25 rfl (want_all rfl) rfl rfl Kp.true (Y.lss rfl rfl rfl) ?_
          by_cases hil : i < l.length
          · have hx : l[i]? = some l[i] := List.getElem?_eq_getElem hil
            obtain ⟨y, hy⟩ : ∃ y, y = l[i] := ⟨_, rfl⟩
            rw [← hy] at hx
            have hst := hst y hx
            have hyl := hlt y (List.mem_of_getElem? hx)
            refine Jp.ownAt 1 rfl (show 0 < l.length by omega) ?_
            rintro b1 rfl
            have c0 := OwnS.hasC (e := 137) (m := 257) (k := l.length) (c := c) (ad := ⟨b1, 0, none⟩) (rs_get hrows hx (lbC_base y))
            refine Jp.slot 25 rfl (show _ = Value.bool true from congrArg Value.bool (decide_eq_true (by omega))) ?_
            refine Jp.y 26 rfl (want_all rfl) rfl rfl Kp.true (Y.move rfl rfl) ?_
            refine Jp.slot 26 rfl (show _ = Value.bool true from rfl) ?_
            refine Jp.y 27 rfl (want_as rfl rfl rfl rfl) rfl rfl Kp.true (Y.move rfl rfl) ?_
            refine Jp.y 28 rfl (want_as rfl rfl rfl rfl) rfl rfl Kp.true (Y.nilCheck rfl rfl) ?_
            refine Jp.y 29 rfl (want_as rfl rfl rfl rfl) rfl rfl Kp.true (by first | exact Y.fieldAddrP rfl rfl Try.underlying78 rfl Try.sizeOf76 (by decide) (show _ + 1 = _ from rfl) | exact Y.fieldAddr rfl rfl Try.underlying78 rfl Try.sizeOf76 (by decide)) ?_
            refine Jp.y 30 rfl (want_as rfl rfl rfl rfl) rfl rfl Kp.true (by first | exact Y.loadO 0 rfl Try.isAgg76 rfl rfl rfl | exact Y.loadC 1 rfl Try.isAgg76 rfl rfl c0) ?_
            refine Jp.y 31 rfl (want_as rfl rfl rfl rfl) rfl rfl Kp.true (Y.move rfl rfl) ?_
            refine Jp.y 32 rfl (want_as rfl rfl rfl rfl) rfl rfl Kp.true (Y.indexAddr (q := i * 257) rfl rfl rfl Try.underlying76 Try.sizeOf137 (by omega) (by omega) (by omega)) ?_
            refine Jp.y 33 rfl (want_as rfl rfl rfl rfl) rfl rfl Kp.true (by first | exact Y.fieldAddrP rfl rfl Try.underlying137 rfl Try.sizeOf25 (by decide) (show _ + 0 = _ from rfl) | exact Y.fieldAddr rfl rfl Try.underlying137 rfl Try.sizeOf25 (by decide)) ?_
            refine Jp.y 34 rfl (want_as rfl rfl rfl rfl) rfl rfl Kp.true (by first | exact Y.loadO 0 rfl Try.isAgg25 rfl rfl rfl | exact Y.loadC 1 rfl Try.isAgg25 rfl rfl c0) ?_
            refine Jp.y 35 rfl (want_as rfl rfl rfl rfl) rfl rfl Kp.true (Y.move rfl rfl) ?_
            refine Jp.y 36 rfl (want_as rfl rfl rfl rfl) rfl rfl Kp.true (Y.lss rfl rfl rfl) ?_
            refine Jp.y 37 rfl (want_all rfl) rfl rfl Kp.true (Y.pickT rfl rfl rfl) ?_
            refine Jp.done hK13 ?_
            refine Cd.cond rfl (fun gl => ?_) (fun gl => ?_)
            · have hlp : i < p := hst.1 (by simp at gl; omega)
              refine Cd.skip hK12 ?_
              refine Cd.block ?_
              refine Cd.plain [(0, false), (1, false), (2, false)] rfl rfl ?_
              refine Jp.y 38 rfl (want_all rfl) rfl rfl Kp.true (Y.move rfl rfl) ?_
              refine Jp.y 39 rfl (want_all rfl) rfl rfl Kp.true (Y.add_ rfl rfl rfl (by first | exact wrap_i64 (by omega) (by omega) | rfl)) ?_
              refine Jp.y 7 rfl (want_all rfl) rfl rfl Kp.true (Y.assign rfl rfl) ?_
              rw [show (i : Int) + 1 = ((i + 1 : Nat) : Int) by omega]
              refine JpQ.again rfl hLa (i + 1) (by omega) (by omega) rfl ⟨rfl, rfl, rfl, rfl, trivial⟩ ⟨rfl, rfl, trivial⟩
            · have hip : i = p := by
                have : ¬ y.1 < a := by simp at gl; omega
                omega
              rw [hip]
              refine Cd.exit rfl hK10 ?_
              exact Cd.meet (hj3 () trivial) ⟨rfl, rfl, rfl, rfl, trivial⟩ ⟨rfl, rfl, trivial⟩
          · have hip : i = p := by omega
            refine Jp.slot 25 rfl (show _ = Value.bool false from congrArg Value.bool (decide_eq_false (by omega))) ?_
            refine Jp.y 26 rfl (want_all rfl) rfl rfl Kp.true (Y.move rfl rfl) ?_
            refine Jp.slot 26 rfl (show _ = Value.bool false from rfl) ?_
            rw [hip]
            refine Jp.skip 27 rfl (want_as rfl rfl rfl rfl) rfl rfl Kp.true ?_
            refine Jp.skip 28 rfl (want_as rfl rfl rfl rfl) rfl rfl Kp.true ?_
            refine Jp.skip 29 rfl (want_as rfl rfl rfl rfl) rfl rfl Kp.true ?_
            refine Jp.skip 30 rfl (want_as rfl rfl rfl rfl) rfl rfl Kp.true ?_
            refine Jp.skip 31 rfl (want_as rfl rfl rfl rfl) rfl rfl Kp.true ?_
            refine Jp.skip 32 rfl (want_as rfl rfl rfl rfl) rfl rfl Kp.true ?_
            refine Jp.skip 33 rfl (want_as rfl rfl rfl rfl) rfl rfl Kp.true ?_
            refine Jp.skip 34 rfl (want_as rfl rfl rfl rfl) rfl rfl Kp.true ?_
            refine Jp.skip 35 rfl (want_as rfl rfl rfl rfl) rfl rfl Kp.true ?_
            refine Jp.skip 36 rfl (want_as rfl rfl rfl rfl) rfl rfl Kp.true ?_
            refine Jp.y 37 rfl (want_all rfl) rfl rfl Kp.true (Y.pickF rfl rfl rfl) ?_
            refine Jp.done hK13 ?_
            refine Cd.condF rfl ?_
            refine Cd.exit rfl hK10 ?_
            exact Cd.meet (hj3 () trivial) ⟨rfl, rfl, rfl, rfl, trivial⟩ ⟨rfl, rfl, trivial⟩
      · have hzn : ¬ z < 0 := by simpa using gz
        obtain ⟨e, p, hg⟩ := hsome hzn
        rw [e]
        refine Cd.skip hK4 ?_
        exact Cd.meet (hj2 ⟨l, findN l (baseN a), A, c⟩ (OneJ.some hok hg)) ⟨rfl, rfl, rfl, rfl, trivial⟩ ⟨rfl, rfl, trivial⟩
  · skip
    refine Jp.y 11 rfl (want_all rfl) rfl rfl Kp.true (Y.move rfl rfl) ?_
    refine Jp.y 12 rfl (want_all rfl) rfl rfl Kp.true (Y.lss rfl rfl rfl) ?_
    refine Jp.y 13 rfl (want_all rfl) rfl rfl Kp.true (Y.move rfl rfl) ?_
    refine Jp.split 13 rfl (fun g13 => ?_) (fun g13 => ?_)
    · skip
      try simp only [decide_eq_false_iff_not, decide_eq_true_eq, Int.not_lt, Int.not_le, Bool.not_eq_false, Bool.not_eq_true, Bool.not_true, Bool.not_false, Bool.not_eq_true', Bool.not_eq_false', beq_eq_false_iff_ne, ne_eq, beq_iff_eq, bne_iff_ne, bne_eq_false_iff_eq, Classical.not_not] at g13
      refine Jp.y 14 rfl (want_as rfl rfl rfl rfl) rfl rfl Kp.true (Y.move rfl rfl) ?_
      refine Jp.y 15 rfl (want_as rfl rfl rfl rfl) rfl rfl Kp.true (Y.eql rfl rfl rfl) ?_
      refine Jp.y 16 rfl (want_all rfl) rfl rfl Kp.true (Y.pickT rfl rfl rfl) ?_
      refine Jp.done hK3 ?_
      refine Cd.cond rfl (fun g16 => ?_) (fun g16 => ?_)
      · skip
        try simp only [decide_eq_false_iff_not, decide_eq_true_eq, Int.not_lt, Int.not_le, Bool.not_eq_false, Bool.not_eq_true, Bool.not_true, Bool.not_false, Bool.not_eq_true', Bool.not_eq_false', beq_eq_false_iff_ne, ne_eq, beq_iff_eq, bne_iff_ne, bne_eq_false_iff_eq, Classical.not_not] at g16
        refine Cd.ret [(0, _)] rfl (res0 rfl) ⟨rfl, trivial⟩ ⟨rfl, by rw [hret (by omega) (by omega)]⟩
      · skip
        try simp only [decide_eq_false_iff_not, decide_eq_true_eq, Int.not_lt, Int.not_le, Bool.not_eq_false, Bool.not_eq_true, Bool.not_true, Bool.not_false, Bool.not_eq_true', Bool.not_eq_false', beq_eq_false_iff_ne, ne_eq, beq_iff_eq, bne_iff_ne, bne_eq_false_iff_eq, Classical.not_not] at g16
        refine Cd.skip hK2 ?_
        exact Cd.meet (hj1 (by omega)) ⟨rfl, rfl, rfl, rfl, trivial⟩ ⟨rfl, trivial⟩
    · skip
      try simp only [decide_eq_false_iff_not, decide_eq_true_eq, Int.not_lt, Int.not_le, Bool.not_eq_false, Bool.not_eq_true, Bool.not_true, Bool.not_false, Bool.not_eq_true', Bool.not_eq_false', beq_eq_false_iff_ne, ne_eq, beq_iff_eq, bne_iff_ne, bne_eq_false_iff_eq, Classical.not_not] at g13
      refine Jp.skip 14 rfl (want_as rfl rfl rfl rfl) rfl rfl Kp.true ?_
      refine Jp.skip 15 rfl (want_as rfl rfl rfl rfl) rfl rfl Kp.true ?_
      refine Jp.y 16 rfl (want_all rfl) rfl rfl Kp.true (Y.pickF rfl rfl rfl) ?_
      refine Jp.done hK3 ?_
      refine Cd.condF rfl ?_
      refine Cd.skip hK2 ?_
      exact Cd.meet (hj1 (by omega)) ⟨rfl, rfl, rfl, rfl, trivial⟩ ⟨rfl, trivial⟩
end Go.Proofs.Ytgmhijlcdadaeaa
