import Derived.Test.YtgmhijlcdadaeaaZShG
set_option linter.unusedVariables false
set_option linter.unusedSimpArgs false
set_option maxRecDepth 100000
namespace Go.Proofs.Ytgmhijlcdadaeaa
open Go
theorem or_foldl (l : Bytes) : ∀ x : UInt8, l.foldl (· ||| ·) x = x ||| orL l := by
  induction l with
  | nil => intro x; simp [orL]
  | cons y l ih =>
    intro x
    unfold orL at ih ⊢
    rw [List.foldl_cons, ih, List.foldl_cons, ih (0 ||| y), UInt8.zero_or, UInt8.or_assoc]
theorem orL_nil : orL [] = 0 := rfl
theorem orL_cons (x : UInt8) (l : Bytes) : orL (x :: l) = x ||| orL l := by
  unfold orL
  rw [List.foldl_cons, or_foldl, UInt8.zero_or]; rfl
theorem orL_append (l m : Bytes) : orL (l ++ m) = orL l ||| orL m := by
  induction l with
  | nil => rw [List.nil_append, orL_nil, UInt8.zero_or]
  | cons x l ih => rw [List.cons_append, orL_cons, ih, orL_cons, UInt8.or_assoc]
theorem orL_perm {l m : Bytes} (h : l.Perm m) : orL l = orL m := by
  induction h with
  | nil => rfl
  | cons x _ ih => rw [orL_cons, orL_cons, ih]
  | swap x y l => rw [orL_cons, orL_cons, orL_cons, orL_cons, ← UInt8.or_assoc, ← UInt8.or_assoc, UInt8.or_comm y x]
  | trans _ _ ih1 ih2 => rw [ih1, ih2]
theorem cut_part {k a e : Nat} {b : Bytes} : cutP k a e b = (b.take (partP k a e).2).drop (partP k a e).1 := by
  unfold cutP partP
  split
  · rename_i h
    rw [List.take_zero, List.drop_nil, List.drop_eq_nil_iff, List.length_take]
    omega
  · rfl
theorem part_le (k a e : Nat) : (partP k a e).1 ≤ (partP k a e).2 ∧ (partP k a e).2 ≤ 256 ∧ (partP k a e).1 ≠ 256 := by
  unfold partP
  split
  · simp
  · dsimp only; omega
theorem shAny_spec (b : Nat) (S : ShG) (a : Nat) (n : Int) (ha : a < 4294967296) (hn : n ≤ 9223372036854775807) : Spec Try.prog 33 #[.pointer (some ⟨b, 0, none⟩), .int .u32 a, .int .i64 n] (fun _ => True) [(0, ShO b S)]
    (fun ρ ρ' v L => ρ' = ρ ∧ v = .int .u8 ((anyM S a n).toNat : Int) ∧ L = [(0, ShO b S)]) := by
  refine Spec.of 51 Try.func33 rfl Try.ntmps33 [(0, _), (1, _), (2, _)] rfl rfl ?_
  intro cx ρ hr h0
  refine Cd.shOpen 0 1 2 (by decide) rfl fun x hf => ?_
  obtain ⟨e, he⟩ : ∃ e, endN a n = e := ⟨_, rfl⟩
  have hel : e ≤ 4294967296 := by rw [← he]; unfold endN; omega
  have hE := shEnd_spec a n ha hn
  rw [he] at hE
  obtain ⟨K, hK⟩ : ∃ K : MapL → Bytes, K = fun l => l.flatMap fun y => cutP y.1.toNat a e ((getPg S.pages y.1.toNat).getD ⟨[], 0⟩).b := ⟨_, rfl⟩
  have hKp : ∀ p ∈ S.pages, cutP (p.1 : Int).toNat a e ((getPg S.pages (p.1 : Int).toNat).getD ⟨[], 0⟩).b = cutP p.1 a e p.2.b := fun p hp => by
    rw [Int.toNat_natCast, getPg_of_mem hf.ok.rising.nodup hp]; rfl
  have hstart : orL (K x.pm) = anyM S a n := by
    rw [anyM, he, hK]
    refine (orL_perm (hf.pages.flatMap_right _)).trans ?_
    rw [pmOf, List.flatMap_map]
    congr 1
    rw [List.flatMap_def, List.flatMap_def]
    congr 1
    exact List.map_congr_left fun p hp => hKp p hp
  refine Cd.seq fun K1 hK1 => ?_
  refine Cd.plain [(0, false)] rfl rfl ?_
  refine Jp.y 6 rfl (want_all rfl) rfl rfl Kp.true (Y.assign rfl rfl) ?_
  refine Jp.done hK1 ?_
  refine Cd.seq fun K2 hK2 => ?_
  refine Cd.plain [(0, false), (1, false), (2, false), (3, false), (4, false)] rfl rfl ?_
  refine Jp.y 15 rfl (want_all rfl) rfl rfl Kp.true (Y.move rfl rfl) ?_
  refine Jp.y 16 rfl (want_all rfl) rfl rfl Kp.true (Y.move rfl rfl) ?_
  refine Jp.call [] [] hE 17 rfl (want_all rfl) rfl rfl (Runs.fn rfl Try.call80 rfl) (by decide) (by decide) rfl trivial ?_
  rintro v1 ρ1 L1 ⟨rfl, rfl, rfl⟩
  refine ⟨rfl, fun hle1 => ⟨Kp.true, ?_⟩⟩
  refine Jp.y 7 rfl (want_all rfl) rfl rfl Kp.true (Y.assign rfl rfl) ?_
  refine Jp.y 8 rfl (want_all rfl) rfl rfl Kp.true (Y.assign rfl rfl) ?_
  refine Jp.done hK2 ?_
  refine Cd.seq fun K3 hK3 => ?_
  refine Cd.seq fun K4 hK4 => ?_
  refine Cd.plain [(0, false), (1, false), (2, false), (3, false), (4, false)] rfl rfl ?_
  refine Jp.y 18 rfl (want_all rfl) rfl rfl Kp.true (Y.move rfl rfl) ?_
  refine Jp.y 19 rfl (want_all rfl) rfl rfl Kp.true (Y.nilCheck rfl rfl) ?_
  refine Jp.y 20 rfl (want_all rfl) rfl rfl Kp.true (by first | exact Y.fieldAddrP rfl rfl Try.underlying118 rfl Try.sizeOf116 (by decide) (show _ + 1 = _ from rfl) | exact Y.fieldAddr rfl rfl Try.underlying118 rfl Try.sizeOf116 (by decide)) ?_
  refine Jp.y 21 rfl (want_all rfl) rfl rfl Kp.true (Y.loadO 0 rfl Try.isAgg116 rfl rfl rfl) ?_
  first | refine Jp.range 22 1 50 (by decide) rfl (want_all rfl) rfl rfl rfl rfl Try.underlying116 rfl fun r1 => ⟨Kp.true, ?_⟩
  refine Jp.done hK4 ?_
  refine Cd.block ?_
  refine Cd.slot 8 rfl (show _ = Value.int .u8 (((0 : UInt8).toNat : Nat) : Int) from rfl) ?_
  refine Cd.loopK (G := MapL × UInt8 × Option (Int × Value)) (fun g => g.2.1 ||| orL (K g.1) = anyM S a n ∧ (∀ y ∈ g.1, y ∈ x.pm)) (fun g => g.1.length) (fun _ => _) (fun g => [(8, .int .u8 (g.2.1.toNat : Int))]) [(1, _), (7, _), (22, _)] (fun g => [(1, RangeO .u32 x.pb r1 x.pm g.1 g.2.2)]) [(0, _), (2, _)] ⟨x.pm, 0, none⟩ ⟨by rw [UInt8.zero_or]; exact hstart, fun y h => h⟩ rfl ⟨rfl, trivial⟩ ⟨rfl, rfl, rfl, trivial⟩ ⟨rfl, trivial⟩ ⟨rfl, rfl, trivial⟩ (fun g KLa hok hLa => ?_)
  obtain ⟨left, acc, cur⟩ := g
  obtain ⟨ok1, ok2⟩ := hok
  dsimp only at ok1 ok2 ⊢
  refine Cd.seq fun K5 hK5 => ?_
  refine Cd.plain [(0, false), (1, false)] rfl rfl ?_
  refine Jp.next 23 1 rfl (want_all rfl) rfl rfl (fun _ => rfl) rfl rfl (fun hn => ⟨Kp.true, ?_⟩) (fun q y hq => ⟨Kp.true, ?_⟩)
  · skip
    refine Jp.y 24 rfl (want_all rfl) rfl rfl Kp.true (Y.extract rfl rfl rfl) ?_
    refine Jp.done hK5 ?_
    refine Cd.seq fun K6 hK6 => ?_
    refine Cd.condF rfl ?_
    refine Cd.exit rfl hK3 ?_
    refine Cd.seq fun K7 hK7 => ?_
    refine Cd.plain [(0, false), (1, false)] rfl rfl ?_
    refine Jp.y 50 rfl (want_all rfl) rfl rfl Kp.true (Y.move rfl rfl) ?_
    refine Jp.y 6 rfl (want_all rfl) rfl rfl Kp.true (Y.assign rfl rfl) ?_
    refine Jp.done hK7 ?_
    refine Cd.imp (i := 1) rfl RangeO.map ?_
    subst hn
    refine Cd.shClose (b := b) (S := S) (x := x) 0 1 2 (by decide) hf rfl rfl rfl ?_
    refine Cd.ret [(0, _)] rfl (res1 rfl rfl) ⟨rfl, trivial⟩ ⟨rfl, by rw [← ok1, hK]; simp [orL_nil], rfl⟩
  · have hy := ok2 y (List.mem_of_getElem? hq)
    obtain ⟨p, hp, hpy⟩ := List.mem_map.1 (hf.pages.mem_iff.1 hy)
    subst hpy
    have hpo := hf.ok.page p hp
    have hpe := perm_erase hq
    have hql := (List.getElem?_eq_some_iff.1 hq).1
    have hel : (left.eraseIdx q).length < left.length := by rw [List.length_eraseIdx, if_pos hql]; omega
    have hsub : ∀ z ∈ left.eraseIdx q, z ∈ x.pm := fun z hz => ok2 z (List.mem_of_mem_eraseIdx hz)
    have hs : orL (K left) = orL (cutP p.1 a e p.2.b) ||| orL (K (left.eraseIdx q)) := by
      rw [hK]
      refine (orL_perm (hpe.flatMap_right _)).trans ?_
      rw [List.flatMap_cons, orL_append]
      exact congrArg (fun z => orL z ||| _) (hKp p hp)
    have hmem : (x.blk p.1, shPgO p.2) ∈ shBlks S.pages x.blk := List.mem_map.2 ⟨p, hp, rfl⟩
    have hplt := hpo.lt
    have hlen : p.2.b.length = 256 := hpo.len
    obtain ⟨f1, f2, f3⟩ := part_le p.1 a e
    have hcut := cut_part (k := p.1) (a := a) (e := e) (b := p.2.b)
    have hP := shPart_spec p.1 a e hplt ha (by omega)
    obtain ⟨fr, hfr⟩ : ∃ z, (partP p.1 a e).1 = z := ⟨_, rfl⟩
    obtain ⟨la, hla⟩ : ∃ z, (partP p.1 a e).2 = z := ⟨_, rfl⟩
    rw [hfr, hla] at hP hcut
    rw [hfr, hla] at f1
    rw [hla] at f2
    rw [hfr] at f3
    obtain ⟨c, hc⟩ : ∃ c, cutP p.1 a e p.2.b = c := ⟨_, rfl⟩
    rw [hc] at hcut hs
    have hcl : c.length = la - fr := by rw [hcut, List.length_drop, List.length_take]; omega
    have hcg : ∀ i, (h : i < c.length) → c[i] = p.2.b[fr + i]'(by omega) := fun i h => by
      subst hcut
      rw [List.getElem_drop, List.getElem_take]
    refine Jp.y 24 rfl (want_all rfl) rfl rfl Kp.true (Y.extract rfl rfl rfl) ?_
    refine Jp.done hK5 ?_
    refine Cd.seq fun K8 hK8 => ?_
    refine Cd.condT rfl ?_
    refine Cd.skip hK8 ?_
    refine Cd.block ?_
    refine Cd.seq fun K9 hK9 => ?_
    refine Cd.plain [(0, false), (1, false), (2, false), (3, false), (4, false)] rfl rfl ?_
    refine Jp.y 25 rfl (want_all rfl) rfl rfl Kp.true (by first | exact Y.entry 1 rfl rfl rfl) ?_
    refine Jp.y 26 rfl (want_all rfl) rfl rfl Kp.true (Y.extract rfl rfl rfl) ?_
    refine Jp.y 27 rfl (want_all rfl) rfl rfl Kp.true (Y.extract rfl rfl rfl) ?_
    refine Jp.y 9 rfl (want_all rfl) rfl rfl Kp.true (Y.assign rfl rfl) ?_
    refine Jp.y 10 rfl (want_all rfl) rfl rfl Kp.true (Y.assign rfl rfl) ?_
    refine Jp.done hK9 ?_
    refine Cd.seq fun K10 hK10 => ?_
    refine Cd.plain [(0, false), (1, false), (2, false), (3, false), (4, false), (5, false), (6, false), (7, false), (8, false)] rfl rfl ?_
    refine Jp.y 29 rfl (want_all rfl) rfl rfl Kp.true (Y.move rfl rfl) ?_
    refine Jp.y 30 rfl (want_all rfl) rfl rfl Kp.true (Y.move rfl rfl) ?_
    refine Jp.y 31 rfl (want_all rfl) rfl rfl Kp.true (Y.move rfl rfl) ?_
    refine Jp.call [] [] hP 32 rfl (want_all rfl) rfl rfl (Runs.fn rfl Try.call81 rfl) (by decide) (by decide) rfl trivial ?_
    rintro v2 ρ2 L2 ⟨rfl, rfl, rfl⟩
    refine ⟨rfl, fun hle2 => ⟨Kp.true, ?_⟩⟩
    refine Jp.y 28 rfl (want_all rfl) rfl rfl Kp.true (Y.move rfl rfl) ?_
    refine Jp.y 33 rfl (want_all rfl) rfl rfl Kp.true (Y.extract rfl rfl rfl) ?_
    refine Jp.y 34 rfl (want_all rfl) rfl rfl Kp.true (Y.extract rfl rfl rfl) ?_
    refine Jp.y 11 rfl (want_all rfl) rfl rfl Kp.true (Y.assign rfl rfl) ?_
    refine Jp.y 12 rfl (want_all rfl) rfl rfl Kp.true (Y.assign rfl rfl) ?_
    refine Jp.done hK10 ?_
    refine Cd.seq fun K11 hK11 => ?_
    refine Cd.plain [(0, false), (1, false), (2, false), (3, false), (4, false), (5, false), (6, false), (7, false)] rfl rfl ?_
    refine Jp.y 35 rfl (want_all rfl) rfl rfl Kp.true (Y.move rfl rfl) ?_
    refine Jp.y 36 rfl (want_all rfl) rfl rfl Kp.true (Y.nilCheck rfl rfl) ?_
    refine Jp.y 37 rfl (want_all rfl) rfl rfl Kp.true (by first | exact Y.fieldAddrP rfl rfl Try.underlying127 rfl Try.sizeOf106 (by decide) (show _ + 0 = _ from rfl) | exact Y.fieldAddr rfl rfl Try.underlying127 rfl Try.sizeOf106 (by decide)) ?_
    refine Jp.y 38 rfl (want_all rfl) rfl rfl Kp.true (Y.move rfl rfl) ?_
    refine Jp.y 39 rfl (want_all rfl) rfl rfl Kp.true (Y.move rfl rfl) ?_
    refine Jp.y 40 rfl (want_all rfl) rfl rfl Kp.true (Y.sliceArrBoth (lo := fr) (hi := la) rfl rfl rfl rfl Try.underlying106 Try.sizeOf5 (by omega) (by omega) (by omega) (by omega) (by omega) rfl) ?_
    refine Jp.y 41 rfl (want_all rfl) rfl rfl Kp.true (Y.lenslice rfl Try.underlying38 rfl) ?_
    refine Jp.y 42 rfl (want_all rfl) rfl rfl Kp.true (Y.move rfl rfl) ?_
    refine Jp.done hK11 ?_
    refine Cd.block ?_
    refine Cd.slot 8 rfl (show _ = Value.int .u8 (((acc ||| orL (c.take 0)).toNat : Nat) : Int) by rw [List.take_zero, orL_nil, UInt8.or_zero]) ?_
    refine Cd.loopK (G := Nat) (fun i => i ≤ c.length) (fun i => c.length - i) (fun _ => _) (fun i => [(8, .int .u8 (((acc ||| orL (c.take i)).toNat : Nat) : Int)), (42, .int .i64 (i : Int))]) [(1, _), (7, _), (22, _), (40, _), (41, _)] (fun i => []) [(0, _), (1, _), (2, _)] 0 (Nat.zero_le _) rfl ⟨rfl, rfl, trivial⟩ ⟨rfl, rfl, rfl, rfl, rfl, trivial⟩ trivial ⟨rfl, rfl, rfl, trivial⟩ (fun g KLc hok hLc => ?_)
    obtain ⟨i, hi⟩ : ∃ i, i = g := ⟨_, rfl⟩
    rw [← hi] at hok ⊢
    refine Cd.seq fun K12 hK12 => ?_
    refine Cd.plain [(0, false)] rfl rfl ?_
    refine Jp.y 43 rfl (want_all rfl) rfl rfl Kp.true (Y.lss rfl rfl rfl) ?_
    refine Jp.done hK12 ?_
    refine Cd.seq fun K13 hK13 => ?_
    refine Cd.cond rfl (fun gi => ?_) (fun gi => ?_)
    · have hic : i < c.length := by simp at gi; omega
      have hx := hcg i hic
      have hcell := Blks.cell hmem (pageCells_byte p.2 hlen (show fr + i < 256 by omega))
      rw [← hx] at hcell
      have hcell2 : HasC (Blks (shBlks S.pages x.blk)) ((⟨x.blk p.1, 0 + 0 + fr * 1, none⟩ : Addr).add i) (.int .u8 ((c[i]).toNat : Int)) := by
        rw [add_mk, show 0 + 0 + fr * 1 + i = fr + i by omega]; exact hcell
      have hb1 := (acc ||| orL (c.take i)).toNat_lt
      have hb2 := (c[i]).toNat_lt
      refine Cd.skip hK13 ?_
      refine Cd.seq fun K14 hK14 => ?_
      refine Cd.block ?_
      refine Cd.seq fun K15 hK15 => ?_
      refine Cd.plain [(0, false), (1, false), (2, false)] rfl rfl ?_
      refine Jp.y 44 rfl (want_all rfl) rfl rfl Kp.true (Y.indexAddr (q := i) rfl rfl rfl Try.underlying38 Try.sizeOf5 (by omega) (by omega) (by omega)) ?_
      refine Jp.y 45 rfl (want_all rfl) rfl rfl Kp.true (by first | exact Y.loadO 0 rfl Try.isAgg5 rfl rfl rfl | exact Y.loadC 2 rfl Try.isAgg5 rfl rfl hcell2) ?_
      refine Jp.y 14 rfl (want_all rfl) rfl rfl Kp.true (Y.assign rfl rfl) ?_
      refine Jp.done hK15 ?_
      refine Cd.plain [(0, false), (1, false), (2, false), (3, false)] rfl rfl ?_
      refine Jp.y 46 rfl (want_all rfl) rfl rfl Kp.true (Y.move rfl rfl) ?_
      refine Jp.y 47 rfl (want_all rfl) rfl rfl Kp.true (Y.move rfl rfl) ?_
      refine Jp.y 48 rfl (want_all rfl) rfl rfl Kp.true (Y.bits rfl rfl rfl rfl) ?_
      refine Jp.slot 48 rfl (show _ = Value.int .u8 (((acc ||| orL (c.take (i + 1))).toNat : Nat) : Int) by rw [bits_or8 hb1 hb2, ← UInt8.toNat_or, ← List.take_append_getElem hic, orL_append, orL_cons, orL_nil, UInt8.or_zero, UInt8.or_assoc]) ?_
      refine Jp.y 8 rfl (want_all rfl) rfl rfl Kp.true (Y.assign rfl rfl) ?_
      refine Jp.over rfl hK14 ?_
      refine Cd.plain [(0, false), (1, false)] rfl rfl ?_
      refine Jp.y 49 rfl (want_all rfl) rfl rfl Kp.true (Y.add_ rfl rfl rfl (by first | exact wrap_i64 (by omega) (by omega) | rfl)) ?_
      refine Jp.y 42 rfl (want_all rfl) rfl rfl Kp.true (Y.move rfl rfl) ?_
      rw [show (i : Int) + 1 = ((i + 1 : Nat) : Int) by omega]
      refine Jp.again hLc (i + 1) (by omega) (by omega) rfl ⟨rfl, rfl, rfl, rfl, rfl, rfl, rfl, trivial⟩ ⟨rfl, rfl, rfl, trivial⟩
    · have hic : i = c.length := by simp at gi; omega
      rw [hic, List.take_length]
      refine Cdx.again rfl hLa ⟨left.eraseIdx q, acc ||| orL c, _⟩ ⟨by show (acc ||| orL c) ||| orL (K (left.eraseIdx q)) = _; rw [UInt8.or_assoc, ← hs]; exact ok1, hsub⟩ hel rfl ⟨rfl, rfl, rfl, rfl, trivial⟩ ⟨rfl, rfl, rfl, trivial⟩
def clrTo (f i : Nat) (b : Bytes) : Bytes := b.zipIdx.map fun x => if f ≤ x.2 ∧ x.2 < i then 0 else x.1
theorem clrTo_len (f i : Nat) (b : Bytes) : (clrTo f i b).length = b.length := by simp [clrTo]
theorem clrTo_get (f i : Nat) (b : Bytes) (j : Nat) : (clrTo f i b).getD j 0 = if f ≤ j ∧ j < i then 0 else b.getD j 0 := by
  simp only [clrTo, List.getD_eq_getElem?_getD, List.getElem?_map, List.getElem?_zipIdx]
  cases h : b[j]? with
  | none => simp
  | some x => simp only [Option.map_some, Option.getD_some, Nat.zero_add]
theorem clrTo_self {f : Nat} {b : Bytes} (h : b.length = 256) : clrTo f f b = b :=
  bytes_ext (by rw [clrTo_len]; exact h) h fun j hj => by rw [clrTo_get, if_neg (by omega)]
theorem clrTo_step {f i : Nat} {b : Bytes} (h : b.length = 256) (h1 : f ≤ i) (h2 : i < 256) : (clrTo f i b).set i 0 = clrTo f (i + 1) b :=
  bytes_ext (by rw [List.length_set, clrTo_len]; exact h) (by rw [clrTo_len]; exact h) fun j hj => by
    rw [clrTo_get]
    by_cases e : j = i
    · subst e
      rw [if_pos (by omega), List.getD_eq_getElem?_getD, List.getElem?_set_self (by rw [clrTo_len]; omega)]; rfl
    · rw [List.getD_eq_getElem?_getD, List.getElem?_set_ne (Ne.symm e), ← List.getD_eq_getElem?_getD, clrTo_get]
      by_cases h3 : f ≤ j ∧ j < i
      · rw [if_pos h3, if_pos (by omega)]
      · rw [if_neg h3, if_neg (by omega)]
theorem clrTo_fin {k a e : Nat} {b : Bytes} (h : b.length = 256) : clrTo (partP k a e).1 (partP k a e).2 b = clrB k a e b :=
  bytes_ext (by rw [clrTo_len]; exact h) (by rw [clrB_len]; exact h) fun j hj => by
    rw [clrTo_get, clrB_get]
    unfold partP
    split
    · rw [if_neg (by dsimp only; omega), if_neg (by omega)]
    · by_cases h3 : a ≤ k + j ∧ k + j < e
      · rw [if_pos h3, if_pos (by dsimp only; omega)]
      · rw [if_neg h3, if_neg (by dsimp only; omega)]
structure CInv (l0 fin : List (Nat × Pg)) (blk : Nat → Nat) (left : MapL) (l : List (Nat × Pg)) (pm : MapL) : Prop where
  rising : Rising l
  perm : pm.Perm (pmOf l blk)
  sub : ∀ y ∈ left, y ∈ pmOf l0 blk
  nodup : (left.map (·.1)).Nodup
  get : ∀ k : Nat, getPg l k = if (k : Int) ∈ left.map (·.1) then getPg l0 k else getPg fin k
theorem pmOf_rem (l : List (Nat × Pg)) (blk : Nat → Nat) (k : Nat) : pmOf (remPg l k) blk = (pmOf l blk).filter fun x => x.1 != (k : Int) := by
  unfold remPg pmOf
  rw [List.filter_map]
  congr 1
  apply List.filter_congr
  intro y _
  simp only [Function.comp]
  rw [Bool.eq_iff_iff]
  simp
  omega
theorem CInv.step {l0 : List (Nat × Pg)} {a e : Nat} {blk : Nat → Nat} {left : MapL} {l : List (Nat × Pg)} {pm : MapL} (h0 : ShOk l0) (h : CInv l0 (clearP l0 a e) blk left l pm) {q k : Nat} {p : Pg} (hq : left[q]? = some ((k : Int), shPtr blk k)) (hg : getPg l0 k = some p) :
    getPg l k = some p ∧ (∀ z ∈ left.eraseIdx q, z.1 ≠ (k : Int)) ∧ (cntB (clrB k a e p.b) = 0 → CInv l0 (clearP l0 a e) blk (left.eraseIdx q) (remPg (setPg l k (pgB (clrB k a e p.b))) k) (mdel pm (k : Int))) ∧ (cntB (clrB k a e p.b) ≠ 0 → CInv l0 (clearP l0 a e) blk (left.eraseIdx q) (setPg l k (pgB (clrB k a e p.b))) pm) := by
  have hpe := (perm_erase hq).map (·.1)
  rw [List.map_cons] at hpe
  have hn2 := hpe.nodup_iff.1 h.nodup
  rw [List.nodup_cons] at hn2
  have hin : ((k : Int)) ∈ left.map (·.1) := hpe.mem_iff.2 (List.mem_cons_self ..)
  have hgl : getPg l k = some p := by rw [h.get, if_pos hin, hg]
  have hfin := clear_get h0 a e k
  rw [hg] at hfin
  dsimp only at hfin
  have hoth : ∀ j : Nat, j ≠ k → ((j : Int) ∈ left.map (·.1) ↔ (j : Int) ∈ (left.eraseIdx q).map (·.1)) := fun j hj => by
    rw [hpe.mem_iff, List.mem_cons]
    constructor
    · intro hx; exact hx.resolve_left (by omega)
    · exact .inr
  have hsub : ∀ y ∈ left.eraseIdx q, y ∈ pmOf l0 blk := fun y hy => h.sub y (List.mem_of_mem_eraseIdx hy)
  have hrs : Rising (setPg l k (pgB (clrB k a e p.b))) := h.rising.set _ _
  refine ⟨hgl, fun z hz e => hn2.1 (by dsimp only; rw [← e]; exact List.mem_map.2 ⟨z, hz, rfl⟩), fun hz => ?_, fun hz => ?_⟩
  · rw [if_pos hz] at hfin
    refine ⟨hrs.sublist List.filter_sublist, ?_, hsub, hn2.2, fun j => ?_⟩
    · rw [pmOf_rem, pmOf_set]
      exact mdel_perm h.perm (pmOf_nodup h.rising.nodup blk) _
    · rw [getPg_rem, getPg_set]
      by_cases ej : j = k
      · subst ej
        rw [if_pos rfl, if_neg hn2.1, hfin]
      · rw [if_neg ej, if_neg ej, h.get]
        simp only [hoth j ej]
  · rw [if_neg hz] at hfin
    refine ⟨hrs, by rw [pmOf_set]; exact h.perm, hsub, hn2.2, fun j => ?_⟩
    rw [getPg_set]
    by_cases ej : j = k
    · subst ej
      rw [if_pos rfl, if_neg hn2.1, hfin, hgl]; rfl
    · rw [if_neg ej, h.get]
      simp only [hoth j ej]
theorem CInv.start {S : ShG} {x : ShX} {a e : Nat} (hf : ShF S x) : CInv S.pages (clearP S.pages a e) x.blk x.pm S.pages x.pm := by
  refine ⟨hf.ok.rising, hf.pages, fun y hy => hf.pages.mem_iff.1 hy, ((hf.pages.map (·.1)).nodup_iff).2 (pmOf_nodup hf.ok.rising.nodup _), fun k => ?_⟩
  by_cases hk : (k : Int) ∈ x.pm.map (·.1)
  · rw [if_pos hk]
  · have : getPg S.pages k = none := getPg_none.2 fun h => hk ((hf.pages.map (·.1)).mem_iff.2 (pmOf_mem.2 h))
    rw [if_neg hk, clear_get hf.ok, this]
theorem shClear_spec (b : Nat) (S : ShG) (a : Nat) (n : Int) (ha : a < 4294967296) (hn : n ≤ 9223372036854775807) : Spec Try.prog 34 #[.pointer (some ⟨b, 0, none⟩), .int .u32 a, .int .i64 n] (fun _ => True) [(0, ShO b S)]
    (fun ρ ρ' v L => ρ' = ρ ∧ v = .tuple #[] ∧ L = [(0, ShO b (clearM S a n))]) := by
  refine Spec.of 51 Try.func34 rfl Try.ntmps34 [(0, _), (1, _), (2, _)] rfl rfl ?_
  intro cx ρ hr h0
  refine Cd.shOpen 0 1 2 (by decide) rfl fun x hf => ?_
  obtain ⟨e, he⟩ : ∃ e, endN a n = e := ⟨_, rfl⟩
  have hel : e ≤ 4294967296 := by rw [← he]; unfold endN; omega
  have hE := shEnd_spec a n ha hn
  rw [he] at hE
  refine Cd.seq fun K16 hK16 => ?_
  refine Cd.plain [(0, false), (1, false), (2, false), (3, false)] rfl rfl ?_
  refine Jp.y 12 rfl (want_all rfl) rfl rfl Kp.true (Y.move rfl rfl) ?_
  refine Jp.y 13 rfl (want_all rfl) rfl rfl Kp.true (Y.move rfl rfl) ?_
  refine Jp.call [] [] hE 14 rfl (want_all rfl) rfl rfl (Runs.fn rfl Try.call80 rfl) (by decide) (by decide) rfl trivial ?_
  rintro v1 ρ1 L1 ⟨rfl, rfl, rfl⟩
  refine ⟨rfl, fun hle1 => ⟨Kp.true, ?_⟩⟩
  refine Jp.y 6 rfl (want_all rfl) rfl rfl Kp.true (Y.assign rfl rfl) ?_
  refine Jp.done hK16 ?_
  refine Cd.seq fun K17 hK17 => ?_
  refine Cd.plain [(0, false), (1, false), (2, false), (3, false), (4, false)] rfl rfl ?_
  refine Jp.y 15 rfl (want_all rfl) rfl rfl Kp.true (Y.move rfl rfl) ?_
  refine Jp.y 16 rfl (want_all rfl) rfl rfl Kp.true (Y.nilCheck rfl rfl) ?_
  refine Jp.y 17 rfl (want_all rfl) rfl rfl Kp.true (by first | exact Y.fieldAddrP rfl rfl Try.underlying118 rfl Try.sizeOf116 (by decide) (show _ + 1 = _ from rfl) | exact Y.fieldAddr rfl rfl Try.underlying118 rfl Try.sizeOf116 (by decide)) ?_
  refine Jp.y 18 rfl (want_all rfl) rfl rfl Kp.true (Y.loadO 0 rfl Try.isAgg116 rfl rfl rfl) ?_
  first | refine Jp.range 19 1 50 (by decide) rfl (want_all rfl) rfl rfl rfl rfl Try.underlying116 rfl fun r1 => ⟨Kp.true, ?_⟩
  refine Jp.done hK17 ?_
  refine Cd.block ?_
  refine Cd.loopK (G := MapL × List (Nat × Pg) × MapL × Option (Int × Value)) (fun g => CInv S.pages (clearP S.pages a e) x.blk g.1 g.2.1 g.2.2.1) (fun g => g.1.length) (fun _ => _) (fun g => []) [(0, _), (1, _), (6, _), (19, _)] (fun g => [(1, RangeO .u32 x.pb r1 g.2.2.1 g.1 g.2.2.2), (2, Blks (shBlks g.2.1 x.blk))]) [(0, _)] ⟨x.pm, S.pages, x.pm, none⟩ (CInv.start hf) rfl trivial ⟨rfl, rfl, rfl, rfl, trivial⟩ ⟨rfl, rfl, trivial⟩ ⟨rfl, trivial⟩ (fun g KLa hok hLa => ?_)
  obtain ⟨left, l, pm, cur⟩ := g
  dsimp only at hok ⊢
  refine Cd.seq fun K18 hK18 => ?_
  refine Cd.plain [(0, false), (1, false)] rfl rfl ?_
  refine Jp.next 20 1 rfl (want_all rfl) rfl rfl (fun _ => rfl) rfl rfl (fun hn => ⟨Kp.true, ?_⟩) (fun q y hq => ⟨Kp.true, ?_⟩)
  · skip
    refine Jp.y 21 rfl (want_all rfl) rfl rfl Kp.true (Y.extract rfl rfl rfl) ?_
    refine Jp.done hK18 ?_
    refine Cd.seq fun K19 hK19 => ?_
    refine Cd.condF rfl ?_
    refine Cd.imp (i := 1) rfl RangeO.map ?_
    subst hn
    have hl : l = clearP S.pages a e := rising_ext hok.rising (clear_rising hf.ok.rising a e) fun k => by rw [hok.get, if_neg (by simp)]
    have hlen : (clearP S.pages a e).length ≤ S.pages.length := Nat.le_trans (List.length_filter_le ..) (by rw [List.length_map]; exact Nat.le_refl _)
    have hroom := hf.room
    rw [hl]
    refine Cd.shClose (b := b) (S := ⟨S.budget, clearP S.pages a e⟩) (x := ⟨x.pb, pm, x.blk⟩) 0 1 2 (by decide) ⟨clear_ok hf.ok a e, by show (clearP S.pages a e).length ≤ S.budget; omega, hf.budget, hl ▸ hok.perm⟩ rfl rfl rfl ?_
    refine Cdx.end [(0, _)] rfl (res0 rfl) ⟨rfl, trivial⟩ ⟨rfl, rfl, by rw [clearM, he]⟩
  · have hy := hok.sub y (List.mem_of_getElem? hq)
    obtain ⟨p, hp, hpy⟩ := List.mem_map.1 hy
    subst hpy
    have hpo := hf.ok.page p hp
    have hg0 := getPg_of_mem hf.ok.rising.nodup (k := p.1) (p := p.2) hp
    obtain ⟨hgl, hgone, hst0, hst1⟩ := hok.step hf.ok hq hg0
    have hql := (List.getElem?_eq_some_iff.1 hq).1
    have hel : (left.eraseIdx q).length < left.length := by rw [List.length_eraseIdx, if_pos hql]; omega
    have hplt := hpo.lt
    have hlen : p.2.b.length = 256 := hpo.len
    have hpb : pgB p.2.b = p.2 := by
      have := hpo.cnt
      obtain ⟨k, ⟨pb, pq⟩⟩ := p
      unfold pgB
      dsimp only at this ⊢
      rw [this]
    obtain ⟨f1, f2, f3⟩ := part_le p.1 a e
    have hfin := clrTo_fin (k := p.1) (a := a) (e := e) hlen
    have hP := shPart_spec p.1 a e hplt ha (by omega)
    obtain ⟨fr, hfr⟩ : ∃ z, (partP p.1 a e).1 = z := ⟨_, rfl⟩
    obtain ⟨la, hla⟩ : ∃ z, (partP p.1 a e).2 = z := ⟨_, rfl⟩
    rw [hfr, hla] at hP hfin
    rw [hfr, hla] at f1
    rw [hla] at f2
    rw [hfr] at f3
    refine Jp.know (φ := ((shBlks l x.blk).map (·.1)).Nodup) (A := Blks (shBlks l x.blk)) 2 rfl (fun _ h => h.1) fun hnd => ?_
    have hndk : ∀ p', ((shBlks (setPg l p.1 p') x.blk).map (·.1)).Nodup := fun p' => by
      rw [shBlks, List.map_map]
      rw [shBlks, List.map_map] at hnd
      have e1 := setPg_map l p.1 p' x.blk
      have e2 : ((fun x => x.fst) ∘ fun p : Nat × Pg => (x.blk p.1, shPgO p.2)) = fun y : Nat × Pg => x.blk y.1 := rfl
      rw [e2] at hnd ⊢
      rw [e1]; exact hnd
    refine Jp.y 21 rfl (want_all rfl) rfl rfl Kp.true (Y.extract rfl rfl rfl) ?_
    refine Jp.done hK18 ?_
    refine Cd.seq fun K20 hK20 => ?_
    refine Cd.condT rfl ?_
    refine Cd.skip hK20 ?_
    refine Cd.block ?_
    refine Cd.seq fun K21 hK21 => ?_
    refine Cd.plain [(0, false), (1, false), (2, false), (3, false), (4, false)] rfl rfl ?_
    refine Jp.y 22 rfl (want_all rfl) rfl rfl Kp.true (by first | exact Y.entry 1 rfl rfl rfl) ?_
    refine Jp.y 23 rfl (want_all rfl) rfl rfl Kp.true (Y.extract rfl rfl rfl) ?_
    refine Jp.y 24 rfl (want_all rfl) rfl rfl Kp.true (Y.extract rfl rfl rfl) ?_
    refine Jp.y 7 rfl (want_all rfl) rfl rfl Kp.true (Y.assign rfl rfl) ?_
    refine Jp.y 8 rfl (want_all rfl) rfl rfl Kp.true (Y.assign rfl rfl) ?_
    refine Jp.done hK21 ?_
    refine Cd.seq fun K22 hK22 => ?_
    refine Cd.plain [(0, false), (1, false), (2, false), (3, false), (4, false), (5, false), (6, false), (7, false), (8, false)] rfl rfl ?_
    refine Jp.y 26 rfl (want_all rfl) rfl rfl Kp.true (Y.move rfl rfl) ?_
    refine Jp.y 27 rfl (want_all rfl) rfl rfl Kp.true (Y.move rfl rfl) ?_
    refine Jp.y 28 rfl (want_all rfl) rfl rfl Kp.true (Y.move rfl rfl) ?_
    refine Jp.call [] [] hP 29 rfl (want_all rfl) rfl rfl (Runs.fn rfl Try.call81 rfl) (by decide) (by decide) rfl trivial ?_
    rintro v2 ρ2 L2 ⟨rfl, rfl, rfl⟩
    refine ⟨rfl, fun hle2 => ⟨Kp.true, ?_⟩⟩
    refine Jp.imp (j := 2) rfl (fun h hh => (show Blks (shBlks (setPg l p.1 (pgB (clrTo fr fr p.2.b))) x.blk) h by rw [clrTo_self hlen, hpb, setPg_same hok.rising.nodup hgl]; exact hh)) ?_
    refine Jp.y 25 rfl (want_all rfl) rfl rfl Kp.true (Y.move rfl rfl) ?_
    refine Jp.y 30 rfl (want_all rfl) rfl rfl Kp.true (Y.extract rfl rfl rfl) ?_
    refine Jp.y 31 rfl (want_all rfl) rfl rfl Kp.true (Y.extract rfl rfl rfl) ?_
    refine Jp.y 9 rfl (want_all rfl) rfl rfl Kp.true (Y.assign rfl rfl) ?_
    refine Jp.y 10 rfl (want_all rfl) rfl rfl Kp.true (Y.assign rfl rfl) ?_
    refine Jp.done hK22 ?_
    refine Cd.seq fun K23 hK23 => ?_
    refine Cd.seq fun K24 hK24 => ?_
    refine Cd.plain [(0, false), (1, false)] rfl rfl ?_
    refine Jp.y 32 rfl (want_all rfl) rfl rfl Kp.true (Y.move rfl rfl) ?_
    refine Jp.y 11 rfl (want_all rfl) rfl rfl Kp.true (Y.assign rfl rfl) ?_
    refine Jp.done hK24 ?_
    refine Cd.block ?_
    refine Cd.loopK (G := Nat) (fun i => fr ≤ i ∧ i ≤ la) (fun i => la - i) (fun _ => _) (fun i => [(11, .int .i64 (i : Int))]) [(0, _), (1, _), (6, _), (7, _), (8, _), (10, _), (19, _)] (fun i => [(2, Blks (shBlks (setPg l p.1 (pgB (clrTo fr i p.2.b))) x.blk))]) [(0, _), (1, _)] fr ⟨Nat.le_refl _, f1⟩ rfl ⟨rfl, trivial⟩ ⟨rfl, rfl, rfl, rfl, rfl, rfl, rfl, trivial⟩ ⟨rfl, trivial⟩ ⟨rfl, rfl, trivial⟩ (fun g KLc hok hLc => ?_)
    obtain ⟨i, hi⟩ : ∃ i, i = g := ⟨_, rfl⟩
    rw [← hi] at hok ⊢
    obtain ⟨i1, i2⟩ := hok
    have hgi : getPg (setPg l p.1 (pgB (clrTo fr i p.2.b))) p.1 = some (pgB (clrTo fr i p.2.b)) := by rw [getPg_set, if_pos rfl, hgl]; rfl
    have hleni : (clrTo fr i p.2.b).length = 256 := by rw [clrTo_len]; exact hlen
    refine Cd.seq fun K25 hK25 => ?_
    refine Cd.seq fun K26 hK26 => ?_
    refine Cd.plain [(0, false), (1, false), (2, false)] rfl rfl ?_
    refine Jp.y 33 rfl (want_all rfl) rfl rfl Kp.true (Y.move rfl rfl) ?_
    refine Jp.y 34 rfl (want_all rfl) rfl rfl Kp.true (Y.move rfl rfl) ?_
    refine Jp.y 35 rfl (want_all rfl) rfl rfl Kp.true (Y.lss rfl rfl rfl) ?_
    refine Jp.done hK26 ?_
    refine Cd.cond rfl (fun gi => ?_) (fun gi => ?_)
    · have hic : i < la := by simpa using gi
      refine Cd.skip hK25 ?_
      refine Cd.seq fun K27 hK27 => ?_
      refine Cd.block ?_
      refine Cd.plain [(0, false), (1, false), (2, false)] rfl rfl ?_
      refine Jp.y 38 rfl (want_all rfl) rfl rfl Kp.true (Y.move rfl rfl) ?_
      refine Jp.y 39 rfl (want_all rfl) rfl rfl Kp.true (Y.move rfl rfl) ?_
      refine Jp.call [2] [2] (shPut_spec (shBlks (setPg l p.1 (pgB (clrTo fr i p.2.b))) x.blk) (x.blk p.1) (pgB (clrTo fr i p.2.b)) i 0 (shMem hgi) hleni rfl (by omega)) 40 rfl (want_all rfl) rfl rfl (Runs.fn rfl Try.call82 rfl) (by decide) (by decide) rfl trivial ?_
      rintro v3 ρ3 L3 ⟨rfl, rfl, rfl⟩
      refine ⟨rfl, fun hle3 => ⟨Kp.true, ?_⟩⟩
      refine Jp.imp (j := 2) rfl (fun h hh => (show Blks (shBlks (setPg l p.1 (pgB (clrTo fr (i + 1) p.2.b))) x.blk) h by rw [← clrTo_step hlen i1 (by omega), ← setPg_set l p.1 (pgB (clrTo fr i p.2.b)), ← updB_sh (hndk _) hgi]; exact hh)) ?_
      refine Jp.over rfl hK27 ?_
      refine Cd.plain [(0, false), (1, false), (2, false)] rfl rfl ?_
      refine Jp.y 36 rfl (want_all rfl) rfl rfl Kp.true (Y.move rfl rfl) ?_
      refine Jp.y 37 rfl (want_all rfl) rfl rfl Kp.true (Y.add_ rfl rfl rfl (by first | exact wrap_i64 (by omega) (by omega) | rfl)) ?_
      refine Jp.y 11 rfl (want_all rfl) rfl rfl Kp.true (Y.assign rfl rfl) ?_
      rw [show (i : Int) + 1 = ((i + 1 : Nat) : Int) by omega]
      refine Jp.again hLc (i + 1) (by omega) (by omega) rfl ⟨rfl, rfl, rfl, rfl, rfl, rfl, rfl, rfl, trivial⟩ ⟨rfl, rfl, rfl, trivial⟩
    · have hic : i = la := by have : ¬ i < la := by simpa using gi
                              omega
      rw [hic] at hgi ⊢
      rw [hfin] at hgi ⊢
      have hlenf : (clrB p.1 a e p.2.b).length = 256 := by rw [clrB_len]; exact hlen
      have hcell := Blks.cell (shMem (blk := x.blk) hgi) (pageCells_perm (pgB (clrB p.1 a e p.2.b)) hlenf)
      refine Cd.exit rfl hK23 ?_
      refine Cd.seq fun K28 hK28 => ?_
      refine Cd.plain [(0, false), (1, false), (2, false), (3, false), (4, false)] rfl rfl ?_
      refine Jp.y 41 rfl (want_all rfl) rfl rfl Kp.true (Y.move rfl rfl) ?_
      refine Jp.y 42 rfl (want_all rfl) rfl rfl Kp.true (Y.nilCheck rfl rfl) ?_
      refine Jp.y 43 rfl (want_all rfl) rfl rfl Kp.true (by first | exact Y.fieldAddrP rfl rfl Try.underlying127 rfl Try.sizeOf3 (by decide) (show _ + 256 = _ from rfl) | exact Y.fieldAddr rfl rfl Try.underlying127 rfl Try.sizeOf3 (by decide)) ?_
      refine Jp.y 44 rfl (want_all rfl) rfl rfl Kp.true (Y.loadC 2 rfl Try.isAgg3 rfl rfl hcell) ?_
      refine Jp.y 45 rfl (want_all rfl) rfl rfl Kp.true (Y.eql rfl rfl rfl) ?_
      refine Jp.done hK28 ?_
      refine Cd.cond rfl (fun gz => ?_) (fun gz => ?_)
      · have hz : cntB (clrB p.1 a e p.2.b) = 0 := by simpa [pgB] using gz
        refine Cd.plain [(0, false), (1, false), (2, false), (3, false), (4, false), (5, false)] rfl rfl ?_
        refine Jp.y 46 rfl (want_all rfl) rfl rfl Kp.true (Y.move rfl rfl) ?_
        refine Jp.y 47 rfl (want_all rfl) rfl rfl Kp.true (Y.nilCheck rfl rfl) ?_
        refine Jp.y 48 rfl (want_all rfl) rfl rfl Kp.true (by first | exact Y.fieldAddrP rfl rfl Try.underlying118 rfl Try.sizeOf116 (by decide) (show _ + 1 = _ from rfl) | exact Y.fieldAddr rfl rfl Try.underlying118 rfl Try.sizeOf116 (by decide)) ?_
        refine Jp.y 49 rfl (want_all rfl) rfl rfl Kp.true (Y.loadO 0 rfl Try.isAgg116 rfl rfl rfl) ?_
        refine Jp.y 50 rfl (want_all rfl) rfl rfl Kp.true (Y.move rfl rfl) ?_
        refine Jp.deleteR 1 rfl (want_all rfl) rfl rfl rfl rfl Try.underlying116 Try.underlying25 rfl hgone Kp.true ?_
        refine Jp.imp (j := 2) (A' := Blks (shBlks (remPg (setPg l p.1 (pgB (clrB p.1 a e p.2.b))) p.1) x.blk)) rfl (Blks.sub (List.filter_sublist.map _)) ?_
        refine JpQ.again rfl hLa ⟨left.eraseIdx q, _, _, none⟩ (hst0 hz) hel rfl ⟨rfl, rfl, rfl, rfl, trivial⟩ ⟨rfl, rfl, rfl, trivial⟩
      · have hz : cntB (clrB p.1 a e p.2.b) ≠ 0 := by simpa [pgB] using gz
        refine CdQ.again rfl hLa ⟨left.eraseIdx q, _, _, _⟩ (hst1 hz) hel rfl ⟨rfl, rfl, rfl, rfl, trivial⟩ ⟨rfl, rfl, rfl, trivial⟩
end Go.Proofs.Ytgmhijlcdadaeaa
