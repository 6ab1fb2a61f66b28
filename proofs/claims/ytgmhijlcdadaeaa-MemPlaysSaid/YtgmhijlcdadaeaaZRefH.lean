import Derived.Test.YtgmhijlcdadaeaaZRefG
set_option linter.unusedVariables false
set_option linter.unusedSimpArgs false
set_option maxRecDepth 100000
namespace Go.Proofs.Ytgmhijlcdadaeaa
open Go
theorem refPeek_spec (b : Nat) (M : MemG) (a n : Nat) (ha : a < 4294967296) (hle : a + n ≤ 4294967296) (hn : n ≤ 65536) (hthere : ∀ i, i < n → ∃ p, getPg M.pages (baseN (a + i)) = some p) : Spec Try.prog 100 #[.pointer (some ⟨b, 0, none⟩), .int .u32 a, .int .i64 n] (fun _ => True) [(0, RefO b M)]
    (fun ρ ρ' v L => ρ' = ρ ∧ ∃ A c, v = .slice A (readL M a n).length c ∧ L = [(0, RefO b M), (1, OwnS 5 1 A (readL M a n).length c (bytesV (readL M a n)))]) := by
  refine Spec.of 43 Try.func100 rfl Try.ntmps100 [(0, _), (1, _), (2, _)] rfl rfl ?_
  intro cx ρ hr h0
  refine Cd.know (A := RefO b M) 0 rfl RefO.ok fun hmem => ?_
  have hroom := hmem.room
  have hbud := hmem.budget.2
  have hll := readL_length M a n
  refine Cd.make 1 (A := OwnS 5 1 none 0 0 (bytesV (readL M a 0))) (OwnS.nil _ _ _) ?_
  refine Cd.seq fun K1 hK1 => ?_
  refine Cd.plain [(0, false)] rfl rfl ?_
  refine Jp.y 6 rfl (want_all rfl) rfl rfl Kp.true (Y.assign rfl rfl) ?_
  refine Jp.done hK1 ?_
  refine Cd.seq fun K2 hK2 => ?_
  refine Cd.plain [(0, false)] rfl rfl ?_
  refine Jp.y 7 rfl (want_all rfl) rfl rfl Kp.true (Y.assign rfl rfl) ?_
  refine Jp.done hK2 ?_
  refine Cd.seq fun K3 hK3 => ?_
  refine Cd.seq fun K4 hK4 => ?_
  refine Cd.plain [(0, false)] rfl rfl ?_
  refine Jp.y 8 rfl (want_all rfl) rfl rfl Kp.true (Y.assign rfl rfl) ?_
  refine Jp.done hK4 ?_
  refine Cd.block ?_
  refine Cd.loopK (G := Nat × Option Addr × Nat) (fun g => g.1 ≤ n) (fun g => n - g.1) (fun _ => _) (fun g => [(7, .slice g.2.1 g.1 g.2.2), (8, .int .i64 (g.1 : Int))]) [(0, _), (1, _), (2, _)] (fun g => [(1, OwnS 5 1 g.2.1 g.1 g.2.2 (bytesV (readL M a g.1)))]) [(0, _)] ⟨0, none, 0⟩ (Nat.zero_le _) rfl ⟨rfl, rfl, trivial⟩ ⟨rfl, rfl, rfl, trivial⟩ ⟨rfl, trivial⟩ ⟨rfl, trivial⟩ (fun g KLa hok hLa => ?_)
  obtain ⟨i, A, c⟩ := g
  dsimp only at hok ⊢
  refine Cd.seq fun K5 hK5 => ?_
  refine Cd.seq fun K6 hK6 => ?_
  refine Cd.plain [(0, false), (1, false), (2, false)] rfl rfl ?_
  refine Jp.y 11 rfl (want_all rfl) rfl rfl Kp.true (Y.move rfl rfl) ?_
  refine Jp.y 12 rfl (want_all rfl) rfl rfl Kp.true (Y.move rfl rfl) ?_
  refine Jp.y 13 rfl (want_all rfl) rfl rfl Kp.true (Y.lss rfl rfl rfl) ?_
  refine Jp.done hK6 ?_
  refine Cd.cond rfl (fun ga => ?_) (fun ga => ?_)
  · have hin : i < n := by simp at ga; omega
    obtain ⟨p, hg⟩ := hthere i hin
    obtain ⟨ad, had⟩ : ∃ ad, a + i = ad := ⟨_, rfl⟩
    rw [had] at hg
    have hadl : ad < 4294967296 := by omega
    have hlen := (hmem.page _ (getPg_mem hg)).len
    dsimp only at hlen
    have hx := pos_some hmem.rising hg
    have hm : ad % 256 < 256 := Nat.mod_lt _ (by decide)
    have hbyte : p.b.getD (ad % 256) 0 = byteM M ad := by rw [byteM, hg]
    have hrs : bytesV (readL M a i) ++ [.int .u8 ((byteM M ad).toNat : Int)] = bytesV (readL M a (i + 1)) := by
      rw [readL_succ, had]; simp [bytesV]
    refine Cd.skip hK5 ?_
    refine Cd.seq fun K7 hK7 => ?_
    refine Cd.block ?_
    refine Cd.seq fun K8 hK8 => ?_
    refine Cd.plain [(0, false), (1, false), (2, false), (3, false), (4, false), (5, false), (6, false), (7, false), (8, false), (9, false), (10, false)] rfl rfl ?_
    refine Jp.y 17 rfl (want_all rfl) rfl rfl Kp.true (Y.move rfl rfl) ?_
    refine Jp.y 18 rfl (want_all rfl) rfl rfl Kp.true (Y.move rfl rfl) ?_
    refine Jp.y 19 rfl (want_all rfl) rfl rfl Kp.true (Y.move rfl rfl) ?_
    refine Jp.y 20 rfl (want_all rfl) rfl rfl Kp.true (Y.conv_ rfl rfl Try.underlying3 Try.underlying25 (by first | exact wrap_u32 (by omega) (by omega) | rfl)) ?_
    refine Jp.y 21 rfl (want_all rfl) rfl rfl Kp.true (Y.add_ rfl rfl rfl (by first | exact wrap_u32 (by omega) (by omega) | rfl)) ?_
    refine Jp.slot 21 rfl (show _ = Value.int .u32 (ad : Int) from congrArg (Value.int .u32) (by omega)) ?_
    refine Jp.call [0] [0] (refAt_spec b M ad hadl) 22 rfl (want_all rfl) rfl rfl (Runs.fn rfl Try.call92 rfl) (by decide) (by decide) rfl trivial ?_
    rintro v1 ρ1 L1 ⟨rfl, rfl, rfl⟩
    refine ⟨rfl, fun hle1 => ⟨Kp.true, ?_⟩⟩
    obtain ⟨f, hfp⟩ : ∃ f, posA M.pages (baseN ad) = f := ⟨_, rfl⟩
    rw [hfp] at hx ⊢
    have hfl := (List.getElem?_eq_some_iff.1 hx).1
    refine Jp.y 16 rfl (want_all rfl) rfl rfl Kp.true (Y.move rfl rfl) ?_
    refine Jp.y 23 rfl (want_all rfl) rfl rfl Kp.true (Y.extract rfl rfl rfl) ?_
    refine Jp.y 24 rfl (want_all rfl) rfl rfl Kp.true (Y.extract rfl rfl rfl) ?_
    refine Jp.y 9 rfl (want_all rfl) rfl rfl Kp.true (Y.assign rfl rfl) ?_
    refine Jp.y 10 rfl (want_all rfl) rfl rfl Kp.true (Y.assign rfl rfl) ?_
    refine Jp.done hK8 ?_
    refine Cd.plain [(0, false), (1, false), (2, false), (3, false), (4, false), (5, false), (6, false), (7, false), (8, false), (9, false), (10, false), (11, false), (12, false), (13, false), (14, false), (15, false), (16, false), (17, false)] rfl rfl ?_
    refine Jp.refOpen 0 2 3 (by decide) rfl fun A1 c1 B dg gl hf => ?_
    have hrows := hf.rows
    refine Jp.ownAt 2 rfl (show 0 < M.pages.length by omega) ?_
    rintro b1 rfl
    have c0 := OwnS.hasC (e := 108) (m := 258) (k := M.pages.length) (c := c1) (ad := ⟨b1, 0, none⟩) (rs_get hrows hx (refPg_byte hlen (j := ad % 256) hm))
    rw [add_mk, Nat.zero_add, hbyte] at c0
    refine Jp.y 25 rfl (want_all rfl) rfl rfl Kp.true (Y.move rfl rfl) ?_
    refine Jp.y 26 rfl (want_all rfl) rfl rfl Kp.true (Y.move rfl rfl) ?_
    refine Jp.y 27 rfl (want_all rfl) rfl rfl Kp.true (Y.nilCheck rfl rfl) ?_
    refine Jp.y 28 rfl (want_all rfl) rfl rfl Kp.true (by first | exact Y.fieldAddrP rfl rfl Try.underlying88 rfl Try.sizeOf85 (by decide) (show _ + 1 = _ from rfl) | exact Y.fieldAddr rfl rfl Try.underlying88 rfl Try.sizeOf85 (by decide)) ?_
    refine Jp.y 29 rfl (want_all rfl) rfl rfl Kp.true (Y.loadO 0 rfl Try.isAgg85 rfl rfl rfl) ?_
    refine Jp.y 30 rfl (want_all rfl) rfl rfl Kp.true (Y.move rfl rfl) ?_
    refine Jp.y 31 rfl (want_all rfl) rfl rfl Kp.true (Y.move rfl rfl) ?_
    refine Jp.y 32 rfl (want_all rfl) rfl rfl Kp.true (Y.move rfl rfl) ?_
    refine Jp.y 33 rfl (want_all rfl) rfl rfl Kp.true (Y.conv_ rfl rfl Try.underlying3 Try.underlying25 (by first | exact wrap_u32 (by omega) (by omega) | rfl)) ?_
    refine Jp.y 34 rfl (want_all rfl) rfl rfl Kp.true (Y.add_ rfl rfl rfl (by first | exact wrap_u32 (by omega) (by omega) | rfl)) ?_
    refine Jp.y 35 rfl (want_all rfl) rfl rfl Kp.true (by first | exact Y.remN rfl rfl rfl (by omega) (by omega) | exact Y.rem rfl rfl rfl (by first | decide | omega)) ?_
    refine Jp.y 36 rfl (want_all rfl) rfl rfl Kp.true (Y.indexAddr (q := f * 258) rfl rfl rfl Try.underlying85 Try.sizeOf108 (by omega) (by omega) (by omega)) ?_
    refine Jp.slot 36 rfl (show _ = Value.pointer (some ⟨b1, f * 258, none⟩) by rw [add_mk, Nat.zero_add]) ?_
    refine Jp.slot 35 rfl (show _ = Value.int .u32 ((ad % 256 : Nat) : Int) from congrArg (Value.int .u32) (by omega)) ?_
    refine Jp.y 37 rfl (want_all rfl) rfl rfl Kp.true (by first | exact Y.fieldAddrP rfl rfl Try.underlying108 rfl Try.sizeOf106 (by decide) (show _ + 2 = _ from rfl) | exact Y.fieldAddr rfl rfl Try.underlying108 rfl Try.sizeOf106 (by decide)) ?_
    refine Jp.y 38 rfl (want_all rfl) rfl rfl Kp.true (Y.indexArrP (q := f * 258 + (2 + ad % 256)) rfl rfl rfl Try.underlying106 Try.sizeOf5 (by omega) (by omega) (by omega)) ?_
    refine Jp.y 39 rfl (want_all rfl) rfl rfl Kp.true (by first | exact Y.loadO 0 rfl Try.isAgg5 rfl rfl rfl | exact Y.loadC 2 rfl Try.isAgg5 rfl rfl c0) ?_
    refine Jp.lit 40 50 [(0, _)] [_] rfl (want_all rfl) rfl rfl rfl rfl Try.underlying38 Try.sizeOf5 Try.zeroValue5 rfl rfl rfl rfl rfl fun b50 => ⟨Kp.true, ?_⟩
    refine Jp.append 41 1 rfl (want_all rfl) rfl rfl rfl Try.underlying38 Try.underlying38 (.inl ⟨_, rfl⟩) Try.sizeOf5 Try.typeInfo5 Try.zeroValue5 rfl (by decide) rfl rfl rfl (Src.own 50 rfl) rfl ((i + 1)) ((bytesV (readL M a (i + 1)))) (by first | omega | simp) hrs (by simp only [Try.t5]; omega) fun AN cN => ⟨Kp.true, ?_⟩
    refine Jp.refClose (b := b) (M := M) 0 2 3 (by decide) hf rfl rfl rfl ?_
    refine Jp.y 7 rfl (want_all rfl) rfl rfl Kp.true (Y.assign rfl rfl) ?_
    refine Jp.over rfl hK7 ?_
    refine Cd.plain [(0, false), (1, false), (2, false)] rfl rfl ?_
    refine Jp.y 14 rfl (want_all rfl) rfl rfl Kp.true (Y.move rfl rfl) ?_
    refine Jp.y 15 rfl (want_all rfl) rfl rfl Kp.true (Y.add_ rfl rfl rfl (by first | exact wrap_i64 (by omega) (by omega) | rfl)) ?_
    refine Jp.y 8 rfl (want_all rfl) rfl rfl Kp.true (Y.assign rfl rfl) ?_
    rw [show (i : Int) + 1 = ((i + 1 : Nat) : Int) by omega]
    refine Jp.again hLa ⟨i + 1, AN, cN⟩ (by show i + 1 ≤ n; omega) (by show n - (i + 1) < n - i; omega) rfl ⟨rfl, rfl, rfl, rfl, rfl, trivial⟩ ⟨rfl, rfl, trivial⟩
  · have hin : i = n := by have : ¬ i < n := by simp at ga; omega
                           omega
    rw [hin]
    refine Cd.exit rfl hK3 ?_
    refine Cd.seq fun K9 hK9 => ?_
    refine Cd.plain [(0, false), (1, false)] rfl rfl ?_
    refine Jp.y 42 rfl (want_all rfl) rfl rfl Kp.true (Y.move rfl rfl) ?_
    refine Jp.y 6 rfl (want_all rfl) rfl rfl Kp.true (Y.assign rfl rfl) ?_
    refine Jp.done hK9 ?_
    refine Cd.ret [(0, _), (1, _)] rfl (res1 rfl rfl) ⟨rfl, rfl, trivial⟩ ⟨rfl, A, c, by rw [hll], by rw [hll]⟩
theorem refRead_spec (b : Nat) (M : MemG) (a : Nat) (n : Int) (ha : a < 4294967296) : Spec Try.prog 60 #[.pointer (some ⟨b, 0, none⟩), .int .u32 a, .int .i64 n] (fun _ => True) [(0, RefO b M)]
    (fun ρ ρ' v L => ρ' = ρ ∧ ∃ A c, v = .tuple #[.slice A (readM M a n).1.length c, .int .i64 (readM M a n).2] ∧ L = [(0, RefO b M), (1, OwnS 5 1 A (readM M a n).1.length c (bytesV (readM M a n).1))]) := by
  refine Spec.of 23 Try.func60 rfl Try.ntmps60 [(0, _), (1, _), (2, _)] rfl rfl ?_
  intro cx ρ hr h0
  refine Cd.make 1 (A := OwnS 5 1 none 0 0 []) (OwnS.nil _ _ _) ?_
  refine Cd.seq fun K10 hK10 => ?_
  refine Cd.plain [(0, false), (1, false)] rfl rfl ?_
  refine Jp.y 6 rfl (want_all rfl) rfl rfl Kp.true (Y.assign rfl rfl) ?_
  refine Jp.y 7 rfl (want_all rfl) rfl rfl Kp.true (Y.assign rfl rfl) ?_
  refine Jp.done hK10 ?_
  refine Cd.seq fun K11 hK11 => ?_
  refine Cd.seq fun K12 hK12 => ?_
  refine Cd.plain [(0, false), (1, false), (2, false), (3, false), (4, false), (5, false)] rfl rfl ?_
  refine Jp.y 8 rfl (want_all rfl) rfl rfl Kp.true (Y.move rfl rfl) ?_
  refine Jp.y 9 rfl (want_all rfl) rfl rfl Kp.true (Y.lss rfl rfl rfl) ?_
  refine Jp.y 10 rfl (want_all rfl) rfl rfl Kp.true (Y.move rfl rfl) ?_
  refine Jp.split 10 rfl (fun g10 => ?_) (fun g10 => ?_)
  · skip
    try simp only [decide_eq_false_iff_not, decide_eq_true_eq, Int.not_lt, Int.not_le, Bool.not_eq_false, Bool.not_eq_true, Bool.not_true, Bool.not_false, Bool.not_eq_true', Bool.not_eq_false', beq_eq_false_iff_ne, ne_eq, beq_iff_eq, bne_iff_ne, bne_eq_false_iff_eq, Classical.not_not] at g10
    refine Jp.skip 11 rfl (want_as rfl rfl rfl rfl) rfl rfl Kp.true ?_
    refine Jp.skip 12 rfl (want_as rfl rfl rfl rfl) rfl rfl Kp.true ?_
    refine Jp.y 13 rfl (want_all rfl) rfl rfl Kp.true (Y.pickT rfl rfl rfl) ?_
    refine Jp.done hK12 ?_
    refine Cd.condT rfl ?_
    refine Cd.seq fun K13 hK13 => ?_
    refine Cd.plain [(0, false), (1, false)] rfl rfl ?_
    refine Jp.y 6 rfl (want_all rfl) rfl rfl Kp.true (Y.assign rfl rfl) ?_
    refine Jp.y 7 rfl (want_all rfl) rfl rfl Kp.true (Y.assign rfl rfl) ?_
    refine Jp.done hK13 ?_
    have hV : readM M a n = ([], 1) := by rw [readM, if_pos (by omega)]
    rw [hV]
    refine Cd.ret [(0, _), (1, _)] rfl (res2 rfl rfl rfl) ⟨rfl, rfl, trivial⟩ ⟨rfl, none, 0, rfl, rfl⟩
  try simp only [decide_eq_false_iff_not, decide_eq_true_eq, Int.not_lt, Int.not_le, Bool.not_eq_false, Bool.not_eq_true, Bool.not_true, Bool.not_false, Bool.not_eq_true', Bool.not_eq_false', beq_eq_false_iff_ne, ne_eq, beq_iff_eq, bne_iff_ne, bne_eq_false_iff_eq, Classical.not_not] at g10
  refine Jp.y 11 rfl (want_as rfl rfl rfl rfl) rfl rfl Kp.true (Y.move rfl rfl) ?_
  refine Jp.y 12 rfl (want_as rfl rfl rfl rfl) rfl rfl Kp.true (Y.gtr rfl rfl rfl) ?_
  refine Jp.y 13 rfl (want_all rfl) rfl rfl Kp.true (Y.pickF rfl rfl rfl) ?_
  refine Jp.done hK12 ?_
  refine Cd.cond rfl (fun g13 => ?_) (fun g13 => ?_)
  · skip
    try simp only [decide_eq_false_iff_not, decide_eq_true_eq, Int.not_lt, Int.not_le, Bool.not_eq_false, Bool.not_eq_true, Bool.not_true, Bool.not_false, Bool.not_eq_true', Bool.not_eq_false', beq_eq_false_iff_ne, ne_eq, beq_iff_eq, bne_iff_ne, bne_eq_false_iff_eq, Classical.not_not] at g13
    refine Cd.seq fun K14 hK14 => ?_
    refine Cd.plain [(0, false), (1, false)] rfl rfl ?_
    refine Jp.y 6 rfl (want_all rfl) rfl rfl Kp.true (Y.assign rfl rfl) ?_
    refine Jp.y 7 rfl (want_all rfl) rfl rfl Kp.true (Y.assign rfl rfl) ?_
    refine Jp.done hK14 ?_
    have hV : readM M a n = ([], 1) := by rw [readM, if_pos (by omega)]
    rw [hV]
    refine Cd.ret [(0, _), (1, _)] rfl (res2 rfl rfl rfl) ⟨rfl, rfl, trivial⟩ ⟨rfl, none, 0, rfl, rfl⟩
  try simp only [decide_eq_false_iff_not, decide_eq_true_eq, Int.not_lt, Int.not_le, Bool.not_eq_false, Bool.not_eq_true, Bool.not_true, Bool.not_false, Bool.not_eq_true', Bool.not_eq_false', beq_eq_false_iff_ne, ne_eq, beq_iff_eq, bne_iff_ne, bne_eq_false_iff_eq, Classical.not_not] at g13
  refine Cd.skip hK11 ?_
  refine Cd.seq fun K15 hK15 => ?_
  refine Cd.seq fun K16 hK16 => ?_
  refine Cd.plain [(0, false), (1, false), (2, false), (3, false), (4, false)] rfl rfl ?_
  obtain ⟨m, rfl⟩ := Int.eq_ofNat_of_zero_le (show 0 ≤ n by omega)
  refine Jp.y 14 rfl (want_all rfl) rfl rfl Kp.true (Y.move rfl rfl) ?_
  refine Jp.y 15 rfl (want_all rfl) rfl rfl Kp.true (Y.move rfl rfl) ?_
  refine Jp.y 16 rfl (want_all rfl) rfl rfl Kp.true (Y.move rfl rfl) ?_
  refine Jp.call [0] [0] (refMay_spec b M a m 1 ha (by omega)) 17 rfl (want_all rfl) rfl rfl (Runs.fn rfl Try.call97 rfl) (by decide) (by decide) rfl trivial ?_
  rintro v1 ρ1 L1 ⟨rfl, rfl, rfl⟩
  refine ⟨rfl, fun hle1 => ⟨Kp.true, ?_⟩⟩
  refine Jp.y 18 rfl (want_all rfl) rfl rfl Kp.true (Y.not rfl rfl) ?_
  refine Jp.done hK16 ?_
  refine Cd.cond rfl (fun g18 => ?_) (fun g18 => ?_)
  · skip
    try simp only [decide_eq_false_iff_not, decide_eq_true_eq, Int.not_lt, Int.not_le, Bool.not_eq_false, Bool.not_eq_true, Bool.not_true, Bool.not_false, Bool.not_eq_true', Bool.not_eq_false', beq_eq_false_iff_ne, ne_eq, beq_iff_eq, bne_iff_ne, bne_eq_false_iff_eq, Classical.not_not] at g18
    refine Cd.seq fun K17 hK17 => ?_
    refine Cd.plain [(0, false), (1, false)] rfl rfl ?_
    refine Jp.y 6 rfl (want_all rfl) rfl rfl Kp.true (Y.assign rfl rfl) ?_
    refine Jp.y 7 rfl (want_all rfl) rfl rfl Kp.true (Y.assign rfl rfl) ?_
    refine Jp.done hK17 ?_
    have hV : readM M a m = ([], 8) := by rw [readM, if_neg (by omega), if_pos (show allM M a (m : Int).toNat 1 = false from by simpa using g18)]
    rw [hV]
    refine Cd.ret [(0, _), (1, _)] rfl (res2 rfl rfl rfl) ⟨rfl, rfl, trivial⟩ ⟨rfl, none, 0, rfl, rfl⟩
  try simp only [decide_eq_false_iff_not, decide_eq_true_eq, Int.not_lt, Int.not_le, Bool.not_eq_false, Bool.not_eq_true, Bool.not_true, Bool.not_false, Bool.not_eq_true', Bool.not_eq_false', beq_eq_false_iff_ne, ne_eq, beq_iff_eq, bne_iff_ne, bne_eq_false_iff_eq, Classical.not_not] at g18
  refine Cd.skip hK15 ?_
  refine Cd.seq fun K18 hK18 => ?_
  refine Cd.plain [(0, false), (1, false), (2, false), (3, false), (4, false), (5, false)] rfl rfl ?_
  have hall : allM M a m 1 = true := by simpa using g18
  have hV : readM M a m = (readL M a m, 0) := by rw [readM, if_neg (by omega), if_neg (by show ¬ allM M a m 1 = false; rw [hall]; simp)]; rfl
  have hle2 : m ≠ 0 → a + m ≤ 4294967296 := fun h => (allM_page hall (Nat.pos_of_ne_zero h)).1
  refine Jp.y 19 rfl (want_all rfl) rfl rfl Kp.true (Y.move rfl rfl) ?_
  refine Jp.y 20 rfl (want_all rfl) rfl rfl Kp.true (Y.move rfl rfl) ?_
  refine Jp.y 21 rfl (want_all rfl) rfl rfl Kp.true (Y.move rfl rfl) ?_
  refine Jp.call [0] [0, 1] (refPeek_spec b M a m ha (by omega) (by omega) (fun i hi => by obtain ⟨_, p, hg, _⟩ := allM_page hall hi; exact ⟨p, hg⟩)) 22 rfl (want_all rfl) rfl rfl (Runs.fn rfl Try.call100 rfl) (by decide) (by decide) rfl trivial ?_
  rintro v2 ρ2 L2 ⟨rfl, A, c, rfl, rfl⟩
  refine ⟨rfl, fun hle2 => ⟨Kp.true, ?_⟩⟩
  refine Jp.y 6 rfl (want_all rfl) rfl rfl Kp.true (Y.assign rfl rfl) ?_
  refine Jp.y 7 rfl (want_all rfl) rfl rfl Kp.true (Y.assign rfl rfl) ?_
  refine Jp.done hK18 ?_
  rw [hV]
  refine Cd.ret [(0, _), (1, _)] rfl (res2 rfl rfl rfl) ⟨rfl, rfl, trivial⟩ ⟨rfl, A, c, rfl, rfl⟩
theorem refPut_spec (b : Nat) (M : MemG) (a : Nat) (s : Sl UInt8) (ha : a < 4294967296) (hl : a + s.xs.length ≤ 4294967296) (hs : s.xs.length ≤ 65536) (hthere : ∀ i, i < s.xs.length → ∃ p, getPg M.pages (baseN (a + i)) = some p) : Spec Try.prog 98 #[.pointer (some ⟨b, 0, none⟩), .int .u32 a, s.v] (RdB s) [(0, RefO b M)]
    (fun ρ ρ' v L => ρ' = ρ ∧ v = .tuple #[] ∧ L = [(0, RefO b (wrM M a s.xs s.xs.length))]) := by
  obtain ⟨A0, c0', xs⟩ := s
  dsimp only [Sl.v] at hl hs hthere ⊢
  refine Spec.of 50 Try.func98 rfl Try.ntmps98 [(0, _), (1, _), (2, _)] rfl rfl ?_
  intro cx ρ hr h0
  refine Cd.know (A := RefO b M) 0 rfl RefO.ok fun hmem => ?_
  refine Cd.seq fun K19 hK19 => ?_
  refine Cd.plain [(0, false)] rfl rfl ?_
  refine Jp.y 6 rfl (want_all rfl) rfl rfl Kp.true (Y.assign rfl rfl) ?_
  refine Jp.done hK19 ?_
  refine Cd.block ?_
  refine Cd.loopK (G := Nat) (fun i => i ≤ xs.length) (fun i => xs.length - i) (fun _ => _) (fun i => [(6, .int .i64 (i : Int))]) [(0, _), (1, _), (2, _)] (fun i => [(0, RefO b (wrM M a xs i))]) [] 0 (Nat.zero_le _) rfl ⟨rfl, trivial⟩ ⟨rfl, rfl, rfl, trivial⟩ ⟨rfl, trivial⟩ trivial (fun g KLa hok hLa => ?_)
  obtain ⟨i, hi⟩ : ∃ i, i = g := ⟨_, rfl⟩
  rw [← hi] at hok ⊢
  refine Cd.seq fun K20 hK20 => ?_
  refine Cd.seq fun K21 hK21 => ?_
  refine Cd.plain [(0, false), (1, false), (2, false), (3, false)] rfl rfl ?_
  refine Jp.y 10 rfl (want_all rfl) rfl rfl Kp.true (Y.move rfl rfl) ?_
  refine Jp.y 11 rfl (want_all rfl) rfl rfl Kp.true (Y.move rfl rfl) ?_
  refine Jp.y 12 rfl (want_all rfl) rfl rfl Kp.true (Y.lenslice rfl Try.underlying38 rfl) ?_
  refine Jp.y 13 rfl (want_all rfl) rfl rfl Kp.true (Y.lss rfl rfl rfl) ?_
  refine Jp.done hK21 ?_
  refine Cd.cond rfl (fun ga => ?_) (fun ga => ?_)
  · have hil : i < xs.length := by simp at ga; omega
    have hx : xs[i]? = some xs[i] := List.getElem?_eq_getElem hil
    obtain ⟨u, hu⟩ : ∃ u, u = xs[i] := ⟨_, rfl⟩
    rw [← hu] at hx
    obtain ⟨sd, hA, hc⟩ := RdB.cell hr hx
    dsimp only at hA
    subst hA
    obtain ⟨p, hg0⟩ := hthere i hil
    obtain ⟨p', hg, _, _⟩ := wrM_page a xs hg0 i
    have hmi := wrM_ok hmem a xs i
    have hB := wrM_bump (M := M) (a := a) (l := xs) hx hg
    have hS := wrM_still (M := M) (a := a) (l := xs) hx hg
    have hroom := hmi.room
    have hbud := hmi.budget.2
    obtain ⟨M2, hM2⟩ : ∃ M2, wrM M a xs (i + 1) = M2 := ⟨_, rfl⟩
    obtain ⟨M1, hM1⟩ : ∃ M1, wrM M a xs i = M1 := ⟨_, rfl⟩
    rw [hM2] at hB hS
    obtain ⟨ad, had⟩ : ∃ ad, a + i = ad := ⟨_, rfl⟩
    rw [hM1, had] at hg hB hS
    rw [hM1] at hmi hroom hbud ⊢
    have hadl : ad < 4294967296 := by omega
    have hlen := (hmi.page _ (getPg_mem hg)).len
    have hperm := (hmi.page _ (getPg_mem hg)).perm
    dsimp only at hlen hperm
    have hpx := pos_some hmi.rising hg
    have hps := pos_set (p := ⟨p'.b.set (ad % 256) u, p'.perm⟩) hmi.rising hg
    have hm : ad % 256 < 256 := Nat.mod_lt _ (by decide)
    have hok2 := hmi.set (p' := ⟨p'.b.set (ad % 256) u, p'.perm⟩) hg (by simpa using hlen) hperm
    refine Cd.skip hK20 ?_
    refine Cd.seq fun K22 hK22 => ?_
    refine Cd.block ?_
    refine Cd.seq fun K23 hK23 => ?_
    refine Cd.plain [(0, false), (1, false), (2, false), (3, false), (4, false)] rfl rfl ?_
    refine Jp.y 16 rfl (want_all rfl) rfl rfl Kp.true (Y.move rfl rfl) ?_
    refine Jp.y 17 rfl (want_all rfl) rfl rfl Kp.true (Y.move rfl rfl) ?_
    refine Jp.y 18 rfl (want_all rfl) rfl rfl Kp.true (Y.conv_ rfl rfl Try.underlying3 Try.underlying25 (by first | exact wrap_u32 (by omega) (by omega) | rfl)) ?_
    refine Jp.y 19 rfl (want_all rfl) rfl rfl Kp.true (Y.add_ rfl rfl rfl (by first | exact wrap_u32 (by omega) (by omega) | rfl)) ?_
    refine Jp.slot 19 rfl (show _ = Value.int .u32 (ad : Int) from congrArg (Value.int .u32) (by omega)) ?_
    refine Jp.y 7 rfl (want_all rfl) rfl rfl Kp.true (Y.assign rfl rfl) ?_
    refine Jp.done hK23 ?_
    refine Cd.seq fun K24 hK24 => ?_
    refine Cd.plain [(0, false), (1, false), (2, false), (3, false), (4, false), (5, false), (6, false), (7, false)] rfl rfl ?_
    refine Jp.y 21 rfl (want_all rfl) rfl rfl Kp.true (Y.move rfl rfl) ?_
    refine Jp.y 22 rfl (want_all rfl) rfl rfl Kp.true (Y.move rfl rfl) ?_
    refine Jp.call [0] [0] (refAt_spec b M1 ad hadl) 23 rfl (want_all rfl) rfl rfl (Runs.fn rfl Try.call92 rfl) (by decide) (by decide) rfl trivial ?_
    rintro v1 ρ1 L1 ⟨rfl, rfl, rfl⟩
    refine ⟨rfl, fun hle1 => ⟨Kp.true, ?_⟩⟩
    obtain ⟨f, hfp⟩ : ∃ f, posA M1.pages (baseN ad) = f := ⟨_, rfl⟩
    rw [hfp] at hpx hps ⊢
    have hfl := (List.getElem?_eq_some_iff.1 hpx).1
    obtain ⟨l2, hl2⟩ : ∃ l2, setPg M1.pages (baseN ad) ⟨p'.b.set (ad % 256) u, p'.perm⟩ = l2 := ⟨_, rfl⟩
    rw [hl2] at hB hS hps hok2
    have hl2l : l2.length = M1.pages.length := by rw [hps, List.length_set]
    have hrows1 : ∀ y ∈ M1.pages, (refPg y).length = 258 := fun y hy => refPg_len (hmi.page y hy).len
    have hset : (M1.pages.flatMap refPg).set (f * 258 + (2 + ad % 256)) (.int .u8 (u.toNat : Int)) = l2.flatMap refPg := by
      rw [hps]
      exact rs_set hrows1 hpx (by omega) (refPg_setB _ _ _)
    refine Jp.y 20 rfl (want_all rfl) rfl rfl Kp.true (Y.move rfl rfl) ?_
    refine Jp.y 24 rfl (want_all rfl) rfl rfl Kp.true (Y.extract rfl rfl rfl) ?_
    refine Jp.y 25 rfl (want_all rfl) rfl rfl Kp.true (Y.extract rfl rfl rfl) ?_
    refine Jp.y 8 rfl (want_all rfl) rfl rfl Kp.true (Y.assign rfl rfl) ?_
    refine Jp.y 9 rfl (want_all rfl) rfl rfl Kp.true (Y.assign rfl rfl) ?_
    refine Jp.refOpen 0 1 2 (by decide) rfl fun A1 c1 B dg gl hf => ?_
    refine Jp.ownAt 1 rfl (show 0 < M1.pages.length by omega) ?_
    rintro b1 rfl
    refine Jp.done hK24 ?_
    refine Cd.seq fun K25 hK25 => ?_
    refine Cd.drawn [(0, _)] ⟨rfl, trivial⟩ [(0, true), (1, true), (2, true), (3, true), (4, true), (5, true), (6, true), (7, true), (8, true), (9, true), (10, true), (11, true), (12, true), (13, true), (14, false)] follows (by kernel_rfl) (fun hrl => ?_)
    refine Jp.q 26 rfl (want_all rfl) rfl rfl (Y.move rfl rfl) ?_
    refine Jp.q 27 rfl (want_all rfl) rfl rfl (Y.nilCheck rfl rfl) ?_
    refine Jp.q 28 rfl (want_all rfl) rfl rfl (by first | exact Y.fieldAddrP rfl rfl Try.underlying88 rfl Try.sizeOf85 (by decide) (show _ + 1 = _ from rfl) | exact Y.fieldAddr rfl rfl Try.underlying88 rfl Try.sizeOf85 (by decide)) ?_
    refine Jp.q 29 rfl (want_all rfl) rfl rfl (by first | exact Y.loadO 0 rfl Try.isAgg85 rfl rfl rfl | exact Y.loadR rfl Try.isAgg85 rfl hc) ?_
    refine Jp.q 30 rfl (want_all rfl) rfl rfl (Y.move rfl rfl) ?_
    refine Jp.q 31 rfl (want_all rfl) rfl rfl (Y.move rfl rfl) ?_
    refine Jp.q 32 rfl (want_all rfl) rfl rfl (by first | exact Y.remN rfl rfl rfl (by omega) (by omega) | exact Y.rem rfl rfl rfl (by first | decide | omega)) ?_
    refine Jp.q 33 rfl (want_all rfl) rfl rfl (Y.move rfl rfl) ?_
    refine Jp.q 34 rfl (want_all rfl) rfl rfl (Y.move rfl rfl) ?_
    refine Jp.q 35 rfl (want_all rfl) rfl rfl (Y.indexAddr (q := i) rfl rfl rfl Try.underlying38 Try.sizeOf5 (by omega) (by omega) (by omega)) ?_
    refine Jp.q 36 rfl (want_all rfl) rfl rfl (by first | exact Y.loadO 0 rfl Try.isAgg5 rfl rfl rfl | exact Y.loadR rfl Try.isAgg5 rfl hc) ?_
    refine Jp.q 37 rfl (want_all rfl) rfl rfl (Y.indexAddr (q := f * 258) rfl rfl rfl Try.underlying85 Try.sizeOf108 (by omega) (by omega) (by omega)) ?_
    refine Jp.slot 37 rfl (show _ = Value.pointer (some ⟨b1, f * 258, none⟩) by rw [add_mk, Nat.zero_add]) ?_
    refine Jp.slot 32 rfl (show _ = Value.int .u32 ((ad % 256 : Nat) : Int) from congrArg (Value.int .u32) (by omega)) ?_
    refine Jp.q 38 rfl (want_all rfl) rfl rfl (by first | exact Y.fieldAddrP rfl rfl Try.underlying108 rfl Try.sizeOf106 (by decide) (show _ + 2 = _ from rfl) | exact Y.fieldAddr rfl rfl Try.underlying108 rfl Try.sizeOf106 (by decide)) ?_
    refine Jp.q 39 rfl (want_all rfl) rfl rfl (Y.indexArrP (q := f * 258 + (2 + ad % 256)) rfl rfl rfl Try.underlying106 Try.sizeOf5 (by omega) (by omega) (by omega)) ?_
    refine Jp.storeS 1 (q := f * 258 + (2 + ad % 256)) rfl (want_all rfl) rfl rfl Try.sizeOf5 rfl rfl rfl rfl (by rw [add_mk, Nat.zero_add]) (by omega) (l2.flatMap refPg) hset Kp.last ?_
    rw [← hl2l]
    refine Jp.refClose (b := b) (M := { M1 with pages := l2 }) (A := some ⟨b1, 0, none⟩) (c := c1) (B := B) (d' := dg) (g := gl) 0 1 2 (by decide) ⟨hok2, hf.gen⟩ rfl rfl rfl ?_
    refine Jp.done hK25 ?_
    refine Cd.seq fun K27 hK27 => ?_
    refine Cd.plain [(0, false), (1, false), (2, false), (3, false), (4, false), (5, false), (6, false)] rfl rfl ?_
    refine Jp.y 40 rfl (want_all rfl) rfl rfl Kp.true (Y.move rfl rfl) ?_
    refine Jp.y 41 rfl (want_all rfl) rfl rfl Kp.true (Y.eql rfl rfl rfl) ?_
    by_cases hi0 : i = 0
    · skip
      refine Jp.slot 41 rfl (show _ = Value.bool true from congrArg Value.bool (by rw [hi0]; rfl)) ?_
      refine Jp.y 42 rfl (want_all rfl) rfl rfl Kp.true (Y.move rfl rfl) ?_
      refine Jp.slot 42 rfl (show _ = Value.bool true from rfl) ?_
      refine Jp.skip 43 rfl (want_as rfl rfl rfl rfl) rfl rfl Kp.true ?_
      refine Jp.skip 44 rfl (want_as rfl rfl rfl rfl) rfl rfl Kp.true ?_
      refine Jp.skip 45 rfl (want_as rfl rfl rfl rfl) rfl rfl Kp.true ?_
      refine Jp.y 46 rfl (want_all rfl) rfl rfl Kp.true (Y.pickT rfl rfl rfl) ?_
      refine Jp.done hK27 ?_
      refine Cd.condT rfl ?_
      refine Cd.plain [(0, false), (1, false), (2, false)] rfl rfl ?_
      refine Jp.y 47 rfl (want_all rfl) rfl rfl Kp.true (Y.move rfl rfl) ?_
      refine Jp.y 48 rfl (want_all rfl) rfl rfl Kp.true (Y.move rfl rfl) ?_
      refine Jp.call [0] [0] (refBump_spec b { M1 with pages := l2 } ad hadl) 49 rfl (want_all rfl) rfl rfl (Runs.fn rfl Try.call93 rfl) (by decide) (by decide) rfl trivial ?_
      rintro v1 ρ1 L1 ⟨rfl, rfl, rfl⟩
      refine ⟨rfl, fun hle1 => ⟨Kp.true, ?_⟩⟩
      rw [← hB (.inl hi0), ← hM2]
      refine Jp.over rfl hK22 ?_
      refine Cd.plain [(0, false), (1, false), (2, false)] rfl rfl ?_
      refine Jp.y 14 rfl (want_all rfl) rfl rfl Kp.true (Y.move rfl rfl) ?_
      refine Jp.y 15 rfl (want_all rfl) rfl rfl Kp.true (Y.add_ rfl rfl rfl (by first | exact wrap_i64 (by omega) (by omega) | rfl)) ?_
      refine Jp.y 6 rfl (want_all rfl) rfl rfl Kp.true (Y.assign rfl rfl) ?_
      rw [show (i : Int) + 1 = ((i + 1 : Nat) : Int) by omega]
      refine Jp.again hLa (i + 1) (by omega) (by omega) rfl ⟨rfl, rfl, rfl, rfl, trivial⟩ ⟨rfl, trivial⟩
    · skip
      refine Jp.slot 41 rfl (show _ = Value.bool false from congrArg Value.bool (by simp; omega)) ?_
      refine Jp.y 42 rfl (want_all rfl) rfl rfl Kp.true (Y.move rfl rfl) ?_
      refine Jp.slot 42 rfl (show _ = Value.bool false from rfl) ?_
      refine Jp.y 43 rfl (want_as rfl rfl rfl rfl) rfl rfl Kp.true (Y.move rfl rfl) ?_
      refine Jp.y 44 rfl (want_as rfl rfl rfl rfl) rfl rfl Kp.true (by first | exact Y.remN rfl rfl rfl (by omega) (by omega) | exact Y.rem rfl rfl rfl (by first | decide | omega)) ?_
      refine Jp.y 45 rfl (want_as rfl rfl rfl rfl) rfl rfl Kp.true (Y.eql rfl rfl rfl) ?_
      refine Jp.y 46 rfl (want_all rfl) rfl rfl Kp.true (Y.pickF rfl rfl rfl) ?_
      refine Jp.done hK27 ?_
      refine Cd.cond rfl (fun gz => ?_) (fun gz => ?_)
      · have hz : ad % 256 = 0 := by simp at gz; omega
        refine Cd.plain [(0, false), (1, false), (2, false)] rfl rfl ?_
        refine Jp.y 47 rfl (want_all rfl) rfl rfl Kp.true (Y.move rfl rfl) ?_
        refine Jp.y 48 rfl (want_all rfl) rfl rfl Kp.true (Y.move rfl rfl) ?_
        refine Jp.call [0] [0] (refBump_spec b { M1 with pages := l2 } ad hadl) 49 rfl (want_all rfl) rfl rfl (Runs.fn rfl Try.call93 rfl) (by decide) (by decide) rfl trivial ?_
        rintro v1 ρ1 L1 ⟨rfl, rfl, rfl⟩
        refine ⟨rfl, fun hle1 => ⟨Kp.true, ?_⟩⟩
        rw [← hB (.inr hz), ← hM2]
        refine Jp.over rfl hK22 ?_
        refine Cd.plain [(0, false), (1, false), (2, false)] rfl rfl ?_
        refine Jp.y 14 rfl (want_all rfl) rfl rfl Kp.true (Y.move rfl rfl) ?_
        refine Jp.y 15 rfl (want_all rfl) rfl rfl Kp.true (Y.add_ rfl rfl rfl (by first | exact wrap_i64 (by omega) (by omega) | rfl)) ?_
        refine Jp.y 6 rfl (want_all rfl) rfl rfl Kp.true (Y.assign rfl rfl) ?_
        rw [show (i : Int) + 1 = ((i + 1 : Nat) : Int) by omega]
        refine Jp.again hLa (i + 1) (by omega) (by omega) rfl ⟨rfl, rfl, rfl, rfl, trivial⟩ ⟨rfl, trivial⟩
      · have hz : ad % 256 ≠ 0 := by simp at gz; omega
        rw [← hS (by omega), ← hM2]
        refine Cd.over rfl hK22 ?_
        refine Cd.plain [(0, false), (1, false), (2, false)] rfl rfl ?_
        refine Jp.y 14 rfl (want_all rfl) rfl rfl Kp.true (Y.move rfl rfl) ?_
        refine Jp.y 15 rfl (want_all rfl) rfl rfl Kp.true (Y.add_ rfl rfl rfl (by first | exact wrap_i64 (by omega) (by omega) | rfl)) ?_
        refine Jp.y 6 rfl (want_all rfl) rfl rfl Kp.true (Y.assign rfl rfl) ?_
        rw [show (i : Int) + 1 = ((i + 1 : Nat) : Int) by omega]
        refine Jp.again hLa (i + 1) (by omega) (by omega) rfl ⟨rfl, rfl, rfl, rfl, trivial⟩ ⟨rfl, trivial⟩
  · have hil : i = xs.length := by have : ¬ i < xs.length := by simp at ga; omega
                                   omega
    rw [hil]
    refine Cdx.end [(0, _)] rfl (res0 rfl) ⟨rfl, trivial⟩ ⟨rfl, rfl, rfl⟩
theorem refWrite_spec (b : Nat) (M : MemG) (a : Nat) (s : Sl UInt8) (ha : a < 4294967296) : Spec Try.prog 55 #[.pointer (some ⟨b, 0, none⟩), .int .u32 a, s.v] (RdB s) [(0, RefO b M)]
    (fun ρ ρ' v L => ρ' = ρ ∧ v = .int .i64 (writeM M a s.xs 4096 2).1 ∧ L = [(0, RefO b (writeM M a s.xs 4096 2).2)]) := by
  have hP := refPut_spec b M a s ha
  obtain ⟨A, c, xs⟩ := s
  dsimp only [Sl.v] at hP ⊢
  refine Spec.of 20 Try.func55 rfl Try.ntmps55 [(0, _), (1, _), (2, _)] rfl rfl ?_
  intro cx ρ hr h0
  have lx : xs.length ≤ 281474976710656 := hr.2.1.2
  refine Cd.seq fun K28 hK28 => ?_
  refine Cd.plain [(0, false)] rfl rfl ?_
  refine Jp.y 6 rfl (want_all rfl) rfl rfl Kp.true (Y.assign rfl rfl) ?_
  refine Jp.done hK28 ?_
  refine Cd.seq fun K29 hK29 => ?_
  refine Cd.seq fun K30 hK30 => ?_
  refine Cd.plain [(0, false), (1, false), (2, false)] rfl rfl ?_
  refine Jp.y 7 rfl (want_all rfl) rfl rfl Kp.true (Y.move rfl rfl) ?_
  refine Jp.y 8 rfl (want_all rfl) rfl rfl Kp.true (Y.lenslice rfl Try.underlying38 rfl) ?_
  refine Jp.y 9 rfl (want_all rfl) rfl rfl Kp.true (Y.gtr rfl rfl rfl) ?_
  refine Jp.done hK30 ?_
  refine Cd.cond rfl (fun g9 => ?_) (fun g9 => ?_)
  · skip
    try simp only [decide_eq_false_iff_not, decide_eq_true_eq, Int.not_lt, Int.not_le, Bool.not_eq_false, Bool.not_eq_true, Bool.not_true, Bool.not_false, Bool.not_eq_true', Bool.not_eq_false', beq_eq_false_iff_ne, ne_eq, beq_iff_eq, bne_iff_ne, bne_eq_false_iff_eq, Classical.not_not] at g9
    refine Cd.seq fun K31 hK31 => ?_
    refine Cd.plain [(0, false)] rfl rfl ?_
    refine Jp.y 6 rfl (want_all rfl) rfl rfl Kp.true (Y.assign rfl rfl) ?_
    refine Jp.done hK31 ?_
    have hV : writeM M a xs 4096 2 = (1, M) := by rw [writeM, if_pos (by omega)]
    refine Cd.ret [(0, _)] rfl (res1 rfl rfl) ⟨rfl, trivial⟩ ⟨rfl, by rw [hV], by rw [hV]⟩
  try simp only [decide_eq_false_iff_not, decide_eq_true_eq, Int.not_lt, Int.not_le, Bool.not_eq_false, Bool.not_eq_true, Bool.not_true, Bool.not_false, Bool.not_eq_true', Bool.not_eq_false', beq_eq_false_iff_ne, ne_eq, beq_iff_eq, bne_iff_ne, bne_eq_false_iff_eq, Classical.not_not] at g9
  refine Cd.skip hK29 ?_
  refine Cd.seq fun K32 hK32 => ?_
  refine Cd.seq fun K33 hK33 => ?_
  refine Cd.plain [(0, false), (1, false), (2, false), (3, false), (4, false), (5, false)] rfl rfl ?_
  refine Jp.y 10 rfl (want_all rfl) rfl rfl Kp.true (Y.move rfl rfl) ?_
  refine Jp.y 11 rfl (want_all rfl) rfl rfl Kp.true (Y.move rfl rfl) ?_
  refine Jp.y 12 rfl (want_all rfl) rfl rfl Kp.true (Y.move rfl rfl) ?_
  refine Jp.y 13 rfl (want_all rfl) rfl rfl Kp.true (Y.lenslice rfl Try.underlying38 rfl) ?_
  refine Jp.call [0] [0] (refMay_spec b M a xs.length 2 ha (by omega)) 14 rfl (want_all rfl) rfl rfl (Runs.fn rfl Try.call97 rfl) (by decide) (by decide) rfl trivial ?_
  rintro v1 ρ1 L1 ⟨rfl, rfl, rfl⟩
  refine ⟨rfl, fun hle1 => ⟨Kp.true, ?_⟩⟩
  refine Jp.y 15 rfl (want_all rfl) rfl rfl Kp.true (Y.not rfl rfl) ?_
  refine Jp.done hK33 ?_
  refine Cd.cond rfl (fun g15 => ?_) (fun g15 => ?_)
  · skip
    try simp only [decide_eq_false_iff_not, decide_eq_true_eq, Int.not_lt, Int.not_le, Bool.not_eq_false, Bool.not_eq_true, Bool.not_true, Bool.not_false, Bool.not_eq_true', Bool.not_eq_false', beq_eq_false_iff_ne, ne_eq, beq_iff_eq, bne_iff_ne, bne_eq_false_iff_eq, Classical.not_not] at g15
    refine Cd.seq fun K34 hK34 => ?_
    refine Cd.plain [(0, false)] rfl rfl ?_
    refine Jp.y 6 rfl (want_all rfl) rfl rfl Kp.true (Y.assign rfl rfl) ?_
    refine Jp.done hK34 ?_
    have hV : writeM M a xs 4096 2 = (8, M) := by rw [writeM, if_neg (by omega), if_pos (by simpa using g15)]
    refine Cd.ret [(0, _)] rfl (res1 rfl rfl) ⟨rfl, trivial⟩ ⟨rfl, by rw [hV], by rw [hV]⟩
  try simp only [decide_eq_false_iff_not, decide_eq_true_eq, Int.not_lt, Int.not_le, Bool.not_eq_false, Bool.not_eq_true, Bool.not_true, Bool.not_false, Bool.not_eq_true', Bool.not_eq_false', beq_eq_false_iff_ne, ne_eq, beq_iff_eq, bne_iff_ne, bne_eq_false_iff_eq, Classical.not_not] at g15
  refine Cd.skip hK32 ?_
  refine Cd.seq fun K35 hK35 => ?_
  refine Cd.plain [(0, false), (1, false), (2, false), (3, false)] rfl rfl ?_
  have hall : allM M a xs.length 2 = true := by simpa using g15
  have hV : writeM M a xs 4096 2 = (0, wrM M a xs xs.length) := by rw [writeM, if_neg (by omega), if_neg (by rw [hall]; simp)]
  have hle2 : xs.length ≠ 0 → a + xs.length ≤ 4294967296 := fun h => (allM_page hall (Nat.pos_of_ne_zero h)).1
  refine Jp.y 16 rfl (want_all rfl) rfl rfl Kp.true (Y.move rfl rfl) ?_
  refine Jp.y 17 rfl (want_all rfl) rfl rfl Kp.true (Y.move rfl rfl) ?_
  refine Jp.y 18 rfl (want_all rfl) rfl rfl Kp.true (Y.move rfl rfl) ?_
  refine Jp.call [0] [0] (hP (by omega) (by omega) (fun i hi => by obtain ⟨_, p, hg, _⟩ := allM_page hall hi; exact ⟨p, hg⟩)) 19 rfl (want_all rfl) rfl rfl (Runs.fn rfl Try.call98 rfl) (by decide) (by decide) rfl hr ?_
  rintro v2 ρ2 L2 ⟨rfl, rfl, rfl⟩
  refine ⟨rfl, fun hle2 => ⟨Kp.true, ?_⟩⟩
  refine Jp.done hK35 ?_
  refine Cd.seq fun K36 hK36 => ?_
  refine Cd.plain [(0, false)] rfl rfl ?_
  refine Jp.y 6 rfl (want_all rfl) rfl rfl Kp.true (Y.assign rfl rfl) ?_
  refine Jp.done hK36 ?_
  refine Cd.ret [(0, _)] rfl (res1 rfl rfl) ⟨rfl, trivial⟩ ⟨rfl, by rw [hV], by rw [hV]⟩
theorem refPoke_spec (b : Nat) (M : MemG) (a : Nat) (s : Sl UInt8) (ha : a < 4294967296) : Spec Try.prog 56 #[.pointer (some ⟨b, 0, none⟩), .int .u32 a, s.v] (RdB s) [(0, RefO b M)]
    (fun ρ ρ' v L => ρ' = ρ ∧ v = .int .i64 (writeM M a s.xs 65536 0).1 ∧ L = [(0, RefO b (writeM M a s.xs 65536 0).2)]) := by
  have hP := refPut_spec b M a s ha
  obtain ⟨A, c, xs⟩ := s
  dsimp only [Sl.v] at hP ⊢
  refine Spec.of 20 Try.func56 rfl Try.ntmps56 [(0, _), (1, _), (2, _)] rfl rfl ?_
  intro cx ρ hr h0
  have lx : xs.length ≤ 281474976710656 := hr.2.1.2
  refine Cd.seq fun K37 hK37 => ?_
  refine Cd.plain [(0, false)] rfl rfl ?_
  refine Jp.y 6 rfl (want_all rfl) rfl rfl Kp.true (Y.assign rfl rfl) ?_
  refine Jp.done hK37 ?_
  refine Cd.seq fun K38 hK38 => ?_
  refine Cd.seq fun K39 hK39 => ?_
  refine Cd.plain [(0, false), (1, false), (2, false)] rfl rfl ?_
  refine Jp.y 7 rfl (want_all rfl) rfl rfl Kp.true (Y.move rfl rfl) ?_
  refine Jp.y 8 rfl (want_all rfl) rfl rfl Kp.true (Y.lenslice rfl Try.underlying38 rfl) ?_
  refine Jp.y 9 rfl (want_all rfl) rfl rfl Kp.true (Y.gtr rfl rfl rfl) ?_
  refine Jp.done hK39 ?_
  refine Cd.cond rfl (fun g9 => ?_) (fun g9 => ?_)
  · skip
    try simp only [decide_eq_false_iff_not, decide_eq_true_eq, Int.not_lt, Int.not_le, Bool.not_eq_false, Bool.not_eq_true, Bool.not_true, Bool.not_false, Bool.not_eq_true', Bool.not_eq_false', beq_eq_false_iff_ne, ne_eq, beq_iff_eq, bne_iff_ne, bne_eq_false_iff_eq, Classical.not_not] at g9
    refine Cd.seq fun K40 hK40 => ?_
    refine Cd.plain [(0, false)] rfl rfl ?_
    refine Jp.y 6 rfl (want_all rfl) rfl rfl Kp.true (Y.assign rfl rfl) ?_
    refine Jp.done hK40 ?_
    have hV : writeM M a xs 65536 0 = (1, M) := by rw [writeM, if_pos (by omega)]
    refine Cd.ret [(0, _)] rfl (res1 rfl rfl) ⟨rfl, trivial⟩ ⟨rfl, by rw [hV], by rw [hV]⟩
  try simp only [decide_eq_false_iff_not, decide_eq_true_eq, Int.not_lt, Int.not_le, Bool.not_eq_false, Bool.not_eq_true, Bool.not_true, Bool.not_false, Bool.not_eq_true', Bool.not_eq_false', beq_eq_false_iff_ne, ne_eq, beq_iff_eq, bne_iff_ne, bne_eq_false_iff_eq, Classical.not_not] at g9
  refine Cd.skip hK38 ?_
  refine Cd.seq fun K41 hK41 => ?_
  refine Cd.seq fun K42 hK42 => ?_
  refine Cd.plain [(0, false), (1, false), (2, false), (3, false), (4, false), (5, false)] rfl rfl ?_
  refine Jp.y 10 rfl (want_all rfl) rfl rfl Kp.true (Y.move rfl rfl) ?_
  refine Jp.y 11 rfl (want_all rfl) rfl rfl Kp.true (Y.move rfl rfl) ?_
  refine Jp.y 12 rfl (want_all rfl) rfl rfl Kp.true (Y.move rfl rfl) ?_
  refine Jp.y 13 rfl (want_all rfl) rfl rfl Kp.true (Y.lenslice rfl Try.underlying38 rfl) ?_
  refine Jp.call [0] [0] (refMay_spec b M a xs.length 0 ha (by omega)) 14 rfl (want_all rfl) rfl rfl (Runs.fn rfl Try.call97 rfl) (by decide) (by decide) rfl trivial ?_
  rintro v1 ρ1 L1 ⟨rfl, rfl, rfl⟩
  refine ⟨rfl, fun hle1 => ⟨Kp.true, ?_⟩⟩
  refine Jp.y 15 rfl (want_all rfl) rfl rfl Kp.true (Y.not rfl rfl) ?_
  refine Jp.done hK42 ?_
  refine Cd.cond rfl (fun g15 => ?_) (fun g15 => ?_)
  · skip
    try simp only [decide_eq_false_iff_not, decide_eq_true_eq, Int.not_lt, Int.not_le, Bool.not_eq_false, Bool.not_eq_true, Bool.not_true, Bool.not_false, Bool.not_eq_true', Bool.not_eq_false', beq_eq_false_iff_ne, ne_eq, beq_iff_eq, bne_iff_ne, bne_eq_false_iff_eq, Classical.not_not] at g15
    refine Cd.seq fun K43 hK43 => ?_
    refine Cd.plain [(0, false)] rfl rfl ?_
    refine Jp.y 6 rfl (want_all rfl) rfl rfl Kp.true (Y.assign rfl rfl) ?_
    refine Jp.done hK43 ?_
    have hV : writeM M a xs 65536 0 = (8, M) := by rw [writeM, if_neg (by omega), if_pos (by simpa using g15)]
    refine Cd.ret [(0, _)] rfl (res1 rfl rfl) ⟨rfl, trivial⟩ ⟨rfl, by rw [hV], by rw [hV]⟩
  try simp only [decide_eq_false_iff_not, decide_eq_true_eq, Int.not_lt, Int.not_le, Bool.not_eq_false, Bool.not_eq_true, Bool.not_true, Bool.not_false, Bool.not_eq_true', Bool.not_eq_false', beq_eq_false_iff_ne, ne_eq, beq_iff_eq, bne_iff_ne, bne_eq_false_iff_eq, Classical.not_not] at g15
  refine Cd.skip hK41 ?_
  refine Cd.seq fun K44 hK44 => ?_
  refine Cd.plain [(0, false), (1, false), (2, false), (3, false)] rfl rfl ?_
  have hall : allM M a xs.length 0 = true := by simpa using g15
  have hV : writeM M a xs 65536 0 = (0, wrM M a xs xs.length) := by rw [writeM, if_neg (by omega), if_neg (by rw [hall]; simp)]
  have hle2 : xs.length ≠ 0 → a + xs.length ≤ 4294967296 := fun h => (allM_page hall (Nat.pos_of_ne_zero h)).1
  refine Jp.y 16 rfl (want_all rfl) rfl rfl Kp.true (Y.move rfl rfl) ?_
  refine Jp.y 17 rfl (want_all rfl) rfl rfl Kp.true (Y.move rfl rfl) ?_
  refine Jp.y 18 rfl (want_all rfl) rfl rfl Kp.true (Y.move rfl rfl) ?_
  refine Jp.call [0] [0] (hP (by omega) (by omega) (fun i hi => by obtain ⟨_, p, hg, _⟩ := allM_page hall hi; exact ⟨p, hg⟩)) 19 rfl (want_all rfl) rfl rfl (Runs.fn rfl Try.call98 rfl) (by decide) (by decide) rfl hr ?_
  rintro v2 ρ2 L2 ⟨rfl, rfl, rfl⟩
  refine ⟨rfl, fun hle2 => ⟨Kp.true, ?_⟩⟩
  refine Jp.done hK44 ?_
  refine Cd.seq fun K45 hK45 => ?_
  refine Cd.plain [(0, false)] rfl rfl ?_
  refine Jp.y 6 rfl (want_all rfl) rfl rfl Kp.true (Y.assign rfl rfl) ?_
  refine Jp.done hK45 ?_
  refine Cd.ret [(0, _)] rfl (res1 rfl rfl) ⟨rfl, trivial⟩ ⟨rfl, by rw [hV], by rw [hV]⟩
end Go.Proofs.Ytgmhijlcdadaeaa
