/- Contracts: within, look. -/
import Derived.Test.YtgfbdiibndbbjaaMemB
set_option linter.unusedVariables false
set_option linter.unusedSimpArgs false
set_option maxRecDepth 100000
namespace Go.Proofs.Ytgfbdiibndbbjaa
open Go
/-- Seen so far: a list that has, beside what is left, all keys of the map. -/
theorem within_spec (b : Nat) (M : MemG) (x : MemX) (hf : MemF M x) (a many : Nat) (ha : a < 4294967296) (hm : many ≤ 16777216) : Spec Try.prog 50 #[.pointer (some ⟨b, 0, none⟩), .int .u32 a, .int .u64 many] (fun _ => True) [(0, Pt b (memObj M x)), (1, MapO .u32 x.pb x.pm)]
    (fun ρ ρ' v L => ρ' = ρ ∧ ∃ l A c, l.Perm (withinP M a many) ∧ v = .slice A l.length c ∧ L = [(0, Pt b (memObj M x)), (1, MapO .u32 x.pb x.pm), (2, OwnS 26 1 A l.length c (natsV .u32 l))]) := by
  refine Spec.of 36 Try.func50 rfl Try.ntmps50 [(0, _), (1, _), (2, _)] rfl rfl ?_
  intro cx ρ hr h0
  have hlen := hf.pages.length_eq
  have hroom := hf.ok.room
  have hbud := hf.ok.budget.2
  refine Cd.make 2 (A := OwnS 26 1 none 0 0 []) (OwnS.nil _ _ _) ?_
  refine Cd.seq fun K1 hK1 => ?_
  refine Cd.plain [(0, false)] rfl rfl ?_
  refine Jp.y 6 rfl (want_all rfl) rfl rfl Kp.true (Y.assign rfl rfl) ?_
  refine Jp.done hK1 ?_
  refine Cd.seq fun K2 hK2 => ?_
  refine Cd.plain [(0, false)] rfl rfl ?_
  refine Jp.y 7 rfl (want_all rfl) rfl rfl Kp.true (Y.assign rfl rfl) ?_
  refine Jp.done hK2 ?_
  refine Cd.seq fun K3 hK3 => ?_
  refine Cd.seq fun K4 hK4 => ?_
  refine Cd.plain [(0, false), (1, false), (2, false), (3, false), (4, false)] rfl rfl ?_
  refine Jp.y 9 rfl (want_all rfl) rfl rfl Kp.true (Y.move rfl rfl) ?_
  refine Jp.y 10 rfl (want_all rfl) rfl rfl Kp.true (Y.nilCheck rfl rfl) ?_
  refine Jp.y 11 rfl (want_all rfl) rfl rfl Kp.true (by first | exact Y.fieldAddrP rfl rfl Try.underlying79 rfl Try.sizeOf76 (by decide) (show _ + 1 = _ from rfl) | exact Y.fieldAddr rfl rfl Try.underlying79 rfl Try.sizeOf76 (by decide)) ?_
  refine Jp.y 12 rfl (want_all rfl) rfl rfl Kp.true (Y.loadO 0 rfl Try.isAgg76 rfl rfl rfl) ?_
  first | refine Jp.range 13 1 50 (by decide) rfl (want_all rfl) rfl rfl rfl rfl Try.underlying76 rfl fun r1 => ⟨Kp.true, ?_⟩
  refine Jp.done hK4 ?_
  refine Cd.block ?_
  obtain ⟨K, hK⟩ : ∃ K : MapL → List Nat, K = fun l => (l.filter fun y => inS a many y.1.toNat).map fun y => y.1.toNat := ⟨_, rfl⟩
  have hstart : (K x.pm).Perm (withinP M a many) := by
    rw [hK, withinP]
    refine ((hf.pages.filter _).map _).trans ?_
    rw [List.filter_map, List.map_map]
    exact List.Perm.of_eq rfl
  have hwl : (withinP M a many).length ≤ 4096 := by
    rw [withinP, List.length_map]
    exact Nat.le_trans (List.length_filter_le _ _) (Nat.le_trans hroom hbud)
  refine Cd.loopK (G := MapL × List Nat × Option Addr × Nat × Option (Int × Value)) (fun g => (g.2.1 ++ K g.1).Perm (withinP M a many) ∧ ∀ y ∈ g.1, y ∈ x.pm) (fun g => g.1.length) (fun _ => _) (fun g => [(7, .slice g.2.2.1 g.2.1.length g.2.2.2.1)]) [(1, _), (2, _), (13, _)] (fun g => [(1, RangeO .u32 x.pb r1 x.pm g.1 g.2.2.2.2), (2, OwnS 26 1 g.2.2.1 g.2.1.length g.2.2.2.1 (natsV .u32 g.2.1))]) [(0, _)] ⟨x.pm, [], none, 0, none⟩ ⟨hstart, fun y h => h⟩ rfl ⟨rfl, trivial⟩ ⟨rfl, rfl, rfl, trivial⟩ ⟨rfl, rfl, trivial⟩ ⟨rfl, trivial⟩ (fun g KLa hok hLa => ?_)
  obtain ⟨left, l, A, c, cur⟩ := g
  obtain ⟨ok1, ok2⟩ := hok
  dsimp only at ok1 ok2 ⊢
  refine Cd.seq fun K5 hK5 => ?_
  refine Cd.plain [(0, false), (1, false)] rfl rfl ?_
  refine Jp.next 14 1 rfl (want_all rfl) rfl rfl (fun _ => rfl) rfl rfl (fun hn => ⟨Kp.true, ?_⟩) (fun q y hq => ⟨Kp.true, ?_⟩)
  · skip
    refine Jp.y 15 rfl (want_all rfl) rfl rfl Kp.true (Y.extract rfl rfl rfl) ?_
    refine Jp.done hK5 ?_
    refine Cd.seq fun K6 hK6 => ?_
    refine Cd.condF rfl ?_
    refine Cd.exit rfl hK3 ?_
    refine Cd.seq fun K7 hK7 => ?_
    refine Cd.plain [(0, false), (1, false)] rfl rfl ?_
    refine Jp.y 35 rfl (want_all rfl) rfl rfl Kp.true (Y.move rfl rfl) ?_
    refine Jp.y 6 rfl (want_all rfl) rfl rfl Kp.true (Y.assign rfl rfl) ?_
    refine Jp.done hK7 ?_
    refine Cd.imp (i := 1) rfl RangeO.map ?_
    subst hn
    refine Cd.ret [(0, _), (1, _), (2, _)] rfl (res1 rfl rfl) ⟨rfl, rfl, rfl, trivial⟩ ⟨rfl, l, A, c, ?_, rfl, rfl⟩
    simpa [hK] using ok1
  · have hy := ok2 y (List.mem_of_getElem? hq)
    obtain ⟨p, hp, hpy⟩ := List.mem_map.1 (hf.pages.mem_iff.1 hy)
    have hpo := hf.ok.page p hp
    have hplt := hpo.lt
    have hpe := perm_erase hq
    have hql := (List.getElem?_eq_some_iff.1 hq).1
    have hel : (left.eraseIdx q).length < left.length := by rw [List.length_eraseIdx]; split <;> omega
    have hsub : ∀ z ∈ left.eraseIdx q, z ∈ x.pm := fun z hz => ok2 z (List.mem_of_mem_eraseIdx hz)
    have hKl : (l ++ K left).length ≤ 4096 := by rw [ok1.length_eq]; exact hwl
    rw [List.length_append] at hKl
    subst hpy
    refine Jp.y 15 rfl (want_all rfl) rfl rfl Kp.true (Y.extract rfl rfl rfl) ?_
    refine Jp.done hK5 ?_
    refine Cd.seq fun K8 hK8 => ?_
    refine Cd.condT rfl ?_
    refine Cd.skip hK8 ?_
    refine Cd.block ?_
    refine Cd.seq fun K9 hK9 => ?_
    refine Cd.plain [(0, false), (1, false), (2, false)] rfl rfl ?_
    refine Jp.y 16 rfl (want_all rfl) rfl rfl Kp.true (by first | exact Y.entry 1 rfl rfl rfl) ?_
    refine Jp.y 17 rfl (want_all rfl) rfl rfl Kp.true (Y.extract rfl rfl rfl) ?_
    refine Jp.y 8 rfl (want_all rfl) rfl rfl Kp.true (Y.assign rfl rfl) ?_
    refine Jp.done hK9 ?_
    refine Cd.seq fun K10 hK10 => ?_
    refine Cd.plain [(0, false), (1, false), (2, false), (3, false), (4, false), (5, false), (6, false), (7, false), (8, false), (9, false), (10, false), (11, false), (12, false)] rfl rfl ?_
    refine Jp.y 18 rfl (want_all rfl) rfl rfl Kp.true (Y.move rfl rfl) ?_
    refine Jp.y 19 rfl (want_all rfl) rfl rfl Kp.true (Y.move rfl rfl) ?_
    refine Jp.y 20 rfl (want_all rfl) rfl rfl Kp.true (Y.geq rfl rfl rfl) ?_
    refine Jp.y 21 rfl (want_all rfl) rfl rfl Kp.true (Y.move rfl rfl) ?_
    refine Jp.splitF 21 rfl (fun g21 => ?_) (fun g21 => ?_)
    · skip
      refine Jp.skip 22 rfl (want_as rfl rfl rfl rfl) rfl rfl Kp.true ?_
      refine Jp.skip 23 rfl (want_as rfl rfl rfl rfl) rfl rfl Kp.true ?_
      refine Jp.skip 24 rfl (want_as rfl rfl rfl rfl) rfl rfl Kp.true ?_
      refine Jp.skip 25 rfl (want_as rfl rfl rfl rfl) rfl rfl Kp.true ?_
      refine Jp.skip 26 rfl (want_as rfl rfl rfl rfl) rfl rfl Kp.true ?_
      refine Jp.skip 27 rfl (want_as rfl rfl rfl rfl) rfl rfl Kp.true ?_
      refine Jp.skip 28 rfl (want_as rfl rfl rfl rfl) rfl rfl Kp.true ?_
      refine Jp.skip 29 rfl (want_as rfl rfl rfl rfl) rfl rfl Kp.true ?_
      refine Jp.y 30 rfl (want_all rfl) rfl rfl Kp.true (Y.pickF rfl rfl rfl) ?_
      refine Jp.done hK10 ?_
      refine Cd.condF rfl ?_
      refine CdQ.again rfl hLa ⟨left.eraseIdx q, l, A, c, _⟩ ⟨(List.Perm.append_left l ?_).trans ok1, hsub⟩ hel rfl ⟨rfl, rfl, rfl, rfl, trivial⟩ ⟨rfl, rfl, rfl, trivial⟩
      have hin : inS a many p.1 = false := by simp only [decide_eq_false_iff_not] at g21; simp only [inS, Bool.and_eq_false_iff, decide_eq_false_iff_not]; omega
      rw [hK]
      refine (((hpe.filter _).map _).trans ?_).symm
      rw [List.filter_cons_of_neg (by simp [hin])]
    try simp only [decide_eq_false_iff_not, decide_eq_true_eq, Int.not_lt, Int.not_le, Bool.not_eq_false, Bool.not_eq_true, Bool.not_true, Bool.not_false, Bool.not_eq_true', Bool.not_eq_false', beq_eq_false_iff_ne, ne_eq, beq_iff_eq, bne_iff_ne, bne_eq_false_iff_eq, Classical.not_not] at g21
    refine Jp.y 22 rfl (want_as rfl rfl rfl rfl) rfl rfl Kp.true (Y.move rfl rfl) ?_
    refine Jp.y 23 rfl (want_as rfl rfl rfl rfl) rfl rfl Kp.true (Y.conv_ rfl rfl Try.underlying26 Try.underlying80 (by first | exact wrap_u64 (by omega) (by omega) | rfl)) ?_
    refine Jp.y 24 rfl (want_as rfl rfl rfl rfl) rfl rfl Kp.true (Y.move rfl rfl) ?_
    refine Jp.y 25 rfl (want_as rfl rfl rfl rfl) rfl rfl Kp.true (Y.conv_ rfl rfl Try.underlying26 Try.underlying80 (by first | exact wrap_u64 (by omega) (by omega) | rfl)) ?_
    refine Jp.y 26 rfl (want_as rfl rfl rfl rfl) rfl rfl Kp.true (Y.move rfl rfl) ?_
    refine Jp.y 27 rfl (want_as rfl rfl rfl rfl) rfl rfl Kp.true (Y.mul_ rfl rfl rfl (by first | exact wrap_u64 (by omega) (by omega) | rfl)) ?_
    refine Jp.y 28 rfl (want_as rfl rfl rfl rfl) rfl rfl Kp.true (Y.add_ rfl rfl rfl (by first | exact wrap_u64 (by omega) (by omega) | rfl)) ?_
    refine Jp.y 29 rfl (want_as rfl rfl rfl rfl) rfl rfl Kp.true (Y.lss rfl rfl rfl) ?_
    refine Jp.y 30 rfl (want_all rfl) rfl rfl Kp.true (Y.pickT rfl rfl rfl) ?_
    refine Jp.done hK10 ?_
    refine Cd.condF' rfl (fun g30 => ?_) (fun g30 => ?_)
    · skip
      refine CdQ.again rfl hLa ⟨left.eraseIdx q, l, A, c, _⟩ ⟨(List.Perm.append_left l ?_).trans ok1, hsub⟩ hel rfl ⟨rfl, rfl, rfl, rfl, trivial⟩ ⟨rfl, rfl, rfl, trivial⟩
      have hin : inS a many p.1 = false := by simp only [decide_eq_false_iff_not] at g30; simp only [inS, Bool.and_eq_false_iff, decide_eq_false_iff_not]; omega
      rw [hK]
      refine (((hpe.filter _).map _).trans ?_).symm
      rw [List.filter_cons_of_neg (by simp [hin])]
    try simp only [decide_eq_false_iff_not, decide_eq_true_eq, Int.not_lt, Int.not_le, Bool.not_eq_false, Bool.not_eq_true, Bool.not_true, Bool.not_false, Bool.not_eq_true', Bool.not_eq_false', beq_eq_false_iff_ne, ne_eq, beq_iff_eq, bne_iff_ne, bne_eq_false_iff_eq, Classical.not_not] at g30
    refine Cd.plain [(0, false), (1, false), (2, false), (3, false), (4, false)] rfl rfl ?_
    refine Jp.y 31 rfl (want_all rfl) rfl rfl Kp.true (Y.move rfl rfl) ?_
    refine Jp.y 32 rfl (want_all rfl) rfl rfl Kp.true (Y.move rfl rfl) ?_
    refine Jp.lit 33 51 [(0, _)] [_] rfl (want_all rfl) rfl rfl rfl rfl Try.underlying56 Try.sizeOf26 Try.zeroValue26 rfl rfl rfl rfl rfl fun b51 => ⟨Kp.true, ?_⟩
    have hin : inS a many p.1 = true := by simp only [inS, Bool.and_eq_true, decide_eq_true_eq]; omega
    have hKp : (K left).Perm (p.1 :: K (left.eraseIdx q)) := by
      rw [hK]
      refine ((hpe.filter _).map _).trans ?_
      rw [List.filter_cons_of_pos (by simp [hin])]
      exact List.Perm.of_eq rfl
    have hKpl := hKp.length_eq
    rw [List.length_cons] at hKpl
    refine Jp.append 34 2 rfl (want_all rfl) rfl rfl rfl Try.underlying56 Try.underlying56 (.inl ⟨_, rfl⟩) Try.sizeOf26 Try.typeInfo26 Try.zeroValue26 rfl (by decide) rfl rfl rfl (Src.own 51 rfl) rfl ((l.length + 1)) ((natsV .u32 (l ++ [p.1]))) (by first | omega | simp) (by simp [natsV]) (by simp only [Try.t26]; omega) fun AN cN => ⟨Kp.true, ?_⟩
    refine Jp.y 7 rfl (want_all rfl) rfl rfl Kp.true (Y.assign rfl rfl) ?_
    rw [show l.length + 1 = (l ++ [p.1]).length by simp]
    refine JpQ.again rfl hLa ⟨left.eraseIdx q, l ++ [p.1], AN, cN, _⟩ ⟨?_, hsub⟩ hel rfl ⟨rfl, rfl, rfl, rfl, trivial⟩ ⟨rfl, rfl, rfl, trivial⟩
    rw [List.append_assoc]
    exact (List.Perm.append_left l (hKp.symm)).trans ok1
theorem pageCells_perm (p : Pg) (h : p.b.length = 256) : (pageCells p).toArray[256]? = some (.int .i64 p.perm) := by
  simp [pageCells, bytesV, h]
theorem MemF.blk {M : MemG} {x : MemX} {k : Nat} {p : Pg} (h : getPg M.pages k = some p) : (x.blk k, pageO p) ∈ blksOf M x := List.mem_map.2 ⟨(k, p), getPg_mem h, rfl⟩
theorem look_spec (b : Nat) (M : MemG) (x : MemX) (hf : MemF M x) (a : Nat) (size need : Int) (ha : a < 4294967296) : Spec Try.prog 51 #[.pointer (some ⟨b, 0, none⟩), .int .u32 a, .int .i64 size, .int .i64 need] (fun _ => True) [(0, Pt b (memObj M x)), (1, MapO .u32 x.pb x.pm), (2, Blks (blksOf M x))]
    (fun ρ ρ' v L => ρ' = ρ ∧ v = .tuple #[.pointer (if lookM M a size need = 0 then some ⟨x.blk (baseN a), 0, none⟩ else none), .int .i64 (lookM M a size need)] ∧ L = [(0, Pt b (memObj M x)), (1, MapO .u32 x.pb x.pm), (2, Blks (blksOf M x))]) := by
  refine Spec.of 48 Try.func51 rfl Try.ntmps51 [(0, _), (1, _), (2, _), (3, _)] rfl rfl ?_
  intro cx ρ hr h0
  refine Cd.seq fun K11 hK11 => ?_
  refine Cd.plain [(0, false), (1, false)] rfl rfl ?_
  refine Jp.y 8 rfl (want_all rfl) rfl rfl Kp.true (Y.assign rfl rfl) ?_
  refine Jp.y 9 rfl (want_all rfl) rfl rfl Kp.true (Y.assign rfl rfl) ?_
  refine Jp.done hK11 ?_
  refine Cd.seq fun K12 hK12 => ?_
  refine Cd.seq fun K13 hK13 => ?_
  refine Cd.plain [(0, false), (1, false), (2, false), (3, false), (4, false), (5, false), (6, false), (7, false), (8, false), (9, false), (10, false), (11, false), (12, false), (13, false), (14, false), (15, false), (16, false)] rfl rfl ?_
  refine Jp.y 11 rfl (want_all rfl) rfl rfl Kp.true (Y.move rfl rfl) ?_
  refine Jp.y 12 rfl (want_all rfl) rfl rfl Kp.true (Y.neq rfl rfl rfl) ?_
  refine Jp.y 13 rfl (want_all rfl) rfl rfl Kp.true (Y.move rfl rfl) ?_
  refine Jp.split 13 rfl (fun g13 => ?_) (fun g13 => ?_)
  · skip
    try simp only [decide_eq_false_iff_not, decide_eq_true_eq, Int.not_lt, Int.not_le, Bool.not_eq_false, Bool.not_eq_true, Bool.not_true, Bool.not_false, Bool.not_eq_true', Bool.not_eq_false', beq_eq_false_iff_ne, ne_eq, beq_iff_eq, bne_iff_ne, bne_eq_false_iff_eq, Classical.not_not] at g13
    refine Jp.y 14 rfl (want_as rfl rfl rfl rfl) rfl rfl Kp.true (Y.move rfl rfl) ?_
    refine Jp.y 15 rfl (want_as rfl rfl rfl rfl) rfl rfl Kp.true (Y.neq rfl rfl rfl) ?_
    refine Jp.y 16 rfl (want_all rfl) rfl rfl Kp.true (Y.pickT rfl rfl rfl) ?_
    refine Jp.y 17 rfl (want_all rfl) rfl rfl Kp.true (Y.move rfl rfl) ?_
    refine Jp.split 17 rfl (fun g17 => ?_) (fun g17 => ?_)
    · skip
      try simp only [decide_eq_false_iff_not, decide_eq_true_eq, Int.not_lt, Int.not_le, Bool.not_eq_false, Bool.not_eq_true, Bool.not_true, Bool.not_false, Bool.not_eq_true', Bool.not_eq_false', beq_eq_false_iff_ne, ne_eq, beq_iff_eq, bne_iff_ne, bne_eq_false_iff_eq, Classical.not_not] at g17
      refine Jp.y 18 rfl (want_as rfl rfl rfl rfl) rfl rfl Kp.true (Y.move rfl rfl) ?_
      refine Jp.y 19 rfl (want_as rfl rfl rfl rfl) rfl rfl Kp.true (Y.neq rfl rfl rfl) ?_
      refine Jp.y 20 rfl (want_all rfl) rfl rfl Kp.true (Y.pickT rfl rfl rfl) ?_
      refine Jp.y 21 rfl (want_all rfl) rfl rfl Kp.true (Y.move rfl rfl) ?_
      refine Jp.split 21 rfl (fun g21 => ?_) (fun g21 => ?_)
      · skip
        try simp only [decide_eq_false_iff_not, decide_eq_true_eq, Int.not_lt, Int.not_le, Bool.not_eq_false, Bool.not_eq_true, Bool.not_true, Bool.not_false, Bool.not_eq_true', Bool.not_eq_false', beq_eq_false_iff_ne, ne_eq, beq_iff_eq, bne_iff_ne, bne_eq_false_iff_eq, Classical.not_not] at g21
        refine Jp.skip 22 rfl (want_as rfl rfl rfl rfl) rfl rfl Kp.true ?_
        refine Jp.skip 23 rfl (want_as rfl rfl rfl rfl) rfl rfl Kp.true ?_
        refine Jp.skip 24 rfl (want_as rfl rfl rfl rfl) rfl rfl Kp.true ?_
        refine Jp.skip 25 rfl (want_as rfl rfl rfl rfl) rfl rfl Kp.true ?_
        refine Jp.skip 26 rfl (want_as rfl rfl rfl rfl) rfl rfl Kp.true ?_
        refine Jp.y 27 rfl (want_all rfl) rfl rfl Kp.true (Y.pickT rfl rfl rfl) ?_
        refine Jp.done hK13 ?_
        refine Cd.condT rfl ?_
        refine Cd.seq fun K14 hK14 => ?_
        refine Cd.plain [(0, false), (1, false)] rfl rfl ?_
        refine Jp.y 8 rfl (want_all rfl) rfl rfl Kp.true (Y.assign rfl rfl) ?_
        refine Jp.y 9 rfl (want_all rfl) rfl rfl Kp.true (Y.assign rfl rfl) ?_
        refine Jp.done hK14 ?_
        refine Cd.ret [(0, _), (1, _), (2, _)] rfl (res2 rfl rfl rfl) ⟨rfl, rfl, rfl, trivial⟩ ⟨rfl, ?_, rfl⟩
        have h3 : lookM M a size need = 3 := by
          rw [lookM, if_pos]
          simp only [sizeOk, Bool.and_eq_false_iff, Bool.or_eq_false_iff, beq_eq_false_iff_ne, ne_eq]
          omega
        rw [h3]; rfl
      · skip
        try simp only [decide_eq_false_iff_not, decide_eq_true_eq, Int.not_lt, Int.not_le, Bool.not_eq_false, Bool.not_eq_true, Bool.not_true, Bool.not_false, Bool.not_eq_true', Bool.not_eq_false', beq_eq_false_iff_ne, ne_eq, beq_iff_eq, bne_iff_ne, bne_eq_false_iff_eq, Classical.not_not] at g21
        refine Jp.y 22 rfl (want_as rfl rfl rfl rfl) rfl rfl Kp.true (Y.move rfl rfl) ?_
        refine Jp.y 23 rfl (want_as rfl rfl rfl rfl) rfl rfl Kp.true (Y.move rfl rfl) ?_
        refine Jp.y 24 rfl (want_as rfl rfl rfl rfl) rfl rfl Kp.true (Y.conv_ rfl rfl Try.underlying3 Try.underlying26 (by first | exact wrap_u32 (by omega) (by omega) | rfl)) ?_
        refine Jp.y 25 rfl (want_as rfl rfl rfl rfl) rfl rfl Kp.true (by first | exact Y.remN rfl rfl rfl (by omega) (by omega) | exact Y.rem rfl rfl rfl (by first | decide | omega)) ?_
        refine Jp.y 26 rfl (want_as rfl rfl rfl rfl) rfl rfl Kp.true (Y.neq rfl rfl rfl) ?_
        refine Jp.y 27 rfl (want_all rfl) rfl rfl Kp.true (Y.pickF rfl rfl rfl) ?_
        refine Jp.done hK13 ?_
        refine Cd.cond rfl (fun g27 => ?_) (fun g27 => ?_)
        · skip
          try simp only [decide_eq_false_iff_not, decide_eq_true_eq, Int.not_lt, Int.not_le, Bool.not_eq_false, Bool.not_eq_true, Bool.not_true, Bool.not_false, Bool.not_eq_true', Bool.not_eq_false', beq_eq_false_iff_ne, ne_eq, beq_iff_eq, bne_iff_ne, bne_eq_false_iff_eq, Classical.not_not] at g27
          refine Cd.seq fun K15 hK15 => ?_
          refine Cd.plain [(0, false), (1, false)] rfl rfl ?_
          refine Jp.y 8 rfl (want_all rfl) rfl rfl Kp.true (Y.assign rfl rfl) ?_
          refine Jp.y 9 rfl (want_all rfl) rfl rfl Kp.true (Y.assign rfl rfl) ?_
          refine Jp.done hK15 ?_
          refine Cd.ret [(0, _), (1, _), (2, _)] rfl (res2 rfl rfl rfl) ⟨rfl, rfl, rfl, trivial⟩ ⟨rfl, ?_, rfl⟩
          have h3 : lookM M a size need = 3 := by
            rw [lookM, if_pos]
            simp only [sizeOk, Bool.and_eq_false_iff, Bool.or_eq_false_iff, beq_eq_false_iff_ne, ne_eq]
            omega
          rw [h3]; rfl
        · skip
          try simp only [decide_eq_false_iff_not, decide_eq_true_eq, Int.not_lt, Int.not_le, Bool.not_eq_false, Bool.not_eq_true, Bool.not_true, Bool.not_false, Bool.not_eq_true', Bool.not_eq_false', beq_eq_false_iff_ne, ne_eq, beq_iff_eq, bne_iff_ne, bne_eq_false_iff_eq, Classical.not_not] at g27
          refine Cd.skip hK12 ?_
          refine Cd.seq fun K16 hK16 => ?_
          refine Cd.drawn [(0, _), (1, _)] ⟨rfl, rfl, trivial⟩ [(0, true), (1, true), (2, true), (3, true), (4, true), (5, false), (6, true), (7, true)] follows (by kernel_rfl) (fun hrl => ?_)
          have hs : sizeOk a size = true := by
            simp only [sizeOk, Bool.and_eq_true, Bool.or_eq_true, beq_iff_eq]
            omega
          refine Jp.q 28 rfl (want_all rfl) rfl rfl (Y.move rfl rfl) ?_
          refine Jp.q 29 rfl (want_all rfl) rfl rfl (Y.nilCheck rfl rfl) ?_
          refine Jp.q 30 rfl (want_all rfl) rfl rfl (by first | exact Y.fieldAddrP rfl rfl Try.underlying79 rfl Try.sizeOf76 (by decide) (show _ + 1 = _ from rfl) | exact Y.fieldAddr rfl rfl Try.underlying79 rfl Try.sizeOf76 (by decide)) ?_
          refine Jp.q 31 rfl (want_all rfl) rfl rfl (Y.loadO 0 rfl Try.isAgg76 rfl rfl rfl) ?_
          refine Jp.q 32 rfl (want_all rfl) rfl rfl (Y.move rfl rfl) ?_
          refine Jp.call [] [] (base_spec a ha) 33 rfl (want_all rfl) rfl rfl (Runs.fn rfl Try.call52 rfl) (by decide) (by decide) rfl trivial ?_
          rintro v101 ρ101 L101 ⟨rfl, rfl, rfl⟩
          refine ⟨rfl, fun hle101 => ⟨(Kp.st ⟨rfl, rfl, trivial⟩), ?_⟩⟩
          refine Jp.q 34 rfl (want_all rfl) rfl rfl (by first | exact Y.lookup 1 rfl rfl rfl Try.underlying76 Try.underlying26 Try.zeroValue84 rfl) ?_
          refine Jp.q 10 rfl (want_all rfl) rfl rfl (Y.assign rfl rfl) ?_
          refine Jp.done hK16 ?_
          refine Cd.seq fun K18 hK18 => ?_
          refine Cd.block ?_
          refine Cd.seq fun K19 hK19 => ?_
          refine Cd.plain [(0, false), (1, false), (2, false)] rfl rfl ?_
          have hget := hf.get (baseN a)
          rcases hg : getPg M.pages (baseN a) with _ | p
          · have hlk : lookM M a size need = 1 := by rw [lookM, if_neg (by rw [hs]; simp), hg]
            rw [hg] at hget
            refine Jp.slot 10 rfl (show _ = Value.pointer none by rw [hget]; rfl) ?_
            refine Jp.y 36 rfl (want_all rfl) rfl rfl Kp.true (Y.move rfl rfl) ?_
            refine Jp.y 37 rfl (want_all rfl) rfl rfl Kp.true (Y.ptrNil rfl Try.underlying84 rfl rfl) ?_
            refine Jp.y 35 rfl (want_all rfl) rfl rfl Kp.true (Y.assign rfl rfl) ?_
            refine Jp.done hK19 ?_
            refine Cd.cond rfl (fun g35 => ?_) (fun g35 => ?_)
            · skip
              try simp only [decide_eq_false_iff_not, decide_eq_true_eq, Int.not_lt, Int.not_le, Bool.not_eq_false, Bool.not_eq_true, Bool.not_true, Bool.not_false, Bool.not_eq_true', Bool.not_eq_false', beq_eq_false_iff_ne, ne_eq, beq_iff_eq, bne_iff_ne, bne_eq_false_iff_eq, Classical.not_not] at g35
              first
              | done
              | (simp at g35; done)
              | skip
                refine Cd.seq fun K20 hK20 => ?_
                refine Cd.plain [(0, false), (1, false)] rfl rfl ?_
                refine Jp.y 8 rfl (want_all rfl) rfl rfl Kp.true (Y.assign rfl rfl) ?_
                refine Jp.y 9 rfl (want_all rfl) rfl rfl Kp.true (Y.assign rfl rfl) ?_
                refine Jp.done hK20 ?_
                refine Cd.ret [(0, _), (1, _), (2, _)] rfl (res2 rfl rfl rfl) ⟨rfl, rfl, rfl, trivial⟩ ⟨rfl, ?_, rfl⟩
                first
                | (rw [hlk]; rfl)
                | (have hm : may p.perm need = true := by simpa [may] using g38
                   simp [hlk, hm])
                | (have hm : may p.perm need = false := by simpa [may] using g38
                   simp [hlk, hm])
            · skip
              try simp only [decide_eq_false_iff_not, decide_eq_true_eq, Int.not_lt, Int.not_le, Bool.not_eq_false, Bool.not_eq_true, Bool.not_true, Bool.not_false, Bool.not_eq_true', Bool.not_eq_false', beq_eq_false_iff_ne, ne_eq, beq_iff_eq, bne_iff_ne, bne_eq_false_iff_eq, Classical.not_not] at g35
              first
              | done
              | (simp at g35; done)
              | skip
                refine Cd.seq fun K21 hK21 => ?_
                refine Cd.plain [(0, false), (1, false), (2, false), (3, false), (4, false), (5, false), (6, false), (7, false), (8, false)] rfl rfl ?_
                refine Jp.y 39 rfl (want_all rfl) rfl rfl Kp.true (Y.move rfl rfl) ?_
                refine Jp.y 40 rfl (want_all rfl) rfl rfl Kp.true (Y.nilCheck rfl rfl) ?_
                refine Jp.y 41 rfl (want_all rfl) rfl rfl Kp.true (by first | exact Y.fieldAddrP rfl rfl Try.underlying87 rfl Try.sizeOf3 (by decide) (show _ + 256 = _ from rfl) | exact Y.fieldAddr rfl rfl Try.underlying87 rfl Try.sizeOf3 (by decide)) ?_
                refine Jp.y 42 rfl (want_all rfl) rfl rfl Kp.true (Y.loadO 0 rfl Try.isAgg3 rfl rfl rfl) ?_
                refine Jp.y 43 rfl (want_all rfl) rfl rfl Kp.true (Y.move rfl rfl) ?_
                refine Jp.y 44 rfl (want_all rfl) rfl rfl Kp.true (Y.bits rfl rfl rfl rfl) ?_
                refine Jp.y 45 rfl (want_all rfl) rfl rfl Kp.true (Y.move rfl rfl) ?_
                refine Jp.y 46 rfl (want_all rfl) rfl rfl Kp.true (Y.neq rfl rfl rfl) ?_
                refine Jp.y 38 rfl (want_all rfl) rfl rfl Kp.true (Y.assign rfl rfl) ?_
                refine Jp.done hK21 ?_
                refine Cd.cond rfl (fun g38 => ?_) (fun g38 => ?_)
                · skip
                  try simp only [decide_eq_false_iff_not, decide_eq_true_eq, Int.not_lt, Int.not_le, Bool.not_eq_false, Bool.not_eq_true, Bool.not_true, Bool.not_false, Bool.not_eq_true', Bool.not_eq_false', beq_eq_false_iff_ne, ne_eq, beq_iff_eq, bne_iff_ne, bne_eq_false_iff_eq, Classical.not_not] at g38
                  first
                  | done
                  | (simp at g38; done)
                  | skip
                    refine Cd.seq fun K22 hK22 => ?_
                    refine Cd.plain [(0, false), (1, false)] rfl rfl ?_
                    refine Jp.y 8 rfl (want_all rfl) rfl rfl Kp.true (Y.assign rfl rfl) ?_
                    refine Jp.y 9 rfl (want_all rfl) rfl rfl Kp.true (Y.assign rfl rfl) ?_
                    refine Jp.done hK22 ?_
                    refine Cd.ret [(0, _), (1, _), (2, _)] rfl (res2 rfl rfl rfl) ⟨rfl, rfl, rfl, trivial⟩ ⟨rfl, ?_, rfl⟩
                    first
                    | (rw [hlk]; rfl)
                    | (have hm : may p.perm need = true := by simpa [may] using g38
                       simp [hlk, hm])
                    | (have hm : may p.perm need = false := by simpa [may] using g38
                       simp [hlk, hm])
                · skip
                  try simp only [decide_eq_false_iff_not, decide_eq_true_eq, Int.not_lt, Int.not_le, Bool.not_eq_false, Bool.not_eq_true, Bool.not_true, Bool.not_false, Bool.not_eq_true', Bool.not_eq_false', beq_eq_false_iff_ne, ne_eq, beq_iff_eq, bne_iff_ne, bne_eq_false_iff_eq, Classical.not_not] at g38
                  first
                  | done
                  | (simp at g38; done)
                  | skip
                    refine Cd.over rfl hK18 ?_
                    refine Cd.seq fun K23 hK23 => ?_
                    refine Cd.plain [(0, false), (1, false), (2, false)] rfl rfl ?_
                    refine Jp.y 47 rfl (want_all rfl) rfl rfl Kp.true (Y.move rfl rfl) ?_
                    refine Jp.y 8 rfl (want_all rfl) rfl rfl Kp.true (Y.assign rfl rfl) ?_
                    refine Jp.y 9 rfl (want_all rfl) rfl rfl Kp.true (Y.assign rfl rfl) ?_
                    refine Jp.done hK23 ?_
                    refine Cd.ret [(0, _), (1, _), (2, _)] rfl (res2 rfl rfl rfl) ⟨rfl, rfl, rfl, trivial⟩ ⟨rfl, ?_, rfl⟩
                    first
                    | (rw [hlk]; rfl)
                    | (have hm : may p.perm need = true := by simpa [may] using g38
                       simp [hlk, hm])
                    | (have hm : may p.perm need = false := by simpa [may] using g38
                       simp [hlk, hm])
          · have hlk : lookM M a size need = if may p.perm need then 0 else 2 := by rw [lookM, if_neg (by rw [hs]; simp), hg]
            rw [hg] at hget
            refine Jp.slot 10 rfl (show _ = Value.pointer (some ⟨x.blk (baseN a), 0, none⟩) by rw [hget]; rfl) ?_
            have hpo := hf.ok.page _ (getPg_mem hg)
            have hcell := Blks.cell (MemF.blk (x := x) hg) (pageCells_perm p hpo.len)
            refine Jp.y 36 rfl (want_all rfl) rfl rfl Kp.true (Y.move rfl rfl) ?_
            refine Jp.y 37 rfl (want_all rfl) rfl rfl Kp.true (Y.ptrNil rfl Try.underlying84 rfl rfl) ?_
            refine Jp.y 35 rfl (want_all rfl) rfl rfl Kp.true (Y.assign rfl rfl) ?_
            refine Jp.done hK19 ?_
            refine Cd.cond rfl (fun g35 => ?_) (fun g35 => ?_)
            · skip
              try simp only [decide_eq_false_iff_not, decide_eq_true_eq, Int.not_lt, Int.not_le, Bool.not_eq_false, Bool.not_eq_true, Bool.not_true, Bool.not_false, Bool.not_eq_true', Bool.not_eq_false', beq_eq_false_iff_ne, ne_eq, beq_iff_eq, bne_iff_ne, bne_eq_false_iff_eq, Classical.not_not] at g35
              first
              | done
              | (simp at g35; done)
              | skip
                refine Cd.seq fun K24 hK24 => ?_
                refine Cd.plain [(0, false), (1, false)] rfl rfl ?_
                refine Jp.y 8 rfl (want_all rfl) rfl rfl Kp.true (Y.assign rfl rfl) ?_
                refine Jp.y 9 rfl (want_all rfl) rfl rfl Kp.true (Y.assign rfl rfl) ?_
                refine Jp.done hK24 ?_
                refine Cd.ret [(0, _), (1, _), (2, _)] rfl (res2 rfl rfl rfl) ⟨rfl, rfl, rfl, trivial⟩ ⟨rfl, ?_, rfl⟩
                first
                | (rw [hlk]; rfl)
                | (have hm : may p.perm need = true := by simpa [may] using g38
                   simp [hlk, hm])
                | (have hm : may p.perm need = false := by simpa [may] using g38
                   simp [hlk, hm])
            · skip
              try simp only [decide_eq_false_iff_not, decide_eq_true_eq, Int.not_lt, Int.not_le, Bool.not_eq_false, Bool.not_eq_true, Bool.not_true, Bool.not_false, Bool.not_eq_true', Bool.not_eq_false', beq_eq_false_iff_ne, ne_eq, beq_iff_eq, bne_iff_ne, bne_eq_false_iff_eq, Classical.not_not] at g35
              first
              | done
              | (simp at g35; done)
              | skip
                refine Cd.seq fun K25 hK25 => ?_
                refine Cd.plain [(0, false), (1, false), (2, false), (3, false), (4, false), (5, false), (6, false), (7, false), (8, false)] rfl rfl ?_
                refine Jp.y 39 rfl (want_all rfl) rfl rfl Kp.true (Y.move rfl rfl) ?_
                refine Jp.y 40 rfl (want_all rfl) rfl rfl Kp.true (Y.nilCheck rfl rfl) ?_
                refine Jp.y 41 rfl (want_all rfl) rfl rfl Kp.true (by first | exact Y.fieldAddrP rfl rfl Try.underlying87 rfl Try.sizeOf3 (by decide) (show _ + 256 = _ from rfl) | exact Y.fieldAddr rfl rfl Try.underlying87 rfl Try.sizeOf3 (by decide)) ?_
                refine Jp.y 42 rfl (want_all rfl) rfl rfl Kp.true (by first | exact Y.loadO 0 rfl Try.isAgg3 rfl rfl rfl | exact Y.loadC 2 rfl Try.isAgg3 rfl rfl hcell) ?_
                refine Jp.y 43 rfl (want_all rfl) rfl rfl Kp.true (Y.move rfl rfl) ?_
                refine Jp.y 44 rfl (want_all rfl) rfl rfl Kp.true (Y.bits rfl rfl rfl rfl) ?_
                refine Jp.y 45 rfl (want_all rfl) rfl rfl Kp.true (Y.move rfl rfl) ?_
                refine Jp.y 46 rfl (want_all rfl) rfl rfl Kp.true (Y.neq rfl rfl rfl) ?_
                refine Jp.y 38 rfl (want_all rfl) rfl rfl Kp.true (Y.assign rfl rfl) ?_
                refine Jp.done hK25 ?_
                refine Cd.cond rfl (fun g38 => ?_) (fun g38 => ?_)
                · skip
                  try simp only [decide_eq_false_iff_not, decide_eq_true_eq, Int.not_lt, Int.not_le, Bool.not_eq_false, Bool.not_eq_true, Bool.not_true, Bool.not_false, Bool.not_eq_true', Bool.not_eq_false', beq_eq_false_iff_ne, ne_eq, beq_iff_eq, bne_iff_ne, bne_eq_false_iff_eq, Classical.not_not] at g38
                  first
                  | done
                  | (simp at g38; done)
                  | skip
                    refine Cd.seq fun K26 hK26 => ?_
                    refine Cd.plain [(0, false), (1, false)] rfl rfl ?_
                    refine Jp.y 8 rfl (want_all rfl) rfl rfl Kp.true (Y.assign rfl rfl) ?_
                    refine Jp.y 9 rfl (want_all rfl) rfl rfl Kp.true (Y.assign rfl rfl) ?_
                    refine Jp.done hK26 ?_
                    refine Cd.ret [(0, _), (1, _), (2, _)] rfl (res2 rfl rfl rfl) ⟨rfl, rfl, rfl, trivial⟩ ⟨rfl, ?_, rfl⟩
                    first
                    | (rw [hlk]; rfl)
                    | (have hm : may p.perm need = true := by simpa [may] using g38
                       simp [hlk, hm])
                    | (have hm : may p.perm need = false := by simpa [may] using g38
                       simp [hlk, hm])
                · skip
                  try simp only [decide_eq_false_iff_not, decide_eq_true_eq, Int.not_lt, Int.not_le, Bool.not_eq_false, Bool.not_eq_true, Bool.not_true, Bool.not_false, Bool.not_eq_true', Bool.not_eq_false', beq_eq_false_iff_ne, ne_eq, beq_iff_eq, bne_iff_ne, bne_eq_false_iff_eq, Classical.not_not] at g38
                  first
                  | done
                  | (simp at g38; done)
                  | skip
                    refine Cd.over rfl hK18 ?_
                    refine Cd.seq fun K27 hK27 => ?_
                    refine Cd.plain [(0, false), (1, false), (2, false)] rfl rfl ?_
                    refine Jp.y 47 rfl (want_all rfl) rfl rfl Kp.true (Y.move rfl rfl) ?_
                    refine Jp.y 8 rfl (want_all rfl) rfl rfl Kp.true (Y.assign rfl rfl) ?_
                    refine Jp.y 9 rfl (want_all rfl) rfl rfl Kp.true (Y.assign rfl rfl) ?_
                    refine Jp.done hK27 ?_
                    refine Cd.ret [(0, _), (1, _), (2, _)] rfl (res2 rfl rfl rfl) ⟨rfl, rfl, rfl, trivial⟩ ⟨rfl, ?_, rfl⟩
                    first
                    | (rw [hlk]; rfl)
                    | (have hm : may p.perm need = true := by simpa [may] using g38
                       simp [hlk, hm])
                    | (have hm : may p.perm need = false := by simpa [may] using g38
                       simp [hlk, hm])
    · skip
      try simp only [decide_eq_false_iff_not, decide_eq_true_eq, Int.not_lt, Int.not_le, Bool.not_eq_false, Bool.not_eq_true, Bool.not_true, Bool.not_false, Bool.not_eq_true', Bool.not_eq_false', beq_eq_false_iff_ne, ne_eq, beq_iff_eq, bne_iff_ne, bne_eq_false_iff_eq, Classical.not_not] at g17
      refine Jp.skip 18 rfl (want_as rfl rfl rfl rfl) rfl rfl Kp.true ?_
      refine Jp.skip 19 rfl (want_as rfl rfl rfl rfl) rfl rfl Kp.true ?_
      refine Jp.y 20 rfl (want_all rfl) rfl rfl Kp.true (Y.pickF rfl rfl rfl) ?_
      refine Jp.y 21 rfl (want_all rfl) rfl rfl Kp.true (Y.move rfl rfl) ?_
      refine Jp.y 22 rfl (want_as rfl rfl rfl rfl) rfl rfl Kp.true (Y.move rfl rfl) ?_
      refine Jp.y 23 rfl (want_as rfl rfl rfl rfl) rfl rfl Kp.true (Y.move rfl rfl) ?_
      refine Jp.y 24 rfl (want_as rfl rfl rfl rfl) rfl rfl Kp.true (Y.conv_ rfl rfl Try.underlying3 Try.underlying26 (by first | exact wrap_u32 (by omega) (by omega) | rfl)) ?_
      refine Jp.y 25 rfl (want_as rfl rfl rfl rfl) rfl rfl Kp.true (by first | exact Y.remN rfl rfl rfl (by omega) (by omega) | exact Y.rem rfl rfl rfl (by first | decide | omega)) ?_
      refine Jp.y 26 rfl (want_as rfl rfl rfl rfl) rfl rfl Kp.true (Y.neq rfl rfl rfl) ?_
      refine Jp.y 27 rfl (want_all rfl) rfl rfl Kp.true (Y.pickF rfl rfl rfl) ?_
      refine Jp.done hK13 ?_
      refine Cd.cond rfl (fun g27 => ?_) (fun g27 => ?_)
      · skip
        try simp only [decide_eq_false_iff_not, decide_eq_true_eq, Int.not_lt, Int.not_le, Bool.not_eq_false, Bool.not_eq_true, Bool.not_true, Bool.not_false, Bool.not_eq_true', Bool.not_eq_false', beq_eq_false_iff_ne, ne_eq, beq_iff_eq, bne_iff_ne, bne_eq_false_iff_eq, Classical.not_not] at g27
        refine Cd.seq fun K28 hK28 => ?_
        refine Cd.plain [(0, false), (1, false)] rfl rfl ?_
        refine Jp.y 8 rfl (want_all rfl) rfl rfl Kp.true (Y.assign rfl rfl) ?_
        refine Jp.y 9 rfl (want_all rfl) rfl rfl Kp.true (Y.assign rfl rfl) ?_
        refine Jp.done hK28 ?_
        refine Cd.ret [(0, _), (1, _), (2, _)] rfl (res2 rfl rfl rfl) ⟨rfl, rfl, rfl, trivial⟩ ⟨rfl, ?_, rfl⟩
        have h3 : lookM M a size need = 3 := by
          rw [lookM, if_pos]
          simp only [sizeOk, Bool.and_eq_false_iff, Bool.or_eq_false_iff, beq_eq_false_iff_ne, ne_eq]
          omega
        rw [h3]; rfl
      · skip
        try simp only [decide_eq_false_iff_not, decide_eq_true_eq, Int.not_lt, Int.not_le, Bool.not_eq_false, Bool.not_eq_true, Bool.not_true, Bool.not_false, Bool.not_eq_true', Bool.not_eq_false', beq_eq_false_iff_ne, ne_eq, beq_iff_eq, bne_iff_ne, bne_eq_false_iff_eq, Classical.not_not] at g27
        refine Cd.skip hK12 ?_
        refine Cd.seq fun K29 hK29 => ?_
        refine Cd.drawn [(0, _), (1, _)] ⟨rfl, rfl, trivial⟩ [(0, true), (1, true), (2, true), (3, true), (4, true), (5, false), (6, true), (7, true)] follows (by kernel_rfl) (fun hrl => ?_)
        have hs : sizeOk a size = true := by
          simp only [sizeOk, Bool.and_eq_true, Bool.or_eq_true, beq_iff_eq]
          omega
        refine Jp.q 28 rfl (want_all rfl) rfl rfl (Y.move rfl rfl) ?_
        refine Jp.q 29 rfl (want_all rfl) rfl rfl (Y.nilCheck rfl rfl) ?_
        refine Jp.q 30 rfl (want_all rfl) rfl rfl (by first | exact Y.fieldAddrP rfl rfl Try.underlying79 rfl Try.sizeOf76 (by decide) (show _ + 1 = _ from rfl) | exact Y.fieldAddr rfl rfl Try.underlying79 rfl Try.sizeOf76 (by decide)) ?_
        refine Jp.q 31 rfl (want_all rfl) rfl rfl (by first | exact Y.loadO 0 rfl Try.isAgg76 rfl rfl rfl | exact Y.loadC 2 rfl Try.isAgg76 rfl rfl hcell) ?_
        refine Jp.q 32 rfl (want_all rfl) rfl rfl (Y.move rfl rfl) ?_
        refine Jp.call [] [] (base_spec a ha) 33 rfl (want_all rfl) rfl rfl (Runs.fn rfl Try.call52 rfl) (by decide) (by decide) rfl trivial ?_
        rintro v102 ρ102 L102 ⟨rfl, rfl, rfl⟩
        refine ⟨rfl, fun hle102 => ⟨(Kp.st ⟨rfl, rfl, trivial⟩), ?_⟩⟩
        refine Jp.q 34 rfl (want_all rfl) rfl rfl (by first | exact Y.lookup 1 rfl rfl rfl Try.underlying76 Try.underlying26 Try.zeroValue84 rfl) ?_
        refine Jp.q 10 rfl (want_all rfl) rfl rfl (Y.assign rfl rfl) ?_
        refine Jp.done hK29 ?_
        refine Cd.seq fun K31 hK31 => ?_
        refine Cd.block ?_
        refine Cd.seq fun K32 hK32 => ?_
        refine Cd.plain [(0, false), (1, false), (2, false)] rfl rfl ?_
        have hget := hf.get (baseN a)
        rcases hg : getPg M.pages (baseN a) with _ | p
        · have hlk : lookM M a size need = 1 := by rw [lookM, if_neg (by rw [hs]; simp), hg]
          rw [hg] at hget
          refine Jp.slot 10 rfl (show _ = Value.pointer none by rw [hget]; rfl) ?_
          refine Jp.y 36 rfl (want_all rfl) rfl rfl Kp.true (Y.move rfl rfl) ?_
          refine Jp.y 37 rfl (want_all rfl) rfl rfl Kp.true (Y.ptrNil rfl Try.underlying84 rfl rfl) ?_
          refine Jp.y 35 rfl (want_all rfl) rfl rfl Kp.true (Y.assign rfl rfl) ?_
          refine Jp.done hK32 ?_
          refine Cd.cond rfl (fun g35 => ?_) (fun g35 => ?_)
          · skip
            try simp only [decide_eq_false_iff_not, decide_eq_true_eq, Int.not_lt, Int.not_le, Bool.not_eq_false, Bool.not_eq_true, Bool.not_true, Bool.not_false, Bool.not_eq_true', Bool.not_eq_false', beq_eq_false_iff_ne, ne_eq, beq_iff_eq, bne_iff_ne, bne_eq_false_iff_eq, Classical.not_not] at g35
            first
            | done
            | (simp at g35; done)
            | skip
              refine Cd.seq fun K33 hK33 => ?_
              refine Cd.plain [(0, false), (1, false)] rfl rfl ?_
              refine Jp.y 8 rfl (want_all rfl) rfl rfl Kp.true (Y.assign rfl rfl) ?_
              refine Jp.y 9 rfl (want_all rfl) rfl rfl Kp.true (Y.assign rfl rfl) ?_
              refine Jp.done hK33 ?_
              refine Cd.ret [(0, _), (1, _), (2, _)] rfl (res2 rfl rfl rfl) ⟨rfl, rfl, rfl, trivial⟩ ⟨rfl, ?_, rfl⟩
              first
              | (rw [hlk]; rfl)
              | (have hm : may p.perm need = true := by simpa [may] using g38
                 simp [hlk, hm])
              | (have hm : may p.perm need = false := by simpa [may] using g38
                 simp [hlk, hm])
          · skip
            try simp only [decide_eq_false_iff_not, decide_eq_true_eq, Int.not_lt, Int.not_le, Bool.not_eq_false, Bool.not_eq_true, Bool.not_true, Bool.not_false, Bool.not_eq_true', Bool.not_eq_false', beq_eq_false_iff_ne, ne_eq, beq_iff_eq, bne_iff_ne, bne_eq_false_iff_eq, Classical.not_not] at g35
            first
            | done
            | (simp at g35; done)
            | skip
              refine Cd.seq fun K34 hK34 => ?_
              refine Cd.plain [(0, false), (1, false), (2, false), (3, false), (4, false), (5, false), (6, false), (7, false), (8, false)] rfl rfl ?_
              refine Jp.y 39 rfl (want_all rfl) rfl rfl Kp.true (Y.move rfl rfl) ?_
              refine Jp.y 40 rfl (want_all rfl) rfl rfl Kp.true (Y.nilCheck rfl rfl) ?_
              refine Jp.y 41 rfl (want_all rfl) rfl rfl Kp.true (by first | exact Y.fieldAddrP rfl rfl Try.underlying87 rfl Try.sizeOf3 (by decide) (show _ + 256 = _ from rfl) | exact Y.fieldAddr rfl rfl Try.underlying87 rfl Try.sizeOf3 (by decide)) ?_
              refine Jp.y 42 rfl (want_all rfl) rfl rfl Kp.true (by first | exact Y.loadO 0 rfl Try.isAgg3 rfl rfl rfl | exact Y.loadC 2 rfl Try.isAgg3 rfl rfl hcell) ?_
              refine Jp.y 43 rfl (want_all rfl) rfl rfl Kp.true (Y.move rfl rfl) ?_
              refine Jp.y 44 rfl (want_all rfl) rfl rfl Kp.true (Y.bits rfl rfl rfl rfl) ?_
              refine Jp.y 45 rfl (want_all rfl) rfl rfl Kp.true (Y.move rfl rfl) ?_
              refine Jp.y 46 rfl (want_all rfl) rfl rfl Kp.true (Y.neq rfl rfl rfl) ?_
              refine Jp.y 38 rfl (want_all rfl) rfl rfl Kp.true (Y.assign rfl rfl) ?_
              refine Jp.done hK34 ?_
              refine Cd.cond rfl (fun g38 => ?_) (fun g38 => ?_)
              · skip
                try simp only [decide_eq_false_iff_not, decide_eq_true_eq, Int.not_lt, Int.not_le, Bool.not_eq_false, Bool.not_eq_true, Bool.not_true, Bool.not_false, Bool.not_eq_true', Bool.not_eq_false', beq_eq_false_iff_ne, ne_eq, beq_iff_eq, bne_iff_ne, bne_eq_false_iff_eq, Classical.not_not] at g38
                first
                | done
                | (simp at g38; done)
                | skip
                  refine Cd.seq fun K35 hK35 => ?_
                  refine Cd.plain [(0, false), (1, false)] rfl rfl ?_
                  refine Jp.y 8 rfl (want_all rfl) rfl rfl Kp.true (Y.assign rfl rfl) ?_
                  refine Jp.y 9 rfl (want_all rfl) rfl rfl Kp.true (Y.assign rfl rfl) ?_
                  refine Jp.done hK35 ?_
                  refine Cd.ret [(0, _), (1, _), (2, _)] rfl (res2 rfl rfl rfl) ⟨rfl, rfl, rfl, trivial⟩ ⟨rfl, ?_, rfl⟩
                  first
                  | (rw [hlk]; rfl)
                  | (have hm : may p.perm need = true := by simpa [may] using g38
                     simp [hlk, hm])
                  | (have hm : may p.perm need = false := by simpa [may] using g38
                     simp [hlk, hm])
              · skip
                try simp only [decide_eq_false_iff_not, decide_eq_true_eq, Int.not_lt, Int.not_le, Bool.not_eq_false, Bool.not_eq_true, Bool.not_true, Bool.not_false, Bool.not_eq_true', Bool.not_eq_false', beq_eq_false_iff_ne, ne_eq, beq_iff_eq, bne_iff_ne, bne_eq_false_iff_eq, Classical.not_not] at g38
                first
                | done
                | (simp at g38; done)
                | skip
                  refine Cd.over rfl hK31 ?_
                  refine Cd.seq fun K36 hK36 => ?_
                  refine Cd.plain [(0, false), (1, false), (2, false)] rfl rfl ?_
                  refine Jp.y 47 rfl (want_all rfl) rfl rfl Kp.true (Y.move rfl rfl) ?_
                  refine Jp.y 8 rfl (want_all rfl) rfl rfl Kp.true (Y.assign rfl rfl) ?_
                  refine Jp.y 9 rfl (want_all rfl) rfl rfl Kp.true (Y.assign rfl rfl) ?_
                  refine Jp.done hK36 ?_
                  refine Cd.ret [(0, _), (1, _), (2, _)] rfl (res2 rfl rfl rfl) ⟨rfl, rfl, rfl, trivial⟩ ⟨rfl, ?_, rfl⟩
                  first
                  | (rw [hlk]; rfl)
                  | (have hm : may p.perm need = true := by simpa [may] using g38
                     simp [hlk, hm])
                  | (have hm : may p.perm need = false := by simpa [may] using g38
                     simp [hlk, hm])
        · have hlk : lookM M a size need = if may p.perm need then 0 else 2 := by rw [lookM, if_neg (by rw [hs]; simp), hg]
          rw [hg] at hget
          refine Jp.slot 10 rfl (show _ = Value.pointer (some ⟨x.blk (baseN a), 0, none⟩) by rw [hget]; rfl) ?_
          have hpo := hf.ok.page _ (getPg_mem hg)
          have hcell := Blks.cell (MemF.blk (x := x) hg) (pageCells_perm p hpo.len)
          refine Jp.y 36 rfl (want_all rfl) rfl rfl Kp.true (Y.move rfl rfl) ?_
          refine Jp.y 37 rfl (want_all rfl) rfl rfl Kp.true (Y.ptrNil rfl Try.underlying84 rfl rfl) ?_
          refine Jp.y 35 rfl (want_all rfl) rfl rfl Kp.true (Y.assign rfl rfl) ?_
          refine Jp.done hK32 ?_
          refine Cd.cond rfl (fun g35 => ?_) (fun g35 => ?_)
          · skip
            try simp only [decide_eq_false_iff_not, decide_eq_true_eq, Int.not_lt, Int.not_le, Bool.not_eq_false, Bool.not_eq_true, Bool.not_true, Bool.not_false, Bool.not_eq_true', Bool.not_eq_false', beq_eq_false_iff_ne, ne_eq, beq_iff_eq, bne_iff_ne, bne_eq_false_iff_eq, Classical.not_not] at g35
            first
            | done
            | (simp at g35; done)
            | skip
              refine Cd.seq fun K37 hK37 => ?_
              refine Cd.plain [(0, false), (1, false)] rfl rfl ?_
              refine Jp.y 8 rfl (want_all rfl) rfl rfl Kp.true (Y.assign rfl rfl) ?_
              refine Jp.y 9 rfl (want_all rfl) rfl rfl Kp.true (Y.assign rfl rfl) ?_
              refine Jp.done hK37 ?_
              refine Cd.ret [(0, _), (1, _), (2, _)] rfl (res2 rfl rfl rfl) ⟨rfl, rfl, rfl, trivial⟩ ⟨rfl, ?_, rfl⟩
              first
              | (rw [hlk]; rfl)
              | (have hm : may p.perm need = true := by simpa [may] using g38
                 simp [hlk, hm])
              | (have hm : may p.perm need = false := by simpa [may] using g38
                 simp [hlk, hm])
          · skip
            try simp only [decide_eq_false_iff_not, decide_eq_true_eq, Int.not_lt, Int.not_le, Bool.not_eq_false, Bool.not_eq_true, Bool.not_true, Bool.not_false, Bool.not_eq_true', Bool.not_eq_false', beq_eq_false_iff_ne, ne_eq, beq_iff_eq, bne_iff_ne, bne_eq_false_iff_eq, Classical.not_not] at g35
            first
            | done
            | (simp at g35; done)
            | skip
              refine Cd.seq fun K38 hK38 => ?_
              refine Cd.plain [(0, false), (1, false), (2, false), (3, false), (4, false), (5, false), (6, false), (7, false), (8, false)] rfl rfl ?_
              refine Jp.y 39 rfl (want_all rfl) rfl rfl Kp.true (Y.move rfl rfl) ?_
              refine Jp.y 40 rfl (want_all rfl) rfl rfl Kp.true (Y.nilCheck rfl rfl) ?_
              refine Jp.y 41 rfl (want_all rfl) rfl rfl Kp.true (by first | exact Y.fieldAddrP rfl rfl Try.underlying87 rfl Try.sizeOf3 (by decide) (show _ + 256 = _ from rfl) | exact Y.fieldAddr rfl rfl Try.underlying87 rfl Try.sizeOf3 (by decide)) ?_
              refine Jp.y 42 rfl (want_all rfl) rfl rfl Kp.true (by first | exact Y.loadO 0 rfl Try.isAgg3 rfl rfl rfl | exact Y.loadC 2 rfl Try.isAgg3 rfl rfl hcell) ?_
              refine Jp.y 43 rfl (want_all rfl) rfl rfl Kp.true (Y.move rfl rfl) ?_
              refine Jp.y 44 rfl (want_all rfl) rfl rfl Kp.true (Y.bits rfl rfl rfl rfl) ?_
              refine Jp.y 45 rfl (want_all rfl) rfl rfl Kp.true (Y.move rfl rfl) ?_
              refine Jp.y 46 rfl (want_all rfl) rfl rfl Kp.true (Y.neq rfl rfl rfl) ?_
              refine Jp.y 38 rfl (want_all rfl) rfl rfl Kp.true (Y.assign rfl rfl) ?_
              refine Jp.done hK38 ?_
              refine Cd.cond rfl (fun g38 => ?_) (fun g38 => ?_)
              · skip
                try simp only [decide_eq_false_iff_not, decide_eq_true_eq, Int.not_lt, Int.not_le, Bool.not_eq_false, Bool.not_eq_true, Bool.not_true, Bool.not_false, Bool.not_eq_true', Bool.not_eq_false', beq_eq_false_iff_ne, ne_eq, beq_iff_eq, bne_iff_ne, bne_eq_false_iff_eq, Classical.not_not] at g38
                first
                | done
                | (simp at g38; done)
                | skip
                  refine Cd.seq fun K39 hK39 => ?_
                  refine Cd.plain [(0, false), (1, false)] rfl rfl ?_
                  refine Jp.y 8 rfl (want_all rfl) rfl rfl Kp.true (Y.assign rfl rfl) ?_
                  refine Jp.y 9 rfl (want_all rfl) rfl rfl Kp.true (Y.assign rfl rfl) ?_
                  refine Jp.done hK39 ?_
                  refine Cd.ret [(0, _), (1, _), (2, _)] rfl (res2 rfl rfl rfl) ⟨rfl, rfl, rfl, trivial⟩ ⟨rfl, ?_, rfl⟩
                  first
                  | (rw [hlk]; rfl)
                  | (have hm : may p.perm need = true := by simpa [may] using g38
                     simp [hlk, hm])
                  | (have hm : may p.perm need = false := by simpa [may] using g38
                     simp [hlk, hm])
              · skip
                try simp only [decide_eq_false_iff_not, decide_eq_true_eq, Int.not_lt, Int.not_le, Bool.not_eq_false, Bool.not_eq_true, Bool.not_true, Bool.not_false, Bool.not_eq_true', Bool.not_eq_false', beq_eq_false_iff_ne, ne_eq, beq_iff_eq, bne_iff_ne, bne_eq_false_iff_eq, Classical.not_not] at g38
                first
                | done
                | (simp at g38; done)
                | skip
                  refine Cd.over rfl hK31 ?_
                  refine Cd.seq fun K40 hK40 => ?_
                  refine Cd.plain [(0, false), (1, false), (2, false)] rfl rfl ?_
                  refine Jp.y 47 rfl (want_all rfl) rfl rfl Kp.true (Y.move rfl rfl) ?_
                  refine Jp.y 8 rfl (want_all rfl) rfl rfl Kp.true (Y.assign rfl rfl) ?_
                  refine Jp.y 9 rfl (want_all rfl) rfl rfl Kp.true (Y.assign rfl rfl) ?_
                  refine Jp.done hK40 ?_
                  refine Cd.ret [(0, _), (1, _), (2, _)] rfl (res2 rfl rfl rfl) ⟨rfl, rfl, rfl, trivial⟩ ⟨rfl, ?_, rfl⟩
                  first
                  | (rw [hlk]; rfl)
                  | (have hm : may p.perm need = true := by simpa [may] using g38
                     simp [hlk, hm])
                  | (have hm : may p.perm need = false := by simpa [may] using g38
                     simp [hlk, hm])
  · skip
    try simp only [decide_eq_false_iff_not, decide_eq_true_eq, Int.not_lt, Int.not_le, Bool.not_eq_false, Bool.not_eq_true, Bool.not_true, Bool.not_false, Bool.not_eq_true', Bool.not_eq_false', beq_eq_false_iff_ne, ne_eq, beq_iff_eq, bne_iff_ne, bne_eq_false_iff_eq, Classical.not_not] at g13
    refine Jp.skip 14 rfl (want_as rfl rfl rfl rfl) rfl rfl Kp.true ?_
    refine Jp.skip 15 rfl (want_as rfl rfl rfl rfl) rfl rfl Kp.true ?_
    refine Jp.y 16 rfl (want_all rfl) rfl rfl Kp.true (Y.pickF rfl rfl rfl) ?_
    refine Jp.y 17 rfl (want_all rfl) rfl rfl Kp.true (Y.move rfl rfl) ?_
    refine Jp.skip 18 rfl (want_as rfl rfl rfl rfl) rfl rfl Kp.true ?_
    refine Jp.skip 19 rfl (want_as rfl rfl rfl rfl) rfl rfl Kp.true ?_
    refine Jp.y 20 rfl (want_all rfl) rfl rfl Kp.true (Y.pickF rfl rfl rfl) ?_
    refine Jp.y 21 rfl (want_all rfl) rfl rfl Kp.true (Y.move rfl rfl) ?_
    refine Jp.y 22 rfl (want_as rfl rfl rfl rfl) rfl rfl Kp.true (Y.move rfl rfl) ?_
    refine Jp.y 23 rfl (want_as rfl rfl rfl rfl) rfl rfl Kp.true (Y.move rfl rfl) ?_
    refine Jp.y 24 rfl (want_as rfl rfl rfl rfl) rfl rfl Kp.true (Y.conv_ rfl rfl Try.underlying3 Try.underlying26 (by first | exact wrap_u32 (by omega) (by omega) | rfl)) ?_
    refine Jp.y 25 rfl (want_as rfl rfl rfl rfl) rfl rfl Kp.true (by first | exact Y.remN rfl rfl rfl (by omega) (by omega) | exact Y.rem rfl rfl rfl (by first | decide | omega)) ?_
    refine Jp.y 26 rfl (want_as rfl rfl rfl rfl) rfl rfl Kp.true (Y.neq rfl rfl rfl) ?_
    refine Jp.y 27 rfl (want_all rfl) rfl rfl Kp.true (Y.pickF rfl rfl rfl) ?_
    refine Jp.done hK13 ?_
    refine Cd.cond rfl (fun g27 => ?_) (fun g27 => ?_)
    · skip
      try simp only [decide_eq_false_iff_not, decide_eq_true_eq, Int.not_lt, Int.not_le, Bool.not_eq_false, Bool.not_eq_true, Bool.not_true, Bool.not_false, Bool.not_eq_true', Bool.not_eq_false', beq_eq_false_iff_ne, ne_eq, beq_iff_eq, bne_iff_ne, bne_eq_false_iff_eq, Classical.not_not] at g27
      refine Cd.seq fun K41 hK41 => ?_
      refine Cd.plain [(0, false), (1, false)] rfl rfl ?_
      refine Jp.y 8 rfl (want_all rfl) rfl rfl Kp.true (Y.assign rfl rfl) ?_
      refine Jp.y 9 rfl (want_all rfl) rfl rfl Kp.true (Y.assign rfl rfl) ?_
      refine Jp.done hK41 ?_
      refine Cd.ret [(0, _), (1, _), (2, _)] rfl (res2 rfl rfl rfl) ⟨rfl, rfl, rfl, trivial⟩ ⟨rfl, ?_, rfl⟩
      have h3 : lookM M a size need = 3 := by
        rw [lookM, if_pos]
        simp only [sizeOk, Bool.and_eq_false_iff, Bool.or_eq_false_iff, beq_eq_false_iff_ne, ne_eq]
        omega
      rw [h3]; rfl
    · skip
      try simp only [decide_eq_false_iff_not, decide_eq_true_eq, Int.not_lt, Int.not_le, Bool.not_eq_false, Bool.not_eq_true, Bool.not_true, Bool.not_false, Bool.not_eq_true', Bool.not_eq_false', beq_eq_false_iff_ne, ne_eq, beq_iff_eq, bne_iff_ne, bne_eq_false_iff_eq, Classical.not_not] at g27
      refine Cd.skip hK12 ?_
      refine Cd.seq fun K42 hK42 => ?_
      refine Cd.drawn [(0, _), (1, _)] ⟨rfl, rfl, trivial⟩ [(0, true), (1, true), (2, true), (3, true), (4, true), (5, false), (6, true), (7, true)] follows (by kernel_rfl) (fun hrl => ?_)
      have hs : sizeOk a size = true := by
        simp only [sizeOk, Bool.and_eq_true, Bool.or_eq_true, beq_iff_eq]
        omega
      refine Jp.q 28 rfl (want_all rfl) rfl rfl (Y.move rfl rfl) ?_
      refine Jp.q 29 rfl (want_all rfl) rfl rfl (Y.nilCheck rfl rfl) ?_
      refine Jp.q 30 rfl (want_all rfl) rfl rfl (by first | exact Y.fieldAddrP rfl rfl Try.underlying79 rfl Try.sizeOf76 (by decide) (show _ + 1 = _ from rfl) | exact Y.fieldAddr rfl rfl Try.underlying79 rfl Try.sizeOf76 (by decide)) ?_
      refine Jp.q 31 rfl (want_all rfl) rfl rfl (by first | exact Y.loadO 0 rfl Try.isAgg76 rfl rfl rfl | exact Y.loadC 2 rfl Try.isAgg76 rfl rfl hcell) ?_
      refine Jp.q 32 rfl (want_all rfl) rfl rfl (Y.move rfl rfl) ?_
      refine Jp.call [] [] (base_spec a ha) 33 rfl (want_all rfl) rfl rfl (Runs.fn rfl Try.call52 rfl) (by decide) (by decide) rfl trivial ?_
      rintro v103 ρ103 L103 ⟨rfl, rfl, rfl⟩
      refine ⟨rfl, fun hle103 => ⟨(Kp.st ⟨rfl, rfl, trivial⟩), ?_⟩⟩
      refine Jp.q 34 rfl (want_all rfl) rfl rfl (by first | exact Y.lookup 1 rfl rfl rfl Try.underlying76 Try.underlying26 Try.zeroValue84 rfl) ?_
      refine Jp.q 10 rfl (want_all rfl) rfl rfl (Y.assign rfl rfl) ?_
      refine Jp.done hK42 ?_
      refine Cd.seq fun K44 hK44 => ?_
      refine Cd.block ?_
      refine Cd.seq fun K45 hK45 => ?_
      refine Cd.plain [(0, false), (1, false), (2, false)] rfl rfl ?_
      have hget := hf.get (baseN a)
      rcases hg : getPg M.pages (baseN a) with _ | p
      · have hlk : lookM M a size need = 1 := by rw [lookM, if_neg (by rw [hs]; simp), hg]
        rw [hg] at hget
        refine Jp.slot 10 rfl (show _ = Value.pointer none by rw [hget]; rfl) ?_
        refine Jp.y 36 rfl (want_all rfl) rfl rfl Kp.true (Y.move rfl rfl) ?_
        refine Jp.y 37 rfl (want_all rfl) rfl rfl Kp.true (Y.ptrNil rfl Try.underlying84 rfl rfl) ?_
        refine Jp.y 35 rfl (want_all rfl) rfl rfl Kp.true (Y.assign rfl rfl) ?_
        refine Jp.done hK45 ?_
        refine Cd.cond rfl (fun g35 => ?_) (fun g35 => ?_)
        · skip
          try simp only [decide_eq_false_iff_not, decide_eq_true_eq, Int.not_lt, Int.not_le, Bool.not_eq_false, Bool.not_eq_true, Bool.not_true, Bool.not_false, Bool.not_eq_true', Bool.not_eq_false', beq_eq_false_iff_ne, ne_eq, beq_iff_eq, bne_iff_ne, bne_eq_false_iff_eq, Classical.not_not] at g35
          first
          | done
          | (simp at g35; done)
          | skip
            refine Cd.seq fun K46 hK46 => ?_
            refine Cd.plain [(0, false), (1, false)] rfl rfl ?_
            refine Jp.y 8 rfl (want_all rfl) rfl rfl Kp.true (Y.assign rfl rfl) ?_
            refine Jp.y 9 rfl (want_all rfl) rfl rfl Kp.true (Y.assign rfl rfl) ?_
            refine Jp.done hK46 ?_
            refine Cd.ret [(0, _), (1, _), (2, _)] rfl (res2 rfl rfl rfl) ⟨rfl, rfl, rfl, trivial⟩ ⟨rfl, ?_, rfl⟩
            first
            | (rw [hlk]; rfl)
            | (have hm : may p.perm need = true := by simpa [may] using g38
               simp [hlk, hm])
            | (have hm : may p.perm need = false := by simpa [may] using g38
               simp [hlk, hm])
        · skip
          try simp only [decide_eq_false_iff_not, decide_eq_true_eq, Int.not_lt, Int.not_le, Bool.not_eq_false, Bool.not_eq_true, Bool.not_true, Bool.not_false, Bool.not_eq_true', Bool.not_eq_false', beq_eq_false_iff_ne, ne_eq, beq_iff_eq, bne_iff_ne, bne_eq_false_iff_eq, Classical.not_not] at g35
          first
          | done
          | (simp at g35; done)
          | skip
            refine Cd.seq fun K47 hK47 => ?_
            refine Cd.plain [(0, false), (1, false), (2, false), (3, false), (4, false), (5, false), (6, false), (7, false), (8, false)] rfl rfl ?_
            refine Jp.y 39 rfl (want_all rfl) rfl rfl Kp.true (Y.move rfl rfl) ?_
            refine Jp.y 40 rfl (want_all rfl) rfl rfl Kp.true (Y.nilCheck rfl rfl) ?_
            refine Jp.y 41 rfl (want_all rfl) rfl rfl Kp.true (by first | exact Y.fieldAddrP rfl rfl Try.underlying87 rfl Try.sizeOf3 (by decide) (show _ + 256 = _ from rfl) | exact Y.fieldAddr rfl rfl Try.underlying87 rfl Try.sizeOf3 (by decide)) ?_
            refine Jp.y 42 rfl (want_all rfl) rfl rfl Kp.true (by first | exact Y.loadO 0 rfl Try.isAgg3 rfl rfl rfl | exact Y.loadC 2 rfl Try.isAgg3 rfl rfl hcell) ?_
            refine Jp.y 43 rfl (want_all rfl) rfl rfl Kp.true (Y.move rfl rfl) ?_
            refine Jp.y 44 rfl (want_all rfl) rfl rfl Kp.true (Y.bits rfl rfl rfl rfl) ?_
            refine Jp.y 45 rfl (want_all rfl) rfl rfl Kp.true (Y.move rfl rfl) ?_
            refine Jp.y 46 rfl (want_all rfl) rfl rfl Kp.true (Y.neq rfl rfl rfl) ?_
            refine Jp.y 38 rfl (want_all rfl) rfl rfl Kp.true (Y.assign rfl rfl) ?_
            refine Jp.done hK47 ?_
            refine Cd.cond rfl (fun g38 => ?_) (fun g38 => ?_)
            · skip
              try simp only [decide_eq_false_iff_not, decide_eq_true_eq, Int.not_lt, Int.not_le, Bool.not_eq_false, Bool.not_eq_true, Bool.not_true, Bool.not_false, Bool.not_eq_true', Bool.not_eq_false', beq_eq_false_iff_ne, ne_eq, beq_iff_eq, bne_iff_ne, bne_eq_false_iff_eq, Classical.not_not] at g38
              first
              | done
              | (simp at g38; done)
              | skip
                refine Cd.seq fun K48 hK48 => ?_
                refine Cd.plain [(0, false), (1, false)] rfl rfl ?_
                refine Jp.y 8 rfl (want_all rfl) rfl rfl Kp.true (Y.assign rfl rfl) ?_
                refine Jp.y 9 rfl (want_all rfl) rfl rfl Kp.true (Y.assign rfl rfl) ?_
                refine Jp.done hK48 ?_
                refine Cd.ret [(0, _), (1, _), (2, _)] rfl (res2 rfl rfl rfl) ⟨rfl, rfl, rfl, trivial⟩ ⟨rfl, ?_, rfl⟩
                first
                | (rw [hlk]; rfl)
                | (have hm : may p.perm need = true := by simpa [may] using g38
                   simp [hlk, hm])
                | (have hm : may p.perm need = false := by simpa [may] using g38
                   simp [hlk, hm])
            · skip
              try simp only [decide_eq_false_iff_not, decide_eq_true_eq, Int.not_lt, Int.not_le, Bool.not_eq_false, Bool.not_eq_true, Bool.not_true, Bool.not_false, Bool.not_eq_true', Bool.not_eq_false', beq_eq_false_iff_ne, ne_eq, beq_iff_eq, bne_iff_ne, bne_eq_false_iff_eq, Classical.not_not] at g38
              first
              | done
              | (simp at g38; done)
              | skip
                refine Cd.over rfl hK44 ?_
                refine Cd.seq fun K49 hK49 => ?_
                refine Cd.plain [(0, false), (1, false), (2, false)] rfl rfl ?_
                refine Jp.y 47 rfl (want_all rfl) rfl rfl Kp.true (Y.move rfl rfl) ?_
                refine Jp.y 8 rfl (want_all rfl) rfl rfl Kp.true (Y.assign rfl rfl) ?_
                refine Jp.y 9 rfl (want_all rfl) rfl rfl Kp.true (Y.assign rfl rfl) ?_
                refine Jp.done hK49 ?_
                refine Cd.ret [(0, _), (1, _), (2, _)] rfl (res2 rfl rfl rfl) ⟨rfl, rfl, rfl, trivial⟩ ⟨rfl, ?_, rfl⟩
                first
                | (rw [hlk]; rfl)
                | (have hm : may p.perm need = true := by simpa [may] using g38
                   simp [hlk, hm])
                | (have hm : may p.perm need = false := by simpa [may] using g38
                   simp [hlk, hm])
      · have hlk : lookM M a size need = if may p.perm need then 0 else 2 := by rw [lookM, if_neg (by rw [hs]; simp), hg]
        rw [hg] at hget
        refine Jp.slot 10 rfl (show _ = Value.pointer (some ⟨x.blk (baseN a), 0, none⟩) by rw [hget]; rfl) ?_
        have hpo := hf.ok.page _ (getPg_mem hg)
        have hcell := Blks.cell (MemF.blk (x := x) hg) (pageCells_perm p hpo.len)
        refine Jp.y 36 rfl (want_all rfl) rfl rfl Kp.true (Y.move rfl rfl) ?_
        refine Jp.y 37 rfl (want_all rfl) rfl rfl Kp.true (Y.ptrNil rfl Try.underlying84 rfl rfl) ?_
        refine Jp.y 35 rfl (want_all rfl) rfl rfl Kp.true (Y.assign rfl rfl) ?_
        refine Jp.done hK45 ?_
        refine Cd.cond rfl (fun g35 => ?_) (fun g35 => ?_)
        · skip
          try simp only [decide_eq_false_iff_not, decide_eq_true_eq, Int.not_lt, Int.not_le, Bool.not_eq_false, Bool.not_eq_true, Bool.not_true, Bool.not_false, Bool.not_eq_true', Bool.not_eq_false', beq_eq_false_iff_ne, ne_eq, beq_iff_eq, bne_iff_ne, bne_eq_false_iff_eq, Classical.not_not] at g35
          first
          | done
          | (simp at g35; done)
          | skip
            refine Cd.seq fun K50 hK50 => ?_
            refine Cd.plain [(0, false), (1, false)] rfl rfl ?_
            refine Jp.y 8 rfl (want_all rfl) rfl rfl Kp.true (Y.assign rfl rfl) ?_
            refine Jp.y 9 rfl (want_all rfl) rfl rfl Kp.true (Y.assign rfl rfl) ?_
            refine Jp.done hK50 ?_
            refine Cd.ret [(0, _), (1, _), (2, _)] rfl (res2 rfl rfl rfl) ⟨rfl, rfl, rfl, trivial⟩ ⟨rfl, ?_, rfl⟩
            first
            | (rw [hlk]; rfl)
            | (have hm : may p.perm need = true := by simpa [may] using g38
               simp [hlk, hm])
            | (have hm : may p.perm need = false := by simpa [may] using g38
               simp [hlk, hm])
        · skip
          try simp only [decide_eq_false_iff_not, decide_eq_true_eq, Int.not_lt, Int.not_le, Bool.not_eq_false, Bool.not_eq_true, Bool.not_true, Bool.not_false, Bool.not_eq_true', Bool.not_eq_false', beq_eq_false_iff_ne, ne_eq, beq_iff_eq, bne_iff_ne, bne_eq_false_iff_eq, Classical.not_not] at g35
          first
          | done
          | (simp at g35; done)
          | skip
            refine Cd.seq fun K51 hK51 => ?_
            refine Cd.plain [(0, false), (1, false), (2, false), (3, false), (4, false), (5, false), (6, false), (7, false), (8, false)] rfl rfl ?_
            refine Jp.y 39 rfl (want_all rfl) rfl rfl Kp.true (Y.move rfl rfl) ?_
            refine Jp.y 40 rfl (want_all rfl) rfl rfl Kp.true (Y.nilCheck rfl rfl) ?_
            refine Jp.y 41 rfl (want_all rfl) rfl rfl Kp.true (by first | exact Y.fieldAddrP rfl rfl Try.underlying87 rfl Try.sizeOf3 (by decide) (show _ + 256 = _ from rfl) | exact Y.fieldAddr rfl rfl Try.underlying87 rfl Try.sizeOf3 (by decide)) ?_
            refine Jp.y 42 rfl (want_all rfl) rfl rfl Kp.true (by first | exact Y.loadO 0 rfl Try.isAgg3 rfl rfl rfl | exact Y.loadC 2 rfl Try.isAgg3 rfl rfl hcell) ?_
            refine Jp.y 43 rfl (want_all rfl) rfl rfl Kp.true (Y.move rfl rfl) ?_
            refine Jp.y 44 rfl (want_all rfl) rfl rfl Kp.true (Y.bits rfl rfl rfl rfl) ?_
            refine Jp.y 45 rfl (want_all rfl) rfl rfl Kp.true (Y.move rfl rfl) ?_
            refine Jp.y 46 rfl (want_all rfl) rfl rfl Kp.true (Y.neq rfl rfl rfl) ?_
            refine Jp.y 38 rfl (want_all rfl) rfl rfl Kp.true (Y.assign rfl rfl) ?_
            refine Jp.done hK51 ?_
            refine Cd.cond rfl (fun g38 => ?_) (fun g38 => ?_)
            · skip
              try simp only [decide_eq_false_iff_not, decide_eq_true_eq, Int.not_lt, Int.not_le, Bool.not_eq_false, Bool.not_eq_true, Bool.not_true, Bool.not_false, Bool.not_eq_true', Bool.not_eq_false', beq_eq_false_iff_ne, ne_eq, beq_iff_eq, bne_iff_ne, bne_eq_false_iff_eq, Classical.not_not] at g38
              first
              | done
              | (simp at g38; done)
              | skip
                refine Cd.seq fun K52 hK52 => ?_
                refine Cd.plain [(0, false), (1, false)] rfl rfl ?_
                refine Jp.y 8 rfl (want_all rfl) rfl rfl Kp.true (Y.assign rfl rfl) ?_
                refine Jp.y 9 rfl (want_all rfl) rfl rfl Kp.true (Y.assign rfl rfl) ?_
                refine Jp.done hK52 ?_
                refine Cd.ret [(0, _), (1, _), (2, _)] rfl (res2 rfl rfl rfl) ⟨rfl, rfl, rfl, trivial⟩ ⟨rfl, ?_, rfl⟩
                first
                | (rw [hlk]; rfl)
                | (have hm : may p.perm need = true := by simpa [may] using g38
                   simp [hlk, hm])
                | (have hm : may p.perm need = false := by simpa [may] using g38
                   simp [hlk, hm])
            · skip
              try simp only [decide_eq_false_iff_not, decide_eq_true_eq, Int.not_lt, Int.not_le, Bool.not_eq_false, Bool.not_eq_true, Bool.not_true, Bool.not_false, Bool.not_eq_true', Bool.not_eq_false', beq_eq_false_iff_ne, ne_eq, beq_iff_eq, bne_iff_ne, bne_eq_false_iff_eq, Classical.not_not] at g38
              first
              | done
              | (simp at g38; done)
              | skip
                refine Cd.over rfl hK44 ?_
                refine Cd.seq fun K53 hK53 => ?_
                refine Cd.plain [(0, false), (1, false), (2, false)] rfl rfl ?_
                refine Jp.y 47 rfl (want_all rfl) rfl rfl Kp.true (Y.move rfl rfl) ?_
                refine Jp.y 8 rfl (want_all rfl) rfl rfl Kp.true (Y.assign rfl rfl) ?_
                refine Jp.y 9 rfl (want_all rfl) rfl rfl Kp.true (Y.assign rfl rfl) ?_
                refine Jp.done hK53 ?_
                refine Cd.ret [(0, _), (1, _), (2, _)] rfl (res2 rfl rfl rfl) ⟨rfl, rfl, rfl, trivial⟩ ⟨rfl, ?_, rfl⟩
                first
                | (rw [hlk]; rfl)
                | (have hm : may p.perm need = true := by simpa [may] using g38
                   simp [hlk, hm])
                | (have hm : may p.perm need = false := by simpa [may] using g38
                   simp [hlk, hm])
end Go.Proofs.Ytgfbdiibndbbjaa
