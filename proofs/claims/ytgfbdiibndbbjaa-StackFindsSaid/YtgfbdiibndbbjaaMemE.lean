/- Contracts: Load, Store. -/
import Derived.Test.YtgfbdiibndbbjaaMemD
set_option linter.unusedVariables false
set_option linter.unusedSimpArgs false
set_option maxRecDepth 100000
namespace Go.Proofs.Ytgfbdiibndbbjaa
open Go
theorem lookM_ok {M : MemG} {a : Nat} {size need : Int} (h : lookM M a size need = 0) : sizeOk a size = true ∧ ∃ p, getPg M.pages (baseN a) = some p ∧ may p.perm need = true := by
  rw [lookM] at h
  split at h
  · omega
  · rename_i hs
    refine ⟨by simpa using hs, ?_⟩
    split at h
    · omega
    · rename_i p hp
      refine ⟨p, hp, ?_⟩
      split at h
      · assumption
      · omega
theorem sizeOk_nat {a : Nat} {size : Int} (h : sizeOk a size = true) : ∃ n : Nat, size = n ∧ (n = 1 ∨ n = 2 ∨ n = 4) ∧ a % 256 + n ≤ 256 := by
  simp only [sizeOk, Bool.and_eq_true, Bool.or_eq_true, beq_iff_eq] at h
  obtain ⟨(h1 | h1) | h1, h2⟩ := h
  · exact ⟨1, h1, by omega, by omega⟩
  · subst h1; exact ⟨2, rfl, by omega, by omega⟩
  · subst h1; exact ⟨4, rfl, by omega, by omega⟩
theorem pageCells_byte (p : Pg) {j : Nat} (h : p.b.length = 256) (hj : j < 256) : (pageCells p).toArray[j]? = some (.int .u8 ((p.b[j]'(by omega)).toNat : Int)) := by
  have hj' : j < p.b.length := by omega
  rw [pageCells, List.getElem?_toArray, List.getElem?_append_left (by rw [bytesV, List.length_map]; exact hj'), bytesV, List.getElem?_map, List.getElem?_eq_getElem hj']; rfl
theorem load_spec (b : Nat) (M : MemG) (a : Nat) (size need : Int) (ha : a < 4294967296) : Spec Try.prog 22 #[.pointer (some ⟨b, 0, none⟩), .int .u32 a, .int .i64 size, .int .i64 need] (fun _ => True) [(0, MemO b M)]
    (fun ρ ρ' v L => ρ' = ρ ∧ v = .tuple #[.int .u32 (loadM M a size need).1, .int .i64 (loadM M a size need).2] ∧ L = [(0, MemO b M)]) := by
  refine Spec.of 47 Try.func22 rfl Try.ntmps22 [(0, _), (1, _), (2, _), (3, _)] rfl rfl ?_
  intro cx ρ hr h0
  refine Cd.memOpen 0 1 2 3 (by decide) rfl fun x hf => ?_
  refine Cd.seq fun K1 hK1 => ?_
  refine Cd.plain [(0, false), (1, false)] rfl rfl ?_
  refine Jp.y 8 rfl (want_all rfl) rfl rfl Kp.true (Y.assign rfl rfl) ?_
  refine Jp.y 9 rfl (want_all rfl) rfl rfl Kp.true (Y.assign rfl rfl) ?_
  refine Jp.done hK1 ?_
  refine Cd.seq fun K2 hK2 => ?_
  refine Cd.plain [(0, false), (1, false), (2, false), (3, false), (4, false), (5, false), (6, false), (7, false), (8, false), (9, false)] rfl rfl ?_
  refine Jp.y 15 rfl (want_all rfl) rfl rfl Kp.true (Y.move rfl rfl) ?_
  refine Jp.y 16 rfl (want_all rfl) rfl rfl Kp.true (Y.move rfl rfl) ?_
  refine Jp.y 17 rfl (want_all rfl) rfl rfl Kp.true (Y.move rfl rfl) ?_
  refine Jp.y 18 rfl (want_all rfl) rfl rfl Kp.true (Y.move rfl rfl) ?_
  refine Jp.call [0, 1, 3] [0, 1, 3] (look_spec b M x hf a size need ha) 19 rfl (want_all rfl) rfl rfl (Runs.fn rfl Try.call51 rfl) (by decide) (by decide) rfl trivial ?_
  rintro v101 ρ101 L101 ⟨rfl, rfl, rfl⟩
  refine ⟨rfl, fun hle101 => ⟨Kp.true, ?_⟩⟩
  refine Jp.y 14 rfl (want_all rfl) rfl rfl Kp.true (Y.move rfl rfl) ?_
  refine Jp.y 20 rfl (want_all rfl) rfl rfl Kp.true (Y.extract rfl rfl rfl) ?_
  refine Jp.y 21 rfl (want_all rfl) rfl rfl Kp.true (Y.extract rfl rfl rfl) ?_
  refine Jp.y 10 rfl (want_all rfl) rfl rfl Kp.true (Y.assign rfl rfl) ?_
  refine Jp.y 11 rfl (want_all rfl) rfl rfl Kp.true (Y.assign rfl rfl) ?_
  refine Jp.done hK2 ?_
  refine Cd.seq fun K3 hK3 => ?_
  refine Cd.seq fun K4 hK4 => ?_
  refine Cd.plain [(0, false), (1, false)] rfl rfl ?_
  refine Jp.y 22 rfl (want_all rfl) rfl rfl Kp.true (Y.move rfl rfl) ?_
  refine Jp.y 23 rfl (want_all rfl) rfl rfl Kp.true (Y.neq rfl rfl rfl) ?_
  refine Jp.done hK4 ?_
  refine Cd.cond rfl (fun g23 => ?_) (fun g23 => ?_)
  · skip
    try simp only [decide_eq_false_iff_not, decide_eq_true_eq, Int.not_lt, Int.not_le, Bool.not_eq_false, Bool.not_eq_true, Bool.not_true, Bool.not_false, Bool.not_eq_true', Bool.not_eq_false', beq_eq_false_iff_ne, ne_eq, beq_iff_eq, bne_iff_ne, bne_eq_false_iff_eq, Classical.not_not] at g23
    refine Cd.seq fun K5 hK5 => ?_
    refine Cd.plain [(0, false), (1, false), (2, false)] rfl rfl ?_
    refine Jp.y 24 rfl (want_all rfl) rfl rfl Kp.true (Y.move rfl rfl) ?_
    refine Jp.y 8 rfl (want_all rfl) rfl rfl Kp.true (Y.assign rfl rfl) ?_
    refine Jp.y 9 rfl (want_all rfl) rfl rfl Kp.true (Y.assign rfl rfl) ?_
    refine Jp.done hK5 ?_
    refine Cd.memClose 0 1 2 3 (by decide) hf rfl rfl rfl rfl ?_
    refine Cd.ret [(0, _)] rfl (res2 rfl rfl rfl) ⟨rfl, trivial⟩ ⟨rfl, ?_, rfl⟩
    rw [loadM, if_neg g23]; rfl
  try simp only [decide_eq_false_iff_not, decide_eq_true_eq, Int.not_lt, Int.not_le, Bool.not_eq_false, Bool.not_eq_true, Bool.not_true, Bool.not_false, Bool.not_eq_true', Bool.not_eq_false', beq_eq_false_iff_ne, ne_eq, beq_iff_eq, bne_iff_ne, bne_eq_false_iff_eq, Classical.not_not] at g23
  refine Cd.skip hK3 ?_
  refine Cd.seq fun K6 hK6 => ?_
  refine Cd.plain [(0, false)] rfl rfl ?_
  obtain ⟨hs, p, hg, hm⟩ := lookM_ok g23
  obtain ⟨n, rfl, hn1, hn2⟩ := sizeOk_nat hs
  have hpo := hf.ok.page _ (getPg_mem hg)
  have hlen : p.b.length = 256 := hpo.len
  have hV : loadM M a n need = (leN ((p.b.drop (a % 256)).take n), 0) := by rw [loadM, if_pos g23, hg]; rfl
  refine Jp.slot 10 rfl (show _ = Value.pointer (some ⟨x.blk (baseN a), 0, none⟩) by rw [if_pos g23]) ?_
  refine Jp.y 12 rfl (want_all rfl) rfl rfl Kp.true (Y.assign rfl rfl) ?_
  refine Jp.done hK6 ?_
  refine Cd.seq fun K7 hK7 => ?_
  refine Cd.seq fun K8 hK8 => ?_
  refine Cd.plain [(0, false), (1, false), (2, false)] rfl rfl ?_
  refine Jp.y 25 rfl (want_all rfl) rfl rfl Kp.true (Y.move rfl rfl) ?_
  refine Jp.y 26 rfl (want_all rfl) rfl rfl Kp.true (Y.conv_ rfl rfl Try.underlying3 Try.underlying26 (by first | exact wrap_u32 (by omega) (by omega) | rfl)) ?_
  refine Jp.y 27 rfl (want_all rfl) rfl rfl Kp.true (Y.move rfl rfl) ?_
  refine Jp.done hK8 ?_
  refine Cd.block ?_
  refine Cd.loopK (G := Nat) (fun k => k ≤ n) (fun k => n - k) (fun _ => _) (fun k => [(12, .int .u32 (leN ((p.b.drop (a % 256)).take k))), (27, .int .u32 k)]) [(1, _), (10, _), (26, _)] (fun _ => []) [(0, _), (1, _), (2, _), (3, _)] 0 (Nat.zero_le _) rfl ⟨rfl, rfl, trivial⟩ ⟨rfl, rfl, rfl, trivial⟩ trivial ⟨rfl, rfl, rfl, rfl, trivial⟩ (fun g KLa hok hLa => ?_)
  refine Cd.seq fun K9 hK9 => ?_
  refine Cd.plain [(0, false)] rfl rfl ?_
  refine Jp.y 28 rfl (want_all rfl) rfl rfl Kp.true (Y.lss rfl rfl rfl) ?_
  refine Jp.done hK9 ?_
  refine Cd.seq fun K10 hK10 => ?_
  refine Cd.cond rfl (fun ga => ?_) (fun ga => ?_)
  · simp only [decide_eq_true_eq] at ga
    have hgn : g < n := by omega
    have hj : a % 256 + g < 256 := by omega
    have hcell := Blks.cell (MemF.blk (x := x) hg) (pageCells_byte p hlen hj)
    have hb := (p.b[a % 256 + g]'(by omega)).toNat_lt
    refine Cd.skip hK10 ?_
    refine Cd.seq fun K11 hK11 => ?_
    refine Cd.block ?_
    refine Cd.seq fun K12 hK12 => ?_
    refine Cd.plain [(0, false), (1, false)] rfl rfl ?_
    refine Jp.y 29 rfl (want_all rfl) rfl rfl Kp.true (Y.move rfl rfl) ?_
    refine Jp.y 13 rfl (want_all rfl) rfl rfl Kp.true (Y.assign rfl rfl) ?_
    refine Jp.done hK12 ?_
    refine Cd.plain [(0, false), (1, false), (2, false), (3, false), (4, false), (5, false), (6, false), (7, false), (8, false), (9, false), (10, false), (11, false), (12, false), (13, false), (14, false), (15, false)] rfl rfl ?_
    refine Jp.y 30 rfl (want_all rfl) rfl rfl Kp.true (Y.move rfl rfl) ?_
    refine Jp.y 31 rfl (want_all rfl) rfl rfl Kp.true (Y.move rfl rfl) ?_
    refine Jp.y 32 rfl (want_all rfl) rfl rfl Kp.true (Y.move rfl rfl) ?_
    refine Jp.y 33 rfl (want_all rfl) rfl rfl Kp.true (by first | exact Y.remN rfl rfl rfl (by omega) (by omega) | exact Y.rem rfl rfl rfl (by first | decide | omega)) ?_
    refine Jp.y 34 rfl (want_all rfl) rfl rfl Kp.true (Y.move rfl rfl) ?_
    refine Jp.y 35 rfl (want_all rfl) rfl rfl Kp.true (Y.add_ rfl rfl rfl (by first | exact wrap_u32 (by omega) (by omega) | rfl)) ?_
    refine Jp.y 36 rfl (want_all rfl) rfl rfl Kp.true (Y.nilCheck rfl rfl) ?_
    refine Jp.y 37 rfl (want_all rfl) rfl rfl Kp.true (by first | exact Y.fieldAddrP rfl rfl Try.underlying87 rfl Try.sizeOf85 (by decide) (show _ + 0 = _ from rfl) | exact Y.fieldAddr rfl rfl Try.underlying87 rfl Try.sizeOf85 (by decide)) ?_
    refine Jp.y 38 rfl (want_all rfl) rfl rfl Kp.true (Y.indexArrP (q := a % 256 + g) rfl rfl rfl Try.underlying85 Try.sizeOf5 (by omega) (by omega) (by omega)) ?_
    refine Jp.y 39 rfl (want_all rfl) rfl rfl Kp.true (by first | exact Y.loadO 0 rfl Try.isAgg5 rfl rfl rfl | exact Y.loadC 3 rfl Try.isAgg5 rfl rfl hcell) ?_
    refine Jp.y 40 rfl (want_all rfl) rfl rfl Kp.true (Y.conv_ rfl rfl Try.underlying5 Try.underlying26 (by first | exact wrap_u32 (by omega) (by omega) | rfl)) ?_
    refine Jp.y 41 rfl (want_all rfl) rfl rfl Kp.true (Y.move rfl rfl) ?_
    refine Jp.y 42 rfl (want_all rfl) rfl rfl Kp.true (Y.mul_ rfl rfl rfl (by first | exact wrap_u32 (by omega) (by omega) | rfl)) ?_
    refine Jp.y 43 rfl (want_all rfl) rfl rfl Kp.true (Y.shl rfl rfl rfl (by first | decide | omega)) ?_
    refine Jp.y 44 rfl (want_all rfl) rfl rfl Kp.true (Y.bits rfl rfl rfl rfl) ?_
    refine Jp.y 12 rfl (want_all rfl) rfl rfl Kp.true (Y.assign rfl rfl) ?_
    refine Jp.over rfl hK11 ?_
    refine Cd.plain [(0, false), (1, false)] rfl rfl ?_
    refine Jp.slot 12 rfl (congrArg (Value.int .u32) (le_or2 (i := g) (by rw [List.length_take, List.length_drop]; omega) (by omega))) ?_
    have e : (p.b.drop (a % 256)).take g ++ [p.b[a % 256 + g]'(by omega)] = (p.b.drop (a % 256)).take (g + 1) := by
      rw [List.take_succ_eq_append_getElem (by rw [List.length_drop]; omega), List.getElem_drop]
    rw [e]
    refine Jp.y 45 rfl (want_all rfl) rfl rfl Kp.true (Y.add_ rfl rfl rfl (by first | exact wrap_u32 (by omega) (by omega) | rfl)) ?_
    refine Jp.y 27 rfl (want_all rfl) rfl rfl Kp.true (Y.move rfl rfl) ?_
    refine Jp.again hLa (g + 1) (by omega) (by omega) rfl ⟨rfl, rfl, rfl, rfl, rfl, trivial⟩ ⟨rfl, rfl, rfl, rfl, trivial⟩
  · simp only [decide_eq_false_iff_not] at ga
    obtain rfl : g = n := by omega
    refine Cd.exit rfl hK7 ?_
    refine Cd.seq fun K13 hK13 => ?_
    refine Cd.plain [(0, false), (1, false), (2, false)] rfl rfl ?_
    refine Jp.y 46 rfl (want_all rfl) rfl rfl Kp.true (Y.move rfl rfl) ?_
    refine Jp.y 8 rfl (want_all rfl) rfl rfl Kp.true (Y.assign rfl rfl) ?_
    refine Jp.y 9 rfl (want_all rfl) rfl rfl Kp.true (Y.assign rfl rfl) ?_
    refine Jp.done hK13 ?_
    refine Cd.memClose 0 1 2 3 (by decide) hf rfl rfl rfl rfl ?_
    refine Cd.ret [(0, _)] rfl (res2 rfl rfl rfl) ⟨rfl, trivial⟩ ⟨rfl, ?_, rfl⟩
    rw [hV]
theorem pageCells_lay (p : Pg) {off k v : Nat} (h : p.b.length = 256) (hk : off + k < 256) : (pageCells (stPg p off k v)).toArray.setIfInBounds (off + k) (.int .u8 ((UInt8.ofNat (v / 2 ^ (8 * k))).toNat : Int)) = (pageCells (stPg p off (k + 1) v)).toArray := by
  rw [List.setIfInBounds_toArray]
  congr 1
  have hl : (lay p.b off (leB v k)).length = 256 := by rw [lay_length (by rw [leB_length]; omega), h]
  rw [pageCells, List.set_append_left _ _ (by rw [bytesV, List.length_map]; show off + k < (lay p.b off (leB v k)).length; omega), bytesV_set]
  show bytesV ((lay p.b off (leB v k)).set (off + k) _) ++ _ = _
  have := lay_snoc_set (p := p.b) (k := off) (a := leB v k) (x := UInt8.ofNat (v / 2 ^ (8 * k))) (by rw [leB_length]; omega)
  rw [leB_length] at this
  rw [this, ← leB_succ]; rfl
theorem stPg_len {p : Pg} {off k v : Nat} (h : p.b.length = 256) (hk : off + k ≤ 256) : (stPg p off k v).b.length = 256 := by
  show (lay p.b off (leB v k)).length = 256
  rw [lay_length (by rw [leB_length]; omega), h]
def stMem (M : MemG) (key : Nat) (p : Pg) (off k v : Nat) : MemG := { M with pages := setPg M.pages key (stPg p off k v) }
theorem store_spec (b : Nat) (M : MemG) (a : Nat) (size : Int) (v : Nat) (ha : a < 4294967296) (hv : v < 4294967296) : Spec Try.prog 21 #[.pointer (some ⟨b, 0, none⟩), .int .u32 a, .int .i64 size, .int .u32 v] (fun _ => True) [(0, MemO b M)]
    (fun ρ ρ' r L => ρ' = ρ ∧ r = .int .i64 (storeM M a size v).1 ∧ L = [(0, MemO b (storeM M a size v).2)]) := by
  refine Spec.of 49 Try.func21 rfl Try.ntmps21 [(0, _), (1, _), (2, _), (3, _)] rfl rfl ?_
  intro cx ρ hr h0
  refine Cd.memOpen 0 1 2 3 (by decide) rfl fun x hf => ?_
  refine Cd.seq fun K14 hK14 => ?_
  refine Cd.plain [(0, false)] rfl rfl ?_
  refine Jp.y 8 rfl (want_all rfl) rfl rfl Kp.true (Y.assign rfl rfl) ?_
  refine Jp.done hK14 ?_
  refine Cd.seq fun K15 hK15 => ?_
  refine Cd.plain [(0, false), (1, false), (2, false), (3, false), (4, false), (5, false), (6, false), (7, false), (8, false)] rfl rfl ?_
  refine Jp.y 13 rfl (want_all rfl) rfl rfl Kp.true (Y.move rfl rfl) ?_
  refine Jp.y 14 rfl (want_all rfl) rfl rfl Kp.true (Y.move rfl rfl) ?_
  refine Jp.y 15 rfl (want_all rfl) rfl rfl Kp.true (Y.move rfl rfl) ?_
  refine Jp.call [0, 1, 3] [0, 1, 3] (look_spec b M x hf a size 2 ha) 16 rfl (want_all rfl) rfl rfl (Runs.fn rfl Try.call51 rfl) (by decide) (by decide) rfl trivial ?_
  rintro v102 ρ102 L102 ⟨rfl, rfl, rfl⟩
  refine ⟨rfl, fun hle102 => ⟨Kp.true, ?_⟩⟩
  refine Jp.y 12 rfl (want_all rfl) rfl rfl Kp.true (Y.move rfl rfl) ?_
  refine Jp.y 17 rfl (want_all rfl) rfl rfl Kp.true (Y.extract rfl rfl rfl) ?_
  refine Jp.y 18 rfl (want_all rfl) rfl rfl Kp.true (Y.extract rfl rfl rfl) ?_
  refine Jp.y 9 rfl (want_all rfl) rfl rfl Kp.true (Y.assign rfl rfl) ?_
  refine Jp.y 10 rfl (want_all rfl) rfl rfl Kp.true (Y.assign rfl rfl) ?_
  refine Jp.done hK15 ?_
  refine Cd.seq fun K16 hK16 => ?_
  refine Cd.seq fun K17 hK17 => ?_
  refine Cd.plain [(0, false), (1, false)] rfl rfl ?_
  refine Jp.y 19 rfl (want_all rfl) rfl rfl Kp.true (Y.move rfl rfl) ?_
  refine Jp.y 20 rfl (want_all rfl) rfl rfl Kp.true (Y.neq rfl rfl rfl) ?_
  refine Jp.done hK17 ?_
  refine Cd.cond rfl (fun g20 => ?_) (fun g20 => ?_)
  · skip
    try simp only [decide_eq_false_iff_not, decide_eq_true_eq, Int.not_lt, Int.not_le, Bool.not_eq_false, Bool.not_eq_true, Bool.not_true, Bool.not_false, Bool.not_eq_true', Bool.not_eq_false', beq_eq_false_iff_ne, ne_eq, beq_iff_eq, bne_iff_ne, bne_eq_false_iff_eq, Classical.not_not] at g20
    refine Cd.seq fun K18 hK18 => ?_
    refine Cd.plain [(0, false), (1, false)] rfl rfl ?_
    refine Jp.y 21 rfl (want_all rfl) rfl rfl Kp.true (Y.move rfl rfl) ?_
    refine Jp.y 8 rfl (want_all rfl) rfl rfl Kp.true (Y.assign rfl rfl) ?_
    refine Jp.done hK18 ?_
    refine Cd.memClose 0 1 2 3 (by decide) hf rfl rfl rfl rfl ?_
    have hV : storeM M a size v = (lookM M a size 2, M) := by rw [storeM, if_neg g20]
    refine Cd.ret [(0, _)] rfl (res1 rfl rfl) ⟨rfl, trivial⟩ ⟨rfl, by rw [hV], by rw [hV]⟩
  try simp only [decide_eq_false_iff_not, decide_eq_true_eq, Int.not_lt, Int.not_le, Bool.not_eq_false, Bool.not_eq_true, Bool.not_true, Bool.not_false, Bool.not_eq_true', Bool.not_eq_false', beq_eq_false_iff_ne, ne_eq, beq_iff_eq, bne_iff_ne, bne_eq_false_iff_eq, Classical.not_not] at g20
  refine Cd.skip hK16 ?_
  refine Cd.seq fun K19 hK19 => ?_
  refine Cd.seq fun K20 hK20 => ?_
  refine Cd.plain [(0, false), (1, false), (2, false)] rfl rfl ?_
  obtain ⟨hs, p, hg, hm⟩ := lookM_ok g20
  obtain ⟨n, rfl, hn1, hn2⟩ := sizeOk_nat hs
  have hpo := hf.ok.page _ (getPg_mem hg)
  have hlen : p.b.length = 256 := hpo.len
  have hV : storeM M a n v = (0, { M with pages := setPg M.pages (baseN a) (stPg p (a % 256) n v), gens := bump M.gens (baseN a) }) := by rw [storeM, if_pos g20, hg]; rfl
  refine Jp.know (φ := ((blksOf M x).map (·.1)).Nodup) (A := Blks (blksOf M x)) 3 rfl (fun _ h => h.1) fun hnd => ?_
  refine Jp.slot 9 rfl (show _ = Value.pointer (some ⟨x.blk (baseN a), 0, none⟩) by rw [if_pos g20]) ?_
  have hnk : ∀ k, ((blksOf (stMem M (baseN a) p (a % 256) k v) x).map (·.1)).Nodup := fun k => by
    rw [blksOf, List.map_map]
    show ((setPg M.pages (baseN a) _).map fun y => x.blk y.1).Nodup
    rw [setPg_map]
    rw [blksOf, List.map_map] at hnd
    exact hnd
  have hst0 : blksOf M x = blksOf (stMem M (baseN a) p (a % 256) 0 v) x := by
    have : stPg p (a % 256) 0 v = p := by show (⟨lay p.b (a % 256) [], p.perm⟩ : Pg) = p; rw [lay_nil]
    rw [stMem, this, setPg_same hf.ok.rising.nodup hg]
  rw [hst0]
  refine Jp.y 22 rfl (want_all rfl) rfl rfl Kp.true (Y.move rfl rfl) ?_
  refine Jp.y 23 rfl (want_all rfl) rfl rfl Kp.true (Y.conv_ rfl rfl Try.underlying3 Try.underlying26 (by first | exact wrap_u32 (by omega) (by omega) | rfl)) ?_
  refine Jp.y 24 rfl (want_all rfl) rfl rfl Kp.true (Y.move rfl rfl) ?_
  refine Jp.done hK20 ?_
  refine Cd.block ?_
  refine Cd.loopK (G := Nat) (fun k => k ≤ n) (fun k => n - k) (fun _ => _) (fun k => [(24, .int .u32 k)]) [(0, _), (1, _), (3, _), (9, _), (23, _)] (fun k => [(3, Blks (blksOf (stMem M (baseN a) p (a % 256) k v) x))]) [(0, _), (1, _), (2, _)] 0 (Nat.zero_le _) rfl ⟨rfl, trivial⟩ ⟨rfl, rfl, rfl, rfl, rfl, trivial⟩ ⟨rfl, trivial⟩ ⟨rfl, rfl, rfl, trivial⟩ (fun g KLa hok hLa => ?_)
  have hgk : getPg (stMem M (baseN a) p (a % 256) g v).pages (baseN a) = some (stPg p (a % 256) g v) := by
    show getPg (setPg _ _ _) _ = _
    rw [getPg_set, if_pos rfl, hg]; rfl
  refine Cd.seq fun K21 hK21 => ?_
  refine Cd.plain [(0, false)] rfl rfl ?_
  refine Jp.y 25 rfl (want_all rfl) rfl rfl Kp.true (Y.lss rfl rfl rfl) ?_
  refine Jp.done hK21 ?_
  refine Cd.seq fun K22 hK22 => ?_
  refine Cd.cond rfl (fun ga => ?_) (fun ga => ?_)
  · simp only [decide_eq_true_eq] at ga
    have hgn : g < n := by omega
    refine Cd.skip hK22 ?_
    refine Cd.seq fun K23 hK23 => ?_
    refine Cd.block ?_
    refine Cd.seq fun K24 hK24 => ?_
    refine Cd.plain [(0, false), (1, false)] rfl rfl ?_
    refine Jp.y 26 rfl (want_all rfl) rfl rfl Kp.true (Y.move rfl rfl) ?_
    refine Jp.y 11 rfl (want_all rfl) rfl rfl Kp.true (Y.assign rfl rfl) ?_
    refine Jp.done hK24 ?_
    refine Cd.plain [(0, false), (1, false), (2, false), (3, false), (4, false), (5, false), (6, false), (7, false), (8, false), (9, false), (10, false), (11, false), (12, false), (13, false)] rfl rfl ?_
    refine Jp.y 27 rfl (want_all rfl) rfl rfl Kp.true (Y.move rfl rfl) ?_
    refine Jp.y 28 rfl (want_all rfl) rfl rfl Kp.true (Y.move rfl rfl) ?_
    refine Jp.y 29 rfl (want_all rfl) rfl rfl Kp.true (by first | exact Y.remN rfl rfl rfl (by omega) (by omega) | exact Y.rem rfl rfl rfl (by first | decide | omega)) ?_
    refine Jp.y 30 rfl (want_all rfl) rfl rfl Kp.true (Y.move rfl rfl) ?_
    refine Jp.y 31 rfl (want_all rfl) rfl rfl Kp.true (Y.add_ rfl rfl rfl (by first | exact wrap_u32 (by omega) (by omega) | rfl)) ?_
    refine Jp.y 32 rfl (want_all rfl) rfl rfl Kp.true (Y.move rfl rfl) ?_
    refine Jp.y 33 rfl (want_all rfl) rfl rfl Kp.true (Y.move rfl rfl) ?_
    refine Jp.y 34 rfl (want_all rfl) rfl rfl Kp.true (Y.mul_ rfl rfl rfl (by first | exact wrap_u32 (by omega) (by omega) | rfl)) ?_
    refine Jp.y 35 rfl (want_all rfl) rfl rfl Kp.true (Y.shr rfl rfl rfl (by first | decide | omega)) ?_
    refine Jp.y 36 rfl (want_all rfl) rfl rfl Kp.true (Y.conv_ rfl rfl Try.underlying26 Try.underlying5 (by first | exact wrap_u8 (by omega) (by omega) | rfl)) ?_
    refine Jp.y 37 rfl (want_all rfl) rfl rfl Kp.true (Y.nilCheck rfl rfl) ?_
    refine Jp.y 38 rfl (want_all rfl) rfl rfl Kp.true (by first | exact Y.fieldAddrP rfl rfl Try.underlying87 rfl Try.sizeOf85 (by decide) (show _ + 0 = _ from rfl) | exact Y.fieldAddr rfl rfl Try.underlying87 rfl Try.sizeOf85 (by decide)) ?_
    refine Jp.y 39 rfl (want_all rfl) rfl rfl Kp.true (Y.indexArrP (q := a % 256 + g) rfl rfl rfl Try.underlying85 Try.sizeOf5 (by omega) (by omega) (by omega)) ?_
    refine Jp.slot 36 rfl (congrArg (Value.int .u8) (shr8 v g (by omega))) ?_
    refine Jp.storeC 3 (Blks (blksOf (stMem M (baseN a) p (a % 256) (g + 1) v) x)) rfl (want_all rfl) rfl rfl Try.sizeOf5 rfl rfl rfl rfl rfl (Blks.set (MemF.blk hgk) (by simp [pageCells, bytesV, stPg_len hlen (show a % 256 + g ≤ 256 by omega)]; omega) (noFr0 _) (by rw [pageCells_lay p hlen (by omega)]; exact (updB_blks (M := stMem M (baseN a) p (a % 256) g v) (x := x) (hnk g) hgk).trans (by rw [stMem, stMem, setPg_set]))) Kp.true ?_
    refine Jp.over rfl hK23 ?_
    refine Cd.plain [(0, false), (1, false)] rfl rfl ?_
    refine Jp.y 40 rfl (want_all rfl) rfl rfl Kp.true (Y.add_ rfl rfl rfl (by first | exact wrap_u32 (by omega) (by omega) | rfl)) ?_
    refine Jp.y 24 rfl (want_all rfl) rfl rfl Kp.true (Y.move rfl rfl) ?_
    refine Jp.again hLa (g + 1) (by omega) (by omega) rfl ⟨rfl, rfl, rfl, rfl, rfl, rfl, trivial⟩ ⟨rfl, rfl, rfl, rfl, trivial⟩
  · simp only [decide_eq_false_iff_not] at ga
    obtain rfl : g = n := by omega
    have hf2 : MemF (stMem M (baseN a) p (a % 256) g v) x := hf.set hg (stPg_len hlen hn2) hpo.perm
    have hf3 := hf2.bump (baseN a)
    refine Cd.exit rfl hK19 ?_
    refine Cd.seq fun K25 hK25 => ?_
    refine Cd.drawn [(0, _), (2, _)] ⟨rfl, rfl, trivial⟩ [(0, true), (1, true), (2, true), (3, true), (4, true), (5, false), (6, true), (7, true), (8, false)] follows (by kernel_rfl) (fun hrl => ?_)
    refine Jp.q 41 rfl (want_all rfl) rfl rfl (Y.move rfl rfl) ?_
    refine Jp.q 42 rfl (want_all rfl) rfl rfl (Y.nilCheck rfl rfl) ?_
    refine Jp.q 43 rfl (want_all rfl) rfl rfl (by first | exact Y.fieldAddrP rfl rfl Try.underlying79 rfl Try.sizeOf77 (by decide) (show _ + 2 = _ from rfl) | exact Y.fieldAddr rfl rfl Try.underlying79 rfl Try.sizeOf77 (by decide)) ?_
    refine Jp.q 44 rfl (want_all rfl) rfl rfl (Y.loadO 0 rfl Try.isAgg77 rfl rfl rfl) ?_
    refine Jp.q 45 rfl (want_all rfl) rfl rfl (Y.move rfl rfl) ?_
    refine Jp.call [] [] (base_spec a ha) 46 rfl (want_all rfl) rfl rfl (Runs.fn rfl Try.call52 rfl) (by decide) (by decide) rfl trivial ?_
    rintro v103 ρ103 L103 ⟨rfl, rfl, rfl⟩
    refine ⟨rfl, fun hle103 => ⟨(Kp.st ⟨rfl, rfl, trivial⟩), ?_⟩⟩
    refine Jp.q 47 rfl (want_all rfl) rfl rfl (by first | exact Y.lookup 2 rfl rfl rfl Try.underlying77 Try.underlying26 Try.zeroValue26 rfl) ?_
    refine Jp.slot 47 rfl ((hf.gens _)) ?_
    refine Jp.q 48 rfl (want_all rfl) rfl rfl (Y.add_ rfl rfl rfl (wrap_u32m (M.gens (baseN a) + 1))) ?_
    first | refine Jp.mapUpdate 2 rfl (want_all rfl) rfl rfl rfl rfl rfl Try.underlying77 Try.underlying26 rfl Kp.last ?_
    refine Jp.done hK25 ?_
    refine Cd.seq fun K27 hK27 => ?_
    refine Cd.plain [(0, false)] rfl rfl ?_
    refine Jp.y 8 rfl (want_all rfl) rfl rfl Kp.true (Y.assign rfl rfl) ?_
    refine Jp.done hK27 ?_
    refine Cd.memClose 0 1 2 3 (by decide) hf3 rfl rfl rfl rfl ?_
    refine Cd.ret [(0, _)] rfl (res1 rfl rfl) ⟨rfl, trivial⟩ ⟨rfl, by rw [hV], by rw [hV]; rfl⟩
end Go.Proofs.Ytgfbdiibndbbjaa
