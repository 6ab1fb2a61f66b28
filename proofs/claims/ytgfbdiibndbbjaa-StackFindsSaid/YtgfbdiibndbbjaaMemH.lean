/- A memory of one page; MemBack. -/
import Derived.Test.YtgfbdiibndbbjaaMemG
set_option linter.unusedVariables false
set_option linter.unusedSimpArgs false
set_option maxRecDepth 100000
namespace Go.Proofs.Ytgfbdiibndbbjaa
open Go
def oneM (bud : Nat) (bs : Bytes) (g : Nat → Nat) : MemG := ⟨bud, [(0, ⟨bs, 3⟩)], g⟩
theorem base_low {a : Nat} (h : a < 256) : baseN a = 0 := by unfold baseN; omega
theorem sizeOk_of {a n : Nat} (hn : n = 1 ∨ n = 2 ∨ n = 4) (ha : a % n = 0) : sizeOk a n = true := by
  rcases hn with rfl | rfl | rfl
  · simp [sizeOk]
  · simp [sizeOk]; omega
  · simp [sizeOk]; omega
theorem one_look {bud : Nat} {bs : Bytes} {g : Nat → Nat} {a n : Nat} {need : Int} (hn : n = 1 ∨ n = 2 ∨ n = 4) (ha : a % n = 0) (h : a < 256) (hm : may 3 need = true) : lookM (oneM bud bs g) a n need = 0 := by
  rw [lookM, if_neg (by rw [sizeOk_of hn ha]; simp), base_low h]
  simp [oneM, getPg, hm]
theorem one_load {bud : Nat} {bs : Bytes} {g : Nat → Nat} {a n : Nat} {need : Int} (hn : n = 1 ∨ n = 2 ∨ n = 4) (ha : a % n = 0) (h : a < 256) (hm : may 3 need = true) : loadM (oneM bud bs g) a n need = (leN ((bs.drop a).take n), 0) := by
  rw [loadM, if_pos (one_look hn ha h hm), base_low h, Nat.mod_eq_of_lt h]
  simp [oneM, getPg]
theorem one_store {bud : Nat} {bs : Bytes} {g : Nat → Nat} {a n v : Nat} (hn : n = 1 ∨ n = 2 ∨ n = 4) (ha : a % n = 0) (h : a < 256) : storeM (oneM bud bs g) a n v = (0, oneM bud (lay bs a (leB v n)) (bump g 0)) := by
  rw [storeM, if_pos (one_look hn ha h (by decide)), base_low h, Nat.mod_eq_of_lt h]
  simp [oneM, getPg, setPg, stPg]
theorem lay_get {p b : Bytes} {k j : Nat} (h : k + b.length ≤ p.length) : (lay p k b)[j]? = if k ≤ j ∧ j < k + b.length then b[j - k]? else p[j]? := by
  rw [lay, List.append_assoc]
  by_cases h1 : j < k
  · rw [List.getElem?_append_left (by rw [List.length_take]; omega), List.getElem?_take_of_lt h1, if_neg (by omega)]
  · rw [List.getElem?_append_right (by rw [List.length_take]; omega), List.length_take, Nat.min_eq_left (by omega)]
    by_cases h2 : j < k + b.length
    · rw [List.getElem?_append_left (by omega), if_pos (by omega)]
    · rw [List.getElem?_append_right (by omega), if_neg (by omega), List.getElem?_drop]
      congr 1; omega
theorem le_one {bs : Bytes} {j : Nat} {x : UInt8} (h : bs[j]? = some x) : leN ((bs.drop j).take 1) = x.toNat := by
  obtain ⟨h1, rfl⟩ := List.getElem?_eq_some_iff.1 h
  rw [List.drop_eq_getElem_cons h1, List.take_succ_cons, List.take_zero]; rfl
theorem lay_mid {p b : Bytes} {k : Nat} (h : k + b.length ≤ p.length) : ((lay p k b).drop k).take b.length = b := by
  rw [lay, List.append_assoc, List.drop_append_of_le_length (by rw [List.length_take]; omega), List.drop_of_length_le (by rw [List.length_take]; omega)]
  simp
theorem leB_get {v n j : Nat} (h : j < n) : (leB v n)[j]? = some (UInt8.ofNat (v / 2 ^ (8 * j))) := by
  rw [leB, List.getElem?_map, List.getElem?_range h]; rfl
theorem one_map (bud : Nat) (h : 1 ≤ bud) : mapM (newM bud) 0 256 3 = (0, oneM bud (List.replicate 256 0) (bump (fun _ => 0) 0)) := by
  have h1 : stretch 0 256 = some 1 := by decide
  rw [mapM, h1]
  dsimp only
  rw [if_neg (by decide), if_neg (by simp [withinP, newM]), if_neg (by simp [newM]; omega)]
  rfl
theorem map_one {b bud : Nat} (h : 1 ≤ bud) : Spec Try.prog 20 #[.pointer (some ⟨b, 0, none⟩), .int .u32 0, .int .u32 256, .int .i64 3] (fun _ => True) [(0, MemO b (newM bud))]
    (fun ρ ρ' r L => ρ' = ρ ∧ r = .int .i64 0 ∧ L = [(0, MemO b (oneM bud (List.replicate 256 0) (bump (fun _ => 0) 0)))]) :=
  map_eq (a := 0) (n := 256) (by omega) (by omega) (by rw [one_map bud h]) (by rw [one_map bud h])
theorem store_one {b bud : Nat} {bs : Bytes} {g : Nat → Nat} {a n v : Nat} (hn : n = 1 ∨ n = 2 ∨ n = 4) (ha : a % n = 0) (h : a < 256) (hv : v < 4294967296) : Spec Try.prog 21 #[.pointer (some ⟨b, 0, none⟩), .int .u32 a, .int .i64 n, .int .u32 v] (fun _ => True) [(0, MemO b (oneM bud bs g))]
    (fun ρ ρ' r L => ρ' = ρ ∧ r = .int .i64 0 ∧ L = [(0, MemO b (oneM bud (lay bs a (leB v n)) (bump g 0)))]) :=
  store_eq (by omega) hv (by rw [one_store hn ha h]) (by rw [one_store hn ha h])
theorem load_one {b bud : Nat} {bs : Bytes} {g : Nat → Nat} {a n : Nat} {need : Int} {x : Nat} (hn : n = 1 ∨ n = 2 ∨ n = 4) (ha : a % n = 0) (h : a < 256) (hm : may 3 need = true) (hx : leN ((bs.drop a).take n) = x) : Spec Try.prog 22 #[.pointer (some ⟨b, 0, none⟩), .int .u32 a, .int .i64 n, .int .i64 need] (fun _ => True) [(0, MemO b (oneM bud bs g))]
    (fun ρ ρ' r L => ρ' = ρ ∧ r = .tuple #[.int .u32 x, .int .i64 0] ∧ L = [(0, MemO b (oneM bud bs g))]) :=
  load_eq (by omega) (by rw [one_load hn ha h hm, hx])
theorem mask32 {v k : Nat} (hv : v < 4294967296) (hk : k ≤ 31) : bitsB .and .u32 v ((2 ^ k - 1 : Nat) : Int) = ((v % 2 ^ k : Nat) : Int) := by
  have h1 : 2 ^ k ≤ 2 ^ 31 := Nat.pow_le_pow_right (by omega) hk
  rw [bits_and32 hv (by omega), Nat.and_two_pow_sub_one_eq_mod]
theorem memBack_spec (at' size : Int) (v be bh : Nat) (hv : v < 4294967296) (hbe : be < 256) (hbh : bh < 256) : Spec Try.prog 4 #[.int .i64 at', .int .i64 size, .int .u32 v, .int .u8 be, .int .u8 bh] (fun _ => True) [] (fun ρ ρ' v L => v = .bool true ∧ L = []) := by
  refine Spec.of 161 Try.func4 rfl Try.ntmps4 [(0, _), (1, _), (2, _), (3, _), (4, _)] rfl rfl ?_
  intro cx ρ hr h0
  refine Cd.seq fun K1 hK1 => ?_
  refine Cd.plain [(0, false)] rfl rfl ?_
  refine Jp.y 10 rfl (want_all rfl) rfl rfl Kp.true (Y.assign rfl rfl) ?_
  refine Jp.done hK1 ?_
  refine Cd.seq fun K2 hK2 => ?_
  refine Cd.seq fun K3 hK3 => ?_
  refine Cd.plain [(0, false), (1, false)] rfl rfl ?_
  refine Jp.call [] [] awake3_spec 23 rfl (want_all rfl) rfl rfl (Runs.fn rfl Try.call18 rfl) (by decide) (by decide) rfl trivial ?_
  rintro v1 ρ1 L1 ⟨rfl, rfl⟩
  refine ⟨rfl, fun hle1 => ⟨Kp.true, ?_⟩⟩
  refine Jp.y 24 rfl (want_all rfl) rfl rfl Kp.true (Y.not rfl rfl) ?_
  refine Jp.done hK3 ?_
  refine Cd.cond rfl (fun g24 => ?_) (fun g24 => ?_)
  · skip
    exact absurd g24 (by simp)
  try simp only [decide_eq_false_iff_not, decide_eq_true_eq, Int.not_lt, Int.not_le, Bool.not_eq_false, Bool.not_eq_true, Bool.not_true, Bool.not_false, Bool.not_eq_true', Bool.not_eq_false', beq_eq_false_iff_ne, ne_eq, beq_iff_eq, bne_iff_ne, bne_eq_false_iff_eq, Classical.not_not] at g24
  refine Cd.skip hK2 ?_
  refine Cd.seq fun K4 hK4 => ?_
  refine Cd.seq fun K5 hK5 => ?_
  refine Cd.plain [(0, false), (1, false), (2, false), (3, false), (4, false), (5, false), (6, false), (7, false), (8, false), (9, false), (10, false), (11, false), (12, false), (13, false), (14, false), (15, false), (16, false), (17, false), (18, false), (19, false), (20, false), (21, false), (22, false), (23, false)] rfl rfl ?_
  refine Jp.joinK (φ := (size = 1 ∨ size = 2 ∨ size = 4) ∧ 1 ≤ at' ∧ at' ≤ 250 ∧ at' % size = 0) hK4 [(0, _), (1, _), (2, _), (3, _), (4, _)] ⟨rfl, rfl, rfl, rfl, rfl, trivial⟩ [] trivial (fun hφ => ?_) (fun hj1 => ?_)
  · obtain ⟨hs, h1, h2, h3⟩ := hφ
    obtain ⟨a, rfl⟩ := Int.eq_ofNat_of_zero_le (show 0 ≤ at' by omega)
    obtain ⟨s, rfl⟩ := Int.eq_ofNat_of_zero_le (show 0 ≤ size by omega)
    have hs : s = 1 ∨ s = 2 ∨ s = 4 := by omega
    have h3' : a % s = 0 := by exact_mod_cast h3
    have has : a + s ≤ 256 := by rcases hs with rfl | rfl | rfl <;> omega
    refine Cd.seq fun K6 hK6 => ?_
    refine Cd.plain [(0, false), (1, false), (2, false), (3, false), (4, false), (5, false)] rfl rfl ?_
    refine Jp.call [] [0] (new_yes 2 (by omega)) 50 rfl (want_all rfl) rfl rfl (Runs.fn rfl Try.call19 rfl) (by decide) (by decide) rfl trivial ?_
    rintro v2 ρ2 L2 ⟨rfl, b, rfl, rfl⟩
    refine ⟨rfl, fun hle2 => ⟨Kp.true, ?_⟩⟩
    refine Jp.y 49 rfl (want_all rfl) rfl rfl Kp.true (Y.move rfl rfl) ?_
    refine Jp.y 51 rfl (want_all rfl) rfl rfl Kp.true (Y.extract rfl rfl rfl) ?_
    refine Jp.y 52 rfl (want_all rfl) rfl rfl Kp.true (Y.extract rfl rfl rfl) ?_
    refine Jp.y 11 rfl (want_all rfl) rfl rfl Kp.true (Y.assign rfl rfl) ?_
    refine Jp.y 12 rfl (want_all rfl) rfl rfl Kp.true (Y.assign rfl rfl) ?_
    refine Jp.done hK6 ?_
    refine Cd.seq fun K7 hK7 => ?_
    refine Cd.plain [(0, false), (1, false)] rfl rfl ?_
    refine Jp.y 53 rfl (want_all rfl) rfl rfl Kp.true (Y.move rfl rfl) ?_
    refine Jp.call [0] [0] (map_one (by omega)) 54 rfl (want_all rfl) rfl rfl (Runs.fn rfl Try.call20 rfl) (by decide) (by decide) rfl trivial ?_
    rintro v3 ρ3 L3 ⟨rfl, rfl, rfl⟩
    refine ⟨rfl, fun hle3 => ⟨Kp.true, ?_⟩⟩
    obtain ⟨p0, hp0⟩ : ∃ p : Bytes, p = List.replicate 256 0 := ⟨_, rfl⟩
    obtain ⟨p1, hp1⟩ : ∃ p : Bytes, p = lay p0 (a - 1) (leB be 1) := ⟨_, rfl⟩
    obtain ⟨p2, hp2⟩ : ∃ p : Bytes, p = lay p1 (a + s) (leB bh 1) := ⟨_, rfl⟩
    obtain ⟨p3, hp3⟩ : ∃ p : Bytes, p = lay p2 a (leB v s) := ⟨_, rfl⟩
    have l0 : p0.length = 256 := by rw [hp0]; simp
    have l1 : p1.length = 256 := by rw [hp1, lay_length (by rw [leB_length]; omega), l0]
    have l2 : p2.length = 256 := by rw [hp2, lay_length (by rw [leB_length]; omega), l1]
    have hg3 : ∀ j, p3[j]? = if a ≤ j ∧ j < a + s then (leB v s)[j - a]? else p2[j]? := fun j => by rw [hp3, lay_get (by rw [leB_length]; omega), leB_length]
    have hg2 : ∀ j, p2[j]? = if a + s ≤ j ∧ j < a + s + 1 then (leB bh 1)[j - (a + s)]? else p1[j]? := fun j => by rw [hp2, lay_get (by rw [leB_length]; omega), leB_length]
    have hg1 : ∀ j, p1[j]? = if a - 1 ≤ j ∧ j < a - 1 + 1 then (leB be 1)[j - (a - 1)]? else p0[j]? := fun j => by rw [hp1, lay_get (by rw [leB_length]; omega), leB_length]
    have hb1 : (UInt8.ofNat (be / 2 ^ (8 * 0))).toNat = be := by rw [UInt8.toNat_ofNat']; omega
    have hb2 : (UInt8.ofNat (bh / 2 ^ (8 * 0))).toNat = bh := by rw [UInt8.toNat_ofNat']; omega
    have hX : leN ((p3.drop (a - 1)).take 1) = be := by
      rw [le_one (x := UInt8.ofNat (be / 2 ^ (8 * 0))), hb1]
      rw [hg3, if_neg (by omega), hg2, if_neg (by omega), hg1, if_pos (by omega), Nat.sub_self, leB_get (by omega)]
    have hY : leN ((p3.drop (a + s)).take 1) = bh := by
      rw [le_one (x := UInt8.ofNat (bh / 2 ^ (8 * 0))), hb2]
      rw [hg3, if_neg (by omega), hg2, if_pos (by omega), Nat.sub_self, leB_get (by omega)]
    have hW : leN ((p3.drop a).take s) = v % 256 ^ s := by
      have := lay_mid (p := p2) (b := leB v s) (k := a) (by rw [leB_length]; omega)
      rw [leB_length] at this
      rw [hp3, this, leN_leB]
    have hB : ∀ i, i < s → leN ((p3.drop (a + i)).take 1) = (UInt8.ofNat (v / 2 ^ (8 * i))).toNat := fun i hi => by
      rw [le_one]
      rw [hg3, if_pos (by omega), Nat.add_sub_cancel_left, leB_get hi]
    rw [← hp0]
    refine Jp.done hK7 ?_
    refine Cd.seq fun K8 hK8 => ?_
    refine Cd.plain [(0, false), (1, false), (2, false)] rfl rfl ?_
    refine Jp.y 55 rfl (want_all rfl) rfl rfl Kp.true (Y.move rfl rfl) ?_
    refine Jp.y 56 rfl (want_all rfl) rfl rfl Kp.true (Y.conv_ rfl rfl Try.underlying3 Try.underlying26 (by first | exact wrap_u32 (by omega) (by omega) | rfl)) ?_
    refine Jp.y 13 rfl (want_all rfl) rfl rfl Kp.true (Y.assign rfl rfl) ?_
    refine Jp.done hK8 ?_
    refine Cd.seq fun K9 hK9 => ?_
    refine Cd.plain [(0, false), (1, false), (2, false), (3, false), (4, false), (5, false)] rfl rfl ?_
    refine Jp.y 57 rfl (want_all rfl) rfl rfl Kp.true (Y.move rfl rfl) ?_
    refine Jp.y 58 rfl (want_all rfl) rfl rfl Kp.true (Y.move rfl rfl) ?_
    refine Jp.y 59 rfl (want_all rfl) rfl rfl Kp.true (Y.sub_ rfl rfl rfl (by first | exact wrap_u32 (by omega) (by omega) | rfl)) ?_
    refine Jp.slot 59 rfl (congrArg (Value.int .u32) (show (a : Int) - 1 = ((a - 1 : Nat) : Int) by omega)) ?_
    refine Jp.y 60 rfl (want_all rfl) rfl rfl Kp.true (Y.move rfl rfl) ?_
    refine Jp.y 61 rfl (want_all rfl) rfl rfl Kp.true (Y.conv_ rfl rfl Try.underlying5 Try.underlying26 (by first | exact wrap_u32 (by omega) (by omega) | rfl)) ?_
    refine Jp.call [0] [0] (store_one (a := a - 1) (n := 1) (v := be) (by omega) (by omega) (by omega) (by omega)) 62 rfl (want_all rfl) rfl rfl (Runs.fn rfl Try.call21 rfl) (by decide) (by decide) rfl trivial ?_
    rintro v4 ρ4 L4 ⟨rfl, rfl, rfl⟩
    refine ⟨rfl, fun hle4 => ⟨Kp.true, ?_⟩⟩
    refine Jp.done hK9 ?_
    refine Cd.seq fun K10 hK10 => ?_
    refine Cd.plain [(0, false), (1, false), (2, false), (3, false), (4, false), (5, false), (6, false), (7, false)] rfl rfl ?_
    refine Jp.y 63 rfl (want_all rfl) rfl rfl Kp.true (Y.move rfl rfl) ?_
    refine Jp.y 64 rfl (want_all rfl) rfl rfl Kp.true (Y.move rfl rfl) ?_
    refine Jp.y 65 rfl (want_all rfl) rfl rfl Kp.true (Y.move rfl rfl) ?_
    refine Jp.y 66 rfl (want_all rfl) rfl rfl Kp.true (Y.conv_ rfl rfl Try.underlying3 Try.underlying26 (by first | exact wrap_u32 (by omega) (by omega) | rfl)) ?_
    refine Jp.y 67 rfl (want_all rfl) rfl rfl Kp.true (Y.add_ rfl rfl rfl (by first | exact wrap_u32 (by omega) (by omega) | rfl)) ?_
    refine Jp.y 68 rfl (want_all rfl) rfl rfl Kp.true (Y.move rfl rfl) ?_
    refine Jp.y 69 rfl (want_all rfl) rfl rfl Kp.true (Y.conv_ rfl rfl Try.underlying5 Try.underlying26 (by first | exact wrap_u32 (by omega) (by omega) | rfl)) ?_
    refine Jp.call [0] [0] (store_one (a := a + s) (n := 1) (v := bh) (by omega) (by omega) (by omega) (by omega)) 70 rfl (want_all rfl) rfl rfl (Runs.fn rfl Try.call21 rfl) (by decide) (by decide) rfl trivial ?_
    rintro v5 ρ5 L5 ⟨rfl, rfl, rfl⟩
    refine ⟨rfl, fun hle5 => ⟨Kp.true, ?_⟩⟩
    refine Jp.done hK10 ?_
    refine Cd.seq fun K11 hK11 => ?_
    refine Cd.seq fun K12 hK12 => ?_
    refine Cd.plain [(0, false), (1, false), (2, false), (3, false), (4, false), (5, false)] rfl rfl ?_
    refine Jp.y 71 rfl (want_all rfl) rfl rfl Kp.true (Y.move rfl rfl) ?_
    refine Jp.y 72 rfl (want_all rfl) rfl rfl Kp.true (Y.move rfl rfl) ?_
    refine Jp.y 73 rfl (want_all rfl) rfl rfl Kp.true (Y.move rfl rfl) ?_
    refine Jp.y 74 rfl (want_all rfl) rfl rfl Kp.true (Y.move rfl rfl) ?_
    refine Jp.call [0] [0] (store_one (a := a) (n := s) (v := v) hs h3' (by omega) hv) 75 rfl (want_all rfl) rfl rfl (Runs.fn rfl Try.call21 rfl) (by decide) (by decide) rfl trivial ?_
    rintro v6 ρ6 L6 ⟨rfl, rfl, rfl⟩
    refine ⟨rfl, fun hle6 => ⟨Kp.true, ?_⟩⟩
    rw [← hp1, ← hp2, ← hp3]
    refine Jp.y 76 rfl (want_all rfl) rfl rfl Kp.true (Y.neq rfl rfl rfl) ?_
    refine Jp.done hK12 ?_
    refine Cd.cond rfl (fun g76 => ?_) (fun g76 => ?_)
    · skip
      exact absurd g76 (by simp)
    try simp only [decide_eq_false_iff_not, decide_eq_true_eq, Int.not_lt, Int.not_le, Bool.not_eq_false, Bool.not_eq_true, Bool.not_true, Bool.not_false, Bool.not_eq_true', Bool.not_eq_false', beq_eq_false_iff_ne, ne_eq, beq_iff_eq, bne_iff_ne, bne_eq_false_iff_eq, Classical.not_not] at g76
    refine Cd.skip hK11 ?_
    refine Cd.seq fun K13 hK13 => ?_
    refine Cd.plain [(0, false), (1, false), (2, false), (3, false), (4, false), (5, false), (6, false), (7, false), (8, false)] rfl rfl ?_
    refine Jp.y 78 rfl (want_all rfl) rfl rfl Kp.true (Y.move rfl rfl) ?_
    refine Jp.y 79 rfl (want_all rfl) rfl rfl Kp.true (Y.move rfl rfl) ?_
    refine Jp.y 80 rfl (want_all rfl) rfl rfl Kp.true (Y.move rfl rfl) ?_
    refine Jp.call [0] [0] (load_one (a := a) (n := s) hs h3' (by omega) (by decide) hW) 81 rfl (want_all rfl) rfl rfl (Runs.fn rfl Try.call22 rfl) (by decide) (by decide) rfl trivial ?_
    rintro v7 ρ7 L7 ⟨rfl, rfl, rfl⟩
    refine ⟨rfl, fun hle7 => ⟨Kp.true, ?_⟩⟩
    refine Jp.y 77 rfl (want_all rfl) rfl rfl Kp.true (Y.move rfl rfl) ?_
    refine Jp.y 82 rfl (want_all rfl) rfl rfl Kp.true (Y.extract rfl rfl rfl) ?_
    refine Jp.y 83 rfl (want_all rfl) rfl rfl Kp.true (Y.extract rfl rfl rfl) ?_
    refine Jp.y 14 rfl (want_all rfl) rfl rfl Kp.true (Y.assign rfl rfl) ?_
    refine Jp.y 15 rfl (want_all rfl) rfl rfl Kp.true (Y.assign rfl rfl) ?_
    refine Jp.done hK13 ?_
    refine Cd.seq fun K14 hK14 => ?_
    refine Cd.plain [(0, false), (1, false), (2, false), (3, false), (4, false), (5, false), (6, false), (7, false), (8, false)] rfl rfl ?_
    refine Jp.y 85 rfl (want_all rfl) rfl rfl Kp.true (Y.move rfl rfl) ?_
    refine Jp.y 86 rfl (want_all rfl) rfl rfl Kp.true (Y.move rfl rfl) ?_
    refine Jp.y 87 rfl (want_all rfl) rfl rfl Kp.true (Y.sub_ rfl rfl rfl (by first | exact wrap_u32 (by omega) (by omega) | rfl)) ?_
    refine Jp.slot 87 rfl (congrArg (Value.int .u32) (show (a : Int) - 1 = ((a - 1 : Nat) : Int) by omega)) ?_
    refine Jp.call [0] [0] (load_one (a := a - 1) (n := 1) (by omega) (by omega) (by omega) (by decide) hX) 88 rfl (want_all rfl) rfl rfl (Runs.fn rfl Try.call22 rfl) (by decide) (by decide) rfl trivial ?_
    rintro v8 ρ8 L8 ⟨rfl, rfl, rfl⟩
    refine ⟨rfl, fun hle8 => ⟨Kp.true, ?_⟩⟩
    refine Jp.y 84 rfl (want_all rfl) rfl rfl Kp.true (Y.move rfl rfl) ?_
    refine Jp.y 89 rfl (want_all rfl) rfl rfl Kp.true (Y.extract rfl rfl rfl) ?_
    refine Jp.y 90 rfl (want_all rfl) rfl rfl Kp.true (Y.extract rfl rfl rfl) ?_
    refine Jp.y 16 rfl (want_all rfl) rfl rfl Kp.true (Y.assign rfl rfl) ?_
    refine Jp.y 17 rfl (want_all rfl) rfl rfl Kp.true (Y.assign rfl rfl) ?_
    refine Jp.done hK14 ?_
    refine Cd.seq fun K15 hK15 => ?_
    refine Cd.plain [(0, false), (1, false), (2, false), (3, false), (4, false), (5, false), (6, false), (7, false), (8, false), (9, false), (10, false)] rfl rfl ?_
    refine Jp.y 92 rfl (want_all rfl) rfl rfl Kp.true (Y.move rfl rfl) ?_
    refine Jp.y 93 rfl (want_all rfl) rfl rfl Kp.true (Y.move rfl rfl) ?_
    refine Jp.y 94 rfl (want_all rfl) rfl rfl Kp.true (Y.move rfl rfl) ?_
    refine Jp.y 95 rfl (want_all rfl) rfl rfl Kp.true (Y.conv_ rfl rfl Try.underlying3 Try.underlying26 (by first | exact wrap_u32 (by omega) (by omega) | rfl)) ?_
    refine Jp.y 96 rfl (want_all rfl) rfl rfl Kp.true (Y.add_ rfl rfl rfl (by first | exact wrap_u32 (by omega) (by omega) | rfl)) ?_
    refine Jp.call [0] [0] (load_one (a := a + s) (n := 1) (by omega) (by omega) (by omega) (by decide) hY) 97 rfl (want_all rfl) rfl rfl (Runs.fn rfl Try.call22 rfl) (by decide) (by decide) rfl trivial ?_
    rintro v9 ρ9 L9 ⟨rfl, rfl, rfl⟩
    refine ⟨rfl, fun hle9 => ⟨Kp.true, ?_⟩⟩
    refine Jp.y 91 rfl (want_all rfl) rfl rfl Kp.true (Y.move rfl rfl) ?_
    refine Jp.y 98 rfl (want_all rfl) rfl rfl Kp.true (Y.extract rfl rfl rfl) ?_
    refine Jp.y 99 rfl (want_all rfl) rfl rfl Kp.true (Y.extract rfl rfl rfl) ?_
    refine Jp.y 18 rfl (want_all rfl) rfl rfl Kp.true (Y.assign rfl rfl) ?_
    refine Jp.y 19 rfl (want_all rfl) rfl rfl Kp.true (Y.assign rfl rfl) ?_
    refine Jp.done hK15 ?_
    refine Cd.seq fun K16 hK16 => ?_
    refine Cd.seq fun K17 hK17 => ?_
    refine Cd.plain [(0, false)] rfl rfl ?_
    refine Jp.y 20 rfl (want_all rfl) rfl rfl Kp.true (Y.assign rfl rfl) ?_
    refine Jp.done hK17 ?_
    refine Cd.block ?_
    refine Cd.loopK (G := Nat) (fun k => k ≤ s) (fun k => s - k) (fun _ => _) (fun k => [(20, .int .i64 k)]) [(1, _), (2, _), (3, _), (4, _), (11, _), (13, _), (14, _), (15, _), (16, _), (18, _)] (fun _ => []) [(0, _)] 0 (Nat.zero_le _) rfl ⟨rfl, trivial⟩ ⟨rfl, rfl, rfl, rfl, rfl, rfl, rfl, rfl, rfl, rfl, trivial⟩ trivial ⟨rfl, trivial⟩ (fun g KLa hok hLa => ?_)
    refine Cd.seq fun K18 hK18 => ?_
    refine Cd.seq fun K19 hK19 => ?_
    refine Cd.plain [(0, false), (1, false), (2, false)] rfl rfl ?_
    refine Jp.y 100 rfl (want_all rfl) rfl rfl Kp.true (Y.move rfl rfl) ?_
    refine Jp.y 101 rfl (want_all rfl) rfl rfl Kp.true (Y.move rfl rfl) ?_
    refine Jp.y 102 rfl (want_all rfl) rfl rfl Kp.true (Y.lss rfl rfl rfl) ?_
    refine Jp.done hK19 ?_
    refine Cd.cond rfl (fun ga => ?_) (fun ga => ?_)
    · simp only [decide_eq_true_eq] at ga
      have hgs : g < s := by omega
      have hbg := (UInt8.ofNat (v / 2 ^ (8 * g))).toNat_lt
      refine Cd.skip hK18 ?_
      refine Cd.seq fun K20 hK20 => ?_
      refine Cd.block ?_
      refine Cd.seq fun K21 hK21 => ?_
      refine Cd.plain [(0, false), (1, false), (2, false), (3, false), (4, false), (5, false), (6, false), (7, false), (8, false), (9, false), (10, false)] rfl rfl ?_
      refine Jp.y 106 rfl (want_all rfl) rfl rfl Kp.true (Y.move rfl rfl) ?_
      refine Jp.y 107 rfl (want_all rfl) rfl rfl Kp.true (Y.move rfl rfl) ?_
      refine Jp.y 108 rfl (want_all rfl) rfl rfl Kp.true (Y.move rfl rfl) ?_
      refine Jp.y 109 rfl (want_all rfl) rfl rfl Kp.true (Y.conv_ rfl rfl Try.underlying3 Try.underlying26 (by first | exact wrap_u32 (by omega) (by omega) | rfl)) ?_
      refine Jp.y 110 rfl (want_all rfl) rfl rfl Kp.true (Y.add_ rfl rfl rfl (by first | exact wrap_u32 (by omega) (by omega) | rfl)) ?_
      refine Jp.call [0] [0] (load_one (a := a + g) (n := 1) (by omega) (by omega) (by omega) (by decide) (hB g hgs)) 111 rfl (want_all rfl) rfl rfl (Runs.fn rfl Try.call22 rfl) (by decide) (by decide) rfl trivial ?_
      rintro v10 ρ10 L10 ⟨rfl, rfl, rfl⟩
      refine ⟨rfl, fun hle10 => ⟨Kp.true, ?_⟩⟩
      refine Jp.y 105 rfl (want_all rfl) rfl rfl Kp.true (Y.move rfl rfl) ?_
      refine Jp.y 112 rfl (want_all rfl) rfl rfl Kp.true (Y.extract rfl rfl rfl) ?_
      refine Jp.y 113 rfl (want_all rfl) rfl rfl Kp.true (Y.extract rfl rfl rfl) ?_
      refine Jp.y 21 rfl (want_all rfl) rfl rfl Kp.true (Y.assign rfl rfl) ?_
      refine Jp.y 22 rfl (want_all rfl) rfl rfl Kp.true (Y.assign rfl rfl) ?_
      refine Jp.done hK21 ?_
      refine Cd.seq fun K22 hK22 => ?_
      refine Cd.plain [(0, false), (1, false), (2, false), (3, false), (4, false), (5, false), (6, false), (7, false), (8, false)] rfl rfl ?_
      refine Jp.y 114 rfl (want_all rfl) rfl rfl Kp.true (Y.move rfl rfl) ?_
      refine Jp.y 115 rfl (want_all rfl) rfl rfl Kp.true (Y.conv_ rfl rfl Try.underlying26 Try.underlying5 (by first | exact wrap_u8 (by omega) (by omega) | rfl)) ?_
      refine Jp.y 116 rfl (want_all rfl) rfl rfl Kp.true (Y.move rfl rfl) ?_
      refine Jp.y 117 rfl (want_all rfl) rfl rfl Kp.true (Y.move rfl rfl) ?_
      refine Jp.y 118 rfl (want_all rfl) rfl rfl Kp.true (Y.mul_ rfl rfl rfl (by first | exact wrap_i64 (by omega) (by omega) | rfl)) ?_
      refine Jp.y 119 rfl (want_all rfl) rfl rfl Kp.true (Y.conv_ rfl rfl Try.underlying3 Try.underlying41 (by first | exact wrap_u64 (by omega) (by omega) | rfl)) ?_
      refine Jp.y 120 rfl (want_all rfl) rfl rfl Kp.true (Y.shr rfl rfl rfl (by first | decide | omega)) ?_
      refine Jp.y 121 rfl (want_all rfl) rfl rfl Kp.true (Y.conv_ rfl rfl Try.underlying26 Try.underlying5 (by first | exact wrap_u8 (by omega) (by omega) | rfl)) ?_
      refine Jp.slot 121 rfl (congrArg (Value.int .u8) (shr8 v g (by omega))) ?_
      refine Jp.y 122 rfl (want_all rfl) rfl rfl Kp.true (Y.neq rfl rfl rfl) ?_
      refine Jp.done hK22 ?_
      refine Cd.cond rfl (fun g122 => ?_) (fun g122 => ?_)
      · skip
        exact absurd g122 (by simp)
      try simp only [decide_eq_false_iff_not, decide_eq_true_eq, Int.not_lt, Int.not_le, Bool.not_eq_false, Bool.not_eq_true, Bool.not_true, Bool.not_false, Bool.not_eq_true', Bool.not_eq_false', beq_eq_false_iff_ne, ne_eq, beq_iff_eq, bne_iff_ne, bne_eq_false_iff_eq, Classical.not_not] at g122
      refine Cd.over rfl hK20 ?_
      refine Cd.plain [(0, false), (1, false), (2, false)] rfl rfl ?_
      refine Jp.y 103 rfl (want_all rfl) rfl rfl Kp.true (Y.move rfl rfl) ?_
      refine Jp.y 104 rfl (want_all rfl) rfl rfl Kp.true (Y.add_ rfl rfl rfl (by first | exact wrap_i64 (by omega) (by omega) | rfl)) ?_
      refine Jp.y 20 rfl (want_all rfl) rfl rfl Kp.true (Y.assign rfl rfl) ?_
      refine Jp.again hLa (g + 1) (by omega) (by omega) rfl ⟨rfl, rfl, rfl, rfl, rfl, rfl, rfl, rfl, rfl, rfl, rfl, trivial⟩ ⟨rfl, trivial⟩
    · simp only [decide_eq_false_iff_not] at ga
      refine Cd.exit rfl hK16 ?_
      refine Cd.seq fun K23 hK23 => ?_
      refine Cd.plain [(0, false), (1, false), (2, false), (3, false), (4, false), (5, false), (6, false), (7, false), (8, false), (9, false), (10, false), (11, false), (12, false), (13, false), (14, false), (15, false), (16, false), (17, false), (18, false), (19, false), (20, false), (21, false), (22, false), (23, false), (24, false), (25, false), (26, false), (27, false), (28, false), (29, false), (30, false), (31, false), (32, false), (33, false), (34, false), (35, false), (36, false), (37, false), (38, false)] rfl rfl ?_
      rcases hs with rfl | rfl | rfl
      · skip
        refine Jp.y 123 rfl (want_all rfl) rfl rfl Kp.true (Y.move rfl rfl) ?_
        refine Jp.y 124 rfl (want_all rfl) rfl rfl Kp.true (Y.eql rfl rfl rfl) ?_
        refine Jp.y 125 rfl (want_all rfl) rfl rfl Kp.true (Y.move rfl rfl) ?_
        refine Jp.split 125 rfl (fun g125 => ?_) (fun g125 => ?_)
        · skip
          try simp only [decide_eq_false_iff_not, decide_eq_true_eq, Int.not_lt, Int.not_le, Bool.not_eq_false, Bool.not_eq_true, Bool.not_true, Bool.not_false, Bool.not_eq_true', Bool.not_eq_false', beq_eq_false_iff_ne, ne_eq, beq_iff_eq, bne_iff_ne, bne_eq_false_iff_eq, Classical.not_not] at g125
          first
          | done
          | (first
             | omega
             | exact absurd rfl g125
             | (simp at g125; done)
             | exact absurd (mask32 (k := 8) hv (by omega)).symm g125
             | exact absurd (mask32 (k := 16) hv (by omega)).symm g125)
          | skip
            refine Jp.y 126 rfl (want_as rfl rfl rfl rfl) rfl rfl Kp.true (Y.move rfl rfl) ?_
            refine Jp.y 127 rfl (want_as rfl rfl rfl rfl) rfl rfl Kp.true (Y.eql rfl rfl rfl) ?_
            refine Jp.y 128 rfl (want_as rfl rfl rfl rfl) rfl rfl Kp.true (Y.move rfl rfl) ?_
            refine Jp.split 128 rfl (fun g128 => ?_) (fun g128 => ?_)
            · skip
              try simp only [decide_eq_false_iff_not, decide_eq_true_eq, Int.not_lt, Int.not_le, Bool.not_eq_false, Bool.not_eq_true, Bool.not_true, Bool.not_false, Bool.not_eq_true', Bool.not_eq_false', beq_eq_false_iff_ne, ne_eq, beq_iff_eq, bne_iff_ne, bne_eq_false_iff_eq, Classical.not_not] at g128
              first
              | done
              | (first
                 | omega
                 | exact absurd rfl g128
                 | (simp at g128; done)
                 | exact absurd (mask32 (k := 8) hv (by omega)).symm g128
                 | exact absurd (mask32 (k := 16) hv (by omega)).symm g128)
              | skip
                refine Jp.y 129 rfl (want_as rfl rfl rfl rfl) rfl rfl Kp.true (Y.move rfl rfl) ?_
                refine Jp.y 130 rfl (want_as rfl rfl rfl rfl) rfl rfl Kp.true (Y.move rfl rfl) ?_
                refine Jp.y 131 rfl (want_as rfl rfl rfl rfl) rfl rfl Kp.true (Y.eql rfl rfl rfl) ?_
                refine Jp.y 132 rfl (want_as rfl rfl rfl rfl) rfl rfl Kp.true (Y.pickT rfl rfl rfl) ?_
                refine Jp.y 133 rfl (want_as rfl rfl rfl rfl) rfl rfl Kp.true (Y.move rfl rfl) ?_
                refine Jp.split 133 rfl (fun g133 => ?_) (fun g133 => ?_)
                · skip
                  try simp only [decide_eq_false_iff_not, decide_eq_true_eq, Int.not_lt, Int.not_le, Bool.not_eq_false, Bool.not_eq_true, Bool.not_true, Bool.not_false, Bool.not_eq_true', Bool.not_eq_false', beq_eq_false_iff_ne, ne_eq, beq_iff_eq, bne_iff_ne, bne_eq_false_iff_eq, Classical.not_not] at g133
                  first
                  | done
                  | (first
                     | omega
                     | exact absurd rfl g133
                     | (simp at g133; done)
                     | exact absurd (mask32 (k := 8) hv (by omega)).symm g133
                     | exact absurd (mask32 (k := 16) hv (by omega)).symm g133)
                  | skip
                    refine Jp.skip 134 rfl (want_as rfl rfl rfl rfl) rfl rfl Kp.true ?_
                    refine Jp.skip 135 rfl (want_as rfl rfl rfl rfl) rfl rfl Kp.true ?_
                    refine Jp.skip 136 rfl (want_as rfl rfl rfl rfl) rfl rfl Kp.true ?_
                    refine Jp.skip 137 rfl (want_un rfl rfl rfl) rfl rfl Kp.true ?_
                    refine Jp.skip 138 rfl (want_un rfl rfl rfl) rfl rfl Kp.true ?_
                    refine Jp.skip 139 rfl (want_un rfl rfl rfl) rfl rfl Kp.true ?_
                    refine Jp.skip 140 rfl (want_un rfl rfl rfl) rfl rfl Kp.true ?_
                    refine Jp.skip 141 rfl (want_un rfl rfl rfl) rfl rfl Kp.true ?_
                    refine Jp.skip 142 rfl (want_un rfl rfl rfl) rfl rfl Kp.true ?_
                    refine Jp.skip 143 rfl (want_un rfl rfl rfl) rfl rfl Kp.true ?_
                    refine Jp.skip 144 rfl (want_un rfl rfl rfl) rfl rfl Kp.true ?_
                    refine Jp.skip 145 rfl (want_un rfl rfl rfl) rfl rfl Kp.true ?_
                    refine Jp.skip 146 rfl (want_as rfl rfl rfl rfl) rfl rfl Kp.true ?_
                    refine Jp.y 147 rfl (want_as rfl rfl rfl rfl) rfl rfl Kp.true (Y.pickT rfl rfl rfl) ?_
                    refine Jp.y 148 rfl (want_all rfl) rfl rfl Kp.true (Y.pickT rfl rfl rfl) ?_
                    refine Jp.y 149 rfl (want_all rfl) rfl rfl Kp.true (Y.move rfl rfl) ?_
                    refine Jp.y 150 rfl (want_as rfl rfl rfl rfl) rfl rfl Kp.true (Y.move rfl rfl) ?_
                    refine Jp.y 151 rfl (want_as rfl rfl rfl rfl) rfl rfl Kp.true (Y.conv_ rfl rfl Try.underlying26 Try.underlying5 (by first | exact wrap_u8 (by omega) (by omega) | rfl)) ?_
                    refine Jp.y 152 rfl (want_as rfl rfl rfl rfl) rfl rfl Kp.true (Y.move rfl rfl) ?_
                    refine Jp.y 153 rfl (want_as rfl rfl rfl rfl) rfl rfl Kp.true (Y.eql rfl rfl rfl) ?_
                    refine Jp.y 154 rfl (want_all rfl) rfl rfl Kp.true (Y.pickT rfl rfl rfl) ?_
                    refine Jp.y 155 rfl (want_all rfl) rfl rfl Kp.true (Y.move rfl rfl) ?_
                    refine Jp.split 155 rfl (fun g155 => ?_) (fun g155 => ?_)
                    · skip
                      try simp only [decide_eq_false_iff_not, decide_eq_true_eq, Int.not_lt, Int.not_le, Bool.not_eq_false, Bool.not_eq_true, Bool.not_true, Bool.not_false, Bool.not_eq_true', Bool.not_eq_false', beq_eq_false_iff_ne, ne_eq, beq_iff_eq, bne_iff_ne, bne_eq_false_iff_eq, Classical.not_not] at g155
                      first
                      | done
                      | (first
                         | omega
                         | exact absurd rfl g155
                         | (simp at g155; done)
                         | exact absurd (mask32 (k := 8) hv (by omega)).symm g155
                         | exact absurd (mask32 (k := 16) hv (by omega)).symm g155)
                      | skip
                        refine Jp.y 156 rfl (want_as rfl rfl rfl rfl) rfl rfl Kp.true (Y.move rfl rfl) ?_
                        refine Jp.y 157 rfl (want_as rfl rfl rfl rfl) rfl rfl Kp.true (Y.conv_ rfl rfl Try.underlying26 Try.underlying5 (by first | exact wrap_u8 (by omega) (by omega) | rfl)) ?_
                        refine Jp.y 158 rfl (want_as rfl rfl rfl rfl) rfl rfl Kp.true (Y.move rfl rfl) ?_
                        refine Jp.y 159 rfl (want_as rfl rfl rfl rfl) rfl rfl Kp.true (Y.eql rfl rfl rfl) ?_
                        refine Jp.y 160 rfl (want_all rfl) rfl rfl Kp.true (Y.pickT rfl rfl rfl) ?_
                        refine Jp.y 10 rfl (want_all rfl) rfl rfl Kp.true (Y.assign rfl rfl) ?_
                        refine Jp.done hK23 ?_
                        refine Cd.ret [] rfl (res1 rfl rfl) trivial ⟨by first | rfl | (simp; done), rfl⟩
                    · skip
                      try simp only [decide_eq_false_iff_not, decide_eq_true_eq, Int.not_lt, Int.not_le, Bool.not_eq_false, Bool.not_eq_true, Bool.not_true, Bool.not_false, Bool.not_eq_true', Bool.not_eq_false', beq_eq_false_iff_ne, ne_eq, beq_iff_eq, bne_iff_ne, bne_eq_false_iff_eq, Classical.not_not] at g155
                      first
                      | done
                      | (first
                         | omega
                         | exact absurd rfl g155
                         | (simp at g155; done)
                         | exact absurd (mask32 (k := 8) hv (by omega)).symm g155
                         | exact absurd (mask32 (k := 16) hv (by omega)).symm g155)
                      | skip
                        refine Jp.skip 156 rfl (want_as rfl rfl rfl rfl) rfl rfl Kp.true ?_
                        refine Jp.skip 157 rfl (want_as rfl rfl rfl rfl) rfl rfl Kp.true ?_
                        refine Jp.skip 158 rfl (want_as rfl rfl rfl rfl) rfl rfl Kp.true ?_
                        refine Jp.skip 159 rfl (want_as rfl rfl rfl rfl) rfl rfl Kp.true ?_
                        refine Jp.y 160 rfl (want_all rfl) rfl rfl Kp.true (Y.pickF rfl rfl rfl) ?_
                        refine Jp.y 10 rfl (want_all rfl) rfl rfl Kp.true (Y.assign rfl rfl) ?_
                        refine Jp.done hK23 ?_
                        refine Cd.ret [] rfl (res1 rfl rfl) trivial ⟨by first | rfl | (simp; done), rfl⟩
                · skip
                  try simp only [decide_eq_false_iff_not, decide_eq_true_eq, Int.not_lt, Int.not_le, Bool.not_eq_false, Bool.not_eq_true, Bool.not_true, Bool.not_false, Bool.not_eq_true', Bool.not_eq_false', beq_eq_false_iff_ne, ne_eq, beq_iff_eq, bne_iff_ne, bne_eq_false_iff_eq, Classical.not_not] at g133
                  first
                  | done
                  | (first
                     | omega
                     | exact absurd rfl g133
                     | (simp at g133; done)
                     | exact absurd (mask32 (k := 8) hv (by omega)).symm g133
                     | exact absurd (mask32 (k := 16) hv (by omega)).symm g133)
                  | skip
                    refine Jp.y 134 rfl (want_as rfl rfl rfl rfl) rfl rfl Kp.true (Y.move rfl rfl) ?_
                    refine Jp.y 135 rfl (want_as rfl rfl rfl rfl) rfl rfl Kp.true (Y.lss rfl rfl rfl) ?_
                    refine Jp.y 136 rfl (want_as rfl rfl rfl rfl) rfl rfl Kp.true (Y.move rfl rfl) ?_
                    refine Jp.split 136 rfl (fun g136 => ?_) (fun g136 => ?_)
                    · skip
                      try simp only [decide_eq_false_iff_not, decide_eq_true_eq, Int.not_lt, Int.not_le, Bool.not_eq_false, Bool.not_eq_true, Bool.not_true, Bool.not_false, Bool.not_eq_true', Bool.not_eq_false', beq_eq_false_iff_ne, ne_eq, beq_iff_eq, bne_iff_ne, bne_eq_false_iff_eq, Classical.not_not] at g136
                      first
                      | done
                      | (first
                         | omega
                         | exact absurd rfl g136
                         | (simp at g136; done)
                         | exact absurd (mask32 (k := 8) hv (by omega)).symm g136
                         | exact absurd (mask32 (k := 16) hv (by omega)).symm g136)
                      | skip
                        refine Jp.y 137 rfl (want_as rfl rfl rfl rfl) rfl rfl Kp.true (Y.move rfl rfl) ?_
                        refine Jp.y 138 rfl (want_as rfl rfl rfl rfl) rfl rfl Kp.true (Y.move rfl rfl) ?_
                        refine Jp.y 139 rfl (want_as rfl rfl rfl rfl) rfl rfl Kp.true (Y.move rfl rfl) ?_
                        refine Jp.y 140 rfl (want_as rfl rfl rfl rfl) rfl rfl Kp.true (Y.mul_ rfl rfl rfl (by first | exact wrap_i64 (by omega) (by omega) | rfl)) ?_
                        refine Jp.y 141 rfl (want_as rfl rfl rfl rfl) rfl rfl Kp.true (Y.conv_ rfl rfl Try.underlying3 Try.underlying41 (by first | exact wrap_u64 (by omega) (by omega) | rfl)) ?_
                        refine Jp.y 142 rfl (want_as rfl rfl rfl rfl) rfl rfl Kp.true (Y.shl rfl rfl rfl (by first | decide | omega)) ?_
                        refine Jp.y 143 rfl (want_as rfl rfl rfl rfl) rfl rfl Kp.true (Y.sub_ rfl rfl rfl (by first | exact wrap_u32 (by omega) (by omega) | rfl)) ?_
                        refine Jp.y 144 rfl (want_as rfl rfl rfl rfl) rfl rfl Kp.true (Y.bits rfl rfl rfl rfl) ?_
                        refine Jp.y 145 rfl (want_as rfl rfl rfl rfl) rfl rfl Kp.true (Y.eql rfl rfl rfl) ?_
                        refine Jp.y 146 rfl (want_as rfl rfl rfl rfl) rfl rfl Kp.true (Y.pickT rfl rfl rfl) ?_
                        refine Jp.y 147 rfl (want_as rfl rfl rfl rfl) rfl rfl Kp.true (Y.pickF rfl rfl rfl) ?_
                        refine Jp.y 148 rfl (want_all rfl) rfl rfl Kp.true (Y.pickT rfl rfl rfl) ?_
                        refine Jp.y 149 rfl (want_all rfl) rfl rfl Kp.true (Y.move rfl rfl) ?_
                        refine Jp.split 149 rfl (fun g149 => ?_) (fun g149 => ?_)
                        · skip
                          try simp only [decide_eq_false_iff_not, decide_eq_true_eq, Int.not_lt, Int.not_le, Bool.not_eq_false, Bool.not_eq_true, Bool.not_true, Bool.not_false, Bool.not_eq_true', Bool.not_eq_false', beq_eq_false_iff_ne, ne_eq, beq_iff_eq, bne_iff_ne, bne_eq_false_iff_eq, Classical.not_not] at g149
                          first
                          | done
                          | (first
                             | omega
                             | exact absurd rfl g149
                             | (simp at g149; done)
                             | exact absurd (mask32 (k := 8) hv (by omega)).symm g149
                             | exact absurd (mask32 (k := 16) hv (by omega)).symm g149)
                          | skip
                            refine Jp.y 150 rfl (want_as rfl rfl rfl rfl) rfl rfl Kp.true (Y.move rfl rfl) ?_
                            refine Jp.y 151 rfl (want_as rfl rfl rfl rfl) rfl rfl Kp.true (Y.conv_ rfl rfl Try.underlying26 Try.underlying5 (by first | exact wrap_u8 (by omega) (by omega) | rfl)) ?_
                            refine Jp.y 152 rfl (want_as rfl rfl rfl rfl) rfl rfl Kp.true (Y.move rfl rfl) ?_
                            refine Jp.y 153 rfl (want_as rfl rfl rfl rfl) rfl rfl Kp.true (Y.eql rfl rfl rfl) ?_
                            refine Jp.y 154 rfl (want_all rfl) rfl rfl Kp.true (Y.pickT rfl rfl rfl) ?_
                            refine Jp.y 155 rfl (want_all rfl) rfl rfl Kp.true (Y.move rfl rfl) ?_
                            refine Jp.split 155 rfl (fun g155 => ?_) (fun g155 => ?_)
                            · skip
                              try simp only [decide_eq_false_iff_not, decide_eq_true_eq, Int.not_lt, Int.not_le, Bool.not_eq_false, Bool.not_eq_true, Bool.not_true, Bool.not_false, Bool.not_eq_true', Bool.not_eq_false', beq_eq_false_iff_ne, ne_eq, beq_iff_eq, bne_iff_ne, bne_eq_false_iff_eq, Classical.not_not] at g155
                              first
                              | done
                              | (first
                                 | omega
                                 | exact absurd rfl g155
                                 | (simp at g155; done)
                                 | exact absurd (mask32 (k := 8) hv (by omega)).symm g155
                                 | exact absurd (mask32 (k := 16) hv (by omega)).symm g155)
                              | skip
                                refine Jp.y 156 rfl (want_as rfl rfl rfl rfl) rfl rfl Kp.true (Y.move rfl rfl) ?_
                                refine Jp.y 157 rfl (want_as rfl rfl rfl rfl) rfl rfl Kp.true (Y.conv_ rfl rfl Try.underlying26 Try.underlying5 (by first | exact wrap_u8 (by omega) (by omega) | rfl)) ?_
                                refine Jp.y 158 rfl (want_as rfl rfl rfl rfl) rfl rfl Kp.true (Y.move rfl rfl) ?_
                                refine Jp.y 159 rfl (want_as rfl rfl rfl rfl) rfl rfl Kp.true (Y.eql rfl rfl rfl) ?_
                                refine Jp.y 160 rfl (want_all rfl) rfl rfl Kp.true (Y.pickT rfl rfl rfl) ?_
                                refine Jp.y 10 rfl (want_all rfl) rfl rfl Kp.true (Y.assign rfl rfl) ?_
                                refine Jp.done hK23 ?_
                                refine Cd.ret [] rfl (res1 rfl rfl) trivial ⟨by first | rfl | (simp; done), rfl⟩
                            · skip
                              try simp only [decide_eq_false_iff_not, decide_eq_true_eq, Int.not_lt, Int.not_le, Bool.not_eq_false, Bool.not_eq_true, Bool.not_true, Bool.not_false, Bool.not_eq_true', Bool.not_eq_false', beq_eq_false_iff_ne, ne_eq, beq_iff_eq, bne_iff_ne, bne_eq_false_iff_eq, Classical.not_not] at g155
                              first
                              | done
                              | (first
                                 | omega
                                 | exact absurd rfl g155
                                 | (simp at g155; done)
                                 | exact absurd (mask32 (k := 8) hv (by omega)).symm g155
                                 | exact absurd (mask32 (k := 16) hv (by omega)).symm g155)
                              | skip
                                refine Jp.skip 156 rfl (want_as rfl rfl rfl rfl) rfl rfl Kp.true ?_
                                refine Jp.skip 157 rfl (want_as rfl rfl rfl rfl) rfl rfl Kp.true ?_
                                refine Jp.skip 158 rfl (want_as rfl rfl rfl rfl) rfl rfl Kp.true ?_
                                refine Jp.skip 159 rfl (want_as rfl rfl rfl rfl) rfl rfl Kp.true ?_
                                refine Jp.y 160 rfl (want_all rfl) rfl rfl Kp.true (Y.pickF rfl rfl rfl) ?_
                                refine Jp.y 10 rfl (want_all rfl) rfl rfl Kp.true (Y.assign rfl rfl) ?_
                                refine Jp.done hK23 ?_
                                refine Cd.ret [] rfl (res1 rfl rfl) trivial ⟨by first | rfl | (simp; done), rfl⟩
                        · skip
                          try simp only [decide_eq_false_iff_not, decide_eq_true_eq, Int.not_lt, Int.not_le, Bool.not_eq_false, Bool.not_eq_true, Bool.not_true, Bool.not_false, Bool.not_eq_true', Bool.not_eq_false', beq_eq_false_iff_ne, ne_eq, beq_iff_eq, bne_iff_ne, bne_eq_false_iff_eq, Classical.not_not] at g149
                          first
                          | done
                          | (first
                             | omega
                             | exact absurd rfl g149
                             | (simp at g149; done)
                             | exact absurd (mask32 (k := 8) hv (by omega)).symm g149
                             | exact absurd (mask32 (k := 16) hv (by omega)).symm g149)
                          | skip
                            refine Jp.skip 150 rfl (want_as rfl rfl rfl rfl) rfl rfl Kp.true ?_
                            refine Jp.skip 151 rfl (want_as rfl rfl rfl rfl) rfl rfl Kp.true ?_
                            refine Jp.skip 152 rfl (want_as rfl rfl rfl rfl) rfl rfl Kp.true ?_
                            refine Jp.skip 153 rfl (want_as rfl rfl rfl rfl) rfl rfl Kp.true ?_
                            refine Jp.y 154 rfl (want_all rfl) rfl rfl Kp.true (Y.pickF rfl rfl rfl) ?_
                            refine Jp.y 155 rfl (want_all rfl) rfl rfl Kp.true (Y.move rfl rfl) ?_
                            refine Jp.skip 156 rfl (want_as rfl rfl rfl rfl) rfl rfl Kp.true ?_
                            refine Jp.skip 157 rfl (want_as rfl rfl rfl rfl) rfl rfl Kp.true ?_
                            refine Jp.skip 158 rfl (want_as rfl rfl rfl rfl) rfl rfl Kp.true ?_
                            refine Jp.skip 159 rfl (want_as rfl rfl rfl rfl) rfl rfl Kp.true ?_
                            refine Jp.y 160 rfl (want_all rfl) rfl rfl Kp.true (Y.pickF rfl rfl rfl) ?_
                            refine Jp.y 10 rfl (want_all rfl) rfl rfl Kp.true (Y.assign rfl rfl) ?_
                            refine Jp.done hK23 ?_
                            refine Cd.ret [] rfl (res1 rfl rfl) trivial ⟨by first | rfl | (simp; done), rfl⟩
                    · skip
                      try simp only [decide_eq_false_iff_not, decide_eq_true_eq, Int.not_lt, Int.not_le, Bool.not_eq_false, Bool.not_eq_true, Bool.not_true, Bool.not_false, Bool.not_eq_true', Bool.not_eq_false', beq_eq_false_iff_ne, ne_eq, beq_iff_eq, bne_iff_ne, bne_eq_false_iff_eq, Classical.not_not] at g136
                      first
                      | done
                      | (first
                         | omega
                         | exact absurd rfl g136
                         | (simp at g136; done)
                         | exact absurd (mask32 (k := 8) hv (by omega)).symm g136
                         | exact absurd (mask32 (k := 16) hv (by omega)).symm g136)
                      | skip
                        refine Jp.skip 137 rfl (want_as rfl rfl rfl rfl) rfl rfl Kp.true ?_
                        refine Jp.skip 138 rfl (want_as rfl rfl rfl rfl) rfl rfl Kp.true ?_
                        refine Jp.skip 139 rfl (want_as rfl rfl rfl rfl) rfl rfl Kp.true ?_
                        refine Jp.skip 140 rfl (want_as rfl rfl rfl rfl) rfl rfl Kp.true ?_
                        refine Jp.skip 141 rfl (want_as rfl rfl rfl rfl) rfl rfl Kp.true ?_
                        refine Jp.skip 142 rfl (want_as rfl rfl rfl rfl) rfl rfl Kp.true ?_
                        refine Jp.skip 143 rfl (want_as rfl rfl rfl rfl) rfl rfl Kp.true ?_
                        refine Jp.skip 144 rfl (want_as rfl rfl rfl rfl) rfl rfl Kp.true ?_
                        refine Jp.skip 145 rfl (want_as rfl rfl rfl rfl) rfl rfl Kp.true ?_
                        refine Jp.y 146 rfl (want_as rfl rfl rfl rfl) rfl rfl Kp.true (Y.pickF rfl rfl rfl) ?_
                        refine Jp.y 147 rfl (want_as rfl rfl rfl rfl) rfl rfl Kp.true (Y.pickF rfl rfl rfl) ?_
                        refine Jp.y 148 rfl (want_all rfl) rfl rfl Kp.true (Y.pickT rfl rfl rfl) ?_
                        refine Jp.y 149 rfl (want_all rfl) rfl rfl Kp.true (Y.move rfl rfl) ?_
                        refine Jp.skip 150 rfl (want_as rfl rfl rfl rfl) rfl rfl Kp.true ?_
                        refine Jp.skip 151 rfl (want_as rfl rfl rfl rfl) rfl rfl Kp.true ?_
                        refine Jp.skip 152 rfl (want_as rfl rfl rfl rfl) rfl rfl Kp.true ?_
                        refine Jp.skip 153 rfl (want_as rfl rfl rfl rfl) rfl rfl Kp.true ?_
                        refine Jp.y 154 rfl (want_all rfl) rfl rfl Kp.true (Y.pickF rfl rfl rfl) ?_
                        refine Jp.y 155 rfl (want_all rfl) rfl rfl Kp.true (Y.move rfl rfl) ?_
                        refine Jp.skip 156 rfl (want_as rfl rfl rfl rfl) rfl rfl Kp.true ?_
                        refine Jp.skip 157 rfl (want_as rfl rfl rfl rfl) rfl rfl Kp.true ?_
                        refine Jp.skip 158 rfl (want_as rfl rfl rfl rfl) rfl rfl Kp.true ?_
                        refine Jp.skip 159 rfl (want_as rfl rfl rfl rfl) rfl rfl Kp.true ?_
                        refine Jp.y 160 rfl (want_all rfl) rfl rfl Kp.true (Y.pickF rfl rfl rfl) ?_
                        refine Jp.y 10 rfl (want_all rfl) rfl rfl Kp.true (Y.assign rfl rfl) ?_
                        refine Jp.done hK23 ?_
                        refine Cd.ret [] rfl (res1 rfl rfl) trivial ⟨by first | rfl | (simp; done), rfl⟩
            · skip
              try simp only [decide_eq_false_iff_not, decide_eq_true_eq, Int.not_lt, Int.not_le, Bool.not_eq_false, Bool.not_eq_true, Bool.not_true, Bool.not_false, Bool.not_eq_true', Bool.not_eq_false', beq_eq_false_iff_ne, ne_eq, beq_iff_eq, bne_iff_ne, bne_eq_false_iff_eq, Classical.not_not] at g128
              first
              | done
              | (first
                 | omega
                 | exact absurd rfl g128
                 | (simp at g128; done)
                 | exact absurd (mask32 (k := 8) hv (by omega)).symm g128
                 | exact absurd (mask32 (k := 16) hv (by omega)).symm g128)
              | skip
                refine Jp.skip 129 rfl (want_as rfl rfl rfl rfl) rfl rfl Kp.true ?_
                refine Jp.skip 130 rfl (want_as rfl rfl rfl rfl) rfl rfl Kp.true ?_
                refine Jp.skip 131 rfl (want_as rfl rfl rfl rfl) rfl rfl Kp.true ?_
                refine Jp.y 132 rfl (want_as rfl rfl rfl rfl) rfl rfl Kp.true (Y.pickF rfl rfl rfl) ?_
                refine Jp.y 133 rfl (want_as rfl rfl rfl rfl) rfl rfl Kp.true (Y.move rfl rfl) ?_
                refine Jp.y 134 rfl (want_as rfl rfl rfl rfl) rfl rfl Kp.true (Y.move rfl rfl) ?_
                refine Jp.y 135 rfl (want_as rfl rfl rfl rfl) rfl rfl Kp.true (Y.lss rfl rfl rfl) ?_
                refine Jp.y 136 rfl (want_as rfl rfl rfl rfl) rfl rfl Kp.true (Y.move rfl rfl) ?_
                refine Jp.split 136 rfl (fun g136 => ?_) (fun g136 => ?_)
                · skip
                  try simp only [decide_eq_false_iff_not, decide_eq_true_eq, Int.not_lt, Int.not_le, Bool.not_eq_false, Bool.not_eq_true, Bool.not_true, Bool.not_false, Bool.not_eq_true', Bool.not_eq_false', beq_eq_false_iff_ne, ne_eq, beq_iff_eq, bne_iff_ne, bne_eq_false_iff_eq, Classical.not_not] at g136
                  first
                  | done
                  | (first
                     | omega
                     | exact absurd rfl g136
                     | (simp at g136; done)
                     | exact absurd (mask32 (k := 8) hv (by omega)).symm g136
                     | exact absurd (mask32 (k := 16) hv (by omega)).symm g136)
                  | skip
                    refine Jp.y 137 rfl (want_as rfl rfl rfl rfl) rfl rfl Kp.true (Y.move rfl rfl) ?_
                    refine Jp.y 138 rfl (want_as rfl rfl rfl rfl) rfl rfl Kp.true (Y.move rfl rfl) ?_
                    refine Jp.y 139 rfl (want_as rfl rfl rfl rfl) rfl rfl Kp.true (Y.move rfl rfl) ?_
                    refine Jp.y 140 rfl (want_as rfl rfl rfl rfl) rfl rfl Kp.true (Y.mul_ rfl rfl rfl (by first | exact wrap_i64 (by omega) (by omega) | rfl)) ?_
                    refine Jp.y 141 rfl (want_as rfl rfl rfl rfl) rfl rfl Kp.true (Y.conv_ rfl rfl Try.underlying3 Try.underlying41 (by first | exact wrap_u64 (by omega) (by omega) | rfl)) ?_
                    refine Jp.y 142 rfl (want_as rfl rfl rfl rfl) rfl rfl Kp.true (Y.shl rfl rfl rfl (by first | decide | omega)) ?_
                    refine Jp.y 143 rfl (want_as rfl rfl rfl rfl) rfl rfl Kp.true (Y.sub_ rfl rfl rfl (by first | exact wrap_u32 (by omega) (by omega) | rfl)) ?_
                    refine Jp.y 144 rfl (want_as rfl rfl rfl rfl) rfl rfl Kp.true (Y.bits rfl rfl rfl rfl) ?_
                    refine Jp.y 145 rfl (want_as rfl rfl rfl rfl) rfl rfl Kp.true (Y.eql rfl rfl rfl) ?_
                    refine Jp.y 146 rfl (want_as rfl rfl rfl rfl) rfl rfl Kp.true (Y.pickT rfl rfl rfl) ?_
                    refine Jp.y 147 rfl (want_as rfl rfl rfl rfl) rfl rfl Kp.true (Y.pickF rfl rfl rfl) ?_
                    refine Jp.y 148 rfl (want_all rfl) rfl rfl Kp.true (Y.pickT rfl rfl rfl) ?_
                    refine Jp.y 149 rfl (want_all rfl) rfl rfl Kp.true (Y.move rfl rfl) ?_
                    refine Jp.split 149 rfl (fun g149 => ?_) (fun g149 => ?_)
                    · skip
                      try simp only [decide_eq_false_iff_not, decide_eq_true_eq, Int.not_lt, Int.not_le, Bool.not_eq_false, Bool.not_eq_true, Bool.not_true, Bool.not_false, Bool.not_eq_true', Bool.not_eq_false', beq_eq_false_iff_ne, ne_eq, beq_iff_eq, bne_iff_ne, bne_eq_false_iff_eq, Classical.not_not] at g149
                      first
                      | done
                      | (first
                         | omega
                         | exact absurd rfl g149
                         | (simp at g149; done)
                         | exact absurd (mask32 (k := 8) hv (by omega)).symm g149
                         | exact absurd (mask32 (k := 16) hv (by omega)).symm g149)
                      | skip
                        refine Jp.y 150 rfl (want_as rfl rfl rfl rfl) rfl rfl Kp.true (Y.move rfl rfl) ?_
                        refine Jp.y 151 rfl (want_as rfl rfl rfl rfl) rfl rfl Kp.true (Y.conv_ rfl rfl Try.underlying26 Try.underlying5 (by first | exact wrap_u8 (by omega) (by omega) | rfl)) ?_
                        refine Jp.y 152 rfl (want_as rfl rfl rfl rfl) rfl rfl Kp.true (Y.move rfl rfl) ?_
                        refine Jp.y 153 rfl (want_as rfl rfl rfl rfl) rfl rfl Kp.true (Y.eql rfl rfl rfl) ?_
                        refine Jp.y 154 rfl (want_all rfl) rfl rfl Kp.true (Y.pickT rfl rfl rfl) ?_
                        refine Jp.y 155 rfl (want_all rfl) rfl rfl Kp.true (Y.move rfl rfl) ?_
                        refine Jp.split 155 rfl (fun g155 => ?_) (fun g155 => ?_)
                        · skip
                          try simp only [decide_eq_false_iff_not, decide_eq_true_eq, Int.not_lt, Int.not_le, Bool.not_eq_false, Bool.not_eq_true, Bool.not_true, Bool.not_false, Bool.not_eq_true', Bool.not_eq_false', beq_eq_false_iff_ne, ne_eq, beq_iff_eq, bne_iff_ne, bne_eq_false_iff_eq, Classical.not_not] at g155
                          first
                          | done
                          | (first
                             | omega
                             | exact absurd rfl g155
                             | (simp at g155; done)
                             | exact absurd (mask32 (k := 8) hv (by omega)).symm g155
                             | exact absurd (mask32 (k := 16) hv (by omega)).symm g155)
                          | skip
                            refine Jp.y 156 rfl (want_as rfl rfl rfl rfl) rfl rfl Kp.true (Y.move rfl rfl) ?_
                            refine Jp.y 157 rfl (want_as rfl rfl rfl rfl) rfl rfl Kp.true (Y.conv_ rfl rfl Try.underlying26 Try.underlying5 (by first | exact wrap_u8 (by omega) (by omega) | rfl)) ?_
                            refine Jp.y 158 rfl (want_as rfl rfl rfl rfl) rfl rfl Kp.true (Y.move rfl rfl) ?_
                            refine Jp.y 159 rfl (want_as rfl rfl rfl rfl) rfl rfl Kp.true (Y.eql rfl rfl rfl) ?_
                            refine Jp.y 160 rfl (want_all rfl) rfl rfl Kp.true (Y.pickT rfl rfl rfl) ?_
                            refine Jp.y 10 rfl (want_all rfl) rfl rfl Kp.true (Y.assign rfl rfl) ?_
                            refine Jp.done hK23 ?_
                            refine Cd.ret [] rfl (res1 rfl rfl) trivial ⟨by first | rfl | (simp; done), rfl⟩
                        · skip
                          try simp only [decide_eq_false_iff_not, decide_eq_true_eq, Int.not_lt, Int.not_le, Bool.not_eq_false, Bool.not_eq_true, Bool.not_true, Bool.not_false, Bool.not_eq_true', Bool.not_eq_false', beq_eq_false_iff_ne, ne_eq, beq_iff_eq, bne_iff_ne, bne_eq_false_iff_eq, Classical.not_not] at g155
                          first
                          | done
                          | (first
                             | omega
                             | exact absurd rfl g155
                             | (simp at g155; done)
                             | exact absurd (mask32 (k := 8) hv (by omega)).symm g155
                             | exact absurd (mask32 (k := 16) hv (by omega)).symm g155)
                          | skip
                            refine Jp.skip 156 rfl (want_as rfl rfl rfl rfl) rfl rfl Kp.true ?_
                            refine Jp.skip 157 rfl (want_as rfl rfl rfl rfl) rfl rfl Kp.true ?_
                            refine Jp.skip 158 rfl (want_as rfl rfl rfl rfl) rfl rfl Kp.true ?_
                            refine Jp.skip 159 rfl (want_as rfl rfl rfl rfl) rfl rfl Kp.true ?_
                            refine Jp.y 160 rfl (want_all rfl) rfl rfl Kp.true (Y.pickF rfl rfl rfl) ?_
                            refine Jp.y 10 rfl (want_all rfl) rfl rfl Kp.true (Y.assign rfl rfl) ?_
                            refine Jp.done hK23 ?_
                            refine Cd.ret [] rfl (res1 rfl rfl) trivial ⟨by first | rfl | (simp; done), rfl⟩
                    · skip
                      try simp only [decide_eq_false_iff_not, decide_eq_true_eq, Int.not_lt, Int.not_le, Bool.not_eq_false, Bool.not_eq_true, Bool.not_true, Bool.not_false, Bool.not_eq_true', Bool.not_eq_false', beq_eq_false_iff_ne, ne_eq, beq_iff_eq, bne_iff_ne, bne_eq_false_iff_eq, Classical.not_not] at g149
                      first
                      | done
                      | (first
                         | omega
                         | exact absurd rfl g149
                         | (simp at g149; done)
                         | exact absurd (mask32 (k := 8) hv (by omega)).symm g149
                         | exact absurd (mask32 (k := 16) hv (by omega)).symm g149)
                      | skip
                        refine Jp.skip 150 rfl (want_as rfl rfl rfl rfl) rfl rfl Kp.true ?_
                        refine Jp.skip 151 rfl (want_as rfl rfl rfl rfl) rfl rfl Kp.true ?_
                        refine Jp.skip 152 rfl (want_as rfl rfl rfl rfl) rfl rfl Kp.true ?_
                        refine Jp.skip 153 rfl (want_as rfl rfl rfl rfl) rfl rfl Kp.true ?_
                        refine Jp.y 154 rfl (want_all rfl) rfl rfl Kp.true (Y.pickF rfl rfl rfl) ?_
                        refine Jp.y 155 rfl (want_all rfl) rfl rfl Kp.true (Y.move rfl rfl) ?_
                        refine Jp.skip 156 rfl (want_as rfl rfl rfl rfl) rfl rfl Kp.true ?_
                        refine Jp.skip 157 rfl (want_as rfl rfl rfl rfl) rfl rfl Kp.true ?_
                        refine Jp.skip 158 rfl (want_as rfl rfl rfl rfl) rfl rfl Kp.true ?_
                        refine Jp.skip 159 rfl (want_as rfl rfl rfl rfl) rfl rfl Kp.true ?_
                        refine Jp.y 160 rfl (want_all rfl) rfl rfl Kp.true (Y.pickF rfl rfl rfl) ?_
                        refine Jp.y 10 rfl (want_all rfl) rfl rfl Kp.true (Y.assign rfl rfl) ?_
                        refine Jp.done hK23 ?_
                        refine Cd.ret [] rfl (res1 rfl rfl) trivial ⟨by first | rfl | (simp; done), rfl⟩
                · skip
                  try simp only [decide_eq_false_iff_not, decide_eq_true_eq, Int.not_lt, Int.not_le, Bool.not_eq_false, Bool.not_eq_true, Bool.not_true, Bool.not_false, Bool.not_eq_true', Bool.not_eq_false', beq_eq_false_iff_ne, ne_eq, beq_iff_eq, bne_iff_ne, bne_eq_false_iff_eq, Classical.not_not] at g136
                  first
                  | done
                  | (first
                     | omega
                     | exact absurd rfl g136
                     | (simp at g136; done)
                     | exact absurd (mask32 (k := 8) hv (by omega)).symm g136
                     | exact absurd (mask32 (k := 16) hv (by omega)).symm g136)
                  | skip
                    refine Jp.skip 137 rfl (want_as rfl rfl rfl rfl) rfl rfl Kp.true ?_
                    refine Jp.skip 138 rfl (want_as rfl rfl rfl rfl) rfl rfl Kp.true ?_
                    refine Jp.skip 139 rfl (want_as rfl rfl rfl rfl) rfl rfl Kp.true ?_
                    refine Jp.skip 140 rfl (want_as rfl rfl rfl rfl) rfl rfl Kp.true ?_
                    refine Jp.skip 141 rfl (want_as rfl rfl rfl rfl) rfl rfl Kp.true ?_
                    refine Jp.skip 142 rfl (want_as rfl rfl rfl rfl) rfl rfl Kp.true ?_
                    refine Jp.skip 143 rfl (want_as rfl rfl rfl rfl) rfl rfl Kp.true ?_
                    refine Jp.skip 144 rfl (want_as rfl rfl rfl rfl) rfl rfl Kp.true ?_
                    refine Jp.skip 145 rfl (want_as rfl rfl rfl rfl) rfl rfl Kp.true ?_
                    refine Jp.y 146 rfl (want_as rfl rfl rfl rfl) rfl rfl Kp.true (Y.pickF rfl rfl rfl) ?_
                    refine Jp.y 147 rfl (want_as rfl rfl rfl rfl) rfl rfl Kp.true (Y.pickF rfl rfl rfl) ?_
                    refine Jp.y 148 rfl (want_all rfl) rfl rfl Kp.true (Y.pickT rfl rfl rfl) ?_
                    refine Jp.y 149 rfl (want_all rfl) rfl rfl Kp.true (Y.move rfl rfl) ?_
                    refine Jp.skip 150 rfl (want_as rfl rfl rfl rfl) rfl rfl Kp.true ?_
                    refine Jp.skip 151 rfl (want_as rfl rfl rfl rfl) rfl rfl Kp.true ?_
                    refine Jp.skip 152 rfl (want_as rfl rfl rfl rfl) rfl rfl Kp.true ?_
                    refine Jp.skip 153 rfl (want_as rfl rfl rfl rfl) rfl rfl Kp.true ?_
                    refine Jp.y 154 rfl (want_all rfl) rfl rfl Kp.true (Y.pickF rfl rfl rfl) ?_
                    refine Jp.y 155 rfl (want_all rfl) rfl rfl Kp.true (Y.move rfl rfl) ?_
                    refine Jp.skip 156 rfl (want_as rfl rfl rfl rfl) rfl rfl Kp.true ?_
                    refine Jp.skip 157 rfl (want_as rfl rfl rfl rfl) rfl rfl Kp.true ?_
                    refine Jp.skip 158 rfl (want_as rfl rfl rfl rfl) rfl rfl Kp.true ?_
                    refine Jp.skip 159 rfl (want_as rfl rfl rfl rfl) rfl rfl Kp.true ?_
                    refine Jp.y 160 rfl (want_all rfl) rfl rfl Kp.true (Y.pickF rfl rfl rfl) ?_
                    refine Jp.y 10 rfl (want_all rfl) rfl rfl Kp.true (Y.assign rfl rfl) ?_
                    refine Jp.done hK23 ?_
                    refine Cd.ret [] rfl (res1 rfl rfl) trivial ⟨by first | rfl | (simp; done), rfl⟩
        · skip
          try simp only [decide_eq_false_iff_not, decide_eq_true_eq, Int.not_lt, Int.not_le, Bool.not_eq_false, Bool.not_eq_true, Bool.not_true, Bool.not_false, Bool.not_eq_true', Bool.not_eq_false', beq_eq_false_iff_ne, ne_eq, beq_iff_eq, bne_iff_ne, bne_eq_false_iff_eq, Classical.not_not] at g125
          first
          | done
          | (first
             | omega
             | exact absurd rfl g125
             | (simp at g125; done)
             | exact absurd (mask32 (k := 8) hv (by omega)).symm g125
             | exact absurd (mask32 (k := 16) hv (by omega)).symm g125)
          | skip
            refine Jp.skip 126 rfl (want_as rfl rfl rfl rfl) rfl rfl Kp.true ?_
            refine Jp.skip 127 rfl (want_as rfl rfl rfl rfl) rfl rfl Kp.true ?_
            refine Jp.skip 128 rfl (want_as rfl rfl rfl rfl) rfl rfl Kp.true ?_
            refine Jp.skip 129 rfl (want_un rfl rfl rfl) rfl rfl Kp.true ?_
            refine Jp.skip 130 rfl (want_un rfl rfl rfl) rfl rfl Kp.true ?_
            refine Jp.skip 131 rfl (want_un rfl rfl rfl) rfl rfl Kp.true ?_
            refine Jp.skip 132 rfl (want_as rfl rfl rfl rfl) rfl rfl Kp.true ?_
            refine Jp.skip 133 rfl (want_as rfl rfl rfl rfl) rfl rfl Kp.true ?_
            refine Jp.skip 134 rfl (want_un rfl rfl rfl) rfl rfl Kp.true ?_
            refine Jp.skip 135 rfl (want_un rfl rfl rfl) rfl rfl Kp.true ?_
            refine Jp.skip 136 rfl (want_un rfl rfl rfl) rfl rfl Kp.true ?_
            refine Jp.skip 137 rfl (want_un rfl rfl rfl) rfl rfl Kp.true ?_
            refine Jp.skip 138 rfl (want_un rfl rfl rfl) rfl rfl Kp.true ?_
            refine Jp.skip 139 rfl (want_un rfl rfl rfl) rfl rfl Kp.true ?_
            refine Jp.skip 140 rfl (want_un rfl rfl rfl) rfl rfl Kp.true ?_
            refine Jp.skip 141 rfl (want_un rfl rfl rfl) rfl rfl Kp.true ?_
            refine Jp.skip 142 rfl (want_un rfl rfl rfl) rfl rfl Kp.true ?_
            refine Jp.skip 143 rfl (want_un rfl rfl rfl) rfl rfl Kp.true ?_
            refine Jp.skip 144 rfl (want_un rfl rfl rfl) rfl rfl Kp.true ?_
            refine Jp.skip 145 rfl (want_un rfl rfl rfl) rfl rfl Kp.true ?_
            refine Jp.skip 146 rfl (want_un rfl rfl rfl) rfl rfl Kp.true ?_
            refine Jp.skip 147 rfl (want_as rfl rfl rfl rfl) rfl rfl Kp.true ?_
            refine Jp.y 148 rfl (want_all rfl) rfl rfl Kp.true (Y.pickF rfl rfl rfl) ?_
            refine Jp.y 149 rfl (want_all rfl) rfl rfl Kp.true (Y.move rfl rfl) ?_
            refine Jp.skip 150 rfl (want_as rfl rfl rfl rfl) rfl rfl Kp.true ?_
            refine Jp.skip 151 rfl (want_as rfl rfl rfl rfl) rfl rfl Kp.true ?_
            refine Jp.skip 152 rfl (want_as rfl rfl rfl rfl) rfl rfl Kp.true ?_
            refine Jp.skip 153 rfl (want_as rfl rfl rfl rfl) rfl rfl Kp.true ?_
            refine Jp.y 154 rfl (want_all rfl) rfl rfl Kp.true (Y.pickF rfl rfl rfl) ?_
            refine Jp.y 155 rfl (want_all rfl) rfl rfl Kp.true (Y.move rfl rfl) ?_
            refine Jp.skip 156 rfl (want_as rfl rfl rfl rfl) rfl rfl Kp.true ?_
            refine Jp.skip 157 rfl (want_as rfl rfl rfl rfl) rfl rfl Kp.true ?_
            refine Jp.skip 158 rfl (want_as rfl rfl rfl rfl) rfl rfl Kp.true ?_
            refine Jp.skip 159 rfl (want_as rfl rfl rfl rfl) rfl rfl Kp.true ?_
            refine Jp.y 160 rfl (want_all rfl) rfl rfl Kp.true (Y.pickF rfl rfl rfl) ?_
            refine Jp.y 10 rfl (want_all rfl) rfl rfl Kp.true (Y.assign rfl rfl) ?_
            refine Jp.done hK23 ?_
            refine Cd.ret [] rfl (res1 rfl rfl) trivial ⟨by first | rfl | (simp; done), rfl⟩
      · skip
        refine Jp.y 123 rfl (want_all rfl) rfl rfl Kp.true (Y.move rfl rfl) ?_
        refine Jp.y 124 rfl (want_all rfl) rfl rfl Kp.true (Y.eql rfl rfl rfl) ?_
        refine Jp.y 125 rfl (want_all rfl) rfl rfl Kp.true (Y.move rfl rfl) ?_
        refine Jp.split 125 rfl (fun g125 => ?_) (fun g125 => ?_)
        · skip
          try simp only [decide_eq_false_iff_not, decide_eq_true_eq, Int.not_lt, Int.not_le, Bool.not_eq_false, Bool.not_eq_true, Bool.not_true, Bool.not_false, Bool.not_eq_true', Bool.not_eq_false', beq_eq_false_iff_ne, ne_eq, beq_iff_eq, bne_iff_ne, bne_eq_false_iff_eq, Classical.not_not] at g125
          first
          | done
          | (first
             | omega
             | exact absurd rfl g125
             | (simp at g125; done)
             | exact absurd (mask32 (k := 8) hv (by omega)).symm g125
             | exact absurd (mask32 (k := 16) hv (by omega)).symm g125)
          | skip
            refine Jp.y 126 rfl (want_as rfl rfl rfl rfl) rfl rfl Kp.true (Y.move rfl rfl) ?_
            refine Jp.y 127 rfl (want_as rfl rfl rfl rfl) rfl rfl Kp.true (Y.eql rfl rfl rfl) ?_
            refine Jp.y 128 rfl (want_as rfl rfl rfl rfl) rfl rfl Kp.true (Y.move rfl rfl) ?_
            refine Jp.split 128 rfl (fun g128 => ?_) (fun g128 => ?_)
            · skip
              try simp only [decide_eq_false_iff_not, decide_eq_true_eq, Int.not_lt, Int.not_le, Bool.not_eq_false, Bool.not_eq_true, Bool.not_true, Bool.not_false, Bool.not_eq_true', Bool.not_eq_false', beq_eq_false_iff_ne, ne_eq, beq_iff_eq, bne_iff_ne, bne_eq_false_iff_eq, Classical.not_not] at g128
              first
              | done
              | (first
                 | omega
                 | exact absurd rfl g128
                 | (simp at g128; done)
                 | exact absurd (mask32 (k := 8) hv (by omega)).symm g128
                 | exact absurd (mask32 (k := 16) hv (by omega)).symm g128)
              | skip
                refine Jp.y 129 rfl (want_as rfl rfl rfl rfl) rfl rfl Kp.true (Y.move rfl rfl) ?_
                refine Jp.y 130 rfl (want_as rfl rfl rfl rfl) rfl rfl Kp.true (Y.move rfl rfl) ?_
                refine Jp.y 131 rfl (want_as rfl rfl rfl rfl) rfl rfl Kp.true (Y.eql rfl rfl rfl) ?_
                refine Jp.y 132 rfl (want_as rfl rfl rfl rfl) rfl rfl Kp.true (Y.pickT rfl rfl rfl) ?_
                refine Jp.y 133 rfl (want_as rfl rfl rfl rfl) rfl rfl Kp.true (Y.move rfl rfl) ?_
                refine Jp.split 133 rfl (fun g133 => ?_) (fun g133 => ?_)
                · skip
                  try simp only [decide_eq_false_iff_not, decide_eq_true_eq, Int.not_lt, Int.not_le, Bool.not_eq_false, Bool.not_eq_true, Bool.not_true, Bool.not_false, Bool.not_eq_true', Bool.not_eq_false', beq_eq_false_iff_ne, ne_eq, beq_iff_eq, bne_iff_ne, bne_eq_false_iff_eq, Classical.not_not] at g133
                  first
                  | done
                  | (first
                     | omega
                     | exact absurd rfl g133
                     | (simp at g133; done)
                     | exact absurd (mask32 (k := 8) hv (by omega)).symm g133
                     | exact absurd (mask32 (k := 16) hv (by omega)).symm g133)
                  | skip
                    refine Jp.skip 134 rfl (want_as rfl rfl rfl rfl) rfl rfl Kp.true ?_
                    refine Jp.skip 135 rfl (want_as rfl rfl rfl rfl) rfl rfl Kp.true ?_
                    refine Jp.skip 136 rfl (want_as rfl rfl rfl rfl) rfl rfl Kp.true ?_
                    refine Jp.skip 137 rfl (want_un rfl rfl rfl) rfl rfl Kp.true ?_
                    refine Jp.skip 138 rfl (want_un rfl rfl rfl) rfl rfl Kp.true ?_
                    refine Jp.skip 139 rfl (want_un rfl rfl rfl) rfl rfl Kp.true ?_
                    refine Jp.skip 140 rfl (want_un rfl rfl rfl) rfl rfl Kp.true ?_
                    refine Jp.skip 141 rfl (want_un rfl rfl rfl) rfl rfl Kp.true ?_
                    refine Jp.skip 142 rfl (want_un rfl rfl rfl) rfl rfl Kp.true ?_
                    refine Jp.skip 143 rfl (want_un rfl rfl rfl) rfl rfl Kp.true ?_
                    refine Jp.skip 144 rfl (want_un rfl rfl rfl) rfl rfl Kp.true ?_
                    refine Jp.skip 145 rfl (want_un rfl rfl rfl) rfl rfl Kp.true ?_
                    refine Jp.skip 146 rfl (want_as rfl rfl rfl rfl) rfl rfl Kp.true ?_
                    refine Jp.y 147 rfl (want_as rfl rfl rfl rfl) rfl rfl Kp.true (Y.pickT rfl rfl rfl) ?_
                    refine Jp.y 148 rfl (want_all rfl) rfl rfl Kp.true (Y.pickT rfl rfl rfl) ?_
                    refine Jp.y 149 rfl (want_all rfl) rfl rfl Kp.true (Y.move rfl rfl) ?_
                    refine Jp.y 150 rfl (want_as rfl rfl rfl rfl) rfl rfl Kp.true (Y.move rfl rfl) ?_
                    refine Jp.y 151 rfl (want_as rfl rfl rfl rfl) rfl rfl Kp.true (Y.conv_ rfl rfl Try.underlying26 Try.underlying5 (by first | exact wrap_u8 (by omega) (by omega) | rfl)) ?_
                    refine Jp.y 152 rfl (want_as rfl rfl rfl rfl) rfl rfl Kp.true (Y.move rfl rfl) ?_
                    refine Jp.y 153 rfl (want_as rfl rfl rfl rfl) rfl rfl Kp.true (Y.eql rfl rfl rfl) ?_
                    refine Jp.y 154 rfl (want_all rfl) rfl rfl Kp.true (Y.pickT rfl rfl rfl) ?_
                    refine Jp.y 155 rfl (want_all rfl) rfl rfl Kp.true (Y.move rfl rfl) ?_
                    refine Jp.split 155 rfl (fun g155 => ?_) (fun g155 => ?_)
                    · skip
                      try simp only [decide_eq_false_iff_not, decide_eq_true_eq, Int.not_lt, Int.not_le, Bool.not_eq_false, Bool.not_eq_true, Bool.not_true, Bool.not_false, Bool.not_eq_true', Bool.not_eq_false', beq_eq_false_iff_ne, ne_eq, beq_iff_eq, bne_iff_ne, bne_eq_false_iff_eq, Classical.not_not] at g155
                      first
                      | done
                      | (first
                         | omega
                         | exact absurd rfl g155
                         | (simp at g155; done)
                         | exact absurd (mask32 (k := 8) hv (by omega)).symm g155
                         | exact absurd (mask32 (k := 16) hv (by omega)).symm g155)
                      | skip
                        refine Jp.y 156 rfl (want_as rfl rfl rfl rfl) rfl rfl Kp.true (Y.move rfl rfl) ?_
                        refine Jp.y 157 rfl (want_as rfl rfl rfl rfl) rfl rfl Kp.true (Y.conv_ rfl rfl Try.underlying26 Try.underlying5 (by first | exact wrap_u8 (by omega) (by omega) | rfl)) ?_
                        refine Jp.y 158 rfl (want_as rfl rfl rfl rfl) rfl rfl Kp.true (Y.move rfl rfl) ?_
                        refine Jp.y 159 rfl (want_as rfl rfl rfl rfl) rfl rfl Kp.true (Y.eql rfl rfl rfl) ?_
                        refine Jp.y 160 rfl (want_all rfl) rfl rfl Kp.true (Y.pickT rfl rfl rfl) ?_
                        refine Jp.y 10 rfl (want_all rfl) rfl rfl Kp.true (Y.assign rfl rfl) ?_
                        refine Jp.done hK23 ?_
                        refine Cd.ret [] rfl (res1 rfl rfl) trivial ⟨by first | rfl | (simp; done), rfl⟩
                    · skip
                      try simp only [decide_eq_false_iff_not, decide_eq_true_eq, Int.not_lt, Int.not_le, Bool.not_eq_false, Bool.not_eq_true, Bool.not_true, Bool.not_false, Bool.not_eq_true', Bool.not_eq_false', beq_eq_false_iff_ne, ne_eq, beq_iff_eq, bne_iff_ne, bne_eq_false_iff_eq, Classical.not_not] at g155
                      first
                      | done
                      | (first
                         | omega
                         | exact absurd rfl g155
                         | (simp at g155; done)
                         | exact absurd (mask32 (k := 8) hv (by omega)).symm g155
                         | exact absurd (mask32 (k := 16) hv (by omega)).symm g155)
                      | skip
                        refine Jp.skip 156 rfl (want_as rfl rfl rfl rfl) rfl rfl Kp.true ?_
                        refine Jp.skip 157 rfl (want_as rfl rfl rfl rfl) rfl rfl Kp.true ?_
                        refine Jp.skip 158 rfl (want_as rfl rfl rfl rfl) rfl rfl Kp.true ?_
                        refine Jp.skip 159 rfl (want_as rfl rfl rfl rfl) rfl rfl Kp.true ?_
                        refine Jp.y 160 rfl (want_all rfl) rfl rfl Kp.true (Y.pickF rfl rfl rfl) ?_
                        refine Jp.y 10 rfl (want_all rfl) rfl rfl Kp.true (Y.assign rfl rfl) ?_
                        refine Jp.done hK23 ?_
                        refine Cd.ret [] rfl (res1 rfl rfl) trivial ⟨by first | rfl | (simp; done), rfl⟩
                · skip
                  try simp only [decide_eq_false_iff_not, decide_eq_true_eq, Int.not_lt, Int.not_le, Bool.not_eq_false, Bool.not_eq_true, Bool.not_true, Bool.not_false, Bool.not_eq_true', Bool.not_eq_false', beq_eq_false_iff_ne, ne_eq, beq_iff_eq, bne_iff_ne, bne_eq_false_iff_eq, Classical.not_not] at g133
                  first
                  | done
                  | (first
                     | omega
                     | exact absurd rfl g133
                     | (simp at g133; done)
                     | exact absurd (mask32 (k := 8) hv (by omega)).symm g133
                     | exact absurd (mask32 (k := 16) hv (by omega)).symm g133)
                  | skip
                    refine Jp.y 134 rfl (want_as rfl rfl rfl rfl) rfl rfl Kp.true (Y.move rfl rfl) ?_
                    refine Jp.y 135 rfl (want_as rfl rfl rfl rfl) rfl rfl Kp.true (Y.lss rfl rfl rfl) ?_
                    refine Jp.y 136 rfl (want_as rfl rfl rfl rfl) rfl rfl Kp.true (Y.move rfl rfl) ?_
                    refine Jp.split 136 rfl (fun g136 => ?_) (fun g136 => ?_)
                    · skip
                      try simp only [decide_eq_false_iff_not, decide_eq_true_eq, Int.not_lt, Int.not_le, Bool.not_eq_false, Bool.not_eq_true, Bool.not_true, Bool.not_false, Bool.not_eq_true', Bool.not_eq_false', beq_eq_false_iff_ne, ne_eq, beq_iff_eq, bne_iff_ne, bne_eq_false_iff_eq, Classical.not_not] at g136
                      first
                      | done
                      | (first
                         | omega
                         | exact absurd rfl g136
                         | (simp at g136; done)
                         | exact absurd (mask32 (k := 8) hv (by omega)).symm g136
                         | exact absurd (mask32 (k := 16) hv (by omega)).symm g136)
                      | skip
                        refine Jp.y 137 rfl (want_as rfl rfl rfl rfl) rfl rfl Kp.true (Y.move rfl rfl) ?_
                        refine Jp.y 138 rfl (want_as rfl rfl rfl rfl) rfl rfl Kp.true (Y.move rfl rfl) ?_
                        refine Jp.y 139 rfl (want_as rfl rfl rfl rfl) rfl rfl Kp.true (Y.move rfl rfl) ?_
                        refine Jp.y 140 rfl (want_as rfl rfl rfl rfl) rfl rfl Kp.true (Y.mul_ rfl rfl rfl (by first | exact wrap_i64 (by omega) (by omega) | rfl)) ?_
                        refine Jp.y 141 rfl (want_as rfl rfl rfl rfl) rfl rfl Kp.true (Y.conv_ rfl rfl Try.underlying3 Try.underlying41 (by first | exact wrap_u64 (by omega) (by omega) | rfl)) ?_
                        refine Jp.y 142 rfl (want_as rfl rfl rfl rfl) rfl rfl Kp.true (Y.shl rfl rfl rfl (by first | decide | omega)) ?_
                        refine Jp.y 143 rfl (want_as rfl rfl rfl rfl) rfl rfl Kp.true (Y.sub_ rfl rfl rfl (by first | exact wrap_u32 (by omega) (by omega) | rfl)) ?_
                        refine Jp.y 144 rfl (want_as rfl rfl rfl rfl) rfl rfl Kp.true (Y.bits rfl rfl rfl rfl) ?_
                        refine Jp.y 145 rfl (want_as rfl rfl rfl rfl) rfl rfl Kp.true (Y.eql rfl rfl rfl) ?_
                        refine Jp.y 146 rfl (want_as rfl rfl rfl rfl) rfl rfl Kp.true (Y.pickT rfl rfl rfl) ?_
                        refine Jp.y 147 rfl (want_as rfl rfl rfl rfl) rfl rfl Kp.true (Y.pickF rfl rfl rfl) ?_
                        refine Jp.y 148 rfl (want_all rfl) rfl rfl Kp.true (Y.pickT rfl rfl rfl) ?_
                        refine Jp.y 149 rfl (want_all rfl) rfl rfl Kp.true (Y.move rfl rfl) ?_
                        refine Jp.split 149 rfl (fun g149 => ?_) (fun g149 => ?_)
                        · skip
                          try simp only [decide_eq_false_iff_not, decide_eq_true_eq, Int.not_lt, Int.not_le, Bool.not_eq_false, Bool.not_eq_true, Bool.not_true, Bool.not_false, Bool.not_eq_true', Bool.not_eq_false', beq_eq_false_iff_ne, ne_eq, beq_iff_eq, bne_iff_ne, bne_eq_false_iff_eq, Classical.not_not] at g149
                          first
                          | done
                          | (first
                             | omega
                             | exact absurd rfl g149
                             | (simp at g149; done)
                             | exact absurd (mask32 (k := 8) hv (by omega)).symm g149
                             | exact absurd (mask32 (k := 16) hv (by omega)).symm g149)
                          | skip
                            refine Jp.y 150 rfl (want_as rfl rfl rfl rfl) rfl rfl Kp.true (Y.move rfl rfl) ?_
                            refine Jp.y 151 rfl (want_as rfl rfl rfl rfl) rfl rfl Kp.true (Y.conv_ rfl rfl Try.underlying26 Try.underlying5 (by first | exact wrap_u8 (by omega) (by omega) | rfl)) ?_
                            refine Jp.y 152 rfl (want_as rfl rfl rfl rfl) rfl rfl Kp.true (Y.move rfl rfl) ?_
                            refine Jp.y 153 rfl (want_as rfl rfl rfl rfl) rfl rfl Kp.true (Y.eql rfl rfl rfl) ?_
                            refine Jp.y 154 rfl (want_all rfl) rfl rfl Kp.true (Y.pickT rfl rfl rfl) ?_
                            refine Jp.y 155 rfl (want_all rfl) rfl rfl Kp.true (Y.move rfl rfl) ?_
                            refine Jp.split 155 rfl (fun g155 => ?_) (fun g155 => ?_)
                            · skip
                              try simp only [decide_eq_false_iff_not, decide_eq_true_eq, Int.not_lt, Int.not_le, Bool.not_eq_false, Bool.not_eq_true, Bool.not_true, Bool.not_false, Bool.not_eq_true', Bool.not_eq_false', beq_eq_false_iff_ne, ne_eq, beq_iff_eq, bne_iff_ne, bne_eq_false_iff_eq, Classical.not_not] at g155
                              first
                              | done
                              | (first
                                 | omega
                                 | exact absurd rfl g155
                                 | (simp at g155; done)
                                 | exact absurd (mask32 (k := 8) hv (by omega)).symm g155
                                 | exact absurd (mask32 (k := 16) hv (by omega)).symm g155)
                              | skip
                                refine Jp.y 156 rfl (want_as rfl rfl rfl rfl) rfl rfl Kp.true (Y.move rfl rfl) ?_
                                refine Jp.y 157 rfl (want_as rfl rfl rfl rfl) rfl rfl Kp.true (Y.conv_ rfl rfl Try.underlying26 Try.underlying5 (by first | exact wrap_u8 (by omega) (by omega) | rfl)) ?_
                                refine Jp.y 158 rfl (want_as rfl rfl rfl rfl) rfl rfl Kp.true (Y.move rfl rfl) ?_
                                refine Jp.y 159 rfl (want_as rfl rfl rfl rfl) rfl rfl Kp.true (Y.eql rfl rfl rfl) ?_
                                refine Jp.y 160 rfl (want_all rfl) rfl rfl Kp.true (Y.pickT rfl rfl rfl) ?_
                                refine Jp.y 10 rfl (want_all rfl) rfl rfl Kp.true (Y.assign rfl rfl) ?_
                                refine Jp.done hK23 ?_
                                refine Cd.ret [] rfl (res1 rfl rfl) trivial ⟨by first | rfl | (simp; done), rfl⟩
                            · skip
                              try simp only [decide_eq_false_iff_not, decide_eq_true_eq, Int.not_lt, Int.not_le, Bool.not_eq_false, Bool.not_eq_true, Bool.not_true, Bool.not_false, Bool.not_eq_true', Bool.not_eq_false', beq_eq_false_iff_ne, ne_eq, beq_iff_eq, bne_iff_ne, bne_eq_false_iff_eq, Classical.not_not] at g155
                              first
                              | done
                              | (first
                                 | omega
                                 | exact absurd rfl g155
                                 | (simp at g155; done)
                                 | exact absurd (mask32 (k := 8) hv (by omega)).symm g155
                                 | exact absurd (mask32 (k := 16) hv (by omega)).symm g155)
                              | skip
                                refine Jp.skip 156 rfl (want_as rfl rfl rfl rfl) rfl rfl Kp.true ?_
                                refine Jp.skip 157 rfl (want_as rfl rfl rfl rfl) rfl rfl Kp.true ?_
                                refine Jp.skip 158 rfl (want_as rfl rfl rfl rfl) rfl rfl Kp.true ?_
                                refine Jp.skip 159 rfl (want_as rfl rfl rfl rfl) rfl rfl Kp.true ?_
                                refine Jp.y 160 rfl (want_all rfl) rfl rfl Kp.true (Y.pickF rfl rfl rfl) ?_
                                refine Jp.y 10 rfl (want_all rfl) rfl rfl Kp.true (Y.assign rfl rfl) ?_
                                refine Jp.done hK23 ?_
                                refine Cd.ret [] rfl (res1 rfl rfl) trivial ⟨by first | rfl | (simp; done), rfl⟩
                        · skip
                          try simp only [decide_eq_false_iff_not, decide_eq_true_eq, Int.not_lt, Int.not_le, Bool.not_eq_false, Bool.not_eq_true, Bool.not_true, Bool.not_false, Bool.not_eq_true', Bool.not_eq_false', beq_eq_false_iff_ne, ne_eq, beq_iff_eq, bne_iff_ne, bne_eq_false_iff_eq, Classical.not_not] at g149
                          first
                          | done
                          | (first
                             | omega
                             | exact absurd rfl g149
                             | (simp at g149; done)
                             | exact absurd (mask32 (k := 8) hv (by omega)).symm g149
                             | exact absurd (mask32 (k := 16) hv (by omega)).symm g149)
                          | skip
                            refine Jp.skip 150 rfl (want_as rfl rfl rfl rfl) rfl rfl Kp.true ?_
                            refine Jp.skip 151 rfl (want_as rfl rfl rfl rfl) rfl rfl Kp.true ?_
                            refine Jp.skip 152 rfl (want_as rfl rfl rfl rfl) rfl rfl Kp.true ?_
                            refine Jp.skip 153 rfl (want_as rfl rfl rfl rfl) rfl rfl Kp.true ?_
                            refine Jp.y 154 rfl (want_all rfl) rfl rfl Kp.true (Y.pickF rfl rfl rfl) ?_
                            refine Jp.y 155 rfl (want_all rfl) rfl rfl Kp.true (Y.move rfl rfl) ?_
                            refine Jp.skip 156 rfl (want_as rfl rfl rfl rfl) rfl rfl Kp.true ?_
                            refine Jp.skip 157 rfl (want_as rfl rfl rfl rfl) rfl rfl Kp.true ?_
                            refine Jp.skip 158 rfl (want_as rfl rfl rfl rfl) rfl rfl Kp.true ?_
                            refine Jp.skip 159 rfl (want_as rfl rfl rfl rfl) rfl rfl Kp.true ?_
                            refine Jp.y 160 rfl (want_all rfl) rfl rfl Kp.true (Y.pickF rfl rfl rfl) ?_
                            refine Jp.y 10 rfl (want_all rfl) rfl rfl Kp.true (Y.assign rfl rfl) ?_
                            refine Jp.done hK23 ?_
                            refine Cd.ret [] rfl (res1 rfl rfl) trivial ⟨by first | rfl | (simp; done), rfl⟩
                    · skip
                      try simp only [decide_eq_false_iff_not, decide_eq_true_eq, Int.not_lt, Int.not_le, Bool.not_eq_false, Bool.not_eq_true, Bool.not_true, Bool.not_false, Bool.not_eq_true', Bool.not_eq_false', beq_eq_false_iff_ne, ne_eq, beq_iff_eq, bne_iff_ne, bne_eq_false_iff_eq, Classical.not_not] at g136
                      first
                      | done
                      | (first
                         | omega
                         | exact absurd rfl g136
                         | (simp at g136; done)
                         | exact absurd (mask32 (k := 8) hv (by omega)).symm g136
                         | exact absurd (mask32 (k := 16) hv (by omega)).symm g136)
                      | skip
                        refine Jp.skip 137 rfl (want_as rfl rfl rfl rfl) rfl rfl Kp.true ?_
                        refine Jp.skip 138 rfl (want_as rfl rfl rfl rfl) rfl rfl Kp.true ?_
                        refine Jp.skip 139 rfl (want_as rfl rfl rfl rfl) rfl rfl Kp.true ?_
                        refine Jp.skip 140 rfl (want_as rfl rfl rfl rfl) rfl rfl Kp.true ?_
                        refine Jp.skip 141 rfl (want_as rfl rfl rfl rfl) rfl rfl Kp.true ?_
                        refine Jp.skip 142 rfl (want_as rfl rfl rfl rfl) rfl rfl Kp.true ?_
                        refine Jp.skip 143 rfl (want_as rfl rfl rfl rfl) rfl rfl Kp.true ?_
                        refine Jp.skip 144 rfl (want_as rfl rfl rfl rfl) rfl rfl Kp.true ?_
                        refine Jp.skip 145 rfl (want_as rfl rfl rfl rfl) rfl rfl Kp.true ?_
                        refine Jp.y 146 rfl (want_as rfl rfl rfl rfl) rfl rfl Kp.true (Y.pickF rfl rfl rfl) ?_
                        refine Jp.y 147 rfl (want_as rfl rfl rfl rfl) rfl rfl Kp.true (Y.pickF rfl rfl rfl) ?_
                        refine Jp.y 148 rfl (want_all rfl) rfl rfl Kp.true (Y.pickT rfl rfl rfl) ?_
                        refine Jp.y 149 rfl (want_all rfl) rfl rfl Kp.true (Y.move rfl rfl) ?_
                        refine Jp.skip 150 rfl (want_as rfl rfl rfl rfl) rfl rfl Kp.true ?_
                        refine Jp.skip 151 rfl (want_as rfl rfl rfl rfl) rfl rfl Kp.true ?_
                        refine Jp.skip 152 rfl (want_as rfl rfl rfl rfl) rfl rfl Kp.true ?_
                        refine Jp.skip 153 rfl (want_as rfl rfl rfl rfl) rfl rfl Kp.true ?_
                        refine Jp.y 154 rfl (want_all rfl) rfl rfl Kp.true (Y.pickF rfl rfl rfl) ?_
                        refine Jp.y 155 rfl (want_all rfl) rfl rfl Kp.true (Y.move rfl rfl) ?_
                        refine Jp.skip 156 rfl (want_as rfl rfl rfl rfl) rfl rfl Kp.true ?_
                        refine Jp.skip 157 rfl (want_as rfl rfl rfl rfl) rfl rfl Kp.true ?_
                        refine Jp.skip 158 rfl (want_as rfl rfl rfl rfl) rfl rfl Kp.true ?_
                        refine Jp.skip 159 rfl (want_as rfl rfl rfl rfl) rfl rfl Kp.true ?_
                        refine Jp.y 160 rfl (want_all rfl) rfl rfl Kp.true (Y.pickF rfl rfl rfl) ?_
                        refine Jp.y 10 rfl (want_all rfl) rfl rfl Kp.true (Y.assign rfl rfl) ?_
                        refine Jp.done hK23 ?_
                        refine Cd.ret [] rfl (res1 rfl rfl) trivial ⟨by first | rfl | (simp; done), rfl⟩
            · skip
              try simp only [decide_eq_false_iff_not, decide_eq_true_eq, Int.not_lt, Int.not_le, Bool.not_eq_false, Bool.not_eq_true, Bool.not_true, Bool.not_false, Bool.not_eq_true', Bool.not_eq_false', beq_eq_false_iff_ne, ne_eq, beq_iff_eq, bne_iff_ne, bne_eq_false_iff_eq, Classical.not_not] at g128
              first
              | done
              | (first
                 | omega
                 | exact absurd rfl g128
                 | (simp at g128; done)
                 | exact absurd (mask32 (k := 8) hv (by omega)).symm g128
                 | exact absurd (mask32 (k := 16) hv (by omega)).symm g128)
              | skip
                refine Jp.skip 129 rfl (want_as rfl rfl rfl rfl) rfl rfl Kp.true ?_
                refine Jp.skip 130 rfl (want_as rfl rfl rfl rfl) rfl rfl Kp.true ?_
                refine Jp.skip 131 rfl (want_as rfl rfl rfl rfl) rfl rfl Kp.true ?_
                refine Jp.y 132 rfl (want_as rfl rfl rfl rfl) rfl rfl Kp.true (Y.pickF rfl rfl rfl) ?_
                refine Jp.y 133 rfl (want_as rfl rfl rfl rfl) rfl rfl Kp.true (Y.move rfl rfl) ?_
                refine Jp.y 134 rfl (want_as rfl rfl rfl rfl) rfl rfl Kp.true (Y.move rfl rfl) ?_
                refine Jp.y 135 rfl (want_as rfl rfl rfl rfl) rfl rfl Kp.true (Y.lss rfl rfl rfl) ?_
                refine Jp.y 136 rfl (want_as rfl rfl rfl rfl) rfl rfl Kp.true (Y.move rfl rfl) ?_
                refine Jp.split 136 rfl (fun g136 => ?_) (fun g136 => ?_)
                · skip
                  try simp only [decide_eq_false_iff_not, decide_eq_true_eq, Int.not_lt, Int.not_le, Bool.not_eq_false, Bool.not_eq_true, Bool.not_true, Bool.not_false, Bool.not_eq_true', Bool.not_eq_false', beq_eq_false_iff_ne, ne_eq, beq_iff_eq, bne_iff_ne, bne_eq_false_iff_eq, Classical.not_not] at g136
                  first
                  | done
                  | (first
                     | omega
                     | exact absurd rfl g136
                     | (simp at g136; done)
                     | exact absurd (mask32 (k := 8) hv (by omega)).symm g136
                     | exact absurd (mask32 (k := 16) hv (by omega)).symm g136)
                  | skip
                    refine Jp.y 137 rfl (want_as rfl rfl rfl rfl) rfl rfl Kp.true (Y.move rfl rfl) ?_
                    refine Jp.y 138 rfl (want_as rfl rfl rfl rfl) rfl rfl Kp.true (Y.move rfl rfl) ?_
                    refine Jp.y 139 rfl (want_as rfl rfl rfl rfl) rfl rfl Kp.true (Y.move rfl rfl) ?_
                    refine Jp.y 140 rfl (want_as rfl rfl rfl rfl) rfl rfl Kp.true (Y.mul_ rfl rfl rfl (by first | exact wrap_i64 (by omega) (by omega) | rfl)) ?_
                    refine Jp.y 141 rfl (want_as rfl rfl rfl rfl) rfl rfl Kp.true (Y.conv_ rfl rfl Try.underlying3 Try.underlying41 (by first | exact wrap_u64 (by omega) (by omega) | rfl)) ?_
                    refine Jp.y 142 rfl (want_as rfl rfl rfl rfl) rfl rfl Kp.true (Y.shl rfl rfl rfl (by first | decide | omega)) ?_
                    refine Jp.y 143 rfl (want_as rfl rfl rfl rfl) rfl rfl Kp.true (Y.sub_ rfl rfl rfl (by first | exact wrap_u32 (by omega) (by omega) | rfl)) ?_
                    refine Jp.y 144 rfl (want_as rfl rfl rfl rfl) rfl rfl Kp.true (Y.bits rfl rfl rfl rfl) ?_
                    refine Jp.y 145 rfl (want_as rfl rfl rfl rfl) rfl rfl Kp.true (Y.eql rfl rfl rfl) ?_
                    refine Jp.y 146 rfl (want_as rfl rfl rfl rfl) rfl rfl Kp.true (Y.pickT rfl rfl rfl) ?_
                    refine Jp.y 147 rfl (want_as rfl rfl rfl rfl) rfl rfl Kp.true (Y.pickF rfl rfl rfl) ?_
                    refine Jp.y 148 rfl (want_all rfl) rfl rfl Kp.true (Y.pickT rfl rfl rfl) ?_
                    refine Jp.y 149 rfl (want_all rfl) rfl rfl Kp.true (Y.move rfl rfl) ?_
                    refine Jp.split 149 rfl (fun g149 => ?_) (fun g149 => ?_)
                    · skip
                      try simp only [decide_eq_false_iff_not, decide_eq_true_eq, Int.not_lt, Int.not_le, Bool.not_eq_false, Bool.not_eq_true, Bool.not_true, Bool.not_false, Bool.not_eq_true', Bool.not_eq_false', beq_eq_false_iff_ne, ne_eq, beq_iff_eq, bne_iff_ne, bne_eq_false_iff_eq, Classical.not_not] at g149
                      first
                      | done
                      | (first
                         | omega
                         | exact absurd rfl g149
                         | (simp at g149; done)
                         | exact absurd (mask32 (k := 8) hv (by omega)).symm g149
                         | exact absurd (mask32 (k := 16) hv (by omega)).symm g149)
                      | skip
                        refine Jp.y 150 rfl (want_as rfl rfl rfl rfl) rfl rfl Kp.true (Y.move rfl rfl) ?_
                        refine Jp.y 151 rfl (want_as rfl rfl rfl rfl) rfl rfl Kp.true (Y.conv_ rfl rfl Try.underlying26 Try.underlying5 (by first | exact wrap_u8 (by omega) (by omega) | rfl)) ?_
                        refine Jp.y 152 rfl (want_as rfl rfl rfl rfl) rfl rfl Kp.true (Y.move rfl rfl) ?_
                        refine Jp.y 153 rfl (want_as rfl rfl rfl rfl) rfl rfl Kp.true (Y.eql rfl rfl rfl) ?_
                        refine Jp.y 154 rfl (want_all rfl) rfl rfl Kp.true (Y.pickT rfl rfl rfl) ?_
                        refine Jp.y 155 rfl (want_all rfl) rfl rfl Kp.true (Y.move rfl rfl) ?_
                        refine Jp.split 155 rfl (fun g155 => ?_) (fun g155 => ?_)
                        · skip
                          try simp only [decide_eq_false_iff_not, decide_eq_true_eq, Int.not_lt, Int.not_le, Bool.not_eq_false, Bool.not_eq_true, Bool.not_true, Bool.not_false, Bool.not_eq_true', Bool.not_eq_false', beq_eq_false_iff_ne, ne_eq, beq_iff_eq, bne_iff_ne, bne_eq_false_iff_eq, Classical.not_not] at g155
                          first
                          | done
                          | (first
                             | omega
                             | exact absurd rfl g155
                             | (simp at g155; done)
                             | exact absurd (mask32 (k := 8) hv (by omega)).symm g155
                             | exact absurd (mask32 (k := 16) hv (by omega)).symm g155)
                          | skip
                            refine Jp.y 156 rfl (want_as rfl rfl rfl rfl) rfl rfl Kp.true (Y.move rfl rfl) ?_
                            refine Jp.y 157 rfl (want_as rfl rfl rfl rfl) rfl rfl Kp.true (Y.conv_ rfl rfl Try.underlying26 Try.underlying5 (by first | exact wrap_u8 (by omega) (by omega) | rfl)) ?_
                            refine Jp.y 158 rfl (want_as rfl rfl rfl rfl) rfl rfl Kp.true (Y.move rfl rfl) ?_
                            refine Jp.y 159 rfl (want_as rfl rfl rfl rfl) rfl rfl Kp.true (Y.eql rfl rfl rfl) ?_
                            refine Jp.y 160 rfl (want_all rfl) rfl rfl Kp.true (Y.pickT rfl rfl rfl) ?_
                            refine Jp.y 10 rfl (want_all rfl) rfl rfl Kp.true (Y.assign rfl rfl) ?_
                            refine Jp.done hK23 ?_
                            refine Cd.ret [] rfl (res1 rfl rfl) trivial ⟨by first | rfl | (simp; done), rfl⟩
                        · skip
                          try simp only [decide_eq_false_iff_not, decide_eq_true_eq, Int.not_lt, Int.not_le, Bool.not_eq_false, Bool.not_eq_true, Bool.not_true, Bool.not_false, Bool.not_eq_true', Bool.not_eq_false', beq_eq_false_iff_ne, ne_eq, beq_iff_eq, bne_iff_ne, bne_eq_false_iff_eq, Classical.not_not] at g155
                          first
                          | done
                          | (first
                             | omega
                             | exact absurd rfl g155
                             | (simp at g155; done)
                             | exact absurd (mask32 (k := 8) hv (by omega)).symm g155
                             | exact absurd (mask32 (k := 16) hv (by omega)).symm g155)
                          | skip
                            refine Jp.skip 156 rfl (want_as rfl rfl rfl rfl) rfl rfl Kp.true ?_
                            refine Jp.skip 157 rfl (want_as rfl rfl rfl rfl) rfl rfl Kp.true ?_
                            refine Jp.skip 158 rfl (want_as rfl rfl rfl rfl) rfl rfl Kp.true ?_
                            refine Jp.skip 159 rfl (want_as rfl rfl rfl rfl) rfl rfl Kp.true ?_
                            refine Jp.y 160 rfl (want_all rfl) rfl rfl Kp.true (Y.pickF rfl rfl rfl) ?_
                            refine Jp.y 10 rfl (want_all rfl) rfl rfl Kp.true (Y.assign rfl rfl) ?_
                            refine Jp.done hK23 ?_
                            refine Cd.ret [] rfl (res1 rfl rfl) trivial ⟨by first | rfl | (simp; done), rfl⟩
                    · skip
                      try simp only [decide_eq_false_iff_not, decide_eq_true_eq, Int.not_lt, Int.not_le, Bool.not_eq_false, Bool.not_eq_true, Bool.not_true, Bool.not_false, Bool.not_eq_true', Bool.not_eq_false', beq_eq_false_iff_ne, ne_eq, beq_iff_eq, bne_iff_ne, bne_eq_false_iff_eq, Classical.not_not] at g149
                      first
                      | done
                      | (first
                         | omega
                         | exact absurd rfl g149
                         | (simp at g149; done)
                         | exact absurd (mask32 (k := 8) hv (by omega)).symm g149
                         | exact absurd (mask32 (k := 16) hv (by omega)).symm g149)
                      | skip
                        refine Jp.skip 150 rfl (want_as rfl rfl rfl rfl) rfl rfl Kp.true ?_
                        refine Jp.skip 151 rfl (want_as rfl rfl rfl rfl) rfl rfl Kp.true ?_
                        refine Jp.skip 152 rfl (want_as rfl rfl rfl rfl) rfl rfl Kp.true ?_
                        refine Jp.skip 153 rfl (want_as rfl rfl rfl rfl) rfl rfl Kp.true ?_
                        refine Jp.y 154 rfl (want_all rfl) rfl rfl Kp.true (Y.pickF rfl rfl rfl) ?_
                        refine Jp.y 155 rfl (want_all rfl) rfl rfl Kp.true (Y.move rfl rfl) ?_
                        refine Jp.skip 156 rfl (want_as rfl rfl rfl rfl) rfl rfl Kp.true ?_
                        refine Jp.skip 157 rfl (want_as rfl rfl rfl rfl) rfl rfl Kp.true ?_
                        refine Jp.skip 158 rfl (want_as rfl rfl rfl rfl) rfl rfl Kp.true ?_
                        refine Jp.skip 159 rfl (want_as rfl rfl rfl rfl) rfl rfl Kp.true ?_
                        refine Jp.y 160 rfl (want_all rfl) rfl rfl Kp.true (Y.pickF rfl rfl rfl) ?_
                        refine Jp.y 10 rfl (want_all rfl) rfl rfl Kp.true (Y.assign rfl rfl) ?_
                        refine Jp.done hK23 ?_
                        refine Cd.ret [] rfl (res1 rfl rfl) trivial ⟨by first | rfl | (simp; done), rfl⟩
                · skip
                  try simp only [decide_eq_false_iff_not, decide_eq_true_eq, Int.not_lt, Int.not_le, Bool.not_eq_false, Bool.not_eq_true, Bool.not_true, Bool.not_false, Bool.not_eq_true', Bool.not_eq_false', beq_eq_false_iff_ne, ne_eq, beq_iff_eq, bne_iff_ne, bne_eq_false_iff_eq, Classical.not_not] at g136
                  first
                  | done
                  | (first
                     | omega
                     | exact absurd rfl g136
                     | (simp at g136; done)
                     | exact absurd (mask32 (k := 8) hv (by omega)).symm g136
                     | exact absurd (mask32 (k := 16) hv (by omega)).symm g136)
                  | skip
                    refine Jp.skip 137 rfl (want_as rfl rfl rfl rfl) rfl rfl Kp.true ?_
                    refine Jp.skip 138 rfl (want_as rfl rfl rfl rfl) rfl rfl Kp.true ?_
                    refine Jp.skip 139 rfl (want_as rfl rfl rfl rfl) rfl rfl Kp.true ?_
                    refine Jp.skip 140 rfl (want_as rfl rfl rfl rfl) rfl rfl Kp.true ?_
                    refine Jp.skip 141 rfl (want_as rfl rfl rfl rfl) rfl rfl Kp.true ?_
                    refine Jp.skip 142 rfl (want_as rfl rfl rfl rfl) rfl rfl Kp.true ?_
                    refine Jp.skip 143 rfl (want_as rfl rfl rfl rfl) rfl rfl Kp.true ?_
                    refine Jp.skip 144 rfl (want_as rfl rfl rfl rfl) rfl rfl Kp.true ?_
                    refine Jp.skip 145 rfl (want_as rfl rfl rfl rfl) rfl rfl Kp.true ?_
                    refine Jp.y 146 rfl (want_as rfl rfl rfl rfl) rfl rfl Kp.true (Y.pickF rfl rfl rfl) ?_
                    refine Jp.y 147 rfl (want_as rfl rfl rfl rfl) rfl rfl Kp.true (Y.pickF rfl rfl rfl) ?_
                    refine Jp.y 148 rfl (want_all rfl) rfl rfl Kp.true (Y.pickT rfl rfl rfl) ?_
                    refine Jp.y 149 rfl (want_all rfl) rfl rfl Kp.true (Y.move rfl rfl) ?_
                    refine Jp.skip 150 rfl (want_as rfl rfl rfl rfl) rfl rfl Kp.true ?_
                    refine Jp.skip 151 rfl (want_as rfl rfl rfl rfl) rfl rfl Kp.true ?_
                    refine Jp.skip 152 rfl (want_as rfl rfl rfl rfl) rfl rfl Kp.true ?_
                    refine Jp.skip 153 rfl (want_as rfl rfl rfl rfl) rfl rfl Kp.true ?_
                    refine Jp.y 154 rfl (want_all rfl) rfl rfl Kp.true (Y.pickF rfl rfl rfl) ?_
                    refine Jp.y 155 rfl (want_all rfl) rfl rfl Kp.true (Y.move rfl rfl) ?_
                    refine Jp.skip 156 rfl (want_as rfl rfl rfl rfl) rfl rfl Kp.true ?_
                    refine Jp.skip 157 rfl (want_as rfl rfl rfl rfl) rfl rfl Kp.true ?_
                    refine Jp.skip 158 rfl (want_as rfl rfl rfl rfl) rfl rfl Kp.true ?_
                    refine Jp.skip 159 rfl (want_as rfl rfl rfl rfl) rfl rfl Kp.true ?_
                    refine Jp.y 160 rfl (want_all rfl) rfl rfl Kp.true (Y.pickF rfl rfl rfl) ?_
                    refine Jp.y 10 rfl (want_all rfl) rfl rfl Kp.true (Y.assign rfl rfl) ?_
                    refine Jp.done hK23 ?_
                    refine Cd.ret [] rfl (res1 rfl rfl) trivial ⟨by first | rfl | (simp; done), rfl⟩
        · skip
          try simp only [decide_eq_false_iff_not, decide_eq_true_eq, Int.not_lt, Int.not_le, Bool.not_eq_false, Bool.not_eq_true, Bool.not_true, Bool.not_false, Bool.not_eq_true', Bool.not_eq_false', beq_eq_false_iff_ne, ne_eq, beq_iff_eq, bne_iff_ne, bne_eq_false_iff_eq, Classical.not_not] at g125
          first
          | done
          | (first
             | omega
             | exact absurd rfl g125
             | (simp at g125; done)
             | exact absurd (mask32 (k := 8) hv (by omega)).symm g125
             | exact absurd (mask32 (k := 16) hv (by omega)).symm g125)
          | skip
            refine Jp.skip 126 rfl (want_as rfl rfl rfl rfl) rfl rfl Kp.true ?_
            refine Jp.skip 127 rfl (want_as rfl rfl rfl rfl) rfl rfl Kp.true ?_
            refine Jp.skip 128 rfl (want_as rfl rfl rfl rfl) rfl rfl Kp.true ?_
            refine Jp.skip 129 rfl (want_un rfl rfl rfl) rfl rfl Kp.true ?_
            refine Jp.skip 130 rfl (want_un rfl rfl rfl) rfl rfl Kp.true ?_
            refine Jp.skip 131 rfl (want_un rfl rfl rfl) rfl rfl Kp.true ?_
            refine Jp.skip 132 rfl (want_as rfl rfl rfl rfl) rfl rfl Kp.true ?_
            refine Jp.skip 133 rfl (want_as rfl rfl rfl rfl) rfl rfl Kp.true ?_
            refine Jp.skip 134 rfl (want_un rfl rfl rfl) rfl rfl Kp.true ?_
            refine Jp.skip 135 rfl (want_un rfl rfl rfl) rfl rfl Kp.true ?_
            refine Jp.skip 136 rfl (want_un rfl rfl rfl) rfl rfl Kp.true ?_
            refine Jp.skip 137 rfl (want_un rfl rfl rfl) rfl rfl Kp.true ?_
            refine Jp.skip 138 rfl (want_un rfl rfl rfl) rfl rfl Kp.true ?_
            refine Jp.skip 139 rfl (want_un rfl rfl rfl) rfl rfl Kp.true ?_
            refine Jp.skip 140 rfl (want_un rfl rfl rfl) rfl rfl Kp.true ?_
            refine Jp.skip 141 rfl (want_un rfl rfl rfl) rfl rfl Kp.true ?_
            refine Jp.skip 142 rfl (want_un rfl rfl rfl) rfl rfl Kp.true ?_
            refine Jp.skip 143 rfl (want_un rfl rfl rfl) rfl rfl Kp.true ?_
            refine Jp.skip 144 rfl (want_un rfl rfl rfl) rfl rfl Kp.true ?_
            refine Jp.skip 145 rfl (want_un rfl rfl rfl) rfl rfl Kp.true ?_
            refine Jp.skip 146 rfl (want_un rfl rfl rfl) rfl rfl Kp.true ?_
            refine Jp.skip 147 rfl (want_as rfl rfl rfl rfl) rfl rfl Kp.true ?_
            refine Jp.y 148 rfl (want_all rfl) rfl rfl Kp.true (Y.pickF rfl rfl rfl) ?_
            refine Jp.y 149 rfl (want_all rfl) rfl rfl Kp.true (Y.move rfl rfl) ?_
            refine Jp.skip 150 rfl (want_as rfl rfl rfl rfl) rfl rfl Kp.true ?_
            refine Jp.skip 151 rfl (want_as rfl rfl rfl rfl) rfl rfl Kp.true ?_
            refine Jp.skip 152 rfl (want_as rfl rfl rfl rfl) rfl rfl Kp.true ?_
            refine Jp.skip 153 rfl (want_as rfl rfl rfl rfl) rfl rfl Kp.true ?_
            refine Jp.y 154 rfl (want_all rfl) rfl rfl Kp.true (Y.pickF rfl rfl rfl) ?_
            refine Jp.y 155 rfl (want_all rfl) rfl rfl Kp.true (Y.move rfl rfl) ?_
            refine Jp.skip 156 rfl (want_as rfl rfl rfl rfl) rfl rfl Kp.true ?_
            refine Jp.skip 157 rfl (want_as rfl rfl rfl rfl) rfl rfl Kp.true ?_
            refine Jp.skip 158 rfl (want_as rfl rfl rfl rfl) rfl rfl Kp.true ?_
            refine Jp.skip 159 rfl (want_as rfl rfl rfl rfl) rfl rfl Kp.true ?_
            refine Jp.y 160 rfl (want_all rfl) rfl rfl Kp.true (Y.pickF rfl rfl rfl) ?_
            refine Jp.y 10 rfl (want_all rfl) rfl rfl Kp.true (Y.assign rfl rfl) ?_
            refine Jp.done hK23 ?_
            refine Cd.ret [] rfl (res1 rfl rfl) trivial ⟨by first | rfl | (simp; done), rfl⟩
      · skip
        refine Jp.y 123 rfl (want_all rfl) rfl rfl Kp.true (Y.move rfl rfl) ?_
        refine Jp.y 124 rfl (want_all rfl) rfl rfl Kp.true (Y.eql rfl rfl rfl) ?_
        refine Jp.y 125 rfl (want_all rfl) rfl rfl Kp.true (Y.move rfl rfl) ?_
        refine Jp.split 125 rfl (fun g125 => ?_) (fun g125 => ?_)
        · skip
          try simp only [decide_eq_false_iff_not, decide_eq_true_eq, Int.not_lt, Int.not_le, Bool.not_eq_false, Bool.not_eq_true, Bool.not_true, Bool.not_false, Bool.not_eq_true', Bool.not_eq_false', beq_eq_false_iff_ne, ne_eq, beq_iff_eq, bne_iff_ne, bne_eq_false_iff_eq, Classical.not_not] at g125
          first
          | done
          | (first
             | omega
             | exact absurd rfl g125
             | (simp at g125; done)
             | exact absurd (mask32 (k := 8) hv (by omega)).symm g125
             | exact absurd (mask32 (k := 16) hv (by omega)).symm g125)
          | skip
            refine Jp.y 126 rfl (want_as rfl rfl rfl rfl) rfl rfl Kp.true (Y.move rfl rfl) ?_
            refine Jp.y 127 rfl (want_as rfl rfl rfl rfl) rfl rfl Kp.true (Y.eql rfl rfl rfl) ?_
            refine Jp.y 128 rfl (want_as rfl rfl rfl rfl) rfl rfl Kp.true (Y.move rfl rfl) ?_
            refine Jp.split 128 rfl (fun g128 => ?_) (fun g128 => ?_)
            · skip
              try simp only [decide_eq_false_iff_not, decide_eq_true_eq, Int.not_lt, Int.not_le, Bool.not_eq_false, Bool.not_eq_true, Bool.not_true, Bool.not_false, Bool.not_eq_true', Bool.not_eq_false', beq_eq_false_iff_ne, ne_eq, beq_iff_eq, bne_iff_ne, bne_eq_false_iff_eq, Classical.not_not] at g128
              first
              | done
              | (first
                 | omega
                 | exact absurd rfl g128
                 | (simp at g128; done)
                 | exact absurd (mask32 (k := 8) hv (by omega)).symm g128
                 | exact absurd (mask32 (k := 16) hv (by omega)).symm g128)
              | skip
                refine Jp.y 129 rfl (want_as rfl rfl rfl rfl) rfl rfl Kp.true (Y.move rfl rfl) ?_
                refine Jp.y 130 rfl (want_as rfl rfl rfl rfl) rfl rfl Kp.true (Y.move rfl rfl) ?_
                refine Jp.y 131 rfl (want_as rfl rfl rfl rfl) rfl rfl Kp.true (Y.eql rfl rfl rfl) ?_
                refine Jp.y 132 rfl (want_as rfl rfl rfl rfl) rfl rfl Kp.true (Y.pickT rfl rfl rfl) ?_
                refine Jp.y 133 rfl (want_as rfl rfl rfl rfl) rfl rfl Kp.true (Y.move rfl rfl) ?_
                refine Jp.split 133 rfl (fun g133 => ?_) (fun g133 => ?_)
                · skip
                  try simp only [decide_eq_false_iff_not, decide_eq_true_eq, Int.not_lt, Int.not_le, Bool.not_eq_false, Bool.not_eq_true, Bool.not_true, Bool.not_false, Bool.not_eq_true', Bool.not_eq_false', beq_eq_false_iff_ne, ne_eq, beq_iff_eq, bne_iff_ne, bne_eq_false_iff_eq, Classical.not_not] at g133
                  first
                  | done
                  | (first
                     | omega
                     | exact absurd rfl g133
                     | (simp at g133; done)
                     | exact absurd (mask32 (k := 8) hv (by omega)).symm g133
                     | exact absurd (mask32 (k := 16) hv (by omega)).symm g133)
                  | skip
                    refine Jp.skip 134 rfl (want_as rfl rfl rfl rfl) rfl rfl Kp.true ?_
                    refine Jp.skip 135 rfl (want_as rfl rfl rfl rfl) rfl rfl Kp.true ?_
                    refine Jp.skip 136 rfl (want_as rfl rfl rfl rfl) rfl rfl Kp.true ?_
                    refine Jp.skip 137 rfl (want_un rfl rfl rfl) rfl rfl Kp.true ?_
                    refine Jp.skip 138 rfl (want_un rfl rfl rfl) rfl rfl Kp.true ?_
                    refine Jp.skip 139 rfl (want_un rfl rfl rfl) rfl rfl Kp.true ?_
                    refine Jp.skip 140 rfl (want_un rfl rfl rfl) rfl rfl Kp.true ?_
                    refine Jp.skip 141 rfl (want_un rfl rfl rfl) rfl rfl Kp.true ?_
                    refine Jp.skip 142 rfl (want_un rfl rfl rfl) rfl rfl Kp.true ?_
                    refine Jp.skip 143 rfl (want_un rfl rfl rfl) rfl rfl Kp.true ?_
                    refine Jp.skip 144 rfl (want_un rfl rfl rfl) rfl rfl Kp.true ?_
                    refine Jp.skip 145 rfl (want_un rfl rfl rfl) rfl rfl Kp.true ?_
                    refine Jp.skip 146 rfl (want_as rfl rfl rfl rfl) rfl rfl Kp.true ?_
                    refine Jp.y 147 rfl (want_as rfl rfl rfl rfl) rfl rfl Kp.true (Y.pickT rfl rfl rfl) ?_
                    refine Jp.y 148 rfl (want_all rfl) rfl rfl Kp.true (Y.pickT rfl rfl rfl) ?_
                    refine Jp.y 149 rfl (want_all rfl) rfl rfl Kp.true (Y.move rfl rfl) ?_
                    refine Jp.y 150 rfl (want_as rfl rfl rfl rfl) rfl rfl Kp.true (Y.move rfl rfl) ?_
                    refine Jp.y 151 rfl (want_as rfl rfl rfl rfl) rfl rfl Kp.true (Y.conv_ rfl rfl Try.underlying26 Try.underlying5 (by first | exact wrap_u8 (by omega) (by omega) | rfl)) ?_
                    refine Jp.y 152 rfl (want_as rfl rfl rfl rfl) rfl rfl Kp.true (Y.move rfl rfl) ?_
                    refine Jp.y 153 rfl (want_as rfl rfl rfl rfl) rfl rfl Kp.true (Y.eql rfl rfl rfl) ?_
                    refine Jp.y 154 rfl (want_all rfl) rfl rfl Kp.true (Y.pickT rfl rfl rfl) ?_
                    refine Jp.y 155 rfl (want_all rfl) rfl rfl Kp.true (Y.move rfl rfl) ?_
                    refine Jp.split 155 rfl (fun g155 => ?_) (fun g155 => ?_)
                    · skip
                      try simp only [decide_eq_false_iff_not, decide_eq_true_eq, Int.not_lt, Int.not_le, Bool.not_eq_false, Bool.not_eq_true, Bool.not_true, Bool.not_false, Bool.not_eq_true', Bool.not_eq_false', beq_eq_false_iff_ne, ne_eq, beq_iff_eq, bne_iff_ne, bne_eq_false_iff_eq, Classical.not_not] at g155
                      first
                      | done
                      | (first
                         | omega
                         | exact absurd rfl g155
                         | (simp at g155; done)
                         | exact absurd (mask32 (k := 8) hv (by omega)).symm g155
                         | exact absurd (mask32 (k := 16) hv (by omega)).symm g155)
                      | skip
                        refine Jp.y 156 rfl (want_as rfl rfl rfl rfl) rfl rfl Kp.true (Y.move rfl rfl) ?_
                        refine Jp.y 157 rfl (want_as rfl rfl rfl rfl) rfl rfl Kp.true (Y.conv_ rfl rfl Try.underlying26 Try.underlying5 (by first | exact wrap_u8 (by omega) (by omega) | rfl)) ?_
                        refine Jp.y 158 rfl (want_as rfl rfl rfl rfl) rfl rfl Kp.true (Y.move rfl rfl) ?_
                        refine Jp.y 159 rfl (want_as rfl rfl rfl rfl) rfl rfl Kp.true (Y.eql rfl rfl rfl) ?_
                        refine Jp.y 160 rfl (want_all rfl) rfl rfl Kp.true (Y.pickT rfl rfl rfl) ?_
                        refine Jp.y 10 rfl (want_all rfl) rfl rfl Kp.true (Y.assign rfl rfl) ?_
                        refine Jp.done hK23 ?_
                        refine Cd.ret [] rfl (res1 rfl rfl) trivial ⟨by first | rfl | (simp; done), rfl⟩
                    · skip
                      try simp only [decide_eq_false_iff_not, decide_eq_true_eq, Int.not_lt, Int.not_le, Bool.not_eq_false, Bool.not_eq_true, Bool.not_true, Bool.not_false, Bool.not_eq_true', Bool.not_eq_false', beq_eq_false_iff_ne, ne_eq, beq_iff_eq, bne_iff_ne, bne_eq_false_iff_eq, Classical.not_not] at g155
                      first
                      | done
                      | (first
                         | omega
                         | exact absurd rfl g155
                         | (simp at g155; done)
                         | exact absurd (mask32 (k := 8) hv (by omega)).symm g155
                         | exact absurd (mask32 (k := 16) hv (by omega)).symm g155)
                      | skip
                        refine Jp.skip 156 rfl (want_as rfl rfl rfl rfl) rfl rfl Kp.true ?_
                        refine Jp.skip 157 rfl (want_as rfl rfl rfl rfl) rfl rfl Kp.true ?_
                        refine Jp.skip 158 rfl (want_as rfl rfl rfl rfl) rfl rfl Kp.true ?_
                        refine Jp.skip 159 rfl (want_as rfl rfl rfl rfl) rfl rfl Kp.true ?_
                        refine Jp.y 160 rfl (want_all rfl) rfl rfl Kp.true (Y.pickF rfl rfl rfl) ?_
                        refine Jp.y 10 rfl (want_all rfl) rfl rfl Kp.true (Y.assign rfl rfl) ?_
                        refine Jp.done hK23 ?_
                        refine Cd.ret [] rfl (res1 rfl rfl) trivial ⟨by first | rfl | (simp; done), rfl⟩
                · skip
                  try simp only [decide_eq_false_iff_not, decide_eq_true_eq, Int.not_lt, Int.not_le, Bool.not_eq_false, Bool.not_eq_true, Bool.not_true, Bool.not_false, Bool.not_eq_true', Bool.not_eq_false', beq_eq_false_iff_ne, ne_eq, beq_iff_eq, bne_iff_ne, bne_eq_false_iff_eq, Classical.not_not] at g133
                  first
                  | done
                  | (first
                     | omega
                     | exact absurd rfl g133
                     | (simp at g133; done)
                     | exact absurd (mask32 (k := 8) hv (by omega)).symm g133
                     | exact absurd (mask32 (k := 16) hv (by omega)).symm g133)
                  | skip
                    refine Jp.y 134 rfl (want_as rfl rfl rfl rfl) rfl rfl Kp.true (Y.move rfl rfl) ?_
                    refine Jp.y 135 rfl (want_as rfl rfl rfl rfl) rfl rfl Kp.true (Y.lss rfl rfl rfl) ?_
                    refine Jp.y 136 rfl (want_as rfl rfl rfl rfl) rfl rfl Kp.true (Y.move rfl rfl) ?_
                    refine Jp.split 136 rfl (fun g136 => ?_) (fun g136 => ?_)
                    · skip
                      try simp only [decide_eq_false_iff_not, decide_eq_true_eq, Int.not_lt, Int.not_le, Bool.not_eq_false, Bool.not_eq_true, Bool.not_true, Bool.not_false, Bool.not_eq_true', Bool.not_eq_false', beq_eq_false_iff_ne, ne_eq, beq_iff_eq, bne_iff_ne, bne_eq_false_iff_eq, Classical.not_not] at g136
                      first
                      | done
                      | (first
                         | omega
                         | exact absurd rfl g136
                         | (simp at g136; done)
                         | exact absurd (mask32 (k := 8) hv (by omega)).symm g136
                         | exact absurd (mask32 (k := 16) hv (by omega)).symm g136)
                      | skip
                        refine Jp.y 137 rfl (want_as rfl rfl rfl rfl) rfl rfl Kp.true (Y.move rfl rfl) ?_
                        refine Jp.y 138 rfl (want_as rfl rfl rfl rfl) rfl rfl Kp.true (Y.move rfl rfl) ?_
                        refine Jp.y 139 rfl (want_as rfl rfl rfl rfl) rfl rfl Kp.true (Y.move rfl rfl) ?_
                        refine Jp.y 140 rfl (want_as rfl rfl rfl rfl) rfl rfl Kp.true (Y.mul_ rfl rfl rfl (by first | exact wrap_i64 (by omega) (by omega) | rfl)) ?_
                        refine Jp.y 141 rfl (want_as rfl rfl rfl rfl) rfl rfl Kp.true (Y.conv_ rfl rfl Try.underlying3 Try.underlying41 (by first | exact wrap_u64 (by omega) (by omega) | rfl)) ?_
                        refine Jp.y 142 rfl (want_as rfl rfl rfl rfl) rfl rfl Kp.true (Y.shl rfl rfl rfl (by first | decide | omega)) ?_
                        refine Jp.y 143 rfl (want_as rfl rfl rfl rfl) rfl rfl Kp.true (Y.sub_ rfl rfl rfl (by first | exact wrap_u32 (by omega) (by omega) | rfl)) ?_
                        refine Jp.y 144 rfl (want_as rfl rfl rfl rfl) rfl rfl Kp.true (Y.bits rfl rfl rfl rfl) ?_
                        refine Jp.y 145 rfl (want_as rfl rfl rfl rfl) rfl rfl Kp.true (Y.eql rfl rfl rfl) ?_
                        refine Jp.y 146 rfl (want_as rfl rfl rfl rfl) rfl rfl Kp.true (Y.pickT rfl rfl rfl) ?_
                        refine Jp.y 147 rfl (want_as rfl rfl rfl rfl) rfl rfl Kp.true (Y.pickF rfl rfl rfl) ?_
                        refine Jp.y 148 rfl (want_all rfl) rfl rfl Kp.true (Y.pickT rfl rfl rfl) ?_
                        refine Jp.y 149 rfl (want_all rfl) rfl rfl Kp.true (Y.move rfl rfl) ?_
                        refine Jp.split 149 rfl (fun g149 => ?_) (fun g149 => ?_)
                        · skip
                          try simp only [decide_eq_false_iff_not, decide_eq_true_eq, Int.not_lt, Int.not_le, Bool.not_eq_false, Bool.not_eq_true, Bool.not_true, Bool.not_false, Bool.not_eq_true', Bool.not_eq_false', beq_eq_false_iff_ne, ne_eq, beq_iff_eq, bne_iff_ne, bne_eq_false_iff_eq, Classical.not_not] at g149
                          first
                          | done
                          | (first
                             | omega
                             | exact absurd rfl g149
                             | (simp at g149; done)
                             | exact absurd (mask32 (k := 8) hv (by omega)).symm g149
                             | exact absurd (mask32 (k := 16) hv (by omega)).symm g149)
                          | skip
                            refine Jp.y 150 rfl (want_as rfl rfl rfl rfl) rfl rfl Kp.true (Y.move rfl rfl) ?_
                            refine Jp.y 151 rfl (want_as rfl rfl rfl rfl) rfl rfl Kp.true (Y.conv_ rfl rfl Try.underlying26 Try.underlying5 (by first | exact wrap_u8 (by omega) (by omega) | rfl)) ?_
                            refine Jp.y 152 rfl (want_as rfl rfl rfl rfl) rfl rfl Kp.true (Y.move rfl rfl) ?_
                            refine Jp.y 153 rfl (want_as rfl rfl rfl rfl) rfl rfl Kp.true (Y.eql rfl rfl rfl) ?_
                            refine Jp.y 154 rfl (want_all rfl) rfl rfl Kp.true (Y.pickT rfl rfl rfl) ?_
                            refine Jp.y 155 rfl (want_all rfl) rfl rfl Kp.true (Y.move rfl rfl) ?_
                            refine Jp.split 155 rfl (fun g155 => ?_) (fun g155 => ?_)
                            · skip
                              try simp only [decide_eq_false_iff_not, decide_eq_true_eq, Int.not_lt, Int.not_le, Bool.not_eq_false, Bool.not_eq_true, Bool.not_true, Bool.not_false, Bool.not_eq_true', Bool.not_eq_false', beq_eq_false_iff_ne, ne_eq, beq_iff_eq, bne_iff_ne, bne_eq_false_iff_eq, Classical.not_not] at g155
                              first
                              | done
                              | (first
                                 | omega
                                 | exact absurd rfl g155
                                 | (simp at g155; done)
                                 | exact absurd (mask32 (k := 8) hv (by omega)).symm g155
                                 | exact absurd (mask32 (k := 16) hv (by omega)).symm g155)
                              | skip
                                refine Jp.y 156 rfl (want_as rfl rfl rfl rfl) rfl rfl Kp.true (Y.move rfl rfl) ?_
                                refine Jp.y 157 rfl (want_as rfl rfl rfl rfl) rfl rfl Kp.true (Y.conv_ rfl rfl Try.underlying26 Try.underlying5 (by first | exact wrap_u8 (by omega) (by omega) | rfl)) ?_
                                refine Jp.y 158 rfl (want_as rfl rfl rfl rfl) rfl rfl Kp.true (Y.move rfl rfl) ?_
                                refine Jp.y 159 rfl (want_as rfl rfl rfl rfl) rfl rfl Kp.true (Y.eql rfl rfl rfl) ?_
                                refine Jp.y 160 rfl (want_all rfl) rfl rfl Kp.true (Y.pickT rfl rfl rfl) ?_
                                refine Jp.y 10 rfl (want_all rfl) rfl rfl Kp.true (Y.assign rfl rfl) ?_
                                refine Jp.done hK23 ?_
                                refine Cd.ret [] rfl (res1 rfl rfl) trivial ⟨by first | rfl | (simp; done), rfl⟩
                            · skip
                              try simp only [decide_eq_false_iff_not, decide_eq_true_eq, Int.not_lt, Int.not_le, Bool.not_eq_false, Bool.not_eq_true, Bool.not_true, Bool.not_false, Bool.not_eq_true', Bool.not_eq_false', beq_eq_false_iff_ne, ne_eq, beq_iff_eq, bne_iff_ne, bne_eq_false_iff_eq, Classical.not_not] at g155
                              first
                              | done
                              | (first
                                 | omega
                                 | exact absurd rfl g155
                                 | (simp at g155; done)
                                 | exact absurd (mask32 (k := 8) hv (by omega)).symm g155
                                 | exact absurd (mask32 (k := 16) hv (by omega)).symm g155)
                              | skip
                                refine Jp.skip 156 rfl (want_as rfl rfl rfl rfl) rfl rfl Kp.true ?_
                                refine Jp.skip 157 rfl (want_as rfl rfl rfl rfl) rfl rfl Kp.true ?_
                                refine Jp.skip 158 rfl (want_as rfl rfl rfl rfl) rfl rfl Kp.true ?_
                                refine Jp.skip 159 rfl (want_as rfl rfl rfl rfl) rfl rfl Kp.true ?_
                                refine Jp.y 160 rfl (want_all rfl) rfl rfl Kp.true (Y.pickF rfl rfl rfl) ?_
                                refine Jp.y 10 rfl (want_all rfl) rfl rfl Kp.true (Y.assign rfl rfl) ?_
                                refine Jp.done hK23 ?_
                                refine Cd.ret [] rfl (res1 rfl rfl) trivial ⟨by first | rfl | (simp; done), rfl⟩
                        · skip
                          try simp only [decide_eq_false_iff_not, decide_eq_true_eq, Int.not_lt, Int.not_le, Bool.not_eq_false, Bool.not_eq_true, Bool.not_true, Bool.not_false, Bool.not_eq_true', Bool.not_eq_false', beq_eq_false_iff_ne, ne_eq, beq_iff_eq, bne_iff_ne, bne_eq_false_iff_eq, Classical.not_not] at g149
                          first
                          | done
                          | (first
                             | omega
                             | exact absurd rfl g149
                             | (simp at g149; done)
                             | exact absurd (mask32 (k := 8) hv (by omega)).symm g149
                             | exact absurd (mask32 (k := 16) hv (by omega)).symm g149)
                          | skip
                            refine Jp.skip 150 rfl (want_as rfl rfl rfl rfl) rfl rfl Kp.true ?_
                            refine Jp.skip 151 rfl (want_as rfl rfl rfl rfl) rfl rfl Kp.true ?_
                            refine Jp.skip 152 rfl (want_as rfl rfl rfl rfl) rfl rfl Kp.true ?_
                            refine Jp.skip 153 rfl (want_as rfl rfl rfl rfl) rfl rfl Kp.true ?_
                            refine Jp.y 154 rfl (want_all rfl) rfl rfl Kp.true (Y.pickF rfl rfl rfl) ?_
                            refine Jp.y 155 rfl (want_all rfl) rfl rfl Kp.true (Y.move rfl rfl) ?_
                            refine Jp.skip 156 rfl (want_as rfl rfl rfl rfl) rfl rfl Kp.true ?_
                            refine Jp.skip 157 rfl (want_as rfl rfl rfl rfl) rfl rfl Kp.true ?_
                            refine Jp.skip 158 rfl (want_as rfl rfl rfl rfl) rfl rfl Kp.true ?_
                            refine Jp.skip 159 rfl (want_as rfl rfl rfl rfl) rfl rfl Kp.true ?_
                            refine Jp.y 160 rfl (want_all rfl) rfl rfl Kp.true (Y.pickF rfl rfl rfl) ?_
                            refine Jp.y 10 rfl (want_all rfl) rfl rfl Kp.true (Y.assign rfl rfl) ?_
                            refine Jp.done hK23 ?_
                            refine Cd.ret [] rfl (res1 rfl rfl) trivial ⟨by first | rfl | (simp; done), rfl⟩
                    · skip
                      try simp only [decide_eq_false_iff_not, decide_eq_true_eq, Int.not_lt, Int.not_le, Bool.not_eq_false, Bool.not_eq_true, Bool.not_true, Bool.not_false, Bool.not_eq_true', Bool.not_eq_false', beq_eq_false_iff_ne, ne_eq, beq_iff_eq, bne_iff_ne, bne_eq_false_iff_eq, Classical.not_not] at g136
                      first
                      | done
                      | (first
                         | omega
                         | exact absurd rfl g136
                         | (simp at g136; done)
                         | exact absurd (mask32 (k := 8) hv (by omega)).symm g136
                         | exact absurd (mask32 (k := 16) hv (by omega)).symm g136)
                      | skip
                        refine Jp.skip 137 rfl (want_as rfl rfl rfl rfl) rfl rfl Kp.true ?_
                        refine Jp.skip 138 rfl (want_as rfl rfl rfl rfl) rfl rfl Kp.true ?_
                        refine Jp.skip 139 rfl (want_as rfl rfl rfl rfl) rfl rfl Kp.true ?_
                        refine Jp.skip 140 rfl (want_as rfl rfl rfl rfl) rfl rfl Kp.true ?_
                        refine Jp.skip 141 rfl (want_as rfl rfl rfl rfl) rfl rfl Kp.true ?_
                        refine Jp.skip 142 rfl (want_as rfl rfl rfl rfl) rfl rfl Kp.true ?_
                        refine Jp.skip 143 rfl (want_as rfl rfl rfl rfl) rfl rfl Kp.true ?_
                        refine Jp.skip 144 rfl (want_as rfl rfl rfl rfl) rfl rfl Kp.true ?_
                        refine Jp.skip 145 rfl (want_as rfl rfl rfl rfl) rfl rfl Kp.true ?_
                        refine Jp.y 146 rfl (want_as rfl rfl rfl rfl) rfl rfl Kp.true (Y.pickF rfl rfl rfl) ?_
                        refine Jp.y 147 rfl (want_as rfl rfl rfl rfl) rfl rfl Kp.true (Y.pickF rfl rfl rfl) ?_
                        refine Jp.y 148 rfl (want_all rfl) rfl rfl Kp.true (Y.pickT rfl rfl rfl) ?_
                        refine Jp.y 149 rfl (want_all rfl) rfl rfl Kp.true (Y.move rfl rfl) ?_
                        refine Jp.skip 150 rfl (want_as rfl rfl rfl rfl) rfl rfl Kp.true ?_
                        refine Jp.skip 151 rfl (want_as rfl rfl rfl rfl) rfl rfl Kp.true ?_
                        refine Jp.skip 152 rfl (want_as rfl rfl rfl rfl) rfl rfl Kp.true ?_
                        refine Jp.skip 153 rfl (want_as rfl rfl rfl rfl) rfl rfl Kp.true ?_
                        refine Jp.y 154 rfl (want_all rfl) rfl rfl Kp.true (Y.pickF rfl rfl rfl) ?_
                        refine Jp.y 155 rfl (want_all rfl) rfl rfl Kp.true (Y.move rfl rfl) ?_
                        refine Jp.skip 156 rfl (want_as rfl rfl rfl rfl) rfl rfl Kp.true ?_
                        refine Jp.skip 157 rfl (want_as rfl rfl rfl rfl) rfl rfl Kp.true ?_
                        refine Jp.skip 158 rfl (want_as rfl rfl rfl rfl) rfl rfl Kp.true ?_
                        refine Jp.skip 159 rfl (want_as rfl rfl rfl rfl) rfl rfl Kp.true ?_
                        refine Jp.y 160 rfl (want_all rfl) rfl rfl Kp.true (Y.pickF rfl rfl rfl) ?_
                        refine Jp.y 10 rfl (want_all rfl) rfl rfl Kp.true (Y.assign rfl rfl) ?_
                        refine Jp.done hK23 ?_
                        refine Cd.ret [] rfl (res1 rfl rfl) trivial ⟨by first | rfl | (simp; done), rfl⟩
            · skip
              try simp only [decide_eq_false_iff_not, decide_eq_true_eq, Int.not_lt, Int.not_le, Bool.not_eq_false, Bool.not_eq_true, Bool.not_true, Bool.not_false, Bool.not_eq_true', Bool.not_eq_false', beq_eq_false_iff_ne, ne_eq, beq_iff_eq, bne_iff_ne, bne_eq_false_iff_eq, Classical.not_not] at g128
              first
              | done
              | (first
                 | omega
                 | exact absurd rfl g128
                 | (simp at g128; done)
                 | exact absurd (mask32 (k := 8) hv (by omega)).symm g128
                 | exact absurd (mask32 (k := 16) hv (by omega)).symm g128)
              | skip
                refine Jp.skip 129 rfl (want_as rfl rfl rfl rfl) rfl rfl Kp.true ?_
                refine Jp.skip 130 rfl (want_as rfl rfl rfl rfl) rfl rfl Kp.true ?_
                refine Jp.skip 131 rfl (want_as rfl rfl rfl rfl) rfl rfl Kp.true ?_
                refine Jp.y 132 rfl (want_as rfl rfl rfl rfl) rfl rfl Kp.true (Y.pickF rfl rfl rfl) ?_
                refine Jp.y 133 rfl (want_as rfl rfl rfl rfl) rfl rfl Kp.true (Y.move rfl rfl) ?_
                refine Jp.y 134 rfl (want_as rfl rfl rfl rfl) rfl rfl Kp.true (Y.move rfl rfl) ?_
                refine Jp.y 135 rfl (want_as rfl rfl rfl rfl) rfl rfl Kp.true (Y.lss rfl rfl rfl) ?_
                refine Jp.y 136 rfl (want_as rfl rfl rfl rfl) rfl rfl Kp.true (Y.move rfl rfl) ?_
                refine Jp.split 136 rfl (fun g136 => ?_) (fun g136 => ?_)
                · skip
                  try simp only [decide_eq_false_iff_not, decide_eq_true_eq, Int.not_lt, Int.not_le, Bool.not_eq_false, Bool.not_eq_true, Bool.not_true, Bool.not_false, Bool.not_eq_true', Bool.not_eq_false', beq_eq_false_iff_ne, ne_eq, beq_iff_eq, bne_iff_ne, bne_eq_false_iff_eq, Classical.not_not] at g136
                  first
                  | done
                  | (first
                     | omega
                     | exact absurd rfl g136
                     | (simp at g136; done)
                     | exact absurd (mask32 (k := 8) hv (by omega)).symm g136
                     | exact absurd (mask32 (k := 16) hv (by omega)).symm g136)
                  | skip
                    refine Jp.y 137 rfl (want_as rfl rfl rfl rfl) rfl rfl Kp.true (Y.move rfl rfl) ?_
                    refine Jp.y 138 rfl (want_as rfl rfl rfl rfl) rfl rfl Kp.true (Y.move rfl rfl) ?_
                    refine Jp.y 139 rfl (want_as rfl rfl rfl rfl) rfl rfl Kp.true (Y.move rfl rfl) ?_
                    refine Jp.y 140 rfl (want_as rfl rfl rfl rfl) rfl rfl Kp.true (Y.mul_ rfl rfl rfl (by first | exact wrap_i64 (by omega) (by omega) | rfl)) ?_
                    refine Jp.y 141 rfl (want_as rfl rfl rfl rfl) rfl rfl Kp.true (Y.conv_ rfl rfl Try.underlying3 Try.underlying41 (by first | exact wrap_u64 (by omega) (by omega) | rfl)) ?_
                    refine Jp.y 142 rfl (want_as rfl rfl rfl rfl) rfl rfl Kp.true (Y.shl rfl rfl rfl (by first | decide | omega)) ?_
                    refine Jp.y 143 rfl (want_as rfl rfl rfl rfl) rfl rfl Kp.true (Y.sub_ rfl rfl rfl (by first | exact wrap_u32 (by omega) (by omega) | rfl)) ?_
                    refine Jp.y 144 rfl (want_as rfl rfl rfl rfl) rfl rfl Kp.true (Y.bits rfl rfl rfl rfl) ?_
                    refine Jp.y 145 rfl (want_as rfl rfl rfl rfl) rfl rfl Kp.true (Y.eql rfl rfl rfl) ?_
                    refine Jp.y 146 rfl (want_as rfl rfl rfl rfl) rfl rfl Kp.true (Y.pickT rfl rfl rfl) ?_
                    refine Jp.y 147 rfl (want_as rfl rfl rfl rfl) rfl rfl Kp.true (Y.pickF rfl rfl rfl) ?_
                    refine Jp.y 148 rfl (want_all rfl) rfl rfl Kp.true (Y.pickT rfl rfl rfl) ?_
                    refine Jp.y 149 rfl (want_all rfl) rfl rfl Kp.true (Y.move rfl rfl) ?_
                    refine Jp.split 149 rfl (fun g149 => ?_) (fun g149 => ?_)
                    · skip
                      try simp only [decide_eq_false_iff_not, decide_eq_true_eq, Int.not_lt, Int.not_le, Bool.not_eq_false, Bool.not_eq_true, Bool.not_true, Bool.not_false, Bool.not_eq_true', Bool.not_eq_false', beq_eq_false_iff_ne, ne_eq, beq_iff_eq, bne_iff_ne, bne_eq_false_iff_eq, Classical.not_not] at g149
                      first
                      | done
                      | (first
                         | omega
                         | exact absurd rfl g149
                         | (simp at g149; done)
                         | exact absurd (mask32 (k := 8) hv (by omega)).symm g149
                         | exact absurd (mask32 (k := 16) hv (by omega)).symm g149)
                      | skip
                        refine Jp.y 150 rfl (want_as rfl rfl rfl rfl) rfl rfl Kp.true (Y.move rfl rfl) ?_
                        refine Jp.y 151 rfl (want_as rfl rfl rfl rfl) rfl rfl Kp.true (Y.conv_ rfl rfl Try.underlying26 Try.underlying5 (by first | exact wrap_u8 (by omega) (by omega) | rfl)) ?_
                        refine Jp.y 152 rfl (want_as rfl rfl rfl rfl) rfl rfl Kp.true (Y.move rfl rfl) ?_
                        refine Jp.y 153 rfl (want_as rfl rfl rfl rfl) rfl rfl Kp.true (Y.eql rfl rfl rfl) ?_
                        refine Jp.y 154 rfl (want_all rfl) rfl rfl Kp.true (Y.pickT rfl rfl rfl) ?_
                        refine Jp.y 155 rfl (want_all rfl) rfl rfl Kp.true (Y.move rfl rfl) ?_
                        refine Jp.split 155 rfl (fun g155 => ?_) (fun g155 => ?_)
                        · skip
                          try simp only [decide_eq_false_iff_not, decide_eq_true_eq, Int.not_lt, Int.not_le, Bool.not_eq_false, Bool.not_eq_true, Bool.not_true, Bool.not_false, Bool.not_eq_true', Bool.not_eq_false', beq_eq_false_iff_ne, ne_eq, beq_iff_eq, bne_iff_ne, bne_eq_false_iff_eq, Classical.not_not] at g155
                          first
                          | done
                          | (first
                             | omega
                             | exact absurd rfl g155
                             | (simp at g155; done)
                             | exact absurd (mask32 (k := 8) hv (by omega)).symm g155
                             | exact absurd (mask32 (k := 16) hv (by omega)).symm g155)
                          | skip
                            refine Jp.y 156 rfl (want_as rfl rfl rfl rfl) rfl rfl Kp.true (Y.move rfl rfl) ?_
                            refine Jp.y 157 rfl (want_as rfl rfl rfl rfl) rfl rfl Kp.true (Y.conv_ rfl rfl Try.underlying26 Try.underlying5 (by first | exact wrap_u8 (by omega) (by omega) | rfl)) ?_
                            refine Jp.y 158 rfl (want_as rfl rfl rfl rfl) rfl rfl Kp.true (Y.move rfl rfl) ?_
                            refine Jp.y 159 rfl (want_as rfl rfl rfl rfl) rfl rfl Kp.true (Y.eql rfl rfl rfl) ?_
                            refine Jp.y 160 rfl (want_all rfl) rfl rfl Kp.true (Y.pickT rfl rfl rfl) ?_
                            refine Jp.y 10 rfl (want_all rfl) rfl rfl Kp.true (Y.assign rfl rfl) ?_
                            refine Jp.done hK23 ?_
                            refine Cd.ret [] rfl (res1 rfl rfl) trivial ⟨by first | rfl | (simp; done), rfl⟩
                        · skip
                          try simp only [decide_eq_false_iff_not, decide_eq_true_eq, Int.not_lt, Int.not_le, Bool.not_eq_false, Bool.not_eq_true, Bool.not_true, Bool.not_false, Bool.not_eq_true', Bool.not_eq_false', beq_eq_false_iff_ne, ne_eq, beq_iff_eq, bne_iff_ne, bne_eq_false_iff_eq, Classical.not_not] at g155
                          first
                          | done
                          | (first
                             | omega
                             | exact absurd rfl g155
                             | (simp at g155; done)
                             | exact absurd (mask32 (k := 8) hv (by omega)).symm g155
                             | exact absurd (mask32 (k := 16) hv (by omega)).symm g155)
                          | skip
                            refine Jp.skip 156 rfl (want_as rfl rfl rfl rfl) rfl rfl Kp.true ?_
                            refine Jp.skip 157 rfl (want_as rfl rfl rfl rfl) rfl rfl Kp.true ?_
                            refine Jp.skip 158 rfl (want_as rfl rfl rfl rfl) rfl rfl Kp.true ?_
                            refine Jp.skip 159 rfl (want_as rfl rfl rfl rfl) rfl rfl Kp.true ?_
                            refine Jp.y 160 rfl (want_all rfl) rfl rfl Kp.true (Y.pickF rfl rfl rfl) ?_
                            refine Jp.y 10 rfl (want_all rfl) rfl rfl Kp.true (Y.assign rfl rfl) ?_
                            refine Jp.done hK23 ?_
                            refine Cd.ret [] rfl (res1 rfl rfl) trivial ⟨by first | rfl | (simp; done), rfl⟩
                    · skip
                      try simp only [decide_eq_false_iff_not, decide_eq_true_eq, Int.not_lt, Int.not_le, Bool.not_eq_false, Bool.not_eq_true, Bool.not_true, Bool.not_false, Bool.not_eq_true', Bool.not_eq_false', beq_eq_false_iff_ne, ne_eq, beq_iff_eq, bne_iff_ne, bne_eq_false_iff_eq, Classical.not_not] at g149
                      first
                      | done
                      | (first
                         | omega
                         | exact absurd rfl g149
                         | (simp at g149; done)
                         | exact absurd (mask32 (k := 8) hv (by omega)).symm g149
                         | exact absurd (mask32 (k := 16) hv (by omega)).symm g149)
                      | skip
                        refine Jp.skip 150 rfl (want_as rfl rfl rfl rfl) rfl rfl Kp.true ?_
                        refine Jp.skip 151 rfl (want_as rfl rfl rfl rfl) rfl rfl Kp.true ?_
                        refine Jp.skip 152 rfl (want_as rfl rfl rfl rfl) rfl rfl Kp.true ?_
                        refine Jp.skip 153 rfl (want_as rfl rfl rfl rfl) rfl rfl Kp.true ?_
                        refine Jp.y 154 rfl (want_all rfl) rfl rfl Kp.true (Y.pickF rfl rfl rfl) ?_
                        refine Jp.y 155 rfl (want_all rfl) rfl rfl Kp.true (Y.move rfl rfl) ?_
                        refine Jp.skip 156 rfl (want_as rfl rfl rfl rfl) rfl rfl Kp.true ?_
                        refine Jp.skip 157 rfl (want_as rfl rfl rfl rfl) rfl rfl Kp.true ?_
                        refine Jp.skip 158 rfl (want_as rfl rfl rfl rfl) rfl rfl Kp.true ?_
                        refine Jp.skip 159 rfl (want_as rfl rfl rfl rfl) rfl rfl Kp.true ?_
                        refine Jp.y 160 rfl (want_all rfl) rfl rfl Kp.true (Y.pickF rfl rfl rfl) ?_
                        refine Jp.y 10 rfl (want_all rfl) rfl rfl Kp.true (Y.assign rfl rfl) ?_
                        refine Jp.done hK23 ?_
                        refine Cd.ret [] rfl (res1 rfl rfl) trivial ⟨by first | rfl | (simp; done), rfl⟩
                · skip
                  try simp only [decide_eq_false_iff_not, decide_eq_true_eq, Int.not_lt, Int.not_le, Bool.not_eq_false, Bool.not_eq_true, Bool.not_true, Bool.not_false, Bool.not_eq_true', Bool.not_eq_false', beq_eq_false_iff_ne, ne_eq, beq_iff_eq, bne_iff_ne, bne_eq_false_iff_eq, Classical.not_not] at g136
                  first
                  | done
                  | (first
                     | omega
                     | exact absurd rfl g136
                     | (simp at g136; done)
                     | exact absurd (mask32 (k := 8) hv (by omega)).symm g136
                     | exact absurd (mask32 (k := 16) hv (by omega)).symm g136)
                  | skip
                    refine Jp.skip 137 rfl (want_as rfl rfl rfl rfl) rfl rfl Kp.true ?_
                    refine Jp.skip 138 rfl (want_as rfl rfl rfl rfl) rfl rfl Kp.true ?_
                    refine Jp.skip 139 rfl (want_as rfl rfl rfl rfl) rfl rfl Kp.true ?_
                    refine Jp.skip 140 rfl (want_as rfl rfl rfl rfl) rfl rfl Kp.true ?_
                    refine Jp.skip 141 rfl (want_as rfl rfl rfl rfl) rfl rfl Kp.true ?_
                    refine Jp.skip 142 rfl (want_as rfl rfl rfl rfl) rfl rfl Kp.true ?_
                    refine Jp.skip 143 rfl (want_as rfl rfl rfl rfl) rfl rfl Kp.true ?_
                    refine Jp.skip 144 rfl (want_as rfl rfl rfl rfl) rfl rfl Kp.true ?_
                    refine Jp.skip 145 rfl (want_as rfl rfl rfl rfl) rfl rfl Kp.true ?_
                    refine Jp.y 146 rfl (want_as rfl rfl rfl rfl) rfl rfl Kp.true (Y.pickF rfl rfl rfl) ?_
                    refine Jp.y 147 rfl (want_as rfl rfl rfl rfl) rfl rfl Kp.true (Y.pickF rfl rfl rfl) ?_
                    refine Jp.y 148 rfl (want_all rfl) rfl rfl Kp.true (Y.pickT rfl rfl rfl) ?_
                    refine Jp.y 149 rfl (want_all rfl) rfl rfl Kp.true (Y.move rfl rfl) ?_
                    refine Jp.skip 150 rfl (want_as rfl rfl rfl rfl) rfl rfl Kp.true ?_
                    refine Jp.skip 151 rfl (want_as rfl rfl rfl rfl) rfl rfl Kp.true ?_
                    refine Jp.skip 152 rfl (want_as rfl rfl rfl rfl) rfl rfl Kp.true ?_
                    refine Jp.skip 153 rfl (want_as rfl rfl rfl rfl) rfl rfl Kp.true ?_
                    refine Jp.y 154 rfl (want_all rfl) rfl rfl Kp.true (Y.pickF rfl rfl rfl) ?_
                    refine Jp.y 155 rfl (want_all rfl) rfl rfl Kp.true (Y.move rfl rfl) ?_
                    refine Jp.skip 156 rfl (want_as rfl rfl rfl rfl) rfl rfl Kp.true ?_
                    refine Jp.skip 157 rfl (want_as rfl rfl rfl rfl) rfl rfl Kp.true ?_
                    refine Jp.skip 158 rfl (want_as rfl rfl rfl rfl) rfl rfl Kp.true ?_
                    refine Jp.skip 159 rfl (want_as rfl rfl rfl rfl) rfl rfl Kp.true ?_
                    refine Jp.y 160 rfl (want_all rfl) rfl rfl Kp.true (Y.pickF rfl rfl rfl) ?_
                    refine Jp.y 10 rfl (want_all rfl) rfl rfl Kp.true (Y.assign rfl rfl) ?_
                    refine Jp.done hK23 ?_
                    refine Cd.ret [] rfl (res1 rfl rfl) trivial ⟨by first | rfl | (simp; done), rfl⟩
        · skip
          try simp only [decide_eq_false_iff_not, decide_eq_true_eq, Int.not_lt, Int.not_le, Bool.not_eq_false, Bool.not_eq_true, Bool.not_true, Bool.not_false, Bool.not_eq_true', Bool.not_eq_false', beq_eq_false_iff_ne, ne_eq, beq_iff_eq, bne_iff_ne, bne_eq_false_iff_eq, Classical.not_not] at g125
          first
          | done
          | (first
             | omega
             | exact absurd rfl g125
             | (simp at g125; done)
             | exact absurd (mask32 (k := 8) hv (by omega)).symm g125
             | exact absurd (mask32 (k := 16) hv (by omega)).symm g125)
          | skip
            refine Jp.skip 126 rfl (want_as rfl rfl rfl rfl) rfl rfl Kp.true ?_
            refine Jp.skip 127 rfl (want_as rfl rfl rfl rfl) rfl rfl Kp.true ?_
            refine Jp.skip 128 rfl (want_as rfl rfl rfl rfl) rfl rfl Kp.true ?_
            refine Jp.skip 129 rfl (want_un rfl rfl rfl) rfl rfl Kp.true ?_
            refine Jp.skip 130 rfl (want_un rfl rfl rfl) rfl rfl Kp.true ?_
            refine Jp.skip 131 rfl (want_un rfl rfl rfl) rfl rfl Kp.true ?_
            refine Jp.skip 132 rfl (want_as rfl rfl rfl rfl) rfl rfl Kp.true ?_
            refine Jp.skip 133 rfl (want_as rfl rfl rfl rfl) rfl rfl Kp.true ?_
            refine Jp.skip 134 rfl (want_un rfl rfl rfl) rfl rfl Kp.true ?_
            refine Jp.skip 135 rfl (want_un rfl rfl rfl) rfl rfl Kp.true ?_
            refine Jp.skip 136 rfl (want_un rfl rfl rfl) rfl rfl Kp.true ?_
            refine Jp.skip 137 rfl (want_un rfl rfl rfl) rfl rfl Kp.true ?_
            refine Jp.skip 138 rfl (want_un rfl rfl rfl) rfl rfl Kp.true ?_
            refine Jp.skip 139 rfl (want_un rfl rfl rfl) rfl rfl Kp.true ?_
            refine Jp.skip 140 rfl (want_un rfl rfl rfl) rfl rfl Kp.true ?_
            refine Jp.skip 141 rfl (want_un rfl rfl rfl) rfl rfl Kp.true ?_
            refine Jp.skip 142 rfl (want_un rfl rfl rfl) rfl rfl Kp.true ?_
            refine Jp.skip 143 rfl (want_un rfl rfl rfl) rfl rfl Kp.true ?_
            refine Jp.skip 144 rfl (want_un rfl rfl rfl) rfl rfl Kp.true ?_
            refine Jp.skip 145 rfl (want_un rfl rfl rfl) rfl rfl Kp.true ?_
            refine Jp.skip 146 rfl (want_un rfl rfl rfl) rfl rfl Kp.true ?_
            refine Jp.skip 147 rfl (want_as rfl rfl rfl rfl) rfl rfl Kp.true ?_
            refine Jp.y 148 rfl (want_all rfl) rfl rfl Kp.true (Y.pickF rfl rfl rfl) ?_
            refine Jp.y 149 rfl (want_all rfl) rfl rfl Kp.true (Y.move rfl rfl) ?_
            refine Jp.skip 150 rfl (want_as rfl rfl rfl rfl) rfl rfl Kp.true ?_
            refine Jp.skip 151 rfl (want_as rfl rfl rfl rfl) rfl rfl Kp.true ?_
            refine Jp.skip 152 rfl (want_as rfl rfl rfl rfl) rfl rfl Kp.true ?_
            refine Jp.skip 153 rfl (want_as rfl rfl rfl rfl) rfl rfl Kp.true ?_
            refine Jp.y 154 rfl (want_all rfl) rfl rfl Kp.true (Y.pickF rfl rfl rfl) ?_
            refine Jp.y 155 rfl (want_all rfl) rfl rfl Kp.true (Y.move rfl rfl) ?_
            refine Jp.skip 156 rfl (want_as rfl rfl rfl rfl) rfl rfl Kp.true ?_
            refine Jp.skip 157 rfl (want_as rfl rfl rfl rfl) rfl rfl Kp.true ?_
            refine Jp.skip 158 rfl (want_as rfl rfl rfl rfl) rfl rfl Kp.true ?_
            refine Jp.skip 159 rfl (want_as rfl rfl rfl rfl) rfl rfl Kp.true ?_
            refine Jp.y 160 rfl (want_all rfl) rfl rfl Kp.true (Y.pickF rfl rfl rfl) ?_
            refine Jp.y 10 rfl (want_all rfl) rfl rfl Kp.true (Y.assign rfl rfl) ?_
            refine Jp.done hK23 ?_
            refine Cd.ret [] rfl (res1 rfl rfl) trivial ⟨by first | rfl | (simp; done), rfl⟩
  · skip
    refine Jp.y 25 rfl (want_all rfl) rfl rfl Kp.true (Y.move rfl rfl) ?_
    refine Jp.y 26 rfl (want_all rfl) rfl rfl Kp.true (Y.neq rfl rfl rfl) ?_
    refine Jp.y 27 rfl (want_all rfl) rfl rfl Kp.true (Y.move rfl rfl) ?_
    refine Jp.split 27 rfl (fun g27 => ?_) (fun g27 => ?_)
    · skip
      try simp only [decide_eq_false_iff_not, decide_eq_true_eq, Int.not_lt, Int.not_le, Bool.not_eq_false, Bool.not_eq_true, Bool.not_true, Bool.not_false, Bool.not_eq_true', Bool.not_eq_false', beq_eq_false_iff_ne, ne_eq, beq_iff_eq, bne_iff_ne, bne_eq_false_iff_eq, Classical.not_not] at g27
      refine Jp.y 28 rfl (want_as rfl rfl rfl rfl) rfl rfl Kp.true (Y.move rfl rfl) ?_
      refine Jp.y 29 rfl (want_as rfl rfl rfl rfl) rfl rfl Kp.true (Y.neq rfl rfl rfl) ?_
      refine Jp.y 30 rfl (want_all rfl) rfl rfl Kp.true (Y.pickT rfl rfl rfl) ?_
      refine Jp.y 31 rfl (want_all rfl) rfl rfl Kp.true (Y.move rfl rfl) ?_
      refine Jp.split 31 rfl (fun g31 => ?_) (fun g31 => ?_)
      · skip
        try simp only [decide_eq_false_iff_not, decide_eq_true_eq, Int.not_lt, Int.not_le, Bool.not_eq_false, Bool.not_eq_true, Bool.not_true, Bool.not_false, Bool.not_eq_true', Bool.not_eq_false', beq_eq_false_iff_ne, ne_eq, beq_iff_eq, bne_iff_ne, bne_eq_false_iff_eq, Classical.not_not] at g31
        refine Jp.y 32 rfl (want_as rfl rfl rfl rfl) rfl rfl Kp.true (Y.move rfl rfl) ?_
        refine Jp.y 33 rfl (want_as rfl rfl rfl rfl) rfl rfl Kp.true (Y.neq rfl rfl rfl) ?_
        refine Jp.y 34 rfl (want_all rfl) rfl rfl Kp.true (Y.pickT rfl rfl rfl) ?_
        refine Jp.y 35 rfl (want_all rfl) rfl rfl Kp.true (Y.move rfl rfl) ?_
        refine Jp.split 35 rfl (fun g35 => ?_) (fun g35 => ?_)
        · skip
          try simp only [decide_eq_false_iff_not, decide_eq_true_eq, Int.not_lt, Int.not_le, Bool.not_eq_false, Bool.not_eq_true, Bool.not_true, Bool.not_false, Bool.not_eq_true', Bool.not_eq_false', beq_eq_false_iff_ne, ne_eq, beq_iff_eq, bne_iff_ne, bne_eq_false_iff_eq, Classical.not_not] at g35
          refine Jp.skip 36 rfl (want_as rfl rfl rfl rfl) rfl rfl Kp.true ?_
          refine Jp.skip 37 rfl (want_as rfl rfl rfl rfl) rfl rfl Kp.true ?_
          refine Jp.y 38 rfl (want_all rfl) rfl rfl Kp.true (Y.pickT rfl rfl rfl) ?_
          refine Jp.y 39 rfl (want_all rfl) rfl rfl Kp.true (Y.move rfl rfl) ?_
          refine Jp.skip 40 rfl (want_as rfl rfl rfl rfl) rfl rfl Kp.true ?_
          refine Jp.skip 41 rfl (want_as rfl rfl rfl rfl) rfl rfl Kp.true ?_
          refine Jp.y 42 rfl (want_all rfl) rfl rfl Kp.true (Y.pickT rfl rfl rfl) ?_
          refine Jp.y 43 rfl (want_all rfl) rfl rfl Kp.true (Y.move rfl rfl) ?_
          refine Jp.skip 44 rfl (want_as rfl rfl rfl rfl) rfl rfl Kp.true ?_
          refine Jp.skip 45 rfl (want_as rfl rfl rfl rfl) rfl rfl Kp.true ?_
          refine Jp.skip 46 rfl (want_as rfl rfl rfl rfl) rfl rfl Kp.true ?_
          refine Jp.skip 47 rfl (want_as rfl rfl rfl rfl) rfl rfl Kp.true ?_
          refine Jp.y 48 rfl (want_all rfl) rfl rfl Kp.true (Y.pickT rfl rfl rfl) ?_
          refine Jp.done hK5 ?_
          refine Cd.condT rfl ?_
          refine Cd.seq fun K24 hK24 => ?_
          refine Cd.plain [(0, false)] rfl rfl ?_
          refine Jp.y 10 rfl (want_all rfl) rfl rfl Kp.true (Y.assign rfl rfl) ?_
          refine Jp.done hK24 ?_
          refine Cd.ret [] rfl (res1 rfl rfl) trivial ⟨by first | rfl | (simp; done), rfl⟩
        · skip
          try simp only [decide_eq_false_iff_not, decide_eq_true_eq, Int.not_lt, Int.not_le, Bool.not_eq_false, Bool.not_eq_true, Bool.not_true, Bool.not_false, Bool.not_eq_true', Bool.not_eq_false', beq_eq_false_iff_ne, ne_eq, beq_iff_eq, bne_iff_ne, bne_eq_false_iff_eq, Classical.not_not] at g35
          refine Jp.y 36 rfl (want_as rfl rfl rfl rfl) rfl rfl Kp.true (Y.move rfl rfl) ?_
          refine Jp.y 37 rfl (want_as rfl rfl rfl rfl) rfl rfl Kp.true (Y.lss rfl rfl rfl) ?_
          refine Jp.y 38 rfl (want_all rfl) rfl rfl Kp.true (Y.pickF rfl rfl rfl) ?_
          refine Jp.y 39 rfl (want_all rfl) rfl rfl Kp.true (Y.move rfl rfl) ?_
          refine Jp.split 39 rfl (fun g39 => ?_) (fun g39 => ?_)
          · skip
            try simp only [decide_eq_false_iff_not, decide_eq_true_eq, Int.not_lt, Int.not_le, Bool.not_eq_false, Bool.not_eq_true, Bool.not_true, Bool.not_false, Bool.not_eq_true', Bool.not_eq_false', beq_eq_false_iff_ne, ne_eq, beq_iff_eq, bne_iff_ne, bne_eq_false_iff_eq, Classical.not_not] at g39
            refine Jp.skip 40 rfl (want_as rfl rfl rfl rfl) rfl rfl Kp.true ?_
            refine Jp.skip 41 rfl (want_as rfl rfl rfl rfl) rfl rfl Kp.true ?_
            refine Jp.y 42 rfl (want_all rfl) rfl rfl Kp.true (Y.pickT rfl rfl rfl) ?_
            refine Jp.y 43 rfl (want_all rfl) rfl rfl Kp.true (Y.move rfl rfl) ?_
            refine Jp.skip 44 rfl (want_as rfl rfl rfl rfl) rfl rfl Kp.true ?_
            refine Jp.skip 45 rfl (want_as rfl rfl rfl rfl) rfl rfl Kp.true ?_
            refine Jp.skip 46 rfl (want_as rfl rfl rfl rfl) rfl rfl Kp.true ?_
            refine Jp.skip 47 rfl (want_as rfl rfl rfl rfl) rfl rfl Kp.true ?_
            refine Jp.y 48 rfl (want_all rfl) rfl rfl Kp.true (Y.pickT rfl rfl rfl) ?_
            refine Jp.done hK5 ?_
            refine Cd.condT rfl ?_
            refine Cd.seq fun K25 hK25 => ?_
            refine Cd.plain [(0, false)] rfl rfl ?_
            refine Jp.y 10 rfl (want_all rfl) rfl rfl Kp.true (Y.assign rfl rfl) ?_
            refine Jp.done hK25 ?_
            refine Cd.ret [] rfl (res1 rfl rfl) trivial ⟨by first | rfl | (simp; done), rfl⟩
          · skip
            try simp only [decide_eq_false_iff_not, decide_eq_true_eq, Int.not_lt, Int.not_le, Bool.not_eq_false, Bool.not_eq_true, Bool.not_true, Bool.not_false, Bool.not_eq_true', Bool.not_eq_false', beq_eq_false_iff_ne, ne_eq, beq_iff_eq, bne_iff_ne, bne_eq_false_iff_eq, Classical.not_not] at g39
            refine Jp.y 40 rfl (want_as rfl rfl rfl rfl) rfl rfl Kp.true (Y.move rfl rfl) ?_
            refine Jp.y 41 rfl (want_as rfl rfl rfl rfl) rfl rfl Kp.true (Y.gtr rfl rfl rfl) ?_
            refine Jp.y 42 rfl (want_all rfl) rfl rfl Kp.true (Y.pickF rfl rfl rfl) ?_
            refine Jp.y 43 rfl (want_all rfl) rfl rfl Kp.true (Y.move rfl rfl) ?_
            refine Jp.split 43 rfl (fun g43 => ?_) (fun g43 => ?_)
            · skip
              try simp only [decide_eq_false_iff_not, decide_eq_true_eq, Int.not_lt, Int.not_le, Bool.not_eq_false, Bool.not_eq_true, Bool.not_true, Bool.not_false, Bool.not_eq_true', Bool.not_eq_false', beq_eq_false_iff_ne, ne_eq, beq_iff_eq, bne_iff_ne, bne_eq_false_iff_eq, Classical.not_not] at g43
              refine Jp.skip 44 rfl (want_as rfl rfl rfl rfl) rfl rfl Kp.true ?_
              refine Jp.skip 45 rfl (want_as rfl rfl rfl rfl) rfl rfl Kp.true ?_
              refine Jp.skip 46 rfl (want_as rfl rfl rfl rfl) rfl rfl Kp.true ?_
              refine Jp.skip 47 rfl (want_as rfl rfl rfl rfl) rfl rfl Kp.true ?_
              refine Jp.y 48 rfl (want_all rfl) rfl rfl Kp.true (Y.pickT rfl rfl rfl) ?_
              refine Jp.done hK5 ?_
              refine Cd.condT rfl ?_
              refine Cd.seq fun K26 hK26 => ?_
              refine Cd.plain [(0, false)] rfl rfl ?_
              refine Jp.y 10 rfl (want_all rfl) rfl rfl Kp.true (Y.assign rfl rfl) ?_
              refine Jp.done hK26 ?_
              refine Cd.ret [] rfl (res1 rfl rfl) trivial ⟨by first | rfl | (simp; done), rfl⟩
            · skip
              try simp only [decide_eq_false_iff_not, decide_eq_true_eq, Int.not_lt, Int.not_le, Bool.not_eq_false, Bool.not_eq_true, Bool.not_true, Bool.not_false, Bool.not_eq_true', Bool.not_eq_false', beq_eq_false_iff_ne, ne_eq, beq_iff_eq, bne_iff_ne, bne_eq_false_iff_eq, Classical.not_not] at g43
              refine Jp.y 44 rfl (want_as rfl rfl rfl rfl) rfl rfl Kp.true (Y.move rfl rfl) ?_
              refine Jp.y 45 rfl (want_as rfl rfl rfl rfl) rfl rfl Kp.true (Y.move rfl rfl) ?_
              refine Jp.y 46 rfl (want_as rfl rfl rfl rfl) rfl rfl Kp.true (by first | exact Y.remN rfl rfl rfl (by omega) (by omega) | exact Y.rem rfl rfl rfl (by first | decide | omega)) ?_
              refine Jp.y 47 rfl (want_as rfl rfl rfl rfl) rfl rfl Kp.true (Y.neq rfl rfl rfl) ?_
              refine Jp.y 48 rfl (want_all rfl) rfl rfl Kp.true (Y.pickF rfl rfl rfl) ?_
              refine Jp.done hK5 ?_
              refine Cd.cond rfl (fun g48 => ?_) (fun g48 => ?_)
              · skip
                try simp only [decide_eq_false_iff_not, decide_eq_true_eq, Int.not_lt, Int.not_le, Bool.not_eq_false, Bool.not_eq_true, Bool.not_true, Bool.not_false, Bool.not_eq_true', Bool.not_eq_false', beq_eq_false_iff_ne, ne_eq, beq_iff_eq, bne_iff_ne, bne_eq_false_iff_eq, Classical.not_not] at g48
                refine Cd.seq fun K27 hK27 => ?_
                refine Cd.plain [(0, false)] rfl rfl ?_
                refine Jp.y 10 rfl (want_all rfl) rfl rfl Kp.true (Y.assign rfl rfl) ?_
                refine Jp.done hK27 ?_
                refine Cd.ret [] rfl (res1 rfl rfl) trivial ⟨by first | rfl | (simp; done), rfl⟩
              · skip
                try simp only [decide_eq_false_iff_not, decide_eq_true_eq, Int.not_lt, Int.not_le, Bool.not_eq_false, Bool.not_eq_true, Bool.not_true, Bool.not_false, Bool.not_eq_true', Bool.not_eq_false', beq_eq_false_iff_ne, ne_eq, beq_iff_eq, bne_iff_ne, bne_eq_false_iff_eq, Classical.not_not] at g48
                refine Cd.skip hK4 ?_
                exact Cd.meet (hj1 (by omega)) ⟨rfl, rfl, rfl, rfl, rfl, trivial⟩ trivial
      · skip
        try simp only [decide_eq_false_iff_not, decide_eq_true_eq, Int.not_lt, Int.not_le, Bool.not_eq_false, Bool.not_eq_true, Bool.not_true, Bool.not_false, Bool.not_eq_true', Bool.not_eq_false', beq_eq_false_iff_ne, ne_eq, beq_iff_eq, bne_iff_ne, bne_eq_false_iff_eq, Classical.not_not] at g31
        refine Jp.skip 32 rfl (want_as rfl rfl rfl rfl) rfl rfl Kp.true ?_
        refine Jp.skip 33 rfl (want_as rfl rfl rfl rfl) rfl rfl Kp.true ?_
        refine Jp.y 34 rfl (want_all rfl) rfl rfl Kp.true (Y.pickF rfl rfl rfl) ?_
        refine Jp.y 35 rfl (want_all rfl) rfl rfl Kp.true (Y.move rfl rfl) ?_
        refine Jp.y 36 rfl (want_as rfl rfl rfl rfl) rfl rfl Kp.true (Y.move rfl rfl) ?_
        refine Jp.y 37 rfl (want_as rfl rfl rfl rfl) rfl rfl Kp.true (Y.lss rfl rfl rfl) ?_
        refine Jp.y 38 rfl (want_all rfl) rfl rfl Kp.true (Y.pickF rfl rfl rfl) ?_
        refine Jp.y 39 rfl (want_all rfl) rfl rfl Kp.true (Y.move rfl rfl) ?_
        refine Jp.split 39 rfl (fun g39 => ?_) (fun g39 => ?_)
        · skip
          try simp only [decide_eq_false_iff_not, decide_eq_true_eq, Int.not_lt, Int.not_le, Bool.not_eq_false, Bool.not_eq_true, Bool.not_true, Bool.not_false, Bool.not_eq_true', Bool.not_eq_false', beq_eq_false_iff_ne, ne_eq, beq_iff_eq, bne_iff_ne, bne_eq_false_iff_eq, Classical.not_not] at g39
          refine Jp.skip 40 rfl (want_as rfl rfl rfl rfl) rfl rfl Kp.true ?_
          refine Jp.skip 41 rfl (want_as rfl rfl rfl rfl) rfl rfl Kp.true ?_
          refine Jp.y 42 rfl (want_all rfl) rfl rfl Kp.true (Y.pickT rfl rfl rfl) ?_
          refine Jp.y 43 rfl (want_all rfl) rfl rfl Kp.true (Y.move rfl rfl) ?_
          refine Jp.skip 44 rfl (want_as rfl rfl rfl rfl) rfl rfl Kp.true ?_
          refine Jp.skip 45 rfl (want_as rfl rfl rfl rfl) rfl rfl Kp.true ?_
          refine Jp.skip 46 rfl (want_as rfl rfl rfl rfl) rfl rfl Kp.true ?_
          refine Jp.skip 47 rfl (want_as rfl rfl rfl rfl) rfl rfl Kp.true ?_
          refine Jp.y 48 rfl (want_all rfl) rfl rfl Kp.true (Y.pickT rfl rfl rfl) ?_
          refine Jp.done hK5 ?_
          refine Cd.condT rfl ?_
          refine Cd.seq fun K28 hK28 => ?_
          refine Cd.plain [(0, false)] rfl rfl ?_
          refine Jp.y 10 rfl (want_all rfl) rfl rfl Kp.true (Y.assign rfl rfl) ?_
          refine Jp.done hK28 ?_
          refine Cd.ret [] rfl (res1 rfl rfl) trivial ⟨by first | rfl | (simp; done), rfl⟩
        · skip
          try simp only [decide_eq_false_iff_not, decide_eq_true_eq, Int.not_lt, Int.not_le, Bool.not_eq_false, Bool.not_eq_true, Bool.not_true, Bool.not_false, Bool.not_eq_true', Bool.not_eq_false', beq_eq_false_iff_ne, ne_eq, beq_iff_eq, bne_iff_ne, bne_eq_false_iff_eq, Classical.not_not] at g39
          refine Jp.y 40 rfl (want_as rfl rfl rfl rfl) rfl rfl Kp.true (Y.move rfl rfl) ?_
          refine Jp.y 41 rfl (want_as rfl rfl rfl rfl) rfl rfl Kp.true (Y.gtr rfl rfl rfl) ?_
          refine Jp.y 42 rfl (want_all rfl) rfl rfl Kp.true (Y.pickF rfl rfl rfl) ?_
          refine Jp.y 43 rfl (want_all rfl) rfl rfl Kp.true (Y.move rfl rfl) ?_
          refine Jp.split 43 rfl (fun g43 => ?_) (fun g43 => ?_)
          · skip
            try simp only [decide_eq_false_iff_not, decide_eq_true_eq, Int.not_lt, Int.not_le, Bool.not_eq_false, Bool.not_eq_true, Bool.not_true, Bool.not_false, Bool.not_eq_true', Bool.not_eq_false', beq_eq_false_iff_ne, ne_eq, beq_iff_eq, bne_iff_ne, bne_eq_false_iff_eq, Classical.not_not] at g43
            refine Jp.skip 44 rfl (want_as rfl rfl rfl rfl) rfl rfl Kp.true ?_
            refine Jp.skip 45 rfl (want_as rfl rfl rfl rfl) rfl rfl Kp.true ?_
            refine Jp.skip 46 rfl (want_as rfl rfl rfl rfl) rfl rfl Kp.true ?_
            refine Jp.skip 47 rfl (want_as rfl rfl rfl rfl) rfl rfl Kp.true ?_
            refine Jp.y 48 rfl (want_all rfl) rfl rfl Kp.true (Y.pickT rfl rfl rfl) ?_
            refine Jp.done hK5 ?_
            refine Cd.condT rfl ?_
            refine Cd.seq fun K29 hK29 => ?_
            refine Cd.plain [(0, false)] rfl rfl ?_
            refine Jp.y 10 rfl (want_all rfl) rfl rfl Kp.true (Y.assign rfl rfl) ?_
            refine Jp.done hK29 ?_
            refine Cd.ret [] rfl (res1 rfl rfl) trivial ⟨by first | rfl | (simp; done), rfl⟩
          · skip
            try simp only [decide_eq_false_iff_not, decide_eq_true_eq, Int.not_lt, Int.not_le, Bool.not_eq_false, Bool.not_eq_true, Bool.not_true, Bool.not_false, Bool.not_eq_true', Bool.not_eq_false', beq_eq_false_iff_ne, ne_eq, beq_iff_eq, bne_iff_ne, bne_eq_false_iff_eq, Classical.not_not] at g43
            refine Jp.y 44 rfl (want_as rfl rfl rfl rfl) rfl rfl Kp.true (Y.move rfl rfl) ?_
            refine Jp.y 45 rfl (want_as rfl rfl rfl rfl) rfl rfl Kp.true (Y.move rfl rfl) ?_
            refine Jp.y 46 rfl (want_as rfl rfl rfl rfl) rfl rfl Kp.true (by first | exact Y.remN rfl rfl rfl (by omega) (by omega) | exact Y.rem rfl rfl rfl (by first | decide | omega)) ?_
            refine Jp.y 47 rfl (want_as rfl rfl rfl rfl) rfl rfl Kp.true (Y.neq rfl rfl rfl) ?_
            refine Jp.y 48 rfl (want_all rfl) rfl rfl Kp.true (Y.pickF rfl rfl rfl) ?_
            refine Jp.done hK5 ?_
            refine Cd.cond rfl (fun g48 => ?_) (fun g48 => ?_)
            · skip
              try simp only [decide_eq_false_iff_not, decide_eq_true_eq, Int.not_lt, Int.not_le, Bool.not_eq_false, Bool.not_eq_true, Bool.not_true, Bool.not_false, Bool.not_eq_true', Bool.not_eq_false', beq_eq_false_iff_ne, ne_eq, beq_iff_eq, bne_iff_ne, bne_eq_false_iff_eq, Classical.not_not] at g48
              refine Cd.seq fun K30 hK30 => ?_
              refine Cd.plain [(0, false)] rfl rfl ?_
              refine Jp.y 10 rfl (want_all rfl) rfl rfl Kp.true (Y.assign rfl rfl) ?_
              refine Jp.done hK30 ?_
              refine Cd.ret [] rfl (res1 rfl rfl) trivial ⟨by first | rfl | (simp; done), rfl⟩
            · skip
              try simp only [decide_eq_false_iff_not, decide_eq_true_eq, Int.not_lt, Int.not_le, Bool.not_eq_false, Bool.not_eq_true, Bool.not_true, Bool.not_false, Bool.not_eq_true', Bool.not_eq_false', beq_eq_false_iff_ne, ne_eq, beq_iff_eq, bne_iff_ne, bne_eq_false_iff_eq, Classical.not_not] at g48
              refine Cd.skip hK4 ?_
              exact Cd.meet (hj1 (by omega)) ⟨rfl, rfl, rfl, rfl, rfl, trivial⟩ trivial
    · skip
      try simp only [decide_eq_false_iff_not, decide_eq_true_eq, Int.not_lt, Int.not_le, Bool.not_eq_false, Bool.not_eq_true, Bool.not_true, Bool.not_false, Bool.not_eq_true', Bool.not_eq_false', beq_eq_false_iff_ne, ne_eq, beq_iff_eq, bne_iff_ne, bne_eq_false_iff_eq, Classical.not_not] at g27
      refine Jp.skip 28 rfl (want_as rfl rfl rfl rfl) rfl rfl Kp.true ?_
      refine Jp.skip 29 rfl (want_as rfl rfl rfl rfl) rfl rfl Kp.true ?_
      refine Jp.y 30 rfl (want_all rfl) rfl rfl Kp.true (Y.pickF rfl rfl rfl) ?_
      refine Jp.y 31 rfl (want_all rfl) rfl rfl Kp.true (Y.move rfl rfl) ?_
      refine Jp.skip 32 rfl (want_as rfl rfl rfl rfl) rfl rfl Kp.true ?_
      refine Jp.skip 33 rfl (want_as rfl rfl rfl rfl) rfl rfl Kp.true ?_
      refine Jp.y 34 rfl (want_all rfl) rfl rfl Kp.true (Y.pickF rfl rfl rfl) ?_
      refine Jp.y 35 rfl (want_all rfl) rfl rfl Kp.true (Y.move rfl rfl) ?_
      refine Jp.y 36 rfl (want_as rfl rfl rfl rfl) rfl rfl Kp.true (Y.move rfl rfl) ?_
      refine Jp.y 37 rfl (want_as rfl rfl rfl rfl) rfl rfl Kp.true (Y.lss rfl rfl rfl) ?_
      refine Jp.y 38 rfl (want_all rfl) rfl rfl Kp.true (Y.pickF rfl rfl rfl) ?_
      refine Jp.y 39 rfl (want_all rfl) rfl rfl Kp.true (Y.move rfl rfl) ?_
      refine Jp.split 39 rfl (fun g39 => ?_) (fun g39 => ?_)
      · skip
        try simp only [decide_eq_false_iff_not, decide_eq_true_eq, Int.not_lt, Int.not_le, Bool.not_eq_false, Bool.not_eq_true, Bool.not_true, Bool.not_false, Bool.not_eq_true', Bool.not_eq_false', beq_eq_false_iff_ne, ne_eq, beq_iff_eq, bne_iff_ne, bne_eq_false_iff_eq, Classical.not_not] at g39
        refine Jp.skip 40 rfl (want_as rfl rfl rfl rfl) rfl rfl Kp.true ?_
        refine Jp.skip 41 rfl (want_as rfl rfl rfl rfl) rfl rfl Kp.true ?_
        refine Jp.y 42 rfl (want_all rfl) rfl rfl Kp.true (Y.pickT rfl rfl rfl) ?_
        refine Jp.y 43 rfl (want_all rfl) rfl rfl Kp.true (Y.move rfl rfl) ?_
        refine Jp.skip 44 rfl (want_as rfl rfl rfl rfl) rfl rfl Kp.true ?_
        refine Jp.skip 45 rfl (want_as rfl rfl rfl rfl) rfl rfl Kp.true ?_
        refine Jp.skip 46 rfl (want_as rfl rfl rfl rfl) rfl rfl Kp.true ?_
        refine Jp.skip 47 rfl (want_as rfl rfl rfl rfl) rfl rfl Kp.true ?_
        refine Jp.y 48 rfl (want_all rfl) rfl rfl Kp.true (Y.pickT rfl rfl rfl) ?_
        refine Jp.done hK5 ?_
        refine Cd.condT rfl ?_
        refine Cd.seq fun K31 hK31 => ?_
        refine Cd.plain [(0, false)] rfl rfl ?_
        refine Jp.y 10 rfl (want_all rfl) rfl rfl Kp.true (Y.assign rfl rfl) ?_
        refine Jp.done hK31 ?_
        refine Cd.ret [] rfl (res1 rfl rfl) trivial ⟨by first | rfl | (simp; done), rfl⟩
      · skip
        try simp only [decide_eq_false_iff_not, decide_eq_true_eq, Int.not_lt, Int.not_le, Bool.not_eq_false, Bool.not_eq_true, Bool.not_true, Bool.not_false, Bool.not_eq_true', Bool.not_eq_false', beq_eq_false_iff_ne, ne_eq, beq_iff_eq, bne_iff_ne, bne_eq_false_iff_eq, Classical.not_not] at g39
        refine Jp.y 40 rfl (want_as rfl rfl rfl rfl) rfl rfl Kp.true (Y.move rfl rfl) ?_
        refine Jp.y 41 rfl (want_as rfl rfl rfl rfl) rfl rfl Kp.true (Y.gtr rfl rfl rfl) ?_
        refine Jp.y 42 rfl (want_all rfl) rfl rfl Kp.true (Y.pickF rfl rfl rfl) ?_
        refine Jp.y 43 rfl (want_all rfl) rfl rfl Kp.true (Y.move rfl rfl) ?_
        refine Jp.split 43 rfl (fun g43 => ?_) (fun g43 => ?_)
        · skip
          try simp only [decide_eq_false_iff_not, decide_eq_true_eq, Int.not_lt, Int.not_le, Bool.not_eq_false, Bool.not_eq_true, Bool.not_true, Bool.not_false, Bool.not_eq_true', Bool.not_eq_false', beq_eq_false_iff_ne, ne_eq, beq_iff_eq, bne_iff_ne, bne_eq_false_iff_eq, Classical.not_not] at g43
          refine Jp.skip 44 rfl (want_as rfl rfl rfl rfl) rfl rfl Kp.true ?_
          refine Jp.skip 45 rfl (want_as rfl rfl rfl rfl) rfl rfl Kp.true ?_
          refine Jp.skip 46 rfl (want_as rfl rfl rfl rfl) rfl rfl Kp.true ?_
          refine Jp.skip 47 rfl (want_as rfl rfl rfl rfl) rfl rfl Kp.true ?_
          refine Jp.y 48 rfl (want_all rfl) rfl rfl Kp.true (Y.pickT rfl rfl rfl) ?_
          refine Jp.done hK5 ?_
          refine Cd.condT rfl ?_
          refine Cd.seq fun K32 hK32 => ?_
          refine Cd.plain [(0, false)] rfl rfl ?_
          refine Jp.y 10 rfl (want_all rfl) rfl rfl Kp.true (Y.assign rfl rfl) ?_
          refine Jp.done hK32 ?_
          refine Cd.ret [] rfl (res1 rfl rfl) trivial ⟨by first | rfl | (simp; done), rfl⟩
        · skip
          try simp only [decide_eq_false_iff_not, decide_eq_true_eq, Int.not_lt, Int.not_le, Bool.not_eq_false, Bool.not_eq_true, Bool.not_true, Bool.not_false, Bool.not_eq_true', Bool.not_eq_false', beq_eq_false_iff_ne, ne_eq, beq_iff_eq, bne_iff_ne, bne_eq_false_iff_eq, Classical.not_not] at g43
          refine Jp.y 44 rfl (want_as rfl rfl rfl rfl) rfl rfl Kp.true (Y.move rfl rfl) ?_
          refine Jp.y 45 rfl (want_as rfl rfl rfl rfl) rfl rfl Kp.true (Y.move rfl rfl) ?_
          refine Jp.y 46 rfl (want_as rfl rfl rfl rfl) rfl rfl Kp.true (by first | exact Y.remN rfl rfl rfl (by omega) (by omega) | exact Y.rem rfl rfl rfl (by first | decide | omega)) ?_
          refine Jp.y 47 rfl (want_as rfl rfl rfl rfl) rfl rfl Kp.true (Y.neq rfl rfl rfl) ?_
          refine Jp.y 48 rfl (want_all rfl) rfl rfl Kp.true (Y.pickF rfl rfl rfl) ?_
          refine Jp.done hK5 ?_
          refine Cd.cond rfl (fun g48 => ?_) (fun g48 => ?_)
          · skip
            try simp only [decide_eq_false_iff_not, decide_eq_true_eq, Int.not_lt, Int.not_le, Bool.not_eq_false, Bool.not_eq_true, Bool.not_true, Bool.not_false, Bool.not_eq_true', Bool.not_eq_false', beq_eq_false_iff_ne, ne_eq, beq_iff_eq, bne_iff_ne, bne_eq_false_iff_eq, Classical.not_not] at g48
            refine Cd.seq fun K33 hK33 => ?_
            refine Cd.plain [(0, false)] rfl rfl ?_
            refine Jp.y 10 rfl (want_all rfl) rfl rfl Kp.true (Y.assign rfl rfl) ?_
            refine Jp.done hK33 ?_
            refine Cd.ret [] rfl (res1 rfl rfl) trivial ⟨by first | rfl | (simp; done), rfl⟩
          · skip
            try simp only [decide_eq_false_iff_not, decide_eq_true_eq, Int.not_lt, Int.not_le, Bool.not_eq_false, Bool.not_eq_true, Bool.not_true, Bool.not_false, Bool.not_eq_true', Bool.not_eq_false', beq_eq_false_iff_ne, ne_eq, beq_iff_eq, bne_iff_ne, bne_eq_false_iff_eq, Classical.not_not] at g48
            refine Cd.skip hK4 ?_
            exact Cd.meet (hj1 (by omega)) ⟨rfl, rfl, rfl, rfl, rfl, trivial⟩ trivial
end Go.Proofs.Ytgfbdiibndbbjaa
