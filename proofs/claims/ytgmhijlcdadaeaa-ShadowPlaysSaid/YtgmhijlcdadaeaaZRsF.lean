import Derived.Test.YtgmhijlcdadaeaaZRsE
import Derived.Test.YtgmhijlcdadaeaaZShN
set_option linter.unusedVariables false
set_option linter.unusedSimpArgs false
set_option maxRecDepth 100000
namespace Go.Proofs.Ytgmhijlcdadaeaa
open Go
theorem fill_step {m i : Nat} {v : UInt8} (h : i < m) : (bytesV (List.replicate i v ++ List.replicate (m - i) 0)).set i (.int .u8 (v.toNat : Int)) = bytesV (List.replicate (i + 1) v ++ List.replicate (m - (i + 1)) 0) := by
  have e : (List.replicate i v ++ List.replicate (m - i) 0).set i v = List.replicate (i + 1) v ++ List.replicate (m - (i + 1)) 0 := by
    rw [List.set_append_right _ _ (by rw [List.length_replicate]; exact Nat.le_refl _), List.length_replicate, Nat.sub_self, show m - i = (m - (i + 1)) + 1 by omega, List.replicate_succ, List.set_cons_zero, List.replicate_succ', List.append_assoc]
    rfl
  rw [← e, bytesV, bytesV, List.map_set]
theorem rsFill_spec (b : Nat) (B : Int) (l : List (Nat × Pg)) (hok : ShOk l) (a : Nat) (n : Int) (v : UInt8) (ha : a < 4294967296) (hn : -9223372036854775808 ≤ n) : Spec Try.prog 36 #[.pointer (some ⟨b, 0, none⟩), .int .u32 a, .int .i64 n, .int .u8 (v.toNat : Int)] (fun _ => True) [(0, RsO b B l)]
    (fun ρ ρ' r L => r = .int .i64 (fillR B l a n v).1 ∧ L = [(0, RsO b B (fillR B l a n v).2)]) := by
  refine Spec.of 30 Try.func36 rfl Try.ntmps36 [(0, _), (1, _), (2, _), (3, _)] rfl rfl ?_
  intro cx ρ hr h0
  have hsh := hok
  refine Cd.seq fun K1 hK1 => ?_
  refine Cd.plain [(0, false)] rfl rfl ?_
  refine Jp.y 8 rfl (want_all rfl) rfl rfl Kp.true (Y.assign rfl rfl) ?_
  refine Jp.done hK1 ?_
  refine Cd.seq fun K2 hK2 => ?_
  refine Cd.seq fun K3 hK3 => ?_
  refine Cd.plain [(0, false), (1, false)] rfl rfl ?_
  refine Jp.y 11 rfl (want_all rfl) rfl rfl Kp.true (Y.move rfl rfl) ?_
  refine Jp.y 12 rfl (want_all rfl) rfl rfl Kp.true (Y.gtr rfl rfl rfl) ?_
  refine Jp.done hK3 ?_
  refine Cd.cond rfl (fun gn => ?_) (fun gn => ?_)
  · have e : fillR B l a n v = (1, l) := if_pos (by simpa using gn)
    refine Cd.seq fun K4 hK4 => ?_
    refine Cd.plain [(0, false)] rfl rfl ?_
    refine Jp.y 8 rfl (want_all rfl) rfl rfl Kp.true (Y.assign rfl rfl) ?_
    refine Jp.done hK4 ?_
    refine Cd.ret [(0, _)] rfl (res1 rfl rfl) ⟨rfl, trivial⟩ ⟨by rw [e], by rw [e]⟩
  · have hn2 : n ≤ 1048576 := by simpa using gn
    have e : fillR B l a n v = setR B l a (List.replicate n.toNat v) := if_neg (by omega)
    refine Cd.skip hK2 ?_
    refine Cd.seq fun K5 hK5 => ?_
    refine Cd.seq fun K6 hK6 => ?_
    refine Cd.plain [(0, false), (1, false)] rfl rfl ?_
    refine Jp.y 13 rfl (want_all rfl) rfl rfl Kp.true (Y.move rfl rfl) ?_
    refine Jp.y 14 rfl (want_all rfl) rfl rfl Kp.true (Y.lss rfl rfl rfl) ?_
    refine Jp.done hK6 ?_
    obtain ⟨m, hm⟩ : ∃ m, n.toNat = m := ⟨_, rfl⟩
    rw [hm] at e
    refine Cd.joinG (G := Unit) (fun _ => True) (fun _ => [(2, .int .i64 (m : Int))]) [(0, _), (1, _), (3, _)] ⟨rfl, rfl, rfl, trivial⟩ (fun _ => []) [(0, _)] ⟨rfl, trivial⟩ hK5 (fun g hφ => ?_) (fun hj1 => ?_)
    · clear hφ
      have hv256 := v.toNat_lt
      refine Cd.seq fun K7 hK7 => ?_
      refine Cd.plain [(0, false), (1, false), (2, false)] rfl rfl ?_
      refine Jp.y 15 rfl (want_all rfl) rfl rfl Kp.true (Y.move rfl rfl) ?_
      refine Jp.makeSlice (k := m) 16 5 rfl (want_all rfl) rfl rfl rfl Try.underlying38 Try.sizeOf5 Try.typeInfo5 Try.zeroValue5 rfl rfl rfl (by first | rfl | omega) (by first | rfl | omega) (by simp only [Try.t5]; omega) (by omega) fun b5 => ⟨Kp.true, ?_⟩
      refine Jp.imp (j := 5) rfl (fun h hh => (show OwnS 5 1 (some ⟨b5, 0, none⟩) m m (bytesV (List.replicate 0 v ++ List.replicate (m - 0) 0)) h by rw [bytesV, List.replicate_zero, List.nil_append, List.map_replicate]; exact hh)) ?_
      refine Jp.y 9 rfl (want_all rfl) rfl rfl Kp.true (Y.assign rfl rfl) ?_
      refine Jp.done hK7 ?_
      refine Cd.seq fun K8 hK8 => ?_
      refine Cd.seq fun K9 hK9 => ?_
      refine Cd.plain [(0, false)] rfl rfl ?_
      refine Jp.y 10 rfl (want_all rfl) rfl rfl Kp.true (Y.assign rfl rfl) ?_
      refine Jp.done hK9 ?_
      refine Cd.block ?_
      refine Cd.loopK (G := Nat) (fun i => i ≤ m) (fun i => m - i) (fun _ => _) (fun i => [(10, .int .i64 (i : Int))]) [(0, _), (1, _), (2, _), (3, _), (9, _)] (fun i => [(5, OwnS 5 1 (some ⟨b5, 0, none⟩) m m (bytesV (List.replicate i v ++ List.replicate (m - i) 0)))]) [(0, _)] 0 (Nat.zero_le _) rfl ⟨rfl, trivial⟩ ⟨rfl, rfl, rfl, rfl, rfl, trivial⟩ ⟨rfl, trivial⟩ ⟨rfl, trivial⟩ (fun g KLa hok hLa => ?_)
      obtain ⟨i, hi⟩ : ∃ i, i = g := ⟨_, rfl⟩
      rw [← hi] at hok ⊢
      refine Cd.seq fun K10 hK10 => ?_
      refine Cd.seq fun K11 hK11 => ?_
      refine Cd.plain [(0, false), (1, false), (2, false)] rfl rfl ?_
      refine Jp.y 17 rfl (want_all rfl) rfl rfl Kp.true (Y.move rfl rfl) ?_
      refine Jp.y 18 rfl (want_all rfl) rfl rfl Kp.true (Y.move rfl rfl) ?_
      refine Jp.y 19 rfl (want_all rfl) rfl rfl Kp.true (Y.lss rfl rfl rfl) ?_
      refine Jp.done hK11 ?_
      refine Cd.cond rfl (fun ga => ?_) (fun ga => ?_)
      · have him : i < m := by simpa using ga
        refine Cd.skip hK10 ?_
        refine Cd.seq fun K12 hK12 => ?_
        refine Cd.block ?_
        refine Cd.plain [(0, false), (1, false), (2, false), (3, false), (4, false)] rfl rfl ?_
        refine Jp.y 22 rfl (want_all rfl) rfl rfl Kp.true (Y.move rfl rfl) ?_
        refine Jp.y 23 rfl (want_all rfl) rfl rfl Kp.true (Y.move rfl rfl) ?_
        refine Jp.y 24 rfl (want_all rfl) rfl rfl Kp.true (Y.move rfl rfl) ?_
        refine Jp.y 25 rfl (want_all rfl) rfl rfl Kp.true (Y.indexAddr (q := i) rfl rfl rfl Try.underlying38 Try.sizeOf5 (by omega) (by omega) (by omega)) ?_
        refine Jp.storeS 5 (q := i) rfl (want_all rfl) rfl rfl Try.sizeOf5 rfl rfl rfl rfl rfl (by omega) ((bytesV (List.replicate (i + 1) v ++ List.replicate (m - (i + 1)) 0))) (fill_step him) Kp.true ?_
        refine Jp.over rfl hK12 ?_
        refine Cd.plain [(0, false), (1, false), (2, false)] rfl rfl ?_
        refine Jp.y 20 rfl (want_all rfl) rfl rfl Kp.true (Y.move rfl rfl) ?_
        refine Jp.y 21 rfl (want_all rfl) rfl rfl Kp.true (Y.add_ rfl rfl rfl (by first | exact wrap_i64 (by omega) (by omega) | rfl)) ?_
        refine Jp.y 10 rfl (want_all rfl) rfl rfl Kp.true (Y.assign rfl rfl) ?_
        rw [show (i : Int) + 1 = ((i + 1 : Nat) : Int) by omega]
        refine Jp.again hLa (i + 1) (by omega) (by omega) rfl ⟨rfl, rfl, rfl, rfl, rfl, rfl, trivial⟩ ⟨rfl, rfl, trivial⟩
      · have him : i = m := by have : ¬ i < m := by simpa using ga
                               omega
        rw [him]
        refine Cd.imp (i := 5) (A' := OwnS 5 1 (some ⟨b5, 0, none⟩) m m (bytesV (List.replicate m v))) rfl (fun h hh => by rw [Nat.sub_self, List.replicate_zero, List.append_nil] at hh; exact hh) ?_
        refine Cd.freeze (i := 5) rfl (OwnS.up _ _ _ _ _ _) fun ρ7 hle7 hA7 => ?_
        have hrl : (List.replicate m v).length = m := List.length_replicate
        have hS := rsSet_spec b B l hsh a ⟨some ⟨b5, 0, none⟩, m, List.replicate m v⟩ ha (by show (List.replicate m v).length ≤ _; omega)
        unfold Sl.v at hS
        dsimp only at hS
        rw [hrl] at hS
        have hrd : RdB ⟨some ⟨b5, 0, none⟩, m, List.replicate m v⟩ ρ7 := by
          have := hA7.rd
          unfold RdB
          dsimp only
          rw [hrl]
          exact this
        refine Cd.exit rfl hK8 ?_
        refine Cd.seq fun K13 hK13 => ?_
        refine Cd.plain [(0, false), (1, false), (2, false), (3, false), (4, false)] rfl rfl ?_
        refine Jp.y 26 rfl (want_all rfl) rfl rfl Kp.true (Y.move rfl rfl) ?_
        refine Jp.y 27 rfl (want_all rfl) rfl rfl Kp.true (Y.move rfl rfl) ?_
        refine Jp.y 28 rfl (want_all rfl) rfl rfl Kp.true (Y.move rfl rfl) ?_
        refine Jp.call [0] [0] hS 29 rfl (want_all rfl) rfl rfl (Runs.fn rfl Try.call35 rfl) (by decide) (by decide) rfl hrd ?_
        rintro v2 ρ2 L2 ⟨rfl, rfl⟩
        refine ⟨rfl, fun hle2 => ⟨Kp.true, ?_⟩⟩
        refine Jp.y 8 rfl (want_all rfl) rfl rfl Kp.true (Y.assign rfl rfl) ?_
        refine Jp.done hK13 ?_
        refine Cd.ret [(0, _)] rfl (res1 rfl rfl) ⟨rfl, trivial⟩ ⟨by rw [e], by rw [e]⟩
    · skip
      refine Cd.cond rfl (fun gz => ?_) (fun gz => ?_)
      · have : m = 0 := by have : n < 0 := by simpa using gz
                           omega
        refine Cd.plain [(0, false)] rfl rfl ?_
        refine Jp.y 2 rfl (want_all rfl) rfl rfl Kp.true (Y.assign rfl rfl) ?_
        refine Jp.done hK5 ?_
        refine Cd.slot 2 rfl (show _ = Value.int .i64 (m : Int) from congrArg (Value.int .i64) (by omega)) ?_
        exact Cd.meet (hj1 () trivial) ⟨rfl, rfl, rfl, rfl, trivial⟩ ⟨rfl, trivial⟩
      · have : n = (m : Int) := by have : ¬ n < 0 := by simpa using gz
                                   omega
        refine Cd.skip hK5 ?_
        refine Cd.slot 2 rfl (show _ = Value.int .i64 (m : Int) from congrArg (Value.int .i64) this) ?_
        exact Cd.meet (hj1 () trivial) ⟨rfl, rfl, rfl, rfl, trivial⟩ ⟨rfl, trivial⟩
def inR (x a : Nat) (n : Int) : Bool := decide (a ≤ x) && decide ((x : Int) - (a : Int) < n)
theorem rsIn_spec (x a : Nat) (n : Int) (hx : x < 4294967296) (ha : a < 4294967296) : Spec Try.prog 86 #[.int .u32 x, .int .u32 a, .int .i64 n] (fun _ => True) [] (fun ρ ρ' v L => ρ' = ρ ∧ v = .bool (inR x a n) ∧ L = []) := by
  refine Spec.of 21 Try.func86 rfl Try.ntmps86 [(0, _), (1, _), (2, _)] rfl rfl ?_
  intro cx ρ hr h0
  refine Cd.seq fun K14 hK14 => ?_
  refine Cd.plain [(0, false)] rfl rfl ?_
  refine Jp.y 6 rfl (want_all rfl) rfl rfl Kp.true (Y.assign rfl rfl) ?_
  refine Jp.done hK14 ?_
  refine Cd.seq fun K15 hK15 => ?_
  refine Cd.plain [(0, false), (1, false), (2, false), (3, false), (4, false), (5, false), (6, false), (7, false), (8, false), (9, false), (10, false), (11, false), (12, false), (13, false), (14, false)] rfl rfl ?_
  refine Jp.y 7 rfl (want_all rfl) rfl rfl Kp.true (Y.move rfl rfl) ?_
  refine Jp.y 8 rfl (want_all rfl) rfl rfl Kp.true (Y.conv_ rfl rfl Try.underlying25 Try.underlying2 (by first | exact wrap_i64 (by omega) (by omega) | rfl)) ?_
  refine Jp.y 9 rfl (want_all rfl) rfl rfl Kp.true (Y.move rfl rfl) ?_
  refine Jp.y 10 rfl (want_all rfl) rfl rfl Kp.true (Y.conv_ rfl rfl Try.underlying25 Try.underlying2 (by first | exact wrap_i64 (by omega) (by omega) | rfl)) ?_
  refine Jp.y 11 rfl (want_all rfl) rfl rfl Kp.true (Y.geq rfl rfl rfl) ?_
  refine Jp.y 12 rfl (want_all rfl) rfl rfl Kp.true (Y.move rfl rfl) ?_
  refine Jp.split 12 rfl (fun g12 => ?_) (fun g12 => ?_)
  · skip
    try simp only [decide_eq_false_iff_not, decide_eq_true_eq, Int.not_lt, Int.not_le, Bool.not_eq_false, Bool.not_eq_true, Bool.not_true, Bool.not_false, Bool.not_eq_true', Bool.not_eq_false', beq_eq_false_iff_ne, ne_eq, beq_iff_eq, bne_iff_ne, bne_eq_false_iff_eq, Classical.not_not] at g12
    refine Jp.y 13 rfl (want_as rfl rfl rfl rfl) rfl rfl Kp.true (Y.move rfl rfl) ?_
    refine Jp.y 14 rfl (want_as rfl rfl rfl rfl) rfl rfl Kp.true (Y.conv_ rfl rfl Try.underlying25 Try.underlying2 (by first | exact wrap_i64 (by omega) (by omega) | rfl)) ?_
    refine Jp.y 15 rfl (want_as rfl rfl rfl rfl) rfl rfl Kp.true (Y.move rfl rfl) ?_
    refine Jp.y 16 rfl (want_as rfl rfl rfl rfl) rfl rfl Kp.true (Y.conv_ rfl rfl Try.underlying25 Try.underlying2 (by first | exact wrap_i64 (by omega) (by omega) | rfl)) ?_
    refine Jp.y 17 rfl (want_as rfl rfl rfl rfl) rfl rfl Kp.true (Y.sub_ rfl rfl rfl (by first | exact wrap_i64 (by omega) (by omega) | rfl)) ?_
    refine Jp.y 18 rfl (want_as rfl rfl rfl rfl) rfl rfl Kp.true (Y.move rfl rfl) ?_
    refine Jp.y 19 rfl (want_as rfl rfl rfl rfl) rfl rfl Kp.true (Y.lss rfl rfl rfl) ?_
    refine Jp.y 20 rfl (want_all rfl) rfl rfl Kp.true (Y.pickT rfl rfl rfl) ?_
    refine Jp.y 6 rfl (want_all rfl) rfl rfl Kp.true (Y.assign rfl rfl) ?_
    refine Jp.done hK15 ?_
    refine Cd.ret [] rfl (res1 rfl rfl) trivial ⟨rfl, congrArg Value.bool (by unfold inR; first | (rw [decide_eq_true (show a ≤ x by omega), Bool.true_and]; done) | (rw [decide_eq_false (show ¬ a ≤ x by omega), Bool.false_and])), rfl⟩
  · skip
    try simp only [decide_eq_false_iff_not, decide_eq_true_eq, Int.not_lt, Int.not_le, Bool.not_eq_false, Bool.not_eq_true, Bool.not_true, Bool.not_false, Bool.not_eq_true', Bool.not_eq_false', beq_eq_false_iff_ne, ne_eq, beq_iff_eq, bne_iff_ne, bne_eq_false_iff_eq, Classical.not_not] at g12
    refine Jp.skip 13 rfl (want_as rfl rfl rfl rfl) rfl rfl Kp.true ?_
    refine Jp.skip 14 rfl (want_as rfl rfl rfl rfl) rfl rfl Kp.true ?_
    refine Jp.skip 15 rfl (want_as rfl rfl rfl rfl) rfl rfl Kp.true ?_
    refine Jp.skip 16 rfl (want_as rfl rfl rfl rfl) rfl rfl Kp.true ?_
    refine Jp.skip 17 rfl (want_as rfl rfl rfl rfl) rfl rfl Kp.true ?_
    refine Jp.skip 18 rfl (want_as rfl rfl rfl rfl) rfl rfl Kp.true ?_
    refine Jp.skip 19 rfl (want_as rfl rfl rfl rfl) rfl rfl Kp.true ?_
    refine Jp.y 20 rfl (want_all rfl) rfl rfl Kp.true (Y.pickF rfl rfl rfl) ?_
    refine Jp.y 6 rfl (want_all rfl) rfl rfl Kp.true (Y.assign rfl rfl) ?_
    refine Jp.done hK15 ?_
    refine Cd.ret [] rfl (res1 rfl rfl) trivial ⟨rfl, congrArg Value.bool (by unfold inR; first | (rw [decide_eq_true (show a ≤ x by omega), Bool.true_and]; done) | (rw [decide_eq_false (show ¬ a ≤ x by omega), Bool.false_and])), rfl⟩
def rowOr (k a : Nat) (n : Int) (b : Bytes) (i : Nat) : Bytes := ((List.range i).filter fun j => inR (k + j) a n).map fun j => b.getD j 0
def anyR (l : List (Nat × Pg)) (a : Nat) (n : Int) : UInt8 := orL (l.flatMap fun x => rowOr x.1 a n x.2.b 256)
theorem rowOr_succ (k a : Nat) (n : Int) (b : Bytes) (i : Nat) : orL (rowOr k a n b (i + 1)) = if inR (k + i) a n then orL (rowOr k a n b i) ||| b.getD i 0 else orL (rowOr k a n b i) := by
  unfold rowOr
  rw [List.range_succ, List.filter_append, List.map_append, orL_append]
  by_cases h : inR (k + i) a n = true
  · rw [if_pos h, List.filter_cons_of_pos (p := fun j => inR (k + j) a n) h, List.filter_nil, List.map_cons, List.map_nil, orL_cons, orL_nil, UInt8.or_zero]
  · rw [if_neg h, List.filter_cons_of_neg (p := fun j => inR (k + j) a n) h, List.filter_nil, List.map_nil, orL_nil, UInt8.or_zero]
theorem anyR_eq {l : List (Nat × Pg)} (h : ShOk l) {B : Nat} {a : Nat} {n : Int} (ha : a < 4294967296) : anyR l a n = anyM ⟨B, l⟩ a n := by
  unfold anyR anyM
  refine orL_ext (fun y hy hy0 => ?_) fun y hy hy0 => ?_
  · obtain ⟨x, hx, hyx⟩ := List.mem_flatMap.1 hy
    obtain ⟨j, hj, rfl⟩ := List.mem_map.1 hyx
    obtain ⟨hj1, hj2⟩ := List.mem_filter.1 hj
    have hj1 := List.mem_range.1 hj1
    have hok := h.page x hx
    have hlen := hok.len
    have hal := hok.al
    have hxl := hok.lt
    unfold inR at hj2
    simp only [Bool.and_eq_true, decide_eq_true_eq] at hj2
    refine List.mem_flatMap.2 ⟨x, hx, ?_⟩
    have he : x.1 + j < endN a n := by unfold endN; omega
    unfold cutP
    rw [List.getD_eq_getElem?_getD, List.getElem?_eq_getElem (by omega), Option.getD_some]
    refine List.mem_iff_getElem.2 ⟨j - (max x.1 a - x.1), by rw [List.length_drop, List.length_take]; omega, ?_⟩
    rw [List.getElem_drop, List.getElem_take]
    congr 1
    omega
  · obtain ⟨x, hx, hyx⟩ := List.mem_flatMap.1 hy
    have hx : x ∈ l := hx
    have hok := h.page x hx
    obtain ⟨j, hj, hje⟩ := List.mem_iff_getElem.1 hyx
    have hlen := hok.len
    have hal := hok.al
    have hxl := hok.lt
    unfold cutP at hj hje
    rw [List.length_drop, List.length_take] at hj
    rw [List.getElem_drop, List.getElem_take] at hje
    refine List.mem_flatMap.2 ⟨x, hx, List.mem_map.2 ⟨max x.1 a - x.1 + j, List.mem_filter.2 ⟨List.mem_range.2 (by omega), ?_⟩, ?_⟩⟩
    · unfold inR
      simp only [Bool.and_eq_true, decide_eq_true_eq]
      unfold endN at hj
      omega
    · rw [List.getD_eq_getElem?_getD, List.getElem?_eq_getElem (by omega)]; exact hje
theorem rsAny_spec (b : Nat) (B : Int) (l : List (Nat × Pg)) (hok : ShOk l) (a : Nat) (n : Int) (ha : a < 4294967296) : Spec Try.prog 41 #[.pointer (some ⟨b, 0, none⟩), .int .u32 a, .int .i64 n] (fun _ => True) [(0, RsO b B l)]
    (fun ρ ρ' v L => ρ' = ρ ∧ v = .int .u8 ((anyR l a n).toNat : Int) ∧ L = [(0, RsO b B l)]) := by
  refine Spec.of 50 Try.func41 rfl Try.ntmps41 [(0, _), (1, _), (2, _)] rfl rfl ?_
  intro cx ρ hr h0
  have hsh := hok
  refine Cd.rsOpen 0 1 (by decide) rfl fun x hf => ?_
  obtain ⟨A, c⟩ := x
  dsimp only
  have hmany := hf.2
  have hrows : ∀ y ∈ l, (lbC y).length = 257 := fun y hy => lbC_len (hf.1 y hy)
  refine Cd.seq fun K16 hK16 => ?_
  refine Cd.plain [(0, false)] rfl rfl ?_
  refine Jp.y 6 rfl (want_all rfl) rfl rfl Kp.true (Y.assign rfl rfl) ?_
  refine Jp.done hK16 ?_
  refine Cd.seq fun K17 hK17 => ?_
  refine Cd.plain [(0, false)] rfl rfl ?_
  refine Jp.y 7 rfl (want_all rfl) rfl rfl Kp.true (Y.assign rfl rfl) ?_
  refine Jp.done hK17 ?_
  refine Cd.seq fun K18 hK18 => ?_
  refine Cd.seq fun K19 hK19 => ?_
  refine Cd.plain [(0, false)] rfl rfl ?_
  refine Jp.y 8 rfl (want_all rfl) rfl rfl Kp.true (Y.assign rfl rfl) ?_
  refine Jp.done hK19 ?_
  refine Cd.block ?_
  refine Cd.slot 7 rfl (show _ = Value.int .u8 (((orL ((l.take 0).flatMap fun x => rowOr x.1 a n x.2.b 256)).toNat : Nat) : Int) from rfl) ?_
  refine Cd.loopK (G := Nat) (fun i => i ≤ l.length) (fun i => l.length - i) (fun _ => _) (fun i => [(7, .int .u8 (((orL ((l.take i).flatMap fun x => rowOr x.1 a n x.2.b 256)).toNat : Nat) : Int)), (8, .int .i64 (i : Int))]) [(0, _), (1, _), (2, _)] (fun i => []) [(0, _), (1, _)] 0 (Nat.zero_le _) rfl ⟨rfl, rfl, trivial⟩ ⟨rfl, rfl, rfl, trivial⟩ trivial ⟨rfl, rfl, trivial⟩ (fun g KLa hok hLa => ?_)
  obtain ⟨i, hi⟩ : ∃ i, i = g := ⟨_, rfl⟩
  rw [← hi] at hok ⊢
  refine Cd.seq fun K20 hK20 => ?_
  refine Cd.seq fun K21 hK21 => ?_
  refine Cd.plain [(0, false), (1, false), (2, false), (3, false), (4, false), (5, false), (6, false)] rfl rfl ?_
  refine Jp.y 10 rfl (want_all rfl) rfl rfl Kp.true (Y.move rfl rfl) ?_
  refine Jp.y 11 rfl (want_all rfl) rfl rfl Kp.true (Y.move rfl rfl) ?_
  refine Jp.y 12 rfl (want_all rfl) rfl rfl Kp.true (Y.nilCheck rfl rfl) ?_
  refine Jp.y 13 rfl (want_all rfl) rfl rfl Kp.true (by first | exact Y.fieldAddrP rfl rfl Try.underlying78 rfl Try.sizeOf76 (by decide) (show _ + 1 = _ from rfl) | exact Y.fieldAddr rfl rfl Try.underlying78 rfl Try.sizeOf76 (by decide)) ?_
  refine Jp.y 14 rfl (want_all rfl) rfl rfl Kp.true (Y.loadO 0 rfl Try.isAgg76 rfl rfl rfl) ?_
  refine Jp.y 15 rfl (want_all rfl) rfl rfl Kp.true (Y.lenslice rfl Try.underlying76 rfl) ?_
  refine Jp.y 16 rfl (want_all rfl) rfl rfl Kp.true (Y.lss rfl rfl rfl) ?_
  refine Jp.done hK21 ?_
  refine Cd.cond rfl (fun ga => ?_) (fun ga => ?_)
  · have hil : i < l.length := by simpa using ga
    have hx : l[i]? = some l[i] := List.getElem?_eq_getElem hil
    obtain ⟨y, hy⟩ : ∃ y, y = l[i] := ⟨_, rfl⟩
    rw [← hy] at hx
    have hyk := hsh.page y (List.mem_of_getElem? hx)
    have hal := hyk.al
    have hyl := hyk.lt
    have hstep : orL ((l.take (i + 1)).flatMap fun x => rowOr x.1 a n x.2.b 256) = orL ((l.take i).flatMap fun x => rowOr x.1 a n x.2.b 256) ||| orL (rowOr y.1 a n y.2.b 256) := by
      rw [← List.take_append_getElem hil, List.flatMap_append, orL_append, ← hy]; simp
    obtain ⟨acc, hacc⟩ : ∃ acc, orL ((l.take i).flatMap fun x => rowOr x.1 a n x.2.b 256) = acc := ⟨_, rfl⟩
    rw [hacc] at hstep ⊢
    refine Cd.ownAt 1 rfl (show 0 < l.length by omega) ?_
    rintro b1 rfl
    have c0 := OwnS.hasC (e := 137) (m := 257) (k := l.length) (c := c) (ad := ⟨b1, 0, none⟩) (rs_get hrows hx (lbC_base y))
    refine Cd.skip hK20 ?_
    refine Cd.seq fun K22 hK22 => ?_
    refine Cd.block ?_
    refine Cd.seq fun K23 hK23 => ?_
    refine Cd.plain [(0, false)] rfl rfl ?_
    refine Jp.y 9 rfl (want_all rfl) rfl rfl Kp.true (Y.assign rfl rfl) ?_
    refine Jp.done hK23 ?_
    refine Cd.block ?_
    refine Cd.slot 7 rfl (show _ = Value.int .u8 (((acc ||| orL (rowOr y.1 a n y.2.b 0)).toNat : Nat) : Int) by rw [show rowOr y.1 a n y.2.b 0 = [] from rfl, orL_nil, UInt8.or_zero]) ?_
    refine Cd.loopK (G := Nat) (fun k => k ≤ 256) (fun k => 256 - k) (fun _ => _) (fun k => [(7, .int .u8 (((acc ||| orL (rowOr y.1 a n y.2.b k)).toNat : Nat) : Int)), (9, .int .i64 (k : Int))]) [(0, _), (1, _), (2, _), (8, _)] (fun k => []) [(0, _), (1, _)] 0 (Nat.zero_le _) rfl ⟨rfl, rfl, trivial⟩ ⟨rfl, rfl, rfl, rfl, trivial⟩ trivial ⟨rfl, rfl, trivial⟩ (fun g KLc hok hLc => ?_)
    obtain ⟨k, hk⟩ : ∃ k, k = g := ⟨_, rfl⟩
    rw [← hk] at hok ⊢
    have hsuc := rowOr_succ y.1 a n y.2.b k
    refine Cd.seq fun K24 hK24 => ?_
    refine Cd.seq fun K25 hK25 => ?_
    refine Cd.plain [(0, false), (1, false)] rfl rfl ?_
    refine Jp.y 19 rfl (want_all rfl) rfl rfl Kp.true (Y.move rfl rfl) ?_
    refine Jp.y 20 rfl (want_all rfl) rfl rfl Kp.true (Y.lss rfl rfl rfl) ?_
    refine Jp.done hK25 ?_
    refine Cd.cond rfl (fun gk => ?_) (fun gk => ?_)
    · have hk2 : k < 256 := by simp at gk; omega
      have c1 := OwnS.hasC (e := 137) (m := 257) (k := l.length) (c := c) (ad := ⟨b1, 0, none⟩) (rs_get hrows hx (lbC_byte (hf.1 y (List.mem_of_getElem? hx)) hk2))
      rw [add_mk, Nat.zero_add] at c1
      refine Cd.skip hK24 ?_
      refine Cd.seq fun K26 hK26 => ?_
      refine Cd.block ?_
      refine Cd.seq fun K27 hK27 => ?_
      refine Cd.plain [(0, false), (1, false), (2, false), (3, false), (4, false), (5, false), (6, false), (7, false), (8, false), (9, false), (10, false), (11, false), (12, false), (13, false)] rfl rfl ?_
      refine Jp.y 23 rfl (want_all rfl) rfl rfl Kp.true (Y.move rfl rfl) ?_
      refine Jp.y 24 rfl (want_all rfl) rfl rfl Kp.true (Y.nilCheck rfl rfl) ?_
      refine Jp.y 25 rfl (want_all rfl) rfl rfl Kp.true (by first | exact Y.fieldAddrP rfl rfl Try.underlying78 rfl Try.sizeOf76 (by decide) (show _ + 1 = _ from rfl) | exact Y.fieldAddr rfl rfl Try.underlying78 rfl Try.sizeOf76 (by decide)) ?_
      refine Jp.y 26 rfl (want_all rfl) rfl rfl Kp.true (by first | exact Y.loadO 0 rfl Try.isAgg76 rfl rfl rfl | exact Y.loadC 1 rfl Try.isAgg76 rfl rfl c0) ?_
      refine Jp.y 27 rfl (want_all rfl) rfl rfl Kp.true (Y.move rfl rfl) ?_
      refine Jp.y 28 rfl (want_all rfl) rfl rfl Kp.true (Y.indexAddr (q := i * 257) rfl rfl rfl Try.underlying76 Try.sizeOf137 (by omega) (by omega) (by omega)) ?_
      refine Jp.y 29 rfl (want_all rfl) rfl rfl Kp.true (by first | exact Y.fieldAddrP rfl rfl Try.underlying137 rfl Try.sizeOf25 (by decide) (show _ + 0 = _ from rfl) | exact Y.fieldAddr rfl rfl Try.underlying137 rfl Try.sizeOf25 (by decide)) ?_
      refine Jp.y 30 rfl (want_all rfl) rfl rfl Kp.true (by first | exact Y.loadO 0 rfl Try.isAgg25 rfl rfl rfl | exact Y.loadC 1 rfl Try.isAgg25 rfl rfl c0) ?_
      refine Jp.y 31 rfl (want_all rfl) rfl rfl Kp.true (Y.move rfl rfl) ?_
      refine Jp.y 32 rfl (want_all rfl) rfl rfl Kp.true (Y.conv_ rfl rfl Try.underlying3 Try.underlying25 (by first | exact wrap_u32 (by omega) (by omega) | rfl)) ?_
      refine Jp.y 33 rfl (want_all rfl) rfl rfl Kp.true (Y.add_ rfl rfl rfl (by first | exact wrap_u32 (by omega) (by omega) | rfl)) ?_
      refine Jp.slot 33 rfl (show _ = Value.int .u32 ((y.1 + k : Nat) : Int) from congrArg (Value.int .u32) (by omega)) ?_
      refine Jp.y 34 rfl (want_all rfl) rfl rfl Kp.true (Y.move rfl rfl) ?_
      refine Jp.y 35 rfl (want_all rfl) rfl rfl Kp.true (Y.move rfl rfl) ?_
      refine Jp.call [] [] (rsIn_spec (y.1 + k) a n (by omega) ha) 36 rfl (want_all rfl) rfl rfl (Runs.fn rfl Try.call86 rfl) (by decide) (by decide) rfl trivial ?_
      rintro v1 ρ1 L1 ⟨rfl, rfl, rfl⟩
      refine ⟨rfl, fun hle1 => ⟨Kp.true, ?_⟩⟩
      refine Jp.done hK27 ?_
      refine Cd.cond rfl (fun gin => ?_) (fun gin => ?_)
      · have hin : inR (y.1 + k) a n = true := gin
        rw [if_pos hin] at hsuc
        have hb1 := (acc ||| orL (rowOr y.1 a n y.2.b k)).toNat_lt
        have hb2 := (y.2.b.getD k 0).toNat_lt
        refine Cd.plain [(0, false), (1, false), (2, false), (3, false), (4, false), (5, false), (6, false), (7, false), (8, false), (9, false), (10, false), (11, false), (12, false)] rfl rfl ?_
        refine Jp.y 37 rfl (want_all rfl) rfl rfl Kp.true (Y.move rfl rfl) ?_
        refine Jp.y 38 rfl (want_all rfl) rfl rfl Kp.true (Y.move rfl rfl) ?_
        refine Jp.y 39 rfl (want_all rfl) rfl rfl Kp.true (Y.nilCheck rfl rfl) ?_
        refine Jp.y 40 rfl (want_all rfl) rfl rfl Kp.true (by first | exact Y.fieldAddrP rfl rfl Try.underlying78 rfl Try.sizeOf76 (by decide) (show _ + 1 = _ from rfl) | exact Y.fieldAddr rfl rfl Try.underlying78 rfl Try.sizeOf76 (by decide)) ?_
        refine Jp.y 41 rfl (want_all rfl) rfl rfl Kp.true (by first | exact Y.loadO 0 rfl Try.isAgg76 rfl rfl rfl | exact Y.loadC 1 rfl Try.isAgg76 rfl rfl c0) ?_
        refine Jp.y 42 rfl (want_all rfl) rfl rfl Kp.true (Y.move rfl rfl) ?_
        refine Jp.y 43 rfl (want_all rfl) rfl rfl Kp.true (Y.move rfl rfl) ?_
        refine Jp.y 44 rfl (want_all rfl) rfl rfl Kp.true (Y.indexAddr (q := i * 257) rfl rfl rfl Try.underlying76 Try.sizeOf137 (by omega) (by omega) (by omega)) ?_
        refine Jp.slot 44 rfl (show _ = Value.pointer (some ⟨b1, i * 257, none⟩) by rw [add_mk, Nat.zero_add]) ?_
        refine Jp.y 45 rfl (want_all rfl) rfl rfl Kp.true (by first | exact Y.fieldAddrP rfl rfl Try.underlying137 rfl Try.sizeOf106 (by decide) (show _ + 1 = _ from rfl) | exact Y.fieldAddr rfl rfl Try.underlying137 rfl Try.sizeOf106 (by decide)) ?_
        refine Jp.y 46 rfl (want_all rfl) rfl rfl Kp.true (Y.indexArrP (q := i * 257 + (1 + k)) rfl rfl rfl Try.underlying106 Try.sizeOf5 (by omega) (by omega) (by omega)) ?_
        refine Jp.y 47 rfl (want_all rfl) rfl rfl Kp.true (by first | exact Y.loadO 0 rfl Try.isAgg5 rfl rfl rfl | exact Y.loadC 1 rfl Try.isAgg5 rfl rfl c1) ?_
        refine Jp.y 48 rfl (want_all rfl) rfl rfl Kp.true (Y.bits rfl rfl rfl rfl) ?_
        refine Jp.slot 48 rfl (show _ = Value.int .u8 (((acc ||| orL (rowOr y.1 a n y.2.b (k + 1))).toNat : Nat) : Int) by rw [bits_or8 hb1 hb2, ← UInt8.toNat_or, hsuc, UInt8.or_assoc]) ?_
        refine Jp.y 7 rfl (want_all rfl) rfl rfl Kp.true (Y.assign rfl rfl) ?_
        refine Jp.over rfl hK26 ?_
        refine Cd.plain [(0, false), (1, false), (2, false)] rfl rfl ?_
        refine Jp.y 21 rfl (want_all rfl) rfl rfl Kp.true (Y.move rfl rfl) ?_
        refine Jp.y 22 rfl (want_all rfl) rfl rfl Kp.true (Y.add_ rfl rfl rfl (by first | exact wrap_i64 (by omega) (by omega) | rfl)) ?_
        refine Jp.y 9 rfl (want_all rfl) rfl rfl Kp.true (Y.assign rfl rfl) ?_
        rw [show (k : Int) + 1 = ((k + 1 : Nat) : Int) by omega]
        refine Jp.again hLc (k + 1) (by omega) (by omega) rfl ⟨rfl, rfl, rfl, rfl, rfl, rfl, trivial⟩ ⟨rfl, rfl, trivial⟩
      · have hin : ¬ inR (y.1 + k) a n = true := by rw [gin]; simp
        rw [if_neg hin] at hsuc
        rw [← hsuc]
        refine Cd.over rfl hK26 ?_
        refine Cd.plain [(0, false), (1, false), (2, false)] rfl rfl ?_
        refine Jp.y 21 rfl (want_all rfl) rfl rfl Kp.true (Y.move rfl rfl) ?_
        refine Jp.y 22 rfl (want_all rfl) rfl rfl Kp.true (Y.add_ rfl rfl rfl (by first | exact wrap_i64 (by omega) (by omega) | rfl)) ?_
        refine Jp.y 9 rfl (want_all rfl) rfl rfl Kp.true (Y.assign rfl rfl) ?_
        rw [show (k : Int) + 1 = ((k + 1 : Nat) : Int) by omega]
        refine Jp.again hLc (k + 1) (by omega) (by omega) rfl ⟨rfl, rfl, rfl, rfl, rfl, rfl, trivial⟩ ⟨rfl, rfl, trivial⟩
    · have hk2 : k = 256 := by simp at gk; omega
      rw [hk2, ← hstep]
      refine Cd.exit rfl hK22 ?_
      refine Cd.plain [(0, false), (1, false), (2, false)] rfl rfl ?_
      refine Jp.y 17 rfl (want_all rfl) rfl rfl Kp.true (Y.move rfl rfl) ?_
      refine Jp.y 18 rfl (want_all rfl) rfl rfl Kp.true (Y.add_ rfl rfl rfl (by first | exact wrap_i64 (by omega) (by omega) | rfl)) ?_
      refine Jp.y 8 rfl (want_all rfl) rfl rfl Kp.true (Y.assign rfl rfl) ?_
      rw [show (i : Int) + 1 = ((i + 1 : Nat) : Int) by omega]
      refine Jp.again hLa (i + 1) (by omega) (by omega) rfl ⟨rfl, rfl, rfl, rfl, rfl, trivial⟩ ⟨rfl, rfl, trivial⟩
  · have hil : i = l.length := by have : ¬ i < l.length := by simpa using ga
                                  omega
    refine Cd.exit rfl hK18 ?_
    refine Cd.seq fun K28 hK28 => ?_
    refine Cd.plain [(0, false), (1, false)] rfl rfl ?_
    refine Jp.y 49 rfl (want_all rfl) rfl rfl Kp.true (Y.move rfl rfl) ?_
    refine Jp.y 6 rfl (want_all rfl) rfl rfl Kp.true (Y.assign rfl rfl) ?_
    refine Jp.done hK28 ?_
    refine Cd.rsClose (b := b) (l := l) 0 1 (by decide) hf rfl rfl ?_
    refine Cd.ret [(0, _)] rfl (res1 rfl rfl) ⟨rfl, trivial⟩ ⟨rfl, by rw [hil, List.take_length]; rfl, rfl⟩
end Go.Proofs.Ytgmhijlcdadaeaa
