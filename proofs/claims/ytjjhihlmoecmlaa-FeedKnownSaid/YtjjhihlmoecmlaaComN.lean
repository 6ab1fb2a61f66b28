/- Contracts: the reference's noughts and W32. -/
import Derived.Test.YtjjhihlmoecmlaaCom
import Derived.Test.YtjjhihlmoecmlaaEngL
set_option linter.unusedVariables false
set_option linter.unusedSimpArgs false
set_option maxRecDepth 100000
namespace Go.Proofs.Ytjjhihlmoecmlaa
open Go
theorem contains_at {l : Bytes} {k : Nat} (h : l[k]? = some 0) : l.contains 0 = true := by
  rw [List.contains_iff_mem]; exact List.mem_of_getElem? h
theorem contains_none {l : Bytes} {k : Nat} (h : ∀ j, j < k → l[j]? ≠ some 0) (h2 : l.length ≤ k) : l.contains 0 = false := by
  rw [Bool.eq_false_iff, ne_eq, List.contains_iff_mem]
  intro hm
  obtain ⟨j, hj⟩ := List.mem_iff_getElem?.1 hm
  have := (List.getElem?_eq_some_iff.1 hj).1
  exact h j (by omega) hj
theorem str_at {s : ByteArray} {g : Nat} (hg : g < s.size) : (str s)[g]? = some (s[g]'hg) := by
  unfold str; rw [Array.getElem?_toList, Array.getElem?_eq_getElem (by exact hg)]; rfl
theorem f54_spec (s : ByteArray) (hs : s.size ≤ 1000000) : Spec Try.prog 54 #[.string s] (fun _ => True) [] (fun ρ ρ' v L => ρ' = ρ ∧ v = .bool ((str s).contains 0) ∧ L = []) := by
  have hz := str_size s
  refine Spec.of 14 Try.func54 rfl Try.ntmps54 [(0, _)] rfl rfl ?_
  intro cx ρ hr h0
  refine Cd.seq fun K1 hK1 => ?_
  refine Cd.plain [(0, false)] rfl rfl ?_
  refine Jp.y 2 rfl (want_all rfl) rfl rfl Kp.true (Y.assign rfl rfl) ?_
  refine Jp.done hK1 ?_
  refine Cd.seq fun K2 hK2 => ?_
  refine Cd.seq fun K3 hK3 => ?_
  refine Cd.plain [(0, false)] rfl rfl ?_
  refine Jp.y 3 rfl (want_all rfl) rfl rfl Kp.true (Y.assign rfl rfl) ?_
  refine Jp.done hK3 ?_
  refine Cd.block ?_
  refine Cd.loop (G := Nat) (fun k => k ≤ s.size ∧ ∀ j, j < k → (str s)[j]? ≠ some 0) (fun k => s.size - k) (fun _ => ρ) (fun k => [(0, .string s), (3, .int .i64 k)]) (fun _ => []) 0 ⟨Nat.zero_le _, fun j h => by omega⟩ rfl ⟨rfl, rfl, trivial⟩ trivial (fun g KLk hok hLk => ?_)
  obtain ⟨hok1, hok2⟩ := hok
  refine Cd.seq fun K4 hK4 => ?_
  refine Cd.seq fun K5 hK5 => ?_
  refine Cd.plain [(0, false), (1, false), (2, false), (3, false)] rfl rfl ?_
  refine Jp.y 4 rfl (want_all rfl) rfl rfl Kp.true (Y.move rfl rfl) ?_
  refine Jp.y 5 rfl (want_all rfl) rfl rfl Kp.true (Y.move rfl rfl) ?_
  refine Jp.y 6 rfl (want_all rfl) rfl rfl Kp.true (Y.lenstr rfl Try.underlying9 rfl) ?_
  refine Jp.y 7 rfl (want_all rfl) rfl rfl Kp.true (Y.lss rfl rfl rfl) ?_
  refine Jp.done hK5 ?_
  refine Cd.condF' rfl (fun g7 => ?_) (fun g7 => ?_)
  · skip
    simp only [decide_eq_false_iff_not] at g7
    refine Cd.exit rfl hK2 ?_
    refine Cd.seq fun K6 hK6 => ?_
    refine Cd.plain [(0, false)] rfl rfl ?_
    refine Jp.y 2 rfl (want_all rfl) rfl rfl Kp.true (Y.assign rfl rfl) ?_
    refine Jp.done hK6 ?_
    refine Cd.ret [] rfl (res1 rfl rfl) trivial ⟨rfl, congrArg Value.bool (contains_none hok2 (by omega)).symm, rfl⟩
  try simp only [decide_eq_false_iff_not, decide_eq_true_eq, Int.not_lt, Int.not_le, Bool.not_eq_false, Bool.not_eq_true, Bool.not_true, Bool.not_false, Bool.not_eq_true', Bool.not_eq_false', beq_eq_false_iff_ne, ne_eq, beq_iff_eq, bne_iff_ne, bne_eq_false_iff_eq, Classical.not_not] at g7
  refine Cd.skip hK4 ?_
  refine Cd.seq fun K7 hK7 => ?_
  refine Cd.block ?_
  refine Cd.seq fun K8 hK8 => ?_
  refine Cd.plain [(0, false), (1, false), (2, false), (3, false)] rfl rfl ?_
  have hg : g < s.size := by omega
  refine Jp.y 10 rfl (want_all rfl) rfl rfl Kp.true (Y.move rfl rfl) ?_
  refine Jp.y 11 rfl (want_all rfl) rfl rfl Kp.true (Y.move rfl rfl) ?_
  refine Jp.y 12 rfl (want_all rfl) rfl rfl Kp.true (Y.indexstr (q := g) rfl Try.underlying9 rfl rfl (by omega) (by omega) rfl) ?_
  refine Jp.y 13 rfl (want_all rfl) rfl rfl Kp.true (Y.eql rfl rfl rfl) ?_
  refine Jp.done hK8 ?_
  refine Cd.cond rfl (fun g13 => ?_) (fun g13 => ?_)
  · skip
    refine Cd.seq fun K9 hK9 => ?_
    refine Cd.plain [(0, false)] rfl rfl ?_
    refine Jp.y 2 rfl (want_all rfl) rfl rfl Kp.true (Y.assign rfl rfl) ?_
    refine Jp.done hK9 ?_
    refine Cd.ret [] rfl (res1 rfl rfl) trivial ⟨rfl, congrArg Value.bool (contains_at (k := g) (by rw [str_at hg]; simp only [beq_iff_eq] at g13; congr 1; exact UInt8.toNat_inj.1 (by simpa using g13))).symm, rfl⟩
  try simp only [decide_eq_false_iff_not, decide_eq_true_eq, Int.not_lt, Int.not_le, Bool.not_eq_false, Bool.not_eq_true, Bool.not_true, Bool.not_false, Bool.not_eq_true', Bool.not_eq_false', beq_eq_false_iff_ne, ne_eq, beq_iff_eq, bne_iff_ne, bne_eq_false_iff_eq, Classical.not_not] at g13
  refine Cd.over rfl hK7 ?_
  refine Cd.plain [(0, false), (1, false), (2, false)] rfl rfl ?_
  refine Jp.y 8 rfl (want_all rfl) rfl rfl Kp.true (Y.move rfl rfl) ?_
  refine Jp.y 9 rfl (want_all rfl) rfl rfl Kp.true (Y.add_ rfl rfl rfl (by first | exact wrap_i64 (by omega) (by omega) | rfl)) ?_
  refine Jp.y 3 rfl (want_all rfl) rfl rfl Kp.true (Y.assign rfl rfl) ?_
  refine Jp.again hLk (g + 1) ⟨by omega, fun j hj => ?_⟩ (by omega) rfl ⟨rfl, rfl, trivial⟩ trivial
  by_cases hjg : j < g
  · exact hok2 j hjg
  · have : j = g := by omega
    subst this
    rw [str_at hg]
    intro h
    injection h with h
    apply g13
    rw [h]; rfl
theorem bytesV_leB (xs : Bytes) (v : Nat) : bytesV xs ++ [.int .u8 ((UInt8.ofNat v).toNat : Int), .int .u8 ((UInt8.ofNat (v / 2 ^ (8 * 1))).toNat : Int), .int .u8 ((UInt8.ofNat (v / 2 ^ (8 * 2))).toNat : Int), .int .u8 ((UInt8.ofNat (v / 2 ^ (8 * 3))).toNat : Int)] = bytesV (xs ++ leB v 4) := by
  have e : leB v 4 = [UInt8.ofNat v, UInt8.ofNat (v / 2 ^ (8 * 1)), UInt8.ofNat (v / 2 ^ (8 * 2)), UInt8.ofNat (v / 2 ^ (8 * 3))] := by
    simp [leB, List.range, List.range.loop]
  rw [e, bytesV, bytesV, List.map_append]; rfl
theorem w32_spec (A : Option Addr) (c : Nat) (xs : Bytes) (v : Nat) (hn : xs.length ≤ 1000000) (hv : v < 4294967296) : Spec Try.prog 68 #[.slice A xs.length c, .int .u32 v] (fun _ => True) [(0, OwnS 5 1 A xs.length c (bytesV xs))]
    (fun ρ ρ' r L => ρ' = ρ ∧ ∃ B d, r = .slice B (xs ++ leB v 4).length d ∧ L = [(1, OwnS 5 1 B (xs ++ leB v 4).length d (bytesV (xs ++ leB v 4)))]) := by
  refine Spec.of 21 Try.func68 rfl Try.ntmps68 [(0, _), (1, _)] rfl rfl ?_
  intro cx ρ hr h0
  have hlen : (xs ++ leB v 4).length = xs.length + 4 := by rw [List.length_append, leB_length]
  refine Cd.seq fun K10 hK10 => ?_
  refine Cd.plain [(0, false)] rfl rfl ?_
  refine Jp.y 4 rfl (want_all rfl) rfl rfl Kp.true (Y.assign rfl rfl) ?_
  refine Jp.done hK10 ?_
  refine Cd.seq fun K11 hK11 => ?_
  refine Cd.plain [(0, false), (1, false), (2, false), (3, false), (4, false), (5, false), (6, false), (7, false), (8, false), (9, false), (10, false), (11, false), (12, false), (13, false), (14, false), (15, false), (16, false)] rfl rfl ?_
  refine Jp.lit 5 1 [] [] rfl (want_all rfl) rfl rfl rfl rfl Try.underlying26 Try.sizeOf5 Try.zeroValue5 rfl rfl rfl rfl rfl fun b1 => ⟨Kp.true, ?_⟩
  refine Jp.y 6 rfl (want_all rfl) rfl rfl Kp.true (Y.move rfl rfl) ?_
  refine Jp.append 7 1 rfl (want_all rfl) rfl rfl rfl Try.underlying26 Try.underlying26 (.inl ⟨_, rfl⟩) Try.sizeOf5 Try.typeInfo5 Try.zeroValue5 rfl (by decide) rfl rfl rfl (Src.own 0 rfl) (bytesV_one _) (xs.length) (bytesV xs) (by first | omega | simp) (List.nil_append _) (by simp only [Try.t5]; omega) fun A3 c3 => ⟨Kp.true, ?_⟩
  refine Jp.y 8 rfl (want_all rfl) rfl rfl Kp.true (Y.move rfl rfl) ?_
  refine Jp.y 9 rfl (want_all rfl) rfl rfl Kp.true (Y.conv_ rfl rfl Try.underlying49 Try.underlying5 (conv8 v)) ?_
  refine Jp.y 10 rfl (want_all rfl) rfl rfl Kp.true (Y.move rfl rfl) ?_
  refine Jp.y 11 rfl (want_all rfl) rfl rfl Kp.true (Y.shr rfl rfl rfl (by first | decide | omega)) ?_
  refine Jp.y 12 rfl (want_all rfl) rfl rfl Kp.true (Y.conv_ rfl rfl Try.underlying49 Try.underlying5 (shr8 v 1 (by omega))) ?_
  refine Jp.y 13 rfl (want_all rfl) rfl rfl Kp.true (Y.move rfl rfl) ?_
  refine Jp.y 14 rfl (want_all rfl) rfl rfl Kp.true (Y.shr rfl rfl rfl (by first | decide | omega)) ?_
  refine Jp.y 15 rfl (want_all rfl) rfl rfl Kp.true (Y.conv_ rfl rfl Try.underlying49 Try.underlying5 (shr8 v 2 (by omega))) ?_
  refine Jp.y 16 rfl (want_all rfl) rfl rfl Kp.true (Y.move rfl rfl) ?_
  refine Jp.y 17 rfl (want_all rfl) rfl rfl Kp.true (Y.shr rfl rfl rfl (by first | decide | omega)) ?_
  refine Jp.y 18 rfl (want_all rfl) rfl rfl Kp.true (Y.conv_ rfl rfl Try.underlying49 Try.underlying5 (shr8 v 3 (by omega))) ?_
  refine Jp.lit 19 2 [(0, _), (1, _), (2, _), (3, _)] [_, _, _, _] rfl (want_all rfl) rfl rfl rfl rfl Try.underlying26 Try.sizeOf5 Try.zeroValue5 rfl rfl rfl rfl rfl fun b2 => ⟨Kp.true, ?_⟩
  refine Jp.append 20 1 rfl (want_all rfl) rfl rfl rfl Try.underlying26 Try.underlying26 (.inl ⟨_, rfl⟩) Try.sizeOf5 Try.typeInfo5 Try.zeroValue5 rfl (by decide) rfl rfl rfl (Src.own 2 rfl) rfl ((xs ++ leB v 4).length) (bytesV (xs ++ leB v 4)) (by first | omega | simp) (bytesV_leB xs v) (by simp only [Try.t5]; omega) fun A4 c4 => ⟨Kp.true, ?_⟩
  refine Jp.y 4 rfl (want_all rfl) rfl rfl Kp.true (Y.assign rfl rfl) ?_
  refine Jp.done hK11 ?_
  refine Cd.ret [(1, _)] rfl (res1 rfl rfl) ⟨rfl, trivial⟩ ⟨rfl, A4, c4, rfl, rfl⟩
end Go.Proofs.Ytjjhihlmoecmlaa
