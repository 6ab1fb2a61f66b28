/- Contracts: writers of a feed's bytes: num, text, the document's W32, text. -/
import Derived.Test.YtjjhihlmoecmlaaFeedT
import Derived.Test.YtjjhihlmoecmlaaComN
set_option linter.unusedVariables false
set_option linter.unusedSimpArgs false
set_option maxRecDepth 100000
namespace Go.Proofs.Ytjjhihlmoecmlaa
open Go
theorem wnum_spec (A : Option Addr) (c : Nat) (xs : Bytes) (v : Nat) (hn : xs.length ≤ 1000000) (hv : v < 4294967296) : Spec Try.prog 66 #[.slice A xs.length c, .int .u32 v] (fun _ => True) [(0, OwnS 5 1 A xs.length c (bytesV xs))]
    (fun ρ ρ' r L => ρ' = ρ ∧ ∃ B d, r = .slice B (xs ++ leB v 4).length d ∧ L = [(0, OwnS 5 1 B (xs ++ leB v 4).length d (bytesV (xs ++ leB v 4)))]) := by
  refine Spec.of 19 Try.func66 rfl Try.ntmps66 [(0, _), (1, _)] rfl rfl ?_
  intro cx ρ hr h0
  have hlen : (xs ++ leB v 4).length = xs.length + 4 := by rw [List.length_append, leB_length]
  refine Cd.seq fun K1 hK1 => ?_
  refine Cd.plain [(0, false)] rfl rfl ?_
  refine Jp.y 4 rfl (want_all rfl) rfl rfl Kp.true (Y.assign rfl rfl) ?_
  refine Jp.done hK1 ?_
  refine Cd.seq fun K2 hK2 => ?_
  refine Cd.plain [(0, false), (1, false), (2, false), (3, false), (4, false), (5, false), (6, false), (7, false), (8, false), (9, false), (10, false), (11, false), (12, false), (13, false), (14, false)] rfl rfl ?_
  refine Jp.y 5 rfl (want_all rfl) rfl rfl Kp.true (Y.move rfl rfl) ?_
  refine Jp.y 6 rfl (want_all rfl) rfl rfl Kp.true (Y.move rfl rfl) ?_
  refine Jp.y 7 rfl (want_all rfl) rfl rfl Kp.true (Y.conv_ rfl rfl Try.underlying49 Try.underlying5 (conv8 v)) ?_
  refine Jp.y 8 rfl (want_all rfl) rfl rfl Kp.true (Y.move rfl rfl) ?_
  refine Jp.y 9 rfl (want_all rfl) rfl rfl Kp.true (Y.shr rfl rfl rfl (by first | decide | omega)) ?_
  refine Jp.y 10 rfl (want_all rfl) rfl rfl Kp.true (Y.conv_ rfl rfl Try.underlying49 Try.underlying5 (shr8 v 1 (by omega))) ?_
  refine Jp.y 11 rfl (want_all rfl) rfl rfl Kp.true (Y.move rfl rfl) ?_
  refine Jp.y 12 rfl (want_all rfl) rfl rfl Kp.true (Y.shr rfl rfl rfl (by first | decide | omega)) ?_
  refine Jp.y 13 rfl (want_all rfl) rfl rfl Kp.true (Y.conv_ rfl rfl Try.underlying49 Try.underlying5 (shr8 v 2 (by omega))) ?_
  refine Jp.y 14 rfl (want_all rfl) rfl rfl Kp.true (Y.move rfl rfl) ?_
  refine Jp.y 15 rfl (want_all rfl) rfl rfl Kp.true (Y.shr rfl rfl rfl (by first | decide | omega)) ?_
  refine Jp.y 16 rfl (want_all rfl) rfl rfl Kp.true (Y.conv_ rfl rfl Try.underlying49 Try.underlying5 (shr8 v 3 (by omega))) ?_
  refine Jp.lit 17 1 [(0, _), (1, _), (2, _), (3, _)] [_, _, _, _] rfl (want_all rfl) rfl rfl rfl rfl Try.underlying26 Try.sizeOf5 Try.zeroValue5 rfl rfl rfl rfl rfl fun b1 => ⟨Kp.true, ?_⟩
  refine Jp.append 18 0 rfl (want_all rfl) rfl rfl rfl Try.underlying26 Try.underlying26 (.inl ⟨_, rfl⟩) Try.sizeOf5 Try.typeInfo5 Try.zeroValue5 rfl (by decide) rfl rfl rfl (Src.own 1 rfl) rfl ((xs ++ leB v 4).length) (bytesV (xs ++ leB v 4)) (by first | omega | simp) (bytesV_leB xs v) (by simp only [Try.t5]; omega) fun A2 c2 => ⟨Kp.true, ?_⟩
  refine Jp.y 4 rfl (want_all rfl) rfl rfl Kp.true (Y.assign rfl rfl) ?_
  refine Jp.done hK2 ?_
  refine Cd.ret [(0, _)] rfl (res1 rfl rfl) ⟨rfl, trivial⟩ ⟨rfl, A2, c2, rfl, rfl⟩
theorem wtext_spec (A : Option Addr) (c : Nat) (xs : Bytes) (s : ByteArray) (hn : xs.length ≤ 900000) (hs : s.size ≤ 100000) : Spec Try.prog 67 #[.slice A xs.length c, .string s] (fun _ => True) [(0, OwnS 5 1 A xs.length c (bytesV xs))]
    (fun ρ ρ' r L => ρ' = ρ ∧ ∃ B d, r = .slice B (xs ++ encText (str s)).length d ∧ L = [(0, OwnS 5 1 B (xs ++ encText (str s)).length d (bytesV (xs ++ encText (str s))))]) := by
  refine Spec.of 12 Try.func67 rfl Try.ntmps67 [(0, _), (1, _)] rfl rfl ?_
  intro cx ρ hr h0
  have hz := str_size s
  have e : xs ++ encText (str s) = (xs ++ leB s.size 4) ++ str s := by rw [encText, ← hz, List.append_assoc]
  have hlen : (xs ++ encText (str s)).length = (xs ++ leB s.size 4).length + s.size := by rw [e, hz, List.length_append]
  have hl2 : (xs ++ leB s.size 4).length = xs.length + 4 := by rw [List.length_append, leB_length]
  refine Cd.seq fun K3 hK3 => ?_
  refine Cd.plain [(0, false)] rfl rfl ?_
  refine Jp.y 4 rfl (want_all rfl) rfl rfl Kp.true (Y.assign rfl rfl) ?_
  refine Jp.done hK3 ?_
  refine Cd.seq fun K4 hK4 => ?_
  refine Cd.plain [(0, false), (1, false), (2, false), (3, false), (4, false), (5, false), (6, false), (7, false)] rfl rfl ?_
  refine Jp.y 5 rfl (want_all rfl) rfl rfl Kp.true (Y.move rfl rfl) ?_
  refine Jp.y 6 rfl (want_all rfl) rfl rfl Kp.true (Y.move rfl rfl) ?_
  refine Jp.y 7 rfl (want_all rfl) rfl rfl Kp.true (Y.lenstr rfl Try.underlying9 rfl) ?_
  refine Jp.y 8 rfl (want_all rfl) rfl rfl Kp.true (Y.conv_ rfl rfl Try.underlying3 Try.underlying49 (by first | exact wrap_u32 (by omega) (by omega) | rfl)) ?_
  refine Jp.call [0] [0] (wnum_spec A c xs s.size (by omega) (by omega)) 9 rfl (want_all rfl) rfl rfl (Runs.fn rfl Try.call66 rfl) (by decide) (by decide) rfl trivial ?_
  rintro v1 ρ1 L1 ⟨rfl, B, d, rfl, rfl⟩
  refine ⟨rfl, fun hle1 => ⟨Kp.true, ?_⟩⟩
  refine Jp.y 10 rfl (want_all rfl) rfl rfl Kp.true (Y.move rfl rfl) ?_
  refine Jp.append 11 0 rfl (want_all rfl) rfl rfl rfl Try.underlying26 Try.underlying9 (.inr rfl) Try.sizeOf5 Try.typeInfo5 Try.zeroValue5 rfl (by decide) rfl rfl rfl Src.str (bytesV_one _) ((xs ++ encText (str s)).length) (bytesV (xs ++ encText (str s))) (by first | omega | simp) (by rw [e]; show bytesV (xs ++ leB s.size 4) ++ bytesV (str s) = _; exact List.map_append.symm) (by simp only [Try.t5]; omega) fun A2 c2 => ⟨Kp.true, ?_⟩
  refine Jp.y 4 rfl (want_all rfl) rfl rfl Kp.true (Y.assign rfl rfl) ?_
  refine Jp.done hK4 ?_
  refine Cd.ret [(0, _)] rfl (res1 rfl rfl) ⟨rfl, trivial⟩ ⟨rfl, A2, c2, rfl, rfl⟩
theorem rtxt_spec (A : Option Addr) (c : Nat) (xs : Bytes) (s : ByteArray) (hn : xs.length ≤ 900000) (hs : s.size ≤ 100000) : Spec Try.prog 69 #[.slice A xs.length c, .string s] (fun _ => True) [(0, OwnS 5 1 A xs.length c (bytesV xs))]
    (fun ρ ρ' r L => ρ' = ρ ∧ ∃ B d, r = .slice B (xs ++ encText (str s)).length d ∧ L = [(1, OwnS 5 1 B (xs ++ encText (str s)).length d (bytesV (xs ++ encText (str s))))]) := by
  refine Spec.of 12 Try.func69 rfl Try.ntmps69 [(0, _), (1, _)] rfl rfl ?_
  intro cx ρ hr h0
  have hz := str_size s
  have e : xs ++ encText (str s) = (xs ++ leB s.size 4) ++ str s := by rw [encText, ← hz, List.append_assoc]
  have hlen : (xs ++ encText (str s)).length = (xs ++ leB s.size 4).length + s.size := by rw [e, hz, List.length_append]
  have hl2 : (xs ++ leB s.size 4).length = xs.length + 4 := by rw [List.length_append, leB_length]
  refine Cd.seq fun K5 hK5 => ?_
  refine Cd.plain [(0, false)] rfl rfl ?_
  refine Jp.y 4 rfl (want_all rfl) rfl rfl Kp.true (Y.assign rfl rfl) ?_
  refine Jp.done hK5 ?_
  refine Cd.seq fun K6 hK6 => ?_
  refine Cd.plain [(0, false), (1, false), (2, false), (3, false), (4, false), (5, false), (6, false), (7, false)] rfl rfl ?_
  refine Jp.y 5 rfl (want_all rfl) rfl rfl Kp.true (Y.move rfl rfl) ?_
  refine Jp.y 6 rfl (want_all rfl) rfl rfl Kp.true (Y.move rfl rfl) ?_
  refine Jp.y 7 rfl (want_all rfl) rfl rfl Kp.true (Y.lenstr rfl Try.underlying9 rfl) ?_
  refine Jp.y 8 rfl (want_all rfl) rfl rfl Kp.true (Y.conv_ rfl rfl Try.underlying3 Try.underlying49 (by first | exact wrap_u32 (by omega) (by omega) | rfl)) ?_
  refine Jp.call [0] [0, 1] (w32_spec A c xs s.size (by omega) (by omega)) 9 rfl (want_all rfl) rfl rfl (Runs.fn rfl Try.call68 rfl) (by decide) (by decide) rfl trivial ?_
  rintro v1 ρ1 L1 ⟨rfl, B, d, rfl, rfl⟩
  refine ⟨rfl, fun hle1 => ⟨Kp.true, ?_⟩⟩
  refine Jp.y 10 rfl (want_all rfl) rfl rfl Kp.true (Y.move rfl rfl) ?_
  refine Jp.append 11 1 rfl (want_all rfl) rfl rfl rfl Try.underlying26 Try.underlying9 (.inr rfl) Try.sizeOf5 Try.typeInfo5 Try.zeroValue5 rfl (by decide) rfl rfl rfl Src.str (bytesV_one _) ((xs ++ encText (str s)).length) (bytesV (xs ++ encText (str s))) (by first | omega | simp) (by rw [e]; show bytesV (xs ++ leB s.size 4) ++ bytesV (str s) = _; exact List.map_append.symm) (by simp only [Try.t5]; omega) fun A2 c2 => ⟨Kp.true, ?_⟩
  refine Jp.y 4 rfl (want_all rfl) rfl rfl Kp.true (Y.assign rfl rfl) ?_
  refine Jp.done hK6 ?_
  refine Cd.ret [(1, _)] rfl (res1 rfl rfl) ⟨rfl, trivial⟩ ⟨rfl, A2, c2, rfl, rfl⟩
end Go.Proofs.Ytjjhihlmoecmlaa
