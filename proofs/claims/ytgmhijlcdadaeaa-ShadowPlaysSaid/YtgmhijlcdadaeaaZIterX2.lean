import Derived.Test.YtgmhijlcdadaeaaZIterX1
import Derived.Sort.AssemblyPlain
import Derived.Test.YtgmhijlcdadaeaaZMemX2
import Derived.Test.YtgmhijlcdadaeaaZMemX1
import Derived.Test.YtgmhijlcdadaeaaZEngY
set_option linter.unusedVariables false
set_option linter.unusedSimpArgs false
set_option maxRecDepth 100000
namespace Go.Proofs.Ytgmhijlcdadaeaa
open Go
theorem Jp.tab {P : Program} {n : Nat} {cx : Cx} {ρ : Hp} {E : Env} {L : Own} {ops : Array Oper} {Q : Exit → Act → World → Prop} {S : World → Prop} {π : List (Nat × Bool)} (t : Nat) {s : ByteArray} {q : Nat} {h : q < s.size} (ht : look E t = some (.int .u8 ((s[q]'h).toNat : Int)))
    (hs : (str s).all (fun b => decide (b.toNat ≤ 8)) = true) (hk : ∀ k : Nat, k ≤ 8 → Jp P ops Q S n cx π ρ ((t, .int .u8 k) :: E) L) : Jp P ops Q S n cx π ρ E L := by
  have h1 : (s[q]'h).toNat ≤ 8 := by
    have := List.all_eq_true.1 hs (s[q]'h) (by
      have : s[q]'h = (str s)[q]'(by rw [← str_size]; exact h) := by simp [str]; rfl
      rw [this]; exact List.getElem_mem _)
    exact of_decide_eq_true this
  exact Jp.slot t ht rfl (hk _ h1)
theorem len64_spec (x : Nat) (hx : x ≤ 4096) : Spec Try.prog 137 #[.int .u64 x] (fun _ => True) [] (fun ρ ρ' v L => ρ' = ρ ∧ (∃ k : Nat, k ≤ 64 ∧ v = .int .i64 k) ∧ L = []) := by
  refine Spec.of 25 Try.func137 rfl Try.ntmps137 [(0, _)] rfl rfl ?_
  intro cx ρ hr h0
  refine Cd.seq fun K1 hK1 => ?_
  refine Cd.plain [(0, false)] rfl rfl ?_
  refine Jp.y 2 rfl (want_all rfl) rfl rfl Kp.true (Y.assign rfl rfl) ?_
  refine Jp.done hK1 ?_
  refine Cd.seq fun K2 hK2 => ?_
  refine Cd.seq fun K3 hK3 => ?_
  refine Cd.plain [(0, false), (1, false)] rfl rfl ?_
  refine Jp.y 3 rfl (want_all rfl) rfl rfl Kp.true (Y.move rfl rfl) ?_
  refine Jp.y 4 rfl (want_all rfl) rfl rfl Kp.true (Y.geq rfl rfl rfl) ?_
  refine Jp.done hK3 ?_
  refine Cd.cond rfl (fun g4 => ?_) (fun g4 => ?_)
  · skip
    exact absurd g4 (by simp; omega)
  try simp only [decide_eq_false_iff_not, decide_eq_true_eq, Int.not_lt, Int.not_le, Bool.not_eq_false, Bool.not_eq_true, Bool.not_true, Bool.not_false, Bool.not_eq_true', Bool.not_eq_false', beq_eq_false_iff_ne, ne_eq, beq_iff_eq, bne_iff_ne, bne_eq_false_iff_eq, Classical.not_not] at g4
  refine Cd.skip hK2 ?_
  refine Cd.seq fun K4 hK4 => ?_
  refine Cd.seq fun K5 hK5 => ?_
  refine Cd.plain [(0, false), (1, false)] rfl rfl ?_
  refine Jp.y 7 rfl (want_all rfl) rfl rfl Kp.true (Y.move rfl rfl) ?_
  refine Jp.y 8 rfl (want_all rfl) rfl rfl Kp.true (Y.geq rfl rfl rfl) ?_
  refine Jp.done hK5 ?_
  refine Cd.cond rfl (fun g8 => ?_) (fun g8 => ?_)
  · skip
    exact absurd g8 (by simp; omega)
  try simp only [decide_eq_false_iff_not, decide_eq_true_eq, Int.not_lt, Int.not_le, Bool.not_eq_false, Bool.not_eq_true, Bool.not_true, Bool.not_false, Bool.not_eq_true', Bool.not_eq_false', beq_eq_false_iff_ne, ne_eq, beq_iff_eq, bne_iff_ne, bne_eq_false_iff_eq, Classical.not_not] at g8
  refine Cd.skip hK4 ?_
  refine Cd.seq fun K6 hK6 => ?_
  refine Cd.seq fun K7 hK7 => ?_
  refine Cd.plain [(0, false), (1, false)] rfl rfl ?_
  refine Jp.y 13 rfl (want_all rfl) rfl rfl Kp.true (Y.move rfl rfl) ?_
  refine Jp.y 14 rfl (want_all rfl) rfl rfl Kp.true (Y.geq rfl rfl rfl) ?_
  refine Jp.done hK7 ?_
  refine Cd.joinG (G := Nat × Nat) (fun g => g.1 < 256 ∧ g.2 ≤ 8) (fun g => [(0, .int .u64 g.1), (2, .int .i64 g.2)]) [] trivial (fun _ => []) [] trivial hK6 (fun g hφ => ?_) (fun hj1 => ?_)
  · obtain ⟨y, k0⟩ := g
    obtain ⟨hy, hk0⟩ := hφ
    dsimp only at hy hk0 ⊢
    refine Cd.seq fun K8 hK8 => ?_
    refine Cd.plain [(0, false), (1, false), (2, false), (3, false), (4, false), (5, false), (6, false)] rfl rfl ?_
    refine Jp.y 19 rfl (want_all rfl) rfl rfl Kp.true (Y.move rfl rfl) ?_
    refine Jp.y 20 rfl (want_all rfl) rfl rfl Kp.true (Y.move rfl rfl) ?_
    refine Jp.y 21 rfl (want_all rfl) rfl rfl Kp.true (Y.conv_ rfl rfl Try.underlying129 Try.underlying5 (by first | exact wrap_u8 (by omega) (by omega) | rfl)) ?_
    refine Jp.y 22 rfl (want_all rfl) rfl rfl Kp.true (Y.indexstr (q := y) rfl Try.underlying9 rfl rfl (by omega) (by show (y : Int) < ((256 : Nat) : Int); omega) (by omega)) ?_
    refine Jp.tab 22 rfl (by kernel_rfl) fun k hk => ?_
    refine Jp.y 23 rfl (want_all rfl) rfl rfl Kp.true (Y.conv_ rfl rfl Try.underlying5 Try.underlying3 (by first | exact wrap_i64 (by omega) (by omega) | rfl)) ?_
    refine Jp.y 24 rfl (want_all rfl) rfl rfl Kp.true (Y.add_ rfl rfl rfl (by first | exact wrap_i64 (by omega) (by omega) | rfl)) ?_
    refine Jp.y 2 rfl (want_all rfl) rfl rfl Kp.true (Y.assign rfl rfl) ?_
    refine Jp.done hK8 ?_
    refine Cd.ret [] rfl (res1 rfl rfl) trivial ⟨rfl, ⟨k0 + k, by omega, by simp⟩, rfl⟩
  · skip
    refine Cd.cond rfl (fun ga => ?_) (fun ga => ?_)
    · simp only [decide_eq_true_eq] at ga
      refine Cd.seq fun K9 hK9 => ?_
      refine Cd.plain [(0, false), (1, false), (2, false)] rfl rfl ?_
      refine Jp.y 15 rfl (want_all rfl) rfl rfl Kp.true (Y.move rfl rfl) ?_
      refine Jp.y 16 rfl (want_all rfl) rfl rfl Kp.true (Y.shr rfl rfl rfl (by first | decide | omega)) ?_
      refine Jp.slot 16 rfl (show _ = Value.int .u64 ((x / 256 : Nat) : Int) by rw [Int.fdiv_eq_ediv_of_nonneg _ (by decide)]; exact congrArg (Value.int .u64) (show (x : Int) / 256 = ((x / 256 : Nat) : Int) by omega)) ?_
      refine Jp.y 0 rfl (want_all rfl) rfl rfl Kp.true (Y.assign rfl rfl) ?_
      refine Jp.done hK9 ?_
      refine Cd.plain [(0, false), (1, false), (2, false)] rfl rfl ?_
      refine Jp.y 17 rfl (want_all rfl) rfl rfl Kp.true (Y.move rfl rfl) ?_
      refine Jp.y 18 rfl (want_all rfl) rfl rfl Kp.true (Y.add_ rfl rfl rfl (by first | exact wrap_i64 (by omega) (by omega) | rfl)) ?_
      refine Jp.y 2 rfl (want_all rfl) rfl rfl Kp.true (Y.assign rfl rfl) ?_
      refine Jp.done hK6 ?_
      exact Cd.meet (hj1 ⟨x / 256, 8⟩ ⟨by show x / 256 < 256; omega, Nat.le_refl _⟩) ⟨rfl, rfl, trivial⟩ trivial
    · simp only [decide_eq_false_iff_not] at ga
      refine Cd.skip hK6 ?_
      exact Cd.meet (hj1 ⟨x, 0⟩ ⟨by show x < 256; omega, Nat.zero_le _⟩) ⟨rfl, rfl, trivial⟩ trivial
theorem len_spec (x : Nat) (hx : x ≤ 4096) : Spec Try.prog 126 #[.int .u64 x] (fun _ => True) [] (fun ρ ρ' v L => ρ' = ρ ∧ (∃ k : Nat, k ≤ 64 ∧ v = .int .i64 k) ∧ L = []) := by
  refine Spec.of 8 Try.func126 rfl Try.ntmps126 [(0, _)] rfl rfl ?_
  intro cx ρ hr h0
  refine Cd.seq fun K10 hK10 => ?_
  refine Cd.plain [(0, false)] rfl rfl ?_
  refine Jp.y 2 rfl (want_all rfl) rfl rfl Kp.true (Y.assign rfl rfl) ?_
  refine Jp.done hK10 ?_
  refine Cd.seq fun K11 hK11 => ?_
  refine Cd.condF rfl ?_
  refine Cd.skip hK11 ?_
  refine Cd.seq fun K12 hK12 => ?_
  refine Cd.plain [(0, false), (1, false), (2, false)] rfl rfl ?_
  refine Jp.y 6 rfl (want_all rfl) rfl rfl Kp.true (Y.move rfl rfl) ?_
  refine Jp.call [] [] (len64_spec x hx) 7 rfl (want_all rfl) rfl rfl (Runs.fn rfl Try.call137 rfl) (by decide) (by decide) rfl trivial ?_
  rintro v1 ρ1 L1 ⟨rfl, ⟨k, hk, rfl⟩, rfl⟩
  refine ⟨rfl, fun hle1 => ⟨Kp.true, ?_⟩⟩
  refine Jp.y 2 rfl (want_all rfl) rfl rfl Kp.true (Y.assign rfl rfl) ?_
  refine Jp.done hK12 ?_
  refine Cd.ret [] rfl (res1 rfl rfl) trivial ⟨rfl, ⟨k, hk, rfl⟩, rfl⟩
end Go.Proofs.Ytgmhijlcdadaeaa
set_option linter.unusedVariables false
set_option linter.unusedSimpArgs false
set_option maxRecDepth 100000
namespace Go.Proofs.Ytgmhijlcdadaeaa
open Go
theorem swoN : Go.Sort.SWO ltN := ⟨fun x => by simp [ltN], fun x y z h1 h2 => by simp [ltN] at *; omega, fun x y z h1 h2 => by simp [ltN] at *; omega⟩
theorem sorted_le {r : Array Nat} (hs : Go.Sort.SortedIn ltN 0 r.size r) : r.toList.Pairwise (· ≤ ·) := by
  rw [List.pairwise_iff_getElem]
  intro i j hi hj hij
  have hj' : j < r.size := by simpa using hj
  have := hs i j (Nat.zero_le _) hij hj'
  have hi' : i < r.size := by omega
  simp only [ltN, getElem!_pos r i hi', getElem!_pos r j hj', decide_eq_false_iff_not] at this
  simp; omega
theorem sorted_is {r : Array Nat} {s K : List Nat} (hp : r.toList.Perm s) (hs : Go.Sort.SortedIn ltN 0 r.size r) (hk : s.Perm K) (hK : K.Pairwise (· < ·)) : r.toList = K :=
  List.Perm.eq_of_pairwise (le := (· ≤ ·)) (fun a b _ _ h1 h2 => by omega) (sorted_le hs) (hK.imp fun h => Nat.le_of_lt h) (hp.trans hk)
theorem permIn_perm {d r : Array Nat} (h : Go.Sort.PermIn 0 d.size d r) : r.size = d.size ∧ r.toList.Perm d.toList := by
  obtain ⟨h1, _, h3⟩ := h
  refine ⟨h1, ?_⟩
  have e1 : (r.extract 0 d.size).toList = r.toList := by rw [← h1]; simp
  have e2 : (d.extract 0 d.size).toList = d.toList := by simp
  rw [e1, e2] at h3; exact h3
def SortsTo (n : Nat) : Prop := ∀ (A : Option Addr) (c : Nat) (d : Array Nat), d.size = n → Spec Try.prog 111 #[.slice A n c] (fun _ => True) [(0, rowO A n c d)]
    (fun ρ ρ' v L => ρ' = ρ ∧ v = .tuple #[] ∧ ∃ r : Array Nat, r.toList.Perm d.toList ∧ Go.Sort.SortedIn ltN 0 r.size r ∧ L = [(0, rowO A n c r)])
theorem natsV_inj {s : List Value} (h : ∀ v ∈ s, ∃ x : Nat, v = .int .u32 x) : ∃ l : List Nat, s = natsV .u32 l := by
  induction s with
  | nil => exact ⟨[], rfl⟩
  | cons v s ih =>
    obtain ⟨x, rfl⟩ := h v (by simp)
    obtain ⟨l, rfl⟩ := ih fun v hv => h v (List.mem_cons_of_mem _ hv)
    exact ⟨x :: l, rfl⟩
theorem natsV_perm {l K : List Nat} (h : (natsV .u32 l).Perm (natsV .u32 K)) : l.Perm K := by
  have h2 := h.map fun v => match v with | .int _ x => x.toNat | _ => 0
  simpa [natsV, List.map_map, Function.comp_def] using h2
end Go.Proofs.Ytgmhijlcdadaeaa
set_option linter.unusedVariables false
set_option linter.unusedSimpArgs false
set_option maxRecDepth 100000
namespace Go.Proofs.Ytgmhijlcdadaeaa
open Go
end Go.Proofs.Ytgmhijlcdadaeaa
set_option linter.unusedVariables false
set_option linter.unusedSimpArgs false
set_option maxRecDepth 100000
namespace Go.Proofs.Ytgmhijlcdadaeaa
open Go
end Go.Proofs.Ytgmhijlcdadaeaa
