import Derived.Test.YtgmhijlcdadaeaaZIterX1
import Derived.Sort.AssemblyPlain
import Derived.Test.YtgmhijlcdadaeaaZMemX2
import Derived.Test.YtgmhijlcdadaeaaZMemX1
import Derived.Test.YtgmhijlcdadaeaaZEngY
set_option linter.unusedVariables false
set_option linter.unusedSimpArgs false
set_option maxRecDepth 100000
namespace Go.Proofs.Ytgmhijlcdadaeaa
open Go
theorem Jp.tab {P : Program} {n : Nat} {cx : Cx} {ρ : Hp} {E : Env} {L : Own} {ops : Array Oper} {Q : Exit → Act → World → Prop} {S : World → Prop} {π : List (Nat × Bool)} (t : Nat) {s : ByteArray} {q : Nat} {h : q < s.size} (ht : look E t = some (.int .u8 ((s[q]'h).toNat : Int)))
    (hs : (str s).all (fun b => decide (b.toNat ≤ 8)) = true) (hk : ∀ k : Nat, k ≤ 8 → Jp P ops Q S n cx π ρ ((t, .int .u8 k) :: E) L) : Jp P ops Q S n cx π ρ E L := by
  have h1 : (s[q]'h).toNat ≤ 8 := by
    have := List.all_eq_true.1 hs (s[q]'h) (by
      have : s[q]'h = (str s)[q]'(by rw [← str_size]; exact h) := by simp [str]; rfl
      rw [this]; exact List.getElem_mem _)
    exact of_decide_eq_true this
  exact Jp.slot t ht rfl (hk _ h1)
theorem len64_spec (x : Nat) (hx : x ≤ 4096) : Spec Try.prog 137 #[.int .u64 x] (fun _ => True) [] (fun ρ ρ' v L => ρ' = ρ ∧ (∃ k : Nat, k ≤ 64 ∧ v = .int .i64 k) ∧ L = []) := by
  refine Spec.of 25 Try.func137 rfl Try.ntmps137 [(0, _)] rfl rfl ?_
  intro cx ρ hr h0
  refine Cd.seq fun K1 hK1 => ?_
  refine Cd.plain [(0, false)] rfl rfl ?_
  refine Jp.y 2 rfl (want_all rfl) rfl rfl Kp.true (Y.assign rfl rfl) ?_
  refine Jp.done hK1 ?_
  refine Cd.seq fun K2 hK2 => ?_
  refine Cd.seq fun K3 hK3 => ?_
  refine Cd.plain [(0, false), (1, false)] rfl rfl ?_
  refine Jp.y 3 rfl (want_all rfl) rfl rfl Kp.true (Y.move rfl rfl) ?_
  refine Jp.y 4 rfl (want_all rfl) rfl rfl Kp.true (Y.geq rfl rfl rfl) ?_
  refine Jp.done hK3 ?_
  refine Cd.cond rfl (fun g4 => ?_) (fun g4 => ?_)
  · skip
    exact absurd g4 (by simp; omega)
  try simp only [decide_eq_false_iff_not, decide_eq_true_eq, Int.not_lt, Int.not_le, Bool.not_eq_false, Bool.not_eq_true, Bool.not_true, Bool.not_false, Bool.not_eq_true', Bool.not_eq_false', beq_eq_false_iff_ne, ne_eq, beq_iff_eq, bne_iff_ne, bne_eq_false_iff_eq, Classical.not_not] at g4
  refine Cd.skip hK2 ?_
  refine Cd.seq fun K4 hK4 => ?_
  refine Cd.seq fun K5 hK5 => ?_
  refine Cd.plain [(0, false), (1, false)] rfl rfl ?_
  refine Jp.y 7 rfl (want_all rfl) rfl rfl Kp.true (Y.move rfl rfl) ?_
  refine Jp.y 8 rfl (want_all rfl) rfl rfl Kp.true (Y.geq rfl rfl rfl) ?_
  refine Jp.done hK5 ?_
  refine Cd.cond rfl (fun g8 => ?_) (fun g8 => ?_)
  · skip
    exact absurd g8 (by simp; omega)
  try simp only [decide_eq_false_iff_not, decide_eq_true_eq, Int.not_lt, Int.not_le, Bool.not_eq_false, Bool.not_eq_true, Bool.not_true, Bool.not_false, Bool.not_eq_true', Bool.not_eq_false', beq_eq_false_iff_ne, ne_eq, beq_iff_eq, bne_iff_ne, bne_eq_false_iff_eq, Classical.not_not] at g8
  refine Cd.skip hK4 ?_
  refine Cd.seq fun K6 hK6 => ?_
  refine Cd.seq fun K7 hK7 => ?_
  refine Cd.plain [(0, false), (1, false)] rfl rfl ?_
  refine Jp.y 13 rfl (want_all rfl) rfl rfl Kp.true (Y.move rfl rfl) ?_
  refine Jp.y 14 rfl (want_all rfl) rfl rfl Kp.true (Y.geq rfl rfl rfl) ?_
  refine Jp.done hK7 ?_
  refine Cd.joinG (G := Nat × Nat) (fun g => g.1 < 256 ∧ g.2 ≤ 8) (fun g => [(0, .int .u64 g.1), (2, .int .i64 g.2)]) [] trivial (fun _ => []) [] trivial hK6 (fun g hφ => ?_) (fun hj1 => ?_)
  · obtain ⟨y, k0⟩ := g
    obtain ⟨hy, hk0⟩ := hφ
    dsimp only at hy hk0 ⊢
    refine Cd.seq fun K8 hK8 => ?_
    refine Cd.plain [(0, false), (1, false), (2, false), (3, false), (4, false), (5, false), (6, false)] rfl rfl ?_
    refine Jp.y 19 rfl (want_all rfl) rfl rfl Kp.true (Y.move rfl rfl) ?_
    refine Jp.y 20 rfl (want_all rfl) rfl rfl Kp.true (Y.move rfl rfl) ?_
    refine Jp.y 21 rfl (want_all rfl) rfl rfl Kp.true (Y.conv_ rfl rfl Try.underlying129 Try.underlying5 (by first | exact wrap_u8 (by omega) (by omega) | rfl)) ?_
    refine Jp.y 22 rfl (want_all rfl) rfl rfl Kp.true (Y.indexstr (q := y) rfl Try.underlying9 rfl rfl (by omega) (by show (y : Int) < ((256 : Nat) : Int); omega) (by omega)) ?_
    refine Jp.tab 22 rfl (by kernel_rfl) fun k hk => ?_
    refine Jp.y 23 rfl (want_all rfl) rfl rfl Kp.true (Y.conv_ rfl rfl Try.underlying5 Try.underlying3 (by first | exact wrap_i64 (by omega) (by omega) | rfl)) ?_
    refine Jp.y 24 rfl (want_all rfl) rfl rfl Kp.true (Y.add_ rfl rfl rfl (by first | exact wrap_i64 (by omega) (by omega) | rfl)) ?_
    refine Jp.y 2 rfl (want_all rfl) rfl rfl Kp.true (Y.assign rfl rfl) ?_
    refine Jp.done hK8 ?_
    refine Cd.ret [] rfl (res1 rfl rfl) trivial ⟨rfl, ⟨k0 + k, by omega, by simp⟩, rfl⟩
  · skip
    refine Cd.cond rfl (fun ga => ?_) (fun ga => ?_)
    · simp only [decide_eq_true_eq] at ga
      refine Cd.seq fun K9 hK9 => ?_
      refine Cd.plain [(0, false), (1, false), (2, false)] rfl rfl ?_
      refine Jp.y 15 rfl (want_all rfl) rfl rfl Kp.true (Y.move rfl rfl) ?_
      refine Jp.y 16 rfl (want_all rfl) rfl rfl Kp.true (Y.shr rfl rfl rfl (by first | decide | omega)) ?_
      refine Jp.slot 16 rfl (show _ = Value.int .u64 ((x / 256 : Nat) : Int) by rw [Int.fdiv_eq_ediv_of_nonneg _ (by decide)]; exact congrArg (Value.int .u64) (show (x : Int) / 256 = ((x / 256 : Nat) : Int) by omega)) ?_
      refine Jp.y 0 rfl (want_all rfl) rfl rfl Kp.true (Y.assign rfl rfl) ?_
      refine Jp.done hK9 ?_
      refine Cd.plain [(0, false), (1, false), (2, false)] rfl rfl ?_
      refine Jp.y 17 rfl (want_all rfl) rfl rfl Kp.true (Y.move rfl rfl) ?_
      refine Jp.y 18 rfl (want_all rfl) rfl rfl Kp.true (Y.add_ rfl rfl rfl (by first | exact wrap_i64 (by omega) (by omega) | rfl)) ?_
      refine Jp.y 2 rfl (want_all rfl) rfl rfl Kp.true (Y.assign rfl rfl) ?_
      refine Jp.done hK6 ?_
      exact Cd.meet (hj1 ⟨x / 256, 8⟩ ⟨by show x / 256 < 256; omega, Nat.le_refl _⟩) ⟨rfl, rfl, trivial⟩ trivial
    · simp only [decide_eq_false_iff_not] at ga
      refine Cd.skip hK6 ?_
      exact Cd.meet (hj1 ⟨x, 0⟩ ⟨by show x < 256; omega, Nat.zero_le _⟩) ⟨rfl, rfl, trivial⟩ trivial
theorem len_spec (x : Nat) (hx : x ≤ 4096) : Spec Try.prog 126 #[.int .u64 x] (fun _ => True) [] (fun ρ ρ' v L => ρ' = ρ ∧ (∃ k : Nat, k ≤ 64 ∧ v = .int .i64 k) ∧ L = []) := by
  refine Spec.of 8 Try.func126 rfl Try.ntmps126 [(0, _)] rfl rfl ?_
  intro cx ρ hr h0
  refine Cd.seq fun K10 hK10 => ?_
  refine Cd.plain [(0, false)] rfl rfl ?_
  refine Jp.y 2 rfl (want_all rfl) rfl rfl Kp.true (Y.assign rfl rfl) ?_
  refine Jp.done hK10 ?_
  refine Cd.seq fun K11 hK11 => ?_
  refine Cd.condF rfl ?_
  refine Cd.skip hK11 ?_
  refine Cd.seq fun K12 hK12 => ?_
  refine Cd.plain [(0, false), (1, false), (2, false)] rfl rfl ?_
  refine Jp.y 6 rfl (want_all rfl) rfl rfl Kp.true (Y.move rfl rfl) ?_
  refine Jp.call [] [] (len64_spec x hx) 7 rfl (want_all rfl) rfl rfl (Runs.fn rfl Try.call137 rfl) (by decide) (by decide) rfl trivial ?_
  rintro v1 ρ1 L1 ⟨rfl, ⟨k, hk, rfl⟩, rfl⟩
  refine ⟨rfl, fun hle1 => ⟨Kp.true, ?_⟩⟩
  refine Jp.y 2 rfl (want_all rfl) rfl rfl Kp.true (Y.assign rfl rfl) ?_
  refine Jp.done hK12 ?_
  refine Cd.ret [] rfl (res1 rfl rfl) trivial ⟨rfl, ⟨k, hk, rfl⟩, rfl⟩
end Go.Proofs.Ytgmhijlcdadaeaa
set_option linter.unusedVariables false
set_option linter.unusedSimpArgs false
set_option maxRecDepth 100000
namespace Go.Proofs.Ytgmhijlcdadaeaa
open Go
theorem swoN : Go.Sort.SWO ltN := ⟨fun x => by simp [ltN], fun x y z h1 h2 => by simp [ltN] at *; omega, fun x y z h1 h2 => by simp [ltN] at *; omega⟩
theorem sorted_le {r : Array Nat} (hs : Go.Sort.SortedIn ltN 0 r.size r) : r.toList.Pairwise (· ≤ ·) := by
  rw [List.pairwise_iff_getElem]
  intro i j hi hj hij
  have hj' : j < r.size := by simpa using hj
  have := hs i j (Nat.zero_le _) hij hj'
  have hi' : i < r.size := by omega
  simp only [ltN, getElem!_pos r i hi', getElem!_pos r j hj', decide_eq_false_iff_not] at this
  simp; omega
theorem sorted_is {r : Array Nat} {s K : List Nat} (hp : r.toList.Perm s) (hs : Go.Sort.SortedIn ltN 0 r.size r) (hk : s.Perm K) (hK : K.Pairwise (· < ·)) : r.toList = K :=
  List.Perm.eq_of_pairwise (le := (· ≤ ·)) (fun a b _ _ h1 h2 => by omega) (sorted_le hs) (hK.imp fun h => Nat.le_of_lt h) (hp.trans hk)
theorem permIn_perm {d r : Array Nat} (h : Go.Sort.PermIn 0 d.size d r) : r.size = d.size ∧ r.toList.Perm d.toList := by
  obtain ⟨h1, _, h3⟩ := h
  refine ⟨h1, ?_⟩
  have e1 : (r.extract 0 d.size).toList = r.toList := by rw [← h1]; simp
  have e2 : (d.extract 0 d.size).toList = d.toList := by simp
  rw [e1, e2] at h3; exact h3
def SortsTo (n : Nat) : Prop := ∀ (A : Option Addr) (c : Nat) (d : Array Nat), d.size = n → Spec Try.prog 111 #[.slice A n c] (fun _ => True) [(0, rowO A n c d)]
    (fun ρ ρ' v L => ρ' = ρ ∧ v = .tuple #[] ∧ ∃ r : Array Nat, r.toList.Perm d.toList ∧ Go.Sort.SortedIn ltN 0 r.size r ∧ L = [(0, rowO A n c r)])
theorem natsV_inj {s : List Value} (h : ∀ v ∈ s, ∃ x : Nat, v = .int .u32 x) : ∃ l : List Nat, s = natsV .u32 l := by
  induction s with
  | nil => exact ⟨[], rfl⟩
  | cons v s ih =>
    obtain ⟨x, rfl⟩ := h v (by simp)
    obtain ⟨l, rfl⟩ := ih fun v hv => h v (List.mem_cons_of_mem _ hv)
    exact ⟨x :: l, rfl⟩
theorem natsV_perm {l K : List Nat} (h : (natsV .u32 l).Perm (natsV .u32 K)) : l.Perm K := by
  have h2 := h.map fun v => match v with | .int _ x => x.toNat | _ => 0
  simpa [natsV, List.map_map, Function.comp_def] using h2
theorem sorted_spec (cb pb : Nat) (pm : MapL) (K : List Nat) (hK : K.Pairwise (· < ·)) (hp : (pm.map (·.1)).Perm (K.map fun k : Nat => (k : Int))) (hlen : pm.length ≤ 4096) (hsort : SortsTo pm.length) : Spec Try.prog 73 #[kfn cb] (fun _ => True) [(0, capO cb pb), (1, MapO .u32 pb pm)]
    (fun ρ ρ' v L => ∃ A c, v = .slice A K.length c ∧ L = [(0, capO cb pb), (1, MapO .u32 pb pm), (2, OwnS 25 1 A K.length c (natsV .u32 K))]) := by
  refine Spec.of 9 Try.func73 rfl Try.ntmps73 [(0, _)] rfl rfl ?_
  intro cx ρ hr h0
  have hkeys : (keysV pm).Perm (natsV .u32 K) := by
    have := hp.map fun x : Int => Value.int .u32 x
    simpa [keysV, natsV, List.map_map, Function.comp_def] using this
  have hKl : K.length = pm.length := by have := hp.length_eq; simpa using this.symm
  refine Cd.seq fun K1 hK1 => ?_
  refine Cd.plain [(0, false)] rfl rfl ?_
  refine Jp.y 2 rfl (want_all rfl) rfl rfl Kp.true (Y.assign rfl rfl) ?_
  refine Jp.done hK1 ?_
  refine Cd.seq fun K2 hK2 => ?_
  refine Cd.plain [(0, false), (1, false), (2, false)] rfl rfl ?_
  refine Jp.y 4 rfl (want_all rfl) rfl rfl Kp.true (Y.move rfl rfl) ?_
  refine Jp.call [0, 1] [0, 1, 2] (collect_spec cb pb pm hlen) 5 rfl (want_all rfl) rfl rfl (Runs.fn rfl Try.call110 rfl) (by decide) (by decide) rfl trivial ?_
  rintro v1 ρ1 L1 ⟨s, A, c, hs, rfl, rfl⟩
  refine ⟨rfl, fun hle1 => ⟨Kp.true, ?_⟩⟩
  obtain ⟨l, rfl⟩ := natsV_inj (s := s) fun v hv => by
    obtain ⟨x, _, rfl⟩ := List.mem_map.1 ((hs.trans hkeys).mem_iff.1 hv)
    exact ⟨x, rfl⟩
  have hperm := natsV_perm (hs.trans hkeys)
  have hsl : (natsV .u32 l).length = K.length := by rw [natsV, List.length_map]; exact hperm.length_eq
  have hll : l.length = pm.length := by rw [← hKl]; exact hperm.length_eq
  rw [hsl, hKl]
  refine Jp.y 3 rfl (want_all rfl) rfl rfl Kp.true (Y.assign rfl rfl) ?_
  refine Jp.done hK2 ?_
  refine Cd.seq fun K3 hK3 => ?_
  refine Cd.plain [(0, false), (1, false)] rfl rfl ?_
  refine Jp.imp (j := 2) rfl (fun h hh => (show rowO A pm.length c l.toArray h from hh)) ?_
  refine Jp.y 6 rfl (want_all rfl) rfl rfl Kp.true (Y.move rfl rfl) ?_
  refine Jp.call [2] [2] (hsort A c l.toArray (by simpa using hll)) 7 rfl (want_all rfl) rfl rfl (Runs.fn rfl Try.call111 rfl) (by decide) (by decide) rfl trivial ?_
  rintro v2 ρ2 L2 ⟨rfl, rfl, r, hr1, hr2, rfl⟩
  refine ⟨rfl, fun hle2 => ⟨Kp.true, ?_⟩⟩
  have hrK : r.toList = K := sorted_is hr1 hr2 (by simpa using hperm) hK
  refine Jp.done hK3 ?_
  refine Cd.seq fun K4 hK4 => ?_
  refine Cd.plain [(0, false), (1, false)] rfl rfl ?_
  refine Jp.y 8 rfl (want_all rfl) rfl rfl Kp.true (Y.move rfl rfl) ?_
  refine Jp.y 2 rfl (want_all rfl) rfl rfl Kp.true (Y.assign rfl rfl) ?_
  refine Jp.done hK4 ?_
  refine Cd.imp (i := 2) rfl (fun h hh => (show OwnS 25 1 A pm.length c (natsV .u32 K) h by rw [← hrK]; exact hh)) ?_
  refine Cd.ret [(0, _), (1, _), (2, _)] rfl (res1 rfl rfl) ⟨rfl, rfl, rfl, trivial⟩ ⟨A, c, by rw [hKl], by rw [hKl]⟩
end Go.Proofs.Ytgmhijlcdadaeaa
set_option linter.unusedVariables false
set_option linter.unusedSimpArgs false
set_option maxRecDepth 100000
namespace Go.Proofs.Ytgmhijlcdadaeaa
open Go
theorem cloneGens_spec (b : Nat) (m : MapL) : Spec Try.prog 101 #[.map (some b)] (fun _ => True) [(0, MapO .u32 b m)] (fun ρ ρ' v L => ρ' = ρ ∧ ∃ b', v = .map (some b') ∧ L = [(0, MapO .u32 b m), (1, MapO .u32 b' m)]) := by
  refine Spec.of 9 Try.func101 rfl Try.ntmps101 [(0, _)] rfl rfl ?_
  intro cx ρ hr h0
  refine Cd.seq fun K1 hK1 => ?_
  refine Cd.plain [(0, false)] rfl rfl ?_
  refine Jp.y 2 rfl (want_all rfl) rfl rfl Kp.true (Y.assign rfl rfl) ?_
  refine Jp.done hK1 ?_
  refine Cd.seq fun K2 hK2 => ?_
  refine Cd.seq fun K3 hK3 => ?_
  refine Cd.plain [(0, false), (1, false)] rfl rfl ?_
  refine Jp.y 3 rfl (want_all rfl) rfl rfl Kp.true (Y.move rfl rfl) ?_
  refine Jp.y 4 rfl (want_all rfl) rfl rfl Kp.true (Y.mapNil rfl Try.underlying113 rfl rfl) ?_
  refine Jp.done hK3 ?_
  refine Cd.cond rfl (fun g4 => ?_) (fun g4 => ?_)
  · skip
    exact absurd g4 (by simp)
  try simp only [decide_eq_false_iff_not, decide_eq_true_eq, Int.not_lt, Int.not_le, Bool.not_eq_false, Bool.not_eq_true, Bool.not_true, Bool.not_false, Bool.not_eq_true', Bool.not_eq_false', beq_eq_false_iff_ne, ne_eq, beq_iff_eq, bne_iff_ne, bne_eq_false_iff_eq, Classical.not_not] at g4
  refine Cd.skip hK2 ?_
  refine Cd.seq fun K4 hK4 => ?_
  refine Cd.plain [(0, false), (1, false), (2, false), (3, false), (4, false)] rfl rfl ?_
  refine Jp.y 5 rfl (want_all rfl) rfl rfl Kp.true (Y.move rfl rfl) ?_
  refine Jp.y 6 rfl (want_all rfl) rfl rfl Kp.true (Y.ifaceMap rfl Try.underlying113 rfl) ?_
  refine Jp.cloneMap 7 0 1 rfl (want_all rfl) rfl rfl rfl (fun args w => run_callFunc_standIn Try.func114 (by kernel_rfl) (by kernel_rfl) (by kernel_rfl) (by kernel_rfl) args w) rfl rfl fun b1 => ⟨Kp.true, ?_⟩
  refine Jp.y 8 rfl (want_all rfl) rfl rfl Kp.true (Y.assertMap rfl Try.underlying113 rfl) ?_
  refine Jp.y 2 rfl (want_all rfl) rfl rfl Kp.true (Y.assign rfl rfl) ?_
  refine Jp.done hK4 ?_
  refine Cd.ret [(0, _), (1, _)] rfl (res1 rfl rfl) ⟨rfl, rfl, trivial⟩ ⟨rfl, b1, rfl, rfl⟩
theorem spl_full {cur : Array Value} {cs : List Value} (h : cs.length = cur.size) : spl cur 0 cs = cs.toArray := by
  apply Array.ext_getElem?
  intro j
  rw [spl_get cs cur 0 j (by omega)]
  by_cases hj : j < cs.length
  · rw [if_pos ⟨Nat.zero_le _, by omega⟩]; simp
  · rw [if_neg (by omega)]
    have h1 : cur[j]? = none := by rw [Array.getElem?_eq_none_iff]; omega
    rw [h1]; simp; omega
theorem pageCells_length {x : Nat × Pg} (h : PgOk x) : (pageCells x.2).length = 257 := by simp [pageCells, bytesV, h.len]
theorem pageCells_one (p : Pg) : (pageCells p).all one = true := by
  rw [pageCells, List.all_append, bytesV_one]; rfl
theorem copy_spec (b : Nat) (M : MemG) : Spec Try.prog 61 #[.pointer (some ⟨b, 0, none⟩)] (fun _ => True) [(0, MemO b M)] (fun ρ ρ' v L => ρ' = ρ ∧ ∃ b', v = .pointer (some ⟨b', 0, none⟩) ∧ L = [(0, MemO b M), (1, MemO b' M)]) := by
  refine Spec.of 38 Try.func61 rfl Try.ntmps61 [(0, _)] rfl rfl ?_
  intro cx ρ hr h0
  refine Cd.memOpen 0 5 6 7 (by decide) rfl fun x hf => ?_
  dsimp only [memObj]
  obtain ⟨K, hK⟩ : ∃ K : MapL → List (Nat × Pg), K = fun l => l.map fun y => (y.1.toNat, (getPg M.pages y.1.toNat).getD ⟨[], 0⟩) := ⟨_, rfl⟩
  have hnd : (M.pages.map (·.1)).Nodup := hf.ok.rising.nodup
  have hpg : ∀ p ∈ M.pages, (p.1, (getPg M.pages p.1).getD ⟨[], 0⟩) = p := fun p hp => by rw [getPg_of_mem hnd (k := p.1) (p := p.2) hp]; rfl
  have hstart : (([] : List (Nat × Pg)) ++ K x.pm).Perm M.pages := by
    have h1 := hf.pages.map fun y => (y.1.toNat, (getPg M.pages y.1.toNat).getD ⟨[], 0⟩)
    rw [List.map_map] at h1
    rw [hK]
    refine h1.trans (List.Perm.of_eq ?_)
    conv => rhs; rw [← List.map_id M.pages]
    exact List.map_congr_left fun p hp => hpg p hp
  refine Cd.seq fun K5 hK5 => ?_
  refine Cd.plain [(0, false)] rfl rfl ?_
  refine Jp.y 2 rfl (want_all rfl) rfl rfl Kp.true (Y.assign rfl rfl) ?_
  refine Jp.done hK5 ?_
  refine Cd.seq fun K6 hK6 => ?_
  refine Cd.drawnF [(0, _)] ⟨rfl, trivial⟩ [(0, true), (1, true), (2, true), (3, true), (5, true), (6, true), (7, true), (8, true)] [(4, false), (9, false), (10, true), (11, false), (12, true)] [(9, false), (4, false), (10, true), (11, false), (12, true)] follows (by kernel_rfl) (fun hrl => ?_)
  refine JpF.q 7 rfl (want_all rfl) rfl rfl (Y.move rfl rfl) ?_
  refine JpF.q 8 rfl (want_all rfl) rfl rfl (Y.nilCheck rfl rfl) ?_
  refine JpF.q 9 rfl (want_all rfl) rfl rfl (by first | exact Y.fieldAddrP rfl rfl Try.underlying115 rfl Try.sizeOf3 (by decide) (show _ + 0 = _ from rfl) | exact Y.fieldAddr rfl rfl Try.underlying115 rfl Try.sizeOf3 (by decide)) ?_
  refine JpF.q 10 rfl (want_all rfl) rfl rfl (by first | exact Y.loadO 0 rfl Try.isAgg3 rfl rfl rfl | exact Y.loadO 10 rfl Try.isAgg3 rfl rfl rfl) ?_
  refine JpF.q 12 rfl (want_all rfl) rfl rfl (Y.move rfl rfl) ?_
  refine JpF.q 13 rfl (want_all rfl) rfl rfl (Y.nilCheck rfl rfl) ?_
  refine JpF.q 14 rfl (want_all rfl) rfl rfl (by first | exact Y.fieldAddrP rfl rfl Try.underlying115 rfl Try.sizeOf113 (by decide) (show _ + 2 = _ from rfl) | exact Y.fieldAddr rfl rfl Try.underlying115 rfl Try.sizeOf113 (by decide)) ?_
  refine JpF.q 15 rfl (want_all rfl) rfl rfl (by first | exact Y.loadO 0 rfl Try.isAgg113 rfl rfl rfl | exact Y.loadO 10 rfl Try.isAgg113 rfl rfl rfl) ?_
  refine JpF.split ?_ ?_
  · skip
    refine Jp.makeMap 11 8 .u32 rfl (want_all rfl) rfl rfl rfl fun b8 => ⟨(Kp.st ⟨rfl, trivial⟩), ?_⟩
    refine Jp.call [6] [6, 9] (cloneGens_spec x.gb x.gm) 16 rfl (want_all rfl) rfl rfl (Runs.fn rfl Try.call101 rfl) (by decide) (by decide) rfl trivial ?_
    rintro v1 ρ1 L1 ⟨rfl, b9, rfl, rfl⟩
    refine ⟨rfl, fun hle1 => ⟨(Kp.st ⟨rfl, trivial⟩), ?_⟩⟩
    refine Jp.q 17 rfl (want_all rfl) rfl rfl (Y.struct [(0, _), (1, _), (2, _)] [_, _, _] rfl rfl places115 Try.zeroValue115 rfl) ?_
    refine Jp.box 1 18 rfl (want_all rfl) rfl rfl rfl rfl fun b1 => ⟨(Kp.st ⟨rfl, trivial⟩), ?_⟩
    refine Jp.q 3 rfl (want_all rfl) rfl rfl (Y.assign rfl rfl) ?_
    refine Jp.done hK6 ?_
    refine Cd.seq fun K7 hK7 => ?_
    refine Cd.seq fun K8 hK8 => ?_
    refine Cd.plain [(0, false), (1, false), (2, false), (3, false), (4, false)] rfl rfl ?_
    refine Jp.y 19 rfl (want_all rfl) rfl rfl Kp.true (Y.move rfl rfl) ?_
    refine Jp.y 20 rfl (want_all rfl) rfl rfl Kp.true (Y.nilCheck rfl rfl) ?_
    refine Jp.y 21 rfl (want_all rfl) rfl rfl Kp.true (by first | exact Y.fieldAddrP rfl rfl Try.underlying115 rfl Try.sizeOf112 (by decide) (show _ + 1 = _ from rfl) | exact Y.fieldAddr rfl rfl Try.underlying115 rfl Try.sizeOf112 (by decide)) ?_
    refine Jp.y 22 rfl (want_all rfl) rfl rfl Kp.true (by first | exact Y.loadO 0 rfl Try.isAgg112 rfl rfl rfl | exact Y.loadO 1 rfl Try.isAgg112 rfl rfl rfl | exact Y.loadO 1 rfl Try.isAgg112 rfl rfl rfl) ?_
    first | refine Jp.range 23 5 50 (by decide) rfl (want_all rfl) rfl rfl rfl rfl Try.underlying112 rfl fun r5 => ⟨Kp.true, ?_⟩
    refine Jp.done hK8 ?_
    refine Cd.block ?_
    refine Cd.make 11 (A := Blks []) Blks.nil ?_
    refine Cd.loopK (G := MapL × List (Nat × Pg) × (Nat → Nat) × Option (Int × Value)) (fun g => (g.2.1 ++ K g.1).Perm M.pages ∧ (∀ y ∈ g.1, y ∈ x.pm)) (fun g => g.1.length) (fun _ => _) (fun g => []) [(3, _), (23, _)] (fun g => [(5, RangeO .u32 x.pb r5 x.pm g.1 g.2.2.2), (8, MapO .u32 b8 (g.2.1.map fun p => ((p.1 : Int), .pointer (some ⟨g.2.2.1 p.1, 0, none⟩)))), (11, Blks (g.2.1.map fun p => (g.2.2.1 p.1, pageO p.2)))]) [(0, _), (6, _), (7, _), (9, _), (1, _)] ⟨x.pm, [], fun _ => 0, none⟩ ⟨hstart, fun y hy => hy⟩ rfl trivial ⟨rfl, rfl, trivial⟩ ⟨rfl, rfl, rfl, trivial⟩ ⟨rfl, rfl, rfl, rfl, rfl, trivial⟩ (fun g KLa hok hLa => ?_)
    obtain ⟨left, ps, blk, cur⟩ := g
    obtain ⟨ok1, ok2⟩ := hok
    dsimp only at ok1 ok2 ⊢
    refine Cd.seq fun K9 hK9 => ?_
    refine Cd.plain [(0, false), (1, false)] rfl rfl ?_
    refine Jp.next 24 5 rfl (want_all rfl) rfl rfl (fun _ => rfl) rfl rfl (fun hn => ⟨Kp.true, ?_⟩) (fun q y hq => ⟨Kp.true, ?_⟩)
    · skip
      refine Jp.y 25 rfl (want_all rfl) rfl rfl Kp.true (Y.extract rfl rfl rfl) ?_
      refine Jp.done hK9 ?_
      refine Cd.seq fun K10 hK10 => ?_
      refine Cd.condF rfl ?_
      refine Cd.exit rfl hK7 ?_
      refine Cd.seq fun K11 hK11 => ?_
      refine Cd.plain [(0, false), (1, false)] rfl rfl ?_
      refine Jp.y 37 rfl (want_all rfl) rfl rfl Kp.true (Y.move rfl rfl) ?_
      refine Jp.y 2 rfl (want_all rfl) rfl rfl Kp.true (Y.assign rfl rfl) ?_
      refine Jp.done hK11 ?_
      subst hn
      have hps : ps.Perm M.pages := by simpa [hK] using ok1
      refine Cd.imp (i := 5) rfl RangeO.map ?_
      refine Cd.imp (i := 11) rfl (Blks.perm (hps.map _)) ?_
      have hf' : MemF M ⟨b8, b9, ps.map fun p => ((p.1 : Int), .pointer (some ⟨blk p.1, 0, none⟩)), x.gm, blk⟩ := ⟨hf.ok, hps.map _, hf.gens⟩
      refine Cd.memClose (b := b) (x := x) 0 5 6 7 (by decide) hf rfl rfl rfl rfl ?_
      refine Cd.memClose (b := b1) 1 8 9 11 (by decide) hf' rfl rfl rfl rfl ?_
      refine Cd.ret [(0, _), (1, _)] rfl (res1 rfl rfl) ⟨rfl, rfl, trivial⟩ ⟨rfl, b1, rfl, rfl⟩
    · have hy := ok2 y (List.mem_of_getElem? hq)
      obtain ⟨p, hp, hpy⟩ := List.mem_map.1 (hf.pages.mem_iff.1 hy)
      subst hpy
      have hpo := hf.ok.page p hp
      have hplt := hpo.lt
      have hpe := perm_erase hq
      have hql := (List.getElem?_eq_some_iff.1 hq).1
      have hel : (left.eraseIdx q).length < left.length := by rw [List.length_eraseIdx]; split <;> omega
      have hmem : (x.blk p.1, pageO p.2) ∈ blksOf M x := List.mem_map.2 ⟨p, hp, rfl⟩
      refine Jp.y 25 rfl (want_all rfl) rfl rfl Kp.true (Y.extract rfl rfl rfl) ?_
      refine Jp.done hK9 ?_
      refine Cd.seq fun K12 hK12 => ?_
      refine Cd.condT rfl ?_
      refine Cd.skip hK12 ?_
      refine Cd.block ?_
      refine Cd.seq fun K13 hK13 => ?_
      refine Cd.plain [(0, false), (1, false), (2, false), (3, false), (4, false)] rfl rfl ?_
      refine Jp.y 26 rfl (want_all rfl) rfl rfl Kp.true (by first | exact Y.entry 5 rfl rfl rfl) ?_
      refine Jp.y 27 rfl (want_all rfl) rfl rfl Kp.true (Y.extract rfl rfl rfl) ?_
      refine Jp.y 28 rfl (want_all rfl) rfl rfl Kp.true (Y.extract rfl rfl rfl) ?_
      refine Jp.y 4 rfl (want_all rfl) rfl rfl Kp.true (Y.assign rfl rfl) ?_
      refine Jp.y 5 rfl (want_all rfl) rfl rfl Kp.true (Y.assign rfl rfl) ?_
      refine Jp.done hK13 ?_
      refine Cd.seq fun K14 hK14 => ?_
      refine Cd.plain [(0, false), (1, false), (2, false), (3, false), (4, false)] rfl rfl ?_
      refine Jp.y 29 rfl (want_all rfl) rfl rfl Kp.true (Y.move rfl rfl) ?_
      refine Jp.y 30 rfl (want_all rfl) rfl rfl Kp.true (Y.nilCheck rfl rfl) ?_
      refine Jp.y 31 rfl (want_all rfl) rfl rfl Kp.true (Y.loadAggC 7 (pageCells p.2) rfl Try.isAgg145 Try.sizeOf145 rfl rfl (pageCells_length hpo) (Blks.cells hmem)) ?_
      refine Jp.alloc 12 6 rfl (want_all rfl) rfl rfl rfl Try.zeroValue145 fun b12 => ⟨Kp.true, ?_⟩
      refine Jp.storeAgg 12 rfl (want_all rfl) rfl rfl Try.sizeOf145 rfl rfl (pageCells_one p.2) (pageCells_length hpo) rfl rfl (fun k _ _ => noFr0 k) Kp.true ?_
      refine Jp.imp (j := 12) (A' := Pt b12 (pageO p.2)) rfl (fun h hh => by rw [spl_full (by rw [pageCells_length hpo]; rfl)] at hh; exact hh) ?_
      have hkp : (K left).Perm (p :: K (left.eraseIdx q)) := by
        have h1 := hpe.map fun y => (y.1.toNat, (getPg M.pages y.1.toNat).getD ⟨[], 0⟩)
        rw [hK]
        refine h1.trans (List.Perm.of_eq ?_)
        rw [List.map_cons]
        exact congrArg (· :: _) (hpg p hp)
      have hfr : p.1 ∉ ps.map (·.1) := fun hin => by
        have h1 := ((List.Perm.append_left ps hkp).symm.trans ok1).map (·.1)
        have h2 := h1.nodup_iff.2 hnd
        rw [List.map_append, List.nodup_append] at h2
        exact h2.2.2 p.1 hin p.1 (by simp) rfl
      have hfr' : (p.1 : Int) ∉ (ps.map fun p => ((p.1 : Int), Value.pointer (some ⟨blk p.1, 0, none⟩))).map (·.1) := fun hin => by
        rw [List.map_map] at hin
        obtain ⟨z, hz, hze⟩ := List.mem_map.1 hin
        have hze : ((z.1 : Nat) : Int) = (p.1 : Int) := hze
        exact hfr (List.mem_map.2 ⟨z, hz, by omega⟩)
      obtain ⟨blk2, hblk2⟩ : ∃ blk2 : Nat → Nat, blk2 = fun k => if k = p.1 then b12 else blk k := ⟨_, rfl⟩
      have hb2 : blk2 p.1 = b12 := by rw [hblk2]; simp
      have hb3 : ∀ z ∈ ps, blk2 z.1 = blk z.1 := fun z hz => by
        rw [hblk2]; exact if_neg fun e => hfr (List.mem_map.2 ⟨z, hz, e⟩)
      have e1 : ((ps ++ [p]).map fun p => ((p.1 : Int), Value.pointer (some ⟨blk2 p.1, 0, none⟩))) = (ps.map fun p => ((p.1 : Int), Value.pointer (some ⟨blk p.1, 0, none⟩))) ++ [((p.1 : Int), Value.pointer (some ⟨b12, 0, none⟩))] := by
        rw [List.map_append, List.map_cons, List.map_nil, hb2]
        exact congrArg (· ++ _) (List.map_congr_left fun z hz => by rw [hb3 z hz])
      have e2 : ((b12, pageO p.2) :: ps.map fun p => (blk p.1, pageO p.2)).Perm ((ps ++ [p]).map fun p => (blk2 p.1, pageO p.2)) := by
        rw [List.map_append, List.map_cons, List.map_nil, hb2]
        refine List.Perm.trans (List.perm_append_comm (l₁ := [(b12, pageO p.2)])) (List.Perm.append_right _ (List.Perm.of_eq (List.map_congr_left fun z hz => by rw [hb3 z hz])))
      refine Jp.joinB (ob := pageO p.2) 11 12 (by decide) rfl rfl ?_
      refine Jp.imp (j := 11) rfl (Blks.perm e2) ?_
      refine Jp.done hK14 ?_
      refine Cd.plain [(0, false), (1, false), (2, false), (3, false), (4, false), (5, false)] rfl rfl ?_
      refine Jp.y 32 rfl (want_all rfl) rfl rfl Kp.true (Y.move rfl rfl) ?_
      refine Jp.y 33 rfl (want_all rfl) rfl rfl Kp.true (Y.nilCheck rfl rfl) ?_
      refine Jp.y 34 rfl (want_all rfl) rfl rfl Kp.true (by first | exact Y.fieldAddrP rfl rfl Try.underlying115 rfl Try.sizeOf112 (by decide) (show _ + 1 = _ from rfl) | exact Y.fieldAddr rfl rfl Try.underlying115 rfl Try.sizeOf112 (by decide)) ?_
      refine Jp.y 35 rfl (want_all rfl) rfl rfl Kp.true (by first | exact Y.loadO 0 rfl Try.isAgg112 rfl rfl rfl | exact Y.loadO 1 rfl Try.isAgg112 rfl rfl rfl | exact Y.loadO 1 rfl Try.isAgg112 rfl rfl rfl | exact Y.loadO 12 rfl Try.isAgg112 rfl rfl rfl) ?_
      refine Jp.y 36 rfl (want_all rfl) rfl rfl Kp.true (Y.move rfl rfl) ?_
      first | refine Jp.mapUpdate 8 rfl (want_all rfl) rfl rfl rfl rfl rfl Try.underlying112 Try.underlying25 rfl Kp.true ?_
      rw [mset_new hfr', ← e1]
      refine JpQ.again rfl hLa ⟨left.eraseIdx q, ps ++ [p], blk2, _⟩ ⟨?_, fun z hz => ok2 z (List.mem_of_mem_eraseIdx hz)⟩ hel rfl ⟨rfl, rfl, trivial⟩ ⟨rfl, rfl, rfl, rfl, rfl, rfl, rfl, rfl, trivial⟩
      rw [List.append_assoc]
      exact (List.Perm.append_left ps hkp.symm).trans ok1
  · skip
    refine Jp.call [6] [6, 9] (cloneGens_spec x.gb x.gm) 16 rfl (want_all rfl) rfl rfl (Runs.fn rfl Try.call101 rfl) (by decide) (by decide) rfl trivial ?_
    rintro v1 ρ1 L1 ⟨rfl, b9, rfl, rfl⟩
    refine ⟨rfl, fun hle1 => ⟨(Kp.st ⟨rfl, trivial⟩), ?_⟩⟩
    refine Jp.makeMap 11 8 .u32 rfl (want_all rfl) rfl rfl rfl fun b8 => ⟨(Kp.st ⟨rfl, trivial⟩), ?_⟩
    refine Jp.q 17 rfl (want_all rfl) rfl rfl (Y.struct [(0, _), (1, _), (2, _)] [_, _, _] rfl rfl places115 Try.zeroValue115 rfl) ?_
    refine Jp.box 1 18 rfl (want_all rfl) rfl rfl rfl rfl fun b1 => ⟨(Kp.st ⟨rfl, trivial⟩), ?_⟩
    refine Jp.q 3 rfl (want_all rfl) rfl rfl (Y.assign rfl rfl) ?_
    refine Jp.done hK6 ?_
    refine Cd.seq fun K15 hK15 => ?_
    refine Cd.seq fun K16 hK16 => ?_
    refine Cd.plain [(0, false), (1, false), (2, false), (3, false), (4, false)] rfl rfl ?_
    refine Jp.y 19 rfl (want_all rfl) rfl rfl Kp.true (Y.move rfl rfl) ?_
    refine Jp.y 20 rfl (want_all rfl) rfl rfl Kp.true (Y.nilCheck rfl rfl) ?_
    refine Jp.y 21 rfl (want_all rfl) rfl rfl Kp.true (by first | exact Y.fieldAddrP rfl rfl Try.underlying115 rfl Try.sizeOf112 (by decide) (show _ + 1 = _ from rfl) | exact Y.fieldAddr rfl rfl Try.underlying115 rfl Try.sizeOf112 (by decide)) ?_
    refine Jp.y 22 rfl (want_all rfl) rfl rfl Kp.true (by first | exact Y.loadO 0 rfl Try.isAgg112 rfl rfl rfl | exact Y.loadO 1 rfl Try.isAgg112 rfl rfl rfl | exact Y.loadO 1 rfl Try.isAgg112 rfl rfl rfl) ?_
    first | refine Jp.range 23 5 51 (by decide) rfl (want_all rfl) rfl rfl rfl rfl Try.underlying112 rfl fun r5 => ⟨Kp.true, ?_⟩
    refine Jp.done hK16 ?_
    refine Cd.block ?_
    refine Cd.make 11 (A := Blks []) Blks.nil ?_
    refine Cd.loopK (G := MapL × List (Nat × Pg) × (Nat → Nat) × Option (Int × Value)) (fun g => (g.2.1 ++ K g.1).Perm M.pages ∧ (∀ y ∈ g.1, y ∈ x.pm)) (fun g => g.1.length) (fun _ => _) (fun g => []) [(3, _), (23, _)] (fun g => [(5, RangeO .u32 x.pb r5 x.pm g.1 g.2.2.2), (8, MapO .u32 b8 (g.2.1.map fun p => ((p.1 : Int), .pointer (some ⟨g.2.2.1 p.1, 0, none⟩)))), (11, Blks (g.2.1.map fun p => (g.2.2.1 p.1, pageO p.2)))]) [(0, _), (6, _), (7, _), (9, _), (1, _)] ⟨x.pm, [], fun _ => 0, none⟩ ⟨hstart, fun y hy => hy⟩ rfl trivial ⟨rfl, rfl, trivial⟩ ⟨rfl, rfl, rfl, trivial⟩ ⟨rfl, rfl, rfl, rfl, rfl, trivial⟩ (fun g KLa hok hLa => ?_)
    obtain ⟨left, ps, blk, cur⟩ := g
    obtain ⟨ok1, ok2⟩ := hok
    dsimp only at ok1 ok2 ⊢
    refine Cd.seq fun K17 hK17 => ?_
    refine Cd.plain [(0, false), (1, false)] rfl rfl ?_
    refine Jp.next 24 5 rfl (want_all rfl) rfl rfl (fun _ => rfl) rfl rfl (fun hn => ⟨Kp.true, ?_⟩) (fun q y hq => ⟨Kp.true, ?_⟩)
    · skip
      refine Jp.y 25 rfl (want_all rfl) rfl rfl Kp.true (Y.extract rfl rfl rfl) ?_
      refine Jp.done hK17 ?_
      refine Cd.seq fun K18 hK18 => ?_
      refine Cd.condF rfl ?_
      refine Cd.exit rfl hK15 ?_
      refine Cd.seq fun K19 hK19 => ?_
      refine Cd.plain [(0, false), (1, false)] rfl rfl ?_
      refine Jp.y 37 rfl (want_all rfl) rfl rfl Kp.true (Y.move rfl rfl) ?_
      refine Jp.y 2 rfl (want_all rfl) rfl rfl Kp.true (Y.assign rfl rfl) ?_
      refine Jp.done hK19 ?_
      subst hn
      have hps : ps.Perm M.pages := by simpa [hK] using ok1
      refine Cd.imp (i := 5) rfl RangeO.map ?_
      refine Cd.imp (i := 11) rfl (Blks.perm (hps.map _)) ?_
      have hf' : MemF M ⟨b8, b9, ps.map fun p => ((p.1 : Int), .pointer (some ⟨blk p.1, 0, none⟩)), x.gm, blk⟩ := ⟨hf.ok, hps.map _, hf.gens⟩
      refine Cd.memClose (b := b) (x := x) 0 5 6 7 (by decide) hf rfl rfl rfl rfl ?_
      refine Cd.memClose (b := b1) 1 8 9 11 (by decide) hf' rfl rfl rfl rfl ?_
      refine Cd.ret [(0, _), (1, _)] rfl (res1 rfl rfl) ⟨rfl, rfl, trivial⟩ ⟨rfl, b1, rfl, rfl⟩
    · have hy := ok2 y (List.mem_of_getElem? hq)
      obtain ⟨p, hp, hpy⟩ := List.mem_map.1 (hf.pages.mem_iff.1 hy)
      subst hpy
      have hpo := hf.ok.page p hp
      have hplt := hpo.lt
      have hpe := perm_erase hq
      have hql := (List.getElem?_eq_some_iff.1 hq).1
      have hel : (left.eraseIdx q).length < left.length := by rw [List.length_eraseIdx]; split <;> omega
      have hmem : (x.blk p.1, pageO p.2) ∈ blksOf M x := List.mem_map.2 ⟨p, hp, rfl⟩
      refine Jp.y 25 rfl (want_all rfl) rfl rfl Kp.true (Y.extract rfl rfl rfl) ?_
      refine Jp.done hK17 ?_
      refine Cd.seq fun K20 hK20 => ?_
      refine Cd.condT rfl ?_
      refine Cd.skip hK20 ?_
      refine Cd.block ?_
      refine Cd.seq fun K21 hK21 => ?_
      refine Cd.plain [(0, false), (1, false), (2, false), (3, false), (4, false)] rfl rfl ?_
      refine Jp.y 26 rfl (want_all rfl) rfl rfl Kp.true (by first | exact Y.entry 5 rfl rfl rfl) ?_
      refine Jp.y 27 rfl (want_all rfl) rfl rfl Kp.true (Y.extract rfl rfl rfl) ?_
      refine Jp.y 28 rfl (want_all rfl) rfl rfl Kp.true (Y.extract rfl rfl rfl) ?_
      refine Jp.y 4 rfl (want_all rfl) rfl rfl Kp.true (Y.assign rfl rfl) ?_
      refine Jp.y 5 rfl (want_all rfl) rfl rfl Kp.true (Y.assign rfl rfl) ?_
      refine Jp.done hK21 ?_
      refine Cd.seq fun K22 hK22 => ?_
      refine Cd.plain [(0, false), (1, false), (2, false), (3, false), (4, false)] rfl rfl ?_
      refine Jp.y 29 rfl (want_all rfl) rfl rfl Kp.true (Y.move rfl rfl) ?_
      refine Jp.y 30 rfl (want_all rfl) rfl rfl Kp.true (Y.nilCheck rfl rfl) ?_
      refine Jp.y 31 rfl (want_all rfl) rfl rfl Kp.true (Y.loadAggC 7 (pageCells p.2) rfl Try.isAgg145 Try.sizeOf145 rfl rfl (pageCells_length hpo) (Blks.cells hmem)) ?_
      refine Jp.alloc 12 6 rfl (want_all rfl) rfl rfl rfl Try.zeroValue145 fun b12 => ⟨Kp.true, ?_⟩
      refine Jp.storeAgg 12 rfl (want_all rfl) rfl rfl Try.sizeOf145 rfl rfl (pageCells_one p.2) (pageCells_length hpo) rfl rfl (fun k _ _ => noFr0 k) Kp.true ?_
      refine Jp.imp (j := 12) (A' := Pt b12 (pageO p.2)) rfl (fun h hh => by rw [spl_full (by rw [pageCells_length hpo]; rfl)] at hh; exact hh) ?_
      have hkp : (K left).Perm (p :: K (left.eraseIdx q)) := by
        have h1 := hpe.map fun y => (y.1.toNat, (getPg M.pages y.1.toNat).getD ⟨[], 0⟩)
        rw [hK]
        refine h1.trans (List.Perm.of_eq ?_)
        rw [List.map_cons]
        exact congrArg (· :: _) (hpg p hp)
      have hfr : p.1 ∉ ps.map (·.1) := fun hin => by
        have h1 := ((List.Perm.append_left ps hkp).symm.trans ok1).map (·.1)
        have h2 := h1.nodup_iff.2 hnd
        rw [List.map_append, List.nodup_append] at h2
        exact h2.2.2 p.1 hin p.1 (by simp) rfl
      have hfr' : (p.1 : Int) ∉ (ps.map fun p => ((p.1 : Int), Value.pointer (some ⟨blk p.1, 0, none⟩))).map (·.1) := fun hin => by
        rw [List.map_map] at hin
        obtain ⟨z, hz, hze⟩ := List.mem_map.1 hin
        have hze : ((z.1 : Nat) : Int) = (p.1 : Int) := hze
        exact hfr (List.mem_map.2 ⟨z, hz, by omega⟩)
      obtain ⟨blk2, hblk2⟩ : ∃ blk2 : Nat → Nat, blk2 = fun k => if k = p.1 then b12 else blk k := ⟨_, rfl⟩
      have hb2 : blk2 p.1 = b12 := by rw [hblk2]; simp
      have hb3 : ∀ z ∈ ps, blk2 z.1 = blk z.1 := fun z hz => by
        rw [hblk2]; exact if_neg fun e => hfr (List.mem_map.2 ⟨z, hz, e⟩)
      have e1 : ((ps ++ [p]).map fun p => ((p.1 : Int), Value.pointer (some ⟨blk2 p.1, 0, none⟩))) = (ps.map fun p => ((p.1 : Int), Value.pointer (some ⟨blk p.1, 0, none⟩))) ++ [((p.1 : Int), Value.pointer (some ⟨b12, 0, none⟩))] := by
        rw [List.map_append, List.map_cons, List.map_nil, hb2]
        exact congrArg (· ++ _) (List.map_congr_left fun z hz => by rw [hb3 z hz])
      have e2 : ((b12, pageO p.2) :: ps.map fun p => (blk p.1, pageO p.2)).Perm ((ps ++ [p]).map fun p => (blk2 p.1, pageO p.2)) := by
        rw [List.map_append, List.map_cons, List.map_nil, hb2]
        refine List.Perm.trans (List.perm_append_comm (l₁ := [(b12, pageO p.2)])) (List.Perm.append_right _ (List.Perm.of_eq (List.map_congr_left fun z hz => by rw [hb3 z hz])))
      refine Jp.joinB (ob := pageO p.2) 11 12 (by decide) rfl rfl ?_
      refine Jp.imp (j := 11) rfl (Blks.perm e2) ?_
      refine Jp.done hK22 ?_
      refine Cd.plain [(0, false), (1, false), (2, false), (3, false), (4, false), (5, false)] rfl rfl ?_
      refine Jp.y 32 rfl (want_all rfl) rfl rfl Kp.true (Y.move rfl rfl) ?_
      refine Jp.y 33 rfl (want_all rfl) rfl rfl Kp.true (Y.nilCheck rfl rfl) ?_
      refine Jp.y 34 rfl (want_all rfl) rfl rfl Kp.true (by first | exact Y.fieldAddrP rfl rfl Try.underlying115 rfl Try.sizeOf112 (by decide) (show _ + 1 = _ from rfl) | exact Y.fieldAddr rfl rfl Try.underlying115 rfl Try.sizeOf112 (by decide)) ?_
      refine Jp.y 35 rfl (want_all rfl) rfl rfl Kp.true (by first | exact Y.loadO 0 rfl Try.isAgg112 rfl rfl rfl | exact Y.loadO 1 rfl Try.isAgg112 rfl rfl rfl | exact Y.loadO 1 rfl Try.isAgg112 rfl rfl rfl | exact Y.loadO 12 rfl Try.isAgg112 rfl rfl rfl) ?_
      refine Jp.y 36 rfl (want_all rfl) rfl rfl Kp.true (Y.move rfl rfl) ?_
      first | refine Jp.mapUpdate 8 rfl (want_all rfl) rfl rfl rfl rfl rfl Try.underlying112 Try.underlying25 rfl Kp.true ?_
      rw [mset_new hfr', ← e1]
      refine JpQ.again rfl hLa ⟨left.eraseIdx q, ps ++ [p], blk2, _⟩ ⟨?_, fun z hz => ok2 z (List.mem_of_mem_eraseIdx hz)⟩ hel rfl ⟨rfl, rfl, trivial⟩ ⟨rfl, rfl, rfl, rfl, rfl, rfl, rfl, rfl, trivial⟩
      rw [List.append_assoc]
      exact (List.Perm.append_left ps hkp.symm).trans ok1
end Go.Proofs.Ytgmhijlcdadaeaa
set_option linter.unusedVariables false
set_option linter.unusedSimpArgs false
set_option maxRecDepth 100000
namespace Go.Proofs.Ytgmhijlcdadaeaa
open Go
theorem pages_spec (b : Nat) (M : MemG) (hsort : SortsTo M.pages.length) : Spec Try.prog 69 #[.pointer (some ⟨b, 0, none⟩)] (fun _ => True) [(0, MemO b M)]
    (fun ρ ρ' v L => ∃ A c, v = .slice A M.pages.length c ∧ L = [(0, MemO b M), (1, OwnS 25 1 A M.pages.length c (natsV .u32 (M.pages.map (·.1))))]) := by
  refine Spec.of 9 Try.func69 rfl Try.ntmps69 [(0, _)] rfl rfl ?_
  intro cx ρ hr h0
  refine Cd.memOpen 0 5 6 7 (by decide) rfl fun x hf => ?_
  have hlen := hf.pages.length_eq
  rw [List.length_map] at hlen
  have hroom := hf.ok.room
  have hbud := hf.ok.budget.2
  have hrise : (M.pages.map (·.1)).Pairwise (· < ·) := by rw [List.pairwise_map]; exact hf.ok.rising
  have hp : (x.pm.map (·.1)).Perm ((M.pages.map (·.1)).map fun k : Nat => (k : Int)) := by
    have h1 := hf.pages.map (·.1)
    rw [List.map_map] at h1
    rw [List.map_map]
    exact h1
  have hs2 : SortsTo x.pm.length := by rw [hlen]; exact hsort
  dsimp only [memObj]
  refine Cd.seq fun K1 hK1 => ?_
  refine Cd.plain [(0, false)] rfl rfl ?_
  refine Jp.y 2 rfl (want_all rfl) rfl rfl Kp.true (Y.assign rfl rfl) ?_
  refine Jp.done hK1 ?_
  refine Cd.seq fun K2 hK2 => ?_
  refine Cd.plain [(0, false), (1, false), (2, false), (3, false), (4, false), (5, false), (6, false)] rfl rfl ?_
  refine Jp.y 3 rfl (want_all rfl) rfl rfl Kp.true (Y.move rfl rfl) ?_
  refine Jp.y 4 rfl (want_all rfl) rfl rfl Kp.true (Y.nilCheck rfl rfl) ?_
  refine Jp.y 5 rfl (want_all rfl) rfl rfl Kp.true (by first | exact Y.fieldAddrP rfl rfl Try.underlying115 rfl Try.sizeOf112 (by decide) (show _ + 1 = _ from rfl) | exact Y.fieldAddr rfl rfl Try.underlying115 rfl Try.sizeOf112 (by decide)) ?_
  refine Jp.y 6 rfl (want_all rfl) rfl rfl Kp.true (Y.loadO 0 rfl Try.isAgg112 rfl rfl rfl) ?_
  refine Jp.call [] [8] (keys_spec x.pb) 7 rfl (want_all rfl) rfl rfl (Runs.fn rfl Try.call108 rfl) (by decide) (by decide) rfl trivial ?_
  rintro v1 ρ1 L1 ⟨rfl, cb, rfl, rfl⟩
  refine ⟨rfl, fun hle1 => ⟨Kp.true, ?_⟩⟩
  refine Jp.call [8, 5] [8, 5, 1] (sorted_spec cb x.pb x.pm (M.pages.map (·.1)) hrise hp (by omega) hs2) 8 rfl (want_all rfl) rfl rfl (Runs.fn rfl Try.call73 rfl) (by decide) (by decide) rfl trivial ?_
  rintro v2 ρ2 L2 ⟨A, c, rfl, rfl⟩
  refine ⟨rfl, fun hle2 => ⟨Kp.true, ?_⟩⟩
  rw [List.length_map]
  refine Jp.y 2 rfl (want_all rfl) rfl rfl Kp.true (Y.assign rfl rfl) ?_
  refine Jp.done hK2 ?_
  refine Cd.memClose (b := b) (x := x) 0 5 6 7 (by decide) hf rfl rfl rfl rfl ?_
  refine Cd.ret [(0, _), (1, _)] rfl (res1 rfl rfl) ⟨rfl, rfl, trivial⟩ ⟨A, c, rfl, rfl⟩
end Go.Proofs.Ytgmhijlcdadaeaa
