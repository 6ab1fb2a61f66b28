import Derived.Test.YtkjeidoplonkjaaZIterX1
import Derived.Sort.AssemblyPlain
import Derived.Test.YtkjeidoplonkjaaZMemX2
import Derived.Test.YtkjeidoplonkjaaZMemX1
import Derived.Test.YtkjeidoplonkjaaZEngY
set_option linter.unusedVariables false
set_option linter.unusedSimpArgs false
set_option maxRecDepth 100000
namespace Go.Proofs.Ytkjeidoplonkjaa
open Go
theorem Jp.tab {P : Program} {n : Nat} {cx : Cx} {ρ : Hp} {E : Env} {L : Own} {ops : Array Oper} {Q : Exit → Act → World → Prop} {S : World → Prop} {π : List (Nat × Bool)} (t : Nat) {s : ByteArray} {q : Nat} {h : q < s.size} (ht : look E t = some (.int .u8 ((s[q]'h).toNat : Int)))
    (hs : (str s).all (fun b => decide (b.toNat ≤ 8)) = true) (hk : ∀ k : Nat, k ≤ 8 → Jp P ops Q S n cx π ρ ((t, .int .u8 k) :: E) L) : Jp P ops Q S n cx π ρ E L := by
  have h1 : (s[q]'h).toNat ≤ 8 := by
    have := List.all_eq_true.1 hs (s[q]'h) (by
      have : s[q]'h = (str s)[q]'(by rw [← str_size]; exact h) := by simp [str]; rfl
      rw [this]; exact List.getElem_mem _)
    exact of_decide_eq_true this
  exact Jp.slot t ht rfl (hk _ h1)
theorem len64_spec (x : Nat) (hx : x ≤ 4096) : Spec Try.prog 137 #[.int .u64 x] (fun _ => True) [] (fun ρ ρ' v L => ρ' = ρ ∧ (∃ k : Nat, k ≤ 64 ∧ v = .int .i64 k) ∧ L = []) := by
  refine Spec.of 25 Try.func137 rfl Try.ntmps137 [(0, _)] rfl rfl ?_
  intro cx ρ hr h0
  refine Cd.seq fun K1 hK1 => ?_
  refine Cd.plain [(0, false)] rfl rfl ?_
  refine Jp.y 2 rfl (want_all rfl) rfl rfl Kp.true (Y.assign rfl rfl) ?_
  refine Jp.done hK1 ?_
  refine Cd.seq fun K2 hK2 => ?_
  refine Cd.seq fun K3 hK3 => ?_
  refine Cd.plain [(0, false), (1, false)] rfl rfl ?_
  refine Jp.y 3 rfl (want_all rfl) rfl rfl Kp.true (Y.move rfl rfl) ?_
  refine Jp.y 4 rfl (want_all rfl) rfl rfl Kp.true (Y.geq rfl rfl rfl) ?_
  refine Jp.done hK3 ?_
  refine Cd.cond rfl (fun g4 => ?_) (fun g4 => ?_)
  · skip
    exact absurd g4 (by simp; omega)
  try simp only [decide_eq_false_iff_not, decide_eq_true_eq, Int.not_lt, Int.not_le, Bool.not_eq_false, Bool.not_eq_true, Bool.not_true, Bool.not_false, Bool.not_eq_true', Bool.not_eq_false', beq_eq_false_iff_ne, ne_eq, beq_iff_eq, bne_iff_ne, bne_eq_false_iff_eq, Classical.not_not] at g4
  refine Cd.skip hK2 ?_
  refine Cd.seq fun K4 hK4 => ?_
  refine Cd.seq fun K5 hK5 => ?_
  refine Cd.plain [(0, false), (1, false)] rfl rfl ?_
  refine Jp.y 7 rfl (want_all rfl) rfl rfl Kp.true (Y.move rfl rfl) ?_
  refine Jp.y 8 rfl (want_all rfl) rfl rfl Kp.true (Y.geq rfl rfl rfl) ?_
  refine Jp.done hK5 ?_
  refine Cd.cond rfl (fun g8 => ?_) (fun g8 => ?_)
  · skip
    exact absurd g8 (by simp; omega)
  try simp only [decide_eq_false_iff_not, decide_eq_true_eq, Int.not_lt, Int.not_le, Bool.not_eq_false, Bool.not_eq_true, Bool.not_true, Bool.not_false, Bool.not_eq_true', Bool.not_eq_false', beq_eq_false_iff_ne, ne_eq, beq_iff_eq, bne_iff_ne, bne_eq_false_iff_eq, Classical.not_not] at g8
  refine Cd.skip hK4 ?_
  refine Cd.seq fun K6 hK6 => ?_
  refine Cd.seq fun K7 hK7 => ?_
  refine Cd.plain [(0, false), (1, false)] rfl rfl ?_
  refine Jp.y 13 rfl (want_all rfl) rfl rfl Kp.true (Y.move rfl rfl) ?_
  refine Jp.y 14 rfl (want_all rfl) rfl rfl Kp.true (Y.geq rfl rfl rfl) ?_
  refine Jp.done hK7 ?_
  refine Cd.joinG (G := Nat × Nat) (fun g => g.1 < 256 ∧ g.2 ≤ 8) (fun g => [(0, .int .u64 g.1), (2, .int .i64 g.2)]) [] trivial (fun _ => []) [] trivial hK6 (fun g hφ => ?_) (fun hj1 => ?_)
  · obtain ⟨y, k0⟩ := g
    obtain ⟨hy, hk0⟩ := hφ
    dsimp only at hy hk0 ⊢
    refine Cd.seq fun K8 hK8 => ?_
    refine Cd.plain [(0, false), (1, false), (2, false), (3, false), (4, false), (5, false), (6, false)] rfl rfl ?_
    refine Jp.y 19 rfl (want_all rfl) rfl rfl Kp.true (Y.move rfl rfl) ?_
    refine Jp.y 20 rfl (want_all rfl) rfl rfl Kp.true (Y.move rfl rfl) ?_
    refine Jp.y 21 rfl (want_all rfl) rfl rfl Kp.true (Y.conv_ rfl rfl Try.underlying105 Try.underlying5 (by first | exact wrap_u8 (by omega) (by omega) | rfl)) ?_
    refine Jp.y 22 rfl (want_all rfl) rfl rfl Kp.true (Y.indexstr (q := y) rfl Try.underlying9 rfl rfl (by omega) (by show (y : Int) < ((256 : Nat) : Int); omega) (by omega)) ?_
    refine Jp.tab 22 rfl (by kernel_rfl) fun k hk => ?_
    refine Jp.y 23 rfl (want_all rfl) rfl rfl Kp.true (Y.conv_ rfl rfl Try.underlying5 Try.underlying3 (by first | exact wrap_i64 (by omega) (by omega) | rfl)) ?_
    refine Jp.y 24 rfl (want_all rfl) rfl rfl Kp.true (Y.add_ rfl rfl rfl (by first | exact wrap_i64 (by omega) (by omega) | rfl)) ?_
    refine Jp.y 2 rfl (want_all rfl) rfl rfl Kp.true (Y.assign rfl rfl) ?_
    refine Jp.done hK8 ?_
    refine Cd.ret [] rfl (res1 rfl rfl) trivial ⟨rfl, ⟨k0 + k, by omega, by simp⟩, rfl⟩
  · skip
    refine Cd.cond rfl (fun ga => ?_) (fun ga => ?_)
    · simp only [decide_eq_true_eq] at ga
      refine Cd.seq fun K9 hK9 => ?_
      refine Cd.plain [(0, false), (1, false), (2, false)] rfl rfl ?_
      refine Jp.y 15 rfl (want_all rfl) rfl rfl Kp.true (Y.move rfl rfl) ?_
      refine Jp.y 16 rfl (want_all rfl) rfl rfl Kp.true (Y.shr rfl rfl rfl (by first | decide | omega)) ?_
      refine Jp.slot 16 rfl (show _ = Value.int .u64 ((x / 256 : Nat) : Int) by rw [Int.fdiv_eq_ediv_of_nonneg _ (by decide)]; exact congrArg (Value.int .u64) (show (x : Int) / 256 = ((x / 256 : Nat) : Int) by omega)) ?_
      refine Jp.y 0 rfl (want_all rfl) rfl rfl Kp.true (Y.assign rfl rfl) ?_
      refine Jp.done hK9 ?_
      refine Cd.plain [(0, false), (1, false), (2, false)] rfl rfl ?_
      refine Jp.y 17 rfl (want_all rfl) rfl rfl Kp.true (Y.move rfl rfl) ?_
      refine Jp.y 18 rfl (want_all rfl) rfl rfl Kp.true (Y.add_ rfl rfl rfl (by first | exact wrap_i64 (by omega) (by omega) | rfl)) ?_
      refine Jp.y 2 rfl (want_all rfl) rfl rfl Kp.true (Y.assign rfl rfl) ?_
      refine Jp.done hK6 ?_
      exact Cd.meet (hj1 ⟨x / 256, 8⟩ ⟨by show x / 256 < 256; omega, Nat.le_refl _⟩) ⟨rfl, rfl, trivial⟩ trivial
    · simp only [decide_eq_false_iff_not] at ga
      refine Cd.skip hK6 ?_
      exact Cd.meet (hj1 ⟨x, 0⟩ ⟨by show x < 256; omega, Nat.zero_le _⟩) ⟨rfl, rfl, trivial⟩ trivial
theorem len_spec (x : Nat) (hx : x ≤ 4096) : Spec Try.prog 109 #[.int .u64 x] (fun _ => True) [] (fun ρ ρ' v L => ρ' = ρ ∧ (∃ k : Nat, k ≤ 64 ∧ v = .int .i64 k) ∧ L = []) := by
  refine Spec.of 8 Try.func109 rfl Try.ntmps109 [(0, _)] rfl rfl ?_
  intro cx ρ hr h0
  refine Cd.seq fun K10 hK10 => ?_
  refine Cd.plain [(0, false)] rfl rfl ?_
  refine Jp.y 2 rfl (want_all rfl) rfl rfl Kp.true (Y.assign rfl rfl) ?_
  refine Jp.done hK10 ?_
  refine Cd.seq fun K11 hK11 => ?_
  refine Cd.condF rfl ?_
  refine Cd.skip hK11 ?_
  refine Cd.seq fun K12 hK12 => ?_
  refine Cd.plain [(0, false), (1, false), (2, false)] rfl rfl ?_
  refine Jp.y 6 rfl (want_all rfl) rfl rfl Kp.true (Y.move rfl rfl) ?_
  refine Jp.call [] [] (len64_spec x hx) 7 rfl (want_all rfl) rfl rfl (Runs.fn rfl Try.call137 rfl) (by decide) (by decide) rfl trivial ?_
  rintro v1 ρ1 L1 ⟨rfl, ⟨k, hk, rfl⟩, rfl⟩
  refine ⟨rfl, fun hle1 => ⟨Kp.true, ?_⟩⟩
  refine Jp.y 2 rfl (want_all rfl) rfl rfl Kp.true (Y.assign rfl rfl) ?_
  refine Jp.done hK12 ?_
  refine Cd.ret [] rfl (res1 rfl rfl) trivial ⟨rfl, ⟨k, hk, rfl⟩, rfl⟩
theorem pdqSmall_spec (A : Option Addr) (n c : Nat) (d0 : Array Nat) (lim : Int) (hd : d0.size = n) (hn : n ≤ 12) : Spec Try.prog 108 #[.slice A n c, .int .i64 0, .int .i64 n, .int .i64 lim] (fun _ => True) [(0, rowO A n c d0)]
    (fun ρ ρ' v L => ρ' = ρ ∧ v = .tuple #[] ∧ L = [(0, rowO A n c (Go.Sort.insertionSort ltN d0 0 n))]) := by
  refine Spec.of 134 Try.func108 rfl Try.ntmps108 [(0, _), (1, _), (2, _), (3, _)] rfl rfl ?_
  intro cx ρ hr h0
  refine Cd.seq fun K13 hK13 => ?_
  refine Cd.plain [(0, false)] rfl rfl ?_
  refine Jp.y 8 rfl (want_all rfl) rfl rfl Kp.true (Y.assign rfl rfl) ?_
  refine Jp.done hK13 ?_
  refine Cd.seq fun K14 hK14 => ?_
  refine Cd.plain [(0, false)] rfl rfl ?_
  refine Jp.y 9 rfl (want_all rfl) rfl rfl Kp.true (Y.assign rfl rfl) ?_
  refine Jp.done hK14 ?_
  refine Cd.block ?_
  refine Cd.loopK (G := Unit) (fun _ => True) (fun _ => 0) (fun _ => _) (fun _ => []) [(0, _), (1, _), (2, _), (3, _), (8, _), (9, _)] (fun _ => []) [(0, _)] () trivial rfl trivial ⟨rfl, rfl, rfl, rfl, rfl, rfl, trivial⟩ trivial ⟨rfl, trivial⟩ (fun g KLa hok hLa => ?_)
  refine Cd.block ?_
  refine Cd.seq fun K15 hK15 => ?_
  refine Cd.plain [(0, false), (1, false), (2, false), (3, false)] rfl rfl ?_
  refine Jp.y 19 rfl (want_all rfl) rfl rfl Kp.true (Y.move rfl rfl) ?_
  refine Jp.y 20 rfl (want_all rfl) rfl rfl Kp.true (Y.move rfl rfl) ?_
  refine Jp.y 21 rfl (want_all rfl) rfl rfl Kp.true (Y.sub_ rfl rfl rfl (by first | exact wrap_i64 (by omega) (by omega) | rfl)) ?_
  refine Jp.y 10 rfl (want_all rfl) rfl rfl Kp.true (Y.assign rfl rfl) ?_
  refine Jp.done hK15 ?_
  refine Cd.seq fun K16 hK16 => ?_
  refine Cd.seq fun K17 hK17 => ?_
  refine Cd.plain [(0, false), (1, false)] rfl rfl ?_
  refine Jp.y 22 rfl (want_all rfl) rfl rfl Kp.true (Y.move rfl rfl) ?_
  refine Jp.y 23 rfl (want_all rfl) rfl rfl Kp.true (Y.leq rfl rfl rfl) ?_
  refine Jp.done hK17 ?_
  refine Cd.cond rfl (fun ga => ?_) (fun ga => ?_)
  · skip
    refine Cd.seq fun K18 hK18 => ?_
    refine Cd.plain [(0, false), (1, false), (2, false), (3, false)] rfl rfl ?_
    refine Jp.y 24 rfl (want_all rfl) rfl rfl Kp.true (Y.move rfl rfl) ?_
    refine Jp.y 25 rfl (want_all rfl) rfl rfl Kp.true (Y.move rfl rfl) ?_
    refine Jp.y 26 rfl (want_all rfl) rfl rfl Kp.true (Y.move rfl rfl) ?_
    refine Jp.call [0] [0] (insSort_spec A n c d0 0 n hd (Nat.zero_le _) (Nat.le_refl _) (by omega)) 27 rfl (want_all rfl) rfl rfl (Runs.fn rfl Try.call127 rfl) (by decide) (by decide) rfl trivial ?_
    rintro v1 ρ1 L1 ⟨rfl, rfl, rfl⟩
    refine ⟨rfl, fun hle1 => ⟨Kp.true, ?_⟩⟩
    refine Jp.done hK18 ?_
    refine Cd.ret [(0, _)] rfl (res0 rfl) ⟨rfl, trivial⟩ ⟨rfl, rfl, rfl⟩
  · exact absurd ga (by simp; omega)
theorem sortSmall_spec (A : Option Addr) (n c : Nat) (d0 : Array Nat) (hd : d0.size = n) (hn : n ≤ 12) : Spec Try.prog 80 #[.slice A n c] (fun _ => True) [(0, rowO A n c d0)]
    (fun ρ ρ' v L => ρ' = ρ ∧ v = .tuple #[] ∧ L = [(0, rowO A n c (Go.Sort.insertionSort ltN d0 0 n))]) := by
  refine Spec.of 11 Try.func80 rfl Try.ntmps80 [(0, _)] rfl rfl ?_
  intro cx ρ hr h0
  refine Cd.seq fun K19 hK19 => ?_
  refine Cd.plain [(0, false), (1, false), (2, false)] rfl rfl ?_
  refine Jp.y 3 rfl (want_all rfl) rfl rfl Kp.true (Y.move rfl rfl) ?_
  refine Jp.y 4 rfl (want_all rfl) rfl rfl Kp.true (Y.lenslice rfl Try.underlying29 rfl) ?_
  refine Jp.y 2 rfl (want_all rfl) rfl rfl Kp.true (Y.assign rfl rfl) ?_
  refine Jp.done hK19 ?_
  refine Cd.plain [(0, false), (1, false), (2, false), (3, false), (4, false), (5, false)] rfl rfl ?_
  refine Jp.y 5 rfl (want_all rfl) rfl rfl Kp.true (Y.move rfl rfl) ?_
  refine Jp.y 6 rfl (want_all rfl) rfl rfl Kp.true (Y.move rfl rfl) ?_
  refine Jp.y 7 rfl (want_all rfl) rfl rfl Kp.true (Y.move rfl rfl) ?_
  refine Jp.y 8 rfl (want_all rfl) rfl rfl Kp.true (Y.conv_ rfl rfl Try.underlying3 Try.underlying95 (by first | exact wrap_u64 (by omega) (by omega) | rfl)) ?_
  refine Jp.call [] [] (len_spec n (by omega)) 9 rfl (want_all rfl) rfl rfl (Runs.fn rfl Try.call109 rfl) (by decide) (by decide) rfl trivial ?_
  rintro v1 ρ1 L1 ⟨rfl, ⟨k, hk, rfl⟩, rfl⟩
  refine ⟨rfl, fun hle1 => ⟨Kp.true, ?_⟩⟩
  refine Jp.call [0] [0] (pdqSmall_spec A n c d0 k hd hn) 10 rfl (want_all rfl) rfl rfl (Runs.fn rfl Try.call108 rfl) (by decide) (by decide) rfl trivial ?_
  rintro v2 ρ2 L2 ⟨rfl, rfl, rfl⟩
  refine ⟨rfl, fun hle2 => ⟨Kp.true, ?_⟩⟩
  refine Jp.end [(0, _)] rfl (res0 rfl) ⟨rfl, trivial⟩ ⟨rfl, rfl, rfl⟩
end Go.Proofs.Ytkjeidoplonkjaa
set_option linter.unusedVariables false
set_option linter.unusedSimpArgs false
set_option maxRecDepth 100000
namespace Go.Proofs.Ytkjeidoplonkjaa
open Go
theorem swoN : Go.Sort.SWO ltN := ⟨fun x => by simp [ltN], fun x y z h1 h2 => by simp [ltN] at *; omega, fun x y z h1 h2 => by simp [ltN] at *; omega⟩
theorem sorted_le {r : Array Nat} (hs : Go.Sort.SortedIn ltN 0 r.size r) : r.toList.Pairwise (· ≤ ·) := by
  rw [List.pairwise_iff_getElem]
  intro i j hi hj hij
  have hj' : j < r.size := by simpa using hj
  have := hs i j (Nat.zero_le _) hij hj'
  have hi' : i < r.size := by omega
  simp only [ltN, getElem!_pos r i hi', getElem!_pos r j hj', decide_eq_false_iff_not] at this
  simp; omega
theorem sorted_is {r : Array Nat} {s K : List Nat} (hp : r.toList.Perm s) (hs : Go.Sort.SortedIn ltN 0 r.size r) (hk : s.Perm K) (hK : K.Pairwise (· < ·)) : r.toList = K :=
  List.Perm.eq_of_pairwise (le := (· ≤ ·)) (fun a b _ _ h1 h2 => by omega) (sorted_le hs) (hK.imp fun h => Nat.le_of_lt h) (hp.trans hk)
theorem permIn_perm {d r : Array Nat} (h : Go.Sort.PermIn 0 d.size d r) : r.size = d.size ∧ r.toList.Perm d.toList := by
  obtain ⟨h1, _, h3⟩ := h
  refine ⟨h1, ?_⟩
  have e1 : (r.extract 0 d.size).toList = r.toList := by rw [← h1]; simp
  have e2 : (d.extract 0 d.size).toList = d.toList := by simp
  rw [e1, e2] at h3; exact h3
def SortsTo (n : Nat) : Prop := ∀ (A : Option Addr) (c : Nat) (d : Array Nat), d.size = n → Spec Try.prog 80 #[.slice A n c] (fun _ => True) [(0, rowO A n c d)]
    (fun ρ ρ' v L => ρ' = ρ ∧ v = .tuple #[] ∧ ∃ r : Array Nat, r.toList.Perm d.toList ∧ Go.Sort.SortedIn ltN 0 r.size r ∧ L = [(0, rowO A n c r)])
theorem sorts12 (n : Nat) (hn : n ≤ 12) : SortsTo n := fun A c d hd => by
  refine (sortSmall_spec A n c d hd hn).mono (fun _ h => h) ?_
  rintro ρ ρ' v L ⟨rfl, rfl, rfl⟩
  obtain ⟨h1, h2⟩ := Go.Sort.insertionSort_holds swoN d 0 n (Nat.zero_le _) (by omega)
  obtain ⟨h3, h4⟩ := permIn_perm (by rw [hd]; exact h1)
  exact ⟨rfl, rfl, _, h4, by rw [h3, hd]; exact h2, rfl⟩
theorem natsV_inj {s : List Value} (h : ∀ v ∈ s, ∃ x : Nat, v = .int .u32 x) : ∃ l : List Nat, s = natsV .u32 l := by
  induction s with
  | nil => exact ⟨[], rfl⟩
  | cons v s ih =>
    obtain ⟨x, rfl⟩ := h v (by simp)
    obtain ⟨l, rfl⟩ := ih fun v hv => h v (List.mem_cons_of_mem _ hv)
    exact ⟨x :: l, rfl⟩
theorem natsV_perm {l K : List Nat} (h : (natsV .u32 l).Perm (natsV .u32 K)) : l.Perm K := by
  have h2 := h.map fun v => match v with | .int _ x => x.toNat | _ => 0
  simpa [natsV, List.map_map, Function.comp_def] using h2
theorem sorted_spec (cb pb : Nat) (pm : MapL) (K : List Nat) (hK : K.Pairwise (· < ·)) (hp : (pm.map (·.1)).Perm (K.map fun k : Nat => (k : Int))) (hlen : pm.length ≤ 4096) (hsort : SortsTo pm.length) : Spec Try.prog 50 #[kfn cb] (fun _ => True) [(0, capO cb pb), (1, MapO .u32 pb pm)]
    (fun ρ ρ' v L => ∃ A c, v = .slice A K.length c ∧ L = [(0, capO cb pb), (1, MapO .u32 pb pm), (2, OwnS 25 1 A K.length c (natsV .u32 K))]) := by
  refine Spec.of 9 Try.func50 rfl Try.ntmps50 [(0, _)] rfl rfl ?_
  intro cx ρ hr h0
  have hkeys : (keysV pm).Perm (natsV .u32 K) := by
    have := hp.map fun x : Int => Value.int .u32 x
    simpa [keysV, natsV, List.map_map, Function.comp_def] using this
  have hKl : K.length = pm.length := by have := hp.length_eq; simpa using this.symm
  refine Cd.seq fun K1 hK1 => ?_
  refine Cd.plain [(0, false)] rfl rfl ?_
  refine Jp.y 2 rfl (want_all rfl) rfl rfl Kp.true (Y.assign rfl rfl) ?_
  refine Jp.done hK1 ?_
  refine Cd.seq fun K2 hK2 => ?_
  refine Cd.plain [(0, false), (1, false), (2, false)] rfl rfl ?_
  refine Jp.y 4 rfl (want_all rfl) rfl rfl Kp.true (Y.move rfl rfl) ?_
  refine Jp.call [0, 1] [0, 1, 2] (collect_spec cb pb pm hlen) 5 rfl (want_all rfl) rfl rfl (Runs.fn rfl Try.call79 rfl) (by decide) (by decide) rfl trivial ?_
  rintro v1 ρ1 L1 ⟨s, A, c, hs, rfl, rfl⟩
  refine ⟨rfl, fun hle1 => ⟨Kp.true, ?_⟩⟩
  obtain ⟨l, rfl⟩ := natsV_inj (s := s) fun v hv => by
    obtain ⟨x, _, rfl⟩ := List.mem_map.1 ((hs.trans hkeys).mem_iff.1 hv)
    exact ⟨x, rfl⟩
  have hperm := natsV_perm (hs.trans hkeys)
  have hsl : (natsV .u32 l).length = K.length := by rw [natsV, List.length_map]; exact hperm.length_eq
  have hll : l.length = pm.length := by rw [← hKl]; exact hperm.length_eq
  rw [hsl, hKl]
  refine Jp.y 3 rfl (want_all rfl) rfl rfl Kp.true (Y.assign rfl rfl) ?_
  refine Jp.done hK2 ?_
  refine Cd.seq fun K3 hK3 => ?_
  refine Cd.plain [(0, false), (1, false)] rfl rfl ?_
  refine Jp.imp (j := 2) rfl (fun h hh => (show rowO A pm.length c l.toArray h from hh)) ?_
  refine Jp.y 6 rfl (want_all rfl) rfl rfl Kp.true (Y.move rfl rfl) ?_
  refine Jp.call [2] [2] (hsort A c l.toArray (by simpa using hll)) 7 rfl (want_all rfl) rfl rfl (Runs.fn rfl Try.call80 rfl) (by decide) (by decide) rfl trivial ?_
  rintro v2 ρ2 L2 ⟨rfl, rfl, r, hr1, hr2, rfl⟩
  refine ⟨rfl, fun hle2 => ⟨Kp.true, ?_⟩⟩
  have hrK : r.toList = K := sorted_is hr1 hr2 (by simpa using hperm) hK
  refine Jp.done hK3 ?_
  refine Cd.seq fun K4 hK4 => ?_
  refine Cd.plain [(0, false), (1, false)] rfl rfl ?_
  refine Jp.y 8 rfl (want_all rfl) rfl rfl Kp.true (Y.move rfl rfl) ?_
  refine Jp.y 2 rfl (want_all rfl) rfl rfl Kp.true (Y.assign rfl rfl) ?_
  refine Jp.done hK4 ?_
  refine Cd.imp (i := 2) rfl (fun h hh => (show OwnS 25 1 A pm.length c (natsV .u32 K) h by rw [← hrK]; exact hh)) ?_
  refine Cd.ret [(0, _), (1, _), (2, _)] rfl (res1 rfl rfl) ⟨rfl, rfl, rfl, trivial⟩ ⟨A, c, by rw [hKl], by rw [hKl]⟩
end Go.Proofs.Ytkjeidoplonkjaa
set_option linter.unusedVariables false
set_option linter.unusedSimpArgs false
set_option maxRecDepth 100000
namespace Go.Proofs.Ytkjeidoplonkjaa
open Go
end Go.Proofs.Ytkjeidoplonkjaa
set_option linter.unusedVariables false
set_option linter.unusedSimpArgs false
set_option maxRecDepth 100000
namespace Go.Proofs.Ytkjeidoplonkjaa
open Go
theorem pages_spec (b : Nat) (M : MemG) (hsort : SortsTo M.pages.length) : Spec Try.prog 28 #[.pointer (some ⟨b, 0, none⟩)] (fun _ => True) [(0, MemO b M)]
    (fun ρ ρ' v L => ∃ A c, v = .slice A M.pages.length c ∧ L = [(0, MemO b M), (1, OwnS 25 1 A M.pages.length c (natsV .u32 (M.pages.map (·.1))))]) := by
  refine Spec.of 9 Try.func28 rfl Try.ntmps28 [(0, _)] rfl rfl ?_
  intro cx ρ hr h0
  refine Cd.memOpen 0 5 6 7 (by decide) rfl fun x hf => ?_
  have hlen := hf.pages.length_eq
  rw [List.length_map] at hlen
  have hroom := hf.ok.room
  have hbud := hf.ok.budget.2
  have hrise : (M.pages.map (·.1)).Pairwise (· < ·) := by rw [List.pairwise_map]; exact hf.ok.rising
  have hp : (x.pm.map (·.1)).Perm ((M.pages.map (·.1)).map fun k : Nat => (k : Int)) := by
    have h1 := hf.pages.map (·.1)
    rw [List.map_map] at h1
    rw [List.map_map]
    exact h1
  have hs2 : SortsTo x.pm.length := by rw [hlen]; exact hsort
  dsimp only [memObj]
  refine Cd.seq fun K1 hK1 => ?_
  refine Cd.plain [(0, false)] rfl rfl ?_
  refine Jp.y 2 rfl (want_all rfl) rfl rfl Kp.true (Y.assign rfl rfl) ?_
  refine Jp.done hK1 ?_
  refine Cd.seq fun K2 hK2 => ?_
  refine Cd.plain [(0, false), (1, false), (2, false), (3, false), (4, false), (5, false), (6, false)] rfl rfl ?_
  refine Jp.y 3 rfl (want_all rfl) rfl rfl Kp.true (Y.move rfl rfl) ?_
  refine Jp.y 4 rfl (want_all rfl) rfl rfl Kp.true (Y.nilCheck rfl rfl) ?_
  refine Jp.y 5 rfl (want_all rfl) rfl rfl Kp.true (by first | exact Y.fieldAddrP rfl rfl Try.underlying142 rfl Try.sizeOf139 (by decide) (show _ + 1 = _ from rfl) | exact Y.fieldAddr rfl rfl Try.underlying142 rfl Try.sizeOf139 (by decide)) ?_
  refine Jp.y 6 rfl (want_all rfl) rfl rfl Kp.true (Y.loadO 0 rfl Try.isAgg139 rfl rfl rfl) ?_
  refine Jp.call [] [8] (keys_spec x.pb) 7 rfl (want_all rfl) rfl rfl (Runs.fn rfl Try.call51 rfl) (by decide) (by decide) rfl trivial ?_
  rintro v1 ρ1 L1 ⟨rfl, cb, rfl, rfl⟩
  refine ⟨rfl, fun hle1 => ⟨Kp.true, ?_⟩⟩
  refine Jp.call [8, 5] [8, 5, 1] (sorted_spec cb x.pb x.pm (M.pages.map (·.1)) hrise hp (by omega) hs2) 8 rfl (want_all rfl) rfl rfl (Runs.fn rfl Try.call50 rfl) (by decide) (by decide) rfl trivial ?_
  rintro v2 ρ2 L2 ⟨A, c, rfl, rfl⟩
  refine ⟨rfl, fun hle2 => ⟨Kp.true, ?_⟩⟩
  rw [List.length_map]
  refine Jp.y 2 rfl (want_all rfl) rfl rfl Kp.true (Y.assign rfl rfl) ?_
  refine Jp.done hK2 ?_
  refine Cd.memClose (b := b) (x := x) 0 5 6 7 (by decide) hf rfl rfl rfl rfl ?_
  refine Cd.ret [(0, _), (1, _)] rfl (res1 rfl rfl) ⟨rfl, rfl, trivial⟩ ⟨A, c, rfl, rfl⟩
end Go.Proofs.Ytkjeidoplonkjaa
