/- The sorted keys of a map: slices.Sorted(maps.Keys(m)). -/
import Derived.Test.YtgfbdiibndbbjaaIterE
set_option linter.unusedVariables false
set_option linter.unusedSimpArgs false
set_option maxRecDepth 100000
namespace Go.Proofs.Ytgfbdiibndbbjaa
open Go
theorem swoN : Go.Sort.SWO ltN := ⟨fun x => by simp [ltN], fun x y z h1 h2 => by simp [ltN] at *; omega, fun x y z h1 h2 => by simp [ltN] at *; omega⟩
theorem sorted_le {r : Array Nat} (hs : Go.Sort.SortedIn ltN 0 r.size r) : r.toList.Pairwise (· ≤ ·) := by
  rw [List.pairwise_iff_getElem]
  intro i j hi hj hij
  have hj' : j < r.size := by simpa using hj
  have := hs i j (Nat.zero_le _) hij hj'
  have hi' : i < r.size := by omega
  simp only [ltN, getElem!_pos r i hi', getElem!_pos r j hj', decide_eq_false_iff_not] at this
  simp; omega
theorem sorted_is {r : Array Nat} {s K : List Nat} (hp : r.toList.Perm s) (hs : Go.Sort.SortedIn ltN 0 r.size r) (hk : s.Perm K) (hK : K.Pairwise (· < ·)) : r.toList = K :=
  List.Perm.eq_of_pairwise (le := (· ≤ ·)) (fun a b _ _ h1 h2 => by omega) (sorted_le hs) (hK.imp fun h => Nat.le_of_lt h) (hp.trans hk)
theorem permIn_perm {d r : Array Nat} (h : Go.Sort.PermIn 0 d.size d r) : r.size = d.size ∧ r.toList.Perm d.toList := by
  obtain ⟨h1, _, h3⟩ := h
  refine ⟨h1, ?_⟩
  have e1 : (r.extract 0 d.size).toList = r.toList := by rw [← h1]; simp
  have e2 : (d.extract 0 d.size).toList = d.toList := by simp
  rw [e1, e2] at h3; exact h3
/-- slices.Sort, whatever its road. -/
def SortsTo (n : Nat) : Prop := ∀ (A : Option Addr) (c : Nat) (d : Array Nat), d.size = n → Spec Try.prog 71 #[.slice A n c] (fun _ => True) [(0, rowO A n c d)]
    (fun ρ ρ' v L => ρ' = ρ ∧ v = .tuple #[] ∧ ∃ r : Array Nat, r.toList.Perm d.toList ∧ Go.Sort.SortedIn ltN 0 r.size r ∧ L = [(0, rowO A n c r)])
theorem sorts12 (n : Nat) (hn : n ≤ 12) : SortsTo n := fun A c d hd => by
  refine (sortSmall_spec A n c d hd hn).mono (fun _ h => h) ?_
  rintro ρ ρ' v L ⟨rfl, rfl, rfl⟩
  obtain ⟨h1, h2⟩ := Go.Sort.insertionSort_holds swoN d 0 n (Nat.zero_le _) (by omega)
  obtain ⟨h3, h4⟩ := permIn_perm (by rw [hd]; exact h1)
  exact ⟨rfl, rfl, _, h4, by rw [h3, hd]; exact h2, rfl⟩
theorem natsV_inj {s : List Value} (h : ∀ v ∈ s, ∃ x : Nat, v = .int .u32 x) : ∃ l : List Nat, s = natsV .u32 l := by
  induction s with
  | nil => exact ⟨[], rfl⟩
  | cons v s ih =>
    obtain ⟨x, rfl⟩ := h v (by simp)
    obtain ⟨l, rfl⟩ := ih fun v hv => h v (List.mem_cons_of_mem _ hv)
    exact ⟨x :: l, rfl⟩
theorem natsV_perm {l K : List Nat} (h : (natsV .u32 l).Perm (natsV .u32 K)) : l.Perm K := by
  have h2 := h.map fun v => match v with | .int _ x => x.toNat | _ => 0
  simpa [natsV, List.map_map, Function.comp_def] using h2
/-- The keys of a map, rising. -/
theorem sorted_spec (cb pb : Nat) (pm : MapL) (K : List Nat) (hK : K.Pairwise (· < ·)) (hp : (pm.map (·.1)).Perm (K.map fun k : Nat => (k : Int))) (hlen : pm.length ≤ 4096) (hsort : SortsTo pm.length) : Spec Try.prog 55 #[kfn cb] (fun _ => True) [(0, capO cb pb), (1, MapO .u32 pb pm)]
    (fun ρ ρ' v L => ∃ A c, v = .slice A K.length c ∧ L = [(0, capO cb pb), (1, MapO .u32 pb pm), (2, OwnS 26 1 A K.length c (natsV .u32 K))]) := by
  refine Spec.of 9 Try.func55 rfl Try.ntmps55 [(0, _)] rfl rfl ?_
  intro cx ρ hr h0
  have hkeys : (keysV pm).Perm (natsV .u32 K) := by
    have := hp.map fun x : Int => Value.int .u32 x
    simpa [keysV, natsV, List.map_map, Function.comp_def] using this
  have hKl : K.length = pm.length := by have := hp.length_eq; simpa using this.symm
  refine Cd.seq fun K1 hK1 => ?_
  refine Cd.plain [(0, false)] rfl rfl ?_
  refine Jp.y 2 rfl (want_all rfl) rfl rfl Kp.true (Y.assign rfl rfl) ?_
  refine Jp.done hK1 ?_
  refine Cd.seq fun K2 hK2 => ?_
  refine Cd.plain [(0, false), (1, false), (2, false)] rfl rfl ?_
  refine Jp.y 4 rfl (want_all rfl) rfl rfl Kp.true (Y.move rfl rfl) ?_
  refine Jp.call [0, 1] [0, 1, 2] (collect_spec cb pb pm hlen) 5 rfl (want_all rfl) rfl rfl (Runs.fn rfl Try.call70 rfl) (by decide) (by decide) rfl trivial ?_
  rintro v1 ρ1 L1 ⟨s, A, c, hs, rfl, rfl⟩
  refine ⟨rfl, fun hle1 => ⟨Kp.true, ?_⟩⟩
  obtain ⟨l, rfl⟩ := natsV_inj (s := s) fun v hv => by
    obtain ⟨x, _, rfl⟩ := List.mem_map.1 ((hs.trans hkeys).mem_iff.1 hv)
    exact ⟨x, rfl⟩
  have hperm := natsV_perm (hs.trans hkeys)
  have hsl : (natsV .u32 l).length = K.length := by rw [natsV, List.length_map]; exact hperm.length_eq
  have hll : l.length = pm.length := by rw [← hKl]; exact hperm.length_eq
  rw [hsl, hKl]
  refine Jp.y 3 rfl (want_all rfl) rfl rfl Kp.true (Y.assign rfl rfl) ?_
  refine Jp.done hK2 ?_
  refine Cd.seq fun K3 hK3 => ?_
  refine Cd.plain [(0, false), (1, false)] rfl rfl ?_
  refine Jp.imp (j := 2) rfl (fun h hh => (show rowO A pm.length c l.toArray h from hh)) ?_
  refine Jp.y 6 rfl (want_all rfl) rfl rfl Kp.true (Y.move rfl rfl) ?_
  refine Jp.call [2] [2] (hsort A c l.toArray (by simpa using hll)) 7 rfl (want_all rfl) rfl rfl (Runs.fn rfl Try.call71 rfl) (by decide) (by decide) rfl trivial ?_
  rintro v2 ρ2 L2 ⟨rfl, rfl, r, hr1, hr2, rfl⟩
  refine ⟨rfl, fun hle2 => ⟨Kp.true, ?_⟩⟩
  have hrK : r.toList = K := sorted_is hr1 hr2 (by simpa using hperm) hK
  refine Jp.done hK3 ?_
  refine Cd.seq fun K4 hK4 => ?_
  refine Cd.plain [(0, false), (1, false)] rfl rfl ?_
  refine Jp.y 8 rfl (want_all rfl) rfl rfl Kp.true (Y.move rfl rfl) ?_
  refine Jp.y 2 rfl (want_all rfl) rfl rfl Kp.true (Y.assign rfl rfl) ?_
  refine Jp.done hK4 ?_
  refine Cd.imp (i := 2) rfl (fun h hh => (show OwnS 26 1 A pm.length c (natsV .u32 K) h by rw [← hrK]; exact hh)) ?_
  refine Cd.ret [(0, _), (1, _), (2, _)] rfl (res1 rfl rfl) ⟨rfl, rfl, rfl, trivial⟩ ⟨A, c, by rw [hKl], by rw [hKl]⟩
end Go.Proofs.Ytgfbdiibndbbjaa
