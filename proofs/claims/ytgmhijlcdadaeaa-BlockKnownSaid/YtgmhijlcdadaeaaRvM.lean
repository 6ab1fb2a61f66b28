/- Law 18: BlockKnown. -/
import Derived.Test.YtgmhijlcdadaeaaRvL
set_option linter.unusedVariables false
set_option linter.unusedSimpArgs false
set_option maxRecDepth 100000
namespace Go.Proofs.Ytgmhijlcdadaeaa
open Go
def i19 : InsP := ⟨19, 0, 0, 0, 0⟩
def i47 : InsP := ⟨47, 0, 0, 0, 0⟩
def knM : MemG := madeM [19, 19, 0, 19, 4111, 19]
def knM1 : MemG := (writeM knM 4200 [1] 65536 0).2
def knAll (n : Nat) : Bytes := (List.replicate n [19, 0, 0, 0]).flatten
theorem knAll_len (n : Nat) : (knAll n).length = 4 * n := by
  induction n with
  | zero => rfl
  | succ n ih => rw [knAll, List.replicate_succ, List.flatten_cons, List.length_append]; unfold knAll at ih; rw [ih]; simp; omega
theorem knAll_snoc (n : Nat) : knAll (n + 1) = knAll n ++ [19, 0, 0, 0] := by
  unfold knAll; rw [List.replicate_succ', List.flatten_append]; rfl
def knN : MemG := (writeM (madeM []) 4096 (knAll 64) 65536 0).2
theorem kn_a : findL knM 4096 (mostP 64) 0 = [i19, i19] := by kernel_rfl
theorem kn_c : findL knM 4096 (mostP 1) 0 = [i19] := by kernel_rfl
theorem kn_e : findL knM 4104 (mostP 8) 0 = [] := by kernel_rfl
theorem kn_e2 : (fetchP knM 4104).2 = ⟨2, 4104, 0⟩ := by kernel_rfl
theorem kn_f : findL knM 4108 (mostP 8) 0 = [i19, i47] := by kernel_rfl
theorem kn_g : findL knM 65536 (mostP 8) 0 = [] := by kernel_rfl
theorem kn_g2 : (fetchP knM 65536).2 = ⟨1, 65536, 2⟩ := by kernel_rfl
theorem kn_h : findL knM 4098 (mostP 8) 0 = [] := by kernel_rfl
theorem kn_h2 : (fetchP knM 4098).2 = ⟨1, 4098, 3⟩ := by kernel_rfl
theorem kn_g0 : knM.gens (baseN 4096) = 2 := by kernel_rfl
theorem kn_g1 : knM1.gens (baseN 4096) = 3 := by kernel_rfl
theorem kn_i : findL knN 4336 (mostP 64) 0 = [i19, i19, i19, i19] := by kernel_rfl
theorem kn_j : findL knN 4096 (mostP (-3)) 0 = [i19] := by kernel_rfl
end Go.Proofs.Ytgmhijlcdadaeaa
