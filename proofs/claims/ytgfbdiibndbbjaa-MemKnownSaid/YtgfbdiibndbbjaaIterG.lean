/- Contracts: Pages. -/
import Derived.Test.YtgfbdiibndbbjaaIterF
import Derived.Test.YtgfbdiibndbbjaaMemX
set_option linter.unusedVariables false
set_option linter.unusedSimpArgs false
set_option maxRecDepth 100000
namespace Go.Proofs.Ytgfbdiibndbbjaa
open Go
theorem pages_spec (b : Nat) (M : MemG) (hsort : SortsTo M.pages.length) : Spec Try.prog 29 #[.pointer (some ⟨b, 0, none⟩)] (fun _ => True) [(0, MemO b M)]
    (fun ρ ρ' v L => ∃ A c, v = .slice A M.pages.length c ∧ L = [(0, MemO b M), (1, OwnS 26 1 A M.pages.length c (natsV .u32 (M.pages.map (·.1))))]) := by
  refine Spec.of 9 Try.func29 rfl Try.ntmps29 [(0, _)] rfl rfl ?_
  intro cx ρ hr h0
  refine Cd.memOpen 0 5 6 7 (by decide) rfl fun x hf => ?_
  have hlen := hf.pages.length_eq
  rw [List.length_map] at hlen
  have hroom := hf.ok.room
  have hbud := hf.ok.budget.2
  have hrise : (M.pages.map (·.1)).Pairwise (· < ·) := by rw [List.pairwise_map]; exact hf.ok.rising
  have hp : (x.pm.map (·.1)).Perm ((M.pages.map (·.1)).map fun k : Nat => (k : Int)) := by
    have h1 := hf.pages.map (·.1)
    rw [List.map_map] at h1
    rw [List.map_map]
    exact h1
  have hs2 : SortsTo x.pm.length := by rw [hlen]; exact hsort
  dsimp only [memObj]
  refine Cd.seq fun K1 hK1 => ?_
  refine Cd.plain [(0, false)] rfl rfl ?_
  refine Jp.y 2 rfl (want_all rfl) rfl rfl Kp.true (Y.assign rfl rfl) ?_
  refine Jp.done hK1 ?_
  refine Cd.seq fun K2 hK2 => ?_
  refine Cd.plain [(0, false), (1, false), (2, false), (3, false), (4, false), (5, false), (6, false)] rfl rfl ?_
  refine Jp.y 3 rfl (want_all rfl) rfl rfl Kp.true (Y.move rfl rfl) ?_
  refine Jp.y 4 rfl (want_all rfl) rfl rfl Kp.true (Y.nilCheck rfl rfl) ?_
  refine Jp.y 5 rfl (want_all rfl) rfl rfl Kp.true (by first | exact Y.fieldAddrP rfl rfl Try.underlying79 rfl Try.sizeOf76 (by decide) (show _ + 1 = _ from rfl) | exact Y.fieldAddr rfl rfl Try.underlying79 rfl Try.sizeOf76 (by decide)) ?_
  refine Jp.y 6 rfl (want_all rfl) rfl rfl Kp.true (Y.loadO 0 rfl Try.isAgg76 rfl rfl rfl) ?_
  refine Jp.call [] [8] (keys_spec x.pb) 7 rfl (want_all rfl) rfl rfl (Runs.fn rfl Try.call56 rfl) (by decide) (by decide) rfl trivial ?_
  rintro v1 ρ1 L1 ⟨rfl, cb, rfl, rfl⟩
  refine ⟨rfl, fun hle1 => ⟨Kp.true, ?_⟩⟩
  refine Jp.call [8, 5] [8, 5, 1] (sorted_spec cb x.pb x.pm (M.pages.map (·.1)) hrise hp (by omega) hs2) 8 rfl (want_all rfl) rfl rfl (Runs.fn rfl Try.call55 rfl) (by decide) (by decide) rfl trivial ?_
  rintro v2 ρ2 L2 ⟨A, c, rfl, rfl⟩
  refine ⟨rfl, fun hle2 => ⟨Kp.true, ?_⟩⟩
  rw [List.length_map]
  refine Jp.y 2 rfl (want_all rfl) rfl rfl Kp.true (Y.assign rfl rfl) ?_
  refine Jp.done hK2 ?_
  refine Cd.memClose (b := b) (x := x) 0 5 6 7 (by decide) hf rfl rfl rfl rfl ?_
  refine Cd.ret [(0, _), (1, _)] rfl (res1 rfl rfl) ⟨rfl, rfl, trivial⟩ ⟨A, c, rfl, rfl⟩
end Go.Proofs.Ytgfbdiibndbbjaa
