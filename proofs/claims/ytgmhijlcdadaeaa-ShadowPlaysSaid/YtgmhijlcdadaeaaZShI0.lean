import Derived.Test.YtgmhijlcdadaeaaZShH
import Derived.Test.YtgmhijlcdadaeaaZIterX2
set_option linter.unusedVariables false
set_option linter.unusedSimpArgs false
set_option maxRecDepth 100000
namespace Go.Proofs.Ytgmhijlcdadaeaa
open Go
theorem shKeys1_spec {l : Nat} {J : List Value → HProp} {ok : List Value → Prop} (hY : Yields Try.prog l J ok) (cb pb : Nat) (pm : MapL) (hok0 : ∀ s r, (s ++ r).Perm (keysV pm) → ok s) :
    Spec Try.prog 112 #[.func (.yield l) #[] #[], .pointer (some ⟨cb, 0, none⟩)] (fun _ => True) [(0, Pt cb (.cells #[.map (some pb)] 116)), (1, MapO .u32 pb pm), (2, J [])]
    (fun ρ ρ' v L => v = .tuple #[] ∧ ∃ s, s.Perm (keysV pm) ∧ L = [(0, Pt cb (.cells #[.map (some pb)] 116)), (1, MapO .u32 pb pm), (2, J s)]) := by
  refine Spec.of 14 Try.func112 rfl Try.ntmps112 [(0, _), (1, _)] rfl rfl ?_
  intro cx ρ hr h0
  refine Cd.seq fun K1 hK1 => ?_
  refine Cd.plain [(0, false), (1, false)] rfl rfl ?_
  refine Jp.y 4 rfl (want_all rfl) rfl rfl Kp.true (Y.loadO 0 rfl Try.isAgg116 rfl rfl rfl) ?_
  first | refine Jp.range 5 1 50 (by decide) rfl (want_all rfl) rfl rfl rfl rfl Try.underlying116 rfl fun r1 => ⟨Kp.true, ?_⟩
  refine Jp.done hK1 ?_
  refine Cd.block ?_
  refine Cd.loopK (G := MapL × List Value × Option (Int × Value) × Hp) (fun g => (g.2.1 ++ keysV g.1).Perm (keysV pm)) (fun g => g.1.length) (fun g => g.2.2.2) (fun g => []) [(0, _), (5, _)] (fun g => [(1, RangeO .u32 pb r1 pm g.1 g.2.2.1), (2, J g.2.1)]) [(0, _)] ⟨pm, [], none, ρ⟩ (List.Perm.refl _) rfl trivial ⟨rfl, rfl, trivial⟩ ⟨rfl, rfl, trivial⟩ ⟨rfl, trivial⟩ (fun g KLa hok hLa => ?_)
  obtain ⟨left, s, cur, ρg⟩ := g
  dsimp only at hok ⊢
  refine Cd.seq fun K2 hK2 => ?_
  refine Cd.plain [(0, false), (1, false)] rfl rfl ?_
  refine Jp.next 6 1 rfl (want_all rfl) rfl rfl (fun _ => rfl) rfl rfl (fun hn => ⟨Kp.true, ?_⟩) (fun q y hq => ⟨Kp.true, ?_⟩)
  · skip
    refine Jp.y 7 rfl (want_all rfl) rfl rfl Kp.true (Y.extract rfl rfl rfl) ?_
    refine Jp.done hK2 ?_
    refine Cd.seq fun K3 hK3 => ?_
    refine Cd.condF rfl ?_
    subst hn
    refine Cd.imp (i := 1) rfl RangeO.map ?_
    refine Cdx.end [(0, _), (1, _), (2, _)] rfl (res0 rfl) ⟨rfl, rfl, rfl, trivial⟩ ⟨rfl, s, by simpa [keysV] using hok, rfl⟩
  · have hpe := perm_erase hq
    have hql := (List.getElem?_eq_some_iff.1 hq).1
    have hel : (left.eraseIdx q).length < left.length := by rw [List.length_eraseIdx]; split <;> omega
    have hp2 : (s ++ [Value.int .u32 y.1] ++ keysV (left.eraseIdx q)).Perm (keysV pm) := by
      rw [List.append_assoc]
      exact (List.Perm.append_left s ((hpe.map fun (z : Int × Value) => Value.int .u32 z.1).symm)).trans hok
    refine Jp.y 7 rfl (want_all rfl) rfl rfl Kp.true (Y.extract rfl rfl rfl) ?_
    refine Jp.done hK2 ?_
    refine Cd.seq fun K4 hK4 => ?_
    refine Cd.condT rfl ?_
    refine Cd.skip hK4 ?_
    refine Cd.block ?_
    refine Cd.seq fun K5 hK5 => ?_
    refine Cd.plain [(0, false), (1, false), (2, false)] rfl rfl ?_
    refine Jp.y 8 rfl (want_all rfl) rfl rfl Kp.true (by first | exact Y.entry 1 rfl rfl rfl) ?_
    refine Jp.y 9 rfl (want_all rfl) rfl rfl Kp.true (Y.extract rfl rfl rfl) ?_
    refine Jp.y 3 rfl (want_all rfl) rfl rfl Kp.true (Y.assign rfl rfl) ?_
    refine Jp.done hK5 ?_
    refine Cd.seq fun K6 hK6 => ?_
    refine Cd.yield 2 rfl rfl rfl rfl rfl rfl (by decide) rfl hY (hok0 _ _ hp2) (fun ρY hleY => ?_)
    refine Jp.done hK6 ?_
    refine Cd.condF rfl ?_
    refine CdQ.again rfl hLa ⟨left.eraseIdx q, s ++ [Value.int .u32 y.1], some y, ρY⟩ hp2 hel rfl ⟨rfl, rfl, trivial⟩ ⟨rfl, rfl, rfl, trivial⟩
end Go.Proofs.Ytgmhijlcdadaeaa
