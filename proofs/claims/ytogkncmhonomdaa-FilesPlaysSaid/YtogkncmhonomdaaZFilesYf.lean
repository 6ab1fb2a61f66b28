import Derived.Test.YtogkncmhonomdaaZFilesYe
set_option linter.unusedVariables false
set_option linter.unusedSimpArgs false
set_option maxRecDepth 100000
namespace Go.Proofs.Ytogkncmhonomdaa
open Go
theorem good_names {f : FeedP} (h : good f = true) : (f.files.map (·.1)).Nodup := by
  simp only [good, Bool.and_eq_true, decide_eq_true_eq, goodFiles] at h
  have h1 := h.2.1
  rw [List.Nodup, List.pairwise_map, List.pairwise_iff_getElem]
  intro i j hi hj hij e
  have h2 := List.all_eq_true.1 h1 j (List.mem_range.2 hj)
  rw [okAt, List.getElem?_eq_getElem hj] at h2
  simp only [Bool.and_eq_true, Bool.not_eq_true'] at h2
  have h3 := List.any_eq_false.1 h2.2 f.files[i] (List.mem_iff_getElem?.2 ⟨i, by rw [List.getElem?_take_of_lt hij]; exact List.getElem?_eq_getElem hi⟩)
  simp [e] at h3
def start3 : List (Int × Int × Nat) := [(0, -1, 0), (1, -2, 0), (2, -2, 0)]
theorem rel_new (f : FeedG) (bu : Nat) (A : Option Addr) (c : Nat) : Rel (newFP f.p) ⟨bu, ⟨if good f.p then f else feed0, 0, 0, 0⟩, A, c, start3, ⟨none, 0, []⟩, ⟨none, 0, []⟩⟩ := by
  refine ⟨?_, ?_, fun fd => ?_, rfl, rfl, rfl, fun _ _ _ => rfl, fun x hx => ?_, (show (start3.map (·.1)).Nodup from by decide), ?_, ?_⟩
  · show (if good f.p then f.p.files else []) = _
    cases h : good f.p <;> rfl
  · show beginP f.p = _
    rw [beginP]
    cases h : good f.p <;> rfl
  · show gget [(0, _), (1, _), (2, _)] fd = (List.find? _ [(0, -1, 0), (1, -2, 0), (2, -2, 0)]).map _
    by_cases e0 : fd = 0
    · subst e0
      simp only [newFP, filOf, dataOf]
      cases h : good f.p <;> rfl
    · by_cases e1 : fd = 1
      · subst e1; rfl
      · by_cases e2 : fd = 2
        · subst e2; rfl
        · have h1 : gget ([(0, (⟨if good f.p then f.p.input else [], 0, false⟩ : FilP)), (1, ⟨[], 0, true⟩), (2, ⟨[], 0, true⟩)] : List (Int × FilP)) fd = none := gget_none.2 (by simp; omega)
          rw [h1, List.find?_eq_none.2 (by simp; omega)]; rfl
  · simp [start3] at hx
    rcases hx with rfl | rfl | rfl
    · exact ⟨.inr (.inl rfl), by decide⟩
    · exact ⟨.inl ⟨rfl, .inl rfl⟩, by decide⟩
    · exact ⟨.inl ⟨rfl, .inr rfl⟩, by decide⟩
  · cases h : good f.p with
    | false => exact List.nodup_nil
    | true =>
      have := good_names h
      have e : f.p.files.map (·.1) = f.files.xs.map fun g => str g.name := by show (f.files.xs.map FileG.p).map _ = _; rw [List.map_map]; rfl
      rw [e] at this
      exact this
  · cases h : good f.p with
    | false => exact ⟨(show start3.length ≤ 16 from by decide), Nat.zero_le _⟩
    | true =>
      have := (good_files h).1
      exact ⟨(show start3.length ≤ 16 from by decide), by show f.files.xs.length ≤ 8; have e : f.p.files.length = f.files.xs.length := List.length_map _; omega⟩
theorem rfNew_spec (f : FeedG) : Spec Try.prog 7 #[.agg f.cells.toArray] (RdFeed f) []
    (fun ρ ρ' v L => ρ' = ρ ∧ ∃ b r, v = .pointer (some ⟨b, 0, none⟩) ∧ L = [(0, RfPt b r), (1, RefPt r.bu r.u), (2, RfOpen r)] ∧ RdRf r ρ ∧ Rel (newFP f.p) r) := by
  have hB := refBegin2_spec f
  have hR := rel_new f
  have hfl := f
  refine Spec.of 11 Try.func7 rfl Try.ntmps7 [(0, _)] rfl rfl ?_
  intro cx ρ hr h0
  refine Cd.seq fun K1 hK1 => ?_
  refine Cd.plain [(0, false), (1, false)] rfl rfl ?_
  refine Jp.box 50 1 rfl (want_all rfl) rfl rfl rfl rfl fun b50 => ⟨Kp.true, ?_⟩
  refine Jp.y 2 rfl (want_all rfl) rfl rfl Kp.true (Y.assign rfl rfl) ?_
  refine Jp.done hK1 ?_
  refine Cd.seq fun K2 hK2 => ?_
  refine Cd.plain [(0, false), (1, false), (2, false), (3, false), (4, false), (5, false), (6, false), (7, false), (8, false)] rfl rfl ?_
  refine Jp.y 3 rfl (want_all rfl) rfl rfl Kp.true (by first | exact Y.loadAggO 50 rfl Try.isAgg38 Try.sizeOf38 rfl rfl rfl | exact Y.loadAggO 50 rfl Try.isAgg38 Try.sizeOf38 rfl rfl rfl) ?_
  refine Jp.call [] [1] hB 4 rfl (want_all rfl) rfl rfl (Runs.fn rfl Try.call27 rfl) (by decide) (by decide) rfl hr ?_
  rintro v1 ρ1 L1 ⟨rfl, bu, u, rfl, rfl, hu, hue⟩
  refine ⟨rfl, fun hle1 => ⟨Kp.true, ?_⟩⟩
  refine Jp.y 5 rfl (want_all rfl) rfl rfl Kp.true (Y.struct [(0, _), (1, _), (2, _)] [_, _, _] rfl rfl places74 Try.zeroValue74 rfl) ?_
  refine Jp.y 6 rfl (want_all rfl) rfl rfl Kp.true (Y.struct [(0, _), (1, _), (2, _)] [_, _, _] rfl rfl places74 Try.zeroValue74 rfl) ?_
  refine Jp.y 7 rfl (want_all rfl) rfl rfl Kp.true (Y.struct [(0, _), (1, _), (2, _)] [_, _, _] rfl rfl places74 Try.zeroValue74 rfl) ?_
  refine Jp.lit 8 2 [(0, _), (1, _), (2, _)] (start3.flatMap openC) rfl (want_all rfl) rfl rfl rfl rfl Try.underlying57 Try.sizeOf74 Try.zeroValue74 rfl rfl rfl rfl rfl fun b2 => ⟨Kp.true, ?_⟩
  refine Jp.y 9 rfl (want_all rfl) rfl rfl Kp.true (Y.struct [(0, _), (1, _)] [_, _, _, _] rfl rfl places60 Try.zeroValue60 rfl) ?_
  refine Jp.box 0 10 rfl (want_all rfl) rfl rfl rfl rfl fun b0 => ⟨Kp.true, ?_⟩
  refine Jp.y 2 rfl (want_all rfl) rfl rfl Kp.true (Y.assign rfl rfl) ?_
  refine Jp.done hK2 ?_
  refine Cd.ret [(0, _), (1, _), (2, _)] rfl (res1 rfl rfl) ⟨rfl, rfl, rfl, trivial⟩ ?_
  refine ⟨rfl, b0, ⟨bu, u, some ⟨b2, 0, none⟩, 3, start3, ⟨none, 0, []⟩, ⟨none, 0, []⟩⟩, rfl, rfl, ⟨hu, ?_, ?_, RdS.nil 1 _, RdS.nil 1 _⟩, by rw [hue]; exact hR bu (some ⟨b2, 0, none⟩) 3⟩
  · show RdB u.f.input _
    rw [hue]
    cases h : good f.p
    · exact RdS.nil 1 _
    · exact hr.input
  · show RdFiles u.f.files _
    rw [hue]
    cases h : good f.p
    · exact ⟨RdS.nil 2 _, fun _ h => (List.not_mem_nil h).elim⟩
    · exact hr.files
end Go.Proofs.Ytogkncmhonomdaa
