/- slices.AppendSeq, slices.Collect, maps.Keys: the keys of a map in some order. -/
import Derived.Test.YtgfbdiibndbbjaaIterB
set_option linter.unusedVariables false
set_option linter.unusedSimpArgs false
set_option maxRecDepth 100000
namespace Go.Proofs.Ytgfbdiibndbbjaa
open Go
/-- The box in which maps.Keys keeps its map; the map. -/
def capO (cb pb : Nat) : HProp := Pt cb (.cells #[.map (some pb)] 76)
def kfn (cb : Nat) : Value := .func (.func 72) #[] #[.pointer (some ⟨cb, 0, none⟩)]
theorem okKeys {pm : MapL} (h : pm.length ≤ 4096) (s r : List Value) (hp : (s ++ r).Perm (keysV pm)) : s.length ≤ 4096 ∧ ∀ v ∈ s, ∃ x : Int, v = .int .u32 x := by
  have h1 := hp.length_eq
  rw [List.length_append, keysV, List.length_map] at h1
  refine ⟨by omega, fun v hv => ?_⟩
  have := hp.mem_iff.1 (List.mem_append_left r hv)
  obtain ⟨y, _, rfl⟩ := List.mem_map.1 this
  exact ⟨_, rfl⟩
theorem appendSeq_spec (cb pb : Nat) (pm : MapL) (hlen : pm.length ≤ 4096) : Spec Try.prog 75 #[.slice none 0 0, kfn cb] (fun _ => True) [(0, capO cb pb), (1, MapO .u32 pb pm)]
    (fun ρ ρ' v L => ∃ s A c, s.Perm (keysV pm) ∧ v = .slice A s.length c ∧ L = [(0, capO cb pb), (1, MapO .u32 pb pm), (2, OwnS 26 1 A s.length c s)]) := by
  refine Spec.ofM 13 Try.func75 rfl Try.ntmps75 [(0, _), (1, _)] rfl rfl ?_
  intro cx ρ hr h0
  refine Cd.seq fun K1 hK1 => ?_
  refine Cd.plain [(0, false), (1, false)] rfl rfl ?_
  refine Jp.box 5 2 rfl (want_all rfl) rfl rfl rfl rfl fun b5 => ⟨Kp.true, ?_⟩
  refine Jp.y 4 rfl (want_all rfl) rfl rfl Kp.true (Y.assign rfl rfl) ?_
  refine Jp.done hK1 ?_
  refine Cd.seq fun K2 hK2 => ?_
  refine Cd.seq fun K3 hK3 => ?_
  refine Cd.plain [(0, false)] rfl rfl ?_
  refine Jp.y 6 rfl (want_all rfl) rfl rfl Kp.true (Y.move rfl rfl) ?_
  refine Jp.done hK3 ?_
  refine Cd.block ?_
  refine Cd.make 2 (A := OwnS 26 1 none 0 0 []) (OwnS.nil _ _ _) ?_
  intro a w ha hs
  have hw1 : St cx ρ [(0, capO cb pb), (1, MapO .u32 pb pm), (5, Pt b5 (.cells #[.slice none 0 0] 56)), (2, OwnS 26 1 none 0 0 [])] w := hs.sub ⟨rfl, rfl, rfl, rfl, trivial⟩
  have ht2 : a.tmps[2]? = some (.pointer (some ⟨b5, 0, none⟩)) := ha.slot 2 _ rfl
  have ht6 : a.tmps[6]? = some (kfn cb) := ha.slot 6 _ rfl
  refine (wpIn_wide (n := 1)).1 (wpIn_rangeFunc fun fn _ => ?_)
  obtain ⟨W, hW⟩ : ∃ W, (w.alloc (.deferred (some []))).alloc (.loop { state := .ready, pending := none, fn, tmps := a.tmps, params := #[7], assign := apA, body := apB, defers := w.heap.size }) = W := ⟨_, rfl⟩
  refine ⟨w.heap.size + 1, [{ target := .collected w.heap.size, args := #[] }], W, { target := .fn (.func 72) #[.pointer (some ⟨cb, 0, none⟩)], args := #[.func (.yield (w.heap.size + 1)) #[] #[]] }, W, 72,
    #[.func (.yield (w.heap.size + 1)) #[] #[], .pointer (some ⟨cb, 0, none⟩)], W, ?_, ?_, ?_, ?_, fun h => (by cases h), ?_⟩
  · rw [← hW]; exact run_enterLoop_outer _ _ _ _ _
  · simp [resolve, rangeCall, ht6, kfn, Deferred.ofValue, go_sem]
  · intro f' _; trivial
  · simp [invoke, go_sem, Try.call72]
  -- the iterator, over the record and the block for deferred calls
  have hsz : (w.alloc (.deferred (some []))).heap.size = w.heap.size + 1 := World.size_alloc _ _
  have s1 : St cx ρ ((7, Pt w.heap.size (.deferred (some []))) :: [(0, capO cb pb), (1, MapO .u32 pb pm), (5, Pt b5 (.cells #[.slice none 0 0] 56)), (2, OwnS 26 1 none 0 0 [])]) (w.alloc (.deferred (some []))) := hw1.alloc 7 _
  have s2 := s1.alloc 8 (.loop { state := .ready, pending := none, fn, tmps := a.tmps, params := #[7], assign := apA, body := apB, defers := w.heap.size })
  rw [hsz] at s2
  have s3 : St cx ρ ((8, Pt (w.heap.size + 1) (.loop (apLoop apA apB fn a.tmps w.heap.size .ready))) :: (7, Pt w.heap.size (.deferred (some []))) :: [(0, capO cb pb), (1, MapO .u32 pb pm), (5, Pt b5 (.cells #[.slice none 0 0] 56)), (2, OwnS 26 1 none 0 0 [])]) ((w.alloc (.deferred (some []))).alloc (.loop { state := .ready, pending := none, fn, tmps := a.tmps, params := #[7], assign := apA, body := apB, defers := w.heap.size })) := s2
  rw [hW] at s3
  have g1 := s3.glue (j := 8) (k := 7) (by decide) rfl rfl
  have g2 := g1.glue (j := 2) (k := 8) (by decide) rfl rfl
  have g3 := g2.glue (j := 5) (k := 2) (by decide) rfl rfl
  have g4 := g3.imp (i := 5) (A' := ApJ apA apB b5 (w.heap.size + 1) w.heap.size fn a.tmps []) rfl fun h hh => ⟨(none, 0), hh⟩
  have g5 : St cx ρ [(0, capO cb pb), (1, MapO .u32 pb pm), (5, ApJ apA apB b5 (w.heap.size + 1) w.heap.size fn a.tmps [])] W := g4.sub ⟨rfl, rfl, rfl, trivial⟩
  obtain ⟨M', k1, k2⟩ := g5.call [0, 1, 5] [0, 1, 5] (by decide) (by decide)
  have hY := apYields (b := b5) (l := w.heap.size + 1) (D := w.heap.size) (fn := fn) ha.size ht2
  refine callsIn_wide.2 ((keys1_spec hY cb pb pm (fun s r hp => okKeys hlen s r hp) W M' ρ trivial k1).mono ?_)
  rintro e w2 ⟨v, ρ', Lout, rfl, ⟨rfl, s, hperm, rfl⟩, hst⟩
  have hst2 := k2 w2 ρ' _ (by simp) hst
  have q0 : St cx ρ' [(5, ApJ apA apB b5 (w.heap.size + 1) w.heap.size fn a.tmps s), (0, capO cb pb), (1, MapO .u32 pb pm)] w2 := hst2.sub ⟨rfl, rfl, rfl, trivial⟩
  obtain ⟨⟨A, c⟩, q1⟩ := q0.ex' (j := 5) (by rw [look_cons, if_pos rfl]; rfl)
  have q2 := q1.part (j := 5) (k := 2) (by decide) (by rw [look_cons, if_pos rfl])
  have q3 := q2.part (j := 2) (k := 8) (by decide) (by rw [look_cons, if_neg (by decide), look_cons, if_pos rfl])
  have q4 := q3.part (j := 8) (k := 7) (by decide) (by rw [look_cons, if_neg (by decide), look_cons, if_pos rfl])
  dsimp only at q4
  have q5 : St cx ρ' [(5, Pt b5 (.cells #[.slice A s.length c] 56)), (2, OwnS 26 1 A s.length c s), (8, Pt (w.heap.size + 1) (.loop (apLoop apA apB fn a.tmps w.heap.size .ready))), (7, Pt w.heap.size (.deferred (some []))), (0, capO cb pb), (1, MapO .u32 pb pm)] w2 := q4.sub ⟨rfl, rfl, rfl, rfl, rfl, rfl, trivial⟩
  have hl := q5.pt (i := 8) rfl
  have hend := run_endLoop (P := Try.prog) hl (by simp [apLoop])
  have q6 := q5.putObj (j := 8) (o' := .loop { apLoop apA apB fn a.tmps w.heap.size .ready with state := .exhausted }) rfl
  refine ⟨none, _, hend, ?_⟩
  -- behind the loop
  show K2 _ _
  refine hK2 _ _ ?_
  refine (wpIn_wide (n := 1)).1 (wpIn_seq ?_)
  have hd : a.defers = [] := ha.defers
  rw [hd, List.append_nil]
  refine regionIn_of (D := [{ target := .collected w.heap.size, args := #[] }]) (Q := fun e a w' => match e with | .normal => At 13 [(4, .slice A s.length c)] a ∧ St cx ρ' [(7, Pt w.heap.size (.deferred (some []))), (2, OwnS 26 1 A s.length c s), (0, capO cb pb), (1, MapO .u32 pb pm)] w' | _ => False)
    (fun _ => trivial) ?_ [(0, false), (1, false)] rfl rfl ?_ ha q6 ?_
  · intro o ho
    simp only [List.mem_cons, List.not_mem_nil, or_false] at ho
    rcases ho with rfl | rfl
    · exact vo_load rfl
    · exact vo_assign rfl
  · refine Jp.y 12 rfl (want_all rfl) rfl rfl Kp.true (Y.loadO 5 rfl Try.isAgg56 rfl rfl rfl) ?_
    refine Jp.y 4 rfl (want_all rfl) rfl rfl Kp.true (Y.assign rfl rfl) ?_
    exact fun a w' ha' hs' => ⟨ha'.sub ⟨rfl, trivial⟩, hs'.sub ⟨rfl, rfl, rfl, rfl, trivial⟩⟩
  rintro a3 w3 ⟨ha3, hs3⟩
  have hD := hs3.pt (i := 7) rfl
  have hs4 := hs3.putObj (j := 7) (o' := .deferred none) rfl
  show Code.ret.wpIn Fence.wide 1 Try.prog _ _ _
  refine wpIn_ret ?_
  refine ⟨by simp, .inl ⟨_, _, rfl, run_takeDeferred hD, ?_⟩⟩
  have h4 := ha3.slot 4 _ rfl
  refine ⟨.slice A s.length c, ?_, .slice A s.length c, ρ', _, rfl, ⟨s, A, c, hperm, rfl, rfl⟩, ?_⟩
  · simp [results, Try.f75, h4]
  · exact hs4.sub ⟨rfl, rfl, rfl, trivial⟩
theorem collect_spec (cb pb : Nat) (pm : MapL) (hlen : pm.length ≤ 4096) : Spec Try.prog 70 #[kfn cb] (fun _ => True) [(0, capO cb pb), (1, MapO .u32 pb pm)]
    (fun ρ ρ' v L => ∃ s A c, s.Perm (keysV pm) ∧ v = .slice A s.length c ∧ L = [(0, capO cb pb), (1, MapO .u32 pb pm), (2, OwnS 26 1 A s.length c s)]) := by
  refine Spec.of 5 Try.func70 rfl Try.ntmps70 [(0, _)] rfl rfl ?_
  intro cx ρ hr h0
  refine Cd.seq fun K4 hK4 => ?_
  refine Cd.plain [(0, false)] rfl rfl ?_
  refine Jp.y 2 rfl (want_all rfl) rfl rfl Kp.true (Y.assign rfl rfl) ?_
  refine Jp.done hK4 ?_
  refine Cd.seq fun K5 hK5 => ?_
  refine Cd.plain [(0, false), (1, false), (2, false)] rfl rfl ?_
  refine Jp.y 3 rfl (want_all rfl) rfl rfl Kp.true (Y.move rfl rfl) ?_
  refine Jp.call [0, 1] [0, 1, 2] (appendSeq_spec cb pb pm hlen) 4 rfl (want_all rfl) rfl rfl (Runs.fn rfl Try.call75 rfl) (by decide) (by decide) rfl trivial ?_
  rintro v1 ρ1 L1 ⟨s, A, c, hs, rfl, rfl⟩
  refine ⟨rfl, fun hle1 => ⟨Kp.true, ?_⟩⟩
  refine Jp.y 2 rfl (want_all rfl) rfl rfl Kp.true (Y.assign rfl rfl) ?_
  refine Jp.done hK5 ?_
  refine Cd.ret [(0, _), (1, _), (2, _)] rfl (res1 rfl rfl) ⟨rfl, rfl, rfl, trivial⟩ ⟨s, A, c, hs, rfl, rfl⟩
theorem keys_spec (pb : Nat) : Spec Try.prog 56 #[.map (some pb)] (fun _ => True) [] (fun ρ ρ' v L => ρ' = ρ ∧ ∃ cb, v = kfn cb ∧ L = [(0, capO cb pb)]) := by
  refine Spec.of 4 Try.func56 rfl Try.ntmps56 [(0, _)] rfl rfl ?_
  intro cx ρ hr h0
  refine Cd.seq fun K6 hK6 => ?_
  refine Cd.plain [(0, false), (1, false)] rfl rfl ?_
  refine Jp.box 0 1 rfl (want_all rfl) rfl rfl rfl rfl fun b0 => ⟨Kp.true, ?_⟩
  refine Jp.y 2 rfl (want_all rfl) rfl rfl Kp.true (Y.assign rfl rfl) ?_
  refine Jp.done hK6 ?_
  refine Cd.seq fun K7 hK7 => ?_
  refine Cd.plain [(0, false), (1, false)] rfl rfl ?_
  refine Jp.y 3 rfl (want_all rfl) rfl rfl Kp.true (Y.makeFunc rfl rfl) ?_
  refine Jp.y 2 rfl (want_all rfl) rfl rfl Kp.true (Y.assign rfl rfl) ?_
  refine Jp.done hK7 ?_
  refine Cd.ret [(0, _)] rfl (res1 rfl rfl) ⟨rfl, trivial⟩ ⟨rfl, b0, rfl, rfl⟩
end Go.Proofs.Ytgfbdiibndbbjaa
