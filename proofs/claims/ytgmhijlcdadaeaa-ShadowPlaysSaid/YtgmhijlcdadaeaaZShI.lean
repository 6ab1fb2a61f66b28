import Derived.Test.YtgmhijlcdadaeaaZShI0
import Derived.Test.YtgmhijlcdadaeaaZSortX2
set_option linter.unusedVariables false
set_option linter.unusedSimpArgs false
set_option maxRecDepth 100000
namespace Go.Proofs.Ytgmhijlcdadaeaa
open Go
def shCapO (cb pb : Nat) : HProp := Pt cb (.cells #[.map (some pb)] 116)
def shKfn (cb : Nat) : Value := .func (.func 112) #[] #[.pointer (some ⟨cb, 0, none⟩)]
theorem shAppendSeq_spec (cb pb : Nat) (pm : MapL) (hlen : pm.length ≤ 4096) : Spec Try.prog 124 #[.slice none 0 0, shKfn cb] (fun _ => True) [(0, shCapO cb pb), (1, MapO .u32 pb pm)]
    (fun ρ ρ' v L => ∃ s A c, s.Perm (keysV pm) ∧ v = .slice A s.length c ∧ L = [(0, shCapO cb pb), (1, MapO .u32 pb pm), (2, OwnS 25 1 A s.length c s)]) := by
  refine Spec.ofM 13 Try.func124 rfl Try.ntmps124 [(0, _), (1, _)] rfl rfl ?_
  intro cx ρ hr h0
  refine Cd.seq fun K1 hK1 => ?_
  refine Cd.plain [(0, false), (1, false)] rfl rfl ?_
  refine Jp.box 5 2 rfl (want_all rfl) rfl rfl rfl rfl fun b5 => ⟨Kp.true, ?_⟩
  refine Jp.y 4 rfl (want_all rfl) rfl rfl Kp.true (Y.assign rfl rfl) ?_
  refine Jp.done hK1 ?_
  refine Cd.seq fun K2 hK2 => ?_
  refine Cd.seq fun K3 hK3 => ?_
  refine Cd.plain [(0, false)] rfl rfl ?_
  refine Jp.y 6 rfl (want_all rfl) rfl rfl Kp.true (Y.move rfl rfl) ?_
  refine Jp.done hK3 ?_
  refine Cd.block ?_
  refine Cd.make 2 (A := OwnS 25 1 none 0 0 []) (OwnS.nil _ _ _) ?_
  intro a w ha hs
  have hw1 : St cx ρ [(0, shCapO cb pb), (1, MapO .u32 pb pm), (5, Pt b5 (.cells #[.slice none 0 0] 26)), (2, OwnS 25 1 none 0 0 [])] w := hs.sub ⟨rfl, rfl, rfl, rfl, trivial⟩
  have ht2 : a.tmps[2]? = some (.pointer (some ⟨b5, 0, none⟩)) := ha.slot 2 _ rfl
  have ht6 : a.tmps[6]? = some (shKfn cb) := ha.slot 6 _ rfl
  refine (wpIn_wide (n := 1)).1 (wpIn_rangeFunc fun fn _ => ?_)
  obtain ⟨W, hW⟩ : ∃ W, (w.alloc (.deferred (some []))).alloc (.loop { state := .ready, pending := none, fn, tmps := a.tmps, params := #[7], assign := apA, body := apB, defers := w.heap.size }) = W := ⟨_, rfl⟩
  refine ⟨w.heap.size + 1, [{ target := .collected w.heap.size, args := #[] }], W, { target := .fn (.func 112) #[.pointer (some ⟨cb, 0, none⟩)], args := #[.func (.yield (w.heap.size + 1)) #[] #[]] }, W, 112,
    #[.func (.yield (w.heap.size + 1)) #[] #[], .pointer (some ⟨cb, 0, none⟩)], W, ?_, ?_, ?_, ?_, fun h => (by cases h), ?_⟩
  · rw [← hW]; exact run_enterLoop_outer _ _ _ _ _
  · simp [resolve, rangeCall, ht6, shKfn, Deferred.ofValue, go_sem]
  · intro f' _; trivial
  · simp [invoke, go_sem, Try.call112]
  have hsz : (w.alloc (.deferred (some []))).heap.size = w.heap.size + 1 := World.size_alloc _ _
  have s1 : St cx ρ ((7, Pt w.heap.size (.deferred (some []))) :: [(0, shCapO cb pb), (1, MapO .u32 pb pm), (5, Pt b5 (.cells #[.slice none 0 0] 26)), (2, OwnS 25 1 none 0 0 [])]) (w.alloc (.deferred (some []))) := hw1.alloc 7 _
  have s2 := s1.alloc 8 (.loop { state := .ready, pending := none, fn, tmps := a.tmps, params := #[7], assign := apA, body := apB, defers := w.heap.size })
  rw [hsz] at s2
  have s3 : St cx ρ ((8, Pt (w.heap.size + 1) (.loop (apLoop apA apB fn a.tmps w.heap.size .ready))) :: (7, Pt w.heap.size (.deferred (some []))) :: [(0, shCapO cb pb), (1, MapO .u32 pb pm), (5, Pt b5 (.cells #[.slice none 0 0] 26)), (2, OwnS 25 1 none 0 0 [])]) ((w.alloc (.deferred (some []))).alloc (.loop { state := .ready, pending := none, fn, tmps := a.tmps, params := #[7], assign := apA, body := apB, defers := w.heap.size })) := s2
  rw [hW] at s3
  have g1 := s3.glue (j := 8) (k := 7) (by decide) rfl rfl
  have g2 := g1.glue (j := 2) (k := 8) (by decide) rfl rfl
  have g3 := g2.glue (j := 5) (k := 2) (by decide) rfl rfl
  have g4 := g3.imp (i := 5) (A' := ApJ apA apB b5 (w.heap.size + 1) w.heap.size fn a.tmps []) rfl fun h hh => ⟨(none, 0), hh⟩
  have g5 : St cx ρ [(0, shCapO cb pb), (1, MapO .u32 pb pm), (5, ApJ apA apB b5 (w.heap.size + 1) w.heap.size fn a.tmps [])] W := g4.sub ⟨rfl, rfl, rfl, trivial⟩
  obtain ⟨M', k1, k2⟩ := g5.call [0, 1, 5] [0, 1, 5] (by decide) (by decide)
  have hY := apYields (b := b5) (l := w.heap.size + 1) (D := w.heap.size) (fn := fn) ha.size ht2
  refine callsIn_wide.2 ((shKeys1_spec hY cb pb pm (fun s r hp => okKeys hlen s r hp) W M' ρ trivial k1).mono ?_)
  rintro e w2 ⟨v, ρ', Lout, rfl, ⟨rfl, s, hperm, rfl⟩, hst⟩
  have hst2 := k2 w2 ρ' _ (by simp) hst
  have q0 : St cx ρ' [(5, ApJ apA apB b5 (w.heap.size + 1) w.heap.size fn a.tmps s), (0, shCapO cb pb), (1, MapO .u32 pb pm)] w2 := hst2.sub ⟨rfl, rfl, rfl, trivial⟩
  obtain ⟨⟨A, c⟩, q1⟩ := q0.ex' (j := 5) (by rw [look_cons, if_pos rfl]; rfl)
  have q2 := q1.part (j := 5) (k := 2) (by decide) (by rw [look_cons, if_pos rfl])
  have q3 := q2.part (j := 2) (k := 8) (by decide) (by rw [look_cons, if_neg (by decide), look_cons, if_pos rfl])
  have q4 := q3.part (j := 8) (k := 7) (by decide) (by rw [look_cons, if_neg (by decide), look_cons, if_pos rfl])
  dsimp only at q4
  have q5 : St cx ρ' [(5, Pt b5 (.cells #[.slice A s.length c] 26)), (2, OwnS 25 1 A s.length c s), (8, Pt (w.heap.size + 1) (.loop (apLoop apA apB fn a.tmps w.heap.size .ready))), (7, Pt w.heap.size (.deferred (some []))), (0, shCapO cb pb), (1, MapO .u32 pb pm)] w2 := q4.sub ⟨rfl, rfl, rfl, rfl, rfl, rfl, trivial⟩
  have hl := q5.pt (i := 8) rfl
  have hend := run_endLoop (P := Try.prog) hl (by simp [apLoop])
  have q6 := q5.putObj (j := 8) (o' := .loop { apLoop apA apB fn a.tmps w.heap.size .ready with state := .exhausted }) rfl
  refine ⟨none, _, hend, ?_⟩
  show K2 _ _
  refine hK2 _ _ ?_
  refine (wpIn_wide (n := 1)).1 (wpIn_seq ?_)
  have hd : a.defers = [] := ha.defers
  rw [hd, List.append_nil]
  refine regionIn_of (D := [{ target := .collected w.heap.size, args := #[] }]) (Q := fun e a w' => match e with | .normal => At 13 [(4, .slice A s.length c)] a ∧ St cx ρ' [(7, Pt w.heap.size (.deferred (some []))), (2, OwnS 25 1 A s.length c s), (0, shCapO cb pb), (1, MapO .u32 pb pm)] w' | _ => False)
    (fun _ => trivial) ?_ [(0, false), (1, false)] rfl rfl ?_ ha q6 ?_
  · intro o ho
    simp only [List.mem_cons, List.not_mem_nil, or_false] at ho
    rcases ho with rfl | rfl
    · exact vo_load rfl
    · exact vo_assign rfl
  · refine Jp.y 12 rfl (want_all rfl) rfl rfl Kp.true (Y.loadO 5 rfl Try.isAgg26 rfl rfl rfl) ?_
    refine Jp.y 4 rfl (want_all rfl) rfl rfl Kp.true (Y.assign rfl rfl) ?_
    exact fun a w' ha' hs' => ⟨ha'.sub ⟨rfl, trivial⟩, hs'.sub ⟨rfl, rfl, rfl, rfl, trivial⟩⟩
  rintro a3 w3 ⟨ha3, hs3⟩
  have hD := hs3.pt (i := 7) rfl
  have hs4 := hs3.putObj (j := 7) (o' := .deferred none) rfl
  show Code.ret.wpIn Fence.wide 1 Try.prog _ _ _
  refine wpIn_ret ?_
  refine ⟨by simp, .inl ⟨_, _, rfl, run_takeDeferred hD, ?_⟩⟩
  have h4 := ha3.slot 4 _ rfl
  refine ⟨.slice A s.length c, ?_, .slice A s.length c, ρ', _, rfl, ⟨s, A, c, hperm, rfl, rfl⟩, ?_⟩
  · simp [results, Try.f124, h4]
  · exact hs4.sub ⟨rfl, rfl, rfl, trivial⟩
theorem shCollect_spec (cb pb : Nat) (pm : MapL) (hlen : pm.length ≤ 4096) : Spec Try.prog 110 #[shKfn cb] (fun _ => True) [(0, shCapO cb pb), (1, MapO .u32 pb pm)]
    (fun ρ ρ' v L => ∃ s A c, s.Perm (keysV pm) ∧ v = .slice A s.length c ∧ L = [(0, shCapO cb pb), (1, MapO .u32 pb pm), (2, OwnS 25 1 A s.length c s)]) := by
  refine Spec.of 5 Try.func110 rfl Try.ntmps110 [(0, _)] rfl rfl ?_
  intro cx ρ hr h0
  refine Cd.seq fun K4 hK4 => ?_
  refine Cd.plain [(0, false)] rfl rfl ?_
  refine Jp.y 2 rfl (want_all rfl) rfl rfl Kp.true (Y.assign rfl rfl) ?_
  refine Jp.done hK4 ?_
  refine Cd.seq fun K5 hK5 => ?_
  refine Cd.plain [(0, false), (1, false), (2, false)] rfl rfl ?_
  refine Jp.y 3 rfl (want_all rfl) rfl rfl Kp.true (Y.move rfl rfl) ?_
  refine Jp.call [0, 1] [0, 1, 2] (shAppendSeq_spec cb pb pm hlen) 4 rfl (want_all rfl) rfl rfl (Runs.fn rfl Try.call124 rfl) (by decide) (by decide) rfl trivial ?_
  rintro v1 ρ1 L1 ⟨s, A, c, hs, rfl, rfl⟩
  refine ⟨rfl, fun hle1 => ⟨Kp.true, ?_⟩⟩
  refine Jp.y 2 rfl (want_all rfl) rfl rfl Kp.true (Y.assign rfl rfl) ?_
  refine Jp.done hK5 ?_
  refine Cd.ret [(0, _), (1, _), (2, _)] rfl (res1 rfl rfl) ⟨rfl, rfl, rfl, trivial⟩ ⟨s, A, c, hs, rfl, rfl⟩
theorem shKeys_spec (pb : Nat) : Spec Try.prog 74 #[.map (some pb)] (fun _ => True) [] (fun ρ ρ' v L => ρ' = ρ ∧ ∃ cb, v = shKfn cb ∧ L = [(0, shCapO cb pb)]) := by
  refine Spec.of 4 Try.func74 rfl Try.ntmps74 [(0, _)] rfl rfl ?_
  intro cx ρ hr h0
  refine Cd.seq fun K6 hK6 => ?_
  refine Cd.plain [(0, false), (1, false)] rfl rfl ?_
  refine Jp.box 0 1 rfl (want_all rfl) rfl rfl rfl rfl fun b0 => ⟨Kp.true, ?_⟩
  refine Jp.y 2 rfl (want_all rfl) rfl rfl Kp.true (Y.assign rfl rfl) ?_
  refine Jp.done hK6 ?_
  refine Cd.seq fun K7 hK7 => ?_
  refine Cd.plain [(0, false), (1, false)] rfl rfl ?_
  refine Jp.y 3 rfl (want_all rfl) rfl rfl Kp.true (Y.makeFunc rfl rfl) ?_
  refine Jp.y 2 rfl (want_all rfl) rfl rfl Kp.true (Y.assign rfl rfl) ?_
  refine Jp.done hK7 ?_
  refine Cd.ret [(0, _)] rfl (res1 rfl rfl) ⟨rfl, trivial⟩ ⟨rfl, b0, rfl, rfl⟩
theorem shSorted_spec (cb pb : Nat) (pm : MapL) (K : List Nat) (hK : K.Pairwise (· < ·)) (hp : (pm.map (·.1)).Perm (K.map fun k : Nat => (k : Int))) (hlen : pm.length ≤ 4096) (hsort : SortsTo pm.length) : Spec Try.prog 73 #[shKfn cb] (fun _ => True) [(0, shCapO cb pb), (1, MapO .u32 pb pm)]
    (fun ρ ρ' v L => ∃ A c, v = .slice A K.length c ∧ L = [(0, shCapO cb pb), (1, MapO .u32 pb pm), (2, OwnS 25 1 A K.length c (natsV .u32 K))]) := by
  refine Spec.of 9 Try.func73 rfl Try.ntmps73 [(0, _)] rfl rfl ?_
  intro cx ρ hr h0
  have hkeys : (keysV pm).Perm (natsV .u32 K) := by
    have := hp.map fun x : Int => Value.int .u32 x
    simpa [keysV, natsV, List.map_map, Function.comp_def] using this
  have hKl : K.length = pm.length := by have := hp.length_eq; simpa using this.symm
  refine Cd.seq fun K8 hK8 => ?_
  refine Cd.plain [(0, false)] rfl rfl ?_
  refine Jp.y 2 rfl (want_all rfl) rfl rfl Kp.true (Y.assign rfl rfl) ?_
  refine Jp.done hK8 ?_
  refine Cd.seq fun K9 hK9 => ?_
  refine Cd.plain [(0, false), (1, false), (2, false)] rfl rfl ?_
  refine Jp.y 4 rfl (want_all rfl) rfl rfl Kp.true (Y.move rfl rfl) ?_
  refine Jp.call [0, 1] [0, 1, 2] (shCollect_spec cb pb pm hlen) 5 rfl (want_all rfl) rfl rfl (Runs.fn rfl Try.call110 rfl) (by decide) (by decide) rfl trivial ?_
  rintro v1 ρ1 L1 ⟨s, A, c, hs, rfl, rfl⟩
  refine ⟨rfl, fun hle1 => ⟨Kp.true, ?_⟩⟩
  obtain ⟨l, rfl⟩ := natsV_inj (s := s) fun v hv => by
    obtain ⟨x, _, rfl⟩ := List.mem_map.1 ((hs.trans hkeys).mem_iff.1 hv)
    exact ⟨x, rfl⟩
  have hperm := natsV_perm (hs.trans hkeys)
  have hsl : (natsV .u32 l).length = K.length := by rw [natsV, List.length_map]; exact hperm.length_eq
  have hll : l.length = pm.length := by rw [← hKl]; exact hperm.length_eq
  rw [hsl, hKl]
  refine Jp.y 3 rfl (want_all rfl) rfl rfl Kp.true (Y.assign rfl rfl) ?_
  refine Jp.done hK9 ?_
  refine Cd.seq fun K10 hK10 => ?_
  refine Cd.plain [(0, false), (1, false)] rfl rfl ?_
  refine Jp.imp (j := 2) rfl (fun h hh => (show rowO A pm.length c l.toArray h from hh)) ?_
  refine Jp.y 6 rfl (want_all rfl) rfl rfl Kp.true (Y.move rfl rfl) ?_
  refine Jp.call [2] [2] (hsort A c l.toArray (by simpa using hll)) 7 rfl (want_all rfl) rfl rfl (Runs.fn rfl Try.call111 rfl) (by decide) (by decide) rfl trivial ?_
  rintro v2 ρ2 L2 ⟨rfl, rfl, r, hr1, hr2, rfl⟩
  refine ⟨rfl, fun hle2 => ⟨Kp.true, ?_⟩⟩
  have hrK : r.toList = K := sorted_is hr1 hr2 (by simpa using hperm) hK
  refine Jp.done hK10 ?_
  refine Cd.seq fun K11 hK11 => ?_
  refine Cd.plain [(0, false), (1, false)] rfl rfl ?_
  refine Jp.y 8 rfl (want_all rfl) rfl rfl Kp.true (Y.move rfl rfl) ?_
  refine Jp.y 2 rfl (want_all rfl) rfl rfl Kp.true (Y.assign rfl rfl) ?_
  refine Jp.done hK11 ?_
  refine Cd.imp (i := 2) rfl (fun h hh => (show OwnS 25 1 A pm.length c (natsV .u32 K) h by rw [← hrK]; exact hh)) ?_
  refine Cd.ret [(0, _), (1, _), (2, _)] rfl (res1 rfl rfl) ⟨rfl, rfl, rfl, trivial⟩ ⟨A, c, by rw [hKl], by rw [hKl]⟩
theorem shDirty_spec (b : Nat) (S : ShG) : Spec Try.prog 27 #[.pointer (some ⟨b, 0, none⟩)] (fun _ => True) [(0, ShO b S)]
    (fun ρ ρ' v L => ∃ A c, v = .slice A S.pages.length c ∧ L = [(0, ShO b S), (1, OwnS 25 1 A S.pages.length c (natsV .u32 (S.pages.map (·.1))))]) := by
  refine Spec.of 9 Try.func27 rfl Try.ntmps27 [(0, _)] rfl rfl ?_
  intro cx ρ hr h0
  refine Cd.shOpen 0 5 6 (by decide) rfl fun x hf => ?_
  have hlen := hf.pages.length_eq
  rw [pmOf, List.length_map] at hlen
  have hroom := hf.room
  have hbud := hf.budget
  have hrise : (S.pages.map (·.1)).Pairwise (· < ·) := by rw [List.pairwise_map]; exact hf.ok.rising
  have hp : (x.pm.map (·.1)).Perm ((S.pages.map (·.1)).map fun k : Nat => (k : Int)) := by
    have h1 := hf.pages.map (·.1)
    rw [pmOf_keys] at h1
    rw [List.map_map]
    exact h1
  have hs2 : SortsTo x.pm.length := sorts4096 _ (by omega)
  dsimp only [shObj]
  refine Cd.seq fun K12 hK12 => ?_
  refine Cd.plain [(0, false)] rfl rfl ?_
  refine Jp.y 2 rfl (want_all rfl) rfl rfl Kp.true (Y.assign rfl rfl) ?_
  refine Jp.done hK12 ?_
  refine Cd.seq fun K13 hK13 => ?_
  refine Cd.plain [(0, false), (1, false), (2, false), (3, false), (4, false), (5, false), (6, false)] rfl rfl ?_
  refine Jp.y 3 rfl (want_all rfl) rfl rfl Kp.true (Y.move rfl rfl) ?_
  refine Jp.y 4 rfl (want_all rfl) rfl rfl Kp.true (Y.nilCheck rfl rfl) ?_
  refine Jp.y 5 rfl (want_all rfl) rfl rfl Kp.true (by first | exact Y.fieldAddrP rfl rfl Try.underlying118 rfl Try.sizeOf116 (by decide) (show _ + 1 = _ from rfl) | exact Y.fieldAddr rfl rfl Try.underlying118 rfl Try.sizeOf116 (by decide)) ?_
  refine Jp.y 6 rfl (want_all rfl) rfl rfl Kp.true (Y.loadO 0 rfl Try.isAgg116 rfl rfl rfl) ?_
  refine Jp.call [] [8] (shKeys_spec x.pb) 7 rfl (want_all rfl) rfl rfl (Runs.fn rfl Try.call74 rfl) (by decide) (by decide) rfl trivial ?_
  rintro v1 ρ1 L1 ⟨rfl, cb, rfl, rfl⟩
  refine ⟨rfl, fun hle1 => ⟨Kp.true, ?_⟩⟩
  refine Jp.call [8, 5] [8, 5, 1] (shSorted_spec cb x.pb x.pm (S.pages.map (·.1)) hrise hp (by omega) hs2) 8 rfl (want_all rfl) rfl rfl (Runs.fn rfl Try.call73 rfl) (by decide) (by decide) rfl trivial ?_
  rintro v2 ρ2 L2 ⟨A, c, rfl, rfl⟩
  refine ⟨rfl, fun hle2 => ⟨Kp.true, ?_⟩⟩
  rw [List.length_map]
  refine Jp.y 2 rfl (want_all rfl) rfl rfl Kp.true (Y.assign rfl rfl) ?_
  refine Jp.done hK13 ?_
  refine Cd.shClose (b := b) (S := S) (x := x) 0 5 6 (by decide) hf rfl rfl rfl ?_
  refine Cd.ret [(0, _), (1, _)] rfl (res1 rfl rfl) ⟨rfl, rfl, trivial⟩ ⟨A, c, rfl, rfl⟩
theorem shCopy_spec (b : Nat) (S : ShG) : Spec Try.prog 39 #[.pointer (some ⟨b, 0, none⟩)] (fun _ => True) [(0, ShO b S)] (fun ρ ρ' v L => ρ' = ρ ∧ ∃ b', v = .pointer (some ⟨b', 0, none⟩) ∧ L = [(0, ShO b S), (1, ShO b' S)]) := by
  refine Spec.of 33 Try.func39 rfl Try.ntmps39 [(0, _)] rfl rfl ?_
  intro cx ρ hr h0
  refine Cd.shOpen 0 5 6 (by decide) rfl fun x hf => ?_
  dsimp only [shObj]
  have hn := hf.ok.rising.nodup
  obtain ⟨K, hK⟩ : ∃ K : MapL → List (Nat × Pg), K = fun l => l.map fun y => (y.1.toNat, (getPg S.pages y.1.toNat).getD ⟨[], 0⟩) := ⟨_, rfl⟩
  have hpg : ∀ p ∈ S.pages, ((p.1 : Int).toNat, (getPg S.pages (p.1 : Int).toNat).getD ⟨[], 0⟩) = p := fun p hp => by
    rw [Int.toNat_natCast, getPg_of_mem hn hp]; rfl
  have hstart : (K x.pm).Perm S.pages := by
    rw [hK]
    refine (hf.pages.map _).trans (List.Perm.of_eq ?_)
    rw [pmOf, List.map_map]
    conv => rhs; rw [← List.map_id S.pages]
    exact List.map_congr_left fun p hp => hpg p hp
  refine Cd.make 11 Blks.nil ?_
  refine Cd.seq fun K14 hK14 => ?_
  refine Cd.plain [(0, false)] rfl rfl ?_
  refine Jp.y 2 rfl (want_all rfl) rfl rfl Kp.true (Y.assign rfl rfl) ?_
  refine Jp.done hK14 ?_
  refine Cd.seq fun K15 hK15 => ?_
  refine Cd.plain [(0, false), (1, false), (2, false), (3, false), (4, false), (5, false), (6, false), (7, false)] rfl rfl ?_
  refine Jp.y 7 rfl (want_all rfl) rfl rfl Kp.true (Y.move rfl rfl) ?_
  refine Jp.y 8 rfl (want_all rfl) rfl rfl Kp.true (Y.nilCheck rfl rfl) ?_
  refine Jp.y 9 rfl (want_all rfl) rfl rfl Kp.true (by first | exact Y.fieldAddrP rfl rfl Try.underlying118 rfl Try.sizeOf3 (by decide) (show _ + 0 = _ from rfl) | exact Y.fieldAddr rfl rfl Try.underlying118 rfl Try.sizeOf3 (by decide)) ?_
  refine Jp.y 10 rfl (want_all rfl) rfl rfl Kp.true (Y.loadO 0 rfl Try.isAgg3 rfl rfl rfl) ?_
  refine Jp.makeMap 11 8 .u32 rfl (want_all rfl) rfl rfl rfl fun b8 => ⟨Kp.true, ?_⟩
  refine Jp.y 12 rfl (want_all rfl) rfl rfl Kp.true (Y.struct [(0, _), (1, _)] [_, _] rfl rfl places118 Try.zeroValue118 rfl) ?_
  refine Jp.box 1 13 rfl (want_all rfl) rfl rfl rfl rfl fun b1 => ⟨Kp.true, ?_⟩
  refine Jp.y 3 rfl (want_all rfl) rfl rfl Kp.true (Y.assign rfl rfl) ?_
  refine Jp.done hK15 ?_
  refine Cd.seq fun K16 hK16 => ?_
  refine Cd.seq fun K17 hK17 => ?_
  refine Cd.plain [(0, false), (1, false), (2, false), (3, false), (4, false)] rfl rfl ?_
  refine Jp.y 14 rfl (want_all rfl) rfl rfl Kp.true (Y.move rfl rfl) ?_
  refine Jp.y 15 rfl (want_all rfl) rfl rfl Kp.true (Y.nilCheck rfl rfl) ?_
  refine Jp.y 16 rfl (want_all rfl) rfl rfl Kp.true (by first | exact Y.fieldAddrP rfl rfl Try.underlying118 rfl Try.sizeOf116 (by decide) (show _ + 1 = _ from rfl) | exact Y.fieldAddr rfl rfl Try.underlying118 rfl Try.sizeOf116 (by decide)) ?_
  refine Jp.y 17 rfl (want_all rfl) rfl rfl Kp.true (by first | exact Y.loadO 0 rfl Try.isAgg116 rfl rfl rfl | exact Y.loadO 1 rfl Try.isAgg116 rfl rfl rfl) ?_
  first | refine Jp.range 18 5 50 (by decide) rfl (want_all rfl) rfl rfl rfl rfl Try.underlying116 rfl fun r5 => ⟨Kp.true, ?_⟩
  refine Jp.done hK17 ?_
  refine Cd.block ?_
  refine Cd.loopK (G := MapL × List (Nat × Pg) × (Nat → Nat) × Option (Int × Value)) (fun g => (g.2.1 ++ K g.1).Perm S.pages ∧ ∀ y ∈ g.1, y ∈ x.pm) (fun g => g.1.length) (fun _ => _) (fun g => []) [(3, _), (18, _)] (fun g => [(5, RangeO .u32 x.pb r5 x.pm g.1 g.2.2.2), (8, MapO .u32 b8 (pmOf g.2.1 g.2.2.1)), (11, Blks (shBlks g.2.1 g.2.2.1))]) [(0, _), (1, _), (6, _)] ⟨x.pm, [], fun _ => 0, none⟩ ⟨hstart, fun y h => h⟩ rfl trivial ⟨rfl, rfl, trivial⟩ ⟨rfl, rfl, rfl, trivial⟩ ⟨rfl, rfl, rfl, trivial⟩ (fun g KLa hok hLa => ?_)
  obtain ⟨left, ps, blk, cur⟩ := g
  obtain ⟨ok1, ok2⟩ := hok
  dsimp only at ok1 ok2 ⊢
  refine Cd.seq fun K18 hK18 => ?_
  refine Cd.plain [(0, false), (1, false)] rfl rfl ?_
  refine Jp.next 19 5 rfl (want_all rfl) rfl rfl (fun _ => rfl) rfl rfl (fun hn => ⟨Kp.true, ?_⟩) (fun q y hq => ⟨Kp.true, ?_⟩)
  · skip
    refine Jp.y 20 rfl (want_all rfl) rfl rfl Kp.true (Y.extract rfl rfl rfl) ?_
    refine Jp.done hK18 ?_
    refine Cd.seq fun K19 hK19 => ?_
    refine Cd.condF rfl ?_
    refine Cd.exit rfl hK16 ?_
    refine Cd.seq fun K20 hK20 => ?_
    refine Cd.plain [(0, false), (1, false)] rfl rfl ?_
    refine Jp.y 32 rfl (want_all rfl) rfl rfl Kp.true (Y.move rfl rfl) ?_
    refine Jp.y 2 rfl (want_all rfl) rfl rfl Kp.true (Y.assign rfl rfl) ?_
    refine Jp.done hK20 ?_
    refine Cd.imp (i := 5) rfl RangeO.map ?_
    subst hn
    have hps : ps.Perm S.pages := by simpa [hK] using ok1
    refine Cd.imp (i := 11) (A' := Blks (shBlks S.pages blk)) rfl (Blks.perm (hps.map _)) ?_
    have hf' : ShF S ⟨b8, pmOf ps blk, blk⟩ := ⟨hf.ok, hf.room, hf.budget, hps.map _⟩
    refine Cd.shClose (b := b) (S := S) (x := x) 0 5 6 (by decide) hf rfl rfl rfl ?_
    refine Cd.shClose (b := b1) (S := S) 1 8 11 (by decide) hf' rfl rfl rfl ?_
    refine Cd.ret [(0, _), (1, _)] rfl (res1 rfl rfl) ⟨rfl, rfl, trivial⟩ ⟨rfl, b1, rfl, rfl⟩
  · have hy := ok2 y (List.mem_of_getElem? hq)
    obtain ⟨p, hp, hpy⟩ := List.mem_map.1 (hf.pages.mem_iff.1 hy)
    subst hpy
    have hpo := hf.ok.page p hp
    have hplt := hpo.lt
    have hlen : p.2.b.length = 256 := hpo.len
    have hpe := perm_erase hq
    have hql := (List.getElem?_eq_some_iff.1 hq).1
    have hel : (left.eraseIdx q).length < left.length := by rw [List.length_eraseIdx, if_pos hql]; omega
    have hmem : (x.blk p.1, shPgO p.2) ∈ shBlks S.pages x.blk := List.mem_map.2 ⟨p, hp, rfl⟩
    have hkp : (K left).Perm (p :: K (left.eraseIdx q)) := by
      have h1 := hpe.map fun y => (y.1.toNat, (getPg S.pages y.1.toNat).getD ⟨[], 0⟩)
      rw [hK]
      refine h1.trans (List.Perm.of_eq ?_)
      rw [List.map_cons]
      exact congrArg (· :: _) (hpg p hp)
    have hfr : getPg ps p.1 = none := getPg_none.2 fun hin => by
      have h1 := ((List.Perm.append_left ps hkp).symm.trans ok1).map (·.1)
      have h2 := h1.nodup_iff.2 hn
      rw [List.map_append, List.nodup_append] at h2
      exact h2.2.2 p.1 hin p.1 (by simp) rfl
    refine Jp.y 20 rfl (want_all rfl) rfl rfl Kp.true (Y.extract rfl rfl rfl) ?_
    refine Jp.done hK18 ?_
    refine Cd.seq fun K21 hK21 => ?_
    refine Cd.condT rfl ?_
    refine Cd.skip hK21 ?_
    refine Cd.block ?_
    refine Cd.seq fun K22 hK22 => ?_
    refine Cd.plain [(0, false), (1, false), (2, false), (3, false), (4, false)] rfl rfl ?_
    refine Jp.y 21 rfl (want_all rfl) rfl rfl Kp.true (by first | exact Y.entry 5 rfl rfl rfl) ?_
    refine Jp.y 22 rfl (want_all rfl) rfl rfl Kp.true (Y.extract rfl rfl rfl) ?_
    refine Jp.y 23 rfl (want_all rfl) rfl rfl Kp.true (Y.extract rfl rfl rfl) ?_
    refine Jp.y 4 rfl (want_all rfl) rfl rfl Kp.true (Y.assign rfl rfl) ?_
    refine Jp.y 5 rfl (want_all rfl) rfl rfl Kp.true (Y.assign rfl rfl) ?_
    refine Jp.done hK22 ?_
    refine Cd.seq fun K23 hK23 => ?_
    refine Cd.plain [(0, false), (1, false), (2, false), (3, false), (4, false)] rfl rfl ?_
    refine Jp.y 24 rfl (want_all rfl) rfl rfl Kp.true (Y.move rfl rfl) ?_
    refine Jp.y 25 rfl (want_all rfl) rfl rfl Kp.true (Y.nilCheck rfl rfl) ?_
    refine Jp.y 26 rfl (want_all rfl) rfl rfl Kp.true (Y.loadAggC 6 (pageCells p.2) rfl Try.isAgg127 Try.sizeOf127 rfl rfl (shCells_len hlen) (Blks.cells hmem)) ?_
    refine Jp.alloc 12 6 rfl (want_all rfl) rfl rfl rfl Try.zeroValue127 fun b12 => ⟨Kp.true, ?_⟩
    refine Jp.storeAgg 12 rfl (want_all rfl) rfl rfl Try.sizeOf127 rfl rfl (shCells_one p.2) (shCells_len hlen) rfl rfl (fun k _ _ => noFr0 k) Kp.true ?_
    refine Jp.imp (j := 12) (A := Pt b12 (.cells (spl (pageCells ⟨zeroB, 0⟩).toArray 0 (pageCells p.2)) 127)) (A' := Pt b12 (shPgO p.2)) rfl (fun h hh => by rw [shSpl_full (by rw [shCells_len hlen]; exact (shCells_len zeroB_len).symm)] at hh; exact hh) ?_
    refine Jp.joinB (ob := shPgO p.2) 11 12 (by decide) rfl rfl ?_
    refine Jp.imp (j := 11) rfl (Blks.perm (shBlks_put hfr)) ?_
    refine Jp.done hK23 ?_
    refine Cd.plain [(0, false), (1, false), (2, false), (3, false), (4, false), (5, false)] rfl rfl ?_
    refine Jp.y 27 rfl (want_all rfl) rfl rfl Kp.true (Y.move rfl rfl) ?_
    refine Jp.y 28 rfl (want_all rfl) rfl rfl Kp.true (Y.nilCheck rfl rfl) ?_
    refine Jp.y 29 rfl (want_all rfl) rfl rfl Kp.true (by first | exact Y.fieldAddrP rfl rfl Try.underlying118 rfl Try.sizeOf116 (by decide) (show _ + 1 = _ from rfl) | exact Y.fieldAddr rfl rfl Try.underlying118 rfl Try.sizeOf116 (by decide)) ?_
    refine Jp.y 30 rfl (want_all rfl) rfl rfl Kp.true (by first | exact Y.loadO 0 rfl Try.isAgg116 rfl rfl rfl | exact Y.loadO 1 rfl Try.isAgg116 rfl rfl rfl | exact Y.loadO 12 rfl Try.isAgg116 rfl rfl rfl) ?_
    refine Jp.y 31 rfl (want_all rfl) rfl rfl Kp.true (Y.move rfl rfl) ?_
    first | refine Jp.mapUpdate 8 rfl (want_all rfl) rfl rfl rfl rfl rfl Try.underlying116 Try.underlying25 rfl Kp.true ?_
    rw [show mset (pmOf ps blk) (p.1 : Int) (.pointer (some ⟨b12, 0, none⟩)) = pmOf (ps ++ [(p.1, p.2)]) (fun j => if j = p.1 then b12 else blk j) from pmOf_put hfr]
    refine JpQ.again rfl hLa ⟨left.eraseIdx q, ps ++ [(p.1, p.2)], _, _⟩ ⟨?_, fun z hz => ok2 z (List.mem_of_mem_eraseIdx hz)⟩ hel rfl ⟨rfl, rfl, trivial⟩ ⟨rfl, rfl, rfl, rfl, rfl, rfl, trivial⟩
    rw [List.append_assoc]
    exact (List.Perm.append_left ps hkp.symm).trans ok1
end Go.Proofs.Ytgmhijlcdadaeaa
