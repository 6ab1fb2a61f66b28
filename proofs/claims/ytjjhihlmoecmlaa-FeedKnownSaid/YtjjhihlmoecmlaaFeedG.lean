/- Contracts: Take, Time, Used, Copy, Bytes of a use of a feed. -/
import Derived.Test.YtjjhihlmoecmlaaFeedF
set_option linter.unusedVariables false
set_option linter.unusedSimpArgs false
set_option maxRecDepth 100000
namespace Go.Proofs.Ytjjhihlmoecmlaa
open Go
def takeP (u : UseP) (n : Int) : Int × UseP :=
  if n < 0 then (0, u) else match u.short[u.shorts]? with
    | none => (n, u)
    | some x => (if x < n then x else n, { u with shorts := u.shorts + 1 })
def timeP (u : UseP) : Int × UseP :=
  if u.clock = [] then (0, u) else
    let k := if u.clocks < u.clock.length then u.clocks + 1 else u.clocks
    (u.clock.getD (k - 1) 0, { u with clocks := k })
def bytesP (u : UseP) (n : Int) : Bytes × UseP :=
  if n < 0 ∨ 4096 < n then ([], u) else
    let k := min (u.random.length - u.bytes) n.toNat
    ((u.random.drop u.bytes).take k ++ List.replicate (n.toNat - k) 0, { u with bytes := u.bytes + k })
/-- What a method leaves of a use. -/
def UseEnd (b : Nat) (q : UseP) (ρ : Hp) (A : HProp) : Prop := ∃ u, A = UsePt b u ∧ RdUse u ρ ∧ u.p = q
theorem f18_spec (b : Nat) (u : UseG) (n : Int) : Spec Try.prog 18 #[.pointer (some ⟨b, 0, none⟩), .int .i64 n] (RdUse u) [(0, UsePt b u)]
    (fun ρ ρ' v L => ρ' = ρ ∧ v = .int .i64 (takeP u.p n).1 ∧ ∃ A, L = [(0, A)] ∧ UseEnd b (takeP u.p n).2 ρ A) := by
  obtain ⟨short, random, clock, k, kb, kc⟩ := u
  dsimp only [UsePt, UseG.cells]
  refine Spec.of 38 Try.func18 rfl Try.ntmps18 [(0, _), (1, _)] rfl rfl ?_
  intro cx ρ hr h0
  have hn1 : short.xs.length ≤ 4096 := hr.n1
  have hk1 : k ≤ short.xs.length := hr.l1
  refine Cd.seq fun K1 hK1 => ?_
  refine Cd.plain [(0, false)] rfl rfl ?_
  refine Jp.y 4 rfl (want_all rfl) rfl rfl Kp.true (Y.assign rfl rfl) ?_
  refine Jp.done hK1 ?_
  refine Cd.seq fun K2 hK2 => ?_
  refine Cd.seq fun K3 hK3 => ?_
  refine Cd.plain [(0, false), (1, false)] rfl rfl ?_
  refine Jp.y 5 rfl (want_all rfl) rfl rfl Kp.true (Y.move rfl rfl) ?_
  refine Jp.y 6 rfl (want_all rfl) rfl rfl Kp.true (Y.lss rfl rfl rfl) ?_
  refine Jp.done hK3 ?_
  refine Cd.cond rfl (fun h1 => ?_) (fun h1 => ?_)
  · simp only [decide_eq_true_eq] at h1
    refine Cd.seq fun K4 hK4 => ?_
    refine Cd.plain [(0, false)] rfl rfl ?_
    refine Jp.y 4 rfl (want_all rfl) rfl rfl Kp.true (Y.assign rfl rfl) ?_
    refine Jp.done hK4 ?_
    refine Cd.ret [(0, _)] rfl (res1 rfl rfl) ⟨rfl, trivial⟩ ⟨rfl, by rw [takeP, if_pos h1], _, rfl, _, rfl, hr, by rw [takeP, if_pos h1]⟩
  · simp only [decide_eq_false_iff_not] at h1
    refine Cd.skip hK2 ?_
    refine Cd.seq fun K5 hK5 => ?_
    refine Cd.seq fun K6 hK6 => ?_
    refine Cd.drawn [(0, _)] ⟨rfl, trivial⟩ [(0, true), (1, true), (2, true), (3, true), (4, true), (5, true), (6, true), (7, true), (8, true), (9, true)] follows (by kernel_rfl) (fun hrl => ?_)
    refine Jp.q 7 rfl (want_all rfl) rfl rfl (Y.move rfl rfl) ?_
    refine Jp.q 8 rfl (want_all rfl) rfl rfl (Y.nilCheck rfl rfl) ?_
    refine Jp.q 9 rfl (want_all rfl) rfl rfl (by first | exact Y.fieldAddrP rfl rfl Try.underlying95 rfl Try.sizeOf3 (by decide) (show _ + 3 = _ from rfl) | exact Y.fieldAddr rfl rfl Try.underlying95 rfl Try.sizeOf3 (by decide)) ?_
    refine Jp.q 10 rfl (want_all rfl) rfl rfl (Y.loadO 0 rfl Try.isAgg3 rfl rfl rfl) ?_
    refine Jp.q 11 rfl (want_all rfl) rfl rfl (Y.move rfl rfl) ?_
    refine Jp.q 12 rfl (want_all rfl) rfl rfl (Y.nilCheck rfl rfl) ?_
    refine Jp.q 13 rfl (want_all rfl) rfl rfl (by first | exact Y.fieldAddrP rfl rfl Try.underlying95 rfl Try.sizeOf22 (by decide) (show _ + 0 = _ from rfl) | exact Y.fieldAddr rfl rfl Try.underlying95 rfl Try.sizeOf22 (by decide)) ?_
    refine Jp.q 14 rfl (want_all rfl) rfl rfl (Y.loadO 0 rfl Try.isAgg22 rfl rfl rfl) ?_
    refine Jp.q 15 rfl (want_all rfl) rfl rfl (Y.lenslice rfl Try.underlying22 rfl) ?_
    refine Jp.q 16 rfl (want_all rfl) rfl rfl (Y.geq rfl rfl rfl) ?_
    refine Jp.done hK6 ?_
    refine Cd.cond rfl (fun h2 => ?_) (fun h2 => ?_)
    · simp only [decide_eq_true_eq] at h2
      have hx : short.xs[k]? = none := by rw [List.getElem?_eq_none_iff]; omega
      have e : takeP (UseG.p ⟨short, random, clock, k, kb, kc⟩) n = (n, UseG.p ⟨short, random, clock, k, kb, kc⟩) := by
        rw [takeP, if_neg h1]; simp only [UseG.p, hx]
      refine Cd.seq fun K8 hK8 => ?_
      refine Cd.plain [(0, false), (1, false)] rfl rfl ?_
      refine Jp.y 17 rfl (want_all rfl) rfl rfl Kp.true (Y.move rfl rfl) ?_
      refine Jp.y 4 rfl (want_all rfl) rfl rfl Kp.true (Y.assign rfl rfl) ?_
      refine Jp.done hK8 ?_
      refine Cd.ret [(0, _)] rfl (res1 rfl rfl) ⟨rfl, trivial⟩ ⟨rfl, by rw [e], _, rfl, _, rfl, hr, by rw [e]⟩
    · simp only [decide_eq_false_iff_not, Int.not_le] at h2
      have hlt : k < short.xs.length := by omega
      have hx : short.xs[k]? = some short.xs[k] := by simp [hlt]
      have e : takeP (UseG.p ⟨short, random, clock, k, kb, kc⟩) n = (if short.xs[k] < n then short.xs[k] else n, UseG.p ⟨short, random, clock, k + 1, kb, kc⟩) := by
        rw [takeP, if_neg h1]; simp only [UseG.p, hx]
      obtain ⟨A, c, xs⟩ := short
      have hlt : k < xs.length := hlt
      have hn1 : xs.length ≤ 4096 := hn1
      obtain ⟨ad, rfl⟩ := hr.short.some (show 0 < xs.length * 1 by omega)
      have hcell : cellH ρ (ad.add k) = some (.int .i64 xs[k]) := hr.short.cell (by simp [intsV, hlt])
      refine Cd.skip hK5 ?_
      refine Cd.seq fun K9 hK9 => ?_
      refine Cd.plain [(0, false), (1, false), (2, false), (3, false), (4, false), (5, false), (6, false), (7, false)] rfl rfl ?_
      refine Jp.y 18 rfl (want_all rfl) rfl rfl Kp.true (Y.move rfl rfl) ?_
      refine Jp.y 19 rfl (want_all rfl) rfl rfl Kp.true (Y.nilCheck rfl rfl) ?_
      refine Jp.y 20 rfl (want_all rfl) rfl rfl Kp.true (by first | exact Y.fieldAddrP rfl rfl Try.underlying95 rfl Try.sizeOf3 (by decide) (show _ + 3 = _ from rfl) | exact Y.fieldAddr rfl rfl Try.underlying95 rfl Try.sizeOf3 (by decide)) ?_
      refine Jp.y 21 rfl (want_all rfl) rfl rfl Kp.true (by first | exact Y.loadO 0 rfl Try.isAgg3 rfl rfl rfl | exact Y.loadR rfl Try.isAgg3 rfl hcell) ?_
      refine Jp.y 22 rfl (want_all rfl) rfl rfl Kp.true (Y.add_ rfl rfl rfl (by first | exact wrap_i64 (by omega) (by omega) | rfl)) ?_
      refine Jp.y 23 rfl (want_all rfl) rfl rfl Kp.true (Y.nilCheck rfl rfl) ?_
      refine Jp.y 24 rfl (want_all rfl) rfl rfl Kp.true (by first | exact Y.fieldAddrP rfl rfl Try.underlying95 rfl Try.sizeOf3 (by decide) (show _ + 3 = _ from rfl) | exact Y.fieldAddr rfl rfl Try.underlying95 rfl Try.sizeOf3 (by decide)) ?_
      refine Jp.store 0 rfl (want_all rfl) rfl rfl Try.sizeOf3 rfl rfl rfl rfl rfl rfl Kp.true ?_
      refine Jp.done hK9 ?_
      refine Cd.seq fun K10 hK10 => ?_
      refine Cd.drawn [(0, _)] ⟨rfl, trivial⟩ [(0, true), (1, true), (2, true), (3, true), (4, true), (5, true), (6, true), (7, true), (8, true), (9, true), (10, true), (11, true), (12, true), (13, true)] follows (by kernel_rfl) (fun hrl => ?_)
      refine Jp.q 25 rfl (want_all rfl) rfl rfl (Y.move rfl rfl) ?_
      refine Jp.q 26 rfl (want_all rfl) rfl rfl (Y.move rfl rfl) ?_
      refine Jp.q 27 rfl (want_all rfl) rfl rfl (Y.nilCheck rfl rfl) ?_
      refine Jp.q 28 rfl (want_all rfl) rfl rfl (by first | exact Y.fieldAddrP rfl rfl Try.underlying95 rfl Try.sizeOf22 (by decide) (show _ + 0 = _ from rfl) | exact Y.fieldAddr rfl rfl Try.underlying95 rfl Try.sizeOf22 (by decide)) ?_
      refine Jp.q 29 rfl (want_all rfl) rfl rfl (by first | exact Y.loadO 0 rfl Try.isAgg22 rfl rfl rfl | exact Y.loadR rfl Try.isAgg22 rfl hcell) ?_
      refine Jp.q 30 rfl (want_all rfl) rfl rfl (Y.move rfl rfl) ?_
      refine Jp.q 31 rfl (want_all rfl) rfl rfl (Y.nilCheck rfl rfl) ?_
      refine Jp.q 32 rfl (want_all rfl) rfl rfl (by first | exact Y.fieldAddrP rfl rfl Try.underlying95 rfl Try.sizeOf3 (by decide) (show _ + 3 = _ from rfl) | exact Y.fieldAddr rfl rfl Try.underlying95 rfl Try.sizeOf3 (by decide)) ?_
      refine Jp.q 33 rfl (want_all rfl) rfl rfl (by first | exact Y.loadO 0 rfl Try.isAgg3 rfl rfl rfl | exact Y.loadR rfl Try.isAgg3 rfl hcell) ?_
      refine Jp.q 34 rfl (want_all rfl) rfl rfl (Y.sub_ rfl rfl rfl (by first | exact wrap_i64 (by omega) (by omega) | rfl)) ?_
      refine Jp.q 35 rfl (want_all rfl) rfl rfl (Y.indexAddr (q := k) rfl rfl rfl Try.underlying22 Try.sizeOf3 (by omega) (by omega) (by omega)) ?_
      refine Jp.q 36 rfl (want_all rfl) rfl rfl (by first | exact Y.loadO 0 rfl Try.isAgg3 rfl rfl rfl | exact Y.loadR rfl Try.isAgg3 rfl hcell) ?_
      refine Jp.q 37 rfl (want_all rfl) rfl rfl (Y.min2 rfl rfl rfl) ?_
      refine Jp.q 4 rfl (want_all rfl) rfl rfl (Y.assign rfl rfl) ?_
      refine Jp.done hK10 ?_
      refine Cd.ret [(0, _)] rfl (res1 rfl rfl) ⟨rfl, trivial⟩ ?_
      refine ⟨rfl, by rw [e], _, rfl, ⟨⟨some ad, c, xs⟩, random, clock, k + 1, kb, kc⟩, ?_, { hr with l1 := hlt }, by rw [e]⟩
      rfl
theorem f19_spec (b : Nat) (u : UseG) : Spec Try.prog 19 #[.pointer (some ⟨b, 0, none⟩)] (fun _ => True) [(0, UsePt b u)]
    (fun ρ ρ' v L => ρ' = ρ ∧ v = .tuple #[.int .i64 u.shorts, .int .i64 u.bytes, .int .i64 u.clocks] ∧ L = [(0, UsePt b u)]) := by
  obtain ⟨short, random, clock, k, kb, kc⟩ := u
  dsimp only [UsePt, UseG.cells]
  refine Spec.of 17 Try.func19 rfl Try.ntmps19 [(0, _)] rfl rfl ?_
  intro cx ρ hr h0
  refine Cd.seq fun K12 hK12 => ?_
  refine Cd.plain [(0, false), (1, false), (2, false)] rfl rfl ?_
  refine Jp.y 2 rfl (want_all rfl) rfl rfl Kp.true (Y.assign rfl rfl) ?_
  refine Jp.y 3 rfl (want_all rfl) rfl rfl Kp.true (Y.assign rfl rfl) ?_
  refine Jp.y 4 rfl (want_all rfl) rfl rfl Kp.true (Y.assign rfl rfl) ?_
  refine Jp.done hK12 ?_
  refine Cd.seq fun K13 hK13 => ?_
  refine Cd.drawn [(0, _)] ⟨rfl, trivial⟩ [(0, true), (1, true), (2, true), (3, true), (4, true), (5, true), (6, true), (7, true), (8, true), (9, true), (10, true), (11, true), (12, true), (13, true), (14, true)] follows (by kernel_rfl) (fun hrl => ?_)
  refine Jp.q 5 rfl (want_all rfl) rfl rfl (Y.move rfl rfl) ?_
  refine Jp.q 6 rfl (want_all rfl) rfl rfl (Y.nilCheck rfl rfl) ?_
  refine Jp.q 7 rfl (want_all rfl) rfl rfl (by first | exact Y.fieldAddrP rfl rfl Try.underlying95 rfl Try.sizeOf3 (by decide) (show _ + 3 = _ from rfl) | exact Y.fieldAddr rfl rfl Try.underlying95 rfl Try.sizeOf3 (by decide)) ?_
  refine Jp.q 8 rfl (want_all rfl) rfl rfl (Y.loadO 0 rfl Try.isAgg3 rfl rfl rfl) ?_
  refine Jp.q 9 rfl (want_all rfl) rfl rfl (Y.move rfl rfl) ?_
  refine Jp.q 10 rfl (want_all rfl) rfl rfl (Y.nilCheck rfl rfl) ?_
  refine Jp.q 11 rfl (want_all rfl) rfl rfl (by first | exact Y.fieldAddrP rfl rfl Try.underlying95 rfl Try.sizeOf3 (by decide) (show _ + 4 = _ from rfl) | exact Y.fieldAddr rfl rfl Try.underlying95 rfl Try.sizeOf3 (by decide)) ?_
  refine Jp.q 12 rfl (want_all rfl) rfl rfl (Y.loadO 0 rfl Try.isAgg3 rfl rfl rfl) ?_
  refine Jp.q 13 rfl (want_all rfl) rfl rfl (Y.move rfl rfl) ?_
  refine Jp.q 14 rfl (want_all rfl) rfl rfl (Y.nilCheck rfl rfl) ?_
  refine Jp.q 15 rfl (want_all rfl) rfl rfl (by first | exact Y.fieldAddrP rfl rfl Try.underlying95 rfl Try.sizeOf3 (by decide) (show _ + 5 = _ from rfl) | exact Y.fieldAddr rfl rfl Try.underlying95 rfl Try.sizeOf3 (by decide)) ?_
  refine Jp.q 16 rfl (want_all rfl) rfl rfl (Y.loadO 0 rfl Try.isAgg3 rfl rfl rfl) ?_
  refine Jp.q 2 rfl (want_all rfl) rfl rfl (Y.assign rfl rfl) ?_
  refine Jp.q 3 rfl (want_all rfl) rfl rfl (Y.assign rfl rfl) ?_
  refine Jp.q 4 rfl (want_all rfl) rfl rfl (Y.assign rfl rfl) ?_
  refine Jp.done hK13 ?_
  refine Cd.ret [(0, _)] rfl (res3 rfl rfl rfl rfl) ⟨rfl, trivial⟩ ⟨rfl, rfl, rfl⟩
theorem f26_spec (b : Nat) (u : UseG) : Spec Try.prog 26 #[.pointer (some ⟨b, 0, none⟩)] (RdUse u) [(0, UsePt b u)]
    (fun ρ ρ' v L => ρ' = ρ ∧ v = .int .u32 (timeP u.p).1 ∧ ∃ A, L = [(0, A)] ∧ UseEnd b (timeP u.p).2 ρ A) := by
  obtain ⟨short, random, ⟨A, c, xs⟩, k, kb, kc⟩ := u
  dsimp only [UsePt, UseG.cells, Sl.v]
  refine Spec.of 37 Try.func26 rfl Try.ntmps26 [(0, _)] rfl rfl ?_
  intro cx ρ hr h0
  have hn1 : xs.length ≤ 4096 := hr.n3
  have hk1 : kc ≤ xs.length := hr.l3
  refine Cd.seq fun K15 hK15 => ?_
  refine Cd.plain [(0, false)] rfl rfl ?_
  refine Jp.y 2 rfl (want_all rfl) rfl rfl Kp.true (Y.assign rfl rfl) ?_
  refine Jp.done hK15 ?_
  refine Cd.seq fun K16 hK16 => ?_
  refine Cd.seq fun K17 hK17 => ?_
  refine Cd.plain [(0, false), (1, false), (2, false), (3, false), (4, false), (5, false)] rfl rfl ?_
  refine Jp.y 3 rfl (want_all rfl) rfl rfl Kp.true (Y.move rfl rfl) ?_
  refine Jp.y 4 rfl (want_all rfl) rfl rfl Kp.true (Y.nilCheck rfl rfl) ?_
  refine Jp.y 5 rfl (want_all rfl) rfl rfl Kp.true (by first | exact Y.fieldAddrP rfl rfl Try.underlying95 rfl Try.sizeOf27 (by decide) (show _ + 2 = _ from rfl) | exact Y.fieldAddr rfl rfl Try.underlying95 rfl Try.sizeOf27 (by decide)) ?_
  refine Jp.y 6 rfl (want_all rfl) rfl rfl Kp.true (Y.loadO 0 rfl Try.isAgg27 rfl rfl rfl) ?_
  refine Jp.y 7 rfl (want_all rfl) rfl rfl Kp.true (Y.lenslice rfl Try.underlying27 rfl) ?_
  refine Jp.y 8 rfl (want_all rfl) rfl rfl Kp.true (Y.eql rfl rfl rfl) ?_
  refine Jp.done hK17 ?_
  refine Cd.cond rfl (fun h1 => ?_) (fun h1 => ?_)
  · simp only [beq_iff_eq] at h1
    have h2 : xs = [] := List.length_eq_zero_iff.1 (by omega)
    have e : timeP (UseG.p ⟨short, random, ⟨A, c, xs⟩, k, kb, kc⟩) = (0, UseG.p ⟨short, random, ⟨A, c, xs⟩, k, kb, kc⟩) := by simp only [timeP, UseG.p, h2, if_true]
    refine Cd.seq fun K18 hK18 => ?_
    refine Cd.plain [(0, false)] rfl rfl ?_
    refine Jp.y 2 rfl (want_all rfl) rfl rfl Kp.true (Y.assign rfl rfl) ?_
    refine Jp.done hK18 ?_
    refine Cd.ret [(0, _)] rfl (res1 rfl rfl) ⟨rfl, trivial⟩ ⟨rfl, by rw [e], _, rfl, _, rfl, hr, by rw [e]⟩
  · simp only [beq_eq_false_iff_ne, ne_eq] at h1
    have h2 : ¬ xs = [] := fun h => h1 (by rw [h]; rfl)
    have hpos : 0 < xs.length := by
      have : ¬ (xs.length : Int) = 0 := h1
      omega
    obtain ⟨ad, rfl⟩ := hr.clock.some (show 0 < xs.length * 1 by omega)
    refine Cd.skip hK16 ?_
    refine Cd.seq fun K19 hK19 => ?_
    refine Cd.seq fun K20 hK20 => ?_
    refine Cd.drawn [(0, _)] ⟨rfl, trivial⟩ [(0, true), (1, true), (2, true), (3, true), (4, true), (5, true), (6, true), (7, true), (8, true), (9, true)] follows (by kernel_rfl) (fun hrl => ?_)
    refine Jp.q 9 rfl (want_all rfl) rfl rfl (Y.move rfl rfl) ?_
    refine Jp.q 10 rfl (want_all rfl) rfl rfl (Y.nilCheck rfl rfl) ?_
    refine Jp.q 11 rfl (want_all rfl) rfl rfl (by first | exact Y.fieldAddrP rfl rfl Try.underlying95 rfl Try.sizeOf3 (by decide) (show _ + 5 = _ from rfl) | exact Y.fieldAddr rfl rfl Try.underlying95 rfl Try.sizeOf3 (by decide)) ?_
    refine Jp.q 12 rfl (want_all rfl) rfl rfl (Y.loadO 0 rfl Try.isAgg3 rfl rfl rfl) ?_
    refine Jp.q 13 rfl (want_all rfl) rfl rfl (Y.move rfl rfl) ?_
    refine Jp.q 14 rfl (want_all rfl) rfl rfl (Y.nilCheck rfl rfl) ?_
    refine Jp.q 15 rfl (want_all rfl) rfl rfl (by first | exact Y.fieldAddrP rfl rfl Try.underlying95 rfl Try.sizeOf27 (by decide) (show _ + 2 = _ from rfl) | exact Y.fieldAddr rfl rfl Try.underlying95 rfl Try.sizeOf27 (by decide)) ?_
    refine Jp.q 16 rfl (want_all rfl) rfl rfl (Y.loadO 0 rfl Try.isAgg27 rfl rfl rfl) ?_
    refine Jp.q 17 rfl (want_all rfl) rfl rfl (Y.lenslice rfl Try.underlying27 rfl) ?_
    refine Jp.q 18 rfl (want_all rfl) rfl rfl (Y.lss rfl rfl rfl) ?_
    refine Jp.done hK20 ?_
    refine Cd.cond rfl (fun h3 => ?_) (fun h3 => ?_)
    · simp only [decide_eq_true_eq] at h3
      have h3' : kc < xs.length := by omega
      have e : timeP (UseG.p ⟨short, random, ⟨some ad, c, xs⟩, k, kb, kc⟩) = (xs.getD kc 0, UseG.p ⟨short, random, ⟨some ad, c, xs⟩, k, kb, kc + 1⟩) := by
        simp only [timeP, UseG.p, h2, if_false, h3', if_true, Nat.add_sub_cancel]
      have hcell : cellH ρ (ad.add kc) = some (.int .u32 (xs.getD kc 0)) := hr.clock.cell (by simp [intsV, h3'])
      refine Cd.plain [(0, false), (1, false), (2, false), (3, false), (4, false), (5, false), (6, false), (7, false)] rfl rfl ?_
      refine Jp.y 19 rfl (want_all rfl) rfl rfl Kp.true (Y.move rfl rfl) ?_
      refine Jp.y 20 rfl (want_all rfl) rfl rfl Kp.true (Y.nilCheck rfl rfl) ?_
      refine Jp.y 21 rfl (want_all rfl) rfl rfl Kp.true (by first | exact Y.fieldAddrP rfl rfl Try.underlying95 rfl Try.sizeOf3 (by decide) (show _ + 5 = _ from rfl) | exact Y.fieldAddr rfl rfl Try.underlying95 rfl Try.sizeOf3 (by decide)) ?_
      refine Jp.y 22 rfl (want_all rfl) rfl rfl Kp.true (by first | exact Y.loadO 0 rfl Try.isAgg3 rfl rfl rfl | exact Y.loadR rfl Try.isAgg3 rfl hcell) ?_
      refine Jp.y 23 rfl (want_all rfl) rfl rfl Kp.true (Y.add_ rfl rfl rfl (by first | exact wrap_i64 (by omega) (by omega) | rfl)) ?_
      refine Jp.y 24 rfl (want_all rfl) rfl rfl Kp.true (Y.nilCheck rfl rfl) ?_
      refine Jp.y 25 rfl (want_all rfl) rfl rfl Kp.true (by first | exact Y.fieldAddrP rfl rfl Try.underlying95 rfl Try.sizeOf3 (by decide) (show _ + 5 = _ from rfl) | exact Y.fieldAddr rfl rfl Try.underlying95 rfl Try.sizeOf3 (by decide)) ?_
      refine Jp.store 0 rfl (want_all rfl) rfl rfl Try.sizeOf3 rfl rfl rfl rfl rfl rfl Kp.true ?_
      refine Jp.done hK19 ?_
      refine Cd.seq fun K22 hK22 => ?_
      refine Cd.drawn [(0, _)] ⟨rfl, trivial⟩ [(0, true), (1, true), (2, true), (3, true), (4, true), (5, true), (6, true), (7, true), (8, true), (9, true), (10, true), (11, true)] follows (by kernel_rfl) (fun hrl => ?_)
      refine Jp.q 26 rfl (want_all rfl) rfl rfl (Y.move rfl rfl) ?_
      refine Jp.q 27 rfl (want_all rfl) rfl rfl (Y.nilCheck rfl rfl) ?_
      refine Jp.q 28 rfl (want_all rfl) rfl rfl (by first | exact Y.fieldAddrP rfl rfl Try.underlying95 rfl Try.sizeOf27 (by decide) (show _ + 2 = _ from rfl) | exact Y.fieldAddr rfl rfl Try.underlying95 rfl Try.sizeOf27 (by decide)) ?_
      refine Jp.q 29 rfl (want_all rfl) rfl rfl (by first | exact Y.loadO 0 rfl Try.isAgg27 rfl rfl rfl | exact Y.loadR rfl Try.isAgg27 rfl hcell) ?_
      refine Jp.q 30 rfl (want_all rfl) rfl rfl (Y.move rfl rfl) ?_
      refine Jp.q 31 rfl (want_all rfl) rfl rfl (Y.nilCheck rfl rfl) ?_
      refine Jp.q 32 rfl (want_all rfl) rfl rfl (by first | exact Y.fieldAddrP rfl rfl Try.underlying95 rfl Try.sizeOf3 (by decide) (show _ + 5 = _ from rfl) | exact Y.fieldAddr rfl rfl Try.underlying95 rfl Try.sizeOf3 (by decide)) ?_
      refine Jp.q 33 rfl (want_all rfl) rfl rfl (by first | exact Y.loadO 0 rfl Try.isAgg3 rfl rfl rfl | exact Y.loadR rfl Try.isAgg3 rfl hcell) ?_
      refine Jp.q 34 rfl (want_all rfl) rfl rfl (Y.sub_ rfl rfl rfl (by first | exact wrap_i64 (by omega) (by omega) | rfl)) ?_
      refine Jp.q 35 rfl (want_all rfl) rfl rfl (Y.indexAddr (q := kc) rfl rfl rfl Try.underlying27 Try.sizeOf49 (by omega) (by omega) (by omega)) ?_
      refine Jp.q 36 rfl (want_all rfl) rfl rfl (by first | exact Y.loadO 0 rfl Try.isAgg49 rfl rfl rfl | exact Y.loadR rfl Try.isAgg49 rfl hcell) ?_
      refine Jp.q 2 rfl (want_all rfl) rfl rfl (Y.assign rfl rfl) ?_
      refine Jp.done hK22 ?_
      refine Cd.ret [(0, _)] rfl (res1 rfl rfl) ⟨rfl, trivial⟩ ?_
      refine ⟨rfl, by rw [e], _, rfl, ⟨short, random, ⟨some ad, c, xs⟩, k, kb, kc + 1⟩, ?_, { hr with l3 := h3' }, by rw [e]⟩
      rfl
    · simp only [decide_eq_false_iff_not] at h3
      have h3 : ¬ ((kc : Int) < (xs.length : Int)) := h3
      have h3' : ¬ kc < xs.length := by omega
      have e : timeP (UseG.p ⟨short, random, ⟨some ad, c, xs⟩, k, kb, kc⟩) = (xs.getD (kc - 1) 0, UseG.p ⟨short, random, ⟨some ad, c, xs⟩, k, kb, kc⟩) := by
        simp only [timeP, UseG.p, h2, if_false, h3']
      have h4 : kc - 1 < xs.length := by omega
      have hcell : cellH ρ (ad.add (kc - 1)) = some (.int .u32 (xs.getD (kc - 1) 0)) := hr.clock.cell (by simp [intsV, h4])
      refine Cd.skip hK19 ?_
      refine Cd.seq fun K24 hK24 => ?_
      refine Cd.drawn [(0, _)] ⟨rfl, trivial⟩ [(0, true), (1, true), (2, true), (3, true), (4, true), (5, true), (6, true), (7, true), (8, true), (9, true), (10, true), (11, true)] follows (by kernel_rfl) (fun hrl => ?_)
      refine Jp.q 26 rfl (want_all rfl) rfl rfl (Y.move rfl rfl) ?_
      refine Jp.q 27 rfl (want_all rfl) rfl rfl (Y.nilCheck rfl rfl) ?_
      refine Jp.q 28 rfl (want_all rfl) rfl rfl (by first | exact Y.fieldAddrP rfl rfl Try.underlying95 rfl Try.sizeOf27 (by decide) (show _ + 2 = _ from rfl) | exact Y.fieldAddr rfl rfl Try.underlying95 rfl Try.sizeOf27 (by decide)) ?_
      refine Jp.q 29 rfl (want_all rfl) rfl rfl (by first | exact Y.loadO 0 rfl Try.isAgg27 rfl rfl rfl | exact Y.loadR rfl Try.isAgg27 rfl hcell) ?_
      refine Jp.q 30 rfl (want_all rfl) rfl rfl (Y.move rfl rfl) ?_
      refine Jp.q 31 rfl (want_all rfl) rfl rfl (Y.nilCheck rfl rfl) ?_
      refine Jp.q 32 rfl (want_all rfl) rfl rfl (by first | exact Y.fieldAddrP rfl rfl Try.underlying95 rfl Try.sizeOf3 (by decide) (show _ + 5 = _ from rfl) | exact Y.fieldAddr rfl rfl Try.underlying95 rfl Try.sizeOf3 (by decide)) ?_
      refine Jp.q 33 rfl (want_all rfl) rfl rfl (by first | exact Y.loadO 0 rfl Try.isAgg3 rfl rfl rfl | exact Y.loadR rfl Try.isAgg3 rfl hcell) ?_
      refine Jp.q 34 rfl (want_all rfl) rfl rfl (Y.sub_ rfl rfl rfl (by first | exact wrap_i64 (by omega) (by omega) | rfl)) ?_
      refine Jp.q 35 rfl (want_all rfl) rfl rfl (Y.indexAddr (q := kc - 1) rfl rfl rfl Try.underlying27 Try.sizeOf49 (by omega) (by omega) (by omega)) ?_
      refine Jp.q 36 rfl (want_all rfl) rfl rfl (by first | exact Y.loadO 0 rfl Try.isAgg49 rfl rfl rfl | exact Y.loadR rfl Try.isAgg49 rfl hcell) ?_
      refine Jp.q 2 rfl (want_all rfl) rfl rfl (Y.assign rfl rfl) ?_
      refine Jp.done hK24 ?_
      refine Cd.ret [(0, _)] rfl (res1 rfl rfl) ⟨rfl, trivial⟩ ⟨rfl, by rw [e], _, rfl, _, rfl, hr, by rw [e]⟩
theorem f28_spec (b : Nat) (u : UseG) : Spec Try.prog 28 #[.pointer (some ⟨b, 0, none⟩)] (fun _ => True) [(0, UsePt b u)]
    (fun ρ ρ' v L => ρ' = ρ ∧ ∃ b', v = .pointer (some ⟨b', 0, none⟩) ∧ L = [(0, UsePt b u), (1, UsePt b' u)]) := by
  obtain ⟨short, random, clock, k, kb, kc⟩ := u
  dsimp only [UsePt, UseG.cells]
  refine Spec.of 7 Try.func28 rfl Try.ntmps28 [(0, _)] rfl rfl ?_
  intro cx ρ hr h0
  refine Cd.seq fun K26 hK26 => ?_
  refine Cd.plain [(0, false)] rfl rfl ?_
  refine Jp.y 2 rfl (want_all rfl) rfl rfl Kp.true (Y.assign rfl rfl) ?_
  refine Jp.done hK26 ?_
  refine Cd.seq fun K27 hK27 => ?_
  refine Cd.plain [(0, false), (1, false), (2, false), (3, false), (4, false)] rfl rfl ?_
  refine Jp.y 4 rfl (want_all rfl) rfl rfl Kp.true (Y.move rfl rfl) ?_
  refine Jp.y 5 rfl (want_all rfl) rfl rfl Kp.true (Y.nilCheck rfl rfl) ?_
  refine Jp.y 6 rfl (want_all rfl) rfl rfl Kp.true (by first | exact Y.loadAggO 0 rfl Try.isAgg95 Try.sizeOf95 rfl rfl rfl) ?_
  refine Jp.alloc 1 3 rfl (want_all rfl) rfl rfl rfl Try.zeroValue95 fun b1 => ⟨Kp.true, ?_⟩
  first | refine Jp.storeAgg 0 rfl (want_all rfl) rfl rfl Try.sizeOf95 rfl rfl rfl rfl rfl rfl (fun k _ _ => noFr0 k) Kp.true ?_ | refine Jp.storeAgg 1 rfl (want_all rfl) rfl rfl Try.sizeOf95 rfl rfl rfl rfl rfl rfl (fun k _ _ => noFr0 k) Kp.true ?_
  refine Jp.done hK27 ?_
  refine Cd.seq fun K28 hK28 => ?_
  refine Cd.plain [(0, false)] rfl rfl ?_
  refine Jp.y 2 rfl (want_all rfl) rfl rfl Kp.true (Y.assign rfl rfl) ?_
  refine Jp.done hK28 ?_
  refine Cd.ret [(0, _), (1, _)] rfl (res1 rfl rfl) ⟨rfl, rfl, trivial⟩ ⟨rfl, b1, rfl, rfl⟩
theorem bytes_res (xs : Bytes) (kb m r : Nat) : ((bytesV xs).drop (kb * 1)).take (r * 1) ++ (List.replicate m (Value.int .u8 0)).drop (r * 1) = bytesV ((xs.drop kb).take r ++ List.replicate (m - r) 0) := by
  simp only [Nat.mul_one, bytesV, List.map_append, List.map_take, List.map_drop, List.drop_replicate, List.map_replicate]
  rfl
theorem f20_spec (b : Nat) (u : UseG) (n : Int) : Spec Try.prog 20 #[.pointer (some ⟨b, 0, none⟩), .int .i64 n] (RdUse u) [(0, UsePt b u)]
    (fun ρ ρ' v L => ρ' = ρ ∧ ∃ A A' c, v = .slice A' (bytesP u.p n).1.length c ∧ L = [(0, A), (1, OwnS 5 1 A' (bytesP u.p n).1.length c (bytesV (bytesP u.p n).1))] ∧ UseEnd b (bytesP u.p n).2 ρ A) := by
  obtain ⟨short, ⟨A, c, xs⟩, clock, k, kb, kc⟩ := u
  dsimp only [UsePt, UseG.cells, Sl.v]
  refine Spec.of 33 Try.func20 rfl Try.ntmps20 [(0, _), (1, _)] rfl rfl ?_
  intro cx ρ hr h0
  have hn2 : xs.length ≤ 4096 := hr.n2
  have hk2 : kb ≤ xs.length := hr.l2
  refine Cd.seq fun K29 hK29 => ?_
  refine Cd.plain [(0, false)] rfl rfl ?_
  refine Jp.y 4 rfl (want_all rfl) rfl rfl Kp.true (Y.assign rfl rfl) ?_
  refine Jp.done hK29 ?_
  refine Cd.seq fun K30 hK30 => ?_
  refine Cd.seq fun K31 hK31 => ?_
  refine Cd.plain [(0, false), (1, false), (2, false), (3, false), (4, false), (5, false)] rfl rfl ?_
  refine Jp.y 6 rfl (want_all rfl) rfl rfl Kp.true (Y.move rfl rfl) ?_
  refine Jp.y 7 rfl (want_all rfl) rfl rfl Kp.true (Y.lss rfl rfl rfl) ?_
  refine Jp.y 8 rfl (want_all rfl) rfl rfl Kp.true (Y.move rfl rfl) ?_
  refine Jp.split 8 rfl (fun g8 => ?_) (fun g8 => ?_)
  · skip
    have e : bytesP (UseG.p ⟨short, ⟨A, c, xs⟩, clock, k, kb, kc⟩) n = ([], UseG.p ⟨short, ⟨A, c, xs⟩, clock, k, kb, kc⟩) := by
      simp only [decide_eq_true_eq] at g8
      rw [bytesP, if_pos (by omega)]
    refine Jp.skip 9 rfl (want_as rfl rfl rfl rfl) rfl rfl Kp.true ?_
    refine Jp.skip 10 rfl (want_as rfl rfl rfl rfl) rfl rfl Kp.true ?_
    refine Jp.y 11 rfl (want_all rfl) rfl rfl Kp.true (Y.pickT rfl rfl rfl) ?_
    refine Jp.done hK31 ?_
    refine Cd.condT rfl ?_
    refine Cd.seq fun K32 hK32 => ?_
    refine Cd.plain [(0, false)] rfl rfl ?_
    refine Jp.y 4 rfl (want_all rfl) rfl rfl Kp.true (Y.assign rfl rfl) ?_
    refine Jp.done hK32 ?_
    refine Cd.make 1 (OwnS.nil 5 1 Hp.emp) ?_
    refine Cd.ret [(0, _), (1, _)] rfl (res1 rfl rfl) ⟨rfl, rfl, trivial⟩ ⟨rfl, by rw [e]; exact ⟨_, none, 0, rfl, rfl, _, rfl, hr, rfl⟩⟩
  try simp only [decide_eq_false_iff_not, decide_eq_true_eq, Int.not_lt, Int.not_le, Bool.not_eq_false, Bool.not_eq_true, Bool.not_true, Bool.not_false, Bool.not_eq_true', Bool.not_eq_false', beq_eq_false_iff_ne, ne_eq, beq_iff_eq, bne_iff_ne, bne_eq_false_iff_eq, Classical.not_not] at g8
  refine Jp.y 9 rfl (want_as rfl rfl rfl rfl) rfl rfl Kp.true (Y.move rfl rfl) ?_
  refine Jp.y 10 rfl (want_as rfl rfl rfl rfl) rfl rfl Kp.true (Y.gtr rfl rfl rfl) ?_
  refine Jp.y 11 rfl (want_all rfl) rfl rfl Kp.true (Y.pickF rfl rfl rfl) ?_
  refine Jp.done hK31 ?_
  refine Cd.cond rfl (fun g11 => ?_) (fun g11 => ?_)
  · skip
    have e : bytesP (UseG.p ⟨short, ⟨A, c, xs⟩, clock, k, kb, kc⟩) n = ([], UseG.p ⟨short, ⟨A, c, xs⟩, clock, k, kb, kc⟩) := by
      simp only [decide_eq_true_eq] at g11
      rw [bytesP, if_pos (by omega)]
    refine Cd.seq fun K33 hK33 => ?_
    refine Cd.plain [(0, false)] rfl rfl ?_
    refine Jp.y 4 rfl (want_all rfl) rfl rfl Kp.true (Y.assign rfl rfl) ?_
    refine Jp.done hK33 ?_
    refine Cd.make 1 (OwnS.nil 5 1 Hp.emp) ?_
    refine Cd.ret [(0, _), (1, _)] rfl (res1 rfl rfl) ⟨rfl, rfl, trivial⟩ ⟨rfl, by rw [e]; exact ⟨_, none, 0, rfl, rfl, _, rfl, hr, rfl⟩⟩
  try simp only [decide_eq_false_iff_not, decide_eq_true_eq, Int.not_lt, Int.not_le, Bool.not_eq_false, Bool.not_eq_true, Bool.not_true, Bool.not_false, Bool.not_eq_true', Bool.not_eq_false', beq_eq_false_iff_ne, ne_eq, beq_iff_eq, bne_iff_ne, bne_eq_false_iff_eq, Classical.not_not] at g11
  refine Cd.skip hK30 ?_
  refine Cd.seq fun K34 hK34 => ?_
  refine Cd.plain [(0, false), (1, false), (2, false)] rfl rfl ?_
  refine Jp.y 12 rfl (want_all rfl) rfl rfl Kp.true (Y.move rfl rfl) ?_
  have hn0 : 0 ≤ n := by omega
  obtain ⟨m, rfl⟩ := Int.eq_ofNat_of_zero_le hn0
  have hm : m ≤ 4096 := by omega
  have hR : RdS 1 A xs.length c (bytesV xs) ρ := hr.random
  refine Jp.makeSlice (k := m) 13 1 rfl (want_all rfl) rfl rfl rfl Try.underlying26 Try.sizeOf5 Try.typeInfo5 Try.zeroValue5 rfl rfl rfl (by first | rfl | omega) (by first | rfl | omega) (by simp only [Try.t5]; omega) (by omega) fun b1 => ⟨Kp.true, ?_⟩
  refine Jp.y 5 rfl (want_all rfl) rfl rfl Kp.true (Y.assign rfl rfl) ?_
  refine Jp.done hK34 ?_
  refine Cd.seq fun K35 hK35 => ?_
  refine Cd.drawn [(0, _)] ⟨rfl, trivial⟩ [(0, true), (1, true), (2, true), (3, true), (4, true), (5, true), (6, true), (7, true), (8, true), (9, true), (10, true), (11, true), (12, true), (13, true), (14, false), (15, true), (16, true), (17, true), (18, false)] follows (by kernel_rfl) (fun hrl => ?_)
  refine Jp.q 14 rfl (want_all rfl) rfl rfl (Y.move rfl rfl) ?_
  refine Jp.q 15 rfl (want_all rfl) rfl rfl (Y.nilCheck rfl rfl) ?_
  refine Jp.q 16 rfl (want_all rfl) rfl rfl (by first | exact Y.fieldAddrP rfl rfl Try.underlying95 rfl Try.sizeOf3 (by decide) (show _ + 4 = _ from rfl) | exact Y.fieldAddr rfl rfl Try.underlying95 rfl Try.sizeOf3 (by decide)) ?_
  refine Jp.q 17 rfl (want_all rfl) rfl rfl (Y.loadO 0 rfl Try.isAgg3 rfl rfl rfl) ?_
  refine Jp.q 18 rfl (want_all rfl) rfl rfl (Y.move rfl rfl) ?_
  refine Jp.q 19 rfl (want_all rfl) rfl rfl (Y.move rfl rfl) ?_
  refine Jp.q 20 rfl (want_all rfl) rfl rfl (Y.nilCheck rfl rfl) ?_
  refine Jp.q 21 rfl (want_all rfl) rfl rfl (by first | exact Y.fieldAddrP rfl rfl Try.underlying95 rfl Try.sizeOf26 (by decide) (show _ + 1 = _ from rfl) | exact Y.fieldAddr rfl rfl Try.underlying95 rfl Try.sizeOf26 (by decide)) ?_
  refine Jp.q 22 rfl (want_all rfl) rfl rfl (Y.loadO 0 rfl Try.isAgg26 rfl rfl rfl) ?_
  refine Jp.q 23 rfl (want_all rfl) rfl rfl (Y.move rfl rfl) ?_
  refine Jp.q 24 rfl (want_all rfl) rfl rfl (Y.nilCheck rfl rfl) ?_
  refine Jp.q 25 rfl (want_all rfl) rfl rfl (by first | exact Y.fieldAddrP rfl rfl Try.underlying95 rfl Try.sizeOf3 (by decide) (show _ + 4 = _ from rfl) | exact Y.fieldAddr rfl rfl Try.underlying95 rfl Try.sizeOf3 (by decide)) ?_
  refine Jp.q 26 rfl (want_all rfl) rfl rfl (Y.loadO 0 rfl Try.isAgg3 rfl rfl rfl) ?_
  refine Jp.q 27 rfl (want_all rfl) rfl rfl (Y.sliceFrom (lo := kb) rfl rfl rfl Try.underlying26 Try.sizeOf5 (by omega) (by omega)) ?_
  have hR2 := hR.drop hk2
  have hmin : Nat.min (xs.length - kb) m = min (xs.length - kb) m := rfl
  refine Jp.copy (r := min (xs.length - kb) m) 28 1 rfl (want_all rfl) rfl rfl rfl Try.underlying26 Try.sizeOf5 rfl rfl rfl (SrcN.rd hR2 (Nat.min_le_left (xs.length - kb) m)) hmin (all_take1 (all_drop1 (bytesV_one xs))) (bytesV ((xs.drop kb).take (min (xs.length - kb) m) ++ List.replicate (m - min (xs.length - kb) m) 0)) (bytes_res xs kb m _) ⟨(Kp.st ⟨rfl, trivial⟩), ?_⟩
  refine Jp.q 29 rfl (want_all rfl) rfl rfl (Y.add_ rfl rfl rfl (by first | exact wrap_i64 (by omega) (by omega) | rfl)) ?_
  refine Jp.q 30 rfl (want_all rfl) rfl rfl (Y.nilCheck rfl rfl) ?_
  refine Jp.q 31 rfl (want_all rfl) rfl rfl (by first | exact Y.fieldAddrP rfl rfl Try.underlying95 rfl Try.sizeOf3 (by decide) (show _ + 4 = _ from rfl) | exact Y.fieldAddr rfl rfl Try.underlying95 rfl Try.sizeOf3 (by decide)) ?_
  refine Jp.store 0 rfl (want_all rfl) rfl rfl Try.sizeOf3 rfl rfl rfl rfl rfl rfl Kp.last ?_
  refine Jp.done hK35 ?_
  refine Cd.seq fun K37 hK37 => ?_
  refine Cd.plain [(0, false), (1, false)] rfl rfl ?_
  refine Jp.y 32 rfl (want_all rfl) rfl rfl Kp.true (Y.move rfl rfl) ?_
  refine Jp.y 4 rfl (want_all rfl) rfl rfl Kp.true (Y.assign rfl rfl) ?_
  refine Jp.done hK37 ?_
  have e : bytesP (UseG.p ⟨short, ⟨A, c, xs⟩, clock, k, kb, kc⟩) m = ((xs.drop kb).take (min (xs.length - kb) m) ++ List.replicate (m - min (xs.length - kb) m) 0, UseG.p ⟨short, ⟨A, c, xs⟩, clock, k, kb + min (xs.length - kb) m, kc⟩) := by
    rw [bytesP, if_neg (by omega)]
    simp only [UseG.p, Int.toNat_natCast]
  have hl : ((xs.drop kb).take (min (xs.length - kb) m) ++ List.replicate (m - min (xs.length - kb) m) (0 : UInt8)).length = m := by
    simp only [List.length_append, List.length_take, List.length_drop, List.length_replicate]; omega
  refine Cd.ret [(0, _), (1, _)] rfl (res1 rfl rfl) ⟨rfl, rfl, trivial⟩ ?_
  rw [e]
  refine ⟨rfl, _, some ⟨b1, 0, none⟩, m, by simp only [hl], by simp only [hl]; rfl, ⟨short, ⟨A, c, xs⟩, clock, k, kb + min (xs.length - kb) m, kc⟩, rfl, { hr with l2 := ?_ }, rfl⟩
  show kb + min (xs.length - kb) m ≤ xs.length
  omega
end Go.Proofs.Ytjjhihlmoecmlaa
