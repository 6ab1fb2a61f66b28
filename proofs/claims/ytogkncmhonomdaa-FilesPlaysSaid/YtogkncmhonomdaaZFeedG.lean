import Derived.Test.YtogkncmhonomdaaZFeedF
set_option linter.unusedVariables false
set_option linter.unusedSimpArgs false
set_option maxRecDepth 100000
namespace Go.Proofs.Ytogkncmhonomdaa
open Go
def takeP (u : UseP) (n : Int) : Int × UseP :=
  if n < 0 then (0, u) else match u.short[u.shorts]? with
    | none => (n, u)
    | some x => (if x < n then x else n, { u with shorts := u.shorts + 1 })
def timeP (u : UseP) : Int × UseP :=
  if u.clock = [] then (0, u) else
    let k := if u.clocks < u.clock.length then u.clocks + 1 else u.clocks
    (u.clock.getD (k - 1) 0, { u with clocks := k })
def bytesP (u : UseP) (n : Int) : Bytes × UseP :=
  if n < 0 ∨ 4096 < n then ([], u) else
    let k := min (u.random.length - u.bytes) n.toNat
    ((u.random.drop u.bytes).take k ++ List.replicate (n.toNat - k) 0, { u with bytes := u.bytes + k })
def UseEnd (b : Nat) (q : UseP) (ρ : Hp) (A : HProp) : Prop := ∃ u, A = UsePt b u ∧ RdUse u ρ ∧ u.p = q
theorem f30_spec (b : Nat) (u : UseG) (n : Int) : Spec Try.prog 30 #[.pointer (some ⟨b, 0, none⟩), .int .i64 n] (RdUse u) [(0, UsePt b u)]
    (fun ρ ρ' v L => ρ' = ρ ∧ v = .int .i64 (takeP u.p n).1 ∧ ∃ A, L = [(0, A)] ∧ UseEnd b (takeP u.p n).2 ρ A) := by
  obtain ⟨short, random, clock, k, kb, kc⟩ := u
  dsimp only [UsePt, UseG.cells]
  refine Spec.of 38 Try.func30 rfl Try.ntmps30 [(0, _), (1, _)] rfl rfl ?_
  intro cx ρ hr h0
  have hn1 : short.xs.length ≤ 4096 := hr.n1
  have hk1 : k ≤ short.xs.length := hr.l1
  refine Cd.seq fun K1 hK1 => ?_
  refine Cd.plain [(0, false)] rfl rfl ?_
  refine Jp.y 4 rfl (want_all rfl) rfl rfl Kp.true (Y.assign rfl rfl) ?_
  refine Jp.done hK1 ?_
  refine Cd.seq fun K2 hK2 => ?_
  refine Cd.seq fun K3 hK3 => ?_
  refine Cd.plain [(0, false), (1, false)] rfl rfl ?_
  refine Jp.y 5 rfl (want_all rfl) rfl rfl Kp.true (Y.move rfl rfl) ?_
  refine Jp.y 6 rfl (want_all rfl) rfl rfl Kp.true (Y.lss rfl rfl rfl) ?_
  refine Jp.done hK3 ?_
  refine Cd.cond rfl (fun h1 => ?_) (fun h1 => ?_)
  · simp only [decide_eq_true_eq] at h1
    refine Cd.seq fun K4 hK4 => ?_
    refine Cd.plain [(0, false)] rfl rfl ?_
    refine Jp.y 4 rfl (want_all rfl) rfl rfl Kp.true (Y.assign rfl rfl) ?_
    refine Jp.done hK4 ?_
    refine Cd.ret [(0, _)] rfl (res1 rfl rfl) ⟨rfl, trivial⟩ ⟨rfl, by rw [takeP, if_pos h1], _, rfl, _, rfl, hr, by rw [takeP, if_pos h1]⟩
  · simp only [decide_eq_false_iff_not] at h1
    refine Cd.skip hK2 ?_
    refine Cd.seq fun K5 hK5 => ?_
    refine Cd.seq fun K6 hK6 => ?_
    refine Cd.drawn [(0, _)] ⟨rfl, trivial⟩ [(0, true), (1, true), (2, true), (3, true), (4, true), (5, true), (6, true), (7, true), (8, true), (9, true)] follows (by kernel_rfl) (fun hrl => ?_)
    refine Jp.q 7 rfl (want_all rfl) rfl rfl (Y.move rfl rfl) ?_
    refine Jp.q 8 rfl (want_all rfl) rfl rfl (Y.nilCheck rfl rfl) ?_
    refine Jp.q 9 rfl (want_all rfl) rfl rfl (by first | exact Y.fieldAddrP rfl rfl Try.underlying84 rfl Try.sizeOf3 (by decide) (show _ + 3 = _ from rfl) | exact Y.fieldAddr rfl rfl Try.underlying84 rfl Try.sizeOf3 (by decide)) ?_
    refine Jp.q 10 rfl (want_all rfl) rfl rfl (Y.loadO 0 rfl Try.isAgg3 rfl rfl rfl) ?_
    refine Jp.q 11 rfl (want_all rfl) rfl rfl (Y.move rfl rfl) ?_
    refine Jp.q 12 rfl (want_all rfl) rfl rfl (Y.nilCheck rfl rfl) ?_
    refine Jp.q 13 rfl (want_all rfl) rfl rfl (by first | exact Y.fieldAddrP rfl rfl Try.underlying84 rfl Try.sizeOf24 (by decide) (show _ + 0 = _ from rfl) | exact Y.fieldAddr rfl rfl Try.underlying84 rfl Try.sizeOf24 (by decide)) ?_
    refine Jp.q 14 rfl (want_all rfl) rfl rfl (Y.loadO 0 rfl Try.isAgg24 rfl rfl rfl) ?_
    refine Jp.q 15 rfl (want_all rfl) rfl rfl (Y.lenslice rfl Try.underlying24 rfl) ?_
    refine Jp.q 16 rfl (want_all rfl) rfl rfl (Y.geq rfl rfl rfl) ?_
    refine Jp.done hK6 ?_
    refine Cd.cond rfl (fun h2 => ?_) (fun h2 => ?_)
    · simp only [decide_eq_true_eq] at h2
      have hx : short.xs[k]? = none := by rw [List.getElem?_eq_none_iff]; omega
      have e : takeP (UseG.p ⟨short, random, clock, k, kb, kc⟩) n = (n, UseG.p ⟨short, random, clock, k, kb, kc⟩) := by
        rw [takeP, if_neg h1]; simp only [UseG.p, hx]
      refine Cd.seq fun K8 hK8 => ?_
      refine Cd.plain [(0, false), (1, false)] rfl rfl ?_
      refine Jp.y 17 rfl (want_all rfl) rfl rfl Kp.true (Y.move rfl rfl) ?_
      refine Jp.y 4 rfl (want_all rfl) rfl rfl Kp.true (Y.assign rfl rfl) ?_
      refine Jp.done hK8 ?_
      refine Cd.ret [(0, _)] rfl (res1 rfl rfl) ⟨rfl, trivial⟩ ⟨rfl, by rw [e], _, rfl, _, rfl, hr, by rw [e]⟩
    · simp only [decide_eq_false_iff_not, Int.not_le] at h2
      have hlt : k < short.xs.length := by omega
      have hx : short.xs[k]? = some short.xs[k] := by simp [hlt]
      have e : takeP (UseG.p ⟨short, random, clock, k, kb, kc⟩) n = (if short.xs[k] < n then short.xs[k] else n, UseG.p ⟨short, random, clock, k + 1, kb, kc⟩) := by
        rw [takeP, if_neg h1]; simp only [UseG.p, hx]
      obtain ⟨A, c, xs⟩ := short
      have hlt : k < xs.length := hlt
      have hn1 : xs.length ≤ 4096 := hn1
      obtain ⟨ad, rfl⟩ := hr.short.some (show 0 < xs.length * 1 by omega)
      have hcell : cellH ρ (ad.add k) = some (.int .i64 xs[k]) := hr.short.cell (by simp [intsV, hlt])
      refine Cd.skip hK5 ?_
      refine Cd.seq fun K9 hK9 => ?_
      refine Cd.plain [(0, false), (1, false), (2, false), (3, false), (4, false), (5, false), (6, false), (7, false)] rfl rfl ?_
      refine Jp.y 18 rfl (want_all rfl) rfl rfl Kp.true (Y.move rfl rfl) ?_
      refine Jp.y 19 rfl (want_all rfl) rfl rfl Kp.true (Y.nilCheck rfl rfl) ?_
      refine Jp.y 20 rfl (want_all rfl) rfl rfl Kp.true (by first | exact Y.fieldAddrP rfl rfl Try.underlying84 rfl Try.sizeOf3 (by decide) (show _ + 3 = _ from rfl) | exact Y.fieldAddr rfl rfl Try.underlying84 rfl Try.sizeOf3 (by decide)) ?_
      refine Jp.y 21 rfl (want_all rfl) rfl rfl Kp.true (by first | exact Y.loadO 0 rfl Try.isAgg3 rfl rfl rfl | exact Y.loadR rfl Try.isAgg3 rfl hcell) ?_
      refine Jp.y 22 rfl (want_all rfl) rfl rfl Kp.true (Y.add_ rfl rfl rfl (by first | exact wrap_i64 (by omega) (by omega) | rfl)) ?_
      refine Jp.y 23 rfl (want_all rfl) rfl rfl Kp.true (Y.nilCheck rfl rfl) ?_
      refine Jp.y 24 rfl (want_all rfl) rfl rfl Kp.true (by first | exact Y.fieldAddrP rfl rfl Try.underlying84 rfl Try.sizeOf3 (by decide) (show _ + 3 = _ from rfl) | exact Y.fieldAddr rfl rfl Try.underlying84 rfl Try.sizeOf3 (by decide)) ?_
      refine Jp.store 0 rfl (want_all rfl) rfl rfl Try.sizeOf3 rfl rfl rfl rfl rfl rfl Kp.true ?_
      refine Jp.done hK9 ?_
      refine Cd.seq fun K10 hK10 => ?_
      refine Cd.drawn [(0, _)] ⟨rfl, trivial⟩ [(0, true), (1, true), (2, true), (3, true), (4, true), (5, true), (6, true), (7, true), (8, true), (9, true), (10, true), (11, true), (12, true), (13, true)] follows (by kernel_rfl) (fun hrl => ?_)
      refine Jp.q 25 rfl (want_all rfl) rfl rfl (Y.move rfl rfl) ?_
      refine Jp.q 26 rfl (want_all rfl) rfl rfl (Y.move rfl rfl) ?_
      refine Jp.q 27 rfl (want_all rfl) rfl rfl (Y.nilCheck rfl rfl) ?_
      refine Jp.q 28 rfl (want_all rfl) rfl rfl (by first | exact Y.fieldAddrP rfl rfl Try.underlying84 rfl Try.sizeOf24 (by decide) (show _ + 0 = _ from rfl) | exact Y.fieldAddr rfl rfl Try.underlying84 rfl Try.sizeOf24 (by decide)) ?_
      refine Jp.q 29 rfl (want_all rfl) rfl rfl (by first | exact Y.loadO 0 rfl Try.isAgg24 rfl rfl rfl | exact Y.loadR rfl Try.isAgg24 rfl hcell) ?_
      refine Jp.q 30 rfl (want_all rfl) rfl rfl (Y.move rfl rfl) ?_
      refine Jp.q 31 rfl (want_all rfl) rfl rfl (Y.nilCheck rfl rfl) ?_
      refine Jp.q 32 rfl (want_all rfl) rfl rfl (by first | exact Y.fieldAddrP rfl rfl Try.underlying84 rfl Try.sizeOf3 (by decide) (show _ + 3 = _ from rfl) | exact Y.fieldAddr rfl rfl Try.underlying84 rfl Try.sizeOf3 (by decide)) ?_
      refine Jp.q 33 rfl (want_all rfl) rfl rfl (by first | exact Y.loadO 0 rfl Try.isAgg3 rfl rfl rfl | exact Y.loadR rfl Try.isAgg3 rfl hcell) ?_
      refine Jp.q 34 rfl (want_all rfl) rfl rfl (Y.sub_ rfl rfl rfl (by first | exact wrap_i64 (by omega) (by omega) | rfl)) ?_
      refine Jp.q 35 rfl (want_all rfl) rfl rfl (Y.indexAddr (q := k) rfl rfl rfl Try.underlying24 Try.sizeOf3 (by omega) (by omega) (by omega)) ?_
      refine Jp.q 36 rfl (want_all rfl) rfl rfl (by first | exact Y.loadO 0 rfl Try.isAgg3 rfl rfl rfl | exact Y.loadR rfl Try.isAgg3 rfl hcell) ?_
      refine Jp.q 37 rfl (want_all rfl) rfl rfl (Y.min2 rfl rfl rfl) ?_
      refine Jp.q 4 rfl (want_all rfl) rfl rfl (Y.assign rfl rfl) ?_
      refine Jp.done hK10 ?_
      refine Cd.ret [(0, _)] rfl (res1 rfl rfl) ⟨rfl, trivial⟩ ?_
      refine ⟨rfl, by rw [e], _, rfl, ⟨⟨some ad, c, xs⟩, random, clock, k + 1, kb, kc⟩, ?_, { hr with l1 := hlt }, by rw [e]⟩
      rfl
theorem f21_spec (b : Nat) (u : UseG) : Spec Try.prog 21 #[.pointer (some ⟨b, 0, none⟩)] (fun _ => True) [(0, UsePt b u)]
    (fun ρ ρ' v L => ρ' = ρ ∧ v = .tuple #[.int .i64 u.shorts, .int .i64 u.bytes, .int .i64 u.clocks] ∧ L = [(0, UsePt b u)]) := by
  obtain ⟨short, random, clock, k, kb, kc⟩ := u
  dsimp only [UsePt, UseG.cells]
  refine Spec.of 17 Try.func21 rfl Try.ntmps21 [(0, _)] rfl rfl ?_
  intro cx ρ hr h0
  refine Cd.seq fun K12 hK12 => ?_
  refine Cd.plain [(0, false), (1, false), (2, false)] rfl rfl ?_
  refine Jp.y 2 rfl (want_all rfl) rfl rfl Kp.true (Y.assign rfl rfl) ?_
  refine Jp.y 3 rfl (want_all rfl) rfl rfl Kp.true (Y.assign rfl rfl) ?_
  refine Jp.y 4 rfl (want_all rfl) rfl rfl Kp.true (Y.assign rfl rfl) ?_
  refine Jp.done hK12 ?_
  refine Cd.seq fun K13 hK13 => ?_
  refine Cd.drawn [(0, _)] ⟨rfl, trivial⟩ [(0, true), (1, true), (2, true), (3, true), (4, true), (5, true), (6, true), (7, true), (8, true), (9, true), (10, true), (11, true), (12, true), (13, true), (14, true)] follows (by kernel_rfl) (fun hrl => ?_)
  refine Jp.q 5 rfl (want_all rfl) rfl rfl (Y.move rfl rfl) ?_
  refine Jp.q 6 rfl (want_all rfl) rfl rfl (Y.nilCheck rfl rfl) ?_
  refine Jp.q 7 rfl (want_all rfl) rfl rfl (by first | exact Y.fieldAddrP rfl rfl Try.underlying84 rfl Try.sizeOf3 (by decide) (show _ + 3 = _ from rfl) | exact Y.fieldAddr rfl rfl Try.underlying84 rfl Try.sizeOf3 (by decide)) ?_
  refine Jp.q 8 rfl (want_all rfl) rfl rfl (Y.loadO 0 rfl Try.isAgg3 rfl rfl rfl) ?_
  refine Jp.q 9 rfl (want_all rfl) rfl rfl (Y.move rfl rfl) ?_
  refine Jp.q 10 rfl (want_all rfl) rfl rfl (Y.nilCheck rfl rfl) ?_
  refine Jp.q 11 rfl (want_all rfl) rfl rfl (by first | exact Y.fieldAddrP rfl rfl Try.underlying84 rfl Try.sizeOf3 (by decide) (show _ + 4 = _ from rfl) | exact Y.fieldAddr rfl rfl Try.underlying84 rfl Try.sizeOf3 (by decide)) ?_
  refine Jp.q 12 rfl (want_all rfl) rfl rfl (Y.loadO 0 rfl Try.isAgg3 rfl rfl rfl) ?_
  refine Jp.q 13 rfl (want_all rfl) rfl rfl (Y.move rfl rfl) ?_
  refine Jp.q 14 rfl (want_all rfl) rfl rfl (Y.nilCheck rfl rfl) ?_
  refine Jp.q 15 rfl (want_all rfl) rfl rfl (by first | exact Y.fieldAddrP rfl rfl Try.underlying84 rfl Try.sizeOf3 (by decide) (show _ + 5 = _ from rfl) | exact Y.fieldAddr rfl rfl Try.underlying84 rfl Try.sizeOf3 (by decide)) ?_
  refine Jp.q 16 rfl (want_all rfl) rfl rfl (Y.loadO 0 rfl Try.isAgg3 rfl rfl rfl) ?_
  refine Jp.q 2 rfl (want_all rfl) rfl rfl (Y.assign rfl rfl) ?_
  refine Jp.q 3 rfl (want_all rfl) rfl rfl (Y.assign rfl rfl) ?_
  refine Jp.q 4 rfl (want_all rfl) rfl rfl (Y.assign rfl rfl) ?_
  refine Jp.done hK13 ?_
  refine Cd.ret [(0, _)] rfl (res3 rfl rfl rfl rfl) ⟨rfl, trivial⟩ ⟨rfl, rfl, rfl⟩
end Go.Proofs.Ytogkncmhonomdaa
