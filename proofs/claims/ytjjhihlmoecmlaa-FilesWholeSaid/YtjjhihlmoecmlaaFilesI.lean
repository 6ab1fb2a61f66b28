/- Law 11: FilesWhole. -/
import Derived.Test.YtjjhihlmoecmlaaFilesG
set_option linter.unusedVariables false
set_option linter.unusedSimpArgs false
set_option maxRecDepth 100000
namespace Go.Proofs.Ytjjhihlmoecmlaa
open Go
theorem step_whole {sh : List Int} {name data : Bytes} {k a : Nat} {n : Int} (hn : 1 ≤ n) (hn2 : n ≤ 50) (ha : a ≤ data.length) (hk : k ≤ sh.length) (hsh : ∀ x ∈ sh, 0 ≤ x ∧ x ≤ 4096) :
    ∃ k' bs, readFP (withP sh name data k a) 3 n = (some bs, withP sh name data k' (a + bs.length)) ∧ data.take a ++ bs = data.take (a + bs.length) ∧ k' ≤ sh.length ∧ (bs.length : Int) ≤ n ∧ a + bs.length ≤ data.length ∧ ∀ i, a = data.length ∨ i ≤ k + a → a + bs.length = data.length ∨ i + 1 ≤ k' + (a + bs.length) := by
  obtain ⟨t, ht⟩ : ∃ t, t = takeP ⟨sh, [], [], k, 0, 0⟩ (clampN n) := ⟨_, rfl⟩
  have hc : clampN n = n := clampN_id (by omega) (by omega)
  obtain ⟨r0, r1⟩ := takeP_range (u := ⟨sh, [], [], k, 0, 0⟩) (n := n) (fun x hx => (hsh x hx).1) (by omega)
  have hmin : min a data.length = a := by omega
  obtain ⟨bs, hbs⟩ : ∃ bs, bs = (data.drop a).take t.1.toNat := ⟨_, rfl⟩
  have hl : bs.length = min t.1.toNat (data.length - a) := by rw [hbs, List.length_take, List.length_drop]
  rw [← hc, ← ht] at r0 r1
  rw [hc] at r1
  have hcase : (k < sh.length ∧ t.2.shorts = k + 1) ∨ (t.1 = n ∧ t.2.shorts = k) := by
    rw [ht, hc, takeP, if_neg (by omega)]
    cases hx : sh[k]? with
    | none => right; exact ⟨rfl, rfl⟩
    | some x => left; exact ⟨(List.getElem?_eq_some_iff.1 hx).1, rfl⟩
  refine ⟨t.2.shorts, bs, ?_, ?_, ?_, ?_, ?_, fun i hi => ?_⟩
  · rw [read_with (b := bs) (by rw [hmin, ← ht, hbs]), ← ht]
  · rw [hbs, List.length_take, List.length_drop, List.take_add]
    congr 1
    apply List.ext_getElem?
    intro j
    simp only [List.getElem?_take, List.getElem?_drop]
    by_cases hj : j < t.1.toNat
    · by_cases hj2 : j < data.length - a
      · rw [if_pos hj, if_pos (by omega)]
      · rw [if_pos hj, if_neg (by omega), List.getElem?_eq_none_iff]; omega
    · rw [if_neg hj, if_neg (by omega)]
  · omega
  · omega
  · omega
  · omega
theorem newP_file (sh : Sl Int) (b : Nat) (name : ByteArray) (s : Sl UInt8) : (FeedG.ofFile sh b name s).p = ⟨[], [], sh.xs, [], [], [(str name, s.xs)]⟩ := rfl
theorem filesWhole_spec (s : Sl UInt8) (sh : Sl Int) (n : Int) : Spec Try.prog 7 #[s.v, sh.v, .int .i64 n] (fun h => RdB s h ∧ RdI .i64 sh h) [] (fun ρ ρ' v L => v = .bool true ∧ L = []) := by
  obtain ⟨As, cs, data⟩ := s
  obtain ⟨Ah, ch, xh⟩ := sh
  dsimp only [Sl.v]
  refine Spec.of 94 Try.func7 rfl Try.ntmps7 [(0, _), (1, _), (2, _)] rfl rfl ?_
  intro cx ρ hr0 h0
  obtain ⟨hrs, hrl⟩ := hr0
  refine Cd.seq fun K1 hK1 => ?_
  refine Cd.plain [(0, false)] rfl rfl ?_
  refine Jp.y 6 rfl (want_all rfl) rfl rfl Kp.true (Y.assign rfl rfl) ?_
  refine Jp.done hK1 ?_
  refine Cd.seq fun K2 hK2 => ?_
  refine Cd.seq fun K3 hK3 => ?_
  refine Cd.plain [(0, false), (1, false)] rfl rfl ?_
  refine Jp.call [] [] f29_spec 14 rfl (want_all rfl) rfl rfl (Runs.fn rfl Try.call29 rfl) (by decide) (by decide) rfl trivial ?_
  rintro v1 ρ1 L1 ⟨rfl, rfl⟩
  refine ⟨rfl, fun hle1 => ⟨Kp.true, ?_⟩⟩
  have hrs := RdB.up _ _ _ hle1 hrs
  have hrl := RdI.up _ _ _ _ hle1 hrl
  refine Jp.y 15 rfl (want_all rfl) rfl rfl Kp.true (Y.not rfl rfl) ?_
  refine Jp.done hK3 ?_
  refine Cd.cond rfl (fun g15 => ?_) (fun g15 => ?_)
  · skip
    exact absurd g15 (by simp)
  try simp only [decide_eq_false_iff_not, decide_eq_true_eq, Int.not_lt, Int.not_le, Bool.not_eq_false, Bool.not_eq_true, Bool.not_true, Bool.not_false, Bool.not_eq_true', Bool.not_eq_false', beq_eq_false_iff_ne, ne_eq, beq_iff_eq, bne_iff_ne, bne_eq_false_iff_eq, Classical.not_not] at g15
  refine Cd.skip hK2 ?_
  refine Cd.seq fun K4 hK4 => ?_
  refine Cd.seq fun K5 hK5 => ?_
  refine Cd.plain [(0, false), (1, false), (2, false), (3, false), (4, false), (5, false), (6, false), (7, false), (8, false), (9, false), (10, false), (11, false), (12, false), (13, false), (14, false), (15, false)] rfl rfl ?_
  refine Jp.y 16 rfl (want_all rfl) rfl rfl Kp.true (Y.move rfl rfl) ?_
  refine Jp.y 17 rfl (want_all rfl) rfl rfl Kp.true (Y.lenslice rfl Try.underlying26 rfl) ?_
  refine Jp.y 18 rfl (want_all rfl) rfl rfl Kp.true (Y.gtr rfl rfl rfl) ?_
  refine Jp.y 19 rfl (want_all rfl) rfl rfl Kp.true (Y.move rfl rfl) ?_
  refine Jp.split 19 rfl (fun g19 => ?_) (fun g19 => ?_)
  · skip
    refine Jp.skip 20 rfl (want_as rfl rfl rfl rfl) rfl rfl Kp.true ?_
    refine Jp.skip 21 rfl (want_as rfl rfl rfl rfl) rfl rfl Kp.true ?_
    refine Jp.skip 22 rfl (want_as rfl rfl rfl rfl) rfl rfl Kp.true ?_
    refine Jp.y 23 rfl (want_all rfl) rfl rfl Kp.true (Y.pickT rfl rfl rfl) ?_
    refine Jp.y 24 rfl (want_all rfl) rfl rfl Kp.true (Y.move rfl rfl) ?_
    refine Jp.skip 25 rfl (want_as rfl rfl rfl rfl) rfl rfl Kp.true ?_
    refine Jp.skip 26 rfl (want_as rfl rfl rfl rfl) rfl rfl Kp.true ?_
    refine Jp.y 27 rfl (want_all rfl) rfl rfl Kp.true (Y.pickT rfl rfl rfl) ?_
    refine Jp.y 28 rfl (want_all rfl) rfl rfl Kp.true (Y.move rfl rfl) ?_
    refine Jp.skip 29 rfl (want_as rfl rfl rfl rfl) rfl rfl Kp.true ?_
    refine Jp.skip 30 rfl (want_as rfl rfl rfl rfl) rfl rfl Kp.true ?_
    refine Jp.y 31 rfl (want_all rfl) rfl rfl Kp.true (Y.pickT rfl rfl rfl) ?_
    refine Jp.done hK5 ?_
    refine Cd.condT rfl ?_
    refine Cd.seq fun K6 hK6 => ?_
    refine Cd.plain [(0, false)] rfl rfl ?_
    refine Jp.y 6 rfl (want_all rfl) rfl rfl Kp.true (Y.assign rfl rfl) ?_
    refine Jp.done hK6 ?_
    refine Cd.ret [] rfl (res1 rfl rfl) trivial ⟨rfl, rfl⟩
  try simp only [decide_eq_false_iff_not, decide_eq_true_eq, Int.not_lt, Int.not_le, Bool.not_eq_false, Bool.not_eq_true, Bool.not_true, Bool.not_false, Bool.not_eq_true', Bool.not_eq_false', beq_eq_false_iff_ne, ne_eq, beq_iff_eq, bne_iff_ne, bne_eq_false_iff_eq, Classical.not_not] at g19
  refine Jp.y 20 rfl (want_as rfl rfl rfl rfl) rfl rfl Kp.true (Y.move rfl rfl) ?_
  refine Jp.y 21 rfl (want_as rfl rfl rfl rfl) rfl rfl Kp.true (Y.lenslice rfl Try.underlying22 rfl) ?_
  refine Jp.y 22 rfl (want_as rfl rfl rfl rfl) rfl rfl Kp.true (Y.gtr rfl rfl rfl) ?_
  refine Jp.y 23 rfl (want_all rfl) rfl rfl Kp.true (Y.pickF rfl rfl rfl) ?_
  refine Jp.y 24 rfl (want_all rfl) rfl rfl Kp.true (Y.move rfl rfl) ?_
  refine Jp.split 24 rfl (fun g24 => ?_) (fun g24 => ?_)
  · skip
    refine Jp.skip 25 rfl (want_as rfl rfl rfl rfl) rfl rfl Kp.true ?_
    refine Jp.skip 26 rfl (want_as rfl rfl rfl rfl) rfl rfl Kp.true ?_
    refine Jp.y 27 rfl (want_all rfl) rfl rfl Kp.true (Y.pickT rfl rfl rfl) ?_
    refine Jp.y 28 rfl (want_all rfl) rfl rfl Kp.true (Y.move rfl rfl) ?_
    refine Jp.skip 29 rfl (want_as rfl rfl rfl rfl) rfl rfl Kp.true ?_
    refine Jp.skip 30 rfl (want_as rfl rfl rfl rfl) rfl rfl Kp.true ?_
    refine Jp.y 31 rfl (want_all rfl) rfl rfl Kp.true (Y.pickT rfl rfl rfl) ?_
    refine Jp.done hK5 ?_
    refine Cd.condT rfl ?_
    refine Cd.seq fun K7 hK7 => ?_
    refine Cd.plain [(0, false)] rfl rfl ?_
    refine Jp.y 6 rfl (want_all rfl) rfl rfl Kp.true (Y.assign rfl rfl) ?_
    refine Jp.done hK7 ?_
    refine Cd.ret [] rfl (res1 rfl rfl) trivial ⟨rfl, rfl⟩
  try simp only [decide_eq_false_iff_not, decide_eq_true_eq, Int.not_lt, Int.not_le, Bool.not_eq_false, Bool.not_eq_true, Bool.not_true, Bool.not_false, Bool.not_eq_true', Bool.not_eq_false', beq_eq_false_iff_ne, ne_eq, beq_iff_eq, bne_iff_ne, bne_eq_false_iff_eq, Classical.not_not] at g24
  refine Jp.y 25 rfl (want_as rfl rfl rfl rfl) rfl rfl Kp.true (Y.move rfl rfl) ?_
  refine Jp.y 26 rfl (want_as rfl rfl rfl rfl) rfl rfl Kp.true (Y.lss rfl rfl rfl) ?_
  refine Jp.y 27 rfl (want_all rfl) rfl rfl Kp.true (Y.pickF rfl rfl rfl) ?_
  refine Jp.y 28 rfl (want_all rfl) rfl rfl Kp.true (Y.move rfl rfl) ?_
  refine Jp.split 28 rfl (fun g28 => ?_) (fun g28 => ?_)
  · skip
    refine Jp.skip 29 rfl (want_as rfl rfl rfl rfl) rfl rfl Kp.true ?_
    refine Jp.skip 30 rfl (want_as rfl rfl rfl rfl) rfl rfl Kp.true ?_
    refine Jp.y 31 rfl (want_all rfl) rfl rfl Kp.true (Y.pickT rfl rfl rfl) ?_
    refine Jp.done hK5 ?_
    refine Cd.condT rfl ?_
    refine Cd.seq fun K8 hK8 => ?_
    refine Cd.plain [(0, false)] rfl rfl ?_
    refine Jp.y 6 rfl (want_all rfl) rfl rfl Kp.true (Y.assign rfl rfl) ?_
    refine Jp.done hK8 ?_
    refine Cd.ret [] rfl (res1 rfl rfl) trivial ⟨rfl, rfl⟩
  try simp only [decide_eq_false_iff_not, decide_eq_true_eq, Int.not_lt, Int.not_le, Bool.not_eq_false, Bool.not_eq_true, Bool.not_true, Bool.not_false, Bool.not_eq_true', Bool.not_eq_false', beq_eq_false_iff_ne, ne_eq, beq_iff_eq, bne_iff_ne, bne_eq_false_iff_eq, Classical.not_not] at g28
  refine Jp.y 29 rfl (want_as rfl rfl rfl rfl) rfl rfl Kp.true (Y.move rfl rfl) ?_
  refine Jp.y 30 rfl (want_as rfl rfl rfl rfl) rfl rfl Kp.true (Y.gtr rfl rfl rfl) ?_
  refine Jp.y 31 rfl (want_all rfl) rfl rfl Kp.true (Y.pickF rfl rfl rfl) ?_
  refine Jp.done hK5 ?_
  refine Cd.cond rfl (fun g31 => ?_) (fun g31 => ?_)
  · skip
    refine Cd.seq fun K9 hK9 => ?_
    refine Cd.plain [(0, false)] rfl rfl ?_
    refine Jp.y 6 rfl (want_all rfl) rfl rfl Kp.true (Y.assign rfl rfl) ?_
    refine Jp.done hK9 ?_
    refine Cd.ret [] rfl (res1 rfl rfl) trivial ⟨rfl, rfl⟩
  try simp only [decide_eq_false_iff_not, decide_eq_true_eq, Int.not_lt, Int.not_le, Bool.not_eq_false, Bool.not_eq_true, Bool.not_true, Bool.not_false, Bool.not_eq_true', Bool.not_eq_false', beq_eq_false_iff_ne, ne_eq, beq_iff_eq, bne_iff_ne, bne_eq_false_iff_eq, Classical.not_not] at g31
  refine Cd.skip hK4 ?_
  refine Cd.seq fun K10 hK10 => ?_
  refine Cd.seq fun K11 hK11 => ?_
  refine Cd.plain [(0, false)] rfl rfl ?_
  have hd : data.length ≤ 300 := by omega
  have hxl : xh.length ≤ 20 := by omega
  have hn1 : 1 ≤ n := by omega
  have hn2 : n ≤ 50 := by omega
  refine Jp.y 7 rfl (want_all rfl) rfl rfl Kp.true (Y.assign rfl rfl) ?_
  refine Jp.done hK11 ?_
  refine Cd.block ?_
  refine Cd.loopK (G := Nat) (fun k => k ≤ xh.length ∧ ∀ j x, j < k → xh[j]? = some x → 0 ≤ x ∧ x ≤ 4096) (fun k => xh.length - k) (fun _ => _) (fun k => [(7, .int .i64 (k : Int))]) [(0, _), (1, _), (2, _)] (fun _ => []) [] 0 ⟨Nat.zero_le _, by simp⟩ rfl ⟨rfl, trivial⟩ ⟨rfl, rfl, rfl, trivial⟩ trivial trivial (fun g KLa hok hLa => ?_)
  obtain ⟨ok1, ok2⟩ := hok
  refine Cd.seq fun K12 hK12 => ?_
  refine Cd.seq fun K13 hK13 => ?_
  refine Cd.plain [(0, false), (1, false), (2, false), (3, false)] rfl rfl ?_
  refine Jp.y 32 rfl (want_all rfl) rfl rfl Kp.true (Y.move rfl rfl) ?_
  refine Jp.y 33 rfl (want_all rfl) rfl rfl Kp.true (Y.move rfl rfl) ?_
  refine Jp.y 34 rfl (want_all rfl) rfl rfl Kp.true (Y.lenslice rfl Try.underlying22 rfl) ?_
  refine Jp.y 35 rfl (want_all rfl) rfl rfl Kp.true (Y.lss rfl rfl rfl) ?_
  refine Jp.done hK13 ?_
  refine Cd.cond rfl (fun h1 => ?_) (fun h1 => ?_)
  · simp only [decide_eq_true_eq] at h1
    have hk : g < xh.length := by omega
    obtain ⟨al, rfl⟩ := hrl.some (show 0 < xh.length * 1 by omega)
    have hcl := hrl.cell (j := g) (v := .int .i64 xh[g]) (by simp [intsV, hk])
    refine Cd.skip hK12 ?_
    refine Cd.seq fun K14 hK14 => ?_
    refine Cd.block ?_
    refine Cd.seq fun K15 hK15 => ?_
    refine Cd.plain [(0, false), (1, false), (2, false), (3, false), (4, false), (5, false), (6, false), (7, false), (8, false), (9, false), (10, false), (11, false)] rfl rfl ?_
    refine Jp.y 38 rfl (want_all rfl) rfl rfl Kp.true (Y.move rfl rfl) ?_
    refine Jp.y 39 rfl (want_all rfl) rfl rfl Kp.true (Y.move rfl rfl) ?_
    refine Jp.y 40 rfl (want_all rfl) rfl rfl Kp.true (Y.indexAddr (q := g) rfl rfl rfl Try.underlying22 Try.sizeOf3 (by omega) (by omega) (by omega)) ?_
    refine Jp.y 41 rfl (want_all rfl) rfl rfl Kp.true (Y.loadR rfl Try.isAgg3 rfl hcl) ?_
    refine Jp.y 42 rfl (want_all rfl) rfl rfl Kp.true (Y.lss rfl rfl rfl) ?_
    refine Jp.y 43 rfl (want_all rfl) rfl rfl Kp.true (Y.move rfl rfl) ?_
    refine Jp.split 43 rfl (fun g43 => ?_) (fun g43 => ?_)
    · skip
      refine Jp.skip 44 rfl (want_as rfl rfl rfl rfl) rfl rfl Kp.true ?_
      refine Jp.skip 45 rfl (want_as rfl rfl rfl rfl) rfl rfl Kp.true ?_
      refine Jp.skip 46 rfl (want_as rfl rfl rfl rfl) rfl rfl Kp.true ?_
      refine Jp.skip 47 rfl (want_as rfl rfl rfl rfl) rfl rfl Kp.true ?_
      refine Jp.skip 48 rfl (want_as rfl rfl rfl rfl) rfl rfl Kp.true ?_
      refine Jp.y 49 rfl (want_all rfl) rfl rfl Kp.true (Y.pickT rfl rfl rfl) ?_
      refine Jp.done hK15 ?_
      refine Cd.condT rfl ?_
      refine Cd.seq fun K16 hK16 => ?_
      refine Cd.plain [(0, false)] rfl rfl ?_
      refine Jp.y 6 rfl (want_all rfl) rfl rfl Kp.true (Y.assign rfl rfl) ?_
      refine Jp.done hK16 ?_
      refine Cd.ret [] rfl (res1 rfl rfl) trivial ⟨rfl, rfl⟩
    try simp only [decide_eq_false_iff_not, decide_eq_true_eq, Int.not_lt, Int.not_le, Bool.not_eq_false, Bool.not_eq_true, Bool.not_true, Bool.not_false, Bool.not_eq_true', Bool.not_eq_false', beq_eq_false_iff_ne, ne_eq, beq_iff_eq, bne_iff_ne, bne_eq_false_iff_eq, Classical.not_not] at g43
    refine Jp.y 44 rfl (want_as rfl rfl rfl rfl) rfl rfl Kp.true (Y.move rfl rfl) ?_
    refine Jp.y 45 rfl (want_as rfl rfl rfl rfl) rfl rfl Kp.true (Y.move rfl rfl) ?_
    refine Jp.y 46 rfl (want_as rfl rfl rfl rfl) rfl rfl Kp.true (Y.indexAddr (q := g) rfl rfl rfl Try.underlying22 Try.sizeOf3 (by omega) (by omega) (by omega)) ?_
    refine Jp.y 47 rfl (want_as rfl rfl rfl rfl) rfl rfl Kp.true (Y.loadR rfl Try.isAgg3 rfl hcl) ?_
    refine Jp.y 48 rfl (want_as rfl rfl rfl rfl) rfl rfl Kp.true (Y.gtr rfl rfl rfl) ?_
    refine Jp.y 49 rfl (want_all rfl) rfl rfl Kp.true (Y.pickF rfl rfl rfl) ?_
    refine Jp.done hK15 ?_
    refine Cd.cond rfl (fun g49 => ?_) (fun g49 => ?_)
    · skip
      refine Cd.seq fun K17 hK17 => ?_
      refine Cd.plain [(0, false)] rfl rfl ?_
      refine Jp.y 6 rfl (want_all rfl) rfl rfl Kp.true (Y.assign rfl rfl) ?_
      refine Jp.done hK17 ?_
      refine Cd.ret [] rfl (res1 rfl rfl) trivial ⟨rfl, rfl⟩
    try simp only [decide_eq_false_iff_not, decide_eq_true_eq, Int.not_lt, Int.not_le, Bool.not_eq_false, Bool.not_eq_true, Bool.not_true, Bool.not_false, Bool.not_eq_true', Bool.not_eq_false', beq_eq_false_iff_ne, ne_eq, beq_iff_eq, bne_iff_ne, bne_eq_false_iff_eq, Classical.not_not] at g49
    refine Cd.over rfl hK14 ?_
    refine Cd.plain [(0, false), (1, false), (2, false)] rfl rfl ?_
    refine Jp.y 36 rfl (want_all rfl) rfl rfl Kp.true (Y.move rfl rfl) ?_
    refine Jp.y 37 rfl (want_all rfl) rfl rfl Kp.true (Y.add_ rfl rfl rfl (wrap_i64 (by omega) (by omega))) ?_
    refine Jp.y 7 rfl (want_all rfl) rfl rfl Kp.true (Y.assign rfl rfl) ?_
    refine Jp.again hLa (g + 1) ⟨by omega, fun j y hj hy => ?_⟩ (by omega) rfl ⟨rfl, rfl, rfl, rfl, trivial⟩ trivial
    by_cases hjg : j < g
    · exact ok2 j y hjg hy
    · have : j = g := by omega
      subst this
      rw [List.getElem?_eq_getElem hk] at hy
      injection hy with hy
      subst hy
      omega
  · simp only [decide_eq_false_iff_not] at h1
    have hsh : ∀ x ∈ xh, 0 ≤ x ∧ x ≤ 4096 := fun x hx => by
      obtain ⟨j, hj⟩ := List.mem_iff_getElem?.1 hx
      have := (List.getElem?_eq_some_iff.1 hj).1
      exact ok2 j x (by omega) hj
    refine Cd.exit rfl hK10 ?_
    refine Cd.seq fun K18 hK18 => ?_
    refine Cd.plain [(0, false), (1, false), (2, false), (3, false), (4, false), (5, false), (6, false)] rfl rfl ?_
    refine Jp.y 50 rfl (want_all rfl) rfl rfl Kp.true (Y.move rfl rfl) ?_
    refine Jp.y 51 rfl (want_all rfl) rfl rfl Kp.true (Y.move rfl rfl) ?_
    refine Jp.y 52 rfl (want_all rfl) rfl rfl Kp.true (Y.struct [(0, _), (1, _)] [_, _] rfl rfl places63 Try.zeroValue63 rfl) ?_
    refine Jp.lit 53 10 [(0, _)] [_, _] rfl (want_all rfl) rfl rfl rfl rfl Try.underlying33 Try.sizeOf63 Try.zeroValue63 rfl rfl rfl rfl rfl fun b10 => ⟨Kp.true, ?_⟩
    refine Jp.freeze (i := 10) rfl (OwnS.up _ _ _ _ _ _) fun ρ2 l2 q2 => ?_
    have hrs := RdB.up _ _ _ l2 hrs
    have hrl := RdI.up _ _ _ _ l2 hrl
    refine Jp.y 54 rfl (want_all rfl) rfl rfl Kp.true (Y.struct [(2, _), (5, _)] [_, _, _, _, _, _] rfl rfl places35 Try.zeroValue35 rfl) ?_
    refine Jp.call [] [0, 1, 2, 3] (new_files (FeedG.ofFile ⟨Ah, ch, xh⟩ b10 ⟨#[102]⟩ ⟨As, cs, data⟩)) 55 rfl (want_all rfl) rfl rfl (Runs.fn rfl Try.call30 rfl) (by decide) (by decide) rfl (RdFeed.ofFile hrl q2.rd hrs) ?_
    rintro v2 ρ2 L2 ⟨b, ⟨all, bu, use, bo, op, bw, out⟩, rfl, rfl, hg, hp⟩
    refine ⟨rfl, fun hle2 => ⟨Kp.true, ?_⟩⟩
    dsimp only
    have hrs := RdB.up _ _ _ hle2 hrs
    have hp : FilesG.p ⟨all, bu, use, bo, op, bw, out⟩ = oneP xh [102] data := by
      rw [hp, ← newP_one (sh := xh) (name := [102]) (data := data) hsh (by omega) (by simp) (by simp) (by decide) (by omega)]; rfl
    refine Jp.y 8 rfl (want_all rfl) rfl rfl Kp.true (Y.assign rfl rfl) ?_
    refine Jp.done hK18 ?_
    refine Cd.seq fun K19 hK19 => ?_
    refine Cd.plain [(0, false), (1, false), (2, false)] rfl rfl ?_
    refine Jp.y 56 rfl (want_all rfl) rfl rfl Kp.true (Y.move rfl rfl) ?_
    refine Jp.call [0, 2] [0, 2] (open_spec b ⟨all, bu, use, bo, op, bw, out⟩ ⟨#[102]⟩) 57 rfl (want_all rfl) rfl rfl (Runs.fn rfl Try.call35 rfl) (by decide) (by decide) rfl hg ?_
    rintro v3 ρ3 L3 ⟨rfl, rfl, op3, hp3, hg3, rfl⟩
    refine ⟨rfl, fun hle3 => ⟨Kp.true, ?_⟩⟩
    dsimp only at hp3 hg3 ⊢
    rw [show openFP (FilesG.p ⟨all, bu, use, bo, op, bw, out⟩) (str ⟨#[102]⟩) = (3, withP xh [102] data 0 0) by rw [hp]; exact open_one xh [102] data] at hp3 ⊢
    dsimp only at hp3 ⊢
    refine Jp.y 9 rfl (want_all rfl) rfl rfl Kp.true (Y.assign rfl rfl) ?_
    refine Jp.done hK19 ?_
    refine Cd.seq fun K20 hK20 => ?_
    refine Cd.plain [(0, false)] rfl rfl ?_
    refine Jp.y 10 rfl (want_all rfl) rfl rfl Kp.true (Y.assign rfl rfl) ?_
    refine Jp.done hK20 ?_
    refine Cd.seq fun K21 hK21 => ?_
    refine Cd.seq fun K22 hK22 => ?_
    refine Cd.plain [(0, false)] rfl rfl ?_
    rw [show (⟨#[]⟩ : ByteArray) = mkS (data.take 0) from rfl]
    refine Jp.y 11 rfl (want_all rfl) rfl rfl Kp.true (Y.assign rfl rfl) ?_
    refine Jp.done hK22 ?_
    refine Cd.block ?_
    refine Cd.loopK (G := Nat × Nat × Nat × UseG × List (Int × FilG)) (fun g => g.1 ≤ 400 ∧ g.2.1 ≤ xh.length ∧ g.2.2.1 ≤ data.length ∧ (g.2.2.1 = data.length ∨ g.1 ≤ g.2.1 + g.2.2.1) ∧ FilesG.p ⟨all, bu, g.2.2.2.1, bo, g.2.2.2.2, bw, out⟩ = withP xh [102] data g.2.1 g.2.2.1 ∧ RdFs ⟨all, bu, g.2.2.2.1, bo, g.2.2.2.2, bw, out⟩ ρ3) (fun g => 400 - g.1) (fun _ => _) (fun g => [(10, .string (mkS (data.take g.2.2.1))), (11, .int .i64 (g.1 : Int))]) [(0, _), (2, _), (8, _), (9, _)] (fun g => [(1, UsePt bu g.2.2.2.1), (2, MapO .i64 bo (gmap FilG.v g.2.2.2.2))]) [(0, _)] ⟨0, 0, 0, use, op3⟩ ⟨by simp, by simp, by simp, by simp, hp3, hg3⟩ rfl ⟨rfl, rfl, trivial⟩ ⟨rfl, rfl, rfl, rfl, trivial⟩ ⟨rfl, rfl, trivial⟩ ⟨rfl, trivial⟩ (fun g KLb hok hLb => ?_)
    obtain ⟨i, k, a, use4, op4⟩ := g
    obtain ⟨ok1, ok2, ok3, ok4, ok5, ok6⟩ := hok
    dsimp only at ok1 ok2 ok3 ok4 ok5 ok6 ⊢
    refine Cd.seq fun K23 hK23 => ?_
    refine Cd.seq fun K24 hK24 => ?_
    refine Cd.plain [(0, false), (1, false)] rfl rfl ?_
    refine Jp.y 58 rfl (want_all rfl) rfl rfl Kp.true (Y.move rfl rfl) ?_
    refine Jp.y 59 rfl (want_all rfl) rfl rfl Kp.true (Y.lss rfl rfl rfl) ?_
    refine Jp.done hK24 ?_
    refine Cd.cond rfl (fun h2 => ?_) (fun h2 => ?_)
    · simp only [decide_eq_true_eq] at h2
      obtain ⟨k', bs, e1, e2, e3, e4, e5, e6⟩ := step_whole (name := [102]) hn1 hn2 ok3 ok2 hsh
      have e7 := e6 i ok4
      refine Cd.skip hK23 ?_
      refine Cd.seq fun K25 hK25 => ?_
      refine Cd.block ?_
      refine Cd.seq fun K26 hK26 => ?_
      refine Cd.plain [(0, false), (1, false), (2, false), (3, false), (4, false), (5, false), (6, false), (7, false), (8, false)] rfl rfl ?_
      refine Jp.y 63 rfl (want_all rfl) rfl rfl Kp.true (Y.move rfl rfl) ?_
      refine Jp.y 64 rfl (want_all rfl) rfl rfl Kp.true (Y.move rfl rfl) ?_
      refine Jp.y 65 rfl (want_all rfl) rfl rfl Kp.true (Y.move rfl rfl) ?_
      refine Jp.call [0, 1, 2] [0, 1, 2, 5] (read_spec b ⟨all, bu, use4, bo, op4, bw, out⟩ 3 n (by rw [ok5]; exact atOk_with (by omega))) 66 rfl (want_all rfl) rfl rfl (Runs.fn rfl Try.call33 rfl) (by decide) (by decide) rfl ok6 ?_
      rintro v5 ρ5 L5 ⟨rfl, use5, op5, A5, c5, hp5, hg5, rfl, rfl⟩
      refine ⟨rfl, fun hle5 => ⟨Kp.true, ?_⟩⟩
      dsimp only at hp5 hg5 ⊢
      rw [ok5, e1] at hp5
      rw [show readFP (FilesG.p ⟨all, bu, use4, bo, op4, bw, out⟩) 3 n = (some bs, withP xh [102] data k' (a + bs.length)) by rw [ok5, e1]]
      dsimp only [Option.getD_some, readV] at hp5 ⊢
      refine Jp.y 62 rfl (want_all rfl) rfl rfl Kp.true (Y.move rfl rfl) ?_
      refine Jp.y 67 rfl (want_all rfl) rfl rfl Kp.true (Y.extract rfl rfl rfl) ?_
      refine Jp.y 68 rfl (want_all rfl) rfl rfl Kp.true (Y.extract rfl rfl rfl) ?_
      refine Jp.y 12 rfl (want_all rfl) rfl rfl Kp.true (Y.assign rfl rfl) ?_
      refine Jp.y 13 rfl (want_all rfl) rfl rfl Kp.true (Y.assign rfl rfl) ?_
      refine Jp.done hK26 ?_
      refine Cd.seq fun K27 hK27 => ?_
      refine Cd.seq fun K28 hK28 => ?_
      refine Cd.plain [(0, false), (1, false), (2, false), (3, false), (4, false), (5, false), (6, false), (7, false), (8, false), (9, false), (10, false), (11, false), (12, false)] rfl rfl ?_
      refine Jp.y 69 rfl (want_all rfl) rfl rfl Kp.true (Y.move rfl rfl) ?_
      refine Jp.y 70 rfl (want_all rfl) rfl rfl Kp.true (Y.move rfl rfl) ?_
      refine Jp.y 71 rfl (want_all rfl) rfl rfl Kp.true (Y.lenslice rfl Try.underlying26 rfl) ?_
      refine Jp.y 72 rfl (want_all rfl) rfl rfl Kp.true (Y.neq rfl rfl rfl) ?_
      refine Jp.y 73 rfl (want_all rfl) rfl rfl Kp.true (Y.move rfl rfl) ?_
      refine Jp.split 73 rfl (fun g73 => ?_) (fun g73 => ?_)
      · skip
        first | (exfalso; simp only [decide_eq_true_eq] at g73; omega) | (exfalso; simp at g73; done) | (exfalso; simp at g73; omega)
      try simp only [decide_eq_false_iff_not, decide_eq_true_eq, Int.not_lt, Int.not_le, Bool.not_eq_false, Bool.not_eq_true, Bool.not_true, Bool.not_false, Bool.not_eq_true', Bool.not_eq_false', beq_eq_false_iff_ne, ne_eq, beq_iff_eq, bne_iff_ne, bne_eq_false_iff_eq, Classical.not_not] at g73
      refine Jp.y 74 rfl (want_as rfl rfl rfl rfl) rfl rfl Kp.true (Y.move rfl rfl) ?_
      refine Jp.y 75 rfl (want_as rfl rfl rfl rfl) rfl rfl Kp.true (Y.move rfl rfl) ?_
      refine Jp.y 76 rfl (want_as rfl rfl rfl rfl) rfl rfl Kp.true (Y.gtr rfl rfl rfl) ?_
      refine Jp.y 77 rfl (want_all rfl) rfl rfl Kp.true (Y.pickF rfl rfl rfl) ?_
      refine Jp.y 78 rfl (want_all rfl) rfl rfl Kp.true (Y.move rfl rfl) ?_
      refine Jp.split 78 rfl (fun g78 => ?_) (fun g78 => ?_)
      · skip
        first | (exfalso; simp only [decide_eq_true_eq] at g78; omega) | (exfalso; simp at g78; done) | (exfalso; simp at g78; omega)
      try simp only [decide_eq_false_iff_not, decide_eq_true_eq, Int.not_lt, Int.not_le, Bool.not_eq_false, Bool.not_eq_true, Bool.not_true, Bool.not_false, Bool.not_eq_true', Bool.not_eq_false', beq_eq_false_iff_ne, ne_eq, beq_iff_eq, bne_iff_ne, bne_eq_false_iff_eq, Classical.not_not] at g78
      refine Jp.y 79 rfl (want_as rfl rfl rfl rfl) rfl rfl Kp.true (Y.move rfl rfl) ?_
      refine Jp.y 80 rfl (want_as rfl rfl rfl rfl) rfl rfl Kp.true (Y.lss rfl rfl rfl) ?_
      refine Jp.y 81 rfl (want_all rfl) rfl rfl Kp.true (Y.pickF rfl rfl rfl) ?_
      refine Jp.done hK28 ?_
      refine Cd.cond rfl (fun g81 => ?_) (fun g81 => ?_)
      · skip
        first | (exfalso; simp only [decide_eq_true_eq] at g81; omega) | (exfalso; simp at g81; done) | (exfalso; simp at g81; omega)
      try simp only [decide_eq_false_iff_not, decide_eq_true_eq, Int.not_lt, Int.not_le, Bool.not_eq_false, Bool.not_eq_true, Bool.not_true, Bool.not_false, Bool.not_eq_true', Bool.not_eq_false', beq_eq_false_iff_ne, ne_eq, beq_iff_eq, bne_iff_ne, bne_eq_false_iff_eq, Classical.not_not] at g81
      refine Cd.skip hK27 ?_
      refine Cd.plain [(0, false), (1, false), (2, false), (3, false), (4, false)] rfl rfl ?_
      have hbt : (data.take a).length = a := by rw [List.length_take]; omega
      have hbl : bs.length ≤ 50 := by omega
      refine Jp.y 82 rfl (want_all rfl) rfl rfl Kp.true (Y.move rfl rfl) ?_
      refine Jp.y 83 rfl (want_all rfl) rfl rfl Kp.true (Y.move rfl rfl) ?_
      refine Jp.y 84 rfl (want_all rfl) rfl rfl Kp.true (Y.toStr _ rfl rfl Try.underlying26 Try.underlying9 Try.underlying5 ⟨_, _, rfl⟩ (Src.own 5 rfl)) ?_
      refine Jp.y 85 rfl (want_all rfl) rfl rfl Kp.true (Y.stradd' rfl rfl rfl (by simp only [str_mkS, List.length_append, List.length_nil, List.length_cons]; omega)) ?_
      refine Jp.y 10 rfl (want_all rfl) rfl rfl Kp.true (Y.assign rfl rfl) ?_
      refine Jp.over rfl hK25 ?_
      refine Cd.plain [(0, false), (1, false), (2, false)] rfl rfl ?_
      refine Jp.y 60 rfl (want_all rfl) rfl rfl Kp.true (Y.move rfl rfl) ?_
      refine Jp.y 61 rfl (want_all rfl) rfl rfl Kp.true (Y.add_ rfl rfl rfl (wrap_i64 (by omega) (by omega))) ?_
      refine Jp.y 11 rfl (want_all rfl) rfl rfl Kp.true (Y.assign rfl rfl) ?_
      rw [str_mkS, str_mkS, e2]
      refine Jp.again hLb ⟨i + 1, k', a + bs.length, use5, op5⟩ ⟨by show i + 1 ≤ 400; omega, e3, e5, e7, hp5, hg5⟩ (by show 400 - (i + 1) < 400 - i; omega) rfl ⟨rfl, rfl, rfl, rfl, rfl, rfl, trivial⟩ ⟨rfl, rfl, rfl, trivial⟩
    · simp only [decide_eq_false_iff_not] at h2
      have ha : a = data.length := by omega
      subst ha
      rw [List.take_length]
      refine Cd.exit rfl hK21 ?_
      refine Cd.seq fun K29 hK29 => ?_
      refine Cd.plain [(0, false), (1, false), (2, false), (3, false), (4, false), (5, false), (6, false), (7, false), (8, false)] rfl rfl ?_
      refine Jp.y 86 rfl (want_all rfl) rfl rfl Kp.true (Y.move rfl rfl) ?_
      refine Jp.y 87 rfl (want_all rfl) rfl rfl Kp.true (Y.move rfl rfl) ?_
      refine Jp.y 88 rfl (want_all rfl) rfl rfl Kp.true (Y.toStr _ rfl rfl Try.underlying26 Try.underlying9 Try.underlying5 ⟨_, _, rfl⟩ (Src.rd hrs)) ?_
      refine Jp.y 89 rfl (want_all rfl) rfl rfl Kp.true (Y.streql rfl rfl rfl) ?_
      refine Jp.y 90 rfl (want_all rfl) rfl rfl Kp.true (Y.move rfl rfl) ?_
      refine Jp.splitF 90 rfl (fun g90 => ?_) (fun g90 => ?_)
      · skip
        exfalso; simp [str_mkS] at g90
      try simp only [decide_eq_false_iff_not, decide_eq_true_eq, Int.not_lt, Int.not_le, Bool.not_eq_false, Bool.not_eq_true, Bool.not_true, Bool.not_false, Bool.not_eq_true', Bool.not_eq_false', beq_eq_false_iff_ne, ne_eq, beq_iff_eq, bne_iff_ne, bne_eq_false_iff_eq, Classical.not_not] at g90
      refine Jp.y 91 rfl (want_as rfl rfl rfl rfl) rfl rfl Kp.true (Y.move rfl rfl) ?_
      refine Jp.y 92 rfl (want_as rfl rfl rfl rfl) rfl rfl Kp.true (Y.eql rfl rfl rfl) ?_
      refine Jp.y 93 rfl (want_all rfl) rfl rfl Kp.true (Y.pickT rfl rfl rfl) ?_
      refine Jp.y 6 rfl (want_all rfl) rfl rfl Kp.true (Y.assign rfl rfl) ?_
      refine Jp.done hK29 ?_
      refine Cd.ret [] rfl (res1 rfl rfl) trivial ⟨by simp, rfl⟩
end Go.Proofs.Ytjjhihlmoecmlaa
