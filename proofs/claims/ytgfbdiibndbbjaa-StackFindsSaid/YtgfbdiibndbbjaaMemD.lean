/- Contracts: New, Perm, Gen, Load, Store. -/
import Derived.Test.YtgfbdiibndbbjaaMemC
set_option linter.unusedVariables false
set_option linter.unusedSimpArgs false
set_option maxRecDepth 100000
namespace Go.Proofs.Ytgfbdiibndbbjaa
open Go
theorem wrap_u32m (n : Nat) : IntKind.u32.wrap (n : Int) = ((n % 4294967296 : Nat) : Int) := by
  simp only [IntKind.wrap, IntKind.bits, IntKind.signed]
  simp
theorem nodup_map_inj {α β : Type} {f : α → β} : ∀ {l : List α}, (l.map f).Nodup → ∀ {x y : α}, x ∈ l → y ∈ l → f x = f y → x = y := by
  intro l
  induction l with
  | nil => intro _ x y h; cases h
  | cons z l ih =>
    intro hn x y hx hy e
    rw [List.map_cons, List.nodup_cons] at hn
    rcases List.mem_cons.1 hx with h1 | h1 <;> rcases List.mem_cons.1 hy with h2 | h2
    · rw [h1, h2]
    · subst h1; exact absurd (e ▸ List.mem_map.2 ⟨y, h2, rfl⟩) hn.1
    · subst h2; exact absurd (e ▸ List.mem_map.2 ⟨x, h1, rfl⟩) hn.1
    · exact ih hn.2 h1 h2 e
theorem MemF.set {M : MemG} {x : MemX} (f : MemF M x) {k : Nat} {p p' : Pg} (hg : getPg M.pages k = some p) (h1 : p'.b.length = 256) (h2 : p'.perm ≤ 7) : MemF { M with pages := setPg M.pages k p' } x :=
  ⟨f.ok.set hg h1 h2, by
    show x.pm.Perm ((setPg M.pages k p').map fun p => ((p.1 : Int), pgPtr x p.1))
    rw [setPg_map _ _ _ fun k => ((k : Int), pgPtr x k)]
    exact f.pages, f.gens⟩
theorem MemF.bump {M : MemG} {x : MemX} (f : MemF M x) (k : Nat) : MemF { M with gens := Ytgfbdiibndbbjaa.bump M.gens k } { x with gm := mset x.gm k (.int .u32 (((M.gens k + 1) % 4294967296 : Nat) : Int)) } :=
  ⟨f.ok.bump k, f.pages, fun k' => by
    show (mget (mset x.gm k _) k').getD _ = .int .u32 ((Ytgfbdiibndbbjaa.bump M.gens k k' : Nat) : Int)
    rw [mget_mset, Ytgfbdiibndbbjaa.bump]
    by_cases h : k' = k
    · subst h; simp
    · rw [if_neg h, if_neg (by omega)]; exact f.gens k'⟩
theorem updB_blks {M : MemG} {x : MemX} (hn : ((blksOf M x).map (·.1)).Nodup) {k : Nat} {p p' : Pg} (hg : getPg M.pages k = some p) : updB (blksOf M x) (x.blk k) (pageO p') = blksOf { M with pages := setPg M.pages k p' } x := by
  rw [updB, blksOf, blksOf, setPg, List.map_map, List.map_map]
  apply List.map_congr_left
  intro y hy
  simp only [Function.comp]
  by_cases h : y.1 = k
  · simp [h]
  · rw [if_neg h, if_neg]
    intro e
    rw [blksOf, List.map_map] at hn
    exact h (congrArg (·.1) (nodup_map_inj (f := fun p : Nat × Pg => x.blk p.1) hn hy (getPg_mem hg) e))
theorem new_spec (budget : Int) : Spec Try.prog 19 #[.int .i64 budget] (fun _ => True) []
    (fun ρ ρ' v L => ρ' = ρ ∧ if 1 ≤ budget ∧ budget ≤ 4096 then ∃ b, v = .tuple #[.pointer (some ⟨b, 0, none⟩), .int .i64 0] ∧ L = [(0, MemO b (newM budget.toNat))] else v = .tuple #[.pointer none, .int .i64 1] ∧ L = []) := by
  refine Spec.of 15 Try.func19 rfl Try.ntmps19 [(0, _)] rfl rfl ?_
  intro cx ρ hr h0
  refine Cd.seq fun K1 hK1 => ?_
  refine Cd.plain [(0, false), (1, false)] rfl rfl ?_
  refine Jp.y 2 rfl (want_all rfl) rfl rfl Kp.true (Y.assign rfl rfl) ?_
  refine Jp.y 3 rfl (want_all rfl) rfl rfl Kp.true (Y.assign rfl rfl) ?_
  refine Jp.done hK1 ?_
  refine Cd.seq fun K2 hK2 => ?_
  refine Cd.seq fun K3 hK3 => ?_
  refine Cd.plain [(0, false), (1, false), (2, false), (3, false), (4, false), (5, false)] rfl rfl ?_
  refine Jp.y 4 rfl (want_all rfl) rfl rfl Kp.true (Y.move rfl rfl) ?_
  refine Jp.y 5 rfl (want_all rfl) rfl rfl Kp.true (Y.lss rfl rfl rfl) ?_
  refine Jp.y 6 rfl (want_all rfl) rfl rfl Kp.true (Y.move rfl rfl) ?_
  refine Jp.split 6 rfl (fun g6 => ?_) (fun g6 => ?_)
  · skip
    try simp only [decide_eq_false_iff_not, decide_eq_true_eq, Int.not_lt, Int.not_le, Bool.not_eq_false, Bool.not_eq_true, Bool.not_true, Bool.not_false, Bool.not_eq_true', Bool.not_eq_false', beq_eq_false_iff_ne, ne_eq, beq_iff_eq, bne_iff_ne, bne_eq_false_iff_eq, Classical.not_not] at g6
    refine Jp.skip 7 rfl (want_as rfl rfl rfl rfl) rfl rfl Kp.true ?_
    refine Jp.skip 8 rfl (want_as rfl rfl rfl rfl) rfl rfl Kp.true ?_
    refine Jp.y 9 rfl (want_all rfl) rfl rfl Kp.true (Y.pickT rfl rfl rfl) ?_
    refine Jp.done hK3 ?_
    refine Cd.condT rfl ?_
    refine Cd.seq fun K4 hK4 => ?_
    refine Cd.plain [(0, false), (1, false)] rfl rfl ?_
    refine Jp.y 2 rfl (want_all rfl) rfl rfl Kp.true (Y.assign rfl rfl) ?_
    refine Jp.y 3 rfl (want_all rfl) rfl rfl Kp.true (Y.assign rfl rfl) ?_
    refine Jp.done hK4 ?_
    refine Cd.ret [] rfl (res2 rfl rfl rfl) trivial ⟨rfl, ?_⟩
    rw [if_neg (by omega)]
    exact ⟨rfl, rfl⟩
  try simp only [decide_eq_false_iff_not, decide_eq_true_eq, Int.not_lt, Int.not_le, Bool.not_eq_false, Bool.not_eq_true, Bool.not_true, Bool.not_false, Bool.not_eq_true', Bool.not_eq_false', beq_eq_false_iff_ne, ne_eq, beq_iff_eq, bne_iff_ne, bne_eq_false_iff_eq, Classical.not_not] at g6
  refine Jp.y 7 rfl (want_as rfl rfl rfl rfl) rfl rfl Kp.true (Y.move rfl rfl) ?_
  refine Jp.y 8 rfl (want_as rfl rfl rfl rfl) rfl rfl Kp.true (Y.gtr rfl rfl rfl) ?_
  refine Jp.y 9 rfl (want_all rfl) rfl rfl Kp.true (Y.pickF rfl rfl rfl) ?_
  refine Jp.done hK3 ?_
  refine Cd.cond rfl (fun g9 => ?_) (fun g9 => ?_)
  · skip
    try simp only [decide_eq_false_iff_not, decide_eq_true_eq, Int.not_lt, Int.not_le, Bool.not_eq_false, Bool.not_eq_true, Bool.not_true, Bool.not_false, Bool.not_eq_true', Bool.not_eq_false', beq_eq_false_iff_ne, ne_eq, beq_iff_eq, bne_iff_ne, bne_eq_false_iff_eq, Classical.not_not] at g9
    refine Cd.seq fun K5 hK5 => ?_
    refine Cd.plain [(0, false), (1, false)] rfl rfl ?_
    refine Jp.y 2 rfl (want_all rfl) rfl rfl Kp.true (Y.assign rfl rfl) ?_
    refine Jp.y 3 rfl (want_all rfl) rfl rfl Kp.true (Y.assign rfl rfl) ?_
    refine Jp.done hK5 ?_
    refine Cd.ret [] rfl (res2 rfl rfl rfl) trivial ⟨rfl, ?_⟩
    rw [if_neg (by omega)]
    exact ⟨rfl, rfl⟩
  try simp only [decide_eq_false_iff_not, decide_eq_true_eq, Int.not_lt, Int.not_le, Bool.not_eq_false, Bool.not_eq_true, Bool.not_true, Bool.not_false, Bool.not_eq_true', Bool.not_eq_false', beq_eq_false_iff_ne, ne_eq, beq_iff_eq, bne_iff_ne, bne_eq_false_iff_eq, Classical.not_not] at g9
  refine Cd.skip hK2 ?_
  refine Cd.seq fun K6 hK6 => ?_
  refine Cd.plain [(0, false), (1, false), (2, false), (3, false), (4, false), (5, false), (6, false)] rfl rfl ?_
  refine Jp.y 10 rfl (want_all rfl) rfl rfl Kp.true (Y.move rfl rfl) ?_
  refine Jp.makeMap 11 1 .u32 rfl (want_all rfl) rfl rfl rfl fun b1 => ⟨Kp.true, ?_⟩
  refine Jp.makeMap 12 2 .u32 rfl (want_all rfl) rfl rfl rfl fun b2 => ⟨Kp.true, ?_⟩
  refine Jp.y 13 rfl (want_all rfl) rfl rfl Kp.true (Y.struct [(0, _), (1, _), (2, _)] [_, _, _] rfl rfl places79 Try.zeroValue79 rfl) ?_
  refine Jp.box 0 14 rfl (want_all rfl) rfl rfl rfl rfl fun b0 => ⟨Kp.true, ?_⟩
  refine Jp.y 2 rfl (want_all rfl) rfl rfl Kp.true (Y.assign rfl rfl) ?_
  refine Jp.y 3 rfl (want_all rfl) rfl rfl Kp.true (Y.assign rfl rfl) ?_
  refine Jp.done hK6 ?_
  obtain ⟨m, rfl⟩ := Int.eq_ofNat_of_zero_le (show 0 ≤ budget by omega)
  refine Cd.make 53 Blks.nil ?_
  have hok : MemOk (newM m) := ⟨List.Pairwise.nil, fun x h => (List.not_mem_nil h).elim, fun k => (by show 0 < 4294967296; omega), Nat.zero_le _, (by show 1 ≤ m ∧ m ≤ 4096; omega)⟩
  refine Cd.memClose (M := newM m) (x := ⟨b1, b2, [], [], fun _ => 0⟩) 0 1 2 53 (by decide) ⟨hok, List.Perm.refl _, fun k => rfl⟩ rfl rfl rfl rfl ?_
  refine Cd.ret [(0, _)] rfl (res2 rfl rfl rfl) ⟨rfl, trivial⟩ ⟨rfl, ?_⟩
  rw [if_pos (by omega)]
  exact ⟨b0, rfl, rfl⟩
theorem perm_spec (b : Nat) (M : MemG) (a : Nat) (ha : a < 4294967296) : Spec Try.prog 31 #[.pointer (some ⟨b, 0, none⟩), .int .u32 a] (fun _ => True) [(0, MemO b M)]
    (fun ρ ρ' v L => ρ' = ρ ∧ v = .tuple #[.int .i64 (permM M a).1, .bool (permM M a).2] ∧ L = [(0, MemO b M)]) := by
  refine Spec.of 20 Try.func31 rfl Try.ntmps31 [(0, _), (1, _)] rfl rfl ?_
  intro cx ρ hr h0
  refine Cd.memOpen 0 1 2 3 (by decide) rfl fun x hf => ?_
  refine Cd.seq fun K7 hK7 => ?_
  refine Cd.plain [(0, false), (1, false)] rfl rfl ?_
  refine Jp.y 4 rfl (want_all rfl) rfl rfl Kp.true (Y.assign rfl rfl) ?_
  refine Jp.y 5 rfl (want_all rfl) rfl rfl Kp.true (Y.assign rfl rfl) ?_
  refine Jp.done hK7 ?_
  refine Cd.seq fun K8 hK8 => ?_
  refine Cd.drawn [(0, _), (1, _)] ⟨rfl, rfl, trivial⟩ [(0, true), (1, true), (2, true), (3, true), (4, true), (5, false), (6, true), (7, true)] follows (by kernel_rfl) (fun hrl => ?_)
  refine Jp.q 7 rfl (want_all rfl) rfl rfl (Y.move rfl rfl) ?_
  refine Jp.q 8 rfl (want_all rfl) rfl rfl (Y.nilCheck rfl rfl) ?_
  refine Jp.q 9 rfl (want_all rfl) rfl rfl (by first | exact Y.fieldAddrP rfl rfl Try.underlying79 rfl Try.sizeOf76 (by decide) (show _ + 1 = _ from rfl) | exact Y.fieldAddr rfl rfl Try.underlying79 rfl Try.sizeOf76 (by decide)) ?_
  refine Jp.q 10 rfl (want_all rfl) rfl rfl (Y.loadO 0 rfl Try.isAgg76 rfl rfl rfl) ?_
  refine Jp.q 11 rfl (want_all rfl) rfl rfl (Y.move rfl rfl) ?_
  refine Jp.call [] [] (base_spec a ha) 12 rfl (want_all rfl) rfl rfl (Runs.fn rfl Try.call52 rfl) (by decide) (by decide) rfl trivial ?_
  rintro v101 ρ101 L101 ⟨rfl, rfl, rfl⟩
  refine ⟨rfl, fun hle101 => ⟨(Kp.st ⟨rfl, rfl, trivial⟩), ?_⟩⟩
  refine Jp.q 13 rfl (want_all rfl) rfl rfl (by first | exact Y.lookup 1 rfl rfl rfl Try.underlying76 Try.underlying26 Try.zeroValue84 rfl) ?_
  refine Jp.q 6 rfl (want_all rfl) rfl rfl (Y.assign rfl rfl) ?_
  refine Jp.done hK8 ?_
  refine Cd.seq fun K10 hK10 => ?_
  refine Cd.seq fun K11 hK11 => ?_
  refine Cd.plain [(0, false), (1, false)] rfl rfl ?_
  have hget := hf.get (baseN a)
  rcases hg : getPg M.pages (baseN a) with _ | p
  · rw [hg] at hget
    refine Jp.slot 6 rfl (show _ = Value.pointer none by rw [hget]; rfl) ?_
    refine Jp.y 14 rfl (want_all rfl) rfl rfl Kp.true (Y.move rfl rfl) ?_
    refine Jp.y 15 rfl (want_all rfl) rfl rfl Kp.true (Y.ptrNil rfl Try.underlying84 rfl rfl) ?_
    refine Jp.done hK11 ?_
    refine Cd.cond rfl (fun g15 => ?_) (fun g15 => ?_)
    · skip
      try simp only [decide_eq_false_iff_not, decide_eq_true_eq, Int.not_lt, Int.not_le, Bool.not_eq_false, Bool.not_eq_true, Bool.not_true, Bool.not_false, Bool.not_eq_true', Bool.not_eq_false', beq_eq_false_iff_ne, ne_eq, beq_iff_eq, bne_iff_ne, bne_eq_false_iff_eq, Classical.not_not] at g15
      first
      | done
      | (simp at g15; done)
      | skip
        refine Cd.seq fun K12 hK12 => ?_
        refine Cd.plain [(0, false), (1, false)] rfl rfl ?_
        refine Jp.y 4 rfl (want_all rfl) rfl rfl Kp.true (Y.assign rfl rfl) ?_
        refine Jp.y 5 rfl (want_all rfl) rfl rfl Kp.true (Y.assign rfl rfl) ?_
        refine Jp.done hK12 ?_
        refine Cd.memClose 0 1 2 3 (by decide) hf rfl rfl rfl rfl ?_
        refine Cd.ret [(0, _)] rfl (res2 rfl rfl rfl) ⟨rfl, trivial⟩ ⟨rfl, ?_, rfl⟩
        rw [permM, hg]
    · skip
      try simp only [decide_eq_false_iff_not, decide_eq_true_eq, Int.not_lt, Int.not_le, Bool.not_eq_false, Bool.not_eq_true, Bool.not_true, Bool.not_false, Bool.not_eq_true', Bool.not_eq_false', beq_eq_false_iff_ne, ne_eq, beq_iff_eq, bne_iff_ne, bne_eq_false_iff_eq, Classical.not_not] at g15
      first
      | done
      | (simp at g15; done)
      | skip
        refine Cd.skip hK10 ?_
        refine Cd.seq fun K13 hK13 => ?_
        refine Cd.plain [(0, false), (1, false), (2, false), (3, false), (4, false), (5, false)] rfl rfl ?_
        refine Jp.y 16 rfl (want_all rfl) rfl rfl Kp.true (Y.move rfl rfl) ?_
        refine Jp.y 17 rfl (want_all rfl) rfl rfl Kp.true (Y.nilCheck rfl rfl) ?_
        refine Jp.y 18 rfl (want_all rfl) rfl rfl Kp.true (by first | exact Y.fieldAddrP rfl rfl Try.underlying87 rfl Try.sizeOf3 (by decide) (show _ + 256 = _ from rfl) | exact Y.fieldAddr rfl rfl Try.underlying87 rfl Try.sizeOf3 (by decide)) ?_
        refine Jp.y 19 rfl (want_all rfl) rfl rfl Kp.true (Y.loadO 0 rfl Try.isAgg3 rfl rfl rfl) ?_
        refine Jp.y 4 rfl (want_all rfl) rfl rfl Kp.true (Y.assign rfl rfl) ?_
        refine Jp.y 5 rfl (want_all rfl) rfl rfl Kp.true (Y.assign rfl rfl) ?_
        refine Jp.done hK13 ?_
        refine Cd.memClose 0 1 2 3 (by decide) hf rfl rfl rfl rfl ?_
        refine Cd.ret [(0, _)] rfl (res2 rfl rfl rfl) ⟨rfl, trivial⟩ ⟨rfl, ?_, rfl⟩
        rw [permM, hg]
  · rw [hg] at hget
    refine Jp.slot 6 rfl (show _ = Value.pointer (some ⟨x.blk (baseN a), 0, none⟩) by rw [hget]; rfl) ?_
    have hpo := hf.ok.page _ (getPg_mem hg)
    have hcell := Blks.cell (MemF.blk (x := x) hg) (pageCells_perm p hpo.len)
    refine Jp.y 14 rfl (want_all rfl) rfl rfl Kp.true (Y.move rfl rfl) ?_
    refine Jp.y 15 rfl (want_all rfl) rfl rfl Kp.true (Y.ptrNil rfl Try.underlying84 rfl rfl) ?_
    refine Jp.done hK11 ?_
    refine Cd.cond rfl (fun g15 => ?_) (fun g15 => ?_)
    · skip
      try simp only [decide_eq_false_iff_not, decide_eq_true_eq, Int.not_lt, Int.not_le, Bool.not_eq_false, Bool.not_eq_true, Bool.not_true, Bool.not_false, Bool.not_eq_true', Bool.not_eq_false', beq_eq_false_iff_ne, ne_eq, beq_iff_eq, bne_iff_ne, bne_eq_false_iff_eq, Classical.not_not] at g15
      first
      | done
      | (simp at g15; done)
      | skip
        refine Cd.seq fun K14 hK14 => ?_
        refine Cd.plain [(0, false), (1, false)] rfl rfl ?_
        refine Jp.y 4 rfl (want_all rfl) rfl rfl Kp.true (Y.assign rfl rfl) ?_
        refine Jp.y 5 rfl (want_all rfl) rfl rfl Kp.true (Y.assign rfl rfl) ?_
        refine Jp.done hK14 ?_
        refine Cd.memClose 0 1 2 3 (by decide) hf rfl rfl rfl rfl ?_
        refine Cd.ret [(0, _)] rfl (res2 rfl rfl rfl) ⟨rfl, trivial⟩ ⟨rfl, ?_, rfl⟩
        rw [permM, hg]
    · skip
      try simp only [decide_eq_false_iff_not, decide_eq_true_eq, Int.not_lt, Int.not_le, Bool.not_eq_false, Bool.not_eq_true, Bool.not_true, Bool.not_false, Bool.not_eq_true', Bool.not_eq_false', beq_eq_false_iff_ne, ne_eq, beq_iff_eq, bne_iff_ne, bne_eq_false_iff_eq, Classical.not_not] at g15
      first
      | done
      | (simp at g15; done)
      | skip
        refine Cd.skip hK10 ?_
        refine Cd.seq fun K15 hK15 => ?_
        refine Cd.plain [(0, false), (1, false), (2, false), (3, false), (4, false), (5, false)] rfl rfl ?_
        refine Jp.y 16 rfl (want_all rfl) rfl rfl Kp.true (Y.move rfl rfl) ?_
        refine Jp.y 17 rfl (want_all rfl) rfl rfl Kp.true (Y.nilCheck rfl rfl) ?_
        refine Jp.y 18 rfl (want_all rfl) rfl rfl Kp.true (by first | exact Y.fieldAddrP rfl rfl Try.underlying87 rfl Try.sizeOf3 (by decide) (show _ + 256 = _ from rfl) | exact Y.fieldAddr rfl rfl Try.underlying87 rfl Try.sizeOf3 (by decide)) ?_
        refine Jp.y 19 rfl (want_all rfl) rfl rfl Kp.true (by first | exact Y.loadO 0 rfl Try.isAgg3 rfl rfl rfl | exact Y.loadC 3 rfl Try.isAgg3 rfl rfl hcell) ?_
        refine Jp.y 4 rfl (want_all rfl) rfl rfl Kp.true (Y.assign rfl rfl) ?_
        refine Jp.y 5 rfl (want_all rfl) rfl rfl Kp.true (Y.assign rfl rfl) ?_
        refine Jp.done hK15 ?_
        refine Cd.memClose 0 1 2 3 (by decide) hf rfl rfl rfl rfl ?_
        refine Cd.ret [(0, _)] rfl (res2 rfl rfl rfl) ⟨rfl, trivial⟩ ⟨rfl, ?_, rfl⟩
        rw [permM, hg]
theorem gen_spec (b : Nat) (M : MemG) (a : Nat) (ha : a < 4294967296) : Spec Try.prog 25 #[.pointer (some ⟨b, 0, none⟩), .int .u32 a] (fun _ => True) [(0, MemO b M)]
    (fun ρ ρ' v L => ρ' = ρ ∧ v = .int .u32 (M.gens (baseN a)) ∧ L = [(0, MemO b M)]) := by
  refine Spec.of 12 Try.func25 rfl Try.ntmps25 [(0, _), (1, _)] rfl rfl ?_
  intro cx ρ hr h0
  refine Cd.memOpen 0 1 2 3 (by decide) rfl fun x hf => ?_
  refine Cd.seq fun K16 hK16 => ?_
  refine Cd.plain [(0, false)] rfl rfl ?_
  refine Jp.y 4 rfl (want_all rfl) rfl rfl Kp.true (Y.assign rfl rfl) ?_
  refine Jp.done hK16 ?_
  refine Cd.seq fun K17 hK17 => ?_
  refine Cd.drawn [(0, _), (2, _)] ⟨rfl, rfl, trivial⟩ [(0, true), (1, true), (2, true), (3, true), (4, true), (5, false), (6, true), (7, true)] follows (by kernel_rfl) (fun hrl => ?_)
  refine Jp.q 5 rfl (want_all rfl) rfl rfl (Y.move rfl rfl) ?_
  refine Jp.q 6 rfl (want_all rfl) rfl rfl (Y.nilCheck rfl rfl) ?_
  refine Jp.q 7 rfl (want_all rfl) rfl rfl (by first | exact Y.fieldAddrP rfl rfl Try.underlying79 rfl Try.sizeOf77 (by decide) (show _ + 2 = _ from rfl) | exact Y.fieldAddr rfl rfl Try.underlying79 rfl Try.sizeOf77 (by decide)) ?_
  refine Jp.q 8 rfl (want_all rfl) rfl rfl (Y.loadO 0 rfl Try.isAgg77 rfl rfl rfl) ?_
  refine Jp.q 9 rfl (want_all rfl) rfl rfl (Y.move rfl rfl) ?_
  refine Jp.call [] [] (base_spec a ha) 10 rfl (want_all rfl) rfl rfl (Runs.fn rfl Try.call52 rfl) (by decide) (by decide) rfl trivial ?_
  rintro v102 ρ102 L102 ⟨rfl, rfl, rfl⟩
  refine ⟨rfl, fun hle102 => ⟨(Kp.st ⟨rfl, rfl, trivial⟩), ?_⟩⟩
  refine Jp.q 11 rfl (want_all rfl) rfl rfl (by first | exact Y.lookup 2 rfl rfl rfl Try.underlying77 Try.underlying26 Try.zeroValue26 rfl) ?_
  refine Jp.q 4 rfl (want_all rfl) rfl rfl (Y.assign rfl rfl) ?_
  refine Jp.done hK17 ?_
  refine Cd.memClose 0 1 2 3 (by decide) hf rfl rfl rfl rfl ?_
  refine Cd.ret [(0, _)] rfl (res1 rfl rfl) ⟨rfl, trivial⟩ ⟨rfl, hf.gens _, rfl⟩
end Go.Proofs.Ytgfbdiibndbbjaa
