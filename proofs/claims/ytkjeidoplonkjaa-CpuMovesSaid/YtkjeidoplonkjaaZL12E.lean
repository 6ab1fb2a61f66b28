import Derived.Test.YtkjeidoplonkjaaZCpuS
set_option linter.unusedVariables false
set_option linter.unusedSimpArgs false
set_option maxRecDepth 100000
namespace Go.Proofs.Ytkjeidoplonkjaa
open Go
def mvI (op rd r2 at' : Nat) : InsP := ⟨op, rd, 1, r2, (at' : Int)⟩
def mvOk (i : InsP) : Bool := insEq (decP (encW i)) i
theorem mv_all : ((List.range 51).all fun k => mvOk (mvI 18 0 2 (4 * k)) && (mvOk (mvI 11 3 0 (4 * k)) && (mvOk (mvI 12 4 0 (4 * k)) && (mvOk (mvI 13 5 0 (4 * k)) && (mvOk (mvI 14 6 0 (4 * k)) && mvOk (mvI 15 7 0 (4 * k))))))) = true := by kernel_rfl
theorem mvOk_dec {i : InsP} (h : mvOk i = true) : decP (encW i) = i ∧ encP i = (encW i, 0) := ⟨(insEq_iff _ _).1 h, by unfold encP; exact if_pos h⟩
theorem mv_enc {k : Nat} (hk : k < 51) : mvOk (mvI 18 0 2 (4 * k)) = true ∧ mvOk (mvI 11 3 0 (4 * k)) = true ∧ mvOk (mvI 12 4 0 (4 * k)) = true ∧ mvOk (mvI 13 5 0 (4 * k)) = true ∧ mvOk (mvI 14 6 0 (4 * k)) = true ∧ mvOk (mvI 15 7 0 (4 * k)) = true := by
  have h := List.all_eq_true.1 mv_all k (List.mem_range.2 hk)
  simp only [Bool.and_eq_true] at h
  exact h
theorem mvI_ok {op rd r2 at' : Nat} (h1 : op < 50) (h2 : rd < 32) (h3 : r2 < 32) (h4 : at' ≤ 200) : InsOk (mvI op rd r2 at') := ⟨h1, h2, (by decide : 1 < 32), h3, (show -2147483648 ≤ (at' : Int) ∧ (at' : Int) ≤ 2147483647 by omega)⟩
def mvC (w0 w1 w2 w3 w4 w5 : Nat) : Pg := ⟨leB w0 4 ++ (leB w1 4 ++ (leB w2 4 ++ (leB w3 4 ++ (leB w4 4 ++ (leB w5 4 ++ List.replicate 232 0))))), 5⟩
def mvP (C : Pg) (d : Bytes) : List (Nat × Pg) := [(4096, C), (65536, ⟨d, 3⟩), (65792, ⟨List.replicate 256 0, 1⟩)]
theorem mv_pages (w0 w1 w2 w3 w4 w5 : Nat) : (madeD [(w0 : Int), (w1 : Int), (w2 : Int), (w3 : Int), (w4 : Int), (w5 : Int)] []).pages = mvP (mvC w0 w1 w2 w3 w4 w5) (List.replicate 256 0) := by kernel_rfl
theorem loadM_pages {M M' : MemG} (h : M.pages = M'.pages) (a : Nat) (n need : Int) : loadM M a n need = loadM M' a n need := by unfold loadM lookM; rw [h]
def mvM (C : Pg) (d : Bytes) : MemG := ⟨50, mvP C d, fun _ => 0⟩
theorem mv_fetch (w0 w1 w2 w3 w4 w5 : Nat) (d : Bytes) : loadM (mvM (mvC w0 w1 w2 w3 w4 w5) d) 4096 4 4 = (leN (leB w0 4), 0) ∧ loadM (mvM (mvC w0 w1 w2 w3 w4 w5) d) 4100 4 4 = (leN (leB w1 4), 0) ∧ loadM (mvM (mvC w0 w1 w2 w3 w4 w5) d) 4104 4 4 = (leN (leB w2 4), 0) ∧
    loadM (mvM (mvC w0 w1 w2 w3 w4 w5) d) 4108 4 4 = (leN (leB w3 4), 0) ∧ loadM (mvM (mvC w0 w1 w2 w3 w4 w5) d) 4112 4 4 = (leN (leB w4 4), 0) ∧ loadM (mvM (mvC w0 w1 w2 w3 w4 w5) d) 4116 4 4 = (leN (leB w5 4), 0) := by
  refine ⟨?_, ?_, ?_, ?_, ?_, ?_⟩ <;> kernel_rfl
theorem fetch_of {M : MemG} {pc w : Nat} {i : InsP} (hl : loadM M pc 4 4 = (leN (leB w 4), 0)) (hw : w < 4294967296) (hd : decP w = i) (hi : i.op ≠ 0) : fetchP M pc = (i, noEv) := by
  rw [leN_leB, Nat.mod_eq_of_lt hw] at hl
  unfold fetchP
  rw [hl]
  dsimp only
  rw [if_pos rfl, hd, if_neg hi]
theorem mv_base {at' : Nat} (h : at' ≤ 200) : baseN (65536 + at') = 65536 ∧ (65536 + at') % 256 = at' := by unfold baseN; omega
theorem mv_size {at' n : Nat} (h : at' % 4 = 0) (hn : n = 1 ∨ n = 2 ∨ n = 4) : sizeOk (65536 + at') (n : Int) = true := by
  rcases hn with rfl | rfl | rfl <;> simp [sizeOk] <;> omega
theorem mv_load {C : Pg} {d : Bytes} {at' n : Nat} (h : at' ≤ 200) (h4 : at' % 4 = 0) (hn : n = 1 ∨ n = 2 ∨ n = 4) : loadM (mvM C d) (65536 + at') (n : Int) 1 = (leN ((d.drop at').take n), 0) := by
  obtain ⟨h1, h2⟩ := mv_base h
  have hg : getPg (mvM C d).pages 65536 = some ⟨d, 3⟩ := rfl
  have hk : lookM (mvM C d) (65536 + at') (n : Int) 1 = 0 := by
    unfold lookM
    rw [mv_size h4 hn, if_neg (by decide), h1, hg]
    exact if_pos (show may 3 1 = true by decide)
  unfold loadM
  rw [hk, if_pos rfl, h1, h2, hg]
  rfl
theorem mv_store {M : MemG} {C : Pg} {d : Bytes} {at' v : Nat} (hM : M.pages = mvP C d) (h : at' ≤ 200) (h4 : at' % 4 = 0) : (storeM M (65536 + at') 4 v).1 = 0 ∧ (storeM M (65536 + at') 4 v).2.pages = mvP C (lay d at' (leB v 4)) := by
  obtain ⟨h1, h2⟩ := mv_base h
  have hg : getPg M.pages 65536 = some ⟨d, 3⟩ := by rw [hM]; rfl
  have hk : lookM M (65536 + at') 4 2 = 0 := by
    unfold lookM
    rw [show ((4 : Int)) = ((4 : Nat) : Int) from rfl, mv_size h4 (.inr (.inr rfl)), if_neg (by decide), h1, hg]
    exact if_pos (show may 3 2 = true by decide)
  unfold storeM
  rw [hk, if_pos rfl, h1, h2, hg]
  exact ⟨rfl, by rw [hM]; rfl⟩
theorem mv_got {at' v n : Nat} (h : at' ≤ 200) (hn : n ≤ 4) : leN (((lay (List.replicate 256 0) at' (leB v 4)).drop at').take n) = v % 256 ^ n := by
  have h1 := lay_mid (p := List.replicate 256 (0 : UInt8)) (b := leB v 4) (k := at') (by rw [leB_length, List.length_replicate]; omega)
  rw [leB_length] at h1
  have h2 : ((lay (List.replicate 256 0) at' (leB v 4)).drop at').take n = (leB v 4).take n := by
    have h3 := congrArg (List.take n) h1
    rwa [List.take_take, Nat.min_eq_left hn] at h3
  rw [h2, show (leB v 4).take n = leB v n by (unfold leB; rw [← List.map_take, List.take_range, Nat.min_eq_left hn]), leN_leB]
theorem step_load {M : MemG} {s : StP} {i : InsP} {lv : Nat} (hf : fetchP M s.pc = (i, noEv)) (hop : 11 ≤ i.op ∧ i.op ≤ 15) (hpc : s.pc % 4 = 0 ∧ s.pc < 4294967000) (hl : loadM M (addrP i s) (sizeP i.op).1 1 = (lv, 0)) :
    stepP M s = (outP s (s.x.set i.rd (if (sizeP i.op).2 = true then extP lv (8 * (sizeP i.op).1) else lv)) (s.pc + 4), noEv, M) := by
  rw [stepP_of hf]
  have hg : goesP i s = s.pc + 4 := by
    unfold goesP
    rw [if_neg (by omega), if_neg (by omega), if_neg (by omega)]
    unfold u32; omega
  have hv : valueP M i s = (if (sizeP i.op).2 = true then extP lv (8 * (sizeP i.op).1) else lv, noEv) := by
    unfold valueP
    rw [hl, if_neg (by omega), if_neg (by omega), if_neg (by omega), if_pos (loads_yes hop), if_pos rfl]
  unfold doInsP
  rw [hg, hv, if_neg (by omega), if_neg (by omega), if_neg (by omega), if_neg (stores_no (by omega)), if_pos (writes_yes (by omega))]
  rfl
theorem step_store {M : MemG} {s : StP} {i : InsP} (hf : fetchP M s.pc = (i, noEv)) (hop : 16 ≤ i.op ∧ i.op ≤ 18) (hpc : s.pc % 4 = 0 ∧ s.pc < 4294967000) (hs : (storeM M (addrP i s) (sizeP i.op).1 (regP s i.r2)).1 = 0) :
    stepP M s = (outP s s.x (s.pc + 4), noEv, (storeM M (addrP i s) (sizeP i.op).1 (regP s i.r2)).2) := by
  rw [stepP_of hf]
  have hg : goesP i s = s.pc + 4 := by
    unfold goesP
    rw [if_neg (by omega), if_neg (by omega), if_neg (by omega)]
    unfold u32; omega
  unfold doInsP
  rw [hg, if_neg (by omega), if_neg (by omega), if_neg (by omega), if_pos (stores_yes hop), if_pos hs]
def mvX (v a b c d e : Nat) : List Nat := 0 :: 65536 :: v :: a :: b :: c :: d :: e :: List.replicate 24 0
theorem mvX_ok {v a b c d e pc : Nat} {r : Int} (hv : v < 4294967296) (h3 : a < 4294967296) (h4 : b < 4294967296) (h5 : c < 4294967296) (h6 : d < 4294967296) (h7 : e < 4294967296) (hp : pc < 4294967296) (hr : 0 ≤ r ∧ r ≤ 6) : StOk ⟨mvX v a b c d e, pc, r⟩ := by
  refine ⟨rfl, fun y hy => ?_, hp, (show -9223372036854775808 ≤ r ∧ r ≤ 4611686018427387904 by omega)⟩
  simp only [mvX, List.mem_cons] at hy
  rcases hy with h | h | h | h | h | h | h | h | h
  · rw [h]; decide
  · rw [h]; decide
  · rw [h]; exact hv
  · rw [h]; exact h3
  · rw [h]; exact h4
  · rw [h]; exact h5
  · rw [h]; exact h6
  · rw [h]; exact h7
  · rw [List.eq_of_mem_replicate h]; decide
def mvS (v : Nat) : Nat → StP
  | 0 => ⟨mvX v 0 0 0 0 0, 4096, 0⟩
  | 1 => ⟨mvX v 0 0 0 0 0, 4100, 1⟩
  | 2 => ⟨mvX v (extP v 8) 0 0 0 0, 4104, 2⟩
  | 3 => ⟨mvX v (extP v 8) (extP v 16) 0 0 0, 4108, 3⟩
  | 4 => ⟨mvX v (extP v 8) (extP v 16) v 0 0, 4112, 4⟩
  | 5 => ⟨mvX v (extP v 8) (extP v 16) v (v % 256) 0, 4116, 5⟩
  | _ => ⟨mvX v (extP v 8) (extP v 16) v (v % 256) (v % 65536), 4120, 6⟩
theorem mvS_ok {v : Nat} (hv : v < 4294967296) : ∀ i, StOk (mvS v i)
  | 0 => mvX_ok hv (by decide) (by decide) (by decide) (by decide) (by decide) (by decide) (by decide)
  | 1 => mvX_ok hv (by decide) (by decide) (by decide) (by decide) (by decide) (by decide) (by decide)
  | 2 => mvX_ok hv (extP_lt hv) (by decide) (by decide) (by decide) (by decide) (by decide) (by decide)
  | 3 => mvX_ok hv (extP_lt hv) (extP_lt hv) (by decide) (by decide) (by decide) (by decide) (by decide)
  | 4 => mvX_ok hv (extP_lt hv) (extP_lt hv) hv (by decide) (by decide) (by decide) (by decide)
  | 5 => mvX_ok hv (extP_lt hv) (extP_lt hv) hv (by omega) (by decide) (by decide) (by decide)
  | _ + 6 => mvX_ok hv (extP_lt hv) (extP_lt hv) hv (by omega) (by omega) (by decide) (by decide)
def mvW (k : Nat) : Nat × Nat × Nat × Nat × Nat × Nat := (encW (mvI 18 0 2 (4 * k)), encW (mvI 11 3 0 (4 * k)), encW (mvI 12 4 0 (4 * k)), encW (mvI 13 5 0 (4 * k)), encW (mvI 14 6 0 (4 * k)), encW (mvI 15 7 0 (4 * k)))
def mvC' (k : Nat) : Pg := mvC (mvW k).1 (mvW k).2.1 (mvW k).2.2.1 (mvW k).2.2.2.1 (mvW k).2.2.2.2.1 (mvW k).2.2.2.2.2
def mvD (k v i : Nat) : Bytes := if i = 0 then List.replicate 256 0 else lay (List.replicate 256 0) (4 * k) (leB v 4)
theorem mv_addr {op rd r2 k v i : Nat} (hk : k < 51) : addrP (mvI op rd r2 (4 * k)) (mvS v i) = 65536 + 4 * k := by
  have hr : regP (mvS v i) 1 = 65536 := by
    match i with
    | 0 | 1 | 2 | 3 | 4 | 5 => rfl
    | _ + 6 => rfl
  unfold addrP
  rw [show regP (mvS v i) (mvI op rd r2 (4 * k)).r1 = 65536 from hr, show (mvI op rd r2 (4 * k)).imm = ((4 * k : Nat) : Int) from rfl]
  unfold u32; omega
theorem ext_mod (v : Nat) : extP (v % 256) 8 = extP v 8 ∧ extP (v % 65536) 16 = extP v 16 := by
  unfold extP
  simp
theorem mv_step {M : MemG} {k v i : Nat} (hk : k < 51) (hv : v < 4294967296) (hi : i < 6) (hM : M.pages = mvP (mvC' k) (mvD k v i)) :
    ∃ M', stepP M (mvS v i) = (mvS v (i + 1), noEv, M') ∧ M'.pages = mvP (mvC' k) (mvD k v (i + 1)) := by
  obtain ⟨e0, e1, e2, e3, e4, e5⟩ := mv_enc hk
  have hld := fun a n need => loadM_pages (M := M) (M' := mvM (mvC' k) (mvD k v i)) hM a n need
  obtain ⟨f0, f1, f2, f3, f4, f5⟩ := mv_fetch (mvW k).1 (mvW k).2.1 (mvW k).2.2.1 (mvW k).2.2.2.1 (mvW k).2.2.2.2.1 (mvW k).2.2.2.2.2 (mvD k v i)
  have hL : i ≠ 0 → ∀ n : Nat, (n = 1 ∨ n = 2 ∨ n = 4) → loadM M (65536 + 4 * k) (n : Int) 1 = (v % 256 ^ n, 0) := fun h0 n hn => by
    rw [hld, mv_load (by omega) (by omega) hn]
    unfold mvD
    rw [if_neg h0, mv_got (by omega) (by omega)]
  match i, hi with
  | 0, _ =>
    have hf := fetch_of ((hld 4096 4 4).trans f0) (encW_lt (mvI 18 0 2 (4 * k))) (mvOk_dec e0).1 (by show 18 ≠ 0; decide)
    have hst := mv_store (v := v) hM (show 4 * k ≤ 200 by omega) (show 4 * k % 4 = 0 by omega)
    have ha := mv_addr (op := 18) (rd := 0) (r2 := 2) (v := v) (i := 0) hk
    refine ⟨(storeM M (65536 + 4 * k) 4 v).2, ?_, hst.2⟩
    rw [step_store (s := mvS v 0) hf (show 16 ≤ 18 ∧ 18 ≤ 18 by decide) (show 4096 % 4 = 0 ∧ 4096 < 4294967000 by decide) (by rw [ha]; exact hst.1), ha]
    rfl
  | 1, _ =>
    have hf := fetch_of ((hld 4100 4 4).trans f1) (encW_lt (mvI 11 3 0 (4 * k))) (mvOk_dec e1).1 (by show 11 ≠ 0; decide)
    have ha := mv_addr (op := 11) (rd := 3) (r2 := 0) (v := v) (i := 1) hk
    refine ⟨M, ?_, hM⟩
    rw [step_load (s := mvS v 1) (lv := v % 256 ^ 1) hf (show 11 ≤ 11 ∧ 11 ≤ 15 by decide) (show 4100 % 4 = 0 ∧ 4100 < 4294967000 by decide) (by rw [ha]; exact hL (by decide) 1 (by decide))]
    show _ = (StP.mk (mvX v (extP v 8) 0 0 0 0) 4104 2, noEv, M)
    rw [← (ext_mod v).1]; rfl
  | 2, _ =>
    have hf := fetch_of ((hld 4104 4 4).trans f2) (encW_lt (mvI 12 4 0 (4 * k))) (mvOk_dec e2).1 (by show 12 ≠ 0; decide)
    have ha := mv_addr (op := 12) (rd := 4) (r2 := 0) (v := v) (i := 2) hk
    refine ⟨M, ?_, hM⟩
    rw [step_load (s := mvS v 2) (lv := v % 256 ^ 2) hf (show 11 ≤ 12 ∧ 12 ≤ 15 by decide) (show 4104 % 4 = 0 ∧ 4104 < 4294967000 by decide) (by rw [ha]; exact hL (by decide) 2 (by decide))]
    show _ = (StP.mk (mvX v (extP v 8) (extP v 16) 0 0 0) 4108 3, noEv, M)
    rw [← (ext_mod v).2]; rfl
  | 3, _ =>
    have hf := fetch_of ((hld 4108 4 4).trans f3) (encW_lt (mvI 13 5 0 (4 * k))) (mvOk_dec e3).1 (by show 13 ≠ 0; decide)
    have ha := mv_addr (op := 13) (rd := 5) (r2 := 0) (v := v) (i := 3) hk
    refine ⟨M, ?_, hM⟩
    rw [step_load (s := mvS v 3) (lv := v) hf (show 11 ≤ 13 ∧ 13 ≤ 15 by decide) (show 4108 % 4 = 0 ∧ 4108 < 4294967000 by decide) (by rw [ha]; exact (hL (by decide) 4 (by decide)).trans (by rw [Nat.mod_eq_of_lt (by omega)]))]
    rfl
  | 4, _ =>
    have hf := fetch_of ((hld 4112 4 4).trans f4) (encW_lt (mvI 14 6 0 (4 * k))) (mvOk_dec e4).1 (by show 14 ≠ 0; decide)
    have ha := mv_addr (op := 14) (rd := 6) (r2 := 0) (v := v) (i := 4) hk
    refine ⟨M, ?_, hM⟩
    rw [step_load (s := mvS v 4) (lv := v % 256 ^ 1) hf (show 11 ≤ 14 ∧ 14 ≤ 15 by decide) (show 4112 % 4 = 0 ∧ 4112 < 4294967000 by decide) (by rw [ha]; exact hL (by decide) 1 (by decide))]
    rfl
  | 5, _ =>
    have hf := fetch_of ((hld 4116 4 4).trans f5) (encW_lt (mvI 15 7 0 (4 * k))) (mvOk_dec e5).1 (by show 15 ≠ 0; decide)
    have ha := mv_addr (op := 15) (rd := 7) (r2 := 0) (v := v) (i := 5) hk
    refine ⟨M, ?_, hM⟩
    rw [step_load (s := mvS v 5) (lv := v % 256 ^ 2) hf (show 11 ≤ 15 ∧ 15 ≤ 15 by decide) (show 4116 % 4 = 0 ∧ 4116 < 4294967000 by decide) (by rw [ha]; exact hL (by decide) 2 (by decide))]
    rfl
theorem cpuMoves_spec (v : Nat) (at' : Int) (hv : v < 4294967296) : Spec Try.prog 6 #[.int .u32 v, .int .i32 at'] (fun _ => True) [] (fun ρ ρ' r L => r = .bool true ∧ L = []) := by
  refine Spec.of 105 Try.func6 rfl Try.ntmps6 [(0, _), (1, _)] rfl rfl ?_
  intro cx ρ hr' h0
  refine Cd.seq fun K1 hK1 => ?_
  refine Cd.plain [(0, false)] rfl rfl ?_
  refine Jp.y 4 rfl (want_all rfl) rfl rfl Kp.true (Y.assign rfl rfl) ?_
  refine Jp.done hK1 ?_
  refine Cd.seq fun K2 hK2 => ?_
  refine Cd.seq fun K3 hK3 => ?_
  refine Cd.plain [(0, false), (1, false)] rfl rfl ?_
  refine Jp.call [] [] awake12_spec 10 rfl (want_all rfl) rfl rfl (Runs.fn rfl Try.call12 rfl) (by decide) (by decide) rfl trivial ?_
  rintro v1 ρ1 L1 ⟨rfl, rfl⟩
  refine ⟨rfl, fun hle1 => ⟨Kp.true, ?_⟩⟩
  refine Jp.y 11 rfl (want_all rfl) rfl rfl Kp.true (Y.not rfl rfl) ?_
  refine Jp.done hK3 ?_
  refine Cd.cond rfl (fun g11 => ?_) (fun g11 => ?_)
  · skip
    exact absurd g11 (by simp)
  try simp only [decide_eq_false_iff_not, decide_eq_true_eq, Int.not_lt, Int.not_le, Bool.not_eq_false, Bool.not_eq_true, Bool.not_true, Bool.not_false, Bool.not_eq_true', Bool.not_eq_false', beq_eq_false_iff_ne, ne_eq, beq_iff_eq, bne_iff_ne, bne_eq_false_iff_eq, Classical.not_not] at g11
  refine Cd.skip hK2 ?_
  refine Cd.seq fun K4 hK4 => ?_
  refine Cd.seq fun K5 hK5 => ?_
  refine Cd.plain [(0, false), (1, false), (2, false), (3, false), (4, false), (5, false), (6, false), (7, false), (8, false), (9, false), (10, false)] rfl rfl ?_
  refine Jp.y 12 rfl (want_all rfl) rfl rfl Kp.true (Y.move rfl rfl) ?_
  refine Jp.y 13 rfl (want_all rfl) rfl rfl Kp.true (Y.lss rfl rfl rfl) ?_
  refine Jp.y 14 rfl (want_all rfl) rfl rfl Kp.true (Y.move rfl rfl) ?_
  refine Jp.split 14 rfl (fun g14 => ?_) (fun g14 => ?_)
  · skip
    refine Jp.skip 15 rfl (want_as rfl rfl rfl rfl) rfl rfl Kp.true ?_
    refine Jp.skip 16 rfl (want_as rfl rfl rfl rfl) rfl rfl Kp.true ?_
    refine Jp.y 17 rfl (want_all rfl) rfl rfl Kp.true (Y.pickT rfl rfl rfl) ?_
    refine Jp.y 18 rfl (want_all rfl) rfl rfl Kp.true (Y.move rfl rfl) ?_
    refine Jp.skip 19 rfl (want_as rfl rfl rfl rfl) rfl rfl Kp.true ?_
    refine Jp.skip 20 rfl (want_as rfl rfl rfl rfl) rfl rfl Kp.true ?_
    refine Jp.skip 21 rfl (want_as rfl rfl rfl rfl) rfl rfl Kp.true ?_
    refine Jp.y 22 rfl (want_all rfl) rfl rfl Kp.true (Y.pickT rfl rfl rfl) ?_
    refine Jp.done hK5 ?_
    refine Cd.condT rfl ?_
    refine Cd.seq fun K6 hK6 => ?_
    refine Cd.plain [(0, false)] rfl rfl ?_
    refine Jp.y 4 rfl (want_all rfl) rfl rfl Kp.true (Y.assign rfl rfl) ?_
    refine Jp.done hK6 ?_
    refine Cd.ret [] rfl (res1 rfl rfl) trivial ⟨rfl, rfl⟩
  try simp only [decide_eq_false_iff_not, decide_eq_true_eq, Int.not_lt, Int.not_le, Bool.not_eq_false, Bool.not_eq_true, Bool.not_true, Bool.not_false, Bool.not_eq_true', Bool.not_eq_false', beq_eq_false_iff_ne, ne_eq, beq_iff_eq, bne_iff_ne, bne_eq_false_iff_eq, Classical.not_not] at g14
  refine Jp.y 15 rfl (want_as rfl rfl rfl rfl) rfl rfl Kp.true (Y.move rfl rfl) ?_
  refine Jp.y 16 rfl (want_as rfl rfl rfl rfl) rfl rfl Kp.true (Y.gtr rfl rfl rfl) ?_
  refine Jp.y 17 rfl (want_all rfl) rfl rfl Kp.true (Y.pickF rfl rfl rfl) ?_
  refine Jp.y 18 rfl (want_all rfl) rfl rfl Kp.true (Y.move rfl rfl) ?_
  refine Jp.split 18 rfl (fun g18 => ?_) (fun g18 => ?_)
  · skip
    refine Jp.skip 19 rfl (want_as rfl rfl rfl rfl) rfl rfl Kp.true ?_
    refine Jp.skip 20 rfl (want_as rfl rfl rfl rfl) rfl rfl Kp.true ?_
    refine Jp.skip 21 rfl (want_as rfl rfl rfl rfl) rfl rfl Kp.true ?_
    refine Jp.y 22 rfl (want_all rfl) rfl rfl Kp.true (Y.pickT rfl rfl rfl) ?_
    refine Jp.done hK5 ?_
    refine Cd.condT rfl ?_
    refine Cd.seq fun K7 hK7 => ?_
    refine Cd.plain [(0, false)] rfl rfl ?_
    refine Jp.y 4 rfl (want_all rfl) rfl rfl Kp.true (Y.assign rfl rfl) ?_
    refine Jp.done hK7 ?_
    refine Cd.ret [] rfl (res1 rfl rfl) trivial ⟨rfl, rfl⟩
  try simp only [decide_eq_false_iff_not, decide_eq_true_eq, Int.not_lt, Int.not_le, Bool.not_eq_false, Bool.not_eq_true, Bool.not_true, Bool.not_false, Bool.not_eq_true', Bool.not_eq_false', beq_eq_false_iff_ne, ne_eq, beq_iff_eq, bne_iff_ne, bne_eq_false_iff_eq, Classical.not_not] at g18
  refine Jp.y 19 rfl (want_as rfl rfl rfl rfl) rfl rfl Kp.true (Y.move rfl rfl) ?_
  obtain ⟨at', rfl⟩ := Int.eq_ofNat_of_zero_le (show 0 ≤ at' by omega)
  refine Jp.y 20 rfl (want_as rfl rfl rfl rfl) rfl rfl Kp.true (by first | exact Y.remN rfl rfl rfl (by omega) (by omega) | exact Y.rem rfl rfl rfl (by first | decide | omega)) ?_
  refine Jp.y 21 rfl (want_as rfl rfl rfl rfl) rfl rfl Kp.true (Y.neq rfl rfl rfl) ?_
  refine Jp.y 22 rfl (want_all rfl) rfl rfl Kp.true (Y.pickF rfl rfl rfl) ?_
  refine Jp.done hK5 ?_
  refine Cd.cond rfl (fun g22 => ?_) (fun g22 => ?_)
  · skip
    refine Cd.seq fun K8 hK8 => ?_
    refine Cd.plain [(0, false)] rfl rfl ?_
    refine Jp.y 4 rfl (want_all rfl) rfl rfl Kp.true (Y.assign rfl rfl) ?_
    refine Jp.done hK8 ?_
    refine Cd.ret [] rfl (res1 rfl rfl) trivial ⟨rfl, rfl⟩
  try simp only [decide_eq_false_iff_not, decide_eq_true_eq, Int.not_lt, Int.not_le, Bool.not_eq_false, Bool.not_eq_true, Bool.not_true, Bool.not_false, Bool.not_eq_true', Bool.not_eq_false', beq_eq_false_iff_ne, ne_eq, beq_iff_eq, bne_iff_ne, bne_eq_false_iff_eq, Classical.not_not] at g22
  refine Cd.skip hK4 ?_
  refine Cd.seq fun K9 hK9 => ?_
  refine Cd.plain [(0, false), (1, false), (2, false), (3, false), (4, false), (5, false), (6, false), (7, false), (8, false), (9, false), (10, false), (11, false), (12, false), (13, false), (14, false), (15, false), (16, false), (17, false), (18, false), (19, false), (20, false)] rfl rfl ?_
  obtain ⟨k, rfl⟩ : ∃ k, at' = 4 * k := ⟨at' / 4, by omega⟩
  have hk : k < 51 := by omega
  obtain ⟨e0, e1, e2, e3, e4, e5⟩ := mv_enc hk
  have c0 := word12_spec (mvI 18 0 2 (4 * k)) (mvI_ok (by decide) (by decide) (by decide) (by omega)) (show 1 ≤ 18 by decide)
  have c1 := word12_spec (mvI 11 3 0 (4 * k)) (mvI_ok (by decide) (by decide) (by decide) (by omega)) (show 1 ≤ 11 by decide)
  have c2 := word12_spec (mvI 12 4 0 (4 * k)) (mvI_ok (by decide) (by decide) (by decide) (by omega)) (show 1 ≤ 12 by decide)
  have c3 := word12_spec (mvI 13 5 0 (4 * k)) (mvI_ok (by decide) (by decide) (by decide) (by omega)) (show 1 ≤ 13 by decide)
  have c4 := word12_spec (mvI 14 6 0 (4 * k)) (mvI_ok (by decide) (by decide) (by decide) (by omega)) (show 1 ≤ 14 by decide)
  have c5 := word12_spec (mvI 15 7 0 (4 * k)) (mvI_ok (by decide) (by decide) (by decide) (by omega)) (show 1 ≤ 15 by decide)
  rw [(mvOk_dec e0).2] at c0
  rw [(mvOk_dec e1).2] at c1
  rw [(mvOk_dec e2).2] at c2
  rw [(mvOk_dec e3).2] at c3
  rw [(mvOk_dec e4).2] at c4
  rw [(mvOk_dec e5).2] at c5
  have l0 := encW_lt (mvI 18 0 2 (4 * k))
  obtain ⟨w0, hw0⟩ : ∃ w, encW (mvI 18 0 2 (4 * k)) = w := ⟨_, rfl⟩
  rw [hw0] at c0 l0
  have l1 := encW_lt (mvI 11 3 0 (4 * k))
  obtain ⟨w1, hw1⟩ : ∃ w, encW (mvI 11 3 0 (4 * k)) = w := ⟨_, rfl⟩
  rw [hw1] at c1 l1
  have l2 := encW_lt (mvI 12 4 0 (4 * k))
  obtain ⟨w2, hw2⟩ : ∃ w, encW (mvI 12 4 0 (4 * k)) = w := ⟨_, rfl⟩
  rw [hw2] at c2 l2
  have l3 := encW_lt (mvI 13 5 0 (4 * k))
  obtain ⟨w3, hw3⟩ : ∃ w, encW (mvI 13 5 0 (4 * k)) = w := ⟨_, rfl⟩
  rw [hw3] at c3 l3
  have l4 := encW_lt (mvI 14 6 0 (4 * k))
  obtain ⟨w4, hw4⟩ : ∃ w, encW (mvI 14 6 0 (4 * k)) = w := ⟨_, rfl⟩
  rw [hw4] at c4 l4
  have l5 := encW_lt (mvI 15 7 0 (4 * k))
  obtain ⟨w5, hw5⟩ : ∃ w, encW (mvI 15 7 0 (4 * k)) = w := ⟨_, rfl⟩
  rw [hw5] at c5 l5
  have hC : mvC' k = mvC w0 w1 w2 w3 w4 w5 := by
    rw [← hw0, ← hw1, ← hw2, ← hw3, ← hw4, ← hw5]; rfl
  refine Jp.y 23 rfl (want_all rfl) rfl rfl Kp.true (Y.move rfl rfl) ?_
  refine Jp.y 24 rfl (want_all rfl) rfl rfl Kp.true (Y.struct [(0, _), (2, _), (3, _), (4, _)] [_, _, _, _, _] rfl rfl places28 Try.zeroValue28 rfl) ?_
  refine Jp.call [] [] c0 25 rfl (want_all rfl) rfl rfl (Runs.fn rfl Try.call14 rfl) (by decide) (by decide) rfl trivial ?_
  rintro v10 ρ10 L10 ⟨rfl, rfl, rfl⟩
  refine ⟨rfl, fun hle10 => ⟨Kp.true, ?_⟩⟩
  refine Jp.y 26 rfl (want_all rfl) rfl rfl Kp.true (Y.move rfl rfl) ?_
  refine Jp.y 27 rfl (want_all rfl) rfl rfl Kp.true (Y.struct [(0, _), (1, _), (2, _), (4, _)] [_, _, _, _, _] rfl rfl places28 Try.zeroValue28 rfl) ?_
  refine Jp.call [] [] c1 28 rfl (want_all rfl) rfl rfl (Runs.fn rfl Try.call14 rfl) (by decide) (by decide) rfl trivial ?_
  rintro v11 ρ11 L11 ⟨rfl, rfl, rfl⟩
  refine ⟨rfl, fun hle11 => ⟨Kp.true, ?_⟩⟩
  refine Jp.y 29 rfl (want_all rfl) rfl rfl Kp.true (Y.move rfl rfl) ?_
  refine Jp.y 30 rfl (want_all rfl) rfl rfl Kp.true (Y.struct [(0, _), (1, _), (2, _), (4, _)] [_, _, _, _, _] rfl rfl places28 Try.zeroValue28 rfl) ?_
  refine Jp.call [] [] c2 31 rfl (want_all rfl) rfl rfl (Runs.fn rfl Try.call14 rfl) (by decide) (by decide) rfl trivial ?_
  rintro v12 ρ12 L12 ⟨rfl, rfl, rfl⟩
  refine ⟨rfl, fun hle12 => ⟨Kp.true, ?_⟩⟩
  refine Jp.y 32 rfl (want_all rfl) rfl rfl Kp.true (Y.move rfl rfl) ?_
  refine Jp.y 33 rfl (want_all rfl) rfl rfl Kp.true (Y.struct [(0, _), (1, _), (2, _), (4, _)] [_, _, _, _, _] rfl rfl places28 Try.zeroValue28 rfl) ?_
  refine Jp.call [] [] c3 34 rfl (want_all rfl) rfl rfl (Runs.fn rfl Try.call14 rfl) (by decide) (by decide) rfl trivial ?_
  rintro v13 ρ13 L13 ⟨rfl, rfl, rfl⟩
  refine ⟨rfl, fun hle13 => ⟨Kp.true, ?_⟩⟩
  refine Jp.y 35 rfl (want_all rfl) rfl rfl Kp.true (Y.move rfl rfl) ?_
  refine Jp.y 36 rfl (want_all rfl) rfl rfl Kp.true (Y.struct [(0, _), (1, _), (2, _), (4, _)] [_, _, _, _, _] rfl rfl places28 Try.zeroValue28 rfl) ?_
  refine Jp.call [] [] c4 37 rfl (want_all rfl) rfl rfl (Runs.fn rfl Try.call14 rfl) (by decide) (by decide) rfl trivial ?_
  rintro v14 ρ14 L14 ⟨rfl, rfl, rfl⟩
  refine ⟨rfl, fun hle14 => ⟨Kp.true, ?_⟩⟩
  refine Jp.y 38 rfl (want_all rfl) rfl rfl Kp.true (Y.move rfl rfl) ?_
  refine Jp.y 39 rfl (want_all rfl) rfl rfl Kp.true (Y.struct [(0, _), (1, _), (2, _), (4, _)] [_, _, _, _, _] rfl rfl places28 Try.zeroValue28 rfl) ?_
  refine Jp.call [] [] c5 40 rfl (want_all rfl) rfl rfl (Runs.fn rfl Try.call14 rfl) (by decide) (by decide) rfl trivial ?_
  rintro v15 ρ15 L15 ⟨rfl, rfl, rfl⟩
  refine ⟨rfl, fun hle15 => ⟨Kp.true, ?_⟩⟩
  refine Jp.lit 41 50 [(0, _), (1, _), (2, _), (3, _), (4, _), (5, _)] [_, _, _, _, _, _] rfl (want_all rfl) rfl rfl rfl rfl Try.underlying29 Try.sizeOf25 Try.zeroValue25 rfl rfl rfl rfl rfl fun b50 => ⟨Kp.true, ?_⟩
  refine Jp.freeze (i := 50) rfl (OwnS.up _ _ _ _ _ _) fun ρ7 hle7 hA7 => ?_
  refine Jp.call [] [0] (made12_spec (some ⟨b50, 0, none⟩) 6 [(w0 : Int), (w1 : Int), (w2 : Int), (w3 : Int), (w4 : Int), (w5 : Int)] none 0 [] (by intro y hy; simp only [List.mem_cons, List.not_mem_nil, or_false] at hy; rcases hy with h | h | h | h | h | h <;> exact ⟨_, h, by assumption⟩)) 42 rfl (want_all rfl) rfl rfl (Runs.fn rfl Try.call13 rfl) (by decide) (by decide) rfl ⟨hA7.rd, RdS.nil 1 _⟩ ?_
  rintro v20 ρ20 L20 ⟨bm, rfl, rfl⟩
  refine ⟨rfl, fun hle20 => ⟨Kp.true, ?_⟩⟩
  have hp := mv_pages w0 w1 w2 w3 w4 w5
  obtain ⟨M0, hM0⟩ : ∃ M, madeD [(w0 : Int), (w1 : Int), (w2 : Int), (w3 : Int), (w4 : Int), (w5 : Int)] [] = M := ⟨_, rfl⟩
  rw [hM0, ← hC] at hp
  rw [hM0]
  clear hM0
  refine Jp.y 5 rfl (want_all rfl) rfl rfl Kp.true (Y.assign rfl rfl) ?_
  refine Jp.done hK9 ?_
  refine Cd.seq fun K10 hK10 => ?_
  refine Cd.plain [(0, false), (1, false), (2, false)] rfl rfl ?_
  refine Jp.y 43 rfl (want_all rfl) rfl rfl Kp.true (Y.struct [(1, _)] [_, _, _, _, _, _, _, _, _, _, _, _, _, _, _, _, _, _, _, _, _, _, _, _, _, _, _, _, _, _, _, _, _, _] rfl rfl places32 Try.zeroValue32 rfl) ?_
  refine Jp.alloc 6 6 rfl (want_all rfl) rfl rfl rfl Try.zeroValue32 fun b6 => ⟨Kp.true, ?_⟩
  first | refine Jp.storeAll 6 rfl (want_all rfl) rfl rfl Try.sizeOf32 rfl rfl (by first | rfl | assumption) (by first | rfl | assumption) rfl (by first | rfl | assumption) (fun k _ _ => noFr0 k) Kp.true ?_
  refine Jp.done hK10 ?_
  refine Cd.seq fun K11 hK11 => ?_
  refine Cd.plain [(0, false), (1, false), (2, false), (3, false), (4, false), (5, false), (6, false)] rfl rfl ?_
  refine Jp.imp (j := 6) rfl (fun h hh => (show Pt b6 (.cells (StP.cells ⟨List.replicate 32 0, 4096, 0⟩).toArray 32) h from hh)) ?_
  refine Jp.y 44 rfl (want_all rfl) rfl rfl Kp.true (Y.move rfl rfl) ?_
  refine Jp.y 45 rfl (want_all rfl) rfl rfl Kp.true (by first | exact Y.fieldAddrP rfl rfl Try.underlying32 rfl Try.sizeOf30 (by decide) (show _ + 0 = _ from rfl) | exact Y.fieldAddr rfl rfl Try.underlying32 rfl Try.sizeOf30 (by decide)) ?_
  refine Jp.y 46 rfl (want_all rfl) rfl rfl Kp.true (Y.indexArrP rfl rfl rfl Try.underlying30 Try.sizeOf25 (by first | decide | omega) (by first | decide | omega) rfl) ?_
  refine Jp.storeC 6 (Pt b6 (.cells (StP.cells ⟨0 :: 65536 :: List.replicate 30 0, 4096, 0⟩).toArray 32)) rfl (want_all rfl) rfl rfl Try.sizeOf25 rfl rfl rfl rfl rfl (SetC.st rfl (by decide) 65536) Kp.true ?_
  refine Jp.y 47 rfl (want_all rfl) rfl rfl Kp.true (by first | exact Y.fieldAddrP rfl rfl Try.underlying32 rfl Try.sizeOf30 (by decide) (show _ + 0 = _ from rfl) | exact Y.fieldAddr rfl rfl Try.underlying32 rfl Try.sizeOf30 (by decide)) ?_
  refine Jp.y 48 rfl (want_all rfl) rfl rfl Kp.true (Y.indexArrP rfl rfl rfl Try.underlying30 Try.sizeOf25 (by first | decide | omega) (by first | decide | omega) rfl) ?_
  refine Jp.storeC 6 (Pt b6 (.cells (mvS v 0).cells.toArray 32)) rfl (want_all rfl) rfl rfl Try.sizeOf25 rfl rfl rfl rfl rfl (SetC.st rfl (by decide) v) Kp.true ?_
  refine Jp.done hK11 ?_
  refine Cd.seq fun K12 hK12 => ?_
  refine Cd.seq fun K13 hK13 => ?_
  refine Cd.plain [(0, false)] rfl rfl ?_
  refine Jp.y 7 rfl (want_all rfl) rfl rfl Kp.true (Y.assign rfl rfl) ?_
  refine Jp.done hK13 ?_
  refine Cd.block ?_
  refine Cd.loopK (G := Nat × MemG) (fun g => g.1 ≤ 6 ∧ g.2.pages = mvP (mvC' k) (mvD k v g.1)) (fun g => 6 - g.1) (fun _ => _) (fun g => [(7, .int .i64 (g.1 : Int))]) [(0, _), (5, _), (6, _)] (fun g => [(0, MemO bm g.2), (6, Pt b6 (.cells (mvS v g.1).cells.toArray 32))]) [] ⟨0, M0⟩ ⟨Nat.zero_le 6, hp⟩ rfl ⟨rfl, trivial⟩ ⟨rfl, rfl, rfl, trivial⟩ ⟨rfl, rfl, trivial⟩ trivial (fun g KLa hok hLa => ?_)
  obtain ⟨i, M⟩ := g
  obtain ⟨ok1, ok2⟩ := hok
  dsimp only at ok1 ok2 ⊢
  refine Cd.seq fun K14 hK14 => ?_
  refine Cd.seq fun K15 hK15 => ?_
  refine Cd.plain [(0, false), (1, false)] rfl rfl ?_
  refine Jp.y 49 rfl (want_all rfl) rfl rfl Kp.true (Y.move rfl rfl) ?_
  refine Jp.y 50 rfl (want_all rfl) rfl rfl Kp.true (Y.lss rfl rfl rfl) ?_
  refine Jp.done hK15 ?_
  refine Cd.cond rfl (fun ga => ?_) (fun ga => ?_)
  · have hi : i < 6 := by simp at ga; omega
    obtain ⟨M', hs, hM'⟩ := mv_step hk hv hi ok2
    have hO := mvS_ok hv i
    have hO1 := mvS_ok hv (i + 1)
    have S := step_spec bm M (mvS v i) hO
    rw [hs] at S
    have hl := StP.len hO
    have hl1 := StP.len hO1
    have hsz : (mvS v i).cells.toArray.size = 34 := by rw [List.size_toArray]; exact hl
    have ho1 := StP.one (mvS v (i + 1))
    refine Cd.skip hK14 ?_
    refine Cd.seq fun K16 hK16 => ?_
    refine Cd.block ?_
    refine Cd.seq fun K17 hK17 => ?_
    refine Cd.plain [(0, false), (1, false), (2, false), (3, false), (4, false), (5, false), (6, false), (7, false), (8, false), (9, false)] rfl rfl ?_
    refine Jp.y 54 rfl (want_all rfl) rfl rfl Kp.true (Y.move rfl rfl) ?_
    refine Jp.y 55 rfl (want_all rfl) rfl rfl Kp.true (by first | exact Y.loadAggO 6 rfl Try.isAgg32 Try.sizeOf32 rfl rfl (by first | rfl | assumption)) ?_
    refine Jp.call [0] [0] S 56 rfl (want_all rfl) rfl rfl (Runs.fn rfl Try.call15 rfl) (by decide) (by decide) rfl trivial ?_
    rintro v30 ρ30 L30 ⟨rfl, rfl, rfl⟩
    refine ⟨rfl, fun hle30 => ⟨Kp.true, ?_⟩⟩
    refine Jp.y 53 rfl (want_all rfl) rfl rfl Kp.true (Y.move rfl rfl) ?_
    refine Jp.y 57 rfl (want_all rfl) rfl rfl Kp.true (Y.extract rfl rfl rfl) ?_
    refine Jp.y 58 rfl (want_all rfl) rfl rfl Kp.true (Y.extract rfl rfl rfl) ?_
    refine Jp.alloc 8 8 rfl (want_all rfl) rfl rfl rfl Try.zeroValue32 fun b8 => ⟨Kp.true, ?_⟩
    refine Jp.alloc 9 9 rfl (want_all rfl) rfl rfl rfl Try.zeroValue35 fun b9 => ⟨Kp.true, ?_⟩
    first | refine Jp.storeAll 8 rfl (want_all rfl) rfl rfl Try.sizeOf32 rfl rfl (by first | rfl | assumption) (by first | rfl | assumption) rfl (by first | rfl | assumption) (fun k _ _ => noFr0 k) Kp.true ?_ | refine Jp.storeAll 9 rfl (want_all rfl) rfl rfl Try.sizeOf32 rfl rfl (by first | rfl | assumption) (by first | rfl | assumption) rfl (by first | rfl | assumption) (fun k _ _ => noFr0 k) Kp.true ?_
    first | refine Jp.storeAll 8 rfl (want_all rfl) rfl rfl Try.sizeOf35 rfl rfl (by first | rfl | assumption) (by first | rfl | assumption) rfl (by first | rfl | assumption) (fun k _ _ => noFr0 k) Kp.true ?_ | refine Jp.storeAll 9 rfl (want_all rfl) rfl rfl Try.sizeOf35 rfl rfl (by first | rfl | assumption) (by first | rfl | assumption) rfl (by first | rfl | assumption) (fun k _ _ => noFr0 k) Kp.true ?_
    refine Jp.done hK17 ?_
    refine Cd.seq fun K18 hK18 => ?_
    refine Cd.seq fun K19 hK19 => ?_
    refine Cd.plain [(0, false), (1, false), (2, false)] rfl rfl ?_
    refine Jp.y 59 rfl (want_all rfl) rfl rfl Kp.true (by first | exact Y.fieldAddrP rfl rfl Try.underlying35 rfl Try.sizeOf3 (by decide) (show _ + 0 = _ from rfl) | exact Y.fieldAddr rfl rfl Try.underlying35 rfl Try.sizeOf3 (by decide)) ?_
    refine Jp.y 60 rfl (want_all rfl) rfl rfl Kp.true (by first | exact Y.loadO 8 rfl Try.isAgg3 rfl rfl rfl | exact Y.loadO 9 rfl Try.isAgg3 rfl rfl rfl) ?_
    refine Jp.y 61 rfl (want_all rfl) rfl rfl Kp.true (Y.neq rfl rfl rfl) ?_
    refine Jp.done hK19 ?_
    refine Cd.cond rfl (fun gb => ?_) (fun gb => ?_)
    · exact absurd gb (by simp [noEv])
    · skip
      refine Cd.skip hK18 ?_
      refine Cd.plain [(0, false), (1, false)] rfl rfl ?_
      refine Jp.y 62 rfl (want_all rfl) rfl rfl Kp.true (by first | exact Y.loadAggO 8 rfl Try.isAgg32 Try.sizeOf32 rfl rfl (by first | rfl | assumption) | exact Y.loadAggO 6 rfl Try.isAgg32 Try.sizeOf32 rfl rfl (by first | rfl | assumption)) ?_
      first | refine Jp.storeAll 6 rfl (want_all rfl) rfl rfl Try.sizeOf32 rfl rfl (by first | rfl | assumption) (by first | rfl | assumption) rfl (by first | rfl | assumption) (fun k _ _ => noFr0 k) Kp.true ?_
      refine Jp.over rfl hK16 ?_
      refine Cd.plain [(0, false), (1, false), (2, false)] rfl rfl ?_
      refine Jp.y 51 rfl (want_all rfl) rfl rfl Kp.true (Y.move rfl rfl) ?_
      refine Jp.y 52 rfl (want_all rfl) rfl rfl Kp.true (Y.add_ rfl rfl rfl (by first | exact wrap_i64 (by omega) (by omega) | rfl)) ?_
      refine Jp.y 7 rfl (want_all rfl) rfl rfl Kp.true (Y.assign rfl rfl) ?_
      rw [show (i : Int) + 1 = ((i + 1 : Nat) : Int) by omega]
      refine Jp.again hLa ⟨i + 1, M'⟩ ⟨hi, hM'⟩ (by show 6 - (i + 1) < 6 - i; omega) rfl ⟨rfl, rfl, rfl, rfl, trivial⟩ ⟨rfl, rfl, trivial⟩
  · have hi : i = 6 := by simp at ga; omega
    subst hi
    have hb1 : bitsB .and .u32 (v : Int) 255 = ((v % 256 : Nat) : Int) := by
      have := bits_and32 (b := 255) hv (by omega)
      rw [show 255 = 2 ^ 8 - 1 from rfl, Nat.and_two_pow_sub_one_eq_mod] at this
      exact this
    have hb2 : bitsB .and .u32 (v : Int) 65535 = ((v % 65536 : Nat) : Int) := by
      have := bits_and32 (b := 65535) hv (by omega)
      rw [show 65535 = 2 ^ 16 - 1 from rfl, Nat.and_two_pow_sub_one_eq_mod] at this
      exact this
    refine Cd.exit rfl hK12 ?_
    refine Cd.seq fun K20 hK20 => ?_
    refine Cd.drawn [(6, _)] ⟨rfl, trivial⟩ [(0, true), (1, true), (2, true), (3, true), (4, false), (5, true), (6, true), (7, true), (8, true), (9, true), (10, true), (11, false), (12, true), (13, true), (14, true), (15, true), (16, true), (17, true), (18, true), (19, true), (20, true), (21, true), (22, true), (23, true), (24, true), (25, true), (26, true), (27, true), (28, true), (29, true), (30, true), (31, true), (32, true), (33, true), (34, true), (35, true), (36, true), (37, true), (38, true), (39, true), (40, true), (41, true), (42, true)] follows (by kernel_rfl) (fun hrl => ?_)
    refine Jp.q 63 rfl (want_all rfl) rfl rfl (by first | exact Y.fieldAddrP rfl rfl Try.underlying32 rfl Try.sizeOf30 (by decide) (show _ + 0 = _ from rfl) | exact Y.fieldAddr rfl rfl Try.underlying32 rfl Try.sizeOf30 (by decide)) ?_
    refine Jp.q 64 rfl (want_all rfl) rfl rfl (Y.indexArrP rfl rfl rfl Try.underlying30 Try.sizeOf25 (by first | decide | omega) (by first | decide | omega) rfl) ?_
    refine Jp.q 65 rfl (want_all rfl) rfl rfl (Y.loadO 6 rfl Try.isAgg25 rfl rfl rfl) ?_
    refine Jp.q 66 rfl (want_all rfl) rfl rfl (Y.move rfl rfl) ?_
    refine Jp.call [] [] (extend_spec v 8) 67 rfl (want_all rfl) rfl rfl (Runs.fn rfl Try.call18 rfl) (by decide) (by decide) rfl trivial ?_
    rintro v40 ρ40 L40 ⟨rfl, rfl, rfl⟩
    refine ⟨rfl, fun hle40 => ⟨(Kp.st ⟨rfl, trivial⟩), ?_⟩⟩
    refine Jp.q 68 rfl (want_all rfl) rfl rfl (Y.eql rfl rfl rfl) ?_
    refine Jp.q 69 rfl (want_all rfl) rfl rfl (Y.move rfl rfl) ?_
    refine Jp.splitF 69 rfl (fun g69 => ?_) (fun g69 => ?_)
    · skip
      exact absurd g69 (by simp [hb1, hb2])
    try simp only [decide_eq_false_iff_not, decide_eq_true_eq, Int.not_lt, Int.not_le, Bool.not_eq_false, Bool.not_eq_true, Bool.not_true, Bool.not_false, Bool.not_eq_true', Bool.not_eq_false', beq_eq_false_iff_ne, ne_eq, beq_iff_eq, bne_iff_ne, bne_eq_false_iff_eq, Classical.not_not] at g69
    refine Jp.q 70 rfl (want_as rfl rfl rfl rfl) rfl rfl (by first | exact Y.fieldAddrP rfl rfl Try.underlying32 rfl Try.sizeOf30 (by decide) (show _ + 0 = _ from rfl) | exact Y.fieldAddr rfl rfl Try.underlying32 rfl Try.sizeOf30 (by decide)) ?_
    refine Jp.q 71 rfl (want_as rfl rfl rfl rfl) rfl rfl (Y.indexArrP rfl rfl rfl Try.underlying30 Try.sizeOf25 (by first | decide | omega) (by first | decide | omega) rfl) ?_
    refine Jp.q 72 rfl (want_as rfl rfl rfl rfl) rfl rfl (Y.loadO 6 rfl Try.isAgg25 rfl rfl rfl) ?_
    refine Jp.q 73 rfl (want_as rfl rfl rfl rfl) rfl rfl (Y.move rfl rfl) ?_
    refine Jp.call [] [] (extend_spec v 16) 74 rfl (want_as rfl rfl rfl rfl) rfl rfl (Runs.fn rfl Try.call18 rfl) (by decide) (by decide) rfl trivial ?_
    rintro v41 ρ41 L41 ⟨rfl, rfl, rfl⟩
    refine ⟨rfl, fun hle41 => ⟨(Kp.st ⟨rfl, trivial⟩), ?_⟩⟩
    refine Jp.q 75 rfl (want_as rfl rfl rfl rfl) rfl rfl (Y.eql rfl rfl rfl) ?_
    refine Jp.q 76 rfl (want_all rfl) rfl rfl (Y.pickT rfl rfl rfl) ?_
    refine Jp.q 77 rfl (want_all rfl) rfl rfl (Y.move rfl rfl) ?_
    refine Jp.splitF 77 rfl (fun g77 => ?_) (fun g77 => ?_)
    · skip
      exact absurd g77 (by simp [hb1, hb2])
    try simp only [decide_eq_false_iff_not, decide_eq_true_eq, Int.not_lt, Int.not_le, Bool.not_eq_false, Bool.not_eq_true, Bool.not_true, Bool.not_false, Bool.not_eq_true', Bool.not_eq_false', beq_eq_false_iff_ne, ne_eq, beq_iff_eq, bne_iff_ne, bne_eq_false_iff_eq, Classical.not_not] at g77
    refine Jp.q 78 rfl (want_as rfl rfl rfl rfl) rfl rfl (by first | exact Y.fieldAddrP rfl rfl Try.underlying32 rfl Try.sizeOf30 (by decide) (show _ + 0 = _ from rfl) | exact Y.fieldAddr rfl rfl Try.underlying32 rfl Try.sizeOf30 (by decide)) ?_
    refine Jp.q 79 rfl (want_as rfl rfl rfl rfl) rfl rfl (Y.indexArrP rfl rfl rfl Try.underlying30 Try.sizeOf25 (by first | decide | omega) (by first | decide | omega) rfl) ?_
    refine Jp.q 80 rfl (want_as rfl rfl rfl rfl) rfl rfl (Y.loadO 6 rfl Try.isAgg25 rfl rfl rfl) ?_
    refine Jp.q 81 rfl (want_as rfl rfl rfl rfl) rfl rfl (Y.move rfl rfl) ?_
    refine Jp.q 82 rfl (want_as rfl rfl rfl rfl) rfl rfl (Y.eql rfl rfl rfl) ?_
    refine Jp.q 83 rfl (want_all rfl) rfl rfl (Y.pickT rfl rfl rfl) ?_
    refine Jp.q 84 rfl (want_all rfl) rfl rfl (Y.move rfl rfl) ?_
    refine Jp.splitF 84 rfl (fun g84 => ?_) (fun g84 => ?_)
    · skip
      exact absurd g84 (by simp [hb1, hb2])
    try simp only [decide_eq_false_iff_not, decide_eq_true_eq, Int.not_lt, Int.not_le, Bool.not_eq_false, Bool.not_eq_true, Bool.not_true, Bool.not_false, Bool.not_eq_true', Bool.not_eq_false', beq_eq_false_iff_ne, ne_eq, beq_iff_eq, bne_iff_ne, bne_eq_false_iff_eq, Classical.not_not] at g84
    refine Jp.q 85 rfl (want_as rfl rfl rfl rfl) rfl rfl (by first | exact Y.fieldAddrP rfl rfl Try.underlying32 rfl Try.sizeOf30 (by decide) (show _ + 0 = _ from rfl) | exact Y.fieldAddr rfl rfl Try.underlying32 rfl Try.sizeOf30 (by decide)) ?_
    refine Jp.q 86 rfl (want_as rfl rfl rfl rfl) rfl rfl (Y.indexArrP rfl rfl rfl Try.underlying30 Try.sizeOf25 (by first | decide | omega) (by first | decide | omega) rfl) ?_
    refine Jp.q 87 rfl (want_as rfl rfl rfl rfl) rfl rfl (Y.loadO 6 rfl Try.isAgg25 rfl rfl rfl) ?_
    refine Jp.q 88 rfl (want_as rfl rfl rfl rfl) rfl rfl (Y.move rfl rfl) ?_
    refine Jp.q 89 rfl (want_as rfl rfl rfl rfl) rfl rfl (Y.bits rfl rfl rfl rfl) ?_
    refine Jp.q 90 rfl (want_as rfl rfl rfl rfl) rfl rfl (Y.eql rfl rfl rfl) ?_
    refine Jp.q 91 rfl (want_all rfl) rfl rfl (Y.pickT rfl rfl rfl) ?_
    refine Jp.q 92 rfl (want_all rfl) rfl rfl (Y.move rfl rfl) ?_
    refine Jp.splitF 92 rfl (fun g92 => ?_) (fun g92 => ?_)
    · skip
      exact absurd g92 (by simp [hb1, hb2])
    try simp only [decide_eq_false_iff_not, decide_eq_true_eq, Int.not_lt, Int.not_le, Bool.not_eq_false, Bool.not_eq_true, Bool.not_true, Bool.not_false, Bool.not_eq_true', Bool.not_eq_false', beq_eq_false_iff_ne, ne_eq, beq_iff_eq, bne_iff_ne, bne_eq_false_iff_eq, Classical.not_not] at g92
    refine Jp.q 93 rfl (want_as rfl rfl rfl rfl) rfl rfl (by first | exact Y.fieldAddrP rfl rfl Try.underlying32 rfl Try.sizeOf30 (by decide) (show _ + 0 = _ from rfl) | exact Y.fieldAddr rfl rfl Try.underlying32 rfl Try.sizeOf30 (by decide)) ?_
    refine Jp.q 94 rfl (want_as rfl rfl rfl rfl) rfl rfl (Y.indexArrP rfl rfl rfl Try.underlying30 Try.sizeOf25 (by first | decide | omega) (by first | decide | omega) rfl) ?_
    refine Jp.q 95 rfl (want_as rfl rfl rfl rfl) rfl rfl (Y.loadO 6 rfl Try.isAgg25 rfl rfl rfl) ?_
    refine Jp.q 96 rfl (want_as rfl rfl rfl rfl) rfl rfl (Y.move rfl rfl) ?_
    refine Jp.q 97 rfl (want_as rfl rfl rfl rfl) rfl rfl (Y.bits rfl rfl rfl rfl) ?_
    refine Jp.q 98 rfl (want_as rfl rfl rfl rfl) rfl rfl (Y.eql rfl rfl rfl) ?_
    refine Jp.q 99 rfl (want_all rfl) rfl rfl (Y.pickT rfl rfl rfl) ?_
    refine Jp.q 100 rfl (want_all rfl) rfl rfl (Y.move rfl rfl) ?_
    refine Jp.splitF 100 rfl (fun g100 => ?_) (fun g100 => ?_)
    · skip
      exact absurd g100 (by simp [hb1, hb2])
    try simp only [decide_eq_false_iff_not, decide_eq_true_eq, Int.not_lt, Int.not_le, Bool.not_eq_false, Bool.not_eq_true, Bool.not_true, Bool.not_false, Bool.not_eq_true', Bool.not_eq_false', beq_eq_false_iff_ne, ne_eq, beq_iff_eq, bne_iff_ne, bne_eq_false_iff_eq, Classical.not_not] at g100
    refine Jp.q 101 rfl (want_as rfl rfl rfl rfl) rfl rfl (by first | exact Y.fieldAddrP rfl rfl Try.underlying32 rfl Try.sizeOf2 (by decide) (show _ + 33 = _ from rfl) | exact Y.fieldAddr rfl rfl Try.underlying32 rfl Try.sizeOf2 (by decide)) ?_
    refine Jp.q 102 rfl (want_as rfl rfl rfl rfl) rfl rfl (Y.loadO 6 rfl Try.isAgg2 rfl rfl rfl) ?_
    refine Jp.q 103 rfl (want_as rfl rfl rfl rfl) rfl rfl (Y.eql rfl rfl rfl) ?_
    refine Jp.q 104 rfl (want_all rfl) rfl rfl (Y.pickT rfl rfl rfl) ?_
    refine Jp.q 4 rfl (want_all rfl) rfl rfl (Y.assign rfl rfl) ?_
    refine Jp.done hK20 ?_
    refine Cd.ret [] rfl (res1 rfl rfl) trivial ⟨by first | rfl | simp [mvS, mvX], rfl⟩
end Go.Proofs.Ytkjeidoplonkjaa
