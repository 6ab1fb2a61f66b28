import Derived.Test.YtjfgefdcngpplaaZR18F
import Derived.Test.YtjfgefdcngpplaaZRvG
import Derived.Test.YtjfgefdcngpplaaZMem2i
set_option linter.unusedVariables false
set_option linter.unusedSimpArgs false
set_option maxRecDepth 100000
namespace Go.Proofs.Ytjfgefdcngpplaa
open Go
theorem loadM_pg {M M' : MemG} (h : M.pages = M'.pages) (a : Nat) (n need : Int) : loadM M a n need = loadM M' a n need := by unfold loadM lookM; rw [h]
theorem fetchP_pg {M M' : MemG} (h : M.pages = M'.pages) (a : Nat) : fetchP M a = fetchP M' a := by unfold fetchP; rw [loadM_pg h]
theorem findL_pg {M M' : MemG} (h : M.pages = M'.pages) (pc : Nat) : ∀ n k, findL M pc n k = findL M' pc n k
  | 0, _ => rfl
  | n + 1, k => by rw [findL, findL, fetchP_pg h, findL_pg h pc n (k + 1)]
theorem find_nilB {M : MemG} {pc : Nat} {most : Int} (hpc : pc < 4294967296) (h : findL M pc (mostP most) 0 = []) : (fetchP M pc).2.kind ≠ 0 := by
  obtain ⟨m, hm⟩ : ∃ m, mostP most = m + 1 := ⟨mostP most - 1, by unfold mostP; omega⟩
  have h0 : atP pc 0 = pc := by unfold atP; omega
  rw [hm, findL, h0] at h
  intro hk
  rw [if_pos ⟨rfl, hk⟩] at h
  cases h
theorem findL_most (M : MemG) (pc : Nat) : ∀ n k, (findL M pc n k).length ≤ n
  | 0, _ => Nat.le_refl _
  | n + 1, k => by
    rw [findL]
    split
    · split
      · simp
      · have := findL_most M pc n (k + 1)
        rw [List.length_cons]; omega
    · exact Nat.zero_le _
structure FewB (M : MemG) : Prop where
  pages : M.pages.length ≤ 12
  budget : M.budget = 50
theorem FewB.write {M : MemG} (h : FewB M) (a : Nat) (l : Bytes) (most need : Int) : FewB (writeM M a l most need).2 := by
  unfold writeM
  split
  · exact h
  · split
    · exact h
    · exact ⟨by rw [← List.length_map (f := (·.1)), wrM_keys, List.length_map]; exact h.pages, by rw [wrM_budget]; exact h.budget⟩
theorem few_made (xs : List Int) : FewB (madeM xs) := FewB.write (FewB.write ⟨by decide +kernel, by kernel_rfl⟩ _ _ _ _) _ _ _ _
theorem insAt {B : Option Addr} {d : Nat} {T : List InsP} {ρ : Hp} (r : RdS 5 B T.length d (T.flatMap InsP.cells) ρ) {i : Nat} {x : InsP} (e : T[i]? = some x) : ∃ ad, B = some ad ∧ Cells ρ (ad.add (i * 5)) x.cells := by
  obtain ⟨ad, h1, h2, _⟩ := RdRows.at (c := InsP.cells) (I := fun _ _ => True) (s := ⟨B, d, T⟩) (fun _ => rfl) (by decide) ⟨r, fun _ _ => trivial⟩ e
  exact ⟨ad, h1, h2⟩
theorem blockFinds_spec (s : Sl Int) (pc : Nat) (most changes : Int) (hs : ∀ x ∈ s.xs, ∃ m : Nat, x = m ∧ m < 4294967296) (hpc : pc < 4294967296) : Spec Try.prog 3 #[s.v, .int .u32 pc, .int .i64 most, .int .i64 changes] (RdI .u32 s) [] (fun ρ ρ' v L => v = .bool true ∧ L = []) := by
  obtain ⟨A, c, xs⟩ := s
  dsimp only [Sl.v]
  refine Spec.of 149 Try.func3 rfl Try.ntmps3 [(0, _), (1, _), (2, _), (3, _)] rfl rfl ?_
  intro cx ρ hr h0
  have hrs := hr
  have lx : xs.length ≤ 281474976710656 := hrs.2.1.2
  refine Cd.seq fun K1 hK1 => ?_
  refine Cd.plain [(0, false)] rfl rfl ?_
  refine Jp.y 8 rfl (want_all rfl) rfl rfl Kp.true (Y.assign rfl rfl) ?_
  refine Jp.done hK1 ?_
  refine Cd.seq fun K2 hK2 => ?_
  refine Cd.seq fun K3 hK3 => ?_
  refine Cd.plain [(0, false), (1, false)] rfl rfl ?_
  refine Jp.call [] [] awake18_spec 19 rfl (want_all rfl) rfl rfl (Runs.fn rfl Try.call4 rfl) (by decide) (by decide) rfl trivial ?_
  rintro v1 ρ1 L1 ⟨rfl, rfl⟩
  refine ⟨rfl, fun hle1 => ⟨Kp.true, ?_⟩⟩
  have hrs := RdI.up _ _ _ _ hle1 hrs
  refine Jp.y 20 rfl (want_all rfl) rfl rfl Kp.true (Y.not rfl rfl) ?_
  refine Jp.done hK3 ?_
  refine Cd.cond rfl (fun g20 => ?_) (fun g20 => ?_)
  · skip
    exact absurd g20 (by simp)
  try simp only [decide_eq_false_iff_not, decide_eq_true_eq, Int.not_lt, Int.not_le, Bool.not_eq_false, Bool.not_eq_true, Bool.not_true, Bool.not_false, Bool.not_eq_true', Bool.not_eq_false', beq_eq_false_iff_ne, ne_eq, beq_iff_eq, bne_iff_ne, bne_eq_false_iff_eq, Classical.not_not] at g20
  refine Cd.skip hK2 ?_
  refine Cd.seq fun K4 hK4 => ?_
  refine Cd.seq fun K5 hK5 => ?_
  refine Cd.plain [(0, false), (1, false), (2, false), (3, false), (4, false), (5, false), (6, false), (7, false), (8, false), (9, false), (10, false)] rfl rfl ?_
  refine Jp.y 21 rfl (want_all rfl) rfl rfl Kp.true (Y.move rfl rfl) ?_
  refine Jp.y 22 rfl (want_all rfl) rfl rfl Kp.true (Y.lenslice rfl Try.underlying22 rfl) ?_
  refine Jp.y 23 rfl (want_all rfl) rfl rfl Kp.true (Y.gtr rfl rfl rfl) ?_
  refine Jp.y 24 rfl (want_all rfl) rfl rfl Kp.true (Y.move rfl rfl) ?_
  refine Jp.split 24 rfl (fun g24 => ?_) (fun g24 => ?_)
  · skip
    refine Jp.skip 25 rfl (want_as rfl rfl rfl rfl) rfl rfl Kp.true ?_
    refine Jp.skip 26 rfl (want_as rfl rfl rfl rfl) rfl rfl Kp.true ?_
    refine Jp.y 27 rfl (want_all rfl) rfl rfl Kp.true (Y.pickT rfl rfl rfl) ?_
    refine Jp.y 28 rfl (want_all rfl) rfl rfl Kp.true (Y.move rfl rfl) ?_
    refine Jp.skip 29 rfl (want_as rfl rfl rfl rfl) rfl rfl Kp.true ?_
    refine Jp.skip 30 rfl (want_as rfl rfl rfl rfl) rfl rfl Kp.true ?_
    refine Jp.y 31 rfl (want_all rfl) rfl rfl Kp.true (Y.pickT rfl rfl rfl) ?_
    refine Jp.done hK5 ?_
    refine Cd.condT rfl ?_
    refine Cd.seq fun K6 hK6 => ?_
    refine Cd.plain [(0, false)] rfl rfl ?_
    refine Jp.y 8 rfl (want_all rfl) rfl rfl Kp.true (Y.assign rfl rfl) ?_
    refine Jp.done hK6 ?_
    refine Cd.ret [] rfl (res1 rfl rfl) trivial ⟨rfl, rfl⟩
  try simp only [decide_eq_false_iff_not, decide_eq_true_eq, Int.not_lt, Int.not_le, Bool.not_eq_false, Bool.not_eq_true, Bool.not_true, Bool.not_false, Bool.not_eq_true', Bool.not_eq_false', beq_eq_false_iff_ne, ne_eq, beq_iff_eq, bne_iff_ne, bne_eq_false_iff_eq, Classical.not_not] at g24
  refine Jp.y 25 rfl (want_as rfl rfl rfl rfl) rfl rfl Kp.true (Y.move rfl rfl) ?_
  refine Jp.y 26 rfl (want_as rfl rfl rfl rfl) rfl rfl Kp.true (Y.lss rfl rfl rfl) ?_
  refine Jp.y 27 rfl (want_all rfl) rfl rfl Kp.true (Y.pickF rfl rfl rfl) ?_
  refine Jp.y 28 rfl (want_all rfl) rfl rfl Kp.true (Y.move rfl rfl) ?_
  refine Jp.split 28 rfl (fun g28 => ?_) (fun g28 => ?_)
  · skip
    refine Jp.skip 29 rfl (want_as rfl rfl rfl rfl) rfl rfl Kp.true ?_
    refine Jp.skip 30 rfl (want_as rfl rfl rfl rfl) rfl rfl Kp.true ?_
    refine Jp.y 31 rfl (want_all rfl) rfl rfl Kp.true (Y.pickT rfl rfl rfl) ?_
    refine Jp.done hK5 ?_
    refine Cd.condT rfl ?_
    refine Cd.seq fun K7 hK7 => ?_
    refine Cd.plain [(0, false)] rfl rfl ?_
    refine Jp.y 8 rfl (want_all rfl) rfl rfl Kp.true (Y.assign rfl rfl) ?_
    refine Jp.done hK7 ?_
    refine Cd.ret [] rfl (res1 rfl rfl) trivial ⟨rfl, rfl⟩
  try simp only [decide_eq_false_iff_not, decide_eq_true_eq, Int.not_lt, Int.not_le, Bool.not_eq_false, Bool.not_eq_true, Bool.not_true, Bool.not_false, Bool.not_eq_true', Bool.not_eq_false', beq_eq_false_iff_ne, ne_eq, beq_iff_eq, bne_iff_ne, bne_eq_false_iff_eq, Classical.not_not] at g28
  refine Jp.y 29 rfl (want_as rfl rfl rfl rfl) rfl rfl Kp.true (Y.move rfl rfl) ?_
  refine Jp.y 30 rfl (want_as rfl rfl rfl rfl) rfl rfl Kp.true (Y.gtr rfl rfl rfl) ?_
  refine Jp.y 31 rfl (want_all rfl) rfl rfl Kp.true (Y.pickF rfl rfl rfl) ?_
  refine Jp.done hK5 ?_
  refine Cd.cond rfl (fun g31 => ?_) (fun g31 => ?_)
  · skip
    refine Cd.seq fun K8 hK8 => ?_
    refine Cd.plain [(0, false)] rfl rfl ?_
    refine Jp.y 8 rfl (want_all rfl) rfl rfl Kp.true (Y.assign rfl rfl) ?_
    refine Jp.done hK8 ?_
    refine Cd.ret [] rfl (res1 rfl rfl) trivial ⟨rfl, rfl⟩
  try simp only [decide_eq_false_iff_not, decide_eq_true_eq, Int.not_lt, Int.not_le, Bool.not_eq_false, Bool.not_eq_true, Bool.not_true, Bool.not_false, Bool.not_eq_true', Bool.not_eq_false', beq_eq_false_iff_ne, ne_eq, beq_iff_eq, bne_iff_ne, bne_eq_false_iff_eq, Classical.not_not] at g31
  refine Cd.skip hK4 ?_
  refine Cd.seq fun K9 hK9 => ?_
  refine Cd.plain [(0, false), (1, false), (2, false)] rfl rfl ?_
  obtain ⟨ch, rfl⟩ := Int.eq_ofNat_of_zero_le (show 0 ≤ changes by omega)
  have hch : ch ≤ 5 := by omega
  refine Jp.y 32 rfl (want_all rfl) rfl rfl Kp.true (Y.move rfl rfl) ?_
  refine Jp.call [] [0] (made_spec A c xs hs) 33 rfl (want_all rfl) rfl rfl (Runs.fn rfl Try.call5 rfl) (by decide) (by decide) rfl hrs ?_
  rintro v2 ρ2 L2 ⟨b, rfl, rfl⟩
  refine ⟨rfl, fun hle2 => ⟨Kp.true, ?_⟩⟩
  have hle0 : Hp.le cx.r0 ρ2 := by rw [h0]; exact Hp.le_trans hle1 hle2
  refine Jp.y 9 rfl (want_all rfl) rfl rfl Kp.true (Y.assign rfl rfl) ?_
  refine Jp.done hK9 ?_
  refine Cd.seq fun K10 hK10 => ?_
  refine Cd.seq fun K11 hK11 => ?_
  refine Cd.plain [(0, false)] rfl rfl ?_
  refine Jp.y 10 rfl (want_all rfl) rfl rfl Kp.true (Y.assign rfl rfl) ?_
  refine Jp.done hK11 ?_
  refine Cd.block ?_
  refine Cd.joinG (G := MemG) (fun M => FewB M) (fun _ => []) [(1, _), (2, _), (9, _)] ⟨rfl, rfl, rfl, trivial⟩ (fun M => [(0, MemO b M)]) [] trivial hK10 (fun g hφ => ?_) (fun hj1 => ?_)
  · obtain ⟨M, hMe⟩ : ∃ M, M = g := ⟨_, rfl⟩
    rw [← hMe] at hφ ⊢
    obtain ⟨hp12, hb50⟩ := hφ
    refine Cd.know (A := MemO b M) 0 rfl memO_okM fun hmem => ?_
    refine Cd.seq fun K12 hK12 => ?_
    refine Cd.plain [(0, false), (1, false), (2, false)] rfl rfl ?_
    refine Jp.y 44 rfl (want_all rfl) rfl rfl Kp.true (Y.move rfl rfl) ?_
    refine Jp.call [0] [0, 2, 3] (mem2_spec b M 50 (sorts12 _ hp12)) 45 rfl (want_all rfl) rfl rfl (Runs.fn rfl Try.call7 rfl) (by decide) (by decide) rfl trivial ?_
    rintro v3 ρ3 L3 ⟨b2, PA, pcap, rfl, rfl⟩
    refine ⟨rfl, fun hle3 => ⟨Kp.true, ?_⟩⟩
    refine Jp.y 11 rfl (want_all rfl) rfl rfl Kp.true (Y.assign rfl rfl) ?_
    refine Jp.done hK12 ?_
    refine Cd.seq fun K13 hK13 => ?_
    refine Cd.plain [(0, false), (1, false), (2, false), (3, false), (4, false), (5, false), (6, false), (7, false), (8, false), (9, false), (10, false)] rfl rfl ?_
    obtain ⟨W, hW⟩ : ∃ W : MemG, W = ⟨50, M.pages, fun _ => 0⟩ := ⟨_, rfl⟩
    have hWp : W.pages = M.pages := by rw [hW]
    have hWok : MemOk W := by
      rw [hW]
      exact ⟨hmem.rising, hmem.page, fun _ => (by decide : 0 < 4294967296), (by have := hmem.room; rw [hb50] at this; exact this), (by decide : 1 ≤ 50 ∧ 50 ≤ 4096)⟩
    refine Jp.make 4 (A := OwnS 94 2 none 0 0 []) (OwnS.nil _ _ _) ?_
    refine Jp.refClose (b := b2) (M := W) (A := PA) (c := pcap) (B := none) (d' := 0) (g := []) 2 3 4 (by decide) ⟨hWok, ⟨fun _ => by rw [hW]; rfl, List.nodup_nil, fun y h => (List.not_mem_nil h).elim⟩⟩ (by rw [hW]; rfl) (by rw [hWp]; rfl) rfl ?_
    have hfl : ∀ n k, findL W pc n k = findL M pc n k := findL_pg hWp pc
    have hfp : fetchP W pc = fetchP M pc := fetchP_pg hWp pc
    have hF := find_spec b M pc most hpc
    have hG := find18_spec b2 W pc most hpc
    rw [hfl, hfp] at hG
    have hnil := find_nilB (M := M) (most := most) hpc
    have hmost := findL_most M pc (mostP most) 0
    have hm64 : mostP most ≤ 64 := by unfold mostP; omega
    obtain ⟨T, hT⟩ : ∃ T, findL M pc (mostP most) 0 = T := ⟨_, rfl⟩
    obtain ⟨ev, hev⟩ : ∃ e, (fetchP M pc).2 = e := ⟨_, rfl⟩
    obtain ⟨gW, hgW⟩ : ∃ g, W.gens (baseN pc) = g := ⟨_, rfl⟩
    obtain ⟨gM, hgM⟩ : ∃ g, M.gens (baseN pc) = g := ⟨_, rfl⟩
    rw [hT, hev, hgM] at hF
    rw [hT, hev, hgW] at hG
    rw [hT] at hmost
    rw [hT, hev] at hnil
    have hfr : ∀ B l d, _ := fun B l d => fresh_spec b M pc gM l d B hpc
    clear hT hev hW hWok hWp hfl hfp
    obtain ⟨kd, ad, wy⟩ := ev
    by_cases hTn : T = []
    · subst hTn
      have hnil : kd ≠ 0 := hnil rfl
      have hF' : Spec Try.prog 8 #[.pointer (some ⟨b, 0, none⟩), .int .u32 pc, .int .i64 most] (fun _ => True) [(0, MemO b M)] (fun ρ ρ' v L => ρ' = ρ ∧ v = .tuple #[.agg (blockC 0 none 0 0 0).toArray, .agg (EvP.mk kd ad wy).cells.toArray] ∧ L = [(0, MemO b M)]) :=
        hF.mono (fun _ h => h) (by rintro ρ ρ' v L ⟨h1, ⟨_, h2, h3⟩ | ⟨h2, _⟩⟩; exact ⟨h1, h2, h3⟩; exact absurd rfl h2)
      have hG' : Spec Try.prog 9 #[.pointer (some ⟨b2, 0, none⟩), .int .u32 pc, .int .i64 most] (fun _ => True) [(0, RefO b2 W)] (fun ρ ρ' v L => ρ' = ρ ∧ v = .tuple #[.agg (blockC 0 none 0 0 0).toArray, .agg (EvP.mk kd ad wy).cells.toArray] ∧ L = [(0, RefO b2 W)]) :=
        hG.mono (fun _ h => h) (by rintro ρ ρ' v L ⟨h1, ⟨_, h2, h3⟩ | ⟨h2, _⟩⟩; exact ⟨h1, h2, h3⟩; exact absurd rfl h2)
      refine Jp.y 47 rfl (want_all rfl) rfl rfl Kp.true (Y.move rfl rfl) ?_
      refine Jp.y 48 rfl (want_all rfl) rfl rfl Kp.true (Y.move rfl rfl) ?_
      refine Jp.y 49 rfl (want_all rfl) rfl rfl Kp.true (Y.move rfl rfl) ?_
      refine Jp.call [0] [0] hF' 50 rfl (want_all rfl) rfl rfl (Runs.fn rfl Try.call8 rfl) (by decide) (by decide) rfl trivial ?_
      rintro v10 ρ10 L10 ⟨rfl, rfl, rfl⟩
      refine ⟨rfl, fun hle10 => ⟨Kp.true, ?_⟩⟩
      refine Jp.y 46 rfl (want_all rfl) rfl rfl Kp.true (Y.move rfl rfl) ?_
      refine Jp.y 51 rfl (want_all rfl) rfl rfl Kp.true (Y.extract rfl rfl rfl) ?_
      refine Jp.y 52 rfl (want_all rfl) rfl rfl Kp.true (Y.extract rfl rfl rfl) ?_
      refine Jp.alloc 12 12 rfl (want_all rfl) rfl rfl rfl Try.zeroValue34 fun b12 => ⟨Kp.true, ?_⟩
      refine Jp.alloc 13 13 rfl (want_all rfl) rfl rfl rfl Try.zeroValue37 fun b13 => ⟨Kp.true, ?_⟩
      first | refine Jp.storeAll 12 rfl (want_all rfl) rfl rfl Try.sizeOf34 rfl rfl (by first | rfl | assumption) (by first | rfl | assumption) rfl (by first | rfl | assumption) (fun k _ _ => noFr0 k) Kp.true ?_ | refine Jp.storeAll 13 rfl (want_all rfl) rfl rfl Try.sizeOf34 rfl rfl (by first | rfl | assumption) (by first | rfl | assumption) rfl (by first | rfl | assumption) (fun k _ _ => noFr0 k) Kp.true ?_
      first | refine Jp.storeAll 12 rfl (want_all rfl) rfl rfl Try.sizeOf37 rfl rfl (by first | rfl | assumption) (by first | rfl | assumption) rfl (by first | rfl | assumption) (fun k _ _ => noFr0 k) Kp.true ?_ | refine Jp.storeAll 13 rfl (want_all rfl) rfl rfl Try.sizeOf37 rfl rfl (by first | rfl | assumption) (by first | rfl | assumption) rfl (by first | rfl | assumption) (fun k _ _ => noFr0 k) Kp.true ?_
      refine Jp.done hK13 ?_
      refine Cd.seq fun K14 hK14 => ?_
      refine Cd.plain [(0, false), (1, false), (2, false), (3, false), (4, false), (5, false), (6, false), (7, false), (8, false), (9, false), (10, false)] rfl rfl ?_
      refine Jp.y 54 rfl (want_all rfl) rfl rfl Kp.true (Y.move rfl rfl) ?_
      refine Jp.y 55 rfl (want_all rfl) rfl rfl Kp.true (Y.move rfl rfl) ?_
      refine Jp.y 56 rfl (want_all rfl) rfl rfl Kp.true (Y.move rfl rfl) ?_
      refine Jp.imp (j := 12) rfl (fun h hh => (show Pt b12 (.cells (blockC 0 none 0 0 0).toArray 34) h from hh)) ?_
      refine Jp.imp (j := 13) rfl (fun h hh => (show Pt b13 (.cells (EvP.mk kd ad wy).cells.toArray 37) h from hh)) ?_
      refine Jp.call [2] [2] hG' 57 rfl (want_all rfl) rfl rfl (Runs.fn rfl Try.call9 rfl) (by decide) (by decide) rfl trivial ?_
      rintro v11 ρ11 L11 ⟨rfl, rfl, rfl⟩
      refine ⟨rfl, fun hle11 => ⟨Kp.true, ?_⟩⟩
      refine Jp.y 53 rfl (want_all rfl) rfl rfl Kp.true (Y.move rfl rfl) ?_
      refine Jp.y 58 rfl (want_all rfl) rfl rfl Kp.true (Y.extract rfl rfl rfl) ?_
      refine Jp.y 59 rfl (want_all rfl) rfl rfl Kp.true (Y.extract rfl rfl rfl) ?_
      refine Jp.alloc 14 14 rfl (want_all rfl) rfl rfl rfl Try.zeroValue42 fun b14 => ⟨Kp.true, ?_⟩
      refine Jp.alloc 15 15 rfl (want_all rfl) rfl rfl rfl Try.zeroValue37 fun b15 => ⟨Kp.true, ?_⟩
      first | refine Jp.storeAll 14 rfl (want_all rfl) rfl rfl Try.sizeOf42 rfl rfl (by first | rfl | assumption) (by first | rfl | assumption) rfl (by first | rfl | assumption) (fun k _ _ => noFr0 k) Kp.true ?_ | refine Jp.storeAll 15 rfl (want_all rfl) rfl rfl Try.sizeOf42 rfl rfl (by first | rfl | assumption) (by first | rfl | assumption) rfl (by first | rfl | assumption) (fun k _ _ => noFr0 k) Kp.true ?_ | refine Jp.storeAll 14 rfl (want_all rfl) rfl rfl Try.sizeOf42 rfl rfl (by first | rfl | assumption) (by first | rfl | assumption) rfl (by first | rfl | assumption) (fun k _ _ => noFr0 k) Kp.true ?_ | refine Jp.storeAll 15 rfl (want_all rfl) rfl rfl Try.sizeOf42 rfl rfl (by first | rfl | assumption) (by first | rfl | assumption) rfl (by first | rfl | assumption) (fun k _ _ => noFr0 k) Kp.true ?_
      first | refine Jp.storeAll 14 rfl (want_all rfl) rfl rfl Try.sizeOf37 rfl rfl (by first | rfl | assumption) (by first | rfl | assumption) rfl (by first | rfl | assumption) (fun k _ _ => noFr0 k) Kp.true ?_ | refine Jp.storeAll 15 rfl (want_all rfl) rfl rfl Try.sizeOf37 rfl rfl (by first | rfl | assumption) (by first | rfl | assumption) rfl (by first | rfl | assumption) (fun k _ _ => noFr0 k) Kp.true ?_ | refine Jp.storeAll 14 rfl (want_all rfl) rfl rfl Try.sizeOf37 rfl rfl (by first | rfl | assumption) (by first | rfl | assumption) rfl (by first | rfl | assumption) (fun k _ _ => noFr0 k) Kp.true ?_ | refine Jp.storeAll 15 rfl (want_all rfl) rfl rfl Try.sizeOf37 rfl rfl (by first | rfl | assumption) (by first | rfl | assumption) rfl (by first | rfl | assumption) (fun k _ _ => noFr0 k) Kp.true ?_
      refine Jp.done hK14 ?_
      refine Cd.seq fun K15 hK15 => ?_
      refine Cd.seq fun K16 hK16 => ?_
      refine Cd.drawn [(12, _), (13, _), (14, _), (15, _)] ⟨rfl, rfl, rfl, rfl, trivial⟩ [(0, true), (1, true), (2, true), (3, true), (4, true), (5, true), (6, true), (7, true), (8, true), (9, true), (10, true), (11, true), (12, true), (13, true), (14, true), (15, true), (16, true), (17, true), (18, true), (19, true), (20, true), (21, true), (22, true), (23, true), (24, true), (25, true), (26, false), (27, true), (28, true), (29, true), (30, true)] follows (by kernel_rfl) (fun hrl => ?_)
      refine Jp.q 60 rfl (want_all rfl) rfl rfl (by first | exact Y.loadAggO 12 rfl Try.isAgg37 Try.sizeOf37 rfl rfl (by first | rfl | assumption) | exact Y.loadAggO 13 rfl Try.isAgg37 Try.sizeOf37 rfl rfl (by first | rfl | assumption) | exact Y.loadAggO 14 rfl Try.isAgg37 Try.sizeOf37 rfl rfl (by first | rfl | assumption) | exact Y.loadAggO 15 rfl Try.isAgg37 Try.sizeOf37 rfl rfl (by first | rfl | assumption)) ?_
      refine Jp.q 61 rfl (want_all rfl) rfl rfl (by first | exact Y.loadAggO 12 rfl Try.isAgg37 Try.sizeOf37 rfl rfl (by first | rfl | assumption) | exact Y.loadAggO 13 rfl Try.isAgg37 Try.sizeOf37 rfl rfl (by first | rfl | assumption) | exact Y.loadAggO 14 rfl Try.isAgg37 Try.sizeOf37 rfl rfl (by first | rfl | assumption) | exact Y.loadAggO 15 rfl Try.isAgg37 Try.sizeOf37 rfl rfl (by first | rfl | assumption)) ?_
      refine Jp.q 62 rfl (want_all rfl) rfl rfl (Y.neqS (xs := (EvP.mk kd ad wy).cells.toArray) (ys := (EvP.mk kd ad wy).cells.toArray) (r := true) rfl rfl rfl ev_guard ev_fields ev_stood (fun w => by rw [ev_eq, (evEq_iff _ _).2 rfl])) ?_
      refine Jp.slot 62 rfl (show _ = Value.bool false from rfl) ?_
      refine Jp.q 63 rfl (want_all rfl) rfl rfl (Y.move rfl rfl) ?_
      refine Jp.slot 63 rfl (show _ = Value.bool false from rfl) ?_
      refine Jp.q 64 rfl (want_as rfl rfl rfl rfl) rfl rfl (by first | exact Y.fieldAddrP rfl rfl Try.underlying34 rfl Try.sizeOf32 (by decide) (show _ + 1 = _ from rfl) | exact Y.fieldAddr rfl rfl Try.underlying34 rfl Try.sizeOf32 (by decide)) ?_
      refine Jp.q 65 rfl (want_as rfl rfl rfl rfl) rfl rfl (by first | exact Y.loadO 12 rfl Try.isAgg32 rfl rfl rfl | exact Y.loadO 13 rfl Try.isAgg32 rfl rfl rfl | exact Y.loadO 14 rfl Try.isAgg32 rfl rfl rfl | exact Y.loadO 15 rfl Try.isAgg32 rfl rfl rfl) ?_
      refine Jp.q 66 rfl (want_as rfl rfl rfl rfl) rfl rfl (Y.lenslice rfl Try.underlying32 rfl) ?_
      refine Jp.q 67 rfl (want_as rfl rfl rfl rfl) rfl rfl (by first | exact Y.fieldAddrP rfl rfl Try.underlying42 rfl Try.sizeOf40 (by decide) (show _ + 1 = _ from rfl) | exact Y.fieldAddr rfl rfl Try.underlying42 rfl Try.sizeOf40 (by decide)) ?_
      refine Jp.q 68 rfl (want_as rfl rfl rfl rfl) rfl rfl (by first | exact Y.loadO 12 rfl Try.isAgg40 rfl rfl rfl | exact Y.loadO 13 rfl Try.isAgg40 rfl rfl rfl | exact Y.loadO 14 rfl Try.isAgg40 rfl rfl rfl | exact Y.loadO 15 rfl Try.isAgg40 rfl rfl rfl) ?_
      refine Jp.q 69 rfl (want_as rfl rfl rfl rfl) rfl rfl (Y.lenslice rfl Try.underlying40 rfl) ?_
      refine Jp.q 70 rfl (want_as rfl rfl rfl rfl) rfl rfl (Y.neq rfl rfl rfl) ?_
      refine Jp.slot 70 rfl (show _ = Value.bool false from congrArg Value.bool (by simp)) ?_
      refine Jp.q 71 rfl (want_all rfl) rfl rfl (Y.pickF rfl rfl rfl) ?_
      refine Jp.slot 71 rfl (show _ = Value.bool false from rfl) ?_
      refine Jp.q 72 rfl (want_all rfl) rfl rfl (Y.move rfl rfl) ?_
      refine Jp.slot 72 rfl (show _ = Value.bool false from rfl) ?_
      refine Jp.q 73 rfl (want_as rfl rfl rfl rfl) rfl rfl (by first | exact Y.fieldAddrP rfl rfl Try.underlying37 rfl Try.sizeOf3 (by decide) (show _ + 0 = _ from rfl) | exact Y.fieldAddr rfl rfl Try.underlying37 rfl Try.sizeOf3 (by decide)) ?_
      refine Jp.q 74 rfl (want_as rfl rfl rfl rfl) rfl rfl (by first | exact Y.loadO 12 rfl Try.isAgg3 rfl rfl rfl | exact Y.loadO 13 rfl Try.isAgg3 rfl rfl rfl | exact Y.loadO 14 rfl Try.isAgg3 rfl rfl rfl | exact Y.loadO 15 rfl Try.isAgg3 rfl rfl rfl) ?_
      refine Jp.q 75 rfl (want_as rfl rfl rfl rfl) rfl rfl (Y.eql rfl rfl rfl) ?_
      refine Jp.slot 75 rfl (show _ = Value.bool false from congrArg Value.bool (by simp; omega)) ?_
      refine Jp.q 76 rfl (want_as rfl rfl rfl rfl) rfl rfl (Y.move rfl rfl) ?_
      refine Jp.slot 76 rfl (show _ = Value.bool false from rfl) ?_
      refine Jp.qskip 77 rfl (want_as rfl rfl rfl rfl) rfl rfl ?_
      refine Jp.qskip 78 rfl (want_as rfl rfl rfl rfl) rfl rfl ?_
      refine Jp.qskip 79 rfl (want_as rfl rfl rfl rfl) rfl rfl ?_
      refine Jp.qskip 80 rfl (want_as rfl rfl rfl rfl) rfl rfl ?_
      refine Jp.qskip 81 rfl (want_as rfl rfl rfl rfl) rfl rfl ?_
      refine Jp.qskip 82 rfl (want_un rfl rfl rfl) rfl rfl ?_
      refine Jp.qskip 83 rfl (want_un rfl rfl rfl) rfl rfl ?_
      refine Jp.qskip 84 rfl (want_un rfl rfl rfl) rfl rfl ?_
      refine Jp.qskip 85 rfl (want_un rfl rfl rfl) rfl rfl ?_
      refine Jp.skip 86 rfl (want_un rfl rfl rfl) rfl rfl (Kp.st ⟨rfl, rfl, rfl, rfl, trivial⟩) ?_
      refine Jp.qskip 87 rfl (want_un rfl rfl rfl) rfl rfl ?_
      refine Jp.qskip 88 rfl (want_as rfl rfl rfl rfl) rfl rfl ?_
      refine Jp.q 89 rfl (want_as rfl rfl rfl rfl) rfl rfl (Y.pickF rfl rfl rfl) ?_
      refine Jp.slot 89 rfl (show _ = Value.bool false from rfl) ?_
      refine Jp.q 90 rfl (want_all rfl) rfl rfl (Y.pickF rfl rfl rfl) ?_
      refine Jp.slot 90 rfl (show _ = Value.bool false from rfl) ?_
      refine Jp.done hK16 ?_
      refine Cd.condF rfl ?_
      refine Cd.skip hK15 ?_
      refine Cd.seq fun K18 hK18 => ?_
      refine Cd.seq fun K19 hK19 => ?_
      refine Cd.plain [(0, false)] rfl rfl ?_
      refine Jp.y 16 rfl (want_all rfl) rfl rfl Kp.true (Y.assign rfl rfl) ?_
      refine Jp.done hK19 ?_
      refine Cd.block ?_
      refine Cd.loopK (G := Nat) (fun g => g = 0) (fun _ => 0) (fun _ => _) (fun g => [(16, .int .i64 (g : Int))]) [(9, _), (12, _), (13, _), (14, _)] (fun _ => []) [(0, _), (12, _), (13, _)] 0 rfl rfl ⟨rfl, trivial⟩ ⟨rfl, rfl, rfl, rfl, trivial⟩ trivial ⟨rfl, rfl, rfl, trivial⟩ (fun g KLz hok hLz => ?_)
      subst hok
      refine Cd.seq fun K20 hK20 => ?_
      refine Cd.seq fun K21 hK21 => ?_
      refine Cd.plain [(0, false), (1, false), (2, false), (3, false), (4, false)] rfl rfl ?_
      refine Jp.y 91 rfl (want_all rfl) rfl rfl Kp.true (Y.move rfl rfl) ?_
      refine Jp.y 92 rfl (want_all rfl) rfl rfl Kp.true (by first | exact Y.fieldAddrP rfl rfl Try.underlying34 rfl Try.sizeOf32 (by decide) (show _ + 1 = _ from rfl) | exact Y.fieldAddr rfl rfl Try.underlying34 rfl Try.sizeOf32 (by decide)) ?_
      refine Jp.y 93 rfl (want_all rfl) rfl rfl Kp.true (by first | exact Y.loadO 12 rfl Try.isAgg32 rfl rfl rfl | exact Y.loadO 13 rfl Try.isAgg32 rfl rfl rfl) ?_
      refine Jp.y 94 rfl (want_all rfl) rfl rfl Kp.true (Y.lenslice rfl Try.underlying32 rfl) ?_
      refine Jp.y 95 rfl (want_all rfl) rfl rfl Kp.true (Y.lss rfl rfl rfl) ?_
      refine Jp.done hK21 ?_
      refine Cd.cond rfl (fun gz => ?_) (fun gz => ?_)
      · exact absurd gz (by simp)
      · skip
        refine Cd.exit rfl hK18 ?_
        refine Cd.seq fun K22 hK22 => ?_
        refine Cd.plain [(0, false), (1, false), (2, false), (3, false), (4, false), (5, false), (6, false), (7, false), (8, false)] rfl rfl ?_
        refine Jp.y 141 rfl (want_all rfl) rfl rfl Kp.true (by first | exact Y.fieldAddrP rfl rfl Try.underlying37 rfl Try.sizeOf3 (by decide) (show _ + 0 = _ from rfl) | exact Y.fieldAddr rfl rfl Try.underlying37 rfl Try.sizeOf3 (by decide)) ?_
        refine Jp.y 142 rfl (want_all rfl) rfl rfl Kp.true (by first | exact Y.loadO 12 rfl Try.isAgg3 rfl rfl rfl | exact Y.loadO 13 rfl Try.isAgg3 rfl rfl rfl) ?_
        refine Jp.y 143 rfl (want_all rfl) rfl rfl Kp.true (Y.neq rfl rfl rfl) ?_
        refine Jp.slot 143 rfl (show _ = Value.bool true from congrArg Value.bool (by simp; omega)) ?_
        refine Jp.y 144 rfl (want_all rfl) rfl rfl Kp.true (Y.move rfl rfl) ?_
        refine Jp.slot 144 rfl (show _ = Value.bool true from rfl) ?_
        refine Jp.skip 145 rfl (want_as rfl rfl rfl rfl) rfl rfl Kp.true ?_
        refine Jp.skip 146 rfl (want_as rfl rfl rfl rfl) rfl rfl Kp.true ?_
        refine Jp.skip 147 rfl (want_as rfl rfl rfl rfl) rfl rfl Kp.true ?_
        refine Jp.y 148 rfl (want_all rfl) rfl rfl Kp.true (Y.pickT rfl rfl rfl) ?_
        refine Jp.y 8 rfl (want_all rfl) rfl rfl Kp.true (Y.assign rfl rfl) ?_
        refine Jp.done hK22 ?_
        refine Cd.ret [] rfl (res1 rfl rfl) trivial ⟨rfl, rfl⟩
    · have hF' : Spec Try.prog 8 #[.pointer (some ⟨b, 0, none⟩), .int .u32 pc, .int .i64 most] (fun _ => True) [(0, MemO b M)] (fun ρ ρ' v L => ρ' = ρ ∧ ∃ B d, v = .tuple #[.agg (blockC pc B T.length d gM).toArray, .agg noEv.cells.toArray] ∧ L = [(0, MemO b M), (1, OwnS 47 5 B T.length d (T.flatMap InsP.cells))]) :=
        hF.mono (fun _ h => h) (by rintro ρ ρ' v L ⟨h1, ⟨h2, _⟩ | ⟨_, B, d, h2, h3⟩⟩; exact absurd h2 hTn; exact ⟨h1, B, d, h2, h3⟩)
      have hG' : Spec Try.prog 9 #[.pointer (some ⟨b2, 0, none⟩), .int .u32 pc, .int .i64 most] (fun _ => True) [(0, RefO b2 W)] (fun ρ ρ' v L => ρ' = ρ ∧ ∃ B d, v = .tuple #[.agg (blockC pc B T.length d gW).toArray, .agg noEv.cells.toArray] ∧ L = [(0, RefO b2 W), (1, OwnS 48 5 B T.length d (T.flatMap InsP.cells))]) :=
        hG.mono (fun _ h => h) (by rintro ρ ρ' v L ⟨h1, ⟨h2, _⟩ | ⟨_, B, d, h2, h3⟩⟩; exact absurd h2 hTn; exact ⟨h1, B, d, h2, h3⟩)
      refine Jp.y 47 rfl (want_all rfl) rfl rfl Kp.true (Y.move rfl rfl) ?_
      refine Jp.y 48 rfl (want_all rfl) rfl rfl Kp.true (Y.move rfl rfl) ?_
      refine Jp.y 49 rfl (want_all rfl) rfl rfl Kp.true (Y.move rfl rfl) ?_
      refine Jp.call [0] [0, 5] hF' 50 rfl (want_all rfl) rfl rfl (Runs.fn rfl Try.call8 rfl) (by decide) (by decide) rfl trivial ?_
      rintro v10 ρ10 L10 ⟨rfl, B1, d1, rfl, rfl⟩
      refine ⟨rfl, fun hle10 => ⟨Kp.true, ?_⟩⟩
      refine Jp.y 46 rfl (want_all rfl) rfl rfl Kp.true (Y.move rfl rfl) ?_
      refine Jp.y 51 rfl (want_all rfl) rfl rfl Kp.true (Y.extract rfl rfl rfl) ?_
      refine Jp.y 52 rfl (want_all rfl) rfl rfl Kp.true (Y.extract rfl rfl rfl) ?_
      refine Jp.alloc 12 12 rfl (want_all rfl) rfl rfl rfl Try.zeroValue34 fun b12 => ⟨Kp.true, ?_⟩
      refine Jp.alloc 13 13 rfl (want_all rfl) rfl rfl rfl Try.zeroValue37 fun b13 => ⟨Kp.true, ?_⟩
      first | refine Jp.storeAll 12 rfl (want_all rfl) rfl rfl Try.sizeOf34 rfl rfl (by first | rfl | assumption) (by first | rfl | assumption) rfl (by first | rfl | assumption) (fun k _ _ => noFr0 k) Kp.true ?_ | refine Jp.storeAll 13 rfl (want_all rfl) rfl rfl Try.sizeOf34 rfl rfl (by first | rfl | assumption) (by first | rfl | assumption) rfl (by first | rfl | assumption) (fun k _ _ => noFr0 k) Kp.true ?_
      first | refine Jp.storeAll 12 rfl (want_all rfl) rfl rfl Try.sizeOf37 rfl rfl (by first | rfl | assumption) (by first | rfl | assumption) rfl (by first | rfl | assumption) (fun k _ _ => noFr0 k) Kp.true ?_ | refine Jp.storeAll 13 rfl (want_all rfl) rfl rfl Try.sizeOf37 rfl rfl (by first | rfl | assumption) (by first | rfl | assumption) rfl (by first | rfl | assumption) (fun k _ _ => noFr0 k) Kp.true ?_
      refine Jp.done hK13 ?_
      refine Cd.seq fun K23 hK23 => ?_
      refine Cd.plain [(0, false), (1, false), (2, false), (3, false), (4, false), (5, false), (6, false), (7, false), (8, false), (9, false), (10, false)] rfl rfl ?_
      refine Jp.y 54 rfl (want_all rfl) rfl rfl Kp.true (Y.move rfl rfl) ?_
      refine Jp.y 55 rfl (want_all rfl) rfl rfl Kp.true (Y.move rfl rfl) ?_
      refine Jp.y 56 rfl (want_all rfl) rfl rfl Kp.true (Y.move rfl rfl) ?_
      refine Jp.call [2] [2, 6] hG' 57 rfl (want_all rfl) rfl rfl (Runs.fn rfl Try.call9 rfl) (by decide) (by decide) rfl trivial ?_
      rintro v11 ρ11 L11 ⟨rfl, B2, d2, rfl, rfl⟩
      refine ⟨rfl, fun hle11 => ⟨Kp.true, ?_⟩⟩
      refine Jp.freeze (i := 5) rfl (OwnS.up _ _ _ _ _ _) fun ρ5 hle5 hA5 => ?_
      refine Jp.freeze (i := 6) rfl (OwnS.up _ _ _ _ _ _) fun ρ6 hle6 hA6 => ?_
      have hT1 := RdS.up _ _ _ _ _ _ _ hle6 hA5.rd
      have hT2 := hA6.rd
      refine Jp.y 53 rfl (want_all rfl) rfl rfl Kp.true (Y.move rfl rfl) ?_
      refine Jp.y 58 rfl (want_all rfl) rfl rfl Kp.true (Y.extract rfl rfl rfl) ?_
      refine Jp.y 59 rfl (want_all rfl) rfl rfl Kp.true (Y.extract rfl rfl rfl) ?_
      refine Jp.alloc 14 14 rfl (want_all rfl) rfl rfl rfl Try.zeroValue42 fun b14 => ⟨Kp.true, ?_⟩
      refine Jp.alloc 15 15 rfl (want_all rfl) rfl rfl rfl Try.zeroValue37 fun b15 => ⟨Kp.true, ?_⟩
      first | refine Jp.storeAll 14 rfl (want_all rfl) rfl rfl Try.sizeOf42 rfl rfl (by first | rfl | assumption) (by first | rfl | assumption) rfl (by first | rfl | assumption) (fun k _ _ => noFr0 k) Kp.true ?_ | refine Jp.storeAll 15 rfl (want_all rfl) rfl rfl Try.sizeOf42 rfl rfl (by first | rfl | assumption) (by first | rfl | assumption) rfl (by first | rfl | assumption) (fun k _ _ => noFr0 k) Kp.true ?_
      first | refine Jp.storeAll 14 rfl (want_all rfl) rfl rfl Try.sizeOf37 rfl rfl (by first | rfl | assumption) (by first | rfl | assumption) rfl (by first | rfl | assumption) (fun k _ _ => noFr0 k) Kp.true ?_ | refine Jp.storeAll 15 rfl (want_all rfl) rfl rfl Try.sizeOf37 rfl rfl (by first | rfl | assumption) (by first | rfl | assumption) rfl (by first | rfl | assumption) (fun k _ _ => noFr0 k) Kp.true ?_
      refine Jp.done hK23 ?_
      refine Cd.seq fun K24 hK24 => ?_
      refine Cd.seq fun K25 hK25 => ?_
      refine Cd.drawn [(12, _), (13, _), (14, _), (15, _)] ⟨rfl, rfl, rfl, rfl, trivial⟩ [(0, true), (1, true), (2, true), (3, true), (4, true), (5, true), (6, true), (7, true), (8, true), (9, true), (10, true), (11, true), (12, true), (13, true), (14, true), (15, true), (16, true), (17, true), (18, true), (19, true), (20, true), (21, true), (22, true), (23, true), (24, true), (25, true), (26, false), (27, true), (28, true), (29, true), (30, true)] follows (by kernel_rfl) (fun hrl => ?_)
      refine Jp.q 60 rfl (want_all rfl) rfl rfl (by first | exact Y.loadAggO 12 rfl Try.isAgg37 Try.sizeOf37 rfl rfl (by first | rfl | assumption) | exact Y.loadAggO 13 rfl Try.isAgg37 Try.sizeOf37 rfl rfl (by first | rfl | assumption) | exact Y.loadAggO 14 rfl Try.isAgg37 Try.sizeOf37 rfl rfl (by first | rfl | assumption) | exact Y.loadAggO 15 rfl Try.isAgg37 Try.sizeOf37 rfl rfl (by first | rfl | assumption)) ?_
      refine Jp.q 61 rfl (want_all rfl) rfl rfl (by first | exact Y.loadAggO 12 rfl Try.isAgg37 Try.sizeOf37 rfl rfl (by first | rfl | assumption) | exact Y.loadAggO 13 rfl Try.isAgg37 Try.sizeOf37 rfl rfl (by first | rfl | assumption) | exact Y.loadAggO 14 rfl Try.isAgg37 Try.sizeOf37 rfl rfl (by first | rfl | assumption) | exact Y.loadAggO 15 rfl Try.isAgg37 Try.sizeOf37 rfl rfl (by first | rfl | assumption)) ?_
      refine Jp.q 62 rfl (want_all rfl) rfl rfl (Y.neqS (xs := noEv.cells.toArray) (ys := noEv.cells.toArray) (r := true) rfl rfl rfl ev_guard ev_fields ev_stood (fun w => by rw [ev_eq, (evEq_iff _ _).2 rfl])) ?_
      refine Jp.slot 62 rfl (show _ = Value.bool false from rfl) ?_
      refine Jp.q 63 rfl (want_all rfl) rfl rfl (Y.move rfl rfl) ?_
      refine Jp.slot 63 rfl (show _ = Value.bool false from rfl) ?_
      refine Jp.q 64 rfl (want_as rfl rfl rfl rfl) rfl rfl (by first | exact Y.fieldAddrP rfl rfl Try.underlying34 rfl Try.sizeOf32 (by decide) (show _ + 1 = _ from rfl) | exact Y.fieldAddr rfl rfl Try.underlying34 rfl Try.sizeOf32 (by decide)) ?_
      refine Jp.q 65 rfl (want_as rfl rfl rfl rfl) rfl rfl (by first | exact Y.loadO 12 rfl Try.isAgg32 rfl rfl rfl | exact Y.loadO 13 rfl Try.isAgg32 rfl rfl rfl | exact Y.loadO 14 rfl Try.isAgg32 rfl rfl rfl | exact Y.loadO 15 rfl Try.isAgg32 rfl rfl rfl) ?_
      refine Jp.q 66 rfl (want_as rfl rfl rfl rfl) rfl rfl (Y.lenslice rfl Try.underlying32 rfl) ?_
      refine Jp.q 67 rfl (want_as rfl rfl rfl rfl) rfl rfl (by first | exact Y.fieldAddrP rfl rfl Try.underlying42 rfl Try.sizeOf40 (by decide) (show _ + 1 = _ from rfl) | exact Y.fieldAddr rfl rfl Try.underlying42 rfl Try.sizeOf40 (by decide)) ?_
      refine Jp.q 68 rfl (want_as rfl rfl rfl rfl) rfl rfl (by first | exact Y.loadO 12 rfl Try.isAgg40 rfl rfl rfl | exact Y.loadO 13 rfl Try.isAgg40 rfl rfl rfl | exact Y.loadO 14 rfl Try.isAgg40 rfl rfl rfl | exact Y.loadO 15 rfl Try.isAgg40 rfl rfl rfl) ?_
      refine Jp.q 69 rfl (want_as rfl rfl rfl rfl) rfl rfl (Y.lenslice rfl Try.underlying40 rfl) ?_
      refine Jp.q 70 rfl (want_as rfl rfl rfl rfl) rfl rfl (Y.neq rfl rfl rfl) ?_
      refine Jp.slot 70 rfl (show _ = Value.bool false from congrArg Value.bool (by simp)) ?_
      refine Jp.q 71 rfl (want_all rfl) rfl rfl (Y.pickF rfl rfl rfl) ?_
      refine Jp.slot 71 rfl (show _ = Value.bool false from rfl) ?_
      refine Jp.q 72 rfl (want_all rfl) rfl rfl (Y.move rfl rfl) ?_
      refine Jp.slot 72 rfl (show _ = Value.bool false from rfl) ?_
      refine Jp.q 73 rfl (want_as rfl rfl rfl rfl) rfl rfl (by first | exact Y.fieldAddrP rfl rfl Try.underlying37 rfl Try.sizeOf3 (by decide) (show _ + 0 = _ from rfl) | exact Y.fieldAddr rfl rfl Try.underlying37 rfl Try.sizeOf3 (by decide)) ?_
      refine Jp.q 74 rfl (want_as rfl rfl rfl rfl) rfl rfl (by first | exact Y.loadO 12 rfl Try.isAgg3 rfl rfl rfl | exact Y.loadO 13 rfl Try.isAgg3 rfl rfl rfl | exact Y.loadO 14 rfl Try.isAgg3 rfl rfl rfl | exact Y.loadO 15 rfl Try.isAgg3 rfl rfl rfl) ?_
      refine Jp.q 75 rfl (want_as rfl rfl rfl rfl) rfl rfl (Y.eql rfl rfl rfl) ?_
      refine Jp.slot 75 rfl (show _ = Value.bool true from congrArg Value.bool (by simp [noEv])) ?_
      refine Jp.q 76 rfl (want_as rfl rfl rfl rfl) rfl rfl (Y.move rfl rfl) ?_
      refine Jp.slot 76 rfl (show _ = Value.bool true from rfl) ?_
      refine Jp.q 77 rfl (want_as rfl rfl rfl rfl) rfl rfl (by first | exact Y.fieldAddrP rfl rfl Try.underlying34 rfl Try.sizeOf23 (by decide) (show _ + 0 = _ from rfl) | exact Y.fieldAddr rfl rfl Try.underlying34 rfl Try.sizeOf23 (by decide)) ?_
      refine Jp.q 78 rfl (want_as rfl rfl rfl rfl) rfl rfl (by first | exact Y.loadO 12 rfl Try.isAgg23 rfl rfl rfl | exact Y.loadO 13 rfl Try.isAgg23 rfl rfl rfl | exact Y.loadO 14 rfl Try.isAgg23 rfl rfl rfl | exact Y.loadO 15 rfl Try.isAgg23 rfl rfl rfl) ?_
      refine Jp.q 79 rfl (want_as rfl rfl rfl rfl) rfl rfl (Y.move rfl rfl) ?_
      refine Jp.q 80 rfl (want_as rfl rfl rfl rfl) rfl rfl (Y.neq rfl rfl rfl) ?_
      refine Jp.slot 80 rfl (show _ = Value.bool false from congrArg Value.bool (by simp)) ?_
      refine Jp.q 81 rfl (want_as rfl rfl rfl rfl) rfl rfl (Y.move rfl rfl) ?_
      refine Jp.slot 81 rfl (show _ = Value.bool false from rfl) ?_
      refine Jp.q 82 rfl (want_as rfl rfl rfl rfl) rfl rfl (by first | exact Y.fieldAddrP rfl rfl Try.underlying34 rfl Try.sizeOf23 (by decide) (show _ + 2 = _ from rfl) | exact Y.fieldAddr rfl rfl Try.underlying34 rfl Try.sizeOf23 (by decide)) ?_
      refine Jp.q 83 rfl (want_as rfl rfl rfl rfl) rfl rfl (by first | exact Y.loadO 12 rfl Try.isAgg23 rfl rfl rfl | exact Y.loadO 13 rfl Try.isAgg23 rfl rfl rfl | exact Y.loadO 14 rfl Try.isAgg23 rfl rfl rfl | exact Y.loadO 15 rfl Try.isAgg23 rfl rfl rfl) ?_
      refine Jp.q 84 rfl (want_as rfl rfl rfl rfl) rfl rfl (Y.move rfl rfl) ?_
      refine Jp.q 85 rfl (want_as rfl rfl rfl rfl) rfl rfl (Y.move rfl rfl) ?_
      refine Jp.call [0] [0] (gen_spec b M pc hpc) 86 rfl (want_as rfl rfl rfl rfl) rfl rfl (Runs.fn rfl Try.call10 rfl) (by decide) (by decide) rfl trivial ?_
      rintro v12 ρ12 L12 ⟨rfl, rfl, rfl⟩
      refine ⟨rfl, fun hle12 => ⟨(Kp.st ⟨rfl, rfl, rfl, rfl, trivial⟩), ?_⟩⟩
      refine Jp.q 87 rfl (want_as rfl rfl rfl rfl) rfl rfl (Y.neq rfl rfl rfl) ?_
      refine Jp.slot 87 rfl (show _ = Value.bool false from congrArg Value.bool (by rw [hgM]; simp)) ?_
      refine Jp.q 88 rfl (want_as rfl rfl rfl rfl) rfl rfl (Y.pickF rfl rfl rfl) ?_
      refine Jp.slot 88 rfl (show _ = Value.bool false from rfl) ?_
      refine Jp.q 89 rfl (want_as rfl rfl rfl rfl) rfl rfl (Y.pickT rfl rfl rfl) ?_
      refine Jp.slot 89 rfl (show _ = Value.bool false from rfl) ?_
      refine Jp.q 90 rfl (want_all rfl) rfl rfl (Y.pickF rfl rfl rfl) ?_
      refine Jp.slot 90 rfl (show _ = Value.bool false from rfl) ?_
      refine Jp.done hK25 ?_
      refine Cd.condF rfl ?_
      refine Cd.skip hK24 ?_
      refine Cd.seq fun K27 hK27 => ?_
      refine Cd.seq fun K28 hK28 => ?_
      refine Cd.plain [(0, false)] rfl rfl ?_
      refine Jp.y 16 rfl (want_all rfl) rfl rfl Kp.true (Y.assign rfl rfl) ?_
      refine Jp.done hK28 ?_
      refine Cd.block ?_
      refine Cd.loopK (G := Nat) (fun i => i ≤ T.length) (fun i => T.length - i) (fun _ => _) (fun i => [(16, .int .i64 (i : Int))]) [(9, _), (12, _), (13, _), (14, _)] (fun _ => []) [(0, _), (12, _), (13, _), (14, _)] 0 (Nat.zero_le _) rfl ⟨rfl, trivial⟩ ⟨rfl, rfl, rfl, rfl, trivial⟩ trivial ⟨rfl, rfl, rfl, rfl, trivial⟩ (fun g KLz hok hLz => ?_)
      obtain ⟨i, hi⟩ : ∃ i, i = g := ⟨_, rfl⟩
      rw [← hi] at hok ⊢
      refine Cd.seq fun K29 hK29 => ?_
      refine Cd.seq fun K30 hK30 => ?_
      refine Cd.plain [(0, false), (1, false), (2, false), (3, false), (4, false)] rfl rfl ?_
      refine Jp.y 91 rfl (want_all rfl) rfl rfl Kp.true (Y.move rfl rfl) ?_
      refine Jp.y 92 rfl (want_all rfl) rfl rfl Kp.true (by first | exact Y.fieldAddrP rfl rfl Try.underlying34 rfl Try.sizeOf32 (by decide) (show _ + 1 = _ from rfl) | exact Y.fieldAddr rfl rfl Try.underlying34 rfl Try.sizeOf32 (by decide)) ?_
      refine Jp.y 93 rfl (want_all rfl) rfl rfl Kp.true (by first | exact Y.loadO 12 rfl Try.isAgg32 rfl rfl rfl | exact Y.loadO 13 rfl Try.isAgg32 rfl rfl rfl | exact Y.loadO 14 rfl Try.isAgg32 rfl rfl rfl) ?_
      refine Jp.y 94 rfl (want_all rfl) rfl rfl Kp.true (Y.lenslice rfl Try.underlying32 rfl) ?_
      refine Jp.y 95 rfl (want_all rfl) rfl rfl Kp.true (Y.lss rfl rfl rfl) ?_
      refine Jp.done hK30 ?_
      refine Cd.cond rfl (fun gz => ?_) (fun gz => ?_)
      · have hin : i < T.length := by simp at gz; omega
        have hx : T[i]? = some T[i] := List.getElem?_eq_getElem hin
        obtain ⟨x, hxe⟩ : ∃ x, x = T[i] := ⟨_, rfl⟩
        rw [← hxe] at hx
        obtain ⟨ad1, e1, q1⟩ := insAt hT1 hx
        obtain ⟨ad2, e2, q2⟩ := insAt hT2 hx
        have e1 : B1 = some ad1 := e1
        have e2 : B2 = some ad2 := e2
        subst e1 e2
        have hxo : x.cells.all one = true := by unfold InsP.cells; simp [one]
        have hxl : x.cells.length = 5 := rfl
        refine Cd.skip hK29 ?_
        refine Cd.seq fun K31 hK31 => ?_
        refine Cd.block ?_
        refine Cd.seq fun K32 hK32 => ?_
        refine Cd.drawnF [(12, _), (14, _)] ⟨rfl, rfl, trivial⟩ [(0, true), (1, true), (2, true), (3, true), (4, true), (5, true), (6, true), (7, true), (8, true), (9, true)] [(10, false), (11, false), (12, false), (13, false)] [(11, false), (10, false), (12, false), (13, false)] follows (by kernel_rfl) (fun hrl => ?_)
        refine JpF.q 98 rfl (want_all rfl) rfl rfl (by first | exact Y.fieldAddrP rfl rfl Try.underlying34 rfl Try.sizeOf32 (by decide) (show _ + 1 = _ from rfl) | exact Y.fieldAddr rfl rfl Try.underlying34 rfl Try.sizeOf32 (by decide)) ?_
        refine JpF.q 99 rfl (want_all rfl) rfl rfl (by first | exact Y.loadO 12 rfl Try.isAgg32 rfl rfl rfl | exact Y.loadO 13 rfl Try.isAgg32 rfl rfl rfl | exact Y.loadO 14 rfl Try.isAgg32 rfl rfl rfl) ?_
        refine JpF.q 100 rfl (want_all rfl) rfl rfl (Y.move rfl rfl) ?_
        refine JpF.q 101 rfl (want_all rfl) rfl rfl (Y.indexAddr (q := i * 5) rfl rfl rfl Try.underlying32 Try.sizeOf47 (by omega) (by omega) (by omega)) ?_
        refine JpF.q 102 rfl (want_all rfl) rfl rfl (Y.loadAggR x.cells rfl Try.isAgg47 Try.sizeOf47 rfl rfl q1) ?_
        refine JpF.q 103 rfl (want_all rfl) rfl rfl (by first | exact Y.fieldAddrP rfl rfl Try.underlying42 rfl Try.sizeOf40 (by decide) (show _ + 1 = _ from rfl) | exact Y.fieldAddr rfl rfl Try.underlying42 rfl Try.sizeOf40 (by decide)) ?_
        refine JpF.q 104 rfl (want_all rfl) rfl rfl (by first | exact Y.loadO 12 rfl Try.isAgg40 rfl rfl rfl | exact Y.loadO 13 rfl Try.isAgg40 rfl rfl rfl | exact Y.loadO 14 rfl Try.isAgg40 rfl rfl rfl) ?_
        refine JpF.q 105 rfl (want_all rfl) rfl rfl (Y.move rfl rfl) ?_
        refine JpF.q 106 rfl (want_all rfl) rfl rfl (Y.indexAddr (q := i * 5) rfl rfl rfl Try.underlying40 Try.sizeOf48 (by omega) (by omega) (by omega)) ?_
        refine JpF.q 107 rfl (want_all rfl) rfl rfl (Y.loadAggR x.cells rfl Try.isAgg48 Try.sizeOf48 rfl rfl q2) ?_
        refine JpF.split ?_ ?_
        · skip
          refine Jp.alloc 17 17 rfl (want_all rfl) rfl rfl rfl Try.zeroValue47 fun b17 => ⟨(Kp.st ⟨rfl, rfl, trivial⟩), ?_⟩
          refine Jp.alloc 18 18 rfl (want_all rfl) rfl rfl rfl Try.zeroValue48 fun b18 => ⟨(Kp.st ⟨rfl, rfl, trivial⟩), ?_⟩
          first | refine Jp.storeAll 17 rfl (want_all rfl) rfl rfl Try.sizeOf47 rfl rfl (by first | rfl | assumption) (by first | rfl | assumption) rfl (by first | rfl | assumption) (fun k _ _ => noFr0 k) (Kp.st ⟨rfl, rfl, trivial⟩) ?_ | refine Jp.storeAll 18 rfl (want_all rfl) rfl rfl Try.sizeOf47 rfl rfl (by first | rfl | assumption) (by first | rfl | assumption) rfl (by first | rfl | assumption) (fun k _ _ => noFr0 k) (Kp.st ⟨rfl, rfl, trivial⟩) ?_ | refine Jp.storeAll 17 rfl (want_all rfl) rfl rfl Try.sizeOf47 rfl rfl (by first | rfl | assumption) (by first | rfl | assumption) rfl (by first | rfl | assumption) (fun k _ _ => noFr0 k) (Kp.st ⟨rfl, rfl, trivial⟩) ?_ | refine Jp.storeAll 18 rfl (want_all rfl) rfl rfl Try.sizeOf47 rfl rfl (by first | rfl | assumption) (by first | rfl | assumption) rfl (by first | rfl | assumption) (fun k _ _ => noFr0 k) (Kp.st ⟨rfl, rfl, trivial⟩) ?_
          first | refine Jp.storeAll 17 rfl (want_all rfl) rfl rfl Try.sizeOf48 rfl rfl (by first | rfl | assumption) (by first | rfl | assumption) rfl (by first | rfl | assumption) (fun k _ _ => noFr0 k) Kp.last ?_ | refine Jp.storeAll 18 rfl (want_all rfl) rfl rfl Try.sizeOf48 rfl rfl (by first | rfl | assumption) (by first | rfl | assumption) rfl (by first | rfl | assumption) (fun k _ _ => noFr0 k) Kp.last ?_ | refine Jp.storeAll 17 rfl (want_all rfl) rfl rfl Try.sizeOf48 rfl rfl (by first | rfl | assumption) (by first | rfl | assumption) rfl (by first | rfl | assumption) (fun k _ _ => noFr0 k) Kp.last ?_ | refine Jp.storeAll 18 rfl (want_all rfl) rfl rfl Try.sizeOf48 rfl rfl (by first | rfl | assumption) (by first | rfl | assumption) rfl (by first | rfl | assumption) (fun k _ _ => noFr0 k) Kp.last ?_
          refine Jp.done hK32 ?_
          refine Cd.seq fun K33 hK33 => ?_
          refine Cd.plain [(0, false), (1, false), (2, false), (3, false), (4, false), (5, false), (6, false), (7, false), (8, false), (9, false), (10, false), (11, false), (12, false), (13, false), (14, false), (15, false), (16, false), (17, false), (18, false), (19, false), (20, false), (21, false), (22, false), (23, false), (24, false), (25, false), (26, false), (27, false), (28, false), (29, false), (30, false), (31, false), (32, false)] rfl rfl ?_
          refine Jp.y 108 rfl (want_all rfl) rfl rfl Kp.true (by first | exact Y.fieldAddrP rfl rfl Try.underlying47 rfl Try.sizeOf3 (by decide) (show _ + 0 = _ from rfl) | exact Y.fieldAddr rfl rfl Try.underlying47 rfl Try.sizeOf3 (by decide)) ?_
          refine Jp.y 109 rfl (want_all rfl) rfl rfl Kp.true (by first | exact Y.loadO 17 rfl Try.isAgg3 rfl rfl rfl | exact Y.loadO 18 rfl Try.isAgg3 rfl rfl rfl | exact Y.loadO 17 rfl Try.isAgg3 rfl rfl rfl | exact Y.loadO 18 rfl Try.isAgg3 rfl rfl rfl) ?_
          refine Jp.y 110 rfl (want_all rfl) rfl rfl Kp.true (by first | exact Y.fieldAddrP rfl rfl Try.underlying48 rfl Try.sizeOf3 (by decide) (show _ + 0 = _ from rfl) | exact Y.fieldAddr rfl rfl Try.underlying48 rfl Try.sizeOf3 (by decide)) ?_
          refine Jp.y 111 rfl (want_all rfl) rfl rfl Kp.true (by first | exact Y.loadO 17 rfl Try.isAgg3 rfl rfl rfl | exact Y.loadO 18 rfl Try.isAgg3 rfl rfl rfl | exact Y.loadO 17 rfl Try.isAgg3 rfl rfl rfl | exact Y.loadO 18 rfl Try.isAgg3 rfl rfl rfl) ?_
          refine Jp.y 112 rfl (want_all rfl) rfl rfl Kp.true (Y.neq rfl rfl rfl) ?_
          refine Jp.y 113 rfl (want_all rfl) rfl rfl Kp.true (Y.move rfl rfl) ?_
          refine Jp.split 113 rfl (fun g113 => ?_) (fun g113 => ?_)
          · skip
            exact absurd g113 (by simp)
          try simp only [decide_eq_false_iff_not, decide_eq_true_eq, Int.not_lt, Int.not_le, Bool.not_eq_false, Bool.not_eq_true, Bool.not_true, Bool.not_false, Bool.not_eq_true', Bool.not_eq_false', beq_eq_false_iff_ne, ne_eq, beq_iff_eq, bne_iff_ne, bne_eq_false_iff_eq, Classical.not_not] at g113
          refine Jp.y 114 rfl (want_as rfl rfl rfl rfl) rfl rfl Kp.true (by first | exact Y.fieldAddrP rfl rfl Try.underlying47 rfl Try.sizeOf3 (by decide) (show _ + 1 = _ from rfl) | exact Y.fieldAddr rfl rfl Try.underlying47 rfl Try.sizeOf3 (by decide)) ?_
          refine Jp.y 115 rfl (want_as rfl rfl rfl rfl) rfl rfl Kp.true (by first | exact Y.loadO 17 rfl Try.isAgg3 rfl rfl rfl | exact Y.loadO 18 rfl Try.isAgg3 rfl rfl rfl | exact Y.loadO 17 rfl Try.isAgg3 rfl rfl rfl | exact Y.loadO 18 rfl Try.isAgg3 rfl rfl rfl) ?_
          refine Jp.y 116 rfl (want_as rfl rfl rfl rfl) rfl rfl Kp.true (by first | exact Y.fieldAddrP rfl rfl Try.underlying48 rfl Try.sizeOf3 (by decide) (show _ + 1 = _ from rfl) | exact Y.fieldAddr rfl rfl Try.underlying48 rfl Try.sizeOf3 (by decide)) ?_
          refine Jp.y 117 rfl (want_as rfl rfl rfl rfl) rfl rfl Kp.true (by first | exact Y.loadO 17 rfl Try.isAgg3 rfl rfl rfl | exact Y.loadO 18 rfl Try.isAgg3 rfl rfl rfl | exact Y.loadO 17 rfl Try.isAgg3 rfl rfl rfl | exact Y.loadO 18 rfl Try.isAgg3 rfl rfl rfl) ?_
          refine Jp.y 118 rfl (want_as rfl rfl rfl rfl) rfl rfl Kp.true (Y.neq rfl rfl rfl) ?_
          refine Jp.y 119 rfl (want_all rfl) rfl rfl Kp.true (Y.pickF rfl rfl rfl) ?_
          refine Jp.y 120 rfl (want_all rfl) rfl rfl Kp.true (Y.move rfl rfl) ?_
          refine Jp.split 120 rfl (fun g120 => ?_) (fun g120 => ?_)
          · skip
            exact absurd g120 (by simp)
          try simp only [decide_eq_false_iff_not, decide_eq_true_eq, Int.not_lt, Int.not_le, Bool.not_eq_false, Bool.not_eq_true, Bool.not_true, Bool.not_false, Bool.not_eq_true', Bool.not_eq_false', beq_eq_false_iff_ne, ne_eq, beq_iff_eq, bne_iff_ne, bne_eq_false_iff_eq, Classical.not_not] at g120
          refine Jp.y 121 rfl (want_as rfl rfl rfl rfl) rfl rfl Kp.true (by first | exact Y.fieldAddrP rfl rfl Try.underlying47 rfl Try.sizeOf3 (by decide) (show _ + 2 = _ from rfl) | exact Y.fieldAddr rfl rfl Try.underlying47 rfl Try.sizeOf3 (by decide)) ?_
          refine Jp.y 122 rfl (want_as rfl rfl rfl rfl) rfl rfl Kp.true (by first | exact Y.loadO 17 rfl Try.isAgg3 rfl rfl rfl | exact Y.loadO 18 rfl Try.isAgg3 rfl rfl rfl | exact Y.loadO 17 rfl Try.isAgg3 rfl rfl rfl | exact Y.loadO 18 rfl Try.isAgg3 rfl rfl rfl) ?_
          refine Jp.y 123 rfl (want_as rfl rfl rfl rfl) rfl rfl Kp.true (by first | exact Y.fieldAddrP rfl rfl Try.underlying48 rfl Try.sizeOf3 (by decide) (show _ + 2 = _ from rfl) | exact Y.fieldAddr rfl rfl Try.underlying48 rfl Try.sizeOf3 (by decide)) ?_
          refine Jp.y 124 rfl (want_as rfl rfl rfl rfl) rfl rfl Kp.true (by first | exact Y.loadO 17 rfl Try.isAgg3 rfl rfl rfl | exact Y.loadO 18 rfl Try.isAgg3 rfl rfl rfl | exact Y.loadO 17 rfl Try.isAgg3 rfl rfl rfl | exact Y.loadO 18 rfl Try.isAgg3 rfl rfl rfl) ?_
          refine Jp.y 125 rfl (want_as rfl rfl rfl rfl) rfl rfl Kp.true (Y.neq rfl rfl rfl) ?_
          refine Jp.y 126 rfl (want_all rfl) rfl rfl Kp.true (Y.pickF rfl rfl rfl) ?_
          refine Jp.y 127 rfl (want_all rfl) rfl rfl Kp.true (Y.move rfl rfl) ?_
          refine Jp.split 127 rfl (fun g127 => ?_) (fun g127 => ?_)
          · skip
            exact absurd g127 (by simp)
          try simp only [decide_eq_false_iff_not, decide_eq_true_eq, Int.not_lt, Int.not_le, Bool.not_eq_false, Bool.not_eq_true, Bool.not_true, Bool.not_false, Bool.not_eq_true', Bool.not_eq_false', beq_eq_false_iff_ne, ne_eq, beq_iff_eq, bne_iff_ne, bne_eq_false_iff_eq, Classical.not_not] at g127
          refine Jp.y 128 rfl (want_as rfl rfl rfl rfl) rfl rfl Kp.true (by first | exact Y.fieldAddrP rfl rfl Try.underlying47 rfl Try.sizeOf3 (by decide) (show _ + 3 = _ from rfl) | exact Y.fieldAddr rfl rfl Try.underlying47 rfl Try.sizeOf3 (by decide)) ?_
          refine Jp.y 129 rfl (want_as rfl rfl rfl rfl) rfl rfl Kp.true (by first | exact Y.loadO 17 rfl Try.isAgg3 rfl rfl rfl | exact Y.loadO 18 rfl Try.isAgg3 rfl rfl rfl | exact Y.loadO 17 rfl Try.isAgg3 rfl rfl rfl | exact Y.loadO 18 rfl Try.isAgg3 rfl rfl rfl) ?_
          refine Jp.y 130 rfl (want_as rfl rfl rfl rfl) rfl rfl Kp.true (by first | exact Y.fieldAddrP rfl rfl Try.underlying48 rfl Try.sizeOf3 (by decide) (show _ + 3 = _ from rfl) | exact Y.fieldAddr rfl rfl Try.underlying48 rfl Try.sizeOf3 (by decide)) ?_
          refine Jp.y 131 rfl (want_as rfl rfl rfl rfl) rfl rfl Kp.true (by first | exact Y.loadO 17 rfl Try.isAgg3 rfl rfl rfl | exact Y.loadO 18 rfl Try.isAgg3 rfl rfl rfl | exact Y.loadO 17 rfl Try.isAgg3 rfl rfl rfl | exact Y.loadO 18 rfl Try.isAgg3 rfl rfl rfl) ?_
          refine Jp.y 132 rfl (want_as rfl rfl rfl rfl) rfl rfl Kp.true (Y.neq rfl rfl rfl) ?_
          refine Jp.y 133 rfl (want_all rfl) rfl rfl Kp.true (Y.pickF rfl rfl rfl) ?_
          refine Jp.y 134 rfl (want_all rfl) rfl rfl Kp.true (Y.move rfl rfl) ?_
          refine Jp.split 134 rfl (fun g134 => ?_) (fun g134 => ?_)
          · skip
            exact absurd g134 (by simp)
          try simp only [decide_eq_false_iff_not, decide_eq_true_eq, Int.not_lt, Int.not_le, Bool.not_eq_false, Bool.not_eq_true, Bool.not_true, Bool.not_false, Bool.not_eq_true', Bool.not_eq_false', beq_eq_false_iff_ne, ne_eq, beq_iff_eq, bne_iff_ne, bne_eq_false_iff_eq, Classical.not_not] at g134
          refine Jp.y 135 rfl (want_as rfl rfl rfl rfl) rfl rfl Kp.true (by first | exact Y.fieldAddrP rfl rfl Try.underlying47 rfl Try.sizeOf21 (by decide) (show _ + 4 = _ from rfl) | exact Y.fieldAddr rfl rfl Try.underlying47 rfl Try.sizeOf21 (by decide)) ?_
          refine Jp.y 136 rfl (want_as rfl rfl rfl rfl) rfl rfl Kp.true (by first | exact Y.loadO 17 rfl Try.isAgg21 rfl rfl rfl | exact Y.loadO 18 rfl Try.isAgg21 rfl rfl rfl | exact Y.loadO 17 rfl Try.isAgg21 rfl rfl rfl | exact Y.loadO 18 rfl Try.isAgg21 rfl rfl rfl) ?_
          refine Jp.y 137 rfl (want_as rfl rfl rfl rfl) rfl rfl Kp.true (by first | exact Y.fieldAddrP rfl rfl Try.underlying48 rfl Try.sizeOf21 (by decide) (show _ + 4 = _ from rfl) | exact Y.fieldAddr rfl rfl Try.underlying48 rfl Try.sizeOf21 (by decide)) ?_
          refine Jp.y 138 rfl (want_as rfl rfl rfl rfl) rfl rfl Kp.true (by first | exact Y.loadO 17 rfl Try.isAgg21 rfl rfl rfl | exact Y.loadO 18 rfl Try.isAgg21 rfl rfl rfl | exact Y.loadO 17 rfl Try.isAgg21 rfl rfl rfl | exact Y.loadO 18 rfl Try.isAgg21 rfl rfl rfl) ?_
          refine Jp.y 139 rfl (want_as rfl rfl rfl rfl) rfl rfl Kp.true (Y.neq rfl rfl rfl) ?_
          refine Jp.y 140 rfl (want_all rfl) rfl rfl Kp.true (Y.pickF rfl rfl rfl) ?_
          refine Jp.done hK33 ?_
          refine Cd.cond rfl (fun g140 => ?_) (fun g140 => ?_)
          · skip
            exact absurd g140 (by simp)
          try simp only [decide_eq_false_iff_not, decide_eq_true_eq, Int.not_lt, Int.not_le, Bool.not_eq_false, Bool.not_eq_true, Bool.not_true, Bool.not_false, Bool.not_eq_true', Bool.not_eq_false', beq_eq_false_iff_ne, ne_eq, beq_iff_eq, bne_iff_ne, bne_eq_false_iff_eq, Classical.not_not] at g140
          refine Cd.over rfl hK31 ?_
          refine Cd.plain [(0, false), (1, false), (2, false)] rfl rfl ?_
          refine Jp.y 96 rfl (want_all rfl) rfl rfl Kp.true (Y.move rfl rfl) ?_
          refine Jp.y 97 rfl (want_all rfl) rfl rfl Kp.true (Y.add_ rfl rfl rfl (by first | exact wrap_i64 (by omega) (by omega) | rfl)) ?_
          refine Jp.y 16 rfl (want_all rfl) rfl rfl Kp.true (Y.assign rfl rfl) ?_
          rw [show (i : Int) + 1 = ((i + 1 : Nat) : Int) by omega]
          refine Jp.again hLz (i + 1) hin (by omega) rfl ⟨rfl, rfl, rfl, rfl, rfl, trivial⟩ ⟨rfl, rfl, rfl, rfl, trivial⟩
        · skip
          refine Jp.alloc 18 18 rfl (want_all rfl) rfl rfl rfl Try.zeroValue48 fun b18 => ⟨(Kp.st ⟨rfl, rfl, trivial⟩), ?_⟩
          refine Jp.alloc 17 17 rfl (want_all rfl) rfl rfl rfl Try.zeroValue47 fun b17 => ⟨(Kp.st ⟨rfl, rfl, trivial⟩), ?_⟩
          first | refine Jp.storeAll 17 rfl (want_all rfl) rfl rfl Try.sizeOf47 rfl rfl (by first | rfl | assumption) (by first | rfl | assumption) rfl (by first | rfl | assumption) (fun k _ _ => noFr0 k) (Kp.st ⟨rfl, rfl, trivial⟩) ?_ | refine Jp.storeAll 18 rfl (want_all rfl) rfl rfl Try.sizeOf47 rfl rfl (by first | rfl | assumption) (by first | rfl | assumption) rfl (by first | rfl | assumption) (fun k _ _ => noFr0 k) (Kp.st ⟨rfl, rfl, trivial⟩) ?_ | refine Jp.storeAll 18 rfl (want_all rfl) rfl rfl Try.sizeOf47 rfl rfl (by first | rfl | assumption) (by first | rfl | assumption) rfl (by first | rfl | assumption) (fun k _ _ => noFr0 k) (Kp.st ⟨rfl, rfl, trivial⟩) ?_ | refine Jp.storeAll 17 rfl (want_all rfl) rfl rfl Try.sizeOf47 rfl rfl (by first | rfl | assumption) (by first | rfl | assumption) rfl (by first | rfl | assumption) (fun k _ _ => noFr0 k) (Kp.st ⟨rfl, rfl, trivial⟩) ?_
          first | refine Jp.storeAll 17 rfl (want_all rfl) rfl rfl Try.sizeOf48 rfl rfl (by first | rfl | assumption) (by first | rfl | assumption) rfl (by first | rfl | assumption) (fun k _ _ => noFr0 k) Kp.last ?_ | refine Jp.storeAll 18 rfl (want_all rfl) rfl rfl Try.sizeOf48 rfl rfl (by first | rfl | assumption) (by first | rfl | assumption) rfl (by first | rfl | assumption) (fun k _ _ => noFr0 k) Kp.last ?_ | refine Jp.storeAll 18 rfl (want_all rfl) rfl rfl Try.sizeOf48 rfl rfl (by first | rfl | assumption) (by first | rfl | assumption) rfl (by first | rfl | assumption) (fun k _ _ => noFr0 k) Kp.last ?_ | refine Jp.storeAll 17 rfl (want_all rfl) rfl rfl Try.sizeOf48 rfl rfl (by first | rfl | assumption) (by first | rfl | assumption) rfl (by first | rfl | assumption) (fun k _ _ => noFr0 k) Kp.last ?_
          refine Jp.done hK32 ?_
          refine Cd.seq fun K34 hK34 => ?_
          refine Cd.plain [(0, false), (1, false), (2, false), (3, false), (4, false), (5, false), (6, false), (7, false), (8, false), (9, false), (10, false), (11, false), (12, false), (13, false), (14, false), (15, false), (16, false), (17, false), (18, false), (19, false), (20, false), (21, false), (22, false), (23, false), (24, false), (25, false), (26, false), (27, false), (28, false), (29, false), (30, false), (31, false), (32, false)] rfl rfl ?_
          refine Jp.y 108 rfl (want_all rfl) rfl rfl Kp.true (by first | exact Y.fieldAddrP rfl rfl Try.underlying47 rfl Try.sizeOf3 (by decide) (show _ + 0 = _ from rfl) | exact Y.fieldAddr rfl rfl Try.underlying47 rfl Try.sizeOf3 (by decide)) ?_
          refine Jp.y 109 rfl (want_all rfl) rfl rfl Kp.true (by first | exact Y.loadO 17 rfl Try.isAgg3 rfl rfl rfl | exact Y.loadO 18 rfl Try.isAgg3 rfl rfl rfl | exact Y.loadO 18 rfl Try.isAgg3 rfl rfl rfl | exact Y.loadO 17 rfl Try.isAgg3 rfl rfl rfl) ?_
          refine Jp.y 110 rfl (want_all rfl) rfl rfl Kp.true (by first | exact Y.fieldAddrP rfl rfl Try.underlying48 rfl Try.sizeOf3 (by decide) (show _ + 0 = _ from rfl) | exact Y.fieldAddr rfl rfl Try.underlying48 rfl Try.sizeOf3 (by decide)) ?_
          refine Jp.y 111 rfl (want_all rfl) rfl rfl Kp.true (by first | exact Y.loadO 17 rfl Try.isAgg3 rfl rfl rfl | exact Y.loadO 18 rfl Try.isAgg3 rfl rfl rfl | exact Y.loadO 18 rfl Try.isAgg3 rfl rfl rfl | exact Y.loadO 17 rfl Try.isAgg3 rfl rfl rfl) ?_
          refine Jp.y 112 rfl (want_all rfl) rfl rfl Kp.true (Y.neq rfl rfl rfl) ?_
          refine Jp.y 113 rfl (want_all rfl) rfl rfl Kp.true (Y.move rfl rfl) ?_
          refine Jp.split 113 rfl (fun g113 => ?_) (fun g113 => ?_)
          · skip
            exact absurd g113 (by simp)
          try simp only [decide_eq_false_iff_not, decide_eq_true_eq, Int.not_lt, Int.not_le, Bool.not_eq_false, Bool.not_eq_true, Bool.not_true, Bool.not_false, Bool.not_eq_true', Bool.not_eq_false', beq_eq_false_iff_ne, ne_eq, beq_iff_eq, bne_iff_ne, bne_eq_false_iff_eq, Classical.not_not] at g113
          refine Jp.y 114 rfl (want_as rfl rfl rfl rfl) rfl rfl Kp.true (by first | exact Y.fieldAddrP rfl rfl Try.underlying47 rfl Try.sizeOf3 (by decide) (show _ + 1 = _ from rfl) | exact Y.fieldAddr rfl rfl Try.underlying47 rfl Try.sizeOf3 (by decide)) ?_
          refine Jp.y 115 rfl (want_as rfl rfl rfl rfl) rfl rfl Kp.true (by first | exact Y.loadO 17 rfl Try.isAgg3 rfl rfl rfl | exact Y.loadO 18 rfl Try.isAgg3 rfl rfl rfl | exact Y.loadO 18 rfl Try.isAgg3 rfl rfl rfl | exact Y.loadO 17 rfl Try.isAgg3 rfl rfl rfl) ?_
          refine Jp.y 116 rfl (want_as rfl rfl rfl rfl) rfl rfl Kp.true (by first | exact Y.fieldAddrP rfl rfl Try.underlying48 rfl Try.sizeOf3 (by decide) (show _ + 1 = _ from rfl) | exact Y.fieldAddr rfl rfl Try.underlying48 rfl Try.sizeOf3 (by decide)) ?_
          refine Jp.y 117 rfl (want_as rfl rfl rfl rfl) rfl rfl Kp.true (by first | exact Y.loadO 17 rfl Try.isAgg3 rfl rfl rfl | exact Y.loadO 18 rfl Try.isAgg3 rfl rfl rfl | exact Y.loadO 18 rfl Try.isAgg3 rfl rfl rfl | exact Y.loadO 17 rfl Try.isAgg3 rfl rfl rfl) ?_
          refine Jp.y 118 rfl (want_as rfl rfl rfl rfl) rfl rfl Kp.true (Y.neq rfl rfl rfl) ?_
          refine Jp.y 119 rfl (want_all rfl) rfl rfl Kp.true (Y.pickF rfl rfl rfl) ?_
          refine Jp.y 120 rfl (want_all rfl) rfl rfl Kp.true (Y.move rfl rfl) ?_
          refine Jp.split 120 rfl (fun g120 => ?_) (fun g120 => ?_)
          · skip
            exact absurd g120 (by simp)
          try simp only [decide_eq_false_iff_not, decide_eq_true_eq, Int.not_lt, Int.not_le, Bool.not_eq_false, Bool.not_eq_true, Bool.not_true, Bool.not_false, Bool.not_eq_true', Bool.not_eq_false', beq_eq_false_iff_ne, ne_eq, beq_iff_eq, bne_iff_ne, bne_eq_false_iff_eq, Classical.not_not] at g120
          refine Jp.y 121 rfl (want_as rfl rfl rfl rfl) rfl rfl Kp.true (by first | exact Y.fieldAddrP rfl rfl Try.underlying47 rfl Try.sizeOf3 (by decide) (show _ + 2 = _ from rfl) | exact Y.fieldAddr rfl rfl Try.underlying47 rfl Try.sizeOf3 (by decide)) ?_
          refine Jp.y 122 rfl (want_as rfl rfl rfl rfl) rfl rfl Kp.true (by first | exact Y.loadO 17 rfl Try.isAgg3 rfl rfl rfl | exact Y.loadO 18 rfl Try.isAgg3 rfl rfl rfl | exact Y.loadO 18 rfl Try.isAgg3 rfl rfl rfl | exact Y.loadO 17 rfl Try.isAgg3 rfl rfl rfl) ?_
          refine Jp.y 123 rfl (want_as rfl rfl rfl rfl) rfl rfl Kp.true (by first | exact Y.fieldAddrP rfl rfl Try.underlying48 rfl Try.sizeOf3 (by decide) (show _ + 2 = _ from rfl) | exact Y.fieldAddr rfl rfl Try.underlying48 rfl Try.sizeOf3 (by decide)) ?_
          refine Jp.y 124 rfl (want_as rfl rfl rfl rfl) rfl rfl Kp.true (by first | exact Y.loadO 17 rfl Try.isAgg3 rfl rfl rfl | exact Y.loadO 18 rfl Try.isAgg3 rfl rfl rfl | exact Y.loadO 18 rfl Try.isAgg3 rfl rfl rfl | exact Y.loadO 17 rfl Try.isAgg3 rfl rfl rfl) ?_
          refine Jp.y 125 rfl (want_as rfl rfl rfl rfl) rfl rfl Kp.true (Y.neq rfl rfl rfl) ?_
          refine Jp.y 126 rfl (want_all rfl) rfl rfl Kp.true (Y.pickF rfl rfl rfl) ?_
          refine Jp.y 127 rfl (want_all rfl) rfl rfl Kp.true (Y.move rfl rfl) ?_
          refine Jp.split 127 rfl (fun g127 => ?_) (fun g127 => ?_)
          · skip
            exact absurd g127 (by simp)
          try simp only [decide_eq_false_iff_not, decide_eq_true_eq, Int.not_lt, Int.not_le, Bool.not_eq_false, Bool.not_eq_true, Bool.not_true, Bool.not_false, Bool.not_eq_true', Bool.not_eq_false', beq_eq_false_iff_ne, ne_eq, beq_iff_eq, bne_iff_ne, bne_eq_false_iff_eq, Classical.not_not] at g127
          refine Jp.y 128 rfl (want_as rfl rfl rfl rfl) rfl rfl Kp.true (by first | exact Y.fieldAddrP rfl rfl Try.underlying47 rfl Try.sizeOf3 (by decide) (show _ + 3 = _ from rfl) | exact Y.fieldAddr rfl rfl Try.underlying47 rfl Try.sizeOf3 (by decide)) ?_
          refine Jp.y 129 rfl (want_as rfl rfl rfl rfl) rfl rfl Kp.true (by first | exact Y.loadO 17 rfl Try.isAgg3 rfl rfl rfl | exact Y.loadO 18 rfl Try.isAgg3 rfl rfl rfl | exact Y.loadO 18 rfl Try.isAgg3 rfl rfl rfl | exact Y.loadO 17 rfl Try.isAgg3 rfl rfl rfl) ?_
          refine Jp.y 130 rfl (want_as rfl rfl rfl rfl) rfl rfl Kp.true (by first | exact Y.fieldAddrP rfl rfl Try.underlying48 rfl Try.sizeOf3 (by decide) (show _ + 3 = _ from rfl) | exact Y.fieldAddr rfl rfl Try.underlying48 rfl Try.sizeOf3 (by decide)) ?_
          refine Jp.y 131 rfl (want_as rfl rfl rfl rfl) rfl rfl Kp.true (by first | exact Y.loadO 17 rfl Try.isAgg3 rfl rfl rfl | exact Y.loadO 18 rfl Try.isAgg3 rfl rfl rfl | exact Y.loadO 18 rfl Try.isAgg3 rfl rfl rfl | exact Y.loadO 17 rfl Try.isAgg3 rfl rfl rfl) ?_
          refine Jp.y 132 rfl (want_as rfl rfl rfl rfl) rfl rfl Kp.true (Y.neq rfl rfl rfl) ?_
          refine Jp.y 133 rfl (want_all rfl) rfl rfl Kp.true (Y.pickF rfl rfl rfl) ?_
          refine Jp.y 134 rfl (want_all rfl) rfl rfl Kp.true (Y.move rfl rfl) ?_
          refine Jp.split 134 rfl (fun g134 => ?_) (fun g134 => ?_)
          · skip
            exact absurd g134 (by simp)
          try simp only [decide_eq_false_iff_not, decide_eq_true_eq, Int.not_lt, Int.not_le, Bool.not_eq_false, Bool.not_eq_true, Bool.not_true, Bool.not_false, Bool.not_eq_true', Bool.not_eq_false', beq_eq_false_iff_ne, ne_eq, beq_iff_eq, bne_iff_ne, bne_eq_false_iff_eq, Classical.not_not] at g134
          refine Jp.y 135 rfl (want_as rfl rfl rfl rfl) rfl rfl Kp.true (by first | exact Y.fieldAddrP rfl rfl Try.underlying47 rfl Try.sizeOf21 (by decide) (show _ + 4 = _ from rfl) | exact Y.fieldAddr rfl rfl Try.underlying47 rfl Try.sizeOf21 (by decide)) ?_
          refine Jp.y 136 rfl (want_as rfl rfl rfl rfl) rfl rfl Kp.true (by first | exact Y.loadO 17 rfl Try.isAgg21 rfl rfl rfl | exact Y.loadO 18 rfl Try.isAgg21 rfl rfl rfl | exact Y.loadO 18 rfl Try.isAgg21 rfl rfl rfl | exact Y.loadO 17 rfl Try.isAgg21 rfl rfl rfl) ?_
          refine Jp.y 137 rfl (want_as rfl rfl rfl rfl) rfl rfl Kp.true (by first | exact Y.fieldAddrP rfl rfl Try.underlying48 rfl Try.sizeOf21 (by decide) (show _ + 4 = _ from rfl) | exact Y.fieldAddr rfl rfl Try.underlying48 rfl Try.sizeOf21 (by decide)) ?_
          refine Jp.y 138 rfl (want_as rfl rfl rfl rfl) rfl rfl Kp.true (by first | exact Y.loadO 17 rfl Try.isAgg21 rfl rfl rfl | exact Y.loadO 18 rfl Try.isAgg21 rfl rfl rfl | exact Y.loadO 18 rfl Try.isAgg21 rfl rfl rfl | exact Y.loadO 17 rfl Try.isAgg21 rfl rfl rfl) ?_
          refine Jp.y 139 rfl (want_as rfl rfl rfl rfl) rfl rfl Kp.true (Y.neq rfl rfl rfl) ?_
          refine Jp.y 140 rfl (want_all rfl) rfl rfl Kp.true (Y.pickF rfl rfl rfl) ?_
          refine Jp.done hK34 ?_
          refine Cd.cond rfl (fun g140 => ?_) (fun g140 => ?_)
          · skip
            exact absurd g140 (by simp)
          try simp only [decide_eq_false_iff_not, decide_eq_true_eq, Int.not_lt, Int.not_le, Bool.not_eq_false, Bool.not_eq_true, Bool.not_true, Bool.not_false, Bool.not_eq_true', Bool.not_eq_false', beq_eq_false_iff_ne, ne_eq, beq_iff_eq, bne_iff_ne, bne_eq_false_iff_eq, Classical.not_not] at g140
          refine Cd.over rfl hK31 ?_
          refine Cd.plain [(0, false), (1, false), (2, false)] rfl rfl ?_
          refine Jp.y 96 rfl (want_all rfl) rfl rfl Kp.true (Y.move rfl rfl) ?_
          refine Jp.y 97 rfl (want_all rfl) rfl rfl Kp.true (Y.add_ rfl rfl rfl (by first | exact wrap_i64 (by omega) (by omega) | rfl)) ?_
          refine Jp.y 16 rfl (want_all rfl) rfl rfl Kp.true (Y.assign rfl rfl) ?_
          rw [show (i : Int) + 1 = ((i + 1 : Nat) : Int) by omega]
          refine Jp.again hLz (i + 1) hin (by omega) rfl ⟨rfl, rfl, rfl, rfl, rfl, trivial⟩ ⟨rfl, rfl, rfl, rfl, trivial⟩
      · skip
        refine Cd.exit rfl hK27 ?_
        refine Cd.seq fun K35 hK35 => ?_
        refine Cd.plain [(0, false), (1, false), (2, false), (3, false), (4, false), (5, false), (6, false), (7, false), (8, false)] rfl rfl ?_
        refine Jp.y 141 rfl (want_all rfl) rfl rfl Kp.true (by first | exact Y.fieldAddrP rfl rfl Try.underlying37 rfl Try.sizeOf3 (by decide) (show _ + 0 = _ from rfl) | exact Y.fieldAddr rfl rfl Try.underlying37 rfl Try.sizeOf3 (by decide)) ?_
        refine Jp.y 142 rfl (want_all rfl) rfl rfl Kp.true (by first | exact Y.loadO 12 rfl Try.isAgg3 rfl rfl rfl | exact Y.loadO 13 rfl Try.isAgg3 rfl rfl rfl | exact Y.loadO 14 rfl Try.isAgg3 rfl rfl rfl) ?_
        refine Jp.y 143 rfl (want_all rfl) rfl rfl Kp.true (Y.neq rfl rfl rfl) ?_
        refine Jp.slot 143 rfl (show _ = Value.bool false from congrArg Value.bool (by simp [noEv])) ?_
        refine Jp.y 144 rfl (want_all rfl) rfl rfl Kp.true (Y.move rfl rfl) ?_
        refine Jp.slot 144 rfl (show _ = Value.bool false from rfl) ?_
        refine Jp.y 145 rfl (want_as rfl rfl rfl rfl) rfl rfl Kp.true (Y.move rfl rfl) ?_
        refine Jp.y 146 rfl (want_as rfl rfl rfl rfl) rfl rfl Kp.true (by first | exact Y.loadAggO 12 rfl Try.isAgg34 Try.sizeOf34 rfl rfl (by first | rfl | assumption) | exact Y.loadAggO 13 rfl Try.isAgg34 Try.sizeOf34 rfl rfl (by first | rfl | assumption) | exact Y.loadAggO 14 rfl Try.isAgg34 Try.sizeOf34 rfl rfl (by first | rfl | assumption)) ?_
        refine Jp.call [0] [0] (fresh_spec b M pc gM T.length d1 B1 hpc) 147 rfl (want_as rfl rfl rfl rfl) rfl rfl (Runs.fn rfl Try.call11 rfl) (by decide) (by decide) rfl trivial ?_
        rintro v13 ρ13 L13 ⟨rfl, rfl, rfl⟩
        refine ⟨rfl, fun hle13 => ⟨Kp.true, ?_⟩⟩
        refine Jp.y 148 rfl (want_all rfl) rfl rfl Kp.true (Y.pickF rfl rfl rfl) ?_
        refine Jp.y 8 rfl (want_all rfl) rfl rfl Kp.true (Y.assign rfl rfl) ?_
        refine Jp.done hK35 ?_
        refine Cd.ret [] rfl (res1 rfl rfl) trivial ⟨by rw [hgM]; simp, rfl⟩
  · skip
    refine Cd.loopK (G := Nat × MemG) (fun g => g.1 ≤ ch ∧ FewB g.2) (fun g => ch - g.1) (fun _ => _) (fun g => [(10, .int .i64 (g.1 : Int))]) [(1, _), (2, _), (3, _), (9, _)] (fun g => [(0, MemO b g.2)]) [] ⟨0, madeM xs⟩ ⟨Nat.zero_le _, few_made xs⟩ rfl ⟨rfl, trivial⟩ ⟨rfl, rfl, rfl, rfl, trivial⟩ ⟨rfl, trivial⟩ trivial (fun g KLa hok hLa => ?_)
    obtain ⟨i, M⟩ := g
    obtain ⟨ok1, ok2⟩ := hok
    dsimp only at ok1 ok2 ⊢
    refine Cd.seq fun K36 hK36 => ?_
    refine Cd.seq fun K37 hK37 => ?_
    refine Cd.plain [(0, false), (1, false), (2, false)] rfl rfl ?_
    refine Jp.y 34 rfl (want_all rfl) rfl rfl Kp.true (Y.move rfl rfl) ?_
    refine Jp.y 35 rfl (want_all rfl) rfl rfl Kp.true (Y.move rfl rfl) ?_
    refine Jp.y 36 rfl (want_all rfl) rfl rfl Kp.true (Y.lss rfl rfl rfl) ?_
    refine Jp.done hK37 ?_
    refine Cd.cond rfl (fun ga => ?_) (fun ga => ?_)
    · have hi : i < ch := by simp at ga; omega
      refine Cd.skip hK36 ?_
      refine Cd.seq fun K38 hK38 => ?_
      refine Cd.block ?_
      refine Cd.plain [(0, false), (1, false), (2, false), (3, false), (4, false)] rfl rfl ?_
      refine Jp.y 39 rfl (want_all rfl) rfl rfl Kp.true (Y.move rfl rfl) ?_
      refine Jp.y 40 rfl (want_all rfl) rfl rfl Kp.true (Y.move rfl rfl) ?_
      refine Jp.y 41 rfl (want_all rfl) rfl rfl Kp.true (Y.conv_ rfl rfl Try.underlying3 Try.underlying5 (by first | exact wrap_u8 (by omega) (by omega) | rfl)) ?_
      refine Jp.slot 41 rfl (show _ = Value.int .u8 ((UInt8.ofNat i).toNat : Int) from congrArg (Value.int .u8) (by rw [UInt8.toNat_ofNat']; omega)) ?_
      refine Jp.lit 42 9 [(0, _)] [_] rfl (want_all rfl) rfl rfl rfl rfl Try.underlying29 Try.sizeOf5 Try.zeroValue5 rfl rfl rfl rfl rfl fun b9 => ⟨Kp.true, ?_⟩
      refine Jp.freeze (i := 9) rfl (OwnS.up _ _ _ _ _ _) fun ρ9 hle9 hA9 => ?_
      refine Jp.call [0] [0] (Poke_spec b M 4348 ⟨some ⟨b9, 0, none⟩, 1, [UInt8.ofNat i]⟩ (by omega)) 43 rfl (want_all rfl) rfl rfl (Runs.fn rfl Try.call6 rfl) (by decide) (by decide) rfl hA9.rd ?_
      rintro v4 ρ4 L4 ⟨rfl, rfl, rfl⟩
      refine ⟨rfl, fun hle4 => ⟨Kp.true, ?_⟩⟩
      refine Jp.down hle9 hle0 ?_
      refine Jp.over rfl hK38 ?_
      refine Cd.plain [(0, false), (1, false), (2, false)] rfl rfl ?_
      refine Jp.y 37 rfl (want_all rfl) rfl rfl Kp.true (Y.move rfl rfl) ?_
      refine Jp.y 38 rfl (want_all rfl) rfl rfl Kp.true (Y.add_ rfl rfl rfl (by first | exact wrap_i64 (by omega) (by omega) | rfl)) ?_
      refine Jp.y 10 rfl (want_all rfl) rfl rfl Kp.true (Y.assign rfl rfl) ?_
      rw [show (i : Int) + 1 = ((i + 1 : Nat) : Int) by omega]
      refine Jp.again hLa ⟨i + 1, (writeM M 4348 [UInt8.ofNat i] 65536 0).2⟩ ⟨hi, ok2.write _ _ _ _⟩ (by show ch - (i + 1) < ch - i; omega) rfl ⟨rfl, rfl, rfl, rfl, rfl, trivial⟩ ⟨rfl, trivial⟩
    · skip
      refine Cd.exit rfl hK10 ?_
      exact Cd.meet (hj1 M ok2) ⟨rfl, rfl, rfl, trivial⟩ ⟨rfl, trivial⟩
end Go.Proofs.Ytjfgefdcngpplaa
