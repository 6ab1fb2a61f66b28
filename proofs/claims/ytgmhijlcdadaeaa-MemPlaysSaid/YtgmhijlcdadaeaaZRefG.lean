import Derived.Test.YtgmhijlcdadaeaaZRefF
set_option linter.unusedVariables false
set_option linter.unusedSimpArgs false
set_option maxRecDepth 100000
namespace Go.Proofs.Ytgmhijlcdadaeaa
open Go
theorem refPg_setB (x : Nat × Pg) (j : Nat) (u : UInt8) : (refPg x).set (2 + j) (.int .u8 (u.toNat : Int)) = refPg (x.1, ⟨x.2.b.set j u, x.2.perm⟩) := by
  rw [refPg, show 2 + j = j + 1 + 1 by omega, List.set_cons_succ, List.set_cons_succ, bytesV_set]; rfl
theorem stPg_step {p : Pg} {off k v : Nat} (h : p.b.length = 256) (hk : off + k < 256) : (⟨(stPg p off k v).b.set (off + k) (UInt8.ofNat (v / 2 ^ (8 * k))), (stPg p off k v).perm⟩ : Pg) = stPg p off (k + 1) v := by
  have := lay_snoc_set (p := p.b) (k := off) (a := leB v k) (x := UInt8.ofNat (v / 2 ^ (8 * k))) (by rw [leB_length]; omega)
  rw [leB_length] at this
  show (⟨(lay p.b off (leB v k)).set (off + k) _, p.perm⟩ : Pg) = ⟨lay p.b off (leB v (k + 1)), p.perm⟩
  rw [this, ← leB_succ]
theorem refStore_spec (b : Nat) (M : MemG) (a : Nat) (size : Int) (v : Nat) (ha : a < 4294967296) (hv : v < 4294967296) : Spec Try.prog 53 #[.pointer (some ⟨b, 0, none⟩), .int .u32 a, .int .i64 size, .int .u32 v] (fun _ => True) [(0, RefO b M)]
    (fun ρ ρ' r L => ρ' = ρ ∧ r = .int .i64 (storeM M a size v).1 ∧ L = [(0, RefO b (storeM M a size v).2)]) := by
  refine Spec.of 49 Try.func53 rfl Try.ntmps53 [(0, _), (1, _), (2, _), (3, _)] rfl rfl ?_
  intro cx ρ hr h0
  refine Cd.know (A := RefO b M) 0 rfl RefO.ok fun hmem => ?_
  have hroom := hmem.room
  have hbud := hmem.budget.2
  refine Cd.seq fun K1 hK1 => ?_
  refine Cd.plain [(0, false)] rfl rfl ?_
  refine Jp.y 8 rfl (want_all rfl) rfl rfl Kp.true (Y.assign rfl rfl) ?_
  refine Jp.done hK1 ?_
  refine Cd.seq fun K2 hK2 => ?_
  refine Cd.plain [(0, false), (1, false), (2, false), (3, false), (4, false), (5, false), (6, false), (7, false), (8, false)] rfl rfl ?_
  refine Jp.y 13 rfl (want_all rfl) rfl rfl Kp.true (Y.move rfl rfl) ?_
  refine Jp.y 14 rfl (want_all rfl) rfl rfl Kp.true (Y.move rfl rfl) ?_
  refine Jp.y 15 rfl (want_all rfl) rfl rfl Kp.true (Y.move rfl rfl) ?_
  refine Jp.call [0] [0] (refAsk_spec b M a size 2 ha) 16 rfl (want_all rfl) rfl rfl (Runs.fn rfl Try.call96 rfl) (by decide) (by decide) rfl trivial ?_
  rintro v1 ρ1 L1 ⟨rfl, rfl, rfl⟩
  refine ⟨rfl, fun hle1 => ⟨Kp.true, ?_⟩⟩
  refine Jp.y 12 rfl (want_all rfl) rfl rfl Kp.true (Y.move rfl rfl) ?_
  refine Jp.y 17 rfl (want_all rfl) rfl rfl Kp.true (Y.extract rfl rfl rfl) ?_
  refine Jp.y 18 rfl (want_all rfl) rfl rfl Kp.true (Y.extract rfl rfl rfl) ?_
  refine Jp.y 9 rfl (want_all rfl) rfl rfl Kp.true (Y.assign rfl rfl) ?_
  refine Jp.y 10 rfl (want_all rfl) rfl rfl Kp.true (Y.assign rfl rfl) ?_
  refine Jp.done hK2 ?_
  refine Cd.seq fun K3 hK3 => ?_
  refine Cd.seq fun K4 hK4 => ?_
  refine Cd.plain [(0, false), (1, false)] rfl rfl ?_
  refine Jp.y 19 rfl (want_all rfl) rfl rfl Kp.true (Y.move rfl rfl) ?_
  refine Jp.y 20 rfl (want_all rfl) rfl rfl Kp.true (Y.neq rfl rfl rfl) ?_
  refine Jp.done hK4 ?_
  refine Cd.cond rfl (fun gf => ?_) (fun gf => ?_)
  · have hne : lookM M a size 2 ≠ 0 := by simpa using gf
    have hV : storeM M a size v = (lookM M a size 2, M) := by rw [storeM, if_neg hne]
    refine Cd.seq fun K5 hK5 => ?_
    refine Cd.plain [(0, false), (1, false)] rfl rfl ?_
    refine Jp.y 21 rfl (want_all rfl) rfl rfl Kp.true (Y.move rfl rfl) ?_
    refine Jp.y 8 rfl (want_all rfl) rfl rfl Kp.true (Y.assign rfl rfl) ?_
    refine Jp.done hK5 ?_
    refine Cd.ret [(0, _)] rfl (res1 rfl rfl) ⟨rfl, trivial⟩ ⟨rfl, by rw [hV], by rw [hV]⟩
  · have hz : lookM M a size 2 = 0 := by simpa using gf
    obtain ⟨hs, p, hg, hm⟩ := lookM_ok hz
    obtain ⟨n, rfl, hn1, hn2⟩ := sizeOk_nat hs
    have hpo := hmem.page _ (getPg_mem hg)
    have hlen : p.b.length = 256 := hpo.len
    have hV : storeM M a n v = (0, { M with pages := setPg M.pages (baseN a) (stPg p (a % 256) n v), gens := Ytgmhijlcdadaeaa.bump M.gens (baseN a) }) := by rw [storeM, if_pos hz, hg]; rfl
    rw [if_pos hz]
    have hx := pos_some hmem.rising hg
    have hps := fun q => pos_set (p := q) hmem.rising hg
    obtain ⟨f, hfp⟩ : ∃ f, posA M.pages (baseN a) = f := ⟨_, rfl⟩
    rw [hfp] at hx hps ⊢
    have hfl := (List.getElem?_eq_some_iff.1 hx).1
    obtain ⟨PL, hPL⟩ : ∃ PL : Nat → List (Nat × Pg), ∀ k, PL k = M.pages.set f (baseN a, stPg p (a % 256) k v) := ⟨_, fun _ => rfl⟩
    have hPs : ∀ k, PL k = setPg M.pages (baseN a) (stPg p (a % 256) k v) := fun k => by rw [hPL, hps]
    have hPl : ∀ k, (PL k).length = M.pages.length := fun k => by rw [hPL, List.length_set]
    have hP0 : PL 0 = M.pages := by
      have : stPg p (a % 256) 0 v = p := by show (⟨lay p.b (a % 256) [], p.perm⟩ : Pg) = p; rw [lay_nil]
      rw [hPs, this, setPg_same hmem.rising.nodup hg]
    have hPx : ∀ k, (PL k)[f]? = some (baseN a, stPg p (a % 256) k v) := fun k => by rw [hPL]; exact List.getElem?_set_self hfl
    have hPok : ∀ k, a % 256 + k ≤ 256 → MemOk { M with pages := PL k } := fun k hk => by
      rw [hPs]; exact hmem.set hg (stPg_len hlen hk) hpo.perm
    have hrows : ∀ k, a % 256 + k ≤ 256 → ∀ y ∈ PL k, (refPg y).length = 258 := fun k hk y hy => refPg_len ((hPok k hk).page y hy).len
    have hPset : ∀ k, a % 256 + k < 256 → ((PL k).flatMap refPg).set (f * 258 + (2 + (a % 256 + k))) (.int .u8 ((UInt8.ofNat (v / 2 ^ (8 * k))).toNat : Int)) = (PL (k + 1)).flatMap refPg := fun k hk => by
      rw [rs_set (hrows k (by omega)) (hPx k) (by omega) (refPg_setB _ _ _)]
      dsimp only
      rw [stPg_step hlen hk, hPL, hPL, List.set_set]
    refine Cd.refOpen 0 1 2 (by decide) rfl fun A c B dg gl hf => ?_
    refine Cd.ownAt 1 rfl (show 0 < M.pages.length by omega) ?_
    rintro b1 rfl
    refine Cd.imp (i := 1) (A := OwnS 108 258 (some ⟨b1, 0, none⟩) M.pages.length c (M.pages.flatMap refPg)) (A' := OwnS 108 258 (some ⟨b1, 0, none⟩) M.pages.length c ((PL 0).flatMap refPg)) rfl (fun h hh => by rw [hP0]; exact hh) ?_
    refine Cd.skip hK3 ?_
    refine Cd.seq fun K6 hK6 => ?_
    refine Cd.seq fun K7 hK7 => ?_
    refine Cd.plain [(0, false)] rfl rfl ?_
    refine Jp.y 11 rfl (want_all rfl) rfl rfl Kp.true (Y.assign rfl rfl) ?_
    refine Jp.done hK7 ?_
    refine Cd.block ?_
    refine Cd.loopK (G := Nat) (fun k => k ≤ n) (fun k => n - k) (fun _ => _) (fun k => [(11, .int .i64 (k : Int))]) [(0, _), (1, _), (2, _), (3, _), (9, _)] (fun k => [(1, OwnS 108 258 (some ⟨b1, 0, none⟩) M.pages.length c ((PL k).flatMap refPg))]) [(0, _), (2, _)] 0 (Nat.zero_le _) rfl ⟨rfl, trivial⟩ ⟨rfl, rfl, rfl, rfl, rfl, trivial⟩ ⟨rfl, trivial⟩ ⟨rfl, rfl, trivial⟩ (fun g KLa hok hLa => ?_)
    obtain ⟨k, hk⟩ : ∃ k, k = g := ⟨_, rfl⟩
    rw [← hk] at hok ⊢
    refine Cd.seq fun K8 hK8 => ?_
    refine Cd.seq fun K9 hK9 => ?_
    refine Cd.plain [(0, false), (1, false), (2, false)] rfl rfl ?_
    refine Jp.y 22 rfl (want_all rfl) rfl rfl Kp.true (Y.move rfl rfl) ?_
    refine Jp.y 23 rfl (want_all rfl) rfl rfl Kp.true (Y.move rfl rfl) ?_
    refine Jp.y 24 rfl (want_all rfl) rfl rfl Kp.true (Y.lss rfl rfl rfl) ?_
    refine Jp.done hK9 ?_
    refine Cd.cond rfl (fun ga => ?_) (fun ga => ?_)
    · have hkn : k < n := by simp at ga; omega
      have hset := hPset k (by omega)
      refine Cd.skip hK8 ?_
      refine Cd.seq fun K10 hK10 => ?_
      refine Cd.block ?_
      refine Cd.plain [(0, false), (1, false), (2, false), (3, false), (4, false), (5, false), (6, false), (7, false), (8, false), (9, false), (10, false), (11, false), (12, false), (13, false), (14, false), (15, false), (16, false), (17, false), (18, false), (19, false)] rfl rfl ?_
      refine Jp.y 27 rfl (want_all rfl) rfl rfl Kp.true (Y.move rfl rfl) ?_
      refine Jp.y 28 rfl (want_all rfl) rfl rfl Kp.true (Y.nilCheck rfl rfl) ?_
      refine Jp.y 29 rfl (want_all rfl) rfl rfl Kp.true (by first | exact Y.fieldAddrP rfl rfl Try.underlying88 rfl Try.sizeOf85 (by decide) (show _ + 1 = _ from rfl) | exact Y.fieldAddr rfl rfl Try.underlying88 rfl Try.sizeOf85 (by decide)) ?_
      refine Jp.y 30 rfl (want_all rfl) rfl rfl Kp.true (Y.loadO 0 rfl Try.isAgg85 rfl rfl rfl) ?_
      refine Jp.y 31 rfl (want_all rfl) rfl rfl Kp.true (Y.move rfl rfl) ?_
      refine Jp.y 32 rfl (want_all rfl) rfl rfl Kp.true (Y.move rfl rfl) ?_
      refine Jp.y 33 rfl (want_all rfl) rfl rfl Kp.true (by first | exact Y.remN rfl rfl rfl (by omega) (by omega) | exact Y.rem rfl rfl rfl (by first | decide | omega)) ?_
      refine Jp.y 34 rfl (want_all rfl) rfl rfl Kp.true (Y.conv_ rfl rfl Try.underlying25 Try.underlying3 (by first | exact wrap_i64 (by omega) (by omega) | rfl)) ?_
      refine Jp.y 35 rfl (want_all rfl) rfl rfl Kp.true (Y.move rfl rfl) ?_
      refine Jp.y 36 rfl (want_all rfl) rfl rfl Kp.true (Y.add_ rfl rfl rfl (by first | exact wrap_i64 (by omega) (by omega) | rfl)) ?_
      refine Jp.y 37 rfl (want_all rfl) rfl rfl Kp.true (Y.move rfl rfl) ?_
      refine Jp.y 38 rfl (want_all rfl) rfl rfl Kp.true (Y.move rfl rfl) ?_
      refine Jp.y 39 rfl (want_all rfl) rfl rfl Kp.true (Y.mul_ rfl rfl rfl (by first | exact wrap_i64 (by omega) (by omega) | rfl)) ?_
      refine Jp.y 40 rfl (want_all rfl) rfl rfl Kp.true (Y.conv_ rfl rfl Try.underlying3 Try.underlying103 (by first | exact wrap_u64 (by omega) (by omega) | rfl)) ?_
      refine Jp.y 41 rfl (want_all rfl) rfl rfl Kp.true (Y.shr rfl rfl rfl (by first | decide | omega)) ?_
      refine Jp.y 42 rfl (want_all rfl) rfl rfl Kp.true (Y.conv_ rfl rfl Try.underlying25 Try.underlying5 (by first | exact wrap_u8 (by omega) (by omega) | rfl)) ?_
      refine Jp.y 43 rfl (want_all rfl) rfl rfl Kp.true (Y.indexAddr (q := f * 258) rfl rfl rfl Try.underlying85 Try.sizeOf108 (by omega) (by omega) (by omega)) ?_
      refine Jp.slot 43 rfl (show _ = Value.pointer (some ⟨b1, f * 258, none⟩) by rw [add_mk, Nat.zero_add]) ?_
      refine Jp.slot 42 rfl (show _ = Value.int .u8 ((UInt8.ofNat (v / 2 ^ (8 * k))).toNat : Int) from congrArg (Value.int .u8) (shr8 v k (by omega))) ?_
      refine Jp.slot 36 rfl (show _ = Value.int .i64 ((a % 256 + k : Nat) : Int) from congrArg (Value.int .i64) (by omega)) ?_
      refine Jp.y 44 rfl (want_all rfl) rfl rfl Kp.true (by first | exact Y.fieldAddrP rfl rfl Try.underlying108 rfl Try.sizeOf106 (by decide) (show _ + 2 = _ from rfl) | exact Y.fieldAddr rfl rfl Try.underlying108 rfl Try.sizeOf106 (by decide)) ?_
      refine Jp.y 45 rfl (want_all rfl) rfl rfl Kp.true (Y.indexArrP (q := f * 258 + (2 + (a % 256 + k))) rfl rfl rfl Try.underlying106 Try.sizeOf5 (by omega) (by omega) (by omega)) ?_
      refine Jp.storeS 1 (q := f * 258 + (2 + (a % 256 + k))) rfl (want_all rfl) rfl rfl Try.sizeOf5 rfl rfl rfl rfl (by rw [add_mk, Nat.zero_add]) (by omega) ((PL (k + 1)).flatMap refPg) hset Kp.true ?_
      refine Jp.over rfl hK10 ?_
      refine Cd.plain [(0, false), (1, false), (2, false)] rfl rfl ?_
      refine Jp.y 25 rfl (want_all rfl) rfl rfl Kp.true (Y.move rfl rfl) ?_
      refine Jp.y 26 rfl (want_all rfl) rfl rfl Kp.true (Y.add_ rfl rfl rfl (by first | exact wrap_i64 (by omega) (by omega) | rfl)) ?_
      refine Jp.y 11 rfl (want_all rfl) rfl rfl Kp.true (Y.assign rfl rfl) ?_
      rw [show (k : Int) + 1 = ((k + 1 : Nat) : Int) by omega]
      refine Jp.again hLa (k + 1) (by omega) (by omega) rfl ⟨rfl, rfl, rfl, rfl, rfl, rfl, trivial⟩ ⟨rfl, rfl, rfl, trivial⟩
    · have hkn : k = n := by simp at ga; omega
      rw [hkn]
      rw [← hPl n]
      refine Cd.refClose (b := b) (M := { M with pages := PL n }) (A := some ⟨b1, 0, none⟩) (c := c) (B := B) (d' := dg) (g := gl) 0 1 2 (by decide) ⟨hPok n hn2, hf.gen⟩ rfl rfl rfl ?_
      refine Cd.exit rfl hK6 ?_
      refine Cd.seq fun K11 hK11 => ?_
      refine Cd.plain [(0, false), (1, false), (2, false)] rfl rfl ?_
      refine Jp.y 46 rfl (want_all rfl) rfl rfl Kp.true (Y.move rfl rfl) ?_
      refine Jp.y 47 rfl (want_all rfl) rfl rfl Kp.true (Y.move rfl rfl) ?_
      refine Jp.call [0] [0] (refBump_spec b { M with pages := PL n } a ha) 48 rfl (want_all rfl) rfl rfl (Runs.fn rfl Try.call93 rfl) (by decide) (by decide) rfl trivial ?_
      rintro v1 ρ1 L1 ⟨rfl, rfl, rfl⟩
      refine ⟨rfl, fun hle1 => ⟨Kp.true, ?_⟩⟩
      refine Jp.done hK11 ?_
      refine Cd.seq fun K12 hK12 => ?_
      refine Cd.plain [(0, false)] rfl rfl ?_
      refine Jp.y 8 rfl (want_all rfl) rfl rfl Kp.true (Y.assign rfl rfl) ?_
      refine Jp.done hK12 ?_
      refine Cd.ret [(0, _)] rfl (res1 rfl rfl) ⟨rfl, trivial⟩ ⟨rfl, by rw [hV], by rw [hV, ← hPs]⟩
theorem refMay_spec (b : Nat) (M : MemG) (a n : Nat) (need : Int) (ha : a < 4294967296) (hn : n ≤ 281474976710656) : Spec Try.prog 97 #[.pointer (some ⟨b, 0, none⟩), .int .u32 a, .int .i64 n, .int .i64 need] (fun _ => True) [(0, RefO b M)]
    (fun ρ ρ' v L => ρ' = ρ ∧ v = .bool (allM M a n need) ∧ L = [(0, RefO b M)]) := by
  refine Spec.of 48 Try.func97 rfl Try.ntmps97 [(0, _), (1, _), (2, _), (3, _)] rfl rfl ?_
  intro cx ρ hr h0
  refine Cd.know (A := RefO b M) 0 rfl RefO.ok fun hmem => ?_
  have hbl := base_le a
  refine Cd.seq fun K13 hK13 => ?_
  refine Cd.plain [(0, false)] rfl rfl ?_
  refine Jp.y 8 rfl (want_all rfl) rfl rfl Kp.true (Y.assign rfl rfl) ?_
  refine Jp.done hK13 ?_
  refine Cd.seq fun K14 hK14 => ?_
  refine Cd.seq fun K15 hK15 => ?_
  refine Cd.plain [(0, false), (1, false)] rfl rfl ?_
  refine Jp.y 12 rfl (want_all rfl) rfl rfl Kp.true (Y.move rfl rfl) ?_
  refine Jp.y 13 rfl (want_all rfl) rfl rfl Kp.true (Y.leq rfl rfl rfl) ?_
  refine Jp.done hK15 ?_
  refine Cd.cond rfl (fun g1 => ?_) (fun g1 => ?_)
  · have hn0 : n = 0 := by simp at g1; omega
    refine Cd.seq fun K16 hK16 => ?_
    refine Cd.plain [(0, false)] rfl rfl ?_
    refine Jp.y 8 rfl (want_all rfl) rfl rfl Kp.true (Y.assign rfl rfl) ?_
    refine Jp.done hK16 ?_
    refine Cd.ret [(0, _)] rfl (res1 rfl rfl) ⟨rfl, trivial⟩ ⟨rfl, by rw [hn0]; rfl, rfl⟩
  · have hn0 : n ≠ 0 := by simp at g1; omega
    refine Cd.skip hK14 ?_
    refine Cd.seq fun K17 hK17 => ?_
    refine Cd.seq fun K18 hK18 => ?_
    refine Cd.plain [(0, false), (1, false), (2, false), (3, false), (4, false)] rfl rfl ?_
    refine Jp.y 14 rfl (want_all rfl) rfl rfl Kp.true (Y.move rfl rfl) ?_
    refine Jp.y 15 rfl (want_all rfl) rfl rfl Kp.true (Y.conv_ rfl rfl Try.underlying25 Try.underlying2 (by first | exact wrap_i64 (by omega) (by omega) | rfl)) ?_
    refine Jp.y 16 rfl (want_all rfl) rfl rfl Kp.true (Y.move rfl rfl) ?_
    refine Jp.y 17 rfl (want_all rfl) rfl rfl Kp.true (Y.add_ rfl rfl rfl (by first | exact wrap_i64 (by omega) (by omega) | rfl)) ?_
    refine Jp.y 18 rfl (want_all rfl) rfl rfl Kp.true (Y.gtr rfl rfl rfl) ?_
    refine Jp.done hK18 ?_
    refine Cd.cond rfl (fun g2 => ?_) (fun g2 => ?_)
    · have hbig : 4294967296 < a + n := by simp at g2; omega
      refine Cd.seq fun K19 hK19 => ?_
      refine Cd.plain [(0, false)] rfl rfl ?_
      refine Jp.y 8 rfl (want_all rfl) rfl rfl Kp.true (Y.assign rfl rfl) ?_
      refine Jp.done hK19 ?_
      refine Cd.ret [(0, _)] rfl (res1 rfl rfl) ⟨rfl, trivial⟩ ⟨rfl, by rw [allM_big hn0 hbig], rfl⟩
    · have hsm : a + n ≤ 4294967296 := by simp at g2; omega
      have hba : baseN a = a - a % 256 := rfl
      have hcnt : ∀ j, (j < allCnt a n ↔ baseN a + 256 * j < a + n) := fun j => by
        unfold allCnt; rw [hba]; omega
      obtain ⟨k0, hk0⟩ : ∃ k0, baseN a = k0 := ⟨_, rfl⟩
      have hk0a : k0 % 256 = 0 := by rw [← hk0, hba]; omega
      have hyes := allM_yes (M := M) (a := a) (n := n) (need := need) hsm
      have hnot := fun j => allM_no (M := M) (a := a) (n := n) (need := need) (j := j) hn0
      rw [hk0] at hcnt hbl hyes hnot hba
      obtain ⟨cN, hcN⟩ : ∃ cN, allCnt a n = cN := ⟨_, rfl⟩
      simp only [hcN] at hcnt hyes hnot
      refine Cd.skip hK17 ?_
      refine Cd.seq fun K20 hK20 => ?_
      refine Cd.seq fun K21 hK21 => ?_
      refine Cd.plain [(0, false), (1, false), (2, false), (3, false), (4, false), (5, false)] rfl rfl ?_
      refine Jp.y 19 rfl (want_all rfl) rfl rfl Kp.true (Y.move rfl rfl) ?_
      refine Jp.y 20 rfl (want_all rfl) rfl rfl Kp.true (Y.move rfl rfl) ?_
      refine Jp.y 21 rfl (want_all rfl) rfl rfl Kp.true (by first | exact Y.remN rfl rfl rfl (by omega) (by omega) | exact Y.rem rfl rfl rfl (by first | decide | omega)) ?_
      refine Jp.y 22 rfl (want_all rfl) rfl rfl Kp.true (Y.sub_ rfl rfl rfl (by first | exact wrap_u32 (by omega) (by omega) | rfl)) ?_
      refine Jp.y 23 rfl (want_all rfl) rfl rfl Kp.true (Y.conv_ rfl rfl Try.underlying25 Try.underlying2 (by first | exact wrap_i64 (by omega) (by omega) | rfl)) ?_
      refine Jp.slot 23 rfl (show _ = Value.int .i64 ((k0 + 256 * 0 : Nat) : Int) from congrArg (Value.int .i64) (by omega)) ?_
      refine Jp.y 9 rfl (want_all rfl) rfl rfl Kp.true (Y.assign rfl rfl) ?_
      refine Jp.done hK21 ?_
      refine Cd.block ?_
      refine Cd.loopK (G := Nat) (fun j => j ≤ cN ∧ ∀ i, i < j → pgOk M (k0 + 256 * i) need = true) (fun j => cN - j) (fun _ => _) (fun j => [(9, .int .i64 ((k0 + 256 * j : Nat) : Int))]) [(0, _), (1, _), (2, _), (3, _)] (fun j => []) [(0, _)] 0 ⟨Nat.zero_le _, fun i h => absurd h (Nat.not_lt_zero _)⟩ rfl ⟨rfl, trivial⟩ ⟨rfl, rfl, rfl, rfl, trivial⟩ trivial ⟨rfl, trivial⟩ (fun g KLa hok hLa => ?_)
      obtain ⟨j, hj⟩ : ∃ j, j = g := ⟨_, rfl⟩
      rw [← hj] at hok ⊢
      obtain ⟨ok1, ok2⟩ := hok
      have hcj := hcnt j
      refine Cd.seq fun K22 hK22 => ?_
      refine Cd.seq fun K23 hK23 => ?_
      refine Cd.plain [(0, false), (1, false), (2, false), (3, false), (4, false), (5, false)] rfl rfl ?_
      refine Jp.y 24 rfl (want_all rfl) rfl rfl Kp.true (Y.move rfl rfl) ?_
      refine Jp.y 25 rfl (want_all rfl) rfl rfl Kp.true (Y.move rfl rfl) ?_
      refine Jp.y 26 rfl (want_all rfl) rfl rfl Kp.true (Y.conv_ rfl rfl Try.underlying25 Try.underlying2 (by first | exact wrap_i64 (by omega) (by omega) | rfl)) ?_
      refine Jp.y 27 rfl (want_all rfl) rfl rfl Kp.true (Y.move rfl rfl) ?_
      refine Jp.y 28 rfl (want_all rfl) rfl rfl Kp.true (Y.add_ rfl rfl rfl (by first | exact wrap_i64 (by omega) (by omega) | rfl)) ?_
      refine Jp.y 29 rfl (want_all rfl) rfl rfl Kp.true (Y.lss rfl rfl rfl) ?_
      refine Jp.done hK23 ?_
      refine Cd.cond rfl (fun ga => ?_) (fun ga => ?_)
      · have hjn : j < cN := by simp at ga; omega
        have hnj := hnot j hjn
        have hkl : k0 + 256 * j < 4294967296 := by omega
        obtain ⟨k, hk⟩ : ∃ k, k0 + 256 * j = k := ⟨_, rfl⟩
        have hka : k % 256 = 0 := by omega
        rw [hk] at hnj hkl ⊢
        refine Cd.skip hK22 ?_
        refine Cd.seq fun K24 hK24 => ?_
        refine Cd.block ?_
        refine Cd.seq fun K25 hK25 => ?_
        refine Cd.plain [(0, false), (1, false), (2, false), (3, false), (4, false), (5, false), (6, false), (7, false), (8, false)] rfl rfl ?_
        refine Jp.y 33 rfl (want_all rfl) rfl rfl Kp.true (Y.move rfl rfl) ?_
        refine Jp.y 34 rfl (want_all rfl) rfl rfl Kp.true (Y.move rfl rfl) ?_
        refine Jp.y 35 rfl (want_all rfl) rfl rfl Kp.true (Y.conv_ rfl rfl Try.underlying2 Try.underlying25 (by first | exact wrap_u32 (by omega) (by omega) | rfl)) ?_
        refine Jp.call [0] [0] (refPerm_spec b M k hkl) 36 rfl (want_all rfl) rfl rfl (Runs.fn rfl Try.call63 rfl) (by decide) (by decide) rfl trivial ?_
        rintro v1 ρ1 L1 ⟨rfl, rfl, rfl⟩
        refine ⟨rfl, fun hle1 => ⟨Kp.true, ?_⟩⟩
        rcases hg : getPg M.pages k with _ | p
        · have hV : permM M k = (0, false) := by rw [permM, base_al hka, hg]
          have hno : pgOk M k need = false := pgOk_none hg
          refine Jp.y 32 rfl (want_all rfl) rfl rfl Kp.true (Y.move rfl rfl) ?_
          refine Jp.y 37 rfl (want_all rfl) rfl rfl Kp.true (Y.extract rfl rfl rfl) ?_
          refine Jp.y 38 rfl (want_all rfl) rfl rfl Kp.true (Y.extract rfl rfl rfl) ?_
          refine Jp.y 10 rfl (want_all rfl) rfl rfl Kp.true (Y.assign rfl rfl) ?_
          refine Jp.y 11 rfl (want_all rfl) rfl rfl Kp.true (Y.assign rfl rfl) ?_
          refine Jp.done hK25 ?_
          refine Cd.seq fun K26 hK26 => ?_
          refine Cd.plain [(0, false), (1, false), (2, false), (3, false), (4, false), (5, false), (6, false), (7, false), (8, false)] rfl rfl ?_
          refine Jp.y 39 rfl (want_all rfl) rfl rfl Kp.true (Y.move rfl rfl) ?_
          refine Jp.y 40 rfl (want_all rfl) rfl rfl Kp.true (Y.not rfl rfl) ?_
          refine Jp.slot 40 rfl (show _ = Value.bool true by rw [hV]; rfl) ?_
          refine Jp.y 41 rfl (want_all rfl) rfl rfl Kp.true (Y.move rfl rfl) ?_
          refine Jp.slot 41 rfl (show _ = Value.bool true from rfl) ?_
          refine Jp.skip 42 rfl (want_as rfl rfl rfl rfl) rfl rfl Kp.true ?_
          refine Jp.skip 43 rfl (want_as rfl rfl rfl rfl) rfl rfl Kp.true ?_
          refine Jp.skip 44 rfl (want_as rfl rfl rfl rfl) rfl rfl Kp.true ?_
          refine Jp.skip 45 rfl (want_as rfl rfl rfl rfl) rfl rfl Kp.true ?_
          refine Jp.skip 46 rfl (want_as rfl rfl rfl rfl) rfl rfl Kp.true ?_
          refine Jp.y 47 rfl (want_all rfl) rfl rfl Kp.true (Y.pickT rfl rfl rfl) ?_
          refine Jp.done hK26 ?_
          refine Cd.condT rfl ?_
          refine Cd.seq fun K27 hK27 => ?_
          refine Cd.plain [(0, false)] rfl rfl ?_
          refine Jp.y 8 rfl (want_all rfl) rfl rfl Kp.true (Y.assign rfl rfl) ?_
          refine Jp.done hK27 ?_
          refine Cd.ret [(0, _)] rfl (res1 rfl rfl) ⟨rfl, trivial⟩ ⟨rfl, by rw [hnj hno], rfl⟩
        · have hV : permM M k = ((p.perm : Int), true) := by rw [permM, base_al hka, hg]
          have hpg : pgOk M k need = may p.perm need := pgOk_some hg
          rw [hV]
          refine Jp.y 32 rfl (want_all rfl) rfl rfl Kp.true (Y.move rfl rfl) ?_
          refine Jp.y 37 rfl (want_all rfl) rfl rfl Kp.true (Y.extract rfl rfl rfl) ?_
          refine Jp.y 38 rfl (want_all rfl) rfl rfl Kp.true (Y.extract rfl rfl rfl) ?_
          refine Jp.y 10 rfl (want_all rfl) rfl rfl Kp.true (Y.assign rfl rfl) ?_
          refine Jp.y 11 rfl (want_all rfl) rfl rfl Kp.true (Y.assign rfl rfl) ?_
          refine Jp.done hK25 ?_
          refine Cd.seq fun K28 hK28 => ?_
          refine Cd.plain [(0, false), (1, false), (2, false), (3, false), (4, false), (5, false), (6, false), (7, false), (8, false)] rfl rfl ?_
          refine Jp.y 39 rfl (want_all rfl) rfl rfl Kp.true (Y.move rfl rfl) ?_
          refine Jp.y 40 rfl (want_all rfl) rfl rfl Kp.true (Y.not rfl rfl) ?_
          refine Jp.slot 40 rfl (show _ = Value.bool false by rfl) ?_
          refine Jp.y 41 rfl (want_all rfl) rfl rfl Kp.true (Y.move rfl rfl) ?_
          refine Jp.slot 41 rfl (show _ = Value.bool false from rfl) ?_
          refine Jp.y 42 rfl (want_as rfl rfl rfl rfl) rfl rfl Kp.true (Y.move rfl rfl) ?_
          refine Jp.y 43 rfl (want_as rfl rfl rfl rfl) rfl rfl Kp.true (Y.move rfl rfl) ?_
          refine Jp.y 44 rfl (want_as rfl rfl rfl rfl) rfl rfl Kp.true (Y.bits rfl rfl rfl rfl) ?_
          refine Jp.y 45 rfl (want_as rfl rfl rfl rfl) rfl rfl Kp.true (Y.move rfl rfl) ?_
          refine Jp.y 46 rfl (want_as rfl rfl rfl rfl) rfl rfl Kp.true (Y.neq rfl rfl rfl) ?_
          refine Jp.y 47 rfl (want_all rfl) rfl rfl Kp.true (Y.pickF rfl rfl rfl) ?_
          refine Jp.done hK28 ?_
          refine Cd.cond rfl (fun gm => ?_) (fun gm => ?_)
          · have hm : may p.perm need = false := by simpa [may] using gm
            refine Cd.seq fun K29 hK29 => ?_
            refine Cd.plain [(0, false)] rfl rfl ?_
            refine Jp.y 8 rfl (want_all rfl) rfl rfl Kp.true (Y.assign rfl rfl) ?_
            refine Jp.done hK29 ?_
            refine Cd.ret [(0, _)] rfl (res1 rfl rfl) ⟨rfl, trivial⟩ ⟨rfl, by rw [hnj (by rw [hpg, hm])], rfl⟩
          · have hm : may p.perm need = true := by simpa [may] using gm
            refine Cd.over rfl hK24 ?_
            refine Cd.plain [(0, false), (1, false), (2, false)] rfl rfl ?_
            refine Jp.y 30 rfl (want_all rfl) rfl rfl Kp.true (Y.move rfl rfl) ?_
            refine Jp.y 31 rfl (want_all rfl) rfl rfl Kp.true (Y.add_ rfl rfl rfl (by first | exact wrap_i64 (by omega) (by omega) | rfl)) ?_
            refine Jp.y 9 rfl (want_all rfl) rfl rfl Kp.true (Y.assign rfl rfl) ?_
            rw [show (k : Int) + 256 = ((k0 + 256 * (j + 1) : Nat) : Int) by omega]
            have hnext : ∀ i, i < j + 1 → pgOk M (k0 + 256 * i) need = true := fun i hi => (Nat.lt_or_ge i j).elim (ok2 i) fun h => by rw [show i = j by omega, hk, hpg, hm]
            refine Jp.again hLa (j + 1) ⟨hjn, hnext⟩ (by omega) rfl ⟨rfl, rfl, rfl, rfl, rfl, trivial⟩ ⟨rfl, trivial⟩
      · have hjn : j = cN := by simp at ga; omega
        refine Cd.exit rfl hK20 ?_
        refine Cd.seq fun K30 hK30 => ?_
        refine Cd.plain [(0, false)] rfl rfl ?_
        refine Jp.y 8 rfl (want_all rfl) rfl rfl Kp.true (Y.assign rfl rfl) ?_
        refine Jp.done hK30 ?_
        refine Cd.ret [(0, _)] rfl (res1 rfl rfl) ⟨rfl, trivial⟩ ⟨rfl, by rw [hyes fun i hi => ok2 i (by omega)], rfl⟩
end Go.Proofs.Ytgmhijlcdadaeaa
