import Derived.Test.YtgmhijlcdadaeaaZRefH
import Derived.Test.YtgmhijlcdadaeaaZIterX2
import Derived.Test.YtgmhijlcdadaeaaZSortX2
import Derived.Test.YtgmhijlcdadaeaaZMemX2
set_option linter.unusedVariables false
set_option linter.unusedSimpArgs false
set_option maxRecDepth 100000
namespace Go.Proofs.Ytgmhijlcdadaeaa
open Go
theorem MemO.ok {b : Nat} {M : MemG} : ∀ h, MemO b M h → MemOk M := fun h ⟨x, hf, _⟩ => hf.ok
theorem may_none {p : Nat} (h : p ≤ 7) : may p 0 = true := by
  have : p = 0 ∨ p = 1 ∨ p = 2 ∨ p = 3 ∨ p = 4 ∨ p = 5 ∨ p = 6 ∨ p = 7 := by omega
  rcases this with rfl | rfl | rfl | rfl | rfl | rfl | rfl | rfl <;> rfl
theorem load_byte {M : MemG} (h : MemOk M) {y : Nat × Pg} (hy : y ∈ M.pages) {k : Nat} (hk : k < 256) : loadM M (y.1 + k) 1 0 = ((y.2.b.getD k 0).toNat, 0) := by
  have hp := h.page y hy
  have hal := hp.al
  have hlen := hp.len
  have hg : getPg M.pages y.1 = some y.2 := getPg_of_mem h.rising.nodup hy
  have hb : baseN (y.1 + k) = y.1 := by unfold baseN; omega
  have hl : lookM M (y.1 + k) 1 0 = 0 := by
    rw [lookM, if_neg (by simp [sizeOk]), hb, hg]
    dsimp only
    rw [may_none hp.perm, if_pos rfl]
  rw [loadM, if_pos hl, hb, hg]
  dsimp only
  rw [show (y.1 + k) % 256 = k by omega, show (1 : Int).toNat = 1 from rfl, List.drop_eq_getElem_cons (show k < y.2.b.length by omega), List.take_succ_cons, List.take_zero]
  rw [List.getD_eq_getElem?_getD, List.getElem?_eq_getElem (show k < y.2.b.length by omega)]
  rfl
theorem pages3_spec (b bw : Nat) (M : MemG) : Spec Try.prog 65 #[.pointer (some ⟨b, 0, none⟩), .pointer (some ⟨bw, 0, none⟩)] (fun _ => True) [(0, MemO b M), (1, RefO bw M)]
    (fun ρ ρ' v L => v = .bool true ∧ L = [(0, MemO b M), (1, RefO bw M)]) := by
  refine Spec.of 36 Try.func65 rfl Try.ntmps65 [(0, _), (1, _)] rfl rfl ?_
  intro cx ρ hr h0
  refine Cd.know (A := RefO bw M) 1 rfl RefO.ok fun hmem => ?_
  have hroom := hmem.room
  have hbud := hmem.budget.2
  have hlt : ∀ y ∈ M.pages, y.1 < 4294967296 := fun y hy => (hmem.page y hy).lt
  refine Cd.seq fun K1 hK1 => ?_
  refine Cd.plain [(0, false)] rfl rfl ?_
  refine Jp.y 4 rfl (want_all rfl) rfl rfl Kp.true (Y.assign rfl rfl) ?_
  refine Jp.done hK1 ?_
  refine Cd.seq fun K2 hK2 => ?_
  refine Cd.plain [(0, false), (1, false), (2, false)] rfl rfl ?_
  refine Jp.y 7 rfl (want_all rfl) rfl rfl Kp.true (Y.move rfl rfl) ?_
  refine Jp.call [0] [0, 2] (pages_spec b M (sorts4096 _ (by omega))) 8 rfl (want_all rfl) rfl rfl (Runs.fn rfl Try.call69 rfl) (by decide) (by decide) rfl trivial ?_
  rintro v1 ρ1 L1 ⟨KA, kc, rfl, rfl⟩
  refine ⟨rfl, fun hle1 => ⟨Kp.true, ?_⟩⟩
  refine Jp.y 5 rfl (want_all rfl) rfl rfl Kp.true (Y.assign rfl rfl) ?_
  refine Jp.done hK2 ?_
  refine Cd.seq fun K3 hK3 => ?_
  refine Cd.seq fun K4 hK4 => ?_
  refine Cd.plain [(0, false), (1, false), (2, false), (3, false), (4, false), (5, false), (6, false), (7, false)] rfl rfl ?_
  refine Jp.refOpen 1 5 6 (by decide) rfl fun A c B dg gl hf => ?_
  have hrows := hf.rows
  refine Jp.y 9 rfl (want_all rfl) rfl rfl Kp.true (Y.move rfl rfl) ?_
  refine Jp.y 10 rfl (want_all rfl) rfl rfl Kp.true (Y.lenslice rfl Try.underlying26 rfl) ?_
  refine Jp.y 11 rfl (want_all rfl) rfl rfl Kp.true (Y.move rfl rfl) ?_
  refine Jp.y 12 rfl (want_all rfl) rfl rfl Kp.true (Y.nilCheck rfl rfl) ?_
  refine Jp.y 13 rfl (want_all rfl) rfl rfl Kp.true (by first | exact Y.fieldAddrP rfl rfl Try.underlying88 rfl Try.sizeOf85 (by decide) (show _ + 1 = _ from rfl) | exact Y.fieldAddr rfl rfl Try.underlying88 rfl Try.sizeOf85 (by decide)) ?_
  refine Jp.y 14 rfl (want_all rfl) rfl rfl Kp.true (Y.loadO 1 rfl Try.isAgg85 rfl rfl rfl) ?_
  refine Jp.y 15 rfl (want_all rfl) rfl rfl Kp.true (Y.lenslice rfl Try.underlying85 rfl) ?_
  refine Jp.y 16 rfl (want_all rfl) rfl rfl Kp.true (Y.neq rfl rfl rfl) ?_
  refine Jp.done hK4 ?_
  refine Cd.cond rfl (fun gl => ?_) (fun gl => ?_)
  · exact absurd gl (by simp)
  · skip
    refine Cd.skip hK3 ?_
    refine Cd.seq fun K5 hK5 => ?_
    refine Cd.seq fun K6 hK6 => ?_
    refine Cd.plain [(0, false)] rfl rfl ?_
    refine Jp.y 6 rfl (want_all rfl) rfl rfl Kp.true (Y.assign rfl rfl) ?_
    refine Jp.done hK6 ?_
    refine Cd.block ?_
    refine Cd.loopK (G := Nat) (fun i => i ≤ M.pages.length) (fun i => M.pages.length - i) (fun _ => _) (fun i => [(6, .int .i64 (i : Int))]) [(1, _), (5, _)] (fun i => []) [(0, _), (1, _), (2, _), (5, _), (6, _)] 0 (Nat.zero_le _) rfl ⟨rfl, trivial⟩ ⟨rfl, rfl, trivial⟩ trivial ⟨rfl, rfl, rfl, rfl, rfl, trivial⟩ (fun g KLa hok hLa => ?_)
    obtain ⟨i, hi⟩ : ∃ i, i = g := ⟨_, rfl⟩
    rw [← hi] at hok ⊢
    refine Cd.seq fun K7 hK7 => ?_
    refine Cd.seq fun K8 hK8 => ?_
    refine Cd.plain [(0, false), (1, false), (2, false), (3, false)] rfl rfl ?_
    refine Jp.y 17 rfl (want_all rfl) rfl rfl Kp.true (Y.move rfl rfl) ?_
    refine Jp.y 18 rfl (want_all rfl) rfl rfl Kp.true (Y.move rfl rfl) ?_
    refine Jp.y 19 rfl (want_all rfl) rfl rfl Kp.true (Y.lenslice rfl Try.underlying26 rfl) ?_
    refine Jp.y 20 rfl (want_all rfl) rfl rfl Kp.true (Y.lss rfl rfl rfl) ?_
    refine Jp.done hK8 ?_
    refine Cd.cond rfl (fun ga => ?_) (fun ga => ?_)
    · have hil : i < M.pages.length := by simp at ga; omega
      have hx : M.pages[i]? = some M.pages[i] := List.getElem?_eq_getElem hil
      obtain ⟨y, hy⟩ : ∃ y, y = M.pages[i] := ⟨_, rfl⟩
      rw [← hy] at hx
      have hyl := hlt y (List.mem_of_getElem? hx)
      have hkx : (natsV .u32 (M.pages.map (·.1)))[i]? = some (.int .u32 (y.1 : Int)) := natsV_get .u32 (by rw [List.getElem?_map, hx]; rfl)
      refine Cd.ownAt 5 rfl (show 0 < M.pages.length by omega) ?_
      rintro b1 rfl
      refine Cd.ownAt 2 rfl (show 0 < M.pages.length by omega) ?_
      rintro b2 rfl
      have c0 := OwnS.hasC (e := 108) (m := 258) (k := M.pages.length) (c := c) (ad := ⟨b1, 0, none⟩) (rs_get hrows hx (refPg_base y))
      have k0 := OwnS.hasC (e := 25) (m := 1) (k := M.pages.length) (c := kc) (ad := ⟨b2, 0, none⟩) hkx
      refine Cd.skip hK7 ?_
      refine Cd.seq fun K9 hK9 => ?_
      refine Cd.block ?_
      refine Cd.seq fun K10 hK10 => ?_
      refine Cd.drawn [(1, _), (2, _), (5, _)] ⟨rfl, rfl, rfl, trivial⟩ [(0, true), (1, true), (2, true), (3, true), (4, true), (5, true), (6, true), (7, true), (8, true), (9, true), (10, true), (11, true), (12, true)] follows (by kernel_rfl) (fun hrl => ?_)
      refine Jp.q 23 rfl (want_all rfl) rfl rfl (Y.move rfl rfl) ?_
      refine Jp.q 24 rfl (want_all rfl) rfl rfl (Y.move rfl rfl) ?_
      refine Jp.q 25 rfl (want_all rfl) rfl rfl (Y.indexAddr (q := i) rfl rfl rfl Try.underlying26 Try.sizeOf25 (by omega) (by omega) (by omega)) ?_
      refine Jp.q 26 rfl (want_all rfl) rfl rfl (by first | exact Y.loadO 1 rfl Try.isAgg25 rfl rfl rfl | exact Y.loadC 5 rfl Try.isAgg25 rfl rfl c0 | exact Y.loadC 2 rfl Try.isAgg25 rfl rfl k0) ?_
      refine Jp.q 27 rfl (want_all rfl) rfl rfl (Y.move rfl rfl) ?_
      refine Jp.q 28 rfl (want_all rfl) rfl rfl (Y.nilCheck rfl rfl) ?_
      refine Jp.q 29 rfl (want_all rfl) rfl rfl (by first | exact Y.fieldAddrP rfl rfl Try.underlying88 rfl Try.sizeOf85 (by decide) (show _ + 1 = _ from rfl) | exact Y.fieldAddr rfl rfl Try.underlying88 rfl Try.sizeOf85 (by decide)) ?_
      refine Jp.q 30 rfl (want_all rfl) rfl rfl (by first | exact Y.loadO 1 rfl Try.isAgg85 rfl rfl rfl | exact Y.loadC 5 rfl Try.isAgg85 rfl rfl c0 | exact Y.loadC 2 rfl Try.isAgg85 rfl rfl k0) ?_
      refine Jp.q 31 rfl (want_all rfl) rfl rfl (Y.move rfl rfl) ?_
      refine Jp.q 32 rfl (want_all rfl) rfl rfl (Y.indexAddr (q := i * 258) rfl rfl rfl Try.underlying85 Try.sizeOf108 (by omega) (by omega) (by omega)) ?_
      refine Jp.q 33 rfl (want_all rfl) rfl rfl (by first | exact Y.fieldAddrP rfl rfl Try.underlying108 rfl Try.sizeOf25 (by decide) (show _ + 0 = _ from rfl) | exact Y.fieldAddr rfl rfl Try.underlying108 rfl Try.sizeOf25 (by decide)) ?_
      refine Jp.q 34 rfl (want_all rfl) rfl rfl (by first | exact Y.loadO 1 rfl Try.isAgg25 rfl rfl rfl | exact Y.loadC 5 rfl Try.isAgg25 rfl rfl c0 | exact Y.loadC 2 rfl Try.isAgg25 rfl rfl k0) ?_
      refine Jp.q 35 rfl (want_all rfl) rfl rfl (Y.neq rfl rfl rfl) ?_
      refine Jp.slot 35 rfl (show _ = Value.bool false from congrArg Value.bool (by simp)) ?_
      refine Jp.done hK10 ?_
      refine Cd.condF rfl ?_
      refine Cd.over rfl hK9 ?_
      refine Cd.plain [(0, false), (1, false), (2, false)] rfl rfl ?_
      refine Jp.y 21 rfl (want_all rfl) rfl rfl Kp.true (Y.move rfl rfl) ?_
      refine Jp.y 22 rfl (want_all rfl) rfl rfl Kp.true (Y.add_ rfl rfl rfl (by first | exact wrap_i64 (by omega) (by omega) | rfl)) ?_
      refine Jp.y 6 rfl (want_all rfl) rfl rfl Kp.true (Y.assign rfl rfl) ?_
      rw [show (i : Int) + 1 = ((i + 1 : Nat) : Int) by omega]
      refine Jp.again hLa (i + 1) (by omega) (by omega) rfl ⟨rfl, rfl, rfl, trivial⟩ ⟨rfl, rfl, rfl, rfl, rfl, trivial⟩
    · skip
      refine Cd.exit rfl hK5 ?_
      refine Cd.seq fun K12 hK12 => ?_
      refine Cd.plain [(0, false)] rfl rfl ?_
      refine Jp.y 4 rfl (want_all rfl) rfl rfl Kp.true (Y.assign rfl rfl) ?_
      refine Jp.done hK12 ?_
      refine Cd.refClose (b := bw) (M := M) 1 5 6 (by decide) hf rfl rfl rfl ?_
      refine Cd.ret [(0, _), (1, _)] rfl (res1 rfl rfl) ⟨rfl, rfl, trivial⟩ ⟨rfl, rfl⟩
theorem bytes3_spec (b bw : Nat) (M : MemG) : Spec Try.prog 66 #[.pointer (some ⟨b, 0, none⟩), .pointer (some ⟨bw, 0, none⟩)] (fun _ => True) [(0, MemO b M), (1, RefO bw M)]
    (fun ρ ρ' v L => v = .bool true ∧ L = [(0, MemO b M), (1, RefO bw M)]) := by
  refine Spec.of 58 Try.func66 rfl Try.ntmps66 [(0, _), (1, _)] rfl rfl ?_
  intro cx ρ hr h0
  refine Cd.know (A := RefO bw M) 1 rfl RefO.ok fun hmem => ?_
  have hroom := hmem.room
  have hbud := hmem.budget.2
  have hlt : ∀ y ∈ M.pages, y.1 < 4294967296 ∧ y.1 % 256 = 0 := fun y hy => ⟨(hmem.page y hy).lt, (hmem.page y hy).al⟩
  refine Cd.refOpen 1 5 6 (by decide) rfl fun A c B dg gl hf => ?_
  have hrows := hf.rows
  refine Cd.seq fun K13 hK13 => ?_
  refine Cd.plain [(0, false)] rfl rfl ?_
  refine Jp.y 4 rfl (want_all rfl) rfl rfl Kp.true (Y.assign rfl rfl) ?_
  refine Jp.done hK13 ?_
  refine Cd.seq fun K14 hK14 => ?_
  refine Cd.seq fun K15 hK15 => ?_
  refine Cd.plain [(0, false)] rfl rfl ?_
  refine Jp.y 5 rfl (want_all rfl) rfl rfl Kp.true (Y.assign rfl rfl) ?_
  refine Jp.done hK15 ?_
  refine Cd.block ?_
  refine Cd.loopK (G := Nat) (fun i => i ≤ M.pages.length) (fun i => M.pages.length - i) (fun _ => _) (fun i => [(5, .int .i64 (i : Int))]) [(0, _), (1, _)] (fun i => []) [(0, _), (1, _), (5, _), (6, _)] 0 (Nat.zero_le _) rfl ⟨rfl, trivial⟩ ⟨rfl, rfl, trivial⟩ trivial ⟨rfl, rfl, rfl, rfl, trivial⟩ (fun g KLa hok hLa => ?_)
  obtain ⟨i, hi⟩ : ∃ i, i = g := ⟨_, rfl⟩
  rw [← hi] at hok ⊢
  refine Cd.seq fun K16 hK16 => ?_
  refine Cd.seq fun K17 hK17 => ?_
  refine Cd.plain [(0, false), (1, false), (2, false), (3, false), (4, false), (5, false), (6, false), (7, false), (8, false), (9, false), (10, false)] rfl rfl ?_
  refine Jp.y 9 rfl (want_all rfl) rfl rfl Kp.true (Y.move rfl rfl) ?_
  refine Jp.y 10 rfl (want_all rfl) rfl rfl Kp.true (Y.move rfl rfl) ?_
  refine Jp.y 11 rfl (want_all rfl) rfl rfl Kp.true (Y.nilCheck rfl rfl) ?_
  refine Jp.y 12 rfl (want_all rfl) rfl rfl Kp.true (by first | exact Y.fieldAddrP rfl rfl Try.underlying88 rfl Try.sizeOf85 (by decide) (show _ + 1 = _ from rfl) | exact Y.fieldAddr rfl rfl Try.underlying88 rfl Try.sizeOf85 (by decide)) ?_
  refine Jp.y 13 rfl (want_all rfl) rfl rfl Kp.true (Y.loadO 1 rfl Try.isAgg85 rfl rfl rfl) ?_
  refine Jp.y 14 rfl (want_all rfl) rfl rfl Kp.true (Y.lenslice rfl Try.underlying85 rfl) ?_
  refine Jp.y 15 rfl (want_all rfl) rfl rfl Kp.true (Y.lss rfl rfl rfl) ?_
  by_cases hil : i < M.pages.length
  · skip
    refine Jp.slot 15 rfl (show _ = Value.bool true from congrArg Value.bool (decide_eq_true (by omega))) ?_
    refine Jp.y 16 rfl (want_all rfl) rfl rfl Kp.true (Y.move rfl rfl) ?_
    refine Jp.slot 16 rfl (show _ = Value.bool true from rfl) ?_
    refine Jp.y 17 rfl (want_as rfl rfl rfl rfl) rfl rfl Kp.true (Y.move rfl rfl) ?_
    refine Jp.y 18 rfl (want_as rfl rfl rfl rfl) rfl rfl Kp.true (Y.lss rfl rfl rfl) ?_
    refine Jp.y 19 rfl (want_all rfl) rfl rfl Kp.true (Y.pickT rfl rfl rfl) ?_
    refine Jp.done hK17 ?_
    refine Cd.cond rfl (fun g20 => ?_) (fun g20 => ?_)
    · have hx : M.pages[i]? = some M.pages[i] := List.getElem?_eq_getElem hil
      obtain ⟨y, hy⟩ : ∃ y, y = M.pages[i] := ⟨_, rfl⟩
      rw [← hy] at hx
      have hym := List.mem_of_getElem? hx
      obtain ⟨hyl, hya⟩ := hlt y hym
      have hlen := (hmem.page y hym).len
      refine Cd.ownAt 5 rfl (show 0 < M.pages.length by omega) ?_
      rintro b1 rfl
      have c0 := OwnS.hasC (e := 108) (m := 258) (k := M.pages.length) (c := c) (ad := ⟨b1, 0, none⟩) (rs_get hrows hx (refPg_base y))
      refine Cd.skip hK16 ?_
      refine Cd.seq fun K18 hK18 => ?_
      refine Cd.block ?_
      refine Cd.seq fun K19 hK19 => ?_
      refine Cd.plain [(0, false)] rfl rfl ?_
      refine Jp.y 6 rfl (want_all rfl) rfl rfl Kp.true (Y.assign rfl rfl) ?_
      refine Jp.done hK19 ?_
      refine Cd.block ?_
      refine Cd.loopK (G := Nat) (fun k => k ≤ 256) (fun k => 256 - k) (fun _ => _) (fun k => [(6, .int .u32 (k : Int))]) [(0, _), (1, _), (5, _)] (fun k => []) [(0, _), (1, _), (5, _), (6, _)] 0 (Nat.zero_le _) rfl ⟨rfl, trivial⟩ ⟨rfl, rfl, rfl, trivial⟩ trivial ⟨rfl, rfl, rfl, rfl, trivial⟩ (fun g KLc hok hLc => ?_)
      obtain ⟨k, hk⟩ : ∃ k, k = g := ⟨_, rfl⟩
      rw [← hk] at hok ⊢
      refine Cd.seq fun K20 hK20 => ?_
      refine Cd.seq fun K21 hK21 => ?_
      refine Cd.plain [(0, false), (1, false)] rfl rfl ?_
      refine Jp.y 22 rfl (want_all rfl) rfl rfl Kp.true (Y.move rfl rfl) ?_
      refine Jp.y 23 rfl (want_all rfl) rfl rfl Kp.true (Y.lss rfl rfl rfl) ?_
      refine Jp.done hK21 ?_
      refine Cd.cond rfl (fun gk => ?_) (fun gk => ?_)
      · have hk2 : k < 256 := by simp at gk; omega
        have c1 := OwnS.hasC (e := 108) (m := 258) (k := M.pages.length) (c := c) (ad := ⟨b1, 0, none⟩) (rs_get hrows hx (refPg_byte hlen (j := k) hk2))
        have hld := load_byte hmem hym hk2
        obtain ⟨u, hu⟩ : ∃ u, y.2.b.getD k 0 = u := ⟨_, rfl⟩
        have hu256 := u.toNat_lt
        rw [add_mk, Nat.zero_add, hu] at c1
        rw [hu] at hld
        refine Cd.skip hK20 ?_
        refine Cd.seq fun K22 hK22 => ?_
        refine Cd.block ?_
        refine Cd.seq fun K23 hK23 => ?_
        refine Cd.plain [(0, false), (1, false), (2, false), (3, false), (4, false), (5, false), (6, false), (7, false), (8, false), (9, false), (10, false), (11, false), (12, false), (13, false), (14, false), (15, false), (16, false)] rfl rfl ?_
        refine Jp.y 27 rfl (want_all rfl) rfl rfl Kp.true (Y.move rfl rfl) ?_
        refine Jp.y 28 rfl (want_all rfl) rfl rfl Kp.true (Y.move rfl rfl) ?_
        refine Jp.y 29 rfl (want_all rfl) rfl rfl Kp.true (Y.nilCheck rfl rfl) ?_
        refine Jp.y 30 rfl (want_all rfl) rfl rfl Kp.true (by first | exact Y.fieldAddrP rfl rfl Try.underlying88 rfl Try.sizeOf85 (by decide) (show _ + 1 = _ from rfl) | exact Y.fieldAddr rfl rfl Try.underlying88 rfl Try.sizeOf85 (by decide)) ?_
        refine Jp.y 31 rfl (want_all rfl) rfl rfl Kp.true (by first | exact Y.loadO 1 rfl Try.isAgg85 rfl rfl rfl | exact Y.loadC 5 rfl Try.isAgg85 rfl rfl c0 | exact Y.loadC 5 rfl Try.isAgg85 rfl rfl c1) ?_
        refine Jp.y 32 rfl (want_all rfl) rfl rfl Kp.true (Y.move rfl rfl) ?_
        refine Jp.y 33 rfl (want_all rfl) rfl rfl Kp.true (Y.indexAddr (q := i * 258) rfl rfl rfl Try.underlying85 Try.sizeOf108 (by omega) (by omega) (by omega)) ?_
        refine Jp.y 34 rfl (want_all rfl) rfl rfl Kp.true (by first | exact Y.fieldAddrP rfl rfl Try.underlying108 rfl Try.sizeOf25 (by decide) (show _ + 0 = _ from rfl) | exact Y.fieldAddr rfl rfl Try.underlying108 rfl Try.sizeOf25 (by decide)) ?_
        refine Jp.y 35 rfl (want_all rfl) rfl rfl Kp.true (by first | exact Y.loadO 1 rfl Try.isAgg25 rfl rfl rfl | exact Y.loadC 5 rfl Try.isAgg25 rfl rfl c0 | exact Y.loadC 5 rfl Try.isAgg25 rfl rfl c1) ?_
        refine Jp.y 36 rfl (want_all rfl) rfl rfl Kp.true (Y.move rfl rfl) ?_
        refine Jp.y 37 rfl (want_all rfl) rfl rfl Kp.true (Y.add_ rfl rfl rfl (by first | exact wrap_u32 (by omega) (by omega) | rfl)) ?_
        refine Jp.slot 37 rfl (show _ = Value.int .u32 ((y.1 + k : Nat) : Int) from congrArg (Value.int .u32) (by omega)) ?_
        refine Jp.call [0] [0] (load_eq (b := b) (M := M) (a := y.1 + k) (size := 1) (need := 0) (by omega) hld) 38 rfl (want_all rfl) rfl rfl (Runs.fn rfl Try.call57 rfl) (by decide) (by decide) rfl trivial ?_
        rintro v1 ρ1 L1 ⟨rfl, rfl, rfl⟩
        refine ⟨rfl, fun hle1 => ⟨Kp.true, ?_⟩⟩
        refine Jp.y 26 rfl (want_all rfl) rfl rfl Kp.true (Y.move rfl rfl) ?_
        refine Jp.y 39 rfl (want_all rfl) rfl rfl Kp.true (Y.extract rfl rfl rfl) ?_
        refine Jp.y 40 rfl (want_all rfl) rfl rfl Kp.true (Y.extract rfl rfl rfl) ?_
        refine Jp.y 7 rfl (want_all rfl) rfl rfl Kp.true (Y.assign rfl rfl) ?_
        refine Jp.y 8 rfl (want_all rfl) rfl rfl Kp.true (Y.assign rfl rfl) ?_
        refine Jp.done hK23 ?_
        refine Cd.seq fun K24 hK24 => ?_
        refine Cd.plain [(0, false), (1, false), (2, false), (3, false), (4, false), (5, false), (6, false), (7, false), (8, false), (9, false), (10, false), (11, false), (12, false), (13, false), (14, false), (15, false), (16, false)] rfl rfl ?_
        refine Jp.y 41 rfl (want_all rfl) rfl rfl Kp.true (Y.move rfl rfl) ?_
        refine Jp.y 42 rfl (want_all rfl) rfl rfl Kp.true (Y.neq rfl rfl rfl) ?_
        refine Jp.slot 42 rfl (show _ = Value.bool false by rfl) ?_
        refine Jp.y 43 rfl (want_all rfl) rfl rfl Kp.true (Y.move rfl rfl) ?_
        refine Jp.slot 43 rfl (show _ = Value.bool false from rfl) ?_
        refine Jp.y 44 rfl (want_as rfl rfl rfl rfl) rfl rfl Kp.true (Y.move rfl rfl) ?_
        refine Jp.y 45 rfl (want_as rfl rfl rfl rfl) rfl rfl Kp.true (Y.conv_ rfl rfl Try.underlying25 Try.underlying5 (by first | exact wrap_u8 (by omega) (by omega) | rfl)) ?_
        refine Jp.y 46 rfl (want_as rfl rfl rfl rfl) rfl rfl Kp.true (Y.move rfl rfl) ?_
        refine Jp.y 47 rfl (want_as rfl rfl rfl rfl) rfl rfl Kp.true (Y.nilCheck rfl rfl) ?_
        refine Jp.y 48 rfl (want_as rfl rfl rfl rfl) rfl rfl Kp.true (by first | exact Y.fieldAddrP rfl rfl Try.underlying88 rfl Try.sizeOf85 (by decide) (show _ + 1 = _ from rfl) | exact Y.fieldAddr rfl rfl Try.underlying88 rfl Try.sizeOf85 (by decide)) ?_
        refine Jp.y 49 rfl (want_as rfl rfl rfl rfl) rfl rfl Kp.true (by first | exact Y.loadO 1 rfl Try.isAgg85 rfl rfl rfl | exact Y.loadC 5 rfl Try.isAgg85 rfl rfl c0 | exact Y.loadC 5 rfl Try.isAgg85 rfl rfl c1) ?_
        refine Jp.y 50 rfl (want_as rfl rfl rfl rfl) rfl rfl Kp.true (Y.move rfl rfl) ?_
        refine Jp.y 51 rfl (want_as rfl rfl rfl rfl) rfl rfl Kp.true (Y.move rfl rfl) ?_
        refine Jp.y 52 rfl (want_as rfl rfl rfl rfl) rfl rfl Kp.true (Y.indexAddr (q := i * 258) rfl rfl rfl Try.underlying85 Try.sizeOf108 (by omega) (by omega) (by omega)) ?_
        refine Jp.slot 52 rfl (show _ = Value.pointer (some ⟨b1, i * 258, none⟩) by rw [add_mk, Nat.zero_add]) ?_
        refine Jp.y 53 rfl (want_as rfl rfl rfl rfl) rfl rfl Kp.true (by first | exact Y.fieldAddrP rfl rfl Try.underlying108 rfl Try.sizeOf106 (by decide) (show _ + 2 = _ from rfl) | exact Y.fieldAddr rfl rfl Try.underlying108 rfl Try.sizeOf106 (by decide)) ?_
        refine Jp.y 54 rfl (want_as rfl rfl rfl rfl) rfl rfl Kp.true (Y.indexArrP (q := i * 258 + (2 + k)) rfl rfl rfl Try.underlying106 Try.sizeOf5 (by omega) (by omega) (by omega)) ?_
        refine Jp.y 55 rfl (want_as rfl rfl rfl rfl) rfl rfl Kp.true (by first | exact Y.loadO 1 rfl Try.isAgg5 rfl rfl rfl | exact Y.loadC 5 rfl Try.isAgg5 rfl rfl c0 | exact Y.loadC 5 rfl Try.isAgg5 rfl rfl c1) ?_
        refine Jp.y 56 rfl (want_as rfl rfl rfl rfl) rfl rfl Kp.true (Y.neq rfl rfl rfl) ?_
        refine Jp.slot 56 rfl (show _ = Value.bool false from congrArg Value.bool (by simp)) ?_
        refine Jp.y 57 rfl (want_all rfl) rfl rfl Kp.true (Y.pickF rfl rfl rfl) ?_
        refine Jp.done hK24 ?_
        refine Cd.condF rfl ?_
        refine Cd.over rfl hK22 ?_
        refine Cd.plain [(0, false), (1, false), (2, false)] rfl rfl ?_
        refine Jp.y 24 rfl (want_all rfl) rfl rfl Kp.true (Y.move rfl rfl) ?_
        refine Jp.y 25 rfl (want_all rfl) rfl rfl Kp.true (Y.add_ rfl rfl rfl (by first | exact wrap_u32 (by omega) (by omega) | rfl)) ?_
        refine Jp.y 6 rfl (want_all rfl) rfl rfl Kp.true (Y.assign rfl rfl) ?_
        rw [show (k : Int) + 1 = ((k + 1 : Nat) : Int) by omega]
        refine Jp.again hLc (k + 1) (by omega) (by omega) rfl ⟨rfl, rfl, rfl, rfl, trivial⟩ ⟨rfl, rfl, rfl, rfl, trivial⟩
      · skip
        refine Cd.exit rfl hK18 ?_
        refine Cd.plain [(0, false), (1, false), (2, false)] rfl rfl ?_
        refine Jp.y 20 rfl (want_all rfl) rfl rfl Kp.true (Y.move rfl rfl) ?_
        refine Jp.y 21 rfl (want_all rfl) rfl rfl Kp.true (Y.add_ rfl rfl rfl (by first | exact wrap_i64 (by omega) (by omega) | rfl)) ?_
        refine Jp.y 5 rfl (want_all rfl) rfl rfl Kp.true (Y.assign rfl rfl) ?_
        rw [show (i : Int) + 1 = ((i + 1 : Nat) : Int) by omega]
        refine Jp.again hLa (i + 1) (by omega) (by omega) rfl ⟨rfl, rfl, rfl, trivial⟩ ⟨rfl, rfl, rfl, rfl, trivial⟩
    · skip
      refine Cd.exit rfl hK14 ?_
      refine Cd.seq fun K25 hK25 => ?_
      refine Cd.plain [(0, false)] rfl rfl ?_
      refine Jp.y 4 rfl (want_all rfl) rfl rfl Kp.true (Y.assign rfl rfl) ?_
      refine Jp.done hK25 ?_
      refine Cd.refClose (b := bw) (M := M) 1 5 6 (by decide) hf rfl rfl rfl ?_
      refine Cd.ret [(0, _), (1, _)] rfl (res1 rfl rfl) ⟨rfl, rfl, trivial⟩ ⟨rfl, rfl⟩
  · skip
    refine Jp.slot 15 rfl (show _ = Value.bool false from congrArg Value.bool (decide_eq_false (by omega))) ?_
    refine Jp.y 16 rfl (want_all rfl) rfl rfl Kp.true (Y.move rfl rfl) ?_
    refine Jp.slot 16 rfl (show _ = Value.bool false from rfl) ?_
    refine Jp.skip 17 rfl (want_as rfl rfl rfl rfl) rfl rfl Kp.true ?_
    refine Jp.skip 18 rfl (want_as rfl rfl rfl rfl) rfl rfl Kp.true ?_
    refine Jp.y 19 rfl (want_all rfl) rfl rfl Kp.true (Y.pickF rfl rfl rfl) ?_
    refine Jp.done hK17 ?_
    refine Cd.condF rfl ?_
    refine Cd.exit rfl hK14 ?_
    refine Cd.seq fun K26 hK26 => ?_
    refine Cd.plain [(0, false)] rfl rfl ?_
    refine Jp.y 4 rfl (want_all rfl) rfl rfl Kp.true (Y.assign rfl rfl) ?_
    refine Jp.done hK26 ?_
    refine Cd.refClose (b := bw) (M := M) 1 5 6 (by decide) hf rfl rfl rfl ?_
    refine Cd.ret [(0, _), (1, _)] rfl (res1 rfl rfl) ⟨rfl, rfl, trivial⟩ ⟨rfl, rfl⟩
end Go.Proofs.Ytgmhijlcdadaeaa
