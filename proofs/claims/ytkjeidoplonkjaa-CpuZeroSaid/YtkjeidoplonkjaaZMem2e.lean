import Derived.Test.YtkjeidoplonkjaaZRefG
import Derived.Test.YtkjeidoplonkjaaZIterX2
import Derived.Test.YtkjeidoplonkjaaZEngV5
set_option linter.unusedVariables false
set_option linter.unusedSimpArgs false
set_option maxRecDepth 100000
namespace Go.Proofs.Ytkjeidoplonkjaa
open Go
theorem memO_okM {b : Nat} {M : MemG} : ∀ h, MemO b M h → MemOk M := fun h ⟨x, hf, _⟩ => hf.ok
theorem may_zero {p : Nat} (h : p ≤ 7) : may p 0 = true := by
  have : p = 0 ∨ p = 1 ∨ p = 2 ∨ p = 3 ∨ p = 4 ∨ p = 5 ∨ p = 6 ∨ p = 7 := by omega
  rcases this with rfl | rfl | rfl | rfl | rfl | rfl | rfl | rfl <;> rfl
theorem load_byteM {M : MemG} (h : MemOk M) {y : Nat × Pg} (hy : y ∈ M.pages) {k : Nat} (hk : k < 256) : loadM M (y.1 + k) 1 0 = ((y.2.b.getD k 0).toNat, 0) := by
  have hp := h.page y hy
  have hal := hp.al
  have hlen := hp.len
  have hg : getPg M.pages y.1 = some y.2 := getPg_of_mem h.rising.nodup hy
  have hb : baseN (y.1 + k) = y.1 := by unfold baseN; omega
  have hl : lookM M (y.1 + k) 1 0 = 0 := by
    rw [lookM, if_neg (by simp [sizeOk]), hb, hg]
    dsimp only
    rw [may_zero hp.perm, if_pos rfl]
  rw [loadM, if_pos hl, hb, hg]
  dsimp only
  rw [show (y.1 + k) % 256 = k by omega, show (1 : Int).toNat = 1 from rfl, List.drop_eq_getElem_cons (show k < y.2.b.length by omega), List.take_succ_cons, List.take_zero]
  rw [List.getD_eq_getElem?_getD, List.getElem?_eq_getElem (show k < y.2.b.length by omega)]
  rfl
theorem perm_of {M : MemG} (h : MemOk M) {y : Nat × Pg} (hy : y ∈ M.pages) : permM M y.1 = ((y.2.perm : Int), true) := by
  have hg : getPg M.pages y.1 = some y.2 := getPg_of_mem h.rising.nodup hy
  have hal := (h.page y hy).al
  rw [permM, show baseN y.1 = y.1 by unfold baseN; omega, hg]
def partB (b : Bytes) (k : Nat) : Bytes := b.take k ++ List.replicate (256 - k) 0
theorem partB_len {b : Bytes} (h : b.length = 256) {k : Nat} (hk : k ≤ 256) : (partB b k).length = 256 := by simp [partB, h]; omega
theorem partB_all {b : Bytes} (h : b.length = 256) : partB b 256 = b := by simp [partB, ← h]
theorem partB_set {b : Bytes} (h : b.length = 256) {k : Nat} (hk : k < 256) : (partB b k).set k (b.getD k 0) = partB b (k + 1) := by
  unfold partB
  rw [List.set_append_right _ _ (by rw [List.length_take]; omega), List.length_take, Nat.min_eq_left (by omega), Nat.sub_self]
  rw [show 256 - k = (256 - (k + 1)) + 1 by omega, List.replicate_succ, List.set_cons_zero, List.getD_eq_getElem?_getD, List.getElem?_eq_getElem (by omega : k < b.length)]
  rw [← List.take_append_getElem (by omega : k < b.length), List.append_assoc]
  rfl
theorem refPg_setByte {x : Nat × Pg} (h : x.2.b.length = 256) {j : Nat} (hj : j < 256) (u : UInt8) : (refPg x).toArray.setIfInBounds (2 + j) (.int .u8 (u.toNat : Int)) = (refPg (x.1, ⟨x.2.b.set j u, x.2.perm⟩)).toArray := by
  rw [List.setIfInBounds_toArray]
  congr 1
  unfold refPg
  rw [show 2 + j = (j + 1) + 1 by omega, List.set_cons_succ, List.set_cons_succ]
  simp [bytesV, List.map_set]
theorem refPg_ones (x : Nat × Pg) : (refPg x).all one = true := by
  have := pgs_one (l := [x])
  simpa using this
theorem mem2_spec (b : Nat) (M : MemG) (B : Int) (hsort : SortsTo M.pages.length) : Spec Try.prog 19 #[.pointer (some ⟨b, 0, none⟩), .int .i64 B] (fun _ => True) [(0, MemO b M)]
    (fun ρ ρ' v L => ∃ b2 A c, v = .pointer (some ⟨b2, 0, none⟩) ∧ L = [(0, MemO b M), (1, Pt b2 (refObj B A M.pages.length c none 0 0)), (2, OwnS 116 258 A M.pages.length c (M.pages.flatMap refPg))]) := by
  refine Spec.of 69 Try.func19 rfl Try.ntmps19 [(0, _), (1, _)] rfl rfl ?_
  intro cx ρ hr h0
  refine Cd.know (A := MemO b M) 0 rfl memO_okM fun hmem => ?_
  have hroom := hmem.room
  have hbud := hmem.budget.2
  refine Cd.seq fun K1 hK1 => ?_
  refine Cd.plain [(0, false)] rfl rfl ?_
  refine Jp.y 4 rfl (want_all rfl) rfl rfl Kp.true (Y.assign rfl rfl) ?_
  refine Jp.done hK1 ?_
  refine Cd.seq fun K2 hK2 => ?_
  refine Cd.plain [(0, false), (1, false), (2, false), (3, false)] rfl rfl ?_
  refine Jp.y 12 rfl (want_all rfl) rfl rfl Kp.true (Y.move rfl rfl) ?_
  refine Jp.y 13 rfl (want_all rfl) rfl rfl Kp.true (Y.struct [(0, _)] [_, _, _] rfl rfl places113 Try.zeroValue113 rfl) ?_
  refine Jp.box 1 14 rfl (want_all rfl) rfl rfl rfl rfl fun b1 => ⟨Kp.true, ?_⟩
  refine Jp.y 5 rfl (want_all rfl) rfl rfl Kp.true (Y.assign rfl rfl) ?_
  refine Jp.done hK2 ?_
  refine Cd.seq fun K3 hK3 => ?_
  refine Cd.plain [(0, false), (1, false), (2, false)] rfl rfl ?_
  refine Jp.y 15 rfl (want_all rfl) rfl rfl Kp.true (Y.move rfl rfl) ?_
  refine Jp.call [0] [0, 6] (pages_spec b M hsort) 16 rfl (want_all rfl) rfl rfl (Runs.fn rfl Try.call28 rfl) (by decide) (by decide) rfl trivial ?_
  rintro v1 ρ1 L1 ⟨KA, kc, rfl, rfl⟩
  refine ⟨rfl, fun hle1 => ⟨Kp.true, ?_⟩⟩
  refine Jp.y 6 rfl (want_all rfl) rfl rfl Kp.true (Y.assign rfl rfl) ?_
  refine Jp.done hK3 ?_
  refine Cd.seq fun K4 hK4 => ?_
  refine Cd.seq fun K5 hK5 => ?_
  refine Cd.plain [(0, false)] rfl rfl ?_
  refine Jp.y 7 rfl (want_all rfl) rfl rfl Kp.true (Y.assign rfl rfl) ?_
  refine Jp.done hK5 ?_
  refine Cd.block ?_
  refine Cd.make 2 (A := OwnS 116 258 none 0 0 []) (OwnS.nil _ _ _) ?_
  refine Cd.loopK (G := Nat × Option Addr × Nat) (fun g => g.1 ≤ M.pages.length) (fun g => M.pages.length - g.1) (fun _ => _) (fun g => [(7, .int .i64 (g.1 : Int))]) [(0, _), (5, _), (6, _)] (fun g => [(1, Pt b1 (refObj B g.2.1 (M.pages.take g.1).length g.2.2 none 0 0)), (2, OwnS 116 258 g.2.1 (M.pages.take g.1).length g.2.2 ((M.pages.take g.1).flatMap refPg))]) [(0, _), (6, _)] ⟨0, none, 0⟩ (Nat.zero_le _) rfl ⟨rfl, trivial⟩ ⟨rfl, rfl, rfl, trivial⟩ ⟨rfl, rfl, trivial⟩ ⟨rfl, rfl, trivial⟩ (fun g KLa hok hLa => ?_)
  obtain ⟨i, PA, pc⟩ := g
  have hil : i ≤ M.pages.length := hok
  dsimp only
  refine Cd.seq fun K6 hK6 => ?_
  refine Cd.seq fun K7 hK7 => ?_
  refine Cd.plain [(0, false), (1, false), (2, false), (3, false)] rfl rfl ?_
  refine Jp.y 17 rfl (want_all rfl) rfl rfl Kp.true (Y.move rfl rfl) ?_
  refine Jp.y 18 rfl (want_all rfl) rfl rfl Kp.true (Y.move rfl rfl) ?_
  refine Jp.y 19 rfl (want_all rfl) rfl rfl Kp.true (Y.lenslice rfl Try.underlying29 rfl) ?_
  refine Jp.y 20 rfl (want_all rfl) rfl rfl Kp.true (Y.lss rfl rfl rfl) ?_
  refine Jp.done hK7 ?_
  refine Cd.cond rfl (fun ga => ?_) (fun ga => ?_)
  · have hi : i < M.pages.length := by simp at ga; omega
    have hx : M.pages[i]? = some M.pages[i] := List.getElem?_eq_getElem hi
    obtain ⟨y, hy⟩ : ∃ y, y = M.pages[i] := ⟨_, rfl⟩
    rw [← hy] at hx
    have hym := List.mem_of_getElem? hx
    have hp := hmem.page y hym
    have hyl := hp.lt
    have hya := hp.al
    have hlen := hp.len
    have hpl := hp.perm
    have hkx : (natsV .u32 (M.pages.map (·.1)))[i]? = some (.int .u32 (y.1 : Int)) := natsV_get .u32 (by rw [List.getElem?_map, hx]; rfl)
    refine Cd.ownAt 6 rfl (show 0 < M.pages.length by omega) ?_
    rintro b6 rfl
    have c6 := OwnS.hasC (e := 25) (m := 1) (k := M.pages.length) (c := kc) (ad := ⟨b6, 0, none⟩) (cs := natsV .u32 (M.pages.map (·.1))) (q := i) hkx
    have hz : (refPg (y.1, ⟨List.replicate 256 0, 0⟩)).length = 258 := refPg_len rfl
    have hzo := refPg_ones (y.1, ⟨List.replicate 256 0, 0⟩)
    refine Cd.skip hK6 ?_
    refine Cd.seq fun K8 hK8 => ?_
    refine Cd.block ?_
    refine Cd.seq fun K9 hK9 => ?_
    refine Cd.plain [(0, false), (1, false), (2, false), (3, false), (4, false), (5, false), (6, false)] rfl rfl ?_
    refine Jp.y 23 rfl (want_all rfl) rfl rfl Kp.true (Y.move rfl rfl) ?_
    refine Jp.y 24 rfl (want_all rfl) rfl rfl Kp.true (Y.move rfl rfl) ?_
    refine Jp.y 25 rfl (want_all rfl) rfl rfl Kp.true (Y.indexAddr (q := i) rfl rfl rfl Try.underlying29 Try.sizeOf25 (by omega) (by omega) (by omega)) ?_
    refine Jp.y 26 rfl (want_all rfl) rfl rfl Kp.true (by first | exact Y.loadO 1 rfl Try.isAgg25 rfl rfl rfl | exact Y.loadC 6 rfl Try.isAgg25 rfl rfl c6) ?_
    refine Jp.y 27 rfl (want_all rfl) rfl rfl Kp.true (Y.struct [(0, _)] (refPg (y.1, ⟨List.replicate 256 0, 0⟩)) rfl rfl places116 Try.zeroValue116 rfl) ?_
    refine Jp.alloc 8 8 rfl (want_all rfl) rfl rfl rfl Try.zeroValue116 fun b8 => ⟨Kp.true, ?_⟩
    first | refine Jp.storeAll 8 rfl (want_all rfl) rfl rfl Try.sizeOf116 rfl rfl (by first | rfl | assumption) (by first | rfl | assumption) rfl (by first | rfl | assumption) (fun k _ _ => noFr0 k) Kp.true ?_
    refine Jp.done hK9 ?_
    refine Cd.seq fun K10 hK10 => ?_
    refine Cd.plain [(0, false), (1, false), (2, false), (3, false), (4, false), (5, false), (6, false), (7, false), (8, false), (9, false), (10, false)] rfl rfl ?_
    refine Jp.y 29 rfl (want_all rfl) rfl rfl Kp.true (Y.move rfl rfl) ?_
    refine Jp.y 30 rfl (want_all rfl) rfl rfl Kp.true (Y.move rfl rfl) ?_
    refine Jp.y 31 rfl (want_all rfl) rfl rfl Kp.true (Y.move rfl rfl) ?_
    refine Jp.y 32 rfl (want_all rfl) rfl rfl Kp.true (Y.indexAddr (q := i) rfl rfl rfl Try.underlying29 Try.sizeOf25 (by omega) (by omega) (by omega)) ?_
    refine Jp.y 33 rfl (want_all rfl) rfl rfl Kp.true (by first | exact Y.loadO 8 rfl Try.isAgg25 rfl rfl rfl | exact Y.loadC 6 rfl Try.isAgg25 rfl rfl c6) ?_
    refine Jp.call [0] [0] (perm_spec b M y.1 hyl) 34 rfl (want_all rfl) rfl rfl (Runs.fn rfl Try.call26 rfl) (by decide) (by decide) rfl trivial ?_
    rintro v2 ρ2 L2 ⟨rfl, rfl, rfl⟩
    refine ⟨rfl, fun hle2 => ⟨Kp.true, ?_⟩⟩
    rw [perm_of hmem hym]
    refine Jp.y 28 rfl (want_all rfl) rfl rfl Kp.true (Y.move rfl rfl) ?_
    refine Jp.y 35 rfl (want_all rfl) rfl rfl Kp.true (Y.extract rfl rfl rfl) ?_
    refine Jp.y 36 rfl (want_all rfl) rfl rfl Kp.true (Y.extract rfl rfl rfl) ?_
    refine Jp.y 37 rfl (want_all rfl) rfl rfl Kp.true (by first | exact Y.fieldAddrP rfl rfl Try.underlying116 rfl Try.sizeOf3 (by decide) (show _ + 1 = _ from rfl) | exact Y.fieldAddr rfl rfl Try.underlying116 rfl Try.sizeOf3 (by decide)) ?_
    refine Jp.storeC 8 (Pt b8 (.cells (refPg (y.1, ⟨partB y.2.b 0, y.2.perm⟩)).toArray 116)) rfl (want_all rfl) rfl rfl Try.sizeOf3 rfl rfl rfl rfl rfl (SetC.pt (by rw [List.size_toArray, hz]; decide) (noFr0 _) (by rw [List.setIfInBounds_toArray]; rfl)) Kp.true ?_
    refine Jp.done hK10 ?_
    refine Cd.seq fun K11 hK11 => ?_
    refine Cd.seq fun K12 hK12 => ?_
    refine Cd.plain [(0, false)] rfl rfl ?_
    refine Jp.y 9 rfl (want_all rfl) rfl rfl Kp.true (Y.assign rfl rfl) ?_
    refine Jp.done hK12 ?_
    refine Cd.block ?_
    refine Cd.joinG (G := Unit) (fun _ => True) (fun _ => []) [(0, _), (5, _), (6, _), (7, _), (8, _)] ⟨rfl, rfl, rfl, rfl, rfl, trivial⟩ (fun _ => [(8, Pt b8 (.cells (refPg y).toArray 116))]) [(0, _), (1, _), (2, _), (6, _)] ⟨rfl, rfl, rfl, rfl, trivial⟩ hK11 (fun g hφ => ?_) (fun hj1 => ?_)
    · clear hφ
      have hyL : (refPg y).length = 258 := refPg_len hlen
      have hyO := refPg_ones y
      have htl : (M.pages.take i).length = i := by rw [List.length_take]; omega
      have htl2 : (M.pages.take (i + 1)).length = i + 1 := by rw [List.length_take]; omega
      have htk : M.pages.take (i + 1) = M.pages.take i ++ [y] := by rw [← List.take_append_getElem hi, hy]
      have hrows : ((M.pages.take i).flatMap refPg).length = (M.pages.take i).length * 258 := rs_len fun x hx => refPg_len (hmem.page x (List.mem_of_mem_take hx)).len
      refine Cd.drawn [(1, _), (8, _)] ⟨rfl, rfl, trivial⟩ [(0, true), (1, true), (2, true), (3, true), (4, true), (5, true), (6, false), (7, false), (8, true), (9, true), (10, false)] follows (by kernel_rfl) (fun hrl => ?_)
      refine Jp.q 58 rfl (want_all rfl) rfl rfl (Y.move rfl rfl) ?_
      refine Jp.q 59 rfl (want_all rfl) rfl rfl (Y.move rfl rfl) ?_
      refine Jp.q 60 rfl (want_all rfl) rfl rfl (Y.nilCheck rfl rfl) ?_
      refine Jp.q 61 rfl (want_all rfl) rfl rfl (by first | exact Y.fieldAddrP rfl rfl Try.underlying113 rfl Try.sizeOf110 (by decide) (show _ + 1 = _ from rfl) | exact Y.fieldAddr rfl rfl Try.underlying113 rfl Try.sizeOf110 (by decide)) ?_
      refine Jp.q 62 rfl (want_all rfl) rfl rfl (by first | exact Y.loadO 1 rfl Try.isAgg110 rfl rfl rfl | exact Y.loadO 8 rfl Try.isAgg110 rfl rfl rfl | exact Y.loadC 6 rfl Try.isAgg110 rfl rfl c6) ?_
      refine Jp.q 63 rfl (want_all rfl) rfl rfl (by first | exact Y.loadAggO 1 rfl Try.isAgg116 Try.sizeOf116 rfl rfl (by first | rfl | assumption) | exact Y.loadAggO 8 rfl Try.isAgg116 Try.sizeOf116 rfl rfl (by first | rfl | assumption)) ?_
      refine Jp.lit 64 9 [(0, _)] (refPg y) rfl (want_all rfl) rfl rfl rfl rfl Try.underlying110 Try.sizeOf116 Try.zeroValue116 rfl rfl (fill_one hyL) hyL rfl fun b9 => ⟨(Kp.st ⟨rfl, rfl, trivial⟩), ?_⟩
      refine Jp.append 65 2 rfl (want_all rfl) rfl rfl rfl Try.underlying110 Try.underlying110 (.inl ⟨_, rfl⟩) Try.sizeOf116 Try.typeInfo116 Try.zeroValue116 rfl (by decide) rfl rfl rfl (Src.own 9 rfl) hyO ((M.pages.take (i + 1)).length) (((M.pages.take (i + 1)).flatMap refPg)) (by first | omega | simp) (by rw [htk, List.flatMap_append]; simp) (by simp only [Try.t116]; omega) fun A7 c7 => ⟨(Kp.st ⟨rfl, rfl, trivial⟩), ?_⟩
      refine Jp.q 66 rfl (want_all rfl) rfl rfl (Y.nilCheck rfl rfl) ?_
      refine Jp.q 67 rfl (want_all rfl) rfl rfl (by first | exact Y.fieldAddrP rfl rfl Try.underlying113 rfl Try.sizeOf110 (by decide) (show _ + 1 = _ from rfl) | exact Y.fieldAddr rfl rfl Try.underlying113 rfl Try.sizeOf110 (by decide)) ?_
      first | refine Jp.store 1 rfl (want_all rfl) rfl rfl Try.sizeOf110 rfl rfl rfl rfl rfl rfl Kp.last ?_ | refine Jp.store 8 rfl (want_all rfl) rfl rfl Try.sizeOf110 rfl rfl rfl rfl rfl rfl Kp.last ?_
      refine Jp.over rfl hK8 ?_
      refine Cd.plain [(0, false), (1, false), (2, false)] rfl rfl ?_
      refine Jp.y 21 rfl (want_all rfl) rfl rfl Kp.true (Y.move rfl rfl) ?_
      refine Jp.y 22 rfl (want_all rfl) rfl rfl Kp.true (Y.add_ rfl rfl rfl (by first | exact wrap_i64 (by omega) (by omega) | rfl)) ?_
      refine Jp.y 7 rfl (want_all rfl) rfl rfl Kp.true (Y.assign rfl rfl) ?_
      rw [show (i : Int) + 1 = ((i + 1 : Nat) : Int) by omega]
      refine Jp.again hLa ⟨i + 1, A7, c7⟩ hi (by show M.pages.length - (i + 1) < M.pages.length - i; omega) rfl ⟨rfl, rfl, rfl, rfl, trivial⟩ ⟨rfl, rfl, rfl, rfl, trivial⟩
    · skip
      refine Cd.loopK (G := Nat) (fun k => k ≤ 256) (fun k => 256 - k) (fun _ => _) (fun k => [(9, .int .u32 (k : Int))]) [(0, _), (5, _), (6, _), (7, _), (8, _)] (fun k => [(8, Pt b8 (.cells (refPg (y.1, ⟨partB y.2.b k, y.2.perm⟩)).toArray 116))]) [(0, _), (1, _), (2, _), (6, _)] 0 (Nat.zero_le _) rfl ⟨rfl, trivial⟩ ⟨rfl, rfl, rfl, rfl, rfl, trivial⟩ ⟨rfl, trivial⟩ ⟨rfl, rfl, rfl, rfl, trivial⟩ (fun g KLb hok hLb => ?_)
      obtain ⟨k, hk⟩ : ∃ k, k = g := ⟨_, rfl⟩
      rw [← hk] at hok ⊢
      refine Cd.seq fun K14 hK14 => ?_
      refine Cd.seq fun K15 hK15 => ?_
      refine Cd.plain [(0, false), (1, false)] rfl rfl ?_
      refine Jp.y 38 rfl (want_all rfl) rfl rfl Kp.true (Y.move rfl rfl) ?_
      refine Jp.y 39 rfl (want_all rfl) rfl rfl Kp.true (Y.lss rfl rfl rfl) ?_
      refine Jp.done hK15 ?_
      refine Cd.cond rfl (fun gb => ?_) (fun gb => ?_)
      · have hk2 : k < 256 := by simp at gb; omega
        have hbl := (y.2.b.getD k 0).toNat_lt
        have hld := load_byteM hmem hym hk2
        have hL := load_spec b M (y.1 + k) 1 0 (by omega)
        rw [hld] at hL
        refine Cd.skip hK14 ?_
        refine Cd.seq fun K16 hK16 => ?_
        refine Cd.block ?_
        refine Cd.seq fun K17 hK17 => ?_
        refine Cd.plain [(0, false), (1, false), (2, false), (3, false), (4, false), (5, false), (6, false), (7, false), (8, false), (9, false), (10, false), (11, false), (12, false)] rfl rfl ?_
        refine Jp.y 43 rfl (want_all rfl) rfl rfl Kp.true (Y.move rfl rfl) ?_
        refine Jp.y 44 rfl (want_all rfl) rfl rfl Kp.true (Y.move rfl rfl) ?_
        refine Jp.y 45 rfl (want_all rfl) rfl rfl Kp.true (Y.move rfl rfl) ?_
        refine Jp.y 46 rfl (want_all rfl) rfl rfl Kp.true (Y.indexAddr (q := i) rfl rfl rfl Try.underlying29 Try.sizeOf25 (by omega) (by omega) (by omega)) ?_
        refine Jp.y 47 rfl (want_all rfl) rfl rfl Kp.true (by first | exact Y.loadO 1 rfl Try.isAgg25 rfl rfl rfl | exact Y.loadO 8 rfl Try.isAgg25 rfl rfl rfl | exact Y.loadC 6 rfl Try.isAgg25 rfl rfl c6) ?_
        refine Jp.y 48 rfl (want_all rfl) rfl rfl Kp.true (Y.move rfl rfl) ?_
        refine Jp.y 49 rfl (want_all rfl) rfl rfl Kp.true (Y.add_ rfl rfl rfl (by first | exact wrap_u32 (by omega) (by omega) | rfl)) ?_
        refine Jp.slot 49 rfl (show _ = Value.int .u32 ((y.1 + k : Nat) : Int) from rfl) ?_
        refine Jp.call [0] [0] hL 50 rfl (want_all rfl) rfl rfl (Runs.fn rfl Try.call27 rfl) (by decide) (by decide) rfl trivial ?_
        rintro v3 ρ3 L3 ⟨rfl, rfl, rfl⟩
        refine ⟨rfl, fun hle3 => ⟨Kp.true, ?_⟩⟩
        refine Jp.y 42 rfl (want_all rfl) rfl rfl Kp.true (Y.move rfl rfl) ?_
        refine Jp.y 51 rfl (want_all rfl) rfl rfl Kp.true (Y.extract rfl rfl rfl) ?_
        refine Jp.y 52 rfl (want_all rfl) rfl rfl Kp.true (Y.extract rfl rfl rfl) ?_
        refine Jp.y 10 rfl (want_all rfl) rfl rfl Kp.true (Y.assign rfl rfl) ?_
        refine Jp.y 11 rfl (want_all rfl) rfl rfl Kp.true (Y.assign rfl rfl) ?_
        refine Jp.done hK17 ?_
        refine Cd.plain [(0, false), (1, false), (2, false), (3, false), (4, false), (5, false)] rfl rfl ?_
        refine Jp.y 53 rfl (want_all rfl) rfl rfl Kp.true (Y.move rfl rfl) ?_
        refine Jp.y 54 rfl (want_all rfl) rfl rfl Kp.true (Y.move rfl rfl) ?_
        refine Jp.y 55 rfl (want_all rfl) rfl rfl Kp.true (Y.conv_ rfl rfl Try.underlying25 Try.underlying5 (by first | exact wrap_u8 (by omega) (by omega) | rfl)) ?_
        refine Jp.y 56 rfl (want_all rfl) rfl rfl Kp.true (by first | exact Y.fieldAddrP rfl rfl Try.underlying116 rfl Try.sizeOf114 (by decide) (show _ + 2 = _ from rfl) | exact Y.fieldAddr rfl rfl Try.underlying116 rfl Try.sizeOf114 (by decide)) ?_
        refine Jp.y 57 rfl (want_all rfl) rfl rfl Kp.true (Y.indexArrP (q := 2 + k) rfl rfl rfl Try.underlying114 Try.sizeOf5 (by omega) (by omega) (by omega)) ?_
        refine Jp.storeC 8 (Pt b8 (.cells (refPg (y.1, ⟨partB y.2.b (k + 1), y.2.perm⟩)).toArray 116)) rfl (want_all rfl) rfl rfl Try.sizeOf5 rfl rfl rfl rfl rfl (SetC.pt (by rw [List.size_toArray, refPg_len (partB_len hlen (by omega))]; omega) (noFr0 _) (by rw [← partB_set hlen hk2]; exact refPg_setByte (x := (y.1, ⟨partB y.2.b k, y.2.perm⟩)) (partB_len hlen (by omega)) hk2 _)) Kp.true ?_
        refine Jp.over rfl hK16 ?_
        refine Cd.plain [(0, false), (1, false), (2, false)] rfl rfl ?_
        refine Jp.y 40 rfl (want_all rfl) rfl rfl Kp.true (Y.move rfl rfl) ?_
        refine Jp.y 41 rfl (want_all rfl) rfl rfl Kp.true (Y.add_ rfl rfl rfl (by first | exact wrap_u32 (by omega) (by omega) | rfl)) ?_
        refine Jp.y 9 rfl (want_all rfl) rfl rfl Kp.true (Y.assign rfl rfl) ?_
        refine Jp.slot 9 rfl (show _ = Value.int .u32 ((k + 1 : Nat) : Int) from rfl) ?_
        refine Jp.again hLb (k + 1) hk2 (by omega) rfl ⟨rfl, rfl, rfl, rfl, rfl, rfl, trivial⟩ ⟨rfl, rfl, rfl, rfl, rfl, trivial⟩
      · have hk2 : k = 256 := by simp at gb; omega
        rw [hk2, partB_all hlen]
        refine Cd.exit rfl hK11 ?_
        exact Cd.meet (hj1 () trivial) ⟨rfl, rfl, rfl, rfl, rfl, trivial⟩ ⟨rfl, rfl, rfl, rfl, rfl, trivial⟩
  · have hi : i = M.pages.length := by simp at ga; omega
    refine Cd.exit rfl hK4 ?_
    refine Cd.seq fun K18 hK18 => ?_
    refine Cd.plain [(0, false), (1, false)] rfl rfl ?_
    refine Jp.y 68 rfl (want_all rfl) rfl rfl Kp.true (Y.move rfl rfl) ?_
    refine Jp.y 4 rfl (want_all rfl) rfl rfl Kp.true (Y.assign rfl rfl) ?_
    refine Jp.done hK18 ?_
    refine Cd.ret [(0, _), (1, _), (2, _)] rfl (res1 rfl rfl) ⟨rfl, rfl, rfl, trivial⟩ ⟨b1, PA, pc, rfl, by rw [hi, List.take_length]⟩
end Go.Proofs.Ytkjeidoplonkjaa
