import Derived.Test.YtgmhijlcdadaeaaZShA
import Derived.Test.YtgmhijlcdadaeaaZEngW
import Derived.Test.YtgmhijlcdadaeaaZMemX1
set_option linter.unusedVariables false
set_option linter.unusedSimpArgs false
set_option maxRecDepth 100000
namespace Go.Proofs.Ytgmhijlcdadaeaa
open Go
structure ShX where
  pb : Nat
  pm : MapL
  blk : Nat → Nat
def shPtr (blk : Nat → Nat) (k : Nat) : Value := .pointer (some ⟨blk k, 0, none⟩)
def pmOf (l : List (Nat × Pg)) (blk : Nat → Nat) : MapL := l.map fun p => ((p.1 : Int), shPtr blk p.1)
structure ShF (S : ShG) (x : ShX) : Prop where
  ok : ShOk S.pages
  room : S.pages.length ≤ S.budget
  budget : S.budget ≤ 4096
  pages : x.pm.Perm (pmOf S.pages x.blk)
def shPgO (p : Pg) : Obj := .cells (pageCells p).toArray 127
def shObj (S : ShG) (x : ShX) : Obj := .cells #[.int .i64 S.budget, .map (some x.pb)] 118
def shBlks (l : List (Nat × Pg)) (blk : Nat → Nat) : List (Nat × Obj) := l.map fun p => (blk p.1, shPgO p.2)
def ShO (b : Nat) (S : ShG) : HProp := Ex fun x : ShX => Fact (ShF S x) (Sep (Pt b (shObj S x)) (Sep (MapO .u32 x.pb x.pm) (Blks (shBlks S.pages x.blk))))
theorem pmOf_nodup {l : List (Nat × Pg)} (h : (l.map (·.1)).Nodup) (blk : Nat → Nat) : ((pmOf l blk).map (·.1)).Nodup := by
  unfold pmOf
  rw [List.map_map]
  have e : ((fun x => x.1) ∘ fun p : Nat × Pg => ((p.1 : Int), shPtr blk p.1)) = (fun k : Nat => (k : Int)) ∘ fun p => p.1 := rfl
  rw [e, ← List.map_map]
  rw [List.Nodup, List.pairwise_map]
  exact h.imp fun h => by omega
theorem pm_get {l : List (Nat × Pg)} {pm : MapL} {blk : Nat → Nat} (hn : (l.map (·.1)).Nodup) (hp : pm.Perm (pmOf l blk)) (k : Nat) : mget pm (k : Int) = (getPg l k).map fun _ => shPtr blk k := by
  rw [mget_perm hp (pmOf_nodup hn blk)]
  exact mget_pages (shPtr blk) k
theorem ShF.get {S : ShG} {x : ShX} (f : ShF S x) (k : Nat) : mget x.pm (k : Int) = (getPg S.pages k).map fun _ => shPtr x.blk k := pm_get f.ok.rising.nodup f.pages k
section
variable {P : Program} {n : Nat} {cx : Cx} {ρ : Hp} {E : Env} {L : Own} {ops : Array Oper} {Q : Exit → Act → World → Prop} {S' : World → Prop} {π : List (Nat × Bool)}
theorem St.shOpen {w : World} (hs : St cx ρ L w) {b : Nat} {S : ShG} (j j1 j2 : Nat) (hd : [j, j1, j2].Nodup) (e : look L j = some (ShO b S)) :
    ∃ x, ShF S x ∧ St cx ρ ((j, Pt b (shObj S x)) :: (j1, MapO .u32 x.pb x.pm) :: (j2, Blks (shBlks S.pages x.blk)) :: L) w := by
  obtain ⟨x, h1⟩ := hs.ex' e
  obtain ⟨hf, h2⟩ := h1.fact (j := j) (by rw [look_cons, if_pos rfl])
  simp only [List.nodup_cons, List.mem_cons, not_or, List.not_mem_nil, not_false_eq_true, List.nodup_nil, and_true] at hd
  obtain ⟨⟨d1, d2⟩, d4⟩ := hd
  have h3 := h2.part (j := j) (k := j1) d1 (by rw [look_cons, if_pos rfl])
  have h4 := h3.part (j := j1) (k := j2) d4 (by rw [look_cons, if_neg d1, look_cons, if_pos rfl])
  refine ⟨x, hf, h4.subF fun q C hq => ?_⟩
  simp only [look_cons] at hq ⊢
  by_cases q0 : j = q <;> by_cases q1 : j1 = q <;> by_cases q2 : j2 = q <;> simp only [q0, q1, q2, if_true, if_false] at hq ⊢ <;> first | exact hq | (exfalso; omega)
theorem St.shClose {w : World} (hs : St cx ρ L w) {b : Nat} {S : ShG} {x : ShX} (j j1 j2 : Nat) (hd : [j, j1, j2].Nodup) (hf : ShF S x) (e : look L j = some (Pt b (shObj S x))) (e1 : look L j1 = some (MapO .u32 x.pb x.pm)) (e2 : look L j2 = some (Blks (shBlks S.pages x.blk))) :
    St cx ρ ((j, ShO b S) :: (j1, Emp) :: (j2, Emp) :: L) w := by
  simp only [List.nodup_cons, List.mem_cons, not_or, List.not_mem_nil, not_false_eq_true, List.nodup_nil, and_true] at hd
  obtain ⟨⟨d1, d2⟩, d4⟩ := hd
  have h4 := hs.glue (j := j1) (k := j2) d4 e1 e2
  have h5 := h4.glue (j := j) (k := j1) d1 (by rw [look_cons, if_neg (Ne.symm d1), look_cons, if_neg (Ne.symm d2)]; exact e) (by rw [look_cons, if_pos rfl])
  have h6 := h5.imp (i := j) (A' := ShO b S) (by rw [look_cons, if_pos rfl]) fun k hk => ⟨x, hf, hk⟩
  refine h6.subF fun q C hq => ?_
  simp only [look_cons] at hq ⊢
  by_cases q0 : j = q <;> by_cases q1 : j1 = q <;> by_cases q2 : j2 = q <;> simp only [q0, q1, q2, if_true, if_false] at hq ⊢ <;> first | exact hq | (exfalso; omega)
theorem Cd.shOpen {d : Code} {b : Nat} {S : ShG} (j j1 j2 : Nat) (hd : [j, j1, j2].Nodup) (e : look L j = some (ShO b S))
    (h : ∀ x, ShF S x → Cd P Q n cx ρ E ((j, Pt b (shObj S x)) :: (j1, MapO .u32 x.pb x.pm) :: (j2, Blks (shBlks S.pages x.blk)) :: L) d) : Cd P Q n cx ρ E L d := fun a w ha hs =>
  let ⟨x, hf, h2⟩ := hs.shOpen j j1 j2 hd e; h x hf a w ha h2
theorem Cd.shClose {d : Code} {b : Nat} {S : ShG} {x : ShX} (j j1 j2 : Nat) (hd : [j, j1, j2].Nodup) (hf : ShF S x) (e : look L j = some (Pt b (shObj S x))) (e1 : look L j1 = some (MapO .u32 x.pb x.pm)) (e2 : look L j2 = some (Blks (shBlks S.pages x.blk)))
    (h : Cd P Q n cx ρ E ((j, ShO b S) :: (j1, Emp) :: (j2, Emp) :: L) d) : Cd P Q n cx ρ E L d := fun a w ha hs => h a w ha (hs.shClose j j1 j2 hd hf e e1 e2)
end
theorem shBase_spec (a : Nat) (ha : a < 4294967296) : Spec Try.prog 77 #[.int .u32 a] (fun _ => True) [] (fun ρ ρ' v L => ρ' = ρ ∧ v = .int .u32 (baseN a) ∧ L = []) := by
  refine Spec.of 7 Try.func77 rfl Try.ntmps77 [(0, _)] rfl rfl ?_
  intro cx ρ hr h0
  refine Cd.seq fun K1 hK1 => ?_
  refine Cd.plain [(0, false)] rfl rfl ?_
  refine Jp.y 2 rfl (want_all rfl) rfl rfl Kp.true (Y.assign rfl rfl) ?_
  refine Jp.done hK1 ?_
  refine Cd.seq fun K2 hK2 => ?_
  refine Cd.plain [(0, false), (1, false), (2, false), (3, false), (4, false)] rfl rfl ?_
  refine Jp.y 3 rfl (want_all rfl) rfl rfl Kp.true (Y.move rfl rfl) ?_
  refine Jp.y 4 rfl (want_all rfl) rfl rfl Kp.true (Y.move rfl rfl) ?_
  refine Jp.y 5 rfl (want_all rfl) rfl rfl Kp.true (by first | exact Y.remN rfl rfl rfl (by omega) (by omega) | exact Y.rem rfl rfl rfl (by first | decide | omega)) ?_
  refine Jp.y 6 rfl (want_all rfl) rfl rfl Kp.true (Y.sub_ rfl rfl rfl (wrap_u32 (by omega) (by omega))) ?_
  refine Jp.y 2 rfl (want_all rfl) rfl rfl Kp.true (Y.assign rfl rfl) ?_
  refine Jp.done hK2 ?_
  refine Cd.ret [] rfl (res1 rfl rfl) trivial ⟨rfl, congrArg (Value.int .u32) (by unfold baseN; omega), rfl⟩
theorem shSized_spec (size : Int) : Spec Try.prog 79 #[.int .i64 size] (fun _ => True) [] (fun ρ ρ' v L => ρ' = ρ ∧ v = .int .i64 (sizedP size : Int) ∧ L = []) := by
  refine Spec.of 10 Try.func79 rfl Try.ntmps79 [(0, _)] rfl rfl ?_
  intro cx ρ hr h0
  refine Cd.seq fun K3 hK3 => ?_
  refine Cd.plain [(0, false)] rfl rfl ?_
  refine Jp.y 2 rfl (want_all rfl) rfl rfl Kp.true (Y.assign rfl rfl) ?_
  refine Jp.done hK3 ?_
  refine Cd.seq fun K4 hK4 => ?_
  refine Cd.seq fun K5 hK5 => ?_
  refine Cd.plain [(0, false), (1, false), (2, false), (3, false), (4, false), (5, false)] rfl rfl ?_
  refine Jp.y 3 rfl (want_all rfl) rfl rfl Kp.true (Y.move rfl rfl) ?_
  refine Jp.y 4 rfl (want_all rfl) rfl rfl Kp.true (Y.lss rfl rfl rfl) ?_
  refine Jp.y 5 rfl (want_all rfl) rfl rfl Kp.true (Y.move rfl rfl) ?_
  refine Jp.split 5 rfl (fun g5 => ?_) (fun g5 => ?_)
  · skip
    try simp only [decide_eq_false_iff_not, decide_eq_true_eq, Int.not_lt, Int.not_le, Bool.not_eq_false, Bool.not_eq_true, Bool.not_true, Bool.not_false, Bool.not_eq_true', Bool.not_eq_false', beq_eq_false_iff_ne, ne_eq, beq_iff_eq, bne_iff_ne, bne_eq_false_iff_eq, Classical.not_not] at g5
    refine Jp.skip 6 rfl (want_as rfl rfl rfl rfl) rfl rfl Kp.true ?_
    refine Jp.skip 7 rfl (want_as rfl rfl rfl rfl) rfl rfl Kp.true ?_
    refine Jp.y 8 rfl (want_all rfl) rfl rfl Kp.true (Y.pickT rfl rfl rfl) ?_
    refine Jp.done hK5 ?_
    refine Cd.condT rfl ?_
    refine Cd.seq fun K6 hK6 => ?_
    refine Cd.plain [(0, false)] rfl rfl ?_
    refine Jp.y 2 rfl (want_all rfl) rfl rfl Kp.true (Y.assign rfl rfl) ?_
    refine Jp.done hK6 ?_
    refine Cd.ret [] rfl (res1 rfl rfl) trivial ⟨rfl, congrArg (Value.int .i64) (by unfold sizedP; first | (rw [if_pos (by omega)]; done) | (rw [if_pos (by omega)]; rfl) | (rw [if_neg (by omega)]; omega)), rfl⟩
  · skip
    try simp only [decide_eq_false_iff_not, decide_eq_true_eq, Int.not_lt, Int.not_le, Bool.not_eq_false, Bool.not_eq_true, Bool.not_true, Bool.not_false, Bool.not_eq_true', Bool.not_eq_false', beq_eq_false_iff_ne, ne_eq, beq_iff_eq, bne_iff_ne, bne_eq_false_iff_eq, Classical.not_not] at g5
    refine Jp.y 6 rfl (want_as rfl rfl rfl rfl) rfl rfl Kp.true (Y.move rfl rfl) ?_
    refine Jp.y 7 rfl (want_as rfl rfl rfl rfl) rfl rfl Kp.true (Y.gtr rfl rfl rfl) ?_
    refine Jp.y 8 rfl (want_all rfl) rfl rfl Kp.true (Y.pickF rfl rfl rfl) ?_
    refine Jp.done hK5 ?_
    refine Cd.cond rfl (fun g8 => ?_) (fun g8 => ?_)
    · skip
      try simp only [decide_eq_false_iff_not, decide_eq_true_eq, Int.not_lt, Int.not_le, Bool.not_eq_false, Bool.not_eq_true, Bool.not_true, Bool.not_false, Bool.not_eq_true', Bool.not_eq_false', beq_eq_false_iff_ne, ne_eq, beq_iff_eq, bne_iff_ne, bne_eq_false_iff_eq, Classical.not_not] at g8
      refine Cd.seq fun K7 hK7 => ?_
      refine Cd.plain [(0, false)] rfl rfl ?_
      refine Jp.y 2 rfl (want_all rfl) rfl rfl Kp.true (Y.assign rfl rfl) ?_
      refine Jp.done hK7 ?_
      refine Cd.ret [] rfl (res1 rfl rfl) trivial ⟨rfl, congrArg (Value.int .i64) (by unfold sizedP; first | (rw [if_pos (by omega)]; done) | (rw [if_pos (by omega)]; rfl) | (rw [if_neg (by omega)]; omega)), rfl⟩
    · skip
      try simp only [decide_eq_false_iff_not, decide_eq_true_eq, Int.not_lt, Int.not_le, Bool.not_eq_false, Bool.not_eq_true, Bool.not_true, Bool.not_false, Bool.not_eq_true', Bool.not_eq_false', beq_eq_false_iff_ne, ne_eq, beq_iff_eq, bne_iff_ne, bne_eq_false_iff_eq, Classical.not_not] at g8
      refine Cd.skip hK4 ?_
      refine Cd.seq fun K8 hK8 => ?_
      refine Cd.plain [(0, false), (1, false)] rfl rfl ?_
      refine Jp.y 9 rfl (want_all rfl) rfl rfl Kp.true (Y.move rfl rfl) ?_
      refine Jp.y 2 rfl (want_all rfl) rfl rfl Kp.true (Y.assign rfl rfl) ?_
      refine Jp.done hK8 ?_
      refine Cd.ret [] rfl (res1 rfl rfl) trivial ⟨rfl, congrArg (Value.int .i64) (by unfold sizedP; first | (rw [if_pos (by omega)]; done) | (rw [if_pos (by omega)]; rfl) | (rw [if_neg (by omega)]; omega)), rfl⟩
theorem shEnd_spec (a : Nat) (n : Int) (ha : a < 4294967296) (hn : n ≤ 9223372036854775807) : Spec Try.prog 80 #[.int .u32 a, .int .i64 n] (fun _ => True) [] (fun ρ ρ' v L => ρ' = ρ ∧ v = .int .u64 (endN a n : Int) ∧ L = []) := by
  refine Spec.of 15 Try.func80 rfl Try.ntmps80 [(0, _), (1, _)] rfl rfl ?_
  intro cx ρ hr h0
  refine Cd.seq fun K9 hK9 => ?_
  refine Cd.plain [(0, false)] rfl rfl ?_
  refine Jp.y 4 rfl (want_all rfl) rfl rfl Kp.true (Y.assign rfl rfl) ?_
  refine Jp.done hK9 ?_
  refine Cd.seq fun K10 hK10 => ?_
  refine Cd.plain [(0, false), (1, false), (2, false), (3, false), (4, false), (5, false), (6, false), (7, false), (8, false), (9, false), (10, false)] rfl rfl ?_
  refine Jp.y 5 rfl (want_all rfl) rfl rfl Kp.true (Y.move rfl rfl) ?_
  refine Jp.y 6 rfl (want_all rfl) rfl rfl Kp.true (Y.conv_ rfl rfl Try.underlying25 Try.underlying129 (by first | exact wrap_u64 (by omega) (by omega) | rfl)) ?_
  refine Jp.y 7 rfl (want_all rfl) rfl rfl Kp.true (Y.move rfl rfl) ?_
  refine Jp.y 8 rfl (want_all rfl) rfl rfl Kp.true (Y.max2 rfl rfl rfl) ?_
  refine Jp.slot 8 rfl (show _ = Value.int .i64 ((n.toNat : Nat) : Int) from congrArg (Value.int .i64) (by split <;> omega)) ?_
  refine Jp.y 9 rfl (want_all rfl) rfl rfl Kp.true (Y.conv_ rfl rfl Try.underlying3 Try.underlying129 (by first | exact wrap_u64 (by omega) (by omega) | rfl)) ?_
  refine Jp.y 10 rfl (want_all rfl) rfl rfl Kp.true (Y.move rfl rfl) ?_
  refine Jp.y 11 rfl (want_all rfl) rfl rfl Kp.true (Y.conv_ rfl rfl Try.underlying25 Try.underlying129 (by first | exact wrap_u64 (by omega) (by omega) | rfl)) ?_
  refine Jp.y 12 rfl (want_all rfl) rfl rfl Kp.true (Y.sub_ rfl rfl rfl (by first | exact wrap_u64 (by omega) (by omega) | rfl)) ?_
  refine Jp.y 13 rfl (want_all rfl) rfl rfl Kp.true (Y.min2 rfl rfl rfl) ?_
  refine Jp.slot 13 rfl (show _ = Value.int .u64 ((min n.toNat (4294967296 - a) : Nat) : Int) from congrArg (Value.int .u64) (by split <;> omega)) ?_
  refine Jp.y 14 rfl (want_all rfl) rfl rfl Kp.true (Y.add_ rfl rfl rfl (by first | exact wrap_u64 (by omega) (by omega) | rfl)) ?_
  refine Jp.y 4 rfl (want_all rfl) rfl rfl Kp.true (Y.assign rfl rfl) ?_
  refine Jp.done hK10 ?_
  refine Cd.ret [] rfl (res1 rfl rfl) trivial ⟨rfl, congrArg (Value.int .u64) (by unfold endN; omega), rfl⟩
def partP (p a e : Nat) : Nat × Nat := if min (p + 256) e ≤ max p a then (0, 0) else (max p a - p, min (p + 256) e - p)
theorem shPart_spec (p a e : Nat) (hp : p < 4294967296) (ha : a < 4294967296) (he : e ≤ 4294967296) : Spec Try.prog 81 #[.int .u32 p, .int .u32 a, .int .u64 e] (fun _ => True) [] (fun ρ ρ' v L => ρ' = ρ ∧ v = .tuple #[.int .i64 ((partP p a e).1 : Int), .int .i64 ((partP p a e).2 : Int)] ∧ L = []) := by
  refine Spec.of 33 Try.func81 rfl Try.ntmps81 [(0, _), (1, _), (2, _)] rfl rfl ?_
  intro cx ρ hr h0
  refine Cd.seq fun K11 hK11 => ?_
  refine Cd.plain [(0, false), (1, false)] rfl rfl ?_
  refine Jp.y 6 rfl (want_all rfl) rfl rfl Kp.true (Y.assign rfl rfl) ?_
  refine Jp.y 7 rfl (want_all rfl) rfl rfl Kp.true (Y.assign rfl rfl) ?_
  refine Jp.done hK11 ?_
  refine Cd.seq fun K12 hK12 => ?_
  refine Cd.plain [(0, false), (1, false), (2, false), (3, false), (4, false), (5, false)] rfl rfl ?_
  refine Jp.y 10 rfl (want_all rfl) rfl rfl Kp.true (Y.move rfl rfl) ?_
  refine Jp.y 11 rfl (want_all rfl) rfl rfl Kp.true (Y.conv_ rfl rfl Try.underlying25 Try.underlying129 (by first | exact wrap_u64 (by omega) (by omega) | rfl)) ?_
  refine Jp.y 12 rfl (want_all rfl) rfl rfl Kp.true (Y.move rfl rfl) ?_
  refine Jp.y 13 rfl (want_all rfl) rfl rfl Kp.true (Y.conv_ rfl rfl Try.underlying25 Try.underlying129 (by first | exact wrap_u64 (by omega) (by omega) | rfl)) ?_
  refine Jp.y 14 rfl (want_all rfl) rfl rfl Kp.true (Y.max2 rfl rfl rfl) ?_
  refine Jp.slot 14 rfl (show _ = Value.int .u64 ((max p a : Nat) : Int) from congrArg (Value.int .u64) (by split <;> omega)) ?_
  refine Jp.y 8 rfl (want_all rfl) rfl rfl Kp.true (Y.assign rfl rfl) ?_
  refine Jp.done hK12 ?_
  refine Cd.seq fun K13 hK13 => ?_
  refine Cd.plain [(0, false), (1, false), (2, false), (3, false), (4, false), (5, false)] rfl rfl ?_
  refine Jp.y 15 rfl (want_all rfl) rfl rfl Kp.true (Y.move rfl rfl) ?_
  refine Jp.y 16 rfl (want_all rfl) rfl rfl Kp.true (Y.conv_ rfl rfl Try.underlying25 Try.underlying129 (by first | exact wrap_u64 (by omega) (by omega) | rfl)) ?_
  refine Jp.y 17 rfl (want_all rfl) rfl rfl Kp.true (Y.add_ rfl rfl rfl (by first | exact wrap_u64 (by omega) (by omega) | rfl)) ?_
  refine Jp.y 18 rfl (want_all rfl) rfl rfl Kp.true (Y.move rfl rfl) ?_
  refine Jp.y 19 rfl (want_all rfl) rfl rfl Kp.true (Y.min2 rfl rfl rfl) ?_
  refine Jp.slot 19 rfl (show _ = Value.int .u64 ((min (p + 256) e : Nat) : Int) from congrArg (Value.int .u64) (by split <;> omega)) ?_
  refine Jp.y 9 rfl (want_all rfl) rfl rfl Kp.true (Y.assign rfl rfl) ?_
  refine Jp.done hK13 ?_
  refine Cd.seq fun K14 hK14 => ?_
  refine Cd.seq fun K15 hK15 => ?_
  refine Cd.plain [(0, false), (1, false), (2, false)] rfl rfl ?_
  refine Jp.y 20 rfl (want_all rfl) rfl rfl Kp.true (Y.move rfl rfl) ?_
  refine Jp.y 21 rfl (want_all rfl) rfl rfl Kp.true (Y.move rfl rfl) ?_
  refine Jp.y 22 rfl (want_all rfl) rfl rfl Kp.true (Y.geq rfl rfl rfl) ?_
  refine Jp.done hK15 ?_
  refine Cd.cond rfl (fun gc => ?_) (fun gc => ?_)
  · have : partP p a e = (0, 0) := if_pos (by simp at gc; omega)
    refine Cd.seq fun K16 hK16 => ?_
    refine Cd.plain [(0, false), (1, false)] rfl rfl ?_
    refine Jp.y 6 rfl (want_all rfl) rfl rfl Kp.true (Y.assign rfl rfl) ?_
    refine Jp.y 7 rfl (want_all rfl) rfl rfl Kp.true (Y.assign rfl rfl) ?_
    refine Jp.done hK16 ?_
    refine Cd.ret [] rfl (res2 rfl rfl rfl) trivial ⟨rfl, by rw [this]; rfl, rfl⟩
  · have : partP p a e = (max p a - p, min (p + 256) e - p) := if_neg (by simp at gc; omega)
    have h1 : max p a < min (p + 256) e := by simp at gc; omega
    refine Cd.skip hK14 ?_
    refine Cd.seq fun K17 hK17 => ?_
    refine Cd.plain [(0, false), (1, false), (2, false), (3, false), (4, false), (5, false), (6, false), (7, false), (8, false), (9, false), (10, false), (11, false)] rfl rfl ?_
    refine Jp.y 23 rfl (want_all rfl) rfl rfl Kp.true (Y.move rfl rfl) ?_
    refine Jp.y 24 rfl (want_all rfl) rfl rfl Kp.true (Y.move rfl rfl) ?_
    refine Jp.y 25 rfl (want_all rfl) rfl rfl Kp.true (Y.conv_ rfl rfl Try.underlying25 Try.underlying129 (by first | exact wrap_u64 (by omega) (by omega) | rfl)) ?_
    refine Jp.y 26 rfl (want_all rfl) rfl rfl Kp.true (Y.sub_ rfl rfl rfl (by first | exact wrap_u64 (by omega) (by omega) | rfl)) ?_
    refine Jp.y 27 rfl (want_all rfl) rfl rfl Kp.true (Y.conv_ rfl rfl Try.underlying129 Try.underlying3 (by first | exact wrap_i64 (by omega) (by omega) | rfl)) ?_
    refine Jp.y 28 rfl (want_all rfl) rfl rfl Kp.true (Y.move rfl rfl) ?_
    refine Jp.y 29 rfl (want_all rfl) rfl rfl Kp.true (Y.move rfl rfl) ?_
    refine Jp.y 30 rfl (want_all rfl) rfl rfl Kp.true (Y.conv_ rfl rfl Try.underlying25 Try.underlying129 (by first | exact wrap_u64 (by omega) (by omega) | rfl)) ?_
    refine Jp.y 31 rfl (want_all rfl) rfl rfl Kp.true (Y.sub_ rfl rfl rfl (by first | exact wrap_u64 (by omega) (by omega) | rfl)) ?_
    refine Jp.y 32 rfl (want_all rfl) rfl rfl Kp.true (Y.conv_ rfl rfl Try.underlying129 Try.underlying3 (by first | exact wrap_i64 (by omega) (by omega) | rfl)) ?_
    refine Jp.slot 27 rfl (show _ = Value.int .i64 ((max p a - p : Nat) : Int) from congrArg (Value.int .i64) (by omega)) ?_
    refine Jp.slot 32 rfl (show _ = Value.int .i64 ((min (p + 256) e - p : Nat) : Int) from congrArg (Value.int .i64) (by omega)) ?_
    refine Jp.y 6 rfl (want_all rfl) rfl rfl Kp.true (Y.assign rfl rfl) ?_
    refine Jp.y 7 rfl (want_all rfl) rfl rfl Kp.true (Y.assign rfl rfl) ?_
    refine Jp.done hK17 ?_
    refine Cd.ret [] rfl (res2 rfl rfl rfl) trivial ⟨rfl, by rw [this], rfl⟩
theorem shMem {l : List (Nat × Pg)} {blk : Nat → Nat} {k : Nat} {p : Pg} (h : getPg l k = some p) : (blk k, shPgO p) ∈ shBlks l blk := List.mem_map.2 ⟨(k, p), getPg_mem h, rfl⟩
theorem labL_some {l : List (Nat × Pg)} {a : Nat} {p : Pg} (h : getPg l (baseN a) = some p) : labL l a = p.b.getD (a % 256) 0 := by unfold labL; rw [h]
theorem labL_none {l : List (Nat × Pg)} {a : Nat} (h : getPg l (baseN a) = none) : labL l a = 0 := by unfold labL; rw [h]
theorem shAt_spec (b : Nat) (S : ShG) (a : Nat) (ha : a < 4294967296) : Spec Try.prog 29 #[.pointer (some ⟨b, 0, none⟩), .int .u32 a] (fun _ => True) [(0, ShO b S)]
    (fun ρ ρ' v L => ρ' = ρ ∧ v = .int .u8 ((labL S.pages a).toNat : Int) ∧ L = [(0, ShO b S)]) := by
  refine Spec.of 22 Try.func29 rfl Try.ntmps29 [(0, _), (1, _)] rfl rfl ?_
  intro cx ρ hr h0
  refine Cd.shOpen 0 1 2 (by decide) rfl fun x hf => ?_
  refine Cd.seq fun K18 hK18 => ?_
  refine Cd.plain [(0, false)] rfl rfl ?_
  refine Jp.y 4 rfl (want_all rfl) rfl rfl Kp.true (Y.assign rfl rfl) ?_
  refine Jp.done hK18 ?_
  refine Cd.seq fun K19 hK19 => ?_
  refine Cd.drawn [(0, _), (1, _)] ⟨rfl, rfl, trivial⟩ [(0, true), (1, true), (2, true), (3, true), (4, true), (5, false), (6, true), (7, true)] follows (by kernel_rfl) (fun hrl => ?_)
  refine Jp.q 6 rfl (want_all rfl) rfl rfl (Y.move rfl rfl) ?_
  refine Jp.q 7 rfl (want_all rfl) rfl rfl (Y.nilCheck rfl rfl) ?_
  refine Jp.q 8 rfl (want_all rfl) rfl rfl (by first | exact Y.fieldAddrP rfl rfl Try.underlying118 rfl Try.sizeOf116 (by decide) (show _ + 1 = _ from rfl) | exact Y.fieldAddr rfl rfl Try.underlying118 rfl Try.sizeOf116 (by decide)) ?_
  refine Jp.q 9 rfl (want_all rfl) rfl rfl (Y.loadO 0 rfl Try.isAgg116 rfl rfl rfl) ?_
  refine Jp.q 10 rfl (want_all rfl) rfl rfl (Y.move rfl rfl) ?_
  refine Jp.call [] [] (shBase_spec a ha) 11 rfl (want_all rfl) rfl rfl (Runs.fn rfl Try.call77 rfl) (by decide) (by decide) rfl trivial ?_
  rintro v101 ρ101 L101 ⟨rfl, rfl, rfl⟩
  refine ⟨rfl, fun hle101 => ⟨(Kp.st ⟨rfl, rfl, trivial⟩), ?_⟩⟩
  refine Jp.q 12 rfl (want_all rfl) rfl rfl (by first | exact Y.lookup 1 rfl rfl rfl Try.underlying116 Try.underlying25 Try.zeroValue123 rfl) ?_
  refine Jp.q 5 rfl (want_all rfl) rfl rfl (Y.assign rfl rfl) ?_
  refine Jp.done hK19 ?_
  refine Cd.seq fun K21 hK21 => ?_
  refine Cd.seq fun K22 hK22 => ?_
  refine Cd.plain [(0, false), (1, false)] rfl rfl ?_
  have hget := hf.get (baseN a)
  rcases hg : getPg S.pages (baseN a) with _ | p
  · rw [hg] at hget
    refine Jp.slot 5 rfl (show _ = Value.pointer none by rw [hget]; rfl) ?_
    refine Jp.y 13 rfl (want_all rfl) rfl rfl Kp.true (Y.move rfl rfl) ?_
    refine Jp.y 14 rfl (want_all rfl) rfl rfl Kp.true (Y.ptrNil rfl Try.underlying123 rfl rfl) ?_
    refine Jp.done hK22 ?_
    refine Cd.cond rfl (fun gx => ?_) (fun gx => ?_)
    · skip
      refine Cd.seq fun K23 hK23 => ?_
      refine Cd.plain [(0, false)] rfl rfl ?_
      refine Jp.y 4 rfl (want_all rfl) rfl rfl Kp.true (Y.assign rfl rfl) ?_
      refine Jp.done hK23 ?_
      refine Cd.shClose (b := b) (x := x) 0 1 2 (by decide) hf rfl rfl rfl ?_
      refine Cd.ret [(0, _)] rfl (res1 rfl rfl) ⟨rfl, trivial⟩ ⟨rfl, by rw [labL_none hg]; rfl, rfl⟩
    · exact absurd gx (by simp)
  · rw [hg] at hget
    refine Jp.slot 5 rfl (show _ = Value.pointer (some ⟨x.blk (baseN a), 0, none⟩) by rw [hget]; rfl) ?_
    refine Jp.y 13 rfl (want_all rfl) rfl rfl Kp.true (Y.move rfl rfl) ?_
    refine Jp.y 14 rfl (want_all rfl) rfl rfl Kp.true (Y.ptrNil rfl Try.underlying123 rfl rfl) ?_
    refine Jp.done hK22 ?_
    refine Cd.cond rfl (fun gx => ?_) (fun gx => ?_)
    · exact absurd gx (by simp)
    · have hlen : p.b.length = 256 := (hf.ok.get hg).len
      have hm : a % 256 < 256 := Nat.mod_lt _ (by decide)
      have hcell := Blks.cell (shMem (blk := x.blk) hg) (pageCells_byte p hlen hm)
      refine Cd.skip hK21 ?_
      refine Cd.seq fun K24 hK24 => ?_
      refine Cd.plain [(0, false), (1, false), (2, false), (3, false), (4, false), (5, false), (6, false), (7, false)] rfl rfl ?_
      refine Jp.y 15 rfl (want_all rfl) rfl rfl Kp.true (Y.move rfl rfl) ?_
      refine Jp.y 16 rfl (want_all rfl) rfl rfl Kp.true (Y.move rfl rfl) ?_
      refine Jp.y 17 rfl (want_all rfl) rfl rfl Kp.true (by first | exact Y.remN rfl rfl rfl (by omega) (by omega) | exact Y.rem rfl rfl rfl (by first | decide | omega)) ?_
      refine Jp.y 18 rfl (want_all rfl) rfl rfl Kp.true (Y.nilCheck rfl rfl) ?_
      refine Jp.y 19 rfl (want_all rfl) rfl rfl Kp.true (by first | exact Y.fieldAddrP rfl rfl Try.underlying127 rfl Try.sizeOf106 (by decide) (show _ + 0 = _ from rfl) | exact Y.fieldAddr rfl rfl Try.underlying127 rfl Try.sizeOf106 (by decide)) ?_
      refine Jp.y 20 rfl (want_all rfl) rfl rfl Kp.true (Y.indexArrP (q := a % 256) rfl rfl rfl Try.underlying106 Try.sizeOf5 (by omega) (by omega) (by omega)) ?_
      refine Jp.y 21 rfl (want_all rfl) rfl rfl Kp.true (Y.loadC 2 rfl Try.isAgg5 rfl rfl hcell) ?_
      refine Jp.y 4 rfl (want_all rfl) rfl rfl Kp.true (Y.assign rfl rfl) ?_
      refine Jp.done hK24 ?_
      refine Cd.shClose (b := b) (x := x) 0 1 2 (by decide) hf rfl rfl rfl ?_
      refine Cd.ret [(0, _)] rfl (res1 rfl rfl) ⟨rfl, trivial⟩ ⟨rfl, by rw [labL_some hg, List.getD_eq_getElem?_getD, List.getElem?_eq_getElem (by omega)]; rfl, rfl⟩
end Go.Proofs.Ytgmhijlcdadaeaa
