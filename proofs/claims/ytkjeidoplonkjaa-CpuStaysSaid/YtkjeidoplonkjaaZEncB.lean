import Derived.Test.YtkjeidoplonkjaaZEncA
import Derived.Test.YtkjeidoplonkjaaZRvF
set_option linter.unusedVariables false
set_option linter.unusedSimpArgs false
set_option maxRecDepth 100000
namespace Go.Proofs.Ytkjeidoplonkjaa
open Go
def wholeP (op : Nat) : Nat := if op = 46 then 267386895 else if op = 47 then 4111 else if op = 48 then 115 else if op = 49 then 1048691 else 0
theorem whole_spec (op : Nat) (h : op < 50) : Spec Try.prog 55 #[.int .i64 op] (fun _ => True) [] (fun ρ ρ' v L => ρ' = ρ ∧ v = .tuple #[.int .u32 (wholeP op : Int), .bool (decide (46 ≤ op))] ∧ L = []) := by
  refine Spec.of 13 Try.func55 rfl Try.ntmps55 [(0, _)] rfl rfl ?_
  intro cx ρ hr h0
  refine Cd.seq fun K1 hK1 => ?_
  refine Cd.plain [(0, false), (1, false)] rfl rfl ?_
  refine Jp.y 2 rfl (want_all rfl) rfl rfl Kp.true (Y.assign rfl rfl) ?_
  refine Jp.y 3 rfl (want_all rfl) rfl rfl Kp.true (Y.assign rfl rfl) ?_
  refine Jp.done hK1 ?_
  refine Cd.seq fun K2 hK2 => ?_
  refine Cd.seq fun K3 hK3 => ?_
  refine Cd.plain [(0, false)] rfl rfl ?_
  refine Jp.y 4 rfl (want_all rfl) rfl rfl Kp.true (Y.move rfl rfl) ?_
  refine Jp.done hK3 ?_
  refine Cd.block ?_
  refine Cd.seq fun K4 hK4 => ?_
  refine Cd.plain [(0, false), (1, false)] rfl rfl ?_
  refine Jp.y 6 rfl (want_all rfl) rfl rfl Kp.true (Y.eql rfl rfl rfl) ?_
  refine Jp.y 5 rfl (want_all rfl) rfl rfl Kp.true (Y.assign rfl rfl) ?_
  refine Jp.done hK4 ?_
  refine Cd.cond rfl (fun g5 => ?_) (fun g5 => ?_)
  · skip
    try simp only [decide_eq_false_iff_not, decide_eq_true_eq, Int.not_lt, Int.not_le, Bool.not_eq_false, Bool.not_eq_true, Bool.not_true, Bool.not_false, Bool.not_eq_true', Bool.not_eq_false', beq_eq_false_iff_ne, ne_eq, beq_iff_eq, bne_iff_ne, bne_eq_false_iff_eq, Classical.not_not] at g5
    refine Cd.seq fun K5 hK5 => ?_
    refine Cd.plain [(0, false), (1, false)] rfl rfl ?_
    refine Jp.y 2 rfl (want_all rfl) rfl rfl Kp.true (Y.assign rfl rfl) ?_
    refine Jp.y 3 rfl (want_all rfl) rfl rfl Kp.true (Y.assign rfl rfl) ?_
    refine Jp.done hK5 ?_
    refine Cd.ret [] rfl (res2 rfl rfl rfl) trivial ⟨rfl, by
      first
      | (exfalso; omega)
      | (obtain rfl : op = 46 := by omega
         rfl)
      | (obtain rfl : op = 47 := by omega
         rfl)
      | (obtain rfl : op = 48 := by omega
         rfl)
      | (obtain rfl : op = 49 := by omega
         rfl)
      | (rw [wholeP, if_neg (by omega), if_neg (by omega), if_neg (by omega), if_neg (by omega), decide_eq_false (by omega)]; rfl), rfl⟩
  · skip
    try simp only [decide_eq_false_iff_not, decide_eq_true_eq, Int.not_lt, Int.not_le, Bool.not_eq_false, Bool.not_eq_true, Bool.not_true, Bool.not_false, Bool.not_eq_true', Bool.not_eq_false', beq_eq_false_iff_ne, ne_eq, beq_iff_eq, bne_iff_ne, bne_eq_false_iff_eq, Classical.not_not] at g5
    refine Cd.seq fun K6 hK6 => ?_
    refine Cd.plain [(0, false), (1, false)] rfl rfl ?_
    refine Jp.y 8 rfl (want_all rfl) rfl rfl Kp.true (Y.eql rfl rfl rfl) ?_
    refine Jp.y 7 rfl (want_all rfl) rfl rfl Kp.true (Y.assign rfl rfl) ?_
    refine Jp.done hK6 ?_
    refine Cd.cond rfl (fun g7 => ?_) (fun g7 => ?_)
    · skip
      try simp only [decide_eq_false_iff_not, decide_eq_true_eq, Int.not_lt, Int.not_le, Bool.not_eq_false, Bool.not_eq_true, Bool.not_true, Bool.not_false, Bool.not_eq_true', Bool.not_eq_false', beq_eq_false_iff_ne, ne_eq, beq_iff_eq, bne_iff_ne, bne_eq_false_iff_eq, Classical.not_not] at g7
      refine Cd.seq fun K7 hK7 => ?_
      refine Cd.plain [(0, false), (1, false)] rfl rfl ?_
      refine Jp.y 2 rfl (want_all rfl) rfl rfl Kp.true (Y.assign rfl rfl) ?_
      refine Jp.y 3 rfl (want_all rfl) rfl rfl Kp.true (Y.assign rfl rfl) ?_
      refine Jp.done hK7 ?_
      refine Cd.ret [] rfl (res2 rfl rfl rfl) trivial ⟨rfl, by
        first
        | (exfalso; omega)
        | (obtain rfl : op = 46 := by omega
           rfl)
        | (obtain rfl : op = 47 := by omega
           rfl)
        | (obtain rfl : op = 48 := by omega
           rfl)
        | (obtain rfl : op = 49 := by omega
           rfl)
        | (rw [wholeP, if_neg (by omega), if_neg (by omega), if_neg (by omega), if_neg (by omega), decide_eq_false (by omega)]; rfl), rfl⟩
    · skip
      try simp only [decide_eq_false_iff_not, decide_eq_true_eq, Int.not_lt, Int.not_le, Bool.not_eq_false, Bool.not_eq_true, Bool.not_true, Bool.not_false, Bool.not_eq_true', Bool.not_eq_false', beq_eq_false_iff_ne, ne_eq, beq_iff_eq, bne_iff_ne, bne_eq_false_iff_eq, Classical.not_not] at g7
      refine Cd.seq fun K8 hK8 => ?_
      refine Cd.plain [(0, false), (1, false)] rfl rfl ?_
      refine Jp.y 10 rfl (want_all rfl) rfl rfl Kp.true (Y.eql rfl rfl rfl) ?_
      refine Jp.y 9 rfl (want_all rfl) rfl rfl Kp.true (Y.assign rfl rfl) ?_
      refine Jp.done hK8 ?_
      refine Cd.cond rfl (fun g9 => ?_) (fun g9 => ?_)
      · skip
        try simp only [decide_eq_false_iff_not, decide_eq_true_eq, Int.not_lt, Int.not_le, Bool.not_eq_false, Bool.not_eq_true, Bool.not_true, Bool.not_false, Bool.not_eq_true', Bool.not_eq_false', beq_eq_false_iff_ne, ne_eq, beq_iff_eq, bne_iff_ne, bne_eq_false_iff_eq, Classical.not_not] at g9
        refine Cd.seq fun K9 hK9 => ?_
        refine Cd.plain [(0, false), (1, false)] rfl rfl ?_
        refine Jp.y 2 rfl (want_all rfl) rfl rfl Kp.true (Y.assign rfl rfl) ?_
        refine Jp.y 3 rfl (want_all rfl) rfl rfl Kp.true (Y.assign rfl rfl) ?_
        refine Jp.done hK9 ?_
        refine Cd.ret [] rfl (res2 rfl rfl rfl) trivial ⟨rfl, by
          first
          | (exfalso; omega)
          | (obtain rfl : op = 46 := by omega
             rfl)
          | (obtain rfl : op = 47 := by omega
             rfl)
          | (obtain rfl : op = 48 := by omega
             rfl)
          | (obtain rfl : op = 49 := by omega
             rfl)
          | (rw [wholeP, if_neg (by omega), if_neg (by omega), if_neg (by omega), if_neg (by omega), decide_eq_false (by omega)]; rfl), rfl⟩
      · skip
        try simp only [decide_eq_false_iff_not, decide_eq_true_eq, Int.not_lt, Int.not_le, Bool.not_eq_false, Bool.not_eq_true, Bool.not_true, Bool.not_false, Bool.not_eq_true', Bool.not_eq_false', beq_eq_false_iff_ne, ne_eq, beq_iff_eq, bne_iff_ne, bne_eq_false_iff_eq, Classical.not_not] at g9
        refine Cd.seq fun K10 hK10 => ?_
        refine Cd.plain [(0, false), (1, false)] rfl rfl ?_
        refine Jp.y 12 rfl (want_all rfl) rfl rfl Kp.true (Y.eql rfl rfl rfl) ?_
        refine Jp.y 11 rfl (want_all rfl) rfl rfl Kp.true (Y.assign rfl rfl) ?_
        refine Jp.done hK10 ?_
        refine Cd.cond rfl (fun g11 => ?_) (fun g11 => ?_)
        · skip
          try simp only [decide_eq_false_iff_not, decide_eq_true_eq, Int.not_lt, Int.not_le, Bool.not_eq_false, Bool.not_eq_true, Bool.not_true, Bool.not_false, Bool.not_eq_true', Bool.not_eq_false', beq_eq_false_iff_ne, ne_eq, beq_iff_eq, bne_iff_ne, bne_eq_false_iff_eq, Classical.not_not] at g11
          refine Cd.seq fun K11 hK11 => ?_
          refine Cd.plain [(0, false), (1, false)] rfl rfl ?_
          refine Jp.y 2 rfl (want_all rfl) rfl rfl Kp.true (Y.assign rfl rfl) ?_
          refine Jp.y 3 rfl (want_all rfl) rfl rfl Kp.true (Y.assign rfl rfl) ?_
          refine Jp.done hK11 ?_
          refine Cd.ret [] rfl (res2 rfl rfl rfl) trivial ⟨rfl, by
            first
            | (exfalso; omega)
            | (obtain rfl : op = 46 := by omega
               rfl)
            | (obtain rfl : op = 47 := by omega
               rfl)
            | (obtain rfl : op = 48 := by omega
               rfl)
            | (obtain rfl : op = 49 := by omega
               rfl)
            | (rw [wholeP, if_neg (by omega), if_neg (by omega), if_neg (by omega), if_neg (by omega), decide_eq_false (by omega)]; rfl), rfl⟩
        · skip
          try simp only [decide_eq_false_iff_not, decide_eq_true_eq, Int.not_lt, Int.not_le, Bool.not_eq_false, Bool.not_eq_true, Bool.not_true, Bool.not_false, Bool.not_eq_true', Bool.not_eq_false', beq_eq_false_iff_ne, ne_eq, beq_iff_eq, bne_iff_ne, bne_eq_false_iff_eq, Classical.not_not] at g11
          refine Cd.over rfl hK2 ?_
          refine Cd.seq fun K12 hK12 => ?_
          refine Cd.plain [(0, false), (1, false)] rfl rfl ?_
          refine Jp.y 2 rfl (want_all rfl) rfl rfl Kp.true (Y.assign rfl rfl) ?_
          refine Jp.y 3 rfl (want_all rfl) rfl rfl Kp.true (Y.assign rfl rfl) ?_
          refine Jp.done hK12 ?_
          refine Cd.ret [] rfl (res2 rfl rfl rfl) trivial ⟨rfl, by
            first
            | (exfalso; omega)
            | (obtain rfl : op = 46 := by omega
               rfl)
            | (obtain rfl : op = 47 := by omega
               rfl)
            | (obtain rfl : op = 48 := by omega
               rfl)
            | (obtain rfl : op = 49 := by omega
               rfl)
            | (rw [wholeP, if_neg (by omega), if_neg (by omega), if_neg (by omega), if_neg (by omega), decide_eq_false (by omega)]; rfl), rfl⟩
theorem regs_spec (A : Option Addr) (c : Nat) (xs : List Int) (hxs : ∀ x ∈ xs, 0 ≤ x ∧ x ≤ 31) (hl : xs.length ≤ 1000) : Spec Try.prog 56 #[.slice A xs.length c] (RdI .i64 ⟨A, c, xs⟩) [] (fun ρ ρ' v L => ρ' = ρ ∧ v = .bool true ∧ L = []) := by
  refine Spec.of 18 Try.func56 rfl Try.ntmps56 [(0, _)] rfl rfl ?_
  intro cx ρ hr h0
  refine Cd.seq fun K13 hK13 => ?_
  refine Cd.plain [(0, false)] rfl rfl ?_
  refine Jp.y 2 rfl (want_all rfl) rfl rfl Kp.true (Y.assign rfl rfl) ?_
  refine Jp.done hK13 ?_
  refine Cd.seq fun K14 hK14 => ?_
  refine Cd.seq fun K15 hK15 => ?_
  refine Cd.plain [(0, false), (1, false), (2, false)] rfl rfl ?_
  refine Jp.y 5 rfl (want_all rfl) rfl rfl Kp.true (Y.move rfl rfl) ?_
  refine Jp.y 6 rfl (want_all rfl) rfl rfl Kp.true (Y.lenslice rfl Try.underlying67 rfl) ?_
  refine Jp.y 7 rfl (want_all rfl) rfl rfl Kp.true (Y.move rfl rfl) ?_
  refine Jp.done hK15 ?_
  refine Cd.block ?_
  refine Cd.loopK (G := Nat) (fun g => g ≤ xs.length) (fun g => xs.length - g) (fun _ => _) (fun g => [(7, .int .i64 (g : Int))]) [(5, _), (6, _)] (fun g => []) [] 0 (Nat.zero_le _) rfl ⟨rfl, trivial⟩ ⟨rfl, rfl, trivial⟩ trivial trivial (fun g KLa hok hLa => ?_)
  refine Cd.seq fun K16 hK16 => ?_
  refine Cd.plain [(0, false)] rfl rfl ?_
  refine Jp.y 8 rfl (want_all rfl) rfl rfl Kp.true (Y.lss rfl rfl rfl) ?_
  refine Jp.done hK16 ?_
  refine Cd.seq fun K17 hK17 => ?_
  refine Cd.cond rfl (fun ga => ?_) (fun ga => ?_)
  · have hi : g < xs.length := by simp at ga; omega
    obtain ⟨x, hx⟩ : ∃ x, xs[g]? = some x := ⟨_, List.getElem?_eq_getElem hi⟩
    obtain ⟨b1, b2⟩ := hxs x (List.mem_of_getElem? hx)
    obtain ⟨ad, hA, hc⟩ := hr.2.2 g (.int .i64 x) (by simp [intsV, hx])
    have hA : A = some ad := hA
    subst hA
    refine Cd.skip hK17 ?_
    refine Cd.seq fun K18 hK18 => ?_
    refine Cd.block ?_
    refine Cd.seq fun K19 hK19 => ?_
    refine Cd.plain [(0, false), (1, false), (2, false)] rfl rfl ?_
    refine Jp.y 9 rfl (want_all rfl) rfl rfl Kp.true (Y.indexAddr (q := g) rfl rfl rfl Try.underlying67 Try.sizeOf3 (by omega) (by omega) (by omega)) ?_
    refine Jp.y 10 rfl (want_all rfl) rfl rfl Kp.true (Y.loadR rfl Try.isAgg3 rfl hc) ?_
    refine Jp.y 4 rfl (want_all rfl) rfl rfl Kp.true (Y.assign rfl rfl) ?_
    refine Jp.done hK19 ?_
    refine Cd.seq fun K20 hK20 => ?_
    refine Cd.plain [(0, false), (1, false), (2, false), (3, false), (4, false), (5, false)] rfl rfl ?_
    refine Jp.y 11 rfl (want_all rfl) rfl rfl Kp.true (Y.move rfl rfl) ?_
    refine Jp.y 12 rfl (want_all rfl) rfl rfl Kp.true (Y.lss rfl rfl rfl) ?_
    refine Jp.y 13 rfl (want_all rfl) rfl rfl Kp.true (Y.move rfl rfl) ?_
    refine Jp.split 13 rfl (fun g13 => ?_) (fun g13 => ?_)
    · skip
      try simp only [decide_eq_false_iff_not, decide_eq_true_eq, Int.not_lt, Int.not_le, Bool.not_eq_false, Bool.not_eq_true, Bool.not_true, Bool.not_false, Bool.not_eq_true', Bool.not_eq_false', beq_eq_false_iff_ne, ne_eq, beq_iff_eq, bne_iff_ne, bne_eq_false_iff_eq, Classical.not_not] at g13
      exfalso
      omega
    try simp only [decide_eq_false_iff_not, decide_eq_true_eq, Int.not_lt, Int.not_le, Bool.not_eq_false, Bool.not_eq_true, Bool.not_true, Bool.not_false, Bool.not_eq_true', Bool.not_eq_false', beq_eq_false_iff_ne, ne_eq, beq_iff_eq, bne_iff_ne, bne_eq_false_iff_eq, Classical.not_not] at g13
    refine Jp.y 14 rfl (want_as rfl rfl rfl rfl) rfl rfl Kp.true (Y.move rfl rfl) ?_
    refine Jp.y 15 rfl (want_as rfl rfl rfl rfl) rfl rfl Kp.true (Y.gtr rfl rfl rfl) ?_
    refine Jp.y 16 rfl (want_all rfl) rfl rfl Kp.true (Y.pickF rfl rfl rfl) ?_
    refine Jp.done hK20 ?_
    refine Cd.cond rfl (fun g16 => ?_) (fun g16 => ?_)
    · skip
      try simp only [decide_eq_false_iff_not, decide_eq_true_eq, Int.not_lt, Int.not_le, Bool.not_eq_false, Bool.not_eq_true, Bool.not_true, Bool.not_false, Bool.not_eq_true', Bool.not_eq_false', beq_eq_false_iff_ne, ne_eq, beq_iff_eq, bne_iff_ne, bne_eq_false_iff_eq, Classical.not_not] at g16
      exfalso
      omega
    try simp only [decide_eq_false_iff_not, decide_eq_true_eq, Int.not_lt, Int.not_le, Bool.not_eq_false, Bool.not_eq_true, Bool.not_true, Bool.not_false, Bool.not_eq_true', Bool.not_eq_false', beq_eq_false_iff_ne, ne_eq, beq_iff_eq, bne_iff_ne, bne_eq_false_iff_eq, Classical.not_not] at g16
    refine Cd.over rfl hK18 ?_
    refine Cd.plain [(0, false), (1, false)] rfl rfl ?_
    refine Jp.y 17 rfl (want_all rfl) rfl rfl Kp.true (Y.add_ rfl rfl rfl (by first | exact wrap_i64 (by omega) (by omega) | rfl)) ?_
    refine Jp.y 7 rfl (want_all rfl) rfl rfl Kp.true (Y.move rfl rfl) ?_
    rw [show (g : Int) + 1 = ((g + 1 : Nat) : Int) by omega]
    refine Jp.again hLa (g + 1) hi (by omega) rfl ⟨rfl, rfl, rfl, trivial⟩ trivial
  · skip
    refine Cd.exit rfl hK14 ?_
    refine Cd.seq fun K21 hK21 => ?_
    refine Cd.plain [(0, false)] rfl rfl ?_
    refine Jp.y 2 rfl (want_all rfl) rfl rfl Kp.true (Y.assign rfl rfl) ?_
    refine Jp.done hK21 ?_
    refine Cd.ret [] rfl (res1 rfl rfl) trivial ⟨rfl, rfl, rfl⟩
def encW (i : InsP) : Nat := if 46 ≤ i.op then wholeP i.op else
  placeP ((codeP i.op).1 : Int) 0 ||| placeP (i.rd : Int) 7 ||| placeP ((codeP i.op).2.1 : Int) 12 ||| placeP (i.r1 : Int) 15 ||| placeP (i.r2 : Int) 20 ||| placeP ((codeP i.op).2.2 : Int) 25 ||| bitsP i.op i.imm
theorem bitsP_lt (op : Nat) (v : Int) : bitsP op v < 4294967296 := by
  have h1 := placeP_lt
  unfold bitsP
  repeat' split
  all_goals first | exact or_lt (or_lt (or_lt (h1 _ _) (h1 _ _)) (h1 _ _)) (h1 _ _) | exact or_lt (h1 _ _) (h1 _ _) | exact h1 _ _ | exact Nat.lt_of_le_of_lt (Nat.sub_le ..) (u32_lt _) | exact Nat.zero_lt_succ _
theorem encW_lt (i : InsP) : encW i < 4294967296 := by
  have h1 := placeP_lt
  unfold encW
  split
  · unfold wholeP
    repeat' split
    all_goals exact of_decide_eq_true rfl
  · exact or_lt (or_lt (or_lt (or_lt (or_lt (or_lt (h1 _ _) (h1 _ _)) (h1 _ _)) (h1 _ _)) (h1 _ _)) (h1 _ _)) (bitsP_lt _ _)
def encP (i : InsP) : Nat × Int := if insEq (decP (encW i)) i = true then (encW i, 0) else (0, 1)
theorem or7_u {a b c d e f g : Nat} (ha : a < 4294967296) (hb : b < 4294967296) (hc : c < 4294967296) (hd : d < 4294967296) (he : e < 4294967296) (hf : f < 4294967296) (hg : g < 4294967296) :
    bitsB .or .u32 (bitsB .or .u32 (bitsB .or .u32 (bitsB .or .u32 (bitsB .or .u32 (bitsB .or .u32 (a : Int) b) c) d) e) f) g = ((a ||| b ||| c ||| d ||| e ||| f ||| g : Nat) : Int) := by
  have h2 := or_lt ha hb
  have h3 := or_lt h2 hc
  have h4 := or_lt h3 hd
  have h5 := or_lt h4 he
  rw [bits_or32 ha hb, bits_or32 h2 hc, bits_or32 h3 hd, bits_or32 h4 he, bits_or32 h5 hf, bits_or32 (or_lt h5 hf) hg]
section
attribute [local irreducible] bitsB IntKind.wrap u32
theorem encode_spec (i : InsP) (hi : InsOk i) (hop : 1 ≤ i.op) : Spec Try.prog 32 #[.agg i.cells.toArray] (fun _ => True) [] (fun ρ ρ' v L => ρ' = ρ ∧ v = .tuple #[.int .u32 ((encP i).1 : Int), .int .i64 (encP i).2] ∧ L = []) := by
  obtain ⟨D, hD⟩ : ∃ D, encP i = D := ⟨_, rfl⟩
  rw [hD]
  unfold encP at hD
  have hW : encW i = if 46 ≤ i.op then wholeP i.op else
    placeP ((codeP i.op).1 : Int) 0 ||| placeP (i.rd : Int) 7 ||| placeP ((codeP i.op).2.1 : Int) 12 ||| placeP (i.r1 : Int) 15 ||| placeP (i.r2 : Int) 20 ||| placeP ((codeP i.op).2.2 : Int) 25 ||| bitsP i.op i.imm := rfl
  have hWl := encW_lt i
  obtain ⟨W, hWe⟩ : ∃ W, encW i = W := ⟨_, rfl⟩
  rw [hWe] at hD hW hWl
  have hDec := decode_spec W hWl
  have hCmp := fun w => ins_eq (decP W) i w
  obtain ⟨j, hj⟩ : ∃ j, decP W = j := ⟨_, rfl⟩
  rw [hj] at hD hDec hCmp
  obtain ⟨op, rd, r1, r2, imm⟩ := i
  have hop50 : op < 50 := hi.op
  have himm := hi.imm
  dsimp only at hW hop himm
  have hcode := code_spec op
  have hrd := hi.rd
  have hr1 := hi.r1
  have hr2 := hi.r2
  dsimp only at hrd hr1 hr2
  refine Spec.of 74 Try.func32 rfl Try.ntmps32 [(0, _)] rfl rfl ?_
  intro cx ρ hr h0
  refine Cd.seq fun K22 hK22 => ?_
  refine Cd.plain [(0, false), (1, false), (2, false)] rfl rfl ?_
  refine Jp.box 1 1 rfl (want_all rfl) rfl rfl rfl rfl fun b1 => ⟨Kp.true, ?_⟩
  refine Jp.y 2 rfl (want_all rfl) rfl rfl Kp.true (Y.assign rfl rfl) ?_
  refine Jp.y 3 rfl (want_all rfl) rfl rfl Kp.true (Y.assign rfl rfl) ?_
  refine Jp.done hK22 ?_
  refine Cd.seq fun K23 hK23 => ?_
  refine Cd.plain [(0, false), (1, false), (2, false), (3, false), (4, false), (5, false), (6, false), (7, false)] rfl rfl ?_
  refine Jp.y 10 rfl (want_all rfl) rfl rfl Kp.true (by first | exact Y.fieldAddrP rfl rfl Try.underlying28 rfl Try.sizeOf3 (by decide) (show _ + 0 = _ from rfl) | exact Y.fieldAddr rfl rfl Try.underlying28 rfl Try.sizeOf3 (by decide)) ?_
  refine Jp.y 11 rfl (want_all rfl) rfl rfl Kp.true (by first | exact Y.loadO 1 rfl Try.isAgg3 rfl rfl rfl | exact Y.loadO 1 rfl Try.isAgg3 rfl rfl rfl) ?_
  refine Jp.call [] [] (whole_spec op hop50) 12 rfl (want_all rfl) rfl rfl (Runs.fn rfl Try.call55 rfl) (by decide) (by decide) rfl trivial ?_
  rintro v1 ρ1 L1 ⟨rfl, rfl, rfl⟩
  refine ⟨rfl, fun hle1 => ⟨Kp.true, ?_⟩⟩
  refine Jp.y 9 rfl (want_all rfl) rfl rfl Kp.true (Y.move rfl rfl) ?_
  refine Jp.y 13 rfl (want_all rfl) rfl rfl Kp.true (Y.extract rfl rfl rfl) ?_
  refine Jp.y 14 rfl (want_all rfl) rfl rfl Kp.true (Y.extract rfl rfl rfl) ?_
  refine Jp.y 4 rfl (want_all rfl) rfl rfl Kp.true (Y.assign rfl rfl) ?_
  refine Jp.y 5 rfl (want_all rfl) rfl rfl Kp.true (Y.assign rfl rfl) ?_
  refine Jp.done hK23 ?_
  refine Cd.seq fun K24 hK24 => ?_
  refine Cd.seq fun K25 hK25 => ?_
  refine Cd.plain [(0, false), (1, false)] rfl rfl ?_
  refine Jp.y 15 rfl (want_all rfl) rfl rfl Kp.true (Y.move rfl rfl) ?_
  refine Jp.y 16 rfl (want_all rfl) rfl rfl Kp.true (Y.not rfl rfl) ?_
  refine Jp.done hK25 ?_
  refine Cd.joinG (G := Unit) (fun _ => True) (fun _ => [(4, .int .u32 (W : Int))]) [(1, _)] ⟨rfl, trivial⟩ (fun _ => []) [(1, _)] ⟨rfl, trivial⟩ hK24 (fun g hφ => ?_) (fun hj1 => ?_)
  · clear hφ
    refine Cd.seq fun K26 hK26 => ?_
    refine Cd.seq fun K27 hK27 => ?_
    refine Cd.drawn [(1, _)] ⟨rfl, trivial⟩ [(0, true), (2, true), (1, false), (3, true)] follows (by kernel_rfl) (fun hrl => ?_)
    refine Jp.q 69 rfl (want_all rfl) rfl rfl (Y.move rfl rfl) ?_
    refine Jp.q 71 rfl (want_all rfl) rfl rfl (by first | exact Y.loadAggO 1 rfl Try.isAgg28 Try.sizeOf28 rfl rfl rfl | exact Y.loadAggO 1 rfl Try.isAgg28 Try.sizeOf28 rfl rfl rfl) ?_
    refine Jp.call [] [] hDec 70 rfl (want_all rfl) rfl rfl (Runs.fn rfl Try.call60 rfl) (by decide) (by decide) rfl trivial ?_
    rintro v20 ρ20 L20 ⟨rfl, rfl, rfl⟩
    refine ⟨rfl, fun hle20 => ⟨(Kp.st ⟨rfl, trivial⟩), ?_⟩⟩
    refine Jp.q 72 rfl (want_all rfl) rfl rfl (Y.neqS (xs := j.cells.toArray) (ys := (InsP.mk op rd r1 r2 imm).cells.toArray) (r := insEq j ⟨op, rd, r1, r2, imm⟩) rfl rfl rfl ins_guard ins_fields ins_stood hCmp) ?_
    refine Jp.done hK27 ?_
    refine Cd.cond rfl (fun gz => ?_) (fun gz => ?_)
    · rw [if_neg (by simpa using gz)] at hD
      refine Cd.seq fun K29 hK29 => ?_
      refine Cd.plain [(0, false), (1, false)] rfl rfl ?_
      refine Jp.y 2 rfl (want_all rfl) rfl rfl Kp.true (Y.assign rfl rfl) ?_
      refine Jp.y 3 rfl (want_all rfl) rfl rfl Kp.true (Y.assign rfl rfl) ?_
      refine Jp.done hK29 ?_
      refine Cd.ret [] rfl (res2 rfl rfl rfl) trivial ⟨rfl, by rw [← hD] <;> rfl, rfl⟩
    · rw [if_pos (by simpa using gz)] at hD
      refine Cd.skip hK26 ?_
      refine Cd.seq fun K30 hK30 => ?_
      refine Cd.plain [(0, false), (1, false), (2, false)] rfl rfl ?_
      refine Jp.y 73 rfl (want_all rfl) rfl rfl Kp.true (Y.move rfl rfl) ?_
      refine Jp.y 2 rfl (want_all rfl) rfl rfl Kp.true (Y.assign rfl rfl) ?_
      refine Jp.y 3 rfl (want_all rfl) rfl rfl Kp.true (Y.assign rfl rfl) ?_
      refine Jp.done hK30 ?_
      refine Cd.ret [] rfl (res2 rfl rfl rfl) trivial ⟨rfl, by rw [← hD] <;> rfl, rfl⟩
  · skip
    refine Cd.cond rfl (fun ga => ?_) (fun ga => ?_)
    · have h46 : ¬ 46 ≤ op := by simp at ga; omega
      rw [if_neg h46] at hW
      have hcode := hcode ⟨hop, by omega⟩
      unfold codeV at hcode
      refine Cd.seq fun K31 hK31 => ?_
      refine Cd.seq fun K32 hK32 => ?_
      refine Cd.plain [(0, false), (1, false), (2, false), (3, false), (4, false), (5, false), (6, false), (7, false), (8, false), (9, false), (10, false), (11, false), (12, false), (13, false), (14, false), (15, false), (16, false), (17, false), (18, false)] rfl rfl ?_
      refine Jp.y 17 rfl (want_all rfl) rfl rfl Kp.true (by first | exact Y.fieldAddrP rfl rfl Try.underlying28 rfl Try.sizeOf3 (by decide) (show _ + 0 = _ from rfl) | exact Y.fieldAddr rfl rfl Try.underlying28 rfl Try.sizeOf3 (by decide)) ?_
      refine Jp.y 18 rfl (want_all rfl) rfl rfl Kp.true (by first | exact Y.loadO 1 rfl Try.isAgg3 rfl rfl rfl | exact Y.loadO 1 rfl Try.isAgg3 rfl rfl rfl) ?_
      refine Jp.y 19 rfl (want_all rfl) rfl rfl Kp.true (Y.lss rfl rfl rfl) ?_
      refine Jp.slot 19 rfl (show _ = Value.bool false from congrArg Value.bool (decide_eq_false (by dsimp only; omega))) ?_
      refine Jp.y 20 rfl (want_all rfl) rfl rfl Kp.true (Y.move rfl rfl) ?_
      refine Jp.y 21 rfl (want_as rfl rfl rfl rfl) rfl rfl Kp.true (by first | exact Y.fieldAddrP rfl rfl Try.underlying28 rfl Try.sizeOf3 (by decide) (show _ + 0 = _ from rfl) | exact Y.fieldAddr rfl rfl Try.underlying28 rfl Try.sizeOf3 (by decide)) ?_
      refine Jp.y 22 rfl (want_as rfl rfl rfl rfl) rfl rfl Kp.true (by first | exact Y.loadO 1 rfl Try.isAgg3 rfl rfl rfl | exact Y.loadO 1 rfl Try.isAgg3 rfl rfl rfl) ?_
      refine Jp.y 23 rfl (want_as rfl rfl rfl rfl) rfl rfl Kp.true (Y.gtr rfl rfl rfl) ?_
      refine Jp.slot 23 rfl (show _ = Value.bool false from congrArg Value.bool (decide_eq_false (by dsimp only; omega))) ?_
      refine Jp.y 24 rfl (want_all rfl) rfl rfl Kp.true (Y.pickF rfl rfl rfl) ?_
      refine Jp.y 25 rfl (want_all rfl) rfl rfl Kp.true (Y.move rfl rfl) ?_
      refine Jp.y 26 rfl (want_as rfl rfl rfl rfl) rfl rfl Kp.true (by first | exact Y.fieldAddrP rfl rfl Try.underlying28 rfl Try.sizeOf3 (by decide) (show _ + 1 = _ from rfl) | exact Y.fieldAddr rfl rfl Try.underlying28 rfl Try.sizeOf3 (by decide)) ?_
      refine Jp.y 27 rfl (want_as rfl rfl rfl rfl) rfl rfl Kp.true (by first | exact Y.loadO 1 rfl Try.isAgg3 rfl rfl rfl | exact Y.loadO 1 rfl Try.isAgg3 rfl rfl rfl) ?_
      refine Jp.y 28 rfl (want_as rfl rfl rfl rfl) rfl rfl Kp.true (by first | exact Y.fieldAddrP rfl rfl Try.underlying28 rfl Try.sizeOf3 (by decide) (show _ + 2 = _ from rfl) | exact Y.fieldAddr rfl rfl Try.underlying28 rfl Try.sizeOf3 (by decide)) ?_
      refine Jp.y 29 rfl (want_as rfl rfl rfl rfl) rfl rfl Kp.true (by first | exact Y.loadO 1 rfl Try.isAgg3 rfl rfl rfl | exact Y.loadO 1 rfl Try.isAgg3 rfl rfl rfl) ?_
      refine Jp.y 30 rfl (want_as rfl rfl rfl rfl) rfl rfl Kp.true (by first | exact Y.fieldAddrP rfl rfl Try.underlying28 rfl Try.sizeOf3 (by decide) (show _ + 3 = _ from rfl) | exact Y.fieldAddr rfl rfl Try.underlying28 rfl Try.sizeOf3 (by decide)) ?_
      refine Jp.y 31 rfl (want_as rfl rfl rfl rfl) rfl rfl Kp.true (by first | exact Y.loadO 1 rfl Try.isAgg3 rfl rfl rfl | exact Y.loadO 1 rfl Try.isAgg3 rfl rfl rfl) ?_
      refine Jp.lit 32 9 [(0, _), (1, _), (2, _)] [_, _, _] rfl (want_as rfl rfl rfl rfl) rfl rfl rfl rfl Try.underlying67 Try.sizeOf3 Try.zeroValue3 rfl rfl rfl rfl rfl fun b9 => ⟨Kp.true, ?_⟩
      refine Jp.freeze (i := 9) rfl (OwnS.up _ _ _ _ _ _) fun ρ9 hle9 hA9 => ?_
      refine Jp.call [] [] (regs_spec (some ⟨b9, 0, none⟩) 3 [(rd : Int), (r1 : Int), (r2 : Int)] (by intro x hx; simp at hx; omega) (Nat.le_of_ble_eq_true rfl)) 33 rfl (want_as rfl rfl rfl rfl) rfl rfl (Runs.fn rfl Try.call56 rfl) (by decide) (by decide) rfl hA9.rd ?_
      rintro v2 ρ2 L2 ⟨rfl, rfl, rfl⟩
      refine ⟨rfl, fun hle2 => ⟨Kp.true, ?_⟩⟩
      refine Jp.y 34 rfl (want_as rfl rfl rfl rfl) rfl rfl Kp.true (Y.not rfl rfl) ?_
      refine Jp.y 35 rfl (want_all rfl) rfl rfl Kp.true (Y.pickF rfl rfl rfl) ?_
      refine Jp.done hK32 ?_
      refine Cd.cond rfl (fun gb => ?_) (fun gb => ?_)
      · exact absurd gb (by simp)
      · skip
        refine Cd.skip hK31 ?_
        refine Cd.seq fun K33 hK33 => ?_
        refine Cd.plain [(0, false), (1, false), (2, false), (3, false), (4, false), (5, false), (6, false), (7, false), (8, false), (9, false)] rfl rfl ?_
        refine Jp.y 37 rfl (want_all rfl) rfl rfl Kp.true (by first | exact Y.fieldAddrP rfl rfl Try.underlying28 rfl Try.sizeOf3 (by decide) (show _ + 0 = _ from rfl) | exact Y.fieldAddr rfl rfl Try.underlying28 rfl Try.sizeOf3 (by decide)) ?_
        refine Jp.y 38 rfl (want_all rfl) rfl rfl Kp.true (by first | exact Y.loadO 1 rfl Try.isAgg3 rfl rfl rfl | exact Y.loadO 1 rfl Try.isAgg3 rfl rfl rfl | exact Y.loadO 9 rfl Try.isAgg3 rfl rfl rfl) ?_
        refine Jp.call [] [] hcode 39 rfl (want_all rfl) rfl rfl (Runs.fn rfl Try.call57 rfl) (by decide) (by decide) rfl trivial ?_
        rintro v3 ρ3 L3 ⟨rfl, rfl, rfl⟩
        refine ⟨rfl, fun hle3 => ⟨Kp.true, ?_⟩⟩
        refine Jp.y 36 rfl (want_all rfl) rfl rfl Kp.true (Y.move rfl rfl) ?_
        refine Jp.y 40 rfl (want_all rfl) rfl rfl Kp.true (Y.extract rfl rfl rfl) ?_
        refine Jp.y 41 rfl (want_all rfl) rfl rfl Kp.true (Y.extract rfl rfl rfl) ?_
        refine Jp.y 42 rfl (want_all rfl) rfl rfl Kp.true (Y.extract rfl rfl rfl) ?_
        refine Jp.y 6 rfl (want_all rfl) rfl rfl Kp.true (Y.assign rfl rfl) ?_
        refine Jp.y 7 rfl (want_all rfl) rfl rfl Kp.true (Y.assign rfl rfl) ?_
        refine Jp.y 8 rfl (want_all rfl) rfl rfl Kp.true (Y.assign rfl rfl) ?_
        refine Jp.done hK33 ?_
        refine Cd.drawn [(1, _)] ⟨rfl, trivial⟩ [(0, true), (2, true), (3, true), (6, true), (9, true), (10, true), (13, true), (14, true), (17, true), (20, true), (21, true), (22, true), (23, true), (1, false), (4, false), (5, true), (7, false), (8, true), (11, false), (12, true), (15, false), (16, true), (18, false), (19, true), (24, false), (25, true), (26, true)] follows (by kernel_rfl) (fun hrl => ?_)
        refine Jp.q 43 rfl (want_all rfl) rfl rfl (Y.move rfl rfl) ?_
        refine Jp.q 45 rfl (want_all rfl) rfl rfl (by first | exact Y.fieldAddrP rfl rfl Try.underlying28 rfl Try.sizeOf3 (by decide) (show _ + 1 = _ from rfl) | exact Y.fieldAddr rfl rfl Try.underlying28 rfl Try.sizeOf3 (by decide)) ?_
        refine Jp.q 46 rfl (want_all rfl) rfl rfl (by first | exact Y.loadO 1 rfl Try.isAgg3 rfl rfl rfl | exact Y.loadO 1 rfl Try.isAgg3 rfl rfl rfl | exact Y.loadO 9 rfl Try.isAgg3 rfl rfl rfl) ?_
        refine Jp.q 49 rfl (want_all rfl) rfl rfl (Y.move rfl rfl) ?_
        refine Jp.q 52 rfl (want_all rfl) rfl rfl (by first | exact Y.fieldAddrP rfl rfl Try.underlying28 rfl Try.sizeOf3 (by decide) (show _ + 2 = _ from rfl) | exact Y.fieldAddr rfl rfl Try.underlying28 rfl Try.sizeOf3 (by decide)) ?_
        refine Jp.q 53 rfl (want_all rfl) rfl rfl (by first | exact Y.loadO 1 rfl Try.isAgg3 rfl rfl rfl | exact Y.loadO 1 rfl Try.isAgg3 rfl rfl rfl | exact Y.loadO 9 rfl Try.isAgg3 rfl rfl rfl) ?_
        refine Jp.q 56 rfl (want_all rfl) rfl rfl (by first | exact Y.fieldAddrP rfl rfl Try.underlying28 rfl Try.sizeOf3 (by decide) (show _ + 3 = _ from rfl) | exact Y.fieldAddr rfl rfl Try.underlying28 rfl Try.sizeOf3 (by decide)) ?_
        refine Jp.q 57 rfl (want_all rfl) rfl rfl (by first | exact Y.loadO 1 rfl Try.isAgg3 rfl rfl rfl | exact Y.loadO 1 rfl Try.isAgg3 rfl rfl rfl | exact Y.loadO 9 rfl Try.isAgg3 rfl rfl rfl) ?_
        refine Jp.q 60 rfl (want_all rfl) rfl rfl (Y.move rfl rfl) ?_
        refine Jp.q 63 rfl (want_all rfl) rfl rfl (by first | exact Y.fieldAddrP rfl rfl Try.underlying28 rfl Try.sizeOf3 (by decide) (show _ + 0 = _ from rfl) | exact Y.fieldAddr rfl rfl Try.underlying28 rfl Try.sizeOf3 (by decide)) ?_
        refine Jp.q 64 rfl (want_all rfl) rfl rfl (by first | exact Y.loadO 1 rfl Try.isAgg3 rfl rfl rfl | exact Y.loadO 1 rfl Try.isAgg3 rfl rfl rfl | exact Y.loadO 9 rfl Try.isAgg3 rfl rfl rfl) ?_
        refine Jp.q 65 rfl (want_all rfl) rfl rfl (by first | exact Y.fieldAddrP rfl rfl Try.underlying28 rfl Try.sizeOf21 (by decide) (show _ + 4 = _ from rfl) | exact Y.fieldAddr rfl rfl Try.underlying28 rfl Try.sizeOf21 (by decide)) ?_
        refine Jp.q 66 rfl (want_all rfl) rfl rfl (by first | exact Y.loadO 1 rfl Try.isAgg21 rfl rfl rfl | exact Y.loadO 1 rfl Try.isAgg21 rfl rfl rfl | exact Y.loadO 9 rfl Try.isAgg21 rfl rfl rfl) ?_
        refine Jp.call [] [] (place_spec _ _ (by decide)) 44 rfl (want_all rfl) rfl rfl (Runs.fn rfl Try.call58 rfl) (by decide) (by decide) rfl trivial ?_
        rintro v101 ρ101 L101 ⟨rfl, rfl, rfl⟩
        refine ⟨rfl, fun hle101 => ⟨(Kp.st ⟨rfl, trivial⟩), ?_⟩⟩
        refine Jp.call [] [] (place_spec _ _ (by decide)) 47 rfl (want_all rfl) rfl rfl (Runs.fn rfl Try.call58 rfl) (by decide) (by decide) rfl trivial ?_
        rintro v102 ρ102 L102 ⟨rfl, rfl, rfl⟩
        refine ⟨rfl, fun hle102 => ⟨(Kp.st ⟨rfl, trivial⟩), ?_⟩⟩
        refine Jp.q 48 rfl (want_all rfl) rfl rfl (Y.bits rfl rfl rfl rfl) ?_
        refine Jp.call [] [] (place_spec _ _ (by decide)) 50 rfl (want_all rfl) rfl rfl (Runs.fn rfl Try.call58 rfl) (by decide) (by decide) rfl trivial ?_
        rintro v103 ρ103 L103 ⟨rfl, rfl, rfl⟩
        refine ⟨rfl, fun hle103 => ⟨(Kp.st ⟨rfl, trivial⟩), ?_⟩⟩
        refine Jp.q 51 rfl (want_all rfl) rfl rfl (Y.bits rfl rfl rfl rfl) ?_
        refine Jp.call [] [] (place_spec _ _ (by decide)) 54 rfl (want_all rfl) rfl rfl (Runs.fn rfl Try.call58 rfl) (by decide) (by decide) rfl trivial ?_
        rintro v104 ρ104 L104 ⟨rfl, rfl, rfl⟩
        refine ⟨rfl, fun hle104 => ⟨(Kp.st ⟨rfl, trivial⟩), ?_⟩⟩
        refine Jp.q 55 rfl (want_all rfl) rfl rfl (Y.bits rfl rfl rfl rfl) ?_
        refine Jp.call [] [] (place_spec _ _ (by decide)) 58 rfl (want_all rfl) rfl rfl (Runs.fn rfl Try.call58 rfl) (by decide) (by decide) rfl trivial ?_
        rintro v105 ρ105 L105 ⟨rfl, rfl, rfl⟩
        refine ⟨rfl, fun hle105 => ⟨(Kp.st ⟨rfl, trivial⟩), ?_⟩⟩
        refine Jp.q 59 rfl (want_all rfl) rfl rfl (Y.bits rfl rfl rfl rfl) ?_
        refine Jp.call [] [] (place_spec _ _ (by decide)) 61 rfl (want_all rfl) rfl rfl (Runs.fn rfl Try.call58 rfl) (by decide) (by decide) rfl trivial ?_
        rintro v106 ρ106 L106 ⟨rfl, rfl, rfl⟩
        refine ⟨rfl, fun hle106 => ⟨(Kp.st ⟨rfl, trivial⟩), ?_⟩⟩
        refine Jp.q 62 rfl (want_all rfl) rfl rfl (Y.bits rfl rfl rfl rfl) ?_
        refine Jp.call [] [] (bits_spec op imm himm) 67 rfl (want_all rfl) rfl rfl (Runs.fn rfl Try.call59 rfl) (by decide) (by decide) rfl trivial ?_
        rintro v107 ρ107 L107 ⟨rfl, rfl, rfl⟩
        refine ⟨rfl, fun hle107 => ⟨(Kp.st ⟨rfl, trivial⟩), ?_⟩⟩
        refine Jp.q 68 rfl (want_all rfl) rfl rfl (Y.bits rfl rfl rfl rfl) ?_
        refine Jp.q 4 rfl (want_all rfl) rfl rfl (Y.assign rfl rfl) ?_
        refine Jp.done hK24 ?_
        refine Cd.slot 4 rfl (show _ = Value.int .u32 (W : Int) from congrArg (Value.int .u32) ((or7_u (placeP_lt _ _) (placeP_lt _ _) (placeP_lt _ _) (placeP_lt _ _) (placeP_lt _ _) (placeP_lt _ _) (bitsP_lt _ _)).trans (congrArg Int.ofNat hW.symm))) ?_
        exact Cd.meet' (hj1 () trivial) hle9 (by rw [h0]; exact Hp.le_refl _) ⟨rfl, rfl, trivial⟩ ⟨rfl, trivial⟩
    · have h46 : 46 ≤ op := by simp at ga; omega
      rw [if_pos h46] at hW
      refine Cd.skip hK24 ?_
      rw [← hW]
      exact Cd.meet (hj1 () trivial) ⟨rfl, rfl, trivial⟩ ⟨rfl, trivial⟩
end
end Go.Proofs.Ytkjeidoplonkjaa
