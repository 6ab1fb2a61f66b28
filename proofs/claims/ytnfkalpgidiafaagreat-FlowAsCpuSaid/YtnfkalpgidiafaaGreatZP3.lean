import Derived.Test.YtnfkalpgidiafaaGreatZP2
import Derived.Test.YtnfkalpgidiafaaGreatZP1
import Derived.Test.YtnfkalpgidiafaaGreatZP0
import Derived.Laws.StructEq
import Derived.ChangeKeysEq
set_option linter.unusedVariables false
set_option linter.unusedSimpArgs false
set_option maxRecDepth 100000
namespace Go.Proofs.YtnfkalpgidiafaaGreat
open _root_.Go.Proofs.Tryz
open Go
def u32 (x : Int) : Nat:=(x % 4294967296).toNat
theorem u32_lt (x : Int) : u32 x < 4294967296:=by unfold u32; omega
theorem u32_id {n : Nat} (h : n < 4294967296) : u32 (n : Int) = n:=by unfold u32; omega
theorem u32_cast (x : Int) : (u32 x : Int) = x % 4294967296:=by unfold u32; omega
theorem qce (x : Int) : IntKind.u32.wrap x = (u32 x : Int):=by
 rw [u32_cast]
 simp only [IntKind.wrap,IntKind.bits,IntKind.signed]
 simp
theorem s32_eq {a : Nat} (h : a < 4294967296) : s32 a = if a < 2147483648 then (a : Int) else (a : Int) - 4294967296:=by
 simp only [s32,IntKind.wrap,IntKind.bits,IntKind.signed]
 simp
 split <;> split <;> omega
theorem s32_mod (x : Int) : IntKind.i32.wrap x % 4294967296 = x % 4294967296:=by
 simp only [IntKind.wrap,IntKind.bits,IntKind.signed]
 simp
 split <;> omega
theorem u32_wrap (x : Int) : u32 (IntKind.i32.wrap x) = u32 x:=by unfold u32; rw [s32_mod]
theorem s32_lo {a : Nat} (h : a < 4294967296) : -2147483648 ≤ s32 a:=by rw [s32_eq h]; split <;> omega
theorem s32_hi {a : Nat} (h : a < 4294967296) : s32 a ≤ 2147483647:=by rw [s32_eq h]; split <;> omega
def doP : Nat → Nat → Nat → Nat
 | 0,a,b=>u32 ((a : Int) + b)
 | 1,a,b=>u32 ((a : Int) - b)
 | 2,a,b=>u32 ((a * 2 ^ (b % 32) : Nat) : Int)
 | 3,a,b=>if s32 a < s32 b then 1 else 0
 | 4,a,b=>if a < b then 1 else 0
 | 5,a,b=>a ^^^ b
 | 6,a,b=>a / 2 ^ (b % 32)
 | 7,a,b=>u32 ((s32 a).fdiv (2 ^ (b % 32)))
 | 8,a,b=>a ||| b
 | 9,a,b=>a &&& b
 | 10,a,b=>u32 ((a : Int) * b)
 | 11,a,b=>u32 ((s32 a * s32 b) / 4294967296)
 | 12,a,b=>u32 ((s32 a * (b : Int)) / 4294967296)
 | 13,a,b=>a * b / 4294967296
 | 14,a,b=>if b = 0 then 4294967295 else u32 ((s32 a).tdiv (s32 b))
 | 15,a,b=>if b = 0 then 4294967295 else a / b
 | 16,a,b=>if b = 0 then a else u32 ((s32 a).tmod (s32 b))
 | 17,a,b=>if b = 0 then a else a % b
 | _,_,_=>0
def testP (k a b : Nat) : Bool:=if k = 0 then decide (a = b) else if k = 1 then decide (a ≠ b) else if k = 4 then decide (s32 a < s32 b) else
 if k = 5 then decide (s32 b ≤ s32 a) else if k = 6 then decide (a < b) else if k = 7 then decide (b ≤ a) else false
def extP (v n : Nat) : Nat:=if n = 8 then (if v % 256 < 128 then v % 256 else v % 256 + 4294967040) else if n = 16 then (if v % 65536 < 32768 then v % 65536 else v % 65536 + 4294901760) else v
theorem and31 {b : Nat} : b &&& 31 = b % 32:=by rw [show (31 : Nat) = 2 ^ 5 - 1 from rfl,Nat.and_two_pow_sub_one_eq_mod]
theorem bits31 {b : Nat} (hb : b < 4294967296) : qci .and .u32 (b : Int) 31 = ((b % 32 : Nat) : Int):=by
 have:=qdx (b:=31) hb (by omega)
 rw [and31] at this
 exact this
theorem shl_u (a n : Nat) (h : n < 32) : IntKind.u32.wrap ((a : Int) * 2 ^ (min (n : Int).toNat IntKind.u32.bits)) = (u32 ((a * 2 ^ n : Nat) : Int) : Int):=by
 rw [qce,show IntKind.u32.bits = 32 from rfl,min_lit 32 (by omega)]
 simp
theorem w64_s32 {a : Nat} (h : a < 4294967296) : IntKind.i64.wrap (IntKind.i32.wrap (a : Int)) = s32 a:=qaj (by have:=s32_lo h; unfold s32 at this; omega) (by have:=s32_hi h; unfold s32 at this; omega)
theorem mul_rng {x y : Int} (h1 : -2147483648 ≤ x) (h2 : x ≤ 2147483647) (h3 : -2147483648 ≤ y) (h4 : y ≤ 2147483647) : -4611686018427387904 ≤ x * y ∧ x * y ≤ 4611686018427387904:=by
 have e : (x * y).natAbs ≤ 2147483648 * 2147483648:=by rw [Int.natAbs_mul]; exact Nat.mul_le_mul (by omega) (by omega)
 omega
theorem mul_rng2 {x : Int} {b : Nat} (h1 : -2147483648 ≤ x) (h2 : x ≤ 2147483647) (hb : b < 4294967296) : -9223372036854775808 ≤ x * (b : Int) ∧ x * (b : Int) ≤ 9223372036854775807:=by
 have e : (x * (b : Int)).natAbs ≤ 2147483648 * 4294967295:=by rw [Int.natAbs_mul]; exact Nat.mul_le_mul (by omega) (by omega)
 omega
theorem hi_u64 {a b : Nat} (h : a * b ≤ 18446744065119617025) : IntKind.u32.wrap (((a : Int) * b).fdiv (2 ^ (min (32 : Int).toNat IntKind.u64.bits))) = ((a * b / 4294967296 : Nat) : Int):=by
 rw [← Int.natCast_mul,qce,show min (32 : Int).toNat IntKind.u64.bits = 32 from rfl,Int.fdiv_eq_ediv_of_nonneg _ (by decide)]
 rw [show ((a * b : Nat) : Int) / 2 ^ 32 = ((a * b / 4294967296 : Nat) : Int) by simp,u32_id (by omega)]
theorem tup2 {x y : Int} {w : Value} (h : x = y) : Value.tuple #[.int .u32 x,w] = .tuple #[.int .u32 y,w]:=by rw [h]
theorem shr_s32 {a n : Nat} (h : n < 32) : IntKind.u32.wrap ((IntKind.i32.wrap (a : Int)).fdiv (2 ^ (min (n : Int).toNat IntKind.i32.bits))) = (u32 ((s32 a).fdiv (2 ^ n)) : Int):=by
 rw [qce,show IntKind.i32.bits = 32 from rfl,min_lit 32 (by omega)]; rfl
theorem hi_shr (x : Int) : IntKind.u32.wrap (x.fdiv (2 ^ (min (32 : Int).toNat IntKind.i64.bits))) = (u32 (x / 4294967296) : Int):=by
 rw [qce,show min (32 : Int).toNat IntKind.i64.bits = 32 from rfl,Int.fdiv_eq_ediv_of_nonneg _ (by decide)]; rfl
theorem quo_s32 (x : Int) : IntKind.u32.wrap (IntKind.i32.wrap x) = (u32 x : Int):=by rw [qce,u32_wrap]
theorem bit_spec (x : Bool) : Spec Tryz.prog 113 #[.bool x] (fun _=>True) [] (fun ρ ρ' v L=>ρ' = ρ ∧ v = .int .u32 ((if x = true then 1 else 0 : Nat) : Int) ∧ L = []):=by
 refine Spec.of 4 Tryz.func113 rfl Tryz.ntmps113 [(0,_)] rfl rfl ?_
 intro cx ρ hr h0
 refine Cd.seq fun K1 hK1=>?_
 refine Cd.qac [(0,false)] rfl rfl ?_
 refine Jp.y 2 rfl (qaa rfl) rfl rfl Kp.true (Y.assign rfl rfl) ?_
 refine Jp.qae hK1 ?_
 refine Cd.seq fun K2 hK2=>?_
 refine Cd.seq fun K3 hK3=>?_
 refine Cd.qac [(0,false)] rfl rfl ?_
 refine Jp.y 3 rfl (qaa rfl) rfl rfl Kp.true (Y.move rfl rfl) ?_
 refine Jp.qae hK3 ?_
 refine Cd.qar rfl (fun g=>?_) (fun g=>?_)
 ·skip
  refine Cd.seq fun K4 hK4=>?_
  refine Cd.qac [(0,false)] rfl rfl ?_
  refine Jp.y 2 rfl (qaa rfl) rfl rfl Kp.true (Y.assign rfl rfl) ?_
  refine Jp.qae hK4 ?_
  refine Cd.ret [] rfl (qbd rfl rfl) trivial ⟨rfl,by rw [g]; rfl,rfl⟩
 ·skip
  refine Cd.qbu hK2 ?_
  refine Cd.seq fun K5 hK5=>?_
  refine Cd.qac [(0,false)] rfl rfl ?_
  refine Jp.y 2 rfl (qaa rfl) rfl rfl Kp.true (Y.assign rfl rfl) ?_
  refine Jp.qae hK5 ?_
  refine Cd.ret [] rfl (qbd rfl rfl) trivial ⟨rfl,by rw [g]; rfl,rfl⟩
theorem simple_spec (k a b : Nat) (hk : k ≤ 17) (ha : a < 4294967296) (hb : b < 4294967296) : Spec Tryz.prog 98 #[.int .i64 k,.int .u32 a,.int .u32 b] (fun _=>True) []
    (fun ρ ρ' v L=>ρ' = ρ ∧ v = .tuple #[.int .u32 ((if k ≤ 9 then doP k a b else 0 : Nat) : Int),.bool (decide (k ≤ 9))] ∧ L = []):=by
  refine Spec.of 68 Tryz.func98 rfl Tryz.ntmps98 [(0,_),(1,_),(2,_)] rfl rfl ?_
  intro cx ρ hr h0
  have hb31:=bits31 hb
  have hm : b % 32 < 32:=Nat.mod_lt _ (by decide)
  refine Cd.seq fun K6 hK6=>?_
  refine Cd.qac [(0,false),(1,false)] rfl rfl ?_
  refine Jp.y 6 rfl (qaa rfl) rfl rfl Kp.true (Y.assign rfl rfl) ?_
  refine Jp.y 7 rfl (qaa rfl) rfl rfl Kp.true (Y.assign rfl rfl) ?_
  refine Jp.qae hK6 ?_
  refine Cd.seq fun K7 hK7=>?_
  refine Cd.seq fun K8 hK8=>?_
  refine Cd.qac [(0,false)] rfl rfl ?_
  refine Jp.y 8 rfl (qaa rfl) rfl rfl Kp.true (Y.move rfl rfl) ?_
  refine Jp.qae hK8 ?_
  refine Cd.block ?_
  refine Cd.seq fun K9 hK9=>?_
  refine Cd.qac [(0,false),(1,false)] rfl rfl ?_
  refine Jp.y 10 rfl (qaa rfl) rfl rfl Kp.true (Y.eql rfl rfl rfl) ?_
  refine Jp.y 9 rfl (qaa rfl) rfl rfl Kp.true (Y.assign rfl rfl) ?_
  refine Jp.qae hK9 ?_
  refine Cd.qar rfl (fun g9=>?_) (fun g9=>?_)
  · skip
    try simp only [sG0] at g9
    refine Cd.seq fun K10 hK10=>?_
    refine Cd.qac [(0,false),(1,false),(2,false),(3,false),(4,false)] rfl rfl ?_
    refine Jp.y 11 rfl (qaa rfl) rfl rfl Kp.true (Y.move rfl rfl) ?_
    refine Jp.y 12 rfl (qaa rfl) rfl rfl Kp.true (Y.move rfl rfl) ?_
    refine Jp.y 13 rfl (qaa rfl) rfl rfl Kp.true (Y.qcj rfl rfl rfl (by rfl)) ?_
    refine Jp.y 6 rfl (qaa rfl) rfl rfl Kp.true (Y.assign rfl rfl) ?_
    refine Jp.y 7 rfl (qaa rfl) rfl rfl Kp.true (Y.assign rfl rfl) ?_
    refine Jp.qae hK10 ?_
    refine Cd.ret [] rfl (qbx rfl rfl rfl) trivial ⟨rfl, by
      (obtain rfl : k = 0 := by omega
       exact tup2 (qce _)), rfl⟩
  · skip
    try simp only [sG0] at g9
    refine Cd.seq fun K11 hK11=>?_
    refine Cd.qac [(0,false),(1,false)] rfl rfl ?_
    refine Jp.y 15 rfl (qaa rfl) rfl rfl Kp.true (Y.eql rfl rfl rfl) ?_
    refine Jp.y 14 rfl (qaa rfl) rfl rfl Kp.true (Y.assign rfl rfl) ?_
    refine Jp.qae hK11 ?_
    refine Cd.qar rfl (fun g14=>?_) (fun g14=>?_)
    · skip
      try simp only [sG0] at g14
      refine Cd.seq fun K12 hK12=>?_
      refine Cd.qac [(0,false),(1,false),(2,false),(3,false),(4,false)] rfl rfl ?_
      refine Jp.y 16 rfl (qaa rfl) rfl rfl Kp.true (Y.move rfl rfl) ?_
      refine Jp.y 17 rfl (qaa rfl) rfl rfl Kp.true (Y.move rfl rfl) ?_
      refine Jp.y 18 rfl (qaa rfl) rfl rfl Kp.true (Y.qfm rfl rfl rfl (by rfl)) ?_
      refine Jp.y 6 rfl (qaa rfl) rfl rfl Kp.true (Y.assign rfl rfl) ?_
      refine Jp.y 7 rfl (qaa rfl) rfl rfl Kp.true (Y.assign rfl rfl) ?_
      refine Jp.qae hK12 ?_
      refine Cd.ret [] rfl (qbx rfl rfl rfl) trivial ⟨rfl, by
        (obtain rfl : k = 1 := by omega
         exact tup2 (qce _)), rfl⟩
    · skip
      try simp only [sG0] at g14
      refine Cd.seq fun K13 hK13=>?_
      refine Cd.qac [(0,false),(1,false)] rfl rfl ?_
      refine Jp.y 20 rfl (qaa rfl) rfl rfl Kp.true (Y.eql rfl rfl rfl) ?_
      refine Jp.y 19 rfl (qaa rfl) rfl rfl Kp.true (Y.assign rfl rfl) ?_
      refine Jp.qae hK13 ?_
      refine Cd.qar rfl (fun g19=>?_) (fun g19=>?_)
      · skip
        try simp only [sG0] at g19
        refine Cd.seq fun K14 hK14=>?_
        refine Cd.qac [(0,false),(1,false),(2,false),(3,false),(4,false),(5,false)] rfl rfl ?_
        refine Jp.y 21 rfl (qaa rfl) rfl rfl Kp.true (Y.move rfl rfl) ?_
        refine Jp.y 22 rfl (qaa rfl) rfl rfl Kp.true (Y.move rfl rfl) ?_
        refine Jp.y 23 rfl (qaa rfl) rfl rfl Kp.true (Y.bits rfl rfl rfl rfl) ?_
        refine Jp.y 24 rfl (qaa rfl) rfl rfl Kp.true (Y.shl rfl rfl rfl (by first | decide | omega)) ?_
        refine Jp.y 6 rfl (qaa rfl) rfl rfl Kp.true (Y.assign rfl rfl) ?_
        refine Jp.y 7 rfl (qaa rfl) rfl rfl Kp.true (Y.assign rfl rfl) ?_
        refine Jp.qae hK14 ?_
        refine Cd.ret [] rfl (qbx rfl rfl rfl) trivial ⟨rfl, by
          (obtain rfl : k = 2 := by omega
           exact tup2 (by rw [hb31]; exact shl_u a _ hm)), rfl⟩
      · skip
        try simp only [sG0] at g19
        refine Cd.seq fun K15 hK15=>?_
        refine Cd.qac [(0,false),(1,false)] rfl rfl ?_
        refine Jp.y 26 rfl (qaa rfl) rfl rfl Kp.true (Y.eql rfl rfl rfl) ?_
        refine Jp.y 25 rfl (qaa rfl) rfl rfl Kp.true (Y.assign rfl rfl) ?_
        refine Jp.qae hK15 ?_
        refine Cd.qar rfl (fun g25=>?_) (fun g25=>?_)
        · skip
          try simp only [sG0] at g25
          refine Cd.seq fun K16 hK16=>?_
          refine Cd.qac [(0,false),(1,false),(2,false),(3,false),(4,false),(5,false)] rfl rfl ?_
          refine Jp.y 27 rfl (qaa rfl) rfl rfl Kp.true (Y.move rfl rfl) ?_
          refine Jp.y 28 rfl (qaa rfl) rfl rfl Kp.true (Y.move rfl rfl) ?_
          refine Jp.y 29 rfl (qaa rfl) rfl rfl Kp.true (Y.bits rfl rfl rfl rfl) ?_
          refine Jp.y 30 rfl (qaa rfl) rfl rfl Kp.true (Y.shr rfl rfl rfl (by first | decide | omega)) ?_
          refine Jp.y 6 rfl (qaa rfl) rfl rfl Kp.true (Y.assign rfl rfl) ?_
          refine Jp.y 7 rfl (qaa rfl) rfl rfl Kp.true (Y.assign rfl rfl) ?_
          refine Jp.qae hK16 ?_
          refine Cd.ret [] rfl (qbx rfl rfl rfl) trivial ⟨rfl, by
            (obtain rfl : k = 6 := by omega
             exact tup2 (by rw [hb31]; exact shr32 a _ (by omega))), rfl⟩
        · skip
          try simp only [sG0] at g25
          refine Cd.seq fun K17 hK17=>?_
          refine Cd.qac [(0,false),(1,false)] rfl rfl ?_
          refine Jp.y 32 rfl (qaa rfl) rfl rfl Kp.true (Y.eql rfl rfl rfl) ?_
          refine Jp.y 31 rfl (qaa rfl) rfl rfl Kp.true (Y.assign rfl rfl) ?_
          refine Jp.qae hK17 ?_
          refine Cd.qar rfl (fun g31=>?_) (fun g31=>?_)
          · skip
            try simp only [sG0] at g31
            refine Cd.seq fun K18 hK18=>?_
            refine Cd.qac [(0,false),(1,false),(2,false),(3,false),(4,false),(5,false),(6,false),(7,false)] rfl rfl ?_
            refine Jp.y 33 rfl (qaa rfl) rfl rfl Kp.true (Y.move rfl rfl) ?_
            refine Jp.y 34 rfl (qaa rfl) rfl rfl Kp.true (Y.qaw rfl rfl underlying24 underlying21 (by rfl)) ?_
            refine Jp.y 35 rfl (qaa rfl) rfl rfl Kp.true (Y.move rfl rfl) ?_
            refine Jp.y 36 rfl (qaa rfl) rfl rfl Kp.true (Y.bits rfl rfl rfl rfl) ?_
            refine Jp.y 37 rfl (qaa rfl) rfl rfl Kp.true (Y.shr rfl rfl rfl (by first | decide | omega)) ?_
            refine Jp.y 38 rfl (qaa rfl) rfl rfl Kp.true (Y.qaw rfl rfl underlying21 underlying24 (by rfl)) ?_
            refine Jp.y 6 rfl (qaa rfl) rfl rfl Kp.true (Y.assign rfl rfl) ?_
            refine Jp.y 7 rfl (qaa rfl) rfl rfl Kp.true (Y.assign rfl rfl) ?_
            refine Jp.qae hK18 ?_
            refine Cd.ret [] rfl (qbx rfl rfl rfl) trivial ⟨rfl, by
              (obtain rfl : k = 7 := by omega
               exact tup2 (by rw [hb31]; exact shr_s32 hm)), rfl⟩
          · skip
            try simp only [sG0] at g31
            refine Cd.seq fun K19 hK19=>?_
            refine Cd.qac [(0,false),(1,false)] rfl rfl ?_
            refine Jp.y 40 rfl (qaa rfl) rfl rfl Kp.true (Y.eql rfl rfl rfl) ?_
            refine Jp.y 39 rfl (qaa rfl) rfl rfl Kp.true (Y.assign rfl rfl) ?_
            refine Jp.qae hK19 ?_
            refine Cd.qar rfl (fun g39=>?_) (fun g39=>?_)
            · skip
              try simp only [sG0] at g39
              refine Cd.seq fun K20 hK20=>?_
              refine Cd.qac [(0,false),(1,false),(2,false),(3,false),(4,false),(5,false),(6,false),(7,false)] rfl rfl ?_
              refine Jp.y 41 rfl (qaa rfl) rfl rfl Kp.true (Y.move rfl rfl) ?_
              refine Jp.y 42 rfl (qaa rfl) rfl rfl Kp.true (Y.qaw rfl rfl underlying24 underlying21 (by rfl)) ?_
              refine Jp.y 43 rfl (qaa rfl) rfl rfl Kp.true (Y.move rfl rfl) ?_
              refine Jp.y 44 rfl (qaa rfl) rfl rfl Kp.true (Y.qaw rfl rfl underlying24 underlying21 (by rfl)) ?_
              refine Jp.y 45 rfl (qaa rfl) rfl rfl Kp.true (Y.lss rfl rfl rfl) ?_
              refine Jp.call [] [] (bit_spec _) 46 rfl (qaa rfl) rfl rfl (Runs.fn rfl call113 rfl) (by decide) (by decide) rfl trivial ?_
              rintro v101 ρ101 L101 ⟨rfl,rfl,rfl⟩
              refine ⟨rfl,fun hle101=>⟨Kp.true,?_⟩⟩
              refine Jp.y 6 rfl (qaa rfl) rfl rfl Kp.true (Y.assign rfl rfl) ?_
              refine Jp.y 7 rfl (qaa rfl) rfl rfl Kp.true (Y.assign rfl rfl) ?_
              refine Jp.qae hK20 ?_
              refine Cd.ret [] rfl (qbx rfl rfl rfl) trivial ⟨rfl, by
                (obtain rfl : k = 3 := by omega
                 exact tup2 (congrArg Int.ofNat (by simp only [decide_eq_true_eq]; rfl))), rfl⟩
            · skip
              try simp only [sG0] at g39
              refine Cd.seq fun K21 hK21=>?_
              refine Cd.qac [(0,false),(1,false)] rfl rfl ?_
              refine Jp.y 48 rfl (qaa rfl) rfl rfl Kp.true (Y.eql rfl rfl rfl) ?_
              refine Jp.y 47 rfl (qaa rfl) rfl rfl Kp.true (Y.assign rfl rfl) ?_
              refine Jp.qae hK21 ?_
              refine Cd.qar rfl (fun g47=>?_) (fun g47=>?_)
              · skip
                try simp only [sG0] at g47
                refine Cd.seq fun K22 hK22=>?_
                refine Cd.qac [(0,false),(1,false),(2,false),(3,false),(4,false),(5,false)] rfl rfl ?_
                refine Jp.y 49 rfl (qaa rfl) rfl rfl Kp.true (Y.move rfl rfl) ?_
                refine Jp.y 50 rfl (qaa rfl) rfl rfl Kp.true (Y.move rfl rfl) ?_
                refine Jp.y 51 rfl (qaa rfl) rfl rfl Kp.true (Y.lss rfl rfl rfl) ?_
                refine Jp.call [] [] (bit_spec _) 52 rfl (qaa rfl) rfl rfl (Runs.fn rfl call113 rfl) (by decide) (by decide) rfl trivial ?_
                rintro v102 ρ102 L102 ⟨rfl,rfl,rfl⟩
                refine ⟨rfl,fun hle102=>⟨Kp.true,?_⟩⟩
                refine Jp.y 6 rfl (qaa rfl) rfl rfl Kp.true (Y.assign rfl rfl) ?_
                refine Jp.y 7 rfl (qaa rfl) rfl rfl Kp.true (Y.assign rfl rfl) ?_
                refine Jp.qae hK22 ?_
                refine Cd.ret [] rfl (qbx rfl rfl rfl) trivial ⟨rfl, by
                  (obtain rfl : k = 4 := by omega
                   exact tup2 (congrArg Int.ofNat (by simp only [decide_eq_true_eq, Int.ofNat_lt]; rfl))), rfl⟩
              · skip
                try simp only [sG0] at g47
                refine Cd.seq fun K23 hK23=>?_
                refine Cd.qac [(0,false),(1,false)] rfl rfl ?_
                refine Jp.y 54 rfl (qaa rfl) rfl rfl Kp.true (Y.eql rfl rfl rfl) ?_
                refine Jp.y 53 rfl (qaa rfl) rfl rfl Kp.true (Y.assign rfl rfl) ?_
                refine Jp.qae hK23 ?_
                refine Cd.qar rfl (fun g53=>?_) (fun g53=>?_)
                · skip
                  try simp only [sG0] at g53
                  refine Cd.seq fun K24 hK24=>?_
                  refine Cd.qac [(0,false),(1,false),(2,false),(3,false),(4,false)] rfl rfl ?_
                  refine Jp.y 55 rfl (qaa rfl) rfl rfl Kp.true (Y.move rfl rfl) ?_
                  refine Jp.y 56 rfl (qaa rfl) rfl rfl Kp.true (Y.move rfl rfl) ?_
                  refine Jp.y 57 rfl (qaa rfl) rfl rfl Kp.true (Y.bits rfl rfl rfl rfl) ?_
                  refine Jp.y 6 rfl (qaa rfl) rfl rfl Kp.true (Y.assign rfl rfl) ?_
                  refine Jp.y 7 rfl (qaa rfl) rfl rfl Kp.true (Y.assign rfl rfl) ?_
                  refine Jp.qae hK24 ?_
                  refine Cd.ret [] rfl (qbx rfl rfl rfl) trivial ⟨rfl, by
                    (obtain rfl : k = 5 := by omega
                     exact tup2 (bits_xor32 ha hb)), rfl⟩
                · skip
                  try simp only [sG0] at g53
                  refine Cd.seq fun K25 hK25=>?_
                  refine Cd.qac [(0,false),(1,false)] rfl rfl ?_
                  refine Jp.y 59 rfl (qaa rfl) rfl rfl Kp.true (Y.eql rfl rfl rfl) ?_
                  refine Jp.y 58 rfl (qaa rfl) rfl rfl Kp.true (Y.assign rfl rfl) ?_
                  refine Jp.qae hK25 ?_
                  refine Cd.qar rfl (fun g58=>?_) (fun g58=>?_)
                  · skip
                    try simp only [sG0] at g58
                    refine Cd.seq fun K26 hK26=>?_
                    refine Cd.qac [(0,false),(1,false),(2,false),(3,false),(4,false)] rfl rfl ?_
                    refine Jp.y 60 rfl (qaa rfl) rfl rfl Kp.true (Y.move rfl rfl) ?_
                    refine Jp.y 61 rfl (qaa rfl) rfl rfl Kp.true (Y.move rfl rfl) ?_
                    refine Jp.y 62 rfl (qaa rfl) rfl rfl Kp.true (Y.bits rfl rfl rfl rfl) ?_
                    refine Jp.y 6 rfl (qaa rfl) rfl rfl Kp.true (Y.assign rfl rfl) ?_
                    refine Jp.y 7 rfl (qaa rfl) rfl rfl Kp.true (Y.assign rfl rfl) ?_
                    refine Jp.qae hK26 ?_
                    refine Cd.ret [] rfl (qbx rfl rfl rfl) trivial ⟨rfl, by
                      (obtain rfl : k = 8 := by omega
                       exact tup2 (qbn ha hb)), rfl⟩
                  · skip
                    try simp only [sG0] at g58
                    refine Cd.seq fun K27 hK27=>?_
                    refine Cd.qac [(0,false),(1,false)] rfl rfl ?_
                    refine Jp.y 64 rfl (qaa rfl) rfl rfl Kp.true (Y.eql rfl rfl rfl) ?_
                    refine Jp.y 63 rfl (qaa rfl) rfl rfl Kp.true (Y.assign rfl rfl) ?_
                    refine Jp.qae hK27 ?_
                    refine Cd.qar rfl (fun g63=>?_) (fun g63=>?_)
                    · skip
                      try simp only [sG0] at g63
                      refine Cd.seq fun K28 hK28=>?_
                      refine Cd.qac [(0,false),(1,false),(2,false),(3,false),(4,false)] rfl rfl ?_
                      refine Jp.y 65 rfl (qaa rfl) rfl rfl Kp.true (Y.move rfl rfl) ?_
                      refine Jp.y 66 rfl (qaa rfl) rfl rfl Kp.true (Y.move rfl rfl) ?_
                      refine Jp.y 67 rfl (qaa rfl) rfl rfl Kp.true (Y.bits rfl rfl rfl rfl) ?_
                      refine Jp.y 6 rfl (qaa rfl) rfl rfl Kp.true (Y.assign rfl rfl) ?_
                      refine Jp.y 7 rfl (qaa rfl) rfl rfl Kp.true (Y.assign rfl rfl) ?_
                      refine Jp.qae hK28 ?_
                      refine Cd.ret [] rfl (qbx rfl rfl rfl) trivial ⟨rfl, by
                        (obtain rfl : k = 9 := by omega
                         exact tup2 (qdx ha hb)), rfl⟩
                    · skip
                      try simp only [sG0] at g63
                      refine Cd.over rfl hK7 ?_
                      refine Cd.seq fun K29 hK29=>?_
                      refine Cd.qac [(0,false),(1,false)] rfl rfl ?_
                      refine Jp.y 6 rfl (qaa rfl) rfl rfl Kp.true (Y.assign rfl rfl) ?_
                      refine Jp.y 7 rfl (qaa rfl) rfl rfl Kp.true (Y.assign rfl rfl) ?_
                      refine Jp.qae hK29 ?_
                      refine Cd.ret [] rfl (qbx rfl rfl rfl) trivial ⟨rfl, by
                        (rw [if_neg (by omega), decide_eq_false (by omega)]; rfl), rfl⟩
theorem divideu_spec (a b : Nat) (ha : a < 4294967296) (hb : b < 4294967296) : Spec Tryz.prog 100 #[.int .u32 a,.int .u32 b] (fun _=>True) []
  (fun ρ ρ' v L=>ρ' = ρ ∧ v = .tuple #[.int .u32 ((doP 15 a b : Nat) : Int),.int .u32 ((doP 17 a b : Nat) : Int)] ∧ L = []):=by
 refine Spec.of 15 Tryz.func100 rfl Tryz.ntmps100 [(0,_),(1,_)] rfl rfl ?_
 intro cx ρ hr h0
 refine Cd.seq fun K30 hK30=>?_
 refine Cd.qac [(0,false),(1,false)] rfl rfl ?_
 refine Jp.y 4 rfl (qaa rfl) rfl rfl Kp.true (Y.assign rfl rfl) ?_
 refine Jp.y 5 rfl (qaa rfl) rfl rfl Kp.true (Y.assign rfl rfl) ?_
 refine Jp.qae hK30 ?_
 refine Cd.seq fun K31 hK31=>?_
 refine Cd.seq fun K32 hK32=>?_
 refine Cd.qac [(0,false),(1,false)] rfl rfl ?_
 refine Jp.y 6 rfl (qaa rfl) rfl rfl Kp.true (Y.move rfl rfl) ?_
 refine Jp.y 7 rfl (qaa rfl) rfl rfl Kp.true (Y.eql rfl rfl rfl) ?_
 refine Jp.qae hK32 ?_
 refine Cd.qar rfl (fun g=>?_) (fun g=>?_)
 ·skip
  refine Cd.seq fun K33 hK33=>?_
  refine Cd.qac [(0,false),(1,false),(2,false)] rfl rfl ?_
  refine Jp.y 8 rfl (qaa rfl) rfl rfl Kp.true (Y.move rfl rfl) ?_
  refine Jp.y 4 rfl (qaa rfl) rfl rfl Kp.true (Y.assign rfl rfl) ?_
  refine Jp.y 5 rfl (qaa rfl) rfl rfl Kp.true (Y.assign rfl rfl) ?_
  refine Jp.qae hK33 ?_
  have hb0 : b = 0:=by simp at g; omega
  refine Cd.ret [] rfl (qbx rfl rfl rfl) trivial ⟨rfl,by rw [show doP 15 a b = 4294967295 from if_pos hb0,show doP 17 a b = a from if_pos hb0]; rfl,rfl⟩
 ·have hb0 : ¬ b = 0:=by simp at g; omega
  have h1 : a / b ≤ a:=Nat.div_le_self ..
  have h2 : (a : Int) / b = ((a / b : Nat) : Int):=by simp
  have h3 : (a : Int) % b = ((a % b : Nat) : Int):=by simp
  refine Cd.qbu hK31 ?_
  refine Cd.seq fun K34 hK34=>?_
  refine Cd.drawn [] trivial [(0,true),(1,true),(2,true),(3,true),(4,true),(5,true),(6,true),(7,true)] follows (by kernel_rfl) (fun hrl=>?_)
  refine Jp.q 9 rfl (qaa rfl) rfl rfl (Y.move rfl rfl) ?_
  refine Jp.q 10 rfl (qaa rfl) rfl rfl (Y.move rfl rfl) ?_
  refine Jp.q 11 rfl (qaa rfl) rfl rfl (Y.quoN rfl rfl rfl (by omega) (by omega) (qba (by rw [h2]; exact Int.natCast_nonneg _) (by rw [h2]; exact Int.ofNat_le.2 (show a / b ≤ 4294967295 by omega)))) ?_
  refine Jp.q 12 rfl (qaa rfl) rfl rfl (Y.move rfl rfl) ?_
  refine Jp.q 13 rfl (qaa rfl) rfl rfl (Y.move rfl rfl) ?_
  refine Jp.q 14 rfl (qaa rfl) rfl rfl (by exact Y.remN rfl rfl rfl (by omega) (by omega)) ?_
  refine Jp.q 4 rfl (qaa rfl) rfl rfl (Y.assign rfl rfl) ?_
  refine Jp.q 5 rfl (qaa rfl) rfl rfl (Y.assign rfl rfl) ?_
  refine Jp.qae hK34 ?_
  refine Cd.ret [] rfl (qbx rfl rfl rfl) trivial ⟨rfl,by rw [show doP 15 a b = a / b from if_neg hb0,show doP 17 a b = a % b from if_neg hb0]; rfl,rfl⟩
theorem divide_spec (a b : Nat) (ha : a < 4294967296) (hb : b < 4294967296) : Spec Tryz.prog 99 #[.int .u32 a,.int .u32 b] (fun _=>True) []
    (fun ρ ρ' v L=>ρ' = ρ ∧ v = .tuple #[.int .u32 ((doP 14 a b : Nat) : Int),.int .u32 ((doP 16 a b : Nat) : Int)] ∧ L = []):=by
  refine Spec.of 30 Tryz.func99 rfl Tryz.ntmps99 [(0,_),(1,_)] rfl rfl ?_
  intro cx ρ hr h0
  have hs0 : b ≠ 0 → IntKind.i32.wrap (b : Int) ≠ 0:=fun h=>by
    have:=s32_eq hb
    unfold s32 at this
    rw [this]; split <;> omega
  have hsa:=s32_eq ha
  have hsb:=s32_eq hb
  refine Cd.seq fun K36 hK36=>?_
  refine Cd.qac [(0,false),(1,false)] rfl rfl ?_
  refine Jp.y 4 rfl (qaa rfl) rfl rfl Kp.true (Y.assign rfl rfl) ?_
  refine Jp.y 5 rfl (qaa rfl) rfl rfl Kp.true (Y.assign rfl rfl) ?_
  refine Jp.qae hK36 ?_
  refine Cd.seq fun K37 hK37=>?_
  refine Cd.block ?_
  refine Cd.seq fun K38 hK38=>?_
  refine Cd.qac [(0,false),(1,false),(2,false)] rfl rfl ?_
  refine Jp.y 7 rfl (qaa rfl) rfl rfl Kp.true (Y.move rfl rfl) ?_
  refine Jp.y 8 rfl (qaa rfl) rfl rfl Kp.true (Y.eql rfl rfl rfl) ?_
  refine Jp.y 6 rfl (qaa rfl) rfl rfl Kp.true (Y.assign rfl rfl) ?_
  refine Jp.qae hK38 ?_
  refine Cd.qar rfl (fun g6=>?_) (fun g6=>?_)
  · skip
    try simp only [sG0] at g6
    refine Cd.seq fun K39 hK39=>?_
    refine Cd.qac [(0,false),(1,false),(2,false)] rfl rfl ?_
    refine Jp.y 9 rfl (qaa rfl) rfl rfl Kp.true (Y.move rfl rfl) ?_
    refine Jp.y 4 rfl (qaa rfl) rfl rfl Kp.true (Y.assign rfl rfl) ?_
    refine Jp.y 5 rfl (qaa rfl) rfl rfl Kp.true (Y.assign rfl rfl) ?_
    refine Jp.qae hK39 ?_
    refine Cd.ret [] rfl (qbx rfl rfl rfl) trivial ⟨rfl, by
      (have hb0 : b = 0 := by omega
       rw [show doP 14 a b = 4294967295 from if_pos hb0, show doP 16 a b = a from if_pos hb0]; rfl), rfl⟩
  · skip
    try simp only [sG0] at g6
    refine Cd.seq fun K40 hK40=>?_
    refine Cd.qac [(0,false),(1,false),(2,false),(3,false),(4,false),(5,false),(6,false)] rfl rfl ?_
    refine Jp.y 11 rfl (qaa rfl) rfl rfl Kp.true (Y.move rfl rfl) ?_
    refine Jp.y 12 rfl (qaa rfl) rfl rfl Kp.true (Y.eql rfl rfl rfl) ?_
    refine Jp.y 13 rfl (qaa rfl) rfl rfl Kp.true (Y.move rfl rfl) ?_
    refine Jp.split 13 rfl (fun g13=>?_) (fun g13=>?_)
    · skip
      try simp only [sG0] at g13
      refine Jp.y 14 rfl (qab rfl rfl rfl rfl) rfl rfl Kp.true (Y.move rfl rfl) ?_
      refine Jp.y 15 rfl (qab rfl rfl rfl rfl) rfl rfl Kp.true (Y.eql rfl rfl rfl) ?_
      refine Jp.y 16 rfl (qaa rfl) rfl rfl Kp.true (Y.qav rfl rfl rfl) ?_
      refine Jp.y 10 rfl (qaa rfl) rfl rfl Kp.true (Y.assign rfl rfl) ?_
      refine Jp.qae hK40 ?_
      refine Cd.qar rfl (fun g10=>?_) (fun g10=>?_)
      · skip
        try simp only [sG0] at g10
        refine Cd.seq fun K41 hK41=>?_
        refine Cd.qac [(0,false),(1,false),(2,false)] rfl rfl ?_
        refine Jp.y 17 rfl (qaa rfl) rfl rfl Kp.true (Y.move rfl rfl) ?_
        refine Jp.y 4 rfl (qaa rfl) rfl rfl Kp.true (Y.assign rfl rfl) ?_
        refine Jp.y 5 rfl (qaa rfl) rfl rfl Kp.true (Y.assign rfl rfl) ?_
        refine Jp.qae hK41 ?_
        refine Cd.ret [] rfl (qbx rfl rfl rfl) trivial ⟨rfl, by
          (obtain rfl : a = 2147483648 := by omega
           obtain rfl : b = 4294967295:=by omega
           rfl), rfl⟩
      · skip
        try simp only [sG0] at g10
        refine Cd.over rfl hK37 ?_
        refine Cd.seq fun K42 hK42=>?_
        have hb0 : ¬ b = 0:=by omega
        have hs0:=hs0 hb0
        refine Cd.drawn [] trivial [(0,true),(1,true),(2,true),(3,true),(4,true),(5,true),(6,true),(7,true),(8,true),(9,true),(10,true),(11,true),(12,true),(13,true)] follows (by kernel_rfl) (fun hrl=>?_)
        refine Jp.q 18 rfl (qaa rfl) rfl rfl (Y.move rfl rfl) ?_
        refine Jp.q 19 rfl (qaa rfl) rfl rfl (Y.qaw rfl rfl underlying24 underlying21 (by rfl)) ?_
        refine Jp.q 20 rfl (qaa rfl) rfl rfl (Y.move rfl rfl) ?_
        refine Jp.q 21 rfl (qaa rfl) rfl rfl (Y.qaw rfl rfl underlying24 underlying21 (by rfl)) ?_
        refine Jp.q 22 rfl (qaa rfl) rfl rfl (Y.quo rfl rfl rfl hs0) ?_
        refine Jp.q 23 rfl (qaa rfl) rfl rfl (Y.qaw rfl rfl underlying21 underlying24 (by rfl)) ?_
        refine Jp.q 24 rfl (qaa rfl) rfl rfl (Y.move rfl rfl) ?_
        refine Jp.q 25 rfl (qaa rfl) rfl rfl (Y.qaw rfl rfl underlying24 underlying21 (by rfl)) ?_
        refine Jp.q 26 rfl (qaa rfl) rfl rfl (Y.move rfl rfl) ?_
        refine Jp.q 27 rfl (qaa rfl) rfl rfl (Y.qaw rfl rfl underlying24 underlying21 (by rfl)) ?_
        refine Jp.q 28 rfl (qaa rfl) rfl rfl (Y.rem rfl rfl rfl hs0) ?_
        refine Jp.q 29 rfl (qaa rfl) rfl rfl (Y.qaw rfl rfl underlying21 underlying24 (by rfl)) ?_
        refine Jp.q 4 rfl (qaa rfl) rfl rfl (Y.assign rfl rfl) ?_
        refine Jp.q 5 rfl (qaa rfl) rfl rfl (Y.assign rfl rfl) ?_
        refine Jp.qae hK42 ?_
        refine Cd.ret [] rfl (qbx rfl rfl rfl) trivial ⟨rfl,by rw [show doP 14 a b = u32 ((s32 a).tdiv (s32 b)) from if_neg hb0,show doP 16 a b = u32 ((s32 a).tmod (s32 b)) from if_neg hb0,← quo_s32 ((s32 a).tdiv (s32 b)),← qce ((s32 a).tmod (s32 b))]; rfl,rfl⟩
    · skip
      try simp only [sG0] at g13
      refine Jp.qaq 14 rfl (qab rfl rfl rfl rfl) rfl rfl Kp.true ?_
      refine Jp.qaq 15 rfl (qab rfl rfl rfl rfl) rfl rfl Kp.true ?_
      refine Jp.y 16 rfl (qaa rfl) rfl rfl Kp.true (Y.qay rfl rfl rfl) ?_
      refine Jp.y 10 rfl (qaa rfl) rfl rfl Kp.true (Y.assign rfl rfl) ?_
      refine Jp.qae hK40 ?_
      refine Cd.qbz rfl ?_
      refine Cd.over rfl hK37 ?_
      refine Cd.seq fun K44 hK44=>?_
      have hb0 : ¬ b = 0:=by omega
      have hs0:=hs0 hb0
      refine Cd.drawn [] trivial [(0,true),(1,true),(2,true),(3,true),(4,true),(5,true),(6,true),(7,true),(8,true),(9,true),(10,true),(11,true),(12,true),(13,true)] follows (by kernel_rfl) (fun hrl=>?_)
      refine Jp.q 18 rfl (qaa rfl) rfl rfl (Y.move rfl rfl) ?_
      refine Jp.q 19 rfl (qaa rfl) rfl rfl (Y.qaw rfl rfl underlying24 underlying21 (by rfl)) ?_
      refine Jp.q 20 rfl (qaa rfl) rfl rfl (Y.move rfl rfl) ?_
      refine Jp.q 21 rfl (qaa rfl) rfl rfl (Y.qaw rfl rfl underlying24 underlying21 (by rfl)) ?_
      refine Jp.q 22 rfl (qaa rfl) rfl rfl (Y.quo rfl rfl rfl hs0) ?_
      refine Jp.q 23 rfl (qaa rfl) rfl rfl (Y.qaw rfl rfl underlying21 underlying24 (by rfl)) ?_
      refine Jp.q 24 rfl (qaa rfl) rfl rfl (Y.move rfl rfl) ?_
      refine Jp.q 25 rfl (qaa rfl) rfl rfl (Y.qaw rfl rfl underlying24 underlying21 (by rfl)) ?_
      refine Jp.q 26 rfl (qaa rfl) rfl rfl (Y.move rfl rfl) ?_
      refine Jp.q 27 rfl (qaa rfl) rfl rfl (Y.qaw rfl rfl underlying24 underlying21 (by rfl)) ?_
      refine Jp.q 28 rfl (qaa rfl) rfl rfl (Y.rem rfl rfl rfl hs0) ?_
      refine Jp.q 29 rfl (qaa rfl) rfl rfl (Y.qaw rfl rfl underlying21 underlying24 (by rfl)) ?_
      refine Jp.q 4 rfl (qaa rfl) rfl rfl (Y.assign rfl rfl) ?_
      refine Jp.q 5 rfl (qaa rfl) rfl rfl (Y.assign rfl rfl) ?_
      refine Jp.qae hK44 ?_
      refine Cd.ret [] rfl (qbx rfl rfl rfl) trivial ⟨rfl,by rw [show doP 14 a b = u32 ((s32 a).tdiv (s32 b)) from if_neg hb0,show doP 16 a b = u32 ((s32 a).tmod (s32 b)) from if_neg hb0,← quo_s32 ((s32 a).tdiv (s32 b)),← qce ((s32 a).tmod (s32 b))]; rfl,rfl⟩
def isK (k : Nat) : Prop:=k ≤ 17
theorem do_spec (k a b : Nat) (hk : k ≤ 17) (ha : a < 4294967296) (hb : b < 4294967296) : Spec Tryz.prog 81 #[.int .i64 k,.int .u32 a,.int .u32 b] (fun _=>True) []
    (fun ρ ρ' v L=>ρ' = ρ ∧ v = .tuple #[.int .u32 ((doP k a b : Nat) : Int),.int .i64 0] ∧ L = []):=by
  refine Spec.of 99 Tryz.func81 rfl Tryz.ntmps81 [(0,_),(1,_),(2,_)] rfl rfl ?_
  intro cx ρ hr h0
  have ha64:=w64_s32 ha
  have hb64:=w64_s32 hb
  have hla:=s32_lo ha
  have hha:=s32_hi ha
  have hlb:=s32_lo hb
  have hhb:=s32_hi hb
  have hm1 : -4611686018427387904 ≤ s32 a * s32 b ∧ s32 a * s32 b ≤ 4611686018427387904:=mul_rng hla hha hlb hhb
  have hm2 : -9223372036854775808 ≤ s32 a * (b : Int) ∧ s32 a * (b : Int) ≤ 9223372036854775807:=mul_rng2 hla hha hb
  have hm3 : a * b ≤ 18446744065119617025:=Nat.mul_le_mul (show a ≤ 4294967295 by omega) (show b ≤ 4294967295 by omega)
  refine Cd.seq fun K46 hK46=>?_
  refine Cd.qac [(0,false),(1,false)] rfl rfl ?_
  refine Jp.y 6 rfl (qaa rfl) rfl rfl Kp.true (Y.assign rfl rfl) ?_
  refine Jp.y 7 rfl (qaa rfl) rfl rfl Kp.true (Y.assign rfl rfl) ?_
  refine Jp.qae hK46 ?_
  refine Cd.seq fun K47 hK47=>?_
  refine Cd.seq fun K48 hK48=>?_
  refine Cd.qac [(0,false),(1,false),(2,false),(3,false),(4,false),(5,false),(6,false),(7,false),(8,false)] rfl rfl ?_
  refine Jp.y 19 rfl (qaa rfl) rfl rfl Kp.true (Y.move rfl rfl) ?_
  refine Jp.y 20 rfl (qaa rfl) rfl rfl Kp.true (Y.move rfl rfl) ?_
  refine Jp.y 21 rfl (qaa rfl) rfl rfl Kp.true (Y.move rfl rfl) ?_
  refine Jp.call [] [] (simple_spec k a b hk ha hb) 22 rfl (qaa rfl) rfl rfl (Runs.fn rfl call98 rfl) (by decide) (by decide) rfl trivial ?_
  rintro v1 ρ1 L1 ⟨rfl,rfl,rfl⟩
  refine ⟨rfl,fun hle1=>⟨Kp.true,?_⟩⟩
  refine Jp.y 18 rfl (qaa rfl) rfl rfl Kp.true (Y.move rfl rfl) ?_
  refine Jp.y 23 rfl (qaa rfl) rfl rfl Kp.true (Y.extract rfl rfl rfl) ?_
  refine Jp.y 24 rfl (qaa rfl) rfl rfl Kp.true (Y.extract rfl rfl rfl) ?_
  refine Jp.y 8 rfl (qaa rfl) rfl rfl Kp.true (Y.assign rfl rfl) ?_
  refine Jp.y 9 rfl (qaa rfl) rfl rfl Kp.true (Y.assign rfl rfl) ?_
  refine Jp.qae hK48 ?_
  refine Cd.seq fun K49 hK49=>?_
  refine Cd.qac [(0,false)] rfl rfl ?_
  refine Jp.y 25 rfl (qaa rfl) rfl rfl Kp.true (Y.move rfl rfl) ?_
  refine Jp.qae hK49 ?_
  refine Cd.qar rfl (fun g=>?_) (fun g=>?_)
  · simp only [decide_eq_true_eq] at g
    refine Cd.seq fun K50 hK50=>?_
    refine Cd.qac [(0,false),(1,false),(2,false)] rfl rfl ?_
    refine Jp.y 26 rfl (qaa rfl) rfl rfl Kp.true (Y.move rfl rfl) ?_
    refine Jp.y 6 rfl (qaa rfl) rfl rfl Kp.true (Y.assign rfl rfl) ?_
    refine Jp.y 7 rfl (qaa rfl) rfl rfl Kp.true (Y.assign rfl rfl) ?_
    refine Jp.qae hK50 ?_
    refine Cd.ret [] rfl (qbx rfl rfl rfl) trivial ⟨rfl,by rw [if_pos g],rfl⟩
  · simp only [decide_eq_false_iff_not] at g
    refine Cd.qbu hK47 ?_
    refine Cd.seq fun K51 hK51=>?_
    refine Cd.seq fun K52 hK52=>?_
    refine Cd.qac [(0,false)] rfl rfl ?_
    refine Jp.y 27 rfl (qaa rfl) rfl rfl Kp.true (Y.move rfl rfl) ?_
    refine Jp.qae hK52 ?_
    refine Cd.block ?_
    refine Cd.seq fun K53 hK53=>?_
    refine Cd.qac [(0,false),(1,false)] rfl rfl ?_
    refine Jp.y 29 rfl (qaa rfl) rfl rfl Kp.true (Y.eql rfl rfl rfl) ?_
    refine Jp.y 28 rfl (qaa rfl) rfl rfl Kp.true (Y.assign rfl rfl) ?_
    refine Jp.qae hK53 ?_
    refine Cd.qar rfl (fun g28=>?_) (fun g28=>?_)
    · skip
      try simp only [sG0] at g28
      refine Cd.seq fun K54 hK54=>?_
      refine Cd.qac [(0,false),(1,false),(2,false),(3,false),(4,false)] rfl rfl ?_
      refine Jp.y 30 rfl (qaa rfl) rfl rfl Kp.true (Y.move rfl rfl) ?_
      refine Jp.y 31 rfl (qaa rfl) rfl rfl Kp.true (Y.move rfl rfl) ?_
      refine Jp.y 32 rfl (qaa rfl) rfl rfl Kp.true (Y.mul_ rfl rfl rfl (by rfl)) ?_
      refine Jp.y 6 rfl (qaa rfl) rfl rfl Kp.true (Y.assign rfl rfl) ?_
      refine Jp.y 7 rfl (qaa rfl) rfl rfl Kp.true (Y.assign rfl rfl) ?_
      refine Jp.qae hK54 ?_
      refine Cd.ret [] rfl (qbx rfl rfl rfl) trivial ⟨rfl, by
        (obtain rfl : k = 10 := by omega
         exact tup2 (qce _)), rfl⟩
    · skip
      try simp only [sG0] at g28
      refine Cd.seq fun K55 hK55=>?_
      refine Cd.qac [(0,false),(1,false)] rfl rfl ?_
      refine Jp.y 34 rfl (qaa rfl) rfl rfl Kp.true (Y.eql rfl rfl rfl) ?_
      refine Jp.y 33 rfl (qaa rfl) rfl rfl Kp.true (Y.assign rfl rfl) ?_
      refine Jp.qae hK55 ?_
      refine Cd.qar rfl (fun g33=>?_) (fun g33=>?_)
      · skip
        try simp only [sG0] at g33
        refine Cd.seq fun K56 hK56=>?_
        refine Cd.qac [(0,false),(1,false),(2,false),(3,false),(4,false),(5,false),(6,false),(7,false),(8,false),(9,false),(10,false)] rfl rfl ?_
        refine Jp.y 35 rfl (qaa rfl) rfl rfl Kp.true (Y.move rfl rfl) ?_
        refine Jp.y 36 rfl (qaa rfl) rfl rfl Kp.true (Y.qaw rfl rfl underlying24 underlying21 (by rfl)) ?_
        refine Jp.y 37 rfl (qaa rfl) rfl rfl Kp.true (Y.qaw rfl rfl underlying21 underlying2 (by rfl)) ?_
        refine Jp.y 38 rfl (qaa rfl) rfl rfl Kp.true (Y.move rfl rfl) ?_
        refine Jp.y 39 rfl (qaa rfl) rfl rfl Kp.true (Y.qaw rfl rfl underlying24 underlying21 (by rfl)) ?_
        refine Jp.y 40 rfl (qaa rfl) rfl rfl Kp.true (Y.qaw rfl rfl underlying21 underlying2 (by rfl)) ?_
        refine Jp.y 41 rfl (qaa rfl) rfl rfl Kp.true (Y.mul_ rfl rfl rfl (by rfl)) ?_
        refine Jp.y 42 rfl (qaa rfl) rfl rfl Kp.true (Y.shr rfl rfl rfl (by first | decide | omega)) ?_
        refine Jp.y 43 rfl (qaa rfl) rfl rfl Kp.true (Y.qaw rfl rfl underlying2 underlying24 (by rfl)) ?_
        refine Jp.y 6 rfl (qaa rfl) rfl rfl Kp.true (Y.assign rfl rfl) ?_
        refine Jp.y 7 rfl (qaa rfl) rfl rfl Kp.true (Y.assign rfl rfl) ?_
        refine Jp.qae hK56 ?_
        refine Cd.ret [] rfl (qbx rfl rfl rfl) trivial ⟨rfl, by
          (obtain rfl : k = 11 := by omega
           exact tup2 (by rw [ha64, hb64, qaj (by omega) (by omega)]; exact hi_shr _)), rfl⟩
      · skip
        try simp only [sG0] at g33
        refine Cd.seq fun K57 hK57=>?_
        refine Cd.qac [(0,false),(1,false)] rfl rfl ?_
        refine Jp.y 45 rfl (qaa rfl) rfl rfl Kp.true (Y.eql rfl rfl rfl) ?_
        refine Jp.y 44 rfl (qaa rfl) rfl rfl Kp.true (Y.assign rfl rfl) ?_
        refine Jp.qae hK57 ?_
        refine Cd.qar rfl (fun g44=>?_) (fun g44=>?_)
        · skip
          try simp only [sG0] at g44
          refine Cd.seq fun K58 hK58=>?_
          refine Cd.qac [(0,false),(1,false),(2,false),(3,false),(4,false),(5,false),(6,false),(7,false),(8,false),(9,false)] rfl rfl ?_
          refine Jp.y 46 rfl (qaa rfl) rfl rfl Kp.true (Y.move rfl rfl) ?_
          refine Jp.y 47 rfl (qaa rfl) rfl rfl Kp.true (Y.qaw rfl rfl underlying24 underlying21 (by rfl)) ?_
          refine Jp.y 48 rfl (qaa rfl) rfl rfl Kp.true (Y.qaw rfl rfl underlying21 underlying2 (by rfl)) ?_
          refine Jp.y 49 rfl (qaa rfl) rfl rfl Kp.true (Y.move rfl rfl) ?_
          refine Jp.y 50 rfl (qaa rfl) rfl rfl Kp.true (Y.qaw rfl rfl underlying24 underlying2 (by exact qaj (by omega) (by omega))) ?_
          refine Jp.y 51 rfl (qaa rfl) rfl rfl Kp.true (Y.mul_ rfl rfl rfl (by rfl)) ?_
          refine Jp.y 52 rfl (qaa rfl) rfl rfl Kp.true (Y.shr rfl rfl rfl (by first | decide | omega)) ?_
          refine Jp.y 53 rfl (qaa rfl) rfl rfl Kp.true (Y.qaw rfl rfl underlying2 underlying24 (by rfl)) ?_
          refine Jp.y 6 rfl (qaa rfl) rfl rfl Kp.true (Y.assign rfl rfl) ?_
          refine Jp.y 7 rfl (qaa rfl) rfl rfl Kp.true (Y.assign rfl rfl) ?_
          refine Jp.qae hK58 ?_
          refine Cd.ret [] rfl (qbx rfl rfl rfl) trivial ⟨rfl, by
            (obtain rfl : k = 12 := by omega
             exact tup2 (by rw [ha64, qaj (by omega) (by omega)]; exact hi_shr _)), rfl⟩
        · skip
          try simp only [sG0] at g44
          refine Cd.seq fun K59 hK59=>?_
          refine Cd.qac [(0,false),(1,false)] rfl rfl ?_
          refine Jp.y 55 rfl (qaa rfl) rfl rfl Kp.true (Y.eql rfl rfl rfl) ?_
          refine Jp.y 54 rfl (qaa rfl) rfl rfl Kp.true (Y.assign rfl rfl) ?_
          refine Jp.qae hK59 ?_
          refine Cd.qar rfl (fun g54=>?_) (fun g54=>?_)
          · skip
            try simp only [sG0] at g54
            refine Cd.seq fun K60 hK60=>?_
            refine Cd.qac [(0,false),(1,false),(2,false),(3,false),(4,false),(5,false),(6,false),(7,false),(8,false)] rfl rfl ?_
            refine Jp.y 56 rfl (qaa rfl) rfl rfl Kp.true (Y.move rfl rfl) ?_
            refine Jp.y 57 rfl (qaa rfl) rfl rfl Kp.true (Y.qaw rfl rfl underlying24 underlying103 (by exact qbh (by omega) (by omega))) ?_
            refine Jp.y 58 rfl (qaa rfl) rfl rfl Kp.true (Y.move rfl rfl) ?_
            refine Jp.y 59 rfl (qaa rfl) rfl rfl Kp.true (Y.qaw rfl rfl underlying24 underlying103 (by exact qbh (by omega) (by omega))) ?_
            refine Jp.y 60 rfl (qaa rfl) rfl rfl Kp.true (Y.mul_ rfl rfl rfl (by exact qbh (by omega) (by omega))) ?_
            refine Jp.y 61 rfl (qaa rfl) rfl rfl Kp.true (Y.shr rfl rfl rfl (by first | decide | omega)) ?_
            refine Jp.y 62 rfl (qaa rfl) rfl rfl Kp.true (Y.qaw rfl rfl underlying103 underlying24 (by rfl)) ?_
            refine Jp.y 6 rfl (qaa rfl) rfl rfl Kp.true (Y.assign rfl rfl) ?_
            refine Jp.y 7 rfl (qaa rfl) rfl rfl Kp.true (Y.assign rfl rfl) ?_
            refine Jp.qae hK60 ?_
            refine Cd.ret [] rfl (qbx rfl rfl rfl) trivial ⟨rfl, by
              (obtain rfl : k = 13 := by omega
               exact tup2 (hi_u64 hm3)), rfl⟩
          · skip
            try simp only [sG0] at g54
            refine Cd.seq fun K61 hK61=>?_
            refine Cd.qac [(0,false),(1,false)] rfl rfl ?_
            refine Jp.y 64 rfl (qaa rfl) rfl rfl Kp.true (Y.eql rfl rfl rfl) ?_
            refine Jp.y 63 rfl (qaa rfl) rfl rfl Kp.true (Y.assign rfl rfl) ?_
            refine Jp.qae hK61 ?_
            refine Cd.qar rfl (fun g63=>?_) (fun g63=>?_)
            · skip
              try simp only [sG0] at g63
              refine Cd.seq fun K62 hK62=>?_
              refine Cd.qac [(0,false),(1,false),(2,false),(3,false),(4,false),(5,false),(6,false),(7,false)] rfl rfl ?_
              refine Jp.y 66 rfl (qaa rfl) rfl rfl Kp.true (Y.move rfl rfl) ?_
              refine Jp.y 67 rfl (qaa rfl) rfl rfl Kp.true (Y.move rfl rfl) ?_
              refine Jp.call [] [] (divide_spec a b ha hb) 68 rfl (qaa rfl) rfl rfl (Runs.fn rfl call99 rfl) (by decide) (by decide) rfl trivial ?_
              rintro v103 ρ103 L103 ⟨rfl,rfl,rfl⟩
              refine ⟨rfl,fun hle103=>⟨Kp.true,?_⟩⟩
              refine Jp.y 65 rfl (qaa rfl) rfl rfl Kp.true (Y.move rfl rfl) ?_
              refine Jp.y 69 rfl (qaa rfl) rfl rfl Kp.true (Y.extract rfl rfl rfl) ?_
              refine Jp.y 70 rfl (qaa rfl) rfl rfl Kp.true (Y.extract rfl rfl rfl) ?_
              refine Jp.y 10 rfl (qaa rfl) rfl rfl Kp.true (Y.assign rfl rfl) ?_
              refine Jp.y 11 rfl (qaa rfl) rfl rfl Kp.true (Y.assign rfl rfl) ?_
              refine Jp.qae hK62 ?_
              refine Cd.seq fun K63 hK63=>?_
              refine Cd.qac [(0,false),(1,false),(2,false)] rfl rfl ?_
              refine Jp.y 71 rfl (qaa rfl) rfl rfl Kp.true (Y.move rfl rfl) ?_
              refine Jp.y 6 rfl (qaa rfl) rfl rfl Kp.true (Y.assign rfl rfl) ?_
              refine Jp.y 7 rfl (qaa rfl) rfl rfl Kp.true (Y.assign rfl rfl) ?_
              refine Jp.qae hK63 ?_
              refine Cd.ret [] rfl (qbx rfl rfl rfl) trivial ⟨rfl, by
                (obtain rfl : k = 14 := by omega
                 rfl), rfl⟩
            · skip
              try simp only [sG0] at g63
              refine Cd.seq fun K64 hK64=>?_
              refine Cd.qac [(0,false),(1,false)] rfl rfl ?_
              refine Jp.y 73 rfl (qaa rfl) rfl rfl Kp.true (Y.eql rfl rfl rfl) ?_
              refine Jp.y 72 rfl (qaa rfl) rfl rfl Kp.true (Y.assign rfl rfl) ?_
              refine Jp.qae hK64 ?_
              refine Cd.qar rfl (fun g72=>?_) (fun g72=>?_)
              · skip
                try simp only [sG0] at g72
                refine Cd.seq fun K65 hK65=>?_
                refine Cd.qac [(0,false),(1,false),(2,false),(3,false),(4,false),(5,false),(6,false),(7,false)] rfl rfl ?_
                refine Jp.y 75 rfl (qaa rfl) rfl rfl Kp.true (Y.move rfl rfl) ?_
                refine Jp.y 76 rfl (qaa rfl) rfl rfl Kp.true (Y.move rfl rfl) ?_
                refine Jp.call [] [] (divideu_spec a b ha hb) 77 rfl (qaa rfl) rfl rfl (Runs.fn rfl call100 rfl) (by decide) (by decide) rfl trivial ?_
                rintro v104 ρ104 L104 ⟨rfl,rfl,rfl⟩
                refine ⟨rfl,fun hle104=>⟨Kp.true,?_⟩⟩
                refine Jp.y 74 rfl (qaa rfl) rfl rfl Kp.true (Y.move rfl rfl) ?_
                refine Jp.y 78 rfl (qaa rfl) rfl rfl Kp.true (Y.extract rfl rfl rfl) ?_
                refine Jp.y 79 rfl (qaa rfl) rfl rfl Kp.true (Y.extract rfl rfl rfl) ?_
                refine Jp.y 12 rfl (qaa rfl) rfl rfl Kp.true (Y.assign rfl rfl) ?_
                refine Jp.y 13 rfl (qaa rfl) rfl rfl Kp.true (Y.assign rfl rfl) ?_
                refine Jp.qae hK65 ?_
                refine Cd.seq fun K66 hK66=>?_
                refine Cd.qac [(0,false),(1,false),(2,false)] rfl rfl ?_
                refine Jp.y 80 rfl (qaa rfl) rfl rfl Kp.true (Y.move rfl rfl) ?_
                refine Jp.y 6 rfl (qaa rfl) rfl rfl Kp.true (Y.assign rfl rfl) ?_
                refine Jp.y 7 rfl (qaa rfl) rfl rfl Kp.true (Y.assign rfl rfl) ?_
                refine Jp.qae hK66 ?_
                refine Cd.ret [] rfl (qbx rfl rfl rfl) trivial ⟨rfl, by
                  (obtain rfl : k = 15 := by omega
                   rfl), rfl⟩
              · skip
                try simp only [sG0] at g72
                refine Cd.seq fun K67 hK67=>?_
                refine Cd.qac [(0,false),(1,false)] rfl rfl ?_
                refine Jp.y 82 rfl (qaa rfl) rfl rfl Kp.true (Y.eql rfl rfl rfl) ?_
                refine Jp.y 81 rfl (qaa rfl) rfl rfl Kp.true (Y.assign rfl rfl) ?_
                refine Jp.qae hK67 ?_
                refine Cd.qar rfl (fun g81=>?_) (fun g81=>?_)
                · skip
                  try simp only [sG0] at g81
                  refine Cd.seq fun K68 hK68=>?_
                  refine Cd.qac [(0,false),(1,false),(2,false),(3,false),(4,false),(5,false),(6,false),(7,false)] rfl rfl ?_
                  refine Jp.y 84 rfl (qaa rfl) rfl rfl Kp.true (Y.move rfl rfl) ?_
                  refine Jp.y 85 rfl (qaa rfl) rfl rfl Kp.true (Y.move rfl rfl) ?_
                  refine Jp.call [] [] (divide_spec a b ha hb) 86 rfl (qaa rfl) rfl rfl (Runs.fn rfl call99 rfl) (by decide) (by decide) rfl trivial ?_
                  rintro v105 ρ105 L105 ⟨rfl,rfl,rfl⟩
                  refine ⟨rfl,fun hle105=>⟨Kp.true,?_⟩⟩
                  refine Jp.y 83 rfl (qaa rfl) rfl rfl Kp.true (Y.move rfl rfl) ?_
                  refine Jp.y 87 rfl (qaa rfl) rfl rfl Kp.true (Y.extract rfl rfl rfl) ?_
                  refine Jp.y 88 rfl (qaa rfl) rfl rfl Kp.true (Y.extract rfl rfl rfl) ?_
                  refine Jp.y 14 rfl (qaa rfl) rfl rfl Kp.true (Y.assign rfl rfl) ?_
                  refine Jp.y 15 rfl (qaa rfl) rfl rfl Kp.true (Y.assign rfl rfl) ?_
                  refine Jp.qae hK68 ?_
                  refine Cd.seq fun K69 hK69=>?_
                  refine Cd.qac [(0,false),(1,false),(2,false)] rfl rfl ?_
                  refine Jp.y 89 rfl (qaa rfl) rfl rfl Kp.true (Y.move rfl rfl) ?_
                  refine Jp.y 6 rfl (qaa rfl) rfl rfl Kp.true (Y.assign rfl rfl) ?_
                  refine Jp.y 7 rfl (qaa rfl) rfl rfl Kp.true (Y.assign rfl rfl) ?_
                  refine Jp.qae hK69 ?_
                  refine Cd.ret [] rfl (qbx rfl rfl rfl) trivial ⟨rfl, by
                    (obtain rfl : k = 16 := by omega
                     rfl), rfl⟩
                · skip
                  try simp only [sG0] at g81
                  refine Cd.seq fun K70 hK70=>?_
                  refine Cd.qac [(0,false),(1,false)] rfl rfl ?_
                  refine Jp.y 91 rfl (qaa rfl) rfl rfl Kp.true (Y.eql rfl rfl rfl) ?_
                  refine Jp.y 90 rfl (qaa rfl) rfl rfl Kp.true (Y.assign rfl rfl) ?_
                  refine Jp.qae hK70 ?_
                  refine Cd.qar rfl (fun g90=>?_) (fun g90=>?_)
                  · skip
                    try simp only [sG0] at g90
                    refine Cd.seq fun K71 hK71=>?_
                    refine Cd.qac [(0,false),(1,false),(2,false),(3,false),(4,false),(5,false),(6,false),(7,false)] rfl rfl ?_
                    refine Jp.y 93 rfl (qaa rfl) rfl rfl Kp.true (Y.move rfl rfl) ?_
                    refine Jp.y 94 rfl (qaa rfl) rfl rfl Kp.true (Y.move rfl rfl) ?_
                    refine Jp.call [] [] (divideu_spec a b ha hb) 95 rfl (qaa rfl) rfl rfl (Runs.fn rfl call100 rfl) (by decide) (by decide) rfl trivial ?_
                    rintro v106 ρ106 L106 ⟨rfl,rfl,rfl⟩
                    refine ⟨rfl,fun hle106=>⟨Kp.true,?_⟩⟩
                    refine Jp.y 92 rfl (qaa rfl) rfl rfl Kp.true (Y.move rfl rfl) ?_
                    refine Jp.y 96 rfl (qaa rfl) rfl rfl Kp.true (Y.extract rfl rfl rfl) ?_
                    refine Jp.y 97 rfl (qaa rfl) rfl rfl Kp.true (Y.extract rfl rfl rfl) ?_
                    refine Jp.y 16 rfl (qaa rfl) rfl rfl Kp.true (Y.assign rfl rfl) ?_
                    refine Jp.y 17 rfl (qaa rfl) rfl rfl Kp.true (Y.assign rfl rfl) ?_
                    refine Jp.qae hK71 ?_
                    refine Cd.seq fun K72 hK72=>?_
                    refine Cd.qac [(0,false),(1,false),(2,false)] rfl rfl ?_
                    refine Jp.y 98 rfl (qaa rfl) rfl rfl Kp.true (Y.move rfl rfl) ?_
                    refine Jp.y 6 rfl (qaa rfl) rfl rfl Kp.true (Y.assign rfl rfl) ?_
                    refine Jp.y 7 rfl (qaa rfl) rfl rfl Kp.true (Y.assign rfl rfl) ?_
                    refine Jp.qae hK72 ?_
                    refine Cd.ret [] rfl (qbx rfl rfl rfl) trivial ⟨rfl, by
                      (obtain rfl : k = 17 := by omega
                       rfl), rfl⟩
                  · skip
                    try simp only [sG0] at g90
                    refine Cd.over rfl hK51 ?_
                    refine Cd.seq fun K73 hK73=>?_
                    refine Cd.qac [(0,false),(1,false)] rfl rfl ?_
                    refine Jp.y 6 rfl (qaa rfl) rfl rfl Kp.true (Y.assign rfl rfl) ?_
                    refine Jp.y 7 rfl (qaa rfl) rfl rfl Kp.true (Y.assign rfl rfl) ?_
                    refine Jp.qae hK73 ?_
                    refine Cd.ret [] rfl (qbx rfl rfl rfl) trivial ⟨rfl, by
                      (exfalso; omega), rfl⟩
theorem test0 (a b : Nat) : ((a : Int) == b) = testP 0 a b:=by
 show _ = decide (a = b)
 rw [Bool.eq_iff_iff]; simp only [beq_iff_eq,decide_eq_true_eq]; omega
theorem test1 (a b : Nat) : ((a : Int) != b) = testP 1 a b:=by
 show _ = decide (a ≠ b)
 rw [Bool.eq_iff_iff]; simp only [bne_iff_ne,ne_eq,decide_eq_true_eq]; omega
theorem test6 (a b : Nat) : decide ((a : Int) < b) = testP 6 a b:=by
 show _ = decide (a < b)
 rw [Bool.eq_iff_iff]; simp only [decide_eq_true_eq]; omega
theorem test7 (a b : Nat) : decide ((b : Int) ≤ a) = testP 7 a b:=by
 show _ = decide (b ≤ a)
 rw [Bool.eq_iff_iff]; simp only [decide_eq_true_eq]; omega
theorem tupB {x y : Bool} {w : Value} (h : x = y) : Value.tuple #[.bool x,w] = .tuple #[.bool y,w]:=by rw [h]
theorem test_spec (k a b : Nat) (hk : k = 0 ∨ k = 1 ∨ 4 ≤ k ∧ k ≤ 7) (ha : a < 4294967296) (hb : b < 4294967296) : Spec Tryz.prog 88 #[.int .i64 k,.int .u32 a,.int .u32 b] (fun _=>True) []
    (fun ρ ρ' v L=>ρ' = ρ ∧ v = .tuple #[.bool (testP k a b),.int .i64 0] ∧ L = []):=by
  refine Spec.of 43 Tryz.func88 rfl Tryz.ntmps88 [(0,_),(1,_),(2,_)] rfl rfl ?_
  intro cx ρ hr h0
  refine Cd.seq fun K74 hK74=>?_
  refine Cd.qac [(0,false),(1,false)] rfl rfl ?_
  refine Jp.y 6 rfl (qaa rfl) rfl rfl Kp.true (Y.assign rfl rfl) ?_
  refine Jp.y 7 rfl (qaa rfl) rfl rfl Kp.true (Y.assign rfl rfl) ?_
  refine Jp.qae hK74 ?_
  refine Cd.seq fun K75 hK75=>?_
  refine Cd.seq fun K76 hK76=>?_
  refine Cd.qac [(0,false)] rfl rfl ?_
  refine Jp.y 8 rfl (qaa rfl) rfl rfl Kp.true (Y.move rfl rfl) ?_
  refine Jp.qae hK76 ?_
  refine Cd.block ?_
  refine Cd.seq fun K77 hK77=>?_
  refine Cd.qac [(0,false),(1,false)] rfl rfl ?_
  refine Jp.y 10 rfl (qaa rfl) rfl rfl Kp.true (Y.eql rfl rfl rfl) ?_
  refine Jp.y 9 rfl (qaa rfl) rfl rfl Kp.true (Y.assign rfl rfl) ?_
  refine Jp.qae hK77 ?_
  refine Cd.qar rfl (fun g9=>?_) (fun g9=>?_)
  · skip
    try simp only [sG0] at g9
    refine Cd.seq fun K78 hK78=>?_
    refine Cd.qac [(0,false),(1,false),(2,false),(3,false),(4,false)] rfl rfl ?_
    refine Jp.y 11 rfl (qaa rfl) rfl rfl Kp.true (Y.move rfl rfl) ?_
    refine Jp.y 12 rfl (qaa rfl) rfl rfl Kp.true (Y.move rfl rfl) ?_
    refine Jp.y 13 rfl (qaa rfl) rfl rfl Kp.true (Y.eql rfl rfl rfl) ?_
    refine Jp.y 6 rfl (qaa rfl) rfl rfl Kp.true (Y.assign rfl rfl) ?_
    refine Jp.y 7 rfl (qaa rfl) rfl rfl Kp.true (Y.assign rfl rfl) ?_
    refine Jp.qae hK78 ?_
    refine Cd.ret [] rfl (qbx rfl rfl rfl) trivial ⟨rfl, by
      (obtain rfl : k = 0 := by omega
       exact tupB (test0 a b)), rfl⟩
  · skip
    try simp only [sG0] at g9
    refine Cd.seq fun K79 hK79=>?_
    refine Cd.qac [(0,false),(1,false)] rfl rfl ?_
    refine Jp.y 15 rfl (qaa rfl) rfl rfl Kp.true (Y.eql rfl rfl rfl) ?_
    refine Jp.y 14 rfl (qaa rfl) rfl rfl Kp.true (Y.assign rfl rfl) ?_
    refine Jp.qae hK79 ?_
    refine Cd.qar rfl (fun g14=>?_) (fun g14=>?_)
    · skip
      try simp only [sG0] at g14
      refine Cd.seq fun K80 hK80=>?_
      refine Cd.qac [(0,false),(1,false),(2,false),(3,false),(4,false)] rfl rfl ?_
      refine Jp.y 16 rfl (qaa rfl) rfl rfl Kp.true (Y.move rfl rfl) ?_
      refine Jp.y 17 rfl (qaa rfl) rfl rfl Kp.true (Y.move rfl rfl) ?_
      refine Jp.y 18 rfl (qaa rfl) rfl rfl Kp.true (Y.neq rfl rfl rfl) ?_
      refine Jp.y 6 rfl (qaa rfl) rfl rfl Kp.true (Y.assign rfl rfl) ?_
      refine Jp.y 7 rfl (qaa rfl) rfl rfl Kp.true (Y.assign rfl rfl) ?_
      refine Jp.qae hK80 ?_
      refine Cd.ret [] rfl (qbx rfl rfl rfl) trivial ⟨rfl, by
        (obtain rfl : k = 1 := by omega
         exact tupB (test1 a b)), rfl⟩
    · skip
      try simp only [sG0] at g14
      refine Cd.seq fun K81 hK81=>?_
      refine Cd.qac [(0,false),(1,false)] rfl rfl ?_
      refine Jp.y 20 rfl (qaa rfl) rfl rfl Kp.true (Y.eql rfl rfl rfl) ?_
      refine Jp.y 19 rfl (qaa rfl) rfl rfl Kp.true (Y.assign rfl rfl) ?_
      refine Jp.qae hK81 ?_
      refine Cd.qar rfl (fun g19=>?_) (fun g19=>?_)
      · skip
        try simp only [sG0] at g19
        refine Cd.seq fun K82 hK82=>?_
        refine Cd.qac [(0,false),(1,false),(2,false),(3,false),(4,false),(5,false),(6,false)] rfl rfl ?_
        refine Jp.y 21 rfl (qaa rfl) rfl rfl Kp.true (Y.move rfl rfl) ?_
        refine Jp.y 22 rfl (qaa rfl) rfl rfl Kp.true (Y.qaw rfl rfl underlying24 underlying21 (by rfl)) ?_
        refine Jp.y 23 rfl (qaa rfl) rfl rfl Kp.true (Y.move rfl rfl) ?_
        refine Jp.y 24 rfl (qaa rfl) rfl rfl Kp.true (Y.qaw rfl rfl underlying24 underlying21 (by rfl)) ?_
        refine Jp.y 25 rfl (qaa rfl) rfl rfl Kp.true (Y.lss rfl rfl rfl) ?_
        refine Jp.y 6 rfl (qaa rfl) rfl rfl Kp.true (Y.assign rfl rfl) ?_
        refine Jp.y 7 rfl (qaa rfl) rfl rfl Kp.true (Y.assign rfl rfl) ?_
        refine Jp.qae hK82 ?_
        refine Cd.ret [] rfl (qbx rfl rfl rfl) trivial ⟨rfl, by
          (obtain rfl : k = 4 := by omega
           rfl), rfl⟩
      · skip
        try simp only [sG0] at g19
        refine Cd.seq fun K83 hK83=>?_
        refine Cd.qac [(0,false),(1,false)] rfl rfl ?_
        refine Jp.y 27 rfl (qaa rfl) rfl rfl Kp.true (Y.eql rfl rfl rfl) ?_
        refine Jp.y 26 rfl (qaa rfl) rfl rfl Kp.true (Y.assign rfl rfl) ?_
        refine Jp.qae hK83 ?_
        refine Cd.qar rfl (fun g26=>?_) (fun g26=>?_)
        · skip
          try simp only [sG0] at g26
          refine Cd.seq fun K84 hK84=>?_
          refine Cd.qac [(0,false),(1,false),(2,false),(3,false),(4,false),(5,false),(6,false)] rfl rfl ?_
          refine Jp.y 28 rfl (qaa rfl) rfl rfl Kp.true (Y.move rfl rfl) ?_
          refine Jp.y 29 rfl (qaa rfl) rfl rfl Kp.true (Y.qaw rfl rfl underlying24 underlying21 (by rfl)) ?_
          refine Jp.y 30 rfl (qaa rfl) rfl rfl Kp.true (Y.move rfl rfl) ?_
          refine Jp.y 31 rfl (qaa rfl) rfl rfl Kp.true (Y.qaw rfl rfl underlying24 underlying21 (by rfl)) ?_
          refine Jp.y 32 rfl (qaa rfl) rfl rfl Kp.true (Y.geq rfl rfl rfl) ?_
          refine Jp.y 6 rfl (qaa rfl) rfl rfl Kp.true (Y.assign rfl rfl) ?_
          refine Jp.y 7 rfl (qaa rfl) rfl rfl Kp.true (Y.assign rfl rfl) ?_
          refine Jp.qae hK84 ?_
          refine Cd.ret [] rfl (qbx rfl rfl rfl) trivial ⟨rfl, by
            (obtain rfl : k = 5 := by omega
             rfl), rfl⟩
        · skip
          try simp only [sG0] at g26
          refine Cd.seq fun K85 hK85=>?_
          refine Cd.qac [(0,false),(1,false)] rfl rfl ?_
          refine Jp.y 34 rfl (qaa rfl) rfl rfl Kp.true (Y.eql rfl rfl rfl) ?_
          refine Jp.y 33 rfl (qaa rfl) rfl rfl Kp.true (Y.assign rfl rfl) ?_
          refine Jp.qae hK85 ?_
          refine Cd.qar rfl (fun g33=>?_) (fun g33=>?_)
          · skip
            try simp only [sG0] at g33
            refine Cd.seq fun K86 hK86=>?_
            refine Cd.qac [(0,false),(1,false),(2,false),(3,false),(4,false)] rfl rfl ?_
            refine Jp.y 35 rfl (qaa rfl) rfl rfl Kp.true (Y.move rfl rfl) ?_
            refine Jp.y 36 rfl (qaa rfl) rfl rfl Kp.true (Y.move rfl rfl) ?_
            refine Jp.y 37 rfl (qaa rfl) rfl rfl Kp.true (Y.lss rfl rfl rfl) ?_
            refine Jp.y 6 rfl (qaa rfl) rfl rfl Kp.true (Y.assign rfl rfl) ?_
            refine Jp.y 7 rfl (qaa rfl) rfl rfl Kp.true (Y.assign rfl rfl) ?_
            refine Jp.qae hK86 ?_
            refine Cd.ret [] rfl (qbx rfl rfl rfl) trivial ⟨rfl, by
              (obtain rfl : k = 6 := by omega
               exact tupB (test6 a b)), rfl⟩
          · skip
            try simp only [sG0] at g33
            refine Cd.seq fun K87 hK87=>?_
            refine Cd.qac [(0,false),(1,false)] rfl rfl ?_
            refine Jp.y 39 rfl (qaa rfl) rfl rfl Kp.true (Y.eql rfl rfl rfl) ?_
            refine Jp.y 38 rfl (qaa rfl) rfl rfl Kp.true (Y.assign rfl rfl) ?_
            refine Jp.qae hK87 ?_
            refine Cd.qar rfl (fun g38=>?_) (fun g38=>?_)
            · skip
              try simp only [sG0] at g38
              refine Cd.seq fun K88 hK88=>?_
              refine Cd.qac [(0,false),(1,false),(2,false),(3,false),(4,false)] rfl rfl ?_
              refine Jp.y 40 rfl (qaa rfl) rfl rfl Kp.true (Y.move rfl rfl) ?_
              refine Jp.y 41 rfl (qaa rfl) rfl rfl Kp.true (Y.move rfl rfl) ?_
              refine Jp.y 42 rfl (qaa rfl) rfl rfl Kp.true (Y.geq rfl rfl rfl) ?_
              refine Jp.y 6 rfl (qaa rfl) rfl rfl Kp.true (Y.assign rfl rfl) ?_
              refine Jp.y 7 rfl (qaa rfl) rfl rfl Kp.true (Y.assign rfl rfl) ?_
              refine Jp.qae hK88 ?_
              refine Cd.ret [] rfl (qbx rfl rfl rfl) trivial ⟨rfl, by
                (obtain rfl : k = 7 := by omega
                 exact tupB (test7 a b)), rfl⟩
            · skip
              try simp only [sG0] at g38
              refine Cd.over rfl hK75 ?_
              refine Cd.seq fun K89 hK89=>?_
              refine Cd.qac [(0,false),(1,false)] rfl rfl ?_
              refine Jp.y 6 rfl (qaa rfl) rfl rfl Kp.true (Y.assign rfl rfl) ?_
              refine Jp.y 7 rfl (qaa rfl) rfl rfl Kp.true (Y.assign rfl rfl) ?_
              refine Jp.qae hK89 ?_
              refine Cd.ret [] rfl (qbx rfl rfl rfl) trivial ⟨rfl, by
                (exfalso; omega), rfl⟩
theorem wrap_i8u (v : Nat) : IntKind.u32.wrap (IntKind.i32.wrap (IntKind.i8.wrap (v : Int))) = ((if v % 256 < 128 then v % 256 else v % 256 + 4294967040 : Nat) : Int):=by
 rw [quo_s32,u32_cast]
 simp only [IntKind.wrap,IntKind.bits,IntKind.signed]
 simp
 split <;> split <;> omega
theorem wrap_i16u (v : Nat) : IntKind.u32.wrap (IntKind.i32.wrap (IntKind.i16.wrap (v : Int))) = ((if v % 65536 < 32768 then v % 65536 else v % 65536 + 4294901760 : Nat) : Int):=by
 rw [quo_s32,u32_cast]
 simp only [IntKind.wrap,IntKind.bits,IntKind.signed]
 simp
 split <;> split <;> omega
theorem extend_spec (v n : Nat) : Spec Tryz.prog 90 #[.int .u32 v,.int .i64 n] (fun _=>True) []
    (fun ρ ρ' r L=>ρ' = ρ ∧ r = .int .u32 ((extP v n : Nat) : Int) ∧ L = []):=by
  refine Spec.of 19 Tryz.func90 rfl Tryz.ntmps90 [(0,_),(1,_)] rfl rfl ?_
  intro cx ρ hr h0
  refine Cd.seq fun K90 hK90=>?_
  refine Cd.qac [(0,false)] rfl rfl ?_
  refine Jp.y 4 rfl (qaa rfl) rfl rfl Kp.true (Y.assign rfl rfl) ?_
  refine Jp.qae hK90 ?_
  refine Cd.seq fun K91 hK91=>?_
  refine Cd.seq fun K92 hK92=>?_
  refine Cd.qac [(0,false)] rfl rfl ?_
  refine Jp.y 5 rfl (qaa rfl) rfl rfl Kp.true (Y.move rfl rfl) ?_
  refine Jp.qae hK92 ?_
  refine Cd.block ?_
  refine Cd.seq fun K93 hK93=>?_
  refine Cd.qac [(0,false),(1,false)] rfl rfl ?_
  refine Jp.y 7 rfl (qaa rfl) rfl rfl Kp.true (Y.eql rfl rfl rfl) ?_
  refine Jp.y 6 rfl (qaa rfl) rfl rfl Kp.true (Y.assign rfl rfl) ?_
  refine Jp.qae hK93 ?_
  refine Cd.qar rfl (fun g6=>?_) (fun g6=>?_)
  · skip
    try simp only [sG0] at g6
    refine Cd.seq fun K94 hK94=>?_
    refine Cd.qac [(0,false),(1,false),(2,false),(3,false),(4,false)] rfl rfl ?_
    refine Jp.y 8 rfl (qaa rfl) rfl rfl Kp.true (Y.move rfl rfl) ?_
    refine Jp.y 9 rfl (qaa rfl) rfl rfl Kp.true (Y.qaw rfl rfl underlying24 underlying186 (by rfl)) ?_
    refine Jp.y 10 rfl (qaa rfl) rfl rfl Kp.true (Y.qaw rfl rfl underlying186 underlying21 (by rfl)) ?_
    refine Jp.y 11 rfl (qaa rfl) rfl rfl Kp.true (Y.qaw rfl rfl underlying21 underlying24 (by rfl)) ?_
    refine Jp.y 4 rfl (qaa rfl) rfl rfl Kp.true (Y.assign rfl rfl) ?_
    refine Jp.qae hK94 ?_
    refine Cd.ret [] rfl (qbd rfl rfl) trivial ⟨rfl, by
      (obtain rfl : n = 8 := by omega
       exact congrArg (Value.int .u32) (wrap_i8u v)), rfl⟩
  · skip
    try simp only [sG0] at g6
    refine Cd.seq fun K95 hK95=>?_
    refine Cd.qac [(0,false),(1,false)] rfl rfl ?_
    refine Jp.y 13 rfl (qaa rfl) rfl rfl Kp.true (Y.eql rfl rfl rfl) ?_
    refine Jp.y 12 rfl (qaa rfl) rfl rfl Kp.true (Y.assign rfl rfl) ?_
    refine Jp.qae hK95 ?_
    refine Cd.qar rfl (fun g12=>?_) (fun g12=>?_)
    · skip
      try simp only [sG0] at g12
      refine Cd.seq fun K96 hK96=>?_
      refine Cd.qac [(0,false),(1,false),(2,false),(3,false),(4,false)] rfl rfl ?_
      refine Jp.y 14 rfl (qaa rfl) rfl rfl Kp.true (Y.move rfl rfl) ?_
      refine Jp.y 15 rfl (qaa rfl) rfl rfl Kp.true (Y.qaw rfl rfl underlying24 underlying187 (by rfl)) ?_
      refine Jp.y 16 rfl (qaa rfl) rfl rfl Kp.true (Y.qaw rfl rfl underlying187 underlying21 (by rfl)) ?_
      refine Jp.y 17 rfl (qaa rfl) rfl rfl Kp.true (Y.qaw rfl rfl underlying21 underlying24 (by rfl)) ?_
      refine Jp.y 4 rfl (qaa rfl) rfl rfl Kp.true (Y.assign rfl rfl) ?_
      refine Jp.qae hK96 ?_
      refine Cd.ret [] rfl (qbd rfl rfl) trivial ⟨rfl, by
        (obtain rfl : n = 16 := by omega
         exact congrArg (Value.int .u32) (wrap_i16u v)), rfl⟩
    · skip
      try simp only [sG0] at g12
      refine Cd.over rfl hK91 ?_
      refine Cd.seq fun K97 hK97=>?_
      refine Cd.qac [(0,false),(1,false)] rfl rfl ?_
      refine Jp.y 18 rfl (qaa rfl) rfl rfl Kp.true (Y.move rfl rfl) ?_
      refine Jp.y 4 rfl (qaa rfl) rfl rfl Kp.true (Y.assign rfl rfl) ?_
      refine Jp.qae hK97 ?_
      refine Cd.ret [] rfl (qbd rfl rfl) trivial ⟨rfl, by
        (rw [extP, if_neg (by omega), if_neg (by omega)]), rfl⟩
end Go.Proofs.YtnfkalpgidiafaaGreat

namespace Go.Proofs.YtnfkalpgidiafaaGreat
open Go
section
variable {P : Program} {n : Nat} {cx : Cx} {ρ : Hp} {E : Env} {L : Own} {ops : Array Oper} {Q : Exit → Act → World → Prop} {S' : World → Prop} {π : List (Nat × Bool)}
theorem Jp.joinR {r : Code} {K : Act → World → Prop} {Q'' : Exit → Act → World → Prop} {G : Type} (φ : G → Prop) (ro : G → Hp) (Ev : G → Env) (Ek : Env) (hEk : Subl Ek E) (Lv : G → Own) (Lk : Own) (hLk : Subl Lk L) (hK : ∀ a w,r.wp P Q'' a w → K a w)
  (main : ∀ g,φ g → Cd P Q'' n cx (ro g) (Ev g ++ Ek) (Lv g ++ Lk) r) (rest : (∀ g,φ g → Cd P Q'' n cx (ro g) (Ev g ++ Ek) (Lv g ++ Lk) r) → Jp P ops Q S' n cx π ρ E L) : Jp P ops Q S' n cx π ρ E L:=rest main
theorem Cd.joinR {r d : Code} {K : Act → World → Prop} {Q'' : Exit → Act → World → Prop} {G : Type} (φ : G → Prop) (ro : G → Hp) (Ev : G → Env) (Ek : Env) (hEk : Subl Ek E) (Lv : G → Own) (Lk : Own) (hLk : Subl Lk L) (hK : ∀ a w,r.wp P Q'' a w → K a w)
  (main : ∀ g,φ g → Cd P Q'' n cx (ro g) (Ev g ++ Ek) (Lv g ++ Lk) r) (rest : (∀ g,φ g → Cd P Q'' n cx (ro g) (Ev g ++ Ek) (Lv g ++ Lk) r) → Cd P Q n cx ρ E L d) : Cd P Q n cx ρ E L d:=rest main
end
end Go.Proofs.YtnfkalpgidiafaaGreat

namespace Go.Proofs.YtnfkalpgidiafaaGreat
open Go
section
variable {P : Program} {n : Nat} {cx : Cx} {ρ : Hp} {E : Env} {L : Own} {o : Oper} {ops : Array Oper} {Q : Exit → Act → World → Prop} {S' : World → Prop} {π : List (Nat × Bool)} {i : Nat} {v : Value}
theorem Y.sliceArrTo {x y : Operand} {t e : TypeId} {k : IntKind} {A : Addr} {len m hi : Nat} {z : Int} (hop : o.op = .slice t x none (some y) none) (hx : evE E x = some (.pointer (some A))) (hy : evE E y = some (.int k z)) (hT : P.underlying t = some (.array len e)) (hz : ∀ w,(sizeOf e).run P w = .ok m w)
  (hzi : z = (hi : Int)) (h1 : hi ≤ len) : Y P n cx ρ E L o (.slice (some A) hi len):=fun ac w ha hs=>by
 subst hzi
 have e1 : (if len = 0 then A else A.add (0 * m)) = A:=by
  split
  ·rfl
  ·simp [Addr.add]
 simp only [execOp,hop,Option.map_some,Option.map_none,ha.ev hx,ha.ev hy,Instr.sliceAt,Instr.sureAddr,Instr.sliceBounds,Sem.run_bind,Sem.run_pure,Result.andThen_ok,run_underlying hT,run_bound h1,hz,Bool.false_eq_true,if_false,e1,Nat.sub_zero]
theorem SetC.pt {b off : Nat} {cs cs' : Array Value} {T : TypeId} {fr : Nat × Nat} (hlt : off < cs.size) (hnf : noFr fr off) (hc : cs.setIfInBounds off v = cs') : SetC (Pt b (.cells cs T fr)) (Pt b (.cells cs' T fr)) b off v:=fun h hh=>by
 subst hc
 exact ⟨cs,T,fr,hh,hlt,hnf,by unfold Pt Hp.upd; rw [if_pos rfl]⟩
end
end Go.Proofs.YtnfkalpgidiafaaGreat

namespace Go.Proofs.YtnfkalpgidiafaaGreat
open Go
section
variable {P : Program} {n : Nat} {cx : Cx} {ρ : Hp} {E : Env} {L : Own} {o : Oper}
theorem Y.eqlS {x y : Operand} {t u : TypeId} {xs ys : Array Value} {r : Bool} (hop : o.op = .binOp .eql t x y u) (hx : evE E x = some (.agg xs)) (hy : evE E y = some (.agg ys)) (hm : P.eqGuardType P.depth t = false) (ht : P.underlying t = some (.struct (P.fieldsOf t))) (hp : P.stoodInHeld t = false)
  (hr : ∀ w,(Op.eqFields 9999 xs ys (P.fieldsOf t).toList).run P w = .ok r w) : Y P n cx ρ E L o (.bool r):=fun ac w ha _=>by
 have h1:=run_eqGuard_agg (P:=P) w .eql t x y xs ys hm
 have h2 : (binOp .eql t (.agg xs) (.agg ys)).run P w = .ok (.bool r) w:=by
  rw [run_eql_struct,run_equalIn_struct w 9999 t xs ys ht hp,hr w]; rfl
 simp only [execOp,hop,ha.ev hx,ha.ev hy,Sem.run_bind,h1,Result.andThen_ok,h2,Sem.run_pure]
theorem Y.neqS {x y : Operand} {t u : TypeId} {xs ys : Array Value} {r : Bool} (hop : o.op = .binOp .neq t x y u) (hx : evE E x = some (.agg xs)) (hy : evE E y = some (.agg ys)) (hm : P.eqGuardType P.depth t = false) (ht : P.underlying t = some (.struct (P.fieldsOf t))) (hp : P.stoodInHeld t = false)
  (hr : ∀ w,(Op.eqFields 9999 xs ys (P.fieldsOf t).toList).run P w = .ok r w) : Y P n cx ρ E L o (.bool (!r)):=fun ac w ha _=>by
 have h1:=run_eqGuard_agg (P:=P) w .neq t x y xs ys hm
 have h2 : (binOp .neq t (.agg xs) (.agg ys)).run P w = .ok (.bool (!r)) w:=by
  rw [run_neq_struct,run_equalIn_struct w 9999 t xs ys ht hp,hr w]; rfl
 simp only [execOp,hop,ha.ev hx,ha.ev hy,Sem.run_bind,h1,Result.andThen_ok,h2,Sem.run_pure]
theorem qbo {d : Nat} {xs ys : Array Value} {f : Field} {fs : List Field} {k k' : IntKind} {a b : Int} {r : Bool} {w : World} (hn : f.name ≠ "_") (hx : (part f.type xs f.offset).run P w = .ok (.int k a) w) (hy : (part f.type ys f.offset).run P w = .ok (.int k b) w) (ht : P.underlying f.type = some (.int k'))
  (hr : (Op.eqFields (d + 1) xs ys fs).run P w = .ok r w) : (Op.eqFields (d + 1) xs ys (f :: fs)).run P w = .ok ((a == b) && r) w:=by
 simp only [Op.eqFields,Sem.run_bind,Sem.run_ite,hn,ne_eq,not_false_eq_true,if_true,hx,hy,Result.andThen_ok,run_equalIn_int w d f.type k k' a b ht]
 cases hab : (a == b) <;> simp [hr,Sem.run_pure]
theorem qbl {e : TypeId} {xs : Array Value} {off : Nat} {v : Value} {w : World} (hA : ∀ w,(isAgg e).run P w = .ok false w) (hx : xs[off]? = some v) : (part e xs off).run P w = .ok v w:=by
 simp only [part,Sem.run_bind,hA,Result.andThen_ok,Bool.false_eq_true,if_false,hx,Sem.run_pure]
end
end Go.Proofs.YtnfkalpgidiafaaGreat

namespace Go.Proofs.YtnfkalpgidiafaaGreat
open Go
section
variable {P : Program} {n : Nat} {cx : Cx} {ρ : Hp} {E : Env} {L : Own} {o : Oper}
theorem eqItems_int {d : Nat} {e : TypeId} {k k' : IntKind} (hA : ∀ w,(isAgg e).run P w = .ok false w) (ht : P.underlying e = some (.int k')) (l m : List Int) (w : World) : ∀ is : List Nat,(∀ i ∈ is,i < l.length ∧ i < m.length) →
  (Op.eqItems (d + 1) e 1 (l.map (Value.int k)).toArray (m.map (Value.int k)).toArray is).run P w = .ok (is.all fun i=>l.getD i 0 == m.getD i 0) w
 | [],_=>by simp [Op.eqItems,Sem.run_pure]
 | i :: is,h=>by
  obtain ⟨h1,h2⟩:=h i (List.mem_cons_self ..)
  have p1 : (part e (l.map (Value.int k)).toArray (i * 1)).run P w = .ok (.int k (l.getD i 0)) w:=qbl hA (by simp [h1,List.getD_eq_getElem?_getD])
  have p2 : (part e (m.map (Value.int k)).toArray (i * 1)).run P w = .ok (.int k (m.getD i 0)) w:=qbl hA (by simp [h2,List.getD_eq_getElem?_getD])
  have ih:=eqItems_int (d:=d) (k:=k) hA ht l m w is fun j hj=>h j (List.mem_cons_of_mem _ hj)
  simp only [Op.eqItems,Sem.run_bind,p1,p2,Result.andThen_ok,run_equalIn_int w d e k k' _ _ ht,List.all_cons]
  cases hab : (l.getD i 0 == m.getD i 0) <;> simp [ih,Sem.run_pure]
theorem all_eq {l m : List Int} {n : Nat} (h1 : l.length = n) (h2 : m.length = n) : ((List.range n).all fun i=>l.getD i 0 == m.getD i 0) = decide (l = m):=by
 rw [Bool.eq_iff_iff,List.all_eq_true,decide_eq_true_eq]
 constructor
 ·intro h
  apply List.ext_getElem (by omega)
  intro i hi1 hi2
  have:=h i (List.mem_range.2 (by omega))
  simpa [List.getD_eq_getElem?_getD,hi1,hi2] using this
 ·intro h i _; subst h; simp
theorem equal_arr {d : Nat} {t e : TypeId} {k k' : IntKind} {len : Nat} {l m : List Int} (hu : P.underlying t = some (.array len e)) (hi : (P.info? e).isSome = true) (hc : P.cellsOf e = 1) (hA : ∀ w,(isAgg e).run P w = .ok false w) (ht : P.underlying e = some (.int k')) (h1 : l.length = len) (h2 : m.length = len) (w : World) :
  (Op.equalIn (d + 2) t (.agg (l.map (Value.int k)).toArray) (.agg (m.map (Value.int k)).toArray)).run P w = .ok (decide (l = m)) w:=by
 obtain ⟨i,hi⟩:=Option.isSome_iff_exists.1 hi
 rw [run_equalIn_array w (d + 1) _ _ hu hi,hc,eqItems_int hA ht l m w _ (fun j hj=>by have:=List.mem_range.1 hj; omega),all_eq h1 h2]
theorem Y.eqlV {x y : Operand} {t u : TypeId} {xs ys : Array Value} {r : Bool} (hop : o.op = .binOp .eql t x y u) (hx : evE E x = some (.agg xs)) (hy : evE E y = some (.agg ys)) (hm : P.eqGuardType P.depth t = false)
  (hr : ∀ w,(Op.equalIn 10000 t (.agg xs) (.agg ys)).run P w = .ok r w) : Y P n cx ρ E L o (.bool r):=fun ac w ha _=>by
 have h1:=run_eqGuard_agg (P:=P) w .eql t x y xs ys hm
 have h2 : (binOp .eql t (.agg xs) (.agg ys)).run P w = .ok (.bool r) w:=by
  rw [run_eql_struct,hr w]; rfl
 simp only [execOp,hop,ha.ev hx,ha.ev hy,Sem.run_bind,h1,Result.andThen_ok,h2,Sem.run_pure]
theorem eqFields_any {d : Nat} {xs ys : Array Value} {f : Field} {fs : List Field} {vx vy : Value} {r1 r : Bool} {w : World} (hn : f.name ≠ "_") (hx : (part f.type xs f.offset).run P w = .ok vx w) (hy : (part f.type ys f.offset).run P w = .ok vy w) (he : (Op.equalIn d f.type vx vy).run P w = .ok r1 w)
  (hr : (Op.eqFields d xs ys fs).run P w = .ok r w) : (Op.eqFields d xs ys (f :: fs)).run P w = .ok (r1 && r) w:=by
 simp only [Op.eqFields,Sem.run_bind,Sem.run_ite,hn,ne_eq,not_false_eq_true,if_true,hx,hy,Result.andThen_ok,he]
 cases r1 <;> simp [hr,Sem.run_pure]
end
theorem qgh (b : List UInt8) : qaf b = (b.map fun x=>(x.toNat : Int)).map (Value.int .u8):=by
 rw [qaf,List.map_map]; rfl
theorem bytes_dec (a b : List UInt8) : decide ((a.map fun x : UInt8=>(x.toNat : Int)) = b.map fun x=>(x.toNat : Int)) = decide (a = b):=by
 rw [Bool.eq_iff_iff,decide_eq_true_eq,decide_eq_true_eq]
 constructor
 ·intro h
  have h2:=congrArg (List.map fun z : Int=>UInt8.ofNat z.toNat) h
  rw [List.map_map,List.map_map] at h2
  have e : ((fun z : Int=>UInt8.ofNat z.toNat) ∘ fun x : UInt8=>(x.toNat : Int)) = id:=by funext x; simp
  rwa [e,List.map_id,List.map_id] at h2
 ·intro h; rw [h]
end Go.Proofs.YtnfkalpgidiafaaGreat

namespace Go.Proofs.YtnfkalpgidiafaaGreat
open Go
theorem HasC.pt {b off : Nat} {cs : Array Value} {T : TypeId} {fr : Nat × Nat} {v : Value} (h : cs[off]? = some v) : HasC (Pt b (.cells cs T fr)) ⟨b,off,none⟩ v:=fun k hk=>by
 have hk : k b = some (.cells cs T fr):=hk
 simp [qed,hk,h]
theorem spl_all {cur : Array Value} {cs : List Value} (h : cs.length = cur.size) : spl cur 0 cs = cs.toArray:=by
 apply Array.ext_getElem?
 intro j
 rw [spl_get cs cur 0 j (by omega)]
 by_cases hj : j < cs.length
 ·rw [if_pos ⟨Nat.zero_le _,by omega⟩]; simp
 ·rw [if_neg (by omega)]
  have h1 : cur[j]? = none:=by rw [Array.getElem?_eq_none_iff]; omega
  rw [h1]; simp; omega
section
variable {P : Program} {n : Nat} {cx : Cx} {ρ : Hp} {E : Env} {L : Own} {o : Oper} {ops : Array Oper} {Q : Exit → Act → World → Prop} {S : World → Prop} {π : List (Nat × Bool)} {i : Nat} {v : Value}
theorem Jp.qai (j : Nat) {x y : Operand} {t : TypeId} {b m : Nat} {cur : Array Value} {cs : List Value} {T : TypeId} {fr : Nat × Nat} (hi : nth ops.toList i = some o) (hw : qgl n ops E o true) (he : o.dst = none)
  (hop : o.op = .store t x y) (hz : ∀ w,(sizeOf t).run P w = .ok m w) (hx : evE E x = some (.pointer (some ⟨b,0,none⟩))) (hy : evE E y = some (.agg cs.toArray)) (h1' : cs.all one = true) (hm : cs.length = m)
  (hj : look L j = some (Pt b (.cells cur T fr))) (hlt' : cur.size = m) (hfr : ∀ k,0 ≤ k → k < 0 + m → noFr fr k)
  (hk : Kp π S cx ρ ((j,Pt b (.cells cs.toArray T fr)) :: L)) (h : Jp P ops Q S n cx π ρ E ((j,Pt b (.cells cs.toArray T fr)) :: L)) :
  Jp P ops Q S n cx ((i,false) :: π) ρ E L:=by
 have e:=spl_all (cur:=cur) (cs:=cs) (by omega)
 refine Jp.qcb j hi hw he hop hz hx hy h1' hm hj (Nat.ble_eq_true_of_le (by omega)) hfr ?_ ?_
 ·rw [e]; exact hk
 ·rw [e]; exact h
theorem resTC (j : Nat) {fn : Func} {s u : Tmp} {t : TypeId} {b m : Nat} {cs : List Value} {T : TypeId} {fr : Nat × Nat} {x : Value} (h : fn.results = #[.tmp u,.cell s t]) (hu : look E u = some x) (he : look E s = some (.pointer (some ⟨b,0,none⟩))) (hA : ∀ w,(isAgg t).run P w = .ok true w) (hz : ∀ w,(sizeOf t).run P w = .ok m w)
  (hj : look L j = some (Pt b (.cells cs.toArray T fr))) (hm : cs.length = m) : ∀ a w,At n E a → St cx ρ L w → (results fn a.tmps).run P w = .ok (.tuple #[x,.agg cs.toArray]) w:=fun a w ha hs=>by
 have h1:=ha.slot s _ he
 have h3:=ha.slot u _ hu
 have hb:=hs.pt hj
 have hc : ∀ k v,cs[k]? = some v → w.cell? ((⟨b,0,none⟩ : Addr).add k) = some v:=fun k v e=>by rw [qcy]; simp [World.cell?,hb,e]
 subst hm
 have h2 : (loadVar t ⟨b,0,none⟩).run P w = .ok (.agg cs.toArray) w:=by
  simp only [loadVar,Sem.run_bind,Sem.run_pure,Result.andThen_ok,hA,hz,if_true,run_loadCells_list w _ cs hc]
 simp [results,h,h1,h3,asAddr,h2]
end
end Go.Proofs.YtnfkalpgidiafaaGreat

namespace Go.Proofs.YtnfkalpgidiafaaGreat
open _root_.Go.Proofs.Tryz
open Go
theorem or8 (a b : UInt8) : qci .or .u8 (a.toNat : Int) (b.toNat : Int) = ((a ||| b).toNat : Int):=by
 have ha:=a.toNat_lt
 have hb:=b.toNat_lt
 show IntKind.u8.wrap ((BitVec.ofInt 8 (a.toNat : Int) ||| BitVec.ofInt 8 (b.toNat : Int)).toNat : Int) = _
 rw [BitVec.toNat_or,qck 8 a.toNat ha,qck 8 b.toNat hb,UInt8.toNat_or]
 have hc : a.toNat ||| b.toNat < 2 ^ 8:=Nat.or_lt_two_pow ha hb
 simp only [IntKind.wrap,IntKind.bits,IntKind.signed]
 simp
 omega
theorem qbf {l : qal} {i : Nat} {x : UInt8} (h : l[i]? = some x) : (qaf l).toArray[i]? = some (.int .u8 (x.toNat : Int)):=by
 simp [qaf,h]
theorem bytesV_put (l : qal) (i : Nat) (u : UInt8) : (qaf l).toArray.setIfInBounds i (.int .u8 (u.toNat : Int)) = (qaf (l.set i u)).toArray:=by
 rw [List.setIfInBounds_toArray]
 congr 1
 simp [qaf,List.map_set]
theorem qfg (l : qal) : (qaf l).toArray.size = l.length:=by simp [qaf]
theorem qaz (l : qal) : (qaf l).length = l.length:=by simp [qaf]
theorem SetC.tag {b i : Nat} {l l' : qal} (u : UInt8) (h4 : l.length = 4) (hi : i < 4) (hl : l.set i u = l') : SetC (Pt b (.cells (qaf l).toArray 40)) (Pt b (.cells (qaf l').toArray 40)) b i (.int .u8 (u.toNat : Int)) :=
 SetC.pt (by rw [qfg]; omega) (qas _) (by rw [bytesV_put,hl])
theorem four {l : qal} (h : l.length = 4) : ∃ a b c d,l = [a,b,c,d]:=by
 match l,h with
 | [a,b,c,d],_=>exact ⟨a,b,c,d,rfl⟩
def allT (t : qal) : UInt8:=t.getD 0 0 ||| t.getD 1 0 ||| t.getD 2 0 ||| t.getD 3 0
theorem qcu (t : qal) (ht : t.length = 4) : Spec Tryz.prog 38 #[.agg (qaf t).toArray] (fun _=>True) [] (fun ρ ρ' v L=>ρ' = ρ ∧ v = .int .u8 ((allT t).toNat : Int) ∧ L = []):=by
 obtain ⟨a,b,c,d,rfl⟩:=four ht
 refine Spec.of 14 Tryz.func38 rfl Tryz.ntmps38 [(0,_)] rfl rfl ?_
 intro cx ρ hr h0
 refine Cd.seq fun K1 hK1=>?_
 refine Cd.qac [(0,false),(1,false)] rfl rfl ?_
 refine Jp.box 1 1 rfl (qaa rfl) rfl rfl rfl rfl fun b1=>⟨Kp.true,?_⟩
 refine Jp.y 2 rfl (qaa rfl) rfl rfl Kp.true (Y.assign rfl rfl) ?_
 refine Jp.qae hK1 ?_
 refine Cd.seq fun K2 hK2=>?_
 refine Cd.qac [(0,false),(1,false),(2,false),(3,false),(4,false),(5,false),(6,false),(7,false),(8,false),(9,false),(10,false),(11,false)] rfl rfl ?_
 refine Jp.y 3 rfl (qaa rfl) rfl rfl Kp.true (Y.qam rfl rfl rfl underlying40 sizeOf5 (by first | decide | omega) (by first | decide | omega) rfl) ?_
 refine Jp.y 4 rfl (qaa rfl) rfl rfl Kp.true (Y.qau 1 rfl isAgg5 rfl rfl rfl) ?_
 refine Jp.y 5 rfl (qaa rfl) rfl rfl Kp.true (Y.qam rfl rfl rfl underlying40 sizeOf5 (by first | decide | omega) (by first | decide | omega) rfl) ?_
 refine Jp.y 6 rfl (qaa rfl) rfl rfl Kp.true (Y.qau 1 rfl isAgg5 rfl rfl rfl) ?_
 refine Jp.y 7 rfl (qaa rfl) rfl rfl Kp.true (Y.bits rfl rfl rfl rfl) ?_
 refine Jp.y 8 rfl (qaa rfl) rfl rfl Kp.true (Y.qam rfl rfl rfl underlying40 sizeOf5 (by first | decide | omega) (by first | decide | omega) rfl) ?_
 refine Jp.y 9 rfl (qaa rfl) rfl rfl Kp.true (Y.qau 1 rfl isAgg5 rfl rfl rfl) ?_
 refine Jp.y 10 rfl (qaa rfl) rfl rfl Kp.true (Y.bits rfl rfl rfl rfl) ?_
 refine Jp.y 11 rfl (qaa rfl) rfl rfl Kp.true (Y.qam rfl rfl rfl underlying40 sizeOf5 (by first | decide | omega) (by first | decide | omega) rfl) ?_
 refine Jp.y 12 rfl (qaa rfl) rfl rfl Kp.true (Y.qau 1 rfl isAgg5 rfl rfl rfl) ?_
 refine Jp.y 13 rfl (qaa rfl) rfl rfl Kp.true (Y.bits rfl rfl rfl rfl) ?_
 refine Jp.y 2 rfl (qaa rfl) rfl rfl Kp.true (Y.assign rfl rfl) ?_
 refine Jp.qae hK2 ?_
 refine Cd.ret [] rfl (qbd rfl rfl) trivial ⟨rfl,congrArg (Value.int .u8) (by rw [or8,or8,or8]; rfl),rfl⟩
theorem qfx (l : UInt8) : Spec Tryz.prog 79 #[.int .u8 (l.toNat : Int)] (fun _=>True) [] (fun ρ ρ' v L=>ρ' = ρ ∧ v = .agg (qaf (List.replicate 4 l)).toArray ∧ L = []):=by
 refine Spec.of 8 Tryz.func79 rfl Tryz.ntmps79 [(0,_)] rfl rfl ?_
 intro cx ρ hr h0
 refine Cd.seq fun K3 hK3=>?_
 refine Cd.qac [(0,false)] rfl rfl ?_
 refine Jp.alloc 1 2 rfl (qaa rfl) rfl rfl rfl zeroValue40 fun b1=>⟨Kp.true,?_⟩
 refine Jp.qae hK3 ?_
 refine Cd.seq fun K4 hK4=>?_
 refine Cd.qac [(0,false),(1,false),(2,false),(3,false),(4,false),(5,false)] rfl rfl ?_
 refine Jp.y 3 rfl (qaa rfl) rfl rfl Kp.true (Y.move rfl rfl) ?_
 refine Jp.y 4 rfl (qaa rfl) rfl rfl Kp.true (Y.move rfl rfl) ?_
 refine Jp.y 5 rfl (qaa rfl) rfl rfl Kp.true (Y.move rfl rfl) ?_
 refine Jp.y 6 rfl (qaa rfl) rfl rfl Kp.true (Y.move rfl rfl) ?_
 refine Jp.y 7 rfl (qaa rfl) rfl rfl Kp.true (Y.array [(0,_),(1,_),(2,_),(3,_)] [_,_,_,_] rfl rfl underlying40 sizeOf5 zeroValue40 rfl) ?_
 refine Jp.qcb 1 rfl (qaa rfl) rfl rfl sizeOf40 rfl rfl rfl rfl rfl rfl (fun k _ _=>qas k) Kp.true ?_
 refine Jp.qae hK4 ?_
 refine Cd.ret [] rfl (by exact qfb 1 rfl rfl isAgg40 sizeOf40 rfl rfl) trivial ⟨rfl,rfl,rfl⟩
def qfh (a b : qal) (i : Nat) : qal:=List.zipWith (· ||| ·) (a.take i) (b.take i) ++ a.drop i
def qdr (a b : qal) : qal:=List.zipWith (· ||| ·) a b
theorem joinTo_len {a b : qal} (ha : a.length = 4) (hb : b.length = 4) {i : Nat} (hi : i ≤ 4) : (qfh a b i).length = 4:=by
 simp [qfh,ha,hb]; omega
theorem joinTo_get {a b : qal} (ha : a.length = 4) (hb : b.length = 4) {i : Nat} (hi : i < 4) : (qfh a b i)[i]? = a[i]?:=by
 rw [qfh,List.getElem?_append_right (by simp; omega),List.getElem?_drop]
 congr 1
 simp; omega
theorem joinTo_set {a b : qal} (ha : a.length = 4) (hb : b.length = 4) {i : Nat} (hi : i < 4) {x y : UInt8} (hx : a[i]? = some x) (hy : b[i]? = some y) : (qfh a b i).set i (x ||| y) = qfh a b (i + 1):=by
 obtain ⟨a0,a1,a2,a3,rfl⟩:=four ha
 obtain ⟨b0,b1,b2,b3,rfl⟩:=four hb
 rcases (show i = 0 ∨ i = 1 ∨ i = 2 ∨ i = 3 by omega) with rfl | rfl | rfl | rfl <;> (simp at hx hy; subst hx hy; rfl)
theorem joinTo_all {a b : qal} (ha : a.length = 4) (hb : b.length = 4) : qfh a b 4 = qdr a b:=by
 simp [qfh,qdr,List.take_of_length_le,ha,hb]
theorem qeb {a b : qal} (ha : a.length = 4) (hb : b.length = 4) : (qdr a b).length = 4:=by simp [qdr,ha,hb]
theorem qea (a b : qal) (ha : a.length = 4) (hb : b.length = 4) : Spec Tryz.prog 44 #[.agg (qaf a).toArray,.agg (qaf b).toArray] (fun _=>True) [] (fun ρ ρ' v L=>ρ' = ρ ∧ v = .agg (qaf (qdr a b)).toArray ∧ L = []):=by
 refine Spec.of 19 Tryz.func44 rfl Tryz.ntmps44 [(0,_),(1,_)] rfl rfl ?_
 intro cx ρ hr h0
 have hjl:=qaz (qdr a b)
 rw [qeb ha hb] at hjl
 have hjo:=qbe (qdr a b)
 refine Cd.seq fun K5 hK5=>?_
 refine Cd.qac [(0,false),(1,false),(2,false)] rfl rfl ?_
 refine Jp.box 2 2 rfl (qaa rfl) rfl rfl rfl rfl fun b2=>⟨Kp.true,?_⟩
 refine Jp.box 3 3 rfl (qaa rfl) rfl rfl rfl rfl fun b3=>⟨Kp.true,?_⟩
 refine Jp.alloc 4 4 rfl (qaa rfl) rfl rfl rfl zeroValue40 fun b4=>⟨Kp.true,?_⟩
 refine Jp.qae hK5 ?_
 refine Cd.seq fun K6 hK6=>?_
 refine Cd.seq fun K7 hK7=>?_
 refine Cd.qac [(0,false)] rfl rfl ?_
 refine Jp.y 6 rfl (qaa rfl) rfl rfl Kp.true (Y.move rfl rfl) ?_
 refine Jp.qae hK7 ?_
 refine Cd.block ?_
 refine Cd.imp (i:=2) rfl (fun h hh=>(show Pt b2 (.cells (qaf (qfh a b 0)).toArray 40) h from hh)) ?_
 refine Cd.qdv (G:=Nat) (fun i=>i ≤ 4) (fun i=>4 - i) (fun _=>_) (fun i=>[(6,.int .i64 (i : Int))]) [(2,_),(3,_),(4,_)] (fun i=>[(2,Pt b2 (.cells (qaf (qfh a b i)).toArray 40))]) [(3,_),(4,_)] 0 (Nat.zero_le _) rfl ⟨rfl,trivial⟩ ⟨rfl,rfl,rfl,trivial⟩ ⟨rfl,trivial⟩ ⟨rfl,rfl,trivial⟩ (fun g KLz hok hLz=>?_)
 obtain ⟨i,hi⟩ : ∃ i,i = g:=⟨_,rfl⟩
 rw [← hi] at hok ⊢
 have hok4 : i ≤ 4:=hok
 refine Cd.seq fun K8 hK8=>?_
 refine Cd.qac [(0,false)] rfl rfl ?_
 refine Jp.y 7 rfl (qaa rfl) rfl rfl Kp.true (Y.lss rfl rfl rfl) ?_
 refine Jp.qae hK8 ?_
 refine Cd.seq fun K9 hK9=>?_
 refine Cd.qar rfl (fun ga=>?_) (fun ga=>?_)
 ·have hi4 : i < 4:=by simp at ga; omega
  obtain ⟨x,hx⟩ : ∃ x,a[i]? = some x:=⟨_,List.getElem?_eq_getElem (by omega)⟩
  obtain ⟨y,hy⟩ : ∃ y,b[i]? = some y:=⟨_,List.getElem?_eq_getElem (by omega)⟩
  have hx2 : (qfh a b i)[i]? = some x:=by rw [joinTo_get ha hb hi4,hx]
  refine Cd.qbu hK9 ?_
  refine Cd.seq fun K10 hK10=>?_
  refine Cd.block ?_
  refine Cd.seq fun K11 hK11=>?_
  refine Cd.qac [(0,false),(1,false)] rfl rfl ?_
  refine Jp.y 8 rfl (qaa rfl) rfl rfl Kp.true (Y.move rfl rfl) ?_
  refine Jp.y 5 rfl (qaa rfl) rfl rfl Kp.true (Y.assign rfl rfl) ?_
  refine Jp.qae hK11 ?_
  refine Cd.drawn3 [(2,_),(3,_)] ⟨rfl,rfl,trivial⟩ [] [(0,true),(1,true),(2,true),(3,true),(4,true),(5,true),(6,true),(7,true)] 8 [] follows (by kernel_rfl) (fun hrl=>?_)
  refine Jp2.head ?_
  refine Jp.q 9 rfl (qaa rfl) rfl rfl (Y.move rfl rfl) ?_
  refine Jp.q 10 rfl (qaa rfl) rfl rfl (Y.qam (q:=i) rfl rfl rfl underlying40 sizeOf5 (by omega) (by omega) (by omega)) ?_
  refine Jp.q 11 rfl (qaa rfl) rfl rfl (by exact Y.qbg 2 rfl isAgg5 rfl rfl (HasC.pt (qbf hx2))) ?_
  refine Jp.q 12 rfl (qaa rfl) rfl rfl (Y.move rfl rfl) ?_
  refine Jp.q 13 rfl (qaa rfl) rfl rfl (Y.qam (q:=i) rfl rfl rfl underlying40 sizeOf5 (by omega) (by omega) (by omega)) ?_
  refine Jp.q 14 rfl (qaa rfl) rfl rfl (by exact Y.qbg 3 rfl isAgg5 rfl rfl (HasC.pt (qbf hy))) ?_
  refine Jp.q 15 rfl (qaa rfl) rfl rfl (Y.bits rfl rfl rfl rfl) ?_
  refine Jp.slot 15 rfl (show _ = Value.int .u8 ((x ||| y : UInt8).toNat : Int) from congrArg (Value.int .u8) (or8 x y)) ?_
  refine Jp.q 16 rfl (qaa rfl) rfl rfl (Y.qam (q:=i) rfl rfl rfl underlying40 sizeOf5 (by omega) (by omega) (by omega)) ?_
  refine Jp2.tail ?_
  refine Jp2.loud ?_
  refine Jp.qct 2 (Pt b2 (.cells (qaf (qfh a b (i + 1))).toArray 40)) rfl (qaa rfl) rfl rfl sizeOf5 rfl rfl rfl rfl rfl (SetC.tag (x ||| y) (joinTo_len ha hb hok4) hi4 (joinTo_set ha hb hi4 hx hy)) Kp.true ?_
  refine Jp2.tail ?_
  refine Jp2.nil ?_
  refine Jp.over rfl hK10 ?_
  refine Cd.qac [(0,false),(1,false)] rfl rfl ?_
  refine Jp.y 17 rfl (qaa rfl) rfl rfl Kp.true (Y.qcj rfl rfl rfl (by exact qaj (by omega) (by omega))) ?_
  refine Jp.y 6 rfl (qaa rfl) rfl rfl Kp.true (Y.move rfl rfl) ?_
  rw [show (i : Int) + 1 = ((i + 1 : Nat) : Int) by omega]
  refine Jp.again hLz (i + 1) hi4 (by omega) rfl ⟨rfl,rfl,rfl,rfl,trivial⟩ ⟨rfl,rfl,rfl,trivial⟩
 ·have hi4 : i = 4:=by simp at ga; omega
  rw [hi4,joinTo_all ha hb]
  refine Cd.exit rfl hK6 ?_
  refine Cd.seq fun K12 hK12=>?_
  refine Cd.qac [(0,false),(1,false)] rfl rfl ?_
  refine Jp.y 18 rfl (qaa rfl) rfl rfl Kp.true (by exact Y.qah 2 rfl isAgg40 sizeOf40 rfl rfl (by first | rfl | assumption)) ?_
  refine Jp.qai 4 rfl (qaa rfl) rfl rfl sizeOf40 rfl rfl (by first | rfl | assumption) (by first | rfl | assumption) rfl (by first | rfl | assumption) (fun k _ _=>qas k) Kp.true ?_
  refine Jp.qae hK12 ?_
  refine Cd.ret [] rfl (by exact qfb 4 rfl rfl isAgg40 sizeOf40 rfl (by first | rfl | assumption)) trivial ⟨rfl,rfl,rfl⟩
end Go.Proofs.YtnfkalpgidiafaaGreat

namespace Go.Proofs.YtnfkalpgidiafaaGreat
open _root_.Go.Proofs.Tryz
open Go
theorem qft {l : qal} {i : Nat} (h : i < l.length) : l[i]? = some (l.getD i 0):=by simp [List.getD_eq_getElem?_getD,h]
def upN (t : qal) : Nat → qal
 | 0=>t
 | k + 1=>(upN t k).set (k + 1) ((upN t k).getD (k + 1) 0 ||| (upN t k).getD k 0)
theorem upN_len (t : qal) : ∀ k,(upN t k).length = t.length
 | 0=>rfl
 | k + 1=>by rw [upN,List.length_set,upN_len t k]
def upT (t : qal) : qal:=upN t 3
theorem up_spec (t : qal) (ht : t.length = 4) : Spec Tryz.prog 83 #[.agg (qaf t).toArray] (fun _=>True) [] (fun ρ ρ' v L=>ρ' = ρ ∧ v = .agg (qaf (upT t)).toArray ∧ L = []):=by
 refine Spec.of 18 Tryz.func83 rfl Tryz.ntmps83 [(0,_)] rfl rfl ?_
 intro cx ρ hr h0
 have hjl : (qaf (upN t 3)).length = 4:=by rw [qaz,upN_len,ht]
 have hjo:=qbe (upN t 3)
 refine Cd.seq fun K1 hK1=>?_
 refine Cd.qac [(0,false),(1,false)] rfl rfl ?_
 refine Jp.box 1 1 rfl (qaa rfl) rfl rfl rfl rfl fun b1=>⟨Kp.true,?_⟩
 refine Jp.alloc 2 2 rfl (qaa rfl) rfl rfl rfl zeroValue40 fun b2=>⟨Kp.true,?_⟩
 refine Jp.qae hK1 ?_
 refine Cd.seq fun K2 hK2=>?_
 refine Cd.seq fun K3 hK3=>?_
 refine Cd.qac [(0,false)] rfl rfl ?_
 refine Jp.y 3 rfl (qaa rfl) rfl rfl Kp.true (Y.assign rfl rfl) ?_
 refine Jp.qae hK3 ?_
 refine Cd.block ?_
 refine Cd.imp (i:=1) rfl (fun h hh=>(show Pt b1 (.cells (qaf (upN t 0)).toArray 40) h from hh)) ?_
 refine Cd.qdv (G:=Nat) (fun k=>k ≤ 3) (fun k=>3 - k) (fun _=>_) (fun k=>[(3,.int .i64 ((k + 1 : Nat) : Int))]) [(1,_),(2,_)] (fun k=>[(1,Pt b1 (.cells (qaf (upN t k)).toArray 40))]) [(2,_)] 0 (Nat.zero_le _) rfl ⟨rfl,trivial⟩ ⟨rfl,rfl,trivial⟩ ⟨rfl,trivial⟩ ⟨rfl,trivial⟩ (fun g KLz hok hLz=>?_)
 obtain ⟨k,hk⟩ : ∃ k,k = g:=⟨_,rfl⟩
 rw [← hk] at hok ⊢
 have hk3 : k ≤ 3:=hok
 have hl:=upN_len t k
 refine Cd.seq fun K4 hK4=>?_
 refine Cd.seq fun K5 hK5=>?_
 refine Cd.qac [(0,false),(1,false)] rfl rfl ?_
 refine Jp.y 4 rfl (qaa rfl) rfl rfl Kp.true (Y.move rfl rfl) ?_
 refine Jp.y 5 rfl (qaa rfl) rfl rfl Kp.true (Y.lss rfl rfl rfl) ?_
 refine Jp.qae hK5 ?_
 refine Cd.qar rfl (fun ga=>?_) (fun ga=>?_)
 ·have hk4 : k < 3:=by simp at ga; omega
  have hx:=qft (l:=upN t k) (i:=k + 1) (by omega)
  have hy:=qft (l:=upN t k) (i:=k) (by omega)
  refine Cd.qbu hK4 ?_
  refine Cd.seq fun K6 hK6=>?_
  refine Cd.block ?_
  refine Cd.drawn3 [(1,_)] ⟨rfl,trivial⟩ [] [(0,true),(1,true),(2,true),(3,true),(4,true),(5,true),(6,true),(7,true),(8,true)] 9 [] follows (by kernel_rfl) (fun hrl=>?_)
  refine Jp2.head ?_
  refine Jp.q 8 rfl (qaa rfl) rfl rfl (Y.move rfl rfl) ?_
  refine Jp.q 9 rfl (qaa rfl) rfl rfl (Y.qam (q:=k + 1) rfl rfl rfl underlying40 sizeOf5 (by omega) (by omega) (by omega)) ?_
  refine Jp.q 10 rfl (qaa rfl) rfl rfl (by exact Y.qbg 1 rfl isAgg5 rfl rfl (HasC.pt (qbf hx))) ?_
  refine Jp.q 11 rfl (qaa rfl) rfl rfl (Y.move rfl rfl) ?_
  refine Jp.q 12 rfl (qaa rfl) rfl rfl (Y.qfm rfl rfl rfl (by exact qaj (by omega) (by omega))) ?_
  refine Jp.slot 12 rfl (show _ = Value.int .i64 (k : Int) from congrArg (Value.int .i64) (by omega)) ?_
  refine Jp.q 13 rfl (qaa rfl) rfl rfl (Y.qam (q:=k) rfl rfl rfl underlying40 sizeOf5 (by omega) (by omega) (by omega)) ?_
  refine Jp.q 14 rfl (qaa rfl) rfl rfl (by exact Y.qbg 1 rfl isAgg5 rfl rfl (HasC.pt (qbf hy))) ?_
  refine Jp.q 15 rfl (qaa rfl) rfl rfl (Y.bits rfl rfl rfl rfl) ?_
  refine Jp.slot 15 rfl (show _ = Value.int .u8 (((upN t k).getD (k + 1) 0 ||| (upN t k).getD k 0 : UInt8).toNat : Int) from congrArg (Value.int .u8) (or8 _ _)) ?_
  refine Jp.q 16 rfl (qaa rfl) rfl rfl (Y.qam (q:=k + 1) rfl rfl rfl underlying40 sizeOf5 (by omega) (by omega) (by omega)) ?_
  refine Jp2.tail ?_
  refine Jp2.loud ?_
  refine Jp.qct 1 (Pt b1 (.cells (qaf (upN t (k + 1))).toArray 40)) rfl (qaa rfl) rfl rfl sizeOf5 rfl rfl rfl rfl rfl (SetC.tag _ (by omega) (by omega) rfl) Kp.true ?_
  refine Jp2.tail ?_
  refine Jp2.nil ?_
  refine Jp.over rfl hK6 ?_
  refine Cd.qac [(0,false),(1,false),(2,false)] rfl rfl ?_
  refine Jp.y 6 rfl (qaa rfl) rfl rfl Kp.true (Y.move rfl rfl) ?_
  refine Jp.y 7 rfl (qaa rfl) rfl rfl Kp.true (Y.qcj rfl rfl rfl (by exact qaj (by omega) (by omega))) ?_
  refine Jp.y 3 rfl (qaa rfl) rfl rfl Kp.true (Y.assign rfl rfl) ?_
  rw [show ((k + 1 : Nat) : Int) + 1 = ((k + 1 + 1 : Nat) : Int) by omega]
  refine Jp.again hLz (k + 1) hk4 (by omega) rfl ⟨rfl,rfl,rfl,trivial⟩ ⟨rfl,rfl,trivial⟩
 ·have hk4 : k = 3:=by simp at ga; omega
  rw [hk4]
  refine Cd.exit rfl hK2 ?_
  refine Cd.seq fun K7 hK7=>?_
  refine Cd.qac [(0,false),(1,false)] rfl rfl ?_
  refine Jp.y 17 rfl (qaa rfl) rfl rfl Kp.true (by exact Y.qah 1 rfl isAgg40 sizeOf40 rfl rfl (by first | rfl | assumption)) ?_
  refine Jp.qai 2 rfl (qaa rfl) rfl rfl sizeOf40 rfl rfl (by first | rfl | assumption) (by first | rfl | assumption) rfl (by first | rfl | assumption) (fun k _ _=>qas k) Kp.true ?_
  refine Jp.qae hK7 ?_
  refine Cd.ret [] rfl (by exact qfb 2 rfl rfl isAgg40 sizeOf40 rfl (by first | rfl | assumption)) trivial ⟨rfl,rfl,rfl⟩
def nrN (t : qal) (top : UInt8) (n : Nat) : Nat → qal
 | 0=>t
 | k + 1=>(nrN t top n k).set (n + k) top
theorem nrN_len (t : qal) (top : UInt8) (n : Nat) : ∀ k,(nrN t top n k).length = t.length
 | 0=>rfl
 | k + 1=>by rw [nrN,List.length_set,nrN_len t top n k]
def qdp (t : qal) (n : Nat) (sg : Bool) : qal:=if n = 1 ∨ n = 2 then nrN t (if sg = true then t.getD (n - 1) 0 else 0) n (4 - n) else t
theorem qgx (t : qal) (n : Nat) (sg : Bool) : (qdp t n sg).length = t.length:=by
 unfold qdp
 split
 ·exact nrN_len ..
 ·rfl
theorem narrow_spec (t : qal) (n : Nat) (sg : Bool) (ht : t.length = 4) : Spec Tryz.prog 47 #[.agg (qaf t).toArray,.int .i64 n,.bool sg] (fun _=>True) [] (fun ρ ρ' v L=>ρ' = ρ ∧ v = .agg (qaf (qdp t n sg)).toArray ∧ L = []):=by
 refine Spec.of 30 Tryz.func47 rfl Tryz.ntmps47 [(0,_),(1,_),(2,_)] rfl rfl ?_
 intro cx ρ hr h0
 have hjl : (qaf (qdp t n sg)).length = 4:=by rw [qaz,qgx,ht]
 have hjo:=qbe (qdp t n sg)
 have htl : (qaf t).length = 4:=by rw [qaz,ht]
 have hto:=qbe t
 refine Cd.seq fun K8 hK8=>?_
 refine Cd.qac [(0,false),(1,false)] rfl rfl ?_
 refine Jp.box 3 3 rfl (qaa rfl) rfl rfl rfl rfl fun b3=>⟨Kp.true,?_⟩
 refine Jp.alloc 6 6 rfl (qaa rfl) rfl rfl rfl zeroValue40 fun b6=>⟨Kp.true,?_⟩
 refine Jp.qae hK8 ?_
 refine Cd.seq fun K9 hK9=>?_
 refine Cd.seq fun K10 hK10=>?_
 refine Cd.qgm (G:=Bool) (fun z=>z = decide (¬ (n = 1 ∨ n = 2))) (fun z=>[(14,.bool z)]) [(1,_),(2,_),(3,_),(6,_)] ⟨rfl,rfl,rfl,rfl,trivial⟩ (fun _=>[]) [(3,_),(6,_)] ⟨rfl,rfl,trivial⟩ hK10 (fun g hφ=>?_) (fun hj1=>?_)
 ·obtain ⟨z,hz⟩ : ∃ z,z = g:=⟨_,rfl⟩
  rw [← hz] at hφ ⊢
  refine Cd.qar rfl (fun gz=>?_) (fun gz=>?_)
  ·have hn : ¬ (n = 1 ∨ n = 2):=by rw [gz] at hφ; exact of_decide_eq_true hφ.symm
   refine Cd.seq fun K11 hK11=>?_
   refine Cd.qac [(0,false),(1,false)] rfl rfl ?_
   refine Jp.y 15 rfl (qaa rfl) rfl rfl Kp.true (by exact Y.qah 3 rfl isAgg40 sizeOf40 rfl rfl (by first | rfl | assumption)) ?_
   refine Jp.qai 6 rfl (qaa rfl) rfl rfl sizeOf40 rfl rfl (by first | rfl | assumption) (by first | rfl | assumption) rfl (by first | rfl | assumption) (fun k _ _=>qas k) Kp.true ?_
   refine Jp.qae hK11 ?_
   refine Cd.ret [] rfl (by exact qfb 6 rfl rfl isAgg40 sizeOf40 rfl (by first | rfl | assumption)) trivial ⟨rfl,by rw [qdp,if_neg hn],rfl⟩
  ·have hn : n = 1 ∨ n = 2:=by rw [gz] at hφ; exact Classical.not_not.1 (of_decide_eq_false hφ.symm)
   refine Cd.qbu hK9 ?_
   refine Cd.seq fun K12 hK12=>?_
   refine Cd.qac [(0,false)] rfl rfl ?_
   refine Jp.y 7 rfl (qaa rfl) rfl rfl Kp.true (Y.assign rfl rfl) ?_
   refine Jp.qae hK12 ?_
   refine Cd.seq fun K13 hK13=>?_
   refine Cd.seq fun K14 hK14=>?_
   refine Cd.qac [(0,false)] rfl rfl ?_
   refine Jp.y 16 rfl (qaa rfl) rfl rfl Kp.true (Y.move rfl rfl) ?_
   refine Jp.qae hK14 ?_
   refine Cd.qgm (G:=Unit) (fun _=>True) (fun _=>[(7,.int .u8 (((if sg = true then t.getD (n - 1) 0 else 0 : UInt8)).toNat : Int))]) [(1,_),(3,_),(6,_)] ⟨rfl,rfl,rfl,trivial⟩ (fun _=>[]) [(3,_),(6,_)] ⟨rfl,rfl,trivial⟩ hK13 (fun g hφ=>?_) (fun hj2=>?_)
   ·obtain ⟨top,htop⟩ : ∃ top : UInt8,(if sg = true then t.getD (n - 1) 0 else 0) = top:=⟨_,rfl⟩
    have hD : qdp t n sg = nrN t top n (4 - n):=by rw [qdp,if_pos hn,htop]
    rw [htop]
    rw [hD] at hjl hjo ⊢
    refine Cd.seq fun K15 hK15=>?_
    refine Cd.seq fun K16 hK16=>?_
    refine Cd.qac [(0,false),(1,false)] rfl rfl ?_
    refine Jp.y 21 rfl (qaa rfl) rfl rfl Kp.true (Y.move rfl rfl) ?_
    refine Jp.y 8 rfl (qaa rfl) rfl rfl Kp.true (Y.assign rfl rfl) ?_
    refine Jp.qae hK16 ?_
    refine Cd.block ?_
    refine Cd.imp (i:=3) rfl (fun h hh=>(show Pt b3 (.cells (qaf (nrN t top n 0)).toArray 40) h from hh)) ?_
    refine Cd.qdv (G:=Nat) (fun k=>n + k ≤ 4) (fun k=>4 - k) (fun _=>_) (fun k=>[(8,.int .i64 ((n + k : Nat) : Int))]) [(3,_),(6,_),(7,_)] (fun k=>[(3,Pt b3 (.cells (qaf (nrN t top n k)).toArray 40))]) [(6,_)] 0 (by show n + 0 ≤ 4; omega) rfl ⟨rfl,trivial⟩ ⟨rfl,rfl,rfl,trivial⟩ ⟨rfl,trivial⟩ ⟨rfl,trivial⟩ (fun g KLz hok hLz=>?_)
    obtain ⟨k,hk⟩ : ∃ k,k = g:=⟨_,rfl⟩
    rw [← hk] at hok ⊢
    have hk3 : n + k ≤ 4:=hok
    have hl:=nrN_len t top n k
    refine Cd.seq fun K17 hK17=>?_
    refine Cd.seq fun K18 hK18=>?_
    refine Cd.qac [(0,false),(1,false)] rfl rfl ?_
    refine Jp.y 22 rfl (qaa rfl) rfl rfl Kp.true (Y.move rfl rfl) ?_
    refine Jp.y 23 rfl (qaa rfl) rfl rfl Kp.true (Y.lss rfl rfl rfl) ?_
    refine Jp.qae hK18 ?_
    refine Cd.qar rfl (fun ga=>?_) (fun ga=>?_)
    ·have hk4 : n + k < 4:=by simp at ga; omega
     refine Cd.qbu hK17 ?_
     refine Cd.seq fun K19 hK19=>?_
     refine Cd.block ?_
     refine Cd.qac [(0,false),(1,false),(2,false),(3,false)] rfl rfl ?_
     refine Jp.y 26 rfl (qaa rfl) rfl rfl Kp.true (Y.move rfl rfl) ?_
     refine Jp.y 27 rfl (qaa rfl) rfl rfl Kp.true (Y.move rfl rfl) ?_
     refine Jp.y 28 rfl (qaa rfl) rfl rfl Kp.true (Y.qam (q:=n + k) rfl rfl rfl underlying40 sizeOf5 (by omega) (by omega) (by omega)) ?_
     refine Jp.qct 3 (Pt b3 (.cells (qaf (nrN t top n (k + 1))).toArray 40)) rfl (qaa rfl) rfl rfl sizeOf5 rfl rfl rfl rfl rfl (SetC.tag top (by omega) hk4 rfl) Kp.true ?_
     refine Jp.over rfl hK19 ?_
     refine Cd.qac [(0,false),(1,false),(2,false)] rfl rfl ?_
     refine Jp.y 24 rfl (qaa rfl) rfl rfl Kp.true (Y.move rfl rfl) ?_
     refine Jp.y 25 rfl (qaa rfl) rfl rfl Kp.true (Y.qcj rfl rfl rfl (by exact qaj (by omega) (by omega))) ?_
     refine Jp.y 8 rfl (qaa rfl) rfl rfl Kp.true (Y.assign rfl rfl) ?_
     rw [show ((n + k : Nat) : Int) + 1 = ((n + (k + 1) : Nat) : Int) by omega]
     refine Jp.again hLz (k + 1) (by show n + (k + 1) ≤ 4; omega) (by omega) rfl ⟨rfl,rfl,rfl,rfl,trivial⟩ ⟨rfl,rfl,trivial⟩
    ·have hk4 : k = 4 - n:=by simp at ga; omega
     rw [hk4]
     refine Cd.exit rfl hK15 ?_
     refine Cd.seq fun K20 hK20=>?_
     refine Cd.qac [(0,false),(1,false)] rfl rfl ?_
     refine Jp.y 29 rfl (qaa rfl) rfl rfl Kp.true (by exact Y.qah 3 rfl isAgg40 sizeOf40 rfl rfl (by first | rfl | assumption)) ?_
     refine Jp.qai 6 rfl (qaa rfl) rfl rfl sizeOf40 rfl rfl (by first | rfl | assumption) (by first | rfl | assumption) rfl (by first | rfl | assumption) (fun k _ _=>qas k) Kp.true ?_
     refine Jp.qae hK20 ?_
     refine Cd.ret [] rfl (by exact qfb 6 rfl rfl isAgg40 sizeOf40 rfl (by first | rfl | assumption)) trivial ⟨rfl,rfl,rfl⟩
   ·skip
    refine Cd.qar rfl (fun gs=>?_) (fun gs=>?_)
    ·have hx:=qft (l:=t) (i:=n - 1) (by omega)
     refine Cd.qac [(0,false),(1,false),(2,false),(3,false),(4,false)] rfl rfl ?_
     refine Jp.y 17 rfl (qaa rfl) rfl rfl Kp.true (Y.move rfl rfl) ?_
     refine Jp.y 18 rfl (qaa rfl) rfl rfl Kp.true (Y.qfm rfl rfl rfl (by exact qaj (by omega) (by omega))) ?_
     refine Jp.slot 18 rfl (show _ = Value.int .i64 ((n - 1 : Nat) : Int) from congrArg (Value.int .i64) (by omega)) ?_
     refine Jp.y 19 rfl (qaa rfl) rfl rfl Kp.true (Y.qam (q:=n - 1) rfl rfl rfl underlying40 sizeOf5 (by omega) (by omega) (by omega)) ?_
     refine Jp.y 20 rfl (qaa rfl) rfl rfl Kp.true (by exact Y.qbg 3 rfl isAgg5 rfl rfl (HasC.pt (qbf hx))) ?_
     refine Jp.y 7 rfl (qaa rfl) rfl rfl Kp.true (Y.assign rfl rfl) ?_
     refine Jp.qae hK13 ?_
     refine Cd.slot 7 rfl (show _ = Value.int .u8 (((if sg = true then t.getD (n - 1) 0 else 0 : UInt8)).toNat : Int) from congrArg (Value.int .u8) (by rw [if_pos gs])) ?_
     exact Cd.qcz (hj2 () trivial) ⟨rfl,rfl,rfl,rfl,trivial⟩ ⟨rfl,rfl,trivial⟩
    ·skip
     refine Cd.qbu hK13 ?_
     refine Cd.slot 7 rfl (show _ = Value.int .u8 (((if sg = true then t.getD (n - 1) 0 else 0 : UInt8)).toNat : Int) from congrArg (Value.int .u8) (by rw [if_neg (by rw [gs]; decide)]; rfl)) ?_
     exact Cd.qcz (hj2 () trivial) ⟨rfl,rfl,rfl,rfl,trivial⟩ ⟨rfl,rfl,trivial⟩
 ·skip
  refine Cd.qac [(0,false),(1,false),(2,false),(3,false),(4,false),(5,false)] rfl rfl ?_
  refine Jp.y 9 rfl (qaa rfl) rfl rfl Kp.true (Y.move rfl rfl) ?_
  refine Jp.y 10 rfl (qaa rfl) rfl rfl Kp.true (Y.neq rfl rfl rfl) ?_
  rcases (show n = 1 ∨ n = 2 ∨ ¬ (n = 1 ∨ n = 2) by omega) with hn1 | hn2 | hn3
  ·skip
   refine Jp.y 11 rfl (qaa rfl) rfl rfl Kp.true (Y.move rfl rfl) ?_
   refine Jp.slot 11 rfl (show _ = Value.bool false from congrArg Value.bool (by simp; omega)) ?_
   refine Jp.qaq 12 rfl (qab rfl rfl rfl rfl) rfl rfl Kp.true ?_
   refine Jp.qaq 13 rfl (qab rfl rfl rfl rfl) rfl rfl Kp.true ?_
   refine Jp.y 14 rfl (qaa rfl) rfl rfl Kp.true (Y.qay rfl rfl rfl) ?_
   refine Jp.slot 14 rfl (show _ = Value.bool false from rfl) ?_
   refine Jp.qae hK10 ?_
   exact Cd.qcz (hj1 false (decide_eq_false (by omega)).symm) ⟨rfl,rfl,rfl,rfl,rfl,trivial⟩ ⟨rfl,rfl,trivial⟩
  ·skip
   refine Jp.y 11 rfl (qaa rfl) rfl rfl Kp.true (Y.move rfl rfl) ?_
   refine Jp.slot 11 rfl (show _ = Value.bool true from congrArg Value.bool (by simp; omega)) ?_
   refine Jp.y 12 rfl (qab rfl rfl rfl rfl) rfl rfl Kp.true (Y.move rfl rfl) ?_
   refine Jp.y 13 rfl (qab rfl rfl rfl rfl) rfl rfl Kp.true (Y.neq rfl rfl rfl) ?_
   refine Jp.y 14 rfl (qaa rfl) rfl rfl Kp.true (Y.qav rfl rfl rfl) ?_
   refine Jp.slot 14 rfl (show _ = Value.bool false from congrArg Value.bool (by simp; omega)) ?_
   refine Jp.qae hK10 ?_
   exact Cd.qcz (hj1 false (decide_eq_false (by omega)).symm) ⟨rfl,rfl,rfl,rfl,rfl,trivial⟩ ⟨rfl,rfl,trivial⟩
  ·skip
   refine Jp.y 11 rfl (qaa rfl) rfl rfl Kp.true (Y.move rfl rfl) ?_
   refine Jp.slot 11 rfl (show _ = Value.bool true from congrArg Value.bool (by simp; omega)) ?_
   refine Jp.y 12 rfl (qab rfl rfl rfl rfl) rfl rfl Kp.true (Y.move rfl rfl) ?_
   refine Jp.y 13 rfl (qab rfl rfl rfl rfl) rfl rfl Kp.true (Y.neq rfl rfl rfl) ?_
   refine Jp.y 14 rfl (qaa rfl) rfl rfl Kp.true (Y.qav rfl rfl rfl) ?_
   refine Jp.slot 14 rfl (show _ = Value.bool true from congrArg Value.bool (by simp; omega)) ?_
   refine Jp.qae hK10 ?_
   exact Cd.qcz (hj1 true (decide_eq_true hn3).symm) ⟨rfl,rfl,rfl,rfl,rfl,trivial⟩ ⟨rfl,rfl,trivial⟩
end Go.Proofs.YtnfkalpgidiafaaGreat

namespace Go.Proofs.YtnfkalpgidiafaaGreat
open _root_.Go.Proofs.Tryz
open Go
def srcI (k p n : Nat) : Int:=if k = 2 then (p : Int) - n else if k = 7 then min ((p : Int) + n) 31 else (p : Int) + n
theorem tupIB {x y : Int} {b c : Bool} (h : x = y) (h2 : b = c) : Value.tuple #[.int .i64 x,.bool b] = .tuple #[.int .i64 y,.bool c]:=by rw [h,h2]
theorem source_spec (k p n : Nat) (hp : p < 32) (hn : n < 32) : Spec Tryz.prog 101 #[.int .i64 k,.int .i64 p,.int .i64 n] (fun _=>True) []
  (fun ρ ρ' v L=>ρ' = ρ ∧ v = .tuple #[.int .i64 (srcI k p n),.bool (decide (0 ≤ srcI k p n ∧ srcI k p n < 32))] ∧ L = []):=by
 refine Spec.of 28 Tryz.func101 rfl Tryz.ntmps101 [(0,_),(1,_),(2,_)] rfl rfl ?_
 intro cx ρ hr h0
 have h2 : k = 2 → srcI k p n = (p : Int) - n:=fun h=>if_pos h
 have h7 : k = 7 → srcI k p n = min ((p : Int) + n) 31:=fun h=>by rw [srcI,if_neg (by omega),if_pos h]
 have h6 : ¬ k = 2 → ¬ k = 7 → srcI k p n = (p : Int) + n:=fun h h'=>by rw [srcI,if_neg h,if_neg h']
 obtain ⟨S,hS⟩ : ∃ S,srcI k p n = S:=⟨_,rfl⟩
 rw [hS] at h2 h7 h6 ⊢
 refine Cd.seq fun K1 hK1=>?_
 refine Cd.qac [(0,false),(1,false)] rfl rfl ?_
 refine Jp.y 6 rfl (qaa rfl) rfl rfl Kp.true (Y.assign rfl rfl) ?_
 refine Jp.y 7 rfl (qaa rfl) rfl rfl Kp.true (Y.assign rfl rfl) ?_
 refine Jp.qae hK1 ?_
 refine Cd.seq fun K2 hK2=>?_
 refine Cd.qac [(0,false),(1,false),(2,false),(3,false)] rfl rfl ?_
 refine Jp.y 9 rfl (qaa rfl) rfl rfl Kp.true (Y.move rfl rfl) ?_
 refine Jp.y 10 rfl (qaa rfl) rfl rfl Kp.true (Y.move rfl rfl) ?_
 refine Jp.y 11 rfl (qaa rfl) rfl rfl Kp.true (Y.qcj rfl rfl rfl (by exact qaj (by omega) (by omega))) ?_
 refine Jp.y 8 rfl (qaa rfl) rfl rfl Kp.true (Y.assign rfl rfl) ?_
 refine Jp.qae hK2 ?_
 refine Cd.seq fun K3 hK3=>?_
 refine Cd.seq fun K4 hK4=>?_
 refine Cd.qac [(0,false),(1,false)] rfl rfl ?_
 refine Jp.y 12 rfl (qaa rfl) rfl rfl Kp.true (Y.move rfl rfl) ?_
 refine Jp.y 13 rfl (qaa rfl) rfl rfl Kp.true (Y.eql rfl rfl rfl) ?_
 refine Jp.qae hK4 ?_
 refine Cd.qar rfl (fun g13=>?_) (fun g13=>?_)
 ·skip
  try simp only [sG0] at g13
  refine Cd.qac [(0,false),(1,false),(2,false),(3,false)] rfl rfl ?_
  refine Jp.y 14 rfl (qaa rfl) rfl rfl Kp.true (Y.move rfl rfl) ?_
  refine Jp.y 15 rfl (qaa rfl) rfl rfl Kp.true (Y.move rfl rfl) ?_
  refine Jp.y 16 rfl (qaa rfl) rfl rfl Kp.true (Y.qfm rfl rfl rfl (by exact qaj (by omega) (by omega))) ?_
  refine Jp.y 8 rfl (qaa rfl) rfl rfl Kp.true (Y.assign rfl rfl) ?_
  refine Jp.qae hK3 ?_
  refine Cd.seq fun K5 hK5=>?_
  refine Cd.seq fun K6 hK6=>?_
  refine Cd.qac [(0,false),(1,false)] rfl rfl ?_
  refine Jp.y 17 rfl (qaa rfl) rfl rfl Kp.true (Y.move rfl rfl) ?_
  refine Jp.y 18 rfl (qaa rfl) rfl rfl Kp.true (Y.eql rfl rfl rfl) ?_
  refine Jp.qae hK6 ?_
  refine Cd.qar rfl (fun g18=>?_) (fun g18=>?_)
  ·skip
   try simp only [sG0] at g18
   refine Cd.qac [(0,false),(1,false),(2,false)] rfl rfl ?_
   refine Jp.y 19 rfl (qaa rfl) rfl rfl Kp.true (Y.move rfl rfl) ?_
   refine Jp.y 20 rfl (qaa rfl) rfl rfl Kp.true (Y.min2 rfl rfl rfl) ?_
   refine Jp.y 8 rfl (qaa rfl) rfl rfl Kp.true (Y.assign rfl rfl) ?_
   refine Jp.qae hK5 ?_
   refine Cd.seq fun K7 hK7=>?_
   refine Cd.qac [(0,false),(1,false),(2,false),(3,false),(4,false),(5,false),(6,false),(7,false),(8,false)] rfl rfl ?_
   refine Jp.y 21 rfl (qaa rfl) rfl rfl Kp.true (Y.move rfl rfl) ?_
   refine Jp.y 22 rfl (qaa rfl) rfl rfl Kp.true (Y.move rfl rfl) ?_
   refine Jp.y 23 rfl (qaa rfl) rfl rfl Kp.true (Y.geq rfl rfl rfl) ?_
   refine Jp.y 24 rfl (qaa rfl) rfl rfl Kp.true (Y.move rfl rfl) ?_
   refine Jp.split 24 rfl (fun g24=>?_) (fun g24=>?_)
   ·skip
    try simp only [sG0] at g24
    refine Jp.y 25 rfl (qab rfl rfl rfl rfl) rfl rfl Kp.true (Y.move rfl rfl) ?_
    refine Jp.y 26 rfl (qab rfl rfl rfl rfl) rfl rfl Kp.true (Y.lss rfl rfl rfl) ?_
    refine Jp.y 27 rfl (qaa rfl) rfl rfl Kp.true (Y.qav rfl rfl rfl) ?_
    refine Jp.y 6 rfl (qaa rfl) rfl rfl Kp.true (Y.assign rfl rfl) ?_
    refine Jp.y 7 rfl (qaa rfl) rfl rfl Kp.true (Y.assign rfl rfl) ?_
    refine Jp.qae hK7 ?_
    refine Cd.ret [] rfl (qbx rfl rfl rfl) trivial ⟨rfl, by
     (exfalso; omega), rfl⟩
   ·skip
    try simp only [sG0] at g24
    refine Jp.qaq 25 rfl (qab rfl rfl rfl rfl) rfl rfl Kp.true ?_
    refine Jp.qaq 26 rfl (qab rfl rfl rfl rfl) rfl rfl Kp.true ?_
    refine Jp.y 27 rfl (qaa rfl) rfl rfl Kp.true (Y.qay rfl rfl rfl) ?_
    refine Jp.y 6 rfl (qaa rfl) rfl rfl Kp.true (Y.assign rfl rfl) ?_
    refine Jp.y 7 rfl (qaa rfl) rfl rfl Kp.true (Y.assign rfl rfl) ?_
    refine Jp.qae hK7 ?_
    refine Cd.ret [] rfl (qbx rfl rfl rfl) trivial ⟨rfl, by
     (exfalso; omega), rfl⟩
  ·skip
   try simp only [sG0] at g18
   refine Cd.qbu hK5 ?_
   refine Cd.seq fun K8 hK8=>?_
   refine Cd.qac [(0,false),(1,false),(2,false),(3,false),(4,false),(5,false),(6,false),(7,false),(8,false)] rfl rfl ?_
   refine Jp.y 21 rfl (qaa rfl) rfl rfl Kp.true (Y.move rfl rfl) ?_
   refine Jp.y 22 rfl (qaa rfl) rfl rfl Kp.true (Y.move rfl rfl) ?_
   refine Jp.y 23 rfl (qaa rfl) rfl rfl Kp.true (Y.geq rfl rfl rfl) ?_
   refine Jp.y 24 rfl (qaa rfl) rfl rfl Kp.true (Y.move rfl rfl) ?_
   refine Jp.split 24 rfl (fun g24=>?_) (fun g24=>?_)
   ·skip
    try simp only [sG0] at g24
    refine Jp.y 25 rfl (qab rfl rfl rfl rfl) rfl rfl Kp.true (Y.move rfl rfl) ?_
    refine Jp.y 26 rfl (qab rfl rfl rfl rfl) rfl rfl Kp.true (Y.lss rfl rfl rfl) ?_
    refine Jp.y 27 rfl (qaa rfl) rfl rfl Kp.true (Y.qav rfl rfl rfl) ?_
    refine Jp.y 6 rfl (qaa rfl) rfl rfl Kp.true (Y.assign rfl rfl) ?_
    refine Jp.y 7 rfl (qaa rfl) rfl rfl Kp.true (Y.assign rfl rfl) ?_
    refine Jp.qae hK8 ?_
    refine Cd.ret [] rfl (qbx rfl rfl rfl) trivial ⟨rfl, by
     exact tupIB (by omega) (by rw [Bool.eq_iff_iff]; simp only [decide_eq_true_eq, Bool.false_eq_true, false_iff, true_iff]; omega), rfl⟩
   ·skip
    try simp only [sG0] at g24
    refine Jp.qaq 25 rfl (qab rfl rfl rfl rfl) rfl rfl Kp.true ?_
    refine Jp.qaq 26 rfl (qab rfl rfl rfl rfl) rfl rfl Kp.true ?_
    refine Jp.y 27 rfl (qaa rfl) rfl rfl Kp.true (Y.qay rfl rfl rfl) ?_
    refine Jp.y 6 rfl (qaa rfl) rfl rfl Kp.true (Y.assign rfl rfl) ?_
    refine Jp.y 7 rfl (qaa rfl) rfl rfl Kp.true (Y.assign rfl rfl) ?_
    refine Jp.qae hK8 ?_
    refine Cd.ret [] rfl (qbx rfl rfl rfl) trivial ⟨rfl, by
     exact tupIB (by omega) (by rw [Bool.eq_iff_iff]; simp only [decide_eq_true_eq, Bool.false_eq_true, false_iff, true_iff]; omega), rfl⟩
 ·skip
  try simp only [sG0] at g13
  refine Cd.qbu hK3 ?_
  refine Cd.seq fun K9 hK9=>?_
  refine Cd.seq fun K10 hK10=>?_
  refine Cd.qac [(0,false),(1,false)] rfl rfl ?_
  refine Jp.y 17 rfl (qaa rfl) rfl rfl Kp.true (Y.move rfl rfl) ?_
  refine Jp.y 18 rfl (qaa rfl) rfl rfl Kp.true (Y.eql rfl rfl rfl) ?_
  refine Jp.qae hK10 ?_
  refine Cd.qar rfl (fun g18=>?_) (fun g18=>?_)
  ·skip
   try simp only [sG0] at g18
   refine Cd.qac [(0,false),(1,false),(2,false)] rfl rfl ?_
   refine Jp.y 19 rfl (qaa rfl) rfl rfl Kp.true (Y.move rfl rfl) ?_
   refine Jp.y 20 rfl (qaa rfl) rfl rfl Kp.true (Y.min2 rfl rfl rfl) ?_
   refine Jp.y 8 rfl (qaa rfl) rfl rfl Kp.true (Y.assign rfl rfl) ?_
   refine Jp.qae hK9 ?_
   refine Cd.seq fun K11 hK11=>?_
   refine Cd.qac [(0,false),(1,false),(2,false),(3,false),(4,false),(5,false),(6,false),(7,false),(8,false)] rfl rfl ?_
   refine Jp.y 21 rfl (qaa rfl) rfl rfl Kp.true (Y.move rfl rfl) ?_
   refine Jp.y 22 rfl (qaa rfl) rfl rfl Kp.true (Y.move rfl rfl) ?_
   refine Jp.y 23 rfl (qaa rfl) rfl rfl Kp.true (Y.geq rfl rfl rfl) ?_
   refine Jp.y 24 rfl (qaa rfl) rfl rfl Kp.true (Y.move rfl rfl) ?_
   refine Jp.split 24 rfl (fun g24=>?_) (fun g24=>?_)
   ·skip
    try simp only [sG0] at g24
    refine Jp.y 25 rfl (qab rfl rfl rfl rfl) rfl rfl Kp.true (Y.move rfl rfl) ?_
    refine Jp.y 26 rfl (qab rfl rfl rfl rfl) rfl rfl Kp.true (Y.lss rfl rfl rfl) ?_
    refine Jp.y 27 rfl (qaa rfl) rfl rfl Kp.true (Y.qav rfl rfl rfl) ?_
    refine Jp.y 6 rfl (qaa rfl) rfl rfl Kp.true (Y.assign rfl rfl) ?_
    refine Jp.y 7 rfl (qaa rfl) rfl rfl Kp.true (Y.assign rfl rfl) ?_
    refine Jp.qae hK11 ?_
    refine Cd.ret [] rfl (qbx rfl rfl rfl) trivial ⟨rfl, by
     exact tupIB (by omega) (by rw [Bool.eq_iff_iff]; simp only [decide_eq_true_eq, Bool.false_eq_true, false_iff, true_iff]; omega), rfl⟩
   ·skip
    try simp only [sG0] at g24
    refine Jp.qaq 25 rfl (qab rfl rfl rfl rfl) rfl rfl Kp.true ?_
    refine Jp.qaq 26 rfl (qab rfl rfl rfl rfl) rfl rfl Kp.true ?_
    refine Jp.y 27 rfl (qaa rfl) rfl rfl Kp.true (Y.qay rfl rfl rfl) ?_
    refine Jp.y 6 rfl (qaa rfl) rfl rfl Kp.true (Y.assign rfl rfl) ?_
    refine Jp.y 7 rfl (qaa rfl) rfl rfl Kp.true (Y.assign rfl rfl) ?_
    refine Jp.qae hK11 ?_
    refine Cd.ret [] rfl (qbx rfl rfl rfl) trivial ⟨rfl, by
     (exfalso; omega), rfl⟩
  ·skip
   try simp only [sG0] at g18
   refine Cd.qbu hK9 ?_
   refine Cd.seq fun K12 hK12=>?_
   refine Cd.qac [(0,false),(1,false),(2,false),(3,false),(4,false),(5,false),(6,false),(7,false),(8,false)] rfl rfl ?_
   refine Jp.y 21 rfl (qaa rfl) rfl rfl Kp.true (Y.move rfl rfl) ?_
   refine Jp.y 22 rfl (qaa rfl) rfl rfl Kp.true (Y.move rfl rfl) ?_
   refine Jp.y 23 rfl (qaa rfl) rfl rfl Kp.true (Y.geq rfl rfl rfl) ?_
   refine Jp.y 24 rfl (qaa rfl) rfl rfl Kp.true (Y.move rfl rfl) ?_
   refine Jp.split 24 rfl (fun g24=>?_) (fun g24=>?_)
   ·skip
    try simp only [sG0] at g24
    refine Jp.y 25 rfl (qab rfl rfl rfl rfl) rfl rfl Kp.true (Y.move rfl rfl) ?_
    refine Jp.y 26 rfl (qab rfl rfl rfl rfl) rfl rfl Kp.true (Y.lss rfl rfl rfl) ?_
    refine Jp.y 27 rfl (qaa rfl) rfl rfl Kp.true (Y.qav rfl rfl rfl) ?_
    refine Jp.y 6 rfl (qaa rfl) rfl rfl Kp.true (Y.assign rfl rfl) ?_
    refine Jp.y 7 rfl (qaa rfl) rfl rfl Kp.true (Y.assign rfl rfl) ?_
    refine Jp.qae hK12 ?_
    refine Cd.ret [] rfl (qbx rfl rfl rfl) trivial ⟨rfl, by
     exact tupIB (by omega) (by rw [Bool.eq_iff_iff]; simp only [decide_eq_true_eq, Bool.false_eq_true, false_iff, true_iff]; omega), rfl⟩
   ·skip
    try simp only [sG0] at g24
    refine Jp.qaq 25 rfl (qab rfl rfl rfl rfl) rfl rfl Kp.true ?_
    refine Jp.qaq 26 rfl (qab rfl rfl rfl rfl) rfl rfl Kp.true ?_
    refine Jp.y 27 rfl (qaa rfl) rfl rfl Kp.true (Y.qay rfl rfl rfl) ?_
    refine Jp.y 6 rfl (qaa rfl) rfl rfl Kp.true (Y.assign rfl rfl) ?_
    refine Jp.y 7 rfl (qaa rfl) rfl rfl Kp.true (Y.assign rfl rfl) ?_
    refine Jp.qae hK12 ?_
    refine Cd.ret [] rfl (qbx rfl rfl rfl) trivial ⟨rfl, by
     (exfalso; omega), rfl⟩
theorem byte_of (a k : Nat) (hk : k < 4) : IntKind.u8.wrap ((a : Int).fdiv (2 ^ (min (8 * (k : Int)).toNat IntKind.u32.bits))) = ((a / 2 ^ (8 * k) % 256 : Nat) : Int):=by
 rw [show (8 : Int) * k = ((8 * k : Nat) : Int) by omega,shr32 a (8 * k) (by omega)]
 simp only [IntKind.wrap,IntKind.bits,IntKind.signed]
 simp
def skipM (a b : Nat) (s t : qal) (k : Nat) : Prop:=((s.getD k 0).toNat = 0 ∧ a / 2 ^ (8 * k) % 256 = 0) ∨ ((t.getD k 0).toNat = 0 ∧ b / 2 ^ (8 * k) % 256 = 0)
instance (a b : Nat) (s t : qal) (k : Nat) : Decidable (skipM a b s t k):=by unfold skipM; infer_instance
def mkN (a b : Nat) (s t : qal) : Nat → qal
 | 0=>[0,0,0,0]
 | k + 1=>if skipM a b s t k then mkN a b s t k else (mkN a b s t k).set k (s.getD k 0 ||| t.getD k 0)
theorem mkN_len (a b : Nat) (s t : qal) : ∀ k,(mkN a b s t k).length = 4
 | 0=>rfl
 | k + 1=>by
  rw [mkN]
  split
  ·exact mkN_len a b s t k
  ·rw [List.length_set]; exact mkN_len a b s t k
theorem masked_spec (a b : Nat) (s t : qal) (ha : a < 4294967296) (hb : b < 4294967296) (hs : s.length = 4) (ht : t.length = 4) : Spec Tryz.prog 82 #[.int .u32 a,.int .u32 b,.agg (qaf s).toArray,.agg (qaf t).toArray] (fun _=>True) []
  (fun ρ ρ' v L=>ρ' = ρ ∧ v = .agg (qaf (mkN a b s t 4)).toArray ∧ L = []):=by
 refine Spec.of 55 Tryz.func82 rfl Tryz.ntmps82 [(0,_),(1,_),(2,_),(3,_)] rfl rfl ?_
 intro cx ρ hr h0
 have hjl : (qaf (mkN a b s t 4)).length = 4:=by rw [qaz,mkN_len]
 have hjo:=qbe (mkN a b s t 4)
 refine Cd.seq fun K13 hK13=>?_
 refine Cd.qac [(0,false),(1,false),(2,false)] rfl rfl ?_
 refine Jp.box 6 6 rfl (qaa rfl) rfl rfl rfl rfl fun b6=>⟨Kp.true,?_⟩
 refine Jp.box 7 7 rfl (qaa rfl) rfl rfl rfl rfl fun b7=>⟨Kp.true,?_⟩
 refine Jp.alloc 8 8 rfl (qaa rfl) rfl rfl rfl zeroValue40 fun b8=>⟨Kp.true,?_⟩
 refine Jp.qae hK13 ?_
 refine Cd.seq fun K14 hK14=>?_
 refine Cd.qac [(0,false)] rfl rfl ?_
 refine Jp.alloc 9 9 rfl (qaa rfl) rfl rfl rfl zeroValue40 fun b9=>⟨Kp.true,?_⟩
 refine Jp.qae hK14 ?_
 refine Cd.seq fun K15 hK15=>?_
 refine Cd.seq fun K16 hK16=>?_
 refine Cd.qac [(0,false)] rfl rfl ?_
 refine Jp.y 13 rfl (qaa rfl) rfl rfl Kp.true (Y.move rfl rfl) ?_
 refine Jp.qae hK16 ?_
 refine Cd.block ?_
 refine Cd.imp (i:=9) rfl (fun h hh=>(show Pt b9 (.cells (qaf (mkN a b s t 0)).toArray 40) h from hh)) ?_
 refine Cd.qdv (G:=Nat) (fun k=>k ≤ 4) (fun k=>4 - k) (fun _=>_) (fun k=>[(13,.int .i64 (k : Int))]) [(0,_),(1,_),(6,_),(7,_),(8,_),(9,_)] (fun k=>[(9,Pt b9 (.cells (qaf (mkN a b s t k)).toArray 40))]) [(6,_),(7,_),(8,_)] 0 (Nat.zero_le _) rfl ⟨rfl,trivial⟩ ⟨rfl,rfl,rfl,rfl,rfl,rfl,trivial⟩ ⟨rfl,trivial⟩ ⟨rfl,rfl,rfl,trivial⟩ (fun g KLz hok hLz=>?_)
 obtain ⟨k,hk⟩ : ∃ k,k = g:=⟨_,rfl⟩
 rw [← hk] at hok ⊢
 have hk3 : k ≤ 4:=hok
 have hl:=mkN_len a b s t k
 refine Cd.seq fun K17 hK17=>?_
 refine Cd.qac [(0,false)] rfl rfl ?_
 refine Jp.y 14 rfl (qaa rfl) rfl rfl Kp.true (Y.lss rfl rfl rfl) ?_
 refine Jp.qae hK17 ?_
 refine Cd.seq fun K18 hK18=>?_
 refine Cd.qar rfl (fun ga=>?_) (fun ga=>?_)
 ·have hk4 : k < 4:=by simp at ga; omega
  have hx:=qft (l:=s) (i:=k) (by omega)
  have hy:=qft (l:=t) (i:=k) (by omega)
  have hsk : skipM a b s t k ↔ ((s.getD k 0).toNat = 0 ∧ a / 2 ^ (8 * k) % 256 = 0) ∨ ((t.getD k 0).toNat = 0 ∧ b / 2 ^ (8 * k) % 256 = 0):=Iff.rfl
  have hyes : skipM a b s t k → mkN a b s t (k + 1) = mkN a b s t k:=fun h=>if_pos h
  have hno : ¬ skipM a b s t k → (mkN a b s t k).set k (s.getD k 0 ||| t.getD k 0) = mkN a b s t (k + 1):=fun h=>(if_neg h).symm
  obtain ⟨x,hxe⟩ : ∃ x,s.getD k 0 = x:=⟨_,rfl⟩
  obtain ⟨y,hye⟩ : ∃ y,t.getD k 0 = y:=⟨_,rfl⟩
  rw [hxe] at hx hsk hno
  rw [hye] at hy hsk hno
  have hba:=byte_of a k hk4
  have hbb:=byte_of b k hk4
  obtain ⟨xa,hxa⟩ : ∃ x,a / 2 ^ (8 * k) % 256 = x:=⟨_,rfl⟩
  obtain ⟨xb,hxb⟩ : ∃ x,b / 2 ^ (8 * k) % 256 = x:=⟨_,rfl⟩
  rw [hxa] at hsk hba
  rw [hxb] at hsk hbb
  refine Cd.qbu hK18 ?_
  refine Cd.seq fun K19 hK19=>?_
  refine Cd.block ?_
  refine Cd.seq fun K20 hK20=>?_
  refine Cd.qac [(0,false),(1,false)] rfl rfl ?_
  refine Jp.y 15 rfl (qaa rfl) rfl rfl Kp.true (Y.move rfl rfl) ?_
  refine Jp.y 10 rfl (qaa rfl) rfl rfl Kp.true (Y.assign rfl rfl) ?_
  refine Jp.qae hK20 ?_
  refine Cd.seq fun K21 hK21=>?_
  refine Cd.drawn [] trivial [(0,true),(1,true),(2,true),(3,true),(4,true),(5,true),(6,true),(7,true),(8,true),(9,true),(10,true),(11,true)] follows (by kernel_rfl) (fun hrl=>?_)
  refine Jp.q 16 rfl (qaa rfl) rfl rfl (Y.move rfl rfl) ?_
  refine Jp.q 17 rfl (qaa rfl) rfl rfl (Y.move rfl rfl) ?_
  refine Jp.q 18 rfl (qaa rfl) rfl rfl (Y.mul_ rfl rfl rfl (by exact qaj (by omega) (by omega))) ?_
  refine Jp.q 19 rfl (qaa rfl) rfl rfl (Y.shr rfl rfl rfl (by first | decide | omega)) ?_
  refine Jp.q 20 rfl (qaa rfl) rfl rfl (Y.qaw rfl rfl underlying24 underlying5 (by rfl)) ?_
  refine Jp.q 21 rfl (qaa rfl) rfl rfl (Y.move rfl rfl) ?_
  refine Jp.q 22 rfl (qaa rfl) rfl rfl (Y.move rfl rfl) ?_
  refine Jp.q 23 rfl (qaa rfl) rfl rfl (Y.mul_ rfl rfl rfl (by exact qaj (by omega) (by omega))) ?_
  refine Jp.q 24 rfl (qaa rfl) rfl rfl (Y.shr rfl rfl rfl (by first | decide | omega)) ?_
  refine Jp.q 25 rfl (qaa rfl) rfl rfl (Y.qaw rfl rfl underlying24 underlying5 (by rfl)) ?_
  refine Jp.q 11 rfl (qaa rfl) rfl rfl (Y.assign rfl rfl) ?_
  refine Jp.q 12 rfl (qaa rfl) rfl rfl (Y.assign rfl rfl) ?_
  refine Jp.qae hK21 ?_
  refine Cd.seq fun K23 hK23=>?_
  refine Cd.seq fun K24 hK24=>?_
  refine Cd.qac [(0,false),(1,false),(2,false),(3,false),(4,false),(5,false),(6,false),(7,false),(8,false),(9,false),(10,false),(11,false),(12,false),(13,false),(14,false),(15,false),(16,false),(17,false)] rfl rfl ?_
  refine Jp.slot 11 rfl (show _ = Value.int .u8 (xa : Int) from congrArg (Value.int .u8) hba) ?_
  refine Jp.slot 12 rfl (show _ = Value.int .u8 (xb : Int) from congrArg (Value.int .u8) hbb) ?_
  refine Jp.y 26 rfl (qaa rfl) rfl rfl Kp.true (Y.move rfl rfl) ?_
  refine Jp.y 27 rfl (qaa rfl) rfl rfl Kp.true (Y.qam (q:=k) rfl rfl rfl underlying40 sizeOf5 (by omega) (by omega) (by omega)) ?_
  refine Jp.y 28 rfl (qaa rfl) rfl rfl Kp.true (by exact Y.qbg 6 rfl isAgg5 rfl rfl (HasC.pt (qbf hx))) ?_
  refine Jp.y 29 rfl (qaa rfl) rfl rfl Kp.true (Y.eql rfl rfl rfl) ?_
  refine Jp.y 30 rfl (qaa rfl) rfl rfl Kp.true (Y.move rfl rfl) ?_
  refine Jp.split 30 rfl (fun g30=>?_) (fun g30=>?_)
  ·skip
   try simp only [sG0] at g30
   refine Jp.y 31 rfl (qab rfl rfl rfl rfl) rfl rfl Kp.true (Y.move rfl rfl) ?_
   refine Jp.y 32 rfl (qab rfl rfl rfl rfl) rfl rfl Kp.true (Y.eql rfl rfl rfl) ?_
   refine Jp.y 33 rfl (qaa rfl) rfl rfl Kp.true (Y.qav rfl rfl rfl) ?_
   refine Jp.y 34 rfl (qaa rfl) rfl rfl Kp.true (Y.move rfl rfl) ?_
   refine Jp.split 34 rfl (fun g34=>?_) (fun g34=>?_)
   ·skip
    try simp only [sG0] at g34
    refine Jp.qaq 35 rfl (qab rfl rfl rfl rfl) rfl rfl Kp.true ?_
    refine Jp.qaq 36 rfl (qab rfl rfl rfl rfl) rfl rfl Kp.true ?_
    refine Jp.qaq 37 rfl (qab rfl rfl rfl rfl) rfl rfl Kp.true ?_
    refine Jp.qaq 38 rfl (qab rfl rfl rfl rfl) rfl rfl Kp.true ?_
    refine Jp.qaq 39 rfl (qab rfl rfl rfl rfl) rfl rfl Kp.true ?_
    refine Jp.qaq 40 rfl (qdn rfl rfl rfl) rfl rfl Kp.true ?_
    refine Jp.qaq 41 rfl (qdn rfl rfl rfl) rfl rfl Kp.true ?_
    refine Jp.qaq 42 rfl (qab rfl rfl rfl rfl) rfl rfl Kp.true ?_
    refine Jp.y 43 rfl (qaa rfl) rfl rfl Kp.true (Y.qav rfl rfl rfl) ?_
    refine Jp.qae hK24 ?_
    refine Cd.qcw rfl ?_
    refine Cd.exit rfl hK19 ?_
    rw [← hyes (by rw [hsk]; omega)]
    refine Cd.qac [(0,false),(1,false)] rfl rfl ?_
    refine Jp.y 53 rfl (qaa rfl) rfl rfl Kp.true (Y.qcj rfl rfl rfl (by exact qaj (by omega) (by omega))) ?_
    refine Jp.y 13 rfl (qaa rfl) rfl rfl Kp.true (Y.move rfl rfl) ?_
    rw [show (k : Int) + 1 = ((k + 1 : Nat) : Int) by omega]
    refine Jp.again hLz (k + 1) hk4 (by omega) rfl ⟨rfl,rfl,rfl,rfl,rfl,rfl,rfl,trivial⟩ ⟨rfl,rfl,rfl,rfl,trivial⟩
   ·skip
    try simp only [sG0] at g34
    refine Jp.y 35 rfl (qab rfl rfl rfl rfl) rfl rfl Kp.true (Y.move rfl rfl) ?_
    refine Jp.y 36 rfl (qab rfl rfl rfl rfl) rfl rfl Kp.true (Y.qam (q:=k) rfl rfl rfl underlying40 sizeOf5 (by omega) (by omega) (by omega)) ?_
    refine Jp.y 37 rfl (qab rfl rfl rfl rfl) rfl rfl Kp.true (by exact Y.qbg 7 rfl isAgg5 rfl rfl (HasC.pt (qbf hy))) ?_
    refine Jp.y 38 rfl (qab rfl rfl rfl rfl) rfl rfl Kp.true (Y.eql rfl rfl rfl) ?_
    refine Jp.y 39 rfl (qab rfl rfl rfl rfl) rfl rfl Kp.true (Y.move rfl rfl) ?_
    refine Jp.split 39 rfl (fun g39=>?_) (fun g39=>?_)
    ·skip
     try simp only [sG0] at g39
     refine Jp.y 40 rfl (qab rfl rfl rfl rfl) rfl rfl Kp.true (Y.move rfl rfl) ?_
     refine Jp.y 41 rfl (qab rfl rfl rfl rfl) rfl rfl Kp.true (Y.eql rfl rfl rfl) ?_
     refine Jp.y 42 rfl (qab rfl rfl rfl rfl) rfl rfl Kp.true (Y.qav rfl rfl rfl) ?_
     refine Jp.y 43 rfl (qaa rfl) rfl rfl Kp.true (Y.qay rfl rfl rfl) ?_
     refine Jp.qae hK24 ?_
     refine Cd.qar rfl (fun g43=>?_) (fun g43=>?_)
     ·skip
      try simp only [sG0] at g43
      refine Cd.exit rfl hK19 ?_
      rw [← hyes (by rw [hsk]; omega)]
      refine Cd.qac [(0,false),(1,false)] rfl rfl ?_
      refine Jp.y 53 rfl (qaa rfl) rfl rfl Kp.true (Y.qcj rfl rfl rfl (by exact qaj (by omega) (by omega))) ?_
      refine Jp.y 13 rfl (qaa rfl) rfl rfl Kp.true (Y.move rfl rfl) ?_
      rw [show (k : Int) + 1 = ((k + 1 : Nat) : Int) by omega]
      refine Jp.again hLz (k + 1) hk4 (by omega) rfl ⟨rfl,rfl,rfl,rfl,rfl,rfl,rfl,trivial⟩ ⟨rfl,rfl,rfl,rfl,trivial⟩
     ·skip
      try simp only [sG0] at g43
      refine Cd.qbu hK23 ?_
      refine Cd.drawn3 [(6,_),(7,_),(9,_)] ⟨rfl,rfl,rfl,trivial⟩ [] [(0,true),(1,true),(2,true),(3,true),(4,true),(5,true),(6,true),(7,true),(8,true)] 9 [] follows (by kernel_rfl) (fun hrl=>?_)
      refine Jp2.head ?_
      refine Jp.q 44 rfl (qaa rfl) rfl rfl (Y.move rfl rfl) ?_
      refine Jp.q 45 rfl (qaa rfl) rfl rfl (Y.move rfl rfl) ?_
      refine Jp.q 46 rfl (qaa rfl) rfl rfl (Y.qam (q:=k) rfl rfl rfl underlying40 sizeOf5 (by omega) (by omega) (by omega)) ?_
      refine Jp.q 47 rfl (qaa rfl) rfl rfl (by exact Y.qbg 6 rfl isAgg5 rfl rfl (HasC.pt (qbf hx))) ?_
      refine Jp.q 48 rfl (qaa rfl) rfl rfl (Y.move rfl rfl) ?_
      refine Jp.q 49 rfl (qaa rfl) rfl rfl (Y.qam (q:=k) rfl rfl rfl underlying40 sizeOf5 (by omega) (by omega) (by omega)) ?_
      refine Jp.q 50 rfl (qaa rfl) rfl rfl (by exact Y.qbg 7 rfl isAgg5 rfl rfl (HasC.pt (qbf hy))) ?_
      refine Jp.q 51 rfl (qaa rfl) rfl rfl (Y.bits rfl rfl rfl rfl) ?_
      refine Jp.slot 51 rfl (show _ = Value.int .u8 ((x ||| y : UInt8).toNat : Int) from congrArg (Value.int .u8) (or8 x y)) ?_
      refine Jp.q 52 rfl (qaa rfl) rfl rfl (Y.qam (q:=k) rfl rfl rfl underlying40 sizeOf5 (by omega) (by omega) (by omega)) ?_
      refine Jp2.tail ?_
      refine Jp2.loud ?_
      refine Jp.qct 9 (Pt b9 (.cells (qaf (mkN a b s t (k + 1))).toArray 40)) rfl (qaa rfl) rfl rfl sizeOf5 rfl rfl rfl rfl rfl (SetC.tag (x ||| y) hl hk4 (hno (by rw [hsk]; omega))) Kp.true ?_
      refine Jp2.tail ?_
      refine Jp2.nil ?_
      refine Jp.over rfl hK19 ?_
      refine Cd.qac [(0,false),(1,false)] rfl rfl ?_
      refine Jp.y 53 rfl (qaa rfl) rfl rfl Kp.true (Y.qcj rfl rfl rfl (by exact qaj (by omega) (by omega))) ?_
      refine Jp.y 13 rfl (qaa rfl) rfl rfl Kp.true (Y.move rfl rfl) ?_
      rw [show (k : Int) + 1 = ((k + 1 : Nat) : Int) by omega]
      refine Jp.again hLz (k + 1) hk4 (by omega) rfl ⟨rfl,rfl,rfl,rfl,rfl,rfl,rfl,trivial⟩ ⟨rfl,rfl,rfl,rfl,trivial⟩
    ·skip
     try simp only [sG0] at g39
     refine Jp.qaq 40 rfl (qab rfl rfl rfl rfl) rfl rfl Kp.true ?_
     refine Jp.qaq 41 rfl (qab rfl rfl rfl rfl) rfl rfl Kp.true ?_
     refine Jp.y 42 rfl (qab rfl rfl rfl rfl) rfl rfl Kp.true (Y.qay rfl rfl rfl) ?_
     refine Jp.y 43 rfl (qaa rfl) rfl rfl Kp.true (Y.qay rfl rfl rfl) ?_
     refine Jp.qae hK24 ?_
     refine Cd.qbz rfl ?_
     refine Cd.qbu hK23 ?_
     refine Cd.drawn3 [(6,_),(7,_),(9,_)] ⟨rfl,rfl,rfl,trivial⟩ [] [(0,true),(1,true),(2,true),(3,true),(4,true),(5,true),(6,true),(7,true),(8,true)] 9 [] follows (by kernel_rfl) (fun hrl=>?_)
     refine Jp2.head ?_
     refine Jp.q 44 rfl (qaa rfl) rfl rfl (Y.move rfl rfl) ?_
     refine Jp.q 45 rfl (qaa rfl) rfl rfl (Y.move rfl rfl) ?_
     refine Jp.q 46 rfl (qaa rfl) rfl rfl (Y.qam (q:=k) rfl rfl rfl underlying40 sizeOf5 (by omega) (by omega) (by omega)) ?_
     refine Jp.q 47 rfl (qaa rfl) rfl rfl (by exact Y.qbg 6 rfl isAgg5 rfl rfl (HasC.pt (qbf hx))) ?_
     refine Jp.q 48 rfl (qaa rfl) rfl rfl (Y.move rfl rfl) ?_
     refine Jp.q 49 rfl (qaa rfl) rfl rfl (Y.qam (q:=k) rfl rfl rfl underlying40 sizeOf5 (by omega) (by omega) (by omega)) ?_
     refine Jp.q 50 rfl (qaa rfl) rfl rfl (by exact Y.qbg 7 rfl isAgg5 rfl rfl (HasC.pt (qbf hy))) ?_
     refine Jp.q 51 rfl (qaa rfl) rfl rfl (Y.bits rfl rfl rfl rfl) ?_
     refine Jp.slot 51 rfl (show _ = Value.int .u8 ((x ||| y : UInt8).toNat : Int) from congrArg (Value.int .u8) (or8 x y)) ?_
     refine Jp.q 52 rfl (qaa rfl) rfl rfl (Y.qam (q:=k) rfl rfl rfl underlying40 sizeOf5 (by omega) (by omega) (by omega)) ?_
     refine Jp2.tail ?_
     refine Jp2.loud ?_
     refine Jp.qct 9 (Pt b9 (.cells (qaf (mkN a b s t (k + 1))).toArray 40)) rfl (qaa rfl) rfl rfl sizeOf5 rfl rfl rfl rfl rfl (SetC.tag (x ||| y) hl hk4 (hno (by rw [hsk]; omega))) Kp.true ?_
     refine Jp2.tail ?_
     refine Jp2.nil ?_
     refine Jp.over rfl hK19 ?_
     refine Cd.qac [(0,false),(1,false)] rfl rfl ?_
     refine Jp.y 53 rfl (qaa rfl) rfl rfl Kp.true (Y.qcj rfl rfl rfl (by exact qaj (by omega) (by omega))) ?_
     refine Jp.y 13 rfl (qaa rfl) rfl rfl Kp.true (Y.move rfl rfl) ?_
     rw [show (k : Int) + 1 = ((k + 1 : Nat) : Int) by omega]
     refine Jp.again hLz (k + 1) hk4 (by omega) rfl ⟨rfl,rfl,rfl,rfl,rfl,rfl,rfl,trivial⟩ ⟨rfl,rfl,rfl,rfl,trivial⟩
  ·skip
   try simp only [sG0] at g30
   refine Jp.qaq 31 rfl (qab rfl rfl rfl rfl) rfl rfl Kp.true ?_
   refine Jp.qaq 32 rfl (qab rfl rfl rfl rfl) rfl rfl Kp.true ?_
   refine Jp.y 33 rfl (qaa rfl) rfl rfl Kp.true (Y.qay rfl rfl rfl) ?_
   refine Jp.y 34 rfl (qaa rfl) rfl rfl Kp.true (Y.move rfl rfl) ?_
   refine Jp.y 35 rfl (qab rfl rfl rfl rfl) rfl rfl Kp.true (Y.move rfl rfl) ?_
   refine Jp.y 36 rfl (qab rfl rfl rfl rfl) rfl rfl Kp.true (Y.qam (q:=k) rfl rfl rfl underlying40 sizeOf5 (by omega) (by omega) (by omega)) ?_
   refine Jp.y 37 rfl (qab rfl rfl rfl rfl) rfl rfl Kp.true (by exact Y.qbg 7 rfl isAgg5 rfl rfl (HasC.pt (qbf hy))) ?_
   refine Jp.y 38 rfl (qab rfl rfl rfl rfl) rfl rfl Kp.true (Y.eql rfl rfl rfl) ?_
   refine Jp.y 39 rfl (qab rfl rfl rfl rfl) rfl rfl Kp.true (Y.move rfl rfl) ?_
   refine Jp.split 39 rfl (fun g39=>?_) (fun g39=>?_)
   ·skip
    try simp only [sG0] at g39
    refine Jp.y 40 rfl (qab rfl rfl rfl rfl) rfl rfl Kp.true (Y.move rfl rfl) ?_
    refine Jp.y 41 rfl (qab rfl rfl rfl rfl) rfl rfl Kp.true (Y.eql rfl rfl rfl) ?_
    refine Jp.y 42 rfl (qab rfl rfl rfl rfl) rfl rfl Kp.true (Y.qav rfl rfl rfl) ?_
    refine Jp.y 43 rfl (qaa rfl) rfl rfl Kp.true (Y.qay rfl rfl rfl) ?_
    refine Jp.qae hK24 ?_
    refine Cd.qar rfl (fun g43=>?_) (fun g43=>?_)
    ·skip
     try simp only [sG0] at g43
     refine Cd.exit rfl hK19 ?_
     rw [← hyes (by rw [hsk]; omega)]
     refine Cd.qac [(0,false),(1,false)] rfl rfl ?_
     refine Jp.y 53 rfl (qaa rfl) rfl rfl Kp.true (Y.qcj rfl rfl rfl (by exact qaj (by omega) (by omega))) ?_
     refine Jp.y 13 rfl (qaa rfl) rfl rfl Kp.true (Y.move rfl rfl) ?_
     rw [show (k : Int) + 1 = ((k + 1 : Nat) : Int) by omega]
     refine Jp.again hLz (k + 1) hk4 (by omega) rfl ⟨rfl,rfl,rfl,rfl,rfl,rfl,rfl,trivial⟩ ⟨rfl,rfl,rfl,rfl,trivial⟩
    ·skip
     try simp only [sG0] at g43
     refine Cd.qbu hK23 ?_
     refine Cd.drawn3 [(6,_),(7,_),(9,_)] ⟨rfl,rfl,rfl,trivial⟩ [] [(0,true),(1,true),(2,true),(3,true),(4,true),(5,true),(6,true),(7,true),(8,true)] 9 [] follows (by kernel_rfl) (fun hrl=>?_)
     refine Jp2.head ?_
     refine Jp.q 44 rfl (qaa rfl) rfl rfl (Y.move rfl rfl) ?_
     refine Jp.q 45 rfl (qaa rfl) rfl rfl (Y.move rfl rfl) ?_
     refine Jp.q 46 rfl (qaa rfl) rfl rfl (Y.qam (q:=k) rfl rfl rfl underlying40 sizeOf5 (by omega) (by omega) (by omega)) ?_
     refine Jp.q 47 rfl (qaa rfl) rfl rfl (by exact Y.qbg 6 rfl isAgg5 rfl rfl (HasC.pt (qbf hx))) ?_
     refine Jp.q 48 rfl (qaa rfl) rfl rfl (Y.move rfl rfl) ?_
     refine Jp.q 49 rfl (qaa rfl) rfl rfl (Y.qam (q:=k) rfl rfl rfl underlying40 sizeOf5 (by omega) (by omega) (by omega)) ?_
     refine Jp.q 50 rfl (qaa rfl) rfl rfl (by exact Y.qbg 7 rfl isAgg5 rfl rfl (HasC.pt (qbf hy))) ?_
     refine Jp.q 51 rfl (qaa rfl) rfl rfl (Y.bits rfl rfl rfl rfl) ?_
     refine Jp.slot 51 rfl (show _ = Value.int .u8 ((x ||| y : UInt8).toNat : Int) from congrArg (Value.int .u8) (or8 x y)) ?_
     refine Jp.q 52 rfl (qaa rfl) rfl rfl (Y.qam (q:=k) rfl rfl rfl underlying40 sizeOf5 (by omega) (by omega) (by omega)) ?_
     refine Jp2.tail ?_
     refine Jp2.loud ?_
     refine Jp.qct 9 (Pt b9 (.cells (qaf (mkN a b s t (k + 1))).toArray 40)) rfl (qaa rfl) rfl rfl sizeOf5 rfl rfl rfl rfl rfl (SetC.tag (x ||| y) hl hk4 (hno (by rw [hsk]; omega))) Kp.true ?_
     refine Jp2.tail ?_
     refine Jp2.nil ?_
     refine Jp.over rfl hK19 ?_
     refine Cd.qac [(0,false),(1,false)] rfl rfl ?_
     refine Jp.y 53 rfl (qaa rfl) rfl rfl Kp.true (Y.qcj rfl rfl rfl (by exact qaj (by omega) (by omega))) ?_
     refine Jp.y 13 rfl (qaa rfl) rfl rfl Kp.true (Y.move rfl rfl) ?_
     rw [show (k : Int) + 1 = ((k + 1 : Nat) : Int) by omega]
     refine Jp.again hLz (k + 1) hk4 (by omega) rfl ⟨rfl,rfl,rfl,rfl,rfl,rfl,rfl,trivial⟩ ⟨rfl,rfl,rfl,rfl,trivial⟩
   ·skip
    try simp only [sG0] at g39
    refine Jp.qaq 40 rfl (qab rfl rfl rfl rfl) rfl rfl Kp.true ?_
    refine Jp.qaq 41 rfl (qab rfl rfl rfl rfl) rfl rfl Kp.true ?_
    refine Jp.y 42 rfl (qab rfl rfl rfl rfl) rfl rfl Kp.true (Y.qay rfl rfl rfl) ?_
    refine Jp.y 43 rfl (qaa rfl) rfl rfl Kp.true (Y.qay rfl rfl rfl) ?_
    refine Jp.qae hK24 ?_
    refine Cd.qbz rfl ?_
    refine Cd.qbu hK23 ?_
    refine Cd.drawn3 [(6,_),(7,_),(9,_)] ⟨rfl,rfl,rfl,trivial⟩ [] [(0,true),(1,true),(2,true),(3,true),(4,true),(5,true),(6,true),(7,true),(8,true)] 9 [] follows (by kernel_rfl) (fun hrl=>?_)
    refine Jp2.head ?_
    refine Jp.q 44 rfl (qaa rfl) rfl rfl (Y.move rfl rfl) ?_
    refine Jp.q 45 rfl (qaa rfl) rfl rfl (Y.move rfl rfl) ?_
    refine Jp.q 46 rfl (qaa rfl) rfl rfl (Y.qam (q:=k) rfl rfl rfl underlying40 sizeOf5 (by omega) (by omega) (by omega)) ?_
    refine Jp.q 47 rfl (qaa rfl) rfl rfl (by exact Y.qbg 6 rfl isAgg5 rfl rfl (HasC.pt (qbf hx))) ?_
    refine Jp.q 48 rfl (qaa rfl) rfl rfl (Y.move rfl rfl) ?_
    refine Jp.q 49 rfl (qaa rfl) rfl rfl (Y.qam (q:=k) rfl rfl rfl underlying40 sizeOf5 (by omega) (by omega) (by omega)) ?_
    refine Jp.q 50 rfl (qaa rfl) rfl rfl (by exact Y.qbg 7 rfl isAgg5 rfl rfl (HasC.pt (qbf hy))) ?_
    refine Jp.q 51 rfl (qaa rfl) rfl rfl (Y.bits rfl rfl rfl rfl) ?_
    refine Jp.slot 51 rfl (show _ = Value.int .u8 ((x ||| y : UInt8).toNat : Int) from congrArg (Value.int .u8) (or8 x y)) ?_
    refine Jp.q 52 rfl (qaa rfl) rfl rfl (Y.qam (q:=k) rfl rfl rfl underlying40 sizeOf5 (by omega) (by omega) (by omega)) ?_
    refine Jp2.tail ?_
    refine Jp2.loud ?_
    refine Jp.qct 9 (Pt b9 (.cells (qaf (mkN a b s t (k + 1))).toArray 40)) rfl (qaa rfl) rfl rfl sizeOf5 rfl rfl rfl rfl rfl (SetC.tag (x ||| y) hl hk4 (hno (by rw [hsk]; omega))) Kp.true ?_
    refine Jp2.tail ?_
    refine Jp2.nil ?_
    refine Jp.over rfl hK19 ?_
    refine Cd.qac [(0,false),(1,false)] rfl rfl ?_
    refine Jp.y 53 rfl (qaa rfl) rfl rfl Kp.true (Y.qcj rfl rfl rfl (by exact qaj (by omega) (by omega))) ?_
    refine Jp.y 13 rfl (qaa rfl) rfl rfl Kp.true (Y.move rfl rfl) ?_
    rw [show (k : Int) + 1 = ((k + 1 : Nat) : Int) by omega]
    refine Jp.again hLz (k + 1) hk4 (by omega) rfl ⟨rfl,rfl,rfl,rfl,rfl,rfl,rfl,trivial⟩ ⟨rfl,rfl,rfl,rfl,trivial⟩
 ·have hk4 : k = 4:=by simp at ga; omega
  rw [hk4]
  refine Cd.exit rfl hK15 ?_
  refine Cd.seq fun K25 hK25=>?_
  refine Cd.qac [(0,false),(1,false)] rfl rfl ?_
  refine Jp.y 54 rfl (qaa rfl) rfl rfl Kp.true (by exact Y.qah 9 rfl isAgg40 sizeOf40 rfl rfl (by first | rfl | assumption)) ?_
  refine Jp.qai 8 rfl (qaa rfl) rfl rfl sizeOf40 rfl rfl (by first | rfl | assumption) (by first | rfl | assumption) rfl (by first | rfl | assumption) (fun k _ _=>qas k) Kp.true ?_
  refine Jp.qae hK25 ?_
  refine Cd.ret [] rfl (by exact qfb 8 rfl rfl isAgg40 sizeOf40 rfl (by first | rfl | assumption)) trivial ⟨rfl,rfl,rfl⟩
end Go.Proofs.YtnfkalpgidiafaaGreat

namespace Go.Proofs.YtnfkalpgidiafaaGreat
open _root_.Go.Proofs.Tryz
open Go
def shN (k n : Nat) (s : qal) : Nat → qal
 | 0=>[0,0,0,0]
 | p + 1=>if 0 ≤ srcI k p n ∧ srcI k p n < 32 then (shN k n s p).set (p / 8) ((shN k n s p).getD (p / 8) 0 ||| s.getD ((srcI k p n).toNat / 8) 0) else shN k n s p
theorem shN_len (k n : Nat) (s : qal) : ∀ p,(shN k n s p).length = 4
 | 0=>rfl
 | p + 1=>by
  rw [shN]
  split
  ·rw [List.length_set]; exact shN_len k n s p
  ·exact shN_len k n s p
theorem qfp (k n : Nat) (s : qal) (hn : n < 32) (hs : s.length = 4) : Spec Tryz.prog 84 #[.int .i64 k,.int .i64 n,.agg (qaf s).toArray] (fun _=>True) []
  (fun ρ ρ' v L=>ρ' = ρ ∧ v = .agg (qaf (shN k n s 32)).toArray ∧ L = []):=by
 refine Spec.of 34 Tryz.func84 rfl Tryz.ntmps84 [(0,_),(1,_),(2,_)] rfl rfl ?_
 intro cx ρ hr h0
 have hjl : (qaf (shN k n s 32)).length = 4:=by rw [qaz,shN_len]
 have hjo:=qbe (shN k n s 32)
 refine Cd.seq fun K1 hK1=>?_
 refine Cd.qac [(0,false),(1,false)] rfl rfl ?_
 refine Jp.box 5 5 rfl (qaa rfl) rfl rfl rfl rfl fun b5=>⟨Kp.true,?_⟩
 refine Jp.alloc 6 6 rfl (qaa rfl) rfl rfl rfl zeroValue40 fun b6=>⟨Kp.true,?_⟩
 refine Jp.qae hK1 ?_
 refine Cd.seq fun K2 hK2=>?_
 refine Cd.qac [(0,false)] rfl rfl ?_
 refine Jp.alloc 7 7 rfl (qaa rfl) rfl rfl rfl zeroValue40 fun b7=>⟨Kp.true,?_⟩
 refine Jp.qae hK2 ?_
 refine Cd.seq fun K3 hK3=>?_
 refine Cd.seq fun K4 hK4=>?_
 refine Cd.qac [(0,false)] rfl rfl ?_
 refine Jp.y 11 rfl (qaa rfl) rfl rfl Kp.true (Y.move rfl rfl) ?_
 refine Jp.qae hK4 ?_
 refine Cd.block ?_
 refine Cd.imp (i:=7) rfl (fun h hh=>(show Pt b7 (.cells (qaf (shN k n s 0)).toArray 40) h from hh)) ?_
 refine Cd.qdv (G:=Nat) (fun p=>p ≤ 32) (fun p=>32 - p) (fun _=>_) (fun p=>[(11,.int .i64 (p : Int))]) [(0,_),(1,_),(5,_),(6,_),(7,_)] (fun p=>[(7,Pt b7 (.cells (qaf (shN k n s p)).toArray 40))]) [(5,_),(6,_)] 0 (Nat.zero_le _) rfl ⟨rfl,trivial⟩ ⟨rfl,rfl,rfl,rfl,rfl,trivial⟩ ⟨rfl,trivial⟩ ⟨rfl,rfl,trivial⟩ (fun g KLz hok hLz=>?_)
 obtain ⟨p,hp⟩ : ∃ p,p = g:=⟨_,rfl⟩
 rw [← hp] at hok ⊢
 have hp3 : p ≤ 32:=hok
 have hl:=shN_len k n s p
 refine Cd.seq fun K5 hK5=>?_
 refine Cd.qac [(0,false)] rfl rfl ?_
 refine Jp.y 12 rfl (qaa rfl) rfl rfl Kp.true (Y.lss rfl rfl rfl) ?_
 refine Jp.qae hK5 ?_
 refine Cd.seq fun K6 hK6=>?_
 refine Cd.qar rfl (fun ga=>?_) (fun ga=>?_)
 ·have hp4 : p < 32:=by simp at ga; omega
  have hyes : (0 ≤ srcI k p n ∧ srcI k p n < 32) → (shN k n s p).set (p / 8) ((shN k n s p).getD (p / 8) 0 ||| s.getD ((srcI k p n).toNat / 8) 0) = shN k n s (p + 1):=fun h=>(if_pos h).symm
  have hno : ¬ (0 ≤ srcI k p n ∧ srcI k p n < 32) → shN k n s p = shN k n s (p + 1):=fun h=>(if_neg h).symm
  have hS:=source_spec k p n hp4 hn
  obtain ⟨S,hSe⟩ : ∃ S,srcI k p n = S:=⟨_,rfl⟩
  rw [hSe] at hS hyes hno
  refine Cd.qbu hK6 ?_
  refine Cd.seq fun K7 hK7=>?_
  refine Cd.block ?_
  refine Cd.seq fun K8 hK8=>?_
  refine Cd.qac [(0,false),(1,false)] rfl rfl ?_
  refine Jp.y 13 rfl (qaa rfl) rfl rfl Kp.true (Y.move rfl rfl) ?_
  refine Jp.y 8 rfl (qaa rfl) rfl rfl Kp.true (Y.assign rfl rfl) ?_
  refine Jp.qae hK8 ?_
  refine Cd.seq fun K9 hK9=>?_
  refine Cd.qac [(0,false),(1,false),(2,false),(3,false),(4,false),(5,false),(6,false),(7,false),(8,false)] rfl rfl ?_
  refine Jp.y 15 rfl (qaa rfl) rfl rfl Kp.true (Y.move rfl rfl) ?_
  refine Jp.y 16 rfl (qaa rfl) rfl rfl Kp.true (Y.move rfl rfl) ?_
  refine Jp.y 17 rfl (qaa rfl) rfl rfl Kp.true (Y.move rfl rfl) ?_
  refine Jp.call [] [] hS 18 rfl (qaa rfl) rfl rfl (Runs.fn rfl call101 rfl) (by decide) (by decide) rfl trivial ?_
  rintro v1 ρ1 L1 ⟨rfl,rfl,rfl⟩
  refine ⟨rfl,fun hle1=>⟨Kp.true,?_⟩⟩
  refine Jp.y 14 rfl (qaa rfl) rfl rfl Kp.true (Y.move rfl rfl) ?_
  refine Jp.y 19 rfl (qaa rfl) rfl rfl Kp.true (Y.extract rfl rfl rfl) ?_
  refine Jp.y 20 rfl (qaa rfl) rfl rfl Kp.true (Y.extract rfl rfl rfl) ?_
  refine Jp.y 9 rfl (qaa rfl) rfl rfl Kp.true (Y.assign rfl rfl) ?_
  refine Jp.y 10 rfl (qaa rfl) rfl rfl Kp.true (Y.assign rfl rfl) ?_
  refine Jp.qae hK9 ?_
  refine Cd.seq fun K10 hK10=>?_
  refine Cd.qac [(0,false)] rfl rfl ?_
  refine Jp.y 21 rfl (qaa rfl) rfl rfl Kp.true (Y.move rfl rfl) ?_
  refine Jp.qae hK10 ?_
  refine Cd.qar rfl (fun gs=>?_) (fun gs=>?_)
  ·have hq:=of_decide_eq_true gs
   have hyes:=hyes hq
   clear hno
   obtain ⟨q,rfl⟩:=Int.eq_ofNat_of_zero_le hq.1
   rw [Int.toNat_natCast] at hyes
   have hx:=qft (l:=shN k n s p) (i:=p / 8) (by omega)
   have hy:=qft (l:=s) (i:=q / 8) (by omega)
   refine Cd.drawn3 [(5,_),(7,_)] ⟨rfl,rfl,trivial⟩ [] [(0,true),(1,true),(2,true),(3,true),(4,true),(5,true),(6,true),(7,true),(8,true),(9,true)] 10 [] follows (by kernel_rfl) (fun hrl=>?_)
   refine Jp2.head ?_
   refine Jp.q 22 rfl (qaa rfl) rfl rfl (Y.move rfl rfl) ?_
   refine Jp.q 23 rfl (qaa rfl) rfl rfl (by exact Y.quoN rfl rfl rfl (by omega) (by omega) (qaj (by omega) (by omega))) ?_
   refine Jp.slot 23 rfl (show _ = Value.int .i64 ((p / 8 : Nat) : Int) from congrArg (Value.int .i64) (by omega)) ?_
   refine Jp.q 24 rfl (qaa rfl) rfl rfl (Y.qam (q:=p / 8) rfl rfl rfl underlying40 sizeOf5 (by omega) (by omega) (by omega)) ?_
   refine Jp.q 25 rfl (qaa rfl) rfl rfl (by exact Y.qbg 7 rfl isAgg5 rfl rfl (HasC.pt (qbf hx))) ?_
   refine Jp.q 26 rfl (qaa rfl) rfl rfl (Y.move rfl rfl) ?_
   refine Jp.q 27 rfl (qaa rfl) rfl rfl (by exact Y.quoN rfl rfl rfl (by omega) (by omega) (qaj (by omega) (by omega))) ?_
   refine Jp.slot 27 rfl (show _ = Value.int .i64 ((q / 8 : Nat) : Int) from congrArg (Value.int .i64) (by omega)) ?_
   refine Jp.q 28 rfl (qaa rfl) rfl rfl (Y.qam (q:=q / 8) rfl rfl rfl underlying40 sizeOf5 (by omega) (by omega) (by omega)) ?_
   refine Jp.q 29 rfl (qaa rfl) rfl rfl (by exact Y.qbg 5 rfl isAgg5 rfl rfl (HasC.pt (qbf hy))) ?_
   refine Jp.q 30 rfl (qaa rfl) rfl rfl (Y.bits rfl rfl rfl rfl) ?_
   refine Jp.slot 30 rfl (show _ = Value.int .u8 (((shN k n s p).getD (p / 8) 0 ||| s.getD (q / 8) 0 : UInt8).toNat : Int) from congrArg (Value.int .u8) (or8 _ _)) ?_
   refine Jp.q 31 rfl (qaa rfl) rfl rfl (Y.qam (q:=p / 8) rfl rfl rfl underlying40 sizeOf5 (by omega) (by omega) (by omega)) ?_
   refine Jp2.tail ?_
   refine Jp2.loud ?_
   refine Jp.qct 7 (Pt b7 (.cells (qaf (shN k n s (p + 1))).toArray 40)) rfl (qaa rfl) rfl rfl sizeOf5 rfl rfl rfl rfl rfl (SetC.tag _ hl (by omega) hyes) Kp.true ?_
   refine Jp2.tail ?_
   refine Jp2.nil ?_
   refine Jp.over rfl hK7 ?_
   refine Cd.qac [(0,false),(1,false)] rfl rfl ?_
   refine Jp.y 32 rfl (qaa rfl) rfl rfl Kp.true (Y.qcj rfl rfl rfl (by exact qaj (by omega) (by omega))) ?_
   refine Jp.y 11 rfl (qaa rfl) rfl rfl Kp.true (Y.move rfl rfl) ?_
   rw [show (p : Int) + 1 = ((p + 1 : Nat) : Int) by omega]
   refine Jp.again hLz (p + 1) hp4 (by omega) rfl ⟨rfl,rfl,rfl,rfl,rfl,rfl,trivial⟩ ⟨rfl,rfl,rfl,trivial⟩
  ·have hq:=of_decide_eq_false gs
   rw [hno hq]
   refine Cd.over rfl hK7 ?_
   refine Cd.qac [(0,false),(1,false)] rfl rfl ?_
   refine Jp.y 32 rfl (qaa rfl) rfl rfl Kp.true (Y.qcj rfl rfl rfl (by exact qaj (by omega) (by omega))) ?_
   refine Jp.y 11 rfl (qaa rfl) rfl rfl Kp.true (Y.move rfl rfl) ?_
   rw [show (p : Int) + 1 = ((p + 1 : Nat) : Int) by omega]
   refine Jp.again hLz (p + 1) hp4 (by omega) rfl ⟨rfl,rfl,rfl,rfl,rfl,rfl,trivial⟩ ⟨rfl,rfl,rfl,trivial⟩
 ·have hp4 : p = 32:=by simp at ga; omega
  rw [hp4]
  refine Cd.exit rfl hK3 ?_
  refine Cd.seq fun K11 hK11=>?_
  refine Cd.qac [(0,false),(1,false)] rfl rfl ?_
  refine Jp.y 33 rfl (qaa rfl) rfl rfl Kp.true (by exact Y.qah 7 rfl isAgg40 sizeOf40 rfl rfl (by first | rfl | assumption)) ?_
  refine Jp.qai 6 rfl (qaa rfl) rfl rfl sizeOf40 rfl rfl (by first | rfl | assumption) (by first | rfl | assumption) rfl (by first | rfl | assumption) (fun k _ _=>qas k) Kp.true ?_
  refine Jp.qae hK11 ?_
  refine Cd.ret [] rfl (by exact qfb 6 rfl rfl isAgg40 sizeOf40 rfl (by first | rfl | assumption)) trivial ⟨rfl,rfl,rfl⟩
end Go.Proofs.YtnfkalpgidiafaaGreat

namespace Go.Proofs.YtnfkalpgidiafaaGreat
open _root_.Go.Proofs.Tryz
open Go
def qfv (k b : Nat) (a : Nat) (s t : qal) : qal :=
 if k = 5 ∨ k = 8 then qdr s t else if k = 9 then mkN a b s t 4 else if k = 0 ∨ k = 1 ∨ k = 10 then upT (qdr s t) else
 if k = 2 ∨ k = 6 ∨ k = 7 then (if (t.getD 0 0).toNat = 0 then shN k (b % 32) s 32 else List.replicate 4 (allT s ||| t.getD 0 0)) else
 if k = 3 ∨ k = 4 then [allT s ||| allT t,0,0,0] else List.replicate 4 (allT s ||| allT t)
theorem flowT_len (k b a : Nat) {s t : qal} (hs : s.length = 4) (ht : t.length = 4) : (qfv k b a s t).length = 4:=by
 unfold qfv
 repeat' split
 all_goals first | exact qeb hs ht | exact mkN_len .. | exact shN_len .. | rfl | (rw [upT,upN_len]; exact qeb hs ht)
theorem qhv (k a b : Nat) (s t : qal) (hk : k ≤ 17) (ha : a < 4294967296) (hb : b < 4294967296) (hs : s.length = 4) (ht : t.length = 4) :
  Spec Tryz.prog 50 #[.int .i64 k,.int .u32 a,.int .u32 b,.agg (qaf s).toArray,.agg (qaf t).toArray] (fun _=>True) []
  (fun ρ ρ' v L=>ρ' = ρ ∧ v = .tuple #[.agg (qaf (qfv k b a s t)).toArray,.int .i64 0] ∧ L = []):=by
 refine Spec.of 79 Tryz.func50 rfl Tryz.ntmps50 [(0,_),(1,_),(2,_),(3,_),(4,_)] rfl rfl ?_
 intro cx ρ hr h0
 have hF5 : Unit → (k = 5 ∨ k = 8) → qfv k b a s t = qdr s t:=fun _ h=>if_pos h
 have hF9 : Unit → k = 9 → qfv k b a s t = mkN a b s t 4:=fun _ h=>by rw [qfv,if_neg (by omega),if_pos h]
 have hF0 : Unit → (k = 0 ∨ k = 1 ∨ k = 10) → qfv k b a s t = upT (qdr s t):=fun _ h=>by rw [qfv,if_neg (by omega),if_neg (by omega),if_pos h]
 have hF2 : Unit → (k = 2 ∨ k = 6 ∨ k = 7) → (t.getD 0 0).toNat = 0 → qfv k b a s t = shN k (b % 32) s 32:=fun _ h h'=>by rw [qfv,if_neg (by omega),if_neg (by omega),if_neg (by omega),if_pos h,if_pos h']
 have hF3 : Unit → (k = 2 ∨ k = 6 ∨ k = 7) → ¬ (t.getD 0 0).toNat = 0 → qfv k b a s t = List.replicate 4 (allT s ||| t.getD 0 0):=fun _ h h'=>by rw [qfv,if_neg (by omega),if_neg (by omega),if_neg (by omega),if_pos h,if_neg h']
 have hF4 : Unit → (k = 3 ∨ k = 4) → qfv k b a s t = [allT s ||| allT t,0,0,0]:=fun _ h=>by rw [qfv,if_neg (by omega),if_neg (by omega),if_neg (by omega),if_neg (by omega),if_pos h]
 have hF7 : Unit → ¬ (k ≤ 10) → qfv k b a s t = List.replicate 4 (allT s ||| allT t):=fun _ h=>by rw [qfv,if_neg (by omega),if_neg (by omega),if_neg (by omega),if_neg (by omega),if_neg (by omega)]
 have hFl:=flowT_len k b a hs ht
 have hjT:=qeb hs ht
 have l1 : (qaf (qdr s t)).length = 4:=by rw [qaz,hjT]
 have o1:=qbe (qdr s t)
 have l2 : (qaf (mkN a b s t 4)).length = 4:=by rw [qaz,mkN_len]
 have o2:=qbe (mkN a b s t 4)
 have l3 : (qaf (upT (qdr s t))).length = 4:=by rw [qaz,upT,upN_len,hjT]
 have o3:=qbe (upT (qdr s t))
 have l4 : (qaf (shN k (b % 32) s 32)).length = 4:=by rw [qaz,shN_len]
 have o4:=qbe (shN k (b % 32) s 32)
 have l5 : (qaf s).length = 4:=by rw [qaz,hs]
 have l6 : (qaf t).length = 4:=by rw [qaz,ht]
 have hy:=qft (l:=t) (i:=0) (by omega)
 have hm : b % 32 < 32:=Nat.mod_lt _ (by decide)
 obtain ⟨y,hye⟩ : ∃ y,t.getD 0 0 = y:=⟨_,rfl⟩
 rw [hye] at hy hF2 hF3
 refine Cd.seq fun K1 hK1=>?_
 refine Cd.qac [(0,false),(1,false),(2,false),(3,false)] rfl rfl ?_
 refine Jp.box 8 8 rfl (qaa rfl) rfl rfl rfl rfl fun b8=>⟨Kp.true,?_⟩
 refine Jp.box 9 9 rfl (qaa rfl) rfl rfl rfl rfl fun b9=>⟨Kp.true,?_⟩
 refine Jp.alloc 10 10 rfl (qaa rfl) rfl rfl rfl zeroValue40 fun b10=>⟨Kp.true,?_⟩
 refine Jp.y 11 rfl (qaa rfl) rfl rfl Kp.true (Y.assign rfl rfl) ?_
 refine Jp.qae hK1 ?_
 refine Cd.seq fun K2 hK2=>?_
 refine Cd.seq fun K3 hK3=>?_
 refine Cd.qac [(0,false),(1,false),(2,false),(3,false),(4,false),(5,false),(6,false),(7,false),(8,false)] rfl rfl ?_
 refine Jp.y 16 rfl (qaa rfl) rfl rfl Kp.true (Y.move rfl rfl) ?_
 refine Jp.y 17 rfl (qaa rfl) rfl rfl Kp.true (Y.move rfl rfl) ?_
 refine Jp.y 18 rfl (qaa rfl) rfl rfl Kp.true (Y.move rfl rfl) ?_
 refine Jp.call [] [] (do_spec k a b hk ha hb) 19 rfl (qaa rfl) rfl rfl (Runs.fn rfl call81 rfl) (by decide) (by decide) rfl trivial ?_
 rintro v1 ρ1 L1 ⟨rfl,rfl,rfl⟩
 refine ⟨rfl,fun hle1=>⟨Kp.true,?_⟩⟩
 refine Jp.y 15 rfl (qaa rfl) rfl rfl Kp.true (Y.move rfl rfl) ?_
 refine Jp.y 20 rfl (qaa rfl) rfl rfl Kp.true (Y.extract rfl rfl rfl) ?_
 refine Jp.y 21 rfl (qaa rfl) rfl rfl Kp.true (Y.extract rfl rfl rfl) ?_
 refine Jp.y 12 rfl (qaa rfl) rfl rfl Kp.true (Y.assign rfl rfl) ?_
 refine Jp.y 13 rfl (qaa rfl) rfl rfl Kp.true (Y.assign rfl rfl) ?_
 refine Jp.qae hK3 ?_
 refine Cd.seq fun K4 hK4=>?_
 refine Cd.qac [(0,false),(1,false)] rfl rfl ?_
 refine Jp.y 22 rfl (qaa rfl) rfl rfl Kp.true (Y.move rfl rfl) ?_
 refine Jp.y 23 rfl (qaa rfl) rfl rfl Kp.true (Y.neq rfl rfl rfl) ?_
 refine Jp.qae hK4 ?_
 refine Cd.qar rfl (fun ge=>?_) (fun ge=>?_)
 ·exact absurd ge (by simp)
 ·skip
  refine Cd.qbu hK2 ?_
  refine Cd.seq fun K5 hK5=>?_
  refine Cd.drawn [(8,_),(9,_)] ⟨rfl,rfl,trivial⟩ [(0,true),(2,true),(1,false),(3,false),(4,true),(5,true)] follows (by kernel_rfl) (fun hrl=>?_)
  refine Jp.q 26 rfl (qaa rfl) rfl rfl (by exact Y.qah 8 rfl isAgg40 sizeOf40 rfl rfl (by first | rfl | assumption)) ?_
  refine Jp.q 28 rfl (qaa rfl) rfl rfl (by exact Y.qah 9 rfl isAgg40 sizeOf40 rfl rfl (by first | rfl | assumption)) ?_
  refine Jp.call [] [] (qcu s hs) 27 rfl (qaa rfl) rfl rfl (Runs.fn rfl call38 rfl) (by decide) (by decide) rfl trivial ?_
  rintro v2 ρ2 L2 ⟨rfl,rfl,rfl⟩
  refine ⟨rfl,fun hle2=>⟨(Kp.st ⟨rfl,rfl,trivial⟩),?_⟩⟩
  refine Jp.call [] [] (qcu t ht) 29 rfl (qaa rfl) rfl rfl (Runs.fn rfl call38 rfl) (by decide) (by decide) rfl trivial ?_
  rintro v3 ρ3 L3 ⟨rfl,rfl,rfl⟩
  refine ⟨rfl,fun hle3=>⟨(Kp.st ⟨rfl,rfl,trivial⟩),?_⟩⟩
  refine Jp.q 30 rfl (qaa rfl) rfl rfl (Y.bits rfl rfl rfl rfl) ?_
  refine Jp.q 14 rfl (qaa rfl) rfl rfl (Y.assign rfl rfl) ?_
  refine Jp.qae hK5 ?_
  refine Cd.seq fun K7 hK7=>?_
  refine Cd.seq fun K8 hK8=>?_
  refine Cd.qac [(0,false)] rfl rfl ?_
  refine Jp.slot 14 rfl (show _ = Value.int .u8 ((allT s ||| allT t : UInt8).toNat : Int) from congrArg (Value.int .u8) (or8 _ _)) ?_
  refine Jp.y 31 rfl (qaa rfl) rfl rfl Kp.true (Y.move rfl rfl) ?_
  refine Jp.qae hK8 ?_
  refine Cd.block ?_
  refine Cd.seq fun K9 hK9=>?_
  refine Cd.seq fun K10 hK10=>?_
  refine Cd.qac [(0,false),(1,false)] rfl rfl ?_
  refine Jp.y 33 rfl (qaa rfl) rfl rfl Kp.true (Y.eql rfl rfl rfl) ?_
  refine Jp.y 32 rfl (qaa rfl) rfl rfl Kp.true (Y.assign rfl rfl) ?_
  refine Jp.qae hK10 ?_
  refine Cd.qar rfl (fun g32=>?_) (fun g32=>?_)
  ·skip
   refine Cd.slot 32 rfl (show _ = Value.bool true from congrArg Value.bool g32) ?_
   try simp only [sG0] at g32
   refine Cd.qbu hK9 ?_
   refine Cd.qcw rfl ?_
   refine Cd.seq fun K11 hK11=>?_
   refine Cd.qac [(0,false),(1,false),(2,false),(3,false),(4,false)] rfl rfl ?_
   refine Jp.y 35 rfl (qaa rfl) rfl rfl Kp.true (by exact Y.qah 8 rfl isAgg40 sizeOf40 rfl rfl (by first | rfl | assumption)) ?_
   refine Jp.y 36 rfl (qaa rfl) rfl rfl Kp.true (by exact Y.qah 9 rfl isAgg40 sizeOf40 rfl rfl (by first | rfl | assumption)) ?_
   refine Jp.call [] [] (qea s t hs ht) 37 rfl (qaa rfl) rfl rfl (Runs.fn rfl call44 rfl) (by decide) (by decide) rfl trivial ?_
   rintro v101 ρ101 L101 ⟨rfl,rfl,rfl⟩
   refine ⟨rfl,fun hle101=>⟨Kp.true,?_⟩⟩
   refine Jp.qai 10 rfl (qaa rfl) rfl rfl sizeOf40 rfl rfl (by first | rfl | assumption) (by first | rfl | assumption) rfl (by first | rfl | assumption) (fun k _ _=>qas k) Kp.true ?_
   refine Jp.y 11 rfl (qaa rfl) rfl rfl Kp.true (Y.assign rfl rfl) ?_
   refine Jp.qae hK11 ?_
   refine Cd.ret [] rfl (by exact qgu 10 rfl rfl isAgg40 sizeOf40 rfl (by first | rfl | assumption) rfl) trivial ⟨rfl, by
    (rw [hF5 () (by omega)]; done), rfl⟩
  ·skip
   try simp only [sG0] at g32
   refine Cd.qac [(0,false),(1,false)] rfl rfl ?_
   refine Jp.y 34 rfl (qaa rfl) rfl rfl Kp.true (Y.eql rfl rfl rfl) ?_
   refine Jp.y 32 rfl (qaa rfl) rfl rfl Kp.true (Y.assign rfl rfl) ?_
   refine Jp.qae hK9 ?_
   refine Cd.qar rfl (fun g32=>?_) (fun g32=>?_)
   ·skip
    try simp only [sG0] at g32
    refine Cd.seq fun K12 hK12=>?_
    refine Cd.qac [(0,false),(1,false),(2,false),(3,false),(4,false)] rfl rfl ?_
    refine Jp.y 35 rfl (qaa rfl) rfl rfl Kp.true (by exact Y.qah 8 rfl isAgg40 sizeOf40 rfl rfl (by first | rfl | assumption)) ?_
    refine Jp.y 36 rfl (qaa rfl) rfl rfl Kp.true (by exact Y.qah 9 rfl isAgg40 sizeOf40 rfl rfl (by first | rfl | assumption)) ?_
    refine Jp.call [] [] (qea s t hs ht) 37 rfl (qaa rfl) rfl rfl (Runs.fn rfl call44 rfl) (by decide) (by decide) rfl trivial ?_
    rintro v102 ρ102 L102 ⟨rfl,rfl,rfl⟩
    refine ⟨rfl,fun hle102=>⟨Kp.true,?_⟩⟩
    refine Jp.qai 10 rfl (qaa rfl) rfl rfl sizeOf40 rfl rfl (by first | rfl | assumption) (by first | rfl | assumption) rfl (by first | rfl | assumption) (fun k _ _=>qas k) Kp.true ?_
    refine Jp.y 11 rfl (qaa rfl) rfl rfl Kp.true (Y.assign rfl rfl) ?_
    refine Jp.qae hK12 ?_
    refine Cd.ret [] rfl (by exact qgu 10 rfl rfl isAgg40 sizeOf40 rfl (by first | rfl | assumption) rfl) trivial ⟨rfl, by
     (rw [hF5 () (by omega)]; done), rfl⟩
   ·skip
    try simp only [sG0] at g32
    refine Cd.seq fun K13 hK13=>?_
    refine Cd.qac [(0,false),(1,false)] rfl rfl ?_
    refine Jp.y 39 rfl (qaa rfl) rfl rfl Kp.true (Y.eql rfl rfl rfl) ?_
    refine Jp.y 38 rfl (qaa rfl) rfl rfl Kp.true (Y.assign rfl rfl) ?_
    refine Jp.qae hK13 ?_
    refine Cd.qar rfl (fun g38=>?_) (fun g38=>?_)
    ·skip
     try simp only [sG0] at g38
     refine Cd.seq fun K14 hK14=>?_
     refine Cd.qac [(0,false),(1,false),(2,false),(3,false),(4,false),(5,false),(6,false)] rfl rfl ?_
     refine Jp.y 40 rfl (qaa rfl) rfl rfl Kp.true (Y.move rfl rfl) ?_
     refine Jp.y 41 rfl (qaa rfl) rfl rfl Kp.true (Y.move rfl rfl) ?_
     refine Jp.y 42 rfl (qaa rfl) rfl rfl Kp.true (by exact Y.qah 8 rfl isAgg40 sizeOf40 rfl rfl (by first | rfl | assumption)) ?_
     refine Jp.y 43 rfl (qaa rfl) rfl rfl Kp.true (by exact Y.qah 9 rfl isAgg40 sizeOf40 rfl rfl (by first | rfl | assumption)) ?_
     refine Jp.call [] [] (masked_spec a b s t ha hb hs ht) 44 rfl (qaa rfl) rfl rfl (Runs.fn rfl call82 rfl) (by decide) (by decide) rfl trivial ?_
     rintro v103 ρ103 L103 ⟨rfl,rfl,rfl⟩
     refine ⟨rfl,fun hle103=>⟨Kp.true,?_⟩⟩
     refine Jp.qai 10 rfl (qaa rfl) rfl rfl sizeOf40 rfl rfl (by first | rfl | assumption) (by first | rfl | assumption) rfl (by first | rfl | assumption) (fun k _ _=>qas k) Kp.true ?_
     refine Jp.y 11 rfl (qaa rfl) rfl rfl Kp.true (Y.assign rfl rfl) ?_
     refine Jp.qae hK14 ?_
     refine Cd.ret [] rfl (by exact qgu 10 rfl rfl isAgg40 sizeOf40 rfl (by first | rfl | assumption) rfl) trivial ⟨rfl, by
      (rw [hF9 () (by omega)]; done), rfl⟩
    ·skip
     try simp only [sG0] at g38
     refine Cd.seq fun K15 hK15=>?_
     refine Cd.seq fun K16 hK16=>?_
     refine Cd.qac [(0,false),(1,false)] rfl rfl ?_
     refine Jp.y 46 rfl (qaa rfl) rfl rfl Kp.true (Y.eql rfl rfl rfl) ?_
     refine Jp.y 45 rfl (qaa rfl) rfl rfl Kp.true (Y.assign rfl rfl) ?_
     refine Jp.qae hK16 ?_
     refine Cd.qar rfl (fun g45=>?_) (fun g45=>?_)
     ·skip
      refine Cd.slot 45 rfl (show _ = Value.bool true from congrArg Value.bool g45) ?_
      try simp only [sG0] at g45
      refine Cd.qbu hK15 ?_
      refine Cd.qcw rfl ?_
      refine Cd.seq fun K17 hK17=>?_
      refine Cd.qac [(0,false),(1,false),(2,false),(3,false),(4,false),(5,false)] rfl rfl ?_
      refine Jp.y 49 rfl (qaa rfl) rfl rfl Kp.true (by exact Y.qah 8 rfl isAgg40 sizeOf40 rfl rfl (by first | rfl | assumption)) ?_
      refine Jp.y 50 rfl (qaa rfl) rfl rfl Kp.true (by exact Y.qah 9 rfl isAgg40 sizeOf40 rfl rfl (by first | rfl | assumption)) ?_
      refine Jp.call [] [] (qea s t hs ht) 51 rfl (qaa rfl) rfl rfl (Runs.fn rfl call44 rfl) (by decide) (by decide) rfl trivial ?_
      rintro v104 ρ104 L104 ⟨rfl,rfl,rfl⟩
      refine ⟨rfl,fun hle104=>⟨Kp.true,?_⟩⟩
      refine Jp.call [] [] (up_spec (qdr s t) hjT) 52 rfl (qaa rfl) rfl rfl (Runs.fn rfl call83 rfl) (by decide) (by decide) rfl trivial ?_
      rintro v105 ρ105 L105 ⟨rfl,rfl,rfl⟩
      refine ⟨rfl,fun hle105=>⟨Kp.true,?_⟩⟩
      refine Jp.qai 10 rfl (qaa rfl) rfl rfl sizeOf40 rfl rfl (by first | rfl | assumption) (by first | rfl | assumption) rfl (by first | rfl | assumption) (fun k _ _=>qas k) Kp.true ?_
      refine Jp.y 11 rfl (qaa rfl) rfl rfl Kp.true (Y.assign rfl rfl) ?_
      refine Jp.qae hK17 ?_
      refine Cd.ret [] rfl (by exact qgu 10 rfl rfl isAgg40 sizeOf40 rfl (by first | rfl | assumption) rfl) trivial ⟨rfl, by
       (rw [hF0 () (by omega)]; done), rfl⟩
     ·skip
      try simp only [sG0] at g45
      refine Cd.seq fun K18 hK18=>?_
      refine Cd.qac [(0,false),(1,false)] rfl rfl ?_
      refine Jp.y 47 rfl (qaa rfl) rfl rfl Kp.true (Y.eql rfl rfl rfl) ?_
      refine Jp.y 45 rfl (qaa rfl) rfl rfl Kp.true (Y.assign rfl rfl) ?_
      refine Jp.qae hK18 ?_
      refine Cd.qar rfl (fun g45=>?_) (fun g45=>?_)
      ·skip
       refine Cd.slot 45 rfl (show _ = Value.bool true from congrArg Value.bool g45) ?_
       try simp only [sG0] at g45
       refine Cd.qbu hK15 ?_
       refine Cd.qcw rfl ?_
       refine Cd.seq fun K19 hK19=>?_
       refine Cd.qac [(0,false),(1,false),(2,false),(3,false),(4,false),(5,false)] rfl rfl ?_
       refine Jp.y 49 rfl (qaa rfl) rfl rfl Kp.true (by exact Y.qah 8 rfl isAgg40 sizeOf40 rfl rfl (by first | rfl | assumption)) ?_
       refine Jp.y 50 rfl (qaa rfl) rfl rfl Kp.true (by exact Y.qah 9 rfl isAgg40 sizeOf40 rfl rfl (by first | rfl | assumption)) ?_
       refine Jp.call [] [] (qea s t hs ht) 51 rfl (qaa rfl) rfl rfl (Runs.fn rfl call44 rfl) (by decide) (by decide) rfl trivial ?_
       rintro v106 ρ106 L106 ⟨rfl,rfl,rfl⟩
       refine ⟨rfl,fun hle106=>⟨Kp.true,?_⟩⟩
       refine Jp.call [] [] (up_spec (qdr s t) hjT) 52 rfl (qaa rfl) rfl rfl (Runs.fn rfl call83 rfl) (by decide) (by decide) rfl trivial ?_
       rintro v107 ρ107 L107 ⟨rfl,rfl,rfl⟩
       refine ⟨rfl,fun hle107=>⟨Kp.true,?_⟩⟩
       refine Jp.qai 10 rfl (qaa rfl) rfl rfl sizeOf40 rfl rfl (by first | rfl | assumption) (by first | rfl | assumption) rfl (by first | rfl | assumption) (fun k _ _=>qas k) Kp.true ?_
       refine Jp.y 11 rfl (qaa rfl) rfl rfl Kp.true (Y.assign rfl rfl) ?_
       refine Jp.qae hK19 ?_
       refine Cd.ret [] rfl (by exact qgu 10 rfl rfl isAgg40 sizeOf40 rfl (by first | rfl | assumption) rfl) trivial ⟨rfl, by
        (rw [hF0 () (by omega)]; done), rfl⟩
      ·skip
       try simp only [sG0] at g45
       refine Cd.qac [(0,false),(1,false)] rfl rfl ?_
       refine Jp.y 48 rfl (qaa rfl) rfl rfl Kp.true (Y.eql rfl rfl rfl) ?_
       refine Jp.y 45 rfl (qaa rfl) rfl rfl Kp.true (Y.assign rfl rfl) ?_
       refine Jp.qae hK15 ?_
       refine Cd.qar rfl (fun g45=>?_) (fun g45=>?_)
       ·skip
        try simp only [sG0] at g45
        refine Cd.seq fun K20 hK20=>?_
        refine Cd.qac [(0,false),(1,false),(2,false),(3,false),(4,false),(5,false)] rfl rfl ?_
        refine Jp.y 49 rfl (qaa rfl) rfl rfl Kp.true (by exact Y.qah 8 rfl isAgg40 sizeOf40 rfl rfl (by first | rfl | assumption)) ?_
        refine Jp.y 50 rfl (qaa rfl) rfl rfl Kp.true (by exact Y.qah 9 rfl isAgg40 sizeOf40 rfl rfl (by first | rfl | assumption)) ?_
        refine Jp.call [] [] (qea s t hs ht) 51 rfl (qaa rfl) rfl rfl (Runs.fn rfl call44 rfl) (by decide) (by decide) rfl trivial ?_
        rintro v108 ρ108 L108 ⟨rfl,rfl,rfl⟩
        refine ⟨rfl,fun hle108=>⟨Kp.true,?_⟩⟩
        refine Jp.call [] [] (up_spec (qdr s t) hjT) 52 rfl (qaa rfl) rfl rfl (Runs.fn rfl call83 rfl) (by decide) (by decide) rfl trivial ?_
        rintro v109 ρ109 L109 ⟨rfl,rfl,rfl⟩
        refine ⟨rfl,fun hle109=>⟨Kp.true,?_⟩⟩
        refine Jp.qai 10 rfl (qaa rfl) rfl rfl sizeOf40 rfl rfl (by first | rfl | assumption) (by first | rfl | assumption) rfl (by first | rfl | assumption) (fun k _ _=>qas k) Kp.true ?_
        refine Jp.y 11 rfl (qaa rfl) rfl rfl Kp.true (Y.assign rfl rfl) ?_
        refine Jp.qae hK20 ?_
        refine Cd.ret [] rfl (by exact qgu 10 rfl rfl isAgg40 sizeOf40 rfl (by first | rfl | assumption) rfl) trivial ⟨rfl, by
         (rw [hF0 () (by omega)]; done), rfl⟩
       ·skip
        try simp only [sG0] at g45
        refine Cd.seq fun K21 hK21=>?_
        refine Cd.seq fun K22 hK22=>?_
        refine Cd.qac [(0,false),(1,false)] rfl rfl ?_
        refine Jp.y 54 rfl (qaa rfl) rfl rfl Kp.true (Y.eql rfl rfl rfl) ?_
        refine Jp.y 53 rfl (qaa rfl) rfl rfl Kp.true (Y.assign rfl rfl) ?_
        refine Jp.qae hK22 ?_
        refine Cd.qar rfl (fun g53=>?_) (fun g53=>?_)
        ·skip
         refine Cd.slot 53 rfl (show _ = Value.bool true from congrArg Value.bool g53) ?_
         try simp only [sG0] at g53
         refine Cd.qbu hK21 ?_
         refine Cd.qcw rfl ?_
         refine Cd.seq fun K23 hK23=>?_
         refine Cd.seq fun K24 hK24=>?_
         refine Cd.qac [(0,false),(1,false),(2,false)] rfl rfl ?_
         refine Jp.y 57 rfl (qaa rfl) rfl rfl Kp.true (Y.qam rfl rfl rfl underlying40 sizeOf5 (by first | decide | omega) (by first | decide | omega) rfl) ?_
         refine Jp.y 58 rfl (qaa rfl) rfl rfl Kp.true (by exact Y.qbg 9 rfl isAgg5 rfl rfl (HasC.pt (qbf hy))) ?_
         refine Jp.y 59 rfl (qaa rfl) rfl rfl Kp.true (Y.neq rfl rfl rfl) ?_
         refine Jp.qae hK24 ?_
         refine Cd.qar rfl (fun g59=>?_) (fun g59=>?_)
         ·skip
          try simp only [sG0] at g59
          refine Cd.seq fun K25 hK25=>?_
          refine Cd.drawn [(8,_),(9,_)] ⟨rfl,rfl,trivial⟩ [(0,true),(2,true),(3,true),(1,false),(4,true),(5,false),(6,false),(7,true)] follows (by kernel_rfl) (fun hrl=>?_)
          refine Jp.q 60 rfl (qaa rfl) rfl rfl (by exact Y.qah 8 rfl isAgg40 sizeOf40 rfl rfl (by first | rfl | assumption)) ?_
          refine Jp.q 62 rfl (qaa rfl) rfl rfl (Y.qam rfl rfl rfl underlying40 sizeOf5 (by first | decide | omega) (by first | decide | omega) rfl) ?_
          refine Jp.q 63 rfl (qaa rfl) rfl rfl (by exact Y.qbg 9 rfl isAgg5 rfl rfl (HasC.pt (qbf hy))) ?_
          refine Jp.call [] [] (qcu s hs) 61 rfl (qaa rfl) rfl rfl (Runs.fn rfl call38 rfl) (by decide) (by decide) rfl trivial ?_
          rintro v4 ρ4 L4 ⟨rfl,rfl,rfl⟩
          refine ⟨rfl,fun hle4=>⟨(Kp.st ⟨rfl,rfl,trivial⟩),?_⟩⟩
          refine Jp.q 64 rfl (qaa rfl) rfl rfl (Y.bits rfl rfl rfl rfl) ?_
          refine Jp.slot 64 rfl (show _ = Value.int .u8 ((allT s ||| y : UInt8).toNat : Int) from congrArg (Value.int .u8) (or8 _ _)) ?_
          refine Jp.call [] [] (qfx (allT s ||| y)) 65 rfl (qaa rfl) rfl rfl (Runs.fn rfl call79 rfl) (by decide) (by decide) rfl trivial ?_
          rintro v5 ρ5 L5 ⟨rfl,rfl,rfl⟩
          refine ⟨rfl,fun hle5=>⟨(Kp.st ⟨rfl,rfl,trivial⟩),?_⟩⟩
          refine Jp.qai 10 rfl (qaa rfl) rfl rfl sizeOf40 rfl rfl (by first | rfl | assumption) (by first | rfl | assumption) rfl (by first | rfl | assumption) (fun k _ _=>qas k) (Kp.st ⟨rfl,rfl,trivial⟩) ?_
          refine Jp.q 11 rfl (qaa rfl) rfl rfl (Y.assign rfl rfl) ?_
          refine Jp.qae hK25 ?_
          refine Cd.ret [] rfl (by exact qgu 10 rfl rfl isAgg40 sizeOf40 rfl (by first | rfl | assumption) rfl) trivial ⟨rfl, by
           (rw [hF3 () (by omega) (by omega)]; done), rfl⟩
         ·skip
          try simp only [sG0] at g59
          refine Cd.qbu hK23 ?_
          refine Cd.seq fun K27 hK27=>?_
          refine Cd.qac [(0,false),(1,false),(2,false),(3,false),(4,false),(5,false),(6,false),(7,false)] rfl rfl ?_
          refine Jp.y 66 rfl (qaa rfl) rfl rfl Kp.true (Y.move rfl rfl) ?_
          refine Jp.y 67 rfl (qaa rfl) rfl rfl Kp.true (Y.move rfl rfl) ?_
          refine Jp.y 68 rfl (qaa rfl) rfl rfl Kp.true (by exact Y.remN rfl rfl rfl (by omega) (by omega)) ?_
          refine Jp.y 69 rfl (qaa rfl) rfl rfl Kp.true (Y.qaw rfl rfl underlying24 underlying3 (by exact qaj (by omega) (by omega))) ?_
          refine Jp.y 70 rfl (qaa rfl) rfl rfl Kp.true (by exact Y.qah 8 rfl isAgg40 sizeOf40 rfl rfl (by first | rfl | assumption)) ?_
          refine Jp.slot 69 rfl (show _ = Value.int .i64 ((b % 32 : Nat) : Int) from congrArg (Value.int .i64) (by omega)) ?_
          refine Jp.call [] [] (qfp k (b % 32) s hm hs) 71 rfl (qaa rfl) rfl rfl (Runs.fn rfl call84 rfl) (by decide) (by decide) rfl trivial ?_
          rintro v4 ρ4 L4 ⟨rfl,rfl,rfl⟩
          refine ⟨rfl,fun hle4=>⟨Kp.true,?_⟩⟩
          refine Jp.qai 10 rfl (qaa rfl) rfl rfl sizeOf40 rfl rfl (by first | rfl | assumption) (by first | rfl | assumption) rfl (by first | rfl | assumption) (fun k _ _=>qas k) Kp.true ?_
          refine Jp.y 11 rfl (qaa rfl) rfl rfl Kp.true (Y.assign rfl rfl) ?_
          refine Jp.qae hK27 ?_
          refine Cd.ret [] rfl (by exact qgu 10 rfl rfl isAgg40 sizeOf40 rfl (by first | rfl | assumption) rfl) trivial ⟨rfl, by
           (rw [hF2 () (by omega) (by omega)]; done), rfl⟩
        ·skip
         try simp only [sG0] at g53
         refine Cd.seq fun K28 hK28=>?_
         refine Cd.qac [(0,false),(1,false)] rfl rfl ?_
         refine Jp.y 55 rfl (qaa rfl) rfl rfl Kp.true (Y.eql rfl rfl rfl) ?_
         refine Jp.y 53 rfl (qaa rfl) rfl rfl Kp.true (Y.assign rfl rfl) ?_
         refine Jp.qae hK28 ?_
         refine Cd.qar rfl (fun g53=>?_) (fun g53=>?_)
         ·skip
          refine Cd.slot 53 rfl (show _ = Value.bool true from congrArg Value.bool g53) ?_
          try simp only [sG0] at g53
          refine Cd.qbu hK21 ?_
          refine Cd.qcw rfl ?_
          refine Cd.seq fun K29 hK29=>?_
          refine Cd.seq fun K30 hK30=>?_
          refine Cd.qac [(0,false),(1,false),(2,false)] rfl rfl ?_
          refine Jp.y 57 rfl (qaa rfl) rfl rfl Kp.true (Y.qam rfl rfl rfl underlying40 sizeOf5 (by first | decide | omega) (by first | decide | omega) rfl) ?_
          refine Jp.y 58 rfl (qaa rfl) rfl rfl Kp.true (by exact Y.qbg 9 rfl isAgg5 rfl rfl (HasC.pt (qbf hy))) ?_
          refine Jp.y 59 rfl (qaa rfl) rfl rfl Kp.true (Y.neq rfl rfl rfl) ?_
          refine Jp.qae hK30 ?_
          refine Cd.qar rfl (fun g59=>?_) (fun g59=>?_)
          ·skip
           try simp only [sG0] at g59
           refine Cd.seq fun K31 hK31=>?_
           refine Cd.drawn [(8,_),(9,_)] ⟨rfl,rfl,trivial⟩ [(0,true),(2,true),(3,true),(1,false),(4,true),(5,false),(6,false),(7,true)] follows (by kernel_rfl) (fun hrl=>?_)
           refine Jp.q 60 rfl (qaa rfl) rfl rfl (by exact Y.qah 8 rfl isAgg40 sizeOf40 rfl rfl (by first | rfl | assumption)) ?_
           refine Jp.q 62 rfl (qaa rfl) rfl rfl (Y.qam rfl rfl rfl underlying40 sizeOf5 (by first | decide | omega) (by first | decide | omega) rfl) ?_
           refine Jp.q 63 rfl (qaa rfl) rfl rfl (by exact Y.qbg 9 rfl isAgg5 rfl rfl (HasC.pt (qbf hy))) ?_
           refine Jp.call [] [] (qcu s hs) 61 rfl (qaa rfl) rfl rfl (Runs.fn rfl call38 rfl) (by decide) (by decide) rfl trivial ?_
           rintro v4 ρ4 L4 ⟨rfl,rfl,rfl⟩
           refine ⟨rfl,fun hle4=>⟨(Kp.st ⟨rfl,rfl,trivial⟩),?_⟩⟩
           refine Jp.q 64 rfl (qaa rfl) rfl rfl (Y.bits rfl rfl rfl rfl) ?_
           refine Jp.slot 64 rfl (show _ = Value.int .u8 ((allT s ||| y : UInt8).toNat : Int) from congrArg (Value.int .u8) (or8 _ _)) ?_
           refine Jp.call [] [] (qfx (allT s ||| y)) 65 rfl (qaa rfl) rfl rfl (Runs.fn rfl call79 rfl) (by decide) (by decide) rfl trivial ?_
           rintro v5 ρ5 L5 ⟨rfl,rfl,rfl⟩
           refine ⟨rfl,fun hle5=>⟨(Kp.st ⟨rfl,rfl,trivial⟩),?_⟩⟩
           refine Jp.qai 10 rfl (qaa rfl) rfl rfl sizeOf40 rfl rfl (by first | rfl | assumption) (by first | rfl | assumption) rfl (by first | rfl | assumption) (fun k _ _=>qas k) (Kp.st ⟨rfl,rfl,trivial⟩) ?_
           refine Jp.q 11 rfl (qaa rfl) rfl rfl (Y.assign rfl rfl) ?_
           refine Jp.qae hK31 ?_
           refine Cd.ret [] rfl (by exact qgu 10 rfl rfl isAgg40 sizeOf40 rfl (by first | rfl | assumption) rfl) trivial ⟨rfl, by
            (rw [hF3 () (by omega) (by omega)]; done), rfl⟩
          ·skip
           try simp only [sG0] at g59
           refine Cd.qbu hK29 ?_
           refine Cd.seq fun K33 hK33=>?_
           refine Cd.qac [(0,false),(1,false),(2,false),(3,false),(4,false),(5,false),(6,false),(7,false)] rfl rfl ?_
           refine Jp.y 66 rfl (qaa rfl) rfl rfl Kp.true (Y.move rfl rfl) ?_
           refine Jp.y 67 rfl (qaa rfl) rfl rfl Kp.true (Y.move rfl rfl) ?_
           refine Jp.y 68 rfl (qaa rfl) rfl rfl Kp.true (by exact Y.remN rfl rfl rfl (by omega) (by omega)) ?_
           refine Jp.y 69 rfl (qaa rfl) rfl rfl Kp.true (Y.qaw rfl rfl underlying24 underlying3 (by exact qaj (by omega) (by omega))) ?_
           refine Jp.y 70 rfl (qaa rfl) rfl rfl Kp.true (by exact Y.qah 8 rfl isAgg40 sizeOf40 rfl rfl (by first | rfl | assumption)) ?_
           refine Jp.slot 69 rfl (show _ = Value.int .i64 ((b % 32 : Nat) : Int) from congrArg (Value.int .i64) (by omega)) ?_
           refine Jp.call [] [] (qfp k (b % 32) s hm hs) 71 rfl (qaa rfl) rfl rfl (Runs.fn rfl call84 rfl) (by decide) (by decide) rfl trivial ?_
           rintro v4 ρ4 L4 ⟨rfl,rfl,rfl⟩
           refine ⟨rfl,fun hle4=>⟨Kp.true,?_⟩⟩
           refine Jp.qai 10 rfl (qaa rfl) rfl rfl sizeOf40 rfl rfl (by first | rfl | assumption) (by first | rfl | assumption) rfl (by first | rfl | assumption) (fun k _ _=>qas k) Kp.true ?_
           refine Jp.y 11 rfl (qaa rfl) rfl rfl Kp.true (Y.assign rfl rfl) ?_
           refine Jp.qae hK33 ?_
           refine Cd.ret [] rfl (by exact qgu 10 rfl rfl isAgg40 sizeOf40 rfl (by first | rfl | assumption) rfl) trivial ⟨rfl, by
            (rw [hF2 () (by omega) (by omega)]; done), rfl⟩
         ·skip
          try simp only [sG0] at g53
          refine Cd.qac [(0,false),(1,false)] rfl rfl ?_
          refine Jp.y 56 rfl (qaa rfl) rfl rfl Kp.true (Y.eql rfl rfl rfl) ?_
          refine Jp.y 53 rfl (qaa rfl) rfl rfl Kp.true (Y.assign rfl rfl) ?_
          refine Jp.qae hK21 ?_
          refine Cd.qar rfl (fun g53=>?_) (fun g53=>?_)
          ·skip
           try simp only [sG0] at g53
           refine Cd.seq fun K34 hK34=>?_
           refine Cd.seq fun K35 hK35=>?_
           refine Cd.qac [(0,false),(1,false),(2,false)] rfl rfl ?_
           refine Jp.y 57 rfl (qaa rfl) rfl rfl Kp.true (Y.qam rfl rfl rfl underlying40 sizeOf5 (by first | decide | omega) (by first | decide | omega) rfl) ?_
           refine Jp.y 58 rfl (qaa rfl) rfl rfl Kp.true (by exact Y.qbg 9 rfl isAgg5 rfl rfl (HasC.pt (qbf hy))) ?_
           refine Jp.y 59 rfl (qaa rfl) rfl rfl Kp.true (Y.neq rfl rfl rfl) ?_
           refine Jp.qae hK35 ?_
           refine Cd.qar rfl (fun g59=>?_) (fun g59=>?_)
           ·skip
            try simp only [sG0] at g59
            refine Cd.seq fun K36 hK36=>?_
            refine Cd.drawn [(8,_),(9,_)] ⟨rfl,rfl,trivial⟩ [(0,true),(2,true),(3,true),(1,false),(4,true),(5,false),(6,false),(7,true)] follows (by kernel_rfl) (fun hrl=>?_)
            refine Jp.q 60 rfl (qaa rfl) rfl rfl (by exact Y.qah 8 rfl isAgg40 sizeOf40 rfl rfl (by first | rfl | assumption)) ?_
            refine Jp.q 62 rfl (qaa rfl) rfl rfl (Y.qam rfl rfl rfl underlying40 sizeOf5 (by first | decide | omega) (by first | decide | omega) rfl) ?_
            refine Jp.q 63 rfl (qaa rfl) rfl rfl (by exact Y.qbg 9 rfl isAgg5 rfl rfl (HasC.pt (qbf hy))) ?_
            refine Jp.call [] [] (qcu s hs) 61 rfl (qaa rfl) rfl rfl (Runs.fn rfl call38 rfl) (by decide) (by decide) rfl trivial ?_
            rintro v4 ρ4 L4 ⟨rfl,rfl,rfl⟩
            refine ⟨rfl,fun hle4=>⟨(Kp.st ⟨rfl,rfl,trivial⟩),?_⟩⟩
            refine Jp.q 64 rfl (qaa rfl) rfl rfl (Y.bits rfl rfl rfl rfl) ?_
            refine Jp.slot 64 rfl (show _ = Value.int .u8 ((allT s ||| y : UInt8).toNat : Int) from congrArg (Value.int .u8) (or8 _ _)) ?_
            refine Jp.call [] [] (qfx (allT s ||| y)) 65 rfl (qaa rfl) rfl rfl (Runs.fn rfl call79 rfl) (by decide) (by decide) rfl trivial ?_
            rintro v5 ρ5 L5 ⟨rfl,rfl,rfl⟩
            refine ⟨rfl,fun hle5=>⟨(Kp.st ⟨rfl,rfl,trivial⟩),?_⟩⟩
            refine Jp.qai 10 rfl (qaa rfl) rfl rfl sizeOf40 rfl rfl (by first | rfl | assumption) (by first | rfl | assumption) rfl (by first | rfl | assumption) (fun k _ _=>qas k) (Kp.st ⟨rfl,rfl,trivial⟩) ?_
            refine Jp.q 11 rfl (qaa rfl) rfl rfl (Y.assign rfl rfl) ?_
            refine Jp.qae hK36 ?_
            refine Cd.ret [] rfl (by exact qgu 10 rfl rfl isAgg40 sizeOf40 rfl (by first | rfl | assumption) rfl) trivial ⟨rfl, by
             (rw [hF3 () (by omega) (by omega)]; done), rfl⟩
           ·skip
            try simp only [sG0] at g59
            refine Cd.qbu hK34 ?_
            refine Cd.seq fun K38 hK38=>?_
            refine Cd.qac [(0,false),(1,false),(2,false),(3,false),(4,false),(5,false),(6,false),(7,false)] rfl rfl ?_
            refine Jp.y 66 rfl (qaa rfl) rfl rfl Kp.true (Y.move rfl rfl) ?_
            refine Jp.y 67 rfl (qaa rfl) rfl rfl Kp.true (Y.move rfl rfl) ?_
            refine Jp.y 68 rfl (qaa rfl) rfl rfl Kp.true (by exact Y.remN rfl rfl rfl (by omega) (by omega)) ?_
            refine Jp.y 69 rfl (qaa rfl) rfl rfl Kp.true (Y.qaw rfl rfl underlying24 underlying3 (by exact qaj (by omega) (by omega))) ?_
            refine Jp.y 70 rfl (qaa rfl) rfl rfl Kp.true (by exact Y.qah 8 rfl isAgg40 sizeOf40 rfl rfl (by first | rfl | assumption)) ?_
            refine Jp.slot 69 rfl (show _ = Value.int .i64 ((b % 32 : Nat) : Int) from congrArg (Value.int .i64) (by omega)) ?_
            refine Jp.call [] [] (qfp k (b % 32) s hm hs) 71 rfl (qaa rfl) rfl rfl (Runs.fn rfl call84 rfl) (by decide) (by decide) rfl trivial ?_
            rintro v4 ρ4 L4 ⟨rfl,rfl,rfl⟩
            refine ⟨rfl,fun hle4=>⟨Kp.true,?_⟩⟩
            refine Jp.qai 10 rfl (qaa rfl) rfl rfl sizeOf40 rfl rfl (by first | rfl | assumption) (by first | rfl | assumption) rfl (by first | rfl | assumption) (fun k _ _=>qas k) Kp.true ?_
            refine Jp.y 11 rfl (qaa rfl) rfl rfl Kp.true (Y.assign rfl rfl) ?_
            refine Jp.qae hK38 ?_
            refine Cd.ret [] rfl (by exact qgu 10 rfl rfl isAgg40 sizeOf40 rfl (by first | rfl | assumption) rfl) trivial ⟨rfl, by
             (rw [hF2 () (by omega) (by omega)]; done), rfl⟩
          ·skip
           try simp only [sG0] at g53
           refine Cd.seq fun K39 hK39=>?_
           refine Cd.seq fun K40 hK40=>?_
           refine Cd.qac [(0,false),(1,false)] rfl rfl ?_
           refine Jp.y 73 rfl (qaa rfl) rfl rfl Kp.true (Y.eql rfl rfl rfl) ?_
           refine Jp.y 72 rfl (qaa rfl) rfl rfl Kp.true (Y.assign rfl rfl) ?_
           refine Jp.qae hK40 ?_
           refine Cd.qar rfl (fun g72=>?_) (fun g72=>?_)
           ·skip
            refine Cd.slot 72 rfl (show _ = Value.bool true from congrArg Value.bool g72) ?_
            try simp only [sG0] at g72
            refine Cd.qbu hK39 ?_
            refine Cd.qcw rfl ?_
            refine Cd.seq fun K41 hK41=>?_
            refine Cd.qac [(0,false),(1,false),(2,false),(3,false)] rfl rfl ?_
            refine Jp.y 75 rfl (qaa rfl) rfl rfl Kp.true (Y.move rfl rfl) ?_
            refine Jp.y 76 rfl (qaa rfl) rfl rfl Kp.true (Y.array [(0,_)] [_,_,_,_] rfl rfl underlying40 sizeOf5 zeroValue40 rfl) ?_
            refine Jp.qai 10 rfl (qaa rfl) rfl rfl sizeOf40 rfl rfl (by first | rfl | assumption) (by first | rfl | assumption) rfl (by first | rfl | assumption) (fun k _ _=>qas k) Kp.true ?_
            refine Jp.y 11 rfl (qaa rfl) rfl rfl Kp.true (Y.assign rfl rfl) ?_
            refine Jp.qae hK41 ?_
            refine Cd.ret [] rfl (by exact qgu 10 rfl rfl isAgg40 sizeOf40 rfl (by first | rfl | assumption) rfl) trivial ⟨rfl, by
             (rw [hF4 () (by omega)]; rfl), rfl⟩
           ·skip
            try simp only [sG0] at g72
            refine Cd.qac [(0,false),(1,false)] rfl rfl ?_
            refine Jp.y 74 rfl (qaa rfl) rfl rfl Kp.true (Y.eql rfl rfl rfl) ?_
            refine Jp.y 72 rfl (qaa rfl) rfl rfl Kp.true (Y.assign rfl rfl) ?_
            refine Jp.qae hK39 ?_
            refine Cd.qar rfl (fun g72=>?_) (fun g72=>?_)
            ·skip
             try simp only [sG0] at g72
             refine Cd.seq fun K42 hK42=>?_
             refine Cd.qac [(0,false),(1,false),(2,false),(3,false)] rfl rfl ?_
             refine Jp.y 75 rfl (qaa rfl) rfl rfl Kp.true (Y.move rfl rfl) ?_
             refine Jp.y 76 rfl (qaa rfl) rfl rfl Kp.true (Y.array [(0,_)] [_,_,_,_] rfl rfl underlying40 sizeOf5 zeroValue40 rfl) ?_
             refine Jp.qai 10 rfl (qaa rfl) rfl rfl sizeOf40 rfl rfl (by first | rfl | assumption) (by first | rfl | assumption) rfl (by first | rfl | assumption) (fun k _ _=>qas k) Kp.true ?_
             refine Jp.y 11 rfl (qaa rfl) rfl rfl Kp.true (Y.assign rfl rfl) ?_
             refine Jp.qae hK42 ?_
             refine Cd.ret [] rfl (by exact qgu 10 rfl rfl isAgg40 sizeOf40 rfl (by first | rfl | assumption) rfl) trivial ⟨rfl, by
              (rw [hF4 () (by omega)]; rfl), rfl⟩
            ·skip
             try simp only [sG0] at g72
             refine Cd.over rfl hK7 ?_
             refine Cd.seq fun K43 hK43=>?_
             refine Cd.qac [(0,false),(1,false),(2,false),(3,false)] rfl rfl ?_
             refine Jp.y 77 rfl (qaa rfl) rfl rfl Kp.true (Y.move rfl rfl) ?_
             refine Jp.call [] [] (qfx (allT s ||| allT t)) 78 rfl (qaa rfl) rfl rfl (Runs.fn rfl call79 rfl) (by decide) (by decide) rfl trivial ?_
             rintro v110 ρ110 L110 ⟨rfl,rfl,rfl⟩
             refine ⟨rfl,fun hle110=>⟨Kp.true,?_⟩⟩
             refine Jp.qai 10 rfl (qaa rfl) rfl rfl sizeOf40 rfl rfl (by first | rfl | assumption) (by first | rfl | assumption) rfl (by first | rfl | assumption) (fun k _ _=>qas k) Kp.true ?_
             refine Jp.y 11 rfl (qaa rfl) rfl rfl Kp.true (Y.assign rfl rfl) ?_
             refine Jp.qae hK43 ?_
             refine Cd.ret [] rfl (by exact qgu 10 rfl rfl isAgg40 sizeOf40 rfl (by first | rfl | assumption) rfl) trivial ⟨rfl, by
              (rw [hF7 () (by omega)]; done), rfl⟩
end Go.Proofs.YtnfkalpgidiafaaGreat

namespace Go.Proofs.YtnfkalpgidiafaaGreat
open Go
section
variable {P : Program} {n : Nat} {cx : Cx} {ρ : Hp} {E : Env} {L : Own} {o : Oper}
theorem Y.qic (j : Nat) {x : Operand} {t : TypeId} {b off m : Nat} {cs : List Value} {T : TypeId} {fr : Nat × Nat} (es : List Value) (hop : o.op = .load t x) (hA : ∀ w,(isAgg t).run P w = .ok true w) (hz : ∀ w,(sizeOf t).run P w = .ok m w) (hx : evE E x = some (.pointer (some ⟨b,off,none⟩)))
  (hj : look L j = some (Pt b (.cells cs.toArray T fr))) (hm : es.length = m) (hv : ∀ p v,es[p]? = some v → cs[off + p]? = some v) : Y P n cx ρ E L o (.agg es.toArray):=fun ac w ha hs=>by
 have hb:=hs.pt hj
 have hc : ∀ k v,es[k]? = some v → w.cell? ((⟨b,off,none⟩ : Addr).add k) = some v:=fun k v e=>by rw [qcy]; simp [World.cell?,hb,hv k v e]
 simp only [execOp,hop,ha.ev hx,Sem.run_bind,qdz hA hz hm hc,Result.andThen_ok,Sem.run_pure]
theorem cellVar (j : Nat) {w : World} (hs : St cx ρ L w) {t : TypeId} {b m : Nat} {cs : List Value} {T : TypeId} {fr : Nat × Nat} (hA : ∀ w,(isAgg t).run P w = .ok true w) (hz : ∀ w,(sizeOf t).run P w = .ok m w) (hj : look L j = some (Pt b (.cells cs.toArray T fr))) (hm : cs.length = m) : (loadVar t ⟨b,0,none⟩).run P w = .ok (.agg cs.toArray) w:=by
 have hb:=hs.pt hj
 have hc : ∀ k v,cs[k]? = some v → w.cell? ((⟨b,0,none⟩ : Addr).add k) = some v:=fun k v e=>by rw [qcy]; simp [World.cell?,hb,e]
 subst hm
 simp only [loadVar,Sem.run_bind,Sem.run_pure,Result.andThen_ok,hA,hz,if_true,run_loadCells_list w _ cs hc]
theorem resCCTCT (j1 j2 j3 : Nat) {fn : Func} {s1 s2 s3 u v : Tmp} {t1 t2 t3 : TypeId} {b1 b2 b3 m1 m2 m3 : Nat} {c1 c2 c3 : List Value} {T1 T2 T3 : TypeId} {f1 f2 f3 : Nat × Nat} {x y : Value} (h : fn.results = #[.cell s1 t1,.cell s2 t2,.tmp u,.cell s3 t3,.tmp v])
  (e1 : look E s1 = some (.pointer (some ⟨b1,0,none⟩))) (e2 : look E s2 = some (.pointer (some ⟨b2,0,none⟩))) (eu : look E u = some x) (e3 : look E s3 = some (.pointer (some ⟨b3,0,none⟩))) (ev : look E v = some y)
  (A1 : ∀ w,(isAgg t1).run P w = .ok true w) (z1 : ∀ w,(sizeOf t1).run P w = .ok m1 w) (A2 : ∀ w,(isAgg t2).run P w = .ok true w) (z2 : ∀ w,(sizeOf t2).run P w = .ok m2 w) (A3 : ∀ w,(isAgg t3).run P w = .ok true w) (z3 : ∀ w,(sizeOf t3).run P w = .ok m3 w)
  (p1 : look L j1 = some (Pt b1 (.cells c1.toArray T1 f1))) (l1 : c1.length = m1) (p2 : look L j2 = some (Pt b2 (.cells c2.toArray T2 f2))) (l2 : c2.length = m2) (p3 : look L j3 = some (Pt b3 (.cells c3.toArray T3 f3))) (l3 : c3.length = m3) :
  ∀ a w,At n E a → St cx ρ L w → (results fn a.tmps).run P w = .ok (.tuple #[.agg c1.toArray,.agg c2.toArray,x,.agg c3.toArray,y]) w:=fun a w ha hs=>by
 have g1:=ha.slot s1 _ e1
 have g2:=ha.slot s2 _ e2
 have g3:=ha.slot s3 _ e3
 have gu:=ha.slot u _ eu
 have gv:=ha.slot v _ ev
 have h1:=cellVar j1 hs A1 z1 p1 l1
 have h2:=cellVar j2 hs A2 z2 p2 l2
 have h3:=cellVar j3 hs A3 z3 p3 l3
 simp [results,h,g1,g2,g3,gu,gv,asAddr,h1,h2,h3]
end
end Go.Proofs.YtnfkalpgidiafaaGreat
