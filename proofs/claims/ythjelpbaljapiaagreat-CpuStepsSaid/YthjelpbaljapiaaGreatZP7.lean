import Derived.Test.YthjelpbaljapiaaGreatZP6
import Derived.Test.YthjelpbaljapiaaGreatZP4
import Derived.Test.YthjelpbaljapiaaGreatZP3
import Derived.Test.YthjelpbaljapiaaGreatZP1
set_option linter.unusedVariables false
set_option linter.unusedSimpArgs false
set_option maxRecDepth 100000
namespace Go.Proofs.YthjelpbaljapiaaGreat
open _root_.Go.Proofs.Tryz
open Go
theorem high_spec (k a b : Nat) (hk : k = 11 ∨ k = 12 ∨ k = 13) (ha : a < 4294967296) (hb : b < 4294967296) : Spec Tryz.prog 60 #[.int .i64 k,.int .u32 a,.int .u32 b] (fun _=>True) [] (fun ρ ρ' v L=>ρ' = ρ ∧ v = .int .u32 (doP k a b : Int) ∧ L = []):=by
  refine Spec.of 36 Tryz.func60 rfl Tryz.ntmps60 [(0,_),(1,_),(2,_)] rfl rfl ?_
  intro cx ρ hr h0
  have hm3 : a * b ≤ 18446744065119617025:=Nat.mul_le_mul (show a ≤ 4294967295 by omega) (show b ≤ 4294967295 by omega)
  have hhi:=hi_u64 hm3
  rw [← hi_do hk ha hb]
  refine Cd.seq fun K1 hK1=>?_
  refine Cd.qac [(0,false)] rfl rfl ?_
  refine Jp.y 6 rfl (qaa rfl) rfl rfl Kp.true (Y.assign rfl rfl) ?_
  refine Jp.qae hK1 ?_
  refine Cd.seq fun K2 hK2=>?_
  refine Cd.qac [(0,false),(1,false),(2,false),(3,false),(4,false),(5,false)] rfl rfl ?_
  refine Jp.y 9 rfl (qaa rfl) rfl rfl Kp.true (Y.move rfl rfl) ?_
  refine Jp.y 10 rfl (qaa rfl) rfl rfl Kp.true (Y.qap rfl rfl underlying24 underlying88 (by exact qay (by omega) (by omega))) ?_
  refine Jp.y 11 rfl (qaa rfl) rfl rfl Kp.true (Y.move rfl rfl) ?_
  refine Jp.y 12 rfl (qaa rfl) rfl rfl Kp.true (Y.qap rfl rfl underlying24 underlying88 (by exact qay (by omega) (by omega))) ?_
  refine Jp.y 13 rfl (qaa rfl) rfl rfl Kp.true (Y.mul_ rfl rfl rfl (by exact qay (by omega) (by omega))) ?_
  refine Jp.y 7 rfl (qaa rfl) rfl rfl Kp.true (Y.assign rfl rfl) ?_
  refine Jp.qae hK2 ?_
  refine Cd.seq fun K3 hK3=>?_
  refine Cd.qac [(0,false),(1,false),(2,false),(3,false)] rfl rfl ?_
  refine Jp.y 14 rfl (qaa rfl) rfl rfl Kp.true (Y.move rfl rfl) ?_
  refine Jp.y 15 rfl (qaa rfl) rfl rfl Kp.true (Y.shr rfl rfl rfl (by first | decide | omega)) ?_
  refine Jp.y 16 rfl (qaa rfl) rfl rfl Kp.true (Y.qap rfl rfl underlying88 underlying24 (by rfl)) ?_
  refine Jp.y 8 rfl (qaa rfl) rfl rfl Kp.true (Y.assign rfl rfl) ?_
  refine Jp.qae hK3 ?_
  refine Cd.seq fun K4 hK4=>?_
  refine Cd.seq fun K5 hK5=>?_
  refine Cd.qac [(0,false),(1,false),(2,false),(3,false),(4,false),(5,false)] rfl rfl ?_
  refine Jp.y 17 rfl (qaa rfl) rfl rfl Kp.true (Y.move rfl rfl) ?_
  refine Jp.slot 8 rfl (show _ = Value.int .u32 ((a * b / 4294967296 : Nat) : Int) from congrArg (Value.int .u32) hhi) ?_
  refine Jp.y 18 rfl (qaa rfl) rfl rfl Kp.true (Y.neq rfl rfl rfl) ?_
  refine Jp.y 19 rfl (qaa rfl) rfl rfl Kp.true (Y.move rfl rfl) ?_
  refine Jp.split 19 rfl (fun g19=>?_) (fun g19=>?_)
  · skip
    try simp only [sG0] at g19
    refine Jp.y 20 rfl (qab rfl rfl rfl rfl) rfl rfl Kp.true (Y.move rfl rfl) ?_
    refine Jp.call [] [] (qgg _ (by assumption)) 21 rfl (qab rfl rfl rfl rfl) rfl rfl (Runs.fn rfl call84 rfl) (by decide) (by decide) rfl trivial ?_
    rintro v101 ρ101 L101 ⟨rfl,rfl,rfl⟩
    refine ⟨rfl,fun hle101=>⟨Kp.true,?_⟩⟩
    refine Jp.y 22 rfl (qaa rfl) rfl rfl Kp.true (Y.qat rfl rfl rfl) ?_
    refine Jp.qae hK5 ?_
    refine Cd.qal rfl (fun g22=>?_) (fun g22=>?_)
    · skip
      try simp only [sG0] at g22
      refine Cd.qac [(0,false),(1,false),(2,false),(3,false)] rfl rfl ?_
      refine Jp.y 23 rfl (qaa rfl) rfl rfl Kp.true (Y.move rfl rfl) ?_
      refine Jp.y 24 rfl (qaa rfl) rfl rfl Kp.true (Y.move rfl rfl) ?_
      refine Jp.y 25 rfl (qaa rfl) rfl rfl Kp.true (Y.qdo rfl rfl rfl (by rfl)) ?_
      refine Jp.y 8 rfl (qaa rfl) rfl rfl Kp.true (Y.assign rfl rfl) ?_
      refine Jp.qae hK4 ?_
      refine Cd.seq fun K6 hK6=>?_
      refine Cd.seq fun K7 hK7=>?_
      refine Cd.qac [(0,false),(1,false),(2,false),(3,false),(4,false),(5,false)] rfl rfl ?_
      refine Jp.y 26 rfl (qaa rfl) rfl rfl Kp.true (Y.move rfl rfl) ?_
      refine Jp.y 27 rfl (qaa rfl) rfl rfl Kp.true (Y.eql rfl rfl rfl) ?_
      refine Jp.y 28 rfl (qaa rfl) rfl rfl Kp.true (Y.move rfl rfl) ?_
      refine Jp.split 28 rfl (fun g28=>?_) (fun g28=>?_)
      · skip
        try simp only [sG0] at g28
        refine Jp.y 29 rfl (qab rfl rfl rfl rfl) rfl rfl Kp.true (Y.move rfl rfl) ?_
        refine Jp.call [] [] (qgg _ (by assumption)) 30 rfl (qab rfl rfl rfl rfl) rfl rfl (Runs.fn rfl call84 rfl) (by decide) (by decide) rfl trivial ?_
        rintro v102 ρ102 L102 ⟨rfl,rfl,rfl⟩
        refine ⟨rfl,fun hle102=>⟨Kp.true,?_⟩⟩
        refine Jp.y 31 rfl (qaa rfl) rfl rfl Kp.true (Y.qat rfl rfl rfl) ?_
        refine Jp.qae hK7 ?_
        refine Cd.qal rfl (fun g31=>?_) (fun g31=>?_)
        · skip
          try simp only [sG0] at g31
          refine Cd.qac [(0,false),(1,false),(2,false),(3,false)] rfl rfl ?_
          refine Jp.y 32 rfl (qaa rfl) rfl rfl Kp.true (Y.move rfl rfl) ?_
          refine Jp.y 33 rfl (qaa rfl) rfl rfl Kp.true (Y.move rfl rfl) ?_
          refine Jp.y 34 rfl (qaa rfl) rfl rfl Kp.true (Y.qdo rfl rfl rfl (by rfl)) ?_
          refine Jp.y 8 rfl (qaa rfl) rfl rfl Kp.true (Y.assign rfl rfl) ?_
          refine Jp.qae hK6 ?_
          refine Cd.seq fun K8 hK8=>?_
          refine Cd.qac [(0,false),(1,false)] rfl rfl ?_
          refine Jp.y 35 rfl (qaa rfl) rfl rfl Kp.true (Y.move rfl rfl) ?_
          refine Jp.y 6 rfl (qaa rfl) rfl rfl Kp.true (Y.assign rfl rfl) ?_
          refine Jp.qae hK8 ?_
          refine Cd.ret [] rfl (qba rfl rfl) trivial ⟨rfl, by
            (unfold hiP
             dsimp only
             (repeat first | rw [if_pos (by omega)] | rw [if_neg (by omega)])
             all_goals (try simp only [qbb])
             all_goals rfl), rfl⟩
        · skip
          try simp only [sG0] at g31
          refine Cd.qbi hK6 ?_
          refine Cd.seq fun K9 hK9=>?_
          refine Cd.qac [(0,false),(1,false)] rfl rfl ?_
          refine Jp.y 35 rfl (qaa rfl) rfl rfl Kp.true (Y.move rfl rfl) ?_
          refine Jp.y 6 rfl (qaa rfl) rfl rfl Kp.true (Y.assign rfl rfl) ?_
          refine Jp.qae hK9 ?_
          refine Cd.ret [] rfl (qba rfl rfl) trivial ⟨rfl, by
            (unfold hiP
             dsimp only
             (repeat first | rw [if_pos (by omega)] | rw [if_neg (by omega)])
             all_goals (try simp only [qbb])
             all_goals rfl), rfl⟩
      · skip
        try simp only [sG0] at g28
        refine Jp.qak 29 rfl (qab rfl rfl rfl rfl) rfl rfl Kp.true ?_
        refine Jp.qak 30 rfl (qab rfl rfl rfl rfl) rfl rfl Kp.true ?_
        refine Jp.y 31 rfl (qaa rfl) rfl rfl Kp.true (Y.qao rfl rfl rfl) ?_
        refine Jp.qae hK7 ?_
        refine Cd.qbg rfl ?_
        refine Cd.qbi hK6 ?_
        refine Cd.seq fun K10 hK10=>?_
        refine Cd.qac [(0,false),(1,false)] rfl rfl ?_
        refine Jp.y 35 rfl (qaa rfl) rfl rfl Kp.true (Y.move rfl rfl) ?_
        refine Jp.y 6 rfl (qaa rfl) rfl rfl Kp.true (Y.assign rfl rfl) ?_
        refine Jp.qae hK10 ?_
        refine Cd.ret [] rfl (qba rfl rfl) trivial ⟨rfl, by
          (unfold hiP
           dsimp only
           (repeat first | rw [if_pos (by omega)] | rw [if_neg (by omega)])
           all_goals (try simp only [qbb])
           all_goals rfl), rfl⟩
    · skip
      try simp only [sG0] at g22
      refine Cd.qbi hK4 ?_
      refine Cd.seq fun K11 hK11=>?_
      refine Cd.seq fun K12 hK12=>?_
      refine Cd.qac [(0,false),(1,false),(2,false),(3,false),(4,false),(5,false)] rfl rfl ?_
      refine Jp.y 26 rfl (qaa rfl) rfl rfl Kp.true (Y.move rfl rfl) ?_
      refine Jp.y 27 rfl (qaa rfl) rfl rfl Kp.true (Y.eql rfl rfl rfl) ?_
      refine Jp.y 28 rfl (qaa rfl) rfl rfl Kp.true (Y.move rfl rfl) ?_
      refine Jp.split 28 rfl (fun g28=>?_) (fun g28=>?_)
      · skip
        try simp only [sG0] at g28
        refine Jp.y 29 rfl (qab rfl rfl rfl rfl) rfl rfl Kp.true (Y.move rfl rfl) ?_
        refine Jp.call [] [] (qgg _ (by assumption)) 30 rfl (qab rfl rfl rfl rfl) rfl rfl (Runs.fn rfl call84 rfl) (by decide) (by decide) rfl trivial ?_
        rintro v103 ρ103 L103 ⟨rfl,rfl,rfl⟩
        refine ⟨rfl,fun hle103=>⟨Kp.true,?_⟩⟩
        refine Jp.y 31 rfl (qaa rfl) rfl rfl Kp.true (Y.qat rfl rfl rfl) ?_
        refine Jp.qae hK12 ?_
        refine Cd.qal rfl (fun g31=>?_) (fun g31=>?_)
        · skip
          try simp only [sG0] at g31
          refine Cd.qac [(0,false),(1,false),(2,false),(3,false)] rfl rfl ?_
          refine Jp.y 32 rfl (qaa rfl) rfl rfl Kp.true (Y.move rfl rfl) ?_
          refine Jp.y 33 rfl (qaa rfl) rfl rfl Kp.true (Y.move rfl rfl) ?_
          refine Jp.y 34 rfl (qaa rfl) rfl rfl Kp.true (Y.qdo rfl rfl rfl (by rfl)) ?_
          refine Jp.y 8 rfl (qaa rfl) rfl rfl Kp.true (Y.assign rfl rfl) ?_
          refine Jp.qae hK11 ?_
          refine Cd.seq fun K13 hK13=>?_
          refine Cd.qac [(0,false),(1,false)] rfl rfl ?_
          refine Jp.y 35 rfl (qaa rfl) rfl rfl Kp.true (Y.move rfl rfl) ?_
          refine Jp.y 6 rfl (qaa rfl) rfl rfl Kp.true (Y.assign rfl rfl) ?_
          refine Jp.qae hK13 ?_
          refine Cd.ret [] rfl (qba rfl rfl) trivial ⟨rfl, by
            (unfold hiP
             dsimp only
             (repeat first | rw [if_pos (by omega)] | rw [if_neg (by omega)])
             all_goals (try simp only [qbb])
             all_goals rfl), rfl⟩
        · skip
          try simp only [sG0] at g31
          refine Cd.qbi hK11 ?_
          refine Cd.seq fun K14 hK14=>?_
          refine Cd.qac [(0,false),(1,false)] rfl rfl ?_
          refine Jp.y 35 rfl (qaa rfl) rfl rfl Kp.true (Y.move rfl rfl) ?_
          refine Jp.y 6 rfl (qaa rfl) rfl rfl Kp.true (Y.assign rfl rfl) ?_
          refine Jp.qae hK14 ?_
          refine Cd.ret [] rfl (qba rfl rfl) trivial ⟨rfl, by
            (unfold hiP
             dsimp only
             (repeat first | rw [if_pos (by omega)] | rw [if_neg (by omega)])
             all_goals (try simp only [qbb])
             all_goals rfl), rfl⟩
      · skip
        try simp only [sG0] at g28
        refine Jp.qak 29 rfl (qab rfl rfl rfl rfl) rfl rfl Kp.true ?_
        refine Jp.qak 30 rfl (qab rfl rfl rfl rfl) rfl rfl Kp.true ?_
        refine Jp.y 31 rfl (qaa rfl) rfl rfl Kp.true (Y.qao rfl rfl rfl) ?_
        refine Jp.qae hK12 ?_
        refine Cd.qbg rfl ?_
        refine Cd.qbi hK11 ?_
        refine Cd.seq fun K15 hK15=>?_
        refine Cd.qac [(0,false),(1,false)] rfl rfl ?_
        refine Jp.y 35 rfl (qaa rfl) rfl rfl Kp.true (Y.move rfl rfl) ?_
        refine Jp.y 6 rfl (qaa rfl) rfl rfl Kp.true (Y.assign rfl rfl) ?_
        refine Jp.qae hK15 ?_
        refine Cd.ret [] rfl (qba rfl rfl) trivial ⟨rfl, by
          (unfold hiP
           dsimp only
           (repeat first | rw [if_pos (by omega)] | rw [if_neg (by omega)])
           all_goals (try simp only [qbb])
           all_goals rfl), rfl⟩
  · skip
    try simp only [sG0] at g19
    refine Jp.qak 20 rfl (qab rfl rfl rfl rfl) rfl rfl Kp.true ?_
    refine Jp.qak 21 rfl (qab rfl rfl rfl rfl) rfl rfl Kp.true ?_
    refine Jp.y 22 rfl (qaa rfl) rfl rfl Kp.true (Y.qao rfl rfl rfl) ?_
    refine Jp.qae hK5 ?_
    refine Cd.qbg rfl ?_
    refine Cd.qbi hK4 ?_
    refine Cd.seq fun K16 hK16=>?_
    refine Cd.seq fun K17 hK17=>?_
    refine Cd.qac [(0,false),(1,false),(2,false),(3,false),(4,false),(5,false)] rfl rfl ?_
    refine Jp.y 26 rfl (qaa rfl) rfl rfl Kp.true (Y.move rfl rfl) ?_
    refine Jp.y 27 rfl (qaa rfl) rfl rfl Kp.true (Y.eql rfl rfl rfl) ?_
    refine Jp.y 28 rfl (qaa rfl) rfl rfl Kp.true (Y.move rfl rfl) ?_
    refine Jp.split 28 rfl (fun g28=>?_) (fun g28=>?_)
    · skip
      try simp only [sG0] at g28
      refine Jp.y 29 rfl (qab rfl rfl rfl rfl) rfl rfl Kp.true (Y.move rfl rfl) ?_
      refine Jp.call [] [] (qgg _ (by assumption)) 30 rfl (qab rfl rfl rfl rfl) rfl rfl (Runs.fn rfl call84 rfl) (by decide) (by decide) rfl trivial ?_
      rintro v104 ρ104 L104 ⟨rfl,rfl,rfl⟩
      refine ⟨rfl,fun hle104=>⟨Kp.true,?_⟩⟩
      refine Jp.y 31 rfl (qaa rfl) rfl rfl Kp.true (Y.qat rfl rfl rfl) ?_
      refine Jp.qae hK17 ?_
      refine Cd.qal rfl (fun g31=>?_) (fun g31=>?_)
      · skip
        try simp only [sG0] at g31
        refine Cd.qac [(0,false),(1,false),(2,false),(3,false)] rfl rfl ?_
        refine Jp.y 32 rfl (qaa rfl) rfl rfl Kp.true (Y.move rfl rfl) ?_
        refine Jp.y 33 rfl (qaa rfl) rfl rfl Kp.true (Y.move rfl rfl) ?_
        refine Jp.y 34 rfl (qaa rfl) rfl rfl Kp.true (Y.qdo rfl rfl rfl (by exact qax (by omega) (by omega))) ?_
        refine Jp.y 8 rfl (qaa rfl) rfl rfl Kp.true (Y.assign rfl rfl) ?_
        refine Jp.qae hK16 ?_
        refine Cd.seq fun K18 hK18=>?_
        refine Cd.qac [(0,false),(1,false)] rfl rfl ?_
        refine Jp.y 35 rfl (qaa rfl) rfl rfl Kp.true (Y.move rfl rfl) ?_
        refine Jp.y 6 rfl (qaa rfl) rfl rfl Kp.true (Y.assign rfl rfl) ?_
        refine Jp.qae hK18 ?_
        refine Cd.ret [] rfl (qba rfl rfl) trivial ⟨rfl, by
          (exfalso; omega), rfl⟩
      · skip
        try simp only [sG0] at g31
        refine Cd.qbi hK16 ?_
        refine Cd.seq fun K19 hK19=>?_
        refine Cd.qac [(0,false),(1,false)] rfl rfl ?_
        refine Jp.y 35 rfl (qaa rfl) rfl rfl Kp.true (Y.move rfl rfl) ?_
        refine Jp.y 6 rfl (qaa rfl) rfl rfl Kp.true (Y.assign rfl rfl) ?_
        refine Jp.qae hK19 ?_
        refine Cd.ret [] rfl (qba rfl rfl) trivial ⟨rfl, by
          (exfalso; omega), rfl⟩
    · skip
      try simp only [sG0] at g28
      refine Jp.qak 29 rfl (qab rfl rfl rfl rfl) rfl rfl Kp.true ?_
      refine Jp.qak 30 rfl (qab rfl rfl rfl rfl) rfl rfl Kp.true ?_
      refine Jp.y 31 rfl (qaa rfl) rfl rfl Kp.true (Y.qao rfl rfl rfl) ?_
      refine Jp.qae hK17 ?_
      refine Cd.qbg rfl ?_
      refine Cd.qbi hK16 ?_
      refine Cd.seq fun K20 hK20=>?_
      refine Cd.qac [(0,false),(1,false)] rfl rfl ?_
      refine Jp.y 35 rfl (qaa rfl) rfl rfl Kp.true (Y.move rfl rfl) ?_
      refine Jp.y 6 rfl (qaa rfl) rfl rfl Kp.true (Y.assign rfl rfl) ?_
      refine Jp.qae hK20 ?_
      refine Cd.ret [] rfl (qba rfl rfl) trivial ⟨rfl, by
        (unfold hiP
         dsimp only
         (repeat first | rw [if_pos (by omega)] | rw [if_neg (by omega)])
         all_goals (try simp only [qbb])
         all_goals rfl), rfl⟩
theorem tdiv_rng {x y : Int} (h1 : -2147483648 ≤ x) (h2 : x ≤ 2147483647) : -2147483648 ≤ x.tdiv y ∧ x.tdiv y ≤ 2147483648:=by
 have h:=Int.natAbs_tdiv_le_natAbs x y
 omega
theorem tmod_rng {x y : Int} (h1 : -2147483648 ≤ x) (h2 : x ≤ 2147483647) : -2147483648 ≤ x.tmod y ∧ x.tmod y ≤ 2147483648:=by
 have h : (x.tmod y).natAbs ≤ x.natAbs:=by rw [Int.natAbs_tmod]; exact Nat.mod_le ..
 omega
theorem refDo_spec (k a b : Nat) (hk : k ≤ 17) (ha : a < 4294967296) (hb : b < 4294967296) : Spec Tryz.prog 33 #[.int .i64 k,.int .u32 a,.int .u32 b] (fun _=>True) []
    (fun ρ ρ' v L=>ρ' = ρ ∧ v = .tuple #[.int .u32 ((doP k a b : Nat) : Int),.bool true] ∧ L = []):=by
  refine Spec.of 114 Tryz.func33 rfl Tryz.ntmps33 [(0,_),(1,_),(2,_)] rfl rfl ?_
  intro cx ρ hr h0
  have hb31:=bits31 hb
  have hm : b % 32 < 32:=Nat.mod_lt _ (by decide)
  have hs0 : b ≠ 0 → s32 b ≠ 0:=fun h=>by
    rw [s32_eq hb]; split <;> omega
  have hda:=tdiv_rng (y:=s32 b) (s32_lo ha) (s32_hi ha)
  have hma:=tmod_rng (y:=s32 b) (s32_lo ha) (s32_hi ha)
  refine Cd.seq fun K21 hK21=>?_
  refine Cd.qac [(0,false),(1,false)] rfl rfl ?_
  refine Jp.y 6 rfl (qaa rfl) rfl rfl Kp.true (Y.assign rfl rfl) ?_
  refine Jp.y 7 rfl (qaa rfl) rfl rfl Kp.true (Y.assign rfl rfl) ?_
  refine Jp.qae hK21 ?_
  refine Cd.seq fun K22 hK22=>?_
  refine Cd.seq fun K23 hK23=>?_
  refine Cd.qac [(0,false)] rfl rfl ?_
  refine Jp.y 8 rfl (qaa rfl) rfl rfl Kp.true (Y.move rfl rfl) ?_
  refine Jp.qae hK23 ?_
  refine Cd.block ?_
  refine Cd.seq fun K24 hK24=>?_
  refine Cd.qac [(0,false),(1,false)] rfl rfl ?_
  refine Jp.y 10 rfl (qaa rfl) rfl rfl Kp.true (Y.eql rfl rfl rfl) ?_
  refine Jp.y 9 rfl (qaa rfl) rfl rfl Kp.true (Y.assign rfl rfl) ?_
  refine Jp.qae hK24 ?_
  refine Cd.qal rfl (fun g9=>?_) (fun g9=>?_)
  · skip
    try simp only [sG0] at g9
    refine Cd.seq fun K25 hK25=>?_
    refine Cd.qac [(0,false),(1,false),(2,false),(3,false),(4,false)] rfl rfl ?_
    refine Jp.y 11 rfl (qaa rfl) rfl rfl Kp.true (Y.move rfl rfl) ?_
    refine Jp.y 12 rfl (qaa rfl) rfl rfl Kp.true (Y.move rfl rfl) ?_
    refine Jp.y 13 rfl (qaa rfl) rfl rfl Kp.true (Y.qbx rfl rfl rfl (by rfl)) ?_
    refine Jp.y 6 rfl (qaa rfl) rfl rfl Kp.true (Y.assign rfl rfl) ?_
    refine Jp.y 7 rfl (qaa rfl) rfl rfl Kp.true (Y.assign rfl rfl) ?_
    refine Jp.qae hK25 ?_
    refine Cd.ret [] rfl (qbd rfl rfl rfl) trivial ⟨rfl, by
      (have hkk : k = 0 := by omega
       subst hkk
       exact tup2 (qbb _)), rfl⟩
  · skip
    try simp only [sG0] at g9
    refine Cd.seq fun K26 hK26=>?_
    refine Cd.qac [(0,false),(1,false)] rfl rfl ?_
    refine Jp.y 15 rfl (qaa rfl) rfl rfl Kp.true (Y.eql rfl rfl rfl) ?_
    refine Jp.y 14 rfl (qaa rfl) rfl rfl Kp.true (Y.assign rfl rfl) ?_
    refine Jp.qae hK26 ?_
    refine Cd.qal rfl (fun g14=>?_) (fun g14=>?_)
    · skip
      try simp only [sG0] at g14
      refine Cd.seq fun K27 hK27=>?_
      refine Cd.qac [(0,false),(1,false),(2,false),(3,false),(4,false)] rfl rfl ?_
      refine Jp.y 16 rfl (qaa rfl) rfl rfl Kp.true (Y.move rfl rfl) ?_
      refine Jp.y 17 rfl (qaa rfl) rfl rfl Kp.true (Y.move rfl rfl) ?_
      refine Jp.y 18 rfl (qaa rfl) rfl rfl Kp.true (Y.qdo rfl rfl rfl (by rfl)) ?_
      refine Jp.y 6 rfl (qaa rfl) rfl rfl Kp.true (Y.assign rfl rfl) ?_
      refine Jp.y 7 rfl (qaa rfl) rfl rfl Kp.true (Y.assign rfl rfl) ?_
      refine Jp.qae hK27 ?_
      refine Cd.ret [] rfl (qbd rfl rfl rfl) trivial ⟨rfl, by
        (have hkk : k = 1 := by omega
         subst hkk
         exact tup2 (qbb _)), rfl⟩
    · skip
      try simp only [sG0] at g14
      refine Cd.seq fun K28 hK28=>?_
      refine Cd.seq fun K29 hK29=>?_
      refine Cd.qac [(0,false),(1,false)] rfl rfl ?_
      refine Jp.y 20 rfl (qaa rfl) rfl rfl Kp.true (Y.eql rfl rfl rfl) ?_
      refine Jp.y 19 rfl (qaa rfl) rfl rfl Kp.true (Y.assign rfl rfl) ?_
      refine Jp.qae hK29 ?_
      refine Cd.qal rfl (fun g19=>?_) (fun g19=>?_)
      · skip
        refine Cd.slot 19 rfl (show _ = Value.bool true from congrArg Value.bool g19) ?_
        try simp only [sG0] at g19
        refine Cd.qbi hK28 ?_
        refine Cd.qcw rfl ?_
        refine Cd.seq fun K30 hK30=>?_
        refine Cd.qac [(0,false),(1,false),(2,false),(3,false),(4,false),(5,false),(6,false),(7,false)] rfl rfl ?_
        refine Jp.y 23 rfl (qaa rfl) rfl rfl Kp.true (Y.move rfl rfl) ?_
        refine Jp.y 24 rfl (qaa rfl) rfl rfl Kp.true (Y.move rfl rfl) ?_
        refine Jp.y 25 rfl (qaa rfl) rfl rfl Kp.true (Y.move rfl rfl) ?_
        refine Jp.y 26 rfl (qaa rfl) rfl rfl Kp.true (Y.bits rfl rfl rfl rfl) ?_
        refine Jp.slot 26 rfl (show _ = Value.int .u32 ((b % 32 : Nat) : Int) from congrArg (Value.int .u32) hb31) ?_
        refine Jp.y 27 rfl (qaa rfl) rfl rfl Kp.true (Y.qap rfl rfl underlying24 underlying3 (by exact qag (by omega) (by omega))) ?_
        refine Jp.call [] [] (shift_spec k a (b % 32) (by omega) ha hm) 28 rfl (qaa rfl) rfl rfl (Runs.fn rfl call59 rfl) (by decide) (by decide) rfl trivial ?_
        rintro v1 ρ1 L1 ⟨rfl,rfl,rfl⟩
        refine ⟨rfl,fun hle1=>⟨Kp.true,?_⟩⟩
        refine Jp.y 6 rfl (qaa rfl) rfl rfl Kp.true (Y.assign rfl rfl) ?_
        refine Jp.y 7 rfl (qaa rfl) rfl rfl Kp.true (Y.assign rfl rfl) ?_
        refine Jp.qae hK30 ?_
        refine Cd.ret [] rfl (qbd rfl rfl rfl) trivial ⟨rfl,by rw [← doP_sh (by omega)],rfl⟩
      · skip
        try simp only [sG0] at g19
        refine Cd.seq fun K31 hK31=>?_
        refine Cd.qac [(0,false),(1,false)] rfl rfl ?_
        refine Jp.y 21 rfl (qaa rfl) rfl rfl Kp.true (Y.eql rfl rfl rfl) ?_
        refine Jp.y 19 rfl (qaa rfl) rfl rfl Kp.true (Y.assign rfl rfl) ?_
        refine Jp.qae hK31 ?_
        refine Cd.qal rfl (fun g19=>?_) (fun g19=>?_)
        · skip
          refine Cd.slot 19 rfl (show _ = Value.bool true from congrArg Value.bool g19) ?_
          try simp only [sG0] at g19
          refine Cd.qbi hK28 ?_
          refine Cd.qcw rfl ?_
          refine Cd.seq fun K32 hK32=>?_
          refine Cd.qac [(0,false),(1,false),(2,false),(3,false),(4,false),(5,false),(6,false),(7,false)] rfl rfl ?_
          refine Jp.y 23 rfl (qaa rfl) rfl rfl Kp.true (Y.move rfl rfl) ?_
          refine Jp.y 24 rfl (qaa rfl) rfl rfl Kp.true (Y.move rfl rfl) ?_
          refine Jp.y 25 rfl (qaa rfl) rfl rfl Kp.true (Y.move rfl rfl) ?_
          refine Jp.y 26 rfl (qaa rfl) rfl rfl Kp.true (Y.bits rfl rfl rfl rfl) ?_
          refine Jp.slot 26 rfl (show _ = Value.int .u32 ((b % 32 : Nat) : Int) from congrArg (Value.int .u32) hb31) ?_
          refine Jp.y 27 rfl (qaa rfl) rfl rfl Kp.true (Y.qap rfl rfl underlying24 underlying3 (by exact qag (by omega) (by omega))) ?_
          refine Jp.call [] [] (shift_spec k a (b % 32) (by omega) ha hm) 28 rfl (qaa rfl) rfl rfl (Runs.fn rfl call59 rfl) (by decide) (by decide) rfl trivial ?_
          rintro v1 ρ1 L1 ⟨rfl,rfl,rfl⟩
          refine ⟨rfl,fun hle1=>⟨Kp.true,?_⟩⟩
          refine Jp.y 6 rfl (qaa rfl) rfl rfl Kp.true (Y.assign rfl rfl) ?_
          refine Jp.y 7 rfl (qaa rfl) rfl rfl Kp.true (Y.assign rfl rfl) ?_
          refine Jp.qae hK32 ?_
          refine Cd.ret [] rfl (qbd rfl rfl rfl) trivial ⟨rfl,by rw [← doP_sh (by omega)],rfl⟩
        · skip
          try simp only [sG0] at g19
          refine Cd.qac [(0,false),(1,false)] rfl rfl ?_
          refine Jp.y 22 rfl (qaa rfl) rfl rfl Kp.true (Y.eql rfl rfl rfl) ?_
          refine Jp.y 19 rfl (qaa rfl) rfl rfl Kp.true (Y.assign rfl rfl) ?_
          refine Jp.qae hK28 ?_
          refine Cd.qal rfl (fun g19=>?_) (fun g19=>?_)
          · skip
            try simp only [sG0] at g19
            refine Cd.seq fun K33 hK33=>?_
            refine Cd.qac [(0,false),(1,false),(2,false),(3,false),(4,false),(5,false),(6,false),(7,false)] rfl rfl ?_
            refine Jp.y 23 rfl (qaa rfl) rfl rfl Kp.true (Y.move rfl rfl) ?_
            refine Jp.y 24 rfl (qaa rfl) rfl rfl Kp.true (Y.move rfl rfl) ?_
            refine Jp.y 25 rfl (qaa rfl) rfl rfl Kp.true (Y.move rfl rfl) ?_
            refine Jp.y 26 rfl (qaa rfl) rfl rfl Kp.true (Y.bits rfl rfl rfl rfl) ?_
            refine Jp.slot 26 rfl (show _ = Value.int .u32 ((b % 32 : Nat) : Int) from congrArg (Value.int .u32) hb31) ?_
            refine Jp.y 27 rfl (qaa rfl) rfl rfl Kp.true (Y.qap rfl rfl underlying24 underlying3 (by exact qag (by omega) (by omega))) ?_
            refine Jp.call [] [] (shift_spec k a (b % 32) (by omega) ha hm) 28 rfl (qaa rfl) rfl rfl (Runs.fn rfl call59 rfl) (by decide) (by decide) rfl trivial ?_
            rintro v1 ρ1 L1 ⟨rfl,rfl,rfl⟩
            refine ⟨rfl,fun hle1=>⟨Kp.true,?_⟩⟩
            refine Jp.y 6 rfl (qaa rfl) rfl rfl Kp.true (Y.assign rfl rfl) ?_
            refine Jp.y 7 rfl (qaa rfl) rfl rfl Kp.true (Y.assign rfl rfl) ?_
            refine Jp.qae hK33 ?_
            refine Cd.ret [] rfl (qbd rfl rfl rfl) trivial ⟨rfl,by rw [← doP_sh (by omega)],rfl⟩
          · skip
            try simp only [sG0] at g19
            refine Cd.seq fun K34 hK34=>?_
            refine Cd.seq fun K35 hK35=>?_
            refine Cd.qac [(0,false),(1,false)] rfl rfl ?_
            refine Jp.y 30 rfl (qaa rfl) rfl rfl Kp.true (Y.eql rfl rfl rfl) ?_
            refine Jp.y 29 rfl (qaa rfl) rfl rfl Kp.true (Y.assign rfl rfl) ?_
            refine Jp.qae hK35 ?_
            refine Cd.qal rfl (fun g29=>?_) (fun g29=>?_)
            · skip
              refine Cd.slot 29 rfl (show _ = Value.bool true from congrArg Value.bool g29) ?_
              try simp only [sG0] at g29
              refine Cd.qbi hK34 ?_
              refine Cd.qcw rfl ?_
              refine Cd.seq fun K36 hK36=>?_
              refine Cd.seq fun K37 hK37=>?_
              refine Cd.qac [(0,false),(1,false),(2,false),(3,false),(4,false),(5,false),(6,false),(7,false),(8,false),(9,false),(10,false),(11,false),(12,false),(13,false),(14,false),(15,false),(16,false),(17,false)] rfl rfl ?_
              refine Jp.y 32 rfl (qaa rfl) rfl rfl Kp.true (Y.move rfl rfl) ?_
              refine Jp.y 33 rfl (qaa rfl) rfl rfl Kp.true (Y.eql rfl rfl rfl) ?_
              refine Jp.y 34 rfl (qaa rfl) rfl rfl Kp.true (Y.move rfl rfl) ?_
              refine Jp.split 34 rfl (fun g34=>?_) (fun g34=>?_)
              · skip
                try simp only [sG0] at g34
                refine Jp.y 35 rfl (qab rfl rfl rfl rfl) rfl rfl Kp.true (Y.move rfl rfl) ?_
                refine Jp.call [] [] (qcj _ (by assumption)) 36 rfl (qab rfl rfl rfl rfl) rfl rfl (Runs.fn rfl call57 rfl) (by decide) (by decide) rfl trivial ?_
                rintro v105 ρ105 L105 ⟨rfl,rfl,rfl⟩
                refine ⟨rfl,fun hle105=>⟨Kp.true,?_⟩⟩
                refine Jp.y 37 rfl (qab rfl rfl rfl rfl) rfl rfl Kp.true (Y.move rfl rfl) ?_
                refine Jp.call [] [] (qcj _ (by assumption)) 38 rfl (qab rfl rfl rfl rfl) rfl rfl (Runs.fn rfl call57 rfl) (by decide) (by decide) rfl trivial ?_
                rintro v106 ρ106 L106 ⟨rfl,rfl,rfl⟩
                refine ⟨rfl,fun hle106=>⟨Kp.true,?_⟩⟩
                refine Jp.y 39 rfl (qab rfl rfl rfl rfl) rfl rfl Kp.true (Y.lss rfl rfl rfl) ?_
                refine Jp.y 40 rfl (qaa rfl) rfl rfl Kp.true (Y.qat rfl rfl rfl) ?_
                refine Jp.y 41 rfl (qaa rfl) rfl rfl Kp.true (Y.move rfl rfl) ?_
                refine Jp.split 41 rfl (fun g41=>?_) (fun g41=>?_)
                · skip
                  try simp only [sG0] at g41
                  refine Jp.qak 42 rfl (qab rfl rfl rfl rfl) rfl rfl Kp.true ?_
                  refine Jp.qak 43 rfl (qab rfl rfl rfl rfl) rfl rfl Kp.true ?_
                  refine Jp.qak 44 rfl (qab rfl rfl rfl rfl) rfl rfl Kp.true ?_
                  refine Jp.qak 45 rfl (qbl rfl rfl rfl) rfl rfl Kp.true ?_
                  refine Jp.qak 46 rfl (qbl rfl rfl rfl) rfl rfl Kp.true ?_
                  refine Jp.qak 47 rfl (qbl rfl rfl rfl) rfl rfl Kp.true ?_
                  refine Jp.qak 48 rfl (qab rfl rfl rfl rfl) rfl rfl Kp.true ?_
                  refine Jp.y 49 rfl (qaa rfl) rfl rfl Kp.true (Y.qat rfl rfl rfl) ?_
                  refine Jp.qae hK37 ?_
                  refine Cd.qcw rfl ?_
                  refine Cd.seq fun K38 hK38=>?_
                  refine Cd.qac [(0,false),(1,false)] rfl rfl ?_
                  refine Jp.y 6 rfl (qaa rfl) rfl rfl Kp.true (Y.assign rfl rfl) ?_
                  refine Jp.y 7 rfl (qaa rfl) rfl rfl Kp.true (Y.assign rfl rfl) ?_
                  refine Jp.qae hK38 ?_
                  refine Cd.ret [] rfl (qbd rfl rfl rfl) trivial ⟨rfl, by
                    (have hkk : k = 3 := by omega
                     subst hkk
                     show Value.tuple #[_,_] = .tuple #[.int .u32 ((if s32 a < s32 b then 1 else 0 : Nat) : Int),_]
                     split
                     · first | rfl | (exfalso; omega)
                     · first | rfl | (exfalso; omega)), rfl⟩
                · skip
                  try simp only [sG0] at g41
                  refine Jp.y 42 rfl (qab rfl rfl rfl rfl) rfl rfl Kp.true (Y.move rfl rfl) ?_
                  refine Jp.y 43 rfl (qab rfl rfl rfl rfl) rfl rfl Kp.true (Y.eql rfl rfl rfl) ?_
                  refine Jp.y 44 rfl (qab rfl rfl rfl rfl) rfl rfl Kp.true (Y.move rfl rfl) ?_
                  refine Jp.split 44 rfl (fun g44=>?_) (fun g44=>?_)
                  · skip
                    try simp only [sG0] at g44
                    refine Jp.y 45 rfl (qab rfl rfl rfl rfl) rfl rfl Kp.true (Y.move rfl rfl) ?_
                    refine Jp.y 46 rfl (qab rfl rfl rfl rfl) rfl rfl Kp.true (Y.move rfl rfl) ?_
                    refine Jp.y 47 rfl (qab rfl rfl rfl rfl) rfl rfl Kp.true (Y.lss rfl rfl rfl) ?_
                    refine Jp.y 48 rfl (qab rfl rfl rfl rfl) rfl rfl Kp.true (Y.qat rfl rfl rfl) ?_
                    refine Jp.y 49 rfl (qaa rfl) rfl rfl Kp.true (Y.qao rfl rfl rfl) ?_
                    refine Jp.qae hK37 ?_
                    refine Cd.qal rfl (fun g49=>?_) (fun g49=>?_)
                    · skip
                      try simp only [sG0] at g49
                      refine Cd.seq fun K39 hK39=>?_
                      refine Cd.qac [(0,false),(1,false)] rfl rfl ?_
                      refine Jp.y 6 rfl (qaa rfl) rfl rfl Kp.true (Y.assign rfl rfl) ?_
                      refine Jp.y 7 rfl (qaa rfl) rfl rfl Kp.true (Y.assign rfl rfl) ?_
                      refine Jp.qae hK39 ?_
                      refine Cd.ret [] rfl (qbd rfl rfl rfl) trivial ⟨rfl, by
                        (exfalso; omega), rfl⟩
                    · skip
                      try simp only [sG0] at g49
                      refine Cd.qbi hK36 ?_
                      refine Cd.seq fun K40 hK40=>?_
                      refine Cd.qac [(0,false),(1,false)] rfl rfl ?_
                      refine Jp.y 6 rfl (qaa rfl) rfl rfl Kp.true (Y.assign rfl rfl) ?_
                      refine Jp.y 7 rfl (qaa rfl) rfl rfl Kp.true (Y.assign rfl rfl) ?_
                      refine Jp.qae hK40 ?_
                      refine Cd.ret [] rfl (qbd rfl rfl rfl) trivial ⟨rfl, by
                        (exfalso; omega), rfl⟩
                  · skip
                    try simp only [sG0] at g44
                    refine Jp.qak 45 rfl (qab rfl rfl rfl rfl) rfl rfl Kp.true ?_
                    refine Jp.qak 46 rfl (qab rfl rfl rfl rfl) rfl rfl Kp.true ?_
                    refine Jp.qak 47 rfl (qab rfl rfl rfl rfl) rfl rfl Kp.true ?_
                    refine Jp.y 48 rfl (qab rfl rfl rfl rfl) rfl rfl Kp.true (Y.qao rfl rfl rfl) ?_
                    refine Jp.y 49 rfl (qaa rfl) rfl rfl Kp.true (Y.qao rfl rfl rfl) ?_
                    refine Jp.qae hK37 ?_
                    refine Cd.qbg rfl ?_
                    refine Cd.qbi hK36 ?_
                    refine Cd.seq fun K41 hK41=>?_
                    refine Cd.qac [(0,false),(1,false)] rfl rfl ?_
                    refine Jp.y 6 rfl (qaa rfl) rfl rfl Kp.true (Y.assign rfl rfl) ?_
                    refine Jp.y 7 rfl (qaa rfl) rfl rfl Kp.true (Y.assign rfl rfl) ?_
                    refine Jp.qae hK41 ?_
                    refine Cd.ret [] rfl (qbd rfl rfl rfl) trivial ⟨rfl, by
                      (have hkk : k = 3 := by omega
                       subst hkk
                       show Value.tuple #[_,_] = .tuple #[.int .u32 ((if s32 a < s32 b then 1 else 0 : Nat) : Int),_]
                       split
                       · first | rfl | (exfalso; omega)
                       · first | rfl | (exfalso; omega)), rfl⟩
              · skip
                try simp only [sG0] at g34
                refine Jp.qak 35 rfl (qab rfl rfl rfl rfl) rfl rfl Kp.true ?_
                refine Jp.qak 36 rfl (qab rfl rfl rfl rfl) rfl rfl Kp.true ?_
                refine Jp.qak 37 rfl (qab rfl rfl rfl rfl) rfl rfl Kp.true ?_
                refine Jp.qak 38 rfl (qab rfl rfl rfl rfl) rfl rfl Kp.true ?_
                refine Jp.qak 39 rfl (qab rfl rfl rfl rfl) rfl rfl Kp.true ?_
                refine Jp.y 40 rfl (qaa rfl) rfl rfl Kp.true (Y.qao rfl rfl rfl) ?_
                refine Jp.y 41 rfl (qaa rfl) rfl rfl Kp.true (Y.move rfl rfl) ?_
                refine Jp.y 42 rfl (qab rfl rfl rfl rfl) rfl rfl Kp.true (Y.move rfl rfl) ?_
                refine Jp.y 43 rfl (qab rfl rfl rfl rfl) rfl rfl Kp.true (Y.eql rfl rfl rfl) ?_
                refine Jp.y 44 rfl (qab rfl rfl rfl rfl) rfl rfl Kp.true (Y.move rfl rfl) ?_
                refine Jp.split 44 rfl (fun g44=>?_) (fun g44=>?_)
                · skip
                  try simp only [sG0] at g44
                  refine Jp.y 45 rfl (qab rfl rfl rfl rfl) rfl rfl Kp.true (Y.move rfl rfl) ?_
                  refine Jp.y 46 rfl (qab rfl rfl rfl rfl) rfl rfl Kp.true (Y.move rfl rfl) ?_
                  refine Jp.y 47 rfl (qab rfl rfl rfl rfl) rfl rfl Kp.true (Y.lss rfl rfl rfl) ?_
                  refine Jp.y 48 rfl (qab rfl rfl rfl rfl) rfl rfl Kp.true (Y.qat rfl rfl rfl) ?_
                  refine Jp.y 49 rfl (qaa rfl) rfl rfl Kp.true (Y.qao rfl rfl rfl) ?_
                  refine Jp.qae hK37 ?_
                  refine Cd.qal rfl (fun g49=>?_) (fun g49=>?_)
                  · skip
                    try simp only [sG0] at g49
                    refine Cd.seq fun K42 hK42=>?_
                    refine Cd.qac [(0,false),(1,false)] rfl rfl ?_
                    refine Jp.y 6 rfl (qaa rfl) rfl rfl Kp.true (Y.assign rfl rfl) ?_
                    refine Jp.y 7 rfl (qaa rfl) rfl rfl Kp.true (Y.assign rfl rfl) ?_
                    refine Jp.qae hK42 ?_
                    refine Cd.ret [] rfl (qbd rfl rfl rfl) trivial ⟨rfl, by
                      (exfalso; omega), rfl⟩
                  · skip
                    try simp only [sG0] at g49
                    refine Cd.qbi hK36 ?_
                    refine Cd.seq fun K43 hK43=>?_
                    refine Cd.qac [(0,false),(1,false)] rfl rfl ?_
                    refine Jp.y 6 rfl (qaa rfl) rfl rfl Kp.true (Y.assign rfl rfl) ?_
                    refine Jp.y 7 rfl (qaa rfl) rfl rfl Kp.true (Y.assign rfl rfl) ?_
                    refine Jp.qae hK43 ?_
                    refine Cd.ret [] rfl (qbd rfl rfl rfl) trivial ⟨rfl, by
                      (exfalso; omega), rfl⟩
                · skip
                  try simp only [sG0] at g44
                  refine Jp.qak 45 rfl (qab rfl rfl rfl rfl) rfl rfl Kp.true ?_
                  refine Jp.qak 46 rfl (qab rfl rfl rfl rfl) rfl rfl Kp.true ?_
                  refine Jp.qak 47 rfl (qab rfl rfl rfl rfl) rfl rfl Kp.true ?_
                  refine Jp.y 48 rfl (qab rfl rfl rfl rfl) rfl rfl Kp.true (Y.qao rfl rfl rfl) ?_
                  refine Jp.y 49 rfl (qaa rfl) rfl rfl Kp.true (Y.qao rfl rfl rfl) ?_
                  refine Jp.qae hK37 ?_
                  refine Cd.qbg rfl ?_
                  refine Cd.qbi hK36 ?_
                  refine Cd.seq fun K44 hK44=>?_
                  refine Cd.qac [(0,false),(1,false)] rfl rfl ?_
                  refine Jp.y 6 rfl (qaa rfl) rfl rfl Kp.true (Y.assign rfl rfl) ?_
                  refine Jp.y 7 rfl (qaa rfl) rfl rfl Kp.true (Y.assign rfl rfl) ?_
                  refine Jp.qae hK44 ?_
                  refine Cd.ret [] rfl (qbd rfl rfl rfl) trivial ⟨rfl, by
                    (exfalso; omega), rfl⟩
            · skip
              try simp only [sG0] at g29
              refine Cd.qac [(0,false),(1,false)] rfl rfl ?_
              refine Jp.y 31 rfl (qaa rfl) rfl rfl Kp.true (Y.eql rfl rfl rfl) ?_
              refine Jp.y 29 rfl (qaa rfl) rfl rfl Kp.true (Y.assign rfl rfl) ?_
              refine Jp.qae hK34 ?_
              refine Cd.qal rfl (fun g29=>?_) (fun g29=>?_)
              · skip
                try simp only [sG0] at g29
                refine Cd.seq fun K45 hK45=>?_
                refine Cd.seq fun K46 hK46=>?_
                refine Cd.qac [(0,false),(1,false),(2,false),(3,false),(4,false),(5,false),(6,false),(7,false),(8,false),(9,false),(10,false),(11,false),(12,false),(13,false),(14,false),(15,false),(16,false),(17,false)] rfl rfl ?_
                refine Jp.y 32 rfl (qaa rfl) rfl rfl Kp.true (Y.move rfl rfl) ?_
                refine Jp.y 33 rfl (qaa rfl) rfl rfl Kp.true (Y.eql rfl rfl rfl) ?_
                refine Jp.y 34 rfl (qaa rfl) rfl rfl Kp.true (Y.move rfl rfl) ?_
                refine Jp.split 34 rfl (fun g34=>?_) (fun g34=>?_)
                · skip
                  try simp only [sG0] at g34
                  refine Jp.y 35 rfl (qab rfl rfl rfl rfl) rfl rfl Kp.true (Y.move rfl rfl) ?_
                  refine Jp.call [] [] (qcj _ (by assumption)) 36 rfl (qab rfl rfl rfl rfl) rfl rfl (Runs.fn rfl call57 rfl) (by decide) (by decide) rfl trivial ?_
                  rintro v107 ρ107 L107 ⟨rfl,rfl,rfl⟩
                  refine ⟨rfl,fun hle107=>⟨Kp.true,?_⟩⟩
                  refine Jp.y 37 rfl (qab rfl rfl rfl rfl) rfl rfl Kp.true (Y.move rfl rfl) ?_
                  refine Jp.call [] [] (qcj _ (by assumption)) 38 rfl (qab rfl rfl rfl rfl) rfl rfl (Runs.fn rfl call57 rfl) (by decide) (by decide) rfl trivial ?_
                  rintro v108 ρ108 L108 ⟨rfl,rfl,rfl⟩
                  refine ⟨rfl,fun hle108=>⟨Kp.true,?_⟩⟩
                  refine Jp.y 39 rfl (qab rfl rfl rfl rfl) rfl rfl Kp.true (Y.lss rfl rfl rfl) ?_
                  refine Jp.y 40 rfl (qaa rfl) rfl rfl Kp.true (Y.qat rfl rfl rfl) ?_
                  refine Jp.y 41 rfl (qaa rfl) rfl rfl Kp.true (Y.move rfl rfl) ?_
                  refine Jp.split 41 rfl (fun g41=>?_) (fun g41=>?_)
                  · skip
                    try simp only [sG0] at g41
                    refine Jp.qak 42 rfl (qab rfl rfl rfl rfl) rfl rfl Kp.true ?_
                    refine Jp.qak 43 rfl (qab rfl rfl rfl rfl) rfl rfl Kp.true ?_
                    refine Jp.qak 44 rfl (qab rfl rfl rfl rfl) rfl rfl Kp.true ?_
                    refine Jp.qak 45 rfl (qbl rfl rfl rfl) rfl rfl Kp.true ?_
                    refine Jp.qak 46 rfl (qbl rfl rfl rfl) rfl rfl Kp.true ?_
                    refine Jp.qak 47 rfl (qbl rfl rfl rfl) rfl rfl Kp.true ?_
                    refine Jp.qak 48 rfl (qab rfl rfl rfl rfl) rfl rfl Kp.true ?_
                    refine Jp.y 49 rfl (qaa rfl) rfl rfl Kp.true (Y.qat rfl rfl rfl) ?_
                    refine Jp.qae hK46 ?_
                    refine Cd.qcw rfl ?_
                    refine Cd.seq fun K47 hK47=>?_
                    refine Cd.qac [(0,false),(1,false)] rfl rfl ?_
                    refine Jp.y 6 rfl (qaa rfl) rfl rfl Kp.true (Y.assign rfl rfl) ?_
                    refine Jp.y 7 rfl (qaa rfl) rfl rfl Kp.true (Y.assign rfl rfl) ?_
                    refine Jp.qae hK47 ?_
                    refine Cd.ret [] rfl (qbd rfl rfl rfl) trivial ⟨rfl, by
                      (exfalso; omega), rfl⟩
                  · skip
                    try simp only [sG0] at g41
                    refine Jp.y 42 rfl (qab rfl rfl rfl rfl) rfl rfl Kp.true (Y.move rfl rfl) ?_
                    refine Jp.y 43 rfl (qab rfl rfl rfl rfl) rfl rfl Kp.true (Y.eql rfl rfl rfl) ?_
                    refine Jp.y 44 rfl (qab rfl rfl rfl rfl) rfl rfl Kp.true (Y.move rfl rfl) ?_
                    refine Jp.split 44 rfl (fun g44=>?_) (fun g44=>?_)
                    · skip
                      try simp only [sG0] at g44
                      refine Jp.y 45 rfl (qab rfl rfl rfl rfl) rfl rfl Kp.true (Y.move rfl rfl) ?_
                      refine Jp.y 46 rfl (qab rfl rfl rfl rfl) rfl rfl Kp.true (Y.move rfl rfl) ?_
                      refine Jp.y 47 rfl (qab rfl rfl rfl rfl) rfl rfl Kp.true (Y.lss rfl rfl rfl) ?_
                      refine Jp.y 48 rfl (qab rfl rfl rfl rfl) rfl rfl Kp.true (Y.qat rfl rfl rfl) ?_
                      refine Jp.y 49 rfl (qaa rfl) rfl rfl Kp.true (Y.qao rfl rfl rfl) ?_
                      refine Jp.qae hK46 ?_
                      refine Cd.qal rfl (fun g49=>?_) (fun g49=>?_)
                      · skip
                        try simp only [sG0] at g49
                        refine Cd.seq fun K48 hK48=>?_
                        refine Cd.qac [(0,false),(1,false)] rfl rfl ?_
                        refine Jp.y 6 rfl (qaa rfl) rfl rfl Kp.true (Y.assign rfl rfl) ?_
                        refine Jp.y 7 rfl (qaa rfl) rfl rfl Kp.true (Y.assign rfl rfl) ?_
                        refine Jp.qae hK48 ?_
                        refine Cd.ret [] rfl (qbd rfl rfl rfl) trivial ⟨rfl, by
                          (exfalso; omega), rfl⟩
                      · skip
                        try simp only [sG0] at g49
                        refine Cd.qbi hK45 ?_
                        refine Cd.seq fun K49 hK49=>?_
                        refine Cd.qac [(0,false),(1,false)] rfl rfl ?_
                        refine Jp.y 6 rfl (qaa rfl) rfl rfl Kp.true (Y.assign rfl rfl) ?_
                        refine Jp.y 7 rfl (qaa rfl) rfl rfl Kp.true (Y.assign rfl rfl) ?_
                        refine Jp.qae hK49 ?_
                        refine Cd.ret [] rfl (qbd rfl rfl rfl) trivial ⟨rfl, by
                          (exfalso; omega), rfl⟩
                    · skip
                      try simp only [sG0] at g44
                      refine Jp.qak 45 rfl (qab rfl rfl rfl rfl) rfl rfl Kp.true ?_
                      refine Jp.qak 46 rfl (qab rfl rfl rfl rfl) rfl rfl Kp.true ?_
                      refine Jp.qak 47 rfl (qab rfl rfl rfl rfl) rfl rfl Kp.true ?_
                      refine Jp.y 48 rfl (qab rfl rfl rfl rfl) rfl rfl Kp.true (Y.qao rfl rfl rfl) ?_
                      refine Jp.y 49 rfl (qaa rfl) rfl rfl Kp.true (Y.qao rfl rfl rfl) ?_
                      refine Jp.qae hK46 ?_
                      refine Cd.qbg rfl ?_
                      refine Cd.qbi hK45 ?_
                      refine Cd.seq fun K50 hK50=>?_
                      refine Cd.qac [(0,false),(1,false)] rfl rfl ?_
                      refine Jp.y 6 rfl (qaa rfl) rfl rfl Kp.true (Y.assign rfl rfl) ?_
                      refine Jp.y 7 rfl (qaa rfl) rfl rfl Kp.true (Y.assign rfl rfl) ?_
                      refine Jp.qae hK50 ?_
                      refine Cd.ret [] rfl (qbd rfl rfl rfl) trivial ⟨rfl, by
                        (exfalso; omega), rfl⟩
                · skip
                  try simp only [sG0] at g34
                  refine Jp.qak 35 rfl (qab rfl rfl rfl rfl) rfl rfl Kp.true ?_
                  refine Jp.qak 36 rfl (qab rfl rfl rfl rfl) rfl rfl Kp.true ?_
                  refine Jp.qak 37 rfl (qab rfl rfl rfl rfl) rfl rfl Kp.true ?_
                  refine Jp.qak 38 rfl (qab rfl rfl rfl rfl) rfl rfl Kp.true ?_
                  refine Jp.qak 39 rfl (qab rfl rfl rfl rfl) rfl rfl Kp.true ?_
                  refine Jp.y 40 rfl (qaa rfl) rfl rfl Kp.true (Y.qao rfl rfl rfl) ?_
                  refine Jp.y 41 rfl (qaa rfl) rfl rfl Kp.true (Y.move rfl rfl) ?_
                  refine Jp.y 42 rfl (qab rfl rfl rfl rfl) rfl rfl Kp.true (Y.move rfl rfl) ?_
                  refine Jp.y 43 rfl (qab rfl rfl rfl rfl) rfl rfl Kp.true (Y.eql rfl rfl rfl) ?_
                  refine Jp.y 44 rfl (qab rfl rfl rfl rfl) rfl rfl Kp.true (Y.move rfl rfl) ?_
                  refine Jp.split 44 rfl (fun g44=>?_) (fun g44=>?_)
                  · skip
                    try simp only [sG0] at g44
                    refine Jp.y 45 rfl (qab rfl rfl rfl rfl) rfl rfl Kp.true (Y.move rfl rfl) ?_
                    refine Jp.y 46 rfl (qab rfl rfl rfl rfl) rfl rfl Kp.true (Y.move rfl rfl) ?_
                    refine Jp.y 47 rfl (qab rfl rfl rfl rfl) rfl rfl Kp.true (Y.lss rfl rfl rfl) ?_
                    refine Jp.y 48 rfl (qab rfl rfl rfl rfl) rfl rfl Kp.true (Y.qat rfl rfl rfl) ?_
                    refine Jp.y 49 rfl (qaa rfl) rfl rfl Kp.true (Y.qao rfl rfl rfl) ?_
                    refine Jp.qae hK46 ?_
                    refine Cd.qal rfl (fun g49=>?_) (fun g49=>?_)
                    · skip
                      try simp only [sG0] at g49
                      refine Cd.seq fun K51 hK51=>?_
                      refine Cd.qac [(0,false),(1,false)] rfl rfl ?_
                      refine Jp.y 6 rfl (qaa rfl) rfl rfl Kp.true (Y.assign rfl rfl) ?_
                      refine Jp.y 7 rfl (qaa rfl) rfl rfl Kp.true (Y.assign rfl rfl) ?_
                      refine Jp.qae hK51 ?_
                      refine Cd.ret [] rfl (qbd rfl rfl rfl) trivial ⟨rfl, by
                        (have hkk : k = 4 := by omega
                         subst hkk
                         show Value.tuple #[_,_] = .tuple #[.int .u32 ((if a < b then 1 else 0 : Nat) : Int),_]
                         split
                         · first | rfl | (exfalso; omega)
                         · first | rfl | (exfalso; omega)), rfl⟩
                    · skip
                      try simp only [sG0] at g49
                      refine Cd.qbi hK45 ?_
                      refine Cd.seq fun K52 hK52=>?_
                      refine Cd.qac [(0,false),(1,false)] rfl rfl ?_
                      refine Jp.y 6 rfl (qaa rfl) rfl rfl Kp.true (Y.assign rfl rfl) ?_
                      refine Jp.y 7 rfl (qaa rfl) rfl rfl Kp.true (Y.assign rfl rfl) ?_
                      refine Jp.qae hK52 ?_
                      refine Cd.ret [] rfl (qbd rfl rfl rfl) trivial ⟨rfl, by
                        (have hkk : k = 4 := by omega
                         subst hkk
                         show Value.tuple #[_,_] = .tuple #[.int .u32 ((if a < b then 1 else 0 : Nat) : Int),_]
                         split
                         · first | rfl | (exfalso; omega)
                         · first | rfl | (exfalso; omega)), rfl⟩
                  · skip
                    try simp only [sG0] at g44
                    refine Jp.qak 45 rfl (qab rfl rfl rfl rfl) rfl rfl Kp.true ?_
                    refine Jp.qak 46 rfl (qab rfl rfl rfl rfl) rfl rfl Kp.true ?_
                    refine Jp.qak 47 rfl (qab rfl rfl rfl rfl) rfl rfl Kp.true ?_
                    refine Jp.y 48 rfl (qab rfl rfl rfl rfl) rfl rfl Kp.true (Y.qao rfl rfl rfl) ?_
                    refine Jp.y 49 rfl (qaa rfl) rfl rfl Kp.true (Y.qao rfl rfl rfl) ?_
                    refine Jp.qae hK46 ?_
                    refine Cd.qbg rfl ?_
                    refine Cd.qbi hK45 ?_
                    refine Cd.seq fun K53 hK53=>?_
                    refine Cd.qac [(0,false),(1,false)] rfl rfl ?_
                    refine Jp.y 6 rfl (qaa rfl) rfl rfl Kp.true (Y.assign rfl rfl) ?_
                    refine Jp.y 7 rfl (qaa rfl) rfl rfl Kp.true (Y.assign rfl rfl) ?_
                    refine Jp.qae hK53 ?_
                    refine Cd.ret [] rfl (qbd rfl rfl rfl) trivial ⟨rfl, by
                      (exfalso; omega), rfl⟩
              · skip
                try simp only [sG0] at g29
                refine Cd.seq fun K54 hK54=>?_
                refine Cd.qac [(0,false),(1,false)] rfl rfl ?_
                refine Jp.y 51 rfl (qaa rfl) rfl rfl Kp.true (Y.eql rfl rfl rfl) ?_
                refine Jp.y 50 rfl (qaa rfl) rfl rfl Kp.true (Y.assign rfl rfl) ?_
                refine Jp.qae hK54 ?_
                refine Cd.qal rfl (fun g50=>?_) (fun g50=>?_)
                · skip
                  try simp only [sG0] at g50
                  refine Cd.seq fun K55 hK55=>?_
                  refine Cd.qac [(0,false),(1,false),(2,false),(3,false),(4,false)] rfl rfl ?_
                  refine Jp.y 52 rfl (qaa rfl) rfl rfl Kp.true (Y.move rfl rfl) ?_
                  refine Jp.y 53 rfl (qaa rfl) rfl rfl Kp.true (Y.move rfl rfl) ?_
                  refine Jp.y 54 rfl (qaa rfl) rfl rfl Kp.true (Y.bits rfl rfl rfl rfl) ?_
                  refine Jp.y 6 rfl (qaa rfl) rfl rfl Kp.true (Y.assign rfl rfl) ?_
                  refine Jp.y 7 rfl (qaa rfl) rfl rfl Kp.true (Y.assign rfl rfl) ?_
                  refine Jp.qae hK55 ?_
                  refine Cd.ret [] rfl (qbd rfl rfl rfl) trivial ⟨rfl, by
                    (have hkk : k = 5 := by omega
                     subst hkk
                     exact tup2 (bits_xor32 ha hb)), rfl⟩
                · skip
                  try simp only [sG0] at g50
                  refine Cd.seq fun K56 hK56=>?_
                  refine Cd.qac [(0,false),(1,false)] rfl rfl ?_
                  refine Jp.y 56 rfl (qaa rfl) rfl rfl Kp.true (Y.eql rfl rfl rfl) ?_
                  refine Jp.y 55 rfl (qaa rfl) rfl rfl Kp.true (Y.assign rfl rfl) ?_
                  refine Jp.qae hK56 ?_
                  refine Cd.qal rfl (fun g55=>?_) (fun g55=>?_)
                  · skip
                    try simp only [sG0] at g55
                    refine Cd.seq fun K57 hK57=>?_
                    refine Cd.qac [(0,false),(1,false),(2,false),(3,false),(4,false)] rfl rfl ?_
                    refine Jp.y 57 rfl (qaa rfl) rfl rfl Kp.true (Y.move rfl rfl) ?_
                    refine Jp.y 58 rfl (qaa rfl) rfl rfl Kp.true (Y.move rfl rfl) ?_
                    refine Jp.y 59 rfl (qaa rfl) rfl rfl Kp.true (Y.bits rfl rfl rfl rfl) ?_
                    refine Jp.y 6 rfl (qaa rfl) rfl rfl Kp.true (Y.assign rfl rfl) ?_
                    refine Jp.y 7 rfl (qaa rfl) rfl rfl Kp.true (Y.assign rfl rfl) ?_
                    refine Jp.qae hK57 ?_
                    refine Cd.ret [] rfl (qbd rfl rfl rfl) trivial ⟨rfl, by
                      (have hkk : k = 8 := by omega
                       subst hkk
                       exact tup2 (qas ha hb)), rfl⟩
                  · skip
                    try simp only [sG0] at g55
                    refine Cd.seq fun K58 hK58=>?_
                    refine Cd.qac [(0,false),(1,false)] rfl rfl ?_
                    refine Jp.y 61 rfl (qaa rfl) rfl rfl Kp.true (Y.eql rfl rfl rfl) ?_
                    refine Jp.y 60 rfl (qaa rfl) rfl rfl Kp.true (Y.assign rfl rfl) ?_
                    refine Jp.qae hK58 ?_
                    refine Cd.qal rfl (fun g60=>?_) (fun g60=>?_)
                    · skip
                      try simp only [sG0] at g60
                      refine Cd.seq fun K59 hK59=>?_
                      refine Cd.qac [(0,false),(1,false),(2,false),(3,false),(4,false)] rfl rfl ?_
                      refine Jp.y 62 rfl (qaa rfl) rfl rfl Kp.true (Y.move rfl rfl) ?_
                      refine Jp.y 63 rfl (qaa rfl) rfl rfl Kp.true (Y.move rfl rfl) ?_
                      refine Jp.y 64 rfl (qaa rfl) rfl rfl Kp.true (Y.bits rfl rfl rfl rfl) ?_
                      refine Jp.y 6 rfl (qaa rfl) rfl rfl Kp.true (Y.assign rfl rfl) ?_
                      refine Jp.y 7 rfl (qaa rfl) rfl rfl Kp.true (Y.assign rfl rfl) ?_
                      refine Jp.qae hK59 ?_
                      refine Cd.ret [] rfl (qbd rfl rfl rfl) trivial ⟨rfl, by
                        (have hkk : k = 9 := by omega
                         subst hkk
                         exact tup2 (qbz ha hb)), rfl⟩
                    · skip
                      try simp only [sG0] at g60
                      refine Cd.seq fun K60 hK60=>?_
                      refine Cd.qac [(0,false),(1,false)] rfl rfl ?_
                      refine Jp.y 66 rfl (qaa rfl) rfl rfl Kp.true (Y.eql rfl rfl rfl) ?_
                      refine Jp.y 65 rfl (qaa rfl) rfl rfl Kp.true (Y.assign rfl rfl) ?_
                      refine Jp.qae hK60 ?_
                      refine Cd.qal rfl (fun g65=>?_) (fun g65=>?_)
                      · skip
                        try simp only [sG0] at g65
                        refine Cd.seq fun K61 hK61=>?_
                        refine Cd.qac [(0,false),(1,false),(2,false),(3,false),(4,false)] rfl rfl ?_
                        refine Jp.y 67 rfl (qaa rfl) rfl rfl Kp.true (Y.move rfl rfl) ?_
                        refine Jp.y 68 rfl (qaa rfl) rfl rfl Kp.true (Y.move rfl rfl) ?_
                        refine Jp.y 69 rfl (qaa rfl) rfl rfl Kp.true (Y.mul_ rfl rfl rfl (by rfl)) ?_
                        refine Jp.y 6 rfl (qaa rfl) rfl rfl Kp.true (Y.assign rfl rfl) ?_
                        refine Jp.y 7 rfl (qaa rfl) rfl rfl Kp.true (Y.assign rfl rfl) ?_
                        refine Jp.qae hK61 ?_
                        refine Cd.ret [] rfl (qbd rfl rfl rfl) trivial ⟨rfl, by
                          (have hkk : k = 10 := by omega
                           subst hkk
                           exact tup2 (qbb _)), rfl⟩
                      · skip
                        try simp only [sG0] at g65
                        refine Cd.seq fun K62 hK62=>?_
                        refine Cd.seq fun K63 hK63=>?_
                        refine Cd.qac [(0,false),(1,false)] rfl rfl ?_
                        refine Jp.y 71 rfl (qaa rfl) rfl rfl Kp.true (Y.eql rfl rfl rfl) ?_
                        refine Jp.y 70 rfl (qaa rfl) rfl rfl Kp.true (Y.assign rfl rfl) ?_
                        refine Jp.qae hK63 ?_
                        refine Cd.qal rfl (fun g70=>?_) (fun g70=>?_)
                        · skip
                          refine Cd.slot 70 rfl (show _ = Value.bool true from congrArg Value.bool g70) ?_
                          try simp only [sG0] at g70
                          refine Cd.qbi hK62 ?_
                          refine Cd.qcw rfl ?_
                          refine Cd.seq fun K64 hK64=>?_
                          refine Cd.qac [(0,false),(1,false),(2,false),(3,false),(4,false),(5,false)] rfl rfl ?_
                          refine Jp.y 74 rfl (qaa rfl) rfl rfl Kp.true (Y.move rfl rfl) ?_
                          refine Jp.y 75 rfl (qaa rfl) rfl rfl Kp.true (Y.move rfl rfl) ?_
                          refine Jp.y 76 rfl (qaa rfl) rfl rfl Kp.true (Y.move rfl rfl) ?_
                          refine Jp.call [] [] (high_spec k a b (by omega) ha hb) 77 rfl (qaa rfl) rfl rfl (Runs.fn rfl call60 rfl) (by decide) (by decide) rfl trivial ?_
                          rintro v109 ρ109 L109 ⟨rfl,rfl,rfl⟩
                          refine ⟨rfl,fun hle109=>⟨Kp.true,?_⟩⟩
                          refine Jp.y 6 rfl (qaa rfl) rfl rfl Kp.true (Y.assign rfl rfl) ?_
                          refine Jp.y 7 rfl (qaa rfl) rfl rfl Kp.true (Y.assign rfl rfl) ?_
                          refine Jp.qae hK64 ?_
                          refine Cd.ret [] rfl (qbd rfl rfl rfl) trivial ⟨rfl, by
                            rfl, rfl⟩
                        · skip
                          try simp only [sG0] at g70
                          refine Cd.seq fun K65 hK65=>?_
                          refine Cd.qac [(0,false),(1,false)] rfl rfl ?_
                          refine Jp.y 72 rfl (qaa rfl) rfl rfl Kp.true (Y.eql rfl rfl rfl) ?_
                          refine Jp.y 70 rfl (qaa rfl) rfl rfl Kp.true (Y.assign rfl rfl) ?_
                          refine Jp.qae hK65 ?_
                          refine Cd.qal rfl (fun g70=>?_) (fun g70=>?_)
                          · skip
                            refine Cd.slot 70 rfl (show _ = Value.bool true from congrArg Value.bool g70) ?_
                            try simp only [sG0] at g70
                            refine Cd.qbi hK62 ?_
                            refine Cd.qcw rfl ?_
                            refine Cd.seq fun K66 hK66=>?_
                            refine Cd.qac [(0,false),(1,false),(2,false),(3,false),(4,false),(5,false)] rfl rfl ?_
                            refine Jp.y 74 rfl (qaa rfl) rfl rfl Kp.true (Y.move rfl rfl) ?_
                            refine Jp.y 75 rfl (qaa rfl) rfl rfl Kp.true (Y.move rfl rfl) ?_
                            refine Jp.y 76 rfl (qaa rfl) rfl rfl Kp.true (Y.move rfl rfl) ?_
                            refine Jp.call [] [] (high_spec k a b (by omega) ha hb) 77 rfl (qaa rfl) rfl rfl (Runs.fn rfl call60 rfl) (by decide) (by decide) rfl trivial ?_
                            rintro v110 ρ110 L110 ⟨rfl,rfl,rfl⟩
                            refine ⟨rfl,fun hle110=>⟨Kp.true,?_⟩⟩
                            refine Jp.y 6 rfl (qaa rfl) rfl rfl Kp.true (Y.assign rfl rfl) ?_
                            refine Jp.y 7 rfl (qaa rfl) rfl rfl Kp.true (Y.assign rfl rfl) ?_
                            refine Jp.qae hK66 ?_
                            refine Cd.ret [] rfl (qbd rfl rfl rfl) trivial ⟨rfl, by
                              rfl, rfl⟩
                          · skip
                            try simp only [sG0] at g70
                            refine Cd.qac [(0,false),(1,false)] rfl rfl ?_
                            refine Jp.y 73 rfl (qaa rfl) rfl rfl Kp.true (Y.eql rfl rfl rfl) ?_
                            refine Jp.y 70 rfl (qaa rfl) rfl rfl Kp.true (Y.assign rfl rfl) ?_
                            refine Jp.qae hK62 ?_
                            refine Cd.qal rfl (fun g70=>?_) (fun g70=>?_)
                            · skip
                              try simp only [sG0] at g70
                              refine Cd.seq fun K67 hK67=>?_
                              refine Cd.qac [(0,false),(1,false),(2,false),(3,false),(4,false),(5,false)] rfl rfl ?_
                              refine Jp.y 74 rfl (qaa rfl) rfl rfl Kp.true (Y.move rfl rfl) ?_
                              refine Jp.y 75 rfl (qaa rfl) rfl rfl Kp.true (Y.move rfl rfl) ?_
                              refine Jp.y 76 rfl (qaa rfl) rfl rfl Kp.true (Y.move rfl rfl) ?_
                              refine Jp.call [] [] (high_spec k a b (by omega) ha hb) 77 rfl (qaa rfl) rfl rfl (Runs.fn rfl call60 rfl) (by decide) (by decide) rfl trivial ?_
                              rintro v111 ρ111 L111 ⟨rfl,rfl,rfl⟩
                              refine ⟨rfl,fun hle111=>⟨Kp.true,?_⟩⟩
                              refine Jp.y 6 rfl (qaa rfl) rfl rfl Kp.true (Y.assign rfl rfl) ?_
                              refine Jp.y 7 rfl (qaa rfl) rfl rfl Kp.true (Y.assign rfl rfl) ?_
                              refine Jp.qae hK67 ?_
                              refine Cd.ret [] rfl (qbd rfl rfl rfl) trivial ⟨rfl, by
                                rfl, rfl⟩
                            · skip
                              try simp only [sG0] at g70
                              refine Cd.seq fun K68 hK68=>?_
                              refine Cd.qac [(0,false),(1,false)] rfl rfl ?_
                              refine Jp.y 79 rfl (qaa rfl) rfl rfl Kp.true (Y.eql rfl rfl rfl) ?_
                              refine Jp.y 78 rfl (qaa rfl) rfl rfl Kp.true (Y.assign rfl rfl) ?_
                              refine Jp.qae hK68 ?_
                              refine Cd.qal rfl (fun g78=>?_) (fun g78=>?_)
                              · skip
                                try simp only [sG0] at g78
                                refine Cd.seq fun K69 hK69=>?_
                                refine Cd.seq fun K70 hK70=>?_
                                refine Cd.qac [(0,false),(1,false)] rfl rfl ?_
                                refine Jp.y 80 rfl (qaa rfl) rfl rfl Kp.true (Y.move rfl rfl) ?_
                                refine Jp.y 81 rfl (qaa rfl) rfl rfl Kp.true (Y.eql rfl rfl rfl) ?_
                                refine Jp.qae hK70 ?_
                                refine Cd.qal rfl (fun g81=>?_) (fun g81=>?_)
                                · skip
                                  try simp only [sG0] at g81
                                  refine Cd.seq fun K71 hK71=>?_
                                  refine Cd.qac [(0,false),(1,false)] rfl rfl ?_
                                  refine Jp.y 6 rfl (qaa rfl) rfl rfl Kp.true (Y.assign rfl rfl) ?_
                                  refine Jp.y 7 rfl (qaa rfl) rfl rfl Kp.true (Y.assign rfl rfl) ?_
                                  refine Jp.qae hK71 ?_
                                  refine Cd.ret [] rfl (qbd rfl rfl rfl) trivial ⟨rfl, by
                                    (have hkk : k = 14 := by omega
                                     subst hkk
                                     rw [show doP 14 a b = 4294967295 from if_pos (by omega)] <;> rfl), rfl⟩
                                · skip
                                  try simp only [sG0] at g81
                                  refine Cd.qbi hK69 ?_
                                  refine Cd.seq fun K72 hK72=>?_
                                  have hb0 : ¬ b = 0:=by omega
                                  have hs0:=hs0 hb0
                                  refine Cd.qac [(0,false),(1,false),(2,false),(3,false),(4,false),(5,false),(6,false),(7,false)] rfl rfl ?_
                                  refine Jp.y 82 rfl (qaa rfl) rfl rfl Kp.true (Y.move rfl rfl) ?_
                                  refine Jp.call [] [] (qcj _ (by assumption)) 83 rfl (qaa rfl) rfl rfl (Runs.fn rfl call57 rfl) (by decide) (by decide) rfl trivial ?_
                                  rintro v112 ρ112 L112 ⟨rfl,rfl,rfl⟩
                                  refine ⟨rfl,fun hle112=>⟨Kp.true,?_⟩⟩
                                  refine Jp.y 84 rfl (qaa rfl) rfl rfl Kp.true (Y.move rfl rfl) ?_
                                  refine Jp.call [] [] (qcj _ (by assumption)) 85 rfl (qaa rfl) rfl rfl (Runs.fn rfl call57 rfl) (by decide) (by decide) rfl trivial ?_
                                  rintro v113 ρ113 L113 ⟨rfl,rfl,rfl⟩
                                  refine ⟨rfl,fun hle113=>⟨Kp.true,?_⟩⟩
                                  refine Jp.y 86 rfl (qaa rfl) rfl rfl Kp.true (Y.quo rfl rfl rfl hs0) ?_
                                  refine Jp.y 87 rfl (qaa rfl) rfl rfl Kp.true (Y.qap rfl rfl underlying2 underlying24 (by rfl)) ?_
                                  refine Jp.y 6 rfl (qaa rfl) rfl rfl Kp.true (Y.assign rfl rfl) ?_
                                  refine Jp.y 7 rfl (qaa rfl) rfl rfl Kp.true (Y.assign rfl rfl) ?_
                                  refine Jp.qae hK72 ?_
                                  refine Cd.ret [] rfl (qbd rfl rfl rfl) trivial ⟨rfl, by
                                    (have hkk : k = 14 := by omega
                                     subst hkk
                                     rw [show doP 14 a b = u32 ((s32 a).tdiv (s32 b)) from if_neg hb0,← qbb]
                                     exact tup2 (congrArg IntKind.u32.wrap (qag (by omega) (by omega)))), rfl⟩
                              · skip
                                try simp only [sG0] at g78
                                refine Cd.seq fun K73 hK73=>?_
                                refine Cd.qac [(0,false),(1,false)] rfl rfl ?_
                                refine Jp.y 89 rfl (qaa rfl) rfl rfl Kp.true (Y.eql rfl rfl rfl) ?_
                                refine Jp.y 88 rfl (qaa rfl) rfl rfl Kp.true (Y.assign rfl rfl) ?_
                                refine Jp.qae hK73 ?_
                                refine Cd.qal rfl (fun g88=>?_) (fun g88=>?_)
                                · skip
                                  try simp only [sG0] at g88
                                  refine Cd.seq fun K74 hK74=>?_
                                  refine Cd.seq fun K75 hK75=>?_
                                  refine Cd.qac [(0,false),(1,false)] rfl rfl ?_
                                  refine Jp.y 90 rfl (qaa rfl) rfl rfl Kp.true (Y.move rfl rfl) ?_
                                  refine Jp.y 91 rfl (qaa rfl) rfl rfl Kp.true (Y.eql rfl rfl rfl) ?_
                                  refine Jp.qae hK75 ?_
                                  refine Cd.qal rfl (fun g91=>?_) (fun g91=>?_)
                                  · skip
                                    try simp only [sG0] at g91
                                    refine Cd.seq fun K76 hK76=>?_
                                    refine Cd.qac [(0,false),(1,false)] rfl rfl ?_
                                    refine Jp.y 6 rfl (qaa rfl) rfl rfl Kp.true (Y.assign rfl rfl) ?_
                                    refine Jp.y 7 rfl (qaa rfl) rfl rfl Kp.true (Y.assign rfl rfl) ?_
                                    refine Jp.qae hK76 ?_
                                    refine Cd.ret [] rfl (qbd rfl rfl rfl) trivial ⟨rfl, by
                                      (have hkk : k = 15 := by omega
                                       subst hkk
                                       rw [show doP 15 a b = 4294967295 from if_pos (by omega)] <;> rfl), rfl⟩
                                  · skip
                                    try simp only [sG0] at g91
                                    refine Cd.qbi hK74 ?_
                                    refine Cd.seq fun K77 hK77=>?_
                                    have hb0 : ¬ b = 0:=by omega
                                    have h1 : a / b ≤ a:=Nat.div_le_self ..
                                    have h2 : (a : Int) / b = ((a / b : Nat) : Int):=by simp
                                    refine Cd.qac [(0,false),(1,false),(2,false),(3,false),(4,false)] rfl rfl ?_
                                    refine Jp.y 92 rfl (qaa rfl) rfl rfl Kp.true (Y.move rfl rfl) ?_
                                    refine Jp.y 93 rfl (qaa rfl) rfl rfl Kp.true (Y.move rfl rfl) ?_
                                    refine Jp.y 94 rfl (qaa rfl) rfl rfl Kp.true (Y.quoN rfl rfl rfl (by omega) (by omega) (qax (by rw [h2]; exact Int.natCast_nonneg _) (by rw [h2]; exact Int.ofNat_le.2 (show a / b ≤ 4294967295 by omega)))) ?_
                                    refine Jp.y 6 rfl (qaa rfl) rfl rfl Kp.true (Y.assign rfl rfl) ?_
                                    refine Jp.y 7 rfl (qaa rfl) rfl rfl Kp.true (Y.assign rfl rfl) ?_
                                    refine Jp.qae hK77 ?_
                                    refine Cd.ret [] rfl (qbd rfl rfl rfl) trivial ⟨rfl, by
                                      (have hkk : k = 15 := by omega
                                       subst hkk
                                       rw [show doP 15 a b = a / b from if_neg hb0] <;> rfl), rfl⟩
                                · skip
                                  try simp only [sG0] at g88
                                  refine Cd.seq fun K78 hK78=>?_
                                  refine Cd.qac [(0,false),(1,false)] rfl rfl ?_
                                  refine Jp.y 96 rfl (qaa rfl) rfl rfl Kp.true (Y.eql rfl rfl rfl) ?_
                                  refine Jp.y 95 rfl (qaa rfl) rfl rfl Kp.true (Y.assign rfl rfl) ?_
                                  refine Jp.qae hK78 ?_
                                  refine Cd.qal rfl (fun g95=>?_) (fun g95=>?_)
                                  · skip
                                    try simp only [sG0] at g95
                                    refine Cd.seq fun K79 hK79=>?_
                                    refine Cd.seq fun K80 hK80=>?_
                                    refine Cd.qac [(0,false),(1,false)] rfl rfl ?_
                                    refine Jp.y 97 rfl (qaa rfl) rfl rfl Kp.true (Y.move rfl rfl) ?_
                                    refine Jp.y 98 rfl (qaa rfl) rfl rfl Kp.true (Y.eql rfl rfl rfl) ?_
                                    refine Jp.qae hK80 ?_
                                    refine Cd.qal rfl (fun g98=>?_) (fun g98=>?_)
                                    · skip
                                      try simp only [sG0] at g98
                                      refine Cd.seq fun K81 hK81=>?_
                                      refine Cd.qac [(0,false),(1,false),(2,false)] rfl rfl ?_
                                      refine Jp.y 99 rfl (qaa rfl) rfl rfl Kp.true (Y.move rfl rfl) ?_
                                      refine Jp.y 6 rfl (qaa rfl) rfl rfl Kp.true (Y.assign rfl rfl) ?_
                                      refine Jp.y 7 rfl (qaa rfl) rfl rfl Kp.true (Y.assign rfl rfl) ?_
                                      refine Jp.qae hK81 ?_
                                      refine Cd.ret [] rfl (qbd rfl rfl rfl) trivial ⟨rfl, by
                                        (have hkk : k = 16 := by omega
                                         subst hkk
                                         rw [show doP 16 a b = a from if_pos (by omega)]), rfl⟩
                                    · skip
                                      try simp only [sG0] at g98
                                      refine Cd.qbi hK79 ?_
                                      refine Cd.seq fun K82 hK82=>?_
                                      have hb0 : ¬ b = 0:=by omega
                                      have hs0:=hs0 hb0
                                      refine Cd.qac [(0,false),(1,false),(2,false),(3,false),(4,false),(5,false),(6,false),(7,false)] rfl rfl ?_
                                      refine Jp.y 100 rfl (qaa rfl) rfl rfl Kp.true (Y.move rfl rfl) ?_
                                      refine Jp.call [] [] (qcj _ (by assumption)) 101 rfl (qaa rfl) rfl rfl (Runs.fn rfl call57 rfl) (by decide) (by decide) rfl trivial ?_
                                      rintro v114 ρ114 L114 ⟨rfl,rfl,rfl⟩
                                      refine ⟨rfl,fun hle114=>⟨Kp.true,?_⟩⟩
                                      refine Jp.y 102 rfl (qaa rfl) rfl rfl Kp.true (Y.move rfl rfl) ?_
                                      refine Jp.call [] [] (qcj _ (by assumption)) 103 rfl (qaa rfl) rfl rfl (Runs.fn rfl call57 rfl) (by decide) (by decide) rfl trivial ?_
                                      rintro v115 ρ115 L115 ⟨rfl,rfl,rfl⟩
                                      refine ⟨rfl,fun hle115=>⟨Kp.true,?_⟩⟩
                                      refine Jp.y 104 rfl (qaa rfl) rfl rfl Kp.true (Y.rem rfl rfl rfl hs0) ?_
                                      refine Jp.y 105 rfl (qaa rfl) rfl rfl Kp.true (Y.qap rfl rfl underlying2 underlying24 (by rfl)) ?_
                                      refine Jp.y 6 rfl (qaa rfl) rfl rfl Kp.true (Y.assign rfl rfl) ?_
                                      refine Jp.y 7 rfl (qaa rfl) rfl rfl Kp.true (Y.assign rfl rfl) ?_
                                      refine Jp.qae hK82 ?_
                                      refine Cd.ret [] rfl (qbd rfl rfl rfl) trivial ⟨rfl, by
                                        (have hkk : k = 16 := by omega
                                         subst hkk
                                         rw [show doP 16 a b = u32 ((s32 a).tmod (s32 b)) from if_neg hb0, ← qbb] <;> rfl), rfl⟩
                                  · skip
                                    try simp only [sG0] at g95
                                    refine Cd.seq fun K83 hK83=>?_
                                    refine Cd.qac [(0,false),(1,false)] rfl rfl ?_
                                    refine Jp.y 107 rfl (qaa rfl) rfl rfl Kp.true (Y.eql rfl rfl rfl) ?_
                                    refine Jp.y 106 rfl (qaa rfl) rfl rfl Kp.true (Y.assign rfl rfl) ?_
                                    refine Jp.qae hK83 ?_
                                    refine Cd.qal rfl (fun g106=>?_) (fun g106=>?_)
                                    · skip
                                      try simp only [sG0] at g106
                                      refine Cd.seq fun K84 hK84=>?_
                                      refine Cd.seq fun K85 hK85=>?_
                                      refine Cd.qac [(0,false),(1,false)] rfl rfl ?_
                                      refine Jp.y 108 rfl (qaa rfl) rfl rfl Kp.true (Y.move rfl rfl) ?_
                                      refine Jp.y 109 rfl (qaa rfl) rfl rfl Kp.true (Y.eql rfl rfl rfl) ?_
                                      refine Jp.qae hK85 ?_
                                      refine Cd.qal rfl (fun g109=>?_) (fun g109=>?_)
                                      · skip
                                        try simp only [sG0] at g109
                                        refine Cd.seq fun K86 hK86=>?_
                                        refine Cd.qac [(0,false),(1,false),(2,false)] rfl rfl ?_
                                        refine Jp.y 110 rfl (qaa rfl) rfl rfl Kp.true (Y.move rfl rfl) ?_
                                        refine Jp.y 6 rfl (qaa rfl) rfl rfl Kp.true (Y.assign rfl rfl) ?_
                                        refine Jp.y 7 rfl (qaa rfl) rfl rfl Kp.true (Y.assign rfl rfl) ?_
                                        refine Jp.qae hK86 ?_
                                        refine Cd.ret [] rfl (qbd rfl rfl rfl) trivial ⟨rfl, by
                                          (have hkk : k = 17 := by omega
                                           subst hkk
                                           rw [show doP 17 a b = a from if_pos (by omega)]), rfl⟩
                                      · skip
                                        try simp only [sG0] at g109
                                        refine Cd.qbi hK84 ?_
                                        refine Cd.seq fun K87 hK87=>?_
                                        have hb0 : ¬ b = 0:=by omega
                                        refine Cd.qac [(0,false),(1,false),(2,false),(3,false),(4,false)] rfl rfl ?_
                                        refine Jp.y 111 rfl (qaa rfl) rfl rfl Kp.true (Y.move rfl rfl) ?_
                                        refine Jp.y 112 rfl (qaa rfl) rfl rfl Kp.true (Y.move rfl rfl) ?_
                                        refine Jp.y 113 rfl (qaa rfl) rfl rfl Kp.true (by exact Y.remN rfl rfl rfl (by omega) (by omega)) ?_
                                        refine Jp.y 6 rfl (qaa rfl) rfl rfl Kp.true (Y.assign rfl rfl) ?_
                                        refine Jp.y 7 rfl (qaa rfl) rfl rfl Kp.true (Y.assign rfl rfl) ?_
                                        refine Jp.qae hK87 ?_
                                        refine Cd.ret [] rfl (qbd rfl rfl rfl) trivial ⟨rfl, by
                                          (have hkk : k = 17 := by omega
                                           subst hkk
                                           rw [show doP 17 a b = a % b from if_neg hb0] <;> rfl), rfl⟩
                                    · skip
                                      try simp only [sG0] at g106
                                      refine Cd.over rfl hK22 ?_
                                      refine Cd.seq fun K88 hK88=>?_
                                      refine Cd.qac [(0,false),(1,false)] rfl rfl ?_
                                      refine Jp.y 6 rfl (qaa rfl) rfl rfl Kp.true (Y.assign rfl rfl) ?_
                                      refine Jp.y 7 rfl (qaa rfl) rfl rfl Kp.true (Y.assign rfl rfl) ?_
                                      refine Jp.qae hK88 ?_
                                      refine Cd.ret [] rfl (qbd rfl rfl rfl) trivial ⟨rfl, by
                                        (exfalso; omega), rfl⟩
theorem refTest_spec (k a b : Nat) (hk : k = 0 ∨ k = 1 ∨ 4 ≤ k ∧ k ≤ 7) (ha : a < 4294967296) (hb : b < 4294967296) : Spec Tryz.prog 28 #[.int .i64 k,.int .u32 a,.int .u32 b] (fun _=>True) []
    (fun ρ ρ' v L=>ρ' = ρ ∧ v = .tuple #[.bool (testP k a b),.bool true] ∧ L = []):=by
  refine Spec.of 43 Tryz.func28 rfl Tryz.ntmps28 [(0,_),(1,_),(2,_)] rfl rfl ?_
  intro cx ρ hr h0
  refine Cd.seq fun K89 hK89=>?_
  refine Cd.qac [(0,false),(1,false)] rfl rfl ?_
  refine Jp.y 6 rfl (qaa rfl) rfl rfl Kp.true (Y.assign rfl rfl) ?_
  refine Jp.y 7 rfl (qaa rfl) rfl rfl Kp.true (Y.assign rfl rfl) ?_
  refine Jp.qae hK89 ?_
  refine Cd.seq fun K90 hK90=>?_
  refine Cd.seq fun K91 hK91=>?_
  refine Cd.qac [(0,false)] rfl rfl ?_
  refine Jp.y 8 rfl (qaa rfl) rfl rfl Kp.true (Y.move rfl rfl) ?_
  refine Jp.qae hK91 ?_
  refine Cd.block ?_
  refine Cd.seq fun K92 hK92=>?_
  refine Cd.qac [(0,false),(1,false)] rfl rfl ?_
  refine Jp.y 10 rfl (qaa rfl) rfl rfl Kp.true (Y.eql rfl rfl rfl) ?_
  refine Jp.y 9 rfl (qaa rfl) rfl rfl Kp.true (Y.assign rfl rfl) ?_
  refine Jp.qae hK92 ?_
  refine Cd.qal rfl (fun g9=>?_) (fun g9=>?_)
  · skip
    try simp only [sG0] at g9
    refine Cd.seq fun K93 hK93=>?_
    refine Cd.qac [(0,false),(1,false),(2,false),(3,false),(4,false)] rfl rfl ?_
    refine Jp.y 11 rfl (qaa rfl) rfl rfl Kp.true (Y.move rfl rfl) ?_
    refine Jp.y 12 rfl (qaa rfl) rfl rfl Kp.true (Y.move rfl rfl) ?_
    refine Jp.y 13 rfl (qaa rfl) rfl rfl Kp.true (Y.eql rfl rfl rfl) ?_
    refine Jp.y 6 rfl (qaa rfl) rfl rfl Kp.true (Y.assign rfl rfl) ?_
    refine Jp.y 7 rfl (qaa rfl) rfl rfl Kp.true (Y.assign rfl rfl) ?_
    refine Jp.qae hK93 ?_
    refine Cd.ret [] rfl (qbd rfl rfl rfl) trivial ⟨rfl, by
      (have hkk : k = 0 := by omega
       subst hkk
       exact tupB (test0 a b)), rfl⟩
  · skip
    try simp only [sG0] at g9
    refine Cd.seq fun K94 hK94=>?_
    refine Cd.qac [(0,false),(1,false)] rfl rfl ?_
    refine Jp.y 15 rfl (qaa rfl) rfl rfl Kp.true (Y.eql rfl rfl rfl) ?_
    refine Jp.y 14 rfl (qaa rfl) rfl rfl Kp.true (Y.assign rfl rfl) ?_
    refine Jp.qae hK94 ?_
    refine Cd.qal rfl (fun g14=>?_) (fun g14=>?_)
    · skip
      try simp only [sG0] at g14
      refine Cd.seq fun K95 hK95=>?_
      refine Cd.qac [(0,false),(1,false),(2,false),(3,false),(4,false)] rfl rfl ?_
      refine Jp.y 16 rfl (qaa rfl) rfl rfl Kp.true (Y.move rfl rfl) ?_
      refine Jp.y 17 rfl (qaa rfl) rfl rfl Kp.true (Y.move rfl rfl) ?_
      refine Jp.y 18 rfl (qaa rfl) rfl rfl Kp.true (Y.neq rfl rfl rfl) ?_
      refine Jp.y 6 rfl (qaa rfl) rfl rfl Kp.true (Y.assign rfl rfl) ?_
      refine Jp.y 7 rfl (qaa rfl) rfl rfl Kp.true (Y.assign rfl rfl) ?_
      refine Jp.qae hK95 ?_
      refine Cd.ret [] rfl (qbd rfl rfl rfl) trivial ⟨rfl, by
        (have hkk : k = 1 := by omega
         subst hkk
         exact tupB (test1 a b)), rfl⟩
    · skip
      try simp only [sG0] at g14
      refine Cd.seq fun K96 hK96=>?_
      refine Cd.qac [(0,false),(1,false)] rfl rfl ?_
      refine Jp.y 20 rfl (qaa rfl) rfl rfl Kp.true (Y.eql rfl rfl rfl) ?_
      refine Jp.y 19 rfl (qaa rfl) rfl rfl Kp.true (Y.assign rfl rfl) ?_
      refine Jp.qae hK96 ?_
      refine Cd.qal rfl (fun g19=>?_) (fun g19=>?_)
      · skip
        try simp only [sG0] at g19
        refine Cd.seq fun K97 hK97=>?_
        refine Cd.qac [(0,false),(1,false),(2,false),(3,false),(4,false),(5,false),(6,false)] rfl rfl ?_
        refine Jp.y 21 rfl (qaa rfl) rfl rfl Kp.true (Y.move rfl rfl) ?_
        refine Jp.call [] [] (qcj _ (by assumption)) 22 rfl (qaa rfl) rfl rfl (Runs.fn rfl call57 rfl) (by decide) (by decide) rfl trivial ?_
        rintro v116 ρ116 L116 ⟨rfl,rfl,rfl⟩
        refine ⟨rfl,fun hle116=>⟨Kp.true,?_⟩⟩
        refine Jp.y 23 rfl (qaa rfl) rfl rfl Kp.true (Y.move rfl rfl) ?_
        refine Jp.call [] [] (qcj _ (by assumption)) 24 rfl (qaa rfl) rfl rfl (Runs.fn rfl call57 rfl) (by decide) (by decide) rfl trivial ?_
        rintro v117 ρ117 L117 ⟨rfl,rfl,rfl⟩
        refine ⟨rfl,fun hle117=>⟨Kp.true,?_⟩⟩
        refine Jp.y 25 rfl (qaa rfl) rfl rfl Kp.true (Y.lss rfl rfl rfl) ?_
        refine Jp.y 6 rfl (qaa rfl) rfl rfl Kp.true (Y.assign rfl rfl) ?_
        refine Jp.y 7 rfl (qaa rfl) rfl rfl Kp.true (Y.assign rfl rfl) ?_
        refine Jp.qae hK97 ?_
        refine Cd.ret [] rfl (qbd rfl rfl rfl) trivial ⟨rfl, by
          (have hkk : k = 4 := by omega
           subst hkk
           rfl), rfl⟩
      · skip
        try simp only [sG0] at g19
        refine Cd.seq fun K98 hK98=>?_
        refine Cd.qac [(0,false),(1,false)] rfl rfl ?_
        refine Jp.y 27 rfl (qaa rfl) rfl rfl Kp.true (Y.eql rfl rfl rfl) ?_
        refine Jp.y 26 rfl (qaa rfl) rfl rfl Kp.true (Y.assign rfl rfl) ?_
        refine Jp.qae hK98 ?_
        refine Cd.qal rfl (fun g26=>?_) (fun g26=>?_)
        · skip
          try simp only [sG0] at g26
          refine Cd.seq fun K99 hK99=>?_
          refine Cd.qac [(0,false),(1,false),(2,false),(3,false),(4,false),(5,false),(6,false)] rfl rfl ?_
          refine Jp.y 28 rfl (qaa rfl) rfl rfl Kp.true (Y.move rfl rfl) ?_
          refine Jp.call [] [] (qcj _ (by assumption)) 29 rfl (qaa rfl) rfl rfl (Runs.fn rfl call57 rfl) (by decide) (by decide) rfl trivial ?_
          rintro v118 ρ118 L118 ⟨rfl,rfl,rfl⟩
          refine ⟨rfl,fun hle118=>⟨Kp.true,?_⟩⟩
          refine Jp.y 30 rfl (qaa rfl) rfl rfl Kp.true (Y.move rfl rfl) ?_
          refine Jp.call [] [] (qcj _ (by assumption)) 31 rfl (qaa rfl) rfl rfl (Runs.fn rfl call57 rfl) (by decide) (by decide) rfl trivial ?_
          rintro v119 ρ119 L119 ⟨rfl,rfl,rfl⟩
          refine ⟨rfl,fun hle119=>⟨Kp.true,?_⟩⟩
          refine Jp.y 32 rfl (qaa rfl) rfl rfl Kp.true (Y.geq rfl rfl rfl) ?_
          refine Jp.y 6 rfl (qaa rfl) rfl rfl Kp.true (Y.assign rfl rfl) ?_
          refine Jp.y 7 rfl (qaa rfl) rfl rfl Kp.true (Y.assign rfl rfl) ?_
          refine Jp.qae hK99 ?_
          refine Cd.ret [] rfl (qbd rfl rfl rfl) trivial ⟨rfl, by
            (have hkk : k = 5 := by omega
             subst hkk
             rfl), rfl⟩
        · skip
          try simp only [sG0] at g26
          refine Cd.seq fun K100 hK100=>?_
          refine Cd.qac [(0,false),(1,false)] rfl rfl ?_
          refine Jp.y 34 rfl (qaa rfl) rfl rfl Kp.true (Y.eql rfl rfl rfl) ?_
          refine Jp.y 33 rfl (qaa rfl) rfl rfl Kp.true (Y.assign rfl rfl) ?_
          refine Jp.qae hK100 ?_
          refine Cd.qal rfl (fun g33=>?_) (fun g33=>?_)
          · skip
            try simp only [sG0] at g33
            refine Cd.seq fun K101 hK101=>?_
            refine Cd.qac [(0,false),(1,false),(2,false),(3,false),(4,false)] rfl rfl ?_
            refine Jp.y 35 rfl (qaa rfl) rfl rfl Kp.true (Y.move rfl rfl) ?_
            refine Jp.y 36 rfl (qaa rfl) rfl rfl Kp.true (Y.move rfl rfl) ?_
            refine Jp.y 37 rfl (qaa rfl) rfl rfl Kp.true (Y.lss rfl rfl rfl) ?_
            refine Jp.y 6 rfl (qaa rfl) rfl rfl Kp.true (Y.assign rfl rfl) ?_
            refine Jp.y 7 rfl (qaa rfl) rfl rfl Kp.true (Y.assign rfl rfl) ?_
            refine Jp.qae hK101 ?_
            refine Cd.ret [] rfl (qbd rfl rfl rfl) trivial ⟨rfl, by
              (have hkk : k = 6 := by omega
               subst hkk
               exact tupB (test6 a b)), rfl⟩
          · skip
            try simp only [sG0] at g33
            refine Cd.seq fun K102 hK102=>?_
            refine Cd.qac [(0,false),(1,false)] rfl rfl ?_
            refine Jp.y 39 rfl (qaa rfl) rfl rfl Kp.true (Y.eql rfl rfl rfl) ?_
            refine Jp.y 38 rfl (qaa rfl) rfl rfl Kp.true (Y.assign rfl rfl) ?_
            refine Jp.qae hK102 ?_
            refine Cd.qal rfl (fun g38=>?_) (fun g38=>?_)
            · skip
              try simp only [sG0] at g38
              refine Cd.seq fun K103 hK103=>?_
              refine Cd.qac [(0,false),(1,false),(2,false),(3,false),(4,false)] rfl rfl ?_
              refine Jp.y 40 rfl (qaa rfl) rfl rfl Kp.true (Y.move rfl rfl) ?_
              refine Jp.y 41 rfl (qaa rfl) rfl rfl Kp.true (Y.move rfl rfl) ?_
              refine Jp.y 42 rfl (qaa rfl) rfl rfl Kp.true (Y.geq rfl rfl rfl) ?_
              refine Jp.y 6 rfl (qaa rfl) rfl rfl Kp.true (Y.assign rfl rfl) ?_
              refine Jp.y 7 rfl (qaa rfl) rfl rfl Kp.true (Y.assign rfl rfl) ?_
              refine Jp.qae hK103 ?_
              refine Cd.ret [] rfl (qbd rfl rfl rfl) trivial ⟨rfl, by
                (have hkk : k = 7 := by omega
                 subst hkk
                 exact tupB (test7 a b)), rfl⟩
            · skip
              try simp only [sG0] at g38
              refine Cd.over rfl hK90 ?_
              refine Cd.seq fun K104 hK104=>?_
              refine Cd.qac [(0,false),(1,false)] rfl rfl ?_
              refine Jp.y 6 rfl (qaa rfl) rfl rfl Kp.true (Y.assign rfl rfl) ?_
              refine Jp.y 7 rfl (qaa rfl) rfl rfl Kp.true (Y.assign rfl rfl) ?_
              refine Jp.qae hK104 ?_
              refine Cd.ret [] rfl (qbd rfl rfl rfl) trivial ⟨rfl, by
                (exfalso; omega), rfl⟩
theorem and255 {v : Nat} (hv : v < 4294967296) : qbu .and .u32 (v : Int) 255 = ((v % 256 : Nat) : Int):=by
 have:=qbz (b:=255) hv (by omega)
 rw [show v &&& 255 = v % 256 from Nat.and_two_pow_sub_one_eq_mod v 8] at this
 exact this
theorem and65535 {v : Nat} (hv : v < 4294967296) : qbu .and .u32 (v : Int) 65535 = ((v % 65536 : Nat) : Int):=by
 have:=qbz (b:=65535) hv (by omega)
 rw [show v &&& 65535 = v % 65536 from Nat.and_two_pow_sub_one_eq_mod v 16] at this
 exact this
theorem or_hi8 {x : Nat} (hx : x < 256) : qbu .or .u32 (x : Int) 4294967040 = ((x + 4294967040 : Nat) : Int):=by
 have:=qas (a:=x) (b:=4294967040) (by omega) (by omega)
 rw [show (4294967040 : Nat) = 16777215 * 2 ^ 8 from rfl,qej (show x < 2 ^ 8 from hx)] at this
 exact this
theorem or_hi16 {x : Nat} (hx : x < 65536) : qbu .or .u32 (x : Int) 4294901760 = ((x + 4294901760 : Nat) : Int):=by
 have:=qas (a:=x) (b:=4294901760) (by omega) (by omega)
 rw [show (4294901760 : Nat) = 65535 * 2 ^ 16 from rfl,qej (show x < 2 ^ 16 from hx)] at this
 exact this
theorem refExtend_spec (v n : Nat) (hv : v < 4294967296) : Spec Tryz.prog 30 #[.int .u32 v,.int .i64 n] (fun _=>True) []
    (fun ρ ρ' r L=>ρ' = ρ ∧ r = .int .u32 ((extP v n : Nat) : Int) ∧ L = []):=by
  refine Spec.of 23 Tryz.func30 rfl Tryz.ntmps30 [(0,_),(1,_)] rfl rfl ?_
  intro cx ρ hr h0
  have h8:=or_hi8 (x:=v % 256) (Nat.mod_lt _ (by decide))
  have h16:=or_hi16 (x:=v % 65536) (Nat.mod_lt _ (by decide))
  refine Cd.seq fun K105 hK105=>?_
  refine Cd.qac [(0,false)] rfl rfl ?_
  refine Jp.y 4 rfl (qaa rfl) rfl rfl Kp.true (Y.assign rfl rfl) ?_
  refine Jp.qae hK105 ?_
  refine Cd.seq fun K106 hK106=>?_
  refine Cd.seq fun K107 hK107=>?_
  refine Cd.qac [(0,false)] rfl rfl ?_
  refine Jp.y 5 rfl (qaa rfl) rfl rfl Kp.true (Y.move rfl rfl) ?_
  refine Jp.qae hK107 ?_
  refine Cd.block ?_
  refine Cd.seq fun K108 hK108=>?_
  refine Cd.qac [(0,false),(1,false)] rfl rfl ?_
  refine Jp.y 7 rfl (qaa rfl) rfl rfl Kp.true (Y.eql rfl rfl rfl) ?_
  refine Jp.y 6 rfl (qaa rfl) rfl rfl Kp.true (Y.assign rfl rfl) ?_
  refine Jp.qae hK108 ?_
  refine Cd.qal rfl (fun g6=>?_) (fun g6=>?_)
  · skip
    try simp only [sG0] at g6
    refine Cd.seq fun K109 hK109=>?_
    refine Cd.qac [(0,false),(1,false),(2,false)] rfl rfl ?_
    refine Jp.y 8 rfl (qaa rfl) rfl rfl Kp.true (Y.move rfl rfl) ?_
    refine Jp.y 9 rfl (qaa rfl) rfl rfl Kp.true (Y.bits rfl rfl rfl rfl) ?_
    refine Jp.y 0 rfl (qaa rfl) rfl rfl Kp.true (Y.assign rfl rfl) ?_
    refine Jp.qae hK109 ?_
    refine Cd.seq fun K110 hK110=>?_
    refine Cd.slot 0 rfl (show _ = Value.int .u32 ((v % 256 : Nat) : Int) from congrArg (Value.int .u32) (and255 hv)) ?_
    refine Cd.qac [(0,false),(1,false)] rfl rfl ?_
    refine Jp.y 10 rfl (qaa rfl) rfl rfl Kp.true (Y.move rfl rfl) ?_
    refine Jp.y 11 rfl (qaa rfl) rfl rfl Kp.true (Y.geq rfl rfl rfl) ?_
    refine Jp.qae hK110 ?_
    refine Cd.qal rfl (fun g11=>?_) (fun g11=>?_)
    · skip
      try simp only [sG0] at g11
      refine Cd.qac [(0,false),(1,false),(2,false)] rfl rfl ?_
      refine Jp.y 12 rfl (qaa rfl) rfl rfl Kp.true (Y.move rfl rfl) ?_
      refine Jp.y 13 rfl (qaa rfl) rfl rfl Kp.true (Y.bits rfl rfl rfl rfl) ?_
      refine Jp.y 0 rfl (qaa rfl) rfl rfl Kp.true (Y.assign rfl rfl) ?_
      refine Jp.over rfl hK106 ?_
      refine Cd.seq fun K111 hK111=>?_
      refine Cd.qac [(0,false),(1,false)] rfl rfl ?_
      refine Jp.y 22 rfl (qaa rfl) rfl rfl Kp.true (Y.move rfl rfl) ?_
      refine Jp.y 4 rfl (qaa rfl) rfl rfl Kp.true (Y.assign rfl rfl) ?_
      refine Jp.qae hK111 ?_
      refine Cd.ret [] rfl (qba rfl rfl) trivial ⟨rfl, by
        (have hkk : n = 8 := by omega
         subst hkk
         rw [extP,if_pos rfl]
         split
         · first | rfl | (exfalso; omega)
         · exact congrArg (Value.int .u32) h8), rfl⟩
    · skip
      try simp only [sG0] at g11
      refine Cd.over rfl hK106 ?_
      refine Cd.seq fun K112 hK112=>?_
      refine Cd.qac [(0,false),(1,false)] rfl rfl ?_
      refine Jp.y 22 rfl (qaa rfl) rfl rfl Kp.true (Y.move rfl rfl) ?_
      refine Jp.y 4 rfl (qaa rfl) rfl rfl Kp.true (Y.assign rfl rfl) ?_
      refine Jp.qae hK112 ?_
      refine Cd.ret [] rfl (qba rfl rfl) trivial ⟨rfl, by
        (have hkk : n = 8 := by omega
         subst hkk
         rw [extP,if_pos rfl]
         split
         · first | rfl | (exfalso; omega)
         · (exfalso; omega)), rfl⟩
  · skip
    try simp only [sG0] at g6
    refine Cd.seq fun K113 hK113=>?_
    refine Cd.qac [(0,false),(1,false)] rfl rfl ?_
    refine Jp.y 15 rfl (qaa rfl) rfl rfl Kp.true (Y.eql rfl rfl rfl) ?_
    refine Jp.y 14 rfl (qaa rfl) rfl rfl Kp.true (Y.assign rfl rfl) ?_
    refine Jp.qae hK113 ?_
    refine Cd.qal rfl (fun g14=>?_) (fun g14=>?_)
    · skip
      try simp only [sG0] at g14
      refine Cd.seq fun K114 hK114=>?_
      refine Cd.qac [(0,false),(1,false),(2,false)] rfl rfl ?_
      refine Jp.y 16 rfl (qaa rfl) rfl rfl Kp.true (Y.move rfl rfl) ?_
      refine Jp.y 17 rfl (qaa rfl) rfl rfl Kp.true (Y.bits rfl rfl rfl rfl) ?_
      refine Jp.y 0 rfl (qaa rfl) rfl rfl Kp.true (Y.assign rfl rfl) ?_
      refine Jp.qae hK114 ?_
      refine Cd.seq fun K115 hK115=>?_
      refine Cd.slot 0 rfl (show _ = Value.int .u32 ((v % 65536 : Nat) : Int) from congrArg (Value.int .u32) (and65535 hv)) ?_
      refine Cd.qac [(0,false),(1,false)] rfl rfl ?_
      refine Jp.y 18 rfl (qaa rfl) rfl rfl Kp.true (Y.move rfl rfl) ?_
      refine Jp.y 19 rfl (qaa rfl) rfl rfl Kp.true (Y.geq rfl rfl rfl) ?_
      refine Jp.qae hK115 ?_
      refine Cd.qal rfl (fun g19=>?_) (fun g19=>?_)
      · skip
        try simp only [sG0] at g19
        refine Cd.qac [(0,false),(1,false),(2,false)] rfl rfl ?_
        refine Jp.y 20 rfl (qaa rfl) rfl rfl Kp.true (Y.move rfl rfl) ?_
        refine Jp.y 21 rfl (qaa rfl) rfl rfl Kp.true (Y.bits rfl rfl rfl rfl) ?_
        refine Jp.y 0 rfl (qaa rfl) rfl rfl Kp.true (Y.assign rfl rfl) ?_
        refine Jp.over rfl hK106 ?_
        refine Cd.seq fun K116 hK116=>?_
        refine Cd.qac [(0,false),(1,false)] rfl rfl ?_
        refine Jp.y 22 rfl (qaa rfl) rfl rfl Kp.true (Y.move rfl rfl) ?_
        refine Jp.y 4 rfl (qaa rfl) rfl rfl Kp.true (Y.assign rfl rfl) ?_
        refine Jp.qae hK116 ?_
        refine Cd.ret [] rfl (qba rfl rfl) trivial ⟨rfl, by
          (have hkk : n = 16 := by omega
           subst hkk
           rw [extP,if_neg (by decide),if_pos rfl]
           split
           · first | rfl | (exfalso; omega)
           · exact congrArg (Value.int .u32) h16), rfl⟩
      · skip
        try simp only [sG0] at g19
        refine Cd.over rfl hK106 ?_
        refine Cd.seq fun K117 hK117=>?_
        refine Cd.qac [(0,false),(1,false)] rfl rfl ?_
        refine Jp.y 22 rfl (qaa rfl) rfl rfl Kp.true (Y.move rfl rfl) ?_
        refine Jp.y 4 rfl (qaa rfl) rfl rfl Kp.true (Y.assign rfl rfl) ?_
        refine Jp.qae hK117 ?_
        refine Cd.ret [] rfl (qba rfl rfl) trivial ⟨rfl, by
          (have hkk : n = 16 := by omega
           subst hkk
           rw [extP,if_neg (by decide),if_pos rfl]
           split
           · first | rfl | (exfalso; omega)
           · (exfalso; omega)), rfl⟩
    · skip
      try simp only [sG0] at g14
      refine Cd.over rfl hK106 ?_
      refine Cd.seq fun K118 hK118=>?_
      refine Cd.qac [(0,false),(1,false)] rfl rfl ?_
      refine Jp.y 22 rfl (qaa rfl) rfl rfl Kp.true (Y.move rfl rfl) ?_
      refine Jp.y 4 rfl (qaa rfl) rfl rfl Kp.true (Y.assign rfl rfl) ?_
      refine Jp.qae hK118 ?_
      refine Cd.ret [] rfl (qba rfl rfl) trivial ⟨rfl, by
        (rw [extP, if_neg (by omega), if_neg (by omega)]), rfl⟩
end Go.Proofs.YthjelpbaljapiaaGreat

namespace Go.Proofs.YthjelpbaljapiaaGreat
open _root_.Go.Proofs.Tryz
open Go
theorem refPg_setB (x : Nat × Pg) (j : Nat) (u : UInt8) : (qbm x).set (2 + j) (.int .u8 (u.toNat : Int)) = qbm (x.1,⟨x.2.b.set j u,x.2.perm⟩):=by
 rw [qbm,show 2 + j = j + 1 + 1 by omega,List.set_cons_succ,List.set_cons_succ,bytesV_set]; rfl
theorem stPg_step {p : Pg} {off k v : Nat} (h : p.b.length = 256) (hk : off + k < 256) : (⟨(stPg p off k v).b.set (off + k) (UInt8.ofNat (v / 2 ^ (8 * k))),(stPg p off k v).perm⟩ : Pg) = stPg p off (k + 1) v:=by
 have:=lay_snoc_set (p:=p.b) (k:=off) (a:=leB v k) (x:=UInt8.ofNat (v / 2 ^ (8 * k))) (by rw [qdg]; omega)
 rw [qdg] at this
 show (⟨(lay p.b off (leB v k)).set (off + k) _,p.perm⟩ : Pg) = ⟨lay p.b off (leB v (k + 1)),p.perm⟩
 rw [this,← leB_succ]
theorem refStore_spec (b : Nat) (M : MemG) (a : Nat) (size : Int) (v : Nat) (ha : a < 4294967296) (hv : v < 4294967296) : Spec Tryz.prog 31 #[.pointer (some ⟨b,0,none⟩),.int .u32 a,.int .i64 size,.int .u32 v] (fun _=>True) [(0,RefO b M)]
  (fun ρ ρ' r L=>ρ' = ρ ∧ r = .int .i64 (qca M a size v).1 ∧ L = [(0,RefO b (qca M a size v).2)]):=by
 refine Spec.of 49 Tryz.func31 rfl Tryz.ntmps31 [(0,_),(1,_),(2,_),(3,_)] rfl rfl ?_
 intro cx ρ hr h0
 refine Cd.know (A:=RefO b M) 0 rfl RefO.ok fun hmem=>?_
 have hroom:=hmem.room
 have hbud:=hmem.budget.2
 refine Cd.seq fun K1 hK1=>?_
 refine Cd.qac [(0,false)] rfl rfl ?_
 refine Jp.y 8 rfl (qaa rfl) rfl rfl Kp.true (Y.assign rfl rfl) ?_
 refine Jp.qae hK1 ?_
 refine Cd.seq fun K2 hK2=>?_
 refine Cd.qac [(0,false),(1,false),(2,false),(3,false),(4,false),(5,false),(6,false),(7,false),(8,false)] rfl rfl ?_
 refine Jp.y 13 rfl (qaa rfl) rfl rfl Kp.true (Y.move rfl rfl) ?_
 refine Jp.y 14 rfl (qaa rfl) rfl rfl Kp.true (Y.move rfl rfl) ?_
 refine Jp.y 15 rfl (qaa rfl) rfl rfl Kp.true (Y.move rfl rfl) ?_
 refine Jp.call [0] [0] (refAsk_spec b M a size 2 ha) 16 rfl (qaa rfl) rfl rfl (Runs.fn rfl call48 rfl) (by decide) (by decide) rfl trivial ?_
 rintro v1 ρ1 L1 ⟨rfl,rfl,rfl⟩
 refine ⟨rfl,fun hle1=>⟨Kp.true,?_⟩⟩
 refine Jp.y 12 rfl (qaa rfl) rfl rfl Kp.true (Y.move rfl rfl) ?_
 refine Jp.y 17 rfl (qaa rfl) rfl rfl Kp.true (Y.extract rfl rfl rfl) ?_
 refine Jp.y 18 rfl (qaa rfl) rfl rfl Kp.true (Y.extract rfl rfl rfl) ?_
 refine Jp.y 9 rfl (qaa rfl) rfl rfl Kp.true (Y.assign rfl rfl) ?_
 refine Jp.y 10 rfl (qaa rfl) rfl rfl Kp.true (Y.assign rfl rfl) ?_
 refine Jp.qae hK2 ?_
 refine Cd.seq fun K3 hK3=>?_
 refine Cd.seq fun K4 hK4=>?_
 refine Cd.qac [(0,false),(1,false)] rfl rfl ?_
 refine Jp.y 19 rfl (qaa rfl) rfl rfl Kp.true (Y.move rfl rfl) ?_
 refine Jp.y 20 rfl (qaa rfl) rfl rfl Kp.true (Y.neq rfl rfl rfl) ?_
 refine Jp.qae hK4 ?_
 refine Cd.qal rfl (fun gf=>?_) (fun gf=>?_)
 ·have hne : qbk M a size 2 ≠ 0:=by simpa using gf
  have hV : qca M a size v = (qbk M a size 2,M):=by rw [qca,if_neg hne]
  refine Cd.seq fun K5 hK5=>?_
  refine Cd.qac [(0,false),(1,false)] rfl rfl ?_
  refine Jp.y 21 rfl (qaa rfl) rfl rfl Kp.true (Y.move rfl rfl) ?_
  refine Jp.y 8 rfl (qaa rfl) rfl rfl Kp.true (Y.assign rfl rfl) ?_
  refine Jp.qae hK5 ?_
  refine Cd.ret [(0,_)] rfl (qba rfl rfl) ⟨rfl,trivial⟩ ⟨rfl,by rw [hV],by rw [hV]⟩
 ·have hz : qbk M a size 2 = 0:=by simpa using gf
  obtain ⟨hs,p,hg,hm⟩:=lookM_ok hz
  obtain ⟨n,rfl,hn1,hn2⟩:=qfh hs
  have hpo:=hmem.page _ (qcf hg)
  have hlen : p.b.length = 256:=hpo.len
  have hV : qca M a n v = (0,{ M with pages:=qcb M.pages (qan a) (stPg p (a % 256) n v),gens:=YthjelpbaljapiaaGreat.bump M.gens (qan a) }):=by rw [qca,if_pos hz,hg]; rfl
  rw [if_pos hz]
  have hx:=qfk hmem.rising hg
  have hps:=fun q=>pos_set (p:=q) hmem.rising hg
  obtain ⟨f,hfp⟩ : ∃ f,qfl M.pages (qan a) = f:=⟨_,rfl⟩
  rw [hfp] at hx hps ⊢
  have hfl:=(List.getElem?_eq_some_iff.1 hx).1
  obtain ⟨PL,hPL⟩ : ∃ PL : Nat → List (Nat × Pg),∀ k,PL k = M.pages.set f (qan a,stPg p (a % 256) k v):=⟨_,fun _=>rfl⟩
  have hPs : ∀ k,PL k = qcb M.pages (qan a) (stPg p (a % 256) k v):=fun k=>by rw [hPL,hps]
  have hPl : ∀ k,(PL k).length = M.pages.length:=fun k=>by rw [hPL,List.length_set]
  have hP0 : PL 0 = M.pages:=by
   have : stPg p (a % 256) 0 v = p:=by show (⟨lay p.b (a % 256) [],p.perm⟩ : Pg) = p; rw [lay_nil]
   rw [hPs,this,setPg_same hmem.rising.nodup hg]
  have hPx : ∀ k,(PL k)[f]? = some (qan a,stPg p (a % 256) k v):=fun k=>by rw [hPL]; exact List.getElem?_set_self hfl
  have hPok : ∀ k,a % 256 + k ≤ 256 → MemOk { M with pages:=PL k }:=fun k hk=>by
   rw [hPs]; exact hmem.set hg (stPg_len hlen hk) hpo.perm
  have hrows : ∀ k,a % 256 + k ≤ 256 → ∀ y ∈ PL k,(qbm y).length = 258:=fun k hk y hy=>qda ((hPok k hk).page y hy).len
  have hPset : ∀ k,a % 256 + k < 256 → ((PL k).flatMap qbm).set (f * 258 + (2 + (a % 256 + k))) (.int .u8 ((UInt8.ofNat (v / 2 ^ (8 * k))).toNat : Int)) = (PL (k + 1)).flatMap qbm:=fun k hk=>by
   rw [rs_set (hrows k (by omega)) (hPx k) (by omega) (refPg_setB _ _ _)]
   dsimp only
   rw [stPg_step hlen hk,hPL,hPL,List.set_set]
  refine Cd.refOpen 0 1 2 (by decide) rfl fun A c B dg gl hf=>?_
  refine Cd.ownAt 1 rfl (show 0 < M.pages.length by omega) ?_
  rintro b1 rfl
  refine Cd.imp (i:=1) (A:=OwnS 64 258 (some ⟨b1,0,none⟩) M.pages.length c (M.pages.flatMap qbm)) (A':=OwnS 64 258 (some ⟨b1,0,none⟩) M.pages.length c ((PL 0).flatMap qbm)) rfl (fun h hh=>by rw [hP0]; exact hh) ?_
  refine Cd.qbi hK3 ?_
  refine Cd.seq fun K6 hK6=>?_
  refine Cd.seq fun K7 hK7=>?_
  refine Cd.qac [(0,false)] rfl rfl ?_
  refine Jp.y 11 rfl (qaa rfl) rfl rfl Kp.true (Y.assign rfl rfl) ?_
  refine Jp.qae hK7 ?_
  refine Cd.block ?_
  refine Cd.qdw (G:=Nat) (fun k=>k ≤ n) (fun k=>n - k) (fun _=>_) (fun k=>[(11,.int .i64 (k : Int))]) [(0,_),(1,_),(2,_),(3,_),(9,_)] (fun k=>[(1,OwnS 64 258 (some ⟨b1,0,none⟩) M.pages.length c ((PL k).flatMap qbm))]) [(0,_),(2,_)] 0 (Nat.zero_le _) rfl ⟨rfl,trivial⟩ ⟨rfl,rfl,rfl,rfl,rfl,trivial⟩ ⟨rfl,trivial⟩ ⟨rfl,rfl,trivial⟩ (fun g KLa hok hLa=>?_)
  obtain ⟨k,hk⟩ : ∃ k,k = g:=⟨_,rfl⟩
  rw [← hk] at hok ⊢
  refine Cd.seq fun K8 hK8=>?_
  refine Cd.seq fun K9 hK9=>?_
  refine Cd.qac [(0,false),(1,false),(2,false)] rfl rfl ?_
  refine Jp.y 22 rfl (qaa rfl) rfl rfl Kp.true (Y.move rfl rfl) ?_
  refine Jp.y 23 rfl (qaa rfl) rfl rfl Kp.true (Y.move rfl rfl) ?_
  refine Jp.y 24 rfl (qaa rfl) rfl rfl Kp.true (Y.lss rfl rfl rfl) ?_
  refine Jp.qae hK9 ?_
  refine Cd.qal rfl (fun ga=>?_) (fun ga=>?_)
  ·have hkn : k < n:=by simp at ga; omega
   have hset:=hPset k (by omega)
   refine Cd.qbi hK8 ?_
   refine Cd.seq fun K10 hK10=>?_
   refine Cd.block ?_
   refine Cd.qac [(0,false),(1,false),(2,false),(3,false),(4,false),(5,false),(6,false),(7,false),(8,false),(9,false),(10,false),(11,false),(12,false),(13,false),(14,false),(15,false),(16,false),(17,false),(18,false),(19,false)] rfl rfl ?_
   refine Jp.y 27 rfl (qaa rfl) rfl rfl Kp.true (Y.move rfl rfl) ?_
   refine Jp.y 28 rfl (qaa rfl) rfl rfl Kp.true (Y.qau rfl rfl) ?_
   refine Jp.y 29 rfl (qaa rfl) rfl rfl Kp.true (by exact Y.qad rfl rfl underlying60 rfl sizeOf57 (by decide) (show _ + 1 = _ from rfl)) ?_
   refine Jp.y 30 rfl (qaa rfl) rfl rfl Kp.true (Y.qaq 0 rfl isAgg57 rfl rfl rfl) ?_
   refine Jp.y 31 rfl (qaa rfl) rfl rfl Kp.true (Y.move rfl rfl) ?_
   refine Jp.y 32 rfl (qaa rfl) rfl rfl Kp.true (Y.move rfl rfl) ?_
   refine Jp.y 33 rfl (qaa rfl) rfl rfl Kp.true (by exact Y.remN rfl rfl rfl (by omega) (by omega)) ?_
   refine Jp.y 34 rfl (qaa rfl) rfl rfl Kp.true (Y.qap rfl rfl underlying24 underlying3 (by exact qag (by omega) (by omega))) ?_
   refine Jp.y 35 rfl (qaa rfl) rfl rfl Kp.true (Y.move rfl rfl) ?_
   refine Jp.y 36 rfl (qaa rfl) rfl rfl Kp.true (Y.qbx rfl rfl rfl (by exact qag (by omega) (by omega))) ?_
   refine Jp.y 37 rfl (qaa rfl) rfl rfl Kp.true (Y.move rfl rfl) ?_
   refine Jp.y 38 rfl (qaa rfl) rfl rfl Kp.true (Y.move rfl rfl) ?_
   refine Jp.y 39 rfl (qaa rfl) rfl rfl Kp.true (Y.mul_ rfl rfl rfl (by exact qag (by omega) (by omega))) ?_
   refine Jp.y 40 rfl (qaa rfl) rfl rfl Kp.true (Y.qap rfl rfl underlying3 underlying55 (by exact qay (by omega) (by omega))) ?_
   refine Jp.y 41 rfl (qaa rfl) rfl rfl Kp.true (Y.shr rfl rfl rfl (by first | decide | omega)) ?_
   refine Jp.y 42 rfl (qaa rfl) rfl rfl Kp.true (Y.qap rfl rfl underlying24 underlying5 (by rfl)) ?_
   refine Jp.y 43 rfl (qaa rfl) rfl rfl Kp.true (Y.qar (q:=f * 258) rfl rfl rfl underlying57 sizeOf64 (by omega) (by omega) (by omega)) ?_
   refine Jp.slot 43 rfl (show _ = Value.pointer (some ⟨b1,f * 258,none⟩) by rw [qcs,Nat.zero_add]) ?_
   refine Jp.slot 42 rfl (show _ = Value.int .u8 ((UInt8.ofNat (v / 2 ^ (8 * k))).toNat : Int) from congrArg (Value.int .u8) (shr8 v k (by omega))) ?_
   refine Jp.slot 36 rfl (show _ = Value.int .i64 ((a % 256 + k : Nat) : Int) from congrArg (Value.int .i64) (by omega)) ?_
   refine Jp.y 44 rfl (qaa rfl) rfl rfl Kp.true (by exact Y.qad rfl rfl underlying64 rfl sizeOf62 (by decide) (show _ + 2 = _ from rfl)) ?_
   refine Jp.y 45 rfl (qaa rfl) rfl rfl Kp.true (Y.qcg (q:=f * 258 + (2 + (a % 256 + k))) rfl rfl rfl underlying62 sizeOf5 (by omega) (by omega) (by omega)) ?_
   refine Jp.storeS 1 (q:=f * 258 + (2 + (a % 256 + k))) rfl (qaa rfl) rfl rfl sizeOf5 rfl rfl rfl rfl (by rw [qcs,Nat.zero_add]) (by omega) ((PL (k + 1)).flatMap qbm) hset Kp.true ?_
   refine Jp.over rfl hK10 ?_
   refine Cd.qac [(0,false),(1,false),(2,false)] rfl rfl ?_
   refine Jp.y 25 rfl (qaa rfl) rfl rfl Kp.true (Y.move rfl rfl) ?_
   refine Jp.y 26 rfl (qaa rfl) rfl rfl Kp.true (Y.qbx rfl rfl rfl (by exact qag (by omega) (by omega))) ?_
   refine Jp.y 11 rfl (qaa rfl) rfl rfl Kp.true (Y.assign rfl rfl) ?_
   rw [show (k : Int) + 1 = ((k + 1 : Nat) : Int) by omega]
   refine Jp.again hLa (k + 1) (by omega) (by omega) rfl ⟨rfl,rfl,rfl,rfl,rfl,rfl,trivial⟩ ⟨rfl,rfl,rfl,trivial⟩
  ·have hkn : k = n:=by simp at ga; omega
   rw [hkn]
   rw [← hPl n]
   refine Cd.refClose (b:=b) (M:={ M with pages:=PL n }) (A:=some ⟨b1,0,none⟩) (c:=c) (B:=B) (d':=dg) (g:=gl) 0 1 2 (by decide) ⟨hPok n hn2,hf.gen⟩ rfl rfl rfl ?_
   refine Cd.exit rfl hK6 ?_
   refine Cd.seq fun K11 hK11=>?_
   refine Cd.qac [(0,false),(1,false),(2,false)] rfl rfl ?_
   refine Jp.y 46 rfl (qaa rfl) rfl rfl Kp.true (Y.move rfl rfl) ?_
   refine Jp.y 47 rfl (qaa rfl) rfl rfl Kp.true (Y.move rfl rfl) ?_
   refine Jp.call [0] [0] (refBump_spec b { M with pages:=PL n } a ha) 48 rfl (qaa rfl) rfl rfl (Runs.fn rfl call58 rfl) (by decide) (by decide) rfl trivial ?_
   rintro v1 ρ1 L1 ⟨rfl,rfl,rfl⟩
   refine ⟨rfl,fun hle1=>⟨Kp.true,?_⟩⟩
   refine Jp.qae hK11 ?_
   refine Cd.seq fun K12 hK12=>?_
   refine Cd.qac [(0,false)] rfl rfl ?_
   refine Jp.y 8 rfl (qaa rfl) rfl rfl Kp.true (Y.assign rfl rfl) ?_
   refine Jp.qae hK12 ?_
   refine Cd.ret [(0,_)] rfl (qba rfl rfl) ⟨rfl,trivial⟩ ⟨rfl,by rw [hV],by rw [hV,← hPs]⟩
end Go.Proofs.YthjelpbaljapiaaGreat

namespace Go.Proofs.YthjelpbaljapiaaGreat
open _root_.Go.Proofs.Tryz
open Go
theorem refx_spec (s : StP) (r : Nat) (hs : StOk s) (hr : r < 32) : Spec Tryz.prog 25 #[.agg s.cells.toArray,.int .i64 r] (fun _=>True) [] (fun ρ ρ' v L=>ρ' = ρ ∧ v = .int .u32 (regP s r : Int) ∧ L = []):=by
 refine Spec.of 11 Tryz.func25 rfl Tryz.ntmps25 [(0,_),(1,_)] rfl rfl ?_
 intro cx ρ hr' h0
 refine Cd.seq fun K1 hK1=>?_
 refine Cd.qac [(0,false),(1,false)] rfl rfl ?_
 refine Jp.box 1 2 rfl (qaa rfl) rfl rfl rfl rfl fun b1=>⟨Kp.true,?_⟩
 refine Jp.y 4 rfl (qaa rfl) rfl rfl Kp.true (Y.assign rfl rfl) ?_
 refine Jp.qae hK1 ?_
 refine Cd.seq fun K2 hK2=>?_
 refine Cd.seq fun K3 hK3=>?_
 refine Cd.qac [(0,false),(1,false)] rfl rfl ?_
 refine Jp.y 5 rfl (qaa rfl) rfl rfl Kp.true (Y.move rfl rfl) ?_
 refine Jp.y 6 rfl (qaa rfl) rfl rfl Kp.true (Y.eql rfl rfl rfl) ?_
 refine Jp.qae hK3 ?_
 refine Cd.qal rfl (fun g=>?_) (fun g=>?_)
 ·have hz : r = 0:=by simp at g; omega
  refine Cd.seq fun K4 hK4=>?_
  refine Cd.qac [(0,false)] rfl rfl ?_
  refine Jp.y 4 rfl (qaa rfl) rfl rfl Kp.true (Y.assign rfl rfl) ?_
  refine Jp.qae hK4 ?_
  refine Cd.ret [] rfl (qba rfl rfl) trivial ⟨rfl,by rw [hz]; rfl,rfl⟩
 ·have hr0 : r ≠ 0:=by simp at g; omega
  refine Cd.qbi hK2 ?_
  refine Cd.seq fun K5 hK5=>?_
  refine Cd.qac [(0,false),(1,false),(2,false),(3,false),(4,false)] rfl rfl ?_
  refine Jp.y 7 rfl (qaa rfl) rfl rfl Kp.true (Y.move rfl rfl) ?_
  refine Jp.y 8 rfl (qaa rfl) rfl rfl Kp.true (by exact Y.qad rfl rfl underlying27 rfl sizeOf25 (by decide) (show _ + 0 = _ from rfl)) ?_
  refine Jp.y 9 rfl (qaa rfl) rfl rfl Kp.true (Y.qcg (q:=r) rfl rfl rfl underlying25 sizeOf24 (by omega) (by omega) (by omega)) ?_
  refine Jp.y 10 rfl (qaa rfl) rfl rfl Kp.true (by exact Y.qbs 1 rfl isAgg24 rfl rfl (HasC.pt (StP.cX hs (regP_get hs hr hr0)))) ?_
  refine Jp.y 4 rfl (qaa rfl) rfl rfl Kp.true (Y.assign rfl rfl) ?_
  refine Jp.qae hK5 ?_
  refine Cd.ret [] rfl (qba rfl rfl) trivial ⟨rfl,rfl,rfl⟩
theorem refAddress_spec (i : InsP) (s : StP) (hs : StOk s) (hi : InsOk i) : Spec Tryz.prog 10 #[.agg i.cells.toArray,.agg s.cells.toArray] (fun _=>True) [] (fun ρ ρ' v L=>ρ' = ρ ∧ v = .int .u32 (addrP i s : Int) ∧ L = []):=by
 obtain ⟨op,rd,r1,r2,imm⟩:=i
 refine Spec.of 13 Tryz.func10 rfl Tryz.ntmps10 [(0,_),(1,_)] rfl rfl ?_
 intro cx ρ hr' h0
 have hsl:=StP.len hs
 refine Cd.seq fun K6 hK6=>?_
 refine Cd.qac [(0,false),(1,false),(2,false)] rfl rfl ?_
 refine Jp.box 2 2 rfl (qaa rfl) rfl rfl rfl rfl fun b2=>⟨Kp.true,?_⟩
 refine Jp.box 3 3 rfl (qaa rfl) rfl rfl rfl rfl fun b3=>⟨Kp.true,?_⟩
 refine Jp.y 4 rfl (qaa rfl) rfl rfl Kp.true (Y.assign rfl rfl) ?_
 refine Jp.qae hK6 ?_
 refine Cd.seq fun K7 hK7=>?_
 refine Cd.drawn [(2,_),(3,_)] ⟨rfl,rfl,trivial⟩ [(0,true),(1,true),(2,true),(4,true),(5,true),(6,true),(3,false),(7,true),(8,true)] follows (by kernel_rfl) (fun hrl=>?_)
 refine Jp.q 5 rfl (qaa rfl) rfl rfl (by exact Y.qai 3 rfl isAgg27 sizeOf27 rfl rfl (by first | rfl | assumption)) ?_
 refine Jp.q 6 rfl (qaa rfl) rfl rfl (by exact Y.qad rfl rfl underlying40 rfl sizeOf3 (by decide) (show _ + 2 = _ from rfl)) ?_
 refine Jp.q 7 rfl (qaa rfl) rfl rfl (by exact Y.qaq 2 rfl isAgg3 rfl rfl rfl) ?_
 refine Jp.q 9 rfl (qaa rfl) rfl rfl (by exact Y.qad rfl rfl underlying40 rfl sizeOf21 (by decide) (show _ + 4 = _ from rfl)) ?_
 refine Jp.q 10 rfl (qaa rfl) rfl rfl (by exact Y.qaq 2 rfl isAgg21 rfl rfl rfl) ?_
 refine Jp.q 11 rfl (qaa rfl) rfl rfl (Y.qap rfl rfl underlying21 underlying24 (by rfl)) ?_
 refine Jp.call [] [] (refx_spec s r1 hs hi.r1) 8 rfl (qaa rfl) rfl rfl (Runs.fn rfl call25 rfl) (by decide) (by decide) rfl trivial ?_
 rintro v1 ρ1 L1 ⟨rfl,rfl,rfl⟩
 refine ⟨rfl,fun hle1=>⟨(Kp.st ⟨rfl,rfl,trivial⟩),?_⟩⟩
 refine Jp.q 12 rfl (qaa rfl) rfl rfl (Y.qbx rfl rfl rfl (by rfl)) ?_
 refine Jp.q 4 rfl (qaa rfl) rfl rfl (Y.assign rfl rfl) ?_
 refine Jp.qae hK7 ?_
 refine Cd.ret [] rfl (qba rfl rfl) trivial ⟨rfl,by rw [qbb imm,qbb]; rfl,rfl⟩
theorem qgd (op : Nat) : Spec Tryz.prog 29 #[.int .i64 op] (fun _=>True) [] (fun ρ ρ' v L=>ρ' = ρ ∧ v = .tuple #[.int .i64 ((qbr op).1 : Int),.bool (qbr op).2] ∧ L = []):=by
 refine Spec.of 15 Tryz.func29 rfl Tryz.ntmps29 [(0,_)] rfl rfl ?_
 intro cx ρ hr' h0
 refine Cd.seq fun K9 hK9=>?_
 refine Cd.qac [(0,false),(1,false)] rfl rfl ?_
 refine Jp.y 2 rfl (qaa rfl) rfl rfl Kp.true (Y.assign rfl rfl) ?_
 refine Jp.y 3 rfl (qaa rfl) rfl rfl Kp.true (Y.assign rfl rfl) ?_
 refine Jp.qae hK9 ?_
 refine Cd.seq fun K10 hK10=>?_
 refine Cd.seq fun K11 hK11=>?_
 refine Cd.qac [(0,false)] rfl rfl ?_
 refine Jp.y 4 rfl (qaa rfl) rfl rfl Kp.true (Y.move rfl rfl) ?_
 refine Jp.qae hK11 ?_
 refine Cd.block ?_
 refine Cd.seq fun K12 hK12=>?_
 refine Cd.qac [(0,false),(1,false)] rfl rfl ?_
 refine Jp.y 6 rfl (qaa rfl) rfl rfl Kp.true (Y.eql rfl rfl rfl) ?_
 refine Jp.y 5 rfl (qaa rfl) rfl rfl Kp.true (Y.assign rfl rfl) ?_
 refine Jp.qae hK12 ?_
 refine Cd.qal rfl (fun g5=>?_) (fun g5=>?_)
 ·skip
  try simp only [sG0] at g5
  refine Cd.seq fun K13 hK13=>?_
  refine Cd.qac [(0,false),(1,false)] rfl rfl ?_
  refine Jp.y 2 rfl (qaa rfl) rfl rfl Kp.true (Y.assign rfl rfl) ?_
  refine Jp.y 3 rfl (qaa rfl) rfl rfl Kp.true (Y.assign rfl rfl) ?_
  refine Jp.qae hK13 ?_
  refine Cd.ret [] rfl (qbd rfl rfl rfl) trivial ⟨rfl,by (unfold qbr; repeat first | rfl | rw [if_pos (by omega)] | rw [if_neg (by omega)]),rfl⟩
 ·skip
  try simp only [sG0] at g5
  refine Cd.seq fun K14 hK14=>?_
  refine Cd.qac [(0,false),(1,false)] rfl rfl ?_
  refine Jp.y 8 rfl (qaa rfl) rfl rfl Kp.true (Y.eql rfl rfl rfl) ?_
  refine Jp.y 7 rfl (qaa rfl) rfl rfl Kp.true (Y.assign rfl rfl) ?_
  refine Jp.qae hK14 ?_
  refine Cd.qal rfl (fun g7=>?_) (fun g7=>?_)
  ·skip
   try simp only [sG0] at g7
   refine Cd.seq fun K15 hK15=>?_
   refine Cd.qac [(0,false),(1,false)] rfl rfl ?_
   refine Jp.y 2 rfl (qaa rfl) rfl rfl Kp.true (Y.assign rfl rfl) ?_
   refine Jp.y 3 rfl (qaa rfl) rfl rfl Kp.true (Y.assign rfl rfl) ?_
   refine Jp.qae hK15 ?_
   refine Cd.ret [] rfl (qbd rfl rfl rfl) trivial ⟨rfl,by (unfold qbr; repeat first | rfl | rw [if_pos (by omega)] | rw [if_neg (by omega)]),rfl⟩
  ·skip
   try simp only [sG0] at g7
   refine Cd.seq fun K16 hK16=>?_
   refine Cd.seq fun K17 hK17=>?_
   refine Cd.qac [(0,false),(1,false)] rfl rfl ?_
   refine Jp.y 10 rfl (qaa rfl) rfl rfl Kp.true (Y.eql rfl rfl rfl) ?_
   refine Jp.y 9 rfl (qaa rfl) rfl rfl Kp.true (Y.assign rfl rfl) ?_
   refine Jp.qae hK17 ?_
   refine Cd.qal rfl (fun g9=>?_) (fun g9=>?_)
   ·skip
    refine Cd.slot 9 rfl (show _ = Value.bool true from congrArg Value.bool g9) ?_
    try simp only [sG0] at g9
    refine Cd.qbi hK16 ?_
    refine Cd.qcw rfl ?_
    refine Cd.seq fun K18 hK18=>?_
    refine Cd.qac [(0,false),(1,false)] rfl rfl ?_
    refine Jp.y 2 rfl (qaa rfl) rfl rfl Kp.true (Y.assign rfl rfl) ?_
    refine Jp.y 3 rfl (qaa rfl) rfl rfl Kp.true (Y.assign rfl rfl) ?_
    refine Jp.qae hK18 ?_
    refine Cd.ret [] rfl (qbd rfl rfl rfl) trivial ⟨rfl,by (unfold qbr; repeat first | rfl | rw [if_pos (by omega)] | rw [if_neg (by omega)]),rfl⟩
   ·skip
    try simp only [sG0] at g9
    refine Cd.qac [(0,false),(1,false)] rfl rfl ?_
    refine Jp.y 11 rfl (qaa rfl) rfl rfl Kp.true (Y.eql rfl rfl rfl) ?_
    refine Jp.y 9 rfl (qaa rfl) rfl rfl Kp.true (Y.assign rfl rfl) ?_
    refine Jp.qae hK16 ?_
    refine Cd.qal rfl (fun g9=>?_) (fun g9=>?_)
    ·skip
     try simp only [sG0] at g9
     refine Cd.seq fun K19 hK19=>?_
     refine Cd.qac [(0,false),(1,false)] rfl rfl ?_
     refine Jp.y 2 rfl (qaa rfl) rfl rfl Kp.true (Y.assign rfl rfl) ?_
     refine Jp.y 3 rfl (qaa rfl) rfl rfl Kp.true (Y.assign rfl rfl) ?_
     refine Jp.qae hK19 ?_
     refine Cd.ret [] rfl (qbd rfl rfl rfl) trivial ⟨rfl,by (unfold qbr; repeat first | rfl | rw [if_pos (by omega)] | rw [if_neg (by omega)]),rfl⟩
    ·skip
     try simp only [sG0] at g9
     refine Cd.seq fun K20 hK20=>?_
     refine Cd.seq fun K21 hK21=>?_
     refine Cd.qac [(0,false),(1,false)] rfl rfl ?_
     refine Jp.y 13 rfl (qaa rfl) rfl rfl Kp.true (Y.eql rfl rfl rfl) ?_
     refine Jp.y 12 rfl (qaa rfl) rfl rfl Kp.true (Y.assign rfl rfl) ?_
     refine Jp.qae hK21 ?_
     refine Cd.qal rfl (fun g12=>?_) (fun g12=>?_)
     ·skip
      refine Cd.slot 12 rfl (show _ = Value.bool true from congrArg Value.bool g12) ?_
      try simp only [sG0] at g12
      refine Cd.qbi hK20 ?_
      refine Cd.qcw rfl ?_
      refine Cd.seq fun K22 hK22=>?_
      refine Cd.qac [(0,false),(1,false)] rfl rfl ?_
      refine Jp.y 2 rfl (qaa rfl) rfl rfl Kp.true (Y.assign rfl rfl) ?_
      refine Jp.y 3 rfl (qaa rfl) rfl rfl Kp.true (Y.assign rfl rfl) ?_
      refine Jp.qae hK22 ?_
      refine Cd.ret [] rfl (qbd rfl rfl rfl) trivial ⟨rfl,by (unfold qbr; repeat first | rfl | rw [if_pos (by omega)] | rw [if_neg (by omega)]),rfl⟩
     ·skip
      try simp only [sG0] at g12
      refine Cd.qac [(0,false),(1,false)] rfl rfl ?_
      refine Jp.y 14 rfl (qaa rfl) rfl rfl Kp.true (Y.eql rfl rfl rfl) ?_
      refine Jp.y 12 rfl (qaa rfl) rfl rfl Kp.true (Y.assign rfl rfl) ?_
      refine Jp.qae hK20 ?_
      refine Cd.qal rfl (fun g12=>?_) (fun g12=>?_)
      ·skip
       try simp only [sG0] at g12
       refine Cd.seq fun K23 hK23=>?_
       refine Cd.qac [(0,false),(1,false)] rfl rfl ?_
       refine Jp.y 2 rfl (qaa rfl) rfl rfl Kp.true (Y.assign rfl rfl) ?_
       refine Jp.y 3 rfl (qaa rfl) rfl rfl Kp.true (Y.assign rfl rfl) ?_
       refine Jp.qae hK23 ?_
       refine Cd.ret [] rfl (qbd rfl rfl rfl) trivial ⟨rfl,by (unfold qbr; repeat first | rfl | rw [if_pos (by omega)] | rw [if_neg (by omega)]),rfl⟩
      ·skip
       try simp only [sG0] at g12
       refine Cd.over rfl hK10 ?_
       refine Cd.seq fun K24 hK24=>?_
       refine Cd.qac [(0,false),(1,false)] rfl rfl ?_
       refine Jp.y 2 rfl (qaa rfl) rfl rfl Kp.true (Y.assign rfl rfl) ?_
       refine Jp.y 3 rfl (qaa rfl) rfl rfl Kp.true (Y.assign rfl rfl) ?_
       refine Jp.qae hK24 ?_
       refine Cd.ret [] rfl (qbd rfl rfl rfl) trivial ⟨rfl,by (unfold qbr; repeat first | rfl | rw [if_pos (by omega)] | rw [if_neg (by omega)]),rfl⟩
theorem refKind_spec (op : Nat) (h : 19 ≤ op ∧ op ≤ 45) : Spec Tryz.prog 32 #[.int .i64 op] (fun _=>True) [] (fun ρ ρ' v L=>ρ' = ρ ∧ v = .tuple #[.int .i64 (kindA op : Int),.bool true] ∧ L = []):=by
 refine Spec.of 15 Tryz.func32 rfl Tryz.ntmps32 [(0,_)] rfl rfl ?_
 intro cx ρ hr' h0
 have hidx : ([Value.int .i64 0,Value.int .i64 3,Value.int .i64 4,Value.int .i64 5,Value.int .i64 8,Value.int .i64 9,Value.int .i64 2,Value.int .i64 6,Value.int .i64 7,Value.int .i64 0,Value.int .i64 1,Value.int .i64 2,Value.int .i64 3,Value.int .i64 4,Value.int .i64 5,Value.int .i64 6,Value.int .i64 7,Value.int .i64 8,Value.int .i64 9,Value.int .i64 10,Value.int .i64 11,Value.int .i64 12,Value.int .i64 13,Value.int .i64 14,Value.int .i64 15,Value.int .i64 16,Value.int .i64 17] : List Value)[op - 19]? = some (.int .i64 (kindA op : Int)):=by
  rcases (show op = 19 ∨ op = 20 ∨ op = 21 ∨ op = 22 ∨ op = 23 ∨ op = 24 ∨ op = 25 ∨ op = 26 ∨ op = 27 ∨ op = 28 ∨ op = 29 ∨ op = 30 ∨ op = 31 ∨ op = 32 ∨ op = 33 ∨ op = 34 ∨ op = 35 ∨ op = 36 ∨ op = 37 ∨ op = 38 ∨ op = 39 ∨ op = 40 ∨ op = 41 ∨ op = 42 ∨ op = 43 ∨ op = 44 ∨ op = 45 by omega) with
   rfl | rfl | rfl | rfl | rfl | rfl | rfl | rfl | rfl | rfl | rfl | rfl | rfl | rfl | rfl | rfl | rfl | rfl | rfl | rfl | rfl | rfl | rfl | rfl | rfl | rfl | rfl <;> rfl
 refine Cd.seq fun K25 hK25=>?_
 refine Cd.qac [(0,false),(1,false)] rfl rfl ?_
 refine Jp.y 2 rfl (qaa rfl) rfl rfl Kp.true (Y.assign rfl rfl) ?_
 refine Jp.y 3 rfl (qaa rfl) rfl rfl Kp.true (Y.assign rfl rfl) ?_
 refine Jp.qae hK25 ?_
 refine Cd.seq fun K26 hK26=>?_
 refine Cd.seq fun K27 hK27=>?_
 refine Cd.qac [(0,false),(1,false),(2,false),(3,false),(4,false),(5,false)] rfl rfl ?_
 refine Jp.y 4 rfl (qaa rfl) rfl rfl Kp.true (Y.move rfl rfl) ?_
 refine Jp.y 5 rfl (qaa rfl) rfl rfl Kp.true (Y.lss rfl rfl rfl) ?_
 refine Jp.y 6 rfl (qaa rfl) rfl rfl Kp.true (Y.move rfl rfl) ?_
 refine Jp.split 6 rfl (fun g6=>?_) (fun g6=>?_)
 ·skip
  simp only [decide_eq_true_eq] at g6
  exfalso
  omega
 try simp only [sG0] at g6
 refine Jp.y 7 rfl (qab rfl rfl rfl rfl) rfl rfl Kp.true (Y.move rfl rfl) ?_
 refine Jp.y 8 rfl (qab rfl rfl rfl rfl) rfl rfl Kp.true (Y.gtr rfl rfl rfl) ?_
 refine Jp.y 9 rfl (qaa rfl) rfl rfl Kp.true (Y.qao rfl rfl rfl) ?_
 refine Jp.qae hK27 ?_
 refine Cd.qal rfl (fun g9=>?_) (fun g9=>?_)
 ·skip
  simp only [decide_eq_true_eq] at g9
  exfalso
  omega
 try simp only [sG0] at g9
 refine Cd.qbi hK26 ?_
 refine Cd.seq fun K28 hK28=>?_
 refine Cd.qac [(0,false),(1,false),(2,false),(3,false),(4,false),(5,false),(6,false)] rfl rfl ?_
 refine Jp.lit 10 0 [(0,_),(1,_),(2,_),(3,_),(4,_),(5,_),(6,_),(7,_),(8,_),(9,_),(10,_),(11,_),(12,_),(13,_),(14,_),(15,_),(16,_),(17,_),(18,_),(19,_),(20,_),(21,_),(22,_),(23,_),(24,_),(25,_),(26,_)] [_,_,_,_,_,_,_,_,_,_,_,_,_,_,_,_,_,_,_,_,_,_,_,_,_,_,_] rfl (qaa rfl) rfl rfl rfl rfl underlying76 sizeOf3 zeroValue3 rfl rfl rfl rfl rfl fun b0=>⟨Kp.true,?_⟩
 refine Jp.y 11 rfl (qaa rfl) rfl rfl Kp.true (Y.move rfl rfl) ?_
 refine Jp.y 12 rfl (qaa rfl) rfl rfl Kp.true (Y.qdo rfl rfl rfl (by exact qag (by omega) (by omega))) ?_
 refine Jp.y 13 rfl (qaa rfl) rfl rfl Kp.true (Y.qar (q:=op - 19) rfl rfl rfl underlying76 sizeOf3 (by omega) (by omega) (by omega)) ?_
 refine Jp.y 14 rfl (qaa rfl) rfl rfl Kp.true (Y.qdd 0 (q:=op - 19) rfl isAgg3 rfl rfl rfl hidx) ?_
 refine Jp.y 2 rfl (qaa rfl) rfl rfl Kp.true (Y.assign rfl rfl) ?_
 refine Jp.y 3 rfl (qaa rfl) rfl rfl Kp.true (Y.assign rfl rfl) ?_
 refine Jp.qae hK28 ?_
 refine Cd.ret [] rfl (qbd rfl rfl rfl) trivial ⟨rfl,rfl,rfl⟩
theorem qcm {s : StP} {x : List Nat} {to : Nat} (h : x.length = 32) : (qem s x to).cells.length = 34:=by simp [qem,StP.cells,qbp,h]
theorem set_spec (s : StP) (r v to : Nat) (hs : StOk s) (hr : r < 32) : Spec Tryz.prog 27 #[.agg s.cells.toArray,.int .i64 r,.int .u32 v,.int .u32 to] (fun _=>True) []
  (fun ρ ρ' w L=>ρ' = ρ ∧ w = .agg (qem s (s.x.set r v) to).cells.toArray ∧ L = []):=by
 refine Spec.of 22 Tryz.func27 rfl Tryz.ntmps27 [(0,_),(1,_),(2,_),(3,_)] rfl rfl ?_
 intro cx ρ hr' h0
 have hsl:=StP.len hs
 have hso:=StP.one s
 obtain ⟨sx,spc,sret⟩:=s
 have hx32 : sx.length = 32:=hs.len
 have hrt:=hs.ret
 dsimp only at hrt
 refine Cd.seq fun K29 hK29=>?_
 refine Cd.qac [(0,false),(1,false)] rfl rfl ?_
 refine Jp.box 1 4 rfl (qaa rfl) rfl rfl rfl rfl fun b1=>⟨Kp.true,?_⟩
 refine Jp.alloc 2 8 rfl (qaa rfl) rfl rfl rfl zeroValue27 fun b2=>⟨Kp.true,?_⟩
 refine Jp.qae hK29 ?_
 refine Cd.seq fun K30 hK30=>?_
 refine Cd.qac [(0,false),(1,false),(2,false),(3,false),(4,false)] rfl rfl ?_
 refine Jp.y 9 rfl (qaa rfl) rfl rfl Kp.true (Y.move rfl rfl) ?_
 refine Jp.y 10 rfl (qaa rfl) rfl rfl Kp.true (Y.move rfl rfl) ?_
 refine Jp.y 11 rfl (qaa rfl) rfl rfl Kp.true (by exact Y.qad rfl rfl underlying27 rfl sizeOf25 (by decide) (show _ + 0 = _ from rfl)) ?_
 refine Jp.y 12 rfl (qaa rfl) rfl rfl Kp.true (Y.qcg (q:=r) rfl rfl rfl underlying25 sizeOf24 (by omega) (by omega) (by omega)) ?_
 refine Jp.qen 1 (Pt b1 (.cells (StP.cells ⟨sx.set r v,spc,sret⟩).toArray 27)) rfl (qaa rfl) rfl rfl sizeOf24 rfl rfl rfl rfl rfl (SetC.st hx32 hr v) Kp.true ?_
 have hxl1 : (sx.set r v).length = 32:=by rw [List.length_set]; exact hx32
 refine Jp.qae hK30 ?_
 refine Cd.seq fun K31 hK31=>?_
 refine Cd.qac [(0,false),(1,false),(2,false)] rfl rfl ?_
 refine Jp.y 13 rfl (qaa rfl) rfl rfl Kp.true (by exact Y.qad rfl rfl underlying27 rfl sizeOf25 (by decide) (show _ + 0 = _ from rfl)) ?_
 refine Jp.y 14 rfl (qaa rfl) rfl rfl Kp.true (Y.qcg rfl rfl rfl underlying25 sizeOf24 (by first | decide | omega) (by first | decide | omega) rfl) ?_
 refine Jp.qen 1 (Pt b1 (.cells (StP.cells ⟨(sx.set r v).set 0 0,spc,sret⟩).toArray 27)) rfl (qaa rfl) rfl rfl sizeOf24 rfl rfl rfl rfl rfl (SetC.st hxl1 (by omega) 0) Kp.true ?_
 have hxl2 : ((sx.set r v).set 0 0).length = 32:=by rw [List.length_set]; exact hxl1
 refine Jp.qae hK31 ?_
 refine Cd.seq fun K32 hK32=>?_
 refine Cd.qac [(0,false),(1,false),(2,false)] rfl rfl ?_
 refine Jp.y 15 rfl (qaa rfl) rfl rfl Kp.true (Y.move rfl rfl) ?_
 refine Jp.y 16 rfl (qaa rfl) rfl rfl Kp.true (by exact Y.qad rfl rfl underlying27 rfl sizeOf24 (by decide) (show _ + 32 = _ from rfl)) ?_
 refine Jp.qen 1 (Pt b1 (.cells (StP.cells ⟨(sx.set r v).set 0 0,to,sret⟩).toArray 27)) rfl (qaa rfl) rfl rfl sizeOf24 rfl rfl rfl rfl rfl (SetC.stPc hxl2 to) Kp.true ?_
 refine Jp.qae hK32 ?_
 refine Cd.seq fun K33 hK33=>?_
 refine Cd.qac [(0,false),(1,false),(2,false),(3,false),(4,false)] rfl rfl ?_
 refine Jp.y 17 rfl (qaa rfl) rfl rfl Kp.true (by exact Y.qad rfl rfl underlying27 rfl sizeOf2 (by decide) (show _ + 33 = _ from rfl)) ?_
 refine Jp.y 18 rfl (qaa rfl) rfl rfl Kp.true (by exact Y.qbs 1 rfl isAgg2 rfl rfl (HasC.stRet hxl2)) ?_
 refine Jp.y 19 rfl (qaa rfl) rfl rfl Kp.true (Y.qbx rfl rfl rfl (by exact qag (by omega) (by omega))) ?_
 refine Jp.y 20 rfl (qaa rfl) rfl rfl Kp.true (by exact Y.qad rfl rfl underlying27 rfl sizeOf2 (by decide) (show _ + 33 = _ from rfl)) ?_
 refine Jp.qen 1 (Pt b1 (.cells (StP.cells ⟨(sx.set r v).set 0 0,to,sret + 1⟩).toArray 27)) rfl (qaa rfl) rfl rfl sizeOf2 rfl rfl rfl rfl rfl (SetC.stRet hxl2 _) Kp.true ?_
 have hol : (StP.cells ⟨(sx.set r v).set 0 0,to,sret + 1⟩).length = 34:=by simp [StP.cells,qbp,hx32]
 have hoo:=StP.one ⟨(sx.set r v).set 0 0,to,sret + 1⟩
 refine Jp.qae hK33 ?_
 refine Cd.seq fun K34 hK34=>?_
 refine Cd.qac [(0,false),(1,false)] rfl rfl ?_
 refine Jp.y 21 rfl (qaa rfl) rfl rfl Kp.true (by exact Y.qai 1 rfl isAgg27 sizeOf27 rfl rfl (by first | rfl | assumption)) ?_
 refine Jp.qaf 2 rfl (qaa rfl) rfl rfl sizeOf27 rfl rfl (by first | rfl | assumption) (by first | rfl | assumption) rfl (by first | rfl | assumption) (fun k _ _=>qam k) Kp.true ?_
 refine Jp.qae hK34 ?_
 refine Cd.ret [] rfl (by exact qcx 2 rfl rfl isAgg27 sizeOf27 rfl (by first | rfl | assumption)) trivial ⟨rfl,rfl,rfl⟩
end Go.Proofs.YthjelpbaljapiaaGreat

namespace Go.Proofs.YthjelpbaljapiaaGreat
open Go
def qcz (l : List Int) : qbt:=l.flatMap fun x=>leB x.toNat 4
theorem wordsB_len (l : List Int) : (qcz l).length = 4 * l.length:=by
 induction l with
 | nil=>rfl
 | cons x l ih =>
  have : qcz (x :: l) = leB x.toNat 4 ++ qcz l:=rfl
  rw [this,List.length_append,ih,qdg,List.length_cons]; omega
theorem wordsB_snoc {xs : List Int} {i m : Nat} (hi : i < xs.length) (hm : xs[i] = (m : Int)) : qcz (xs.take (i + 1)) = qcz (xs.take i) ++ leB m 4:=by
 rw [← List.take_append_getElem hi,hm]
 unfold qcz
 rw [List.flatMap_append]
 simp
def map3 : MemG:=(mapM (mapM (mapM (newM 50) 4096 256 5).2 65536 256 3).2 65792 256 1).2
def madeM (xs : List Int) : MemG:=(qde (qde map3 4096 (qcz (xs.take 64)) 65536 0).2 65536 [] 65536 0).2
end Go.Proofs.YthjelpbaljapiaaGreat

namespace Go.Proofs.YthjelpbaljapiaaGreat
open Go
def atP (pc k : Nat) : Nat:=(pc + 4 * k) % 4294967296
def findL (M : MemG) (pc : Nat) : Nat → Nat → List InsP
 | 0,_=>[]
 | n + 1,k=>if atP pc k / 256 = pc / 256 ∧ (qbw M (atP pc k)).2.kind = 0 then (qbw M (atP pc k)).1 :: (if endsP (qbw M (atP pc k)).1.op then [] else findL M pc n (k + 1)) else []
def mostP (most : Int) : Nat:=(min (max most 1) 64).toNat
def blockC (pc : Nat) (B : Option Addr) (l d gen : Nat) : List Value:=[.int .u32 (pc : Int),.slice B l d,.int .u32 (gen : Int)]
end Go.Proofs.YthjelpbaljapiaaGreat

namespace Go.Proofs.YthjelpbaljapiaaGreat
open Go
theorem fetchP_al {M : MemG} {a : Nat} (h : (qbw M a).2.kind = 0) : a % 4 = 0:=by
 unfold qbw at h
 split at h
 ·rename_i h1
  unfold qbv at h1
  split at h1
  ·rename_i h2
   unfold qbk at h2
   split at h2
   ·exact absurd h2 (by decide)
   ·rename_i h3
    simp [qch] at h3
    omega
  ·rename_i h2
   exact absurd h1 h2
 ·exact absurd h (by simp)
end Go.Proofs.YthjelpbaljapiaaGreat
