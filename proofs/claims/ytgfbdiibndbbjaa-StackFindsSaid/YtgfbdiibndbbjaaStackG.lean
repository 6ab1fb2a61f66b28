/- Contract: Lay. -/
import Derived.Test.YtgfbdiibndbbjaaStackC
import Derived.Test.YtgfbdiibndbbjaaMemP
set_option linter.unusedVariables false
set_option linter.unusedSimpArgs false
set_option maxRecDepth 100000
namespace Go.Proofs.Ytgfbdiibndbbjaa
open Go
structure Laid where
  sp : Nat
  places : List (Nat × Nat)
  err : Int
  mem : MemG
def layM (M : MemG) (l : List Bytes) : Laid :=
  if (buildP l).err = 0 then
    (if (mapM M 2147475456 4096 3).1 = 0 then
      (if (writeM (mapM M 2147475456 4096 3).2 2147475456 (buildP l).page 65536 0).1 = 0 then ⟨(buildP l).sp, (buildP l).places, 0, (writeM (mapM M 2147475456 4096 3).2 2147475456 (buildP l).page 65536 0).2⟩
       else ⟨0, [], (writeM (mapM M 2147475456 4096 3).2 2147475456 (buildP l).page 65536 0).1, (writeM (mapM M 2147475456 4096 3).2 2147475456 (buildP l).page 65536 0).2⟩)
     else ⟨0, [], (mapM M 2147475456 4096 3).1, (mapM M 2147475456 4096 3).2⟩)
  else ⟨0, [], (buildP l).err, M⟩
theorem lay_spec (b : Nat) (M : MemG) (s : Sl ByteArray) (hn : s.xs.length ≤ 20) (hs : ∀ a ∈ s.xs, a.size ≤ 400) : Spec Try.prog 28 #[.pointer (some ⟨b, 0, none⟩), s.v] (RdStr s) [(0, MemO b M)]
    (fun ρ ρ' v L => ∃ A c, v = .tuple #[.int .u32 ((layM M (s.xs.map str)).sp : Int), .slice A (layM M (s.xs.map str)).places.length c, .int .i64 (layM M (s.xs.map str)).err] ∧ L = [(0, MemO b (layM M (s.xs.map str)).mem), (1, OwnS 32 2 A (layM M (s.xs.map str)).places.length c (placesV (layM M (s.xs.map str)).places))]) := by
  refine Spec.of 36 Try.func28 rfl Try.ntmps28 [(0, _), (1, _)] rfl rfl ?_
  intro cx ρ hr h0
  refine Cd.seq fun K1 hK1 => ?_
  refine Cd.plain [(0, false), (1, false), (2, false)] rfl rfl ?_
  refine Jp.y 4 rfl (want_all rfl) rfl rfl Kp.true (Y.assign rfl rfl) ?_
  refine Jp.y 5 rfl (want_all rfl) rfl rfl Kp.true (Y.assign rfl rfl) ?_
  refine Jp.y 6 rfl (want_all rfl) rfl rfl Kp.true (Y.assign rfl rfl) ?_
  refine Jp.done hK1 ?_
  refine Cd.seq fun K2 hK2 => ?_
  refine Cd.plain [(0, false), (1, false), (2, false), (3, false), (4, false), (5, false), (6, false), (7, false), (8, false), (9, false), (10, false)] rfl rfl ?_
  refine Jp.y 14 rfl (want_all rfl) rfl rfl Kp.true (Y.move rfl rfl) ?_
  refine Jp.call [] [3, 1] (f17_spec s hn hs) 15 rfl (want_all rfl) rfl rfl (Runs.fn rfl Try.call17 rfl) (by decide) (by decide) rfl hr ?_
  rintro v1 ρ1 L1 ⟨rfl, A, c, B, d, q, hq, rfl, rfl⟩
  refine ⟨rfl, fun hle1 => ⟨Kp.true, ?_⟩⟩
  have hr := RdStr.up _ _ _ hle1 hr
  refine Jp.y 13 rfl (want_all rfl) rfl rfl Kp.true (Y.move rfl rfl) ?_
  refine Jp.y 16 rfl (want_all rfl) rfl rfl Kp.true (Y.extract rfl rfl rfl) ?_
  refine Jp.y 17 rfl (want_all rfl) rfl rfl Kp.true (Y.extract rfl rfl rfl) ?_
  refine Jp.y 18 rfl (want_all rfl) rfl rfl Kp.true (Y.extract rfl rfl rfl) ?_
  refine Jp.y 19 rfl (want_all rfl) rfl rfl Kp.true (Y.extract rfl rfl rfl) ?_
  refine Jp.y 7 rfl (want_all rfl) rfl rfl Kp.true (Y.assign rfl rfl) ?_
  refine Jp.y 8 rfl (want_all rfl) rfl rfl Kp.true (Y.assign rfl rfl) ?_
  refine Jp.y 9 rfl (want_all rfl) rfl rfl Kp.true (Y.assign rfl rfl) ?_
  refine Jp.y 10 rfl (want_all rfl) rfl rfl Kp.true (Y.assign rfl rfl) ?_
  refine Jp.done hK2 ?_
  refine Cd.seq fun K3 hK3 => ?_
  refine Cd.seq fun K4 hK4 => ?_
  refine Cd.plain [(0, false), (1, false)] rfl rfl ?_
  refine Jp.y 20 rfl (want_all rfl) rfl rfl Kp.true (Y.move rfl rfl) ?_
  refine Jp.y 21 rfl (want_all rfl) rfl rfl Kp.true (Y.neq rfl rfl rfl) ?_
  refine Jp.done hK4 ?_
  refine Cd.cond rfl (fun h1 => ?_) (fun h1 => ?_)
  · have h1 : (q.err : Int) ≠ 0 := by simpa using h1
    have hL : layM M (s.xs.map str) = ⟨0, [], q.err, M⟩ := by rw [layM, hq, if_neg (by omega)]
    refine Cd.make 1 (A := OwnS 32 2 none 0 0 (placesV [])) (OwnS.nil _ _ _) ?_
    refine Cd.seq fun K5 hK5 => ?_
    refine Cd.plain [(0, false), (1, false), (2, false), (3, false)] rfl rfl ?_
    refine Jp.y 22 rfl (want_all rfl) rfl rfl Kp.true (Y.move rfl rfl) ?_
    refine Jp.y 4 rfl (want_all rfl) rfl rfl Kp.true (Y.assign rfl rfl) ?_
    refine Jp.y 5 rfl (want_all rfl) rfl rfl Kp.true (Y.assign rfl rfl) ?_
    refine Jp.y 6 rfl (want_all rfl) rfl rfl Kp.true (Y.assign rfl rfl) ?_
    refine Jp.done hK5 ?_
    refine Cd.ret [(0, _), (1, _)] rfl (res3 rfl rfl rfl rfl) ⟨rfl, rfl, trivial⟩ ⟨none, 0, by rw [hL]; rfl, by rw [hL]; rfl⟩
  · have h1 : (q.err : Int) = 0 := by simpa using h1
    refine Cd.skip hK3 ?_
    refine Cd.seq fun K6 hK6 => ?_
    refine Cd.seq fun K7 hK7 => ?_
    refine Cd.plain [(0, false), (1, false), (2, false)] rfl rfl ?_
    refine Jp.y 23 rfl (want_all rfl) rfl rfl Kp.true (Y.move rfl rfl) ?_
    refine Jp.call [0] [0] (map_eq (M := M) (a := 2147475456) (n := 4096) (perm := 3) (by omega) (by omega) rfl rfl) 24 rfl (want_all rfl) rfl rfl (Runs.fn rfl Try.call20 rfl) (by decide) (by decide) rfl trivial ?_
    rintro v2 ρ2 L2 ⟨rfl, rfl, rfl⟩
    refine ⟨rfl, fun hle2 => ⟨Kp.true, ?_⟩⟩
    refine Jp.y 11 rfl (want_all rfl) rfl rfl Kp.true (Y.assign rfl rfl) ?_
    refine Jp.done hK7 ?_
    refine Cd.seq fun K8 hK8 => ?_
    refine Cd.plain [(0, false), (1, false)] rfl rfl ?_
    refine Jp.y 25 rfl (want_all rfl) rfl rfl Kp.true (Y.move rfl rfl) ?_
    refine Jp.y 26 rfl (want_all rfl) rfl rfl Kp.true (Y.neq rfl rfl rfl) ?_
    refine Jp.done hK8 ?_
    refine Cd.cond rfl (fun h2 => ?_) (fun h2 => ?_)
    · have h2 : (mapM M 2147475456 4096 3).1 ≠ 0 := by simpa using h2
      have hL : layM M (s.xs.map str) = ⟨0, [], (mapM M 2147475456 4096 3).1, (mapM M 2147475456 4096 3).2⟩ := by rw [layM, hq, if_pos (by omega), if_neg h2]
      refine Cd.make 1 (A := OwnS 32 2 none 0 0 (placesV [])) (OwnS.nil _ _ _) ?_
      refine Cd.seq fun K9 hK9 => ?_
      refine Cd.plain [(0, false), (1, false), (2, false), (3, false)] rfl rfl ?_
      refine Jp.y 27 rfl (want_all rfl) rfl rfl Kp.true (Y.move rfl rfl) ?_
      refine Jp.y 4 rfl (want_all rfl) rfl rfl Kp.true (Y.assign rfl rfl) ?_
      refine Jp.y 5 rfl (want_all rfl) rfl rfl Kp.true (Y.assign rfl rfl) ?_
      refine Jp.y 6 rfl (want_all rfl) rfl rfl Kp.true (Y.assign rfl rfl) ?_
      refine Jp.done hK9 ?_
      refine Cd.ret [(0, _), (1, _)] rfl (res3 rfl rfl rfl rfl) ⟨rfl, rfl, trivial⟩ ⟨none, 0, by rw [hL]; rfl, by rw [hL]; rfl⟩
    · have h2 : (mapM M 2147475456 4096 3).1 = 0 := by simpa using h2
      refine Cd.freeze (i := 3) rfl (OwnS.up _ _ _ _ _ _) fun ρ5 l5 q5 => ?_
      refine Cd.skip hK6 ?_
      refine Cd.seq fun K10 hK10 => ?_
      refine Cd.seq fun K11 hK11 => ?_
      refine Cd.plain [(0, false), (1, false), (2, false), (3, false)] rfl rfl ?_
      refine Jp.y 28 rfl (want_all rfl) rfl rfl Kp.true (Y.move rfl rfl) ?_
      refine Jp.y 29 rfl (want_all rfl) rfl rfl Kp.true (Y.move rfl rfl) ?_
      refine Jp.call [0] [0] (poke_eq (M := (mapM M 2147475456 4096 3).2) (a := 2147475456) (s := ⟨A, c, q.page⟩) (e := (writeM (mapM M 2147475456 4096 3).2 2147475456 q.page 65536 0).1) (M' := (writeM (mapM M 2147475456 4096 3).2 2147475456 q.page 65536 0).2) (by omega) (Prod.ext rfl rfl)) 30 rfl (want_all rfl) rfl rfl (Runs.fn rfl Try.call34 rfl) (by decide) (by decide) rfl q5.rd ?_
      rintro v3 ρ3 L3 ⟨rfl, rfl, rfl⟩
      refine ⟨rfl, fun hle3 => ⟨Kp.true, ?_⟩⟩
      refine Jp.y 12 rfl (want_all rfl) rfl rfl Kp.true (Y.assign rfl rfl) ?_
      refine Jp.done hK11 ?_
      refine Cd.seq fun K12 hK12 => ?_
      refine Cd.plain [(0, false), (1, false)] rfl rfl ?_
      refine Jp.y 31 rfl (want_all rfl) rfl rfl Kp.true (Y.move rfl rfl) ?_
      refine Jp.y 32 rfl (want_all rfl) rfl rfl Kp.true (Y.neq rfl rfl rfl) ?_
      refine Jp.done hK12 ?_
      refine Cd.cond rfl (fun h3 => ?_) (fun h3 => ?_)
      · have h3 : (writeM (mapM M 2147475456 4096 3).2 2147475456 q.page 65536 0).1 ≠ 0 := by simpa using h3
        have hL : layM M (s.xs.map str) = ⟨0, [], (writeM (mapM M 2147475456 4096 3).2 2147475456 q.page 65536 0).1, (writeM (mapM M 2147475456 4096 3).2 2147475456 q.page 65536 0).2⟩ := by rw [layM, hq, if_pos (by omega), if_pos h2, if_neg h3]
        refine Cd.make 1 (A := OwnS 32 2 none 0 0 (placesV [])) (OwnS.nil _ _ _) ?_
        refine Cd.seq fun K13 hK13 => ?_
        refine Cd.plain [(0, false), (1, false), (2, false), (3, false)] rfl rfl ?_
        refine Jp.y 33 rfl (want_all rfl) rfl rfl Kp.true (Y.move rfl rfl) ?_
        refine Jp.y 4 rfl (want_all rfl) rfl rfl Kp.true (Y.assign rfl rfl) ?_
        refine Jp.y 5 rfl (want_all rfl) rfl rfl Kp.true (Y.assign rfl rfl) ?_
        refine Jp.y 6 rfl (want_all rfl) rfl rfl Kp.true (Y.assign rfl rfl) ?_
        refine Jp.done hK13 ?_
        refine Cd.ret [(0, _), (1, _)] rfl (res3 rfl rfl rfl rfl) ⟨rfl, rfl, trivial⟩ ⟨none, 0, by rw [hL]; rfl, by rw [hL]; rfl⟩
      · have h3 : (writeM (mapM M 2147475456 4096 3).2 2147475456 q.page 65536 0).1 = 0 := by simpa using h3
        have hL : layM M (s.xs.map str) = ⟨q.sp, q.places, 0, (writeM (mapM M 2147475456 4096 3).2 2147475456 q.page 65536 0).2⟩ := by rw [layM, hq, if_pos (by omega), if_pos h2, if_pos h3]
        refine Cd.skip hK10 ?_
        refine Cd.seq fun K14 hK14 => ?_
        refine Cd.plain [(0, false), (1, false), (2, false), (3, false), (4, false)] rfl rfl ?_
        refine Jp.y 34 rfl (want_all rfl) rfl rfl Kp.true (Y.move rfl rfl) ?_
        refine Jp.y 35 rfl (want_all rfl) rfl rfl Kp.true (Y.move rfl rfl) ?_
        refine Jp.y 4 rfl (want_all rfl) rfl rfl Kp.true (Y.assign rfl rfl) ?_
        refine Jp.y 5 rfl (want_all rfl) rfl rfl Kp.true (Y.assign rfl rfl) ?_
        refine Jp.y 6 rfl (want_all rfl) rfl rfl Kp.true (Y.assign rfl rfl) ?_
        refine Jp.done hK14 ?_
        refine Cd.ret [(0, _), (1, _)] rfl (res3 rfl rfl rfl rfl) ⟨rfl, rfl, trivial⟩ ⟨B, d, by rw [hL], by rw [hL]⟩
end Go.Proofs.Ytgfbdiibndbbjaa
