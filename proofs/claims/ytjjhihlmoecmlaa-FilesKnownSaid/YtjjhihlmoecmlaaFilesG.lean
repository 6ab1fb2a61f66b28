/- Law 11: FilesSeeks. -/
import Derived.Test.YtjjhihlmoecmlaaFilesF
set_option linter.unusedVariables false
set_option linter.unusedSimpArgs false
set_option maxRecDepth 100000
namespace Go.Proofs.Ytjjhihlmoecmlaa
open Go
/-- A feed of short answers and one file. -/
def FeedG.ofFile (sh : Sl Int) (b : Nat) (name : ByteArray) (s : Sl UInt8) : FeedG := ⟨⟨none, 0, []⟩, ⟨none, 0, []⟩, sh, ⟨none, 0, []⟩, ⟨none, 0, []⟩, ⟨some ⟨b, 0, none⟩, 1, [⟨name, s⟩]⟩⟩
theorem RdFeed.ofFile {sh : Sl Int} {b : Nat} {name : ByteArray} {s : Sl UInt8} {h : Hp} (r0 : RdI .i64 sh h) (r1 : RdS 2 (some ⟨b, 0, none⟩) 1 1 [.string name, s.v] h) (r2 : RdB s h) : RdFeed (FeedG.ofFile sh b name s) h :=
  ⟨RdS.nil 1 h, RdS.nil 1 h, r0, RdS.nil 1 h, RdS.nil 1 h, ⟨r1, fun f hf => by
    have hf : f ∈ [FileG.mk name s] := hf
    rw [List.mem_singleton] at hf; subst hf; exact r2⟩⟩
def oneP (sh : List Int) (name data : Bytes) : FilesP := { all := [(name, data)], use := ⟨sh, [], [], 0, 0, 0⟩, op := [(0, ⟨[], 0, false⟩), (1, ⟨[], 0, true⟩), (2, ⟨[], 0, true⟩)], out := [] }
theorem newP_one {sh : List Int} {name data : Bytes} (h1 : ∀ x ∈ sh, 0 ≤ x ∧ x ≤ 4096) (h2 : sh.length ≤ 64) (hn : name ≠ []) (hn2 : name.length ≤ 40) (hn3 : name.contains 0 = false) (hd : data.length ≤ 4096) : newFP ⟨[], [], sh, [], [], [(name, data)]⟩ = oneP sh name data := by
  have hg : good ⟨[], [], sh, [], [], [(name, data)]⟩ = true := by
    have h3 : (sh.all goodShort) = true := List.all_eq_true.2 fun x hx => by simp [goodShort, h1 x hx]
    have h4 : name.isEmpty = false := by cases name <;> simp at hn ⊢
    simp [good, h3, h2, goodArgs, goodFiles, okAt, goodFile, h4, hn2, hd]
    simpa using hn3
  rw [newFP, beginP, hg]; rfl
theorem open_one (sh : List Int) (name data : Bytes) : openFP (oneP sh name data) name = (3, { oneP sh name data with op := [(0, ⟨[], 0, false⟩), (1, ⟨[], 0, true⟩), (2, ⟨[], 0, true⟩), (3, ⟨data, 0, false⟩)] }) := by
  have h : (oneP sh name data).all.find? (fun x => x.1 == name) = some (name, data) := by simp [oneP]
  have hl : (oneP sh name data).op.length < 16 := by simp [oneP]
  rw [openP_some h hl]; rfl
/-- The files with one more, at a place. -/
def withP (sh : List Int) (name data : Bytes) (k : Nat) (a : Nat) : FilesP := { all := [(name, data)], use := ⟨sh, [], [], k, 0, 0⟩, op := [(0, ⟨[], 0, false⟩), (1, ⟨[], 0, true⟩), (2, ⟨[], 0, true⟩), (3, ⟨data, a, false⟩)], out := [] }
theorem seek_with {sh : List Int} {name data : Bytes} {k a : Nat} {off wh : Int} (h : 0 ≤ wh ∧ wh ≤ 2) {r : Int} (hr : seekAt ⟨data, a, false⟩ off wh = r) (h0 : 0 ≤ r) : seekFP (withP sh name data k a) 3 off wh = (r, withP sh name data k r.toNat) := by
  have hg : gget (withP sh name data k a).op 3 = some ⟨data, a, false⟩ := rfl
  rw [seekP_some hg rfl (by omega) (by rw [hr]; omega), hr]; rfl
theorem read_with {sh : List Int} {name data : Bytes} {k a : Nat} {n : Int} {b : Bytes} (hb : (data.drop (min a data.length)).take (takeP ⟨sh, [], [], k, 0, 0⟩ (clampN n)).1.toNat = b) : readFP (withP sh name data k a) 3 n = (some b, withP sh name data (takeP ⟨sh, [], [], k, 0, 0⟩ (clampN n)).2.shorts (a + b.length)) := by
  have hg : gget (withP sh name data k a).op 3 = some ⟨data, a, false⟩ := rfl
  rw [readP_some hg rfl]
  have hb' : (leftP ⟨data, a, false⟩).take (takeP (withP sh name data k a).use (clampN n)).1.toNat = b := hb
  rw [hb']
  have h1 : (takeP (withP sh name data k a).use (clampN n)).2 = ⟨sh, [], [], (takeP ⟨sh, [], [], k, 0, 0⟩ (clampN n)).2.shorts, 0, 0⟩ := by
    show (takeP ⟨sh, [], [], k, 0, 0⟩ (clampN n)).2 = _
    rw [takeP]; split
    · rfl
    · split <;> rfl
  rw [h1]; rfl
theorem clampN_id {n : Int} (h0 : 0 ≤ n) (h1 : n ≤ 4096) : clampN n = n := by rw [clampN, if_neg (by omega : ¬ n < 0), if_neg (by omega)]
theorem takeP_all {n : Int} (h0 : 0 ≤ n) : takeP ⟨[], [], [], 0, 0, 0⟩ n = (n, ⟨[], [], [], 0, 0, 0⟩) := by rw [takeP, if_neg (by omega)]; rfl
theorem atOk_with {sh : List Int} {name data : Bytes} {k a : Nat} (h : a ≤ 4611686018427387904) : AtOk (withP sh name data k a) := by
  intro x hx
  simp [withP] at hx
  rcases hx with rfl | rfl | rfl | rfl <;> simp [h]
end Go.Proofs.Ytjjhihlmoecmlaa
