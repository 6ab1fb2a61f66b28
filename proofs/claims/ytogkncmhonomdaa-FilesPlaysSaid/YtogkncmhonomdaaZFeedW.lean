import Derived.Test.YtogkncmhonomdaaZComX
set_option linter.unusedVariables false
set_option linter.unusedSimpArgs false
namespace Go.Proofs.Ytogkncmhonomdaa
open Go
structure FeedP where
  args : List Bytes
  input : Bytes
  short : List Int
  random : Bytes
  clock : List Int
  files : List (Bytes × Bytes)
def goodArg (s : Bytes) : Bool := decide (s.length ≤ 200) && !s.contains 0
def goodArgs (l : List Bytes) : Bool := l.all goodArg && decide (l.length ≤ 16)
def goodFile (f : Bytes × Bytes) : Bool := !f.1.isEmpty && decide (f.1.length ≤ 40) && !f.1.contains 0 && decide (f.2.length ≤ 4096)
def okAt (l : List (Bytes × Bytes)) (i : Nat) : Bool := match l[i]? with | some f => goodFile f && !(l.take i).any (fun g => g.1 == f.1) | none => true
def goodFiles (l : List (Bytes × Bytes)) : Bool := (List.range l.length).all (okAt l) && decide (l.length ≤ 8)
def goodShort (n : Int) : Bool := decide (0 ≤ n) && decide (n ≤ 4096)
def good (f : FeedP) : Bool := f.short.all goodShort && decide (f.short.length ≤ 64) && decide (f.clock.length ≤ 64) && decide (f.input.length ≤ 4096) && decide (f.random.length ≤ 4096) && goodArgs f.args && goodFiles f.files
structure FileG where
  name : ByteArray
  data : Sl UInt8
def FileG.cells (f : FileG) : List Value := [.string f.name, f.data.v]
def FileG.p (f : FileG) : Bytes × Bytes := (str f.name, f.data.xs)
def filesV (l : List FileG) : List Value := l.flatMap FileG.cells
def RdFiles (s : Sl FileG) : HProp := fun h => RdS 2 s.A s.xs.length s.c (filesV s.xs) h ∧ ∀ f ∈ s.xs, RdB f.data h
theorem RdFiles.up (s : Sl FileG) : Up (RdFiles s) := fun h k l ⟨a, b⟩ => ⟨RdS.up _ _ _ _ _ h k l a, fun f hf => RdB.up _ h k l (b f hf)⟩
structure FeedG where
  args : Sl ByteArray
  input : Sl UInt8
  short : Sl Int
  random : Sl UInt8
  clock : Sl Int
  files : Sl FileG
def FeedG.cells (f : FeedG) : List Value := [f.args.v, f.input.v, f.short.v, f.random.v, f.clock.v, f.files.v]
def FeedG.p (f : FeedG) : FeedP := { args := f.args.xs.map str, input := f.input.xs, short := f.short.xs, random := f.random.xs, clock := f.clock.xs, files := f.files.xs.map FileG.p }
structure RdFeed (f : FeedG) (h : Hp) : Prop where
  args : RdStr f.args h
  input : RdB f.input h
  short : RdI .i64 f.short h
  random : RdB f.random h
  clock : RdI .u32 f.clock h
  files : RdFiles f.files h
theorem RdFeed.up (f : FeedG) : Up (RdFeed f) := fun h k l r => ⟨RdStr.up _ h k l r.args, RdB.up _ h k l r.input, RdI.up _ _ h k l r.short, RdB.up _ h k l r.random, RdI.up _ _ h k l r.clock, RdFiles.up _ h k l r.files⟩
theorem filesV_get (l : List FileG) : ∀ (k : Nat) (f : FileG), l[k]? = some f → (filesV l)[k * 2]? = some (.string f.name) ∧ (filesV l)[k * 2 + 1]? = some f.data.v := by
  induction l with
  | nil => intro k f h; simp at h
  | cons g l ih =>
    intro k f h
    cases k with
    | zero => simp at h; subst h; exact ⟨rfl, rfl⟩
    | succ k =>
      have := ih k f (by simpa using h)
      have e : filesV (g :: l) = .string g.name :: g.data.v :: filesV l := rfl
      rw [e, show (k + 1) * 2 = k * 2 + 1 + 1 by omega]
      exact ⟨by simpa using this.1, by simpa using this.2⟩
theorem filesV_take (l : List FileG) : ∀ k, filesV (l.take k) = (filesV l).take (k * 2) := by
  induction l with
  | nil => intro k; simp [filesV]
  | cons f l ih =>
    intro k
    cases k with
    | zero => simp [filesV]
    | succ k =>
      have e1 : filesV (f :: l) = .string f.name :: f.data.v :: filesV l := rfl
      have e2 : filesV ((f :: l).take (k + 1)) = .string f.name :: f.data.v :: filesV (l.take k) := rfl
      rw [e1, e2, ih k, show (k + 1) * 2 = k * 2 + 1 + 1 by omega, List.take_succ_cons, List.take_succ_cons]
theorem RdFiles.take {A : Option Addr} {c : Nat} {xs : List FileG} {h : Hp} (r : RdFiles ⟨A, c, xs⟩ h) {k : Nat} (hk : k ≤ xs.length) : RdFiles ⟨A, c, xs.take k⟩ h := by
  refine ⟨?_, fun f hf => r.2 f (List.mem_of_mem_take hf)⟩
  have h1 := r.1.take (l := k) hk
  have e : (xs.take k).length = k := by rw [List.length_take]; omega
  show RdS 2 A (xs.take k).length c (filesV (xs.take k)) h
  rw [e, filesV_take]; exact h1
theorem RdFiles.at {s : Sl FileG} {h : Hp} {ad : Addr} (r : RdFiles s h) (hA : s.A = some ad) {k : Nat} {f : FileG} (e : s.xs[k]? = some f) : Cells h (ad.add (k * 2)) f.cells := by
  intro j v hv
  have h1 := r.1
  rw [hA] at h1
  obtain ⟨g1, g2⟩ := filesV_get s.xs k f e
  rw [add_add]
  cases j with
  | zero => simp [FileG.cells] at hv; subst hv; exact h1.cell g1
  | succ j =>
    cases j with
    | zero => simp [FileG.cells] at hv; subst hv; exact h1.cell g2
    | succ j => simp [FileG.cells] at hv
theorem goodArgs_bad {l : List Bytes} {k : Nat} {s : Bytes} (h : l[k]? = some s) (hb : goodArg s = false) : goodArgs l = false := by
  simp only [goodArgs, Bool.and_eq_false_iff]
  left
  rw [Bool.eq_false_iff, ne_eq, List.all_eq_true]
  intro ha
  rw [ha s (List.mem_of_getElem? h)] at hb
  cases hb
end Go.Proofs.Ytogkncmhonomdaa
