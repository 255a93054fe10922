/-
  A disk in memory: its state, what its calls may turn.
-/
import Derived.Test.YtgcpiofpjogjcaaGreatDoorDa
import Derived.Test.YtgcpiofpjogjcaaGreatDoorLd
import Derived.Test.YtgcpiofpjogjcaaGreatDoorWWords
namespace Go.Proofs.YtgcpiofpjogjcaaGreatDoor.PK
open Go.RowKit Go.Maps Go.Proofs.YtgcpiofpjogjcaaGreatDoorW.PrintWords
set_option linter.unusedVariables false
set_option linter.unusedSimpArgs false

/-- What a disk's calls may turn: blocks of 'own' alone. -/
structure Turn (own : Nat → Prop) (w w' : World) : Prop where
  os : w'.os = w.os
  tape : w'.tape = w.tape
  output : w'.output = w.output
  size : w.heap.size ≤ w'.heap.size
  block : ∀ k, k < w.heap.size → ¬ own k → w'.heap[k]? = w.heap[k]?
variable {own : Nat → Prop} {w w' : World}
theorem Turn.refl (own : Nat → Prop) (w : World) : Turn own w w := ⟨rfl, rfl, rfl, Nat.le_refl _, fun _ _ _ => rfl⟩
theorem Turn.trans {a b d : World} (h : Turn own a b) (k : Turn own b d) : Turn own a d :=
  ⟨k.os.trans h.os, k.tape.trans h.tape, k.output.trans h.output, Nat.le_trans h.size k.size, fun i hi hj => (k.block i (Nat.lt_of_lt_of_le hi h.size) hj).trans (h.block i hi hj)⟩
theorem Turn.of_below (h : Below w.heap.size w w') : Turn own w w' := ⟨h.os, h.tape, h.output, h.size, fun k hk _ => h.block k hk⟩
theorem Turn.drewN (h : Turn own w w') (n : Nat) : Turn own w (w'.drewN n) := ⟨h.os, h.tape, h.output, h.size, h.block⟩
theorem Turn.drew (h : Turn own w w') : Turn own w w'.drew := ⟨h.os, h.tape, h.output, h.size, h.block⟩
theorem Turn.of_grown {row : Option Nat} (h : w.grownBy w' row) (ho : ∀ k, row = some k → own k) : Turn own w w' :=
  ⟨h.os, h.tape, h.output, h.size, fun k hk hj => h.block k hk (fun e => hj (ho k e.symm))⟩
theorem Turn.setCell (a : Addr) (u : Value) (h : own a.block) : Turn own w (w.setCell a u) :=
  ⟨rfl, rfl, rfl, by simp [World.setCell], fun k hk hj => Below.heap_setCell _ _ _ _ (fun e => hj (by rw [e]; exact h))⟩
theorem Turn.alloc (o : Obj) : Turn own w (w.alloc o) := Turn.of_below ((Below.refl _ _).alloc (Nat.le_refl _) _)
theorem Turn.below {B : Nat} (h : Turn own w w') (ho : ∀ k, own k → B ≤ k) (hB : B ≤ w.heap.size) : Below B w w' :=
  ⟨h.os, h.tape, h.output, h.size, fun k hk => h.block k (by omega) (fun e => by have := ho k e; omega)⟩
/-- New blocks are the disk's to turn. -/
def Fresh (own : Nat → Prop) (w : World) : Prop := ∀ k, w.heap.size ≤ k → own k
theorem Fresh.step (h : Fresh own w) (hs : w.heap.size ≤ w'.heap.size) : Fresh own w' := fun k hk => h k (Nat.le_trans hs hk)

/-- A change of the directory: from, to, the file. -/
structure Chg where
  a : ByteArray
  b : ByteArray
  f : Option Nat
def chV (c : Chg) : List Value := [.string c.a, .string c.b, fileV c.f]
def key (s : ByteArray) : List UInt8 := s.data.toList
/-- A change that may stand in a disk: names of sane length; a name that comes has a file. -/
structure Chg.ok (c : Chg) : Prop where
  a : c.a.size ≤ 9223372036854775807
  b : c.b.size ≤ 9223372036854775807
  f : c.b ≠ ⟨#[]⟩ → ∃ f, c.f = some f
def applyC (l : Dir) (c : Chg) : Dir :=
  let l1 := if c.a = ⟨#[]⟩ then l else del l (key c.a)
  if c.b = ⟨#[]⟩ then l1 else match c.f with | some f => put l1 (key c.b) f | none => l1
structure Fat where
  step : Int
  kind : Int
  n : Int
def fateV (c : Fat) : List Value := [.int .i64 c.step, .int .i64 c.kind, .int .i64 c.n]

/-- A disk's state. -/
structure Dk where
  room : Int
  now : Dir
  safe : Dir
  chg : List Chg
  plan : List Fat
  steps : Int
  off : Bool
  fs : Nat → Prop
  dat : Nat → List Int
  saf : Nat → Nat

/-- The files that names or changes tell of. -/
def Dk.live (S : Dk) (f : Nat) : Prop := (∃ k, (k, f) ∈ S.now) ∨ (∃ k, (k, f) ∈ S.safe) ∨ (∃ c ∈ S.chg, c.f = some f)

/-- A file in memory. -/
structure FileIn (w : World) (own : Nat → Prop) (f : Nat) (p : Option Addr) (c : Nat) (xs : List Int) (s : Nat) : Prop where
  mine : own f
  blk : w.heap[f]? = some (.cells #[.slice p xs.length c, .int .i64 s] 77 (0, 0))
  row : w.ownsRow 0 5 1 (.slice p xs.length c) xs.length (nums .u8 xs)
  rown : ∀ a, p = some a → own a.block
  safe : s ≤ xs.length
  bys : ∀ x ∈ xs, 0 ≤ x ∧ x < 256
  short : xs.length ≤ 140737488355328
theorem ownsRow_kept {e size n base : Nat} {v : Value} {xs : List Value} (h : w.ownsRow base e size v n xs) (hb : ∀ g, v.ownBlock = some g → w'.heap[g]? = w.heap[g]?) : w'.ownsRow base e size v n xs := by
  obtain ⟨h1, h2⟩ := h
  refine ⟨h1, ?_⟩
  rcases h2 with h2 | ⟨g, cap, cur, hv, hg, hh, r⟩
  · exact .inl h2
  · exact .inr ⟨g, cap, cur, hv, hg, (hb g (by rw [hv]; rfl)).trans hh, r⟩
theorem FileIn.kept {f c s : Nat} {p : Option Addr} {xs : List Int} (h : FileIn w own f p c xs s) (hf : w'.heap[f]? = w.heap[f]?) (hp : ∀ a, p = some a → w'.heap[a.block]? = w.heap[a.block]?) : FileIn w' own f p c xs s :=
  ⟨h.mine, hf.trans h.blk, ownsRow_kept h.row (fun g hg => by
    cases p with
    | none => simp [Value.ownBlock] at hg
    | some a => simp only [Value.ownBlock, Option.some.injEq] at hg; rw [← hg]; exact hp a rfl), h.rown, h.safe, h.bys, h.short⟩
theorem FileIn.lt {f c s : Nat} {p : Option Addr} {xs : List Int} (h : FileIn w own f p c xs s) : f < w.heap.size := lt_of_block h.blk
theorem ownsRow_blk {e size n base : Nat} {a : Addr} {m c : Nat} {xs : List Value} (h : w.ownsRow base e size (.slice (some a) m c) n xs) : ∃ cur, w.heap[a.block]? = some (.cells cur e (0, 0)) := by
  rcases h.2 with ⟨h2, _⟩ | ⟨g, cap, cur, hv, hg, hh, r⟩
  · simp at h2
  · injection hv with hv
    injection hv with hv
    rw [hv]
    exact ⟨cur, hh⟩

/-- A disk in memory: d its block, bn and bs its maps, pc and pp its rows, pd and cd the files' rows. -/
structure DiskIn (w : World) (own : Nat → Prop) (d bn bs : Nat) (pc : Option Addr) (cc : Nat) (pp : Option Addr) (cp : Nat) (pd : Nat → Option Addr) (cd : Nat → Nat) (S : Dk) : Prop where
  blk : w.heap[d]? = some (.cells #[.int .i64 S.room, .map (some bn), .map (some bs), .slice pc S.chg.length cc, .slice pp S.plan.length cp, .int .i64 S.steps, .bool S.off] 82 (0, 0))
  now : DirAt w bn S.now.length S.now
  safe : DirAt w bs S.safe.length S.safe
  ne : bn ≠ bs
  chg : w.ownsRow 0 103 3 (.slice pc S.chg.length cc) S.chg.length (S.chg.flatMap chV)
  plan : w.ownsRow 0 69 3 (.slice pp S.plan.length cp) S.plan.length (S.plan.flatMap fateV)
  ref : ∀ f, S.live f → S.fs f
  files : ∀ f, S.fs f → FileIn w own f (pd f) (cd f) (S.dat f) (S.saf f)
  apart : ∀ f g, S.fs f → S.fs g → f ≠ g → ∀ a b, pd f = some a → pd g = some b → a.block ≠ b.block
  od : own d
  on : own bn
  os : own bs
  oc : ∀ a, pc = some a → own a.block
  op : ∀ a, pp = some a → own a.block
  room0 : 0 ≤ S.room
  room1 : S.room ≤ 16777216
  steps0 : 0 ≤ S.steps
  now1 : S.now.length ≤ 400
  chgs : ∀ c ∈ S.chg, c.ok
  fates : ∀ c ∈ S.plan, (Lit.int .i64 c.step).wf = true ∧ (Lit.int .i64 c.kind).wf = true ∧ (Lit.int .i64 c.n).wf = true

/-- All of the disk's blocks are as they were. -/
theorem DiskIn.kept {d bn bs cc cp : Nat} {pc pp : Option Addr} {pd : Nat → Option Addr} {cd : Nat → Nat} {S : Dk} (h : DiskIn w own d bn bs pc cc pp cp pd cd S) (hk : ∀ k, k < w.heap.size → w'.heap[k]? = w.heap[k]?) : DiskIn w' own d bn bs pc cc pp cp pd cd S where
  blk := (hk d (lt_of_block h.blk)).trans h.blk
  now := h.now.kept (hk bn h.now.lt)
  safe := h.safe.kept (hk bs h.safe.lt)
  ne := h.ne
  chg := ownsRow_kept h.chg (fun g hg => hk g (by
    cases pc with
    | none => simp [Value.ownBlock] at hg
    | some a => simp only [Value.ownBlock, Option.some.injEq] at hg; rw [← hg]; obtain ⟨cur, hc⟩ := ownsRow_blk h.chg; exact lt_of_block hc))
  plan := ownsRow_kept h.plan (fun g hg => hk g (by
    cases pp with
    | none => simp [Value.ownBlock] at hg
    | some a => simp only [Value.ownBlock, Option.some.injEq] at hg; rw [← hg]; obtain ⟨cur, hc⟩ := ownsRow_blk h.plan; exact lt_of_block hc))
  ref := h.ref
  files := fun f hf => (h.files f hf).kept (hk f (h.files f hf).lt) (fun a ha => hk _ (by
    have h1 := (h.files f hf).row
    rw [ha] at h1
    obtain ⟨cur, hc⟩ := ownsRow_blk h1
    exact lt_of_block hc))
  apart := h.apart
  od := h.od
  on := h.on
  os := h.os
  oc := h.oc
  op := h.op
  room0 := h.room0
  room1 := h.room1
  steps0 := h.steps0
  now1 := h.now1
  chgs := h.chgs
  fates := h.fates
theorem DiskIn.below {d bn bs cc cp : Nat} {pc pp : Option Addr} {pd : Nat → Option Addr} {cd : Nat → Nat} {S : Dk} (h : DiskIn w own d bn bs pc cc pp cp pd cd S) (hb : Below w.heap.size w w') : DiskIn w' own d bn bs pc cc pp cp pd cd S := h.kept hb.block

theorem ty_ne {w : World} {a b : Nat} {c1 c2 : Array Value} {t1 t2 : TypeId} {m1 m2 : Nat × Nat} (ha : w.heap[a]? = some (.cells c1 t1 m1)) (hb : w.heap[b]? = some (.cells c2 t2 m2)) (h : t1 ≠ t2) : a ≠ b := by
  rintro rfl
  rw [ha] at hb
  injection hb with hb
  injection hb with _ hb
  exact h hb
theorem map_ne {w : World} {a b : Nat} {c1 : Array Value} {t1 : TypeId} {m1 : Nat × Nat} {es : Array MapEntry} {c : Nat} (ha : w.heap[a]? = some (.cells c1 t1 m1)) (hb : w.heap[b]? = some (.map es c)) : a ≠ b := by
  rintro rfl
  rw [ha] at hb
  injection hb with hb
  cases hb
/-- A disk at block d. -/
def DiskAt (w : World) (own : Nat → Prop) (d : Nat) (S : Dk) : Prop := ∃ bn bs pc cc pp cp pd cd, DiskIn w own d bn bs pc cc pp cp pd cd S
theorem DiskAt.below {d : Nat} {S : Dk} (h : DiskAt w own d S) (hb : Below w.heap.size w w') : DiskAt w' own d S := by
  obtain ⟨bn, bs, pc, cc, pp, cp, pd, cd, h⟩ := h
  exact ⟨bn, bs, pc, cc, pp, cp, pd, cd, h.below hb⟩
end Go.Proofs.YtgcpiofpjogjcaaGreatDoor.PK
