/-
  The disk's small calls, walked: New, Steps, Loose, look, Size.
-/
import Derived.Test.YtgcpiofpjogjcaaGreatDoorDb
import Derived.WalkKit
namespace Go.Proofs.YtgcpiofpjogjcaaGreatDoor.PK
open Go.RowKit Go.Maps Go.Proofs.YtgcpiofpjogjcaaGreatDoorW.PrintWords
set_option linter.unusedVariables false
set_option linter.unusedSimpArgs false
variable {own : Nat → Prop}

def Dk.new (room : Int) : Dk := { room := min (max room 0) 16777216, now := [], safe := [], chg := [], plan := [], steps := 0, off := false, fs := fun _ => False, dat := fun _ => [], saf := fun _ => 0 }

theorem new_any (room : Int) (w : World) (hf : Fresh own w) :
    Calls Tryz.prog 36 #[.int .i64 room] w fun e w' => ∃ d, w.heap.size ≤ d ∧ e = .returned (.pointer (some ⟨d, 0, none⟩)) ∧ DiskAt w' own d (Dk.new room) ∧ Below w.heap.size w w' := by
  have hmk : ∀ w, (Instr.makeMap 79 none).run Tryz.prog w = .ok (.map (some w.heap.size)) (w.alloc (.map #[] 0)) := fun w => by kernel_rfl
  go_enter Tryz.func36, Tryz.ntmps36
  go_wp2
  go_ret
  have h0 : ∀ (o1 o2 o3 : Obj), (((w.alloc o1).alloc o2).alloc o3).heap[w.heap.size]? = some o1 ∧ (((w.alloc o1).alloc o2).alloc o3).heap[w.heap.size + 1]? = some o2 ∧ (((w.alloc o1).alloc o2).alloc o3).heap[w.heap.size + 1 + 1]? = some o3 := by
    intro o1 o2 o3
    refine ⟨?_, ?_, ?_⟩
    · rw [Below.heap_alloc _ _ _ (by simp; omega), Below.heap_alloc _ _ _ (by simp)]; exact heap_alloc_new w _
    · rw [Below.heap_alloc _ _ _ (by simp), show w.heap.size + 1 = (w.alloc o1).heap.size from by simp]; exact heap_alloc_new _ _
    · rw [show w.heap.size + 1 + 1 = ((w.alloc o1).alloc o2).heap.size from by simp]; exact heap_alloc_new _ _
  obtain ⟨h1, h2, h3⟩ := h0 (.map #[] 0) (.map #[] 0) (.cells #[Value.int IntKind.i64 (min (max room 0) 16777216), Value.map (some w.heap.size), Value.map (some (w.heap.size + 1)), Value.slice none 0 0, Value.slice none 0 0, Value.int IntKind.i64 0, Value.bool false] 82)
  refine ⟨w.heap.size + 1 + 1, by omega, rfl, ⟨w.heap.size, w.heap.size + 1, none, 0, none, 0, fun _ => none, fun _ => 0, ?_⟩, (((Below.refl _ _).alloc (Nat.le_refl _) _).alloc (by simp) _).alloc (by simp; omega) _⟩
  exact {
    blk := h3
    now := DirAt.empty h1
    safe := DirAt.empty h2
    ne := by omega
    chg := ⟨rfl, .inl ⟨rfl, rfl⟩⟩
    plan := ⟨rfl, .inl ⟨rfl, rfl⟩⟩
    ref := fun f hf => by
      rcases hf with ⟨k, hk⟩ | ⟨k, hk⟩ | ⟨c, hc, _⟩
      · simp [Dk.new] at hk
      · simp [Dk.new] at hk
      · simp [Dk.new] at hc
    files := fun f hf => hf.elim
    apart := fun f g _ _ _ a b ha => by simp at ha
    od := hf _ (by omega)
    on := hf _ (by omega)
    os := hf _ (by omega)
    oc := fun a ha => by simp at ha
    op := fun a ha => by simp at ha
    room0 := by simp only [Dk.new]; omega
    room1 := by simp only [Dk.new]; omega
    steps0 := by simp [Dk.new]
    now1 := by simp [Dk.new]
    chgs := fun c hc => by simp [Dk.new] at hc
    fates := fun c hc => by simp [Dk.new] at hc }

theorem seven_cells {w : World} {b : Nat} {a0 a1 a2 a3 a4 a5 a6 : Value} {t : TypeId} (h : w.heap[b]? = some (.cells #[a0, a1, a2, a3, a4, a5, a6] t (0, 0))) :
    w.cell? ⟨b, 0, none⟩ = some a0 ∧ w.cell? ⟨b, 1, none⟩ = some a1 ∧ w.cell? ⟨b, 2, none⟩ = some a2 ∧ w.cell? ⟨b, 3, none⟩ = some a3 ∧ w.cell? ⟨b, 4, none⟩ = some a4 ∧ w.cell? ⟨b, 5, none⟩ = some a5 ∧ w.cell? ⟨b, 6, none⟩ = some a6 := by
  refine ⟨?_, ?_, ?_, ?_, ?_, ?_, ?_⟩ <;> simp [World.cell?, h]
theorem all_free {w : World} {b : Nat} {cs : Array Value} {t : TypeId} (h : w.heap[b]? = some (.cells cs t (0, 0))) (i : Nat) : w.frozen? ⟨b, i, none⟩ = false := by simp [World.frozen?, h]

theorem steps_any (d : Nat) (S : Dk) (w : World) (h : DiskAt w own d S) :
    Calls Tryz.prog 27 #[.pointer (some ⟨d, 0, none⟩)] w fun e w' => e = .returned (.int .i64 S.steps) ∧ w = w' := by
  obtain ⟨bn, bs, pc, cc, pp, cp, pd, cd, h⟩ := h
  obtain ⟨c0, c1, c2, c3, c4, c5, c6⟩ := seven_cells h.blk
  go_enter Tryz.func27, Tryz.ntmps27
  go_wp2
  go_ret
  exact ⟨rfl, rfl⟩
theorem loose_any (d : Nat) (S : Dk) (w : World) (h : DiskAt w own d S) :
    Calls Tryz.prog 28 #[.pointer (some ⟨d, 0, none⟩)] w fun e w' => e = .returned (.int .i64 (S.chg.length : Int)) ∧ w = w' := by
  obtain ⟨bn, bs, pc, cc, pp, cp, pd, cd, h⟩ := h
  obtain ⟨c0, c1, c2, c3, c4, c5, c6⟩ := seven_cells h.blk
  go_enter Tryz.func28, Tryz.ntmps28
  go_wp2
  go_ret
  exact ⟨rfl, rfl⟩

/-- What look answers. -/
def Dk.find (S : Dk) (s : ByteArray) : Option Nat := if S.off then none else look S.now (key s)
def Dk.findErr (S : Dk) (s : ByteArray) : Int := if S.off then 140 else if look S.now (key s) = none then 143 else 0
theorem look_any (d : Nat) (S : Dk) (s : ByteArray) (w : World) (h : DiskAt w own d S) (hs : s.size ≤ 9223372036854775807) :
    Calls Tryz.prog 58 #[.pointer (some ⟨d, 0, none⟩), .string s] w fun e w' => e = .returned (.tuple #[fileV (S.find s), .int .i64 (S.findErr s)]) ∧ w = w' := by
  obtain ⟨bn, bs, pc, cc, pp, cp, pd, cd, h⟩ := h
  obtain ⟨c0, c1, c2, c3, c4, c5, c6⟩ := seven_cells h.blk
  have hnow := h.now
  unfold Dk.find Dk.findErr
  cases ho : S.off <;> rw [ho] at c6
  · cases hl : look S.now (key s) with
    | none =>
      go_enter Tryz.func58, Tryz.ntmps58
      go_wp2_with (at_lookup; refine wpList_lookup_dir _ rfl _ _ rfl bn _ S.now rfl hnow s rfl hs ?_; rw [show look S.now s.data.toList = _ from hl]; simp only [fileV])
      go_ret2
      exact ⟨rfl, rfl⟩
    | some f =>
      go_enter Tryz.func58, Tryz.ntmps58
      go_wp2_with (at_lookup; refine wpList_lookup_dir _ rfl _ _ rfl bn _ S.now rfl hnow s rfl hs ?_; rw [show look S.now s.data.toList = _ from hl]; simp only [fileV])
      go_ret2
      exact ⟨rfl, rfl⟩
  · cases hl : look S.now (key s) with
    | none =>
      go_enter Tryz.func58, Tryz.ntmps58
      go_wp2_with (at_lookup; refine wpList_lookup_dir _ rfl _ _ rfl bn _ S.now rfl hnow s rfl hs ?_; rw [show look S.now s.data.toList = _ from hl]; simp only [fileV])
      go_ret2
      exact ⟨rfl, rfl⟩
    | some f =>
      go_enter Tryz.func58, Tryz.ntmps58
      go_wp2_with (at_lookup; refine wpList_lookup_dir _ rfl _ _ rfl bn _ S.now rfl hnow s rfl hs ?_; rw [show look S.now s.data.toList = _ from hl]; simp only [fileV])
      go_ret2
      exact ⟨rfl, rfl⟩
theorem Dk.find_cases (S : Dk) (s : ByteArray) : (S.find s = none ∧ (S.findErr s = 140 ∨ S.findErr s = 143)) ∨ (∃ f, S.find s = some f ∧ look S.now (key s) = some f ∧ S.off = false ∧ S.findErr s = 0) := by
  unfold Dk.find Dk.findErr
  cases S.off
  · cases look S.now (key s)
    · simp
    · simp
  · simp
theorem live_now {S : Dk} {k : List UInt8} {f : Nat} (h : look S.now k = some f) : S.live f := .inl ⟨k, look_mem h⟩
theorem two_cells {w : World} {b : Nat} {a0 a1 : Value} {t : TypeId} (h : w.heap[b]? = some (.cells #[a0, a1] t (0, 0))) :
    w.cell? ⟨b, 0, none⟩ = some a0 ∧ w.cell? ⟨b, 1, none⟩ = some a1 := by
  refine ⟨?_, ?_⟩ <;> simp [World.cell?, h]
end Go.Proofs.YtgcpiofpjogjcaaGreatDoor.PK
