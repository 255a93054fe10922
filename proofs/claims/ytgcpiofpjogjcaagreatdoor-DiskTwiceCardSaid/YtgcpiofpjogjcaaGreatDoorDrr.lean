/-
  Remove, walked.
-/
import Derived.Test.YtgcpiofpjogjcaaGreatDoorDpr
import Derived.Test.YtgcpiofpjogjcaaGreatDoorDr
namespace Go.Proofs.YtgcpiofpjogjcaaGreatDoor.PK
open Go.RowKit Go.Maps Go.Proofs.YtgcpiofpjogjcaaGreatDoorW.PrintWords
set_option linter.unusedVariables false
set_option linter.unusedSimpArgs false
variable {own : Nat → Prop} {w w' : World}

set_option maxRecDepth 100000 in
set_option maxHeartbeats 1600000 in
theorem remove_any (d : Nat) (S : Dk) (a : ByteArray) (w : World) (h : DiskAt w own d S) (hfr : Fresh own w) (ha : a.size ≤ 9223372036854775807) (hbig : S.chg.length ≤ 1099511627776) (hst : S.steps ≤ 4611686018427387904) (hpl : S.plan.length ≤ 4611686018427387904) :
    Calls Tryz.prog 59 #[.pointer (some ⟨d, 0, none⟩), .string a] w fun e w' => ∃ x S', e = .returned (.int .i64 x) ∧ S.stepSaid (S.stepped.has a) (fun T => T = S.stepped.removed a) (fun n T => T = S.stepped) x S' ∧ DiskAt w' own d S' ∧ Turn own w w' := by
  obtain ⟨wb, hwb⟩ : ∃ wb, wb = (w.alloc (.cells #[.pointer (some ⟨d, 0, none⟩)] 26)).alloc (.cells #[.string a] 9) := ⟨_, rfl⟩
  have hwbs : wb.heap.size = w.heap.size + 2 := by rw [hwb]; simp
  have hbb : Below w.heap.size w wb := by rw [hwb]; exact ((Below.refl _ _).alloc (Nat.le_refl _) _).alloc (by simp) _
  have x0 : wb.cell? ⟨w.heap.size, 0, none⟩ = some (.pointer (some ⟨d, 0, none⟩)) := by rw [hwb]; exact cell_old (cell_new _ _ _ _ (rfl))
  have x1 : wb.cell? ⟨w.heap.size + 1, 0, none⟩ = some (.string a) := by rw [hwb]; exact cell_new _ _ _ _ (by simp)
  have ld := h.flag.2.2
  have hcall := step_any d 79 64 #[.pointer (some ⟨w.heap.size, 0, none⟩), .pointer (some ⟨w.heap.size + 1, 0, none⟩)] #[] S (S.stepped.has a) (fun T => T = S.stepped.removed a) (fun n T => T = S.stepped) wb (h.below hbb) (hfr.step (by omega)) hst hpl
    (fun w1 h1 f1 k1 => (remove1_any _ _ d S.stepped a w1 h1 f1 ha hbig ((World.cell?_of_block (w := wb) (a := ⟨w.heap.size, 0, none⟩) (k1 _ (by simp only; omega) (by simp only; omega))).trans x0) ((World.cell?_of_block (w := wb) (a := ⟨w.heap.size + 1, 0, none⟩) (k1 _ (by simp only; omega) (by simp only; omega))).trans x1)).mono fun e w2 ⟨he, h2, t2⟩ => ⟨he, _, rfl, h2, t2⟩)
    (fun _ w1 n h1 f1 k1 => (nothing_any n w1).mono fun e w2 ⟨he, hw⟩ => ⟨he, S.stepped, rfl, hw ▸ h1, hw ▸ Turn.refl _ _⟩)
    (enters_of Tryz.func79 (by kernel_rfl) rfl) (enters_of Tryz.func64 (by kernel_rfl) rfl)
  have tb : Turn own w wb := Turn.of_below hbb
  have X1 := Lib.hid x1
  clear hbb x1
  go_enter Tryz.func59, Tryz.ntmps59
  go_upto_region 1 with fail
  simp only [← hwb]
  have HWB := Lib.hid hwb
  clear hwb
  go_wp2_with (first
    | (go_at_call 44; refine hcall.mono ?_; rintro e w2 ⟨x, T, rfl, hT, h2, t2⟩))
  go_ret
  exact ⟨x, T, rfl, hT, h2, tb.trans t2⟩

end Go.Proofs.YtgcpiofpjogjcaaGreatDoor.PK
