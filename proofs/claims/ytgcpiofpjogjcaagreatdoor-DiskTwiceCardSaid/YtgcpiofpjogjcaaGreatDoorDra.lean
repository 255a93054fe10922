/-
  Append, walked, where its fate leaves it whole.
-/
import Derived.Test.YtgcpiofpjogjcaaGreatDoorDq
import Derived.Test.YtgcpiofpjogjcaaGreatDoorDr
namespace Go.Proofs.YtgcpiofpjogjcaaGreatDoor.PK
open Go.RowKit Go.Maps Go.Proofs.YtgcpiofpjogjcaaGreatDoorW.PrintWords
set_option linter.unusedVariables false
set_option linter.unusedSimpArgs false
variable {own : Nat → Prop} {w w' : World}

set_option maxRecDepth 100000 in
set_option maxHeartbeats 1600000 in
theorem append_any (d : Nat) (S : Dk) (s : ByteArray) (A : Option Addr) (c : Nat) (bs : List Int) (w : World) (h : DiskAt w own d S) (hfr : Fresh own w) (hs : s.size ≤ 9223372036854775807) (hC : Kd.C (Kd.int .u8) w A bs.length bs) (hby : ∀ x ∈ bs, 0 ≤ x ∧ x < 256) (hA : ∀ a, A = some a → a.block ≠ d) (hk2 : S.fate.kind ≠ 2) (hst : S.steps ≤ 4611686018427387904) (hpl : S.plan.length ≤ 4611686018427387904) :
    Calls Tryz.prog 12 #[.pointer (some ⟨d, 0, none⟩), .string s, .slice A bs.length c] w fun e w' => ∃ x S', e = .returned (.int .i64 x) ∧ S.stepSaid (S.stepped.appE s bs.length) (fun T => T = S.stepped.appended s bs) (fun n T => T = S.stepped.parted s bs n) x S' ∧ DiskAt w' own d S' ∧ Turn own w w' := by
  obtain ⟨wb, hwb⟩ : ∃ wb, wb = ((w.alloc (.cells #[.pointer (some ⟨d, 0, none⟩)] 26)).alloc (.cells #[.string s] 9)).alloc (.cells #[.slice A bs.length c] 23) := ⟨_, rfl⟩
  have hwbs : wb.heap.size = w.heap.size + 3 := by rw [hwb]; simp
  have hbb : Below w.heap.size w wb := by rw [hwb]; exact (((Below.refl _ _).alloc (Nat.le_refl _) _).alloc (by simp) _).alloc (by simp; omega) _
  have x0 : wb.cell? ⟨w.heap.size, 0, none⟩ = some (.pointer (some ⟨d, 0, none⟩)) := by rw [hwb]; exact cell_old (cell_old (cell_new _ _ _ _ (rfl)))
  have x1 : wb.cell? ⟨w.heap.size + 1, 0, none⟩ = some (.string s) := by rw [hwb]; exact cell_old (cell_new _ _ _ _ (by simp))
  have x2 : wb.cell? ⟨w.heap.size + 2, 0, none⟩ = some (.slice A bs.length c) := by rw [hwb]; exact cell_new _ _ _ _ (by simp)
  have ld := h.flag.2.2
  have hcall := step_any d 45 47 #[.pointer (some ⟨w.heap.size, 0, none⟩), .pointer (some ⟨w.heap.size + 1, 0, none⟩), .pointer (some ⟨w.heap.size + 2, 0, none⟩)] #[.pointer (some ⟨w.heap.size, 0, none⟩), .pointer (some ⟨w.heap.size + 1, 0, none⟩), .pointer (some ⟨w.heap.size + 2, 0, none⟩)] S (S.stepped.appE s bs.length) (fun T => T = S.stepped.appended s bs) (fun n T => T = S.stepped.parted s bs n) wb (h.below hbb) (hfr.step (by omega)) hst hpl
    (fun w1 h1 f1 k1 => (append1_any _ _ _ d S.stepped s A c bs w1 h1 f1 hs (C_move (Kd.C_below hC hbb) (fun a ha hl => k1 _ hl (hA a ha))) hby ((World.cell?_of_block (w := wb) (a := ⟨w.heap.size, 0, none⟩) (k1 _ (by simp only; omega) (by simp only; omega))).trans x0) ((World.cell?_of_block (w := wb) (a := ⟨w.heap.size + 1, 0, none⟩) (k1 _ (by simp only; omega) (by simp only; omega))).trans x1) ((World.cell?_of_block (w := wb) (a := ⟨w.heap.size + 2, 0, none⟩) (k1 _ (by simp only; omega) (by simp only; omega))).trans x2)).mono fun e w2 ⟨he, h2, t2⟩ => ⟨he, _, rfl, h2, t2⟩)
    (fun hk => absurd hk hk2)
    (enters_of Tryz.func45 (by kernel_rfl) rfl) (enters_of Tryz.func47 (by kernel_rfl) rfl)
  have tb : Turn own w wb := Turn.of_below hbb
  have X1 := Lib.hid x1
  have X2 := Lib.hid x2
  clear hbb x1 x2
  go_enter Tryz.func12, Tryz.ntmps12
  go_upto_region 1 with fail
  simp only [← hwb]
  have HWB := Lib.hid hwb
  clear hwb
  go_wp2_with (first
    | (go_at_call 44; refine hcall.mono ?_; rintro e w2 ⟨x, T, rfl, hT, h2, t2⟩))
  go_ret
  exact ⟨x, T, rfl, hT, h2, tb.trans t2⟩

end Go.Proofs.YtgcpiofpjogjcaaGreatDoor.PK
