/-
  Sync, SyncDir and Rename, walked.
-/
import Derived.Test.YtgcpiofpjogjcaaGreatDoorDp
namespace Go.Proofs.YtgcpiofpjogjcaaGreatDoor.PK
open Go.RowKit Go.Maps Go.Proofs.YtgcpiofpjogjcaaGreatDoorW.PrintWords
set_option linter.unusedVariables false
set_option linter.unusedSimpArgs false
variable {own : Nat → Prop} {w w' : World}

theorem cell_new (w : World) (v : Value) (t : TypeId) (n : Nat) (hn : w.heap.size = n) : (w.alloc (.cells #[v] t)).cell? ⟨n, 0, none⟩ = some v := by
  subst hn; simp [World.cell?_alloc_at]
theorem cell_old {w : World} {a : Addr} {v : Value} {o : Obj} (h : w.cell? a = some v) : (w.alloc o).cell? a = some v :=
  (World.cell?_alloc_lt _ _ _ (World.block_lt_of_cell? w a h)).trans h
theorem C_move {w w' : World} {A : Option Addr} {n : Nat} {bs : List Int} (h : Kd.C (Kd.int .u8) w A n bs) (hk : ∀ a, A = some a → a.block < w.heap.size → w'.heap[a.block]? = w.heap[a.block]?) : Kd.C (Kd.int .u8) w' A n bs := by
  have h1 := Kd.reads_of_C (d := (0 : Int)) h
  refine Kd.C_of_reads (d := (0 : Int)) ⟨h1.1, h1.2.1, fun hn => ?_⟩
  obtain ⟨ad, e, hc⟩ := h1.2.2 hn
  refine ⟨ad, e, fun j hj => ?_⟩
  have hlt := World.block_lt_of_cell? w _ (hc 0 hn)
  have hb : ∀ j, (ad.add j).block = ad.block := fun j => by unfold Addr.add; split <;> rfl
  rw [hb] at hlt
  rw [World.cell?_of_block (w := w) (a := ad.add j) (by rw [hb]; exact hk ad e hlt)]
  exact hc j hj

set_option maxRecDepth 100000 in
set_option maxHeartbeats 1600000 in
theorem sync_any (d : Nat) (S : Dk) (s : ByteArray) (w : World) (h : DiskAt w own d S) (hfr : Fresh own w) (hs : s.size ≤ 9223372036854775807) (hst : S.steps ≤ 4611686018427387904) (hpl : S.plan.length ≤ 4611686018427387904) :
    Calls Tryz.prog 33 #[.pointer (some ⟨d, 0, none⟩), .string s] w fun e w' => ∃ x S', e = .returned (.int .i64 x) ∧ S.stepSaid (S.stepped.has s) (fun T => T = S.stepped.synced s) (fun n T => T = S.stepped) x S' ∧ DiskAt w' own d S' ∧ Turn own w w' := by
  obtain ⟨wb, hwb⟩ : ∃ wb, wb = (w.alloc (.cells #[.pointer (some ⟨d, 0, none⟩)] 26)).alloc (.cells #[.string s] 9) := ⟨_, rfl⟩
  have hwbs : wb.heap.size = w.heap.size + 2 := by rw [hwb]; simp
  have hbb : Below w.heap.size w wb := by rw [hwb]; exact ((Below.refl _ _).alloc (Nat.le_refl _) _).alloc (by simp) _
  have x0 : wb.cell? ⟨w.heap.size, 0, none⟩ = some (.pointer (some ⟨d, 0, none⟩)) := by rw [hwb]; exact cell_old (cell_new _ _ _ _ (rfl))
  have x1 : wb.cell? ⟨w.heap.size + 1, 0, none⟩ = some (.string s) := by rw [hwb]; exact cell_new _ _ _ _ (by simp)
  have ld := h.flag.2.2
  have hcall := step_any d 65 64 #[.pointer (some ⟨w.heap.size, 0, none⟩), .pointer (some ⟨w.heap.size + 1, 0, none⟩)] #[] S (S.stepped.has s) (fun T => T = S.stepped.synced s) (fun n T => T = S.stepped) wb (h.below hbb) (hfr.step (by omega)) hst hpl
    (fun w1 h1 f1 k1 => (sync1_any _ _ d S.stepped s w1 h1 f1 hs ((World.cell?_of_block (w := wb) (a := ⟨w.heap.size, 0, none⟩) (k1 _ (by simp only; omega) (by simp only; omega))).trans x0) ((World.cell?_of_block (w := wb) (a := ⟨w.heap.size + 1, 0, none⟩) (k1 _ (by simp only; omega) (by simp only; omega))).trans x1)).mono fun e w2 ⟨he, h2, t2⟩ => ⟨he, _, rfl, h2, t2⟩)
    (fun _ w1 n h1 f1 k1 => (nothing_any n w1).mono fun e w2 ⟨he, hw⟩ => ⟨he, S.stepped, rfl, hw ▸ h1, hw ▸ Turn.refl _ _⟩)
    (enters_of Tryz.func65 (by kernel_rfl) rfl) (enters_of Tryz.func64 (by kernel_rfl) rfl)
  have tb : Turn own w wb := Turn.of_below hbb
  have X1 := Lib.hid x1
  clear hbb x1
  go_enter Tryz.func33, Tryz.ntmps33
  go_upto_region 1 with fail
  simp only [← hwb]
  have HWB := Lib.hid hwb
  clear hwb
  go_wp2_with (first
    | (go_at_call 44; refine hcall.mono ?_; rintro e w2 ⟨x, T, rfl, hT, h2, t2⟩))
  go_ret
  exact ⟨x, T, rfl, hT, h2, tb.trans t2⟩

set_option maxRecDepth 100000 in
set_option maxHeartbeats 1600000 in
theorem syncDir_any (d : Nat) (S : Dk)  (w : World) (h : DiskAt w own d S) (hfr : Fresh own w)  (hst : S.steps ≤ 4611686018427387904) (hpl : S.plan.length ≤ 4611686018427387904) :
    Calls Tryz.prog 60 #[.pointer (some ⟨d, 0, none⟩)] w fun e w' => ∃ x S', e = .returned (.int .i64 x) ∧ S.stepSaid (0) (fun T => T = S.stepped.syncDir) (fun n T => T = S.stepped) x S' ∧ DiskAt w' own d S' ∧ Turn own w w' := by
  obtain ⟨wb, hwb⟩ : ∃ wb, wb = w.alloc (.cells #[.pointer (some ⟨d, 0, none⟩)] 26) := ⟨_, rfl⟩
  have hwbs : wb.heap.size = w.heap.size + 1 := by rw [hwb]; simp
  have hbb : Below w.heap.size w wb := by rw [hwb]; exact (Below.refl _ _).alloc (Nat.le_refl _) _
  have x0 : wb.cell? ⟨w.heap.size, 0, none⟩ = some (.pointer (some ⟨d, 0, none⟩)) := by rw [hwb]; exact cell_new _ _ _ _ (rfl)
  have ld := h.flag.2.2
  have hcall := step_any d 80 64 #[.pointer (some ⟨w.heap.size, 0, none⟩)] #[] S (0) (fun T => T = S.stepped.syncDir) (fun n T => T = S.stepped) wb (h.below hbb) (hfr.step (by omega)) hst hpl
    (fun w1 h1 f1 k1 => (syncDir1_any _ d S.stepped w1 h1 f1 ((World.cell?_of_block (w := wb) (a := ⟨w.heap.size, 0, none⟩) (k1 _ (by simp only; omega) (by simp only; omega))).trans x0)).mono fun e w2 ⟨he, h2, t2⟩ => ⟨he, _, rfl, h2, t2⟩)
    (fun _ w1 n h1 f1 k1 => (nothing_any n w1).mono fun e w2 ⟨he, hw⟩ => ⟨he, S.stepped, rfl, hw ▸ h1, hw ▸ Turn.refl _ _⟩)
    (enters_of Tryz.func80 (by kernel_rfl) rfl) (enters_of Tryz.func64 (by kernel_rfl) rfl)
  have tb : Turn own w wb := Turn.of_below hbb
  clear hbb 
  go_enter Tryz.func60, Tryz.ntmps60
  go_upto_region 1 with fail
  simp only [← hwb]
  have HWB := Lib.hid hwb
  clear hwb
  go_wp2_with (first
    | (go_at_call 44; refine hcall.mono ?_; rintro e w2 ⟨x, T, rfl, hT, h2, t2⟩))
  go_ret
  exact ⟨x, T, rfl, hT, h2, tb.trans t2⟩

set_option maxRecDepth 100000 in
set_option maxHeartbeats 1600000 in
theorem rename_any (d : Nat) (S : Dk) (a b : ByteArray) (w : World) (h : DiskAt w own d S) (hfr : Fresh own w) (ha : a.size ≤ 9223372036854775807) (hb : b.size ≤ 9223372036854775807) (hne : look S.now (key a) ≠ none → a ≠ ⟨#[]⟩) (hbig : S.chg.length ≤ 1099511627776) (hst : S.steps ≤ 4611686018427387904) (hpl : S.plan.length ≤ 4611686018427387904) :
    Calls Tryz.prog 34 #[.pointer (some ⟨d, 0, none⟩), .string a, .string b] w fun e w' => ∃ x S', e = .returned (.int .i64 x) ∧ S.stepSaid (S.stepped.renE a b) (fun T => T = S.stepped.renamed a b) (fun n T => T = S.stepped) x S' ∧ DiskAt w' own d S' ∧ Turn own w w' := by
  obtain ⟨wb, hwb⟩ : ∃ wb, wb = ((w.alloc (.cells #[.pointer (some ⟨d, 0, none⟩)] 26)).alloc (.cells #[.string a] 9)).alloc (.cells #[.string b] 9) := ⟨_, rfl⟩
  have hwbs : wb.heap.size = w.heap.size + 3 := by rw [hwb]; simp
  have hbb : Below w.heap.size w wb := by rw [hwb]; exact (((Below.refl _ _).alloc (Nat.le_refl _) _).alloc (by simp) _).alloc (by simp; omega) _
  have x0 : wb.cell? ⟨w.heap.size, 0, none⟩ = some (.pointer (some ⟨d, 0, none⟩)) := by rw [hwb]; exact cell_old (cell_old (cell_new _ _ _ _ (rfl)))
  have x1 : wb.cell? ⟨w.heap.size + 1, 0, none⟩ = some (.string a) := by rw [hwb]; exact cell_old (cell_new _ _ _ _ (by simp))
  have x2 : wb.cell? ⟨w.heap.size + 2, 0, none⟩ = some (.string b) := by rw [hwb]; exact cell_new _ _ _ _ (by simp)
  have ld := h.flag.2.2
  have hcall := step_any d 66 64 #[.pointer (some ⟨w.heap.size, 0, none⟩), .pointer (some ⟨w.heap.size + 1, 0, none⟩), .pointer (some ⟨w.heap.size + 2, 0, none⟩)] #[] S (S.stepped.renE a b) (fun T => T = S.stepped.renamed a b) (fun n T => T = S.stepped) wb (h.below hbb) (hfr.step (by omega)) hst hpl
    (fun w1 h1 f1 k1 => (rename1_any _ _ _ d S.stepped a b w1 h1 f1 ha hb hne hbig ((World.cell?_of_block (w := wb) (a := ⟨w.heap.size, 0, none⟩) (k1 _ (by simp only; omega) (by simp only; omega))).trans x0) ((World.cell?_of_block (w := wb) (a := ⟨w.heap.size + 1, 0, none⟩) (k1 _ (by simp only; omega) (by simp only; omega))).trans x1) ((World.cell?_of_block (w := wb) (a := ⟨w.heap.size + 2, 0, none⟩) (k1 _ (by simp only; omega) (by simp only; omega))).trans x2)).mono fun e w2 ⟨he, h2, t2⟩ => ⟨he, _, rfl, h2, t2⟩)
    (fun _ w1 n h1 f1 k1 => (nothing_any n w1).mono fun e w2 ⟨he, hw⟩ => ⟨he, S.stepped, rfl, hw ▸ h1, hw ▸ Turn.refl _ _⟩)
    (enters_of Tryz.func66 (by kernel_rfl) rfl) (enters_of Tryz.func64 (by kernel_rfl) rfl)
  have tb : Turn own w wb := Turn.of_below hbb
  have X1 := Lib.hid x1
  have X2 := Lib.hid x2
  clear hbb x1 x2
  go_enter Tryz.func34, Tryz.ntmps34
  go_upto_region 1 with fail
  simp only [← hwb]
  have HWB := Lib.hid hwb
  clear hwb
  go_wp2_with (first
    | (go_at_call 44; refine hcall.mono ?_; rintro e w2 ⟨x, T, rfl, hT, h2, t2⟩))
  go_ret
  exact ⟨x, T, rfl, hT, h2, tb.trans t2⟩

end Go.Proofs.YtgcpiofpjogjcaaGreatDoor.PK
