/-
  The steps of a disk, walked: Remove.
-/
import Derived.Test.YtgcpiofpjogjcaaGreatDoorDp
namespace Go.Proofs.YtgcpiofpjogjcaaGreatDoor.PK
open Go.RowKit Go.Maps Go.Proofs.YtgcpiofpjogjcaaGreatDoorW.PrintWords
set_option linter.unusedVariables false
set_option linter.unusedSimpArgs false
variable {own : Nat → Prop} {w w' : World}

set_option maxRecDepth 100000 in
set_option maxHeartbeats 1600000 in
theorem remove1_any (xb nb d : Nat) (S : Dk) (a : ByteArray) (w : World) (h : DiskAt w own d S) (hfr : Fresh own w) (ha : a.size ≤ 9223372036854775807) (hbig : S.chg.length ≤ 1099511627776)
    (hx : w.cell? ⟨xb, 0, none⟩ = some (.pointer (some ⟨d, 0, none⟩))) (hn : w.cell? ⟨nb, 0, none⟩ = some (.string a)) :
    Calls Tryz.prog 79 #[.pointer (some ⟨xb, 0, none⟩), .pointer (some ⟨nb, 0, none⟩)] w fun e w' => e = .returned (.int .i64 (S.has a)) ∧ DiskAt w' own d (S.removed a) ∧ Turn own w w' := by
  have HW := h
  obtain ⟨bn, bs, pc, cc, pp, cp, pd, cd, h⟩ := h
  obtain ⟨c0, c1, c2, c3, c4, c5, c6⟩ := seven_cells h.blk
  have hlk2 : ∀ k, (Instr.lookup 79 (.map (some bn)) (.string a) false).run Tryz.prog (w.drewN k) = .ok (fileV (look S.now (key a))) (w.drewN k) := fun k => look_run (w := w.drewN k) (h.now) a ha
  unfold Dk.has Dk.removed
  have hn1 : ∀ f, (applyC S.now ⟨a, ⟨#[]⟩, f⟩).length ≤ 400 := fun f => by
    have := h.now1
    have h1 := length_del S.now (key a)
    unfold applyC
    simp only [if_true]
    split <;> omega
  have HH := Lib.hid HW; have HF := Lib.hid hfr; have HN := Lib.hid hn1
  clear h hfr HW hn1
  cases hl : look S.now (key a) with
  | none =>
    rw [hl] at hlk2
    simp only [fileV] at hlk2
    go_enter Tryz.func79, Tryz.ntmps79
    go_wp2
    go_quiet (fail)
    go_wp2
    go_ret
    exact ⟨rfl, HH.out.below (pw_below_drewN (Below.refl _ _) _), (Turn.refl _ _).drewN _⟩
  | some f =>
    rw [hl] at hlk2
    simp only [fileV] at hlk2
    simp only [if_neg (show ¬ (some f : Option Nat) = none from by simp)]
    go_enter Tryz.func79, Tryz.ntmps79
    go_wp2
    go_quiet (fail)
    go_wp2_with (first
      | (go_at_call 63; refine (alter_any d _ ⟨a, ⟨#[]⟩, none⟩ _ (HH.out.below (pw_below_drewN (Below.refl _ _) nq)) (HF.out.step (Nat.le_refl _)) ⟨ha, (by show (0 : Nat) ≤ 9223372036854775807; omega), fun hne => absurd rfl hne⟩ (fun g hg => by cases hg) (HN.out _) hbig).mono ?_; rintro e w2 ⟨rfl, hd2, ht2⟩))
    go_ret
    exact ⟨rfl, hd2, ((Turn.refl _ _).drewN _).trans ht2⟩
end Go.Proofs.YtgcpiofpjogjcaaGreatDoor.PK
