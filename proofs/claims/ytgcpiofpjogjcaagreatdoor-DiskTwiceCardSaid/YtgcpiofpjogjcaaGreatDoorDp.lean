/-
  The steps of a disk, walked: Rename and Remove.
-/
import Derived.Test.YtgcpiofpjogjcaaGreatDoorDn
namespace Go.Proofs.YtgcpiofpjogjcaaGreatDoor.PK
open Go.RowKit Go.Maps Go.Proofs.YtgcpiofpjogjcaaGreatDoorW.PrintWords
set_option linter.unusedVariables false
set_option linter.unusedSimpArgs false
variable {own : Nat → Prop} {w w' : World}

theorem length_del_look {l : Dir} {k : List UInt8} {f : Nat} (h : look l k = some f) : (del l k).length < l.length := by
  unfold del
  exact List.length_filter_lt_length_iff_exists.2 ⟨(k, f), look_mem h, by simp⟩
theorem renamed_len {l : Dir} {a b : ByteArray} {f : Nat} (h : look l (key a) = some f) (e : a ≠ ⟨#[]⟩) : (applyC l ⟨a, b, some f⟩).length ≤ l.length := by
  unfold applyC
  simp only
  rw [if_neg e]
  have h1 := length_del_look h
  have h2 := length_put (del l (key a)) (key b) f
  split <;> omega
theorem toList_ne {a b : ByteArray} (h : ¬ a = b) : (a.toList == b.toList) = false := by
  rw [ByteArray.toList_eq, ByteArray.toList_eq]
  cases hc : (a.data.toList == b.data.toList)
  · rfl
  · exfalso
    have h1 : a.data.toList = b.data.toList := by simpa using hc
    exact h (by obtain ⟨⟨la⟩⟩ := a; obtain ⟨⟨lb⟩⟩ := b; simp only at h1; rw [h1])
def Dk.renE (S : Dk) (a b : ByteArray) : Int := if look S.now (key a) = none then 143 else if bad b then 145 else 0
def Dk.renamed (S : Dk) (a b : ByteArray) : Dk := match look S.now (key a) with
  | none => S
  | some f => if bad b then S else if a = b then S else S.alter ⟨a, b, some f⟩
def Dk.removed (S : Dk) (a : ByteArray) : Dk := match look S.now (key a) with
  | none => S
  | some f => S.alter ⟨a, ⟨#[]⟩, none⟩

set_option maxRecDepth 100000 in
set_option maxHeartbeats 1600000 in
theorem rename1_any (xb nb tb d : Nat) (S : Dk) (a b : ByteArray) (w : World) (h : DiskAt w own d S) (hfr : Fresh own w) (ha : a.size ≤ 9223372036854775807) (hb : b.size ≤ 9223372036854775807) (hne : look S.now (key a) ≠ none → a ≠ ⟨#[]⟩) (hbig : S.chg.length ≤ 1099511627776)
    (hx : w.cell? ⟨xb, 0, none⟩ = some (.pointer (some ⟨d, 0, none⟩))) (hn : w.cell? ⟨nb, 0, none⟩ = some (.string a)) (ht : w.cell? ⟨tb, 0, none⟩ = some (.string b)) :
    Calls Tryz.prog 66 #[.pointer (some ⟨xb, 0, none⟩), .pointer (some ⟨nb, 0, none⟩), .pointer (some ⟨tb, 0, none⟩)] w fun e w' => e = .returned (.int .i64 (S.renE a b)) ∧ DiskAt w' own d (S.renamed a b) ∧ Turn own w w' := by
  have HW := h
  obtain ⟨bn, bs, pc, cc, pp, cp, pd, cd, h⟩ := h
  obtain ⟨c0, c1, c2, c3, c4, c5, c6⟩ := seven_cells h.blk
  have hlk2 : ∀ k, (Instr.lookup 79 (.map (some bn)) (.string a) false).run Tryz.prog (w.drewN k) = .ok (fileV (look S.now (key a))) (w.drewN k) := fun k => look_run (w := w.drewN k) (h.now) a ha
  have lx := World.block_lt_of_cell? w _ hx
  have ln := World.block_lt_of_cell? w _ hn
  have lt := World.block_lt_of_cell? w _ ht
  unfold Dk.renE Dk.renamed
  have hn1 := h.now1
  have hlive : ∀ f, look S.now (key a) = some f → S.fs f := fun f hf => h.ref f (live_now hf)
  have HH := Lib.hid HW; have HF := Lib.hid hfr; have HL := Lib.hid hlive; have HN := Lib.hid hne
  clear h hfr HW hlive hne
  cases hl : look S.now (key a) with
  | none =>
    rw [hl] at hlk2
    simp only [fileV] at hlk2
    go_enter Tryz.func66, Tryz.ntmps66
    go_wp2
    go_quiet (fail)
    go_wp2
    go_ret
    exact ⟨rfl, HH.out.below (pw_below_drewN (Below.refl _ _) _), (Turn.refl _ _).drewN _⟩
  | some f =>
    rw [hl] at hlk2
    simp only [fileV] at hlk2
    simp only [if_neg (show ¬ (some f : Option Nat) = none from by simp)]
    have hbn := badName_any b
    cases hbb : bad b
    · simp only [hbb] at hbn
      by_cases hab : a = b
      · have hab' : (a.toList == b.toList) = true := by rw [hab]; simp
        rw [if_pos hab]
        have HAB := Lib.hid hab; clear hab
        go_enter Tryz.func66, Tryz.ntmps66
        go_wp2
        go_quiet (fail)
        go_wp2_with (first
          | (go_at_call 67; refine (hbn _ hb).mono ?_; rintro e w1 ⟨rfl, hb1⟩; have x1 := (hb1.cell (p := ⟨xb, 0, none⟩) lx).trans hx; have n1 := (hb1.cell (p := ⟨nb, 0, none⟩) ln).trans hn; have t1 := (hb1.cell (p := ⟨tb, 0, none⟩) lt).trans ht))
        go_ret
        exact ⟨by simp, HH.out.below (below_then (pw_below_drewN (Below.refl _ _) nq) (Nat.le_refl _) hb1), ((Turn.refl _ _).drewN _).trans (Turn.of_below hb1)⟩
      · have hab' : (a.toList == b.toList) = false := toList_ne hab
        rw [if_neg hab]
        have HAB := Lib.hid hab; clear hab
        go_enter Tryz.func66, Tryz.ntmps66
        go_wp2
        go_quiet (fail)
        go_wp2_with (first
          | (go_at_call 67; refine (hbn _ hb).mono ?_; rintro e w1 ⟨rfl, hb1⟩; have x1 := (hb1.cell (p := ⟨xb, 0, none⟩) lx).trans hx; have n1 := (hb1.cell (p := ⟨nb, 0, none⟩) ln).trans hn; have t1 := (hb1.cell (p := ⟨tb, 0, none⟩) lt).trans ht)
          | (go_at_call 63; refine (alter_any d _ ⟨a, b, some f⟩ _ (HH.out.below (below_then (pw_below_drewN (Below.refl _ _) nq) (Nat.le_refl _) hb1)) (HF.out.step hb1.size) ⟨ha, hb, fun _ => ⟨_, rfl⟩⟩ (fun g hg => by injection hg with hg; exact hg ▸ HL.out _ hl) (Nat.le_trans (renamed_len hl (HN.out (by rw [hl]; simp))) hn1) hbig).mono ?_; rintro e w2 ⟨rfl, hd2, ht2⟩))
        go_ret
        exact ⟨by simp, by simpa using hd2, (((Turn.refl _ _).drewN _).trans (Turn.of_below hb1)).trans ht2⟩
    · simp only [hbb] at hbn
      simp only [if_true]
      go_enter Tryz.func66, Tryz.ntmps66
      go_wp2
      go_quiet (fail)
      go_wp2_with (first
          | (go_at_call 67; refine (hbn _ hb).mono ?_; rintro e w1 ⟨rfl, hb1⟩))
      go_ret
      exact ⟨rfl, HH.out.below (below_then (pw_below_drewN (Below.refl _ _) nq) (Nat.le_refl _) hb1), ((Turn.refl _ _).drewN _).trans (Turn.of_below hb1)⟩
end Go.Proofs.YtgcpiofpjogjcaaGreatDoor.PK
