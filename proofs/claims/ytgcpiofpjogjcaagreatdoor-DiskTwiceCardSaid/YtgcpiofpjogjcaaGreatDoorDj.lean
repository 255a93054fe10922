/-
  A step under its fate, walked.
-/
import Derived.Test.YtgcpiofpjogjcaaGreatDoorDi
namespace Go.Proofs.YtgcpiofpjogjcaaGreatDoor.PK
open Go.RowKit Go.Maps Go.Proofs.YtgcpiofpjogjcaaGreatDoorW.PrintWords
set_option linter.unusedVariables false
set_option linter.unusedSimpArgs false
variable {own : Nat → Prop} {w w' : World}

/-- What a step answers, and the disk behind it: 'doE' and 'doS' what the step itself does, 'paS' what is left of it. -/
def Dk.stepSaid (S : Dk) (doE : Int) (doS : Dk → Prop) (paS : Int → Dk → Prop) (x : Int) (S' : Dk) : Prop :=
  if S.off then x = 140 ∧ S' = S
  else if S.fate.kind = 1 then x = 141 ∧ S' = S.stepped
  else if S.fate.kind = 2 then x = 142 ∧ paS (max S.fate.n 0) S'
  else if S.fate.kind = 3 then x = 140 ∧ S' = { S.stepped with off := true }
  else if S.fate.kind = 4 then x = 140 ∧ ∃ T, doS T ∧ S' = { T with off := true }
  else x = doE ∧ doS S'

theorem DiskAt.setOff {d : Nat} {S : Dk} (h : DiskAt w own d S) : DiskAt (w.setCell ⟨d, 6, none⟩ (.bool true)) own d { S with off := true } ∧ Turn own w (w.setCell ⟨d, 6, none⟩ (.bool true)) := by
  obtain ⟨bn, bs, pc, cc, pp, cp, pd, cd, h⟩ := h
  exact ⟨⟨bn, bs, pc, cc, pp, cp, pd, cd, h.setD rfl h.steps0 (block_setCell h.blk) (fun k _ hk => Below.heap_setCell _ _ _ _ hk)⟩, Turn.setCell _ _ h.od⟩

theorem DiskAt.flag {d : Nat} {S : Dk} (h : DiskAt w own d S) : w.cell? ⟨d, 6, none⟩ = some (.bool S.off) ∧ w.frozen? ⟨d, 6, none⟩ = false ∧ d < w.heap.size := by
  obtain ⟨bn, bs, pc, cc, pp, cp, pd, cd, h⟩ := h
  exact ⟨(seven_cells h.blk).2.2.2.2.2.2, all_free h.blk 6, lt_of_block h.blk⟩

set_option maxRecDepth 100000 in
set_option maxHeartbeats 1600000 in
theorem step_any (d g g2 : Nat) (lb lb2 : Array Value) (S : Dk) (doE : Int) (doS : Dk → Prop) (paS : Int → Dk → Prop) (w : World) (h : DiskAt w own d S) (hfr : Fresh own w) (hst : S.steps ≤ 4611686018427387904) (hpl : S.plan.length ≤ 4611686018427387904)
    (hdo : ∀ w1, DiskAt w1 own d S.stepped → Fresh own w1 → (∀ k, k < w.heap.size → k ≠ d → w1.heap[k]? = w.heap[k]?) → Calls Tryz.prog g lb w1 fun e w2 => e = .returned (.int .i64 doE) ∧ ∃ S', doS S' ∧ DiskAt w2 own d S' ∧ Turn own w1 w2)
    (hpa : S.fate.kind = 2 → ∀ w1 n, DiskAt w1 own d S.stepped → Fresh own w1 → (∀ k, k < w.heap.size → k ≠ d → w1.heap[k]? = w.heap[k]?) → Calls Tryz.prog g2 (#[.int .i64 n] ++ lb2) w1 fun e w2 => e = .returned (.tuple #[]) ∧ ∃ S', paS n S' ∧ DiskAt w2 own d S' ∧ Turn own w1 w2)
    (eg : ∀ args w, (callFunc g args).run Tryz.prog w = .ok (.enter g args) w) (eg2 : ∀ args w, (callFunc g2 args).run Tryz.prog w = .ok (.enter g2 args) w) :
    Calls Tryz.prog 44 #[.pointer (some ⟨d, 0, none⟩), .func (.func g) #[] lb, .func (.func g2) #[] lb2] w fun e w' => ∃ x S', e = .returned (.int .i64 x) ∧ S.stepSaid doE doS paS x S' ∧ DiskAt w' own d S' ∧ Turn own w w' := by
  have hfa := fate_any d S w h hst hpl
  have c6 : w.cell? ⟨d, 6, none⟩ = some (.bool S.off) := by
    obtain ⟨bn, bs, pc, cc, pp, cp, pd, cd, h⟩ := h
    exact (seven_cells h.blk).2.2.2.2.2.2
  unfold fatA at hfa
  cases ho : S.off
  · rw [ho] at c6
    by_cases e1 : S.fate.kind = 1
    · have b1 : (S.fate.kind == 1) = true := by simpa using e1
      have HE := Lib.hid e1; clear e1
      go_enter Tryz.func44, Tryz.ntmps44
      go_wp2_with (first
        | (go_at_call 71; refine hfa.mono ?_; rintro e w1 ⟨rfl, h1, t1, k1⟩; have hA := h1.below (w' := w1.alloc (.cells #[.int .i64 S.fate.step, .int .i64 S.fate.kind, .int .i64 S.fate.n] 69)) ((Below.refl _ _).alloc (Nat.le_refl _) _); obtain ⟨q6, z6, l6⟩ := hA.flag; have hF : Fresh own (w1.alloc (.cells #[.int .i64 S.fate.step, .int .i64 S.fate.kind, .int .i64 S.fate.n] 69)) := hfr.step (by have := t1.size; simp; omega); have tA : Turn own w (w1.alloc (.cells #[.int .i64 S.fate.step, .int .i64 S.fate.kind, .int .i64 S.fate.n] 69)) := t1.trans (Turn.alloc _); have kA : ∀ k, k < w.heap.size → k ≠ d → (w1.alloc (.cells #[.int .i64 S.fate.step, .int .i64 S.fate.kind, .int .i64 S.fate.n] 69)).heap[k]? = w.heap[k]? := fun k hk hkd => (Below.heap_alloc _ _ _ (by have := t1.size; omega)).trans (k1 k hk hkd)))
      go_ret
      exact ⟨141, _, rfl, by unfold Dk.stepSaid; rw [if_neg (by rw [ho]; simp)]; rw [if_pos HE.out]; exact ⟨rfl, rfl⟩, hA, tA⟩
    · have b1 : (S.fate.kind == 1) = false := by simpa using e1
      by_cases e2 : S.fate.kind = 2
      · have b2 : (S.fate.kind == 2) = true := by simpa using e2
        have HE := Lib.hid e2; have HN := Lib.hid e1; clear e1 e2
        go_enter Tryz.func44, Tryz.ntmps44
        go_wp2_with (first
          | (go_at_call 71; refine hfa.mono ?_; rintro e w1 ⟨rfl, h1, t1, k1⟩; have hA := h1.below (w' := w1.alloc (.cells #[.int .i64 S.fate.step, .int .i64 S.fate.kind, .int .i64 S.fate.n] 69)) ((Below.refl _ _).alloc (Nat.le_refl _) _); obtain ⟨q6, z6, l6⟩ := hA.flag; have hF : Fresh own (w1.alloc (.cells #[.int .i64 S.fate.step, .int .i64 S.fate.kind, .int .i64 S.fate.n] 69)) := hfr.step (by have := t1.size; simp; omega); have tA : Turn own w (w1.alloc (.cells #[.int .i64 S.fate.step, .int .i64 S.fate.kind, .int .i64 S.fate.n] 69)) := t1.trans (Turn.alloc _); have kA : ∀ k, k < w.heap.size → k ≠ d → (w1.alloc (.cells #[.int .i64 S.fate.step, .int .i64 S.fate.kind, .int .i64 S.fate.n] 69)).heap[k]? = w.heap[k]? := fun k hk hkd => (Below.heap_alloc _ _ _ (by have := t1.size; omega)).trans (k1 k hk hkd))
          | (go_at_fn g2; refine (hpa HE.out _ _ hA hF kA).mono ?_; rintro e w2 ⟨rfl, T, hT, h2, t2⟩))
        go_ret
        exact ⟨142, _, rfl, by unfold Dk.stepSaid; rw [if_neg (by rw [ho]; simp)]; rw [if_neg HN.out, if_pos HE.out]; exact ⟨rfl, hT⟩, h2, tA.trans t2⟩
      · have b2 : (S.fate.kind == 2) = false := by simpa using e2
        by_cases e3 : S.fate.kind = 3
        · have b3 : (S.fate.kind == 3) = true := by simpa using e3
          have HE := Lib.hid e3; have HN := Lib.hid (And.intro e1 e2); clear e1 e2 e3
          go_enter Tryz.func44, Tryz.ntmps44
          go_wp2_with (first
            | (go_at_call 71; refine hfa.mono ?_; rintro e w1 ⟨rfl, h1, t1, k1⟩; have hA := h1.below (w' := w1.alloc (.cells #[.int .i64 S.fate.step, .int .i64 S.fate.kind, .int .i64 S.fate.n] 69)) ((Below.refl _ _).alloc (Nat.le_refl _) _); obtain ⟨q6, z6, l6⟩ := hA.flag; have hF : Fresh own (w1.alloc (.cells #[.int .i64 S.fate.step, .int .i64 S.fate.kind, .int .i64 S.fate.n] 69)) := hfr.step (by have := t1.size; simp; omega); have tA : Turn own w (w1.alloc (.cells #[.int .i64 S.fate.step, .int .i64 S.fate.kind, .int .i64 S.fate.n] 69)) := t1.trans (Turn.alloc _); have kA : ∀ k, k < w.heap.size → k ≠ d → (w1.alloc (.cells #[.int .i64 S.fate.step, .int .i64 S.fate.kind, .int .i64 S.fate.n] 69)).heap[k]? = w.heap[k]? := fun k hk hkd => (Below.heap_alloc _ _ _ (by have := t1.size; omega)).trans (k1 k hk hkd)))
          go_ret
          exact ⟨140, _, rfl, by unfold Dk.stepSaid; rw [if_neg (by rw [ho]; simp)]; rw [if_neg HN.out.1, if_neg HN.out.2, if_pos HE.out]; exact ⟨rfl, rfl⟩, hA.setOff.1, tA.trans hA.setOff.2⟩
        · have b3 : (S.fate.kind == 3) = false := by simpa using e3
          by_cases e4 : S.fate.kind = 4
          · have b4 : (S.fate.kind == 4) = true := by simpa using e4
            have HE := Lib.hid e4; have HN := Lib.hid (And.intro e1 (And.intro e2 e3)); clear e1 e2 e3 e4
            go_enter Tryz.func44, Tryz.ntmps44
            go_wp2_with (first
              | (go_at_call 71; refine hfa.mono ?_; rintro e w1 ⟨rfl, h1, t1, k1⟩; have hA := h1.below (w' := w1.alloc (.cells #[.int .i64 S.fate.step, .int .i64 S.fate.kind, .int .i64 S.fate.n] 69)) ((Below.refl _ _).alloc (Nat.le_refl _) _); obtain ⟨q6, z6, l6⟩ := hA.flag; have hF : Fresh own (w1.alloc (.cells #[.int .i64 S.fate.step, .int .i64 S.fate.kind, .int .i64 S.fate.n] 69)) := hfr.step (by have := t1.size; simp; omega); have tA : Turn own w (w1.alloc (.cells #[.int .i64 S.fate.step, .int .i64 S.fate.kind, .int .i64 S.fate.n] 69)) := t1.trans (Turn.alloc _); have kA : ∀ k, k < w.heap.size → k ≠ d → (w1.alloc (.cells #[.int .i64 S.fate.step, .int .i64 S.fate.kind, .int .i64 S.fate.n] 69)).heap[k]? = w.heap[k]? := fun k hk hkd => (Below.heap_alloc _ _ _ (by have := t1.size; omega)).trans (k1 k hk hkd))
              | (go_at_fn g; refine (hdo _ hA hF kA).mono ?_; rintro e w2 ⟨rfl, T, hT, h2, t2⟩; obtain ⟨q7, z7, l7⟩ := h2.flag))
            go_ret
            exact ⟨140, _, rfl, by unfold Dk.stepSaid; rw [if_neg (by rw [ho]; simp)]; rw [if_neg HN.out.1, if_neg HN.out.2.1, if_neg HN.out.2.2, if_pos HE.out]; exact ⟨rfl, T, hT, rfl⟩, h2.setOff.1, (tA.trans t2).trans h2.setOff.2⟩
          · have b4 : (S.fate.kind == 4) = false := by simpa using e4
            have HN := Lib.hid (And.intro e1 (And.intro e2 (And.intro e3 e4))); clear e1 e2 e3 e4
            go_enter Tryz.func44, Tryz.ntmps44
            go_wp2_with (first
              | (go_at_call 71; refine hfa.mono ?_; rintro e w1 ⟨rfl, h1, t1, k1⟩; have hA := h1.below (w' := w1.alloc (.cells #[.int .i64 S.fate.step, .int .i64 S.fate.kind, .int .i64 S.fate.n] 69)) ((Below.refl _ _).alloc (Nat.le_refl _) _); obtain ⟨q6, z6, l6⟩ := hA.flag; have hF : Fresh own (w1.alloc (.cells #[.int .i64 S.fate.step, .int .i64 S.fate.kind, .int .i64 S.fate.n] 69)) := hfr.step (by have := t1.size; simp; omega); have tA : Turn own w (w1.alloc (.cells #[.int .i64 S.fate.step, .int .i64 S.fate.kind, .int .i64 S.fate.n] 69)) := t1.trans (Turn.alloc _); have kA : ∀ k, k < w.heap.size → k ≠ d → (w1.alloc (.cells #[.int .i64 S.fate.step, .int .i64 S.fate.kind, .int .i64 S.fate.n] 69)).heap[k]? = w.heap[k]? := fun k hk hkd => (Below.heap_alloc _ _ _ (by have := t1.size; omega)).trans (k1 k hk hkd))
              | (go_at_fn g; refine (hdo _ hA hF kA).mono ?_; rintro e w2 ⟨rfl, T, hT, h2, t2⟩))
            go_ret
            exact ⟨doE, T, rfl, by unfold Dk.stepSaid; rw [if_neg (by rw [ho]; simp)]; rw [if_neg HN.out.1, if_neg HN.out.2.1, if_neg HN.out.2.2.1, if_neg HN.out.2.2.2]; exact ⟨rfl, hT⟩, h2, tA.trans t2⟩
  · rw [ho] at c6
    go_enter Tryz.func44, Tryz.ntmps44
    go_wp2
    go_ret
    exact ⟨140, S, rfl, by unfold Dk.stepSaid; rw [if_pos ho]; exact ⟨rfl, rfl⟩, h, Turn.refl _ _⟩
end Go.Proofs.YtgcpiofpjogjcaaGreatDoor.PK
