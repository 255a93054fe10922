/-
  The laws' own 'other': a call that gives no timestamp out, as a function of the state.
-/
import Derived.Test.YtiijkehiphkkiaaEn
namespace Go.Proofs.Ytiijkehiphkkiaa
open Go.RowKit Go.Maps Go.Sort

/-- A clock behind a call that gives no timestamp out. -/
def St.other (s : St) (k t : Int) : St :=
  if k = 1 then s.tick t else if k = 3 then s.end t else if k = 4 then s.end t else if k = 6 then s.move t else if k = 7 then s.pin t else if k = 8 then s.unpin t
  else if k = 9 then (match rise s.F with | [] => s | x :: _ => s.end x) else s

theorem kinds8 (x : Int) : (x = 1 ∧ (x == 1) = true) ∨ (x = 3 ∧ (x == 1) = false ∧ (x == 3) = true) ∨ (x = 4 ∧ (x == 1) = false ∧ (x == 3) = false ∧ (x == 4) = true) ∨ (x = 6 ∧ (x == 1) = false ∧ (x == 3) = false ∧ (x == 4) = false ∧ (x == 6) = true) ∨
    (x = 7 ∧ (x == 1) = false ∧ (x == 3) = false ∧ (x == 4) = false ∧ (x == 6) = false ∧ (x == 7) = true) ∨ (x = 8 ∧ (x == 1) = false ∧ (x == 3) = false ∧ (x == 4) = false ∧ (x == 6) = false ∧ (x == 7) = false ∧ (x == 8) = true) ∨
    (x = 9 ∧ (x == 1) = false ∧ (x == 3) = false ∧ (x == 4) = false ∧ (x == 6) = false ∧ (x == 7) = false ∧ (x == 8) = false ∧ (x == 9) = true) ∨
    ((x ≠ 1 ∧ x ≠ 3 ∧ x ≠ 4 ∧ x ≠ 6 ∧ x ≠ 7 ∧ x ≠ 8 ∧ x ≠ 9) ∧ (x == 1) = false ∧ (x == 3) = false ∧ (x == 4) = false ∧ (x == 6) = false ∧ (x == 7) = false ∧ (x == 8) = false ∧ (x == 9) = false) := by
  simp only [beq_iff_eq, beq_eq_false_iff_ne]; omega

set_option maxRecDepth 100000 in
set_option maxHeartbeats 2000000 in
theorem other_any (c n : Nat) (s : St) (k t : Int) (w : World) (hC : ClockAt w c n s) (hn : n * 8 ≤ 140737488355328) (ht : (Lit.int .i64 t).wf = true) :
    Calls Try.prog 19 #[.pointer (some ⟨c + 2, 0, none⟩), .agg #[.int .i64 k, .int .i64 t]] w fun e w' => e = .returned (.tuple #[]) ∧ ClockAt w' c (n + 1) (s.other k t) ∧ Turn c w w' := by
  have hA := hC.below ((Below.refl w.heap.size w).alloc (Nat.le_refl _) (.cells #[.int .i64 k, .int .i64 t] 28 (0, 0)))
  have tA : Turn c w (w.alloc (.cells #[.int .i64 k, .int .i64 t] 28 (0, 0))) := Turn.of_below ((Below.refl w.heap.size w).alloc (Nat.le_refl _) _)
  have hn2 : n < 4611686018427387904 := by omega
  rcases kinds8 k with ⟨H, g1⟩ | ⟨H, g1, g3⟩ | ⟨H, g1, g3, g4⟩ | ⟨H, g1, g3, g4, g6⟩ | ⟨H, g1, g3, g4, g6, g7⟩ | ⟨H, g1, g3, g4, g6, g7, g8⟩ | ⟨H, g1, g3, g4, g6, g7, g8, g9⟩ | ⟨H, g1, g3, g4, g6, g7, g8, g9⟩
  · have hs : s.other k t = s.tick t := by subst H; rfl
    have HS := Lib.hid hs; clear hs H
    go_enter Try.func19, Try.ntmps19
    go_wp2_with (go_at_call 16; refine (tick_any c n s t _ hA ht).mono ?_; rintro e w3 ⟨rfl, h3, t3⟩)
    go_end0
    exact ⟨rfl, HS.out ▸ h3.mono (Nat.le_succ _), tA.trans t3⟩
  · have hs : s.other k t = s.end t := by subst H; rfl
    have HS := Lib.hid hs; clear hs H
    go_enter Try.func19, Try.ntmps19
    go_wp2_with (go_at_call 14; refine (commit_any c n s t _ hA hn2 ht).mono ?_; rintro e w3 ⟨rfl, h3, t3⟩)
    go_end0
    exact ⟨rfl, HS.out ▸ h3, tA.trans t3⟩
  · have hs : s.other k t = s.end t := by subst H; rfl
    have HS := Lib.hid hs; clear hs H
    go_enter Try.func19, Try.ntmps19
    go_wp2_with (go_at_call 15; refine (abort_any c n s t _ hA hn2 ht).mono ?_; rintro e w3 ⟨rfl, h3, t3⟩)
    go_end0
    exact ⟨rfl, HS.out ▸ h3, tA.trans t3⟩
  · have hs : s.other k t = s.move t := by subst H; rfl
    have HS := Lib.hid hs; clear hs H
    go_enter Try.func19, Try.ntmps19
    go_wp2_with (go_at_call 48; refine (move_any c n s t _ hA).mono ?_; rintro e w3 ⟨rfl, h3, t3⟩)
    go_end0
    exact ⟨rfl, HS.out ▸ h3.mono (Nat.le_succ _), tA.trans t3⟩
  · have hs : s.other k t = s.pin t := by subst H; rfl
    have HS := Lib.hid hs; clear hs H
    go_enter Try.func19, Try.ntmps19
    go_wp2_with (go_at_call 25; refine (pin_any c n s t _ hA hn2).mono ?_; rintro e w3 ⟨rfl, h3, t3⟩)
    go_end0
    exact ⟨rfl, HS.out ▸ h3, tA.trans t3⟩
  · have hs : s.other k t = s.unpin t := by subst H; rfl
    have HS := Lib.hid hs; clear hs H
    go_enter Try.func19, Try.ntmps19
    go_wp2_with (go_at_call 53; refine (unpin_any c n s t _ hA hn2 ht).mono ?_; rintro e w3 ⟨rfl, h3, t3⟩)
    go_end0
    exact ⟨rfl, HS.out ▸ h3, tA.trans t3⟩
  · cases hF : rise s.F with
    | nil =>
      have hs : s.other k t = s := by subst H; simp [St.other, hF]
      have HS := Lib.hid hs; have HF := Lib.hid hF; clear hs H hF
      go_enter Try.func19, Try.ntmps19
      go_wp2_with (go_at_call 17; refine (flight_any c n s _ hA hn).mono ?_; rintro e w3 ⟨v, rfl, h3, t3⟩; rw [HF.out] at h3; rcases h3.row.2 with ⟨hv5, hz5⟩ | ⟨g5, cap5, cur5, hv5, p2, p3, p4, p5, p6, p7⟩ <;> subst hv5)
      all_goals
        go_end0
        exact ⟨rfl, by rw [HS.out]; exact (hA.below t3).mono (Nat.le_succ _), tA.trans (Turn.of_below t3)⟩
    | cons x l =>
      have hs : s.other k t = s.end x := by subst H; simp [St.other, hF]
      have hx : (Lit.int .i64 x).wf = true := hC.fl.wf x ((rise_perm s.F).mem_iff.1 (by rw [hF]; simp))
      have HS := Lib.hid hs; have HF := Lib.hid hF; clear hs H hF
      go_enter Try.func19, Try.ntmps19
      go_wp2_with (first
        | (go_at_call 17; refine (flight_any c n s _ hA hn).mono ?_; rintro e w3 ⟨v, rfl, h3, t3⟩; rw [HF.out] at h3; rcases h3.slice (by simp) with ⟨g5, cap5, cur5, hv5, p2, p3, p4, p5, p6, p7⟩; subst hv5; have hcell : w3.cell? ⟨g5, 0, none⟩ = some (.int .i64 x) := (by rw [h3.row.cellAt 0 (by simp)]; rfl); clear p2 p3 p4 p5 p6 p7 h3)
        | (go_at_call 14; refine (commit_any c n s x _ (hA.below t3) hn2 hx).mono ?_; rintro e w4 ⟨rfl, h4, t4⟩))
      go_end0
      exact ⟨rfl, HS.out ▸ h4, tA.trans ((Turn.of_below t3).trans t4)⟩
  · have hs : s.other k t = s := by simp [St.other, H]
    have HS := Lib.hid hs; clear hs H
    go_enter Try.func19, Try.ntmps19
    go_wp2
    go_end0
    exact ⟨rfl, by rw [HS.out]; exact hA.mono (Nat.le_succ _), tA⟩

end Go.Proofs.Ytiijkehiphkkiaa
