/-
  The contracts of the package mvcc, more: Tick, Raise, Move, Pin, Unpin. No conditions but sizes.
-/
import Derived.Test.YtiijkehiphkkiaaMv
import Derived.RegionTactic
import Derived.BigRegion
namespace Go.Proofs.Ytiijkehiphkkiaa
open Go.RowKit Go.Maps

/-- A clock's state behind n ticks. -/
def St.tick (s : St) (n : Int) : St := { s with now := s.now + min (max n 0) (1099511627777 - s.now) }
def St.raise (s : St) (t : Int) : St := { s with last := max s.last (min t 1099511627776) }

theorem ClockAt.drew {w : World} {c n : Nat} {s : St} (h : ClockAt w c n s) : ClockAt w.drew c n s := h.kept rfl rfl rfl
theorem Turn.drew {c : Nat} {w w' : World} (h : Turn c w w') : Turn c w w'.drew := ⟨h.os, h.tape, h.output, h.size, h.block⟩

theorem tick_any (c n : Nat) (s : St) (t : Int) (w : World) (h : ClockAt w c n s) (ht : (Lit.int .i64 t).wf = true) :
    Calls Try.prog 16 #[.pointer (some ⟨c + 2, 0, none⟩), .int .i64 t] w fun e w' => e = .returned (.tuple #[]) ∧ ClockAt w' c n (s.tick t) ∧ Turn c w w' := by
  obtain ⟨c0, c1, c2, c3, c4⟩ := five_cells h.blk
  have f0 := five_free h.blk 0
  have b0 := h.now0; have b1 := h.now1
  have bt := wf_bounds ht
  go_enter Try.func16, Try.ntmps16
  go_wp2_with fail
  go_region
  go_end0
  refine ⟨rfl, ?_, (Turn.setCell _ _ (by simp) (by simp)).drew⟩
  have e : s.tick t = { s with now := s.now + if 1099511627777 - s.now < if t < 0 then 0 else t then 1099511627777 - s.now else if t < 0 then 0 else t } := by
    unfold St.tick; congr 2; split <;> split <;> omega
  rw [e]
  exact (h.setNow _ (by split <;> split <;> omega) (by split <;> split <;> omega)).drew

theorem ClockAt.raised {w : World} {c n : Nat} {s : St} (h : ClockAt w c n s) (t x : Int) (e : x = max s.last (min t 1099511627776)) : ClockAt (w.setCell ⟨c + 2, 1, none⟩ (.int .i64 x)) c n (s.raise t) := by
  have b0 := h.last0; have b1 := h.last1
  subst e
  exact h.setLast _ (by omega) (by omega)

theorem raise_any (c n : Nat) (s : St) (t : Int) (w : World) (hC : ClockAt w c n s) (ht : (Lit.int .i64 t).wf = true) :
    Calls Try.prog 58 #[.pointer (some ⟨c + 2, 0, none⟩), .int .i64 t] w fun e w' => e = .returned (.tuple #[]) ∧ ClockAt w' c n (s.raise t) ∧ Turn c w w' := by
  obtain ⟨c0, c1, c2, c3, c4⟩ := five_cells hC.blk
  have f0 := five_free hC.blk 1
  have b0 := hC.last0; have b1 := hC.last1
  have bt := wf_bounds ht
  go_enter Try.func58, Try.ntmps58
  go_wp2_with fail
  all_goals
    go_end0
    exact ⟨rfl, hC.raised _ _ (by omega), Turn.setCell _ _ (by simp) (by simp)⟩

theorem move_no (c n : Nat) (s : St) (t : Int) (w : World) (h : ClockAt w c n s) (hm : t < s.mark ∨ 1099511627776 < t) :
    Calls Try.prog 48 #[.pointer (some ⟨c + 2, 0, none⟩), .int .i64 t] w fun e w' => e = .returned (.int .i64 1) ∧ w = w' := by
  obtain ⟨c0, c1, c2, c3, c4⟩ := five_cells h.blk
  rcases hm with hm | hm
  all_goals
    go_enter Try.func48, Try.ntmps48
    go_wp2_with fail
    all_goals (go_ret; exact ⟨rfl, rfl⟩)

theorem move_yes (c n : Nat) (s : St) (t : Int) (w : World) (h : ClockAt w c n s) (hm : s.mark ≤ t) (hm2 : t ≤ 1099511627776) :
    Calls Try.prog 48 #[.pointer (some ⟨c + 2, 0, none⟩), .int .i64 t] w fun e w' => e = .returned (.int .i64 0) ∧ ClockAt w' c n { s with mark := t } ∧ Turn c w w' := by
  obtain ⟨c0, c1, c2, c3, c4⟩ := five_cells h.blk
  have f2 := five_free h.blk 2
  have b0 := h.mark0
  go_enter Try.func48, Try.ntmps48
  go_wp2_with fail
  go_ret
  exact ⟨rfl, h.setMark t (by omega) hm2, Turn.setCell _ _ (by simp) (by simp)⟩

theorem pin_arg (c n : Nat) (s : St) (t : Int) (w : World) (h : ClockAt w c n s) (hm : t < 0 ∨ 1099511627776 < t) :
    Calls Try.prog 25 #[.pointer (some ⟨c + 2, 0, none⟩), .int .i64 t] w fun e w' => e = .returned (.int .i64 1) ∧ w = w' := by
  obtain ⟨c0, c1, c2, c3, c4⟩ := five_cells h.blk
  rcases hm with hm | hm
  all_goals
    go_enter Try.func25, Try.ntmps25
    go_wp2_with fail
    all_goals (go_ret; exact ⟨rfl, rfl⟩)

theorem pin_old (c n : Nat) (s : St) (t : Int) (w : World) (h : ClockAt w c n s) (h0 : 0 ≤ t) (h1 : t ≤ 1099511627776) (hm : t < s.mark) :
    Calls Try.prog 25 #[.pointer (some ⟨c + 2, 0, none⟩), .int .i64 t] w fun e w' => e = .returned (.int .i64 171) ∧ w = w' := by
  obtain ⟨c0, c1, c2, c3, c4⟩ := five_cells h.blk
  go_enter Try.func25, Try.ntmps25
  go_wp2_with fail
  all_goals (go_ret; exact ⟨rfl, rfl⟩)

theorem pin_yes (c n : Nat) (s : St) (t : Int) (w : World) (h : ClockAt w c n s) (h0 : 0 ≤ t) (h1 : t ≤ 1099511627776) (hm : s.mark ≤ t) (hn : n < 4611686018427387904) :
    Calls Try.prog 25 #[.pointer (some ⟨c + 2, 0, none⟩), .int .i64 t] w fun e w' => e = .returned (.int .i64 0) ∧ ClockAt w' c (n + 1) { s with P := t :: s.P } ∧ Turn c w w' := by
  obtain ⟨c0, c1, c2, c3, c4⟩ := five_cells h.blk
  go_enter Try.func25, Try.ntmps25
  go_wp2_with (go_at_call 50; refine (add_any (c + 1) n s.P t _ h.pi hn (WalkArith.wf_i64 (by omega))).mono ?_; rintro e w1 ⟨rfl, h3, h4⟩)
  go_ret
  exact ⟨rfl, h.turnP h4 h3 (by omega) (fun x hx => by rcases List.mem_cons.1 hx with rfl | hx
                                                       · omega
                                                       · exact h.p0 x hx), Turn.of_grown h4.grown (by omega) (by omega)⟩

theorem unpin_yes (c n : Nat) (s : St) (t : Int) (w : World) (h : ClockAt w c n s) (hn : n < 4611686018427387904) (hm : t ∈ s.P) :
    Calls Try.prog 53 #[.pointer (some ⟨c + 2, 0, none⟩), .int .i64 t] w fun e w' => e = .returned (.int .i64 0) ∧ ClockAt w' c (n + 1) { s with P := s.P.erase t } ∧ Turn c w w' := by
  obtain ⟨c0, c1, c2, c3, c4⟩ := five_cells h.blk
  go_enter Try.func53, Try.ntmps53
  go_wp2_with (go_at_call 88; refine (drop_yes (c + 1) n s.P t _ h.pi hn hm).mono ?_; rintro e w1 ⟨rfl, h3, h4⟩)
  go_ret
  exact ⟨rfl, h.turnP h4 h3 (by omega) (fun x hx => h.p0 x (List.mem_of_mem_erase hx)), Turn.of_grown h4.grown (by omega) (by omega)⟩

theorem unpin_no (c n : Nat) (s : St) (t : Int) (w : World) (h : ClockAt w c n s) (hm : t ∉ s.P) (ht : (Lit.int .i64 t).wf = true) :
    Calls Try.prog 53 #[.pointer (some ⟨c + 2, 0, none⟩), .int .i64 t] w fun e w' => e = .returned (.int .i64 172) ∧ ClockAt w' c n s ∧ Turn c w w' := by
  obtain ⟨c0, c1, c2, c3, c4⟩ := five_cells h.blk
  go_enter Try.func53, Try.ntmps53
  go_wp2_with (go_at_call 88; refine (drop_no (c + 1) n s.P t _ h.pi hm ht).mono ?_; rintro e w1 ⟨rfl, h3, h4⟩)
  go_ret
  exact ⟨rfl, h.turnP h4 h3 (by omega) h.p0, Turn.of_grown h4.grown (by omega) (by omega)⟩

/-- Move, Pin and Unpin as functions of the state. -/
def St.move (s : St) (t : Int) : St := if t < s.mark ∨ 1099511627776 < t then s else { s with mark := t }
def St.moveErr (s : St) (t : Int) : Int := if t < s.mark ∨ 1099511627776 < t then 1 else 0
def St.pin (s : St) (t : Int) : St := if t < 0 ∨ 1099511627776 < t then s else if t < s.mark then s else { s with P := t :: s.P }
def St.pinErr (s : St) (t : Int) : Int := if t < 0 ∨ 1099511627776 < t then 1 else if t < s.mark then 171 else 0
def St.unpin (s : St) (t : Int) : St := if t ∈ s.P then { s with P := s.P.erase t } else s
def St.unpinErr (s : St) (t : Int) : Int := if t ∈ s.P then 0 else 172
def St.begin (s : St) : St := if 1099511627776 < s.next then s else { s with last := s.next, F := s.next :: s.F }
def St.beginTime (s : St) : Int := if 1099511627776 < s.next then 0 else s.next
def St.beginErr (s : St) : Int := if 1099511627776 < s.next then 170 else 0

theorem move_any (c n : Nat) (s : St) (t : Int) (w : World) (h : ClockAt w c n s) :
    Calls Try.prog 48 #[.pointer (some ⟨c + 2, 0, none⟩), .int .i64 t] w fun e w' => e = .returned (.int .i64 (s.moveErr t)) ∧ ClockAt w' c n (s.move t) ∧ Turn c w w' := by
  unfold St.moveErr St.move
  by_cases hm : t < s.mark ∨ 1099511627776 < t
  · rw [if_pos hm, if_pos hm]; exact (move_no c n s t w h hm).mono fun e w' ⟨a, b⟩ => ⟨a, b ▸ h, b ▸ Turn.refl _ _⟩
  · rw [if_neg hm, if_neg hm]; exact move_yes c n s t w h (by omega) (by omega)

theorem pin_any (c n : Nat) (s : St) (t : Int) (w : World) (h : ClockAt w c n s) (hn : n < 4611686018427387904) :
    Calls Try.prog 25 #[.pointer (some ⟨c + 2, 0, none⟩), .int .i64 t] w fun e w' => e = .returned (.int .i64 (s.pinErr t)) ∧ ClockAt w' c (n + 1) (s.pin t) ∧ Turn c w w' := by
  unfold St.pinErr St.pin
  by_cases hm : t < 0 ∨ 1099511627776 < t
  · rw [if_pos hm, if_pos hm]; exact (pin_arg c n s t w h hm).mono fun e w' ⟨a, b⟩ => ⟨a, b ▸ h.mono (Nat.le_succ _), b ▸ Turn.refl _ _⟩
  · rw [if_neg hm, if_neg hm]
    by_cases h2 : t < s.mark
    · rw [if_pos h2, if_pos h2]; exact (pin_old c n s t w h (by omega) (by omega) h2).mono fun e w' ⟨a, b⟩ => ⟨a, b ▸ h.mono (Nat.le_succ _), b ▸ Turn.refl _ _⟩
    · rw [if_neg h2, if_neg h2]; exact pin_yes c n s t w h (by omega) (by omega) (by omega) hn

theorem unpin_any (c n : Nat) (s : St) (t : Int) (w : World) (h : ClockAt w c n s) (hn : n < 4611686018427387904) (ht : (Lit.int .i64 t).wf = true) :
    Calls Try.prog 53 #[.pointer (some ⟨c + 2, 0, none⟩), .int .i64 t] w fun e w' => e = .returned (.int .i64 (s.unpinErr t)) ∧ ClockAt w' c (n + 1) (s.unpin t) ∧ Turn c w w' := by
  unfold St.unpinErr St.unpin
  by_cases hm : t ∈ s.P
  · rw [if_pos hm, if_pos hm]; exact unpin_yes c n s t w h hn hm
  · rw [if_neg hm, if_neg hm]; exact (unpin_no c n s t w h hm ht).mono fun e w' ⟨a, b, d⟩ => ⟨a, b.mono (Nat.le_succ _), d⟩

theorem begin_any (c n : Nat) (s : St) (w : World) (h : ClockAt w c n s) (hn : n < 4611686018427387904) :
    Calls Try.prog 13 #[.pointer (some ⟨c + 2, 0, none⟩)] w fun e w' => e = .returned (.tuple #[.int .i64 s.beginTime, .int .i64 s.beginErr]) ∧ ClockAt w' c (n + 1) s.begin ∧ Turn c w w' := by
  unfold St.beginTime St.beginErr St.begin
  by_cases hm : 1099511627776 < s.next
  · rw [if_pos hm, if_pos hm, if_pos hm]; exact (begin_no c n s w h hm).mono fun e w' ⟨a, b, d⟩ => ⟨a, b.mono (Nat.le_succ _), d⟩
  · rw [if_neg hm, if_neg hm, if_neg hm]; exact begin_yes c n s w h (by omega) hn

end Go.Proofs.Ytiijkehiphkkiaa
