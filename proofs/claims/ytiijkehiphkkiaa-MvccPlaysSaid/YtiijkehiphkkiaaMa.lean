/-
  The document's example of the clock answers true, whatever the memory.
-/
import Derived.Test.YtiijkehiphkkiaaMm
namespace Go.Proofs.Ytiijkehiphkkiaa
open Go.RowKit Go.Maps Go.Sort

theorem Turn.low {w w' : World} {c n : Nat} {s : St} (h : ClockAt w c n s) (t : Turn c w w') : Below c w w' := t.below (Nat.le_refl _) (by have := h.lt; omega)

theorem al_tick5 (c : Nat) (w : World) (h : ClockAt w c 0 ⟨0, -1, 0, [], []⟩) : Calls Try.prog 16 #[.pointer (some ⟨c + 2, 0, none⟩), .int .i64 5] w fun e w' => e = .returned (.tuple #[]) ∧ ClockAt w' c 0 ⟨5, -1, 0, [], []⟩ ∧ Below c w w' :=
  (tick_any c 0 _ 5 w h (by decide)).mono fun _ _ ⟨a, b, d⟩ => ⟨a, b, d.low h⟩
theorem al_begin5 (c : Nat) (w : World) (h : ClockAt w c 0 ⟨5, -1, 0, [], []⟩) : Calls Try.prog 13 #[.pointer (some ⟨c + 2, 0, none⟩)] w fun e w' => e = .returned (.tuple #[.int .i64 5, .int .i64 0]) ∧ ClockAt w' c 1 ⟨5, 5, 0, [5], []⟩ ∧ Below c w w' :=
  (begin_any c 0 _ w h (by decide)).mono fun _ _ ⟨a, b, d⟩ => ⟨a, b, d.low h⟩
theorem al_begin6 (c : Nat) (w : World) (h : ClockAt w c 1 ⟨5, 5, 0, [5], []⟩) : Calls Try.prog 13 #[.pointer (some ⟨c + 2, 0, none⟩)] w fun e w' => e = .returned (.tuple #[.int .i64 6, .int .i64 0]) ∧ ClockAt w' c 2 ⟨5, 6, 0, [6, 5], []⟩ ∧ Below c w w' :=
  (begin_any c 1 _ w h (by decide)).mono fun _ _ ⟨a, b, d⟩ => ⟨a, b, d.low h⟩
theorem al_clean (c n : Nat) (s : St) (w : World) (h : ClockAt w c n s) (x : Int) (hx : s.clean = x) : Calls Try.prog 20 #[.pointer (some ⟨c + 2, 0, none⟩)] w fun e w' => e = .returned (.int .i64 x) ∧ ClockAt w' c n s ∧ Below c w w' :=
  (clean_any c n s w h).mono fun _ _ ⟨a, d⟩ => ⟨by rw [a, hx], h.below d, d.mono (by have := h.lt; omega)⟩
theorem al_commit (c n : Nat) (s s' : St) (t : Int) (w : World) (h : ClockAt w c n s) (hn : n < 4611686018427387904) (ht : (Lit.int .i64 t).wf = true) (he : s.endErr t = 0) (hs : s.end t = s') :
    Calls Try.prog 14 #[.pointer (some ⟨c + 2, 0, none⟩), .int .i64 t] w fun e w' => e = .returned (.int .i64 0) ∧ ClockAt w' c (n + 1) s' ∧ Below c w w' :=
  (commit_any c n s t w h hn ht).mono fun _ _ ⟨a, b, d⟩ => ⟨by rw [a, he], hs ▸ b, d.low h⟩
theorem al_tick3 (c : Nat) (w : World) (h : ClockAt w c 4 ⟨5, 6, 0, [], []⟩) : Calls Try.prog 16 #[.pointer (some ⟨c + 2, 0, none⟩), .int .i64 3] w fun e w' => e = .returned (.tuple #[]) ∧ ClockAt w' c 4 ⟨8, 6, 0, [], []⟩ ∧ Below c w w' :=
  (tick_any c 4 _ 3 w h (by decide)).mono fun _ _ ⟨a, b, d⟩ => ⟨a, b, d.low h⟩
theorem al_move4 (c : Nat) (w : World) (h : ClockAt w c 4 ⟨8, 6, 0, [], []⟩) : Calls Try.prog 48 #[.pointer (some ⟨c + 2, 0, none⟩), .int .i64 4] w fun e w' => e = .returned (.int .i64 0) ∧ ClockAt w' c 4 ⟨8, 6, 4, [], []⟩ ∧ Below c w w' :=
  (move_any c 4 _ 4 w h).mono fun _ _ ⟨a, b, d⟩ => ⟨a, b, d.low h⟩
theorem al_pin4 (c : Nat) (w : World) (h : ClockAt w c 4 ⟨8, 6, 4, [], []⟩) : Calls Try.prog 25 #[.pointer (some ⟨c + 2, 0, none⟩), .int .i64 4] w fun e w' => e = .returned (.int .i64 0) ∧ ClockAt w' c 5 ⟨8, 6, 4, [], [4]⟩ ∧ Below c w w' :=
  (pin_any c 4 _ 4 w h (by decide)).mono fun _ _ ⟨a, b, d⟩ => ⟨a, b, d.low h⟩
theorem al_move6 (c : Nat) (w : World) (h : ClockAt w c 5 ⟨8, 6, 4, [], [4]⟩) : Calls Try.prog 48 #[.pointer (some ⟨c + 2, 0, none⟩), .int .i64 6] w fun e w' => e = .returned (.int .i64 0) ∧ ClockAt w' c 5 ⟨8, 6, 6, [], [4]⟩ ∧ Below c w w' :=
  (move_any c 5 _ 6 w h).mono fun _ _ ⟨a, b, d⟩ => ⟨a, b, d.low h⟩
theorem al_mark (c : Nat) (w : World) (h : ClockAt w c 5 ⟨8, 6, 6, [], [4]⟩) : Calls Try.prog 23 #[.pointer (some ⟨c + 2, 0, none⟩)] w fun e w' => e = .returned (.int .i64 6) ∧ w = w' := mark_any c 5 _ w h
theorem al_floor (c : Nat) (w : World) (h : ClockAt w c 5 ⟨8, 6, 6, [], [4]⟩) : Calls Try.prog 22 #[.pointer (some ⟨c + 2, 0, none⟩)] w fun e w' => e = .returned (.int .i64 4) ∧ ClockAt w' c 5 ⟨8, 6, 6, [], [4]⟩ ∧ Below c w w' :=
  (floor_any c 5 _ w h).mono fun _ _ ⟨a, d⟩ => ⟨a, h.below d, d.mono (by have := h.lt; omega)⟩
theorem al_pin5 (c : Nat) (w : World) (h : ClockAt w c 5 ⟨8, 6, 6, [], [4]⟩) : Calls Try.prog 25 #[.pointer (some ⟨c + 2, 0, none⟩), .int .i64 5] w fun e w' => e = .returned (.int .i64 171) ∧ ClockAt w' c 6 ⟨8, 6, 6, [], [4]⟩ ∧ Below c w w' :=
  (pin_any c 5 _ 5 w h (by decide)).mono fun _ _ ⟨a, b, d⟩ => ⟨a, b, d.low h⟩
theorem Ints.slice {w : World} {B : Nat} {v : Value} {l : List Int} (h : Ints w B v l) (h0 : l ≠ []) : ∃ g cap cur, v = .slice (some ⟨g, 0, none⟩) l.length cap ∧ B ≤ g ∧ w.heap[g]? = some (.cells cur 2 (0, 0)) ∧ l.length ≤ cap ∧ cap ≤ maxLen ∧ cur.size = cap * 1 ∧ cur.toList.take l.length = l.map (Value.int .i64) := by
  rcases h.row.2 with ⟨_, h2⟩ | ⟨g, cap, cur, a1, a2, a3, a4, a5, a6, a7⟩
  · exact absurd (List.eq_nil_of_length_eq_zero h2) h0
  · exact ⟨g, cap, cur, a1, a2, a3, a4, a5, a6, by simpa using a7⟩
theorem al_pins (c : Nat) (w : World) (h : ClockAt w c 6 ⟨8, 6, 6, [], [4]⟩) : Calls Try.prog 24 #[.pointer (some ⟨c + 2, 0, none⟩)] w fun e w' => ∃ g cap, e = .returned (.slice (some ⟨g, 0, none⟩) 1 cap) ∧ ClockAt w' c 6 ⟨8, 6, 6, [], [4]⟩ ∧ Below c w w' :=
  (pins_any c 6 _ w h (by decide)).mono fun _ _ ⟨v, a, b, d⟩ => by
    have hl : (rise [4]).length = 1 := by simp [rise]
    obtain ⟨g, cap, cur, h1, _⟩ := b.slice (fun h => by rw [show rise _ = [] from h] at hl; simp at hl)
    exact ⟨g, cap, by rw [a, h1]; show Ending.returned (.slice _ (rise [4]).length _) = _; rw [hl], h.below d, d.mono (by have := h.lt; omega)⟩
theorem al_last (c : Nat) (w : World) (h : ClockAt w c 6 ⟨8, 6, 6, [], [4]⟩) : Calls Try.prog 21 #[.pointer (some ⟨c + 2, 0, none⟩)] w fun e w' => e = .returned (.int .i64 6) ∧ w = w' := last_any c 6 _ w h
theorem al_now (c : Nat) (w : World) (h : ClockAt w c 6 ⟨8, 6, 6, [], [4]⟩) : Calls Try.prog 18 #[.pointer (some ⟨c + 2, 0, none⟩)] w fun e w' => e = .returned (.int .i64 8) ∧ w = w' := now_any c 6 _ w h

set_option maxRecDepth 100000 in
set_option maxHeartbeats 2000000 in
theorem alive_any (w : World) : Calls Try.prog 12 #[] w fun e w' => e = .returned (.bool true) ∧ Below w.heap.size w w' := by
  go_enter Try.func12, Try.ntmps12
  go_wp2_with fail
  refine (made_any _).mono ?_; rintro e w1 ⟨rfl, h1, b1, z1⟩; clear z1
  go_wp2_with fail
  refine (al_tick5 _ _ h1).mono ?_; rintro e w2 ⟨rfl, h2, b2⟩; replace b2 := b1.trans b2; clear h1 b1
  go_wp2_with fail
  refine (al_begin5 _ _ h2).mono ?_; rintro e w3 ⟨rfl, h3, b3⟩; replace b3 := b2.trans b3; clear h2 b2
  go_wp2_with fail
  refine (al_begin6 _ _ h3).mono ?_; rintro e w4 ⟨rfl, h4, b4⟩; replace b4 := b3.trans b4; clear h3 b3
  go_wp2_with fail
  refine (al_clean _ _ _ _ h4 4 rfl).mono ?_; rintro e w5 ⟨rfl, h5, b5⟩; replace b5 := b4.trans b5; clear h4 b4
  go_wp2_with fail
  refine (al_commit _ _ _ ⟨5, 6, 0, [5], []⟩ 6 _ h5 (by decide) (by decide) rfl rfl).mono ?_; rintro e w6 ⟨rfl, h6, b6⟩; replace b6 := b5.trans b6; clear h5 b5
  go_wp2_with fail
  refine (al_clean _ _ _ _ h6 4 rfl).mono ?_; rintro e w7 ⟨rfl, h7, b7⟩; replace b7 := b6.trans b7; clear h6 b6
  go_wp2_with fail
  refine (al_commit _ _ _ ⟨5, 6, 0, [], []⟩ 5 _ h7 (by decide) (by decide) rfl rfl).mono ?_; rintro e w8 ⟨rfl, h8, b8⟩; replace b8 := b7.trans b8; clear h7 b7
  go_wp2_with fail
  refine (al_clean _ _ _ _ h8 6 rfl).mono ?_; rintro e w9 ⟨rfl, h9, b9⟩; replace b9 := b8.trans b9; clear h8 b8
  go_wp2_with fail
  refine (al_tick3 _ _ h9).mono ?_; rintro e w10 ⟨rfl, h10, b10⟩; replace b10 := b9.trans b10; clear h9 b9
  go_wp2_with fail
  refine (al_move4 _ _ h10).mono ?_; rintro e w11 ⟨rfl, h11, b11⟩; replace b11 := b10.trans b11; clear h10 b10
  go_wp2_with fail
  refine (al_pin4 _ _ h11).mono ?_; rintro e w12 ⟨rfl, h12, b12⟩; replace b12 := b11.trans b12; clear h11 b11
  go_wp2_with fail
  refine (al_move6 _ _ h12).mono ?_; rintro e w13 ⟨rfl, h13, b13⟩; replace b13 := b12.trans b13; clear h12 b12
  go_wp2_with fail
  refine (al_clean _ _ _ _ h13 7 rfl).mono ?_; rintro e w14 ⟨rfl, h14, b14⟩; replace b14 := b13.trans b14; clear h13 b13
  go_wp2_with fail
  refine (al_mark _ _ h14).mono ?_; rintro e w15 ⟨rfl, rfl⟩
  go_wp2_with fail
  refine (al_floor _ _ h14).mono ?_; rintro e w16 ⟨rfl, h16, b16⟩; replace b16 := b14.trans b16; clear h14 b14
  go_wp2_with fail
  refine (al_pin5 _ _ h16).mono ?_; rintro e w17 ⟨rfl, h17, b17⟩; replace b17 := b16.trans b17; clear h16 b16
  go_wp2_with fail
  refine (al_pins _ _ h17).mono ?_; rintro e w18 ⟨g, cap, rfl, h18, b18⟩; replace b18 := b17.trans b18; clear h17 b17
  go_wp2_with fail
  refine (al_last _ _ h18).mono ?_; rintro e w19 ⟨rfl, rfl⟩
  go_wp2_with fail
  refine (al_now _ _ h18).mono ?_; rintro e w20 ⟨rfl, rfl⟩
  go_wp2
  go_ret
  exact ⟨rfl, b18⟩

end Go.Proofs.Ytiijkehiphkkiaa
