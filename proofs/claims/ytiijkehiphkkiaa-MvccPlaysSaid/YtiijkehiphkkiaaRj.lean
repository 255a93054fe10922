/-
  The reference of the clock: End, Unpin, Pin.
-/
import Derived.Test.YtiijkehiphkkiaaRh
namespace Go.Proofs.Ytiijkehiphkkiaa
open Go.RowKit Go.Maps Go.Sort

set_option maxHeartbeats 1000000 in
theorem ref_end (B : Nat) (s : St) (t : Int) (fa pa : Option Addr) (fn fc pn pc : Nat) (w : World) (hr : RefAt w B s (.slice fa fn fc) (.slice pa pn pc)) (hB : B ≤ w.heap.size) (hl : s.F.length * 8 ≤ 140737488355328) :
    Calls Try.prog 57 #[.agg #[.int .i64 s.now, .int .i64 s.last, .int .i64 s.mark, .slice fa fn fc, .slice pa pn pc], .int .i64 t] w fun e w' => ∃ vf, e = .returned (.tuple #[St.val (s.end t) vf (.slice pa pn pc), .int .i64 (s.endErr t)]) ∧ RefAt w' B (s.end t) vf (.slice pa pn pc) ∧ Below w.heap.size w w' := by
  unfold St.end St.endErr
  obtain ⟨⟨lf, g1, g2⟩, ⟨lp, p1, p2⟩⟩ := hr
  have hll := g2.length_eq
  by_cases hm : t ∈ s.F
  · rw [if_pos hm, if_pos hm]
    have gi : isIn t lf = true := by simpa [isIn] using g2.mem_iff.2 hm
    go_enter Try.func57, Try.ntmps57
    go_wp2_with fail
    obtain ⟨hX, hR, hz⟩ := box2 w #[.int .i64 s.now, .int .i64 s.last, .int .i64 s.mark, .slice fa fn fc, .slice pa pn pc] #[.int .i64 0, .int .i64 0, .int .i64 0, .slice none 0 0, .slice none 0 0] 39
    have hb2 := two_blocks w (.cells #[.int .i64 s.now, .int .i64 s.last, .int .i64 s.mark, .slice fa fn fc, .slice pa pn pc] 39 (0, 0)) (.cells #[.int .i64 0, .int .i64 0, .int .i64 0, .slice none 0 0, .slice none 0 0] 39 (0, 0))
    generalize (w.alloc (.cells #[.int .i64 s.now, .int .i64 s.last, .int .i64 s.mark, .slice fa fn fc, .slice pa pn pc] 39 (0, 0))).alloc (.cells #[.int .i64 0, .int .i64 0, .int .i64 0, .slice none 0 0, .slice none 0 0] 39 (0, 0)) = w2 at *
    obtain ⟨c0, c1, c2, c3, c4⟩ := five_cells hX
    refine (without_any B _ lf t _ (g1.below hb2) (by omega)).mono ?_
    rintro e w5 ⟨v5, rfl, h5, t5⟩
    obtain ⟨qa, qn, qc, rfl⟩ := h5.isSlice
    have hX5 := (t5.block _ (by omega)).trans hX
    have hR5 := (t5.block _ (by omega)).trans hR
    have b5 := hb2.trans (t5.mono hb2.size)
    have hz5 : w.heap.size + 2 ≤ w5.heap.size := by have := t5.size; omega
    have z6 : w.heap.size + 2 ≤ w2.heap.size := by omega
    clear c0 c1 c2 c3 c4
    obtain ⟨c0, c1, c2, c3, c4⟩ := five_cells hX5
    obtain ⟨d0, d1, d2, d3, d4⟩ := five_cells hR5
    have f0 := five_free hR5 0; have f1 := five_free hR5 1; have f2 := five_free hR5 2; have f3 := five_free hR5 3; have f4 := five_free hR5 4
    have k3 := five_free hX5 3; have k4 := five_free hX5 4
    clear hX hR hX5 hR5 hz
    go_wp2
    refine bodyPost_ret (v := .tuple #[.agg #[.int .i64 s.now, .int .i64 s.last, .int .i64 s.mark, .slice qa qn qc, .slice pa pn pc], .int .i64 0]) ?_ rfl ⟨_, rfl, ⟨⟨_, ((((((h5.setLow (by simp; omega) _).setLow (by simp; omega) _).setLow (by simp; omega) _).setLow (by simp; omega) _).setLow (by simp; omega) _).setLow (by simp; omega) _).mono (by omega), ?_⟩, ⟨lp, p1.below (five_set (b5.setCell (by simp) _) _ (by omega) _ _ _ _ _), p2⟩⟩, five_set (b5.setCell (by simp) _) _ (by omega) _ _ _ _ _⟩
    · simp [results, Try.results57, go_sem, d0, d1, d2, d3, d4]
    · exact g2.erase t
  · rw [if_neg hm, if_neg hm]
    have gi : isIn t lf = false := by simpa [isIn] using fun h => hm (g2.mem_iff.1 h)
    go_enter Try.func57, Try.ntmps57
    go_wp2_with fail
    obtain ⟨hX, hR, hz⟩ := box2 w #[.int .i64 s.now, .int .i64 s.last, .int .i64 s.mark, .slice fa fn fc, .slice pa pn pc] #[.int .i64 0, .int .i64 0, .int .i64 0, .slice none 0 0, .slice none 0 0] 39
    have hb2 := two_blocks w (.cells #[.int .i64 s.now, .int .i64 s.last, .int .i64 s.mark, .slice fa fn fc, .slice pa pn pc] 39 (0, 0)) (.cells #[.int .i64 0, .int .i64 0, .int .i64 0, .slice none 0 0, .slice none 0 0] 39 (0, 0))
    generalize (w.alloc (.cells #[.int .i64 s.now, .int .i64 s.last, .int .i64 s.mark, .slice fa fn fc, .slice pa pn pc] 39 (0, 0))).alloc (.cells #[.int .i64 0, .int .i64 0, .int .i64 0, .slice none 0 0, .slice none 0 0] 39 (0, 0)) = w2 at *
    obtain ⟨c0, c1, c2, c3, c4⟩ := five_cells hX
    refine (without_any B _ lf t _ (g1.below hb2) (by omega)).mono ?_
    rintro e w5 ⟨v5, rfl, h5, t5⟩
    obtain ⟨qa, qn, qc, rfl⟩ := h5.isSlice
    have hX5 := (t5.block _ (by omega)).trans hX
    have hR5 := (t5.block _ (by omega)).trans hR
    have b5 := hb2.trans (t5.mono hb2.size)
    have hz5 : w.heap.size + 2 ≤ w5.heap.size := by have := t5.size; omega
    have z6 : w.heap.size + 2 ≤ w2.heap.size := by omega
    clear c0 c1 c2 c3 c4
    obtain ⟨c0, c1, c2, c3, c4⟩ := five_cells hX5
    obtain ⟨d0, d1, d2, d3, d4⟩ := five_cells hR5
    have f0 := five_free hR5 0; have f1 := five_free hR5 1; have f2 := five_free hR5 2; have f3 := five_free hR5 3; have f4 := five_free hR5 4
    have k3 := five_free hX5 3; have k4 := five_free hX5 4
    clear hX hR hX5 hR5 hz
    go_wp2
    refine bodyPost_ret (v := .tuple #[.agg #[.int .i64 s.now, .int .i64 s.last, .int .i64 s.mark, .slice fa fn fc, .slice pa pn pc], .int .i64 172]) ?_ rfl ⟨_, rfl, ?_, five_set b5 _ (by omega) _ _ _ _ _⟩
    · simp [results, Try.results57, go_sem, d0, d1, d2, d3, d4]
    · exact RefAt.below ⟨⟨lf, g1, g2⟩, ⟨lp, p1, p2⟩⟩ (five_set b5 _ (by omega) _ _ _ _ _)

set_option maxHeartbeats 1000000 in
theorem ref_unpin (B : Nat) (s : St) (t : Int) (fa pa : Option Addr) (fn fc pn pc : Nat) (w : World) (hr : RefAt w B s (.slice fa fn fc) (.slice pa pn pc)) (hB : B ≤ w.heap.size) (hl : s.P.length * 8 ≤ 140737488355328) :
    Calls Try.prog 62 #[.agg #[.int .i64 s.now, .int .i64 s.last, .int .i64 s.mark, .slice fa fn fc, .slice pa pn pc], .int .i64 t] w fun e w' => ∃ vf, e = .returned (.tuple #[St.val (s.unpin t) (.slice fa fn fc) vf, .int .i64 (s.unpinErr t)]) ∧ RefAt w' B (s.unpin t) (.slice fa fn fc) vf ∧ Below w.heap.size w w' := by
  unfold St.unpin St.unpinErr
  obtain ⟨⟨lf, g1, g2⟩, ⟨lp, p1, p2⟩⟩ := hr
  have hll := p2.length_eq
  by_cases hm : t ∈ s.P
  · rw [if_pos hm, if_pos hm]
    have gi : isIn t lp = true := by simpa [isIn] using p2.mem_iff.2 hm
    go_enter Try.func62, Try.ntmps62
    go_wp2_with fail
    obtain ⟨hX, hR, hz⟩ := box2 w #[.int .i64 s.now, .int .i64 s.last, .int .i64 s.mark, .slice fa fn fc, .slice pa pn pc] #[.int .i64 0, .int .i64 0, .int .i64 0, .slice none 0 0, .slice none 0 0] 39
    have hb2 := two_blocks w (.cells #[.int .i64 s.now, .int .i64 s.last, .int .i64 s.mark, .slice fa fn fc, .slice pa pn pc] 39 (0, 0)) (.cells #[.int .i64 0, .int .i64 0, .int .i64 0, .slice none 0 0, .slice none 0 0] 39 (0, 0))
    generalize (w.alloc (.cells #[.int .i64 s.now, .int .i64 s.last, .int .i64 s.mark, .slice fa fn fc, .slice pa pn pc] 39 (0, 0))).alloc (.cells #[.int .i64 0, .int .i64 0, .int .i64 0, .slice none 0 0, .slice none 0 0] 39 (0, 0)) = w2 at *
    obtain ⟨c0, c1, c2, c3, c4⟩ := five_cells hX
    refine (without_any B _ lp t _ (p1.below hb2) (by omega)).mono ?_
    rintro e w5 ⟨v5, rfl, h5, t5⟩
    obtain ⟨qa, qn, qc, rfl⟩ := h5.isSlice
    have hX5 := (t5.block _ (by omega)).trans hX
    have hR5 := (t5.block _ (by omega)).trans hR
    have b5 := hb2.trans (t5.mono hb2.size)
    have hz5 : w.heap.size + 2 ≤ w5.heap.size := by have := t5.size; omega
    have z6 : w.heap.size + 2 ≤ w2.heap.size := by omega
    clear c0 c1 c2 c3 c4
    obtain ⟨c0, c1, c2, c3, c4⟩ := five_cells hX5
    obtain ⟨d0, d1, d2, d3, d4⟩ := five_cells hR5
    have f0 := five_free hR5 0; have f1 := five_free hR5 1; have f2 := five_free hR5 2; have f3 := five_free hR5 3; have f4 := five_free hR5 4
    have k3 := five_free hX5 3; have k4 := five_free hX5 4
    clear hX hR hX5 hR5 hz
    go_wp2
    refine bodyPost_ret (v := .tuple #[.agg #[.int .i64 s.now, .int .i64 s.last, .int .i64 s.mark, .slice fa fn fc, .slice qa qn qc], .int .i64 0]) ?_ rfl ⟨_, rfl, ⟨⟨lf, g1.below (five_set (b5.setCell (by simp) _) _ (by omega) _ _ _ _ _), g2⟩, ⟨_, ((((((h5.setLow (by simp; omega) _).setLow (by simp; omega) _).setLow (by simp; omega) _).setLow (by simp; omega) _).setLow (by simp; omega) _).setLow (by simp; omega) _).mono (by omega), ?_⟩⟩, five_set (b5.setCell (by simp) _) _ (by omega) _ _ _ _ _⟩
    · simp [results, Try.results62, go_sem, d0, d1, d2, d3, d4]
    · exact p2.erase t
  · rw [if_neg hm, if_neg hm]
    have gi : isIn t lp = false := by simpa [isIn] using fun h => hm (p2.mem_iff.1 h)
    go_enter Try.func62, Try.ntmps62
    go_wp2_with fail
    obtain ⟨hX, hR, hz⟩ := box2 w #[.int .i64 s.now, .int .i64 s.last, .int .i64 s.mark, .slice fa fn fc, .slice pa pn pc] #[.int .i64 0, .int .i64 0, .int .i64 0, .slice none 0 0, .slice none 0 0] 39
    have hb2 := two_blocks w (.cells #[.int .i64 s.now, .int .i64 s.last, .int .i64 s.mark, .slice fa fn fc, .slice pa pn pc] 39 (0, 0)) (.cells #[.int .i64 0, .int .i64 0, .int .i64 0, .slice none 0 0, .slice none 0 0] 39 (0, 0))
    generalize (w.alloc (.cells #[.int .i64 s.now, .int .i64 s.last, .int .i64 s.mark, .slice fa fn fc, .slice pa pn pc] 39 (0, 0))).alloc (.cells #[.int .i64 0, .int .i64 0, .int .i64 0, .slice none 0 0, .slice none 0 0] 39 (0, 0)) = w2 at *
    obtain ⟨c0, c1, c2, c3, c4⟩ := five_cells hX
    refine (without_any B _ lp t _ (p1.below hb2) (by omega)).mono ?_
    rintro e w5 ⟨v5, rfl, h5, t5⟩
    obtain ⟨qa, qn, qc, rfl⟩ := h5.isSlice
    have hX5 := (t5.block _ (by omega)).trans hX
    have hR5 := (t5.block _ (by omega)).trans hR
    have b5 := hb2.trans (t5.mono hb2.size)
    have hz5 : w.heap.size + 2 ≤ w5.heap.size := by have := t5.size; omega
    have z6 : w.heap.size + 2 ≤ w2.heap.size := by omega
    clear c0 c1 c2 c3 c4
    obtain ⟨c0, c1, c2, c3, c4⟩ := five_cells hX5
    obtain ⟨d0, d1, d2, d3, d4⟩ := five_cells hR5
    have f0 := five_free hR5 0; have f1 := five_free hR5 1; have f2 := five_free hR5 2; have f3 := five_free hR5 3; have f4 := five_free hR5 4
    have k3 := five_free hX5 3; have k4 := five_free hX5 4
    clear hX hR hX5 hR5 hz
    go_wp2
    refine bodyPost_ret (v := .tuple #[.agg #[.int .i64 s.now, .int .i64 s.last, .int .i64 s.mark, .slice fa fn fc, .slice pa pn pc], .int .i64 172]) ?_ rfl ⟨_, rfl, ?_, five_set b5 _ (by omega) _ _ _ _ _⟩
    · simp [results, Try.results62, go_sem, d0, d1, d2, d3, d4]
    · exact RefAt.below ⟨⟨lf, g1, g2⟩, ⟨lp, p1, p2⟩⟩ (five_set b5 _ (by omega) _ _ _ _ _)

set_option maxHeartbeats 1000000 in
theorem ref_pin_yes (B : Nat) (s : St) (t : Int) (fa pa : Option Addr) (fn fc pn pc : Nat) (w : World) (hr : RefAt w B s (.slice fa fn fc) (.slice pa pn pc)) (hB : B ≤ w.heap.size) (hl : (s.P.length + 1) * 8 ≤ 140737488355328) (h0 : 0 ≤ t) (h1 : t ≤ 1099511627776) (h2 : s.mark ≤ t) :
    Calls Try.prog 61 #[.agg #[.int .i64 s.now, .int .i64 s.last, .int .i64 s.mark, .slice fa fn fc, .slice pa pn pc], .int .i64 t] w fun e w' => ∃ vf, e = .returned (.tuple #[St.val { s with P := t :: s.P } (.slice fa fn fc) vf, .int .i64 0]) ∧ RefAt w' B { s with P := t :: s.P } (.slice fa fn fc) vf ∧ Below w.heap.size w w' := by
    obtain ⟨⟨lf, g1, g2⟩, ⟨lp, p1, p2⟩⟩ := hr
    have hll := p2.length_eq
    go_enter Try.func61, Try.ntmps61
    go_wp2_with fail
    obtain ⟨hX, hR, hz⟩ := box2 w #[.int .i64 s.now, .int .i64 s.last, .int .i64 s.mark, .slice fa fn fc, .slice pa pn pc] #[.int .i64 0, .int .i64 0, .int .i64 0, .slice none 0 0, .slice none 0 0] 39
    have hb2 := two_blocks w (.cells #[.int .i64 s.now, .int .i64 s.last, .int .i64 s.mark, .slice fa fn fc, .slice pa pn pc] 39 (0, 0)) (.cells #[.int .i64 0, .int .i64 0, .int .i64 0, .slice none 0 0, .slice none 0 0] 39 (0, 0))
    generalize (w.alloc (.cells #[.int .i64 s.now, .int .i64 s.last, .int .i64 s.mark, .slice fa fn fc, .slice pa pn pc] 39 (0, 0))).alloc (.cells #[.int .i64 0, .int .i64 0, .int .i64 0, .slice none 0 0, .slice none 0 0] 39 (0, 0)) = w2 at *
    obtain ⟨c0, c1, c2, c3, c4⟩ := five_cells hX
    refine (put_any B _ lp t _ (p1.below hb2) (by omega)).mono ?_
    rintro e w5 ⟨v5, rfl, h5, t5⟩
    obtain ⟨qa, qn, qc, rfl⟩ := h5.isSlice
    have hX5 := (t5.block _ (by omega)).trans hX
    have hR5 := (t5.block _ (by omega)).trans hR
    have b5 := hb2.trans (t5.mono hb2.size)
    have hz5 : w.heap.size + 2 ≤ w5.heap.size := by have := t5.size; omega
    have z6 : w.heap.size + 2 ≤ w2.heap.size := by omega
    clear c0 c1 c2 c3 c4
    obtain ⟨c0, c1, c2, c3, c4⟩ := five_cells hX5
    obtain ⟨d0, d1, d2, d3, d4⟩ := five_cells hR5
    have f0 := five_free hR5 0; have f1 := five_free hR5 1; have f2 := five_free hR5 2; have f3 := five_free hR5 3; have f4 := five_free hR5 4
    have k3 := five_free hX5 3; have k4 := five_free hX5 4
    clear hX hR hX5 hR5 hz
    go_wp2
    refine bodyPost_ret (v := .tuple #[.agg #[.int .i64 s.now, .int .i64 s.last, .int .i64 s.mark, .slice fa fn fc, .slice qa qn qc], .int .i64 0]) ?_ rfl ⟨_, rfl, ⟨⟨lf, g1.below (five_set (b5.setCell (by simp) _) _ (by omega) _ _ _ _ _), g2⟩, ⟨_, ((((((h5.setLow (by simp; omega) _).setLow (by simp; omega) _).setLow (by simp; omega) _).setLow (by simp; omega) _).setLow (by simp; omega) _).setLow (by simp; omega) _).mono (by omega), ?_⟩⟩, five_set (b5.setCell (by simp) _) _ (by omega) _ _ _ _ _⟩
    · simp [results, Try.results61, go_sem, d0, d1, d2, d3, d4]
    · exact (List.perm_append_singleton t lp).trans (p2.cons _)

set_option maxHeartbeats 1000000 in
theorem ref_pin (B : Nat) (s : St) (t : Int) (fa pa : Option Addr) (fn fc pn pc : Nat) (w : World) (hr : RefAt w B s (.slice fa fn fc) (.slice pa pn pc)) (hB : B ≤ w.heap.size) (hl : (s.P.length + 1) * 8 ≤ 140737488355328) :
    Calls Try.prog 61 #[.agg #[.int .i64 s.now, .int .i64 s.last, .int .i64 s.mark, .slice fa fn fc, .slice pa pn pc], .int .i64 t] w fun e w' => ∃ vf, e = .returned (.tuple #[St.val (s.pin t) (.slice fa fn fc) vf, .int .i64 (s.pinErr t)]) ∧ RefAt w' B (s.pin t) (.slice fa fn fc) vf ∧ Below w.heap.size w w' := by
  unfold St.pin St.pinErr
  by_cases hm : t < 0 ∨ 1099511627776 < t
  · rw [if_pos hm, if_pos hm]
    rcases hm with hm | hm
    all_goals
      go_enter Try.func61, Try.ntmps61
      go_wp2
      all_goals exact bodyPost_ret (v := .tuple #[.agg #[.int .i64 s.now, .int .i64 s.last, .int .i64 s.mark, .slice fa fn fc, .slice pa pn pc], .int .i64 1]) (by simp [results, Try.results61, go_sem]) rfl ⟨_, rfl, hr.below (two_blocks _ _ _), two_blocks _ _ _⟩
  · rw [if_neg hm, if_neg hm]
    have h0 : 0 ≤ t := by omega
    have h1 : t ≤ 1099511627776 := by omega
    by_cases h2 : t < s.mark
    · rw [if_pos h2, if_pos h2]
      go_enter Try.func61, Try.ntmps61
      go_wp2
      all_goals exact bodyPost_ret (v := .tuple #[.agg #[.int .i64 s.now, .int .i64 s.last, .int .i64 s.mark, .slice fa fn fc, .slice pa pn pc], .int .i64 171]) (by simp [results, Try.results61, go_sem]) rfl ⟨_, rfl, hr.below (two_blocks _ _ _), two_blocks _ _ _⟩
    · rw [if_neg h2, if_neg h2]
      exact ref_pin_yes B s t fa pa fn fc pn pc w hr hB hl h0 h1 (by omega)

end Go.Proofs.Ytiijkehiphkkiaa
