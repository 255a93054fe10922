/-
  One call of the clock against its reference: 'asks' answers true, and both come to one state.
-/
import Derived.Test.YtiijkehiphkkiaaRj
set_option linter.unusedVariables false
namespace Go.Proofs.Ytiijkehiphkkiaa
open Go.RowKit Go.Maps Go.Sort

/-- A clock behind any call. -/
def St.asks (s : St) (k t : Int) : St :=
  if k = 1 then s.tick t else if k = 2 then s.begin else if k = 3 then s.end t else if k = 4 then s.end t else if k = 5 then s.raise t else if k = 6 then s.move t else if k = 7 then s.pin t else if k = 8 then s.unpin t
  else if k = 9 then s.end (leastOf s.F 2199023255552) else s

theorem box3 (w : World) (X O R : Array Value) (t u : TypeId) : (((w.alloc (.cells X t (0, 0))).alloc (.cells O u (0, 0))).alloc (.cells R t (0, 0))).heap[w.heap.size]? = some (.cells X t (0, 0)) ∧
    (((w.alloc (.cells X t (0, 0))).alloc (.cells O u (0, 0))).alloc (.cells R t (0, 0))).heap[w.heap.size + 1]? = some (.cells O u (0, 0)) ∧
    (((w.alloc (.cells X t (0, 0))).alloc (.cells O u (0, 0))).alloc (.cells R t (0, 0))).heap[w.heap.size + 2]? = some (.cells R t (0, 0)) ∧
    (((w.alloc (.cells X t (0, 0))).alloc (.cells O u (0, 0))).alloc (.cells R t (0, 0))).heap.size = w.heap.size + 3 := by
  have s1 : (w.alloc (.cells X t (0, 0))).heap.size = w.heap.size + 1 := by simp
  have s2 : ((w.alloc (.cells X t (0, 0))).alloc (.cells O u (0, 0))).heap.size = w.heap.size + 2 := by simp
  refine ⟨?_, ?_, ?_, by simp⟩
  · rw [Below.heap_alloc _ _ _ (by omega), Below.heap_alloc _ _ _ (by omega)]; exact (MapKept.heap_alloc _ _).1
  · rw [Below.heap_alloc _ _ _ (by omega), ← s1]; exact (MapKept.heap_alloc _ _).1
  · rw [← s2]; exact (MapKept.heap_alloc _ _).1

theorem three_blocks (w : World) (a b d : Obj) : Below w.heap.size w (((w.alloc a).alloc b).alloc d) := ((((Below.refl _ w).alloc (Nat.le_refl _) _).alloc (by simp) _).alloc (by simp; omega) _)

theorem Ints.setR {w : World} {B b i : Nat} {R : Array Value} {v u : Value} {l : List Int} (h : Ints w B v l) (hR : w.heap[b]? = some (.cells R 39 (0, 0))) : Ints (w.setCell ⟨b, i, none⟩ u) B v l := by
  obtain ⟨h1, h2⟩ := h.row
  refine ⟨⟨h1, ?_⟩⟩
  rcases h2 with h2 | ⟨g, cap, cur, r1, r2, r3, r⟩
  · exact .inl h2
  · refine .inr ⟨g, cap, cur, r1, r2, ?_, r⟩
    have hne : g ≠ b := fun e => by subst e; rw [hR] at r3; cases r3
    rw [Below.heap_setCell _ _ _ _ hne]; exact r3

theorem RefAt.setR {w : World} {B b : Nat} {R : Array Value} {s : St} {vf vp : Value} (h : RefAt w B s vf vp) (hR : w.heap[b]? = some (.cells R 39 (0, 0))) (a0 a1 a2 a3 a4 : Value) :
    RefAt (((((w.setCell ⟨b, 0, none⟩ a0).setCell ⟨b, 1, none⟩ a1).setCell ⟨b, 2, none⟩ a2).setCell ⟨b, 3, none⟩ a3).setCell ⟨b, 4, none⟩ a4) B s vf vp := by
  obtain ⟨⟨lf, f1, f2⟩, ⟨lp, p1, p2⟩⟩ := h
  have r1 := block_setCell (i := 0) (u := a0) hR
  have r2 := block_setCell (i := 1) (u := a1) r1
  have r3 := block_setCell (i := 2) (u := a2) r2
  have r4 := block_setCell (i := 3) (u := a3) r3
  exact ⟨⟨lf, ((((f1.setR hR).setR r1).setR r2).setR r3).setR r4, f2⟩, ⟨lp, ((((p1.setR hR).setR r1).setR r2).setR r3).setR r4, p2⟩⟩

theorem kinds9 (x : Int) : (x = 1 ∧ (x == 1) = true) ∨ (x = 2 ∧ (x == 1) = false ∧ (x == 2) = true) ∨ (x = 3 ∧ (x == 1) = false ∧ (x == 2) = false ∧ (x == 3) = true) ∨ (x = 4 ∧ (x == 1) = false ∧ (x == 2) = false ∧ (x == 3) = false ∧ (x == 4) = true) ∨
    (x = 5 ∧ (x == 1) = false ∧ (x == 2) = false ∧ (x == 3) = false ∧ (x == 4) = false ∧ (x == 5) = true) ∨
    (x = 6 ∧ (x == 1) = false ∧ (x == 2) = false ∧ (x == 3) = false ∧ (x == 4) = false ∧ (x == 5) = false ∧ (x == 6) = true) ∨
    (x = 7 ∧ (x == 1) = false ∧ (x == 2) = false ∧ (x == 3) = false ∧ (x == 4) = false ∧ (x == 5) = false ∧ (x == 6) = false ∧ (x == 7) = true) ∨
    (x = 8 ∧ (x == 1) = false ∧ (x == 2) = false ∧ (x == 3) = false ∧ (x == 4) = false ∧ (x == 5) = false ∧ (x == 6) = false ∧ (x == 7) = false ∧ (x == 8) = true) ∨
    (x = 9 ∧ (x == 1) = false ∧ (x == 2) = false ∧ (x == 3) = false ∧ (x == 4) = false ∧ (x == 5) = false ∧ (x == 6) = false ∧ (x == 7) = false ∧ (x == 8) = false ∧ (x == 9) = true) ∨
    ((x ≠ 1 ∧ x ≠ 2 ∧ x ≠ 3 ∧ x ≠ 4 ∧ x ≠ 5 ∧ x ≠ 6 ∧ x ≠ 7 ∧ x ≠ 8 ∧ x ≠ 9) ∧ (x == 1) = false ∧ (x == 2) = false ∧ (x == 3) = false ∧ (x == 4) = false ∧ (x == 5) = false ∧ (x == 6) = false ∧ (x == 7) = false ∧ (x == 8) = false ∧ (x == 9) = false) := by
  by_cases h1 : x = 1
  · subst h1; exact .inl ⟨rfl, rfl⟩
  by_cases h2 : x = 2
  · subst h2; exact .inr (.inl ⟨rfl, beq_eq_false_iff_ne.2 h1, rfl⟩)
  by_cases h3 : x = 3
  · subst h3; exact .inr (.inr (.inl ⟨rfl, beq_eq_false_iff_ne.2 h1, beq_eq_false_iff_ne.2 h2, rfl⟩))
  by_cases h4 : x = 4
  · subst h4; exact .inr (.inr (.inr (.inl ⟨rfl, beq_eq_false_iff_ne.2 h1, beq_eq_false_iff_ne.2 h2, beq_eq_false_iff_ne.2 h3, rfl⟩)))
  by_cases h5 : x = 5
  · subst h5; exact .inr (.inr (.inr (.inr (.inl ⟨rfl, beq_eq_false_iff_ne.2 h1, beq_eq_false_iff_ne.2 h2, beq_eq_false_iff_ne.2 h3, beq_eq_false_iff_ne.2 h4, rfl⟩))))
  by_cases h6 : x = 6
  · subst h6; exact .inr (.inr (.inr (.inr (.inr (.inl ⟨rfl, beq_eq_false_iff_ne.2 h1, beq_eq_false_iff_ne.2 h2, beq_eq_false_iff_ne.2 h3, beq_eq_false_iff_ne.2 h4, beq_eq_false_iff_ne.2 h5, rfl⟩)))))
  by_cases h7 : x = 7
  · subst h7; exact .inr (.inr (.inr (.inr (.inr (.inr (.inl ⟨rfl, beq_eq_false_iff_ne.2 h1, beq_eq_false_iff_ne.2 h2, beq_eq_false_iff_ne.2 h3, beq_eq_false_iff_ne.2 h4, beq_eq_false_iff_ne.2 h5, beq_eq_false_iff_ne.2 h6, rfl⟩))))))
  by_cases h8 : x = 8
  · subst h8; exact .inr (.inr (.inr (.inr (.inr (.inr (.inr (.inl ⟨rfl, beq_eq_false_iff_ne.2 h1, beq_eq_false_iff_ne.2 h2, beq_eq_false_iff_ne.2 h3, beq_eq_false_iff_ne.2 h4, beq_eq_false_iff_ne.2 h5, beq_eq_false_iff_ne.2 h6, beq_eq_false_iff_ne.2 h7, rfl⟩)))))))
  by_cases h9 : x = 9
  · subst h9; exact .inr (.inr (.inr (.inr (.inr (.inr (.inr (.inr (.inl ⟨rfl, beq_eq_false_iff_ne.2 h1, beq_eq_false_iff_ne.2 h2, beq_eq_false_iff_ne.2 h3, beq_eq_false_iff_ne.2 h4, beq_eq_false_iff_ne.2 h5, beq_eq_false_iff_ne.2 h6, beq_eq_false_iff_ne.2 h7, beq_eq_false_iff_ne.2 h8, rfl⟩))))))))
  exact .inr (.inr (.inr (.inr (.inr (.inr (.inr (.inr (.inr (⟨⟨h1, h2, h3, h4, h5, h6, h7, h8, h9⟩, beq_eq_false_iff_ne.2 h1, beq_eq_false_iff_ne.2 h2, beq_eq_false_iff_ne.2 h3, beq_eq_false_iff_ne.2 h4, beq_eq_false_iff_ne.2 h5, beq_eq_false_iff_ne.2 h6, beq_eq_false_iff_ne.2 h7, beq_eq_false_iff_ne.2 h8, beq_eq_false_iff_ne.2 h9⟩)))))))))

theorem ClockAt.fives {w : World} {c n : Nat} {s : St} (h : ClockAt w c n s) (b : Nat) (hb : c + 2 < b) (a0 a1 a2 a3 a4 : Value) :
    ClockAt (((((w.setCell ⟨b, 0, none⟩ a0).setCell ⟨b, 1, none⟩ a1).setCell ⟨b, 2, none⟩ a2).setCell ⟨b, 3, none⟩ a3).setCell ⟨b, 4, none⟩ a4) c n s :=
  h.low (five_set (Below.refl (c + 3) w) b (by omega) a0 a1 a2 a3 a4)

theorem alloc_cell_lt {w : World} {b j : Nat} (o : Obj) (h : b < w.heap.size) : (w.alloc o).cell? ⟨b, j, none⟩ = w.cell? ⟨b, j, none⟩ :=
  World.cell?_of_block (Below.heap_alloc w o b h)
theorem size_set (w : World) (a : Addr) (u : Value) : (w.setCell a u).heap.size = w.heap.size := by simp [World.setCell]

theorem Turn.setNew {c : Nat} {w w' : World} (h : Turn c w w') {a : Addr} (ha : w.heap.size ≤ a.block) (u : Value) : Turn c w (w'.setCell a u) :=
  ⟨h.os, h.tape, h.output, by simpa [World.setCell] using h.size, fun k hk hj => (Below.heap_setCell _ _ _ _ (by omega)).trans (h.block k hk hj)⟩
theorem Turn.fives {c : Nat} {w w' : World} (h : Turn c w w') (b : Nat) (hb : w.heap.size ≤ b) (a0 a1 a2 a3 a4 : Value) :
    Turn c w (((((w'.setCell ⟨b, 0, none⟩ a0).setCell ⟨b, 1, none⟩ a1).setCell ⟨b, 2, none⟩ a2).setCell ⟨b, 3, none⟩ a3).setCell ⟨b, 4, none⟩ a4) :=
  ((((h.setNew hb _).setNew hb _).setNew hb _).setNew hb _).setNew hb _

set_option maxRecDepth 100000 in
set_option maxHeartbeats 1000000 in
theorem asks_tick (B c n : Nat) (s : St) (k t : Int) (fa pa : Option Addr) (fn fc pn pc : Nat) (w : World) (hC : ClockAt w c n s) (hr : RefAt w B s (.slice fa fn fc) (.slice pa pn pc)) (hc : c + 3 ≤ B) (hB : B ≤ w.heap.size) (hn : (n + 1) * 8 ≤ 140737488355328) (ht : (Lit.int .i64 t).wf = true) (g1 : (k == 1) = true) :
    Calls Try.prog 27 #[.pointer (some ⟨c + 2, 0, none⟩), .agg #[.int .i64 s.now, .int .i64 s.last, .int .i64 s.mark, .slice fa fn fc, .slice pa pn pc], .agg #[.int .i64 k, .int .i64 t]] w fun e w' => ∃ vf vp, e = .returned (.tuple #[St.val (s.tick t) vf vp, .bool true]) ∧ ClockAt w' c (n + 1) (s.tick t) ∧ RefAt w' B (s.tick t) vf vp ∧ Turn c w w' := by
  have hnF := hC.fl.le; have hnP := hC.pi.le; have ho := hC.ok
  obtain ⟨hX, hO, hR, hz⟩ := box3 w #[.int .i64 s.now, .int .i64 s.last, .int .i64 s.mark, .slice fa fn fc, .slice pa pn pc] #[.int .i64 k, .int .i64 t] #[.int .i64 0, .int .i64 0, .int .i64 0, .slice none 0 0, .slice none 0 0] 39 28
  have hb3 := three_blocks w (.cells #[.int .i64 s.now, .int .i64 s.last, .int .i64 s.mark, .slice fa fn fc, .slice pa pn pc] 39 (0, 0)) (.cells #[.int .i64 k, .int .i64 t] 28 (0, 0)) (.cells #[.int .i64 0, .int .i64 0, .int .i64 0, .slice none 0 0, .slice none 0 0] 39 (0, 0))
  go_enter Try.func27, Try.ntmps27
  go_wp2_with fail
  generalize ((w.alloc (.cells #[.int .i64 s.now, .int .i64 s.last, .int .i64 s.mark, .slice fa fn fc, .slice pa pn pc] 39 (0, 0))).alloc (.cells #[.int .i64 k, .int .i64 t] 28 (0, 0))).alloc (.cells #[.int .i64 0, .int .i64 0, .int .i64 0, .slice none 0 0, .slice none 0 0] 39 (0, 0)) = w3 at *
  have hC3 := hC.below hb3
  have hr3 := hr.below hb3
  have hlt := hC.lt
  refine (tick_any c n s t _ hC3 ht).mono ?_
  rintro e w4 ⟨rfl, hC4, t4⟩
  have hX4 := (t4.block w.heap.size (by omega) (.inr (by omega))).trans hX
  have hO4 := (t4.block (w.heap.size + 1) (by omega) (.inr (by omega))).trans hO
  have hR4 := (t4.block (w.heap.size + 2) (by omega) (.inr (by omega))).trans hR
  have hr4 := hr3.turn t4 hc
  have hz4 : w.heap.size + 3 ≤ w4.heap.size := by have := t4.size; omega
  replace hC4 := hC4.mono (show _ ≤ n + 1 by omega)
  have t04 := (Turn.of_below hb3).trans t4
  obtain ⟨c0, c1, c2, c3, c4⟩ := five_cells hX4
  have o1 : w4.cell? ⟨w.heap.size + 1, 1, none⟩ = some (.int .i64 t) := by simp [World.cell?, hO4]
  have HR := Lib.hid hR4
  clear hX4 hO4 hR4 hX hO hR hz hb3 hC3 hr3
  go_wp2_with fail
  refine (ref_tick B s t fa pa fn fc pn pc _ hr4 ho ht).mono ?_
  rintro e w5 ⟨rfl, hr5, t5⟩
  have hz5 : w.heap.size + 2 < w5.heap.size := by have := t5.size; omega
  have hz6 : w.heap.size + 1 + 1 < w5.heap.size := hz5
  have hR5 := (t5.block (w.heap.size + 2) (by omega)).trans HR.out
  have hC5 := hC4.below t5
  have t05 := t04.trans (Turn.of_below t5)
  obtain ⟨d0, d1, d2, d3, d4⟩ := five_cells hR5
  have f0 := five_free hR5 0; have f1 := five_free hR5 1; have f2 := five_free hR5 2; have f3 := five_free hR5 3; have f4 := five_free hR5 4
  have HR5 := Lib.hid hR5
  clear hR5 c0 c1 c2 c3 c4 o1
  unfold St.val
  go_wp2
  refine bodyPost_ret (v := .tuple #[.agg #[.int .i64 (s.tick t).now, .int .i64 (s.tick t).last, .int .i64 (s.tick t).mark, .slice fa fn fc, .slice pa pn pc], .bool true]) ?_ rfl ⟨_, _, rfl, ClockAt.fives hC5 _ (by omega) _ _ _ _ _, hr5.setR HR5.out _ _ _ _ _, t05.fives _ (by omega) _ _ _ _ _⟩
  simp [results, Try.results27, go_sem, d0, d1, d2, d3, d4]

set_option maxRecDepth 100000 in
set_option maxHeartbeats 1000000 in
theorem asks_begin (B c n : Nat) (s : St) (k t : Int) (fa pa : Option Addr) (fn fc pn pc : Nat) (w : World) (hC : ClockAt w c n s) (hr : RefAt w B s (.slice fa fn fc) (.slice pa pn pc)) (hc : c + 3 ≤ B) (hB : B ≤ w.heap.size) (hn : (n + 1) * 8 ≤ 140737488355328) (ht : (Lit.int .i64 t).wf = true) (g1 : (k == 1) = false) (g2 : (k == 2) = true) :
    Calls Try.prog 27 #[.pointer (some ⟨c + 2, 0, none⟩), .agg #[.int .i64 s.now, .int .i64 s.last, .int .i64 s.mark, .slice fa fn fc, .slice pa pn pc], .agg #[.int .i64 k, .int .i64 t]] w fun e w' => ∃ vf vp, e = .returned (.tuple #[St.val s.begin vf vp, .bool true]) ∧ ClockAt w' c (n + 1) s.begin ∧ RefAt w' B s.begin vf vp ∧ Turn c w w' := by
  have hnF := hC.fl.le; have hnP := hC.pi.le; have ho := hC.ok
  obtain ⟨hX, hO, hR, hz⟩ := box3 w #[.int .i64 s.now, .int .i64 s.last, .int .i64 s.mark, .slice fa fn fc, .slice pa pn pc] #[.int .i64 k, .int .i64 t] #[.int .i64 0, .int .i64 0, .int .i64 0, .slice none 0 0, .slice none 0 0] 39 28
  have hb3 := three_blocks w (.cells #[.int .i64 s.now, .int .i64 s.last, .int .i64 s.mark, .slice fa fn fc, .slice pa pn pc] 39 (0, 0)) (.cells #[.int .i64 k, .int .i64 t] 28 (0, 0)) (.cells #[.int .i64 0, .int .i64 0, .int .i64 0, .slice none 0 0, .slice none 0 0] 39 (0, 0))
  go_enter Try.func27, Try.ntmps27
  go_wp2_with fail
  generalize ((w.alloc (.cells #[.int .i64 s.now, .int .i64 s.last, .int .i64 s.mark, .slice fa fn fc, .slice pa pn pc] 39 (0, 0))).alloc (.cells #[.int .i64 k, .int .i64 t] 28 (0, 0))).alloc (.cells #[.int .i64 0, .int .i64 0, .int .i64 0, .slice none 0 0, .slice none 0 0] 39 (0, 0)) = w3 at *
  have hC3 := hC.below hb3
  have hr3 := hr.below hb3
  have hlt := hC.lt
  refine (begin_any c n s _ hC3 (by omega)).mono ?_
  rintro e w4 ⟨rfl, hC4, t4⟩
  have hX4 := (t4.block w.heap.size (by omega) (.inr (by omega))).trans hX
  have hO4 := (t4.block (w.heap.size + 1) (by omega) (.inr (by omega))).trans hO
  have hR4 := (t4.block (w.heap.size + 2) (by omega) (.inr (by omega))).trans hR
  have hr4 := hr3.turn t4 hc
  have hz4 : w.heap.size + 3 ≤ w4.heap.size := by have := t4.size; omega
  replace hC4 := hC4.mono (show _ ≤ n + 1 by omega)
  have t04 := (Turn.of_below hb3).trans t4
  obtain ⟨c0, c1, c2, c3, c4⟩ := five_cells hX4
  have o1 : w4.cell? ⟨w.heap.size + 1, 1, none⟩ = some (.int .i64 t) := by simp [World.cell?, hO4]
  have HR := Lib.hid hR4
  clear hX4 hO4 hR4 hX hO hR hz hb3 hC3 hr3
  go_wp2_with fail
  refine (ref_begin B s fa pa fn fc pn pc _ hr4 ho (by omega) (by omega)).mono ?_
  rintro e w5 ⟨vf, rfl, hr5, t5⟩
  have hz5 : w.heap.size + 2 < w5.heap.size := by have := t5.size; omega
  have hz6 : w.heap.size + 1 + 1 < w5.heap.size := hz5
  have hR5 := (t5.block (w.heap.size + 2) (by omega)).trans HR.out
  have hC5 := hC4.below t5
  have t05 := t04.trans (Turn.of_below t5)
  obtain ⟨⟨qa, qn, qc, rfl⟩, _⟩ := hr5.slices
  obtain ⟨d0, d1, d2, d3, d4⟩ := five_cells hR5
  have f0 := five_free hR5 0; have f1 := five_free hR5 1; have f2 := five_free hR5 2; have f3 := five_free hR5 3; have f4 := five_free hR5 4
  have HR5 := Lib.hid hR5
  clear hR5 c0 c1 c2 c3 c4 o1
  unfold St.val
  go_wp2
  refine bodyPost_ret (v := .tuple #[.agg #[.int .i64 s.begin.now, .int .i64 s.begin.last, .int .i64 s.begin.mark, .slice qa qn qc, .slice pa pn pc], .bool true]) ?_ rfl ⟨_, _, rfl, (ClockAt.fives hC5 _ (by omega) _ _ _ _ _).below ((Below.refl _ _).alloc (Nat.le_refl _) _), (hr5.setR HR5.out _ _ _ _ _).below ((Below.refl _ _).alloc (Nat.le_refl _) _), (t05.fives _ (by omega) _ _ _ _ _).trans (Turn.of_below ((Below.refl _ _).alloc (Nat.le_refl _) _))⟩
  simp [results, Try.results27, go_sem, d0, d1, d2, d3, d4, alloc_cell_lt, hz6]

set_option maxRecDepth 100000 in
set_option maxHeartbeats 1000000 in
theorem asks_commit (B c n : Nat) (s : St) (k t : Int) (fa pa : Option Addr) (fn fc pn pc : Nat) (w : World) (hC : ClockAt w c n s) (hr : RefAt w B s (.slice fa fn fc) (.slice pa pn pc)) (hc : c + 3 ≤ B) (hB : B ≤ w.heap.size) (hn : (n + 1) * 8 ≤ 140737488355328) (ht : (Lit.int .i64 t).wf = true) (g1 : (k == 1) = false) (g2 : (k == 2) = false) (g3 : (k == 3) = true) :
    Calls Try.prog 27 #[.pointer (some ⟨c + 2, 0, none⟩), .agg #[.int .i64 s.now, .int .i64 s.last, .int .i64 s.mark, .slice fa fn fc, .slice pa pn pc], .agg #[.int .i64 k, .int .i64 t]] w fun e w' => ∃ vf vp, e = .returned (.tuple #[St.val (s.end t) vf vp, .bool true]) ∧ ClockAt w' c (n + 1) (s.end t) ∧ RefAt w' B (s.end t) vf vp ∧ Turn c w w' := by
  have hnF := hC.fl.le; have hnP := hC.pi.le; have ho := hC.ok
  obtain ⟨hX, hO, hR, hz⟩ := box3 w #[.int .i64 s.now, .int .i64 s.last, .int .i64 s.mark, .slice fa fn fc, .slice pa pn pc] #[.int .i64 k, .int .i64 t] #[.int .i64 0, .int .i64 0, .int .i64 0, .slice none 0 0, .slice none 0 0] 39 28
  have hb3 := three_blocks w (.cells #[.int .i64 s.now, .int .i64 s.last, .int .i64 s.mark, .slice fa fn fc, .slice pa pn pc] 39 (0, 0)) (.cells #[.int .i64 k, .int .i64 t] 28 (0, 0)) (.cells #[.int .i64 0, .int .i64 0, .int .i64 0, .slice none 0 0, .slice none 0 0] 39 (0, 0))
  go_enter Try.func27, Try.ntmps27
  go_wp2_with fail
  generalize ((w.alloc (.cells #[.int .i64 s.now, .int .i64 s.last, .int .i64 s.mark, .slice fa fn fc, .slice pa pn pc] 39 (0, 0))).alloc (.cells #[.int .i64 k, .int .i64 t] 28 (0, 0))).alloc (.cells #[.int .i64 0, .int .i64 0, .int .i64 0, .slice none 0 0, .slice none 0 0] 39 (0, 0)) = w3 at *
  have hC3 := hC.below hb3
  have hr3 := hr.below hb3
  have hlt := hC.lt
  refine (commit_any c n s t _ hC3 (by omega) ht).mono ?_
  rintro e w4 ⟨rfl, hC4, t4⟩
  have hX4 := (t4.block w.heap.size (by omega) (.inr (by omega))).trans hX
  have hO4 := (t4.block (w.heap.size + 1) (by omega) (.inr (by omega))).trans hO
  have hR4 := (t4.block (w.heap.size + 2) (by omega) (.inr (by omega))).trans hR
  have hr4 := hr3.turn t4 hc
  have hz4 : w.heap.size + 3 ≤ w4.heap.size := by have := t4.size; omega
  replace hC4 := hC4.mono (show _ ≤ n + 1 by omega)
  have t04 := (Turn.of_below hb3).trans t4
  obtain ⟨c0, c1, c2, c3, c4⟩ := five_cells hX4
  have o1 : w4.cell? ⟨w.heap.size + 1, 1, none⟩ = some (.int .i64 t) := by simp [World.cell?, hO4]
  have HR := Lib.hid hR4
  clear hX4 hO4 hR4 hX hO hR hz hb3 hC3 hr3
  go_wp2_with fail
  refine (ref_end B s t fa pa fn fc pn pc _ hr4 (by omega) (by omega)).mono ?_
  rintro e w5 ⟨vf, rfl, hr5, t5⟩
  have hz5 : w.heap.size + 2 < w5.heap.size := by have := t5.size; omega
  have hz6 : w.heap.size + 1 + 1 < w5.heap.size := hz5
  have hR5 := (t5.block (w.heap.size + 2) (by omega)).trans HR.out
  have hC5 := hC4.below t5
  have t05 := t04.trans (Turn.of_below t5)
  obtain ⟨⟨qa, qn, qc, rfl⟩, _⟩ := hr5.slices
  obtain ⟨d0, d1, d2, d3, d4⟩ := five_cells hR5
  have f0 := five_free hR5 0; have f1 := five_free hR5 1; have f2 := five_free hR5 2; have f3 := five_free hR5 3; have f4 := five_free hR5 4
  have HR5 := Lib.hid hR5
  clear hR5 c0 c1 c2 c3 c4 o1
  unfold St.val
  go_wp2
  refine bodyPost_ret (v := .tuple #[.agg #[.int .i64 (s.end t).now, .int .i64 (s.end t).last, .int .i64 (s.end t).mark, .slice qa qn qc, .slice pa pn pc], .bool true]) ?_ rfl ⟨_, _, rfl, (ClockAt.fives hC5 _ (by omega) _ _ _ _ _).below ((Below.refl _ _).alloc (Nat.le_refl _) _), (hr5.setR HR5.out _ _ _ _ _).below ((Below.refl _ _).alloc (Nat.le_refl _) _), (t05.fives _ (by omega) _ _ _ _ _).trans (Turn.of_below ((Below.refl _ _).alloc (Nat.le_refl _) _))⟩
  simp [results, Try.results27, go_sem, d0, d1, d2, d3, d4, alloc_cell_lt, hz6]

set_option maxRecDepth 100000 in
set_option maxHeartbeats 1000000 in
theorem asks_abort (B c n : Nat) (s : St) (k t : Int) (fa pa : Option Addr) (fn fc pn pc : Nat) (w : World) (hC : ClockAt w c n s) (hr : RefAt w B s (.slice fa fn fc) (.slice pa pn pc)) (hc : c + 3 ≤ B) (hB : B ≤ w.heap.size) (hn : (n + 1) * 8 ≤ 140737488355328) (ht : (Lit.int .i64 t).wf = true) (g1 : (k == 1) = false) (g2 : (k == 2) = false) (g3 : (k == 3) = false) (g4 : (k == 4) = true) :
    Calls Try.prog 27 #[.pointer (some ⟨c + 2, 0, none⟩), .agg #[.int .i64 s.now, .int .i64 s.last, .int .i64 s.mark, .slice fa fn fc, .slice pa pn pc], .agg #[.int .i64 k, .int .i64 t]] w fun e w' => ∃ vf vp, e = .returned (.tuple #[St.val (s.end t) vf vp, .bool true]) ∧ ClockAt w' c (n + 1) (s.end t) ∧ RefAt w' B (s.end t) vf vp ∧ Turn c w w' := by
  have hnF := hC.fl.le; have hnP := hC.pi.le; have ho := hC.ok
  obtain ⟨hX, hO, hR, hz⟩ := box3 w #[.int .i64 s.now, .int .i64 s.last, .int .i64 s.mark, .slice fa fn fc, .slice pa pn pc] #[.int .i64 k, .int .i64 t] #[.int .i64 0, .int .i64 0, .int .i64 0, .slice none 0 0, .slice none 0 0] 39 28
  have hb3 := three_blocks w (.cells #[.int .i64 s.now, .int .i64 s.last, .int .i64 s.mark, .slice fa fn fc, .slice pa pn pc] 39 (0, 0)) (.cells #[.int .i64 k, .int .i64 t] 28 (0, 0)) (.cells #[.int .i64 0, .int .i64 0, .int .i64 0, .slice none 0 0, .slice none 0 0] 39 (0, 0))
  go_enter Try.func27, Try.ntmps27
  go_wp2_with fail
  generalize ((w.alloc (.cells #[.int .i64 s.now, .int .i64 s.last, .int .i64 s.mark, .slice fa fn fc, .slice pa pn pc] 39 (0, 0))).alloc (.cells #[.int .i64 k, .int .i64 t] 28 (0, 0))).alloc (.cells #[.int .i64 0, .int .i64 0, .int .i64 0, .slice none 0 0, .slice none 0 0] 39 (0, 0)) = w3 at *
  have hC3 := hC.below hb3
  have hr3 := hr.below hb3
  have hlt := hC.lt
  refine (abort_any c n s t _ hC3 (by omega) ht).mono ?_
  rintro e w4 ⟨rfl, hC4, t4⟩
  have hX4 := (t4.block w.heap.size (by omega) (.inr (by omega))).trans hX
  have hO4 := (t4.block (w.heap.size + 1) (by omega) (.inr (by omega))).trans hO
  have hR4 := (t4.block (w.heap.size + 2) (by omega) (.inr (by omega))).trans hR
  have hr4 := hr3.turn t4 hc
  have hz4 : w.heap.size + 3 ≤ w4.heap.size := by have := t4.size; omega
  replace hC4 := hC4.mono (show _ ≤ n + 1 by omega)
  have t04 := (Turn.of_below hb3).trans t4
  obtain ⟨c0, c1, c2, c3, c4⟩ := five_cells hX4
  have o1 : w4.cell? ⟨w.heap.size + 1, 1, none⟩ = some (.int .i64 t) := by simp [World.cell?, hO4]
  have HR := Lib.hid hR4
  clear hX4 hO4 hR4 hX hO hR hz hb3 hC3 hr3
  go_wp2_with fail
  refine (ref_end B s t fa pa fn fc pn pc _ hr4 (by omega) (by omega)).mono ?_
  rintro e w5 ⟨vf, rfl, hr5, t5⟩
  have hz5 : w.heap.size + 2 < w5.heap.size := by have := t5.size; omega
  have hz6 : w.heap.size + 1 + 1 < w5.heap.size := hz5
  have hR5 := (t5.block (w.heap.size + 2) (by omega)).trans HR.out
  have hC5 := hC4.below t5
  have t05 := t04.trans (Turn.of_below t5)
  obtain ⟨⟨qa, qn, qc, rfl⟩, _⟩ := hr5.slices
  obtain ⟨d0, d1, d2, d3, d4⟩ := five_cells hR5
  have f0 := five_free hR5 0; have f1 := five_free hR5 1; have f2 := five_free hR5 2; have f3 := five_free hR5 3; have f4 := five_free hR5 4
  have HR5 := Lib.hid hR5
  clear hR5 c0 c1 c2 c3 c4 o1
  unfold St.val
  go_wp2
  refine bodyPost_ret (v := .tuple #[.agg #[.int .i64 (s.end t).now, .int .i64 (s.end t).last, .int .i64 (s.end t).mark, .slice qa qn qc, .slice pa pn pc], .bool true]) ?_ rfl ⟨_, _, rfl, (ClockAt.fives hC5 _ (by omega) _ _ _ _ _).below ((Below.refl _ _).alloc (Nat.le_refl _) _), (hr5.setR HR5.out _ _ _ _ _).below ((Below.refl _ _).alloc (Nat.le_refl _) _), (t05.fives _ (by omega) _ _ _ _ _).trans (Turn.of_below ((Below.refl _ _).alloc (Nat.le_refl _) _))⟩
  simp [results, Try.results27, go_sem, d0, d1, d2, d3, d4, alloc_cell_lt, hz6]

set_option maxRecDepth 100000 in
set_option maxHeartbeats 1000000 in
theorem asks_raise (B c n : Nat) (s : St) (k t : Int) (fa pa : Option Addr) (fn fc pn pc : Nat) (w : World) (hC : ClockAt w c n s) (hr : RefAt w B s (.slice fa fn fc) (.slice pa pn pc)) (hc : c + 3 ≤ B) (hB : B ≤ w.heap.size) (hn : (n + 1) * 8 ≤ 140737488355328) (ht : (Lit.int .i64 t).wf = true) (g1 : (k == 1) = false) (g2 : (k == 2) = false) (g3 : (k == 3) = false) (g4 : (k == 4) = false) (g5 : (k == 5) = true) :
    Calls Try.prog 27 #[.pointer (some ⟨c + 2, 0, none⟩), .agg #[.int .i64 s.now, .int .i64 s.last, .int .i64 s.mark, .slice fa fn fc, .slice pa pn pc], .agg #[.int .i64 k, .int .i64 t]] w fun e w' => ∃ vf vp, e = .returned (.tuple #[St.val (s.raise t) vf vp, .bool true]) ∧ ClockAt w' c (n + 1) (s.raise t) ∧ RefAt w' B (s.raise t) vf vp ∧ Turn c w w' := by
  have hnF := hC.fl.le; have hnP := hC.pi.le; have ho := hC.ok
  obtain ⟨hX, hO, hR, hz⟩ := box3 w #[.int .i64 s.now, .int .i64 s.last, .int .i64 s.mark, .slice fa fn fc, .slice pa pn pc] #[.int .i64 k, .int .i64 t] #[.int .i64 0, .int .i64 0, .int .i64 0, .slice none 0 0, .slice none 0 0] 39 28
  have hb3 := three_blocks w (.cells #[.int .i64 s.now, .int .i64 s.last, .int .i64 s.mark, .slice fa fn fc, .slice pa pn pc] 39 (0, 0)) (.cells #[.int .i64 k, .int .i64 t] 28 (0, 0)) (.cells #[.int .i64 0, .int .i64 0, .int .i64 0, .slice none 0 0, .slice none 0 0] 39 (0, 0))
  go_enter Try.func27, Try.ntmps27
  go_wp2_with fail
  generalize ((w.alloc (.cells #[.int .i64 s.now, .int .i64 s.last, .int .i64 s.mark, .slice fa fn fc, .slice pa pn pc] 39 (0, 0))).alloc (.cells #[.int .i64 k, .int .i64 t] 28 (0, 0))).alloc (.cells #[.int .i64 0, .int .i64 0, .int .i64 0, .slice none 0 0, .slice none 0 0] 39 (0, 0)) = w3 at *
  have hC3 := hC.below hb3
  have hr3 := hr.below hb3
  have hlt := hC.lt
  refine (raise_any c n s t _ hC3 ht).mono ?_
  rintro e w4 ⟨rfl, hC4, t4⟩
  have hX4 := (t4.block w.heap.size (by omega) (.inr (by omega))).trans hX
  have hO4 := (t4.block (w.heap.size + 1) (by omega) (.inr (by omega))).trans hO
  have hR4 := (t4.block (w.heap.size + 2) (by omega) (.inr (by omega))).trans hR
  have hr4 := hr3.turn t4 hc
  have hz4 : w.heap.size + 3 ≤ w4.heap.size := by have := t4.size; omega
  replace hC4 := hC4.mono (show _ ≤ n + 1 by omega)
  have t04 := (Turn.of_below hb3).trans t4
  obtain ⟨c0, c1, c2, c3, c4⟩ := five_cells hX4
  have o1 : w4.cell? ⟨w.heap.size + 1, 1, none⟩ = some (.int .i64 t) := by simp [World.cell?, hO4]
  have HR := Lib.hid hR4
  clear hX4 hO4 hR4 hX hO hR hz hb3 hC3 hr3
  go_wp2_with fail
  refine (ref_raise B s t fa pa fn fc pn pc _ hr4 ho ht).mono ?_
  rintro e w5 ⟨rfl, hr5, t5⟩
  have hz5 : w.heap.size + 2 < w5.heap.size := by have := t5.size; omega
  have hz6 : w.heap.size + 1 + 1 < w5.heap.size := hz5
  have hR5 := (t5.block (w.heap.size + 2) (by omega)).trans HR.out
  have hC5 := hC4.below t5
  have t05 := t04.trans (Turn.of_below t5)
  obtain ⟨d0, d1, d2, d3, d4⟩ := five_cells hR5
  have f0 := five_free hR5 0; have f1 := five_free hR5 1; have f2 := five_free hR5 2; have f3 := five_free hR5 3; have f4 := five_free hR5 4
  have HR5 := Lib.hid hR5
  clear hR5 c0 c1 c2 c3 c4 o1
  unfold St.val
  go_wp2
  refine bodyPost_ret (v := .tuple #[.agg #[.int .i64 (s.raise t).now, .int .i64 (s.raise t).last, .int .i64 (s.raise t).mark, .slice fa fn fc, .slice pa pn pc], .bool true]) ?_ rfl ⟨_, _, rfl, ClockAt.fives hC5 _ (by omega) _ _ _ _ _, hr5.setR HR5.out _ _ _ _ _, t05.fives _ (by omega) _ _ _ _ _⟩
  simp [results, Try.results27, go_sem, d0, d1, d2, d3, d4]

set_option maxRecDepth 100000 in
set_option maxHeartbeats 1000000 in
theorem asks_move (B c n : Nat) (s : St) (k t : Int) (fa pa : Option Addr) (fn fc pn pc : Nat) (w : World) (hC : ClockAt w c n s) (hr : RefAt w B s (.slice fa fn fc) (.slice pa pn pc)) (hc : c + 3 ≤ B) (hB : B ≤ w.heap.size) (hn : (n + 1) * 8 ≤ 140737488355328) (ht : (Lit.int .i64 t).wf = true) (g1 : (k == 1) = false) (g2 : (k == 2) = false) (g3 : (k == 3) = false) (g4 : (k == 4) = false) (g5 : (k == 5) = false) (g6 : (k == 6) = true) :
    Calls Try.prog 27 #[.pointer (some ⟨c + 2, 0, none⟩), .agg #[.int .i64 s.now, .int .i64 s.last, .int .i64 s.mark, .slice fa fn fc, .slice pa pn pc], .agg #[.int .i64 k, .int .i64 t]] w fun e w' => ∃ vf vp, e = .returned (.tuple #[St.val (s.move t) vf vp, .bool true]) ∧ ClockAt w' c (n + 1) (s.move t) ∧ RefAt w' B (s.move t) vf vp ∧ Turn c w w' := by
  have hnF := hC.fl.le; have hnP := hC.pi.le; have ho := hC.ok
  obtain ⟨hX, hO, hR, hz⟩ := box3 w #[.int .i64 s.now, .int .i64 s.last, .int .i64 s.mark, .slice fa fn fc, .slice pa pn pc] #[.int .i64 k, .int .i64 t] #[.int .i64 0, .int .i64 0, .int .i64 0, .slice none 0 0, .slice none 0 0] 39 28
  have hb3 := three_blocks w (.cells #[.int .i64 s.now, .int .i64 s.last, .int .i64 s.mark, .slice fa fn fc, .slice pa pn pc] 39 (0, 0)) (.cells #[.int .i64 k, .int .i64 t] 28 (0, 0)) (.cells #[.int .i64 0, .int .i64 0, .int .i64 0, .slice none 0 0, .slice none 0 0] 39 (0, 0))
  go_enter Try.func27, Try.ntmps27
  go_wp2_with fail
  generalize ((w.alloc (.cells #[.int .i64 s.now, .int .i64 s.last, .int .i64 s.mark, .slice fa fn fc, .slice pa pn pc] 39 (0, 0))).alloc (.cells #[.int .i64 k, .int .i64 t] 28 (0, 0))).alloc (.cells #[.int .i64 0, .int .i64 0, .int .i64 0, .slice none 0 0, .slice none 0 0] 39 (0, 0)) = w3 at *
  have hC3 := hC.below hb3
  have hr3 := hr.below hb3
  have hlt := hC.lt
  refine (move_any c n s t _ hC3).mono ?_
  rintro e w4 ⟨rfl, hC4, t4⟩
  have hX4 := (t4.block w.heap.size (by omega) (.inr (by omega))).trans hX
  have hO4 := (t4.block (w.heap.size + 1) (by omega) (.inr (by omega))).trans hO
  have hR4 := (t4.block (w.heap.size + 2) (by omega) (.inr (by omega))).trans hR
  have hr4 := hr3.turn t4 hc
  have hz4 : w.heap.size + 3 ≤ w4.heap.size := by have := t4.size; omega
  replace hC4 := hC4.mono (show _ ≤ n + 1 by omega)
  have t04 := (Turn.of_below hb3).trans t4
  obtain ⟨c0, c1, c2, c3, c4⟩ := five_cells hX4
  have o1 : w4.cell? ⟨w.heap.size + 1, 1, none⟩ = some (.int .i64 t) := by simp [World.cell?, hO4]
  have HR := Lib.hid hR4
  clear hX4 hO4 hR4 hX hO hR hz hb3 hC3 hr3
  go_wp2_with fail
  refine (ref_move B s t fa pa fn fc pn pc _ hr4 ho).mono ?_
  rintro e w5 ⟨rfl, hr5, t5⟩
  have hz5 : w.heap.size + 2 < w5.heap.size := by have := t5.size; omega
  have hz6 : w.heap.size + 1 + 1 < w5.heap.size := hz5
  have hR5 := (t5.block (w.heap.size + 2) (by omega)).trans HR.out
  have hC5 := hC4.below t5
  have t05 := t04.trans (Turn.of_below t5)
  obtain ⟨d0, d1, d2, d3, d4⟩ := five_cells hR5
  have f0 := five_free hR5 0; have f1 := five_free hR5 1; have f2 := five_free hR5 2; have f3 := five_free hR5 3; have f4 := five_free hR5 4
  have HR5 := Lib.hid hR5
  clear hR5 c0 c1 c2 c3 c4 o1
  unfold St.val
  go_wp2
  refine bodyPost_ret (v := .tuple #[.agg #[.int .i64 (s.move t).now, .int .i64 (s.move t).last, .int .i64 (s.move t).mark, .slice fa fn fc, .slice pa pn pc], .bool true]) ?_ rfl ⟨_, _, rfl, (ClockAt.fives hC5 _ (by omega) _ _ _ _ _).below ((Below.refl _ _).alloc (Nat.le_refl _) _), (hr5.setR HR5.out _ _ _ _ _).below ((Below.refl _ _).alloc (Nat.le_refl _) _), (t05.fives _ (by omega) _ _ _ _ _).trans (Turn.of_below ((Below.refl _ _).alloc (Nat.le_refl _) _))⟩
  simp [results, Try.results27, go_sem, d0, d1, d2, d3, d4, alloc_cell_lt, hz6]

set_option maxRecDepth 100000 in
set_option maxHeartbeats 1000000 in
theorem asks_pin (B c n : Nat) (s : St) (k t : Int) (fa pa : Option Addr) (fn fc pn pc : Nat) (w : World) (hC : ClockAt w c n s) (hr : RefAt w B s (.slice fa fn fc) (.slice pa pn pc)) (hc : c + 3 ≤ B) (hB : B ≤ w.heap.size) (hn : (n + 1) * 8 ≤ 140737488355328) (ht : (Lit.int .i64 t).wf = true) (g1 : (k == 1) = false) (g2 : (k == 2) = false) (g3 : (k == 3) = false) (g4 : (k == 4) = false) (g5 : (k == 5) = false) (g6 : (k == 6) = false) (g7 : (k == 7) = true) :
    Calls Try.prog 27 #[.pointer (some ⟨c + 2, 0, none⟩), .agg #[.int .i64 s.now, .int .i64 s.last, .int .i64 s.mark, .slice fa fn fc, .slice pa pn pc], .agg #[.int .i64 k, .int .i64 t]] w fun e w' => ∃ vf vp, e = .returned (.tuple #[St.val (s.pin t) vf vp, .bool true]) ∧ ClockAt w' c (n + 1) (s.pin t) ∧ RefAt w' B (s.pin t) vf vp ∧ Turn c w w' := by
  have hnF := hC.fl.le; have hnP := hC.pi.le; have ho := hC.ok
  obtain ⟨hX, hO, hR, hz⟩ := box3 w #[.int .i64 s.now, .int .i64 s.last, .int .i64 s.mark, .slice fa fn fc, .slice pa pn pc] #[.int .i64 k, .int .i64 t] #[.int .i64 0, .int .i64 0, .int .i64 0, .slice none 0 0, .slice none 0 0] 39 28
  have hb3 := three_blocks w (.cells #[.int .i64 s.now, .int .i64 s.last, .int .i64 s.mark, .slice fa fn fc, .slice pa pn pc] 39 (0, 0)) (.cells #[.int .i64 k, .int .i64 t] 28 (0, 0)) (.cells #[.int .i64 0, .int .i64 0, .int .i64 0, .slice none 0 0, .slice none 0 0] 39 (0, 0))
  go_enter Try.func27, Try.ntmps27
  go_wp2_with fail
  generalize ((w.alloc (.cells #[.int .i64 s.now, .int .i64 s.last, .int .i64 s.mark, .slice fa fn fc, .slice pa pn pc] 39 (0, 0))).alloc (.cells #[.int .i64 k, .int .i64 t] 28 (0, 0))).alloc (.cells #[.int .i64 0, .int .i64 0, .int .i64 0, .slice none 0 0, .slice none 0 0] 39 (0, 0)) = w3 at *
  have hC3 := hC.below hb3
  have hr3 := hr.below hb3
  have hlt := hC.lt
  refine (pin_any c n s t _ hC3 (by omega)).mono ?_
  rintro e w4 ⟨rfl, hC4, t4⟩
  have hX4 := (t4.block w.heap.size (by omega) (.inr (by omega))).trans hX
  have hO4 := (t4.block (w.heap.size + 1) (by omega) (.inr (by omega))).trans hO
  have hR4 := (t4.block (w.heap.size + 2) (by omega) (.inr (by omega))).trans hR
  have hr4 := hr3.turn t4 hc
  have hz4 : w.heap.size + 3 ≤ w4.heap.size := by have := t4.size; omega
  replace hC4 := hC4.mono (show _ ≤ n + 1 by omega)
  have t04 := (Turn.of_below hb3).trans t4
  obtain ⟨c0, c1, c2, c3, c4⟩ := five_cells hX4
  have o1 : w4.cell? ⟨w.heap.size + 1, 1, none⟩ = some (.int .i64 t) := by simp [World.cell?, hO4]
  have HR := Lib.hid hR4
  clear hX4 hO4 hR4 hX hO hR hz hb3 hC3 hr3
  go_wp2_with fail
  refine (ref_pin B s t fa pa fn fc pn pc _ hr4 (by omega) (by omega)).mono ?_
  rintro e w5 ⟨vf, rfl, hr5, t5⟩
  have hz5 : w.heap.size + 2 < w5.heap.size := by have := t5.size; omega
  have hz6 : w.heap.size + 1 + 1 < w5.heap.size := hz5
  have hR5 := (t5.block (w.heap.size + 2) (by omega)).trans HR.out
  have hC5 := hC4.below t5
  have t05 := t04.trans (Turn.of_below t5)
  obtain ⟨_, ⟨qa, qn, qc, rfl⟩⟩ := hr5.slices
  obtain ⟨d0, d1, d2, d3, d4⟩ := five_cells hR5
  have f0 := five_free hR5 0; have f1 := five_free hR5 1; have f2 := five_free hR5 2; have f3 := five_free hR5 3; have f4 := five_free hR5 4
  have HR5 := Lib.hid hR5
  clear hR5 c0 c1 c2 c3 c4 o1
  unfold St.val
  go_wp2
  refine bodyPost_ret (v := .tuple #[.agg #[.int .i64 (s.pin t).now, .int .i64 (s.pin t).last, .int .i64 (s.pin t).mark, .slice fa fn fc, .slice qa qn qc], .bool true]) ?_ rfl ⟨_, _, rfl, (ClockAt.fives hC5 _ (by omega) _ _ _ _ _).below ((Below.refl _ _).alloc (Nat.le_refl _) _), (hr5.setR HR5.out _ _ _ _ _).below ((Below.refl _ _).alloc (Nat.le_refl _) _), (t05.fives _ (by omega) _ _ _ _ _).trans (Turn.of_below ((Below.refl _ _).alloc (Nat.le_refl _) _))⟩
  simp [results, Try.results27, go_sem, d0, d1, d2, d3, d4, alloc_cell_lt, hz6]

set_option maxRecDepth 100000 in
set_option maxHeartbeats 1000000 in
theorem asks_unpin (B c n : Nat) (s : St) (k t : Int) (fa pa : Option Addr) (fn fc pn pc : Nat) (w : World) (hC : ClockAt w c n s) (hr : RefAt w B s (.slice fa fn fc) (.slice pa pn pc)) (hc : c + 3 ≤ B) (hB : B ≤ w.heap.size) (hn : (n + 1) * 8 ≤ 140737488355328) (ht : (Lit.int .i64 t).wf = true) (g1 : (k == 1) = false) (g2 : (k == 2) = false) (g3 : (k == 3) = false) (g4 : (k == 4) = false) (g5 : (k == 5) = false) (g6 : (k == 6) = false) (g7 : (k == 7) = false) (g8 : (k == 8) = true) :
    Calls Try.prog 27 #[.pointer (some ⟨c + 2, 0, none⟩), .agg #[.int .i64 s.now, .int .i64 s.last, .int .i64 s.mark, .slice fa fn fc, .slice pa pn pc], .agg #[.int .i64 k, .int .i64 t]] w fun e w' => ∃ vf vp, e = .returned (.tuple #[St.val (s.unpin t) vf vp, .bool true]) ∧ ClockAt w' c (n + 1) (s.unpin t) ∧ RefAt w' B (s.unpin t) vf vp ∧ Turn c w w' := by
  have hnF := hC.fl.le; have hnP := hC.pi.le; have ho := hC.ok
  obtain ⟨hX, hO, hR, hz⟩ := box3 w #[.int .i64 s.now, .int .i64 s.last, .int .i64 s.mark, .slice fa fn fc, .slice pa pn pc] #[.int .i64 k, .int .i64 t] #[.int .i64 0, .int .i64 0, .int .i64 0, .slice none 0 0, .slice none 0 0] 39 28
  have hb3 := three_blocks w (.cells #[.int .i64 s.now, .int .i64 s.last, .int .i64 s.mark, .slice fa fn fc, .slice pa pn pc] 39 (0, 0)) (.cells #[.int .i64 k, .int .i64 t] 28 (0, 0)) (.cells #[.int .i64 0, .int .i64 0, .int .i64 0, .slice none 0 0, .slice none 0 0] 39 (0, 0))
  go_enter Try.func27, Try.ntmps27
  go_wp2_with fail
  generalize ((w.alloc (.cells #[.int .i64 s.now, .int .i64 s.last, .int .i64 s.mark, .slice fa fn fc, .slice pa pn pc] 39 (0, 0))).alloc (.cells #[.int .i64 k, .int .i64 t] 28 (0, 0))).alloc (.cells #[.int .i64 0, .int .i64 0, .int .i64 0, .slice none 0 0, .slice none 0 0] 39 (0, 0)) = w3 at *
  have hC3 := hC.below hb3
  have hr3 := hr.below hb3
  have hlt := hC.lt
  refine (unpin_any c n s t _ hC3 (by omega) ht).mono ?_
  rintro e w4 ⟨rfl, hC4, t4⟩
  have hX4 := (t4.block w.heap.size (by omega) (.inr (by omega))).trans hX
  have hO4 := (t4.block (w.heap.size + 1) (by omega) (.inr (by omega))).trans hO
  have hR4 := (t4.block (w.heap.size + 2) (by omega) (.inr (by omega))).trans hR
  have hr4 := hr3.turn t4 hc
  have hz4 : w.heap.size + 3 ≤ w4.heap.size := by have := t4.size; omega
  replace hC4 := hC4.mono (show _ ≤ n + 1 by omega)
  have t04 := (Turn.of_below hb3).trans t4
  obtain ⟨c0, c1, c2, c3, c4⟩ := five_cells hX4
  have o1 : w4.cell? ⟨w.heap.size + 1, 1, none⟩ = some (.int .i64 t) := by simp [World.cell?, hO4]
  have HR := Lib.hid hR4
  clear hX4 hO4 hR4 hX hO hR hz hb3 hC3 hr3
  go_wp2_with fail
  refine (ref_unpin B s t fa pa fn fc pn pc _ hr4 (by omega) (by omega)).mono ?_
  rintro e w5 ⟨vf, rfl, hr5, t5⟩
  have hz5 : w.heap.size + 2 < w5.heap.size := by have := t5.size; omega
  have hz6 : w.heap.size + 1 + 1 < w5.heap.size := hz5
  have hR5 := (t5.block (w.heap.size + 2) (by omega)).trans HR.out
  have hC5 := hC4.below t5
  have t05 := t04.trans (Turn.of_below t5)
  obtain ⟨_, ⟨qa, qn, qc, rfl⟩⟩ := hr5.slices
  obtain ⟨d0, d1, d2, d3, d4⟩ := five_cells hR5
  have f0 := five_free hR5 0; have f1 := five_free hR5 1; have f2 := five_free hR5 2; have f3 := five_free hR5 3; have f4 := five_free hR5 4
  have HR5 := Lib.hid hR5
  clear hR5 c0 c1 c2 c3 c4 o1
  unfold St.val
  go_wp2
  refine bodyPost_ret (v := .tuple #[.agg #[.int .i64 (s.unpin t).now, .int .i64 (s.unpin t).last, .int .i64 (s.unpin t).mark, .slice fa fn fc, .slice qa qn qc], .bool true]) ?_ rfl ⟨_, _, rfl, (ClockAt.fives hC5 _ (by omega) _ _ _ _ _).below ((Below.refl _ _).alloc (Nat.le_refl _) _), (hr5.setR HR5.out _ _ _ _ _).below ((Below.refl _ _).alloc (Nat.le_refl _) _), (t05.fives _ (by omega) _ _ _ _ _).trans (Turn.of_below ((Below.refl _ _).alloc (Nat.le_refl _) _))⟩
  simp [results, Try.results27, go_sem, d0, d1, d2, d3, d4, alloc_cell_lt, hz6]

set_option maxRecDepth 100000 in
set_option maxHeartbeats 1000000 in
theorem asks_nine (B c n : Nat) (s : St) (k t : Int) (fa pa : Option Addr) (fn fc pn pc : Nat) (w : World) (hC : ClockAt w c n s) (hr : RefAt w B s (.slice fa fn fc) (.slice pa pn pc)) (hc : c + 3 ≤ B) (hB : B ≤ w.heap.size) (hn : (n + 1) * 8 ≤ 140737488355328) (ht : (Lit.int .i64 t).wf = true) (g1 : (k == 1) = false) (g2 : (k == 2) = false) (g3 : (k == 3) = false) (g4 : (k == 4) = false) (g5 : (k == 5) = false) (g6 : (k == 6) = false) (g7 : (k == 7) = false) (g8 : (k == 8) = false) (g9 : (k == 9) = true) :
    Calls Try.prog 27 #[.pointer (some ⟨c + 2, 0, none⟩), .agg #[.int .i64 s.now, .int .i64 s.last, .int .i64 s.mark, .slice fa fn fc, .slice pa pn pc], .agg #[.int .i64 k, .int .i64 t]] w fun e w' => ∃ vf vp, e = .returned (.tuple #[St.val (s.end (leastOf s.F 2199023255552)) vf vp, .bool true]) ∧ ClockAt w' c (n + 1) (s.end (leastOf s.F 2199023255552)) ∧ RefAt w' B (s.end (leastOf s.F 2199023255552)) vf vp ∧ Turn c w w' := by
  have hnF := hC.fl.le; have hnP := hC.pi.le; have ho := hC.ok
  obtain ⟨hX, hO, hR, hz⟩ := box3 w #[.int .i64 s.now, .int .i64 s.last, .int .i64 s.mark, .slice fa fn fc, .slice pa pn pc] #[.int .i64 k, .int .i64 t] #[.int .i64 0, .int .i64 0, .int .i64 0, .slice none 0 0, .slice none 0 0] 39 28
  have hb3 := three_blocks w (.cells #[.int .i64 s.now, .int .i64 s.last, .int .i64 s.mark, .slice fa fn fc, .slice pa pn pc] 39 (0, 0)) (.cells #[.int .i64 k, .int .i64 t] 28 (0, 0)) (.cells #[.int .i64 0, .int .i64 0, .int .i64 0, .slice none 0 0, .slice none 0 0] 39 (0, 0))
  go_enter Try.func27, Try.ntmps27
  go_wp2_with fail
  generalize ((w.alloc (.cells #[.int .i64 s.now, .int .i64 s.last, .int .i64 s.mark, .slice fa fn fc, .slice pa pn pc] 39 (0, 0))).alloc (.cells #[.int .i64 k, .int .i64 t] 28 (0, 0))).alloc (.cells #[.int .i64 0, .int .i64 0, .int .i64 0, .slice none 0 0, .slice none 0 0] 39 (0, 0)) = w3 at *
  have hC3 := hC.below hb3
  have hr3 := hr.below hb3
  have hlt := hC.lt
  obtain ⟨⟨lf9, i9, p9⟩, _⟩ := id hr3
  obtain ⟨c0, c1, c2, c3, c4⟩ := five_cells hX
  have HP9 := Lib.hid (leastOf_perm p9 2199023255552)
  have hx9 : (Lit.int .i64 (leastOf s.F 2199023255552)).wf = true := by
    have h9 := leastOf_le s.F 2199023255552
    rcases leastOf_mem s.F 2199023255552 with e | e
    · rw [e]; decide
    · exact hC.fl.wf _ e
  refine ((least_ref B _ lf9 2199023255552 _ i9).mono (fun e w' h => (⟨h.1.trans (by rw [HP9.out]), h.2⟩ : e = .returned (.int .i64 (leastOf s.F 2199023255552)) ∧ _ = w'))).mono ?_
  rintro e w3' ⟨rfl, rfl⟩
  clear c0 c1 c2 c3 c4
  go_wp2_with fail
  refine (commit_any c n s (leastOf s.F 2199023255552) _ hC3 (by omega) hx9).mono ?_
  rintro e w4 ⟨rfl, hC4, t4⟩
  have hX4 := (t4.block w.heap.size (by omega) (.inr (by omega))).trans hX
  have hO4 := (t4.block (w.heap.size + 1) (by omega) (.inr (by omega))).trans hO
  have hR4 := (t4.block (w.heap.size + 2) (by omega) (.inr (by omega))).trans hR
  have hr4 := hr3.turn t4 hc
  have hz4 : w.heap.size + 3 ≤ w4.heap.size := by have := t4.size; omega
  replace hC4 := hC4.mono (show _ ≤ n + 1 by omega)
  have t04 := (Turn.of_below hb3).trans t4
  obtain ⟨c0, c1, c2, c3, c4⟩ := five_cells hX4
  have o1 : w4.cell? ⟨w.heap.size + 1, 1, none⟩ = some (.int .i64 t) := by simp [World.cell?, hO4]
  have HR := Lib.hid hR4
  clear hX4 hO4 hR4 hX hO hR hz hb3 hC3 hr3
  go_wp2_with fail
  refine (ref_end B s (leastOf s.F 2199023255552) fa pa fn fc pn pc _ hr4 (by omega) (by omega)).mono ?_
  rintro e w5 ⟨vf, rfl, hr5, t5⟩
  have hz5 : w.heap.size + 2 < w5.heap.size := by have := t5.size; omega
  have hz6 : w.heap.size + 1 + 1 < w5.heap.size := hz5
  have hR5 := (t5.block (w.heap.size + 2) (by omega)).trans HR.out
  have hC5 := hC4.below t5
  have t05 := t04.trans (Turn.of_below t5)
  obtain ⟨⟨qa, qn, qc, rfl⟩, _⟩ := hr5.slices
  obtain ⟨d0, d1, d2, d3, d4⟩ := five_cells hR5
  have f0 := five_free hR5 0; have f1 := five_free hR5 1; have f2 := five_free hR5 2; have f3 := five_free hR5 3; have f4 := five_free hR5 4
  have HR5 := Lib.hid hR5
  clear hR5 c0 c1 c2 c3 c4 o1
  unfold St.val
  go_wp2
  refine bodyPost_ret (v := .tuple #[.agg #[.int .i64 (s.end (leastOf s.F 2199023255552)).now, .int .i64 (s.end (leastOf s.F 2199023255552)).last, .int .i64 (s.end (leastOf s.F 2199023255552)).mark, .slice qa qn qc, .slice pa pn pc], .bool true]) ?_ rfl ⟨_, _, rfl, (ClockAt.fives hC5 _ (by omega) _ _ _ _ _).below ((Below.refl _ _).alloc (Nat.le_refl _) _), (hr5.setR HR5.out _ _ _ _ _).below ((Below.refl _ _).alloc (Nat.le_refl _) _), (t05.fives _ (by omega) _ _ _ _ _).trans (Turn.of_below ((Below.refl _ _).alloc (Nat.le_refl _) _))⟩
  simp [results, Try.results27, go_sem, d0, d1, d2, d3, d4, alloc_cell_lt, hz6]

set_option maxRecDepth 100000 in
set_option maxHeartbeats 1000000 in
theorem asks_none (B c n : Nat) (s : St) (k t : Int) (fa pa : Option Addr) (fn fc pn pc : Nat) (w : World) (hC : ClockAt w c n s) (hr : RefAt w B s (.slice fa fn fc) (.slice pa pn pc)) (hc : c + 3 ≤ B) (hB : B ≤ w.heap.size) (hn : (n + 1) * 8 ≤ 140737488355328) (ht : (Lit.int .i64 t).wf = true) (g1 : (k == 1) = false) (g2 : (k == 2) = false) (g3 : (k == 3) = false) (g4 : (k == 4) = false) (g5 : (k == 5) = false) (g6 : (k == 6) = false) (g7 : (k == 7) = false) (g8 : (k == 8) = false) (g9 : (k == 9) = false) :
    Calls Try.prog 27 #[.pointer (some ⟨c + 2, 0, none⟩), .agg #[.int .i64 s.now, .int .i64 s.last, .int .i64 s.mark, .slice fa fn fc, .slice pa pn pc], .agg #[.int .i64 k, .int .i64 t]] w fun e w' => ∃ vf vp, e = .returned (.tuple #[St.val s vf vp, .bool true]) ∧ ClockAt w' c (n + 1) s ∧ RefAt w' B s vf vp ∧ Turn c w w' := by
  go_enter Try.func27, Try.ntmps27
  go_wp2
  exact bodyPost_ret (v := .tuple #[.agg #[.int .i64 s.now, .int .i64 s.last, .int .i64 s.mark, .slice fa fn fc, .slice pa pn pc], .bool true]) (by simp [results, Try.results27, go_sem]) rfl ⟨_, _, rfl, (hC.below (three_blocks _ _ _ _)).mono (Nat.le_succ _), hr.below (three_blocks _ _ _ _), Turn.of_below (three_blocks _ _ _ _)⟩

theorem asks_any (B c n : Nat) (s : St) (k t : Int) (fa pa : Option Addr) (fn fc pn pc : Nat) (w : World) (hC : ClockAt w c n s) (hr : RefAt w B s (.slice fa fn fc) (.slice pa pn pc)) (hc : c + 3 ≤ B) (hB : B ≤ w.heap.size) (hn : (n + 1) * 8 ≤ 140737488355328) (ht : (Lit.int .i64 t).wf = true) :
    Calls Try.prog 27 #[.pointer (some ⟨c + 2, 0, none⟩), .agg #[.int .i64 s.now, .int .i64 s.last, .int .i64 s.mark, .slice fa fn fc, .slice pa pn pc], .agg #[.int .i64 k, .int .i64 t]] w fun e w' => ∃ vf vp, e = .returned (.tuple #[St.val (s.asks k t) vf vp, .bool true]) ∧ ClockAt w' c (n + 1) (s.asks k t) ∧ RefAt w' B (s.asks k t) vf vp ∧ Turn c w w' := by
  rcases kinds9 k with ⟨H, g1⟩ | ⟨H, g1, g2⟩ | ⟨H, g1, g2, g3⟩ | ⟨H, g1, g2, g3, g4⟩ | ⟨H, g1, g2, g3, g4, g5⟩ | ⟨H, g1, g2, g3, g4, g5, g6⟩ | ⟨H, g1, g2, g3, g4, g5, g6, g7⟩ | ⟨H, g1, g2, g3, g4, g5, g6, g7, g8⟩ | ⟨H, g1, g2, g3, g4, g5, g6, g7, g8, g9⟩ | ⟨H, g1, g2, g3, g4, g5, g6, g7, g8, g9⟩
  · have hs : s.asks k t = s.tick t := by subst H; rfl
    rw [hs]; exact asks_tick B c n s k t fa pa fn fc pn pc w hC hr hc hB hn ht g1
  · have hs : s.asks k t = s.begin := by subst H; rfl
    rw [hs]; exact asks_begin B c n s k t fa pa fn fc pn pc w hC hr hc hB hn ht g1 g2
  · have hs : s.asks k t = s.end t := by subst H; rfl
    rw [hs]; exact asks_commit B c n s k t fa pa fn fc pn pc w hC hr hc hB hn ht g1 g2 g3
  · have hs : s.asks k t = s.end t := by subst H; rfl
    rw [hs]; exact asks_abort B c n s k t fa pa fn fc pn pc w hC hr hc hB hn ht g1 g2 g3 g4
  · have hs : s.asks k t = s.raise t := by subst H; rfl
    rw [hs]; exact asks_raise B c n s k t fa pa fn fc pn pc w hC hr hc hB hn ht g1 g2 g3 g4 g5
  · have hs : s.asks k t = s.move t := by subst H; rfl
    rw [hs]; exact asks_move B c n s k t fa pa fn fc pn pc w hC hr hc hB hn ht g1 g2 g3 g4 g5 g6
  · have hs : s.asks k t = s.pin t := by subst H; rfl
    rw [hs]; exact asks_pin B c n s k t fa pa fn fc pn pc w hC hr hc hB hn ht g1 g2 g3 g4 g5 g6 g7
  · have hs : s.asks k t = s.unpin t := by subst H; rfl
    rw [hs]; exact asks_unpin B c n s k t fa pa fn fc pn pc w hC hr hc hB hn ht g1 g2 g3 g4 g5 g6 g7 g8
  · have hs : s.asks k t = s.end (leastOf s.F 2199023255552) := by subst H; rfl
    rw [hs]; exact asks_nine B c n s k t fa pa fn fc pn pc w hC hr hc hB hn ht g1 g2 g3 g4 g5 g6 g7 g8 g9
  · have hs : s.asks k t = s := by simp [St.asks, H]
    rw [hs]; exact asks_none B c n s k t fa pa fn fc pn pc w hC hr hc hB hn ht g1 g2 g3 g4 g5 g6 g7 g8 g9

end Go.Proofs.Ytiijkehiphkkiaa
