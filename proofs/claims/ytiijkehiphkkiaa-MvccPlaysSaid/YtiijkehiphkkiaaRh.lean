/-
  The reference of the clock: the functions that hand back another state.
-/
import Derived.Test.YtiijkehiphkkiaaRg
namespace Go.Proofs.Ytiijkehiphkkiaa
open Go.RowKit Go.Maps Go.Sort

theorem two_blocks (w : World) (a b : Obj) : Below w.heap.size w ((w.alloc a).alloc b) := (((Below.refl _ w).alloc (Nat.le_refl _) _).alloc (by simp) _)

theorem box2 (w : World) (X R : Array Value) (t : TypeId) : ((w.alloc (.cells X t (0, 0))).alloc (.cells R t (0, 0))).heap[w.heap.size]? = some (.cells X t (0, 0)) ∧ ((w.alloc (.cells X t (0, 0))).alloc (.cells R t (0, 0))).heap[w.heap.size + 1]? = some (.cells R t (0, 0)) ∧
    ((w.alloc (.cells X t (0, 0))).alloc (.cells R t (0, 0))).heap.size = w.heap.size + 2 := by
  have s1 : (w.alloc (.cells X t (0, 0))).heap.size = w.heap.size + 1 := by simp
  refine ⟨?_, ?_, by simp⟩
  · rw [Below.heap_alloc _ _ _ (by omega)]; exact (MapKept.heap_alloc _ _).1
  · rw [← s1]; exact (MapKept.heap_alloc _ _).1

theorem five_set {B : Nat} {w0 w : World} (h : Below B w0 w) (b : Nat) (hb : B ≤ b) (a0 a1 a2 a3 a4 : Value) :
    Below B w0 (((((w.setCell ⟨b, 0, none⟩ a0).setCell ⟨b, 1, none⟩ a1).setCell ⟨b, 2, none⟩ a2).setCell ⟨b, 3, none⟩ a3).setCell ⟨b, 4, none⟩ a4) :=
  ((((h.setCell hb _).setCell hb _).setCell hb _).setCell hb _).setCell hb _

theorem Ints.setLow {w : World} {B : Nat} {v : Value} {l : List Int} (h : Ints w B v l) {a : Addr} (ha : a.block < B) (u : Value) : Ints (w.setCell a u) B v l :=
  ⟨ownsRow_setCell_below h.row ha u⟩

theorem ref_tick (B : Nat) (s : St) (t : Int) (fa pa : Option Addr) (fn fc pn pc : Nat) (w : World) (hr : RefAt w B s (.slice fa fn fc) (.slice pa pn pc)) (ho : s.Ok) (ht : (Lit.int .i64 t).wf = true) :
    Calls Try.prog 55 #[.agg #[.int .i64 s.now, .int .i64 s.last, .int .i64 s.mark, .slice fa fn fc, .slice pa pn pc], .int .i64 t] w fun e w' => e = .returned (St.val (s.tick t) (.slice fa fn fc) (.slice pa pn pc)) ∧ RefAt w' B (s.tick t) (.slice fa fn fc) (.slice pa pn pc) ∧ Below w.heap.size w w' := by
  have b0 := ho.now0; have b1 := ho.now1
  have bt := wf_bounds ht
  go_enter Try.func55, Try.ntmps55
  go_wp2
  · refine bodyPost_ret (v := .agg #[.int .i64 1099511627777, .int .i64 s.last, .int .i64 s.mark, .slice fa fn fc, .slice pa pn pc]) (by simp [results, Try.results55, go_sem]) rfl ⟨ret_val (by unfold St.tick; simp only; omega) rfl rfl, ?_, two_blocks _ _ _⟩
    exact (hr.below (two_blocks _ _ _)).same rfl rfl
  · refine bodyPost_ret (v := .agg #[.int .i64 (s.now + t), .int .i64 s.last, .int .i64 s.mark, .slice fa fn fc, .slice pa pn pc]) (by simp [results, Try.results55, go_sem]) rfl ⟨ret_val (by unfold St.tick; simp only; omega) rfl rfl, ?_, two_blocks _ _ _⟩
    exact (hr.below (two_blocks _ _ _)).same rfl rfl
  · refine bodyPost_ret (v := .agg #[.int .i64 s.now, .int .i64 s.last, .int .i64 s.mark, .slice fa fn fc, .slice pa pn pc]) (by simp [results, Try.results55, go_sem]) rfl ⟨ret_val (by unfold St.tick; simp only; omega) rfl rfl, ?_, two_blocks _ _ _⟩
    exact (hr.below (two_blocks _ _ _)).same rfl rfl

theorem ref_raise (B : Nat) (s : St) (t : Int) (fa pa : Option Addr) (fn fc pn pc : Nat) (w : World) (hr : RefAt w B s (.slice fa fn fc) (.slice pa pn pc)) (ho : s.Ok) (ht : (Lit.int .i64 t).wf = true) :
    Calls Try.prog 59 #[.agg #[.int .i64 s.now, .int .i64 s.last, .int .i64 s.mark, .slice fa fn fc, .slice pa pn pc], .int .i64 t] w fun e w' => e = .returned (St.val (s.raise t) (.slice fa fn fc) (.slice pa pn pc)) ∧ RefAt w' B (s.raise t) (.slice fa fn fc) (.slice pa pn pc) ∧ Below w.heap.size w w' := by
  have b0 := ho.last0; have b1 := ho.last1
  have bt := wf_bounds ht
  go_enter Try.func59, Try.ntmps59
  go_wp2
  · exact bodyPost_ret (v := .agg #[.int .i64 s.now, .int .i64 1099511627776, .int .i64 s.mark, .slice fa fn fc, .slice pa pn pc]) (by simp [results, Try.results59, go_sem]) rfl ⟨ret_val rfl (by unfold St.raise; simp only; omega) rfl, (hr.below (two_blocks _ _ _)).same rfl rfl, two_blocks _ _ _⟩
  · exact bodyPost_ret (v := .agg #[.int .i64 s.now, .int .i64 s.last, .int .i64 s.mark, .slice fa fn fc, .slice pa pn pc]) (by simp [results, Try.results59, go_sem]) rfl ⟨ret_val rfl (by unfold St.raise; simp only; omega) rfl, (hr.below (two_blocks _ _ _)).same rfl rfl, two_blocks _ _ _⟩
  · exact bodyPost_ret (v := .agg #[.int .i64 s.now, .int .i64 t, .int .i64 s.mark, .slice fa fn fc, .slice pa pn pc]) (by simp [results, Try.results59, go_sem]) rfl ⟨ret_val rfl (by unfold St.raise; simp only; omega) rfl, (hr.below (two_blocks _ _ _)).same rfl rfl, two_blocks _ _ _⟩
  · exact bodyPost_ret (v := .agg #[.int .i64 s.now, .int .i64 s.last, .int .i64 s.mark, .slice fa fn fc, .slice pa pn pc]) (by simp [results, Try.results59, go_sem]) rfl ⟨ret_val rfl (by unfold St.raise; simp only; omega) rfl, (hr.below (two_blocks _ _ _)).same rfl rfl, two_blocks _ _ _⟩

set_option linter.unusedVariables false in
theorem ref_move (B : Nat) (s : St) (t : Int) (fa pa : Option Addr) (fn fc pn pc : Nat) (w : World) (hr : RefAt w B s (.slice fa fn fc) (.slice pa pn pc)) (ho : s.Ok) :
    Calls Try.prog 60 #[.agg #[.int .i64 s.now, .int .i64 s.last, .int .i64 s.mark, .slice fa fn fc, .slice pa pn pc], .int .i64 t] w fun e w' => e = .returned (.tuple #[St.val (s.move t) (.slice fa fn fc) (.slice pa pn pc), .int .i64 (s.moveErr t)]) ∧ RefAt w' B (s.move t) (.slice fa fn fc) (.slice pa pn pc) ∧ Below w.heap.size w w' := by
  unfold St.move St.moveErr
  by_cases hm : t < s.mark ∨ 1099511627776 < t
  · rw [if_pos hm, if_pos hm]
    rcases hm with hm | hm
    all_goals
      go_enter Try.func60, Try.ntmps60
      go_wp2
      all_goals exact bodyPost_ret (v := .tuple #[.agg #[.int .i64 s.now, .int .i64 s.last, .int .i64 s.mark, .slice fa fn fc, .slice pa pn pc], .int .i64 1]) (by simp [results, Try.results60, go_sem]) rfl ⟨rfl, hr.below (two_blocks _ _ _), two_blocks _ _ _⟩
  · rw [if_neg hm, if_neg hm]
    have m1 : s.mark ≤ t := by omega
    have m2 : t ≤ 1099511627776 := by omega
    go_enter Try.func60, Try.ntmps60
    go_wp2
    exact bodyPost_ret (v := .tuple #[.agg #[.int .i64 s.now, .int .i64 s.last, .int .i64 t, .slice fa fn fc, .slice pa pn pc], .int .i64 0]) (by simp [results, Try.results60, go_sem]) rfl ⟨rfl, (hr.below (two_blocks _ _ _)).same rfl rfl, two_blocks _ _ _⟩

theorem ref_begin (B : Nat) (s : St) (fa pa : Option Addr) (fn fc pn pc : Nat) (w : World) (hr : RefAt w B s (.slice fa fn fc) (.slice pa pn pc)) (ho : s.Ok) (hB : B ≤ w.heap.size) (hl : (s.F.length + 1) * 8 ≤ 140737488355328) :
    Calls Try.prog 56 #[.agg #[.int .i64 s.now, .int .i64 s.last, .int .i64 s.mark, .slice fa fn fc, .slice pa pn pc]] w fun e w' => ∃ vf, e = .returned (.tuple #[St.val s.begin vf (.slice pa pn pc), .int .i64 s.beginTime, .int .i64 s.beginErr]) ∧ RefAt w' B s.begin vf (.slice pa pn pc) ∧ Below w.heap.size w w' := by
  unfold St.begin St.beginTime St.beginErr
  obtain ⟨⟨lf, g1, g2⟩, ⟨lp, p1, p2⟩⟩ := hr
  by_cases hm : 1099511627776 < s.next
  · rw [if_pos hm, if_pos hm, if_pos hm]
    go_enter Try.func56, Try.ntmps56
    go_wp2_with fail
    obtain ⟨hX, hR, hz⟩ := box2 w #[.int .i64 s.now, .int .i64 s.last, .int .i64 s.mark, .slice fa fn fc, .slice pa pn pc] #[.int .i64 0, .int .i64 0, .int .i64 0, .slice none 0 0, .slice none 0 0] 39
    have hb2 := two_blocks w (.cells #[.int .i64 s.now, .int .i64 s.last, .int .i64 s.mark, .slice fa fn fc, .slice pa pn pc] 39 (0, 0)) (.cells #[.int .i64 0, .int .i64 0, .int .i64 0, .slice none 0 0, .slice none 0 0] 39 (0, 0))
    generalize (w.alloc (.cells #[.int .i64 s.now, .int .i64 s.last, .int .i64 s.mark, .slice fa fn fc, .slice pa pn pc] 39 (0, 0))).alloc (.cells #[.int .i64 0, .int .i64 0, .int .i64 0, .slice none 0 0, .slice none 0 0] 39 (0, 0)) = w2 at *
    refine (ref_next s _ _ _ ho).mono ?_
    rintro e w3 ⟨rfl, t3⟩
    have hX3 := (t3.block _ (by omega)).trans hX
    have hR3 := (t3.block _ (by omega)).trans hR
    obtain ⟨c0, c1, c2, c3, c4⟩ := five_cells hX3
    obtain ⟨d0, d1, d2, d3, d4⟩ := five_cells hR3
    have f0 := five_free hR3 0; have f1 := five_free hR3 1; have f2 := five_free hR3 2; have f3 := five_free hR3 3; have f4 := five_free hR3 4
    have b3 := hb2.trans (t3.mono hb2.size)
    have HZ := Lib.hid hz
    clear hX hR hX3 hR3 hz
    go_wp2
    refine bodyPost_ret (v := .tuple #[.agg #[.int .i64 s.now, .int .i64 s.last, .int .i64 s.mark, .slice fa fn fc, .slice pa pn pc], .int .i64 0, .int .i64 170]) ?_ rfl ⟨_, rfl, ?_, five_set b3 _ (by omega) _ _ _ _ _⟩
    · simp [results, Try.results56, go_sem, d0, d1, d2, d3, d4]
    · exact RefAt.below ⟨⟨lf, g1, g2⟩, ⟨lp, p1, p2⟩⟩ (five_set b3 _ (by omega) _ _ _ _ _)
  · rw [if_neg hm, if_neg hm, if_neg hm]
    have m2 : s.next ≤ 1099511627776 := by omega
    go_enter Try.func56, Try.ntmps56
    go_wp2_with fail
    obtain ⟨hX, hR, hz⟩ := box2 w #[.int .i64 s.now, .int .i64 s.last, .int .i64 s.mark, .slice fa fn fc, .slice pa pn pc] #[.int .i64 0, .int .i64 0, .int .i64 0, .slice none 0 0, .slice none 0 0] 39
    have hb2 := two_blocks w (.cells #[.int .i64 s.now, .int .i64 s.last, .int .i64 s.mark, .slice fa fn fc, .slice pa pn pc] 39 (0, 0)) (.cells #[.int .i64 0, .int .i64 0, .int .i64 0, .slice none 0 0, .slice none 0 0] 39 (0, 0))
    generalize (w.alloc (.cells #[.int .i64 s.now, .int .i64 s.last, .int .i64 s.mark, .slice fa fn fc, .slice pa pn pc] 39 (0, 0))).alloc (.cells #[.int .i64 0, .int .i64 0, .int .i64 0, .slice none 0 0, .slice none 0 0] 39 (0, 0)) = w2 at *
    refine (ref_next s _ _ _ ho).mono ?_
    rintro e w3 ⟨rfl, t3⟩
    have hX3 := (t3.block _ (by omega)).trans hX
    have hR3 := (t3.block _ (by omega)).trans hR
    have b3 := hb2.trans (t3.mono hb2.size)
    have hz3 : w.heap.size + 2 ≤ w3.heap.size := by have := t3.size; omega
    obtain ⟨c0, c1, c2, c3, c4⟩ := five_cells hX3
    have f1 := five_free hX3 1
    have HX := Lib.hid hX3; have HR := Lib.hid hR3
    clear hX hR hX3 hR3 hz
    go_wp2_with fail
    have hX4 := block_setCell (i := 1) (u := .int .i64 s.next) HX.out
    have hR4 := (Below.heap_setCell w3 ⟨w.heap.size, 1, none⟩ (.int .i64 s.next) (w.heap.size + 1) (by simp)).trans HR.out
    have b4 : Below w.heap.size w (w3.setCell ⟨w.heap.size, 1, none⟩ (.int .i64 s.next)) := b3.setCell (by simp) _
    have hz4 : (w3.setCell ⟨w.heap.size, 1, none⟩ (.int .i64 s.next)).heap.size = w3.heap.size := by simp [World.setCell]
    clear c0 c1 c2 c3 c4 f1
    generalize w3.setCell ⟨w.heap.size, 1, none⟩ (.int .i64 s.next) = w4 at *
    refine (put_any B _ lf s.next _ (g1.below b4) (by have := g2.length_eq; omega)).mono ?_
    rintro e w5 ⟨v5, rfl, h5, t5⟩
    obtain ⟨qa, qn, qc, rfl⟩ := h5.isSlice
    have hX5 := (t5.block _ (by omega)).trans hX4
    have hR5 := (t5.block _ (by omega)).trans hR4
    have b5 := b4.trans (t5.mono b4.size)
    have hz5 : w.heap.size + 2 ≤ w5.heap.size := by have := t5.size; omega
    obtain ⟨c0, c1, c2, c3, c4⟩ := five_cells hX5
    obtain ⟨d0, d1, d2, d3, d4⟩ := five_cells hR5
    have f0 := five_free hR5 0; have f1 := five_free hR5 1; have f2 := five_free hR5 2; have f3 := five_free hR5 3; have f4 := five_free hR5 4
    have g3 := five_free hX5 3
    have h6 := h5.mono (show B ≤ w4.heap.size by omega)
    have z6 : w.heap.size + 2 ≤ w4.heap.size := by rw [hz4]; exact hz3
    clear hX4 hR4 hX5 hR5 HX HR hz4
    go_wp2
    refine bodyPost_ret (v := .tuple #[.agg #[.int .i64 s.now, .int .i64 s.next, .int .i64 s.mark, .slice qa qn qc, .slice pa pn pc], .int .i64 s.next, .int .i64 0]) ?_ rfl ⟨_, rfl, ⟨⟨_, ((((((h5.setLow (by simp; omega) _).setLow (by simp; omega) _).setLow (by simp; omega) _).setLow (by simp; omega) _).setLow (by simp; omega) _).setLow (by simp; omega) _).mono (by omega), ?_⟩, ⟨lp, p1.below (five_set (b5.setCell (by simp) _) _ (by omega) _ _ _ _ _), p2⟩⟩, five_set (b5.setCell (by simp) _) _ (by omega) _ _ _ _ _⟩
    · simp [results, Try.results56, go_sem, d0, d1, d2, d3, d4]
    · exact (List.perm_append_singleton s.next lf).trans (g2.cons _)

end Go.Proofs.Ytiijkehiphkkiaa
