/-
  The reference of the clock: its functions on states.
-/
import Derived.Test.YtiijkehiphkkiaaRf
namespace Go.Proofs.Ytiijkehiphkkiaa
open Go.RowKit Go.Maps Go.Sort

/-- A state of the reference's, as a value: what is in flight, what is pinned, in any order. -/
structure RefAt (w : World) (B : Nat) (s : St) (vf vp : Value) : Prop where
  f : ∃ l, Ints w B vf l ∧ l.Perm s.F
  p : ∃ l, Ints w B vp l ∧ l.Perm s.P

def St.val (s : St) (vf vp : Value) : Value := .agg #[.int .i64 s.now, .int .i64 s.last, .int .i64 s.mark, vf, vp]

theorem Ints.later {w w1 w' : World} {B : Nat} {v : Value} {l : List Int} (h : Ints w B v l) (e : w1.heap = w.heap) (hb : Below w1.heap.size w1 w') : Ints w' B v l :=
  (Ints.mk (by have := h.row; unfold World.ownsRow at this ⊢; rw [e]; exact this) : Ints w1 B v l).below hb
theorem _root_.Go.RowKit.Below.join {B : Nat} {w0 w w1 w' : World} (h : Below B w0 w) (e : w1.heap = w.heap) (e1 : w1.os = w.os) (e2 : w1.tape = w.tape) (e3 : w1.output = w.output) (t : Below w1.heap.size w1 w') (hB : B ≤ w1.heap.size := by simp) : Below B w0 w' :=
  ⟨t.os.trans (e1.trans h.os), t.tape.trans (e2.trans h.tape), t.output.trans (e3.trans h.output), Nat.le_trans h.size (by rw [← e]; exact t.size), fun k hk => (t.block k (by omega)).trans (by rw [e]; exact h.block k hk)⟩

/-- A state's numbers are in their ranges. -/
structure St.Ok (s : St) : Prop where
  now0 : 0 ≤ s.now
  now1 : s.now ≤ 1099511627777
  last0 : -1 ≤ s.last
  last1 : s.last ≤ 1099511627776
  mark0 : 0 ≤ s.mark
  mark1 : s.mark ≤ 1099511627776
  f0 : ∀ x ∈ s.F, 0 ≤ x ∧ x ≤ 1099511627776
  p0 : ∀ x ∈ s.P, 0 ≤ x ∧ x ≤ 1099511627776

theorem ClockAt.ok {w : World} {c n : Nat} {s : St} (h : ClockAt w c n s) : s.Ok := ⟨h.now0, h.now1, h.last0, h.last1, h.mark0, h.mark1, h.f0, h.p0⟩

theorem RefAt.below {w w' : World} {B : Nat} {s : St} {vf vp : Value} (h : RefAt w B s vf vp) (hb : Below w.heap.size w w') : RefAt w' B s vf vp := by
  obtain ⟨⟨lf, f1, f2⟩, ⟨lp, p1, p2⟩⟩ := h
  exact ⟨⟨lf, f1.below hb, f2⟩, ⟨lp, p1.below hb, p2⟩⟩

theorem RefAt.turn {w w' : World} {B c : Nat} {s : St} {vf vp : Value} (h : RefAt w B s vf vp) (t : Turn c w w') (hc : c + 3 ≤ B) : RefAt w' B s vf vp := by
  obtain ⟨⟨lf, f1, f2⟩, ⟨lp, p1, p2⟩⟩ := h
  exact ⟨⟨lf, f1.turn t hc, f2⟩, ⟨lp, p1.turn t hc, p2⟩⟩

theorem leastOf_perm {l l' : List Int} (h : l.Perm l') (t : Int) : leastOf l t = leastOf l' t := by
  have a := leastOf_le l t
  refine leastOf_unique a.1 (fun x hx => a.2 x (h.mem_iff.2 hx)) ?_
  rcases leastOf_mem l t with e | e
  · exact .inl e
  · exact .inr (h.mem_iff.1 e)

theorem ref_new (w : World) : Calls Try.prog 26 #[] w fun e w' => e = .returned (St.val ⟨0, -1, 0, [], []⟩ (.slice none 0 0) (.slice none 0 0)) ∧ Below w.heap.size w w' := by
  go_enter Try.func26, Try.ntmps26
  go_wp2
  exact bodyPost_ret (v := .agg #[.int .i64 0, .int .i64 (-1), .int .i64 0, .slice none 0 0, .slice none 0 0]) (by simp [results, Try.results26, go_sem]) rfl ⟨rfl, (Below.refl _ _).alloc (Nat.le_refl _) _⟩

theorem ref_next (s : St) (vf vp : Value) (w : World) (ho : s.Ok) : Calls Try.prog 64 #[.agg #[.int .i64 s.now, .int .i64 s.last, .int .i64 s.mark, vf, vp]] w fun e w' => e = .returned (.int .i64 s.next) ∧ Below w.heap.size w w' := by
  have b0 := ho.now0; have b1 := ho.now1; have b2 := ho.last0; have b3 := ho.last1
  go_enter Try.func64, Try.ntmps64
  go_wp2
  all_goals
    go_ret
    exact ⟨ret_int (by unfold St.next; omega), (Below.refl _ _).alloc (Nat.le_refl _) _⟩

theorem ref_clean (B : Nat) (s : St) (vf vp : Value) (w : World) (hr : RefAt w B s vf vp) (ho : s.Ok) : Calls Try.prog 28 #[.agg #[.int .i64 s.now, .int .i64 s.last, .int .i64 s.mark, vf, vp]] w fun e w' => e = .returned (.int .i64 s.clean) ∧ Below w.heap.size w w' := by
  obtain ⟨⟨lf, f1, f2⟩, _⟩ := hr
  have hx : 0 ≤ s.next ∧ s.next ≤ 1099511627777 := by have := ho.now0; have := ho.now1; have := ho.last1; unfold St.next; omega
  have hy := leastOf_in ho.f0 hx.1 hx.2
  have HP := Lib.hid (leastOf_perm f2 s.next)
  rw [← HP.out] at hy
  have hb0 : Below w.heap.size w (w.alloc (.cells #[.int .i64 s.now, .int .i64 s.last, .int .i64 s.mark, vf, vp] 39 (0, 0))) := (Below.refl _ _).alloc (Nat.le_refl _) _
  obtain ⟨c0, c1, c2, c3, c4⟩ := five_cells (MapKept.heap_alloc w (.cells #[.int .i64 s.now, .int .i64 s.last, .int .i64 s.mark, vf, vp] 39 (0, 0))).1
  have hlt : w.heap.size < (w.alloc (.cells #[.int .i64 s.now, .int .i64 s.last, .int .i64 s.mark, vf, vp] 39 (0, 0))).heap.size := by simp
  have fb := f1.below hb0
  have HW := Lib.hid (IntWalk.i64_in (leastOf lf s.next - 1) (by omega))
  go_enter Try.func28, Try.ntmps28
  go_wp2_with fail
  generalize w.alloc (.cells #[.int .i64 s.now, .int .i64 s.last, .int .i64 s.mark, vf, vp] 39 (0, 0)) = wb at *
  go_region_with (first
    | (go_at_call 64; go_loud (refine (ref_next s vf vp _ ho).mono ?_; rintro e w3 ⟨rfl, t3⟩; have k3 : w3.cell? ⟨w.heap.size, 3, none⟩ = some vf := (t3.cell (p := ⟨w.heap.size, 3, none⟩) hlt).trans c3; have i3 : Ints w3 B vf lf := fb.later (by rfl) t3; have b3 : Below w.heap.size w w3 := hb0.join (by rfl) (by rfl) (by rfl) (by rfl) t3 hb0.size; clear t3))
    | (go_at_call 63; refine (least_ref B vf lf s.next _ (Ints.mk i3.row)).mono ?_; rintro e w4 ⟨rfl, rfl⟩))
  all_goals go_wp2
  all_goals go_ret
  all_goals exact ⟨ret_int (HW.out.trans (by rw [HP.out]; rfl)), ⟨b3.os, b3.tape, b3.output, b3.size, b3.block⟩⟩

theorem ref_floor (B : Nat) (s : St) (vf vp : Value) (w : World) (hr : RefAt w B s vf vp) : Calls Try.prog 29 #[.agg #[.int .i64 s.now, .int .i64 s.last, .int .i64 s.mark, vf, vp]] w fun e w' => e = .returned (.int .i64 s.floor) ∧ Below w.heap.size w w' := by
  obtain ⟨_, ⟨lf, f1, f2⟩⟩ := hr
  have HP := Lib.hid (leastOf_perm f2 s.mark)
  have hb0 : Below w.heap.size w (w.alloc (.cells #[.int .i64 s.now, .int .i64 s.last, .int .i64 s.mark, vf, vp] 39 (0, 0))) := (Below.refl _ _).alloc (Nat.le_refl _) _
  go_enter Try.func29, Try.ntmps29
  go_wp2_with (go_at_call 63; refine (least_ref B vp lf s.mark _ (f1.below hb0)).mono ?_; rintro e w4 ⟨rfl, rfl⟩)
  go_ret
  exact ⟨ret_int HP.out, hb0⟩

theorem Ints.isSlice {w : World} {B : Nat} {v : Value} {l : List Int} (h : Ints w B v l) : ∃ p n c, v = .slice p n c := by
  rcases h.shape with ⟨rfl, _⟩ | ⟨g, cap, rfl, _⟩ <;> exact ⟨_, _, _, rfl⟩

theorem RefAt.slices {w : World} {B : Nat} {s : St} {vf vp : Value} (h : RefAt w B s vf vp) : (∃ p n c, vf = .slice p n c) ∧ ∃ p n c, vp = .slice p n c := by
  obtain ⟨⟨lf, f1, f2⟩, ⟨lp, p1, p2⟩⟩ := h
  exact ⟨f1.isSlice, p1.isSlice⟩

theorem RefAt.same {w : World} {B : Nat} {s s' : St} {vf vp : Value} (h : RefAt w B s vf vp) (hF : s'.F = s.F) (hP : s'.P = s.P) : RefAt w B s' vf vp := by
  obtain ⟨f, p⟩ := h
  exact ⟨hF ▸ f, hP ▸ p⟩

theorem ret_val {s' : St} {a b c : Int} {vf vp : Value} (h1 : a = s'.now) (h2 : b = s'.last) (h3 : c = s'.mark) :
    Ending.returned (.agg #[.int .i64 a, .int .i64 b, .int .i64 c, vf, vp]) = .returned (s'.val vf vp) := by subst h1; subst h2; subst h3; rfl
theorem ret_val1 {s' : St} {a b c : Int} {vf vp x : Value} (h1 : a = s'.now) (h2 : b = s'.last) (h3 : c = s'.mark) :
    Ending.returned (.tuple #[.agg #[.int .i64 a, .int .i64 b, .int .i64 c, vf, vp], x]) = .returned (.tuple #[s'.val vf vp, x]) := by subst h1; subst h2; subst h3; rfl

end Go.Proofs.Ytiijkehiphkkiaa
