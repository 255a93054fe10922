/-
  dict's alive.
-/
import Derived.Test.YtiijkehiphkkiaaKj
import Derived.Lib.SlBytesConst
namespace Go.Proofs.Ytiijkehiphkkiaa.PD
open Go.RowKit Go.Maps Go.Proofs.YtiijkehiphkkiaaW.PrintWords Go.Proofs.YtiijkehiphkkiaaW.PrintLast Go.Proofs.YtiijkehiphkkiaaW.PrintMore
set_option linter.unusedVariables false
set_option linter.unusedSimpArgs false

theorem idx_three : idx [[98], [97], [98]] = ([[97], [98]], [1, 0, 1], 0) := by decide +kernel
theorem enc_three : encS [[98], [97], [98]] = ([2, 1, 97, 1, 98, 3, 5], 0) := by decide +kernel
theorem dec_three : decS [2, 1, 97, 1, 98, 3, 5] = ([[98], [97], [98]], 0) := by decide +kernel
theorem lit1 {W : World} {k : Nat} {x : Int} {m : Nat × Nat} (h : W.heap[k]? = some (Obj.cells #[.int .u8 x] 5 m)) : Kd.C (Kd.int .u8) W (some ⟨k, 0, none⟩) 1 [x] := by
  refine Kd.C_of_reads (d := 0) ⟨rfl, by omega, fun _ => ⟨_, rfl, fun j hj => ?_⟩⟩
  obtain rfl : j = 0 := by omega
  rw [add_plain]
  simp [World.cell?, h]
theorem lit3 (w : World) (x y z : Int) : Kd.C (Kd.slice 5 (Kd.int .u8)) ((((w.alloc (Obj.cells #[Value.int IntKind.u8 x] 5 (1, 2))).alloc (Obj.cells #[Value.int IntKind.u8 y] 5 (1, 2))).alloc (Obj.cells #[Value.int IntKind.u8 z] 5 (1, 2))).alloc
    (Obj.cells #[Value.slice (some { block := w.heap.size, off := 0 }) 1 1, Value.slice (some { block := w.heap.size + 1, off := 0 }) 1 1, Value.slice (some { block := w.heap.size + 1 + 1, off := 0 }) 1 1] 55)) (some ⟨w.heap.size + 1 + 1 + 1, 0, none⟩) 3 [[x], [y], [z]] := by
  have h0 : (w.alloc (Obj.cells #[Value.int IntKind.u8 x] 5 (1, 2))).heap[w.heap.size]? = some (Obj.cells #[.int .u8 x] 5 (1, 2)) := (MapKept.heap_alloc w _).1
  obtain ⟨w1, hw1⟩ : ∃ w1, w1 = w.alloc (Obj.cells #[Value.int IntKind.u8 x] 5 (1, 2)) := ⟨_, rfl⟩
  have s1 : w1.heap.size = w.heap.size + 1 := by rw [hw1]; simp
  rw [← hw1] at h0 ⊢
  have h1 : (w1.alloc (Obj.cells #[Value.int IntKind.u8 y] 5 (1, 2))).heap[w1.heap.size]? = some (Obj.cells #[.int .u8 y] 5 (1, 2)) := (MapKept.heap_alloc w1 _).1
  have h0 := (Below.heap_alloc w1 (Obj.cells #[Value.int IntKind.u8 y] 5 (1, 2)) w.heap.size (by omega)).trans h0
  obtain ⟨w2, hw2⟩ : ∃ w2, w2 = w1.alloc (Obj.cells #[Value.int IntKind.u8 y] 5 (1, 2)) := ⟨_, rfl⟩
  have s2 : w2.heap.size = w.heap.size + 1 + 1 := by rw [hw2]; simp [s1]
  rw [← hw2] at h0 h1 ⊢
  have h2 : (w2.alloc (Obj.cells #[Value.int IntKind.u8 z] 5 (1, 2))).heap[w2.heap.size]? = some (Obj.cells #[.int .u8 z] 5 (1, 2)) := (MapKept.heap_alloc w2 _).1
  have h0 := (Below.heap_alloc w2 (Obj.cells #[Value.int IntKind.u8 z] 5 (1, 2)) w.heap.size (by omega)).trans h0
  have h1 := (Below.heap_alloc w2 (Obj.cells #[Value.int IntKind.u8 z] 5 (1, 2)) w1.heap.size (by omega)).trans h1
  obtain ⟨w3, hw3⟩ : ∃ w3, w3 = w2.alloc (Obj.cells #[Value.int IntKind.u8 z] 5 (1, 2)) := ⟨_, rfl⟩
  have s3 : w3.heap.size = w.heap.size + 1 + 1 + 1 := by rw [hw3]; simp [s2]
  rw [← hw3] at h0 h1 h2 ⊢
  rw [s1] at h1
  rw [s2] at h2
  rw [← s3]
  obtain ⟨o, ho⟩ : ∃ o, o = Obj.cells #[Value.slice (some { block := w.heap.size, off := 0 }) 1 1, Value.slice (some { block := w.heap.size + 1, off := 0 }) 1 1, Value.slice (some { block := w.heap.size + 1 + 1, off := 0 }) 1 1] 55 := ⟨_, rfl⟩
  rw [← ho]
  have h3 : (w3.alloc o).heap[w3.heap.size]? = some o := (MapKept.heap_alloc w3 _).1
  have h0 := (Below.heap_alloc w3 o w.heap.size (by omega)).trans h0
  have h1 := (Below.heap_alloc w3 o (w.heap.size + 1) (by omega)).trans h1
  have h2 := (Below.heap_alloc w3 o (w.heap.size + 1 + 1) (by omega)).trans h2
  generalize w3.alloc o = w4 at *
  rw [ho] at h3
  refine ⟨rfl, by omega, fun _ => ⟨_, rfl, fun j p hj => ?_⟩⟩
  rcases j with _ | _ | _ | j
  · simp at hj
    subst hj
    refine ⟨[_], rfl, ⟨_, 1, rfl, Nat.le_refl _, lit1 h0⟩, fun i u hu => ?_⟩
    cases i with
    | zero => simp at hu; subst hu; rw [add_plain]; simp [World.cell?, h3]
    | succ i => simp at hu
  · simp at hj
    subst hj
    refine ⟨[_], rfl, ⟨_, 1, rfl, Nat.le_refl _, lit1 h1⟩, fun i u hu => ?_⟩
    cases i with
    | zero => simp at hu; subst hu; rw [add_plain]; simp [World.cell?, h3, Kd.slice]
    | succ i => simp at hu
  · simp at hj
    subst hj
    refine ⟨[_], rfl, ⟨_, 1, rfl, Nat.le_refl _, lit1 h2⟩, fun i u hu => ?_⟩
    cases i with
    | zero => simp at hu; subst hu; rw [add_plain]; simp [World.cell?, h3, Kd.slice]
    | succ i => simp at hu
  · simp at hj
theorem bys3 : ∀ s ∈ [[98], [97], [98]], Bys s := by
  intro s hs x hx
  simp at hs
  rcases hs with rfl | rfl | rfl <;> simp at hx <;> omega

theorem lit7 (W : World) (xs : List Int) (h : xs.length ≤ 1000) : Kd.C (Kd.int .u8) (W.alloc (Obj.cells (nums .u8 xs).toArray 5)) (some ⟨W.heap.size, 0, none⟩) xs.length xs :=
  (Kd.R_reads' (Kd.R_of_own (enc := Value.int .u8) (h1 := fun _ => rfl) (ok := fun _ => True) (own_lit W W.heap.size 5 .u8 xs (Nat.le_refl _) (by omega)) (fun _ _ => trivial))).2.2
theorem bys7 : Bys [2, 1, 97, 1, 98, 3, 5] := by
  intro x hx
  simp at hx
  omega
theorem below4 (w : World) (a b c d : Obj) : Below w.heap.size w ((((w.alloc a).alloc b).alloc c).alloc d) := below_alloc (below_alloc (below_alloc (below_alloc (Below.refl _ _) a) b) c) d

set_option maxHeartbeats 1000000 in
set_option maxRecDepth 100000 in
theorem alive_any (w : World) : Calls Try.prog 31 #[] w fun e w' => e = .returned (.bool true) ∧ Below w.heap.size w w' := by
  have hk : ∀ (W : World) (C : Array Value) (n c k : Nat), W.heap.size = k → (convert 55 55 (.slice (some ⟨k, 0, none⟩) n c)).run Try.prog (W.alloc (.cells C 5)) = .ok (.slice (some ⟨k, 0, none⟩) n c) (W.alloc (.cells C 5 (C.size, C.size + 1))) := by
    rintro W C n c k rfl
    exact Lib.run_convert_bytes_const (P := Try.prog) W 55 5 C n c Try.underlying55 Try.underlying5
  go_enter Try.func31, Try.ntmps31
  go_upto_region 4 with (first
    | (go_at_call 33; refine (dindex_any _ _ [[98], [97], [98]] _ (lit3 w 98 97 98) (by decide) bys3).mono ?_; rw [idx_three]; rintro e w1 ⟨v1, v2, rfl, hb1, hE, hR⟩; have B1 := below_then (below4 w _ _ _ _) (below4 w _ _ _ _).size hb1; obtain ⟨A1, c1, hv1, _, _⟩ := hE.reads; obtain ⟨A2, c2, hv2, _, hC2⟩ := Kd.R_reads hR; obtain ⟨ad, rfl, k0⟩ := Kd.at_int hC2 0 (by decide) (by decide); obtain ⟨ad', e', k1⟩ := Kd.at_int hC2 1 (by decide) (by decide); injection e' with e'; subst e'; have hv1' : v1 = .slice A1 2 c1 := hv1; have hv2' : v2 = .slice (some ad) 3 c2 := hv2; have k0' : w1.cell? (ad.add 0) = some (.int .i64 1) := k0; have k1' : w1.cell? (ad.add 1) = some (.int .i64 0) := k1; subst hv1'; subst hv2'; clear hE hR hb1 hv1 hv2 k0 k1 hC2)
    | (go_at_call 38; refine (dencode_any _ _ [[98], [97], [98]] _ (lit3 w1 98 97 98) (by decide) bys3).mono ?_; rw [enc_three]; rintro e w2 ⟨v4, rfl, hb2, hR4⟩; have B2 := below_then (below4 w1 _ _ _ _) (below4 w1 _ _ _ _).size hb2; obtain ⟨A4, c4, hv4, hc4, hC4⟩ := Kd.R_reads hR4; have hv4' : v4 = .slice A4 7 c4 := hv4; subst hv4'; clear hR4 hb2 hv4)
    | (go_at_call 42; refine (ddecode_any _ 7 [2, 1, 97, 1, 98, 3, 5] _ (lit7 w2 [2, 1, 97, 1, 98, 3, 5] (by decide)) (by decide) bys7 (by decide)).mono ?_; rw [dec_three]; rintro e w3 ⟨v6, rfl, hb3, hE6⟩; have B3 := below_then (below_alloc (Below.refl _ w2) _) (below_alloc (Below.refl _ w2) _).size hb3; obtain ⟨A6, c6, hv6, hc6, hC6⟩ := hE6.reads; have hv6' : v6 = .slice A6 3 c6 := hv6; subst hv6'; clear hE6 hb3 hv6))
  have B13 := below_then B2 B2.size B3
  have k0 := (B13.cell (World.block_lt_of_cell? w1 _ k0')).trans k0'
  have k1 := (B13.cell (World.block_lt_of_cell? w1 _ k1')).trans k1'
  rw [show ad.add 0 = ad from by unfold Addr.add; simp] at k0
  obtain ⟨ad6, A7, c7, rfl, x2, hc7, C7⟩ := at_L4 hC6 2 (by decide) (by decide)
  have x2' : w3.cell? (ad6.add 2) = some (.slice A7 1 c7) := x2
  rw [show ad.add 1 = ⟨ad.block, ad.off + 1, none⟩ from by unfold Addr.add; simp] at k1
  rw [show ad6.add 2 = ⟨ad6.block, ad6.off + 2, none⟩ from by unfold Addr.add; simp] at x2'
  have C7' : Kd.C (Kd.int .u8) w3 A7 1 [98] := C7
  have hcv := Kd.C_string (P := Try.prog) (c := c7) Try.underlying55 Try.underlying5 Try.underlying9 C7'
  rw [show strOfNums [98] = ⟨#[98]⟩ from by rfl] at hcv
  have hC4' : Kd.C (Kd.int .u8) w3 A4 7 [2, 1, 97, 1, 98, 3, 5] := Kd.C_below hC4 B3
  have BW := below_then B1 B1.size B13
  clear k0' k1' x2 C7 C7' hC6 hC4 B1 B2 B3 B13 hk
  go_wp2_with (first
    | (go_at_call 45; refine (stoaref01_Same.calls 8 A4 c4 [2, 1, 97, 1, 98, 3, 5] _ 7 [2, 1, 97, 1, 98, 3, 5] true _ (Kd.C_alloc hC4' _) hc4 (lit7 w3 [2, 1, 97, 1, 98, 3, 5] (by decide)) (by decide) (by rw [same_law _ _ (by decide) _ (by decide)]; simp)).mono ?_; rintro e w4 ⟨rfl, hD⟩))
  go_ret
  have BA := below_alloc BW (Obj.cells #[.int .u8 2, .int .u8 1, .int .u8 97, .int .u8 1, .int .u8 98, .int .u8 3, .int .u8 5] 5)
  exact ⟨rfl, below_then BA BA.size hD.below⟩
end Go.Proofs.Ytiijkehiphkkiaa.PD
