import Derived.Test.YtiijkehiphkkiaaD0
import Derived.Test.YtiijkehiphkkiaaD3
import Derived.Test.YtiijkehiphkkiaaD6w
import Derived.Test.YtiijkehiphkkiaaD8
import Derived.Test.YtiijkehiphkkiaaD9
namespace Go.Proofs.Ytiijkehiphkkiaa.PD
open Go.RowKit Go.Proofs.YtiijkehiphkkiaaW.PrintWords Go.Proofs.YtiijkehiphkkiaaW.PrintLast Go.Proofs.YtiijkehiphkkiaaW.PrintMore
attribute [local go_sem] max2_int min2_int max_two min_two max_three min_three max_four min_four   -- for this text's walks alone
set_option linter.unusedVariables false
set_option linter.unusedSimpArgs false



/-! ### stoaref10_Decode: function 43 -/
def stoaref10_Decode.l0 : Nat → List Int → Int → Int → List (List Int) → Int → Option ((List (List Int)) × Int)
  | 0, _, _, _, _, _ => none
  | k + 1, x0, x4, x5, x7, x8 => if x8 < x4 then ((stoaref10_text.f k x0 x5).bind fun bt367 => (if bt367.2.2 = 0 then (if x8 > 0 then (if 0 ≤ (IntKind.u64.wrap (x8 - 1)) then (if (IntKind.u64.wrap (x8 - 1)) < (x7.length : Int) then ((stoaref05_Order.f k bt367.1 (rd_L4 x7 (IntKind.u64.wrap (x8 - 1)))).bind fun t373 => (if t373 ≤ 0 then (some (([] : List (List Int)), 5)) else (if x7.length < 5864062014805 then (stoaref10_Decode.l0 k x0 x4 bt367.2.1 (x7 ++ [bt367.1]) (IntKind.u64.wrap (x8 + 1))) else (none)))) else (none)) else (none)) else (if x7.length < 5864062014805 then (stoaref10_Decode.l0 k x0 x4 bt367.2.1 (x7 ++ [bt367.1]) (IntKind.u64.wrap (x8 + 1))) else (none))) else (some (([] : List (List Int)), bt367.2.2)))) else ((stoaref02_Get.f k x0 x5).bind fun bt380 => (if bt380.2.2 = 0 then (if bt380.1 > 4096 then (some (([] : List (List Int)), 4)) else ((stoaref01_Piece.f k x0 bt380.2.1 (x0.length : Int)).bind fun t383 => ((stoaref10_width.f k (x7.length : Int)).bind fun t386 => ((stoaref01_Unpack.f k t383 t386 (wrap64 (bt380.1))).bind fun bt387 => (if bt387.2 = 0 then ((stoaref10_texts.f k x7 bt387.1).bind fun bt391 => (some (bt391.1, bt391.2))) else (some (([] : List (List Int)), bt387.2))))))) else (some (([] : List (List Int)), bt380.2.2))))
def stoaref10_Decode.f (k : Nat) (l0 : List Int) : Option ((List (List Int)) × Int) := (stoaref02_Get.f k l0 0).bind fun bt361 => (if bt361.2.2 = 0 then (if bt361.1 > 4096 then (some (([] : List (List Int)), 4)) else (stoaref10_Decode.l0 k l0 bt361.1 bt361.2.1 (([] : List (List Int))) 0)) else (some (([] : List (List Int)), bt361.2.2)))
theorem stoaref10_Decode.mono_l : ∀ k, (∀ y0 y1 y2 y3 y4, LeO (stoaref10_Decode.l0 k y0 y1 y2 y3 y4) (stoaref10_Decode.l0 (k + 1) y0 y1 y2 y3 y4))
  | 0 => fun _ _ _ _ _ r h => by simp [stoaref10_Decode.l0] at h
  | k + 1 => by
    have ih0 := stoaref10_Decode.mono_l k
    · intro y0 y1 y2 y3 y4
      unfold stoaref10_Decode.l0
      repeat' first
      | (with_reducible exact ih0 _ _ _ _ _)
      | (with_reducible exact stoaref01_Piece.mono _ _ _ _)
      | (with_reducible exact stoaref01_Unpack.mono _ _ _ _)
      | (with_reducible exact stoaref02_Get.mono _ _ _)
      | (with_reducible exact stoaref05_Order.mono _ _ _)
      | (with_reducible exact stoaref10_text.mono _ _ _)
      | (with_reducible exact stoaref10_texts.mono _ _ _)
      | (with_reducible exact stoaref10_width.mono _ _)
      | (with_reducible exact LeO.refl _)
      | (with_reducible exact LeO.none _)
      | (with_reducible refine LeO.ite ?_ ?_)
      | (with_reducible refine LeO.bind ?_ (fun _ => ?_))
      | exact ih0 _ _ _ _ _
      | exact stoaref01_Piece.mono _ _ _ _
      | exact stoaref01_Unpack.mono _ _ _ _
      | exact stoaref02_Get.mono _ _ _
      | exact stoaref05_Order.mono _ _ _
      | exact stoaref10_text.mono _ _ _
      | exact stoaref10_texts.mono _ _ _
      | exact stoaref10_width.mono _ _
      | exact LeO.none _
      | refine LeO.ite ?_ ?_
      | refine LeO.bind ?_ (fun _ => ?_)
theorem stoaref10_Decode.mono : ∀ a0 k, LeO (stoaref10_Decode.f k a0) (stoaref10_Decode.f (k + 1) a0) := by
  intro a0 k
  have ih0 := stoaref10_Decode.mono_l k
  unfold stoaref10_Decode.f
  repeat' first
      | (with_reducible exact ih0 _ _ _ _ _)
      | (with_reducible exact stoaref01_Piece.mono _ _ _ _)
      | (with_reducible exact stoaref01_Unpack.mono _ _ _ _)
      | (with_reducible exact stoaref02_Get.mono _ _ _)
      | (with_reducible exact stoaref05_Order.mono _ _ _)
      | (with_reducible exact stoaref10_text.mono _ _ _)
      | (with_reducible exact stoaref10_texts.mono _ _ _)
      | (with_reducible exact stoaref10_width.mono _ _)
      | (with_reducible exact LeO.refl _)
      | (with_reducible exact LeO.none _)
      | (with_reducible refine LeO.ite ?_ ?_)
      | (with_reducible refine LeO.bind ?_ (fun _ => ?_))
      | exact ih0 _ _ _ _ _
      | exact stoaref01_Piece.mono _ _ _ _
      | exact stoaref01_Unpack.mono _ _ _ _
      | exact stoaref02_Get.mono _ _ _
      | exact stoaref05_Order.mono _ _ _
      | exact stoaref10_text.mono _ _ _
      | exact stoaref10_texts.mono _ _ _
      | exact stoaref10_width.mono _ _
      | exact LeO.none _
      | refine LeO.ite ?_ ?_
      | refine LeO.bind ?_ (fun _ => ?_)
set_option maxHeartbeats 8000000 in
set_option maxRecDepth 100000 in
theorem stoaref10_Decode.calls (k : Nat) (A0 : Option Addr) (c0 : Nat) (l0 : List Int) (r1 : List (List Int)) (r2 : Int) (w : World) (hr0 : Kd.C (Kd.int .u8) w A0 l0.length l0) (hc0 : l0.length ≤ c0) (h : stoaref10_Decode.f k l0 = some (r1, r2)) :
    Calls Try.prog 43 #[.slice A0 l0.length c0] w fun e w' => ∃ v0_ : Value, e = .returned (.tuple #[v0_, .int .i64 r2]) ∧ Kd.S (Kd.slice 5 (Kd.int .u8)) 55 w' w.heap.size (fun _ => True) v0_ r1 ∧ Below w.heap.size w w' := by
  have HR0 := Aside0.mk hr0
  have HC0 := Aside0.mk hc0
  clear hr0 hc0
  have HB := Aside0.mk (Below.refl w.heap.size w)
  have H : ((stoaref02_Get.f k l0 0).bind fun bt361 => (if bt361.2.2 = 0 then (if bt361.1 > 4096 then (some (([] : List (List Int)), 4)) else (stoaref10_Decode.l0 k l0 bt361.1 bt361.2.1 (([] : List (List Int))) 0)) else (some (([] : List (List Int)), bt361.2.2)))) = some (r1, r2) := h
  clear h
  replace H := Option.bind_eq_some_iff.mp H
  obtain ⟨⟨t361, t362, t363⟩, A20, H⟩ := H
  replace H : (if t363 = 0 then (if t361 > 4096 then (some (([] : List (List Int)), 4)) else (stoaref10_Decode.l0 k l0 t361 t362 (([] : List (List Int))) 0)) else (some (([] : List (List Int)), t363))) = some (r1, r2) := H
  have A2 := Aside0.mk A20
  clear A20
  by_cases c3 : t363 = 0
  · rw [if_pos c3] at H
    have c3b0 : (t363 == 0) = true := beq_iff_eq.mpr c3
    have c3b1 : (t363 != 0) = false := bne_eq_false_iff_eq.mpr c3
    clear c3
    by_cases c4 : t361 > 4096
    · rw [if_pos c4] at H
      have c4b0 : decide (4096 < t361) = true := decide_eq_true c4
      clear c4
      simp only [Option.some.injEq, Prod.mk.injEq] at H
      obtain ⟨rfl, rfl⟩ := H
      go_enter Try.func43, Try.ntmps43
      go_wp2_with (first | ((with_reducible refine gate_callee (f := 83) rfl ?_); refine goesL_ (some 19) rfl rfl Try.func83 (by kernel_rfl) rfl #[.slice A0 l0.length c0, .int .i64 0] rfl (by (try simp only [List.map_toArray, List.map_cons, List.map_nil]); first | done | rfl | (simp only [List.length_drop, List.length_take]; rfl)) ?_; (with_reducible refine (stoaref02_Get.calls k _ _ l0 0 t361 t362 t363 _ ?side1 ?side2 A2.out).mono ?_); (case side1 => repeat (first | exact HR0.out | (with_reducible refine Kd.C_alloc ?_ _) | (with_reducible refine Kd.C_drewN ?_ _) | (with_reducible refine Kd.C_drew ?_))); (case side2 => exact HC0.out); rintro e w' ⟨rfl, ⟨nd, rfl⟩⟩; refine ⟨_, rfl, ?_⟩))
      go_ret2
      exact ⟨_, by first | rfl | (simp [errW_none, errW_some] <;> rfl) | (simp [*, errW_none, errW_some] <;> rfl), by first | exact Kd.S_nil _ _ _ _ _ | exact Kd.N_nil _ _ _ _ _ | exact Kd.V_nil _ _ _ _ _ | exact Kd.Q_nil _ _ _ _ _ | exact Kd.R_nil _ _ _ _ _, by repeat (first | (with_reducible first | exact HB.out | apply below_alloc | apply pw_below_drewN | apply below_drew1) | exact HB.out)⟩
    · rw [if_neg c4] at H
      have c4b0 : decide (4096 < t361) = false := decide_eq_false c4
      clear c4
      obtain ⟨y364, hy364⟩ : ∃ y_ : List (List Int), y_ = (([] : List (List Int))) := ⟨_, rfl⟩
      replace H : (stoaref10_Decode.l0 k l0 t361 t362 y364 0) = some (r1, r2) := by first | (rw [hy364]; with_reducible exact H) | (have H2_ := (Option.bind_some _ _).symm.trans H; rw [hy364]; with_reducible exact H2_) | (have H2_ := (Option.bind_some _ _).symm.trans H; with_reducible exact H2_) | with_reducible exact H | (rw [hy364]; exact H) | exact H
      have Ny364 := Aside0.mk hy364
      clear hy364
      have H' := Aside0.mk H
      clear H
      go_enter Try.func43, Try.ntmps43
      go_wp2_with (first | ((with_reducible refine gate_callee (f := 83) rfl ?_); refine goesL_ (some 19) rfl rfl Try.func83 (by kernel_rfl) rfl #[.slice A0 l0.length c0, .int .i64 0] rfl (by (try simp only [List.map_toArray, List.map_cons, List.map_nil]); first | done | rfl | (simp only [List.length_drop, List.length_take]; rfl)) ?_; (with_reducible refine (stoaref02_Get.calls k _ _ l0 0 t361 t362 t363 _ ?side1 ?side2 A2.out).mono ?_); (case side1 => repeat (first | exact HR0.out | (with_reducible refine Kd.C_alloc ?_ _) | (with_reducible refine Kd.C_drewN ?_ _) | (with_reducible refine Kd.C_drew ?_))); (case side2 => exact HC0.out); rintro e w' ⟨rfl, ⟨nd, rfl⟩⟩; refine ⟨_, rfl, ?_⟩) | ((with_reducible refine gate_dst (N := 28) rfl ?_); refine Kd.S_lit (Kd.slice 5 (Kd.int .u8)) _ 55 ?hg (N := 28) ?hd (xs := ([] : List (List Int))) (inner := []) (ok := fun _ => True) (okp := fun _ => True) ?hr ?hp (fun _ hk => hk) trivial (Below.refl _ _) (Nat.le_refl _) (by simp) ?_; (case hd => rfl); (case hg => rfl); (case hr => first | (go_simp; done) | (go_simp; rfl)); (case hp => exact (Reps.none _ _)); intro v365 w5 ho6 hb hg_ hnew_; clear hg_ hnew_; (first | rw [← Ny364.out] at ho6 | (simp only [Int.reduceToNat] at ho6; rw [← Ny364.out] at ho6)); have n0_ := Aside0.mk (Kd.S_lower ho6 (below_size (by repeat (first | (with_reducible first | exact HB.out | apply below_alloc | apply pw_below_drewN | apply below_drew1) | exact HB.out)))); have n1_ := Aside0.mk (below_step (by repeat (first | (with_reducible first | exact HB.out | apply below_alloc | apply pw_below_drewN | apply below_drew1) | exact HB.out)) hb); clear HB; have HO366 := n0_; have HB := n1_; clear n0_ n1_; clear hb ho6))
      go_loopg [5, 7, 8] k (fun kq v5 v7 v8 w' => ∃ (x5_1 : Int) (x7_1 : List (List Int)) (x8_1 : Int), v5 = .int .i64 x5_1 ∧ v8 = .int .u64 x8_1 ∧ Aside0 (stoaref10_Decode.l0 kq l0 t361 x5_1 x7_1 x8_1 = some (r1, r2)) ∧ Aside0 (kq ≤ k) ∧ Aside0 (Kd.S (Kd.slice 5 (Kd.int .u8)) 55 w' w.heap.size (fun _ => True) v7 x7_1) ∧ Aside0 (Below w.heap.size w w'))
      case atStart => exact ⟨(t362), (y364), (0), (by first | rfl | (simp; done) | (simp [*]; done)), (by first | rfl | (simp; done) | (simp [*]; done)), H', ⟨Nat.le_refl _⟩, ⟨by (with_reducible repeat (first | apply Kd.S_alloc | apply Kd.S_drewN | apply Kd.S_drew)); exact HO366.out⟩, ⟨by repeat (first | (with_reducible first | exact HB.out | apply below_alloc | apply pw_below_drewN | apply below_drew1) | exact HB.out)⟩⟩
      case round =>
        clear H'
        try clear p2
        try clear c3
        try clear c3b0
        try clear c3b1
        try clear c4
        try clear c4b0
        obtain ⟨x5_1, x7_1, x8_1, rfl, rfl, HA, HK1, HO_7, HB⟩ := hrel
        cases gk with
        | zero => exact absurd HA.out (by simp [stoaref10_Decode.l0])
        | succ k1 =>
          have H := HA.out
          clear HA
          simp only [stoaref10_Decode.l0] at H
          by_cases c7 : x8_1 < t361
          · rw [if_pos c7] at H
            have c7b0 : decide (x8_1 < t361) = true := decide_eq_true c7
            clear c7
            replace H := Option.bind_eq_some_iff.mp H
            obtain ⟨⟨t367, t368, t369⟩, A80, H⟩ := H
            replace H : (if t369 = 0 then (if x8_1 > 0 then (if 0 ≤ (IntKind.u64.wrap (x8_1 - 1)) then (if (IntKind.u64.wrap (x8_1 - 1)) < (x7_1.length : Int) then ((stoaref05_Order.f k1 t367 (rd_L4 x7_1 (IntKind.u64.wrap (x8_1 - 1)))).bind fun t373 => (if t373 ≤ 0 then (some (([] : List (List Int)), 5)) else (if x7_1.length < 5864062014805 then (stoaref10_Decode.l0 k1 l0 t361 t368 (x7_1 ++ [t367]) (IntKind.u64.wrap (x8_1 + 1))) else (none)))) else (none)) else (none)) else (if x7_1.length < 5864062014805 then (stoaref10_Decode.l0 k1 l0 t361 t368 (x7_1 ++ [t367]) (IntKind.u64.wrap (x8_1 + 1))) else (none))) else (some (([] : List (List Int)), t369))) = some (r1, r2) := H
            have A8 := Aside0.mk A80
            clear A80
            by_cases c9 : t369 = 0
            · rw [if_pos c9] at H
              have c9b0 : (t369 == 0) = true := beq_iff_eq.mpr c9
              have c9b1 : (t369 != 0) = false := bne_eq_false_iff_eq.mpr c9
              clear c9
              by_cases c10 : x8_1 > 0
              · rw [if_pos c10] at H
                have c10b0 : decide (0 < x8_1) = true := decide_eq_true c10
                clear c10
                obtain ⟨ji11, hji11⟩ : ∃ j_ : Int, (IntKind.u64.wrap (x8_1 - 1)) = j_ := ⟨_, rfl⟩
                replace H : (if 0 ≤ (ji11) then (if (ji11) < (x7_1.length : Int) then ((stoaref05_Order.f k1 t367 (rd_L4 x7_1 (ji11))).bind fun t373 => (if t373 ≤ 0 then (some (([] : List (List Int)), 5)) else (if x7_1.length < 5864062014805 then (stoaref10_Decode.l0 k1 l0 t361 t368 (x7_1 ++ [t367]) (IntKind.u64.wrap (x8_1 + 1))) else (none)))) else (none)) else (none)) = some (r1, r2) := by first | (rw [hji11] at H; exact H) | (simp only [hji11] at H ⊢; exact H)
                (try rw [hji11] at A8)
                by_cases c12 : 0 ≤ (ji11)
                · rw [if_pos c12] at H
                  have c12b0 : decide (0 ≤ (ji11)) = true := decide_eq_true c12
                  clear c12
                  by_cases c13 : (ji11) < (x7_1.length : Int)
                  · rw [if_pos c13] at H
                    have c13b0 : decide ((ji11) < (x7_1.length : Int)) = true := decide_eq_true c13
                    clear c13
                    replace H := Option.bind_eq_some_iff.mp H
                    obtain ⟨t373, A140, H⟩ := H
                    replace H : (if t373 ≤ 0 then (some (([] : List (List Int)), 5)) else (if x7_1.length < 5864062014805 then (stoaref10_Decode.l0 k1 l0 t361 t368 (x7_1 ++ [t367]) (IntKind.u64.wrap (x8_1 + 1))) else (none))) = some (r1, r2) := H
                    have A14 := Aside0.mk A140
                    clear A140
                    by_cases c15 : t373 ≤ 0
                    · rw [if_pos c15] at H
                      have c15b0 : decide (t373 ≤ 0) = true := decide_eq_true c15
                      clear c15
                      simp only [Option.some.injEq, Prod.mk.injEq] at H
                      obtain ⟨rfl, rfl⟩ := H
                      go_wp2_with (first | ((with_reducible refine gate_callee (f := 84) rfl ?_); refine goesL_ (some 37) rfl rfl Try.func84 (by kernel_rfl) rfl #[.slice A0 l0.length c0, .int .i64 x5_1] rfl (by (try simp only [List.map_toArray, List.map_cons, List.map_nil]); first | done | rfl | (simp only [List.length_drop, List.length_take]; rfl)) ?_; (with_reducible refine (stoaref10_text.calls k1 _ _ l0 x5_1 t367 t368 t369 _ ?side1 ?side2 A8.out).mono ?_); (case side1 => repeat (first | exact (Kd.C_below HR0.out HB.out) | (with_reducible refine Kd.C_alloc ?_ _) | (with_reducible refine Kd.C_drewN ?_ _) | (with_reducible refine Kd.C_drew ?_))); (case side2 => exact HC0.out); rintro e w16 ⟨v370, rfl, ho0, hb⟩; refine ⟨_, rfl, ?_⟩; have n0_ := Aside0.mk (Kd.S_elder' (by (with_reducible repeat (first | apply Kd.S_alloc | apply Kd.S_drewN | apply Kd.S_drew)); exact HO_7.out) (Kd.R_base ho0) hb); have n1_ := Aside0.mk (Kd.R_lower ho0 (below_size (by repeat (first | (with_reducible first | exact HB.out | apply below_alloc | apply pw_below_drewN | apply below_drew1) | exact HB.out)))); have n2_ := Aside0.mk (below_step (by repeat (first | (with_reducible first | exact HB.out | apply below_alloc | apply pw_below_drewN | apply below_drew1) | exact HB.out)) hb); clear HO_7; clear HB; have HO_7 := n0_; have HO371 := n1_; have HB := n2_; clear n0_ n1_ n2_; (try clear hb); (try clear hb2); (try clear hk); (try clear hi); (try clear ho0); obtain ⟨Ao17, co17, eo17⟩ := Kd.S_slice HO_7.out; subst eo17; have p372 : 0 ≤ ((ji11) : Int) := of_decide_eq_true (by first | (with_reducible assumption) | assumption); have q372 : (ji11) < (x7_1.length : Int) := of_decide_eq_true (by first | (with_reducible assumption) | assumption); obtain ⟨ad372, A372_0, c372_0, e372, hx372_0, hl372_0, hi372_0⟩ := at_L4 (Kd.S_reads' HO_7.out).2.2 (ji11) p372 q372; cases e372; obtain ⟨ce372, hce372, hMe372, hcc372⟩ := Kd.S_get HO_7.out [] (ji11) p372 (by first | exact q372 | exact of_decide_eq_true (by first | (with_reducible assumption) | assumption) | (have e_ := (Kd.S_reads' HO_7.out).1; omega)); obtain ⟨ve372_0, rfl, ge372_0⟩ := hMe372; have hv372_0 := hcc372 0 _ rfl; rw [Nat.add_zero, show ((Kd.slice 5 (Kd.int .u8))).sz = 1 from rfl, Nat.mul_one] at hv372_0; replace hv372_0 := Option.some.inj (hv372_0.symm.trans hx372_0); rw [hv372_0] at ge372_0; have HL372_0 := Aside0.mk (show Kd.R (Kd.int .u8) 5 _ _ _ _ (rd_L4 x7_1 (ji11)) from ge372_0); clear hv372_0 ge372_0; clear hcc372 hce372; have HR372_0 := Aside0.mk hi372_0; have HC372_0 := Aside0.mk hl372_0; clear hi372_0 hl372_0; replace p372 := eq_true p372; replace q372 := eq_true q372; obtain ⟨Ao18, co18, eo18⟩ := Kd.R_slice HO371.out; subst eo18) | (go_at_call 46; (with_reducible refine (stoaref05_Order.calls k1 _ _ t367 _ _ (rd_L4 x7_1 (ji11)) t373 _ ?side1 ?side2 ?side3 ?side4 A14.out).mono ?_); (case side1 => repeat (first | exact (Kd.R_reads' HO371.out).2.2 | (with_reducible refine Kd.C_alloc ?_ _) | (with_reducible refine Kd.C_drewN ?_ _) | (with_reducible refine Kd.C_drew ?_))); (case side2 => exact (Kd.R_reads' HO371.out).2.1); (case side3 => repeat (first | exact (by repeat (first | (with_reducible exact HR372_0.out) | (with_reducible refine Kd.C_alloc ?_ _) | (with_reducible refine Kd.C_drewN ?_ _) | (with_reducible refine Kd.C_drew ?_) | exact HR372_0.out)) | (with_reducible refine Kd.C_alloc ?_ _) | (with_reducible refine Kd.C_drewN ?_ _) | (with_reducible refine Kd.C_drew ?_))); (case side4 => exact HC372_0.out); rintro e w' ⟨rfl, ⟨nd, rfl⟩⟩))
                      go_ret2
                      exact ⟨_, by first | rfl | (simp [errW_none, errW_some] <;> rfl) | (simp only [← hji11]; first | rfl | (simp [errW_none, errW_some] <;> rfl)) | (simp [*, errW_none, errW_some] <;> rfl), by first | exact Kd.S_nil _ _ _ _ _ | exact Kd.N_nil _ _ _ _ _ | exact Kd.V_nil _ _ _ _ _ | exact Kd.Q_nil _ _ _ _ _ | exact Kd.R_nil _ _ _ _ _, by repeat (first | (with_reducible first | exact HB.out | apply below_alloc | apply pw_below_drewN | apply below_drew1) | exact HB.out)⟩
                    · rw [if_neg c15] at H
                      have c15b0 : decide (t373 ≤ 0) = false := decide_eq_false c15
                      clear c15
                      by_cases c19 : x7_1.length < 5864062014805
                      · rw [if_pos c19] at H
                        have LMc19 := Aside0.mk c19
                        clear c19
                        obtain ⟨y374, hy374⟩ : ∃ y_ : List (List Int), y_ = (x7_1 ++ [t367]) := ⟨_, rfl⟩
                        replace H : (stoaref10_Decode.l0 k1 l0 t361 t368 y374 (IntKind.u64.wrap (x8_1 + 1))) = some (r1, r2) := by first | (rw [hy374]; with_reducible exact H) | (have H2_ := (Option.bind_some _ _).symm.trans H; rw [hy374]; with_reducible exact H2_) | (have H2_ := (Option.bind_some _ _).symm.trans H; with_reducible exact H2_) | with_reducible exact H | (rw [hy374]; exact H) | exact H
                        have Ny374 := Aside0.mk hy374
                        clear hy374
                        have H' := Aside0.mk H
                        clear H
                        go_wp2_with (first | ((with_reducible refine gate_callee (f := 84) rfl ?_); refine goesL_ (some 37) rfl rfl Try.func84 (by kernel_rfl) rfl #[.slice A0 l0.length c0, .int .i64 x5_1] rfl (by (try simp only [List.map_toArray, List.map_cons, List.map_nil]); first | done | rfl | (simp only [List.length_drop, List.length_take]; rfl)) ?_; (with_reducible refine (stoaref10_text.calls k1 _ _ l0 x5_1 t367 t368 t369 _ ?side1 ?side2 A8.out).mono ?_); (case side1 => repeat (first | exact (Kd.C_below HR0.out HB.out) | (with_reducible refine Kd.C_alloc ?_ _) | (with_reducible refine Kd.C_drewN ?_ _) | (with_reducible refine Kd.C_drew ?_))); (case side2 => exact HC0.out); rintro e w20 ⟨v370, rfl, ho0, hb⟩; refine ⟨_, rfl, ?_⟩; have n0_ := Aside0.mk (Kd.S_elder' (by (with_reducible repeat (first | apply Kd.S_alloc | apply Kd.S_drewN | apply Kd.S_drew)); exact HO_7.out) (Kd.R_base ho0) hb); have n1_ := Aside0.mk (Kd.R_lower ho0 (below_size (by repeat (first | (with_reducible first | exact HB.out | apply below_alloc | apply pw_below_drewN | apply below_drew1) | exact HB.out)))); have n2_ := Aside0.mk (below_step (by repeat (first | (with_reducible first | exact HB.out | apply below_alloc | apply pw_below_drewN | apply below_drew1) | exact HB.out)) hb); clear HO_7; clear HB; have HO_7 := n0_; have HO371 := n1_; have HB := n2_; clear n0_ n1_ n2_; (try clear hb); (try clear hb2); (try clear hk); (try clear hi); (try clear ho0); obtain ⟨Ao21, co21, eo21⟩ := Kd.S_slice HO_7.out; subst eo21; have p372 : 0 ≤ ((ji11) : Int) := of_decide_eq_true (by first | (with_reducible assumption) | assumption); have q372 : (ji11) < (x7_1.length : Int) := of_decide_eq_true (by first | (with_reducible assumption) | assumption); obtain ⟨ad372, A372_0, c372_0, e372, hx372_0, hl372_0, hi372_0⟩ := at_L4 (Kd.S_reads' HO_7.out).2.2 (ji11) p372 q372; cases e372; obtain ⟨ce372, hce372, hMe372, hcc372⟩ := Kd.S_get HO_7.out [] (ji11) p372 (by first | exact q372 | exact of_decide_eq_true (by first | (with_reducible assumption) | assumption) | (have e_ := (Kd.S_reads' HO_7.out).1; omega)); obtain ⟨ve372_0, rfl, ge372_0⟩ := hMe372; have hv372_0 := hcc372 0 _ rfl; rw [Nat.add_zero, show ((Kd.slice 5 (Kd.int .u8))).sz = 1 from rfl, Nat.mul_one] at hv372_0; replace hv372_0 := Option.some.inj (hv372_0.symm.trans hx372_0); rw [hv372_0] at ge372_0; have HL372_0 := Aside0.mk (show Kd.R (Kd.int .u8) 5 _ _ _ _ (rd_L4 x7_1 (ji11)) from ge372_0); clear hv372_0 ge372_0; clear hcc372 hce372; have HR372_0 := Aside0.mk hi372_0; have HC372_0 := Aside0.mk hl372_0; clear hi372_0 hl372_0; replace p372 := eq_true p372; replace q372 := eq_true q372; obtain ⟨Ao22, co22, eo22⟩ := Kd.R_slice HO371.out; subst eo22) | (go_at_call 46; (with_reducible refine (stoaref05_Order.calls k1 _ _ t367 _ _ (rd_L4 x7_1 (ji11)) t373 _ ?side1 ?side2 ?side3 ?side4 A14.out).mono ?_); (case side1 => repeat (first | exact (Kd.R_reads' HO371.out).2.2 | (with_reducible refine Kd.C_alloc ?_ _) | (with_reducible refine Kd.C_drewN ?_ _) | (with_reducible refine Kd.C_drew ?_))); (case side2 => exact (Kd.R_reads' HO371.out).2.1); (case side3 => repeat (first | exact (by repeat (first | (with_reducible exact HR372_0.out) | (with_reducible refine Kd.C_alloc ?_ _) | (with_reducible refine Kd.C_drewN ?_ _) | (with_reducible refine Kd.C_drew ?_) | exact HR372_0.out)) | (with_reducible refine Kd.C_alloc ?_ _) | (with_reducible refine Kd.C_drewN ?_ _) | (with_reducible refine Kd.C_drew ?_))); (case side4 => exact HC372_0.out); rintro e w' ⟨rfl, ⟨nd, rfl⟩⟩) | ((with_reducible refine gate_builtin (b := .append) (xs := #[.tmp 56, .tmp 58]) rfl ?_); at_builtin; refine Kd.S_append (Kd.slice 5 (Kd.int .u8)) (w0 := w) w.heap.size rfl (.tmp 56) (.tmp 58) 45 55 (.slice none 0 0) 24 rfl Try.underlying45 info55 rfl (by decide) (by omega) (.slice (some ad372) x7_1.length co21) x7_1 t367 [.slice Ao22 t367.length co22] (fun _ => True) (fun k_ => some k_ = (.slice Ao22 t367.length co22 : Value).ownBlock) rfl rfl ?aP (fun k_ hk_ => ((Kd.R_mono (ok' := fun k_ => ((fun _ => True)) k_ ∧ some k_ ≠ (.slice (some ad372) x7_1.length co21 : Value).ownBlock) (Kd.R_apart' (HO371.out) (Kd.S_typed HO_7.out) (by decide)) (fun k_ hk => ⟨trivial, hk.2⟩))).1 k_ hk_.symm) ?aF ?aO ?aB ?aS ?aL ?_; (case aP => exact Kd.M_row (Kd.R_mono (Kd.R_tight rfl (Kd.R_mono (ok' := fun k_ => ((fun _ => True)) k_ ∧ some k_ ≠ (.slice (some ad372) x7_1.length co21 : Value).ownBlock) (Kd.R_apart' (HO371.out) (Kd.S_typed HO_7.out) (by decide)) (fun k_ hk => ⟨trivial, hk.2⟩))) (fun _ h_ => h_))); (case aB => exact (by repeat (first | (with_reducible first | exact HB.out | apply below_alloc | apply pw_below_drewN | apply below_drew1) | exact HB.out))); (case aF => exact (fun _ _ => trivial)); (case aO => exact (by (with_reducible repeat (first | apply Kd.S_alloc | apply Kd.S_drewN | apply Kd.S_drew)); exact Kd.S_mono HO_7.out (fun k_ hk => ⟨trivial, fun e_ => hk.2 e_⟩))); (case aS => exact (below_size (by repeat (first | (with_reducible first | exact HB.out | apply below_alloc | apply pw_below_drewN | apply below_drew1) | exact HB.out)))); (case aL => have := LMc19.out; omega); intro v375 w23 ho hb hg hat; rw [← Ny374.out] at ho; have n0_ := Aside0.mk (Kd.R_after (ok := (fun k_ => some k_ ≠ (.slice Ao22 t367.length co22 : Value).ownBlock)) (by (with_reducible repeat (first | apply Kd.R_alloc | apply Kd.R_drewN | apply Kd.R_drew)); exact Kd.R_mono HL372_0.out (fun _ hk => ⟨hk.1.2, hk.2⟩)) hg hat); have n1_ := Aside0.mk (hb); have n2_ := Aside0.mk (ho); clear HL372_0; clear HB; clear HO_7; clear HO371; have HL372_0 := n0_; have HB := n1_; have HO376 := n2_; clear n0_ n1_ n2_; clear ho hb hg hat))
                        go_roundg k1
                        case measure => have := HK1.out; omega
                        case rel => exact ⟨(t368), (y374), (IntKind.u64.wrap (x8_1 + 1)), (by first | rfl | (simp; done) | (simp [*]; done)), (by first | rfl | (simp; done) | (simp [*]; done)), H', ⟨by have := HK1.out; omega⟩, ⟨by (with_reducible repeat (first | apply Kd.S_alloc | apply Kd.S_drewN | apply Kd.S_drew)); exact HO376.out⟩, ⟨by repeat (first | (with_reducible first | exact HB.out | apply below_alloc | apply pw_below_drewN | apply below_drew1) | exact HB.out)⟩⟩
                      · rw [if_neg c19] at H
                        exact absurd H (by simp)
                  · rw [if_neg c13] at H
                    exact absurd H (by simp)
                · rw [if_neg c12] at H
                  exact absurd H (by simp)
              · rw [if_neg c10] at H
                have c10b0 : decide (0 < x8_1) = false := decide_eq_false c10
                clear c10
                by_cases c24 : x7_1.length < 5864062014805
                · rw [if_pos c24] at H
                  have LMc24 := Aside0.mk c24
                  clear c24
                  obtain ⟨y377, hy377⟩ : ∃ y_ : List (List Int), y_ = (x7_1 ++ [t367]) := ⟨_, rfl⟩
                  replace H : (stoaref10_Decode.l0 k1 l0 t361 t368 y377 (IntKind.u64.wrap (x8_1 + 1))) = some (r1, r2) := by first | (rw [hy377]; with_reducible exact H) | (have H2_ := (Option.bind_some _ _).symm.trans H; rw [hy377]; with_reducible exact H2_) | (have H2_ := (Option.bind_some _ _).symm.trans H; with_reducible exact H2_) | with_reducible exact H | (rw [hy377]; exact H) | exact H
                  have Ny377 := Aside0.mk hy377
                  clear hy377
                  have H' := Aside0.mk H
                  clear H
                  go_wp2_with (first | ((with_reducible refine gate_callee (f := 84) rfl ?_); refine goesL_ (some 37) rfl rfl Try.func84 (by kernel_rfl) rfl #[.slice A0 l0.length c0, .int .i64 x5_1] rfl (by (try simp only [List.map_toArray, List.map_cons, List.map_nil]); first | done | rfl | (simp only [List.length_drop, List.length_take]; rfl)) ?_; (with_reducible refine (stoaref10_text.calls k1 _ _ l0 x5_1 t367 t368 t369 _ ?side1 ?side2 A8.out).mono ?_); (case side1 => repeat (first | exact (Kd.C_below HR0.out HB.out) | (with_reducible refine Kd.C_alloc ?_ _) | (with_reducible refine Kd.C_drewN ?_ _) | (with_reducible refine Kd.C_drew ?_))); (case side2 => exact HC0.out); rintro e w25 ⟨v370, rfl, ho0, hb⟩; refine ⟨_, rfl, ?_⟩; have n0_ := Aside0.mk (Kd.S_elder' (by (with_reducible repeat (first | apply Kd.S_alloc | apply Kd.S_drewN | apply Kd.S_drew)); exact HO_7.out) (Kd.R_base ho0) hb); have n1_ := Aside0.mk (Kd.R_lower ho0 (below_size (by repeat (first | (with_reducible first | exact HB.out | apply below_alloc | apply pw_below_drewN | apply below_drew1) | exact HB.out)))); have n2_ := Aside0.mk (below_step (by repeat (first | (with_reducible first | exact HB.out | apply below_alloc | apply pw_below_drewN | apply below_drew1) | exact HB.out)) hb); clear HO_7; clear HB; have HO_7 := n0_; have HO371 := n1_; have HB := n2_; clear n0_ n1_ n2_; (try clear hb); (try clear hb2); (try clear hk); (try clear hi); (try clear ho0); obtain ⟨Ao27, co27, eo27⟩ := Kd.R_slice HO371.out; subst eo27) | ((with_reducible refine gate_builtin (b := .append) (xs := #[.tmp 56, .tmp 58]) rfl ?_); at_builtin; refine Kd.S_append (Kd.slice 5 (Kd.int .u8)) (w0 := w) w.heap.size rfl (.tmp 56) (.tmp 58) 45 55 (.slice none 0 0) 24 rfl Try.underlying45 info55 rfl (by decide) (by omega) u7 x7_1 t367 [.slice Ao27 t367.length co27] (fun _ => True) (fun k_ => some k_ = (.slice Ao27 t367.length co27 : Value).ownBlock) rfl rfl ?aP (fun k_ hk_ => ((Kd.R_mono (ok' := fun k_ => ((fun _ => True)) k_ ∧ some k_ ≠ (u7 : Value).ownBlock) (Kd.R_apart' (HO371.out) (Kd.S_typed HO_7.out) (by decide)) (fun k_ hk => ⟨trivial, hk.2⟩))).1 k_ hk_.symm) ?aF ?aO ?aB ?aS ?aL ?_; (case aP => exact Kd.M_row (Kd.R_mono (Kd.R_tight rfl (Kd.R_mono (ok' := fun k_ => ((fun _ => True)) k_ ∧ some k_ ≠ (u7 : Value).ownBlock) (Kd.R_apart' (HO371.out) (Kd.S_typed HO_7.out) (by decide)) (fun k_ hk => ⟨trivial, hk.2⟩))) (fun _ h_ => h_))); (case aB => exact (by repeat (first | (with_reducible first | exact HB.out | apply below_alloc | apply pw_below_drewN | apply below_drew1) | exact HB.out))); (case aF => exact (fun _ _ => trivial)); (case aO => exact (by (with_reducible repeat (first | apply Kd.S_alloc | apply Kd.S_drewN | apply Kd.S_drew)); exact Kd.S_mono HO_7.out (fun k_ hk => ⟨trivial, fun e_ => hk.2 e_⟩))); (case aS => exact (below_size (by repeat (first | (with_reducible first | exact HB.out | apply below_alloc | apply pw_below_drewN | apply below_drew1) | exact HB.out)))); (case aL => have := LMc24.out; omega); intro v378 w26 ho hb hg hat; rw [← Ny377.out] at ho; have n0_ := Aside0.mk (hb); have n1_ := Aside0.mk (ho); clear HB; clear HO_7; clear HO371; have HB := n0_; have HO379 := n1_; clear n0_ n1_; clear ho hb hg hat))
                  go_roundg k1
                  case measure => have := HK1.out; omega
                  case rel => exact ⟨(t368), (y377), (IntKind.u64.wrap (x8_1 + 1)), (by first | rfl | (simp; done) | (simp [*]; done)), (by first | rfl | (simp; done) | (simp [*]; done)), H', ⟨by have := HK1.out; omega⟩, ⟨by (with_reducible repeat (first | apply Kd.S_alloc | apply Kd.S_drewN | apply Kd.S_drew)); exact HO379.out⟩, ⟨by repeat (first | (with_reducible first | exact HB.out | apply below_alloc | apply pw_below_drewN | apply below_drew1) | exact HB.out)⟩⟩
                · rw [if_neg c24] at H
                  exact absurd H (by simp)
            · rw [if_neg c9] at H
              have c9b0 : (t369 == 0) = false := beq_eq_false_iff_ne.mpr c9
              have c9b1 : (t369 != 0) = true := bne_iff_ne.mpr c9
              simp only [Option.some.injEq, Prod.mk.injEq] at H
              obtain ⟨rfl, rfl⟩ := H
              go_wp2_with (first | ((with_reducible refine gate_callee (f := 84) rfl ?_); refine goesL_ (some 37) rfl rfl Try.func84 (by kernel_rfl) rfl #[.slice A0 l0.length c0, .int .i64 x5_1] rfl (by (try simp only [List.map_toArray, List.map_cons, List.map_nil]); first | done | rfl | (simp only [List.length_drop, List.length_take]; rfl)) ?_; (with_reducible refine (stoaref10_text.calls k1 _ _ l0 x5_1 t367 t368 t369 _ ?side1 ?side2 A8.out).mono ?_); (case side1 => repeat (first | exact (Kd.C_below HR0.out HB.out) | (with_reducible refine Kd.C_alloc ?_ _) | (with_reducible refine Kd.C_drewN ?_ _) | (with_reducible refine Kd.C_drew ?_))); (case side2 => exact HC0.out); rintro e w28 ⟨v370, rfl, ho0, hb⟩; refine ⟨_, rfl, ?_⟩; have n0_ := Aside0.mk (Kd.S_elder' (by (with_reducible repeat (first | apply Kd.S_alloc | apply Kd.S_drewN | apply Kd.S_drew)); exact HO_7.out) (Kd.R_base ho0) hb); have n1_ := Aside0.mk (Kd.R_lower ho0 (below_size (by repeat (first | (with_reducible first | exact HB.out | apply below_alloc | apply pw_below_drewN | apply below_drew1) | exact HB.out)))); have n2_ := Aside0.mk (below_step (by repeat (first | (with_reducible first | exact HB.out | apply below_alloc | apply pw_below_drewN | apply below_drew1) | exact HB.out)) hb); clear HO_7; clear HB; have HO_7 := n0_; have HO371 := n1_; have HB := n2_; clear n0_ n1_ n2_; (try clear hb); (try clear hb2); (try clear hk); (try clear hi); (try clear ho0)))
              go_ret2
              exact ⟨_, by first | rfl | (simp [errW_none, errW_some] <;> rfl) | (simp [*, errW_none, errW_some] <;> rfl), by first | exact Kd.S_nil _ _ _ _ _ | exact Kd.N_nil _ _ _ _ _ | exact Kd.V_nil _ _ _ _ _ | exact Kd.Q_nil _ _ _ _ _ | exact Kd.R_nil _ _ _ _ _, by repeat (first | (with_reducible first | exact HB.out | apply below_alloc | apply pw_below_drewN | apply below_drew1) | exact HB.out)⟩
          · rw [if_neg c7] at H
            have c7b0 : decide (x8_1 < t361) = false := decide_eq_false c7
            clear c7
            replace H := Option.bind_eq_some_iff.mp H
            obtain ⟨⟨t380, t381, t382⟩, A290, H⟩ := H
            replace H : (if t382 = 0 then (if t380 > 4096 then (some (([] : List (List Int)), 4)) else ((stoaref01_Piece.f k1 l0 t381 (l0.length : Int)).bind fun t383 => ((stoaref10_width.f k1 (x7_1.length : Int)).bind fun t386 => ((stoaref01_Unpack.f k1 t383 t386 (wrap64 (t380))).bind fun bt387 => (if bt387.2 = 0 then ((stoaref10_texts.f k1 x7_1 bt387.1).bind fun bt391 => (some (bt391.1, bt391.2))) else (some (([] : List (List Int)), bt387.2))))))) else (some (([] : List (List Int)), t382))) = some (r1, r2) := H
            have A29 := Aside0.mk A290
            clear A290
            by_cases c30 : t382 = 0
            · rw [if_pos c30] at H
              have c30b0 : (t382 == 0) = true := beq_iff_eq.mpr c30
              have c30b1 : (t382 != 0) = false := bne_eq_false_iff_eq.mpr c30
              clear c30
              by_cases c31 : t380 > 4096
              · rw [if_pos c31] at H
                have c31b0 : decide (4096 < t380) = true := decide_eq_true c31
                clear c31
                simp only [Option.some.injEq, Prod.mk.injEq] at H
                obtain ⟨rfl, rfl⟩ := H
                go_wp2_with (first | ((with_reducible refine gate_callee (f := 83) rfl ?_); refine goesL_ (some 64) rfl rfl Try.func83 (by kernel_rfl) rfl #[.slice A0 l0.length c0, .int .i64 x5_1] rfl (by (try simp only [List.map_toArray, List.map_cons, List.map_nil]); first | done | rfl | (simp only [List.length_drop, List.length_take]; rfl)) ?_; (with_reducible refine (stoaref02_Get.calls k1 _ _ l0 x5_1 t380 t381 t382 _ ?side1 ?side2 A29.out).mono ?_); (case side1 => repeat (first | exact (Kd.C_below HR0.out HB.out) | (with_reducible refine Kd.C_alloc ?_ _) | (with_reducible refine Kd.C_drewN ?_ _) | (with_reducible refine Kd.C_drew ?_))); (case side2 => exact HC0.out); rintro e w' ⟨rfl, ⟨nd, rfl⟩⟩; refine ⟨_, rfl, ?_⟩))
                go_ret2
                exact ⟨_, by first | rfl | (simp [errW_none, errW_some] <;> rfl) | (simp [*, errW_none, errW_some] <;> rfl), by first | exact Kd.S_nil _ _ _ _ _ | exact Kd.N_nil _ _ _ _ _ | exact Kd.V_nil _ _ _ _ _ | exact Kd.Q_nil _ _ _ _ _ | exact Kd.R_nil _ _ _ _ _, by repeat (first | (with_reducible first | exact HB.out | apply below_alloc | apply pw_below_drewN | apply below_drew1) | exact HB.out)⟩
              · rw [if_neg c31] at H
                have c31b0 : decide (4096 < t380) = false := decide_eq_false c31
                clear c31
                replace H := Option.bind_eq_some_iff.mp H
                obtain ⟨t383, A320, H⟩ := H
                replace H : ((stoaref10_width.f k1 (x7_1.length : Int)).bind fun t386 => ((stoaref01_Unpack.f k1 t383 t386 (wrap64 (t380))).bind fun bt387 => (if bt387.2 = 0 then ((stoaref10_texts.f k1 x7_1 bt387.1).bind fun bt391 => (some (bt391.1, bt391.2))) else (some (([] : List (List Int)), bt387.2))))) = some (r1, r2) := H
                have A32 := Aside0.mk A320
                clear A320
                replace H := Option.bind_eq_some_iff.mp H
                obtain ⟨t386, A330, H⟩ := H
                replace H : ((stoaref01_Unpack.f k1 t383 t386 (wrap64 (t380))).bind fun bt387 => (if bt387.2 = 0 then ((stoaref10_texts.f k1 x7_1 bt387.1).bind fun bt391 => (some (bt391.1, bt391.2))) else (some (([] : List (List Int)), bt387.2)))) = some (r1, r2) := H
                have A33 := Aside0.mk A330
                clear A330
                replace H := Option.bind_eq_some_iff.mp H
                obtain ⟨⟨t387, t388⟩, A340, H⟩ := H
                replace H : (if t388 = 0 then ((stoaref10_texts.f k1 x7_1 t387).bind fun bt391 => (some (bt391.1, bt391.2))) else (some (([] : List (List Int)), t388))) = some (r1, r2) := H
                have A34 := Aside0.mk A340
                clear A340
                by_cases c35 : t388 = 0
                · rw [if_pos c35] at H
                  have c35b0 : (t388 == 0) = true := beq_iff_eq.mpr c35
                  have c35b1 : (t388 != 0) = false := bne_eq_false_iff_eq.mpr c35
                  clear c35
                  replace H := Option.bind_eq_some_iff.mp H
                  obtain ⟨⟨t391, t392⟩, A360, H⟩ := H
                  replace H : (some (t391, t392)) = some (r1, r2) := H
                  have A36 := Aside0.mk A360
                  clear A360
                  simp only [Option.some.injEq, Prod.mk.injEq] at H
                  obtain ⟨rfl, rfl⟩ := H
                  go_wp2_with (first | ((with_reducible refine gate_callee (f := 83) rfl ?_); refine goesL_ (some 64) rfl rfl Try.func83 (by kernel_rfl) rfl #[.slice A0 l0.length c0, .int .i64 x5_1] rfl (by (try simp only [List.map_toArray, List.map_cons, List.map_nil]); first | done | rfl | (simp only [List.length_drop, List.length_take]; rfl)) ?_; (with_reducible refine (stoaref02_Get.calls k1 _ _ l0 x5_1 t380 t381 t382 _ ?side1 ?side2 A29.out).mono ?_); (case side1 => repeat (first | exact (Kd.C_below HR0.out HB.out) | (with_reducible refine Kd.C_alloc ?_ _) | (with_reducible refine Kd.C_drewN ?_ _) | (with_reducible refine Kd.C_drew ?_))); (case side2 => exact HC0.out); rintro e w' ⟨rfl, ⟨nd, rfl⟩⟩; refine ⟨_, rfl, ?_⟩) | ((with_reducible refine gate_callee (f := 86) rfl ?_); refine goesL_ (some 78) rfl rfl Try.func86 (by kernel_rfl) rfl #[.slice A0 l0.length c0, .int .i64 t381, .int .i64 (l0.length : Int)] rfl (by (try simp only [List.map_toArray, List.map_cons, List.map_nil]); first | done | rfl | (simp only [List.length_drop, List.length_take]; rfl)) ?_; (with_reducible refine (stoaref01_Piece.calls k1 _ _ l0 t381 (l0.length : Int) t383 _ ?side1 ?side2 A32.out).mono ?_); (case side1 => repeat (first | exact (Kd.C_below HR0.out (by repeat (first | (with_reducible first | exact HB.out | apply below_alloc | apply pw_below_drewN | apply below_drew1) | exact HB.out))) | (with_reducible refine Kd.C_alloc ?_ _) | (with_reducible refine Kd.C_drewN ?_ _) | (with_reducible refine Kd.C_drew ?_))); (case side2 => exact HC0.out); rintro e w37 ⟨v384, rfl, ho0, hb⟩; refine ⟨_, rfl, ?_⟩; have n0_ := Aside0.mk (Kd.S_elder' (by (with_reducible repeat (first | apply Kd.S_alloc | apply Kd.S_drewN | apply Kd.S_drew)); exact HO_7.out) (Kd.R_base ho0) hb); have n1_ := Aside0.mk (Kd.R_lower ho0 (below_size (by repeat (first | (with_reducible first | exact HB.out | apply below_alloc | apply pw_below_drewN | apply below_drew1) | exact HB.out)))); have n2_ := Aside0.mk (below_step (by repeat (first | (with_reducible first | exact HB.out | apply below_alloc | apply pw_below_drewN | apply below_drew1) | exact HB.out)) hb); clear HO_7; clear HB; have HO_7 := n0_; have HO385 := n1_; have HB := n2_; clear n0_ n1_ n2_; (try clear hb); (try clear hb2); (try clear hk); (try clear hi); (try clear ho0); obtain ⟨Ao38, co38, eo38⟩ := Kd.S_slice HO_7.out; subst eo38) | ((with_reducible refine gate_callee (f := 78) rfl ?_); refine goesL_ (some 81) rfl rfl Try.func78 (by kernel_rfl) rfl #[.int .i64 (x7_1.length : Int)] rfl (by (try simp only [List.map_toArray, List.map_cons, List.map_nil]); first | done | rfl | (simp only [List.length_drop, List.length_take]; rfl)) ?_; (with_reducible refine (stoaref10_width.calls k1 (x7_1.length : Int) t386 _ A33.out).mono ?_); rintro e w39 ⟨rfl, hb⟩; refine ⟨_, rfl, ?_⟩; have n0_ := Aside0.mk (Kd.S_below (by (with_reducible repeat (first | apply Kd.S_alloc | apply Kd.S_drewN | apply Kd.S_drew)); exact HO_7.out) hb); have n1_ := Aside0.mk (Kd.R_below (by (with_reducible repeat (first | apply Kd.R_alloc | apply Kd.R_drewN | apply Kd.R_drew)); exact HO385.out) hb); have n2_ := Aside0.mk (below_step (by repeat (first | (with_reducible first | exact HB.out | apply below_alloc | apply pw_below_drewN | apply below_drew1) | exact HB.out)) hb); clear HO_7; clear HO385; clear HB; have HO_7 := n0_; have HO385 := n1_; have HB := n2_; clear n0_ n1_ n2_; (try clear hb); (try clear hb2); (try clear hk); (try clear hi); obtain ⟨Ao40, co40, eo40⟩ := Kd.R_slice HO385.out; subst eo40) | ((with_reducible refine gate_callee (f := 85) rfl ?_); refine goesL_ (some 84) rfl rfl Try.func85 (by kernel_rfl) rfl #[.slice Ao40 t383.length co40, .int .i64 t386, .int .i64 (wrap64 (t380))] rfl (by (try simp only [List.map_toArray, List.map_cons, List.map_nil]); first | done | rfl | (simp only [List.length_drop, List.length_take]; rfl)) ?_; (with_reducible refine (stoaref01_Unpack.calls k1 _ _ t383 t386 (wrap64 (t380)) t387 t388 _ ?side1 ?side2 A34.out).mono ?_); (case side1 => repeat (first | exact (Kd.R_reads' HO385.out).2.2 | (with_reducible refine Kd.C_alloc ?_ _) | (with_reducible refine Kd.C_drewN ?_ _) | (with_reducible refine Kd.C_drew ?_))); (case side2 => exact (Kd.R_reads' HO385.out).2.1); rintro e w41 ⟨v389, rfl, ho0, hb⟩; refine ⟨_, rfl, ?_⟩; have n0_ := Aside0.mk (Kd.S_below (by (with_reducible repeat (first | apply Kd.S_alloc | apply Kd.S_drewN | apply Kd.S_drew)); exact HO_7.out) hb); have n1_ := Aside0.mk (Kd.R_below (by (with_reducible repeat (first | apply Kd.R_alloc | apply Kd.R_drewN | apply Kd.R_drew)); exact HO385.out) hb); have n2_ := Aside0.mk (Kd.R_lower ho0 (below_size (by repeat (first | (with_reducible first | exact HB.out | apply below_alloc | apply pw_below_drewN | apply below_drew1) | exact HB.out)))); have n3_ := Aside0.mk (below_step (by repeat (first | (with_reducible first | exact HB.out | apply below_alloc | apply pw_below_drewN | apply below_drew1) | exact HB.out)) hb); clear HO_7; clear HO385; clear HB; have HO_7 := n0_; have HO385 := n1_; have HO390 := n2_; have HB := n3_; clear n0_ n1_ n2_ n3_; (try clear hb); (try clear hb2); (try clear hk); (try clear hi); (try clear ho0); obtain ⟨Ao42, co42, eo42⟩ := Kd.R_slice HO390.out; subst eo42) | ((with_reducible refine gate_callee (f := 87) rfl ?_); refine goesL_ (some 92) rfl rfl Try.func87 (by kernel_rfl) rfl #[.slice Ao38 x7_1.length co38, .slice Ao42 t387.length co42] rfl (by (try simp only [List.map_toArray, List.map_cons, List.map_nil]); first | done | rfl | (simp only [List.length_drop, List.length_take]; rfl)) ?_; (with_reducible refine (stoaref10_texts.calls k1 _ _ x7_1 _ _ t387 t391 t392 _ ?side1 ?side2 ?side3 ?side4 A36.out).mono ?_); (case side1 => repeat (first | exact (Kd.S_reads' HO_7.out).2.2 | (with_reducible refine Kd.C_alloc ?_ _) | (with_reducible refine Kd.C_drewN ?_ _) | (with_reducible refine Kd.C_drew ?_))); (case side2 => exact (Kd.S_reads' HO_7.out).2.1); (case side3 => repeat (first | exact (Kd.R_reads' HO390.out).2.2 | (with_reducible refine Kd.C_alloc ?_ _) | (with_reducible refine Kd.C_drewN ?_ _) | (with_reducible refine Kd.C_drew ?_))); (case side4 => exact (Kd.R_reads' HO390.out).2.1); rintro e w43 ⟨v393, rfl, ho0, hb⟩; refine ⟨_, rfl, ?_⟩; have n0_ := Aside0.mk (Kd.S_elder' (by (with_reducible repeat (first | apply Kd.S_alloc | apply Kd.S_drewN | apply Kd.S_drew)); exact HO_7.out) (Kd.S_base ho0) hb); have n1_ := Aside0.mk (Kd.R_below (by (with_reducible repeat (first | apply Kd.R_alloc | apply Kd.R_drewN | apply Kd.R_drew)); exact HO385.out) hb); have n2_ := Aside0.mk (Kd.R_below (by (with_reducible repeat (first | apply Kd.R_alloc | apply Kd.R_drewN | apply Kd.R_drew)); exact HO390.out) hb); have n3_ := Aside0.mk (Kd.S_lower (Kd.S_new' (Kd.S_new' ho0 (Kd.S_lt (by (with_reducible repeat (first | apply Kd.S_alloc | apply Kd.S_drewN | apply Kd.S_drew)); exact HO_7.out))) (Kd.R_lt (by (with_reducible repeat (first | apply Kd.R_alloc | apply Kd.R_drewN | apply Kd.R_drew)); exact HO385.out))) (below_size (by repeat (first | (with_reducible first | exact HB.out | apply below_alloc | apply pw_below_drewN | apply below_drew1) | exact HB.out)))); have n4_ := Aside0.mk (below_step (by repeat (first | (with_reducible first | exact HB.out | apply below_alloc | apply pw_below_drewN | apply below_drew1) | exact HB.out)) hb); clear HO_7; clear HO385; clear HO390; clear HB; have HO_7 := n0_; have HO385 := n1_; have HO390 := n2_; have HO394 := n3_; have HB := n4_; clear n0_ n1_ n2_ n3_ n4_; (try clear hb); (try clear hb2); (try clear hk); (try clear hi); (try clear ho0)))
                  go_ret2
                  exact ⟨_, by first | rfl | (simp [errW_none, errW_some] <;> rfl) | (simp [*, errW_none, errW_some] <;> rfl), by (with_reducible repeat (first | apply Kd.S_alloc | apply Kd.S_drewN | apply Kd.S_drew)); exact Kd.S_mono HO394.out (fun _ hk => trivial), by repeat (first | (with_reducible first | exact HB.out | apply below_alloc | apply pw_below_drewN | apply below_drew1) | exact HB.out)⟩
                · rw [if_neg c35] at H
                  have c35b0 : (t388 == 0) = false := beq_eq_false_iff_ne.mpr c35
                  have c35b1 : (t388 != 0) = true := bne_iff_ne.mpr c35
                  simp only [Option.some.injEq, Prod.mk.injEq] at H
                  obtain ⟨rfl, rfl⟩ := H
                  go_wp2_with (first | ((with_reducible refine gate_callee (f := 83) rfl ?_); refine goesL_ (some 64) rfl rfl Try.func83 (by kernel_rfl) rfl #[.slice A0 l0.length c0, .int .i64 x5_1] rfl (by (try simp only [List.map_toArray, List.map_cons, List.map_nil]); first | done | rfl | (simp only [List.length_drop, List.length_take]; rfl)) ?_; (with_reducible refine (stoaref02_Get.calls k1 _ _ l0 x5_1 t380 t381 t382 _ ?side1 ?side2 A29.out).mono ?_); (case side1 => repeat (first | exact (Kd.C_below HR0.out HB.out) | (with_reducible refine Kd.C_alloc ?_ _) | (with_reducible refine Kd.C_drewN ?_ _) | (with_reducible refine Kd.C_drew ?_))); (case side2 => exact HC0.out); rintro e w' ⟨rfl, ⟨nd, rfl⟩⟩; refine ⟨_, rfl, ?_⟩) | ((with_reducible refine gate_callee (f := 86) rfl ?_); refine goesL_ (some 78) rfl rfl Try.func86 (by kernel_rfl) rfl #[.slice A0 l0.length c0, .int .i64 t381, .int .i64 (l0.length : Int)] rfl (by (try simp only [List.map_toArray, List.map_cons, List.map_nil]); first | done | rfl | (simp only [List.length_drop, List.length_take]; rfl)) ?_; (with_reducible refine (stoaref01_Piece.calls k1 _ _ l0 t381 (l0.length : Int) t383 _ ?side1 ?side2 A32.out).mono ?_); (case side1 => repeat (first | exact (Kd.C_below HR0.out (by repeat (first | (with_reducible first | exact HB.out | apply below_alloc | apply pw_below_drewN | apply below_drew1) | exact HB.out))) | (with_reducible refine Kd.C_alloc ?_ _) | (with_reducible refine Kd.C_drewN ?_ _) | (with_reducible refine Kd.C_drew ?_))); (case side2 => exact HC0.out); rintro e w44 ⟨v384, rfl, ho0, hb⟩; refine ⟨_, rfl, ?_⟩; have n0_ := Aside0.mk (Kd.S_elder' (by (with_reducible repeat (first | apply Kd.S_alloc | apply Kd.S_drewN | apply Kd.S_drew)); exact HO_7.out) (Kd.R_base ho0) hb); have n1_ := Aside0.mk (Kd.R_lower ho0 (below_size (by repeat (first | (with_reducible first | exact HB.out | apply below_alloc | apply pw_below_drewN | apply below_drew1) | exact HB.out)))); have n2_ := Aside0.mk (below_step (by repeat (first | (with_reducible first | exact HB.out | apply below_alloc | apply pw_below_drewN | apply below_drew1) | exact HB.out)) hb); clear HO_7; clear HB; have HO_7 := n0_; have HO385 := n1_; have HB := n2_; clear n0_ n1_ n2_; (try clear hb); (try clear hb2); (try clear hk); (try clear hi); (try clear ho0); obtain ⟨Ao45, co45, eo45⟩ := Kd.S_slice HO_7.out; subst eo45) | ((with_reducible refine gate_callee (f := 78) rfl ?_); refine goesL_ (some 81) rfl rfl Try.func78 (by kernel_rfl) rfl #[.int .i64 (x7_1.length : Int)] rfl (by (try simp only [List.map_toArray, List.map_cons, List.map_nil]); first | done | rfl | (simp only [List.length_drop, List.length_take]; rfl)) ?_; (with_reducible refine (stoaref10_width.calls k1 (x7_1.length : Int) t386 _ A33.out).mono ?_); rintro e w46 ⟨rfl, hb⟩; refine ⟨_, rfl, ?_⟩; have n0_ := Aside0.mk (Kd.S_below (by (with_reducible repeat (first | apply Kd.S_alloc | apply Kd.S_drewN | apply Kd.S_drew)); exact HO_7.out) hb); have n1_ := Aside0.mk (Kd.R_below (by (with_reducible repeat (first | apply Kd.R_alloc | apply Kd.R_drewN | apply Kd.R_drew)); exact HO385.out) hb); have n2_ := Aside0.mk (below_step (by repeat (first | (with_reducible first | exact HB.out | apply below_alloc | apply pw_below_drewN | apply below_drew1) | exact HB.out)) hb); clear HO_7; clear HO385; clear HB; have HO_7 := n0_; have HO385 := n1_; have HB := n2_; clear n0_ n1_ n2_; (try clear hb); (try clear hb2); (try clear hk); (try clear hi); obtain ⟨Ao47, co47, eo47⟩ := Kd.R_slice HO385.out; subst eo47) | ((with_reducible refine gate_callee (f := 85) rfl ?_); refine goesL_ (some 84) rfl rfl Try.func85 (by kernel_rfl) rfl #[.slice Ao47 t383.length co47, .int .i64 t386, .int .i64 (wrap64 (t380))] rfl (by (try simp only [List.map_toArray, List.map_cons, List.map_nil]); first | done | rfl | (simp only [List.length_drop, List.length_take]; rfl)) ?_; (with_reducible refine (stoaref01_Unpack.calls k1 _ _ t383 t386 (wrap64 (t380)) t387 t388 _ ?side1 ?side2 A34.out).mono ?_); (case side1 => repeat (first | exact (Kd.R_reads' HO385.out).2.2 | (with_reducible refine Kd.C_alloc ?_ _) | (with_reducible refine Kd.C_drewN ?_ _) | (with_reducible refine Kd.C_drew ?_))); (case side2 => exact (Kd.R_reads' HO385.out).2.1); rintro e w48 ⟨v389, rfl, ho0, hb⟩; refine ⟨_, rfl, ?_⟩; have n0_ := Aside0.mk (Kd.S_below (by (with_reducible repeat (first | apply Kd.S_alloc | apply Kd.S_drewN | apply Kd.S_drew)); exact HO_7.out) hb); have n1_ := Aside0.mk (Kd.R_below (by (with_reducible repeat (first | apply Kd.R_alloc | apply Kd.R_drewN | apply Kd.R_drew)); exact HO385.out) hb); have n2_ := Aside0.mk (Kd.R_lower ho0 (below_size (by repeat (first | (with_reducible first | exact HB.out | apply below_alloc | apply pw_below_drewN | apply below_drew1) | exact HB.out)))); have n3_ := Aside0.mk (below_step (by repeat (first | (with_reducible first | exact HB.out | apply below_alloc | apply pw_below_drewN | apply below_drew1) | exact HB.out)) hb); clear HO_7; clear HO385; clear HB; have HO_7 := n0_; have HO385 := n1_; have HO390 := n2_; have HB := n3_; clear n0_ n1_ n2_ n3_; (try clear hb); (try clear hb2); (try clear hk); (try clear hi); (try clear ho0)))
                  go_ret2
                  exact ⟨_, by first | rfl | (simp [errW_none, errW_some] <;> rfl) | (simp [*, errW_none, errW_some] <;> rfl), by first | exact Kd.S_nil _ _ _ _ _ | exact Kd.N_nil _ _ _ _ _ | exact Kd.V_nil _ _ _ _ _ | exact Kd.Q_nil _ _ _ _ _ | exact Kd.R_nil _ _ _ _ _, by repeat (first | (with_reducible first | exact HB.out | apply below_alloc | apply pw_below_drewN | apply below_drew1) | exact HB.out)⟩
            · rw [if_neg c30] at H
              have c30b0 : (t382 == 0) = false := beq_eq_false_iff_ne.mpr c30
              have c30b1 : (t382 != 0) = true := bne_iff_ne.mpr c30
              simp only [Option.some.injEq, Prod.mk.injEq] at H
              obtain ⟨rfl, rfl⟩ := H
              go_wp2_with (first | ((with_reducible refine gate_callee (f := 83) rfl ?_); refine goesL_ (some 64) rfl rfl Try.func83 (by kernel_rfl) rfl #[.slice A0 l0.length c0, .int .i64 x5_1] rfl (by (try simp only [List.map_toArray, List.map_cons, List.map_nil]); first | done | rfl | (simp only [List.length_drop, List.length_take]; rfl)) ?_; (with_reducible refine (stoaref02_Get.calls k1 _ _ l0 x5_1 t380 t381 t382 _ ?side1 ?side2 A29.out).mono ?_); (case side1 => repeat (first | exact (Kd.C_below HR0.out HB.out) | (with_reducible refine Kd.C_alloc ?_ _) | (with_reducible refine Kd.C_drewN ?_ _) | (with_reducible refine Kd.C_drew ?_))); (case side2 => exact HC0.out); rintro e w' ⟨rfl, ⟨nd, rfl⟩⟩; refine ⟨_, rfl, ?_⟩))
              go_ret2
              exact ⟨_, by first | rfl | (simp [errW_none, errW_some] <;> rfl) | (simp [*, errW_none, errW_some] <;> rfl), by first | exact Kd.S_nil _ _ _ _ _ | exact Kd.N_nil _ _ _ _ _ | exact Kd.V_nil _ _ _ _ _ | exact Kd.Q_nil _ _ _ _ _ | exact Kd.R_nil _ _ _ _ _, by repeat (first | (with_reducible first | exact HB.out | apply below_alloc | apply pw_below_drewN | apply below_drew1) | exact HB.out)⟩
  · rw [if_neg c3] at H
    have c3b0 : (t363 == 0) = false := beq_eq_false_iff_ne.mpr c3
    have c3b1 : (t363 != 0) = true := bne_iff_ne.mpr c3
    simp only [Option.some.injEq, Prod.mk.injEq] at H
    obtain ⟨rfl, rfl⟩ := H
    go_enter Try.func43, Try.ntmps43
    go_wp2_with (first | ((with_reducible refine gate_callee (f := 83) rfl ?_); refine goesL_ (some 19) rfl rfl Try.func83 (by kernel_rfl) rfl #[.slice A0 l0.length c0, .int .i64 0] rfl (by (try simp only [List.map_toArray, List.map_cons, List.map_nil]); first | done | rfl | (simp only [List.length_drop, List.length_take]; rfl)) ?_; (with_reducible refine (stoaref02_Get.calls k _ _ l0 0 t361 t362 t363 _ ?side1 ?side2 A2.out).mono ?_); (case side1 => repeat (first | exact HR0.out | (with_reducible refine Kd.C_alloc ?_ _) | (with_reducible refine Kd.C_drewN ?_ _) | (with_reducible refine Kd.C_drew ?_))); (case side2 => exact HC0.out); rintro e w' ⟨rfl, ⟨nd, rfl⟩⟩; refine ⟨_, rfl, ?_⟩))
    go_ret2
    exact ⟨_, by first | rfl | (simp [errW_none, errW_some] <;> rfl) | (simp [*, errW_none, errW_some] <;> rfl), by first | exact Kd.S_nil _ _ _ _ _ | exact Kd.N_nil _ _ _ _ _ | exact Kd.V_nil _ _ _ _ _ | exact Kd.Q_nil _ _ _ _ _ | exact Kd.R_nil _ _ _ _ _, by repeat (first | (with_reducible first | exact HB.out | apply below_alloc | apply pw_below_drewN | apply below_drew1) | exact HB.out)⟩

/-! ### stoaref01_Intact: function 44 -/
mutual
def stoaref01_Intact.l0 : Nat → List Int → List Int → Int → Option (Bool)
  | 0, _, _, _ => none
  | k + 1, x0, x1, x5 => if x5 < (x1.length : Int) then (if 0 ≤ x5 then (if x5 < (x0.length : Int) then (if (rd x0 x5) = (rd x1 x5) then (stoaref01_Intact.l0 k x0 x1 (wrap64 (x5 + 1))) else (some false)) else (none)) else (none)) else (stoaref01_Intact.l1 k x0 x1 0)
def stoaref01_Intact.l1 : Nat → List Int → List Int → Int → Option (Bool)
  | 0, _, _, _ => none
  | k + 1, x0, x1, x6 => if x6 < 64 then (if 0 ≤ (wrap64 ((x1.length : Int) + x6)) then (if (wrap64 ((x1.length : Int) + x6)) < (x0.length : Int) then (if (rd x0 (wrap64 ((x1.length : Int) + x6))) = ((wrap64 (192 + (Int.tmod x6 7))) % 256) then (stoaref01_Intact.l1 k x0 x1 (wrap64 (x6 + 1))) else (some false)) else (none)) else (none)) else (some true)
end
def stoaref01_Intact.f (k : Nat) (l0 : List Int) (l1 : List Int) : Option (Bool) := if (l0.length : Int) = (wrap64 ((l1.length : Int) + 64)) then (stoaref01_Intact.l0 k l0 l1 0) else (some false)
theorem stoaref01_Intact.mono_l : ∀ k, (∀ y0 y1 y2, LeO (stoaref01_Intact.l0 k y0 y1 y2) (stoaref01_Intact.l0 (k + 1) y0 y1 y2)) ∧ (∀ y0 y1 y2, LeO (stoaref01_Intact.l1 k y0 y1 y2) (stoaref01_Intact.l1 (k + 1) y0 y1 y2))
  | 0 => ⟨fun _ _ _ r h => by simp [stoaref01_Intact.l0] at h, fun _ _ _ r h => by simp [stoaref01_Intact.l1] at h⟩
  | k + 1 => by
    obtain ⟨ih0, ih1⟩ := stoaref01_Intact.mono_l k
    refine ⟨?_, ?_⟩
    · intro y0 y1 y2
      unfold stoaref01_Intact.l0
      repeat' first
      | (with_reducible exact ih0 _ _ _)
      | (with_reducible exact ih1 _ _ _)
      | (with_reducible exact LeO.refl _)
      | (with_reducible exact LeO.none _)
      | (with_reducible refine LeO.ite ?_ ?_)
      | (with_reducible refine LeO.bind ?_ (fun _ => ?_))
      | exact ih0 _ _ _
      | exact ih1 _ _ _
      | exact LeO.none _
      | refine LeO.ite ?_ ?_
      | refine LeO.bind ?_ (fun _ => ?_)
    · intro y0 y1 y2
      unfold stoaref01_Intact.l1
      repeat' first
      | (with_reducible exact ih0 _ _ _)
      | (with_reducible exact ih1 _ _ _)
      | (with_reducible exact LeO.refl _)
      | (with_reducible exact LeO.none _)
      | (with_reducible refine LeO.ite ?_ ?_)
      | (with_reducible refine LeO.bind ?_ (fun _ => ?_))
      | exact ih0 _ _ _
      | exact ih1 _ _ _
      | exact LeO.none _
      | refine LeO.ite ?_ ?_
      | refine LeO.bind ?_ (fun _ => ?_)
theorem stoaref01_Intact.mono : ∀ a0 a1 k, LeO (stoaref01_Intact.f k a0 a1) (stoaref01_Intact.f (k + 1) a0 a1) := by
  intro a0 a1 k
  obtain ⟨ih0, ih1⟩ := stoaref01_Intact.mono_l k
  unfold stoaref01_Intact.f
  repeat' first
      | (with_reducible exact ih0 _ _ _)
      | (with_reducible exact ih1 _ _ _)
      | (with_reducible exact LeO.refl _)
      | (with_reducible exact LeO.none _)
      | (with_reducible refine LeO.ite ?_ ?_)
      | (with_reducible refine LeO.bind ?_ (fun _ => ?_))
      | exact ih0 _ _ _
      | exact ih1 _ _ _
      | exact LeO.none _
      | refine LeO.ite ?_ ?_
      | refine LeO.bind ?_ (fun _ => ?_)
set_option maxHeartbeats 8000000 in
set_option maxRecDepth 100000 in
theorem stoaref01_Intact.calls (k : Nat) (A0 : Option Addr) (c0 : Nat) (l0 : List Int) (A1 : Option Addr) (c1 : Nat) (l1 : List Int) (r : Bool) (w : World) (hr0 : Kd.C (Kd.int .u8) w A0 l0.length l0) (hc0 : l0.length ≤ c0) (hr1 : Kd.C (Kd.int .u8) w A1 l1.length l1) (hc1 : l1.length ≤ c1) (h : stoaref01_Intact.f k l0 l1 = some r) :
    Calls Try.prog 44 #[.slice A0 l0.length c0, .slice A1 l1.length c1] w fun e w' => e = .returned (.bool r) ∧ Drawn0 w w' := by
  have HR0 := Aside0.mk hr0
  have HC0 := Aside0.mk hc0
  clear hr0 hc0
  have HR1 := Aside0.mk hr1
  have HC1 := Aside0.mk hc1
  clear hr1 hc1
  have H : (if (l0.length : Int) = (wrap64 ((l1.length : Int) + 64)) then (stoaref01_Intact.l0 k l0 l1 0) else (some false)) = some r := h
  clear h
  by_cases c3 : (l0.length : Int) = (wrap64 ((l1.length : Int) + 64))
  · rw [if_pos c3] at H
    have c3b0 : ((l0.length : Int) == (wrap64 ((l1.length : Int) + 64))) = true := beq_iff_eq.mpr c3
    have c3b1 : ((l0.length : Int) != (wrap64 ((l1.length : Int) + 64))) = false := bne_eq_false_iff_eq.mpr c3
    clear c3
    have H' := Aside0.mk H
    clear H
    go_enter Try.func44, Try.ntmps44
    go_wp2
    repeat (go_quiet (fail); try go_wp2)
    go_loopg [5] k (fun kq v5 w' => ∃ (x5_1 : Int), v5 = .int .i64 x5_1 ∧ Aside0 (stoaref01_Intact.l0 kq l0 l1 x5_1 = some r) ∧ Aside0 (kq ≤ k) ∧ Drawn0 w w')
    case atStart => exact ⟨(0), (by first | rfl | (simp; done) | (simp [*]; done)), H', ⟨Nat.le_refl _⟩, by repeat (first | exact Drawn0.refl _ | apply Drawn0.step)⟩
    case round =>
      clear H'
      try clear c1
      try clear p2
      try clear c3
      try clear c3b0
      try clear c3b1
      obtain ⟨x5_1, rfl, HA, HK1, ⟨m1, rfl⟩⟩ := hrel
      cases gk with
      | zero => exact absurd HA.out (by simp [stoaref01_Intact.l0])
      | succ k1 =>
        have H := HA.out
        clear HA
        simp only [stoaref01_Intact.l0] at H
        by_cases c4 : x5_1 < (l1.length : Int)
        · rw [if_pos c4] at H
          have c4b0 : decide (x5_1 < (l1.length : Int)) = true := decide_eq_true c4
          clear c4
          by_cases c5 : 0 ≤ x5_1
          · rw [if_pos c5] at H
            have c5b0 : decide (0 ≤ x5_1) = true := decide_eq_true c5
            clear c5
            by_cases c6 : x5_1 < (l0.length : Int)
            · rw [if_pos c6] at H
              have c6b0 : decide (x5_1 < (l0.length : Int)) = true := decide_eq_true c6
              clear c6
              by_cases c7 : (rd l0 x5_1) = (rd l1 x5_1)
              · rw [if_pos c7] at H
                have c7b0 : ((rd l0 x5_1) == (rd l1 x5_1)) = true := beq_iff_eq.mpr c7
                have c7b1 : ((rd l0 x5_1) != (rd l1 x5_1)) = false := bne_eq_false_iff_eq.mpr c7
                clear c7
                have H' := Aside0.mk H
                clear H
                have p395 : 0 ≤ (x5_1 : Int) := of_decide_eq_true (by first | (with_reducible assumption) | assumption)
                have q395 : x5_1 < (l0.length : Int) := of_decide_eq_true (by first | (with_reducible assumption) | assumption)
                obtain ⟨ad395, e395, hx395_0⟩ := Kd.at_int HR0.out x5_1 p395 q395
                cases e395
                replace p395 := eq_true p395
                replace q395 := eq_true q395
                have p396 : 0 ≤ (x5_1 : Int) := of_decide_eq_true (by first | (with_reducible assumption) | assumption)
                have q396 : x5_1 < (l1.length : Int) := of_decide_eq_true (by first | (with_reducible assumption) | assumption)
                obtain ⟨ad396, e396, hx396_0⟩ := Kd.at_int HR1.out x5_1 p396 q396
                cases e396
                replace p396 := eq_true p396
                replace q396 := eq_true q396
                go_wp2
                repeat (go_quiet (fail); try go_wp2)
                go_roundg k1
                case measure => have := HK1.out; omega
                case rel => exact ⟨(wrap64 (x5_1 + 1)), (by first | rfl | (simp; done) | (simp [*]; done)), H', ⟨by have := HK1.out; omega⟩, by repeat (first | exact Drawn0.refl _ | apply Drawn0.step)⟩
              · rw [if_neg c7] at H
                have c7b0 : ((rd l0 x5_1) == (rd l1 x5_1)) = false := beq_eq_false_iff_ne.mpr c7
                have c7b1 : ((rd l0 x5_1) != (rd l1 x5_1)) = true := bne_iff_ne.mpr c7
                obtain rfl := Option.some.inj H
                have p395 : 0 ≤ (x5_1 : Int) := of_decide_eq_true (by first | (with_reducible assumption) | assumption)
                have q395 : x5_1 < (l0.length : Int) := of_decide_eq_true (by first | (with_reducible assumption) | assumption)
                obtain ⟨ad395, e395, hx395_0⟩ := Kd.at_int HR0.out x5_1 p395 q395
                cases e395
                replace p395 := eq_true p395
                replace q395 := eq_true q395
                have p396 : 0 ≤ (x5_1 : Int) := of_decide_eq_true (by first | (with_reducible assumption) | assumption)
                have q396 : x5_1 < (l1.length : Int) := of_decide_eq_true (by first | (with_reducible assumption) | assumption)
                obtain ⟨ad396, e396, hx396_0⟩ := Kd.at_int HR1.out x5_1 p396 q396
                cases e396
                replace p396 := eq_true p396
                replace q396 := eq_true q396
                go_wp2
                repeat (go_quiet (fail); try go_wp2)
                go_ret
                exact ⟨by first | rfl | (simp; done) | (simp [*]; done), by repeat (first | exact Drawn0.refl _ | apply Drawn0.step)⟩
            · rw [if_neg c6] at H
              exact absurd H (by simp)
          · rw [if_neg c5] at H
            exact absurd H (by simp)
        · rw [if_neg c4] at H
          have c4b0 : decide (x5_1 < (l1.length : Int)) = false := decide_eq_false c4
          clear c4
          have H' := Aside0.mk H
          clear H
          go_wp2
          repeat (go_quiet (fail); try go_wp2)
          go_loopg [6] k1 (fun kq v6 w' => ∃ (x6_2 : Int), v6 = .int .i64 x6_2 ∧ Aside0 (stoaref01_Intact.l1 kq l0 l1 x6_2 = some r) ∧ Aside0 (kq ≤ k1) ∧ Drawn0 w w')
          case atStart => exact ⟨(0), (by first | rfl | (simp; done) | (simp [*]; done)), H', ⟨Nat.le_refl _⟩, by repeat (first | exact Drawn0.refl _ | apply Drawn0.step)⟩
          case round =>
            clear H'
            try clear c1
            try clear p2
            try clear c3
            try clear c3b0
            try clear c3b1
            try clear p3
            try clear q3
            try clear hx3
            try clear c4
            try clear c4b0
            try clear c5
            try clear c5b0
            try clear c6
            try clear c6b0
            try clear p6
            try clear c7
            try clear c7b0
            try clear c7b1
            try clear hx395_0
            try clear hx396_0
            try clear p2
            try clear p395
            try clear p396
            try clear q395
            try clear q396
            obtain ⟨x6_2, rfl, HA, HK2, ⟨m2, rfl⟩⟩ := hrel
            cases gk with
            | zero => exact absurd HA.out (by simp [stoaref01_Intact.l1])
            | succ k2 =>
              have H := HA.out
              clear HA
              simp only [stoaref01_Intact.l1] at H
              by_cases c8 : x6_2 < 64
              · rw [if_pos c8] at H
                have c8b0 : decide (x6_2 < 64) = true := decide_eq_true c8
                clear c8
                obtain ⟨ji9, hji9⟩ : ∃ j_ : Int, (wrap64 ((l1.length : Int) + x6_2)) = j_ := ⟨_, rfl⟩
                replace H : (if 0 ≤ (ji9) then (if (ji9) < (l0.length : Int) then (if (rd l0 (ji9)) = ((wrap64 (192 + (Int.tmod x6_2 7))) % 256) then (stoaref01_Intact.l1 k2 l0 l1 (wrap64 (x6_2 + 1))) else (some false)) else (none)) else (none)) = some r := by first | (rw [hji9] at H; exact H) | (simp only [hji9] at H ⊢; exact H)
                have hji9w : (IntKind.i64.wrap ((l1.length : Int) + x6_2)) = ji9 := (i64_w _).trans hji9
                by_cases c10 : 0 ≤ (ji9)
                · rw [if_pos c10] at H
                  have c10b0 : decide (0 ≤ (ji9)) = true := decide_eq_true c10
                  clear c10
                  by_cases c11 : (ji9) < (l0.length : Int)
                  · rw [if_pos c11] at H
                    have c11b0 : decide ((ji9) < (l0.length : Int)) = true := decide_eq_true c11
                    clear c11
                    by_cases c12 : (rd l0 (ji9)) = ((wrap64 (192 + (Int.tmod x6_2 7))) % 256)
                    · rw [if_pos c12] at H
                      have c12b0 : ((rd l0 (ji9)) == ((wrap64 (192 + (Int.tmod x6_2 7))) % 256)) = true := beq_iff_eq.mpr c12
                      have c12b1 : ((rd l0 (ji9)) != ((wrap64 (192 + (Int.tmod x6_2 7))) % 256)) = false := bne_eq_false_iff_eq.mpr c12
                      clear c12
                      have H' := Aside0.mk H
                      clear H
                      have p397 : 0 ≤ ((ji9) : Int) := of_decide_eq_true (by first | (with_reducible assumption) | assumption)
                      have q397 : (ji9) < (l0.length : Int) := of_decide_eq_true (by first | (with_reducible assumption) | assumption)
                      obtain ⟨ad397, e397, hx397_0⟩ := Kd.at_int HR0.out (ji9) p397 q397
                      cases e397
                      replace p397 := eq_true p397
                      replace q397 := eq_true q397
                      go_wp2
                      repeat (go_quiet (fail); try go_wp2)
                      go_roundg k2
                      case measure => have := HK1.out; have := HK2.out; omega
                      case rel => exact ⟨(wrap64 (x6_2 + 1)), (by first | rfl | (simp; done) | (simp [*]; done)), H', ⟨by have := HK1.out; have := HK2.out; omega⟩, by repeat (first | exact Drawn0.refl _ | apply Drawn0.step)⟩
                    · rw [if_neg c12] at H
                      have c12b0 : ((rd l0 (ji9)) == ((wrap64 (192 + (Int.tmod x6_2 7))) % 256)) = false := beq_eq_false_iff_ne.mpr c12
                      have c12b1 : ((rd l0 (ji9)) != ((wrap64 (192 + (Int.tmod x6_2 7))) % 256)) = true := bne_iff_ne.mpr c12
                      obtain rfl := Option.some.inj H
                      have p397 : 0 ≤ ((ji9) : Int) := of_decide_eq_true (by first | (with_reducible assumption) | assumption)
                      have q397 : (ji9) < (l0.length : Int) := of_decide_eq_true (by first | (with_reducible assumption) | assumption)
                      obtain ⟨ad397, e397, hx397_0⟩ := Kd.at_int HR0.out (ji9) p397 q397
                      cases e397
                      replace p397 := eq_true p397
                      replace q397 := eq_true q397
                      go_wp2
                      repeat (go_quiet (fail); try go_wp2)
                      go_ret
                      exact ⟨by first | rfl | (simp; done) | (simp only [← hji9] <;> (first | rfl | simp)) | (simp [*]; done), by repeat (first | exact Drawn0.refl _ | apply Drawn0.step)⟩
                  · rw [if_neg c11] at H
                    exact absurd H (by simp)
                · rw [if_neg c10] at H
                  exact absurd H (by simp)
              · rw [if_neg c8] at H
                have c8b0 : decide (x6_2 < 64) = false := decide_eq_false c8
                clear c8
                obtain rfl := Option.some.inj H
                go_wp2
                repeat (go_quiet (fail); try go_wp2)
                go_ret
                exact ⟨by first | rfl | (simp; done) | (simp [*]; done), by repeat (first | exact Drawn0.refl _ | apply Drawn0.step)⟩
  · rw [if_neg c3] at H
    have c3b0 : ((l0.length : Int) == (wrap64 ((l1.length : Int) + 64))) = false := beq_eq_false_iff_ne.mpr c3
    have c3b1 : ((l0.length : Int) != (wrap64 ((l1.length : Int) + 64))) = true := bne_iff_ne.mpr c3
    obtain rfl := Option.some.inj H
    go_enter Try.func44, Try.ntmps44
    go_wp2
    repeat (go_quiet (fail); try go_wp2)
    go_ret
    exact ⟨by first | rfl | (simp; done) | (simp [*]; done), by repeat (first | exact Drawn0.refl _ | apply Drawn0.step)⟩

-- NOT PRINTED: function 9 (stoalaw10_DictDecodes)

end Go.Proofs.Ytiijkehiphkkiaa.PD
