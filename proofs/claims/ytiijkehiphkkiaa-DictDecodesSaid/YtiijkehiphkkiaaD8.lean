import Derived.Test.YtiijkehiphkkiaaD0
import Derived.Test.YtiijkehiphkkiaaD5
namespace Go.Proofs.Ytiijkehiphkkiaa.PD
open Go.RowKit Go.Proofs.YtiijkehiphkkiaaW.PrintWords Go.Proofs.YtiijkehiphkkiaaW.PrintLast Go.Proofs.YtiijkehiphkkiaaW.PrintMore
attribute [local go_sem] max2_int min2_int max_two min_two max_three min_three max_four min_four   -- for this text's walks alone
set_option linter.unusedVariables false
set_option linter.unusedSimpArgs false



/-! ### stoaref02_Get: function 83 -/
mutual
def stoaref02_Get.j0 : Nat → List Int → Int → Bool → Option (Int × Int × Int)
  | 0, _, _, _ => none
  | k + 1, x0, x1, x18 => if x18 = true then (some (0, 0, 1)) else (stoaref02_Get.l0 k x0 x1 0 1 x1)
def stoaref02_Get.l0 : Nat → List Int → Int → Int → Int → Int → Option (Int × Int × Int)
  | 0, _, _, _, _, _ => none
  | k + 1, x0, x1, x7, x8, x9 => if x9 < (x0.length : Int) then (if 0 ≤ x9 then (if (wrap64 (x9 - x1)) = 9 then (stoaref02_Get.j2 k x0 x1 x7 x8 x9 (IntKind.u64.wrap (rd x0 x9)) (decide ((IntKind.u64.wrap (rd x0 x9)) > 1))) else (stoaref02_Get.j2 k x0 x1 x7 x8 x9 (IntKind.u64.wrap (rd x0 x9)) false)) else (none)) else (some (0, 0, 2))
def stoaref02_Get.j2 : Nat → List Int → Int → Int → Int → Int → Int → Bool → Option (Int × Int × Int)
  | 0, _, _, _, _, _, _, _ => none
  | k + 1, x0, x1, x7, x8, x9, x10, x38 => if x38 = true then (some (0, 0, 20)) else (if x10 < 128 then (if x10 = 0 then (if x9 > x1 then (some (0, 0, 5)) else (some (IntKind.u64.wrap (x7 + (IntKind.u64.wrap ((Int.tmod x10 128) * x8))), wrap64 (x9 + 1), 0))) else (some (IntKind.u64.wrap (x7 + (IntKind.u64.wrap ((Int.tmod x10 128) * x8))), wrap64 (x9 + 1), 0))) else (stoaref02_Get.l0 k x0 x1 (IntKind.u64.wrap (x7 + (IntKind.u64.wrap ((Int.tmod x10 128) * x8)))) (IntKind.u64.wrap (x8 * 128)) (wrap64 (x9 + 1))))
end
def stoaref02_Get.f (k : Nat) (l0 : List Int) (a1 : Int) : Option (Int × Int × Int) := if a1 < 0 then (stoaref02_Get.j0 k l0 a1 true) else (stoaref02_Get.j0 k l0 a1 (decide (a1 > (l0.length : Int))))
theorem stoaref02_Get.mono_l : ∀ k, (∀ y0 y1 y2, LeO (stoaref02_Get.j0 k y0 y1 y2) (stoaref02_Get.j0 (k + 1) y0 y1 y2)) ∧ (∀ y0 y1 y2 y3 y4, LeO (stoaref02_Get.l0 k y0 y1 y2 y3 y4) (stoaref02_Get.l0 (k + 1) y0 y1 y2 y3 y4)) ∧ (∀ y0 y1 y2 y3 y4 y5 y6, LeO (stoaref02_Get.j2 k y0 y1 y2 y3 y4 y5 y6) (stoaref02_Get.j2 (k + 1) y0 y1 y2 y3 y4 y5 y6))
  | 0 => ⟨fun _ _ _ r h => by simp [stoaref02_Get.j0] at h, fun _ _ _ _ _ r h => by simp [stoaref02_Get.l0] at h, fun _ _ _ _ _ _ _ r h => by simp [stoaref02_Get.j2] at h⟩
  | k + 1 => by
    obtain ⟨ih0, ih1, ih2⟩ := stoaref02_Get.mono_l k
    refine ⟨?_, ?_, ?_⟩
    · intro y0 y1 y2
      unfold stoaref02_Get.j0
      repeat' first
      | (with_reducible exact ih0 _ _ _)
      | (with_reducible exact ih1 _ _ _ _ _)
      | (with_reducible exact ih2 _ _ _ _ _ _ _)
      | (with_reducible exact LeO.refl _)
      | (with_reducible exact LeO.none _)
      | (with_reducible refine LeO.ite ?_ ?_)
      | (with_reducible refine LeO.bind ?_ (fun _ => ?_))
      | exact ih0 _ _ _
      | exact ih1 _ _ _ _ _
      | exact ih2 _ _ _ _ _ _ _
      | exact LeO.none _
      | refine LeO.ite ?_ ?_
      | refine LeO.bind ?_ (fun _ => ?_)
    · intro y0 y1 y2 y3 y4
      unfold stoaref02_Get.l0
      repeat' first
      | (with_reducible exact ih0 _ _ _)
      | (with_reducible exact ih1 _ _ _ _ _)
      | (with_reducible exact ih2 _ _ _ _ _ _ _)
      | (with_reducible exact LeO.refl _)
      | (with_reducible exact LeO.none _)
      | (with_reducible refine LeO.ite ?_ ?_)
      | (with_reducible refine LeO.bind ?_ (fun _ => ?_))
      | exact ih0 _ _ _
      | exact ih1 _ _ _ _ _
      | exact ih2 _ _ _ _ _ _ _
      | exact LeO.none _
      | refine LeO.ite ?_ ?_
      | refine LeO.bind ?_ (fun _ => ?_)
    · intro y0 y1 y2 y3 y4 y5 y6
      unfold stoaref02_Get.j2
      repeat' first
      | (with_reducible exact ih0 _ _ _)
      | (with_reducible exact ih1 _ _ _ _ _)
      | (with_reducible exact ih2 _ _ _ _ _ _ _)
      | (with_reducible exact LeO.refl _)
      | (with_reducible exact LeO.none _)
      | (with_reducible refine LeO.ite ?_ ?_)
      | (with_reducible refine LeO.bind ?_ (fun _ => ?_))
      | exact ih0 _ _ _
      | exact ih1 _ _ _ _ _
      | exact ih2 _ _ _ _ _ _ _
      | exact LeO.none _
      | refine LeO.ite ?_ ?_
      | refine LeO.bind ?_ (fun _ => ?_)
theorem stoaref02_Get.mono : ∀ a0 a1 k, LeO (stoaref02_Get.f k a0 a1) (stoaref02_Get.f (k + 1) a0 a1) := by
  intro a0 a1 k
  obtain ⟨ih0, ih1, ih2⟩ := stoaref02_Get.mono_l k
  unfold stoaref02_Get.f
  repeat' first
      | (with_reducible exact ih0 _ _ _)
      | (with_reducible exact ih1 _ _ _ _ _)
      | (with_reducible exact ih2 _ _ _ _ _ _ _)
      | (with_reducible exact LeO.refl _)
      | (with_reducible exact LeO.none _)
      | (with_reducible refine LeO.ite ?_ ?_)
      | (with_reducible refine LeO.bind ?_ (fun _ => ?_))
      | exact ih0 _ _ _
      | exact ih1 _ _ _ _ _
      | exact ih2 _ _ _ _ _ _ _
      | exact LeO.none _
      | refine LeO.ite ?_ ?_
      | refine LeO.bind ?_ (fun _ => ?_)
set_option maxHeartbeats 8000000 in
set_option maxRecDepth 100000 in
theorem stoaref02_Get.calls (k : Nat) (A0 : Option Addr) (c0 : Nat) (l0 : List Int) (a1 : Int) (r1 : Int) (r2 : Int) (r3 : Int) (w : World) (hr0 : Kd.C (Kd.int .u8) w A0 l0.length l0) (hc0 : l0.length ≤ c0) (h : stoaref02_Get.f k l0 a1 = some (r1, r2, r3)) :
    Calls Try.prog 83 #[.slice A0 l0.length c0, .int .i64 a1] w fun e w' => e = .returned (.tuple #[.int .u64 r1, .int .i64 r2, .int .i64 r3]) ∧ Drawn0 w w' := by
  have HR0 := Aside0.mk hr0
  have HC0 := Aside0.mk hc0
  clear hr0 hc0
  have H : (if a1 < 0 then (stoaref02_Get.j0 k l0 a1 true) else (stoaref02_Get.j0 k l0 a1 (decide (a1 > (l0.length : Int))))) = some (r1, r2, r3) := h
  clear h
  have HC3 := Aside0.mk H
  clear H
  go_enter Try.func83, Try.ntmps83
  go_upto_region 1 with (fail)
  go_cut [18] (fun v18 wc => ∃ (kq : Nat) (x18_2 : Bool), v18 = .bool x18_2 ∧ Aside0 (stoaref02_Get.j0 kq l0 a1 x18_2 = some (r1, r2, r3)) ∧ Aside0 (kq ≤ k) ∧ Drawn0 w wc)
  case first =>
    have H := HC3.out
    clear HC3
    by_cases c4 : a1 < 0
    · rw [if_pos c4] at H
      have c4b0 : decide (a1 < 0) = true := decide_eq_true c4
      clear c4
      (first | rw [c4b0] | (simp only [i64_w, i32_w]; rw [c4b0]) | skip)
      have H' := Aside0.mk H
      clear H
      go_wp2
      go_meet
      case rel => exact ⟨_, (true), (by first | rfl | (simp; done) | (simp [*]; done)), H', ⟨by first | omega | exact Nat.le_refl _⟩, by repeat (first | exact Drawn0.refl _ | apply Drawn0.step)⟩
    · rw [if_neg c4] at H
      have c4b0 : decide (a1 < 0) = false := decide_eq_false c4
      clear c4
      (first | rw [c4b0] | (simp only [i64_w, i32_w]; rw [c4b0]) | skip)
      have H' := Aside0.mk H
      clear H
      go_wp2
      go_meet
      case rel => exact ⟨_, (decide (a1 > (l0.length : Int))), (by first | rfl | (simp; done) | (simp [*]; done)), H', ⟨by first | omega | exact Nat.le_refl _⟩, by repeat (first | exact Drawn0.refl _ | apply Drawn0.step)⟩
  case rest =>
    clear HC3
    try clear p2
    try clear c4
    try clear c4b0
    obtain ⟨kq, x18_2, rfl, HA, HJ2, ⟨mc2, rfl⟩⟩ := hcut
    cases kq with
    | zero => exact absurd HA.out (by simp [stoaref02_Get.j0])
    | succ kj2 =>
      have H := HA.out
      clear HA
      simp only [stoaref02_Get.j0] at H
      by_cases c5 : x18_2 = true
      · subst c5
        have H1 : (some (0, 0, 1)) = some (r1, r2, r3) := by rw [if_pos rfl] at H; exact H
        clear H
        have H := H1
        clear H1
        simp only [Option.some.injEq, Prod.mk.injEq] at H
        obtain ⟨rfl, rfl, rfl⟩ := H
        go_wp2
        go_ret3
        exact ⟨by first | rfl | (simp; done) | (simp [*]; done), by repeat (first | exact Drawn0.refl _ | apply Drawn0.step)⟩
      · replace c5 := Bool.eq_false_iff.mpr c5
        subst c5
        have H1 : (stoaref02_Get.l0 kj2 l0 a1 0 1 a1) = some (r1, r2, r3) := by rw [if_neg (show ¬ (false = true) by decide)] at H; exact H
        clear H
        have H := H1
        clear H1
        have H' := Aside0.mk H
        clear H
        go_wp2
        go_loopg [7, 8, 9] kj2 (fun kq v7 v8 v9 w' => ∃ (x7_2 : Int) (x8_2 : Int) (x9_2 : Int), v7 = .int .u64 x7_2 ∧ v8 = .int .u64 x8_2 ∧ v9 = .int .i64 x9_2 ∧ Aside0 (stoaref02_Get.l0 kq l0 a1 x7_2 x8_2 x9_2 = some (r1, r2, r3)) ∧ Aside0 (kq ≤ kj2) ∧ Drawn0 w w')
        case atStart => exact ⟨(0), (1), (a1), (by first | rfl | (simp; done) | (simp [*]; done)), (by first | rfl | (simp; done) | (simp [*]; done)), (by first | rfl | (simp; done) | (simp [*]; done)), H', ⟨Nat.le_refl _⟩, by repeat (first | exact Drawn0.refl _ | apply Drawn0.step)⟩
        case round =>
          clear H'
          try clear c2
          try clear p2
          try clear c4
          try clear c4b0
          try clear c5
          try clear p2
          obtain ⟨x7_2, x8_2, x9_2, rfl, rfl, rfl, HA, HK2, ⟨m2, rfl⟩⟩ := hrel
          cases gk with
          | zero => exact absurd HA.out (by simp [stoaref02_Get.l0])
          | succ k2 =>
            have H := HA.out
            clear HA
            simp only [stoaref02_Get.l0] at H
            by_cases c6 : x9_2 < (l0.length : Int)
            · rw [if_pos c6] at H
              have c6b0 : decide (x9_2 < (l0.length : Int)) = true := decide_eq_true c6
              clear c6
              by_cases c7 : 0 ≤ x9_2
              · rw [if_pos c7] at H
                have c7b0 : decide (0 ≤ x9_2) = true := decide_eq_true c7
                clear c7
                have HC8 := Aside0.mk H
                clear H
                have p315 : 0 ≤ (x9_2 : Int) := of_decide_eq_true (by first | (with_reducible assumption) | assumption)
                have q315 : x9_2 < (l0.length : Int) := of_decide_eq_true (by first | (with_reducible assumption) | assumption)
                obtain ⟨ad315, e315, hx315_0⟩ := Kd.at_int HR0.out x9_2 p315 q315
                cases e315
                replace p315 := eq_true p315
                replace q315 := eq_true q315
                go_upto_region 8 with (fail)
                go_cut [38] (fun v38 wc => ∃ (kq : Nat) (x38_7 : Bool), v38 = .bool x38_7 ∧ Aside0 (stoaref02_Get.j2 kq l0 a1 x7_2 x8_2 x9_2 (IntKind.u64.wrap (rd l0 x9_2)) x38_7 = some (r1, r2, r3)) ∧ Aside0 (kq ≤ k2) ∧ Drawn0 w wc)
                case first =>
                  have H := HC8.out
                  clear HC8
                  by_cases c9 : (wrap64 (x9_2 - a1)) = 9
                  · rw [if_pos c9] at H
                    have c9b0 : ((wrap64 (x9_2 - a1)) == 9) = true := beq_iff_eq.mpr c9
                    have c9b1 : ((wrap64 (x9_2 - a1)) != 9) = false := bne_eq_false_iff_eq.mpr c9
                    clear c9
                    (first | rw [c9b0] | (simp only [i64_w, i32_w]; rw [c9b0]) | skip)
                    have H' := Aside0.mk H
                    clear H
                    go_wp2
                    go_meet
                    case rel => exact ⟨_, (decide ((IntKind.u64.wrap (rd l0 x9_2)) > 1)), (by first | rfl | (simp; done) | (simp [*]; done)), H', ⟨by have := HJ2.out; have := HK2.out; first | omega | exact Nat.le_refl _⟩, by repeat (first | exact Drawn0.refl _ | apply Drawn0.step)⟩
                  · rw [if_neg c9] at H
                    have c9b0 : ((wrap64 (x9_2 - a1)) == 9) = false := beq_eq_false_iff_ne.mpr c9
                    have c9b1 : ((wrap64 (x9_2 - a1)) != 9) = true := bne_iff_ne.mpr c9
                    (first | rw [c9b0] | (simp only [i64_w, i32_w]; rw [c9b0]) | skip)
                    have H' := Aside0.mk H
                    clear H
                    go_wp2
                    go_meet
                    case rel => exact ⟨_, (false), (by first | rfl | (simp; done) | (simp [*]; done)), H', ⟨by have := HJ2.out; have := HK2.out; first | omega | exact Nat.le_refl _⟩, by repeat (first | exact Drawn0.refl _ | apply Drawn0.step)⟩
                case rest =>
                  clear HC8
                  try clear c2
                  try clear p2
                  try clear p3
                  try clear q3
                  try clear hx3
                  try clear c4
                  try clear c4b0
                  try clear c5
                  try clear c6
                  try clear c6b0
                  try clear p6
                  try clear c7
                  try clear c7b0
                  try clear c8
                  try clear c9
                  try clear c9b0
                  try clear c9b1
                  try clear hx315_0
                  try clear p2
                  try clear p315
                  try clear q315
                  obtain ⟨kq, x38_7, rfl, HA, HJ7, ⟨mc7, rfl⟩⟩ := hcut
                  cases kq with
                  | zero => exact absurd HA.out (by simp [stoaref02_Get.j2])
                  | succ kj7 =>
                    have H := HA.out
                    clear HA
                    simp only [stoaref02_Get.j2] at H
                    by_cases c10 : x38_7 = true
                    · subst c10
                      have H1 : (some (0, 0, 20)) = some (r1, r2, r3) := by rw [if_pos rfl] at H; exact H
                      clear H
                      have H := H1
                      clear H1
                      simp only [Option.some.injEq, Prod.mk.injEq] at H
                      obtain ⟨rfl, rfl, rfl⟩ := H
                      go_wp2
                      go_ret3
                      exact ⟨by first | rfl | (simp; done) | (simp [*]; done), by repeat (first | exact Drawn0.refl _ | apply Drawn0.step)⟩
                    · replace c10 := Bool.eq_false_iff.mpr c10
                      subst c10
                      have H1 : (if (IntKind.u64.wrap (rd l0 x9_2)) < 128 then (if (IntKind.u64.wrap (rd l0 x9_2)) = 0 then (if x9_2 > a1 then (some (0, 0, 5)) else (some (IntKind.u64.wrap (x7_2 + (IntKind.u64.wrap ((Int.tmod (IntKind.u64.wrap (rd l0 x9_2)) 128) * x8_2))), wrap64 (x9_2 + 1), 0))) else (some (IntKind.u64.wrap (x7_2 + (IntKind.u64.wrap ((Int.tmod (IntKind.u64.wrap (rd l0 x9_2)) 128) * x8_2))), wrap64 (x9_2 + 1), 0))) else (stoaref02_Get.l0 kj7 l0 a1 (IntKind.u64.wrap (x7_2 + (IntKind.u64.wrap ((Int.tmod (IntKind.u64.wrap (rd l0 x9_2)) 128) * x8_2)))) (IntKind.u64.wrap (x8_2 * 128)) (wrap64 (x9_2 + 1)))) = some (r1, r2, r3) := by rw [if_neg (show ¬ (false = true) by decide)] at H; exact H
                      clear H
                      have H := H1
                      clear H1
                      by_cases c11 : (IntKind.u64.wrap (rd l0 x9_2)) < 128
                      · rw [if_pos c11] at H
                        have c11b0 : decide ((IntKind.u64.wrap (rd l0 x9_2)) < 128) = true := decide_eq_true c11
                        clear c11
                        by_cases c12 : (IntKind.u64.wrap (rd l0 x9_2)) = 0
                        · rw [if_pos c12] at H
                          have c12b0 : ((IntKind.u64.wrap (rd l0 x9_2)) == 0) = true := beq_iff_eq.mpr c12
                          have c12b1 : ((IntKind.u64.wrap (rd l0 x9_2)) != 0) = false := bne_eq_false_iff_eq.mpr c12
                          clear c12
                          by_cases c13 : x9_2 > a1
                          · rw [if_pos c13] at H
                            have c13b0 : decide (a1 < x9_2) = true := decide_eq_true c13
                            clear c13
                            simp only [Option.some.injEq, Prod.mk.injEq] at H
                            obtain ⟨rfl, rfl, rfl⟩ := H
                            go_wp2
                            go_ret3
                            exact ⟨by first | rfl | (simp; done) | (simp [*]; done), by repeat (first | exact Drawn0.refl _ | apply Drawn0.step)⟩
                          · rw [if_neg c13] at H
                            have c13b0 : decide (a1 < x9_2) = false := decide_eq_false c13
                            clear c13
                            simp only [Option.some.injEq, Prod.mk.injEq] at H
                            obtain ⟨rfl, rfl, rfl⟩ := H
                            go_wp2
                            go_ret3
                            exact ⟨by first | rfl | (simp; done) | (simp [*]; done), by repeat (first | exact Drawn0.refl _ | apply Drawn0.step)⟩
                        · rw [if_neg c12] at H
                          have c12b0 : ((IntKind.u64.wrap (rd l0 x9_2)) == 0) = false := beq_eq_false_iff_ne.mpr c12
                          have c12b1 : ((IntKind.u64.wrap (rd l0 x9_2)) != 0) = true := bne_iff_ne.mpr c12
                          simp only [Option.some.injEq, Prod.mk.injEq] at H
                          obtain ⟨rfl, rfl, rfl⟩ := H
                          go_wp2
                          go_ret3
                          exact ⟨by first | rfl | (simp; done) | (simp [*]; done), by repeat (first | exact Drawn0.refl _ | apply Drawn0.step)⟩
                      · rw [if_neg c11] at H
                        have c11b0 : decide ((IntKind.u64.wrap (rd l0 x9_2)) < 128) = false := decide_eq_false c11
                        clear c11
                        have H' := Aside0.mk H
                        clear H
                        go_wp2
                        go_roundg kj7
                        case measure => have := HJ2.out; have := HK2.out; have := HJ7.out; omega
                        case rel => exact ⟨(IntKind.u64.wrap (x7_2 + (IntKind.u64.wrap ((Int.tmod (IntKind.u64.wrap (rd l0 x9_2)) 128) * x8_2)))), (IntKind.u64.wrap (x8_2 * 128)), (wrap64 (x9_2 + 1)), (by first | rfl | (simp; done) | (simp [*]; done)), (by first | rfl | (simp; done) | (simp [*]; done)), (by first | rfl | (simp; done) | (simp [*]; done)), H', ⟨by have := HJ2.out; have := HK2.out; have := HJ7.out; omega⟩, by repeat (first | exact Drawn0.refl _ | apply Drawn0.step)⟩
              · rw [if_neg c7] at H
                exact absurd H (by simp)
            · rw [if_neg c6] at H
              have c6b0 : decide (x9_2 < (l0.length : Int)) = false := decide_eq_false c6
              clear c6
              simp only [Option.some.injEq, Prod.mk.injEq] at H
              obtain ⟨rfl, rfl, rfl⟩ := H
              go_wp2
              go_ret3
              exact ⟨by first | rfl | (simp; done) | (simp [*]; done), by repeat (first | exact Drawn0.refl _ | apply Drawn0.step)⟩

/-! ### stoaref01_Piece: function 86 -/
mutual
def stoaref01_Piece.j0 : Nat → List Int → Int → Int → List Int → Option (List Int)
  | 0, _, _, _, _ => none
  | k + 1, x0, x1, x2, x7 => stoaref01_Piece.l0 k x0 x2 x7 x1
def stoaref01_Piece.l0 : Nat → List Int → Int → List Int → Int → Option (List Int)
  | 0, _, _, _, _ => none
  | k + 1, x0, x2, x7, x8 => if x8 < (x0.length : Int) then (if x8 < x2 then (if 0 ≤ x8 then (if x7.length < 140737488355328 then (stoaref01_Piece.l0 k x0 x2 (x7 ++ [rd x0 x8]) (wrap64 (x8 + 1))) else (none)) else (none)) else (some x7)) else (some x7)
end
def stoaref01_Piece.f (k : Nat) (l0 : List Int) (a1 : Int) (a2 : Int) : Option (List Int) := (some (([] : List Int) : List Int)).bind fun y316 => (if a1 < 0 then (stoaref01_Piece.j0 k l0 0 a2 y316) else (stoaref01_Piece.j0 k l0 a1 a2 y316))
theorem stoaref01_Piece.mono_l : ∀ k, (∀ y0 y1 y2 y3, LeO (stoaref01_Piece.j0 k y0 y1 y2 y3) (stoaref01_Piece.j0 (k + 1) y0 y1 y2 y3)) ∧ (∀ y0 y1 y2 y3, LeO (stoaref01_Piece.l0 k y0 y1 y2 y3) (stoaref01_Piece.l0 (k + 1) y0 y1 y2 y3))
  | 0 => ⟨fun _ _ _ _ r h => by simp [stoaref01_Piece.j0] at h, fun _ _ _ _ r h => by simp [stoaref01_Piece.l0] at h⟩
  | k + 1 => by
    obtain ⟨ih0, ih1⟩ := stoaref01_Piece.mono_l k
    refine ⟨?_, ?_⟩
    · intro y0 y1 y2 y3
      unfold stoaref01_Piece.j0
      repeat' first
      | (with_reducible exact ih0 _ _ _ _)
      | (with_reducible exact ih1 _ _ _ _)
      | (with_reducible exact LeO.refl _)
      | (with_reducible exact LeO.none _)
      | (with_reducible refine LeO.ite ?_ ?_)
      | (with_reducible refine LeO.bind ?_ (fun _ => ?_))
      | exact ih0 _ _ _ _
      | exact ih1 _ _ _ _
      | exact LeO.none _
      | refine LeO.ite ?_ ?_
      | refine LeO.bind ?_ (fun _ => ?_)
    · intro y0 y1 y2 y3
      unfold stoaref01_Piece.l0
      repeat' first
      | (with_reducible exact ih0 _ _ _ _)
      | (with_reducible exact ih1 _ _ _ _)
      | (with_reducible exact LeO.refl _)
      | (with_reducible exact LeO.none _)
      | (with_reducible refine LeO.ite ?_ ?_)
      | (with_reducible refine LeO.bind ?_ (fun _ => ?_))
      | exact ih0 _ _ _ _
      | exact ih1 _ _ _ _
      | exact LeO.none _
      | refine LeO.ite ?_ ?_
      | refine LeO.bind ?_ (fun _ => ?_)
theorem stoaref01_Piece.mono : ∀ a0 a1 a2 k, LeO (stoaref01_Piece.f k a0 a1 a2) (stoaref01_Piece.f (k + 1) a0 a1 a2) := by
  intro a0 a1 a2 k
  obtain ⟨ih0, ih1⟩ := stoaref01_Piece.mono_l k
  unfold stoaref01_Piece.f
  repeat' first
      | (with_reducible exact ih0 _ _ _ _)
      | (with_reducible exact ih1 _ _ _ _)
      | (with_reducible exact LeO.refl _)
      | (with_reducible exact LeO.none _)
      | (with_reducible refine LeO.ite ?_ ?_)
      | (with_reducible refine LeO.bind ?_ (fun _ => ?_))
      | exact ih0 _ _ _ _
      | exact ih1 _ _ _ _
      | exact LeO.none _
      | refine LeO.ite ?_ ?_
      | refine LeO.bind ?_ (fun _ => ?_)
set_option maxHeartbeats 8000000 in
set_option maxRecDepth 100000 in
theorem stoaref01_Piece.calls (k : Nat) (A0 : Option Addr) (c0 : Nat) (l0 : List Int) (a1 : Int) (a2 : Int) (r : List Int) (w : World) (hr0 : Kd.C (Kd.int .u8) w A0 l0.length l0) (hc0 : l0.length ≤ c0) (h : stoaref01_Piece.f k l0 a1 a2 = some r) :
    Calls Try.prog 86 #[.slice A0 l0.length c0, .int .i64 a1, .int .i64 a2] w fun e w' => ∃ v0_ : Value, e = .returned (v0_) ∧ Kd.R (Kd.int .u8) 5 w' w.heap.size (fun _ => True) v0_ r ∧ Below w.heap.size w w' := by
  have HR0 := Aside0.mk hr0
  have HC0 := Aside0.mk hc0
  clear hr0 hc0
  have HB := Aside0.mk (Below.refl w.heap.size w)
  have H : ((some (([] : List Int) : List Int)).bind fun y316 => (if a1 < 0 then (stoaref01_Piece.j0 k l0 0 a2 y316) else (stoaref01_Piece.j0 k l0 a1 a2 y316))) = some r := h
  clear h
  obtain ⟨y316, hy316⟩ : ∃ y_ : List Int, y_ = (([] : List Int)) := ⟨_, rfl⟩
  replace H : (if a1 < 0 then (stoaref01_Piece.j0 k l0 0 a2 y316) else (stoaref01_Piece.j0 k l0 a1 a2 y316)) = some r := by first | (rw [hy316]; with_reducible exact H) | (have H2_ := (Option.bind_some _ _).symm.trans H; rw [hy316]; with_reducible exact H2_) | (have H2_ := (Option.bind_some _ _).symm.trans H; with_reducible exact H2_) | with_reducible exact H | (rw [hy316]; exact H) | exact H
  have Ny316 := Aside0.mk hy316
  clear hy316
  have HC4 := Aside0.mk H
  clear H
  go_enter Try.func86, Try.ntmps86
  go_upto_if 11 with (first | ((with_reducible refine gate_dst (N := 9) rfl ?_); refine Kd.R_lit (Kd.int .u8) _ 5 ?hg (N := 9) ?hd (xs := ([] : List Int)) (inner := []) (ok := fun _ => True) (okp := fun _ => True) ?hr ?hp (fun _ hk => hk) trivial (Below.refl _ _) (Nat.le_refl _) (by simp) ?_; (case hd => rfl); (case hg => rfl); (case hr => first | (go_simp; done) | (go_simp; rfl)); (case hp => exact (Reps.none _ _)); intro v317 w5 ho6 hb hg_ hnew_; clear hg_ hnew_; (first | rw [← Ny316.out] at ho6 | (simp only [Int.reduceToNat] at ho6; rw [← Ny316.out] at ho6)); have n0_ := Aside0.mk (Kd.R_lower ho6 (below_size (by repeat (first | (with_reducible first | exact HB.out | apply below_alloc | apply pw_below_drewN | apply below_drew1) | exact HB.out)))); have n1_ := Aside0.mk (below_step (by repeat (first | (with_reducible first | exact HB.out | apply below_alloc | apply pw_below_drewN | apply below_drew1) | exact HB.out)) hb); clear HB; have HO318 := n0_; have HB := n1_; clear n0_ n1_; clear hb ho6))
  (try simp only [Act.put, List.setIfInBounds_toArray, List.set_cons_zero, List.set_cons_succ])
  go_cut [1] (fun v1 wc => ∃ (kq : Nat) (x1_3 : Int), v1 = .int .i64 x1_3 ∧ Aside0 (stoaref01_Piece.j0 kq l0 x1_3 a2 y316 = some r) ∧ Aside0 (kq ≤ k) ∧ Aside0 (Kd.R (Kd.int .u8) 5 wc w.heap.size (fun _ => True) v317 y316) ∧ Aside0 (Below w.heap.size w wc))
  case first =>
    have H := HC4.out
    clear HC4
    by_cases c7 : a1 < 0
    · rw [if_pos c7] at H
      have c7b0 : decide (a1 < 0) = true := decide_eq_true c7
      clear c7
      (first | rw [c7b0] | (simp only [i64_w, i32_w]; rw [c7b0]) | skip)
      have H' := Aside0.mk H
      clear H
      go_wp2
      go_meet
      case rel => exact ⟨_, (0), (by first | rfl | (simp; done) | (simp [*]; done)), H', ⟨by first | omega | exact Nat.le_refl _⟩, ⟨by (with_reducible repeat (first | apply Kd.R_alloc | apply Kd.R_drewN | apply Kd.R_drew)); exact HO318.out⟩, ⟨by repeat (first | (with_reducible first | exact HB.out | apply below_alloc | apply pw_below_drewN | apply below_drew1) | exact HB.out)⟩⟩
    · rw [if_neg c7] at H
      have c7b0 : decide (a1 < 0) = false := decide_eq_false c7
      clear c7
      (first | rw [c7b0] | (simp only [i64_w, i32_w]; rw [c7b0]) | skip)
      have H' := Aside0.mk H
      clear H
      go_wp2
      go_meet
      case rel => exact ⟨_, (a1), (by first | rfl | (simp; done) | (simp [*]; done)), H', ⟨by first | omega | exact Nat.le_refl _⟩, ⟨by (with_reducible repeat (first | apply Kd.R_alloc | apply Kd.R_drewN | apply Kd.R_drew)); exact HO318.out⟩, ⟨by repeat (first | (with_reducible first | exact HB.out | apply below_alloc | apply pw_below_drewN | apply below_drew1) | exact HB.out)⟩⟩
  case rest =>
    clear HC4
    try clear p2
    try clear c7
    try clear c7b0
    obtain ⟨kq, x1_3, rfl, HA, HJ3, HO_7, HB⟩ := hcut
    cases kq with
    | zero => exact absurd HA.out (by simp [stoaref01_Piece.j0])
    | succ kj3 =>
      have H := HA.out
      clear HA
      simp only [stoaref01_Piece.j0] at H
      have H' := Aside0.mk H
      clear H
      go_wp2
      go_loopg [7, 8] kj3 (fun kq v7 v8 w' => ∃ (x7_2 : List Int) (x8_2 : Int), v8 = .int .i64 x8_2 ∧ Aside0 (stoaref01_Piece.l0 kq l0 a2 x7_2 x8_2 = some r) ∧ Aside0 (kq ≤ kj3) ∧ Aside0 (Kd.R (Kd.int .u8) 5 w' w.heap.size (fun _ => True) v7 x7_2) ∧ Aside0 (Below w.heap.size w w'))
      case atStart => exact ⟨(y316), (x1_3), (by first | rfl | (simp; done) | (simp [*]; done)), H', ⟨Nat.le_refl _⟩, ⟨by (with_reducible repeat (first | apply Kd.R_alloc | apply Kd.R_drewN | apply Kd.R_drew)); exact HO_7.out⟩, ⟨by repeat (first | (with_reducible first | exact HB.out | apply below_alloc | apply pw_below_drewN | apply below_drew1) | exact HB.out)⟩⟩
      case round =>
        clear H'
        try clear p2
        try clear c7
        try clear c7b0
        try clear p2
        obtain ⟨x7_2, x8_2, rfl, HA, HK2, HO_7, HB⟩ := hrel
        cases gk with
        | zero => exact absurd HA.out (by simp [stoaref01_Piece.l0])
        | succ k2 =>
          have H := HA.out
          clear HA
          simp only [stoaref01_Piece.l0] at H
          by_cases c8 : x8_2 < (l0.length : Int)
          · rw [if_pos c8] at H
            have c8b0 : decide (x8_2 < (l0.length : Int)) = true := decide_eq_true c8
            clear c8
            by_cases c9 : x8_2 < a2
            · rw [if_pos c9] at H
              have c9b0 : decide (x8_2 < a2) = true := decide_eq_true c9
              clear c9
              by_cases c10 : 0 ≤ x8_2
              · rw [if_pos c10] at H
                have c10b0 : decide (0 ≤ x8_2) = true := decide_eq_true c10
                clear c10
                by_cases c11 : x7_2.length < 140737488355328
                · rw [if_pos c11] at H
                  have LMc11 := Aside0.mk c11
                  clear c11
                  obtain ⟨y320, hy320⟩ : ∃ y_ : List Int, y_ = (x7_2 ++ [rd l0 x8_2]) := ⟨_, rfl⟩
                  replace H : (stoaref01_Piece.l0 k2 l0 a2 y320 (wrap64 (x8_2 + 1))) = some r := by first | (rw [hy320]; with_reducible exact H) | (have H2_ := (Option.bind_some _ _).symm.trans H; rw [hy320]; with_reducible exact H2_) | (have H2_ := (Option.bind_some _ _).symm.trans H; with_reducible exact H2_) | with_reducible exact H | (rw [hy320]; exact H) | exact H
                  have Ny320 := Aside0.mk hy320
                  clear hy320
                  have H' := Aside0.mk H
                  clear H
                  have p319 : 0 ≤ (x8_2 : Int) := of_decide_eq_true (by first | (with_reducible assumption) | assumption)
                  have q319 : x8_2 < (l0.length : Int) := of_decide_eq_true (by first | (with_reducible assumption) | assumption)
                  obtain ⟨ad319, e319, hx319_0⟩ := Kd.at_int HR0.out x8_2 p319 q319
                  cases e319
                  replace hx319_0 := (HB.out.cell (World.block_lt_of_cell? w _ hx319_0)).trans hx319_0
                  replace p319 := eq_true p319
                  replace q319 := eq_true q319
                  go_wp2_with (first | ((with_reducible refine gate_builtin (b := .append) (xs := #[.tmp 24, .tmp 29]) rfl ?_); at_builtin; refine Kd.R_append (Kd.int .u8) (w0 := w) w.heap.size rfl (.tmp 24) (.tmp 29) 55 5 (.int .u8 0) 1 rfl Try.underlying55 info5 rfl (by decide) (by omega) u7 x7_2 (rd l0 x8_2) [.int .u8 (rd l0 x8_2)] (fun _ => True) (fun _ => False) rfl rfl ?aP (fun _ hk => hk.elim) ?aF ?aO ?aB ?aS ?aL ?_; (case aP => exact rfl); (case aB => exact (by repeat (first | (with_reducible first | exact HB.out | apply below_alloc | apply pw_below_drewN | apply below_drew1) | exact HB.out))); (case aF => exact (fun _ _ => trivial)); (case aO => exact (by (with_reducible repeat (first | apply Kd.R_alloc | apply Kd.R_drewN | apply Kd.R_drew)); exact HO_7.out)); (case aS => exact (below_size (by repeat (first | (with_reducible first | exact HB.out | apply below_alloc | apply pw_below_drewN | apply below_drew1) | exact HB.out)))); (case aL => have := LMc11.out; omega); intro v321 w12 ho hb hg hat; rw [← Ny320.out] at ho; have n0_ := Aside0.mk (hb); have n1_ := Aside0.mk (ho); clear HB; clear HO_7; have HB := n0_; have HO322 := n1_; clear n0_ n1_; clear ho hb hg hat))
                  go_roundg k2
                  case measure => have := HJ3.out; have := HK2.out; omega
                  case rel => exact ⟨(y320), (wrap64 (x8_2 + 1)), (by first | rfl | (simp; done) | (simp [*]; done)), H', ⟨by have := HJ3.out; have := HK2.out; omega⟩, ⟨by (with_reducible repeat (first | apply Kd.R_alloc | apply Kd.R_drewN | apply Kd.R_drew)); exact HO322.out⟩, ⟨by repeat (first | (with_reducible first | exact HB.out | apply below_alloc | apply pw_below_drewN | apply below_drew1) | exact HB.out)⟩⟩
                · rw [if_neg c11] at H
                  exact absurd H (by simp)
              · rw [if_neg c10] at H
                exact absurd H (by simp)
            · rw [if_neg c9] at H
              have c9b0 : decide (x8_2 < a2) = false := decide_eq_false c9
              clear c9
              obtain rfl := Option.some.inj H
              go_wp2
              go_ret
              exact ⟨_, by first | rfl | (simp [errW_none, errW_some] <;> rfl) | (simp [*, errW_none, errW_some] <;> rfl), by (with_reducible repeat (first | apply Kd.R_alloc | apply Kd.R_drewN | apply Kd.R_drew)); exact HO_7.out, by repeat (first | (with_reducible first | exact HB.out | apply below_alloc | apply pw_below_drewN | apply below_drew1) | exact HB.out)⟩
          · rw [if_neg c8] at H
            have c8b0 : decide (x8_2 < (l0.length : Int)) = false := decide_eq_false c8
            clear c8
            obtain rfl := Option.some.inj H
            go_wp2
            go_ret
            exact ⟨_, by first | rfl | (simp [errW_none, errW_some] <;> rfl) | (simp [*, errW_none, errW_some] <;> rfl), by (with_reducible repeat (first | apply Kd.R_alloc | apply Kd.R_drewN | apply Kd.R_drew)); exact HO_7.out, by repeat (first | (with_reducible first | exact HB.out | apply below_alloc | apply pw_below_drewN | apply below_drew1) | exact HB.out)⟩

/-! ### stoaref10_text: function 84 -/
def stoaref10_text.f (k : Nat) (l0 : List Int) (a1 : Int) : Option (List Int × Int × Int) := (stoaref02_Get.f k l0 a1).bind fun bt323 => (if bt323.2.2 = 0 then (if bt323.1 > 200 then (some (([] : List Int), 0, 4)) else (if bt323.1 > (IntKind.u64.wrap (wrap64 ((l0.length : Int) - bt323.2.1))) then (some (([] : List Int), 0, 2)) else ((stoaref01_Piece.f k l0 bt323.2.1 (wrap64 (bt323.2.1 + (wrap64 (bt323.1))))).bind fun t326 => (some (t326, wrap64 (bt323.2.1 + (wrap64 (bt323.1))), 0))))) else (some (([] : List Int), 0, bt323.2.2)))
theorem stoaref10_text.mono : ∀ a0 a1 k, LeO (stoaref10_text.f k a0 a1) (stoaref10_text.f (k + 1) a0 a1) := by
  intro a0 a1 k
  unfold stoaref10_text.f
  repeat' first
      | (with_reducible exact stoaref01_Piece.mono _ _ _ _)
      | (with_reducible exact stoaref02_Get.mono _ _ _)
      | (with_reducible exact LeO.refl _)
      | (with_reducible exact LeO.none _)
      | (with_reducible refine LeO.ite ?_ ?_)
      | (with_reducible refine LeO.bind ?_ (fun _ => ?_))
      | exact stoaref01_Piece.mono _ _ _ _
      | exact stoaref02_Get.mono _ _ _
      | exact LeO.none _
      | refine LeO.ite ?_ ?_
      | refine LeO.bind ?_ (fun _ => ?_)
set_option maxHeartbeats 8000000 in
set_option maxRecDepth 100000 in
theorem stoaref10_text.calls (k : Nat) (A0 : Option Addr) (c0 : Nat) (l0 : List Int) (a1 : Int) (r1 : List Int) (r2 : Int) (r3 : Int) (w : World) (hr0 : Kd.C (Kd.int .u8) w A0 l0.length l0) (hc0 : l0.length ≤ c0) (h : stoaref10_text.f k l0 a1 = some (r1, r2, r3)) :
    Calls Try.prog 84 #[.slice A0 l0.length c0, .int .i64 a1] w fun e w' => ∃ v0_ : Value, e = .returned (.tuple #[v0_, .int .i64 r2, .int .i64 r3]) ∧ Kd.R (Kd.int .u8) 5 w' w.heap.size (fun _ => True) v0_ r1 ∧ Below w.heap.size w w' := by
  have HR0 := Aside0.mk hr0
  have HC0 := Aside0.mk hc0
  clear hr0 hc0
  have HB := Aside0.mk (Below.refl w.heap.size w)
  have H : ((stoaref02_Get.f k l0 a1).bind fun bt323 => (if bt323.2.2 = 0 then (if bt323.1 > 200 then (some (([] : List Int), 0, 4)) else (if bt323.1 > (IntKind.u64.wrap (wrap64 ((l0.length : Int) - bt323.2.1))) then (some (([] : List Int), 0, 2)) else ((stoaref01_Piece.f k l0 bt323.2.1 (wrap64 (bt323.2.1 + (wrap64 (bt323.1))))).bind fun t326 => (some (t326, wrap64 (bt323.2.1 + (wrap64 (bt323.1))), 0))))) else (some (([] : List Int), 0, bt323.2.2)))) = some (r1, r2, r3) := h
  clear h
  replace H := Option.bind_eq_some_iff.mp H
  obtain ⟨⟨t323, t324, t325⟩, A30, H⟩ := H
  replace H : (if t325 = 0 then (if t323 > 200 then (some (([] : List Int), 0, 4)) else (if t323 > (IntKind.u64.wrap (wrap64 ((l0.length : Int) - t324))) then (some (([] : List Int), 0, 2)) else ((stoaref01_Piece.f k l0 t324 (wrap64 (t324 + (wrap64 (t323))))).bind fun t326 => (some (t326, wrap64 (t324 + (wrap64 (t323))), 0))))) else (some (([] : List Int), 0, t325))) = some (r1, r2, r3) := H
  have A3 := Aside0.mk A30
  clear A30
  by_cases c4 : t325 = 0
  · rw [if_pos c4] at H
    have c4b0 : (t325 == 0) = true := beq_iff_eq.mpr c4
    have c4b1 : (t325 != 0) = false := bne_eq_false_iff_eq.mpr c4
    clear c4
    by_cases c5 : t323 > 200
    · rw [if_pos c5] at H
      have c5b0 : decide (200 < t323) = true := decide_eq_true c5
      clear c5
      simp only [Option.some.injEq, Prod.mk.injEq] at H
      obtain ⟨rfl, rfl, rfl⟩ := H
      go_enter Try.func84, Try.ntmps84
      go_wp2_with (first | ((with_reducible refine gate_callee (f := 83) rfl ?_); refine goesL_ (some 13) rfl rfl Try.func83 (by kernel_rfl) rfl #[.slice A0 l0.length c0, .int .i64 a1] rfl (by (try simp only [List.map_toArray, List.map_cons, List.map_nil]); first | done | rfl | (simp only [List.length_drop, List.length_take]; rfl)) ?_; (with_reducible refine (stoaref02_Get.calls k _ _ l0 a1 t323 t324 t325 _ ?side1 ?side2 A3.out).mono ?_); (case side1 => repeat (first | exact HR0.out | (with_reducible refine Kd.C_alloc ?_ _) | (with_reducible refine Kd.C_drewN ?_ _) | (with_reducible refine Kd.C_drew ?_))); (case side2 => exact HC0.out); rintro e w' ⟨rfl, ⟨nd, rfl⟩⟩; refine ⟨_, rfl, ?_⟩))
      go_ret3
      exact ⟨_, by first | rfl | (simp [errW_none, errW_some] <;> rfl) | (simp [*, errW_none, errW_some] <;> rfl), by first | exact Kd.R_nil _ _ _ _ _ | exact Kd.N_nil _ _ _ _ _ | exact Kd.V_nil _ _ _ _ _ | exact Kd.Q_nil _ _ _ _ _ | exact Kd.S_nil _ _ _ _ _, by repeat (first | (with_reducible first | exact HB.out | apply below_alloc | apply pw_below_drewN | apply below_drew1) | exact HB.out)⟩
    · rw [if_neg c5] at H
      have c5b0 : decide (200 < t323) = false := decide_eq_false c5
      clear c5
      by_cases c6 : t323 > (IntKind.u64.wrap (wrap64 ((l0.length : Int) - t324)))
      · rw [if_pos c6] at H
        have c6b0 : decide ((IntKind.u64.wrap (wrap64 ((l0.length : Int) - t324))) < t323) = true := decide_eq_true c6
        clear c6
        simp only [Option.some.injEq, Prod.mk.injEq] at H
        obtain ⟨rfl, rfl, rfl⟩ := H
        go_enter Try.func84, Try.ntmps84
        go_wp2_with (first | ((with_reducible refine gate_callee (f := 83) rfl ?_); refine goesL_ (some 13) rfl rfl Try.func83 (by kernel_rfl) rfl #[.slice A0 l0.length c0, .int .i64 a1] rfl (by (try simp only [List.map_toArray, List.map_cons, List.map_nil]); first | done | rfl | (simp only [List.length_drop, List.length_take]; rfl)) ?_; (with_reducible refine (stoaref02_Get.calls k _ _ l0 a1 t323 t324 t325 _ ?side1 ?side2 A3.out).mono ?_); (case side1 => repeat (first | exact HR0.out | (with_reducible refine Kd.C_alloc ?_ _) | (with_reducible refine Kd.C_drewN ?_ _) | (with_reducible refine Kd.C_drew ?_))); (case side2 => exact HC0.out); rintro e w' ⟨rfl, ⟨nd, rfl⟩⟩; refine ⟨_, rfl, ?_⟩))
        go_ret3
        exact ⟨_, by first | rfl | (simp [errW_none, errW_some] <;> rfl) | (simp [*, errW_none, errW_some] <;> rfl), by first | exact Kd.R_nil _ _ _ _ _ | exact Kd.N_nil _ _ _ _ _ | exact Kd.V_nil _ _ _ _ _ | exact Kd.Q_nil _ _ _ _ _ | exact Kd.S_nil _ _ _ _ _, by repeat (first | (with_reducible first | exact HB.out | apply below_alloc | apply pw_below_drewN | apply below_drew1) | exact HB.out)⟩
      · rw [if_neg c6] at H
        have c6b0 : decide ((IntKind.u64.wrap (wrap64 ((l0.length : Int) - t324))) < t323) = false := decide_eq_false c6
        clear c6
        replace H := Option.bind_eq_some_iff.mp H
        obtain ⟨t326, A70, H⟩ := H
        replace H : (some (t326, wrap64 (t324 + (wrap64 (t323))), 0)) = some (r1, r2, r3) := H
        have A7 := Aside0.mk A70
        clear A70
        simp only [Option.some.injEq, Prod.mk.injEq] at H
        obtain ⟨rfl, rfl, rfl⟩ := H
        go_enter Try.func84, Try.ntmps84
        go_wp2_with (first | ((with_reducible refine gate_callee (f := 83) rfl ?_); refine goesL_ (some 13) rfl rfl Try.func83 (by kernel_rfl) rfl #[.slice A0 l0.length c0, .int .i64 a1] rfl (by (try simp only [List.map_toArray, List.map_cons, List.map_nil]); first | done | rfl | (simp only [List.length_drop, List.length_take]; rfl)) ?_; (with_reducible refine (stoaref02_Get.calls k _ _ l0 a1 t323 t324 t325 _ ?side1 ?side2 A3.out).mono ?_); (case side1 => repeat (first | exact HR0.out | (with_reducible refine Kd.C_alloc ?_ _) | (with_reducible refine Kd.C_drewN ?_ _) | (with_reducible refine Kd.C_drew ?_))); (case side2 => exact HC0.out); rintro e w' ⟨rfl, ⟨nd, rfl⟩⟩; refine ⟨_, rfl, ?_⟩) | ((with_reducible refine gate_callee (f := 86) rfl ?_); refine goesL_ (some 35) rfl rfl Try.func86 (by kernel_rfl) rfl #[.slice A0 l0.length c0, .int .i64 t324, .int .i64 (wrap64 (t324 + (wrap64 (t323))))] rfl (by (try simp only [List.map_toArray, List.map_cons, List.map_nil]); first | done | rfl | (simp only [List.length_drop, List.length_take]; rfl)) ?_; (with_reducible refine (stoaref01_Piece.calls k _ _ l0 t324 (wrap64 (t324 + (wrap64 (t323)))) t326 _ ?side1 ?side2 A7.out).mono ?_); (case side1 => repeat (first | exact HR0.out | (with_reducible refine Kd.C_alloc ?_ _) | (with_reducible refine Kd.C_drewN ?_ _) | (with_reducible refine Kd.C_drew ?_))); (case side2 => exact HC0.out); rintro e w8 ⟨v327, rfl, ho0, hb⟩; refine ⟨_, rfl, ?_⟩; have n0_ := Aside0.mk (Kd.R_lower ho0 (below_size (by repeat (first | (with_reducible first | exact HB.out | apply below_alloc | apply pw_below_drewN | apply below_drew1) | exact HB.out)))); have n1_ := Aside0.mk (below_step (by repeat (first | (with_reducible first | exact HB.out | apply below_alloc | apply pw_below_drewN | apply below_drew1) | exact HB.out)) hb); clear HB; have HO328 := n0_; have HB := n1_; clear n0_ n1_; (try clear hb); (try clear hb2); (try clear hk); (try clear hi); (try clear ho0)))
        go_ret3
        exact ⟨_, by first | rfl | (simp [errW_none, errW_some] <;> rfl) | (simp [*, errW_none, errW_some] <;> rfl), by (with_reducible repeat (first | apply Kd.R_alloc | apply Kd.R_drewN | apply Kd.R_drew)); exact HO328.out, by repeat (first | (with_reducible first | exact HB.out | apply below_alloc | apply pw_below_drewN | apply below_drew1) | exact HB.out)⟩
  · rw [if_neg c4] at H
    have c4b0 : (t325 == 0) = false := beq_eq_false_iff_ne.mpr c4
    have c4b1 : (t325 != 0) = true := bne_iff_ne.mpr c4
    simp only [Option.some.injEq, Prod.mk.injEq] at H
    obtain ⟨rfl, rfl, rfl⟩ := H
    go_enter Try.func84, Try.ntmps84
    go_wp2_with (first | ((with_reducible refine gate_callee (f := 83) rfl ?_); refine goesL_ (some 13) rfl rfl Try.func83 (by kernel_rfl) rfl #[.slice A0 l0.length c0, .int .i64 a1] rfl (by (try simp only [List.map_toArray, List.map_cons, List.map_nil]); first | done | rfl | (simp only [List.length_drop, List.length_take]; rfl)) ?_; (with_reducible refine (stoaref02_Get.calls k _ _ l0 a1 t323 t324 t325 _ ?side1 ?side2 A3.out).mono ?_); (case side1 => repeat (first | exact HR0.out | (with_reducible refine Kd.C_alloc ?_ _) | (with_reducible refine Kd.C_drewN ?_ _) | (with_reducible refine Kd.C_drew ?_))); (case side2 => exact HC0.out); rintro e w' ⟨rfl, ⟨nd, rfl⟩⟩; refine ⟨_, rfl, ?_⟩))
    go_ret3
    exact ⟨_, by first | rfl | (simp [errW_none, errW_some] <;> rfl) | (simp [*, errW_none, errW_some] <;> rfl), by first | exact Kd.R_nil _ _ _ _ _ | exact Kd.N_nil _ _ _ _ _ | exact Kd.V_nil _ _ _ _ _ | exact Kd.Q_nil _ _ _ _ _ | exact Kd.S_nil _ _ _ _ _, by repeat (first | (with_reducible first | exact HB.out | apply below_alloc | apply pw_below_drewN | apply below_drew1) | exact HB.out)⟩

/-! ### stoaref01_bit: function 105 -/
def stoaref01_bit.f (k : Nat) (l0 : List Int) (a1 : Int) : Option (Int) := if 0 ≤ (wrap64 (Int.tdiv a1 8)) then (if (wrap64 (Int.tdiv a1 8)) < (l0.length : Int) then ((stoaref01_power.f k (Int.tmod a1 8)).bind fun t330 => (if t330 = 0 then (none) else (some (Int.tmod (IntKind.u64.wrap (Int.tdiv (IntKind.u64.wrap (rd l0 (wrap64 (Int.tdiv a1 8)))) t330)) 2)))) else (none)) else (none)
theorem stoaref01_bit.mono : ∀ a0 a1 k, LeO (stoaref01_bit.f k a0 a1) (stoaref01_bit.f (k + 1) a0 a1) := by
  intro a0 a1 k
  unfold stoaref01_bit.f
  repeat' first
      | (with_reducible exact stoaref01_power.mono _ _)
      | (with_reducible exact LeO.refl _)
      | (with_reducible exact LeO.none _)
      | (with_reducible refine LeO.ite ?_ ?_)
      | (with_reducible refine LeO.bind ?_ (fun _ => ?_))
      | exact stoaref01_power.mono _ _
      | exact LeO.none _
      | refine LeO.ite ?_ ?_
      | refine LeO.bind ?_ (fun _ => ?_)
set_option maxHeartbeats 8000000 in
set_option maxRecDepth 100000 in
theorem stoaref01_bit.calls (k : Nat) (A0 : Option Addr) (c0 : Nat) (l0 : List Int) (a1 : Int) (r : Int) (w : World) (hr0 : Kd.C (Kd.int .u8) w A0 l0.length l0) (hc0 : l0.length ≤ c0) (h : stoaref01_bit.f k l0 a1 = some r) :
    Calls Try.prog 105 #[.slice A0 l0.length c0, .int .i64 a1] w fun e w' => e = .returned (.int .u64 r) ∧ Drawn0 w w' := by
  have HR0 := Aside0.mk hr0
  have HC0 := Aside0.mk hc0
  clear hr0 hc0
  have H : (if 0 ≤ (wrap64 (Int.tdiv a1 8)) then (if (wrap64 (Int.tdiv a1 8)) < (l0.length : Int) then ((stoaref01_power.f k (Int.tmod a1 8)).bind fun t330 => (if t330 = 0 then (none) else (some (Int.tmod (IntKind.u64.wrap (Int.tdiv (IntKind.u64.wrap (rd l0 (wrap64 (Int.tdiv a1 8)))) t330)) 2)))) else (none)) else (none)) = some r := h
  clear h
  obtain ⟨ji3, hji3⟩ : ∃ j_ : Int, (wrap64 (Int.tdiv a1 8)) = j_ := ⟨_, rfl⟩
  replace H : (if 0 ≤ (ji3) then (if (ji3) < (l0.length : Int) then ((stoaref01_power.f k (Int.tmod a1 8)).bind fun t330 => (if t330 = 0 then (none) else (some (Int.tmod (IntKind.u64.wrap (Int.tdiv (IntKind.u64.wrap (rd l0 (ji3))) t330)) 2)))) else (none)) else (none)) = some r := by first | (rw [hji3] at H; exact H) | (simp only [hji3] at H ⊢; exact H)
  have hji3w : (IntKind.i64.wrap (Int.tdiv a1 8)) = ji3 := (i64_w _).trans hji3
  by_cases c4 : 0 ≤ (ji3)
  · rw [if_pos c4] at H
    have c4b0 : decide (0 ≤ (ji3)) = true := decide_eq_true c4
    clear c4
    by_cases c5 : (ji3) < (l0.length : Int)
    · rw [if_pos c5] at H
      have c5b0 : decide ((ji3) < (l0.length : Int)) = true := decide_eq_true c5
      clear c5
      replace H := Option.bind_eq_some_iff.mp H
      obtain ⟨t330, A60, H⟩ := H
      replace H : (if t330 = 0 then (none) else (some (Int.tmod (IntKind.u64.wrap (Int.tdiv (IntKind.u64.wrap (rd l0 (ji3))) t330)) 2))) = some r := H
      have A6 := Aside0.mk A60
      clear A60
      by_cases c7 : t330 = 0
      · rw [if_pos c7] at H
        exact absurd H (by simp)
      · rw [if_neg c7] at H
        have c7b0 : (t330 == 0) = false := beq_eq_false_iff_ne.mpr c7
        have c7b1 : (t330 != 0) = true := bne_iff_ne.mpr c7
        obtain rfl := Option.some.inj H
        have p329 : 0 ≤ ((ji3) : Int) := of_decide_eq_true (by first | (with_reducible assumption) | assumption)
        have q329 : (ji3) < (l0.length : Int) := of_decide_eq_true (by first | (with_reducible assumption) | assumption)
        obtain ⟨ad329, e329, hx329_0⟩ := Kd.at_int HR0.out (ji3) p329 q329
        cases e329
        replace p329 := eq_true p329
        replace q329 := eq_true q329
        go_enter Try.func105, Try.ntmps105
        go_wp2_with (first | (go_at_call 100; (with_reducible refine (stoaref01_power.calls k (Int.tmod a1 8) t330 _ A6.out).mono ?_); rintro e w' ⟨rfl, ⟨nd, rfl⟩⟩; (try first | exact ⟨rfl, _, World.drewN_drewN _ _ _⟩ | exact ⟨rfl, _, Eq.trans (World.drewN_drewN _ _ _) (congrArg (World.drewN _) (Nat.add_assoc _ _ _))⟩)))
        repeat (go_quiet (first | (go_at_call 100; (with_reducible refine (stoaref01_power.calls k (Int.tmod a1 8) t330 _ A6.out).mono ?_); rintro e w' ⟨rfl, ⟨nd, rfl⟩⟩; (try first | exact ⟨rfl, _, World.drewN_drewN _ _ _⟩ | exact ⟨rfl, _, Eq.trans (World.drewN_drewN _ _ _) (congrArg (World.drewN _) (Nat.add_assoc _ _ _))⟩))); try go_wp2_with (first | (go_at_call 100; (with_reducible refine (stoaref01_power.calls k (Int.tmod a1 8) t330 _ A6.out).mono ?_); rintro e w' ⟨rfl, ⟨nd, rfl⟩⟩; (try first | exact ⟨rfl, _, World.drewN_drewN _ _ _⟩ | exact ⟨rfl, _, Eq.trans (World.drewN_drewN _ _ _) (congrArg (World.drewN _) (Nat.add_assoc _ _ _))⟩))))
        go_ret
        exact ⟨by first | rfl | (simp; done) | (simp only [← hji3] <;> (first | rfl | simp)) | (simp [*]; done), by repeat (first | exact Drawn0.refl _ | apply Drawn0.step)⟩
    · rw [if_neg c5] at H
      exact absurd H (by simp)
  · rw [if_neg c4] at H
    exact absurd H (by simp)

/-! ### stoaref01_number: function 106 -/
def stoaref01_number.l0 : Nat → List Int → Int → Int → Int → Option (Int)
  | 0, _, _, _, _ => none
  | k + 1, x0, x1, x7, x8 => if x8 ≥ 0 then ((stoaref01_bit.f k x0 (wrap64 (x1 + x8))).bind fun t331 => (stoaref01_number.l0 k x0 x1 (IntKind.u64.wrap ((IntKind.u64.wrap (x7 * 2)) + t331)) (wrap64 (x8 - 1)))) else (some x7)
def stoaref01_number.f (k : Nat) (l0 : List Int) (a1 : Int) (a2 : Int) : Option (Int) := stoaref01_number.l0 k l0 a1 0 (wrap64 (a2 - 1))
theorem stoaref01_number.mono_l : ∀ k, (∀ y0 y1 y2 y3, LeO (stoaref01_number.l0 k y0 y1 y2 y3) (stoaref01_number.l0 (k + 1) y0 y1 y2 y3))
  | 0 => fun _ _ _ _ r h => by simp [stoaref01_number.l0] at h
  | k + 1 => by
    have ih0 := stoaref01_number.mono_l k
    · intro y0 y1 y2 y3
      unfold stoaref01_number.l0
      repeat' first
      | (with_reducible exact ih0 _ _ _ _)
      | (with_reducible exact stoaref01_bit.mono _ _ _)
      | (with_reducible exact LeO.refl _)
      | (with_reducible exact LeO.none _)
      | (with_reducible refine LeO.ite ?_ ?_)
      | (with_reducible refine LeO.bind ?_ (fun _ => ?_))
      | exact ih0 _ _ _ _
      | exact stoaref01_bit.mono _ _ _
      | exact LeO.none _
      | refine LeO.ite ?_ ?_
      | refine LeO.bind ?_ (fun _ => ?_)
theorem stoaref01_number.mono : ∀ a0 a1 a2 k, LeO (stoaref01_number.f k a0 a1 a2) (stoaref01_number.f (k + 1) a0 a1 a2) := by
  intro a0 a1 a2 k
  have ih0 := stoaref01_number.mono_l k
  unfold stoaref01_number.f
  repeat' first
      | (with_reducible exact ih0 _ _ _ _)
      | (with_reducible exact stoaref01_bit.mono _ _ _)
      | (with_reducible exact LeO.refl _)
      | (with_reducible exact LeO.none _)
      | (with_reducible refine LeO.ite ?_ ?_)
      | (with_reducible refine LeO.bind ?_ (fun _ => ?_))
      | exact ih0 _ _ _ _
      | exact stoaref01_bit.mono _ _ _
      | exact LeO.none _
      | refine LeO.ite ?_ ?_
      | refine LeO.bind ?_ (fun _ => ?_)
set_option maxHeartbeats 8000000 in
set_option maxRecDepth 100000 in
theorem stoaref01_number.calls (k : Nat) (A0 : Option Addr) (c0 : Nat) (l0 : List Int) (a1 : Int) (a2 : Int) (r : Int) (w : World) (hr0 : Kd.C (Kd.int .u8) w A0 l0.length l0) (hc0 : l0.length ≤ c0) (h : stoaref01_number.f k l0 a1 a2 = some r) :
    Calls Try.prog 106 #[.slice A0 l0.length c0, .int .i64 a1, .int .i64 a2] w fun e w' => e = .returned (.int .u64 r) ∧ Drawn0 w w' := by
  have HR0 := Aside0.mk hr0
  have HC0 := Aside0.mk hc0
  clear hr0 hc0
  have H : (stoaref01_number.l0 k l0 a1 0 (wrap64 (a2 - 1))) = some r := h
  clear h
  have H' := Aside0.mk H
  clear H
  go_enter Try.func106, Try.ntmps106
  go_wp2
  go_loopg [7, 8] k (fun kq v7 v8 w' => ∃ (x7_1 : Int) (x8_1 : Int), v7 = .int .u64 x7_1 ∧ v8 = .int .i64 x8_1 ∧ Aside0 (stoaref01_number.l0 kq l0 a1 x7_1 x8_1 = some r) ∧ Aside0 (kq ≤ k) ∧ Drawn0 w w')
  case atStart => exact ⟨(0), (wrap64 (a2 - 1)), (by first | rfl | (simp; done) | (simp [*]; done)), (by first | rfl | (simp; done) | (simp [*]; done)), H', ⟨Nat.le_refl _⟩, by repeat (first | exact Drawn0.refl _ | apply Drawn0.step)⟩
  case round =>
    clear H'
    try clear c1
    try clear p2
    obtain ⟨x7_1, x8_1, rfl, rfl, HA, HK1, ⟨m1, rfl⟩⟩ := hrel
    cases gk with
    | zero => exact absurd HA.out (by simp [stoaref01_number.l0])
    | succ k1 =>
      have H := HA.out
      clear HA
      simp only [stoaref01_number.l0] at H
      by_cases c4 : x8_1 ≥ 0
      · rw [if_pos c4] at H
        have c4b0 : decide (0 ≤ x8_1) = true := decide_eq_true c4
        clear c4
        replace H := Option.bind_eq_some_iff.mp H
        obtain ⟨t331, A50, H⟩ := H
        replace H : (stoaref01_number.l0 k1 l0 a1 (IntKind.u64.wrap ((IntKind.u64.wrap (x7_1 * 2)) + t331)) (wrap64 (x8_1 - 1))) = some r := H
        have A5 := Aside0.mk A50
        clear A50
        have H' := Aside0.mk H
        clear H
        go_wp2_with (first | ((with_reducible refine gate_callee (f := 105) rfl ?_); refine goesL_ (some 21) rfl rfl Try.func105 (by kernel_rfl) rfl #[.slice A0 l0.length c0, .int .i64 (wrap64 (a1 + x8_1))] rfl (by (try simp only [List.map_toArray, List.map_cons, List.map_nil]); first | done | rfl | (simp only [List.length_drop, List.length_take]; rfl)) ?_; (with_reducible refine (stoaref01_bit.calls k1 _ _ l0 (wrap64 (a1 + x8_1)) t331 _ ?side1 ?side2 A5.out).mono ?_); (case side1 => repeat (first | exact HR0.out | (with_reducible refine Kd.C_alloc ?_ _) | (with_reducible refine Kd.C_drewN ?_ _) | (with_reducible refine Kd.C_drew ?_))); (case side2 => exact HC0.out); rintro e w' ⟨rfl, ⟨nd, rfl⟩⟩; refine ⟨_, rfl, ?_⟩))
        go_roundg k1
        case measure => have := HK1.out; omega
        case rel => exact ⟨(IntKind.u64.wrap ((IntKind.u64.wrap (x7_1 * 2)) + t331)), (wrap64 (x8_1 - 1)), (by first | rfl | (simp; done) | (simp [*]; done)), (by first | rfl | (simp; done) | (simp [*]; done)), H', ⟨by have := HK1.out; omega⟩, by repeat (first | exact Drawn0.refl _ | apply Drawn0.step)⟩
      · rw [if_neg c4] at H
        have c4b0 : decide (0 ≤ x8_1) = false := decide_eq_false c4
        clear c4
        obtain rfl := Option.some.inj H
        go_wp2
        go_ret
        exact ⟨by first | rfl | (simp; done) | (simp [*]; done), by repeat (first | exact Drawn0.refl _ | apply Drawn0.step)⟩

end Go.Proofs.Ytiijkehiphkkiaa.PD
