/-
  Parts of the proof: H1.
-/
import Derived.Test.YtgcpiofpjogjcaaGreatDoorQ3
import Derived.Test.YtgcpiofpjogjcaaGreatDoorQ6
section
namespace Go.Proofs.YtgcpiofpjogjcaaGreatDoor.PK
open Go.RowKit Go.Proofs.YtgcpiofpjogjcaaGreatDoorW.PrintWords Go.Proofs.YtgcpiofpjogjcaaGreatDoorW.PrintLast Go.Proofs.YtgcpiofpjogjcaaGreatDoorW.PrintMore
attribute [local go_sem] max2_int min2_int max_two min_two max_three min_three max_four min_four   -- for this text's walks alone
set_option linter.unusedVariables false
set_option linter.unusedSimpArgs false



/-! ### stoaref01_Wide: function 11 -/
def stoaref01_Wide.l0 : Nat → List Int → Int → Option (List Int)
  | 0, _, _ => none
  | k + 1, x3, x4 => if x4 < 64 then (if x3.length < 140737488355328 then (stoaref01_Wide.l0 k (x3 ++ [(wrap64 (192 + (Int.tmod x4 7))) % 256]) (wrap64 (x4 + 1))) else (none)) else (some x3)
def stoaref01_Wide.f (k : Nat) (l0 : List Int) : Option (List Int) := (stoaref01_Copy.f k l0).bind fun t362 => (stoaref01_Wide.l0 k t362 0)
theorem stoaref01_Wide.mono_l : ∀ k, (∀ y0 y1, LeO (stoaref01_Wide.l0 k y0 y1) (stoaref01_Wide.l0 (k + 1) y0 y1))
  | 0 => fun _ _ r h => by simp [stoaref01_Wide.l0] at h
  | k + 1 => by
    have ih0 := stoaref01_Wide.mono_l k
    · intro y0 y1
      unfold stoaref01_Wide.l0
      repeat' first
      | (with_reducible exact ih0 _ _)
      | (with_reducible exact stoaref01_Copy.mono _ _)
      | (with_reducible exact LeO.refl _)
      | (with_reducible exact LeO.none _)
      | (with_reducible refine LeO.ite ?_ ?_)
      | (with_reducible refine LeO.bind ?_ (fun _ => ?_))
      | exact ih0 _ _
      | exact stoaref01_Copy.mono _ _
      | exact LeO.none _
      | refine LeO.ite ?_ ?_
      | refine LeO.bind ?_ (fun _ => ?_)
theorem stoaref01_Wide.mono : ∀ a0 k, LeO (stoaref01_Wide.f k a0) (stoaref01_Wide.f (k + 1) a0) := by
  intro a0 k
  have ih0 := stoaref01_Wide.mono_l k
  unfold stoaref01_Wide.f
  repeat' first
      | (with_reducible exact ih0 _ _)
      | (with_reducible exact stoaref01_Copy.mono _ _)
      | (with_reducible exact LeO.refl _)
      | (with_reducible exact LeO.none _)
      | (with_reducible refine LeO.ite ?_ ?_)
      | (with_reducible refine LeO.bind ?_ (fun _ => ?_))
      | exact ih0 _ _
      | exact stoaref01_Copy.mono _ _
      | exact LeO.none _
      | refine LeO.ite ?_ ?_
      | refine LeO.bind ?_ (fun _ => ?_)
set_option maxHeartbeats 8000000 in
set_option maxRecDepth 100000 in
theorem stoaref01_Wide.calls (k : Nat) (A0 : Option Addr) (c0 : Nat) (l0 : List Int) (r : List Int) (w : World) (hr0 : Kd.C (Kd.int .u8) w A0 l0.length l0) (hc0 : l0.length ≤ c0) (h : stoaref01_Wide.f k l0 = some r) :
    Calls Tryz.prog 11 #[.slice A0 l0.length c0] w fun e w' => ∃ v0_ : Value, e = .returned (v0_) ∧ Kd.R (Kd.int .u8) 5 w' w.heap.size (fun _ => True) v0_ r ∧ Below w.heap.size w w' := by
  have HR0 := Aside0.mk hr0
  have HC0 := Aside0.mk hc0
  clear hr0 hc0
  have HB := Aside0.mk (Below.refl w.heap.size w)
  have H : ((stoaref01_Copy.f k l0).bind fun t362 => (stoaref01_Wide.l0 k t362 0)) = some r := h
  clear h
  replace H := Option.bind_eq_some_iff.mp H
  obtain ⟨t362, A20, H⟩ := H
  replace H : (stoaref01_Wide.l0 k t362 0) = some r := H
  have A2 := Aside0.mk A20
  clear A20
  have H' := Aside0.mk H
  clear H
  go_enter Tryz.func11, Tryz.ntmps11
  go_wp2_with (first | ((with_reducible refine gate_callee (f := 35) rfl ?_); refine goesL_ (some 6) rfl rfl Tryz.func35 (by kernel_rfl) rfl #[.slice A0 l0.length c0] rfl (by (try simp only [List.map_toArray, List.map_cons, List.map_nil]); first | done | rfl | (simp only [List.length_drop, List.length_take]; rfl)) ?_; (with_reducible refine (stoaref01_Copy.calls k _ _ l0 t362 _ ?side1 ?side2 A2.out).mono ?_); (case side1 => repeat (first | exact HR0.out | (with_reducible refine Kd.C_alloc ?_ _) | (with_reducible refine Kd.C_drewN ?_ _) | (with_reducible refine Kd.C_drew ?_))); (case side2 => exact HC0.out); rintro e w3 ⟨v363, rfl, ho0, hb⟩; refine ⟨_, rfl, ?_⟩; have n0_ := Aside0.mk (Kd.R_lower ho0 (below_size (by repeat (first | (with_reducible first | exact HB.out | apply below_alloc | apply pw_below_drewN | apply below_drew1) | exact HB.out)))); have n1_ := Aside0.mk (below_step (by repeat (first | (with_reducible first | exact HB.out | apply below_alloc | apply pw_below_drewN | apply below_drew1) | exact HB.out)) hb); clear HB; have HO364 := n0_; have HB := n1_; clear n0_ n1_; (try clear hb); (try clear hb2); (try clear hk); (try clear hi); (try clear ho0)))
  go_loopg [3, 4] k (fun kq v3 v4 w' => ∃ (x3_1 : List Int) (x4_1 : Int), v4 = .int .i64 x4_1 ∧ Aside0 (stoaref01_Wide.l0 kq x3_1 x4_1 = some r) ∧ Aside0 (kq ≤ k) ∧ Aside0 (Kd.R (Kd.int .u8) 5 w' w.heap.size (fun _ => True) v3 x3_1) ∧ Aside0 (Below w.heap.size w w'))
  case atStart => exact ⟨(t362), (0), (by first | rfl | (simp; done) | (simp [*]; done)), H', ⟨Nat.le_refl _⟩, ⟨by (with_reducible repeat (first | apply Kd.R_alloc | apply Kd.R_drewN | apply Kd.R_drew)); exact HO364.out⟩, ⟨by repeat (first | (with_reducible first | exact HB.out | apply below_alloc | apply pw_below_drewN | apply below_drew1) | exact HB.out)⟩⟩
  case round =>
    clear H'
    try clear c1
    try clear p2
    try clear c3
    obtain ⟨x3_1, x4_1, rfl, HA, HK1, HO_3, HB⟩ := hrel
    cases gk with
    | zero => exact absurd HA.out (by simp [stoaref01_Wide.l0])
    | succ k1 =>
      have H := HA.out
      clear HA
      simp only [stoaref01_Wide.l0] at H
      by_cases c4 : x4_1 < 64
      · rw [if_pos c4] at H
        have c4b0 : decide (x4_1 < 64) = true := decide_eq_true c4
        clear c4
        by_cases c5 : x3_1.length < 140737488355328
        · rw [if_pos c5] at H
          have LMc5 := Aside0.mk c5
          clear c5
          obtain ⟨y365, hy365⟩ : ∃ y_ : List Int, y_ = (x3_1 ++ [(wrap64 (192 + (Int.tmod x4_1 7))) % 256]) := ⟨_, rfl⟩
          replace H : (stoaref01_Wide.l0 k1 y365 (wrap64 (x4_1 + 1))) = some r := by first | (rw [hy365]; with_reducible exact H) | (have H2_ := (Option.bind_some _ _).symm.trans H; rw [hy365]; with_reducible exact H2_) | (have H2_ := (Option.bind_some _ _).symm.trans H; with_reducible exact H2_) | with_reducible exact H | (rw [hy365]; exact H) | exact H
          have Ny365 := Aside0.mk hy365
          clear hy365
          have H' := Aside0.mk H
          clear H
          go_wp2_with (first | ((with_reducible refine gate_builtin (b := .append) (xs := #[.tmp 11, .tmp 16]) rfl ?_); at_builtin; refine Kd.R_append (Kd.int .u8) (w0 := w) w.heap.size rfl (.tmp 11) (.tmp 16) 23 5 (.int .u8 0) 1 rfl Tryz.underlying23 info5 rfl (by decide) (by omega) u3 x3_1 ((wrap64 (192 + (Int.tmod x4_1 7))) % 256) [.int .u8 ((wrap64 (192 + (Int.tmod x4_1 7))) % 256)] (fun _ => True) (fun _ => False) rfl rfl ?aP (fun _ hk => hk.elim) ?aF ?aO ?aB ?aS ?aL ?_; (case aP => exact rfl); (case aB => exact (by repeat (first | (with_reducible first | exact HB.out | apply below_alloc | apply pw_below_drewN | apply below_drew1) | exact HB.out))); (case aF => exact (fun _ _ => trivial)); (case aO => exact (by (with_reducible repeat (first | apply Kd.R_alloc | apply Kd.R_drewN | apply Kd.R_drew)); exact HO_3.out)); (case aS => exact (below_size (by repeat (first | (with_reducible first | exact HB.out | apply below_alloc | apply pw_below_drewN | apply below_drew1) | exact HB.out)))); (case aL => have := LMc5.out; omega); intro v366 w6 ho hb hg hat; rw [← Ny365.out] at ho; have n0_ := Aside0.mk (hb); have n1_ := Aside0.mk (ho); clear HB; clear HO_3; have HB := n0_; have HO367 := n1_; clear n0_ n1_; clear ho hb hg hat))
          go_roundg k1
          case measure => have := HK1.out; omega
          case rel => exact ⟨(y365), (wrap64 (x4_1 + 1)), (by first | rfl | (simp; done) | (simp [*]; done)), H', ⟨by have := HK1.out; omega⟩, ⟨by (with_reducible repeat (first | apply Kd.R_alloc | apply Kd.R_drewN | apply Kd.R_drew)); exact HO367.out⟩, ⟨by repeat (first | (with_reducible first | exact HB.out | apply below_alloc | apply pw_below_drewN | apply below_drew1) | exact HB.out)⟩⟩
        · rw [if_neg c5] at H
          exact absurd H (by simp)
      · rw [if_neg c4] at H
        have c4b0 : decide (x4_1 < 64) = false := decide_eq_false c4
        clear c4
        obtain rfl := Option.some.inj H
        go_wp2
        go_ret
        exact ⟨_, by first | rfl | (simp [errW_none, errW_some] <;> rfl) | (simp [*, errW_none, errW_some] <;> rfl), by (with_reducible repeat (first | apply Kd.R_alloc | apply Kd.R_drewN | apply Kd.R_drew)); exact HO_3.out, by repeat (first | (with_reducible first | exact HB.out | apply below_alloc | apply pw_below_drewN | apply below_drew1) | exact HB.out)⟩

/-! ### stoaref01_Intact: function 13 -/
mutual
def stoaref01_Intact.l0 : Nat → List Int → List Int → Int → Option (Bool)
  | 0, _, _, _ => none
  | k + 1, x0, x1, x5 => if x5 < (x1.length : Int) then (if 0 ≤ x5 then (if x5 < (x0.length : Int) then (if (rd x0 x5) = (rd x1 x5) then (stoaref01_Intact.l0 k x0 x1 (wrap64 (x5 + 1))) else (some false)) else (none)) else (none)) else (stoaref01_Intact.l1 k x0 x1 0)
def stoaref01_Intact.l1 : Nat → List Int → List Int → Int → Option (Bool)
  | 0, _, _, _ => none
  | k + 1, x0, x1, x6 => if x6 < 64 then (if 0 ≤ (wrap64 ((x1.length : Int) + x6)) then (if (wrap64 ((x1.length : Int) + x6)) < (x0.length : Int) then (if (rd x0 (wrap64 ((x1.length : Int) + x6))) = ((wrap64 (192 + (Int.tmod x6 7))) % 256) then (stoaref01_Intact.l1 k x0 x1 (wrap64 (x6 + 1))) else (some false)) else (none)) else (none)) else (some true)
end
def stoaref01_Intact.f (k : Nat) (l0 : List Int) (l1 : List Int) : Option (Bool) := if (l0.length : Int) = (wrap64 ((l1.length : Int) + 64)) then (stoaref01_Intact.l0 k l0 l1 0) else (some false)
theorem stoaref01_Intact.mono_l : ∀ k, (∀ y0 y1 y2, LeO (stoaref01_Intact.l0 k y0 y1 y2) (stoaref01_Intact.l0 (k + 1) y0 y1 y2)) ∧ (∀ y0 y1 y2, LeO (stoaref01_Intact.l1 k y0 y1 y2) (stoaref01_Intact.l1 (k + 1) y0 y1 y2))
  | 0 => ⟨fun _ _ _ r h => by simp [stoaref01_Intact.l0] at h, fun _ _ _ r h => by simp [stoaref01_Intact.l1] at h⟩
  | k + 1 => by
    obtain ⟨ih0, ih1⟩ := stoaref01_Intact.mono_l k
    refine ⟨?_, ?_⟩
    · intro y0 y1 y2
      unfold stoaref01_Intact.l0
      repeat' first
      | (with_reducible exact ih0 _ _ _)
      | (with_reducible exact ih1 _ _ _)
      | (with_reducible exact LeO.refl _)
      | (with_reducible exact LeO.none _)
      | (with_reducible refine LeO.ite ?_ ?_)
      | (with_reducible refine LeO.bind ?_ (fun _ => ?_))
      | exact ih0 _ _ _
      | exact ih1 _ _ _
      | exact LeO.none _
      | refine LeO.ite ?_ ?_
      | refine LeO.bind ?_ (fun _ => ?_)
    · intro y0 y1 y2
      unfold stoaref01_Intact.l1
      repeat' first
      | (with_reducible exact ih0 _ _ _)
      | (with_reducible exact ih1 _ _ _)
      | (with_reducible exact LeO.refl _)
      | (with_reducible exact LeO.none _)
      | (with_reducible refine LeO.ite ?_ ?_)
      | (with_reducible refine LeO.bind ?_ (fun _ => ?_))
      | exact ih0 _ _ _
      | exact ih1 _ _ _
      | exact LeO.none _
      | refine LeO.ite ?_ ?_
      | refine LeO.bind ?_ (fun _ => ?_)
theorem stoaref01_Intact.mono : ∀ a0 a1 k, LeO (stoaref01_Intact.f k a0 a1) (stoaref01_Intact.f (k + 1) a0 a1) := by
  intro a0 a1 k
  obtain ⟨ih0, ih1⟩ := stoaref01_Intact.mono_l k
  unfold stoaref01_Intact.f
  repeat' first
      | (with_reducible exact ih0 _ _ _)
      | (with_reducible exact ih1 _ _ _)
      | (with_reducible exact LeO.refl _)
      | (with_reducible exact LeO.none _)
      | (with_reducible refine LeO.ite ?_ ?_)
      | (with_reducible refine LeO.bind ?_ (fun _ => ?_))
      | exact ih0 _ _ _
      | exact ih1 _ _ _
      | exact LeO.none _
      | refine LeO.ite ?_ ?_
      | refine LeO.bind ?_ (fun _ => ?_)
set_option maxHeartbeats 8000000 in
set_option maxRecDepth 100000 in
theorem stoaref01_Intact.calls (k : Nat) (A0 : Option Addr) (c0 : Nat) (l0 : List Int) (A1 : Option Addr) (c1 : Nat) (l1 : List Int) (r : Bool) (w : World) (hr0 : Kd.C (Kd.int .u8) w A0 l0.length l0) (hc0 : l0.length ≤ c0) (hr1 : Kd.C (Kd.int .u8) w A1 l1.length l1) (hc1 : l1.length ≤ c1) (h : stoaref01_Intact.f k l0 l1 = some r) :
    Calls Tryz.prog 13 #[.slice A0 l0.length c0, .slice A1 l1.length c1] w fun e w' => e = .returned (.bool r) ∧ Drawn0 w w' := by
  have HR0 := Aside0.mk hr0
  have HC0 := Aside0.mk hc0
  clear hr0 hc0
  have HR1 := Aside0.mk hr1
  have HC1 := Aside0.mk hc1
  clear hr1 hc1
  have H : (if (l0.length : Int) = (wrap64 ((l1.length : Int) + 64)) then (stoaref01_Intact.l0 k l0 l1 0) else (some false)) = some r := h
  clear h
  by_cases c3 : (l0.length : Int) = (wrap64 ((l1.length : Int) + 64))
  · rw [if_pos c3] at H
    have c3b0 : ((l0.length : Int) == (wrap64 ((l1.length : Int) + 64))) = true := beq_iff_eq.mpr c3
    have c3b1 : ((l0.length : Int) != (wrap64 ((l1.length : Int) + 64))) = false := bne_eq_false_iff_eq.mpr c3
    clear c3
    have H' := Aside0.mk H
    clear H
    go_enter Tryz.func13, Tryz.ntmps13
    go_wp2
    repeat (go_quiet (fail); try go_wp2)
    go_loopg [5] k (fun kq v5 w' => ∃ (x5_1 : Int), v5 = .int .i64 x5_1 ∧ Aside0 (stoaref01_Intact.l0 kq l0 l1 x5_1 = some r) ∧ Aside0 (kq ≤ k) ∧ Drawn0 w w')
    case atStart => exact ⟨(0), (by first | rfl | (simp; done) | (simp [*]; done)), H', ⟨Nat.le_refl _⟩, by repeat (first | exact Drawn0.refl _ | apply Drawn0.step)⟩
    case round =>
      clear H'
      try clear c1
      try clear p2
      try clear c3
      try clear c3b0
      try clear c3b1
      obtain ⟨x5_1, rfl, HA, HK1, ⟨m1, rfl⟩⟩ := hrel
      cases gk with
      | zero => exact absurd HA.out (by simp [stoaref01_Intact.l0])
      | succ k1 =>
        have H := HA.out
        clear HA
        simp only [stoaref01_Intact.l0] at H
        by_cases c4 : x5_1 < (l1.length : Int)
        · rw [if_pos c4] at H
          have c4b0 : decide (x5_1 < (l1.length : Int)) = true := decide_eq_true c4
          clear c4
          by_cases c5 : 0 ≤ x5_1
          · rw [if_pos c5] at H
            have c5b0 : decide (0 ≤ x5_1) = true := decide_eq_true c5
            clear c5
            by_cases c6 : x5_1 < (l0.length : Int)
            · rw [if_pos c6] at H
              have c6b0 : decide (x5_1 < (l0.length : Int)) = true := decide_eq_true c6
              clear c6
              by_cases c7 : (rd l0 x5_1) = (rd l1 x5_1)
              · rw [if_pos c7] at H
                have c7b0 : ((rd l0 x5_1) == (rd l1 x5_1)) = true := beq_iff_eq.mpr c7
                have c7b1 : ((rd l0 x5_1) != (rd l1 x5_1)) = false := bne_eq_false_iff_eq.mpr c7
                clear c7
                have H' := Aside0.mk H
                clear H
                have p368 : 0 ≤ (x5_1 : Int) := of_decide_eq_true (by first | (with_reducible assumption) | assumption)
                have q368 : x5_1 < (l0.length : Int) := of_decide_eq_true (by first | (with_reducible assumption) | assumption)
                obtain ⟨ad368, e368, hx368_0⟩ := Kd.at_int HR0.out x5_1 p368 q368
                cases e368
                replace p368 := eq_true p368
                replace q368 := eq_true q368
                have p369 : 0 ≤ (x5_1 : Int) := of_decide_eq_true (by first | (with_reducible assumption) | assumption)
                have q369 : x5_1 < (l1.length : Int) := of_decide_eq_true (by first | (with_reducible assumption) | assumption)
                obtain ⟨ad369, e369, hx369_0⟩ := Kd.at_int HR1.out x5_1 p369 q369
                cases e369
                replace p369 := eq_true p369
                replace q369 := eq_true q369
                go_wp2
                repeat (go_quiet (fail); try go_wp2)
                go_roundg k1
                case measure => have := HK1.out; omega
                case rel => exact ⟨(wrap64 (x5_1 + 1)), (by first | rfl | (simp; done) | (simp [*]; done)), H', ⟨by have := HK1.out; omega⟩, by repeat (first | exact Drawn0.refl _ | apply Drawn0.step)⟩
              · rw [if_neg c7] at H
                have c7b0 : ((rd l0 x5_1) == (rd l1 x5_1)) = false := beq_eq_false_iff_ne.mpr c7
                have c7b1 : ((rd l0 x5_1) != (rd l1 x5_1)) = true := bne_iff_ne.mpr c7
                obtain rfl := Option.some.inj H
                have p368 : 0 ≤ (x5_1 : Int) := of_decide_eq_true (by first | (with_reducible assumption) | assumption)
                have q368 : x5_1 < (l0.length : Int) := of_decide_eq_true (by first | (with_reducible assumption) | assumption)
                obtain ⟨ad368, e368, hx368_0⟩ := Kd.at_int HR0.out x5_1 p368 q368
                cases e368
                replace p368 := eq_true p368
                replace q368 := eq_true q368
                have p369 : 0 ≤ (x5_1 : Int) := of_decide_eq_true (by first | (with_reducible assumption) | assumption)
                have q369 : x5_1 < (l1.length : Int) := of_decide_eq_true (by first | (with_reducible assumption) | assumption)
                obtain ⟨ad369, e369, hx369_0⟩ := Kd.at_int HR1.out x5_1 p369 q369
                cases e369
                replace p369 := eq_true p369
                replace q369 := eq_true q369
                go_wp2
                repeat (go_quiet (fail); try go_wp2)
                go_ret
                exact ⟨by first | rfl | (simp; done) | (simp [*]; done), by repeat (first | exact Drawn0.refl _ | apply Drawn0.step)⟩
            · rw [if_neg c6] at H
              exact absurd H (by simp)
          · rw [if_neg c5] at H
            exact absurd H (by simp)
        · rw [if_neg c4] at H
          have c4b0 : decide (x5_1 < (l1.length : Int)) = false := decide_eq_false c4
          clear c4
          have H' := Aside0.mk H
          clear H
          go_wp2
          repeat (go_quiet (fail); try go_wp2)
          go_loopg [6] k1 (fun kq v6 w' => ∃ (x6_2 : Int), v6 = .int .i64 x6_2 ∧ Aside0 (stoaref01_Intact.l1 kq l0 l1 x6_2 = some r) ∧ Aside0 (kq ≤ k1) ∧ Drawn0 w w')
          case atStart => exact ⟨(0), (by first | rfl | (simp; done) | (simp [*]; done)), H', ⟨Nat.le_refl _⟩, by repeat (first | exact Drawn0.refl _ | apply Drawn0.step)⟩
          case round =>
            clear H'
            try clear c1
            try clear p2
            try clear c3
            try clear c3b0
            try clear c3b1
            try clear p3
            try clear q3
            try clear hx3
            try clear c4
            try clear c4b0
            try clear c5
            try clear c5b0
            try clear c6
            try clear c6b0
            try clear p6
            try clear c7
            try clear c7b0
            try clear c7b1
            try clear hx368_0
            try clear hx369_0
            try clear p2
            try clear p368
            try clear p369
            try clear q368
            try clear q369
            obtain ⟨x6_2, rfl, HA, HK2, ⟨m2, rfl⟩⟩ := hrel
            cases gk with
            | zero => exact absurd HA.out (by simp [stoaref01_Intact.l1])
            | succ k2 =>
              have H := HA.out
              clear HA
              simp only [stoaref01_Intact.l1] at H
              by_cases c8 : x6_2 < 64
              · rw [if_pos c8] at H
                have c8b0 : decide (x6_2 < 64) = true := decide_eq_true c8
                clear c8
                obtain ⟨ji9, hji9⟩ : ∃ j_ : Int, (wrap64 ((l1.length : Int) + x6_2)) = j_ := ⟨_, rfl⟩
                replace H : (if 0 ≤ (ji9) then (if (ji9) < (l0.length : Int) then (if (rd l0 (ji9)) = ((wrap64 (192 + (Int.tmod x6_2 7))) % 256) then (stoaref01_Intact.l1 k2 l0 l1 (wrap64 (x6_2 + 1))) else (some false)) else (none)) else (none)) = some r := by first | (rw [hji9] at H; exact H) | (simp only [hji9] at H ⊢; exact H)
                have hji9w : (IntKind.i64.wrap ((l1.length : Int) + x6_2)) = ji9 := (i64_w _).trans hji9
                by_cases c10 : 0 ≤ (ji9)
                · rw [if_pos c10] at H
                  have c10b0 : decide (0 ≤ (ji9)) = true := decide_eq_true c10
                  clear c10
                  by_cases c11 : (ji9) < (l0.length : Int)
                  · rw [if_pos c11] at H
                    have c11b0 : decide ((ji9) < (l0.length : Int)) = true := decide_eq_true c11
                    clear c11
                    by_cases c12 : (rd l0 (ji9)) = ((wrap64 (192 + (Int.tmod x6_2 7))) % 256)
                    · rw [if_pos c12] at H
                      have c12b0 : ((rd l0 (ji9)) == ((wrap64 (192 + (Int.tmod x6_2 7))) % 256)) = true := beq_iff_eq.mpr c12
                      have c12b1 : ((rd l0 (ji9)) != ((wrap64 (192 + (Int.tmod x6_2 7))) % 256)) = false := bne_eq_false_iff_eq.mpr c12
                      clear c12
                      have H' := Aside0.mk H
                      clear H
                      have p370 : 0 ≤ ((ji9) : Int) := of_decide_eq_true (by first | (with_reducible assumption) | assumption)
                      have q370 : (ji9) < (l0.length : Int) := of_decide_eq_true (by first | (with_reducible assumption) | assumption)
                      obtain ⟨ad370, e370, hx370_0⟩ := Kd.at_int HR0.out (ji9) p370 q370
                      cases e370
                      replace p370 := eq_true p370
                      replace q370 := eq_true q370
                      go_wp2
                      repeat (go_quiet (fail); try go_wp2)
                      go_roundg k2
                      case measure => have := HK1.out; have := HK2.out; omega
                      case rel => exact ⟨(wrap64 (x6_2 + 1)), (by first | rfl | (simp; done) | (simp [*]; done)), H', ⟨by have := HK1.out; have := HK2.out; omega⟩, by repeat (first | exact Drawn0.refl _ | apply Drawn0.step)⟩
                    · rw [if_neg c12] at H
                      have c12b0 : ((rd l0 (ji9)) == ((wrap64 (192 + (Int.tmod x6_2 7))) % 256)) = false := beq_eq_false_iff_ne.mpr c12
                      have c12b1 : ((rd l0 (ji9)) != ((wrap64 (192 + (Int.tmod x6_2 7))) % 256)) = true := bne_iff_ne.mpr c12
                      obtain rfl := Option.some.inj H
                      have p370 : 0 ≤ ((ji9) : Int) := of_decide_eq_true (by first | (with_reducible assumption) | assumption)
                      have q370 : (ji9) < (l0.length : Int) := of_decide_eq_true (by first | (with_reducible assumption) | assumption)
                      obtain ⟨ad370, e370, hx370_0⟩ := Kd.at_int HR0.out (ji9) p370 q370
                      cases e370
                      replace p370 := eq_true p370
                      replace q370 := eq_true q370
                      go_wp2
                      repeat (go_quiet (fail); try go_wp2)
                      go_ret
                      exact ⟨by first | rfl | (simp; done) | (simp only [← hji9] <;> (first | rfl | simp)) | (simp [*]; done), by repeat (first | exact Drawn0.refl _ | apply Drawn0.step)⟩
                  · rw [if_neg c11] at H
                    exact absurd H (by simp)
                · rw [if_neg c10] at H
                  exact absurd H (by simp)
              · rw [if_neg c8] at H
                have c8b0 : decide (x6_2 < 64) = false := decide_eq_false c8
                clear c8
                obtain rfl := Option.some.inj H
                go_wp2
                repeat (go_quiet (fail); try go_wp2)
                go_ret
                exact ⟨by first | rfl | (simp; done) | (simp [*]; done), by repeat (first | exact Drawn0.refl _ | apply Drawn0.step)⟩
  · rw [if_neg c3] at H
    have c3b0 : ((l0.length : Int) == (wrap64 ((l1.length : Int) + 64))) = false := beq_eq_false_iff_ne.mpr c3
    have c3b1 : ((l0.length : Int) != (wrap64 ((l1.length : Int) + 64))) = true := bne_iff_ne.mpr c3
    obtain rfl := Option.some.inj H
    go_enter Tryz.func13, Tryz.ntmps13
    go_wp2
    repeat (go_quiet (fail); try go_wp2)
    go_ret
    exact ⟨by first | rfl | (simp; done) | (simp [*]; done), by repeat (first | exact Drawn0.refl _ | apply Drawn0.step)⟩

/-! ### stoaref14_Used: function 72 -/
def stoaref14_Used.l0 : Nat → List (S93) → Int → Int → List (S54) → List (S93) → List (S113) → Int → List (S69) → Int → Bool → Option (Int)
  | 0, _, _, _, _, _, _, _, _, _, _ => none
  | k + 1, x3, x4, x5, x372000, x372001, x372002, x372003, x372004, x372005, x372006 => if x5 < (x3.length : Int) then (if 0 ≤ x5 then (if 0 ≤ ((rd_T93 x3 x5).f1) then (if ((rd_T93 x3 x5).f1) < (x372000.length : Int) then (stoaref14_Used.l0 k x3 (wrap64 (x4 + (((rd_T54 x372000 ((rd_T93 x3 x5).f1)).f0).length : Int))) (wrap64 (x5 + 1)) x372000 x372001 x372002 x372003 x372004 x372005 x372006) else (none)) else (none)) else (none)) else (some x4)
def stoaref14_Used.f (k : Nat) (l0_0 : List (S54)) (l0_1 : List (S93)) (l0_2 : List (S113)) (a0_3 : Int) (l0_4 : List (S69)) (a0_5 : Int) (a0_6 : Bool) : Option (Int) := (stoaref14_Now.f k l0_0 l0_1 l0_2 a0_3 l0_4 a0_5 a0_6).bind fun t372 => (stoaref14_Used.l0 k t372 0 0 l0_0 l0_1 l0_2 a0_3 l0_4 a0_5 a0_6)
theorem stoaref14_Used.mono_l : ∀ k, (∀ y0 y1 y2 y3 y4 y5 y6 y7 y8 y9, LeO (stoaref14_Used.l0 k y0 y1 y2 y3 y4 y5 y6 y7 y8 y9) (stoaref14_Used.l0 (k + 1) y0 y1 y2 y3 y4 y5 y6 y7 y8 y9))
  | 0 => fun _ _ _ _ _ _ _ _ _ _ r h => by simp [stoaref14_Used.l0] at h
  | k + 1 => by
    have ih0 := stoaref14_Used.mono_l k
    · intro y0 y1 y2 y3 y4 y5 y6 y7 y8 y9
      unfold stoaref14_Used.l0
      repeat' first
      | (with_reducible exact ih0 _ _ _ _ _ _ _ _ _ _)
      | (with_reducible exact stoaref14_Now.mono _ _ _ _ _ _ _ _)
      | (with_reducible exact LeO.refl _)
      | (with_reducible exact LeO.none _)
      | (with_reducible refine LeO.ite ?_ ?_)
      | (with_reducible refine LeO.bind ?_ (fun _ => ?_))
      | exact ih0 _ _ _ _ _ _ _ _ _ _
      | exact stoaref14_Now.mono _ _ _ _ _ _ _ _
      | exact LeO.none _
      | refine LeO.ite ?_ ?_
      | refine LeO.bind ?_ (fun _ => ?_)
theorem stoaref14_Used.mono : ∀ a0 a1 a2 a3 a4 a5 a6 k, LeO (stoaref14_Used.f k a0 a1 a2 a3 a4 a5 a6) (stoaref14_Used.f (k + 1) a0 a1 a2 a3 a4 a5 a6) := by
  intro a0 a1 a2 a3 a4 a5 a6 k
  have ih0 := stoaref14_Used.mono_l k
  unfold stoaref14_Used.f
  repeat' first
      | (with_reducible exact ih0 _ _ _ _ _ _ _ _ _ _)
      | (with_reducible exact stoaref14_Now.mono _ _ _ _ _ _ _ _)
      | (with_reducible exact LeO.refl _)
      | (with_reducible exact LeO.none _)
      | (with_reducible refine LeO.ite ?_ ?_)
      | (with_reducible refine LeO.bind ?_ (fun _ => ?_))
      | exact ih0 _ _ _ _ _ _ _ _ _ _
      | exact stoaref14_Now.mono _ _ _ _ _ _ _ _
      | exact LeO.none _
      | refine LeO.ite ?_ ?_
      | refine LeO.bind ?_ (fun _ => ?_)
set_option maxHeartbeats 8000000 in
set_option maxRecDepth 100000 in
theorem stoaref14_Used.calls (k : Nat) (A0_0 : Option Addr) (c0_0 : Nat) (l0_0 : List (S54)) (A0_1 : Option Addr) (c0_1 : Nat) (l0_1 : List (S93)) (A0_2 : Option Addr) (c0_2 : Nat) (l0_2 : List (S113)) (a0_3 : Int) (A0_4 : Option Addr) (c0_4 : Nat) (l0_4 : List (S69)) (a0_5 : Int) (a0_6 : Bool) (r : Int) (w : World) (hr0_0 : Kd.C k54 w A0_0 l0_0.length l0_0) (hc0_0 : l0_0.length ≤ c0_0) (hr0_1 : Kd.C k93 w A0_1 l0_1.length l0_1) (hc0_1 : l0_1.length ≤ c0_1) (hr0_2 : Kd.C k113 w A0_2 l0_2.length l0_2) (hc0_2 : l0_2.length ≤ c0_2) (hr0_4 : Kd.C k69 w A0_4 l0_4.length l0_4) (hc0_4 : l0_4.length ≤ c0_4) (h : stoaref14_Used.f k l0_0 l0_1 l0_2 a0_3 l0_4 a0_5 a0_6 = some r) :
    Calls Tryz.prog 72 #[.agg #[.slice A0_0 l0_0.length c0_0, .slice A0_1 l0_1.length c0_1, .slice A0_2 l0_2.length c0_2, .int .i64 a0_3, .slice A0_4 l0_4.length c0_4, .int .i64 a0_5, .bool a0_6]] w fun e w' => e = .returned (.int .i64 r) ∧ Below w.heap.size w w' := by
  have hu35 := Tryz.underlying35
  have HR0_0 := Aside0.mk hr0_0
  have HC0_0 := Aside0.mk hc0_0
  clear hr0_0 hc0_0
  have HR0_1 := Aside0.mk hr0_1
  have HC0_1 := Aside0.mk hc0_1
  clear hr0_1 hc0_1
  have HR0_2 := Aside0.mk hr0_2
  have HC0_2 := Aside0.mk hc0_2
  clear hr0_2 hc0_2
  have HR0_4 := Aside0.mk hr0_4
  have HC0_4 := Aside0.mk hc0_4
  clear hr0_4 hc0_4
  have HB := Aside0.mk (Below.refl w.heap.size w)
  have H : ((stoaref14_Now.f k l0_0 l0_1 l0_2 a0_3 l0_4 a0_5 a0_6).bind fun t372 => (stoaref14_Used.l0 k t372 0 0 l0_0 l0_1 l0_2 a0_3 l0_4 a0_5 a0_6)) = some r := h
  clear h
  replace H := Option.bind_eq_some_iff.mp H
  obtain ⟨t372, A20, H⟩ := H
  replace H : (stoaref14_Used.l0 k t372 0 0 l0_0 l0_1 l0_2 a0_3 l0_4 a0_5 a0_6) = some r := H
  have A2 := Aside0.mk A20
  clear A20
  have H' := Aside0.mk H
  clear H
  go_enter Tryz.func72, Tryz.ntmps72
  go_wp2_with (first | ((with_reducible refine gate_dst (N := 1) rfl ?_); refine box_event ?hg (N := 1) ?hd (cs := #[.slice A0_0 l0_0.length c0_0, .slice A0_1 l0_1.length c0_1, .slice A0_2 l0_2.length c0_2, .int .i64 a0_3, .slice A0_4 l0_4.length c0_4, .int .i64 a0_5, .bool a0_6]) (t := 35) ?hr ?_; (case hd => rfl); (case hg => rfl); (case hr => first | (go_simp; done) | (go_simp; rfl)); intro gb371 hg w3 hbox hb; have n0_ := Aside0.mk (below_step (by repeat (first | (with_reducible first | exact HB.out | apply below_alloc | apply pw_below_drewN | apply below_drew1) | exact HB.out)) hb); have n1_ := Aside0.mk (hbox); have n2_ := Aside0.mk ((by rw [hg]; exact (below_size (by repeat (first | (with_reducible first | exact HB.out | apply below_alloc | apply pw_below_drewN | apply below_drew1) | exact HB.out))) : w.heap.size ≤ gb371)); have n3_ := Aside0.mk ((by rw [hg]; exact (below_size (by repeat (first | (with_reducible first | exact HB.out | apply below_alloc | apply pw_below_drewN | apply below_drew1) | exact HB.out))) : w.heap.size ≤ gb371)); clear HB; have HB := n0_; have BK371 := n1_; have GW371 := n2_; have GE371 := n3_; clear n0_ n1_ n2_ n3_; clear hb hbox hg; have hcz4_0 : w3.cell? ⟨gb371, 0, none⟩ = some (.slice A0_0 l0_0.length c0_0) := (blk_cell BK371.out 0).trans rfl; have hcz4_1 : w3.cell? ⟨gb371, 1, none⟩ = some (.slice A0_1 l0_1.length c0_1) := (blk_cell BK371.out 1).trans rfl; have hcz4_2 : w3.cell? ⟨gb371, 2, none⟩ = some (.slice A0_2 l0_2.length c0_2) := (blk_cell BK371.out 2).trans rfl; have hcz4_3 : w3.cell? ⟨gb371, 3, none⟩ = some (.int .i64 a0_3) := (blk_cell BK371.out 3).trans rfl; have hcz4_4 : w3.cell? ⟨gb371, 4, none⟩ = some (.slice A0_4 l0_4.length c0_4) := (blk_cell BK371.out 4).trans rfl; have hcz4_5 : w3.cell? ⟨gb371, 5, none⟩ = some (.int .i64 a0_5) := (blk_cell BK371.out 5).trans rfl; have hcz4_6 : w3.cell? ⟨gb371, 6, none⟩ = some (.bool a0_6) := (blk_cell BK371.out 6).trans rfl; have hfz4_0 := blk_frozen BK371.out 0; have hfz4_1 := blk_frozen BK371.out 1; have hfz4_2 := blk_frozen BK371.out 2; have hfz4_3 := blk_frozen BK371.out 3; have hfz4_4 := blk_frozen BK371.out 4; have hfz4_5 := blk_frozen BK371.out 5; have hfz4_6 := blk_frozen BK371.out 6) | (go_at_call 50; (with_reducible refine (stoaref14_Now.calls k _ _ l0_0 (fun k_ => k_ < w.heap.size) _ _ l0_1 _ _ l0_2 a0_3 _ _ l0_4 a0_5 a0_6 t372 _ ?side1 ?side2 ?side3 ?side4 ?side5 ?side6 ?side7 A2.out).mono ?_); (case side1 => repeat (first | exact (Kd.C_below HR0_0.out HB.out) | (with_reducible refine Kd.C_alloc ?_ _) | (with_reducible refine Kd.C_drewN ?_ _) | (with_reducible refine Kd.C_drew ?_))); (case side2 => exact HC0_0.out); (case side3 => exact Kd.V_mk HC0_1.out (Kd.F_below (Kd.C_F k93_heap HR0_1.out) (by repeat (first | (with_reducible first | exact HB.out | apply below_alloc | apply pw_below_drewN | apply below_drew1 | refine below_set ?_ GE371.out) | exact HB.out)))); (case side4 => repeat (first | exact (Kd.C_below HR0_2.out HB.out) | (with_reducible refine Kd.C_alloc ?_ _) | (with_reducible refine Kd.C_drewN ?_ _) | (with_reducible refine Kd.C_drew ?_))); (case side5 => exact HC0_2.out); (case side6 => repeat (first | exact (Kd.C_below HR0_4.out HB.out) | (with_reducible refine Kd.C_alloc ?_ _) | (with_reducible refine Kd.C_drewN ?_ _) | (with_reducible refine Kd.C_drew ?_))); (case side7 => exact HC0_4.out); rintro e w5 ⟨v373, rfl, ho0, hb⟩; have n0_ := Aside0.mk (Kd.V_lower (Kd.V_mono (ok' := fun k_ => k_ ≠ gb371) ho0 (fun k_ hk_ => Or.elim hk_ (fun hs_ => fun e_ => Nat.not_le.2 hs_ (by rw [e_]; exact GW371.out)) (fun hn_ => (Kd.freshB (g := gb371) (o := .cells #[.slice A0_0 l0_0.length c0_0, .slice A0_1 l0_1.length c0_1, .slice A0_2 l0_2.length c0_2, .int .i64 a0_3, .slice A0_4 l0_4.length c0_4, .int .i64 a0_5, .bool a0_6] 35 (0, 0)) (by (with_reducible repeat (first | refine blk_drewN ?_ _ | refine blk_drew ?_ | refine blk_alloc ?_ _)); exact BK371.out) k_ hn_)))) (below_size (by repeat (first | (with_reducible first | exact HB.out | apply below_alloc | apply pw_below_drewN | apply below_drew1 | refine below_set ?_ GE371.out) | exact HB.out)))); have n1_ := Aside0.mk (blk_below (g := gb371) (o := .cells #[.slice A0_0 l0_0.length c0_0, .slice A0_1 l0_1.length c0_1, .slice A0_2 l0_2.length c0_2, .int .i64 a0_3, .slice A0_4 l0_4.length c0_4, .int .i64 a0_5, .bool a0_6] 35 (0, 0)) (by (with_reducible repeat (first | refine blk_drewN ?_ _ | refine blk_drew ?_ | refine blk_alloc ?_ _)); exact BK371.out) hb); have n2_ := Aside0.mk (below_step (by repeat (first | (with_reducible first | exact HB.out | apply below_alloc | apply pw_below_drewN | apply below_drew1 | refine below_set ?_ GE371.out) | exact HB.out)) hb); clear BK371; clear HB; have HO374 := n0_; have BK371 := n1_; have HB := n2_; clear n0_ n1_ n2_; (try clear hb); (try clear hb2); (try clear hk); (try clear hi); (try clear ho0)))
  repeat (go_quiet (first | ((with_reducible refine gate_dst (N := 1) rfl ?_); refine box_event ?hg (N := 1) ?hd (cs := #[.slice A0_0 l0_0.length c0_0, .slice A0_1 l0_1.length c0_1, .slice A0_2 l0_2.length c0_2, .int .i64 a0_3, .slice A0_4 l0_4.length c0_4, .int .i64 a0_5, .bool a0_6]) (t := 35) ?hr ?_; (case hd => rfl); (case hg => rfl); (case hr => first | (go_simp; done) | (go_simp; rfl)); intro gb371 hg w3 hbox hb; have n0_ := Aside0.mk (below_step (by repeat (first | (with_reducible first | exact HB.out | apply below_alloc | apply pw_below_drewN | apply below_drew1) | exact HB.out)) hb); have n1_ := Aside0.mk (hbox); have n2_ := Aside0.mk ((by rw [hg]; exact (below_size (by repeat (first | (with_reducible first | exact HB.out | apply below_alloc | apply pw_below_drewN | apply below_drew1) | exact HB.out))) : w.heap.size ≤ gb371)); have n3_ := Aside0.mk ((by rw [hg]; exact (below_size (by repeat (first | (with_reducible first | exact HB.out | apply below_alloc | apply pw_below_drewN | apply below_drew1) | exact HB.out))) : w.heap.size ≤ gb371)); clear HB; have HB := n0_; have BK371 := n1_; have GW371 := n2_; have GE371 := n3_; clear n0_ n1_ n2_ n3_; clear hb hbox hg; have hcz4_0 : w3.cell? ⟨gb371, 0, none⟩ = some (.slice A0_0 l0_0.length c0_0) := (blk_cell BK371.out 0).trans rfl; have hcz4_1 : w3.cell? ⟨gb371, 1, none⟩ = some (.slice A0_1 l0_1.length c0_1) := (blk_cell BK371.out 1).trans rfl; have hcz4_2 : w3.cell? ⟨gb371, 2, none⟩ = some (.slice A0_2 l0_2.length c0_2) := (blk_cell BK371.out 2).trans rfl; have hcz4_3 : w3.cell? ⟨gb371, 3, none⟩ = some (.int .i64 a0_3) := (blk_cell BK371.out 3).trans rfl; have hcz4_4 : w3.cell? ⟨gb371, 4, none⟩ = some (.slice A0_4 l0_4.length c0_4) := (blk_cell BK371.out 4).trans rfl; have hcz4_5 : w3.cell? ⟨gb371, 5, none⟩ = some (.int .i64 a0_5) := (blk_cell BK371.out 5).trans rfl; have hcz4_6 : w3.cell? ⟨gb371, 6, none⟩ = some (.bool a0_6) := (blk_cell BK371.out 6).trans rfl; have hfz4_0 := blk_frozen BK371.out 0; have hfz4_1 := blk_frozen BK371.out 1; have hfz4_2 := blk_frozen BK371.out 2; have hfz4_3 := blk_frozen BK371.out 3; have hfz4_4 := blk_frozen BK371.out 4; have hfz4_5 := blk_frozen BK371.out 5; have hfz4_6 := blk_frozen BK371.out 6) | (go_at_call 50; (with_reducible refine (stoaref14_Now.calls k _ _ l0_0 (fun k_ => k_ < w.heap.size) _ _ l0_1 _ _ l0_2 a0_3 _ _ l0_4 a0_5 a0_6 t372 _ ?side1 ?side2 ?side3 ?side4 ?side5 ?side6 ?side7 A2.out).mono ?_); (case side1 => repeat (first | exact (Kd.C_below HR0_0.out HB.out) | (with_reducible refine Kd.C_alloc ?_ _) | (with_reducible refine Kd.C_drewN ?_ _) | (with_reducible refine Kd.C_drew ?_))); (case side2 => exact HC0_0.out); (case side3 => exact Kd.V_mk HC0_1.out (Kd.F_below (Kd.C_F k93_heap HR0_1.out) (by repeat (first | (with_reducible first | exact HB.out | apply below_alloc | apply pw_below_drewN | apply below_drew1 | refine below_set ?_ GE371.out) | exact HB.out)))); (case side4 => repeat (first | exact (Kd.C_below HR0_2.out HB.out) | (with_reducible refine Kd.C_alloc ?_ _) | (with_reducible refine Kd.C_drewN ?_ _) | (with_reducible refine Kd.C_drew ?_))); (case side5 => exact HC0_2.out); (case side6 => repeat (first | exact (Kd.C_below HR0_4.out HB.out) | (with_reducible refine Kd.C_alloc ?_ _) | (with_reducible refine Kd.C_drewN ?_ _) | (with_reducible refine Kd.C_drew ?_))); (case side7 => exact HC0_4.out); rintro e w5 ⟨v373, rfl, ho0, hb⟩; have n0_ := Aside0.mk (Kd.V_lower (Kd.V_mono (ok' := fun k_ => k_ ≠ gb371) ho0 (fun k_ hk_ => Or.elim hk_ (fun hs_ => fun e_ => Nat.not_le.2 hs_ (by rw [e_]; exact GW371.out)) (fun hn_ => (Kd.freshB (g := gb371) (o := .cells #[.slice A0_0 l0_0.length c0_0, .slice A0_1 l0_1.length c0_1, .slice A0_2 l0_2.length c0_2, .int .i64 a0_3, .slice A0_4 l0_4.length c0_4, .int .i64 a0_5, .bool a0_6] 35 (0, 0)) (by (with_reducible repeat (first | refine blk_drewN ?_ _ | refine blk_drew ?_ | refine blk_alloc ?_ _)); exact BK371.out) k_ hn_)))) (below_size (by repeat (first | (with_reducible first | exact HB.out | apply below_alloc | apply pw_below_drewN | apply below_drew1 | refine below_set ?_ GE371.out) | exact HB.out)))); have n1_ := Aside0.mk (blk_below (g := gb371) (o := .cells #[.slice A0_0 l0_0.length c0_0, .slice A0_1 l0_1.length c0_1, .slice A0_2 l0_2.length c0_2, .int .i64 a0_3, .slice A0_4 l0_4.length c0_4, .int .i64 a0_5, .bool a0_6] 35 (0, 0)) (by (with_reducible repeat (first | refine blk_drewN ?_ _ | refine blk_drew ?_ | refine blk_alloc ?_ _)); exact BK371.out) hb); have n2_ := Aside0.mk (below_step (by repeat (first | (with_reducible first | exact HB.out | apply below_alloc | apply pw_below_drewN | apply below_drew1 | refine below_set ?_ GE371.out) | exact HB.out)) hb); clear BK371; clear HB; have HO374 := n0_; have BK371 := n1_; have HB := n2_; clear n0_ n1_ n2_; (try clear hb); (try clear hb2); (try clear hk); (try clear hi); (try clear ho0))); try go_wp2_with (first | ((with_reducible refine gate_dst (N := 1) rfl ?_); refine box_event ?hg (N := 1) ?hd (cs := #[.slice A0_0 l0_0.length c0_0, .slice A0_1 l0_1.length c0_1, .slice A0_2 l0_2.length c0_2, .int .i64 a0_3, .slice A0_4 l0_4.length c0_4, .int .i64 a0_5, .bool a0_6]) (t := 35) ?hr ?_; (case hd => rfl); (case hg => rfl); (case hr => first | (go_simp; done) | (go_simp; rfl)); intro gb371 hg w3 hbox hb; have n0_ := Aside0.mk (below_step (by repeat (first | (with_reducible first | exact HB.out | apply below_alloc | apply pw_below_drewN | apply below_drew1) | exact HB.out)) hb); have n1_ := Aside0.mk (hbox); have n2_ := Aside0.mk ((by rw [hg]; exact (below_size (by repeat (first | (with_reducible first | exact HB.out | apply below_alloc | apply pw_below_drewN | apply below_drew1) | exact HB.out))) : w.heap.size ≤ gb371)); have n3_ := Aside0.mk ((by rw [hg]; exact (below_size (by repeat (first | (with_reducible first | exact HB.out | apply below_alloc | apply pw_below_drewN | apply below_drew1) | exact HB.out))) : w.heap.size ≤ gb371)); clear HB; have HB := n0_; have BK371 := n1_; have GW371 := n2_; have GE371 := n3_; clear n0_ n1_ n2_ n3_; clear hb hbox hg; have hcz4_0 : w3.cell? ⟨gb371, 0, none⟩ = some (.slice A0_0 l0_0.length c0_0) := (blk_cell BK371.out 0).trans rfl; have hcz4_1 : w3.cell? ⟨gb371, 1, none⟩ = some (.slice A0_1 l0_1.length c0_1) := (blk_cell BK371.out 1).trans rfl; have hcz4_2 : w3.cell? ⟨gb371, 2, none⟩ = some (.slice A0_2 l0_2.length c0_2) := (blk_cell BK371.out 2).trans rfl; have hcz4_3 : w3.cell? ⟨gb371, 3, none⟩ = some (.int .i64 a0_3) := (blk_cell BK371.out 3).trans rfl; have hcz4_4 : w3.cell? ⟨gb371, 4, none⟩ = some (.slice A0_4 l0_4.length c0_4) := (blk_cell BK371.out 4).trans rfl; have hcz4_5 : w3.cell? ⟨gb371, 5, none⟩ = some (.int .i64 a0_5) := (blk_cell BK371.out 5).trans rfl; have hcz4_6 : w3.cell? ⟨gb371, 6, none⟩ = some (.bool a0_6) := (blk_cell BK371.out 6).trans rfl; have hfz4_0 := blk_frozen BK371.out 0; have hfz4_1 := blk_frozen BK371.out 1; have hfz4_2 := blk_frozen BK371.out 2; have hfz4_3 := blk_frozen BK371.out 3; have hfz4_4 := blk_frozen BK371.out 4; have hfz4_5 := blk_frozen BK371.out 5; have hfz4_6 := blk_frozen BK371.out 6) | (go_at_call 50; (with_reducible refine (stoaref14_Now.calls k _ _ l0_0 (fun k_ => k_ < w.heap.size) _ _ l0_1 _ _ l0_2 a0_3 _ _ l0_4 a0_5 a0_6 t372 _ ?side1 ?side2 ?side3 ?side4 ?side5 ?side6 ?side7 A2.out).mono ?_); (case side1 => repeat (first | exact (Kd.C_below HR0_0.out HB.out) | (with_reducible refine Kd.C_alloc ?_ _) | (with_reducible refine Kd.C_drewN ?_ _) | (with_reducible refine Kd.C_drew ?_))); (case side2 => exact HC0_0.out); (case side3 => exact Kd.V_mk HC0_1.out (Kd.F_below (Kd.C_F k93_heap HR0_1.out) (by repeat (first | (with_reducible first | exact HB.out | apply below_alloc | apply pw_below_drewN | apply below_drew1 | refine below_set ?_ GE371.out) | exact HB.out)))); (case side4 => repeat (first | exact (Kd.C_below HR0_2.out HB.out) | (with_reducible refine Kd.C_alloc ?_ _) | (with_reducible refine Kd.C_drewN ?_ _) | (with_reducible refine Kd.C_drew ?_))); (case side5 => exact HC0_2.out); (case side6 => repeat (first | exact (Kd.C_below HR0_4.out HB.out) | (with_reducible refine Kd.C_alloc ?_ _) | (with_reducible refine Kd.C_drewN ?_ _) | (with_reducible refine Kd.C_drew ?_))); (case side7 => exact HC0_4.out); rintro e w5 ⟨v373, rfl, ho0, hb⟩; have n0_ := Aside0.mk (Kd.V_lower (Kd.V_mono (ok' := fun k_ => k_ ≠ gb371) ho0 (fun k_ hk_ => Or.elim hk_ (fun hs_ => fun e_ => Nat.not_le.2 hs_ (by rw [e_]; exact GW371.out)) (fun hn_ => (Kd.freshB (g := gb371) (o := .cells #[.slice A0_0 l0_0.length c0_0, .slice A0_1 l0_1.length c0_1, .slice A0_2 l0_2.length c0_2, .int .i64 a0_3, .slice A0_4 l0_4.length c0_4, .int .i64 a0_5, .bool a0_6] 35 (0, 0)) (by (with_reducible repeat (first | refine blk_drewN ?_ _ | refine blk_drew ?_ | refine blk_alloc ?_ _)); exact BK371.out) k_ hn_)))) (below_size (by repeat (first | (with_reducible first | exact HB.out | apply below_alloc | apply pw_below_drewN | apply below_drew1 | refine below_set ?_ GE371.out) | exact HB.out)))); have n1_ := Aside0.mk (blk_below (g := gb371) (o := .cells #[.slice A0_0 l0_0.length c0_0, .slice A0_1 l0_1.length c0_1, .slice A0_2 l0_2.length c0_2, .int .i64 a0_3, .slice A0_4 l0_4.length c0_4, .int .i64 a0_5, .bool a0_6] 35 (0, 0)) (by (with_reducible repeat (first | refine blk_drewN ?_ _ | refine blk_drew ?_ | refine blk_alloc ?_ _)); exact BK371.out) hb); have n2_ := Aside0.mk (below_step (by repeat (first | (with_reducible first | exact HB.out | apply below_alloc | apply pw_below_drewN | apply below_drew1 | refine below_set ?_ GE371.out) | exact HB.out)) hb); clear BK371; clear HB; have HO374 := n0_; have BK371 := n1_; have HB := n2_; clear n0_ n1_ n2_; (try clear hb); (try clear hb2); (try clear hk); (try clear hi); (try clear ho0))))
  go_loopg [4, 5] k (fun kq v4 v5 w' => ∃ (x4_1 : Int) (x5_1 : Int), v4 = .int .i64 x4_1 ∧ v5 = .int .i64 x5_1 ∧ Aside0 (stoaref14_Used.l0 kq t372 x4_1 x5_1 l0_0 l0_1 l0_2 a0_3 l0_4 a0_5 a0_6 = some r) ∧ Aside0 (kq ≤ k) ∧ Aside0 (Kd.V k93 93 w' w.heap.size (fun k_ => k_ ≠ gb371) v373 t372) ∧ Aside0 (w'.heap[gb371]? = some (.cells #[(.slice A0_0 l0_0.length c0_0), (.slice A0_1 l0_1.length c0_1), (.slice A0_2 l0_2.length c0_2), .int .i64 a0_3, (.slice A0_4 l0_4.length c0_4), .int .i64 a0_5, .bool a0_6] 35 (0, 0))) ∧ Aside0 (Below w.heap.size w w'))
  case atStart => exact ⟨(0), (0), (by first | rfl | (simp; done) | (simp [*]; done)), (by first | rfl | (simp; done) | (simp [*]; done)), H', ⟨Nat.le_refl _⟩, ⟨by (with_reducible repeat (first | apply Kd.V_alloc | apply Kd.V_drewN | apply Kd.V_drew)); exact HO374.out⟩, ⟨by (with_reducible repeat (first | refine blk_drewN ?_ _ | refine blk_drew ?_ | refine blk_alloc ?_ _)); exact BK371.out⟩, ⟨by repeat (first | (with_reducible first | exact HB.out | apply below_alloc | apply pw_below_drewN | apply below_drew1 | refine below_set ?_ GE371.out) | exact HB.out)⟩⟩
  case round =>
    clear H'
    try clear p2
    try clear hcz4_0
    try clear hcz4_1
    try clear hcz4_2
    try clear hcz4_3
    try clear hcz4_4
    try clear hcz4_5
    try clear hcz4_6
    try clear hfz4_0
    try clear hfz4_1
    try clear hfz4_2
    try clear hfz4_3
    try clear hfz4_4
    try clear hfz4_5
    try clear hfz4_6
    obtain ⟨x4_1, x5_1, rfl, rfl, HA, HK1, HO_3, BK371, HB⟩ := hrel
    cases gk with
    | zero => exact absurd HA.out (by simp [stoaref14_Used.l0])
    | succ k1 =>
      have H := HA.out
      clear HA
      simp only [stoaref14_Used.l0] at H
      by_cases c6 : x5_1 < (t372.length : Int)
      · rw [if_pos c6] at H
        have c6b0 : decide (x5_1 < (t372.length : Int)) = true := decide_eq_true c6
        clear c6
        by_cases c7 : 0 ≤ x5_1
        · rw [if_pos c7] at H
          have c7b0 : decide (0 ≤ x5_1) = true := decide_eq_true c7
          clear c7
          by_cases c8 : 0 ≤ ((rd_T93 t372 x5_1).f1)
          · rw [if_pos c8] at H
            have c8b0 : decide (0 ≤ ((rd_T93 t372 x5_1).f1)) = true := decide_eq_true c8
            clear c8
            by_cases c9 : ((rd_T93 t372 x5_1).f1) < (l0_0.length : Int)
            · rw [if_pos c9] at H
              have c9b0 : decide (((rd_T93 t372 x5_1).f1) < (l0_0.length : Int)) = true := decide_eq_true c9
              clear c9
              have H' := Aside0.mk H
              clear H
              obtain ⟨Ao10, co10, eo10⟩ := Kd.V_slice HO_3.out
              subst eo10
              have hcz11_0 : wr.cell? ⟨gb371, 0, none⟩ = some (.slice A0_0 l0_0.length c0_0) := (blk_cell BK371.out 0).trans rfl
              have hcz11_1 : wr.cell? ⟨gb371, 1, none⟩ = some (.slice A0_1 l0_1.length c0_1) := (blk_cell BK371.out 1).trans rfl
              have hcz11_2 : wr.cell? ⟨gb371, 2, none⟩ = some (.slice A0_2 l0_2.length c0_2) := (blk_cell BK371.out 2).trans rfl
              have hcz11_3 : wr.cell? ⟨gb371, 3, none⟩ = some (.int .i64 a0_3) := (blk_cell BK371.out 3).trans rfl
              have hcz11_4 : wr.cell? ⟨gb371, 4, none⟩ = some (.slice A0_4 l0_4.length c0_4) := (blk_cell BK371.out 4).trans rfl
              have hcz11_5 : wr.cell? ⟨gb371, 5, none⟩ = some (.int .i64 a0_5) := (blk_cell BK371.out 5).trans rfl
              have hcz11_6 : wr.cell? ⟨gb371, 6, none⟩ = some (.bool a0_6) := (blk_cell BK371.out 6).trans rfl
              have hfz11_0 := blk_frozen BK371.out 0
              have hfz11_1 := blk_frozen BK371.out 1
              have hfz11_2 := blk_frozen BK371.out 2
              have hfz11_3 := blk_frozen BK371.out 3
              have hfz11_4 := blk_frozen BK371.out 4
              have hfz11_5 := blk_frozen BK371.out 5
              have hfz11_6 := blk_frozen BK371.out 6
              have p375 : 0 ≤ (x5_1 : Int) := of_decide_eq_true (by first | (with_reducible assumption) | assumption)
              have q375 : x5_1 < (t372.length : Int) := of_decide_eq_true (by first | (with_reducible assumption) | assumption)
              obtain ⟨ad375, e375, hx375_0, hx375_1⟩ := at_T93 (Kd.V_reads' HO_3.out).2.2 x5_1 p375 q375
              cases e375
              replace p375 := eq_true p375
              replace q375 := eq_true q375
              have p376 : 0 ≤ (((rd_T93 t372 x5_1).f1) : Int) := of_decide_eq_true (by first | (with_reducible assumption) | assumption)
              have q376 : ((rd_T93 t372 x5_1).f1) < (l0_0.length : Int) := of_decide_eq_true (by first | (with_reducible assumption) | assumption)
              obtain ⟨ad376, A376_0, c376_0, e376, hx376_0, hx376_1, hl376_0, hi376_0⟩ := at_T54 HR0_0.out ((rd_T93 t372 x5_1).f1) p376 q376
              cases e376
              replace hx376_0 := (HB.out.cell (World.block_lt_of_cell? w _ hx376_0)).trans hx376_0
              replace hx376_1 := (HB.out.cell (World.block_lt_of_cell? w _ hx376_1)).trans hx376_1
              have HR376_0 := Aside0.mk hi376_0
              have HC376_0 := Aside0.mk hl376_0
              clear hi376_0 hl376_0
              replace p376 := eq_true p376
              replace q376 := eq_true q376
              go_wp2
              repeat (go_quiet (fail); try go_wp2)
              go_roundg k1
              case measure => have := HK1.out; omega
              case rel => exact ⟨(wrap64 (x4_1 + (((rd_T54 l0_0 ((rd_T93 t372 x5_1).f1)).f0).length : Int))), (wrap64 (x5_1 + 1)), (by first | rfl | (simp; done) | (simp [*]; done)), (by first | rfl | (simp; done) | (simp [*]; done)), H', ⟨by have := HK1.out; omega⟩, ⟨by (with_reducible repeat (first | apply Kd.V_alloc | apply Kd.V_drewN | apply Kd.V_drew)); exact HO_3.out⟩, ⟨by (with_reducible repeat (first | refine blk_drewN ?_ _ | refine blk_drew ?_ | refine blk_alloc ?_ _)); exact BK371.out⟩, ⟨by repeat (first | (with_reducible first | exact HB.out | apply below_alloc | apply pw_below_drewN | apply below_drew1 | refine below_set ?_ GE371.out) | exact HB.out)⟩⟩
            · rw [if_neg c9] at H
              exact absurd H (by simp)
          · rw [if_neg c8] at H
            exact absurd H (by simp)
        · rw [if_neg c7] at H
          exact absurd H (by simp)
      · rw [if_neg c6] at H
        have c6b0 : decide (x5_1 < (t372.length : Int)) = false := decide_eq_false c6
        clear c6
        obtain rfl := Option.some.inj H
        obtain ⟨Ao12, co12, eo12⟩ := Kd.V_slice HO_3.out
        subst eo12
        go_wp2
        repeat (go_quiet (fail); try go_wp2)
        go_ret
        exact ⟨by first | rfl | (simp [errW_none, errW_some] <;> rfl) | (simp [*, errW_none, errW_some] <;> rfl), by repeat (first | (with_reducible first | exact HB.out | apply below_alloc | apply pw_below_drewN | apply below_drew1 | refine below_set ?_ GE371.out) | exact HB.out)⟩

end Go.Proofs.YtgcpiofpjogjcaaGreatDoor.PK
end
