/-
  Parts of the proof: E3.
-/
import Derived.Test.YtgcpiofpjogjcaaGreatDoorQ3
import Derived.Test.YtgcpiofpjogjcaaGreatDoorQ4
section
namespace Go.Proofs.YtgcpiofpjogjcaaGreatDoor.PK
open Go.RowKit Go.Proofs.YtgcpiofpjogjcaaGreatDoorW.PrintWords Go.Proofs.YtgcpiofpjogjcaaGreatDoorW.PrintLast Go.Proofs.YtgcpiofpjogjcaaGreatDoorW.PrintMore
attribute [local go_sem] max2_int min2_int max_two min_two max_three min_three max_four min_four   -- for this text's walks alone
set_option linter.unusedVariables false
set_option linter.unusedSimpArgs false



/-! ### stoaref14_After: function 51 -/
mutual
def stoaref14_After.l0 : Nat → Int → List (S93) → Int → List (S54) → List (S93) → List (S113) → Int → List (S69) → Int → Bool → Option ((List (S93)))
  | 0, _, _, _, _, _, _, _, _, _, _ => none
  | k + 1, x1, x5, x6, x277000, x277001, x277002, x277003, x277004, x277005, x277006 => if x6 < (x277002.length : Int) then (stoaref14_After.j1 k x1 x5 x6 (decide (x6 < x1)) x277000 x277001 x277002 x277003 x277004 x277005 x277006) else (stoaref14_After.j1 k x1 x5 x6 false x277000 x277001 x277002 x277003 x277004 x277005 x277006)
def stoaref14_After.j1 : Nat → Int → List (S93) → Int → Bool → List (S54) → List (S93) → List (S113) → Int → List (S69) → Int → Bool → Option ((List (S93)))
  | 0, _, _, _, _, _, _, _, _, _, _, _ => none
  | k + 1, x1, x5, x6, x19, x277000, x277001, x277002, x277003, x277004, x277005, x277006 => if x19 = true then (if 0 ≤ x6 then (if x6 < (x277002.length : Int) then (if ((rd_T113 x277002 x6).f0).toList = ([] : List UInt8) then (if ((rd_T113 x277002 x6).f1).toList = ([] : List UInt8) then (stoaref14_After.l0 k x1 x5 (wrap64 (x6 + 1)) x277000 x277001 x277002 x277003 x277004 x277005 x277006) else ((stoaref14_with.f k x5 ((rd_T113 x277002 x6).f1) ((rd_T113 x277002 x6).f2)).bind fun t279 => (stoaref14_After.l0 k x1 t279 (wrap64 (x6 + 1)) x277000 x277001 x277002 x277003 x277004 x277005 x277006))) else ((stoaref14_without.f k x5 ((rd_T113 x277002 x6).f0)).bind fun t282 => (if ((rd_T113 x277002 x6).f1).toList = ([] : List UInt8) then (stoaref14_After.l0 k x1 t282 (wrap64 (x6 + 1)) x277000 x277001 x277002 x277003 x277004 x277005 x277006) else ((stoaref14_with.f k t282 ((rd_T113 x277002 x6).f1) ((rd_T113 x277002 x6).f2)).bind fun t285 => (stoaref14_After.l0 k x1 t285 (wrap64 (x6 + 1)) x277000 x277001 x277002 x277003 x277004 x277005 x277006))))) else (none)) else (none)) else (some x5)
end
def stoaref14_After.f (k : Nat) (l0_0 : List (S54)) (l0_1 : List (S93)) (l0_2 : List (S113)) (a0_3 : Int) (l0_4 : List (S69)) (a0_5 : Int) (a0_6 : Bool) (a1 : Int) : Option ((List (S93))) := stoaref14_After.l0 k a1 l0_1 0 l0_0 l0_1 l0_2 a0_3 l0_4 a0_5 a0_6
theorem stoaref14_After.mono_l : ∀ k, (∀ y0 y1 y2 y3 y4 y5 y6 y7 y8 y9, LeO (stoaref14_After.l0 k y0 y1 y2 y3 y4 y5 y6 y7 y8 y9) (stoaref14_After.l0 (k + 1) y0 y1 y2 y3 y4 y5 y6 y7 y8 y9)) ∧ (∀ y0 y1 y2 y3 y4 y5 y6 y7 y8 y9 y10, LeO (stoaref14_After.j1 k y0 y1 y2 y3 y4 y5 y6 y7 y8 y9 y10) (stoaref14_After.j1 (k + 1) y0 y1 y2 y3 y4 y5 y6 y7 y8 y9 y10))
  | 0 => ⟨fun _ _ _ _ _ _ _ _ _ _ r h => by simp [stoaref14_After.l0] at h, fun _ _ _ _ _ _ _ _ _ _ _ r h => by simp [stoaref14_After.j1] at h⟩
  | k + 1 => by
    obtain ⟨ih0, ih1⟩ := stoaref14_After.mono_l k
    refine ⟨?_, ?_⟩
    · intro y0 y1 y2 y3 y4 y5 y6 y7 y8 y9
      unfold stoaref14_After.l0
      repeat' first
      | (with_reducible exact ih0 _ _ _ _ _ _ _ _ _ _)
      | (with_reducible exact ih1 _ _ _ _ _ _ _ _ _ _ _)
      | (with_reducible exact stoaref14_with.mono _ _ _ _)
      | (with_reducible exact stoaref14_without.mono _ _ _)
      | (with_reducible exact LeO.refl _)
      | (with_reducible exact LeO.none _)
      | (with_reducible refine LeO.ite ?_ ?_)
      | (with_reducible refine LeO.bind ?_ (fun _ => ?_))
      | exact ih0 _ _ _ _ _ _ _ _ _ _
      | exact ih1 _ _ _ _ _ _ _ _ _ _ _
      | exact stoaref14_with.mono _ _ _ _
      | exact stoaref14_without.mono _ _ _
      | exact LeO.none _
      | refine LeO.ite ?_ ?_
      | refine LeO.bind ?_ (fun _ => ?_)
    · intro y0 y1 y2 y3 y4 y5 y6 y7 y8 y9 y10
      unfold stoaref14_After.j1
      repeat' first
      | (with_reducible exact ih0 _ _ _ _ _ _ _ _ _ _)
      | (with_reducible exact ih1 _ _ _ _ _ _ _ _ _ _ _)
      | (with_reducible exact stoaref14_with.mono _ _ _ _)
      | (with_reducible exact stoaref14_without.mono _ _ _)
      | (with_reducible exact LeO.refl _)
      | (with_reducible exact LeO.none _)
      | (with_reducible refine LeO.ite ?_ ?_)
      | (with_reducible refine LeO.bind ?_ (fun _ => ?_))
      | exact ih0 _ _ _ _ _ _ _ _ _ _
      | exact ih1 _ _ _ _ _ _ _ _ _ _ _
      | exact stoaref14_with.mono _ _ _ _
      | exact stoaref14_without.mono _ _ _
      | exact LeO.none _
      | refine LeO.ite ?_ ?_
      | refine LeO.bind ?_ (fun _ => ?_)
theorem stoaref14_After.mono : ∀ a0 a1 a2 a3 a4 a5 a6 a7 k, LeO (stoaref14_After.f k a0 a1 a2 a3 a4 a5 a6 a7) (stoaref14_After.f (k + 1) a0 a1 a2 a3 a4 a5 a6 a7) := by
  intro a0 a1 a2 a3 a4 a5 a6 a7 k
  obtain ⟨ih0, ih1⟩ := stoaref14_After.mono_l k
  unfold stoaref14_After.f
  repeat' first
      | (with_reducible exact ih0 _ _ _ _ _ _ _ _ _ _)
      | (with_reducible exact ih1 _ _ _ _ _ _ _ _ _ _ _)
      | (with_reducible exact stoaref14_with.mono _ _ _ _)
      | (with_reducible exact stoaref14_without.mono _ _ _)
      | (with_reducible exact LeO.refl _)
      | (with_reducible exact LeO.none _)
      | (with_reducible refine LeO.ite ?_ ?_)
      | (with_reducible refine LeO.bind ?_ (fun _ => ?_))
      | exact ih0 _ _ _ _ _ _ _ _ _ _
      | exact ih1 _ _ _ _ _ _ _ _ _ _ _
      | exact stoaref14_with.mono _ _ _ _
      | exact stoaref14_without.mono _ _ _
      | exact LeO.none _
      | refine LeO.ite ?_ ?_
      | refine LeO.bind ?_ (fun _ => ?_)
set_option maxHeartbeats 8000000 in
set_option maxRecDepth 100000 in
theorem stoaref14_After.calls (k : Nat) (A0_0 : Option Addr) (c0_0 : Nat) (l0_0 : List (S54)) (P0_1_ : Nat → Prop) (A0_1 : Option Addr) (c0_1 : Nat) (l0_1 : List (S93)) (A0_2 : Option Addr) (c0_2 : Nat) (l0_2 : List (S113)) (a0_3 : Int) (A0_4 : Option Addr) (c0_4 : Nat) (l0_4 : List (S69)) (a0_5 : Int) (a0_6 : Bool) (a1 : Int) (r : List (S93)) (w : World) (hr0_0 : Kd.C k54 w A0_0 l0_0.length l0_0) (hc0_0 : l0_0.length ≤ c0_0) (hs0_1 : Kd.V k93 93 w w.heap.size (fun k_ => P0_1_ k_) (.slice A0_1 l0_1.length c0_1) l0_1) (hr0_2 : Kd.C k113 w A0_2 l0_2.length l0_2) (hc0_2 : l0_2.length ≤ c0_2) (hr0_4 : Kd.C k69 w A0_4 l0_4.length l0_4) (hc0_4 : l0_4.length ≤ c0_4) (h : stoaref14_After.f k l0_0 l0_1 l0_2 a0_3 l0_4 a0_5 a0_6 a1 = some r) :
    Calls Tryz.prog 51 #[.agg #[.slice A0_0 l0_0.length c0_0, .slice A0_1 l0_1.length c0_1, .slice A0_2 l0_2.length c0_2, .int .i64 a0_3, .slice A0_4 l0_4.length c0_4, .int .i64 a0_5, .bool a0_6], .int .i64 a1] w fun e w' => ∃ v0_ : Value, e = .returned (v0_) ∧ Kd.V k93 93 w' w.heap.size (fun k_ => (P0_1_ k_ ∨ w.heap.size ≤ k_)) v0_ r ∧ Below w.heap.size w w' := by
  have hu35 := Tryz.underlying35
  have hu113 := Tryz.underlying113
  have HR0_0 := Aside0.mk hr0_0
  have HC0_0 := Aside0.mk hc0_0
  clear hr0_0 hc0_0
  have HO0_1 := Aside0.mk (show Kd.V k93 93 w w.heap.size (fun k_ => (P0_1_ k_ ∨ w.heap.size ≤ k_)) (.slice A0_1 l0_1.length c0_1) l0_1 from Kd.V_mono hs0_1 (fun k_ hk => .inl hk))
  have HR0_2 := Aside0.mk hr0_2
  have HC0_2 := Aside0.mk hc0_2
  clear hr0_2 hc0_2
  have HR0_4 := Aside0.mk hr0_4
  have HC0_4 := Aside0.mk hc0_4
  clear hr0_4 hc0_4
  have HB := Aside0.mk (Below.refl w.heap.size w)
  have H : (stoaref14_After.l0 k a1 l0_1 0 l0_0 l0_1 l0_2 a0_3 l0_4 a0_5 a0_6) = some r := h
  clear h
  have H' := Aside0.mk H
  clear H
  go_enter Tryz.func51, Tryz.ntmps51
  go_wp2_with (first | ((with_reducible refine gate_dst (N := 2) rfl ?_); refine box_event ?hg (N := 2) ?hd (cs := #[.slice A0_0 l0_0.length c0_0, .slice A0_1 l0_1.length c0_1, .slice A0_2 l0_2.length c0_2, .int .i64 a0_3, .slice A0_4 l0_4.length c0_4, .int .i64 a0_5, .bool a0_6]) (t := 35) ?hr ?_; (case hd => rfl); (case hg => rfl); (case hr => first | (go_simp; done) | (go_simp; rfl)); intro gb276 hg w3 hbox hb; have n0_ := Aside0.mk (Kd.V_below (Kd.V_elderB (by (with_reducible repeat (first | apply Kd.V_alloc | apply Kd.V_drewN | apply Kd.V_drew)); exact HO0_1.out) gb276 (Nat.le_of_eq hg.symm)) hb); have n1_ := Aside0.mk (below_step (by repeat (first | (with_reducible first | exact HB.out | apply below_alloc | apply pw_below_drewN | apply below_drew1) | exact HB.out)) hb); have n2_ := Aside0.mk (hbox); have n3_ := Aside0.mk ((by rw [hg]; exact (below_size (by repeat (first | (with_reducible first | exact HB.out | apply below_alloc | apply pw_below_drewN | apply below_drew1) | exact HB.out))) : w.heap.size ≤ gb276)); have n4_ := Aside0.mk ((by rw [hg]; exact (below_size (by repeat (first | (with_reducible first | exact HB.out | apply below_alloc | apply pw_below_drewN | apply below_drew1) | exact HB.out))) : w.heap.size ≤ gb276)); clear HO0_1; clear HB; have HO0_1 := n0_; have HB := n1_; have BK276 := n2_; have GW276 := n3_; have GE276 := n4_; clear n0_ n1_ n2_ n3_ n4_; clear hb hbox hg; have hcz4_0 : w3.cell? ⟨gb276, 0, none⟩ = some (.slice A0_0 l0_0.length c0_0) := (blk_cell BK276.out 0).trans rfl; have hcz4_1 : w3.cell? ⟨gb276, 1, none⟩ = some (.slice A0_1 l0_1.length c0_1) := (blk_cell BK276.out 1).trans rfl; have hcz4_2 : w3.cell? ⟨gb276, 2, none⟩ = some (.slice A0_2 l0_2.length c0_2) := (blk_cell BK276.out 2).trans rfl; have hcz4_3 : w3.cell? ⟨gb276, 3, none⟩ = some (.int .i64 a0_3) := (blk_cell BK276.out 3).trans rfl; have hcz4_4 : w3.cell? ⟨gb276, 4, none⟩ = some (.slice A0_4 l0_4.length c0_4) := (blk_cell BK276.out 4).trans rfl; have hcz4_5 : w3.cell? ⟨gb276, 5, none⟩ = some (.int .i64 a0_5) := (blk_cell BK276.out 5).trans rfl; have hcz4_6 : w3.cell? ⟨gb276, 6, none⟩ = some (.bool a0_6) := (blk_cell BK276.out 6).trans rfl; have hfz4_0 := blk_frozen BK276.out 0; have hfz4_1 := blk_frozen BK276.out 1; have hfz4_2 := blk_frozen BK276.out 2; have hfz4_3 := blk_frozen BK276.out 3; have hfz4_4 := blk_frozen BK276.out 4; have hfz4_5 := blk_frozen BK276.out 5; have hfz4_6 := blk_frozen BK276.out 6))
  go_loopg [5, 6] k (fun kq v5 v6 w' => ∃ (x5_1 : List (S93)) (x6_1 : Int), v6 = .int .i64 x6_1 ∧ Aside0 (stoaref14_After.l0 kq a1 x5_1 x6_1 l0_0 l0_1 l0_2 a0_3 l0_4 a0_5 a0_6 = some r) ∧ Aside0 (kq ≤ k) ∧ Aside0 (Kd.V k93 93 w' w.heap.size (fun k_ => (P0_1_ k_ ∨ w.heap.size ≤ k_) ∧ k_ ≠ gb276) v5 x5_1) ∧ Aside0 (Kd.V k93 93 w' w.heap.size (fun k_ => (P0_1_ k_ ∨ w.heap.size ≤ k_) ∧ k_ ≠ gb276) (.slice A0_1 l0_1.length c0_1) l0_1) ∧ Aside0 (w'.heap[gb276]? = some (.cells #[(.slice A0_0 l0_0.length c0_0), (.slice A0_1 l0_1.length c0_1), (.slice A0_2 l0_2.length c0_2), .int .i64 a0_3, (.slice A0_4 l0_4.length c0_4), .int .i64 a0_5, .bool a0_6] 35 (0, 0))) ∧ Aside0 (Below w.heap.size w w'))
  case atStart => exact ⟨(l0_1), (0), (by first | rfl | (simp; done) | (simp [*]; done)), H', ⟨Nat.le_refl _⟩, ⟨by (with_reducible repeat (first | apply Kd.V_alloc | apply Kd.V_drewN | apply Kd.V_drew)); exact HO0_1.out⟩, ⟨by (with_reducible repeat (first | apply Kd.V_alloc | apply Kd.V_drewN | apply Kd.V_drew)); exact HO0_1.out⟩, ⟨by (with_reducible repeat (first | refine blk_drewN ?_ _ | refine blk_drew ?_ | refine blk_alloc ?_ _)); exact BK276.out⟩, ⟨by repeat (first | (with_reducible first | exact HB.out | apply below_alloc | apply pw_below_drewN | apply below_drew1 | refine below_set ?_ GE276.out) | exact HB.out)⟩⟩
  case round =>
    clear H'
    try clear p2
    try clear hcz4_0
    try clear hcz4_1
    try clear hcz4_2
    try clear hcz4_3
    try clear hcz4_4
    try clear hcz4_5
    try clear hcz4_6
    try clear hfz4_0
    try clear hfz4_1
    try clear hfz4_2
    try clear hfz4_3
    try clear hfz4_4
    try clear hfz4_5
    try clear hfz4_6
    obtain ⟨x5_1, x6_1, rfl, HA, HK1, HO_5, HO_277001, BK276, HB⟩ := hrel
    cases gk with
    | zero => exact absurd HA.out (by simp [stoaref14_After.l0])
    | succ k1 =>
      have H := HA.out
      clear HA
      simp only [stoaref14_After.l0] at H
      have HC5 := Aside0.mk H
      clear H
      go_upto_region 3 with (fail)
      go_cut [19] (fun v19 wc => ∃ (kq : Nat) (x19_4 : Bool), v19 = .bool x19_4 ∧ Aside0 (stoaref14_After.j1 kq a1 x5_1 x6_1 x19_4 l0_0 l0_1 l0_2 a0_3 l0_4 a0_5 a0_6 = some r) ∧ Aside0 (kq ≤ k1) ∧ Aside0 (Kd.V k93 93 wc w.heap.size (fun k_ => (P0_1_ k_ ∨ w.heap.size ≤ k_) ∧ k_ ≠ gb276) u5 x5_1) ∧ Aside0 (Kd.V k93 93 wc w.heap.size (fun k_ => (P0_1_ k_ ∨ w.heap.size ≤ k_) ∧ k_ ≠ gb276) (.slice A0_1 l0_1.length c0_1) l0_1) ∧ Aside0 (wc.heap[gb276]? = some (.cells #[(.slice A0_0 l0_0.length c0_0), (.slice A0_1 l0_1.length c0_1), (.slice A0_2 l0_2.length c0_2), .int .i64 a0_3, (.slice A0_4 l0_4.length c0_4), .int .i64 a0_5, .bool a0_6] 35 (0, 0))) ∧ Aside0 (Below w.heap.size w wc))
      case first =>
        have H := HC5.out
        clear HC5
        by_cases c6 : x6_1 < (l0_2.length : Int)
        · rw [if_pos c6] at H
          have c6b0 : decide (x6_1 < (l0_2.length : Int)) = true := decide_eq_true c6
          clear c6
          (first | rw [c6b0] | (simp only [i64_w, i32_w]; rw [c6b0]) | skip)
          have H' := Aside0.mk H
          clear H
          have hcz7_0 : wr.cell? ⟨gb276, 0, none⟩ = some (.slice A0_0 l0_0.length c0_0) := (blk_cell BK276.out 0).trans rfl
          have hcz7_1 : wr.cell? ⟨gb276, 1, none⟩ = some (.slice A0_1 l0_1.length c0_1) := (blk_cell BK276.out 1).trans rfl
          have hcz7_2 : wr.cell? ⟨gb276, 2, none⟩ = some (.slice A0_2 l0_2.length c0_2) := (blk_cell BK276.out 2).trans rfl
          have hcz7_3 : wr.cell? ⟨gb276, 3, none⟩ = some (.int .i64 a0_3) := (blk_cell BK276.out 3).trans rfl
          have hcz7_4 : wr.cell? ⟨gb276, 4, none⟩ = some (.slice A0_4 l0_4.length c0_4) := (blk_cell BK276.out 4).trans rfl
          have hcz7_5 : wr.cell? ⟨gb276, 5, none⟩ = some (.int .i64 a0_5) := (blk_cell BK276.out 5).trans rfl
          have hcz7_6 : wr.cell? ⟨gb276, 6, none⟩ = some (.bool a0_6) := (blk_cell BK276.out 6).trans rfl
          have hfz7_0 := blk_frozen BK276.out 0
          have hfz7_1 := blk_frozen BK276.out 1
          have hfz7_2 := blk_frozen BK276.out 2
          have hfz7_3 := blk_frozen BK276.out 3
          have hfz7_4 := blk_frozen BK276.out 4
          have hfz7_5 := blk_frozen BK276.out 5
          have hfz7_6 := blk_frozen BK276.out 6
          go_wp2
          go_meet
          case rel => exact ⟨_, (decide (x6_1 < a1)), (by first | rfl | (simp; done) | (simp [*]; done)), H', ⟨by have := HK1.out; first | omega | exact Nat.le_refl _⟩, ⟨by (with_reducible repeat (first | apply Kd.V_alloc | apply Kd.V_drewN | apply Kd.V_drew)); exact HO_5.out⟩, ⟨by (with_reducible repeat (first | apply Kd.V_alloc | apply Kd.V_drewN | apply Kd.V_drew)); exact HO_277001.out⟩, ⟨by (with_reducible repeat (first | refine blk_drewN ?_ _ | refine blk_drew ?_ | refine blk_alloc ?_ _)); exact BK276.out⟩, ⟨by repeat (first | (with_reducible first | exact HB.out | apply below_alloc | apply pw_below_drewN | apply below_drew1 | refine below_set ?_ GE276.out) | exact HB.out)⟩⟩
        · rw [if_neg c6] at H
          have c6b0 : decide (x6_1 < (l0_2.length : Int)) = false := decide_eq_false c6
          clear c6
          (first | rw [c6b0] | (simp only [i64_w, i32_w]; rw [c6b0]) | skip)
          have H' := Aside0.mk H
          clear H
          have hcz8_0 : wr.cell? ⟨gb276, 0, none⟩ = some (.slice A0_0 l0_0.length c0_0) := (blk_cell BK276.out 0).trans rfl
          have hcz8_1 : wr.cell? ⟨gb276, 1, none⟩ = some (.slice A0_1 l0_1.length c0_1) := (blk_cell BK276.out 1).trans rfl
          have hcz8_2 : wr.cell? ⟨gb276, 2, none⟩ = some (.slice A0_2 l0_2.length c0_2) := (blk_cell BK276.out 2).trans rfl
          have hcz8_3 : wr.cell? ⟨gb276, 3, none⟩ = some (.int .i64 a0_3) := (blk_cell BK276.out 3).trans rfl
          have hcz8_4 : wr.cell? ⟨gb276, 4, none⟩ = some (.slice A0_4 l0_4.length c0_4) := (blk_cell BK276.out 4).trans rfl
          have hcz8_5 : wr.cell? ⟨gb276, 5, none⟩ = some (.int .i64 a0_5) := (blk_cell BK276.out 5).trans rfl
          have hcz8_6 : wr.cell? ⟨gb276, 6, none⟩ = some (.bool a0_6) := (blk_cell BK276.out 6).trans rfl
          have hfz8_0 := blk_frozen BK276.out 0
          have hfz8_1 := blk_frozen BK276.out 1
          have hfz8_2 := blk_frozen BK276.out 2
          have hfz8_3 := blk_frozen BK276.out 3
          have hfz8_4 := blk_frozen BK276.out 4
          have hfz8_5 := blk_frozen BK276.out 5
          have hfz8_6 := blk_frozen BK276.out 6
          go_wp2
          go_meet
          case rel => exact ⟨_, (false), (by first | rfl | (simp; done) | (simp [*]; done)), H', ⟨by have := HK1.out; first | omega | exact Nat.le_refl _⟩, ⟨by (with_reducible repeat (first | apply Kd.V_alloc | apply Kd.V_drewN | apply Kd.V_drew)); exact HO_5.out⟩, ⟨by (with_reducible repeat (first | apply Kd.V_alloc | apply Kd.V_drewN | apply Kd.V_drew)); exact HO_277001.out⟩, ⟨by (with_reducible repeat (first | refine blk_drewN ?_ _ | refine blk_drew ?_ | refine blk_alloc ?_ _)); exact BK276.out⟩, ⟨by repeat (first | (with_reducible first | exact HB.out | apply below_alloc | apply pw_below_drewN | apply below_drew1 | refine below_set ?_ GE276.out) | exact HB.out)⟩⟩
      case rest =>
        clear HC5
        try clear p2
        try clear c5
        try clear c6
        try clear c6b0
        try clear hcz4_0
        try clear hcz4_1
        try clear hcz4_2
        try clear hcz4_3
        try clear hcz4_4
        try clear hcz4_5
        try clear hcz4_6
        try clear hcz7_0
        try clear hcz7_1
        try clear hcz7_2
        try clear hcz7_3
        try clear hcz7_4
        try clear hcz7_5
        try clear hcz7_6
        try clear hcz8_0
        try clear hcz8_1
        try clear hcz8_2
        try clear hcz8_3
        try clear hcz8_4
        try clear hcz8_5
        try clear hcz8_6
        try clear hfz4_0
        try clear hfz4_1
        try clear hfz4_2
        try clear hfz4_3
        try clear hfz4_4
        try clear hfz4_5
        try clear hfz4_6
        try clear hfz7_0
        try clear hfz7_1
        try clear hfz7_2
        try clear hfz7_3
        try clear hfz7_4
        try clear hfz7_5
        try clear hfz7_6
        try clear hfz8_0
        try clear hfz8_1
        try clear hfz8_2
        try clear hfz8_3
        try clear hfz8_4
        try clear hfz8_5
        try clear hfz8_6
        try clear p2
        obtain ⟨kq, x19_4, rfl, HA, HJ4, HO_5, HO_277001, BK276, HB⟩ := hcut
        cases kq with
        | zero => exact absurd HA.out (by simp [stoaref14_After.j1])
        | succ kj4 =>
          have H := HA.out
          clear HA
          simp only [stoaref14_After.j1] at H
          by_cases c9 : x19_4 = true
          · subst c9
            have H1 : (if 0 ≤ x6_1 then (if x6_1 < (l0_2.length : Int) then (if ((rd_T113 l0_2 x6_1).f0).toList = ([] : List UInt8) then (if ((rd_T113 l0_2 x6_1).f1).toList = ([] : List UInt8) then (stoaref14_After.l0 kj4 a1 x5_1 (wrap64 (x6_1 + 1)) l0_0 l0_1 l0_2 a0_3 l0_4 a0_5 a0_6) else ((stoaref14_with.f kj4 x5_1 ((rd_T113 l0_2 x6_1).f1) ((rd_T113 l0_2 x6_1).f2)).bind fun t279 => (stoaref14_After.l0 kj4 a1 t279 (wrap64 (x6_1 + 1)) l0_0 l0_1 l0_2 a0_3 l0_4 a0_5 a0_6))) else ((stoaref14_without.f kj4 x5_1 ((rd_T113 l0_2 x6_1).f0)).bind fun t282 => (if ((rd_T113 l0_2 x6_1).f1).toList = ([] : List UInt8) then (stoaref14_After.l0 kj4 a1 t282 (wrap64 (x6_1 + 1)) l0_0 l0_1 l0_2 a0_3 l0_4 a0_5 a0_6) else ((stoaref14_with.f kj4 t282 ((rd_T113 l0_2 x6_1).f1) ((rd_T113 l0_2 x6_1).f2)).bind fun t285 => (stoaref14_After.l0 kj4 a1 t285 (wrap64 (x6_1 + 1)) l0_0 l0_1 l0_2 a0_3 l0_4 a0_5 a0_6))))) else (none)) else (none)) = some r := by rw [if_pos rfl] at H; exact H
            clear H
            have H := H1
            clear H1
            by_cases c10 : 0 ≤ x6_1
            · rw [if_pos c10] at H
              have c10b0 : decide (0 ≤ x6_1) = true := decide_eq_true c10
              clear c10
              by_cases c11 : x6_1 < (l0_2.length : Int)
              · rw [if_pos c11] at H
                have c11b0 : decide (x6_1 < (l0_2.length : Int)) = true := decide_eq_true c11
                clear c11
                by_cases c12 : ((rd_T113 l0_2 x6_1).f0).toList = ([] : List UInt8)
                · rw [if_pos c12] at H
                  have c12b0 : (((rd_T113 l0_2 x6_1).f0).toList == ([] : List UInt8)) = true := beq_iff_eq.mpr c12
                  have c12b1 : (((rd_T113 l0_2 x6_1).f0).toList != ([] : List UInt8)) = false := bne_eq_false_iff_eq.mpr c12
                  clear c12
                  by_cases c13 : ((rd_T113 l0_2 x6_1).f1).toList = ([] : List UInt8)
                  · rw [if_pos c13] at H
                    have c13b0 : (((rd_T113 l0_2 x6_1).f1).toList == ([] : List UInt8)) = true := beq_iff_eq.mpr c13
                    have c13b1 : (((rd_T113 l0_2 x6_1).f1).toList != ([] : List UInt8)) = false := bne_eq_false_iff_eq.mpr c13
                    clear c13
                    have H' := Aside0.mk H
                    clear H
                    have hcz14_0 : wc.cell? ⟨gb276, 0, none⟩ = some (.slice A0_0 l0_0.length c0_0) := (blk_cell BK276.out 0).trans rfl
                    have hcz14_1 : wc.cell? ⟨gb276, 1, none⟩ = some (.slice A0_1 l0_1.length c0_1) := (blk_cell BK276.out 1).trans rfl
                    have hcz14_2 : wc.cell? ⟨gb276, 2, none⟩ = some (.slice A0_2 l0_2.length c0_2) := (blk_cell BK276.out 2).trans rfl
                    have hcz14_3 : wc.cell? ⟨gb276, 3, none⟩ = some (.int .i64 a0_3) := (blk_cell BK276.out 3).trans rfl
                    have hcz14_4 : wc.cell? ⟨gb276, 4, none⟩ = some (.slice A0_4 l0_4.length c0_4) := (blk_cell BK276.out 4).trans rfl
                    have hcz14_5 : wc.cell? ⟨gb276, 5, none⟩ = some (.int .i64 a0_5) := (blk_cell BK276.out 5).trans rfl
                    have hcz14_6 : wc.cell? ⟨gb276, 6, none⟩ = some (.bool a0_6) := (blk_cell BK276.out 6).trans rfl
                    have hfz14_0 := blk_frozen BK276.out 0
                    have hfz14_1 := blk_frozen BK276.out 1
                    have hfz14_2 := blk_frozen BK276.out 2
                    have hfz14_3 := blk_frozen BK276.out 3
                    have hfz14_4 := blk_frozen BK276.out 4
                    have hfz14_5 := blk_frozen BK276.out 5
                    have hfz14_6 := blk_frozen BK276.out 6
                    have p277 : 0 ≤ (x6_1 : Int) := of_decide_eq_true (by first | (with_reducible assumption) | assumption)
                    have q277 : x6_1 < (l0_2.length : Int) := of_decide_eq_true (by first | (with_reducible assumption) | assumption)
                    obtain ⟨ad277, e277, hx277_0, hx277_1, hx277_2⟩ := at_T113 HR0_2.out x6_1 p277 q277
                    cases e277
                    replace hx277_0 := (HB.out.cell (World.block_lt_of_cell? w _ hx277_0)).trans hx277_0
                    replace hx277_1 := (HB.out.cell (World.block_lt_of_cell? w _ hx277_1)).trans hx277_1
                    replace hx277_2 := (HB.out.cell (World.block_lt_of_cell? w _ hx277_2)).trans hx277_2
                    replace p277 := eq_true p277
                    replace q277 := eq_true q277
                    go_wp2_with (first | ((with_reducible refine gate_dst (N := 7) rfl ?_); refine box_event ?hg (N := 7) ?hd (cs := #[.string (⟨#[]⟩ : ByteArray), .string (⟨#[]⟩ : ByteArray), .int .i64 0]) (t := 113) ?hr ?_; (case hd => rfl); (case hg => rfl); (case hr => first | (go_simp; done) | (go_simp; rfl)); intro gb278 hg w15 hbox hb; have n0_ := Aside0.mk (Kd.V_below (Kd.V_elderB (by (with_reducible repeat (first | apply Kd.V_alloc | apply Kd.V_drewN | apply Kd.V_drew)); exact HO_5.out) gb278 (Nat.le_of_eq hg.symm)) hb); have n1_ := Aside0.mk (Kd.V_below (Kd.V_elderB (by (with_reducible repeat (first | apply Kd.V_alloc | apply Kd.V_drewN | apply Kd.V_drew)); exact HO_277001.out) gb278 (Nat.le_of_eq hg.symm)) hb); have n2_ := Aside0.mk (blk_below (g := gb276) (o := .cells #[.slice A0_0 l0_0.length c0_0, .slice A0_1 l0_1.length c0_1, .slice (some ad277) l0_2.length c0_2, .int .i64 a0_3, .slice A0_4 l0_4.length c0_4, .int .i64 a0_5, .bool a0_6] 35 (0, 0)) (by (with_reducible repeat (first | refine blk_drewN ?_ _ | refine blk_drew ?_ | refine blk_alloc ?_ _)); exact BK276.out) hb); have n3_ := Aside0.mk (below_step (by repeat (first | (with_reducible first | exact HB.out | apply below_alloc | apply pw_below_drewN | apply below_drew1 | refine below_set ?_ GE276.out) | exact HB.out)) hb); have n4_ := Aside0.mk (hbox); have n5_ := Aside0.mk ((by rw [hg]; exact (below_size (by repeat (first | (with_reducible first | exact HB.out | apply below_alloc | apply pw_below_drewN | apply below_drew1 | refine below_set ?_ GE276.out) | exact HB.out))) : w.heap.size ≤ gb278)); have n6_ := Aside0.mk ((by rw [hg]; exact (below_size (by repeat (first | (with_reducible first | exact HB.out | apply below_alloc | apply pw_below_drewN | apply below_drew1 | refine below_set ?_ GE276.out) | exact HB.out))) : w.heap.size ≤ gb278)); have n7_ := Aside0.mk ((by rw [hg]; exact Nat.ne_of_lt (blk_lt (g := gb276) (o := .cells #[.slice A0_0 l0_0.length c0_0, .slice A0_1 l0_1.length c0_1, .slice (some ad277) l0_2.length c0_2, .int .i64 a0_3, .slice A0_4 l0_4.length c0_4, .int .i64 a0_5, .bool a0_6] 35 (0, 0)) (by (with_reducible repeat (first | refine blk_drewN ?_ _ | refine blk_drew ?_ | refine blk_alloc ?_ _)); exact BK276.out)) : gb276 ≠ gb278)); have n8_ := Aside0.mk ((by rw [hg]; exact Nat.ne_of_gt (blk_lt (g := gb276) (o := .cells #[.slice A0_0 l0_0.length c0_0, .slice A0_1 l0_1.length c0_1, .slice (some ad277) l0_2.length c0_2, .int .i64 a0_3, .slice A0_4 l0_4.length c0_4, .int .i64 a0_5, .bool a0_6] 35 (0, 0)) (by (with_reducible repeat (first | refine blk_drewN ?_ _ | refine blk_drew ?_ | refine blk_alloc ?_ _)); exact BK276.out)) : gb278 ≠ gb276)); clear HO_5; clear HO_277001; clear BK276; clear HB; have HO_5 := n0_; have HO_277001 := n1_; have BK276 := n2_; have HB := n3_; have BK278 := n4_; have GW278 := n5_; have GE278 := n6_; have NB276_278 := n7_; have NB278_276 := n8_; clear n0_ n1_ n2_ n3_ n4_ n5_ n6_ n7_ n8_; clear hb hbox hg; have hnb16 := NB278_276.out; have hnc16 := NB276_278.out; have hcz17_0 : w15.cell? ⟨gb278, 0, none⟩ = some (.string (⟨#[]⟩ : ByteArray)) := (blk_cell BK278.out 0).trans rfl; have hcz17_1 : w15.cell? ⟨gb278, 1, none⟩ = some (.string (⟨#[]⟩ : ByteArray)) := (blk_cell BK278.out 1).trans rfl; have hcz17_2 : w15.cell? ⟨gb278, 2, none⟩ = some (.int .i64 0) := (blk_cell BK278.out 2).trans rfl; have hfz17_0 := blk_frozen BK278.out 0; have hfz17_1 := blk_frozen BK278.out 1; have hfz17_2 := blk_frozen BK278.out 2))
                    go_roundg kj4
                    case measure => have := HK1.out; have := HJ4.out; omega
                    case rel => exact ⟨(x5_1), (wrap64 (x6_1 + 1)), (by first | rfl | (simp; done) | (simp [*]; done)), H', ⟨by have := HK1.out; have := HJ4.out; omega⟩, ⟨by (with_reducible repeat (first | apply Kd.V_alloc | apply Kd.V_drewN | apply Kd.V_drew)); exact Kd.V_mono (Kd.V_far (p := ⟨gb278, 2, none⟩) (Kd.V_far (p := ⟨gb278, 1, none⟩) (Kd.V_far (p := ⟨gb278, 0, none⟩) (Kd.V_mono HO_5.out (fun k_ hk => (⟨hk, hk.2⟩ : _ ∧ k_ ≠ gb278))) (fun _ hk => hk.2) (.string ((rd_T113 l0_2 x6_1).f0))) (fun _ hk => hk.2) (.string ((rd_T113 l0_2 x6_1).f1))) (fun _ hk => hk.2) (.int .i64 ((rd_T113 l0_2 x6_1).f2))) (fun _ hk => ⟨hk.1.1.1, hk.1.1.2⟩)⟩, ⟨by (with_reducible repeat (first | apply Kd.V_alloc | apply Kd.V_drewN | apply Kd.V_drew)); exact Kd.V_mono (Kd.V_far (p := ⟨gb278, 2, none⟩) (Kd.V_far (p := ⟨gb278, 1, none⟩) (Kd.V_far (p := ⟨gb278, 0, none⟩) (Kd.V_mono HO_277001.out (fun k_ hk => (⟨hk, hk.2⟩ : _ ∧ k_ ≠ gb278))) (fun _ hk => hk.2) (.string ((rd_T113 l0_2 x6_1).f0))) (fun _ hk => hk.2) (.string ((rd_T113 l0_2 x6_1).f1))) (fun _ hk => hk.2) (.int .i64 ((rd_T113 l0_2 x6_1).f2))) (fun _ hk => ⟨hk.1.1.1, hk.1.1.2⟩)⟩, ⟨by (with_reducible repeat (first | refine blk_drewN ?_ _ | refine blk_drew ?_ | refine blk_alloc ?_ _)); refine blk_far ?_ NB276_278.out _; (with_reducible repeat (first | refine blk_drewN ?_ _ | refine blk_drew ?_ | refine blk_alloc ?_ _)); refine blk_far ?_ NB276_278.out _; (with_reducible repeat (first | refine blk_drewN ?_ _ | refine blk_drew ?_ | refine blk_alloc ?_ _)); refine blk_far ?_ NB276_278.out _; (with_reducible repeat (first | refine blk_drewN ?_ _ | refine blk_drew ?_ | refine blk_alloc ?_ _)); exact BK276.out⟩, ⟨by repeat (first | (with_reducible first | exact HB.out | apply below_alloc | apply pw_below_drewN | apply below_drew1 | refine below_set ?_ GE276.out | refine below_set ?_ GE278.out) | exact HB.out)⟩⟩
                  · rw [if_neg c13] at H
                    have c13b0 : (((rd_T113 l0_2 x6_1).f1).toList == ([] : List UInt8)) = false := beq_eq_false_iff_ne.mpr c13
                    have c13b1 : (((rd_T113 l0_2 x6_1).f1).toList != ([] : List UInt8)) = true := bne_iff_ne.mpr c13
                    replace H := Option.bind_eq_some_iff.mp H
                    obtain ⟨t279, A180, H⟩ := H
                    replace H : (stoaref14_After.l0 kj4 a1 t279 (wrap64 (x6_1 + 1)) l0_0 l0_1 l0_2 a0_3 l0_4 a0_5 a0_6) = some r := H
                    have A18 := Aside0.mk A180
                    clear A180
                    have H' := Aside0.mk H
                    clear H
                    have hcz19_0 : wc.cell? ⟨gb276, 0, none⟩ = some (.slice A0_0 l0_0.length c0_0) := (blk_cell BK276.out 0).trans rfl
                    have hcz19_1 : wc.cell? ⟨gb276, 1, none⟩ = some (.slice A0_1 l0_1.length c0_1) := (blk_cell BK276.out 1).trans rfl
                    have hcz19_2 : wc.cell? ⟨gb276, 2, none⟩ = some (.slice A0_2 l0_2.length c0_2) := (blk_cell BK276.out 2).trans rfl
                    have hcz19_3 : wc.cell? ⟨gb276, 3, none⟩ = some (.int .i64 a0_3) := (blk_cell BK276.out 3).trans rfl
                    have hcz19_4 : wc.cell? ⟨gb276, 4, none⟩ = some (.slice A0_4 l0_4.length c0_4) := (blk_cell BK276.out 4).trans rfl
                    have hcz19_5 : wc.cell? ⟨gb276, 5, none⟩ = some (.int .i64 a0_5) := (blk_cell BK276.out 5).trans rfl
                    have hcz19_6 : wc.cell? ⟨gb276, 6, none⟩ = some (.bool a0_6) := (blk_cell BK276.out 6).trans rfl
                    have hfz19_0 := blk_frozen BK276.out 0
                    have hfz19_1 := blk_frozen BK276.out 1
                    have hfz19_2 := blk_frozen BK276.out 2
                    have hfz19_3 := blk_frozen BK276.out 3
                    have hfz19_4 := blk_frozen BK276.out 4
                    have hfz19_5 := blk_frozen BK276.out 5
                    have hfz19_6 := blk_frozen BK276.out 6
                    have p277 : 0 ≤ (x6_1 : Int) := of_decide_eq_true (by first | (with_reducible assumption) | assumption)
                    have q277 : x6_1 < (l0_2.length : Int) := of_decide_eq_true (by first | (with_reducible assumption) | assumption)
                    obtain ⟨ad277, e277, hx277_0, hx277_1, hx277_2⟩ := at_T113 HR0_2.out x6_1 p277 q277
                    cases e277
                    replace hx277_0 := (HB.out.cell (World.block_lt_of_cell? w _ hx277_0)).trans hx277_0
                    replace hx277_1 := (HB.out.cell (World.block_lt_of_cell? w _ hx277_1)).trans hx277_1
                    replace hx277_2 := (HB.out.cell (World.block_lt_of_cell? w _ hx277_2)).trans hx277_2
                    replace p277 := eq_true p277
                    replace q277 := eq_true q277
                    go_wp2_with (first | ((with_reducible refine gate_dst (N := 7) rfl ?_); refine box_event ?hg (N := 7) ?hd (cs := #[.string (⟨#[]⟩ : ByteArray), .string (⟨#[]⟩ : ByteArray), .int .i64 0]) (t := 113) ?hr ?_; (case hd => rfl); (case hg => rfl); (case hr => first | (go_simp; done) | (go_simp; rfl)); intro gb278 hg w20 hbox hb; have n0_ := Aside0.mk (Kd.V_below (Kd.V_elderB (by (with_reducible repeat (first | apply Kd.V_alloc | apply Kd.V_drewN | apply Kd.V_drew)); exact HO_5.out) gb278 (Nat.le_of_eq hg.symm)) hb); have n1_ := Aside0.mk (Kd.V_below (Kd.V_elderB (by (with_reducible repeat (first | apply Kd.V_alloc | apply Kd.V_drewN | apply Kd.V_drew)); exact HO_277001.out) gb278 (Nat.le_of_eq hg.symm)) hb); have n2_ := Aside0.mk (blk_below (g := gb276) (o := .cells #[.slice A0_0 l0_0.length c0_0, .slice A0_1 l0_1.length c0_1, .slice (some ad277) l0_2.length c0_2, .int .i64 a0_3, .slice A0_4 l0_4.length c0_4, .int .i64 a0_5, .bool a0_6] 35 (0, 0)) (by (with_reducible repeat (first | refine blk_drewN ?_ _ | refine blk_drew ?_ | refine blk_alloc ?_ _)); exact BK276.out) hb); have n3_ := Aside0.mk (below_step (by repeat (first | (with_reducible first | exact HB.out | apply below_alloc | apply pw_below_drewN | apply below_drew1 | refine below_set ?_ GE276.out) | exact HB.out)) hb); have n4_ := Aside0.mk (hbox); have n5_ := Aside0.mk ((by rw [hg]; exact (below_size (by repeat (first | (with_reducible first | exact HB.out | apply below_alloc | apply pw_below_drewN | apply below_drew1 | refine below_set ?_ GE276.out) | exact HB.out))) : w.heap.size ≤ gb278)); have n6_ := Aside0.mk ((by rw [hg]; exact (below_size (by repeat (first | (with_reducible first | exact HB.out | apply below_alloc | apply pw_below_drewN | apply below_drew1 | refine below_set ?_ GE276.out) | exact HB.out))) : w.heap.size ≤ gb278)); have n7_ := Aside0.mk ((by rw [hg]; exact Nat.ne_of_lt (blk_lt (g := gb276) (o := .cells #[.slice A0_0 l0_0.length c0_0, .slice A0_1 l0_1.length c0_1, .slice (some ad277) l0_2.length c0_2, .int .i64 a0_3, .slice A0_4 l0_4.length c0_4, .int .i64 a0_5, .bool a0_6] 35 (0, 0)) (by (with_reducible repeat (first | refine blk_drewN ?_ _ | refine blk_drew ?_ | refine blk_alloc ?_ _)); exact BK276.out)) : gb276 ≠ gb278)); have n8_ := Aside0.mk ((by rw [hg]; exact Nat.ne_of_gt (blk_lt (g := gb276) (o := .cells #[.slice A0_0 l0_0.length c0_0, .slice A0_1 l0_1.length c0_1, .slice (some ad277) l0_2.length c0_2, .int .i64 a0_3, .slice A0_4 l0_4.length c0_4, .int .i64 a0_5, .bool a0_6] 35 (0, 0)) (by (with_reducible repeat (first | refine blk_drewN ?_ _ | refine blk_drew ?_ | refine blk_alloc ?_ _)); exact BK276.out)) : gb278 ≠ gb276)); clear HO_5; clear HO_277001; clear BK276; clear HB; have HO_5 := n0_; have HO_277001 := n1_; have BK276 := n2_; have HB := n3_; have BK278 := n4_; have GW278 := n5_; have GE278 := n6_; have NB276_278 := n7_; have NB278_276 := n8_; clear n0_ n1_ n2_ n3_ n4_ n5_ n6_ n7_ n8_; clear hb hbox hg; have hnb21 := NB278_276.out; have hnc21 := NB276_278.out; have hcz22_0 : w20.cell? ⟨gb278, 0, none⟩ = some (.string (⟨#[]⟩ : ByteArray)) := (blk_cell BK278.out 0).trans rfl; have hcz22_1 : w20.cell? ⟨gb278, 1, none⟩ = some (.string (⟨#[]⟩ : ByteArray)) := (blk_cell BK278.out 1).trans rfl; have hcz22_2 : w20.cell? ⟨gb278, 2, none⟩ = some (.int .i64 0) := (blk_cell BK278.out 2).trans rfl; have hfz22_0 := blk_frozen BK278.out 0; have hfz22_1 := blk_frozen BK278.out 1; have hfz22_2 := blk_frozen BK278.out 2; obtain ⟨Ao23, co23, eo23⟩ := Kd.V_slice HO_5.out; subst eo23) | ((with_reducible refine gate_callee (f := 43) rfl ?_); refine goesL_ (some 42) rfl rfl Tryz.func43 (by kernel_rfl) rfl #[.slice Ao23 x5_1.length co23, .string ((rd_T113 l0_2 x6_1).f1), .int .i64 ((rd_T113 l0_2 x6_1).f2)] rfl (by (try simp only [List.map_toArray, List.map_cons, List.map_nil]); first | done | rfl | (simp only [List.length_drop, List.length_take]; rfl)) ?_; (with_reducible refine (stoaref14_with.calls kj4 _ _ x5_1 ((rd_T113 l0_2 x6_1).f1) ((rd_T113 l0_2 x6_1).f2) t279 _ ?side1 ?side2 A18.out).mono ?_); (case side1 => refine (Kd.V_reads' (e := 93) (base := w.heap.size) (ok := fun k_ => (((P0_1_ k_ ∨ w.heap.size ≤ k_) ∧ k_ ≠ gb276) ∧ k_ ≠ gb278)) (n := x5_1.length) (c := co23) ?_).2.2; exact (by (with_reducible repeat (first | apply Kd.V_alloc | apply Kd.V_drewN | apply Kd.V_drew)); exact (Kd.V_mono (Kd.V_far (p := ⟨gb278, 2, none⟩) (Kd.V_far (p := ⟨gb278, 1, none⟩) (Kd.V_far (p := ⟨gb278, 0, none⟩) (Kd.V_mono HO_5.out (fun k_ hk => (⟨hk, hk.2⟩ : _ ∧ k_ ≠ gb278))) (fun _ hk => hk.2) (.string ((rd_T113 l0_2 x6_1).f0))) (fun _ hk => hk.2) (.string ((rd_T113 l0_2 x6_1).f1))) (fun _ hk => hk.2) (.int .i64 ((rd_T113 l0_2 x6_1).f2))) (fun _ h_ => h_.1)))); (case side2 => exact (Kd.V_reads' HO_5.out).2.1); rintro e w24 ⟨v280, rfl, ho0, hb⟩; refine ⟨_, rfl, ?_⟩; have n0_ := Aside0.mk (Kd.V_elder' (by (with_reducible repeat (first | apply Kd.V_alloc | apply Kd.V_drewN | apply Kd.V_drew)); exact (Kd.V_mono (Kd.V_far (p := ⟨gb278, 2, none⟩) (Kd.V_far (p := ⟨gb278, 1, none⟩) (Kd.V_far (p := ⟨gb278, 0, none⟩) (Kd.V_mono HO_5.out (fun k_ hk => (⟨hk, hk.2⟩ : _ ∧ k_ ≠ gb278))) (fun _ hk => hk.2) (.string ((rd_T113 l0_2 x6_1).f0))) (fun _ hk => hk.2) (.string ((rd_T113 l0_2 x6_1).f1))) (fun _ hk => hk.2) (.int .i64 ((rd_T113 l0_2 x6_1).f2))) (fun _ h_ => h_.1))) (Kd.R_base ho0) hb); have n1_ := Aside0.mk (Kd.V_elder' (by (with_reducible repeat (first | apply Kd.V_alloc | apply Kd.V_drewN | apply Kd.V_drew)); exact (Kd.V_mono (Kd.V_far (p := ⟨gb278, 2, none⟩) (Kd.V_far (p := ⟨gb278, 1, none⟩) (Kd.V_far (p := ⟨gb278, 0, none⟩) (Kd.V_mono HO_277001.out (fun k_ hk => (⟨hk, hk.2⟩ : _ ∧ k_ ≠ gb278))) (fun _ hk => hk.2) (.string ((rd_T113 l0_2 x6_1).f0))) (fun _ hk => hk.2) (.string ((rd_T113 l0_2 x6_1).f1))) (fun _ hk => hk.2) (.int .i64 ((rd_T113 l0_2 x6_1).f2))) (fun _ h_ => h_.1))) (Kd.R_base ho0) hb); have n2_ := Aside0.mk (Kd.R_lower (Kd.R_newM (M := fun k_ => (w.heap.size ≤ k_)) ho0 (below_size (by repeat (first | (with_reducible first | exact HB.out | apply below_alloc | apply pw_below_drewN | apply below_drew1 | refine below_set ?_ GE276.out | refine below_set ?_ GE278.out) | exact HB.out))) (fun k_ h_ => h_)) (below_size (by repeat (first | (with_reducible first | exact HB.out | apply below_alloc | apply pw_below_drewN | apply below_drew1 | refine below_set ?_ GE276.out | refine below_set ?_ GE278.out) | exact HB.out)))); have n3_ := Aside0.mk (blk_below (g := gb276) (o := .cells #[.slice A0_0 l0_0.length c0_0, .slice A0_1 l0_1.length c0_1, .slice (some ad277) l0_2.length c0_2, .int .i64 a0_3, .slice A0_4 l0_4.length c0_4, .int .i64 a0_5, .bool a0_6] 35 (0, 0)) (by (with_reducible repeat (first | refine blk_drewN ?_ _ | refine blk_drew ?_ | refine blk_alloc ?_ _)); refine blk_far ?_ NB276_278.out _; (with_reducible repeat (first | refine blk_drewN ?_ _ | refine blk_drew ?_ | refine blk_alloc ?_ _)); refine blk_far ?_ NB276_278.out _; (with_reducible repeat (first | refine blk_drewN ?_ _ | refine blk_drew ?_ | refine blk_alloc ?_ _)); refine blk_far ?_ NB276_278.out _; (with_reducible repeat (first | refine blk_drewN ?_ _ | refine blk_drew ?_ | refine blk_alloc ?_ _)); exact BK276.out) hb); have n4_ := Aside0.mk (blk_below (g := gb278) (o := .cells #[.string ((rd_T113 l0_2 x6_1).f0), .string ((rd_T113 l0_2 x6_1).f1), .int .i64 ((rd_T113 l0_2 x6_1).f2)] 113 (0, 0)) (by (with_reducible repeat (first | refine blk_drewN ?_ _ | refine blk_drew ?_ | refine blk_alloc ?_ _)); refine blk_put (cs := #[.string ((rd_T113 l0_2 x6_1).f0), .string ((rd_T113 l0_2 x6_1).f1), .int .i64 0]) ?_ 2 _ rfl; (with_reducible repeat (first | refine blk_drewN ?_ _ | refine blk_drew ?_ | refine blk_alloc ?_ _)); refine blk_put (cs := #[.string ((rd_T113 l0_2 x6_1).f0), .string (⟨#[]⟩ : ByteArray), .int .i64 0]) ?_ 1 _ rfl; (with_reducible repeat (first | refine blk_drewN ?_ _ | refine blk_drew ?_ | refine blk_alloc ?_ _)); refine blk_put (cs := #[.string (⟨#[]⟩ : ByteArray), .string (⟨#[]⟩ : ByteArray), .int .i64 0]) ?_ 0 _ rfl; (with_reducible repeat (first | refine blk_drewN ?_ _ | refine blk_drew ?_ | refine blk_alloc ?_ _)); exact BK278.out) hb); have n5_ := Aside0.mk (below_step (by repeat (first | (with_reducible first | exact HB.out | apply below_alloc | apply pw_below_drewN | apply below_drew1 | refine below_set ?_ GE276.out | refine below_set ?_ GE278.out) | exact HB.out)) hb); clear HO_5; clear HO_277001; clear BK276; clear BK278; clear HB; have HO_5 := n0_; have HO_277001 := n1_; have HO281 := n2_; have BK276 := n3_; have BK278 := n4_; have HB := n5_; clear n0_ n1_ n2_ n3_ n4_ n5_; (try clear hb); (try clear hb2); (try clear hk); (try clear hi); (try clear ho0)))
                    go_roundg kj4
                    case measure => have := HK1.out; have := HJ4.out; omega
                    case rel => exact ⟨(t279), (wrap64 (x6_1 + 1)), (by first | rfl | (simp; done) | (simp [*]; done)), H', ⟨by have := HK1.out; have := HJ4.out; omega⟩, ⟨Kd.V_mono (Kd.R_V (by (with_reducible repeat (first | apply Kd.R_alloc | apply Kd.R_drewN | apply Kd.R_drew)); exact Kd.R_mono (Kd.R_types HO281.out BK276.out (by decide)) (fun k_ hk => (⟨hk.1.1, hk.2⟩ : (w.heap.size ≤ k_) ∧ k_ ≠ gb276)))) (fun k_ hk => by first | exact ⟨(.inr (hk.1)), hk.2⟩ | exact (.inr (hk)))⟩, ⟨by (with_reducible repeat (first | apply Kd.V_alloc | apply Kd.V_drewN | apply Kd.V_drew)); exact Kd.V_mono HO_277001.out (fun _ hk => ⟨hk.1.1.1, hk.1.1.2⟩)⟩, ⟨by (with_reducible repeat (first | refine blk_drewN ?_ _ | refine blk_drew ?_ | refine blk_alloc ?_ _)); exact BK276.out⟩, ⟨by repeat (first | (with_reducible first | exact HB.out | apply below_alloc | apply pw_below_drewN | apply below_drew1 | refine below_set ?_ GE276.out | refine below_set ?_ GE278.out) | exact HB.out)⟩⟩
                · rw [if_neg c12] at H
                  have c12b0 : (((rd_T113 l0_2 x6_1).f0).toList == ([] : List UInt8)) = false := beq_eq_false_iff_ne.mpr c12
                  have c12b1 : (((rd_T113 l0_2 x6_1).f0).toList != ([] : List UInt8)) = true := bne_iff_ne.mpr c12
                  replace H := Option.bind_eq_some_iff.mp H
                  obtain ⟨t282, A250, H⟩ := H
                  replace H : (if ((rd_T113 l0_2 x6_1).f1).toList = ([] : List UInt8) then (stoaref14_After.l0 kj4 a1 t282 (wrap64 (x6_1 + 1)) l0_0 l0_1 l0_2 a0_3 l0_4 a0_5 a0_6) else ((stoaref14_with.f kj4 t282 ((rd_T113 l0_2 x6_1).f1) ((rd_T113 l0_2 x6_1).f2)).bind fun t285 => (stoaref14_After.l0 kj4 a1 t285 (wrap64 (x6_1 + 1)) l0_0 l0_1 l0_2 a0_3 l0_4 a0_5 a0_6))) = some r := H
                  have A25 := Aside0.mk A250
                  clear A250
                  by_cases c26 : ((rd_T113 l0_2 x6_1).f1).toList = ([] : List UInt8)
                  · rw [if_pos c26] at H
                    have c26b0 : (((rd_T113 l0_2 x6_1).f1).toList == ([] : List UInt8)) = true := beq_iff_eq.mpr c26
                    have c26b1 : (((rd_T113 l0_2 x6_1).f1).toList != ([] : List UInt8)) = false := bne_eq_false_iff_eq.mpr c26
                    clear c26
                    have H' := Aside0.mk H
                    clear H
                    have hcz27_0 : wc.cell? ⟨gb276, 0, none⟩ = some (.slice A0_0 l0_0.length c0_0) := (blk_cell BK276.out 0).trans rfl
                    have hcz27_1 : wc.cell? ⟨gb276, 1, none⟩ = some (.slice A0_1 l0_1.length c0_1) := (blk_cell BK276.out 1).trans rfl
                    have hcz27_2 : wc.cell? ⟨gb276, 2, none⟩ = some (.slice A0_2 l0_2.length c0_2) := (blk_cell BK276.out 2).trans rfl
                    have hcz27_3 : wc.cell? ⟨gb276, 3, none⟩ = some (.int .i64 a0_3) := (blk_cell BK276.out 3).trans rfl
                    have hcz27_4 : wc.cell? ⟨gb276, 4, none⟩ = some (.slice A0_4 l0_4.length c0_4) := (blk_cell BK276.out 4).trans rfl
                    have hcz27_5 : wc.cell? ⟨gb276, 5, none⟩ = some (.int .i64 a0_5) := (blk_cell BK276.out 5).trans rfl
                    have hcz27_6 : wc.cell? ⟨gb276, 6, none⟩ = some (.bool a0_6) := (blk_cell BK276.out 6).trans rfl
                    have hfz27_0 := blk_frozen BK276.out 0
                    have hfz27_1 := blk_frozen BK276.out 1
                    have hfz27_2 := blk_frozen BK276.out 2
                    have hfz27_3 := blk_frozen BK276.out 3
                    have hfz27_4 := blk_frozen BK276.out 4
                    have hfz27_5 := blk_frozen BK276.out 5
                    have hfz27_6 := blk_frozen BK276.out 6
                    have p277 : 0 ≤ (x6_1 : Int) := of_decide_eq_true (by first | (with_reducible assumption) | assumption)
                    have q277 : x6_1 < (l0_2.length : Int) := of_decide_eq_true (by first | (with_reducible assumption) | assumption)
                    obtain ⟨ad277, e277, hx277_0, hx277_1, hx277_2⟩ := at_T113 HR0_2.out x6_1 p277 q277
                    cases e277
                    replace hx277_0 := (HB.out.cell (World.block_lt_of_cell? w _ hx277_0)).trans hx277_0
                    replace hx277_1 := (HB.out.cell (World.block_lt_of_cell? w _ hx277_1)).trans hx277_1
                    replace hx277_2 := (HB.out.cell (World.block_lt_of_cell? w _ hx277_2)).trans hx277_2
                    replace p277 := eq_true p277
                    replace q277 := eq_true q277
                    go_wp2_with (first | ((with_reducible refine gate_dst (N := 7) rfl ?_); refine box_event ?hg (N := 7) ?hd (cs := #[.string (⟨#[]⟩ : ByteArray), .string (⟨#[]⟩ : ByteArray), .int .i64 0]) (t := 113) ?hr ?_; (case hd => rfl); (case hg => rfl); (case hr => first | (go_simp; done) | (go_simp; rfl)); intro gb278 hg w28 hbox hb; have n0_ := Aside0.mk (Kd.V_below (Kd.V_elderB (by (with_reducible repeat (first | apply Kd.V_alloc | apply Kd.V_drewN | apply Kd.V_drew)); exact HO_5.out) gb278 (Nat.le_of_eq hg.symm)) hb); have n1_ := Aside0.mk (Kd.V_below (Kd.V_elderB (by (with_reducible repeat (first | apply Kd.V_alloc | apply Kd.V_drewN | apply Kd.V_drew)); exact HO_277001.out) gb278 (Nat.le_of_eq hg.symm)) hb); have n2_ := Aside0.mk (blk_below (g := gb276) (o := .cells #[.slice A0_0 l0_0.length c0_0, .slice A0_1 l0_1.length c0_1, .slice (some ad277) l0_2.length c0_2, .int .i64 a0_3, .slice A0_4 l0_4.length c0_4, .int .i64 a0_5, .bool a0_6] 35 (0, 0)) (by (with_reducible repeat (first | refine blk_drewN ?_ _ | refine blk_drew ?_ | refine blk_alloc ?_ _)); exact BK276.out) hb); have n3_ := Aside0.mk (below_step (by repeat (first | (with_reducible first | exact HB.out | apply below_alloc | apply pw_below_drewN | apply below_drew1 | refine below_set ?_ GE276.out) | exact HB.out)) hb); have n4_ := Aside0.mk (hbox); have n5_ := Aside0.mk ((by rw [hg]; exact (below_size (by repeat (first | (with_reducible first | exact HB.out | apply below_alloc | apply pw_below_drewN | apply below_drew1 | refine below_set ?_ GE276.out) | exact HB.out))) : w.heap.size ≤ gb278)); have n6_ := Aside0.mk ((by rw [hg]; exact (below_size (by repeat (first | (with_reducible first | exact HB.out | apply below_alloc | apply pw_below_drewN | apply below_drew1 | refine below_set ?_ GE276.out) | exact HB.out))) : w.heap.size ≤ gb278)); have n7_ := Aside0.mk ((by rw [hg]; exact Nat.ne_of_lt (blk_lt (g := gb276) (o := .cells #[.slice A0_0 l0_0.length c0_0, .slice A0_1 l0_1.length c0_1, .slice (some ad277) l0_2.length c0_2, .int .i64 a0_3, .slice A0_4 l0_4.length c0_4, .int .i64 a0_5, .bool a0_6] 35 (0, 0)) (by (with_reducible repeat (first | refine blk_drewN ?_ _ | refine blk_drew ?_ | refine blk_alloc ?_ _)); exact BK276.out)) : gb276 ≠ gb278)); have n8_ := Aside0.mk ((by rw [hg]; exact Nat.ne_of_gt (blk_lt (g := gb276) (o := .cells #[.slice A0_0 l0_0.length c0_0, .slice A0_1 l0_1.length c0_1, .slice (some ad277) l0_2.length c0_2, .int .i64 a0_3, .slice A0_4 l0_4.length c0_4, .int .i64 a0_5, .bool a0_6] 35 (0, 0)) (by (with_reducible repeat (first | refine blk_drewN ?_ _ | refine blk_drew ?_ | refine blk_alloc ?_ _)); exact BK276.out)) : gb278 ≠ gb276)); clear HO_5; clear HO_277001; clear BK276; clear HB; have HO_5 := n0_; have HO_277001 := n1_; have BK276 := n2_; have HB := n3_; have BK278 := n4_; have GW278 := n5_; have GE278 := n6_; have NB276_278 := n7_; have NB278_276 := n8_; clear n0_ n1_ n2_ n3_ n4_ n5_ n6_ n7_ n8_; clear hb hbox hg; have hnb29 := NB278_276.out; have hnc29 := NB276_278.out; have hcz30_0 : w28.cell? ⟨gb278, 0, none⟩ = some (.string (⟨#[]⟩ : ByteArray)) := (blk_cell BK278.out 0).trans rfl; have hcz30_1 : w28.cell? ⟨gb278, 1, none⟩ = some (.string (⟨#[]⟩ : ByteArray)) := (blk_cell BK278.out 1).trans rfl; have hcz30_2 : w28.cell? ⟨gb278, 2, none⟩ = some (.int .i64 0) := (blk_cell BK278.out 2).trans rfl; have hfz30_0 := blk_frozen BK278.out 0; have hfz30_1 := blk_frozen BK278.out 1; have hfz30_2 := blk_frozen BK278.out 2; obtain ⟨Ao31, co31, eo31⟩ := Kd.V_slice HO_5.out; subst eo31) | ((with_reducible refine gate_callee (f := 70) rfl ?_); refine goesL_ (some 33) rfl rfl Tryz.func70 (by kernel_rfl) rfl #[.slice Ao31 x5_1.length co31, .string ((rd_T113 l0_2 x6_1).f0)] rfl (by (try simp only [List.map_toArray, List.map_cons, List.map_nil]); first | done | rfl | (simp only [List.length_drop, List.length_take]; rfl)) ?_; (with_reducible refine (stoaref14_without.calls kj4 _ _ x5_1 ((rd_T113 l0_2 x6_1).f0) t282 _ ?side1 ?side2 A25.out).mono ?_); (case side1 => refine (Kd.V_reads' (e := 93) (base := w.heap.size) (ok := fun k_ => (((P0_1_ k_ ∨ w.heap.size ≤ k_) ∧ k_ ≠ gb276) ∧ k_ ≠ gb278)) (n := x5_1.length) (c := co31) ?_).2.2; exact (by (with_reducible repeat (first | apply Kd.V_alloc | apply Kd.V_drewN | apply Kd.V_drew)); exact (Kd.V_mono (Kd.V_far (p := ⟨gb278, 2, none⟩) (Kd.V_far (p := ⟨gb278, 1, none⟩) (Kd.V_far (p := ⟨gb278, 0, none⟩) (Kd.V_mono HO_5.out (fun k_ hk => (⟨hk, hk.2⟩ : _ ∧ k_ ≠ gb278))) (fun _ hk => hk.2) (.string ((rd_T113 l0_2 x6_1).f0))) (fun _ hk => hk.2) (.string ((rd_T113 l0_2 x6_1).f1))) (fun _ hk => hk.2) (.int .i64 ((rd_T113 l0_2 x6_1).f2))) (fun _ h_ => h_.1)))); (case side2 => exact (Kd.V_reads' HO_5.out).2.1); rintro e w32 ⟨v283, rfl, ho0, hb⟩; refine ⟨_, rfl, ?_⟩; have n0_ := Aside0.mk (Kd.V_elder' (by (with_reducible repeat (first | apply Kd.V_alloc | apply Kd.V_drewN | apply Kd.V_drew)); exact (Kd.V_mono (Kd.V_far (p := ⟨gb278, 2, none⟩) (Kd.V_far (p := ⟨gb278, 1, none⟩) (Kd.V_far (p := ⟨gb278, 0, none⟩) (Kd.V_mono HO_5.out (fun k_ hk => (⟨hk, hk.2⟩ : _ ∧ k_ ≠ gb278))) (fun _ hk => hk.2) (.string ((rd_T113 l0_2 x6_1).f0))) (fun _ hk => hk.2) (.string ((rd_T113 l0_2 x6_1).f1))) (fun _ hk => hk.2) (.int .i64 ((rd_T113 l0_2 x6_1).f2))) (fun _ h_ => h_.1))) (Kd.R_base ho0) hb); have n1_ := Aside0.mk (Kd.V_elder' (by (with_reducible repeat (first | apply Kd.V_alloc | apply Kd.V_drewN | apply Kd.V_drew)); exact (Kd.V_mono (Kd.V_far (p := ⟨gb278, 2, none⟩) (Kd.V_far (p := ⟨gb278, 1, none⟩) (Kd.V_far (p := ⟨gb278, 0, none⟩) (Kd.V_mono HO_277001.out (fun k_ hk => (⟨hk, hk.2⟩ : _ ∧ k_ ≠ gb278))) (fun _ hk => hk.2) (.string ((rd_T113 l0_2 x6_1).f0))) (fun _ hk => hk.2) (.string ((rd_T113 l0_2 x6_1).f1))) (fun _ hk => hk.2) (.int .i64 ((rd_T113 l0_2 x6_1).f2))) (fun _ h_ => h_.1))) (Kd.R_base ho0) hb); have n2_ := Aside0.mk (Kd.R_lower (Kd.R_newM (M := fun k_ => (w.heap.size ≤ k_)) ho0 (below_size (by repeat (first | (with_reducible first | exact HB.out | apply below_alloc | apply pw_below_drewN | apply below_drew1 | refine below_set ?_ GE276.out | refine below_set ?_ GE278.out) | exact HB.out))) (fun k_ h_ => h_)) (below_size (by repeat (first | (with_reducible first | exact HB.out | apply below_alloc | apply pw_below_drewN | apply below_drew1 | refine below_set ?_ GE276.out | refine below_set ?_ GE278.out) | exact HB.out)))); have n3_ := Aside0.mk (blk_below (g := gb276) (o := .cells #[.slice A0_0 l0_0.length c0_0, .slice A0_1 l0_1.length c0_1, .slice (some ad277) l0_2.length c0_2, .int .i64 a0_3, .slice A0_4 l0_4.length c0_4, .int .i64 a0_5, .bool a0_6] 35 (0, 0)) (by (with_reducible repeat (first | refine blk_drewN ?_ _ | refine blk_drew ?_ | refine blk_alloc ?_ _)); refine blk_far ?_ NB276_278.out _; (with_reducible repeat (first | refine blk_drewN ?_ _ | refine blk_drew ?_ | refine blk_alloc ?_ _)); refine blk_far ?_ NB276_278.out _; (with_reducible repeat (first | refine blk_drewN ?_ _ | refine blk_drew ?_ | refine blk_alloc ?_ _)); refine blk_far ?_ NB276_278.out _; (with_reducible repeat (first | refine blk_drewN ?_ _ | refine blk_drew ?_ | refine blk_alloc ?_ _)); exact BK276.out) hb); have n4_ := Aside0.mk (blk_below (g := gb278) (o := .cells #[.string ((rd_T113 l0_2 x6_1).f0), .string ((rd_T113 l0_2 x6_1).f1), .int .i64 ((rd_T113 l0_2 x6_1).f2)] 113 (0, 0)) (by (with_reducible repeat (first | refine blk_drewN ?_ _ | refine blk_drew ?_ | refine blk_alloc ?_ _)); refine blk_put (cs := #[.string ((rd_T113 l0_2 x6_1).f0), .string ((rd_T113 l0_2 x6_1).f1), .int .i64 0]) ?_ 2 _ rfl; (with_reducible repeat (first | refine blk_drewN ?_ _ | refine blk_drew ?_ | refine blk_alloc ?_ _)); refine blk_put (cs := #[.string ((rd_T113 l0_2 x6_1).f0), .string (⟨#[]⟩ : ByteArray), .int .i64 0]) ?_ 1 _ rfl; (with_reducible repeat (first | refine blk_drewN ?_ _ | refine blk_drew ?_ | refine blk_alloc ?_ _)); refine blk_put (cs := #[.string (⟨#[]⟩ : ByteArray), .string (⟨#[]⟩ : ByteArray), .int .i64 0]) ?_ 0 _ rfl; (with_reducible repeat (first | refine blk_drewN ?_ _ | refine blk_drew ?_ | refine blk_alloc ?_ _)); exact BK278.out) hb); have n5_ := Aside0.mk (below_step (by repeat (first | (with_reducible first | exact HB.out | apply below_alloc | apply pw_below_drewN | apply below_drew1 | refine below_set ?_ GE276.out | refine below_set ?_ GE278.out) | exact HB.out)) hb); clear HO_5; clear HO_277001; clear BK276; clear BK278; clear HB; have HO_5 := n0_; have HO_277001 := n1_; have HO284 := n2_; have BK276 := n3_; have BK278 := n4_; have HB := n5_; clear n0_ n1_ n2_ n3_ n4_ n5_; (try clear hb); (try clear hb2); (try clear hk); (try clear hi); (try clear ho0); have hcz33_0 : w32.cell? ⟨gb278, 0, none⟩ = some (.string ((rd_T113 l0_2 x6_1).f0)) := (blk_cell BK278.out 0).trans rfl; have hcz33_1 : w32.cell? ⟨gb278, 1, none⟩ = some (.string ((rd_T113 l0_2 x6_1).f1)) := (blk_cell BK278.out 1).trans rfl; have hcz33_2 : w32.cell? ⟨gb278, 2, none⟩ = some (.int .i64 ((rd_T113 l0_2 x6_1).f2)) := (blk_cell BK278.out 2).trans rfl; have hfz33_0 := blk_frozen BK278.out 0; have hfz33_1 := blk_frozen BK278.out 1; have hfz33_2 := blk_frozen BK278.out 2))
                    go_roundg kj4
                    case measure => have := HK1.out; have := HJ4.out; omega
                    case rel => exact ⟨(t282), (wrap64 (x6_1 + 1)), (by first | rfl | (simp; done) | (simp [*]; done)), H', ⟨by have := HK1.out; have := HJ4.out; omega⟩, ⟨Kd.V_mono (Kd.R_V (by (with_reducible repeat (first | apply Kd.R_alloc | apply Kd.R_drewN | apply Kd.R_drew)); exact Kd.R_mono (Kd.R_types HO284.out BK276.out (by decide)) (fun k_ hk => (⟨hk.1.1, hk.2⟩ : (w.heap.size ≤ k_) ∧ k_ ≠ gb276)))) (fun k_ hk => by first | exact ⟨(.inr (hk.1)), hk.2⟩ | exact (.inr (hk)))⟩, ⟨by (with_reducible repeat (first | apply Kd.V_alloc | apply Kd.V_drewN | apply Kd.V_drew)); exact Kd.V_mono HO_277001.out (fun _ hk => ⟨hk.1.1.1, hk.1.1.2⟩)⟩, ⟨by (with_reducible repeat (first | refine blk_drewN ?_ _ | refine blk_drew ?_ | refine blk_alloc ?_ _)); exact BK276.out⟩, ⟨by repeat (first | (with_reducible first | exact HB.out | apply below_alloc | apply pw_below_drewN | apply below_drew1 | refine below_set ?_ GE276.out | refine below_set ?_ GE278.out) | exact HB.out)⟩⟩
                  · rw [if_neg c26] at H
                    have c26b0 : (((rd_T113 l0_2 x6_1).f1).toList == ([] : List UInt8)) = false := beq_eq_false_iff_ne.mpr c26
                    have c26b1 : (((rd_T113 l0_2 x6_1).f1).toList != ([] : List UInt8)) = true := bne_iff_ne.mpr c26
                    replace H := Option.bind_eq_some_iff.mp H
                    obtain ⟨t285, A340, H⟩ := H
                    replace H : (stoaref14_After.l0 kj4 a1 t285 (wrap64 (x6_1 + 1)) l0_0 l0_1 l0_2 a0_3 l0_4 a0_5 a0_6) = some r := H
                    have A34 := Aside0.mk A340
                    clear A340
                    have H' := Aside0.mk H
                    clear H
                    have hcz35_0 : wc.cell? ⟨gb276, 0, none⟩ = some (.slice A0_0 l0_0.length c0_0) := (blk_cell BK276.out 0).trans rfl
                    have hcz35_1 : wc.cell? ⟨gb276, 1, none⟩ = some (.slice A0_1 l0_1.length c0_1) := (blk_cell BK276.out 1).trans rfl
                    have hcz35_2 : wc.cell? ⟨gb276, 2, none⟩ = some (.slice A0_2 l0_2.length c0_2) := (blk_cell BK276.out 2).trans rfl
                    have hcz35_3 : wc.cell? ⟨gb276, 3, none⟩ = some (.int .i64 a0_3) := (blk_cell BK276.out 3).trans rfl
                    have hcz35_4 : wc.cell? ⟨gb276, 4, none⟩ = some (.slice A0_4 l0_4.length c0_4) := (blk_cell BK276.out 4).trans rfl
                    have hcz35_5 : wc.cell? ⟨gb276, 5, none⟩ = some (.int .i64 a0_5) := (blk_cell BK276.out 5).trans rfl
                    have hcz35_6 : wc.cell? ⟨gb276, 6, none⟩ = some (.bool a0_6) := (blk_cell BK276.out 6).trans rfl
                    have hfz35_0 := blk_frozen BK276.out 0
                    have hfz35_1 := blk_frozen BK276.out 1
                    have hfz35_2 := blk_frozen BK276.out 2
                    have hfz35_3 := blk_frozen BK276.out 3
                    have hfz35_4 := blk_frozen BK276.out 4
                    have hfz35_5 := blk_frozen BK276.out 5
                    have hfz35_6 := blk_frozen BK276.out 6
                    have p277 : 0 ≤ (x6_1 : Int) := of_decide_eq_true (by first | (with_reducible assumption) | assumption)
                    have q277 : x6_1 < (l0_2.length : Int) := of_decide_eq_true (by first | (with_reducible assumption) | assumption)
                    obtain ⟨ad277, e277, hx277_0, hx277_1, hx277_2⟩ := at_T113 HR0_2.out x6_1 p277 q277
                    cases e277
                    replace hx277_0 := (HB.out.cell (World.block_lt_of_cell? w _ hx277_0)).trans hx277_0
                    replace hx277_1 := (HB.out.cell (World.block_lt_of_cell? w _ hx277_1)).trans hx277_1
                    replace hx277_2 := (HB.out.cell (World.block_lt_of_cell? w _ hx277_2)).trans hx277_2
                    replace p277 := eq_true p277
                    replace q277 := eq_true q277
                    go_wp2_with (first | ((with_reducible refine gate_dst (N := 7) rfl ?_); refine box_event ?hg (N := 7) ?hd (cs := #[.string (⟨#[]⟩ : ByteArray), .string (⟨#[]⟩ : ByteArray), .int .i64 0]) (t := 113) ?hr ?_; (case hd => rfl); (case hg => rfl); (case hr => first | (go_simp; done) | (go_simp; rfl)); intro gb278 hg w36 hbox hb; have n0_ := Aside0.mk (Kd.V_below (Kd.V_elderB (by (with_reducible repeat (first | apply Kd.V_alloc | apply Kd.V_drewN | apply Kd.V_drew)); exact HO_5.out) gb278 (Nat.le_of_eq hg.symm)) hb); have n1_ := Aside0.mk (Kd.V_below (Kd.V_elderB (by (with_reducible repeat (first | apply Kd.V_alloc | apply Kd.V_drewN | apply Kd.V_drew)); exact HO_277001.out) gb278 (Nat.le_of_eq hg.symm)) hb); have n2_ := Aside0.mk (blk_below (g := gb276) (o := .cells #[.slice A0_0 l0_0.length c0_0, .slice A0_1 l0_1.length c0_1, .slice (some ad277) l0_2.length c0_2, .int .i64 a0_3, .slice A0_4 l0_4.length c0_4, .int .i64 a0_5, .bool a0_6] 35 (0, 0)) (by (with_reducible repeat (first | refine blk_drewN ?_ _ | refine blk_drew ?_ | refine blk_alloc ?_ _)); exact BK276.out) hb); have n3_ := Aside0.mk (below_step (by repeat (first | (with_reducible first | exact HB.out | apply below_alloc | apply pw_below_drewN | apply below_drew1 | refine below_set ?_ GE276.out) | exact HB.out)) hb); have n4_ := Aside0.mk (hbox); have n5_ := Aside0.mk ((by rw [hg]; exact (below_size (by repeat (first | (with_reducible first | exact HB.out | apply below_alloc | apply pw_below_drewN | apply below_drew1 | refine below_set ?_ GE276.out) | exact HB.out))) : w.heap.size ≤ gb278)); have n6_ := Aside0.mk ((by rw [hg]; exact (below_size (by repeat (first | (with_reducible first | exact HB.out | apply below_alloc | apply pw_below_drewN | apply below_drew1 | refine below_set ?_ GE276.out) | exact HB.out))) : w.heap.size ≤ gb278)); have n7_ := Aside0.mk ((by rw [hg]; exact Nat.ne_of_lt (blk_lt (g := gb276) (o := .cells #[.slice A0_0 l0_0.length c0_0, .slice A0_1 l0_1.length c0_1, .slice (some ad277) l0_2.length c0_2, .int .i64 a0_3, .slice A0_4 l0_4.length c0_4, .int .i64 a0_5, .bool a0_6] 35 (0, 0)) (by (with_reducible repeat (first | refine blk_drewN ?_ _ | refine blk_drew ?_ | refine blk_alloc ?_ _)); exact BK276.out)) : gb276 ≠ gb278)); have n8_ := Aside0.mk ((by rw [hg]; exact Nat.ne_of_gt (blk_lt (g := gb276) (o := .cells #[.slice A0_0 l0_0.length c0_0, .slice A0_1 l0_1.length c0_1, .slice (some ad277) l0_2.length c0_2, .int .i64 a0_3, .slice A0_4 l0_4.length c0_4, .int .i64 a0_5, .bool a0_6] 35 (0, 0)) (by (with_reducible repeat (first | refine blk_drewN ?_ _ | refine blk_drew ?_ | refine blk_alloc ?_ _)); exact BK276.out)) : gb278 ≠ gb276)); clear HO_5; clear HO_277001; clear BK276; clear HB; have HO_5 := n0_; have HO_277001 := n1_; have BK276 := n2_; have HB := n3_; have BK278 := n4_; have GW278 := n5_; have GE278 := n6_; have NB276_278 := n7_; have NB278_276 := n8_; clear n0_ n1_ n2_ n3_ n4_ n5_ n6_ n7_ n8_; clear hb hbox hg; have hnb37 := NB278_276.out; have hnc37 := NB276_278.out; have hcz38_0 : w36.cell? ⟨gb278, 0, none⟩ = some (.string (⟨#[]⟩ : ByteArray)) := (blk_cell BK278.out 0).trans rfl; have hcz38_1 : w36.cell? ⟨gb278, 1, none⟩ = some (.string (⟨#[]⟩ : ByteArray)) := (blk_cell BK278.out 1).trans rfl; have hcz38_2 : w36.cell? ⟨gb278, 2, none⟩ = some (.int .i64 0) := (blk_cell BK278.out 2).trans rfl; have hfz38_0 := blk_frozen BK278.out 0; have hfz38_1 := blk_frozen BK278.out 1; have hfz38_2 := blk_frozen BK278.out 2; obtain ⟨Ao39, co39, eo39⟩ := Kd.V_slice HO_5.out; subst eo39) | ((with_reducible refine gate_callee (f := 70) rfl ?_); refine goesL_ (some 33) rfl rfl Tryz.func70 (by kernel_rfl) rfl #[.slice Ao39 x5_1.length co39, .string ((rd_T113 l0_2 x6_1).f0)] rfl (by (try simp only [List.map_toArray, List.map_cons, List.map_nil]); first | done | rfl | (simp only [List.length_drop, List.length_take]; rfl)) ?_; (with_reducible refine (stoaref14_without.calls kj4 _ _ x5_1 ((rd_T113 l0_2 x6_1).f0) t282 _ ?side1 ?side2 A25.out).mono ?_); (case side1 => refine (Kd.V_reads' (e := 93) (base := w.heap.size) (ok := fun k_ => (((P0_1_ k_ ∨ w.heap.size ≤ k_) ∧ k_ ≠ gb276) ∧ k_ ≠ gb278)) (n := x5_1.length) (c := co39) ?_).2.2; exact (by (with_reducible repeat (first | apply Kd.V_alloc | apply Kd.V_drewN | apply Kd.V_drew)); exact (Kd.V_mono (Kd.V_far (p := ⟨gb278, 2, none⟩) (Kd.V_far (p := ⟨gb278, 1, none⟩) (Kd.V_far (p := ⟨gb278, 0, none⟩) (Kd.V_mono HO_5.out (fun k_ hk => (⟨hk, hk.2⟩ : _ ∧ k_ ≠ gb278))) (fun _ hk => hk.2) (.string ((rd_T113 l0_2 x6_1).f0))) (fun _ hk => hk.2) (.string ((rd_T113 l0_2 x6_1).f1))) (fun _ hk => hk.2) (.int .i64 ((rd_T113 l0_2 x6_1).f2))) (fun _ h_ => h_.1)))); (case side2 => exact (Kd.V_reads' HO_5.out).2.1); rintro e w40 ⟨v283, rfl, ho0, hb⟩; refine ⟨_, rfl, ?_⟩; have n0_ := Aside0.mk (Kd.V_elder' (by (with_reducible repeat (first | apply Kd.V_alloc | apply Kd.V_drewN | apply Kd.V_drew)); exact (Kd.V_mono (Kd.V_far (p := ⟨gb278, 2, none⟩) (Kd.V_far (p := ⟨gb278, 1, none⟩) (Kd.V_far (p := ⟨gb278, 0, none⟩) (Kd.V_mono HO_5.out (fun k_ hk => (⟨hk, hk.2⟩ : _ ∧ k_ ≠ gb278))) (fun _ hk => hk.2) (.string ((rd_T113 l0_2 x6_1).f0))) (fun _ hk => hk.2) (.string ((rd_T113 l0_2 x6_1).f1))) (fun _ hk => hk.2) (.int .i64 ((rd_T113 l0_2 x6_1).f2))) (fun _ h_ => h_.1))) (Kd.R_base ho0) hb); have n1_ := Aside0.mk (Kd.V_elder' (by (with_reducible repeat (first | apply Kd.V_alloc | apply Kd.V_drewN | apply Kd.V_drew)); exact (Kd.V_mono (Kd.V_far (p := ⟨gb278, 2, none⟩) (Kd.V_far (p := ⟨gb278, 1, none⟩) (Kd.V_far (p := ⟨gb278, 0, none⟩) (Kd.V_mono HO_277001.out (fun k_ hk => (⟨hk, hk.2⟩ : _ ∧ k_ ≠ gb278))) (fun _ hk => hk.2) (.string ((rd_T113 l0_2 x6_1).f0))) (fun _ hk => hk.2) (.string ((rd_T113 l0_2 x6_1).f1))) (fun _ hk => hk.2) (.int .i64 ((rd_T113 l0_2 x6_1).f2))) (fun _ h_ => h_.1))) (Kd.R_base ho0) hb); have n2_ := Aside0.mk (Kd.R_lower (Kd.R_newM (M := fun k_ => (w.heap.size ≤ k_)) ho0 (below_size (by repeat (first | (with_reducible first | exact HB.out | apply below_alloc | apply pw_below_drewN | apply below_drew1 | refine below_set ?_ GE276.out | refine below_set ?_ GE278.out) | exact HB.out))) (fun k_ h_ => h_)) (below_size (by repeat (first | (with_reducible first | exact HB.out | apply below_alloc | apply pw_below_drewN | apply below_drew1 | refine below_set ?_ GE276.out | refine below_set ?_ GE278.out) | exact HB.out)))); have n3_ := Aside0.mk (blk_below (g := gb276) (o := .cells #[.slice A0_0 l0_0.length c0_0, .slice A0_1 l0_1.length c0_1, .slice (some ad277) l0_2.length c0_2, .int .i64 a0_3, .slice A0_4 l0_4.length c0_4, .int .i64 a0_5, .bool a0_6] 35 (0, 0)) (by (with_reducible repeat (first | refine blk_drewN ?_ _ | refine blk_drew ?_ | refine blk_alloc ?_ _)); refine blk_far ?_ NB276_278.out _; (with_reducible repeat (first | refine blk_drewN ?_ _ | refine blk_drew ?_ | refine blk_alloc ?_ _)); refine blk_far ?_ NB276_278.out _; (with_reducible repeat (first | refine blk_drewN ?_ _ | refine blk_drew ?_ | refine blk_alloc ?_ _)); refine blk_far ?_ NB276_278.out _; (with_reducible repeat (first | refine blk_drewN ?_ _ | refine blk_drew ?_ | refine blk_alloc ?_ _)); exact BK276.out) hb); have n4_ := Aside0.mk (blk_below (g := gb278) (o := .cells #[.string ((rd_T113 l0_2 x6_1).f0), .string ((rd_T113 l0_2 x6_1).f1), .int .i64 ((rd_T113 l0_2 x6_1).f2)] 113 (0, 0)) (by (with_reducible repeat (first | refine blk_drewN ?_ _ | refine blk_drew ?_ | refine blk_alloc ?_ _)); refine blk_put (cs := #[.string ((rd_T113 l0_2 x6_1).f0), .string ((rd_T113 l0_2 x6_1).f1), .int .i64 0]) ?_ 2 _ rfl; (with_reducible repeat (first | refine blk_drewN ?_ _ | refine blk_drew ?_ | refine blk_alloc ?_ _)); refine blk_put (cs := #[.string ((rd_T113 l0_2 x6_1).f0), .string (⟨#[]⟩ : ByteArray), .int .i64 0]) ?_ 1 _ rfl; (with_reducible repeat (first | refine blk_drewN ?_ _ | refine blk_drew ?_ | refine blk_alloc ?_ _)); refine blk_put (cs := #[.string (⟨#[]⟩ : ByteArray), .string (⟨#[]⟩ : ByteArray), .int .i64 0]) ?_ 0 _ rfl; (with_reducible repeat (first | refine blk_drewN ?_ _ | refine blk_drew ?_ | refine blk_alloc ?_ _)); exact BK278.out) hb); have n5_ := Aside0.mk (below_step (by repeat (first | (with_reducible first | exact HB.out | apply below_alloc | apply pw_below_drewN | apply below_drew1 | refine below_set ?_ GE276.out | refine below_set ?_ GE278.out) | exact HB.out)) hb); clear HO_5; clear HO_277001; clear BK276; clear BK278; clear HB; have HO_5 := n0_; have HO_277001 := n1_; have HO284 := n2_; have BK276 := n3_; have BK278 := n4_; have HB := n5_; clear n0_ n1_ n2_ n3_ n4_ n5_; (try clear hb); (try clear hb2); (try clear hk); (try clear hi); (try clear ho0); have hcz41_0 : w40.cell? ⟨gb278, 0, none⟩ = some (.string ((rd_T113 l0_2 x6_1).f0)) := (blk_cell BK278.out 0).trans rfl; have hcz41_1 : w40.cell? ⟨gb278, 1, none⟩ = some (.string ((rd_T113 l0_2 x6_1).f1)) := (blk_cell BK278.out 1).trans rfl; have hcz41_2 : w40.cell? ⟨gb278, 2, none⟩ = some (.int .i64 ((rd_T113 l0_2 x6_1).f2)) := (blk_cell BK278.out 2).trans rfl; have hfz41_0 := blk_frozen BK278.out 0; have hfz41_1 := blk_frozen BK278.out 1; have hfz41_2 := blk_frozen BK278.out 2; obtain ⟨Ao42, co42, eo42⟩ := Kd.R_slice HO284.out; subst eo42) | ((with_reducible refine gate_callee (f := 43) rfl ?_); refine goesL_ (some 42) rfl rfl Tryz.func43 (by kernel_rfl) rfl #[.slice Ao42 t282.length co42, .string ((rd_T113 l0_2 x6_1).f1), .int .i64 ((rd_T113 l0_2 x6_1).f2)] rfl (by (try simp only [List.map_toArray, List.map_cons, List.map_nil]); first | done | rfl | (simp only [List.length_drop, List.length_take]; rfl)) ?_; (with_reducible refine (stoaref14_with.calls kj4 _ _ t282 ((rd_T113 l0_2 x6_1).f1) ((rd_T113 l0_2 x6_1).f2) t285 _ ?side1 ?side2 A34.out).mono ?_); (case side1 => repeat (first | exact (Kd.R_reads' HO284.out).2.2 | (with_reducible refine Kd.C_alloc ?_ _) | (with_reducible refine Kd.C_drewN ?_ _) | (with_reducible refine Kd.C_drew ?_))); (case side2 => exact (Kd.R_reads' HO284.out).2.1); rintro e w43 ⟨v286, rfl, ho0, hb⟩; refine ⟨_, rfl, ?_⟩; have n0_ := Aside0.mk (Kd.V_elder' (by (with_reducible repeat (first | apply Kd.V_alloc | apply Kd.V_drewN | apply Kd.V_drew)); exact HO_5.out) (Kd.R_base ho0) hb); have n1_ := Aside0.mk (Kd.V_elder' (by (with_reducible repeat (first | apply Kd.V_alloc | apply Kd.V_drewN | apply Kd.V_drew)); exact HO_277001.out) (Kd.R_base ho0) hb); have n2_ := Aside0.mk (Kd.R_elder' (by (with_reducible repeat (first | apply Kd.R_alloc | apply Kd.R_drewN | apply Kd.R_drew)); exact HO284.out) (Kd.R_base ho0) hb); have n3_ := Aside0.mk (Kd.R_lower (Kd.R_new' (Kd.R_newM (M := fun k_ => (w.heap.size ≤ k_)) ho0 (below_size (by repeat (first | (with_reducible first | exact HB.out | apply below_alloc | apply pw_below_drewN | apply below_drew1 | refine below_set ?_ GE276.out | refine below_set ?_ GE278.out) | exact HB.out))) (fun k_ h_ => h_)) (Kd.R_lt (by (with_reducible repeat (first | apply Kd.R_alloc | apply Kd.R_drewN | apply Kd.R_drew)); exact HO284.out))) (below_size (by repeat (first | (with_reducible first | exact HB.out | apply below_alloc | apply pw_below_drewN | apply below_drew1 | refine below_set ?_ GE276.out | refine below_set ?_ GE278.out) | exact HB.out)))); have n4_ := Aside0.mk (blk_below (g := gb276) (o := .cells #[.slice A0_0 l0_0.length c0_0, .slice A0_1 l0_1.length c0_1, .slice (some ad277) l0_2.length c0_2, .int .i64 a0_3, .slice A0_4 l0_4.length c0_4, .int .i64 a0_5, .bool a0_6] 35 (0, 0)) (by (with_reducible repeat (first | refine blk_drewN ?_ _ | refine blk_drew ?_ | refine blk_alloc ?_ _)); exact BK276.out) hb); have n5_ := Aside0.mk (blk_below (g := gb278) (o := .cells #[.string ((rd_T113 l0_2 x6_1).f0), .string ((rd_T113 l0_2 x6_1).f1), .int .i64 ((rd_T113 l0_2 x6_1).f2)] 113 (0, 0)) (by (with_reducible repeat (first | refine blk_drewN ?_ _ | refine blk_drew ?_ | refine blk_alloc ?_ _)); exact BK278.out) hb); have n6_ := Aside0.mk (below_step (by repeat (first | (with_reducible first | exact HB.out | apply below_alloc | apply pw_below_drewN | apply below_drew1 | refine below_set ?_ GE276.out | refine below_set ?_ GE278.out) | exact HB.out)) hb); clear HO_5; clear HO_277001; clear HO284; clear BK276; clear BK278; clear HB; have HO_5 := n0_; have HO_277001 := n1_; have HO284 := n2_; have HO287 := n3_; have BK276 := n4_; have BK278 := n5_; have HB := n6_; clear n0_ n1_ n2_ n3_ n4_ n5_ n6_; (try clear hb); (try clear hb2); (try clear hk); (try clear hi); (try clear ho0)))
                    go_roundg kj4
                    case measure => have := HK1.out; have := HJ4.out; omega
                    case rel => exact ⟨(t285), (wrap64 (x6_1 + 1)), (by first | rfl | (simp; done) | (simp [*]; done)), H', ⟨by have := HK1.out; have := HJ4.out; omega⟩, ⟨Kd.V_mono (Kd.R_V (by (with_reducible repeat (first | apply Kd.R_alloc | apply Kd.R_drewN | apply Kd.R_drew)); exact Kd.R_mono (Kd.R_types HO287.out BK276.out (by decide)) (fun k_ hk => (⟨hk.1.1.1, hk.2⟩ : (w.heap.size ≤ k_) ∧ k_ ≠ gb276)))) (fun k_ hk => by first | exact ⟨(.inr (hk.1)), hk.2⟩ | exact (.inr (hk)))⟩, ⟨by (with_reducible repeat (first | apply Kd.V_alloc | apply Kd.V_drewN | apply Kd.V_drew)); exact Kd.V_mono HO_277001.out (fun _ hk => ⟨hk.1.1.1.1, hk.1.1.1.2⟩)⟩, ⟨by (with_reducible repeat (first | refine blk_drewN ?_ _ | refine blk_drew ?_ | refine blk_alloc ?_ _)); exact BK276.out⟩, ⟨by repeat (first | (with_reducible first | exact HB.out | apply below_alloc | apply pw_below_drewN | apply below_drew1 | refine below_set ?_ GE276.out | refine below_set ?_ GE278.out) | exact HB.out)⟩⟩
              · rw [if_neg c11] at H
                exact absurd H (by simp)
            · rw [if_neg c10] at H
              exact absurd H (by simp)
          · replace c9 := Bool.eq_false_iff.mpr c9
            subst c9
            have H1 : (some x5_1) = some r := by rw [if_neg (show ¬ (false = true) by decide)] at H; exact H
            clear H
            have H := H1
            clear H1
            obtain rfl := Option.some.inj H
            go_wp2
            go_ret
            exact ⟨_, by first | rfl | (simp [errW_none, errW_some] <;> rfl) | (simp [*, errW_none, errW_some] <;> rfl), by (with_reducible repeat (first | apply Kd.V_alloc | apply Kd.V_drewN | apply Kd.V_drew)); exact Kd.V_mono HO_5.out (fun _ hk => hk.1), by repeat (first | (with_reducible first | exact HB.out | apply below_alloc | apply pw_below_drewN | apply below_drew1 | refine below_set ?_ GE276.out) | exact HB.out)⟩

end Go.Proofs.YtgcpiofpjogjcaaGreatDoor.PK
end
