/-
  Parts of the proof: E7.
-/
import Derived.Test.YtgcpiofpjogjcaaGreatDoorQ3
import Derived.Test.YtgcpiofpjogjcaaGreatDoorQ4
import Derived.Test.YtgcpiofpjogjcaaGreatDoorQ7
import Derived.Test.YtgcpiofpjogjcaaGreatDoorQ8
section
namespace Go.Proofs.YtgcpiofpjogjcaaGreatDoor.PK
open Go.RowKit Go.Proofs.YtgcpiofpjogjcaaGreatDoorW.PrintWords Go.Proofs.YtgcpiofpjogjcaaGreatDoorW.PrintLast Go.Proofs.YtgcpiofpjogjcaaGreatDoorW.PrintMore
attribute [local go_sem] max2_int min2_int max_two min_two max_three min_three max_four min_four   -- for this text's walks alone
set_option linter.unusedVariables false
set_option linter.unusedSimpArgs false



/-! ### stoaref14_Load: function 9 -/
def stoaref14_Load.l0 : Nat → List (S40) → Int → List (S54) → List (S93) → List (S113) → Int → List (S69) → Int → Bool → Option ((List (S54)) × (List (S93)) × (List (S113)) × Int × (List (S69)) × Int × Bool × Int)
  | 0, _, _, _, _, _, _, _, _, _ => none
  | k + 1, x1, x7, x334000, x334001, x334002, x334003, x334004, x334005, x334006 => if x7 < (x1.length : Int) then (if 0 ≤ x7 then ((stoaref14_refuse.f k x334000 x334001 x334002 x334003 x334004 x334005 x334006 ((rd_T40 x1 x7).f0)).bind fun t335 => (if t335 = 0 then ((stoaref01_Copy.f k ((rd_T40 x1 x7).f1)).bind fun t337 => ((stoaref14_body.f k x334000 x334001 x334002 x334003 x334004 x334005 x334006 t337 (((rd_T40 x1 x7).f1).length : Int)).bind fun bt341 => ((stoaref14_with.f k bt341.2.1 ((rd_T40 x1 x7).f0) (wrap64 ((bt341.1.length : Int) - 1))).bind fun t357 => (stoaref14_Load.l0 k x1 (wrap64 (x7 + 1)) bt341.1 t357 bt341.2.2.1 bt341.2.2.2.1 bt341.2.2.2.2.1 bt341.2.2.2.2.2.1 bt341.2.2.2.2.2.2)))) else (some (([] : List (S54)), ([] : List (S93)), ([] : List (S113)), 0, ([] : List (S69)), 0, false, t335)))) else (none)) else (some (x334000, x334001, x334002, x334003, x334004, x334005, x334006, 0))
def stoaref14_Load.f (k : Nat) (a0 : Int) (l1 : List (S40)) : Option ((List (S54)) × (List (S93)) × (List (S113)) × Int × (List (S69)) × Int × Bool × Int) := (stoaref14_New.f a0).bind fun bt318 => (stoaref14_Load.l0 k l1 0 bt318.1 bt318.2.1 bt318.2.2.1 bt318.2.2.2.1 bt318.2.2.2.2.1 bt318.2.2.2.2.2.1 bt318.2.2.2.2.2.2)
theorem stoaref14_Load.mono_l : ∀ k, (∀ y0 y1 y2 y3 y4 y5 y6 y7 y8, LeO (stoaref14_Load.l0 k y0 y1 y2 y3 y4 y5 y6 y7 y8) (stoaref14_Load.l0 (k + 1) y0 y1 y2 y3 y4 y5 y6 y7 y8))
  | 0 => fun _ _ _ _ _ _ _ _ _ r h => by simp [stoaref14_Load.l0] at h
  | k + 1 => by
    have ih0 := stoaref14_Load.mono_l k
    · intro y0 y1 y2 y3 y4 y5 y6 y7 y8
      unfold stoaref14_Load.l0
      repeat' first
      | (with_reducible exact ih0 _ _ _ _ _ _ _ _ _)
      | (with_reducible exact stoaref01_Copy.mono _ _)
      | (with_reducible exact stoaref14_body.mono _ _ _ _ _ _ _ _ _ _)
      | (with_reducible exact stoaref14_refuse.mono _ _ _ _ _ _ _ _ _)
      | (with_reducible exact stoaref14_with.mono _ _ _ _)
      | (with_reducible exact LeO.refl _)
      | (with_reducible exact LeO.none _)
      | (with_reducible refine LeO.ite ?_ ?_)
      | (with_reducible refine LeO.bind ?_ (fun _ => ?_))
      | exact ih0 _ _ _ _ _ _ _ _ _
      | exact stoaref01_Copy.mono _ _
      | exact stoaref14_body.mono _ _ _ _ _ _ _ _ _ _
      | exact stoaref14_refuse.mono _ _ _ _ _ _ _ _ _
      | exact stoaref14_with.mono _ _ _ _
      | exact LeO.none _
      | refine LeO.ite ?_ ?_
      | refine LeO.bind ?_ (fun _ => ?_)
theorem stoaref14_Load.mono : ∀ a0 a1 k, LeO (stoaref14_Load.f k a0 a1) (stoaref14_Load.f (k + 1) a0 a1) := by
  intro a0 a1 k
  have ih0 := stoaref14_Load.mono_l k
  unfold stoaref14_Load.f
  repeat' first
      | (with_reducible exact ih0 _ _ _ _ _ _ _ _ _)
      | (with_reducible exact stoaref01_Copy.mono _ _)
      | (with_reducible exact stoaref14_body.mono _ _ _ _ _ _ _ _ _ _)
      | (with_reducible exact stoaref14_refuse.mono _ _ _ _ _ _ _ _ _)
      | (with_reducible exact stoaref14_with.mono _ _ _ _)
      | (with_reducible exact LeO.refl _)
      | (with_reducible exact LeO.none _)
      | (with_reducible refine LeO.ite ?_ ?_)
      | (with_reducible refine LeO.bind ?_ (fun _ => ?_))
      | exact ih0 _ _ _ _ _ _ _ _ _
      | exact stoaref01_Copy.mono _ _
      | exact stoaref14_body.mono _ _ _ _ _ _ _ _ _ _
      | exact stoaref14_refuse.mono _ _ _ _ _ _ _ _ _
      | exact stoaref14_with.mono _ _ _ _
      | exact LeO.none _
      | refine LeO.ite ?_ ?_
      | refine LeO.bind ?_ (fun _ => ?_)
def stoaref14_Load.T5 : Bool × List (List Nat × List Nat) := (true, [([], []), ([], []), ([], []), ([1, 2], [1, 2]), ([3], [3]), ([4], [4]), ([0, 5], [0, 5]), ([6, 6, 0, 1, 2, 3, 4, 5, 6], [6])])
def stoaref14_Load.B5 : List Nat := [0, 0, 0, 6, 14, 30, 63, 127]
theorem stoaref14_Load.tab5 : rtab .any (opsOf Tryz.f9 5) = stoaref14_Load.T5 := by kernel_rfl
theorem stoaref14_Load.bits5 : waitsOk stoaref14_Load.T5.2 stoaref14_Load.B5 = true := by kernel_rfl
def stoaref14_Load.T8 : Bool × List (List Nat × List Nat) := (true, [([], []), ([], []), ([], []), ([1, 2], [1, 2]), ([3], [3]), ([4], [4]), ([5], [5]), ([], []), ([], []), ([7, 8], [7, 8]), ([9], [9]), ([10], [10]), ([11], [11]), ([6, 12], [6, 12]), ([0, 13, 6], [0, 13]), ([14, 14, 0, 1, 2, 3, 4, 5, 6, 7, 8, 9, 10, 11, 12, 13, 14], [14])])
def stoaref14_Load.B8 : List Nat := [0, 0, 0, 6, 14, 30, 62, 0, 0, 384, 896, 1920, 3968, 8190, 16383, 32767]
theorem stoaref14_Load.tab8 : rtab .any (opsOf Tryz.f9 8) = stoaref14_Load.T8 := by kernel_rfl
theorem stoaref14_Load.bits8 : waitsOk stoaref14_Load.T8.2 stoaref14_Load.B8 = true := by kernel_rfl
def stoaref14_Load.T9 : Bool × List (List Nat × List Nat) := (true, [([], []), ([0], [0]), ([], []), ([], []), ([2, 3], [2, 3]), ([4], [4]), ([5], [5]), ([], []), ([7], [7]), ([8], [8]), ([9], [9]), ([1, 6, 10], [1, 6, 10]), ([0, 1, 2, 3, 4, 5, 6, 7, 8, 9, 10, 11], []), ([12, 11, 11, 0, 1, 2, 3, 4, 5, 6, 7, 8, 9, 10, 11], [11, 12])])
def stoaref14_Load.B9 : List Nat := [0, 1, 0, 0, 12, 28, 60, 0, 128, 384, 896, 2047, 4095, 8191]
theorem stoaref14_Load.tab9 : rtab .any (opsOf Tryz.f9 9) = stoaref14_Load.T9 := by kernel_rfl
theorem stoaref14_Load.bits9 : waitsOk stoaref14_Load.T9.2 stoaref14_Load.B9 = true := by kernel_rfl
set_option maxHeartbeats 8000000 in
set_option maxRecDepth 100000 in
theorem stoaref14_Load.calls (k : Nat) (a0 : Int) (A1 : Option Addr) (c1 : Nat) (l1 : List (S40)) (r1 : List (S54)) (r2 : List (S93)) (r3 : List (S113)) (r4 : Int) (r5 : List (S69)) (r6 : Int) (r7 : Bool) (r8 : Int) (w : World) (hr1 : Kd.C k40 w A1 l1.length l1) (hc1 : l1.length ≤ c1) (h : stoaref14_Load.f k a0 l1 = some (r1, r2, r3, r4, r5, r6, r7, r8)) :
    Calls Tryz.prog 9 #[.int .i64 a0, .slice A1 l1.length c1] w fun e w' => ∃ v0_ v1_ v2_ v4_ : Value, e = .returned (.tuple #[.agg #[v0_, v1_, v2_, .int .i64 r4, v4_, .int .i64 r6, .bool r7], .int .i64 r8]) ∧ Kd.N k54 54 w' w.heap.size (fun k_ => (w.heap.size ≤ k_) ∧ some k_ ≠ (v1_ : Value).ownBlock ∧ some k_ ≠ (v2_ : Value).ownBlock ∧ some k_ ≠ (v4_ : Value).ownBlock) v0_ r1 ∧ Kd.R k93 93 w' w.heap.size (fun k_ => (w.heap.size ≤ k_)) v1_ r2 ∧ Kd.R k113 113 w' w.heap.size (fun k_ => (w.heap.size ≤ k_)) v2_ r3 ∧ Kd.R k69 69 w' w.heap.size (fun k_ => (w.heap.size ≤ k_)) v4_ r5 ∧ Below w.heap.size w w' := by
  have hu35 := Tryz.underlying35
  have hu54 := Tryz.underlying54
  have HR1 := Aside0.mk hr1
  have HC1 := Aside0.mk hc1
  clear hr1 hc1
  have HB := Aside0.mk (Below.refl w.heap.size w)
  have H : ((stoaref14_New.f a0).bind fun bt318 => (stoaref14_Load.l0 k l1 0 bt318.1 bt318.2.1 bt318.2.2.1 bt318.2.2.2.1 bt318.2.2.2.2.1 bt318.2.2.2.2.2.1 bt318.2.2.2.2.2.2)) = some (r1, r2, r3, r4, r5, r6, r7, r8) := h
  clear h
  replace H := Option.bind_eq_some_iff.mp H
  obtain ⟨⟨t318, t321, t324, t327, t328, t331, t332⟩, A30, H⟩ := H
  replace H : (stoaref14_Load.l0 k l1 0 t318 t321 t324 t327 t328 t331 t332) = some (r1, r2, r3, r4, r5, r6, r7, r8) := H
  have A3 := Aside0.mk A30
  clear A30
  have H' := Aside0.mk H
  clear H
  go_enter Tryz.func9, Tryz.ntmps9
  go_wp2_with (first | ((with_reducible refine gate_dst (N := 4) rfl ?_); refine box_event ?hg (N := 4) ?hd (cs := #[.slice none 0 0, .slice none 0 0, .slice none 0 0, .int .i64 0, .slice none 0 0, .int .i64 0, .bool false]) (t := 35) ?hr ?_; (case hd => rfl); (case hg => rfl); (case hr => first | (go_simp; done) | (go_simp; rfl)); intro gb317 hg w4 hbox hb; have n0_ := Aside0.mk (below_step (by repeat (first | (with_reducible first | exact HB.out | apply below_alloc | apply pw_below_drewN | apply below_drew1) | exact HB.out)) hb); have n1_ := Aside0.mk (hbox); have n2_ := Aside0.mk ((by rw [hg]; exact (below_size (by repeat (first | (with_reducible first | exact HB.out | apply below_alloc | apply pw_below_drewN | apply below_drew1) | exact HB.out))) : w.heap.size ≤ gb317)); have n3_ := Aside0.mk ((by rw [hg]; exact (below_size (by repeat (first | (with_reducible first | exact HB.out | apply below_alloc | apply pw_below_drewN | apply below_drew1) | exact HB.out))) : w.heap.size ≤ gb317)); clear HB; have HB := n0_; have BK317 := n1_; have GW317 := n2_; have GE317 := n3_; clear n0_ n1_ n2_ n3_; clear hb hbox hg) | ((with_reducible refine gate_callee (f := 40) rfl ?_); refine goesL_ (some 10) rfl rfl Tryz.func40 (by kernel_rfl) rfl #[.int .i64 a0] rfl (by (try simp only [List.map_toArray, List.map_cons, List.map_nil]); first | done | rfl | (simp only [List.length_drop, List.length_take]; rfl)) ?_; (with_reducible refine (stoaref14_New.calls a0 t318 t321 t324 t327 t328 t331 t332 _ A3.out).mono ?_); rintro e w5 ⟨v319, v322, v325, v329, rfl, ho0, ho1, ho2, ho3, hb⟩; refine ⟨_, rfl, ?_⟩; have n0_ := Aside0.mk (Kd.N_lower (Kd.N_mono (ok' := fun k_ => (w.heap.size ≤ k_) ∧ some k_ ≠ (v322 : Value).ownBlock ∧ some k_ ≠ (v325 : Value).ownBlock ∧ some k_ ≠ (v329 : Value).ownBlock ∧ k_ ≠ gb317) (Kd.S_N (Kd.S_bound (Kd.S_apart' (Kd.S_apart' (Kd.S_apart' ho0 (Kd.R_typed ho1) (by decide)) (Kd.R_typed ho2) (by decide)) (Kd.R_typed ho3) (by decide)))) (fun k_ hk_ => ⟨(Nat.le_trans (below_size (by repeat (first | (with_reducible first | exact HB.out | apply below_alloc | apply pw_below_drewN | apply below_drew1 | refine below_set ?_ GE317.out) | exact HB.out))) hk_.2.1), hk_.1.1.1.2, hk_.1.1.2, hk_.1.2, (Kd.freshB (g := gb317) (o := .cells #[.slice none 0 0, .slice none 0 0, .slice none 0 0, .int .i64 0, .slice none 0 0, .int .i64 0, .bool false] 35 (0, 0)) (by (with_reducible repeat (first | refine blk_drewN ?_ _ | refine blk_drew ?_ | refine blk_alloc ?_ _)); exact BK317.out) k_ hk_.2.1)⟩)) (below_size (by repeat (first | (with_reducible first | exact HB.out | apply below_alloc | apply pw_below_drewN | apply below_drew1 | refine below_set ?_ GE317.out) | exact HB.out)))); have n1_ := Aside0.mk (Kd.R_lower (Kd.R_newM (M := fun k_ => (w.heap.size ≤ k_)) ho1 (below_size (by repeat (first | (with_reducible first | exact HB.out | apply below_alloc | apply pw_below_drewN | apply below_drew1 | refine below_set ?_ GE317.out) | exact HB.out))) (fun k_ h_ => h_)) (below_size (by repeat (first | (with_reducible first | exact HB.out | apply below_alloc | apply pw_below_drewN | apply below_drew1 | refine below_set ?_ GE317.out) | exact HB.out)))); have n2_ := Aside0.mk (Kd.R_lower (Kd.R_newM (M := fun k_ => (w.heap.size ≤ k_)) ho2 (below_size (by repeat (first | (with_reducible first | exact HB.out | apply below_alloc | apply pw_below_drewN | apply below_drew1 | refine below_set ?_ GE317.out) | exact HB.out))) (fun k_ h_ => h_)) (below_size (by repeat (first | (with_reducible first | exact HB.out | apply below_alloc | apply pw_below_drewN | apply below_drew1 | refine below_set ?_ GE317.out) | exact HB.out)))); have n3_ := Aside0.mk (Kd.R_lower (Kd.R_newM (M := fun k_ => (w.heap.size ≤ k_)) ho3 (below_size (by repeat (first | (with_reducible first | exact HB.out | apply below_alloc | apply pw_below_drewN | apply below_drew1 | refine below_set ?_ GE317.out) | exact HB.out))) (fun k_ h_ => h_)) (below_size (by repeat (first | (with_reducible first | exact HB.out | apply below_alloc | apply pw_below_drewN | apply below_drew1 | refine below_set ?_ GE317.out) | exact HB.out)))); have n4_ := Aside0.mk (blk_below (g := gb317) (o := .cells #[.slice none 0 0, .slice none 0 0, .slice none 0 0, .int .i64 0, .slice none 0 0, .int .i64 0, .bool false] 35 (0, 0)) (by (with_reducible repeat (first | refine blk_drewN ?_ _ | refine blk_drew ?_ | refine blk_alloc ?_ _)); exact BK317.out) hb); have n5_ := Aside0.mk (below_step (by repeat (first | (with_reducible first | exact HB.out | apply below_alloc | apply pw_below_drewN | apply below_drew1 | refine below_set ?_ GE317.out) | exact HB.out)) hb); clear BK317; clear HB; have HO320 := n0_; have HO323 := n1_; have HO326 := n2_; have HO330 := n3_; have BK317 := n4_; have HB := n5_; clear n0_ n1_ n2_ n3_ n4_ n5_; (try clear hb); (try clear hb2); (try clear hk); (try clear hi); (try clear ho0); (try clear ho1); (try clear ho2); (try clear ho3)) | ((with_reducible refine gate_dst (N := 6) rfl ?_); refine box_event ?hg (N := 6) ?hd (cs := #[.slice none 0 0, .slice none 0 0, .slice none 0 0, .int .i64 0, .slice none 0 0, .int .i64 0, .bool false]) (t := 35) ?hr ?_; (case hd => rfl); (case hg => rfl); (case hr => first | (go_simp; done) | (go_simp; rfl)); intro gb333 hg w6 hbox hb; have n0_ := Aside0.mk (Kd.N_below (Kd.N_elderB (by (with_reducible repeat (first | apply Kd.N_alloc | apply Kd.N_drewN | apply Kd.N_drew)); exact HO320.out) gb333 (Nat.le_of_eq hg.symm)) hb); have n1_ := Aside0.mk (Kd.R_below (by (with_reducible repeat (first | apply Kd.R_alloc | apply Kd.R_drewN | apply Kd.R_drew)); exact HO323.out) hb); have n2_ := Aside0.mk (Kd.R_below (by (with_reducible repeat (first | apply Kd.R_alloc | apply Kd.R_drewN | apply Kd.R_drew)); exact HO326.out) hb); have n3_ := Aside0.mk (Kd.R_below (by (with_reducible repeat (first | apply Kd.R_alloc | apply Kd.R_drewN | apply Kd.R_drew)); exact HO330.out) hb); have n4_ := Aside0.mk (blk_below (g := gb317) (o := .cells #[.slice none 0 0, .slice none 0 0, .slice none 0 0, .int .i64 0, .slice none 0 0, .int .i64 0, .bool false] 35 (0, 0)) (by (with_reducible repeat (first | refine blk_drewN ?_ _ | refine blk_drew ?_ | refine blk_alloc ?_ _)); exact BK317.out) hb); have n5_ := Aside0.mk (below_step (by repeat (first | (with_reducible first | exact HB.out | apply below_alloc | apply pw_below_drewN | apply below_drew1 | refine below_set ?_ GE317.out) | exact HB.out)) hb); have n6_ := Aside0.mk (hbox); have n7_ := Aside0.mk ((by rw [hg]; exact (below_size (by repeat (first | (with_reducible first | exact HB.out | apply below_alloc | apply pw_below_drewN | apply below_drew1 | refine below_set ?_ GE317.out) | exact HB.out))) : w.heap.size ≤ gb333)); have n8_ := Aside0.mk ((by rw [hg]; exact (below_size (by repeat (first | (with_reducible first | exact HB.out | apply below_alloc | apply pw_below_drewN | apply below_drew1 | refine below_set ?_ GE317.out) | exact HB.out))) : w.heap.size ≤ gb333)); have n9_ := Aside0.mk ((by rw [hg]; exact Nat.ne_of_lt (blk_lt (g := gb317) (o := .cells #[.slice none 0 0, .slice none 0 0, .slice none 0 0, .int .i64 0, .slice none 0 0, .int .i64 0, .bool false] 35 (0, 0)) (by (with_reducible repeat (first | refine blk_drewN ?_ _ | refine blk_drew ?_ | refine blk_alloc ?_ _)); exact BK317.out)) : gb317 ≠ gb333)); have n10_ := Aside0.mk ((by rw [hg]; exact Nat.ne_of_gt (blk_lt (g := gb317) (o := .cells #[.slice none 0 0, .slice none 0 0, .slice none 0 0, .int .i64 0, .slice none 0 0, .int .i64 0, .bool false] 35 (0, 0)) (by (with_reducible repeat (first | refine blk_drewN ?_ _ | refine blk_drew ?_ | refine blk_alloc ?_ _)); exact BK317.out)) : gb333 ≠ gb317)); clear HO320; clear HO323; clear HO326; clear HO330; clear BK317; clear HB; have HO320 := n0_; have HO323 := n1_; have HO326 := n2_; have HO330 := n3_; have BK317 := n4_; have HB := n5_; have BK333 := n6_; have GW333 := n7_; have GE333 := n8_; have NB317_333 := n9_; have NB333_317 := n10_; clear n0_ n1_ n2_ n3_ n4_ n5_ n6_ n7_ n8_ n9_ n10_; clear hb hbox hg; obtain ⟨Ao7, co7, eo7⟩ := Kd.N_slice HO320.out; subst eo7; have hnb8 := NB333_317.out; have hnc8 := NB317_333.out; have hcz9_0 : w6.cell? ⟨gb333, 0, none⟩ = some (.slice none 0 0) := (blk_cell BK333.out 0).trans rfl; have hcz9_1 : w6.cell? ⟨gb333, 1, none⟩ = some (.slice none 0 0) := (blk_cell BK333.out 1).trans rfl; have hcz9_2 : w6.cell? ⟨gb333, 2, none⟩ = some (.slice none 0 0) := (blk_cell BK333.out 2).trans rfl; have hcz9_3 : w6.cell? ⟨gb333, 3, none⟩ = some (.int .i64 0) := (blk_cell BK333.out 3).trans rfl; have hcz9_4 : w6.cell? ⟨gb333, 4, none⟩ = some (.slice none 0 0) := (blk_cell BK333.out 4).trans rfl; have hcz9_5 : w6.cell? ⟨gb333, 5, none⟩ = some (.int .i64 0) := (blk_cell BK333.out 5).trans rfl; have hcz9_6 : w6.cell? ⟨gb333, 6, none⟩ = some (.bool false) := (blk_cell BK333.out 6).trans rfl; have hfz9_0 := blk_frozen BK333.out 0; have hfz9_1 := blk_frozen BK333.out 1; have hfz9_2 := blk_frozen BK333.out 2; have hfz9_3 := blk_frozen BK333.out 3; have hfz9_4 := blk_frozen BK333.out 4; have hfz9_5 := blk_frozen BK333.out 5; have hfz9_6 := blk_frozen BK333.out 6; obtain ⟨Ao10, co10, eo10⟩ := Kd.R_slice HO323.out; subst eo10; obtain ⟨Ao11, co11, eo11⟩ := Kd.R_slice HO326.out; subst eo11; obtain ⟨Ao12, co12, eo12⟩ := Kd.R_slice HO330.out; subst eo12))
  go_loopg [7] k (fun kq v7 w' => ∃ (x7_1 : Int) (x318003_1 : Int) (x318005_1 : Int) (x318006_1 : Bool) (x334000_1 : List (S54)) (x334001_1 : List (S93)) (x334002_1 : List (S113)) (x334003_1 : Int) (x334004_1 : List (S69)) (x334005_1 : Int) (x334006_1 : Bool) (u334000 : Value) (u334001 : Value) (u334002 : Value) (u334004 : Value), v7 = .int .i64 x7_1 ∧ Aside0 (stoaref14_Load.l0 kq l1 x7_1 x334000_1 x334001_1 x334002_1 x334003_1 x334004_1 x334005_1 x334006_1 = some (r1, r2, r3, r4, r5, r6, r7, r8)) ∧ Aside0 (kq ≤ k) ∧ Aside0 (Kd.N k54 54 w' w.heap.size (fun k_ => (w.heap.size ≤ k_) ∧ some k_ ≠ (u334001 : Value).ownBlock ∧ some k_ ≠ (u334002 : Value).ownBlock ∧ some k_ ≠ (u334004 : Value).ownBlock ∧ k_ ≠ gb317 ∧ k_ ≠ gb333) u334000 x334000_1) ∧ Aside0 (Kd.R k93 93 w' w.heap.size (fun k_ => (w.heap.size ≤ k_)) u334001 x334001_1) ∧ Aside0 (Kd.R k113 113 w' w.heap.size (fun k_ => (w.heap.size ≤ k_)) u334002 x334002_1) ∧ Aside0 (Kd.R k69 69 w' w.heap.size (fun k_ => (w.heap.size ≤ k_)) u334004 x334004_1) ∧ Aside0 (w'.heap[gb317]? = some (.cells #[(.slice none 0 0), (.slice none 0 0), (.slice none 0 0), .int .i64 x318003_1, (.slice none 0 0), .int .i64 x318005_1, .bool x318006_1] 35 (0, 0))) ∧ Aside0 (w'.heap[gb333]? = some (.cells #[u334000, u334001, u334002, .int .i64 x334003_1, u334004, .int .i64 x334005_1, .bool x334006_1] 35 (0, 0))) ∧ Aside0 (Below w.heap.size w w'))
  case atStart => exact ⟨(0), (0), (0), (false), (t318), (t321), (t324), (t327), (t328), (t331), (t332), (.slice Ao7 t318.length co7), (.slice Ao10 t321.length co10), (.slice Ao11 t324.length co11), (.slice Ao12 t328.length co12), (by first | rfl | (simp; done) | (simp [*]; done)), H', ⟨Nat.le_refl _⟩, ⟨by (with_reducible repeat (first | apply Kd.N_alloc | apply Kd.N_drewN | apply Kd.N_drew)); exact Kd.N_mono (Kd.N_far (p := ⟨gb333, 6, none⟩) (Kd.N_far (p := ⟨gb333, 5, none⟩) (Kd.N_far (p := ⟨gb333, 4, none⟩) (Kd.N_far (p := ⟨gb333, 3, none⟩) (Kd.N_far (p := ⟨gb333, 2, none⟩) (Kd.N_far (p := ⟨gb333, 1, none⟩) (Kd.N_far (p := ⟨gb333, 0, none⟩) (Kd.N_mono HO320.out (fun k_ hk => (⟨hk, hk.2⟩ : _ ∧ k_ ≠ gb333))) (fun _ hk => hk.2) (.slice Ao7 t318.length co7)) (fun _ hk => hk.2) (.slice Ao10 t321.length co10)) (fun _ hk => hk.2) (.slice Ao11 t324.length co11)) (fun _ hk => hk.2) (.int .i64 t327)) (fun _ hk => hk.2) (.slice Ao12 t328.length co12)) (fun _ hk => hk.2) (.int .i64 t331)) (fun _ hk => hk.2) (.bool t332)) (fun _ hk => ⟨hk.1.1.1, ⟨hk.1.1.2.1, ⟨hk.1.1.2.2.1, ⟨hk.1.1.2.2.2.1, ⟨hk.1.1.2.2.2.2, hk.1.2⟩⟩⟩⟩⟩)⟩, ⟨by (with_reducible repeat (first | apply Kd.R_alloc | apply Kd.R_drewN | apply Kd.R_drew)); exact Kd.R_mono (Kd.R_far (p := ⟨gb333, 6, none⟩) (Kd.R_far (p := ⟨gb333, 5, none⟩) (Kd.R_far (p := ⟨gb333, 4, none⟩) (Kd.R_far (p := ⟨gb333, 3, none⟩) (Kd.R_far (p := ⟨gb333, 2, none⟩) (Kd.R_far (p := ⟨gb333, 1, none⟩) (Kd.R_far (p := ⟨gb333, 0, none⟩) (Kd.R_types HO323.out BK333.out (by decide)) (fun _ hk => hk.2) (.slice Ao7 t318.length co7)) (fun _ hk => hk.2) (.slice Ao10 t321.length co10)) (fun _ hk => hk.2) (.slice Ao11 t324.length co11)) (fun _ hk => hk.2) (.int .i64 t327)) (fun _ hk => hk.2) (.slice Ao12 t328.length co12)) (fun _ hk => hk.2) (.int .i64 t331)) (fun _ hk => hk.2) (.bool t332)) (fun _ hk => hk.1.1)⟩, ⟨by (with_reducible repeat (first | apply Kd.R_alloc | apply Kd.R_drewN | apply Kd.R_drew)); exact Kd.R_mono (Kd.R_far (p := ⟨gb333, 6, none⟩) (Kd.R_far (p := ⟨gb333, 5, none⟩) (Kd.R_far (p := ⟨gb333, 4, none⟩) (Kd.R_far (p := ⟨gb333, 3, none⟩) (Kd.R_far (p := ⟨gb333, 2, none⟩) (Kd.R_far (p := ⟨gb333, 1, none⟩) (Kd.R_far (p := ⟨gb333, 0, none⟩) (Kd.R_types HO326.out BK333.out (by decide)) (fun _ hk => hk.2) (.slice Ao7 t318.length co7)) (fun _ hk => hk.2) (.slice Ao10 t321.length co10)) (fun _ hk => hk.2) (.slice Ao11 t324.length co11)) (fun _ hk => hk.2) (.int .i64 t327)) (fun _ hk => hk.2) (.slice Ao12 t328.length co12)) (fun _ hk => hk.2) (.int .i64 t331)) (fun _ hk => hk.2) (.bool t332)) (fun _ hk => hk.1.1)⟩, ⟨by (with_reducible repeat (first | apply Kd.R_alloc | apply Kd.R_drewN | apply Kd.R_drew)); exact Kd.R_mono (Kd.R_far (p := ⟨gb333, 6, none⟩) (Kd.R_far (p := ⟨gb333, 5, none⟩) (Kd.R_far (p := ⟨gb333, 4, none⟩) (Kd.R_far (p := ⟨gb333, 3, none⟩) (Kd.R_far (p := ⟨gb333, 2, none⟩) (Kd.R_far (p := ⟨gb333, 1, none⟩) (Kd.R_far (p := ⟨gb333, 0, none⟩) (Kd.R_types HO330.out BK333.out (by decide)) (fun _ hk => hk.2) (.slice Ao7 t318.length co7)) (fun _ hk => hk.2) (.slice Ao10 t321.length co10)) (fun _ hk => hk.2) (.slice Ao11 t324.length co11)) (fun _ hk => hk.2) (.int .i64 t327)) (fun _ hk => hk.2) (.slice Ao12 t328.length co12)) (fun _ hk => hk.2) (.int .i64 t331)) (fun _ hk => hk.2) (.bool t332)) (fun _ hk => hk.1.1)⟩, ⟨by (with_reducible repeat (first | refine blk_drewN ?_ _ | refine blk_drew ?_ | refine blk_alloc ?_ _)); refine blk_far ?_ NB317_333.out _; (with_reducible repeat (first | refine blk_drewN ?_ _ | refine blk_drew ?_ | refine blk_alloc ?_ _)); refine blk_far ?_ NB317_333.out _; (with_reducible repeat (first | refine blk_drewN ?_ _ | refine blk_drew ?_ | refine blk_alloc ?_ _)); refine blk_far ?_ NB317_333.out _; (with_reducible repeat (first | refine blk_drewN ?_ _ | refine blk_drew ?_ | refine blk_alloc ?_ _)); refine blk_far ?_ NB317_333.out _; (with_reducible repeat (first | refine blk_drewN ?_ _ | refine blk_drew ?_ | refine blk_alloc ?_ _)); refine blk_far ?_ NB317_333.out _; (with_reducible repeat (first | refine blk_drewN ?_ _ | refine blk_drew ?_ | refine blk_alloc ?_ _)); refine blk_far ?_ NB317_333.out _; (with_reducible repeat (first | refine blk_drewN ?_ _ | refine blk_drew ?_ | refine blk_alloc ?_ _)); refine blk_far ?_ NB317_333.out _; (with_reducible repeat (first | refine blk_drewN ?_ _ | refine blk_drew ?_ | refine blk_alloc ?_ _)); exact BK317.out⟩, ⟨by (with_reducible repeat (first | refine blk_drewN ?_ _ | refine blk_drew ?_ | refine blk_alloc ?_ _)); refine blk_put (cs := #[.slice Ao7 t318.length co7, .slice Ao10 t321.length co10, .slice Ao11 t324.length co11, .int .i64 t327, .slice Ao12 t328.length co12, .int .i64 t331, .bool false]) ?_ 6 _ rfl; (with_reducible repeat (first | refine blk_drewN ?_ _ | refine blk_drew ?_ | refine blk_alloc ?_ _)); refine blk_put (cs := #[.slice Ao7 t318.length co7, .slice Ao10 t321.length co10, .slice Ao11 t324.length co11, .int .i64 t327, .slice Ao12 t328.length co12, .int .i64 0, .bool false]) ?_ 5 _ rfl; (with_reducible repeat (first | refine blk_drewN ?_ _ | refine blk_drew ?_ | refine blk_alloc ?_ _)); refine blk_put (cs := #[.slice Ao7 t318.length co7, .slice Ao10 t321.length co10, .slice Ao11 t324.length co11, .int .i64 t327, .slice none 0 0, .int .i64 0, .bool false]) ?_ 4 _ rfl; (with_reducible repeat (first | refine blk_drewN ?_ _ | refine blk_drew ?_ | refine blk_alloc ?_ _)); refine blk_put (cs := #[.slice Ao7 t318.length co7, .slice Ao10 t321.length co10, .slice Ao11 t324.length co11, .int .i64 0, .slice none 0 0, .int .i64 0, .bool false]) ?_ 3 _ rfl; (with_reducible repeat (first | refine blk_drewN ?_ _ | refine blk_drew ?_ | refine blk_alloc ?_ _)); refine blk_put (cs := #[.slice Ao7 t318.length co7, .slice Ao10 t321.length co10, .slice none 0 0, .int .i64 0, .slice none 0 0, .int .i64 0, .bool false]) ?_ 2 _ rfl; (with_reducible repeat (first | refine blk_drewN ?_ _ | refine blk_drew ?_ | refine blk_alloc ?_ _)); refine blk_put (cs := #[.slice Ao7 t318.length co7, .slice none 0 0, .slice none 0 0, .int .i64 0, .slice none 0 0, .int .i64 0, .bool false]) ?_ 1 _ rfl; (with_reducible repeat (first | refine blk_drewN ?_ _ | refine blk_drew ?_ | refine blk_alloc ?_ _)); refine blk_put (cs := #[.slice none 0 0, .slice none 0 0, .slice none 0 0, .int .i64 0, .slice none 0 0, .int .i64 0, .bool false]) ?_ 0 _ rfl; (with_reducible repeat (first | refine blk_drewN ?_ _ | refine blk_drew ?_ | refine blk_alloc ?_ _)); exact BK333.out⟩, ⟨by repeat (first | (with_reducible first | exact HB.out | apply below_alloc | apply pw_below_drewN | apply below_drew1 | refine below_set ?_ GE317.out | refine below_set ?_ GE333.out) | exact HB.out)⟩⟩
  case round =>
    clear H'
    try clear c1
    try clear p2
    try clear c4
    try clear c8
    try clear c9
    try clear hcz9_0
    try clear hcz9_1
    try clear hcz9_2
    try clear hcz9_3
    try clear hcz9_4
    try clear hcz9_5
    try clear hcz9_6
    try clear hfz9_0
    try clear hfz9_1
    try clear hfz9_2
    try clear hfz9_3
    try clear hfz9_4
    try clear hfz9_5
    try clear hfz9_6
    obtain ⟨x7_1, x318003_1, x318005_1, x318006_1, x334000_1, x334001_1, x334002_1, x334003_1, x334004_1, x334005_1, x334006_1, u334000, u334001, u334002, u334004, rfl, HA, HK1, HO_334000, HO_334001, HO_334002, HO_334004, BK317, BK333, HB⟩ := hrel
    cases gk with
    | zero => exact absurd HA.out (by simp [stoaref14_Load.l0])
    | succ k1 =>
      have H := HA.out
      clear HA
      simp only [stoaref14_Load.l0] at H
      by_cases c13 : x7_1 < (l1.length : Int)
      · rw [if_pos c13] at H
        have c13b0 : decide (x7_1 < (l1.length : Int)) = true := decide_eq_true c13
        clear c13
        by_cases c14 : 0 ≤ x7_1
        · rw [if_pos c14] at H
          have c14b0 : decide (0 ≤ x7_1) = true := decide_eq_true c14
          clear c14
          replace H := Option.bind_eq_some_iff.mp H
          obtain ⟨t335, A150, H⟩ := H
          replace H : (if t335 = 0 then ((stoaref01_Copy.f k1 ((rd_T40 l1 x7_1).f1)).bind fun t337 => ((stoaref14_body.f k1 x334000_1 x334001_1 x334002_1 x334003_1 x334004_1 x334005_1 x334006_1 t337 (((rd_T40 l1 x7_1).f1).length : Int)).bind fun bt341 => ((stoaref14_with.f k1 bt341.2.1 ((rd_T40 l1 x7_1).f0) (wrap64 ((bt341.1.length : Int) - 1))).bind fun t357 => (stoaref14_Load.l0 k1 l1 (wrap64 (x7_1 + 1)) bt341.1 t357 bt341.2.2.1 bt341.2.2.2.1 bt341.2.2.2.2.1 bt341.2.2.2.2.2.1 bt341.2.2.2.2.2.2)))) else (some (([] : List (S54)), ([] : List (S93)), ([] : List (S113)), 0, ([] : List (S69)), 0, false, t335))) = some (r1, r2, r3, r4, r5, r6, r7, r8) := H
          have A15 := Aside0.mk A150
          clear A150
          by_cases c16 : t335 = 0
          · rw [if_pos c16] at H
            have c16b0 : (t335 == 0) = true := beq_iff_eq.mpr c16
            have c16b1 : (t335 != 0) = false := bne_eq_false_iff_eq.mpr c16
            clear c16
            replace H := Option.bind_eq_some_iff.mp H
            obtain ⟨t337, A170, H⟩ := H
            replace H : ((stoaref14_body.f k1 x334000_1 x334001_1 x334002_1 x334003_1 x334004_1 x334005_1 x334006_1 t337 (((rd_T40 l1 x7_1).f1).length : Int)).bind fun bt341 => ((stoaref14_with.f k1 bt341.2.1 ((rd_T40 l1 x7_1).f0) (wrap64 ((bt341.1.length : Int) - 1))).bind fun t357 => (stoaref14_Load.l0 k1 l1 (wrap64 (x7_1 + 1)) bt341.1 t357 bt341.2.2.1 bt341.2.2.2.1 bt341.2.2.2.2.1 bt341.2.2.2.2.2.1 bt341.2.2.2.2.2.2))) = some (r1, r2, r3, r4, r5, r6, r7, r8) := H
            have A17 := Aside0.mk A170
            clear A170
            replace H := Option.bind_eq_some_iff.mp H
            obtain ⟨⟨t341, t344, t347, t350, t351, t354, t355⟩, A180, H⟩ := H
            replace H : ((stoaref14_with.f k1 t344 ((rd_T40 l1 x7_1).f0) (wrap64 ((t341.length : Int) - 1))).bind fun t357 => (stoaref14_Load.l0 k1 l1 (wrap64 (x7_1 + 1)) t341 t357 t347 t350 t351 t354 t355)) = some (r1, r2, r3, r4, r5, r6, r7, r8) := H
            have A18 := Aside0.mk A180
            clear A180
            replace H := Option.bind_eq_some_iff.mp H
            obtain ⟨t357, A190, H⟩ := H
            replace H : (stoaref14_Load.l0 k1 l1 (wrap64 (x7_1 + 1)) t341 t357 t347 t350 t351 t354 t355) = some (r1, r2, r3, r4, r5, r6, r7, r8) := H
            have A19 := Aside0.mk A190
            clear A190
            have H' := Aside0.mk H
            clear H
            try go_wp2
            have n0_ := Aside0.mk (Kd.N_drew HO_334000.out)
            have n1_ := Aside0.mk (Kd.R_drew HO_334001.out)
            have n2_ := Aside0.mk (Kd.R_drew HO_334002.out)
            have n3_ := Aside0.mk (Kd.R_drew HO_334004.out)
            have n4_ := Aside0.mk (blk_drew BK317.out)
            have n5_ := Aside0.mk (blk_drew BK333.out)
            have n6_ := Aside0.mk (below_drew1 HB.out)
            clear HO_334000
            clear HO_334001
            clear HO_334002
            clear HO_334004
            clear BK317
            clear BK333
            clear HB
            have HO_334000 := n0_
            have HO_334001 := n1_
            have HO_334002 := n2_
            have HO_334004 := n3_
            have BK317 := n4_
            have BK333 := n5_
            have HB := n6_
            clear n0_ n1_ n2_ n3_ n4_ n5_ n6_
            have p334 : 0 ≤ (x7_1 : Int) := of_decide_eq_true (by first | (with_reducible assumption) | assumption)
            have q334 : x7_1 < (l1.length : Int) := of_decide_eq_true (by first | (with_reducible assumption) | assumption)
            obtain ⟨ad334, A334_1, c334_1, e334, hx334_0, hx334_1, hl334_1, hi334_1⟩ := at_T40 HR1.out x7_1 p334 q334
            have hw334_1 := hx334_1
            have hw334_0 := hx334_0
            cases e334
            replace hx334_0 := (HB.out.cell (World.block_lt_of_cell? w _ hx334_0)).trans hx334_0
            replace hx334_1 := (HB.out.cell (World.block_lt_of_cell? w _ hx334_1)).trans hx334_1
            have HR334_1 := Aside0.mk hi334_1
            have HC334_1 := Aside0.mk hl334_1
            clear hi334_1 hl334_1
            replace p334 := eq_true p334
            replace q334 := eq_true q334
            obtain ⟨Ao21, co21, eo21⟩ := Kd.N_slice HO_334000.out
            (first | subst eo21 | (injection eo21 with f1_ f2_ f3_; have f4_ := f1_.symm; have f5_ := f3_.symm; clear f1_ f2_ f3_; subst f4_; subst f5_))
            obtain ⟨Ao22, co22, eo22⟩ := Kd.R_slice HO_334001.out
            (first | subst eo22 | (injection eo22 with f1_ f2_ f3_; have f4_ := f1_.symm; have f5_ := f3_.symm; clear f1_ f2_ f3_; subst f4_; subst f5_))
            obtain ⟨Ao23, co23, eo23⟩ := Kd.R_slice HO_334002.out
            (first | subst eo23 | (injection eo23 with f1_ f2_ f3_; have f4_ := f1_.symm; have f5_ := f3_.symm; clear f1_ f2_ f3_; subst f4_; subst f5_))
            obtain ⟨Ao24, co24, eo24⟩ := Kd.R_slice HO_334004.out
            (first | subst eo24 | (injection eo24 with f1_ f2_ f3_; have f4_ := f1_.symm; have f5_ := f3_.symm; clear f1_ f2_ f3_; subst f4_; subst f5_))
            refine start_ (n := 8) (S := fun w' => w'.cell? ⟨gb333, 0, none⟩ = some (.slice Ao21 x334000_1.length co21) ∧ w'.cell? ⟨gb333, 1, none⟩ = some (.slice Ao22 x334001_1.length co22) ∧ w'.cell? ⟨gb333, 2, none⟩ = some (.slice Ao23 x334002_1.length co23) ∧ w'.cell? ⟨gb333, 3, none⟩ = some (.int .i64 x334003_1) ∧ w'.cell? ⟨gb333, 4, none⟩ = some (.slice Ao24 x334004_1.length co24) ∧ w'.cell? ⟨gb333, 5, none⟩ = some (.int .i64 x334005_1) ∧ w'.cell? ⟨gb333, 6, none⟩ = some (.bool x334006_1) ∧ w'.cell? (ad334.add ((x7_1).toNat * 2)) = some (.string ((rd_T40 l1 x7_1).f0)) ∧ w'.cell? ⟨(ad334.add ((x7_1).toNat * 2)).block, (ad334.add ((x7_1).toNat * 2)).off + 1, none⟩ = some (.slice A334_1 ((rd_T40 l1 x7_1).f1).length c334_1)) (ds := []) #[false, false, false, false, false, false, false, false] (by kernel_rfl) rfl rfl ⟨(blk_cell BK333.out 0).trans rfl, (blk_cell BK333.out 1).trans rfl, (blk_cell BK333.out 2).trans rfl, (blk_cell BK333.out 3).trans rfl, (blk_cell BK333.out 4).trans rfl, (blk_cell BK333.out 5).trans rfl, (blk_cell BK333.out 6).trans rfl, ((HB.out.cell (World.block_lt_of_cell? w _ hw334_0)).trans hw334_0), ((HB.out.cell (World.block_lt_of_cell? w _ hw334_1)).trans hw334_1)⟩ (fun hHeld => ?_); refine with_tabW stoaref14_Load.tab5 stoaref14_Load.bits5 (fun HT_ HW_ => ?_)
            generalize wr.drew = w20 at HO_334000 HO_334001 HO_334002 HO_334004 BK317 BK333 HB HR334_1 hx334_0 hx334_1 hHeld ⊢
            refine pure_ (i := 1) (N := some 18) (v := ?_) (a' := ?_) #[false, true, false, false, false, false, false, false] rfl rfl (any_of HT_.out (by kernel_rfl)) (fun _ _ _ h => h) (Or.inl ⟨by rfl, ?_⟩) ?_ ?_
            rotate_left
            · intro w'
              go_simp
              with_reducible rfl
            rotate_left
            · simp only [Act.put, List.setIfInBounds_toArray, List.set_cons_zero, List.set_cons_succ, i64_w, i32_w]
              rfl
            refine pure_ (i := 2) (N := some 19) (v := ?_) (a' := ?_) #[false, true, true, false, false, false, false, false] rfl rfl (any_of HT_.out (by kernel_rfl)) (fun _ _ _ h => h) (Or.inl ⟨by rfl, ?_⟩) ?_ ?_
            rotate_left
            · intro w'
              go_simp
              with_reducible rfl
            rotate_left
            · simp only [Act.put, List.setIfInBounds_toArray, List.set_cons_zero, List.set_cons_succ, i64_w, i32_w]
              rfl
            refine pure_ (i := 3) (N := some 20) (v := ?_) (a' := ?_) #[false, true, true, true, false, false, false, false] rfl rfl (any_of HT_.out (by kernel_rfl)) (fun _ _ _ h => h) (Or.inl ⟨by rfl, ?_⟩) ?_ ?_
            rotate_left
            · intro w'
              go_simp
              with_reducible rfl
            rotate_left
            · simp only [Act.put, List.setIfInBounds_toArray, List.set_cons_zero, List.set_cons_succ, i64_w, i32_w]
              rfl
            refine pure_ (i := 4) (N := some 21) (v := ?_) (a' := ?_) #[false, true, true, true, true, false, false, false] rfl rfl (any_of HT_.out (by kernel_rfl)) (fun _ _ _ h => h) (Or.inl ⟨by rfl, ?_⟩) ?_ ?_
            rotate_left
            · intro w'
              go_simp
              with_reducible rfl
            rotate_left
            · simp only [Act.put, List.setIfInBounds_toArray, List.set_cons_zero, List.set_cons_succ, i64_w, i32_w]
              rfl
            refine take_ (i := 0) (N := some 17) (v := ?_) (a' := ?_) #[true, true, true, true, true, false, false, false] rfl rfl (take_ofW HT_.out HW_.out (by kernel_rfl)) (fun _ _ _ h => h) (Or.inl ⟨by rfl, ?_⟩) hHeld ?_ ?_
            rotate_left
            · rintro w' ⟨s0, s1, s2, s3, s4, s5, s6, s7, s8⟩
              go_simp
              with_reducible rfl
            rotate_left
            · simp only [Act.put, List.setIfInBounds_toArray, List.set_cons_zero, List.set_cons_succ, i64_w, i32_w]
              rfl
            refine take_ (i := 5) (N := some 22) (v := ?_) (a' := ?_) #[true, true, true, true, true, true, false, false] rfl rfl (take_ofW HT_.out HW_.out (by kernel_rfl)) (fun _ _ _ h => h) (Or.inl ⟨by rfl, ?_⟩) hHeld ?_ ?_
            rotate_left
            · rintro w' ⟨s0, s1, s2, s3, s4, s5, s6, s7, s8⟩
              go_simp
              with_reducible rfl
            rotate_left
            · simp only [Act.put, List.setIfInBounds_toArray, List.set_cons_zero, List.set_cons_succ, i64_w, i32_w]
              rfl
            refine one_ (i := 6) (N := some 23) #[true, true, true, true, true, true, true, false] rfl rfl (one_of HT_.out (by kernel_rfl)) (by decide) (fun K hK => ?_)
            refine goes_ Tryz.func41 (by kernel_rfl) rfl #[.agg #[.slice Ao21 x334000_1.length co21, .slice Ao22 x334001_1.length co22, .slice Ao23 x334002_1.length co23, .int .i64 x334003_1, .slice Ao24 x334004_1.length co24, .int .i64 x334005_1, .bool x334006_1], .string ((rd_T40 l1 x7_1).f0)] (by rfl) rfl rfl (by (try simp only [List.map_toArray, List.map_cons, List.map_nil]); first | done | rfl | (simp only [List.length_drop, List.length_take]; rfl)) ?_
            with_reducible refine (stoaref14_refuse.calls k1 _ _ x334000_1 _ _ x334001_1 _ _ x334002_1 x334003_1 _ _ x334004_1 x334005_1 x334006_1 ((rd_T40 l1 x7_1).f0) t335 _ ?side1 ?side2 ?side3 ?side4 ?side5 ?side6 ?side7 ?side8 A15.out).mono ?_
            (case side1 => repeat (first | exact (Kd.N_reads' HO_334000.out).2.2 | (with_reducible refine Kd.C_alloc ?_ _) | (with_reducible refine Kd.C_drewN ?_ _) | (with_reducible refine Kd.C_drew ?_)))
            (case side2 => exact (Kd.N_reads' HO_334000.out).2.1)
            (case side3 => repeat (first | exact (Kd.R_reads' HO_334001.out).2.2 | (with_reducible refine Kd.C_alloc ?_ _) | (with_reducible refine Kd.C_drewN ?_ _) | (with_reducible refine Kd.C_drew ?_)))
            (case side4 => exact (Kd.R_reads' HO_334001.out).2.1)
            (case side5 => repeat (first | exact (Kd.R_reads' HO_334002.out).2.2 | (with_reducible refine Kd.C_alloc ?_ _) | (with_reducible refine Kd.C_drewN ?_ _) | (with_reducible refine Kd.C_drew ?_)))
            (case side6 => exact (Kd.R_reads' HO_334002.out).2.1)
            (case side7 => repeat (first | exact (Kd.R_reads' HO_334004.out).2.2 | (with_reducible refine Kd.C_alloc ?_ _) | (with_reducible refine Kd.C_drewN ?_ _) | (with_reducible refine Kd.C_drew ?_)))
            (case side8 => exact (Kd.R_reads' HO_334004.out).2.1)
            rintro e w25 ⟨rfl, hb⟩
            refine ⟨_, rfl, ?_⟩
            have n0_ := Aside0.mk (Kd.N_below (by (with_reducible repeat (first | apply Kd.N_alloc | apply Kd.N_drewN | apply Kd.N_drew)); exact HO_334000.out) hb)
            have n1_ := Aside0.mk (Kd.R_below (by (with_reducible repeat (first | apply Kd.R_alloc | apply Kd.R_drewN | apply Kd.R_drew)); exact HO_334001.out) hb)
            have n2_ := Aside0.mk (Kd.R_below (by (with_reducible repeat (first | apply Kd.R_alloc | apply Kd.R_drewN | apply Kd.R_drew)); exact HO_334002.out) hb)
            have n3_ := Aside0.mk (Kd.R_below (by (with_reducible repeat (first | apply Kd.R_alloc | apply Kd.R_drewN | apply Kd.R_drew)); exact HO_334004.out) hb)
            have n4_ := Aside0.mk (blk_below (g := gb317) (o := .cells #[.slice none 0 0, .slice none 0 0, .slice none 0 0, .int .i64 x318003_1, .slice none 0 0, .int .i64 x318005_1, .bool x318006_1] 35 (0, 0)) (by (with_reducible repeat (first | refine blk_drewN ?_ _ | refine blk_drew ?_ | refine blk_alloc ?_ _)); exact BK317.out) hb)
            have n5_ := Aside0.mk (blk_below (g := gb333) (o := .cells #[.slice Ao21 x334000_1.length co21, .slice Ao22 x334001_1.length co22, .slice Ao23 x334002_1.length co23, .int .i64 x334003_1, .slice Ao24 x334004_1.length co24, .int .i64 x334005_1, .bool x334006_1] 35 (0, 0)) (by (with_reducible repeat (first | refine blk_drewN ?_ _ | refine blk_drew ?_ | refine blk_alloc ?_ _)); exact BK333.out) hb)
            have n6_ := Aside0.mk (below_step (by repeat (first | (with_reducible first | exact HB.out | apply below_alloc | apply pw_below_drewN | apply below_drew1 | refine below_set ?_ GE317.out | refine below_set ?_ GE333.out) | exact HB.out)) hb)
            clear HO_334000
            clear HO_334001
            clear HO_334002
            clear HO_334004
            clear BK317
            clear BK333
            clear HB
            have HO_334000 := n0_
            have HO_334001 := n1_
            have HO_334002 := n2_
            have HO_334004 := n3_
            have BK317 := n4_
            have BK333 := n5_
            have HB := n6_
            clear n0_ n1_ n2_ n3_ n4_ n5_ n6_
            (try clear hb)
            (try clear hb2)
            (try clear hk)
            (try clear hi)
            refine hK.out _ _ ⟨(blk_cell BK333.out 0).trans rfl, (blk_cell BK333.out 1).trans rfl, (blk_cell BK333.out 2).trans rfl, (blk_cell BK333.out 3).trans rfl, (blk_cell BK333.out 4).trans rfl, (blk_cell BK333.out 5).trans rfl, (blk_cell BK333.out 6).trans rfl, ((HB.out.cell (World.block_lt_of_cell? w _ hw334_0)).trans hw334_0), ((HB.out.cell (World.block_lt_of_cell? w _ hw334_1)).trans hw334_1)⟩ (fun hHeld => ?_)
            clear hK K
            refine norm_ (a' := ?_) ?_ ?_
            rotate_left
            · show Act.put _ (some 23) _ = _
              simp only [Act.put, List.setIfInBounds_toArray, List.set_cons_zero, List.set_cons_succ, i64_w, i32_w]
              rfl
            refine pure_ (i := 7) (N := some 8) (v := ?_) (a' := ?_) #[true, true, true, true, true, true, true, true] rfl rfl (any_of HT_.out (by kernel_rfl)) (fun _ _ _ h => h) (Or.inl ⟨by rfl, ?_⟩) ?_ ?_
            rotate_left
            · intro w'
              go_simp
              with_reducible rfl
            rotate_left
            · simp only [Act.put, List.setIfInBounds_toArray, List.set_cons_zero, List.set_cons_succ, i64_w, i32_w]
              rfl
            refine done_ (done_of HT_.out (by kernel_rfl)) ?_
            try go_wp2
            have n0_ := Aside0.mk (Kd.N_drew HO_334000.out)
            have n1_ := Aside0.mk (Kd.R_drew HO_334001.out)
            have n2_ := Aside0.mk (Kd.R_drew HO_334002.out)
            have n3_ := Aside0.mk (Kd.R_drew HO_334004.out)
            have n4_ := Aside0.mk (blk_drew BK317.out)
            have n5_ := Aside0.mk (blk_drew BK333.out)
            have n6_ := Aside0.mk (below_drew1 HB.out)
            clear HO_334000
            clear HO_334001
            clear HO_334002
            clear HO_334004
            clear BK317
            clear BK333
            clear HB
            have HO_334000 := n0_
            have HO_334001 := n1_
            have HO_334002 := n2_
            have HO_334004 := n3_
            have BK317 := n4_
            have BK333 := n5_
            have HB := n6_
            clear n0_ n1_ n2_ n3_ n4_ n5_ n6_
            have p336 : 0 ≤ (x7_1 : Int) := of_decide_eq_true (by first | (with_reducible assumption) | assumption)
            have q336 : x7_1 < (l1.length : Int) := of_decide_eq_true (by first | (with_reducible assumption) | assumption)
            obtain ⟨ad336, A336_1, c336_1, e336, hx336_0, hx336_1, hl336_1, hi336_1⟩ := at_T40 HR1.out x7_1 p336 q336
            have hw336_1 := hx336_1
            have hw336_0 := hx336_0
            obtain rfl : ad334 = ad336 := (by injection e336)
            replace hx336_0 := (HB.out.cell (World.block_lt_of_cell? w _ hx336_0)).trans hx336_0
            replace hx336_1 := (HB.out.cell (World.block_lt_of_cell? w _ hx336_1)).trans hx336_1
            have HR336_1 := Aside0.mk hi336_1
            have HC336_1 := Aside0.mk hl336_1
            clear hi336_1 hl336_1
            replace p336 := eq_true p336
            replace q336 := eq_true q336
            have p340 : 0 ≤ (x7_1 : Int) := of_decide_eq_true (by first | (with_reducible assumption) | assumption)
            have q340 : x7_1 < (l1.length : Int) := of_decide_eq_true (by first | (with_reducible assumption) | assumption)
            obtain ⟨ad340, A340_1, c340_1, e340, hx340_0, hx340_1, hl340_1, hi340_1⟩ := at_T40 HR1.out x7_1 p340 q340
            have hw340_1 := hx340_1
            have hw340_0 := hx340_0
            obtain rfl : ad334 = ad340 := (by injection e340)
            replace hx340_0 := (HB.out.cell (World.block_lt_of_cell? w _ hx340_0)).trans hx340_0
            replace hx340_1 := (HB.out.cell (World.block_lt_of_cell? w _ hx340_1)).trans hx340_1
            have HR340_1 := Aside0.mk hi340_1
            have HC340_1 := Aside0.mk hl340_1
            clear hi340_1 hl340_1
            replace p340 := eq_true p340
            replace q340 := eq_true q340
            have ea_ := Option.some.inj (hx336_1.symm.trans hx340_1)
            injection ea_ with ea_ en_ ec_
            subst ea_
            subst ec_
            clear en_
            refine start_ (n := 16) (S := fun w' => w'.cell? ⟨gb333, 0, none⟩ = some (.slice Ao21 x334000_1.length co21) ∧ w'.cell? ⟨gb333, 1, none⟩ = some (.slice Ao22 x334001_1.length co22) ∧ w'.cell? ⟨gb333, 2, none⟩ = some (.slice Ao23 x334002_1.length co23) ∧ w'.cell? ⟨gb333, 3, none⟩ = some (.int .i64 x334003_1) ∧ w'.cell? ⟨gb333, 4, none⟩ = some (.slice Ao24 x334004_1.length co24) ∧ w'.cell? ⟨gb333, 5, none⟩ = some (.int .i64 x334005_1) ∧ w'.cell? ⟨gb333, 6, none⟩ = some (.bool x334006_1) ∧ w'.cell? (ad334.add ((x7_1).toNat * 2)) = some (.string ((rd_T40 l1 x7_1).f0)) ∧ w'.cell? ⟨(ad334.add ((x7_1).toNat * 2)).block, (ad334.add ((x7_1).toNat * 2)).off + 1, none⟩ = some (.slice A336_1 ((rd_T40 l1 x7_1).f1).length c336_1) ∧ w'.cell? (ad334.add ((x7_1).toNat * 2)) = some (.string ((rd_T40 l1 x7_1).f0)) ∧ w'.cell? ⟨(ad334.add ((x7_1).toNat * 2)).block, (ad334.add ((x7_1).toNat * 2)).off + 1, none⟩ = some (.slice A336_1 ((rd_T40 l1 x7_1).f1).length c336_1)) (ds := [15]) #[false, false, false, false, false, false, false, false, false, false, false, false, false, false, false, false] (by kernel_rfl) rfl rfl ⟨(blk_cell BK333.out 0).trans rfl, (blk_cell BK333.out 1).trans rfl, (blk_cell BK333.out 2).trans rfl, (blk_cell BK333.out 3).trans rfl, (blk_cell BK333.out 4).trans rfl, (blk_cell BK333.out 5).trans rfl, (blk_cell BK333.out 6).trans rfl, ((HB.out.cell (World.block_lt_of_cell? w _ hw336_0)).trans hw336_0), ((HB.out.cell (World.block_lt_of_cell? w _ hw336_1)).trans hw336_1), ((HB.out.cell (World.block_lt_of_cell? w _ hw340_0)).trans hw340_0), ((HB.out.cell (World.block_lt_of_cell? w _ hw340_1)).trans hw340_1)⟩ (fun hHeld => ?_); refine with_tabW stoaref14_Load.tab8 stoaref14_Load.bits8 (fun HT_ HW_ => ?_)
            generalize w25.drew = w26 at HO_334000 HO_334001 HO_334002 HO_334004 BK317 BK333 HB HR336_1 HR340_1 hx336_0 hx336_1 hx340_0 hx340_1 hHeld ⊢
            refine pure_ (i := 1) (N := some 29) (v := ?_) (a' := ?_) #[false, true, false, false, false, false, false, false, false, false, false, false, false, false, false, false] rfl rfl (any_of HT_.out (by kernel_rfl)) (fun _ _ _ h => h) (Or.inl ⟨by rfl, ?_⟩) ?_ ?_
            rotate_left
            · intro w'
              go_simp
              with_reducible rfl
            rotate_left
            · simp only [Act.put, List.setIfInBounds_toArray, List.set_cons_zero, List.set_cons_succ, i64_w, i32_w]
              rfl
            refine pure_ (i := 2) (N := some 30) (v := ?_) (a' := ?_) #[false, true, true, false, false, false, false, false, false, false, false, false, false, false, false, false] rfl rfl (any_of HT_.out (by kernel_rfl)) (fun _ _ _ h => h) (Or.inl ⟨by rfl, ?_⟩) ?_ ?_
            rotate_left
            · intro w'
              go_simp
              with_reducible rfl
            rotate_left
            · simp only [Act.put, List.setIfInBounds_toArray, List.set_cons_zero, List.set_cons_succ, i64_w, i32_w]
              rfl
            refine pure_ (i := 3) (N := some 31) (v := ?_) (a' := ?_) #[false, true, true, true, false, false, false, false, false, false, false, false, false, false, false, false] rfl rfl (any_of HT_.out (by kernel_rfl)) (fun _ _ _ h => h) (Or.inl ⟨by rfl, ?_⟩) ?_ ?_
            rotate_left
            · intro w'
              go_simp
              with_reducible rfl
            rotate_left
            · simp only [Act.put, List.setIfInBounds_toArray, List.set_cons_zero, List.set_cons_succ, i64_w, i32_w]
              rfl
            refine pure_ (i := 4) (N := some 32) (v := ?_) (a' := ?_) #[false, true, true, true, true, false, false, false, false, false, false, false, false, false, false, false] rfl rfl (any_of HT_.out (by kernel_rfl)) (fun _ _ _ h => h) (Or.inl ⟨by rfl, ?_⟩) ?_ ?_
            rotate_left
            · intro w'
              go_simp
              with_reducible rfl
            rotate_left
            · simp only [Act.put, List.setIfInBounds_toArray, List.set_cons_zero, List.set_cons_succ, i64_w, i32_w]
              rfl
            refine pure_ (i := 7) (N := some 35) (v := ?_) (a' := ?_) #[false, true, true, true, true, false, false, true, false, false, false, false, false, false, false, false] rfl rfl (any_of HT_.out (by kernel_rfl)) (fun _ _ _ h => h) (Or.inl ⟨by rfl, ?_⟩) ?_ ?_
            rotate_left
            · intro w'
              go_simp
              with_reducible rfl
            rotate_left
            · simp only [Act.put, List.setIfInBounds_toArray, List.set_cons_zero, List.set_cons_succ, i64_w, i32_w]
              rfl
            refine pure_ (i := 8) (N := some 36) (v := ?_) (a' := ?_) #[false, true, true, true, true, false, false, true, true, false, false, false, false, false, false, false] rfl rfl (any_of HT_.out (by kernel_rfl)) (fun _ _ _ h => h) (Or.inl ⟨by rfl, ?_⟩) ?_ ?_
            rotate_left
            · intro w'
              go_simp
              with_reducible rfl
            rotate_left
            · simp only [Act.put, List.setIfInBounds_toArray, List.set_cons_zero, List.set_cons_succ, i64_w, i32_w]
              rfl
            refine pure_ (i := 9) (N := some 37) (v := ?_) (a' := ?_) #[false, true, true, true, true, false, false, true, true, true, false, false, false, false, false, false] rfl rfl (any_of HT_.out (by kernel_rfl)) (fun _ _ _ h => h) (Or.inl ⟨by rfl, ?_⟩) ?_ ?_
            rotate_left
            · intro w'
              go_simp
              with_reducible rfl
            rotate_left
            · simp only [Act.put, List.setIfInBounds_toArray, List.set_cons_zero, List.set_cons_succ, i64_w, i32_w]
              rfl
            refine pure_ (i := 10) (N := some 38) (v := ?_) (a' := ?_) #[false, true, true, true, true, false, false, true, true, true, true, false, false, false, false, false] rfl rfl (any_of HT_.out (by kernel_rfl)) (fun _ _ _ h => h) (Or.inl ⟨by rfl, ?_⟩) ?_ ?_
            rotate_left
            · intro w'
              go_simp
              with_reducible rfl
            rotate_left
            · simp only [Act.put, List.setIfInBounds_toArray, List.set_cons_zero, List.set_cons_succ, i64_w, i32_w]
              rfl
            refine take_ (i := 0) (N := some 28) (v := ?_) (a' := ?_) #[true, true, true, true, true, false, false, true, true, true, true, false, false, false, false, false] rfl rfl (take_ofW HT_.out HW_.out (by kernel_rfl)) (fun _ _ _ h => h) (Or.inl ⟨by rfl, ?_⟩) hHeld ?_ ?_
            rotate_left
            · rintro w' ⟨s0, s1, s2, s3, s4, s5, s6, s7, s8, s9, s10⟩
              go_simp
              with_reducible rfl
            rotate_left
            · simp only [Act.put, List.setIfInBounds_toArray, List.set_cons_zero, List.set_cons_succ, i64_w, i32_w]
              rfl
            refine take_ (i := 5) (N := some 33) (v := ?_) (a' := ?_) #[true, true, true, true, true, true, false, true, true, true, true, false, false, false, false, false] rfl rfl (take_ofW HT_.out HW_.out (by kernel_rfl)) (fun _ _ _ h => h) (Or.inl ⟨by rfl, ?_⟩) hHeld ?_ ?_
            rotate_left
            · rintro w' ⟨s0, s1, s2, s3, s4, s5, s6, s7, s8, s9, s10⟩
              go_simp
              with_reducible rfl
            rotate_left
            · simp only [Act.put, List.setIfInBounds_toArray, List.set_cons_zero, List.set_cons_succ, i64_w, i32_w]
              rfl
            refine take_ (i := 11) (N := some 39) (v := ?_) (a' := ?_) #[true, true, true, true, true, true, false, true, true, true, true, true, false, false, false, false] rfl rfl (take_ofW HT_.out HW_.out (by kernel_rfl)) (fun _ _ _ h => h) (Or.inl ⟨by rfl, ?_⟩) hHeld ?_ ?_
            rotate_left
            · rintro w' ⟨s0, s1, s2, s3, s4, s5, s6, s7, s8, s9, s10⟩
              go_simp
              with_reducible rfl
            rotate_left
            · simp only [Act.put, List.setIfInBounds_toArray, List.set_cons_zero, List.set_cons_succ, i64_w, i32_w]
              rfl
            refine pure_ (i := 12) (N := some 40) (v := ?_) (a' := ?_) #[true, true, true, true, true, true, false, true, true, true, true, true, true, false, false, false] rfl rfl (any_of HT_.out (by kernel_rfl)) (fun _ _ _ h => h) (Or.inl ⟨by rfl, ?_⟩) ?_ ?_
            rotate_left
            · intro w'
              go_simp
              with_reducible rfl
            rotate_left
            · simp only [Act.put, List.setIfInBounds_toArray, List.set_cons_zero, List.set_cons_succ, i64_w, i32_w]
              rfl
            refine one_ (i := 6) (N := some 34) #[true, true, true, true, true, true, true, true, true, true, true, true, true, false, false, false] rfl rfl (one_of HT_.out (by kernel_rfl)) (by decide) (fun K hK => ?_)
            refine goes_ Tryz.func35 (by kernel_rfl) rfl #[.slice A336_1 ((rd_T40 l1 x7_1).f1).length c336_1] (by rfl) rfl rfl (by (try simp only [List.map_toArray, List.map_cons, List.map_nil]); first | done | rfl | (simp only [List.length_drop, List.length_take]; rfl)) ?_
            with_reducible refine (stoaref01_Copy.calls k1 _ _ ((rd_T40 l1 x7_1).f1) t337 _ ?side1 ?side2 A17.out).mono ?_
            (case side1 => repeat (first | exact (Kd.C_below HR336_1.out HB.out) | (with_reducible refine Kd.C_alloc ?_ _) | (with_reducible refine Kd.C_drewN ?_ _) | (with_reducible refine Kd.C_drew ?_)))
            (case side2 => exact HC336_1.out)
            rintro e w27 ⟨v338, rfl, ho0, hb⟩
            refine ⟨_, rfl, ?_⟩
            have n0_ := Aside0.mk (Kd.N_elder' (by (with_reducible repeat (first | apply Kd.N_alloc | apply Kd.N_drewN | apply Kd.N_drew)); exact HO_334000.out) (Kd.R_base ho0) hb)
            have n1_ := Aside0.mk (Kd.R_below (by (with_reducible repeat (first | apply Kd.R_alloc | apply Kd.R_drewN | apply Kd.R_drew)); exact HO_334001.out) hb)
            have n2_ := Aside0.mk (Kd.R_below (by (with_reducible repeat (first | apply Kd.R_alloc | apply Kd.R_drewN | apply Kd.R_drew)); exact HO_334002.out) hb)
            have n3_ := Aside0.mk (Kd.R_below (by (with_reducible repeat (first | apply Kd.R_alloc | apply Kd.R_drewN | apply Kd.R_drew)); exact HO_334004.out) hb)
            have n4_ := Aside0.mk (Kd.R_lower (Kd.R_newM (M := fun k_ => (w.heap.size ≤ k_)) ho0 (below_size (by repeat (first | (with_reducible first | exact HB.out | apply below_alloc | apply pw_below_drewN | apply below_drew1 | refine below_set ?_ GE317.out | refine below_set ?_ GE333.out) | exact HB.out))) (fun k_ h_ => h_)) (below_size (by repeat (first | (with_reducible first | exact HB.out | apply below_alloc | apply pw_below_drewN | apply below_drew1 | refine below_set ?_ GE317.out | refine below_set ?_ GE333.out) | exact HB.out))))
            have n5_ := Aside0.mk (blk_below (g := gb317) (o := .cells #[.slice none 0 0, .slice none 0 0, .slice none 0 0, .int .i64 x318003_1, .slice none 0 0, .int .i64 x318005_1, .bool x318006_1] 35 (0, 0)) (by (with_reducible repeat (first | refine blk_drewN ?_ _ | refine blk_drew ?_ | refine blk_alloc ?_ _)); exact BK317.out) hb)
            have n6_ := Aside0.mk (blk_below (g := gb333) (o := .cells #[.slice Ao21 x334000_1.length co21, .slice Ao22 x334001_1.length co22, .slice Ao23 x334002_1.length co23, .int .i64 x334003_1, .slice Ao24 x334004_1.length co24, .int .i64 x334005_1, .bool x334006_1] 35 (0, 0)) (by (with_reducible repeat (first | refine blk_drewN ?_ _ | refine blk_drew ?_ | refine blk_alloc ?_ _)); exact BK333.out) hb)
            have n7_ := Aside0.mk (below_step (by repeat (first | (with_reducible first | exact HB.out | apply below_alloc | apply pw_below_drewN | apply below_drew1 | refine below_set ?_ GE317.out | refine below_set ?_ GE333.out) | exact HB.out)) hb)
            clear HO_334000
            clear HO_334001
            clear HO_334002
            clear HO_334004
            clear BK317
            clear BK333
            clear HB
            have HO_334000 := n0_
            have HO_334001 := n1_
            have HO_334002 := n2_
            have HO_334004 := n3_
            have HO339 := n4_
            have BK317 := n5_
            have BK333 := n6_
            have HB := n7_
            clear n0_ n1_ n2_ n3_ n4_ n5_ n6_ n7_
            (try clear hb)
            (try clear hb2)
            (try clear hk)
            (try clear hi)
            (try clear ho0)
            obtain ⟨Ao28, co28, eo28⟩ := Kd.R_slice HO339.out
            (first | subst eo28 | (injection eo28 with f1_ f2_ f3_; have f4_ := f1_.symm; have f5_ := f3_.symm; clear f1_ f2_ f3_; subst f4_; subst f5_))
            refine hK.out _ _ ⟨(blk_cell BK333.out 0).trans rfl, (blk_cell BK333.out 1).trans rfl, (blk_cell BK333.out 2).trans rfl, (blk_cell BK333.out 3).trans rfl, (blk_cell BK333.out 4).trans rfl, (blk_cell BK333.out 5).trans rfl, (blk_cell BK333.out 6).trans rfl, ((HB.out.cell (World.block_lt_of_cell? w _ hw336_0)).trans hw336_0), ((HB.out.cell (World.block_lt_of_cell? w _ hw336_1)).trans hw336_1), ((HB.out.cell (World.block_lt_of_cell? w _ hw340_0)).trans hw340_0), ((HB.out.cell (World.block_lt_of_cell? w _ hw340_1)).trans hw340_1)⟩ (fun hHeld => ?_)
            clear hK K
            refine norm_ (a' := ?_) ?_ ?_
            rotate_left
            · show Act.put _ (some 34) _ = _
              simp only [Act.put, List.setIfInBounds_toArray, List.set_cons_zero, List.set_cons_succ, i64_w, i32_w]
              rfl
            refine pure_ (i := 13) (N := some 41) (v := ?_) (a' := ?_) #[true, true, true, true, true, true, true, true, true, true, true, true, true, true, false, false] rfl rfl (any_of HT_.out (by kernel_rfl)) (fun _ _ _ h => h) (Or.inl ⟨by rfl, ?_⟩) ?_ ?_
            rotate_left
            · intro w'
              go_simp
              with_reducible rfl
            rotate_left
            · simp only [Act.put, List.setIfInBounds_toArray, List.set_cons_zero, List.set_cons_succ, i64_w, i32_w]
              rfl
            refine one_ (i := 14) (N := some 42) #[true, true, true, true, true, true, true, true, true, true, true, true, true, true, true, false] rfl rfl (one_of HT_.out (by kernel_rfl)) (by decide) (fun K hK => ?_)
            refine goes_ Tryz.func42 (by kernel_rfl) rfl #[.agg #[.slice Ao21 x334000_1.length co21, .slice Ao22 x334001_1.length co22, .slice Ao23 x334002_1.length co23, .int .i64 x334003_1, .slice Ao24 x334004_1.length co24, .int .i64 x334005_1, .bool x334006_1], .agg #[.slice Ao28 t337.length co28, .int .i64 (((rd_T40 l1 x7_1).f1).length : Int)]] (by rfl) rfl rfl (by (try simp only [List.map_toArray, List.map_cons, List.map_nil]); first | done | rfl | (simp only [List.length_drop, List.length_take]; rfl)) ?_
            with_reducible refine (stoaref14_body.calls k1 (fun k_ => (((w.heap.size ≤ k_) ∧ (some k_ ≠ (.slice Ao22 x334001_1.length co22 : Value).ownBlock ∧ (some k_ ≠ (.slice Ao23 x334002_1.length co23 : Value).ownBlock ∧ (some k_ ≠ (.slice Ao24 x334004_1.length co24 : Value).ownBlock ∧ (k_ ≠ gb317 ∧ k_ ≠ gb333))))) ∧ some k_ ≠ (.slice Ao28 t337.length co28 : Value).ownBlock)) _ _ x334000_1 (fun k_ => some k_ = (.slice Ao22 x334001_1.length co22 : Value).ownBlock) (.slice Ao22 x334001_1.length co22) x334001_1 (fun k_ => some k_ = (.slice Ao23 x334002_1.length co23 : Value).ownBlock) (.slice Ao23 x334002_1.length co23) x334002_1 x334003_1 (fun k_ => some k_ = (.slice Ao24 x334004_1.length co24 : Value).ownBlock) (.slice Ao24 x334004_1.length co24) x334004_1 x334005_1 x334006_1 (fun k_ => some k_ = (.slice Ao28 t337.length co28 : Value).ownBlock) _ _ t337 (((rd_T40 l1 x7_1).f1).length : Int) t341 t344 t347 t350 t351 t354 t355 w _ ?side1 ?side2 ?side3 ?side4 ?side5 ?side6 A18.out).mono ?_
            (case side1 => repeat (first | (with_reducible first | exact HB.out | apply below_alloc | apply pw_below_drewN | apply below_drew1 | refine below_set ?_ GE317.out | refine below_set ?_ GE333.out) | exact HB.out))
            (case side2 => exact Kd.V_mono (Kd.N_V (HO_334000.out)) (fun k_ hk_ => ⟨hk_, hk_.1.2.1, hk_.1.2.2.1, hk_.1.2.2.2.1⟩))
            (case side3 => exact Kd.R_tight rfl HO_334001.out)
            (case side4 => exact Kd.R_tight rfl HO_334002.out)
            (case side5 => exact Kd.R_tight rfl HO_334004.out)
            (case side6 => exact Kd.V_mono (Kd.R_V (Kd.R_tight rfl (Kd.R_types (Kd.R_types (Kd.R_apart' (Kd.R_apart' (Kd.R_apart' (Kd.R_apart' (HO339.out) (Kd.N_typed HO_334000.out) (by decide)) (Kd.R_typed HO_334001.out) (by decide)) (Kd.R_typed HO_334002.out) (by decide)) (Kd.R_typed HO_334004.out) (by decide)) BK317.out (by decide)) BK333.out (by decide)))) (fun k_ hk_ => ⟨hk_, ((Kd.R_types (Kd.R_types (Kd.R_apart' (Kd.R_apart' (Kd.R_apart' (Kd.R_apart' (HO339.out) (Kd.N_typed HO_334000.out) (by decide)) (Kd.R_typed HO_334001.out) (by decide)) (Kd.R_typed HO_334002.out) (by decide)) (Kd.R_typed HO_334004.out) (by decide)) BK317.out (by decide)) BK333.out (by decide)).1 k_ hk_.symm).1.1.1.1.2, ((Kd.R_types (Kd.R_types (Kd.R_apart' (Kd.R_apart' (Kd.R_apart' (Kd.R_apart' (HO339.out) (Kd.N_typed HO_334000.out) (by decide)) (Kd.R_typed HO_334001.out) (by decide)) (Kd.R_typed HO_334002.out) (by decide)) (Kd.R_typed HO_334004.out) (by decide)) BK317.out (by decide)) BK333.out (by decide)).1 k_ hk_.symm).1.1.1.2, ((Kd.R_types (Kd.R_types (Kd.R_apart' (Kd.R_apart' (Kd.R_apart' (Kd.R_apart' (HO339.out) (Kd.N_typed HO_334000.out) (by decide)) (Kd.R_typed HO_334001.out) (by decide)) (Kd.R_typed HO_334002.out) (by decide)) (Kd.R_typed HO_334004.out) (by decide)) BK317.out (by decide)) BK333.out (by decide)).1 k_ hk_.symm).1.1.2⟩))
            rintro e w29 ⟨v342, v345, v348, v352, rfl, ho0, ho1, ho2, ho3, hb, hkp⟩
            refine ⟨_, rfl, ?_⟩
            have n0_ := Aside0.mk (Kd.N_mono (ok' := fun k_ => (w.heap.size ≤ k_) ∧ some k_ ≠ (.slice Ao28 t337.length co28 : Value).ownBlock ∧ k_ ≠ gb317 ∧ k_ ≠ gb333 ∧ some k_ ≠ (v342 : Value).ownBlock ∧ some k_ ≠ (v345 : Value).ownBlock ∧ some k_ ≠ (v348 : Value).ownBlock ∧ some k_ ≠ (v352 : Value).ownBlock) (Kd.N_keptB (HO_334000.out) hkp (fun k_ hk_ hs_ => Or.elim hs_ (fun e_ => (hk_.1.2.1) e_) (fun e_ => Or.elim e_ (fun e_ => (hk_.1.2.2.1) e_) (fun e_ => (hk_.1.2.2.2.1) e_)))) (fun k_ hk_ => ⟨hk_.1.1.1, hk_.1.2, hk_.1.1.2.2.2.2.1, hk_.1.1.2.2.2.2.2, fun e_ => Nat.not_le.2 hk_.2.2 (Kd.N_base ho0 k_ e_.symm), fun e_ => Or.elim (ho1.1 k_ e_.symm) (fun hs_ => hk_.2.1 hs_) (fun hn_ => Nat.not_le.2 hk_.2.2 hn_), fun e_ => Or.elim (ho2.1 k_ e_.symm) (fun hs_ => hk_.2.1 hs_) (fun hn_ => Nat.not_le.2 hk_.2.2 hn_), fun e_ => Or.elim (ho3.1 k_ e_.symm) (fun hs_ => hk_.2.1 hs_) (fun hn_ => Nat.not_le.2 hk_.2.2 hn_)⟩))
            have n1_ := Aside0.mk (blk_kept (by (with_reducible repeat (first | refine blk_drewN ?_ _ | refine blk_drew ?_ | refine blk_alloc ?_ _)); exact BK317.out) hkp (fun hs_ => Or.elim hs_ (fun e_ => (fun e_ => (Kd.R_ne HO_334001.out BK317.out (by decide)) e_) e_) (fun e_ => Or.elim e_ (fun e_ => (fun e_ => (Kd.R_ne HO_334002.out BK317.out (by decide)) e_) e_) (fun e_ => (fun e_ => (Kd.R_ne HO_334004.out BK317.out (by decide)) e_) e_))))
            have n2_ := Aside0.mk (blk_kept (by (with_reducible repeat (first | refine blk_drewN ?_ _ | refine blk_drew ?_ | refine blk_alloc ?_ _)); exact BK333.out) hkp (fun hs_ => Or.elim hs_ (fun e_ => (fun e_ => (Kd.R_ne HO_334001.out BK333.out (by decide)) e_) e_) (fun e_ => Or.elim e_ (fun e_ => (fun e_ => (Kd.R_ne HO_334002.out BK333.out (by decide)) e_) e_) (fun e_ => (fun e_ => (Kd.R_ne HO_334004.out BK333.out (by decide)) e_) e_))))
            have n3_ := Aside0.mk (Kd.R_mono (ok' := fun k_ => (w.heap.size ≤ k_)) (Kd.R_keptB ((Kd.R_apart' (Kd.R_apart' (Kd.R_apart' HO339.out (Kd.R_typed HO_334001.out) (by decide)) (Kd.R_typed HO_334002.out) (by decide)) (Kd.R_typed HO_334004.out) (by decide))) hkp (fun k_ hk_ hs_ => Or.elim hs_ (fun e_ => (hk_.1.1.2) e_) (fun e_ => Or.elim e_ (fun e_ => (hk_.1.2) e_) (fun e_ => (hk_.2) e_)))) (fun k_ hk_ => hk_.1.1.1.1.1))
            have n4_ := Aside0.mk (Kd.N_lower (Kd.N_mono (ok' := fun k_ => (w.heap.size ≤ k_) ∧ some k_ ≠ (v345 : Value).ownBlock ∧ some k_ ≠ (v348 : Value).ownBlock ∧ some k_ ≠ (v352 : Value).ownBlock ∧ k_ ≠ gb317 ∧ k_ ≠ gb333) ho0 (fun k_ hk_ => ⟨Or.elim hk_.1 (fun hs_ => Or.elim hs_ (fun hs_ => (HO_334001.out.1 k_ (hs_).symm)) (fun hs_ => Or.elim hs_ (fun hs_ => (HO_334002.out.1 k_ (hs_).symm)) (fun hs_ => Or.elim hs_ (fun hs_ => (HO_334004.out.1 k_ (hs_).symm)) (fun hs_ => Or.elim hs_ (fun hs_ => hs_.1.1) (fun hs_ => ((Kd.R_types (Kd.R_types (Kd.R_apart' (Kd.R_apart' (Kd.R_apart' (Kd.R_apart' (HO339.out) (Kd.N_typed HO_334000.out) (by decide)) (Kd.R_typed HO_334001.out) (by decide)) (Kd.R_typed HO_334002.out) (by decide)) (Kd.R_typed HO_334004.out) (by decide)) BK317.out (by decide)) BK333.out (by decide)).1 k_ hs_.symm).1.1.1.1.1.1.1))))) (fun hn_ => (Nat.le_trans (below_size (by repeat (first | (with_reducible first | exact HB.out | apply below_alloc | apply pw_below_drewN | apply below_drew1 | refine below_set ?_ GE317.out | refine below_set ?_ GE333.out) | exact HB.out))) hn_)), hk_.2.1, hk_.2.2.1, hk_.2.2.2, Or.elim hk_.1 (fun hs_ => Or.elim hs_ (fun hs_ => fun e_ => (Kd.R_ne HO_334001.out BK317.out (by decide)) (by rw [← e_]; exact hs_)) (fun hs_ => Or.elim hs_ (fun hs_ => fun e_ => (Kd.R_ne HO_334002.out BK317.out (by decide)) (by rw [← e_]; exact hs_)) (fun hs_ => Or.elim hs_ (fun hs_ => fun e_ => (Kd.R_ne HO_334004.out BK317.out (by decide)) (by rw [← e_]; exact hs_)) (fun hs_ => Or.elim hs_ (fun hs_ => hs_.1.2.2.2.2.1) (fun hs_ => ((Kd.R_types (Kd.R_types (Kd.R_apart' (Kd.R_apart' (Kd.R_apart' (Kd.R_apart' (HO339.out) (Kd.N_typed HO_334000.out) (by decide)) (Kd.R_typed HO_334001.out) (by decide)) (Kd.R_typed HO_334002.out) (by decide)) (Kd.R_typed HO_334004.out) (by decide)) BK317.out (by decide)) BK333.out (by decide)).1 k_ hs_.symm).1.2))))) (fun hn_ => (Kd.freshB (g := gb317) (o := .cells #[.slice none 0 0, .slice none 0 0, .slice none 0 0, .int .i64 x318003_1, .slice none 0 0, .int .i64 x318005_1, .bool x318006_1] 35 (0, 0)) (by (with_reducible repeat (first | refine blk_drewN ?_ _ | refine blk_drew ?_ | refine blk_alloc ?_ _)); exact BK317.out) k_ hn_)), Or.elim hk_.1 (fun hs_ => Or.elim hs_ (fun hs_ => fun e_ => (Kd.R_ne HO_334001.out BK333.out (by decide)) (by rw [← e_]; exact hs_)) (fun hs_ => Or.elim hs_ (fun hs_ => fun e_ => (Kd.R_ne HO_334002.out BK333.out (by decide)) (by rw [← e_]; exact hs_)) (fun hs_ => Or.elim hs_ (fun hs_ => fun e_ => (Kd.R_ne HO_334004.out BK333.out (by decide)) (by rw [← e_]; exact hs_)) (fun hs_ => Or.elim hs_ (fun hs_ => hs_.1.2.2.2.2.2) (fun hs_ => ((Kd.R_types (Kd.R_types (Kd.R_apart' (Kd.R_apart' (Kd.R_apart' (Kd.R_apart' (HO339.out) (Kd.N_typed HO_334000.out) (by decide)) (Kd.R_typed HO_334001.out) (by decide)) (Kd.R_typed HO_334002.out) (by decide)) (Kd.R_typed HO_334004.out) (by decide)) BK317.out (by decide)) BK333.out (by decide)).1 k_ hs_.symm).2))))) (fun hn_ => (Kd.freshB (g := gb333) (o := .cells #[.slice Ao21 x334000_1.length co21, .slice Ao22 x334001_1.length co22, .slice Ao23 x334002_1.length co23, .int .i64 x334003_1, .slice Ao24 x334004_1.length co24, .int .i64 x334005_1, .bool x334006_1] 35 (0, 0)) (by (with_reducible repeat (first | refine blk_drewN ?_ _ | refine blk_drew ?_ | refine blk_alloc ?_ _)); exact BK333.out) k_ hn_))⟩)) (below_size (by repeat (first | (with_reducible first | exact HB.out | apply below_alloc | apply pw_below_drewN | apply below_drew1 | refine below_set ?_ GE317.out | refine below_set ?_ GE333.out) | exact HB.out))))
            have n5_ := Aside0.mk (Kd.R_mono (ok' := fun k_ => (w.heap.size ≤ k_)) ho1 (fun k_ hk_ => Or.elim hk_ (fun hs_ => Or.elim hs_ (fun hs_ => (HO_334001.out.1 k_ (hs_).symm)) (fun hs_ => Or.elim hs_ (fun hs_ => (HO_334002.out.1 k_ (hs_).symm)) (fun hs_ => (HO_334004.out.1 k_ (hs_).symm)))) (fun hn_ => (Nat.le_trans (below_size (by repeat (first | (with_reducible first | exact HB.out | apply below_alloc | apply pw_below_drewN | apply below_drew1 | refine below_set ?_ GE317.out | refine below_set ?_ GE333.out) | exact HB.out))) hn_))))
            have n6_ := Aside0.mk (Kd.R_mono (ok' := fun k_ => (w.heap.size ≤ k_)) ho2 (fun k_ hk_ => Or.elim hk_ (fun hs_ => Or.elim hs_ (fun hs_ => (HO_334001.out.1 k_ (hs_).symm)) (fun hs_ => Or.elim hs_ (fun hs_ => (HO_334002.out.1 k_ (hs_).symm)) (fun hs_ => (HO_334004.out.1 k_ (hs_).symm)))) (fun hn_ => (Nat.le_trans (below_size (by repeat (first | (with_reducible first | exact HB.out | apply below_alloc | apply pw_below_drewN | apply below_drew1 | refine below_set ?_ GE317.out | refine below_set ?_ GE333.out) | exact HB.out))) hn_))))
            have n7_ := Aside0.mk (Kd.R_mono (ok' := fun k_ => (w.heap.size ≤ k_)) ho3 (fun k_ hk_ => Or.elim hk_ (fun hs_ => Or.elim hs_ (fun hs_ => (HO_334001.out.1 k_ (hs_).symm)) (fun hs_ => Or.elim hs_ (fun hs_ => (HO_334002.out.1 k_ (hs_).symm)) (fun hs_ => (HO_334004.out.1 k_ (hs_).symm)))) (fun hn_ => (Nat.le_trans (below_size (by repeat (first | (with_reducible first | exact HB.out | apply below_alloc | apply pw_below_drewN | apply below_drew1 | refine below_set ?_ GE317.out | refine below_set ?_ GE333.out) | exact HB.out))) hn_))))
            have n8_ := Aside0.mk (hb)
            clear HO_334000
            clear BK317
            clear BK333
            clear HO339
            clear HB
            clear HO_334001
            clear HO_334002
            clear HO_334004
            have HO_334000 := n0_
            have BK317 := n1_
            have BK333 := n2_
            have HO339 := n3_
            have HO343 := n4_
            have HO346 := n5_
            have HO349 := n6_
            have HO353 := n7_
            have HB := n8_
            clear n0_ n1_ n2_ n3_ n4_ n5_ n6_ n7_ n8_
            (try clear hb)
            (try clear hkp)
            (try clear ho0)
            (try clear ho1)
            (try clear ho2)
            (try clear ho3)
            obtain ⟨Ao30, co30, eo30⟩ := Kd.N_slice HO343.out
            (first | subst eo30 | (injection eo30 with f1_ f2_ f3_; have f4_ := f1_.symm; have f5_ := f3_.symm; clear f1_ f2_ f3_; subst f4_; subst f5_))
            obtain ⟨Ao32, co32, eo32⟩ := Kd.R_slice HO346.out
            (first | subst eo32 | (injection eo32 with f1_ f2_ f3_; have f4_ := f1_.symm; have f5_ := f3_.symm; clear f1_ f2_ f3_; subst f4_; subst f5_))
            obtain ⟨Ao34, co34, eo34⟩ := Kd.R_slice HO349.out
            (first | subst eo34 | (injection eo34 with f1_ f2_ f3_; have f4_ := f1_.symm; have f5_ := f3_.symm; clear f1_ f2_ f3_; subst f4_; subst f5_))
            obtain ⟨Ao37, co37, eo37⟩ := Kd.R_slice HO353.out
            (first | subst eo37 | (injection eo37 with f1_ f2_ f3_; have f4_ := f1_.symm; have f5_ := f3_.symm; clear f1_ f2_ f3_; subst f4_; subst f5_))
            refine hK.out _ _ ⟨(blk_cell BK333.out 0).trans rfl, (blk_cell BK333.out 1).trans rfl, (blk_cell BK333.out 2).trans rfl, (blk_cell BK333.out 3).trans rfl, (blk_cell BK333.out 4).trans rfl, (blk_cell BK333.out 5).trans rfl, (blk_cell BK333.out 6).trans rfl, ((HB.out.cell (World.block_lt_of_cell? w _ hw336_0)).trans hw336_0), ((HB.out.cell (World.block_lt_of_cell? w _ hw336_1)).trans hw336_1), ((HB.out.cell (World.block_lt_of_cell? w _ hw340_0)).trans hw340_0), ((HB.out.cell (World.block_lt_of_cell? w _ hw340_1)).trans hw340_1)⟩ (fun hHeld => ?_)
            clear hK K
            refine norm_ (a' := ?_) ?_ ?_
            rotate_left
            · show Act.put _ (some 42) _ = _
              simp only [Act.put, List.setIfInBounds_toArray, List.set_cons_zero, List.set_cons_succ, i64_w, i32_w]
              rfl
            refine last_ (i := 15) (N := none) #[true, true, true, true, true, true, true, true, true, true, true, true, true, true, true, true] rfl rfl (one_of HT_.out (by kernel_rfl)) (by decide) (fun K hK => ?_)
            have hs31 : w29.cell? ⟨gb333, 0, none⟩ = some (.slice Ao21 x334000_1.length co21) := (blk_cell BK333.out 0).trans rfl
            have hfs31 := blk_frozen BK333.out 0
            have hns31_0 := NB317_333.out
            have hms31_0 := NB333_317.out
            have hs33 : w29.cell? ⟨gb333, 1, none⟩ = some (.slice Ao22 x334001_1.length co22) := (blk_cell BK333.out 1).trans rfl
            have hfs33 := blk_frozen BK333.out 1
            have hns33_0 := NB317_333.out
            have hms33_0 := NB333_317.out
            have hs35 : w29.cell? ⟨gb333, 2, none⟩ = some (.slice Ao23 x334002_1.length co23) := (blk_cell BK333.out 2).trans rfl
            have hfs35 := blk_frozen BK333.out 2
            have hns35_0 := NB317_333.out
            have hms35_0 := NB333_317.out
            have hs36 : w29.cell? ⟨gb333, 3, none⟩ = some (.int .i64 x334003_1) := (blk_cell BK333.out 3).trans rfl
            have hfs36 := blk_frozen BK333.out 3
            have hns36_0 := NB317_333.out
            have hms36_0 := NB333_317.out
            have hs38 : w29.cell? ⟨gb333, 4, none⟩ = some (.slice Ao24 x334004_1.length co24) := (blk_cell BK333.out 4).trans rfl
            have hfs38 := blk_frozen BK333.out 4
            have hns38_0 := NB317_333.out
            have hms38_0 := NB333_317.out
            have hs39 : w29.cell? ⟨gb333, 5, none⟩ = some (.int .i64 x334005_1) := (blk_cell BK333.out 5).trans rfl
            have hfs39 := blk_frozen BK333.out 5
            have hns39_0 := NB317_333.out
            have hms39_0 := NB333_317.out
            have hs40 : w29.cell? ⟨gb333, 6, none⟩ = some (.bool x334006_1) := (blk_cell BK333.out 6).trans rfl
            have hfs40 := blk_frozen BK333.out 6
            have hns40_0 := NB317_333.out
            have hms40_0 := NB333_317.out
            refine skip_ (w1 := ?_) (by rfl) rfl ?_ ?_
            rotate_left
            · go_simp
              rfl
            refine hK.out _ _ ?_
            clear hK K
            refine done_ (done_of HT_.out (by kernel_rfl)) ?_
            try go_wp2
            have n0_ : Aside0 (Kd.N k54 54 (((((((w29.setCell ⟨gb333, 0, none⟩ (.slice Ao30 t341.length co30)).setCell ⟨gb333, 1, none⟩ (.slice Ao32 t344.length co32)).setCell ⟨gb333, 2, none⟩ (.slice Ao34 t347.length co34)).setCell ⟨gb333, 3, none⟩ (.int .i64 t350)).setCell ⟨gb333, 4, none⟩ (.slice Ao37 t351.length co37)).setCell ⟨gb333, 5, none⟩ (.int .i64 t354)).setCell ⟨gb333, 6, none⟩ (.bool t355)) w.heap.size (fun k_ => (w.heap.size ≤ k_) ∧ some k_ ≠ (.slice Ao28 t337.length co28 : Value).ownBlock ∧ some k_ ≠ (.slice Ao30 t341.length co30 : Value).ownBlock ∧ some k_ ≠ (.slice Ao32 t344.length co32 : Value).ownBlock ∧ some k_ ≠ (.slice Ao34 t347.length co34 : Value).ownBlock ∧ some k_ ≠ (.slice Ao37 t351.length co37 : Value).ownBlock ∧ k_ ≠ gb317 ∧ k_ ≠ gb333) (.slice Ao21 x334000_1.length co21) x334000_1) := ⟨by (with_reducible repeat (first | apply Kd.N_alloc | apply Kd.N_drewN | apply Kd.N_drew)); exact Kd.N_mono (Kd.N_far (p := ⟨gb333, 6, none⟩) (Kd.N_far (p := ⟨gb333, 5, none⟩) (Kd.N_far (p := ⟨gb333, 4, none⟩) (Kd.N_far (p := ⟨gb333, 3, none⟩) (Kd.N_far (p := ⟨gb333, 2, none⟩) (Kd.N_far (p := ⟨gb333, 1, none⟩) (Kd.N_far (p := ⟨gb333, 0, none⟩) (Kd.N_mono HO_334000.out (fun k_ hk => (⟨hk, hk.2.2.2.1⟩ : _ ∧ k_ ≠ gb333))) (fun _ hk => hk.2) (.slice Ao30 t341.length co30)) (fun _ hk => hk.2) (.slice Ao32 t344.length co32)) (fun _ hk => hk.2) (.slice Ao34 t347.length co34)) (fun _ hk => hk.2) (.int .i64 t350)) (fun _ hk => hk.2) (.slice Ao37 t351.length co37)) (fun _ hk => hk.2) (.int .i64 t354)) (fun _ hk => hk.2) (.bool t355)) (fun _ hk => ⟨hk.1.1, ⟨hk.1.2.1, ⟨hk.1.2.2.2.2.1, ⟨hk.1.2.2.2.2.2.1, ⟨hk.1.2.2.2.2.2.2.1, ⟨hk.1.2.2.2.2.2.2.2, ⟨hk.1.2.2.1, hk.1.2.2.2.1⟩⟩⟩⟩⟩⟩⟩)⟩
            have n1_ : Aside0 (Kd.R (Kd.int .u8) 5 (((((((w29.setCell ⟨gb333, 0, none⟩ (.slice Ao30 t341.length co30)).setCell ⟨gb333, 1, none⟩ (.slice Ao32 t344.length co32)).setCell ⟨gb333, 2, none⟩ (.slice Ao34 t347.length co34)).setCell ⟨gb333, 3, none⟩ (.int .i64 t350)).setCell ⟨gb333, 4, none⟩ (.slice Ao37 t351.length co37)).setCell ⟨gb333, 5, none⟩ (.int .i64 t354)).setCell ⟨gb333, 6, none⟩ (.bool t355)) w.heap.size (fun k_ => (w.heap.size ≤ k_)) (.slice Ao28 t337.length co28) t337) := ⟨by (with_reducible repeat (first | apply Kd.R_alloc | apply Kd.R_drewN | apply Kd.R_drew)); exact Kd.R_mono (Kd.R_far (p := ⟨gb333, 6, none⟩) (Kd.R_far (p := ⟨gb333, 5, none⟩) (Kd.R_far (p := ⟨gb333, 4, none⟩) (Kd.R_far (p := ⟨gb333, 3, none⟩) (Kd.R_far (p := ⟨gb333, 2, none⟩) (Kd.R_far (p := ⟨gb333, 1, none⟩) (Kd.R_far (p := ⟨gb333, 0, none⟩) (Kd.R_types HO339.out BK333.out (by decide)) (fun _ hk => hk.2) (.slice Ao30 t341.length co30)) (fun _ hk => hk.2) (.slice Ao32 t344.length co32)) (fun _ hk => hk.2) (.slice Ao34 t347.length co34)) (fun _ hk => hk.2) (.int .i64 t350)) (fun _ hk => hk.2) (.slice Ao37 t351.length co37)) (fun _ hk => hk.2) (.int .i64 t354)) (fun _ hk => hk.2) (.bool t355)) (fun _ hk => hk.1)⟩
            have n2_ : Aside0 (Kd.N k54 54 (((((((w29.setCell ⟨gb333, 0, none⟩ (.slice Ao30 t341.length co30)).setCell ⟨gb333, 1, none⟩ (.slice Ao32 t344.length co32)).setCell ⟨gb333, 2, none⟩ (.slice Ao34 t347.length co34)).setCell ⟨gb333, 3, none⟩ (.int .i64 t350)).setCell ⟨gb333, 4, none⟩ (.slice Ao37 t351.length co37)).setCell ⟨gb333, 5, none⟩ (.int .i64 t354)).setCell ⟨gb333, 6, none⟩ (.bool t355)) w.heap.size (fun k_ => (w.heap.size ≤ k_) ∧ some k_ ≠ (.slice Ao32 t344.length co32 : Value).ownBlock ∧ some k_ ≠ (.slice Ao34 t347.length co34 : Value).ownBlock ∧ some k_ ≠ (.slice Ao37 t351.length co37 : Value).ownBlock ∧ k_ ≠ gb317 ∧ k_ ≠ gb333) (.slice Ao30 t341.length co30) t341) := ⟨by (with_reducible repeat (first | apply Kd.N_alloc | apply Kd.N_drewN | apply Kd.N_drew)); exact Kd.N_mono (Kd.N_far (p := ⟨gb333, 6, none⟩) (Kd.N_far (p := ⟨gb333, 5, none⟩) (Kd.N_far (p := ⟨gb333, 4, none⟩) (Kd.N_far (p := ⟨gb333, 3, none⟩) (Kd.N_far (p := ⟨gb333, 2, none⟩) (Kd.N_far (p := ⟨gb333, 1, none⟩) (Kd.N_far (p := ⟨gb333, 0, none⟩) (Kd.N_mono HO343.out (fun k_ hk => (⟨hk, hk.2.2.2.2.2⟩ : _ ∧ k_ ≠ gb333))) (fun _ hk => hk.2) (.slice Ao30 t341.length co30)) (fun _ hk => hk.2) (.slice Ao32 t344.length co32)) (fun _ hk => hk.2) (.slice Ao34 t347.length co34)) (fun _ hk => hk.2) (.int .i64 t350)) (fun _ hk => hk.2) (.slice Ao37 t351.length co37)) (fun _ hk => hk.2) (.int .i64 t354)) (fun _ hk => hk.2) (.bool t355)) (fun _ hk => ⟨hk.1.1, ⟨hk.1.2.1, ⟨hk.1.2.2.1, ⟨hk.1.2.2.2.1, ⟨hk.1.2.2.2.2.1, hk.1.2.2.2.2.2⟩⟩⟩⟩⟩)⟩
            have n3_ : Aside0 (Kd.R k93 93 (((((((w29.setCell ⟨gb333, 0, none⟩ (.slice Ao30 t341.length co30)).setCell ⟨gb333, 1, none⟩ (.slice Ao32 t344.length co32)).setCell ⟨gb333, 2, none⟩ (.slice Ao34 t347.length co34)).setCell ⟨gb333, 3, none⟩ (.int .i64 t350)).setCell ⟨gb333, 4, none⟩ (.slice Ao37 t351.length co37)).setCell ⟨gb333, 5, none⟩ (.int .i64 t354)).setCell ⟨gb333, 6, none⟩ (.bool t355)) w.heap.size (fun k_ => (w.heap.size ≤ k_)) (.slice Ao32 t344.length co32) t344) := ⟨by (with_reducible repeat (first | apply Kd.R_alloc | apply Kd.R_drewN | apply Kd.R_drew)); exact Kd.R_mono (Kd.R_far (p := ⟨gb333, 6, none⟩) (Kd.R_far (p := ⟨gb333, 5, none⟩) (Kd.R_far (p := ⟨gb333, 4, none⟩) (Kd.R_far (p := ⟨gb333, 3, none⟩) (Kd.R_far (p := ⟨gb333, 2, none⟩) (Kd.R_far (p := ⟨gb333, 1, none⟩) (Kd.R_far (p := ⟨gb333, 0, none⟩) (Kd.R_types HO346.out BK333.out (by decide)) (fun _ hk => hk.2) (.slice Ao30 t341.length co30)) (fun _ hk => hk.2) (.slice Ao32 t344.length co32)) (fun _ hk => hk.2) (.slice Ao34 t347.length co34)) (fun _ hk => hk.2) (.int .i64 t350)) (fun _ hk => hk.2) (.slice Ao37 t351.length co37)) (fun _ hk => hk.2) (.int .i64 t354)) (fun _ hk => hk.2) (.bool t355)) (fun _ hk => hk.1)⟩
            have n4_ : Aside0 (Kd.R k113 113 (((((((w29.setCell ⟨gb333, 0, none⟩ (.slice Ao30 t341.length co30)).setCell ⟨gb333, 1, none⟩ (.slice Ao32 t344.length co32)).setCell ⟨gb333, 2, none⟩ (.slice Ao34 t347.length co34)).setCell ⟨gb333, 3, none⟩ (.int .i64 t350)).setCell ⟨gb333, 4, none⟩ (.slice Ao37 t351.length co37)).setCell ⟨gb333, 5, none⟩ (.int .i64 t354)).setCell ⟨gb333, 6, none⟩ (.bool t355)) w.heap.size (fun k_ => (w.heap.size ≤ k_)) (.slice Ao34 t347.length co34) t347) := ⟨by (with_reducible repeat (first | apply Kd.R_alloc | apply Kd.R_drewN | apply Kd.R_drew)); exact Kd.R_mono (Kd.R_far (p := ⟨gb333, 6, none⟩) (Kd.R_far (p := ⟨gb333, 5, none⟩) (Kd.R_far (p := ⟨gb333, 4, none⟩) (Kd.R_far (p := ⟨gb333, 3, none⟩) (Kd.R_far (p := ⟨gb333, 2, none⟩) (Kd.R_far (p := ⟨gb333, 1, none⟩) (Kd.R_far (p := ⟨gb333, 0, none⟩) (Kd.R_types HO349.out BK333.out (by decide)) (fun _ hk => hk.2) (.slice Ao30 t341.length co30)) (fun _ hk => hk.2) (.slice Ao32 t344.length co32)) (fun _ hk => hk.2) (.slice Ao34 t347.length co34)) (fun _ hk => hk.2) (.int .i64 t350)) (fun _ hk => hk.2) (.slice Ao37 t351.length co37)) (fun _ hk => hk.2) (.int .i64 t354)) (fun _ hk => hk.2) (.bool t355)) (fun _ hk => hk.1)⟩
            have n5_ : Aside0 (Kd.R k69 69 (((((((w29.setCell ⟨gb333, 0, none⟩ (.slice Ao30 t341.length co30)).setCell ⟨gb333, 1, none⟩ (.slice Ao32 t344.length co32)).setCell ⟨gb333, 2, none⟩ (.slice Ao34 t347.length co34)).setCell ⟨gb333, 3, none⟩ (.int .i64 t350)).setCell ⟨gb333, 4, none⟩ (.slice Ao37 t351.length co37)).setCell ⟨gb333, 5, none⟩ (.int .i64 t354)).setCell ⟨gb333, 6, none⟩ (.bool t355)) w.heap.size (fun k_ => (w.heap.size ≤ k_)) (.slice Ao37 t351.length co37) t351) := ⟨by (with_reducible repeat (first | apply Kd.R_alloc | apply Kd.R_drewN | apply Kd.R_drew)); exact Kd.R_mono (Kd.R_far (p := ⟨gb333, 6, none⟩) (Kd.R_far (p := ⟨gb333, 5, none⟩) (Kd.R_far (p := ⟨gb333, 4, none⟩) (Kd.R_far (p := ⟨gb333, 3, none⟩) (Kd.R_far (p := ⟨gb333, 2, none⟩) (Kd.R_far (p := ⟨gb333, 1, none⟩) (Kd.R_far (p := ⟨gb333, 0, none⟩) (Kd.R_types HO353.out BK333.out (by decide)) (fun _ hk => hk.2) (.slice Ao30 t341.length co30)) (fun _ hk => hk.2) (.slice Ao32 t344.length co32)) (fun _ hk => hk.2) (.slice Ao34 t347.length co34)) (fun _ hk => hk.2) (.int .i64 t350)) (fun _ hk => hk.2) (.slice Ao37 t351.length co37)) (fun _ hk => hk.2) (.int .i64 t354)) (fun _ hk => hk.2) (.bool t355)) (fun _ hk => hk.1)⟩
            have n6_ : Aside0 ((((((((w29.setCell ⟨gb333, 0, none⟩ (.slice Ao30 t341.length co30)).setCell ⟨gb333, 1, none⟩ (.slice Ao32 t344.length co32)).setCell ⟨gb333, 2, none⟩ (.slice Ao34 t347.length co34)).setCell ⟨gb333, 3, none⟩ (.int .i64 t350)).setCell ⟨gb333, 4, none⟩ (.slice Ao37 t351.length co37)).setCell ⟨gb333, 5, none⟩ (.int .i64 t354)).setCell ⟨gb333, 6, none⟩ (.bool t355)).heap[gb317]? = some (.cells #[.slice none 0 0, .slice none 0 0, .slice none 0 0, .int .i64 x318003_1, .slice none 0 0, .int .i64 x318005_1, .bool x318006_1] 35 (0, 0))) := ⟨by (with_reducible repeat (first | refine blk_drewN ?_ _ | refine blk_drew ?_ | refine blk_alloc ?_ _)); refine blk_far ?_ NB317_333.out _; (with_reducible repeat (first | refine blk_drewN ?_ _ | refine blk_drew ?_ | refine blk_alloc ?_ _)); refine blk_far ?_ NB317_333.out _; (with_reducible repeat (first | refine blk_drewN ?_ _ | refine blk_drew ?_ | refine blk_alloc ?_ _)); refine blk_far ?_ NB317_333.out _; (with_reducible repeat (first | refine blk_drewN ?_ _ | refine blk_drew ?_ | refine blk_alloc ?_ _)); refine blk_far ?_ NB317_333.out _; (with_reducible repeat (first | refine blk_drewN ?_ _ | refine blk_drew ?_ | refine blk_alloc ?_ _)); refine blk_far ?_ NB317_333.out _; (with_reducible repeat (first | refine blk_drewN ?_ _ | refine blk_drew ?_ | refine blk_alloc ?_ _)); refine blk_far ?_ NB317_333.out _; (with_reducible repeat (first | refine blk_drewN ?_ _ | refine blk_drew ?_ | refine blk_alloc ?_ _)); refine blk_far ?_ NB317_333.out _; (with_reducible repeat (first | refine blk_drewN ?_ _ | refine blk_drew ?_ | refine blk_alloc ?_ _)); exact BK317.out⟩
            have n7_ : Aside0 ((((((((w29.setCell ⟨gb333, 0, none⟩ (.slice Ao30 t341.length co30)).setCell ⟨gb333, 1, none⟩ (.slice Ao32 t344.length co32)).setCell ⟨gb333, 2, none⟩ (.slice Ao34 t347.length co34)).setCell ⟨gb333, 3, none⟩ (.int .i64 t350)).setCell ⟨gb333, 4, none⟩ (.slice Ao37 t351.length co37)).setCell ⟨gb333, 5, none⟩ (.int .i64 t354)).setCell ⟨gb333, 6, none⟩ (.bool t355)).heap[gb333]? = some (.cells #[.slice Ao30 t341.length co30, .slice Ao32 t344.length co32, .slice Ao34 t347.length co34, .int .i64 t350, .slice Ao37 t351.length co37, .int .i64 t354, .bool t355] 35 (0, 0))) := ⟨by (with_reducible repeat (first | refine blk_drewN ?_ _ | refine blk_drew ?_ | refine blk_alloc ?_ _)); refine blk_put (cs := #[.slice Ao30 t341.length co30, .slice Ao32 t344.length co32, .slice Ao34 t347.length co34, .int .i64 t350, .slice Ao37 t351.length co37, .int .i64 t354, .bool x334006_1]) ?_ 6 _ rfl; (with_reducible repeat (first | refine blk_drewN ?_ _ | refine blk_drew ?_ | refine blk_alloc ?_ _)); refine blk_put (cs := #[.slice Ao30 t341.length co30, .slice Ao32 t344.length co32, .slice Ao34 t347.length co34, .int .i64 t350, .slice Ao37 t351.length co37, .int .i64 x334005_1, .bool x334006_1]) ?_ 5 _ rfl; (with_reducible repeat (first | refine blk_drewN ?_ _ | refine blk_drew ?_ | refine blk_alloc ?_ _)); refine blk_put (cs := #[.slice Ao30 t341.length co30, .slice Ao32 t344.length co32, .slice Ao34 t347.length co34, .int .i64 t350, .slice Ao24 x334004_1.length co24, .int .i64 x334005_1, .bool x334006_1]) ?_ 4 _ rfl; (with_reducible repeat (first | refine blk_drewN ?_ _ | refine blk_drew ?_ | refine blk_alloc ?_ _)); refine blk_put (cs := #[.slice Ao30 t341.length co30, .slice Ao32 t344.length co32, .slice Ao34 t347.length co34, .int .i64 x334003_1, .slice Ao24 x334004_1.length co24, .int .i64 x334005_1, .bool x334006_1]) ?_ 3 _ rfl; (with_reducible repeat (first | refine blk_drewN ?_ _ | refine blk_drew ?_ | refine blk_alloc ?_ _)); refine blk_put (cs := #[.slice Ao30 t341.length co30, .slice Ao32 t344.length co32, .slice Ao23 x334002_1.length co23, .int .i64 x334003_1, .slice Ao24 x334004_1.length co24, .int .i64 x334005_1, .bool x334006_1]) ?_ 2 _ rfl; (with_reducible repeat (first | refine blk_drewN ?_ _ | refine blk_drew ?_ | refine blk_alloc ?_ _)); refine blk_put (cs := #[.slice Ao30 t341.length co30, .slice Ao22 x334001_1.length co22, .slice Ao23 x334002_1.length co23, .int .i64 x334003_1, .slice Ao24 x334004_1.length co24, .int .i64 x334005_1, .bool x334006_1]) ?_ 1 _ rfl; (with_reducible repeat (first | refine blk_drewN ?_ _ | refine blk_drew ?_ | refine blk_alloc ?_ _)); refine blk_put (cs := #[.slice Ao21 x334000_1.length co21, .slice Ao22 x334001_1.length co22, .slice Ao23 x334002_1.length co23, .int .i64 x334003_1, .slice Ao24 x334004_1.length co24, .int .i64 x334005_1, .bool x334006_1]) ?_ 0 _ rfl; (with_reducible repeat (first | refine blk_drewN ?_ _ | refine blk_drew ?_ | refine blk_alloc ?_ _)); exact BK333.out⟩
            have n8_ : Aside0 (Below w.heap.size w (((((((w29.setCell ⟨gb333, 0, none⟩ (.slice Ao30 t341.length co30)).setCell ⟨gb333, 1, none⟩ (.slice Ao32 t344.length co32)).setCell ⟨gb333, 2, none⟩ (.slice Ao34 t347.length co34)).setCell ⟨gb333, 3, none⟩ (.int .i64 t350)).setCell ⟨gb333, 4, none⟩ (.slice Ao37 t351.length co37)).setCell ⟨gb333, 5, none⟩ (.int .i64 t354)).setCell ⟨gb333, 6, none⟩ (.bool t355))) := ⟨by repeat (first | (with_reducible first | exact HB.out | apply below_alloc | apply pw_below_drewN | apply below_drew1 | refine below_set ?_ GE317.out | refine below_set ?_ GE333.out) | exact HB.out)⟩
            (try clear HO_334000)
            (try clear HO339)
            (try clear HO343)
            (try clear HO346)
            (try clear HO349)
            (try clear HO353)
            (try clear BK317)
            (try clear BK333)
            (try clear HB)
            generalize (((((((w29.setCell ⟨gb333, 0, none⟩ (.slice Ao30 t341.length co30)).setCell ⟨gb333, 1, none⟩ (.slice Ao32 t344.length co32)).setCell ⟨gb333, 2, none⟩ (.slice Ao34 t347.length co34)).setCell ⟨gb333, 3, none⟩ (.int .i64 t350)).setCell ⟨gb333, 4, none⟩ (.slice Ao37 t351.length co37)).setCell ⟨gb333, 5, none⟩ (.int .i64 t354)).setCell ⟨gb333, 6, none⟩ (.bool t355)) = w41 at n0_ n1_ n2_ n3_ n4_ n5_ n6_ n7_ n8_ ⊢
            have HO_334000 := n0_
            have HO339 := n1_
            have HO343 := n2_
            have HO346 := n3_
            have HO349 := n4_
            have HO353 := n5_
            have BK317 := n6_
            have BK333 := n7_
            have HB := n8_
            clear n0_ n1_ n2_ n3_ n4_ n5_ n6_ n7_ n8_
            have n0_ := Aside0.mk (Kd.N_drew HO_334000.out)
            have n1_ := Aside0.mk (Kd.R_drew HO339.out)
            have n2_ := Aside0.mk (Kd.N_drew HO343.out)
            have n3_ := Aside0.mk (Kd.R_drew HO346.out)
            have n4_ := Aside0.mk (Kd.R_drew HO349.out)
            have n5_ := Aside0.mk (Kd.R_drew HO353.out)
            have n6_ := Aside0.mk (blk_drew BK317.out)
            have n7_ := Aside0.mk (blk_drew BK333.out)
            have n8_ := Aside0.mk (below_drew1 HB.out)
            clear HO_334000
            clear HO339
            clear HO343
            clear HO346
            clear HO349
            clear HO353
            clear BK317
            clear BK333
            clear HB
            have HO_334000 := n0_
            have HO339 := n1_
            have HO343 := n2_
            have HO346 := n3_
            have HO349 := n4_
            have HO353 := n5_
            have BK317 := n6_
            have BK333 := n7_
            have HB := n8_
            clear n0_ n1_ n2_ n3_ n4_ n5_ n6_ n7_ n8_
            have p356 : 0 ≤ (x7_1 : Int) := of_decide_eq_true (by first | (with_reducible assumption) | assumption)
            have q356 : x7_1 < (l1.length : Int) := of_decide_eq_true (by first | (with_reducible assumption) | assumption)
            obtain ⟨ad356, A356_1, c356_1, e356, hx356_0, hx356_1, hl356_1, hi356_1⟩ := at_T40 HR1.out x7_1 p356 q356
            have hw356_1 := hx356_1
            have hw356_0 := hx356_0
            obtain rfl : ad334 = ad356 := (by injection e356)
            replace hx356_0 := (HB.out.cell (World.block_lt_of_cell? w _ hx356_0)).trans hx356_0
            replace hx356_1 := (HB.out.cell (World.block_lt_of_cell? w _ hx356_1)).trans hx356_1
            have HR356_1 := Aside0.mk hi356_1
            have HC356_1 := Aside0.mk hl356_1
            clear hi356_1 hl356_1
            replace p356 := eq_true p356
            replace q356 := eq_true q356
            refine start_ (n := 14) (S := fun w' => w'.cell? ⟨gb333, 0, none⟩ = some (.slice Ao30 t341.length co30) ∧ w'.cell? ⟨gb333, 1, none⟩ = some (.slice Ao32 t344.length co32) ∧ w'.cell? ⟨gb333, 2, none⟩ = some (.slice Ao34 t347.length co34) ∧ w'.cell? ⟨gb333, 3, none⟩ = some (.int .i64 t350) ∧ w'.cell? ⟨gb333, 4, none⟩ = some (.slice Ao37 t351.length co37) ∧ w'.cell? ⟨gb333, 5, none⟩ = some (.int .i64 t354) ∧ w'.cell? ⟨gb333, 6, none⟩ = some (.bool t355) ∧ w'.cell? (ad334.add ((x7_1).toNat * 2)) = some (.string ((rd_T40 l1 x7_1).f0)) ∧ w'.cell? ⟨(ad334.add ((x7_1).toNat * 2)).block, (ad334.add ((x7_1).toNat * 2)).off + 1, none⟩ = some (.slice A356_1 ((rd_T40 l1 x7_1).f1).length c356_1)) (ds := [13]) #[false, false, false, false, false, false, false, false, false, false, false, false, false, false] (by kernel_rfl) rfl rfl ⟨(blk_cell BK333.out 0).trans rfl, (blk_cell BK333.out 1).trans rfl, (blk_cell BK333.out 2).trans rfl, (blk_cell BK333.out 3).trans rfl, (blk_cell BK333.out 4).trans rfl, (blk_cell BK333.out 5).trans rfl, (blk_cell BK333.out 6).trans rfl, ((HB.out.cell (World.block_lt_of_cell? w _ hw356_0)).trans hw356_0), ((HB.out.cell (World.block_lt_of_cell? w _ hw356_1)).trans hw356_1)⟩ (fun hHeld => ?_); refine with_tabW stoaref14_Load.tab9 stoaref14_Load.bits9 (fun HT_ HW_ => ?_)
            generalize w41.drew = w42 at HO_334000 HO339 HO343 HO346 HO349 HO353 BK317 BK333 HB HR356_1 hx356_0 hx356_1 hHeld ⊢
            refine pure_ (i := 0) (N := some 43) (v := ?_) (a' := ?_) #[true, false, false, false, false, false, false, false, false, false, false, false, false, false] rfl rfl (any_of HT_.out (by kernel_rfl)) (fun _ _ _ h => h) (Or.inl ⟨by rfl, ?_⟩) ?_ ?_
            rotate_left
            · intro w'
              go_simp
              with_reducible rfl
            rotate_left
            · simp only [Act.put, List.setIfInBounds_toArray, List.set_cons_zero, List.set_cons_succ, i64_w, i32_w]
              rfl
            refine pure_ (i := 2) (N := some 45) (v := ?_) (a' := ?_) #[true, false, true, false, false, false, false, false, false, false, false, false, false, false] rfl rfl (any_of HT_.out (by kernel_rfl)) (fun _ _ _ h => h) (Or.inl ⟨by rfl, ?_⟩) ?_ ?_
            rotate_left
            · intro w'
              go_simp
              with_reducible rfl
            rotate_left
            · simp only [Act.put, List.setIfInBounds_toArray, List.set_cons_zero, List.set_cons_succ, i64_w, i32_w]
              rfl
            refine pure_ (i := 3) (N := some 46) (v := ?_) (a' := ?_) #[true, false, true, true, false, false, false, false, false, false, false, false, false, false] rfl rfl (any_of HT_.out (by kernel_rfl)) (fun _ _ _ h => h) (Or.inl ⟨by rfl, ?_⟩) ?_ ?_
            rotate_left
            · intro w'
              go_simp
              with_reducible rfl
            rotate_left
            · simp only [Act.put, List.setIfInBounds_toArray, List.set_cons_zero, List.set_cons_succ, i64_w, i32_w]
              rfl
            refine pure_ (i := 4) (N := some 47) (v := ?_) (a' := ?_) #[true, false, true, true, true, false, false, false, false, false, false, false, false, false] rfl rfl (any_of HT_.out (by kernel_rfl)) (fun _ _ _ h => h) (Or.inl ⟨by rfl, ?_⟩) ?_ ?_
            rotate_left
            · intro w'
              go_simp
              with_reducible rfl
            rotate_left
            · simp only [Act.put, List.setIfInBounds_toArray, List.set_cons_zero, List.set_cons_succ, i64_w, i32_w]
              rfl
            refine pure_ (i := 5) (N := some 48) (v := ?_) (a' := ?_) #[true, false, true, true, true, true, false, false, false, false, false, false, false, false] rfl rfl (any_of HT_.out (by kernel_rfl)) (fun _ _ _ h => h) (Or.inl ⟨by rfl, ?_⟩) ?_ ?_
            rotate_left
            · intro w'
              go_simp
              with_reducible rfl
            rotate_left
            · simp only [Act.put, List.setIfInBounds_toArray, List.set_cons_zero, List.set_cons_succ, i64_w, i32_w]
              rfl
            refine pure_ (i := 7) (N := some 50) (v := ?_) (a' := ?_) #[true, false, true, true, true, true, false, true, false, false, false, false, false, false] rfl rfl (any_of HT_.out (by kernel_rfl)) (fun _ _ _ h => h) (Or.inl ⟨by rfl, ?_⟩) ?_ ?_
            rotate_left
            · intro w'
              go_simp
              with_reducible rfl
            rotate_left
            · simp only [Act.put, List.setIfInBounds_toArray, List.set_cons_zero, List.set_cons_succ, i64_w, i32_w]
              rfl
            refine take_ (i := 1) (N := some 44) (v := ?_) (a' := ?_) #[true, true, true, true, true, true, false, true, false, false, false, false, false, false] rfl rfl (take_ofW HT_.out HW_.out (by kernel_rfl)) (fun _ _ _ h => h) (Or.inl ⟨by rfl, ?_⟩) hHeld ?_ ?_
            rotate_left
            · rintro w' ⟨s0, s1, s2, s3, s4, s5, s6, s7, s8⟩
              go_simp
              with_reducible rfl
            rotate_left
            · simp only [Act.put, List.setIfInBounds_toArray, List.set_cons_zero, List.set_cons_succ, i64_w, i32_w]
              rfl
            refine take_ (i := 6) (N := some 49) (v := ?_) (a' := ?_) #[true, true, true, true, true, true, true, true, false, false, false, false, false, false] rfl rfl (take_ofW HT_.out HW_.out (by kernel_rfl)) (fun _ _ _ h => h) (Or.inl ⟨by rfl, ?_⟩) hHeld ?_ ?_
            rotate_left
            · rintro w' ⟨s0, s1, s2, s3, s4, s5, s6, s7, s8⟩
              go_simp
              with_reducible rfl
            rotate_left
            · simp only [Act.put, List.setIfInBounds_toArray, List.set_cons_zero, List.set_cons_succ, i64_w, i32_w]
              rfl
            refine take_ (i := 8) (N := some 51) (v := ?_) (a' := ?_) #[true, true, true, true, true, true, true, true, true, false, false, false, false, false] rfl rfl (take_ofW HT_.out HW_.out (by kernel_rfl)) (fun _ _ _ h => h) (Or.inl ⟨by rfl, ?_⟩) hHeld ?_ ?_
            rotate_left
            · rintro w' ⟨s0, s1, s2, s3, s4, s5, s6, s7, s8⟩
              go_simp
              with_reducible rfl
            rotate_left
            · simp only [Act.put, List.setIfInBounds_toArray, List.set_cons_zero, List.set_cons_succ, i64_w, i32_w]
              rfl
            refine pure_ (i := 9) (N := some 52) (v := ?_) (a' := ?_) #[true, true, true, true, true, true, true, true, true, true, false, false, false, false] rfl rfl (any_of HT_.out (by kernel_rfl)) (fun _ _ _ h => h) (Or.inl ⟨by rfl, ?_⟩) ?_ ?_
            rotate_left
            · intro w'
              go_simp
              with_reducible rfl
            rotate_left
            · simp only [Act.put, List.setIfInBounds_toArray, List.set_cons_zero, List.set_cons_succ, i64_w, i32_w]
              rfl
            refine pure_ (i := 10) (N := some 53) (v := ?_) (a' := ?_) #[true, true, true, true, true, true, true, true, true, true, true, false, false, false] rfl rfl (any_of HT_.out (by kernel_rfl)) (fun _ _ _ h => h) (Or.inl ⟨by rfl, ?_⟩) ?_ ?_
            rotate_left
            · intro w'
              go_simp
              with_reducible rfl
            rotate_left
            · simp only [Act.put, List.setIfInBounds_toArray, List.set_cons_zero, List.set_cons_succ, i64_w, i32_w]
              rfl
            refine one_ (i := 11) (N := some 54) #[true, true, true, true, true, true, true, true, true, true, true, true, false, false] rfl rfl (one_of HT_.out (by kernel_rfl)) (by decide) (fun K hK => ?_)
            refine goes_ Tryz.func43 (by kernel_rfl) rfl #[.slice Ao32 t344.length co32, .string ((rd_T40 l1 x7_1).f0), .int .i64 (wrap64 ((t341.length : Int) - 1))] (by rfl) rfl rfl (by (try simp only [List.map_toArray, List.map_cons, List.map_nil]); first | done | rfl | (simp only [List.length_drop, List.length_take]; rfl)) ?_
            with_reducible refine (stoaref14_with.calls k1 _ _ t344 ((rd_T40 l1 x7_1).f0) (wrap64 ((t341.length : Int) - 1)) t357 _ ?side1 ?side2 A19.out).mono ?_
            (case side1 => repeat (first | exact (Kd.R_reads' HO346.out).2.2 | (with_reducible refine Kd.C_alloc ?_ _) | (with_reducible refine Kd.C_drewN ?_ _) | (with_reducible refine Kd.C_drew ?_)))
            (case side2 => exact (Kd.R_reads' HO346.out).2.1)
            rintro e w43 ⟨v358, rfl, ho0, hb⟩
            refine ⟨_, rfl, ?_⟩
            have n0_ := Aside0.mk (Kd.N_elder' (by (with_reducible repeat (first | apply Kd.N_alloc | apply Kd.N_drewN | apply Kd.N_drew)); exact HO_334000.out) (Kd.R_base ho0) hb)
            have n1_ := Aside0.mk (Kd.R_below (by (with_reducible repeat (first | apply Kd.R_alloc | apply Kd.R_drewN | apply Kd.R_drew)); exact HO339.out) hb)
            have n2_ := Aside0.mk (Kd.N_elder' (by (with_reducible repeat (first | apply Kd.N_alloc | apply Kd.N_drewN | apply Kd.N_drew)); exact HO343.out) (Kd.R_base ho0) hb)
            have n3_ := Aside0.mk (Kd.R_elder' (by (with_reducible repeat (first | apply Kd.R_alloc | apply Kd.R_drewN | apply Kd.R_drew)); exact HO346.out) (Kd.R_base ho0) hb)
            have n4_ := Aside0.mk (Kd.R_below (by (with_reducible repeat (first | apply Kd.R_alloc | apply Kd.R_drewN | apply Kd.R_drew)); exact HO349.out) hb)
            have n5_ := Aside0.mk (Kd.R_below (by (with_reducible repeat (first | apply Kd.R_alloc | apply Kd.R_drewN | apply Kd.R_drew)); exact HO353.out) hb)
            have n6_ := Aside0.mk (Kd.R_lower (Kd.R_new' (Kd.R_newM (M := fun k_ => (w.heap.size ≤ k_)) ho0 (below_size (by repeat (first | (with_reducible first | exact HB.out | apply below_alloc | apply pw_below_drewN | apply below_drew1 | refine below_set ?_ GE317.out | refine below_set ?_ GE333.out) | exact HB.out))) (fun k_ h_ => h_)) (Kd.R_lt (by (with_reducible repeat (first | apply Kd.R_alloc | apply Kd.R_drewN | apply Kd.R_drew)); exact HO346.out))) (below_size (by repeat (first | (with_reducible first | exact HB.out | apply below_alloc | apply pw_below_drewN | apply below_drew1 | refine below_set ?_ GE317.out | refine below_set ?_ GE333.out) | exact HB.out))))
            have n7_ := Aside0.mk (blk_below (g := gb317) (o := .cells #[.slice none 0 0, .slice none 0 0, .slice none 0 0, .int .i64 x318003_1, .slice none 0 0, .int .i64 x318005_1, .bool x318006_1] 35 (0, 0)) (by (with_reducible repeat (first | refine blk_drewN ?_ _ | refine blk_drew ?_ | refine blk_alloc ?_ _)); exact BK317.out) hb)
            have n8_ := Aside0.mk (blk_below (g := gb333) (o := .cells #[.slice Ao30 t341.length co30, .slice Ao32 t344.length co32, .slice Ao34 t347.length co34, .int .i64 t350, .slice Ao37 t351.length co37, .int .i64 t354, .bool t355] 35 (0, 0)) (by (with_reducible repeat (first | refine blk_drewN ?_ _ | refine blk_drew ?_ | refine blk_alloc ?_ _)); exact BK333.out) hb)
            have n9_ := Aside0.mk (below_step (by repeat (first | (with_reducible first | exact HB.out | apply below_alloc | apply pw_below_drewN | apply below_drew1 | refine below_set ?_ GE317.out | refine below_set ?_ GE333.out) | exact HB.out)) hb)
            clear HO_334000
            clear HO339
            clear HO343
            clear HO346
            clear HO349
            clear HO353
            clear BK317
            clear BK333
            clear HB
            have HO_334000 := n0_
            have HO339 := n1_
            have HO343 := n2_
            have HO346 := n3_
            have HO349 := n4_
            have HO353 := n5_
            have HO359 := n6_
            have BK317 := n7_
            have BK333 := n8_
            have HB := n9_
            clear n0_ n1_ n2_ n3_ n4_ n5_ n6_ n7_ n8_ n9_
            (try clear hb)
            (try clear hb2)
            (try clear hk)
            (try clear hi)
            (try clear ho0)
            obtain ⟨Ao44, co44, eo44⟩ := Kd.R_slice HO359.out
            (first | subst eo44 | (injection eo44 with f1_ f2_ f3_; have f4_ := f1_.symm; have f5_ := f3_.symm; clear f1_ f2_ f3_; subst f4_; subst f5_))
            refine hK.out _ _ ⟨(blk_cell BK333.out 0).trans rfl, (blk_cell BK333.out 1).trans rfl, (blk_cell BK333.out 2).trans rfl, (blk_cell BK333.out 3).trans rfl, (blk_cell BK333.out 4).trans rfl, (blk_cell BK333.out 5).trans rfl, (blk_cell BK333.out 6).trans rfl, ((HB.out.cell (World.block_lt_of_cell? w _ hw356_0)).trans hw356_0), ((HB.out.cell (World.block_lt_of_cell? w _ hw356_1)).trans hw356_1)⟩ (fun hHeld => ?_)
            clear hK K
            refine norm_ (a' := ?_) ?_ ?_
            rotate_left
            · show Act.put _ (some 54) _ = _
              simp only [Act.put, List.setIfInBounds_toArray, List.set_cons_zero, List.set_cons_succ, i64_w, i32_w]
              rfl
            refine pure_ (i := 12) (N := some 55) (v := ?_) (a' := ?_) #[true, true, true, true, true, true, true, true, true, true, true, true, true, false] rfl rfl (any_of HT_.out (by kernel_rfl)) (fun _ _ _ h => h) (Or.inl ⟨by rfl, ?_⟩) ?_ ?_
            rotate_left
            · intro w'
              go_simp
              with_reducible rfl
            rotate_left
            · simp only [Act.put, List.setIfInBounds_toArray, List.set_cons_zero, List.set_cons_succ, i64_w, i32_w]
              rfl
            refine last_ (i := 13) (N := none) #[true, true, true, true, true, true, true, true, true, true, true, true, true, true] rfl rfl (one_of HT_.out (by kernel_rfl)) (by decide) (fun K hK => ?_)
            have hs45 : w43.cell? ⟨gb333, 1, none⟩ = some (.slice Ao32 t344.length co32) := (blk_cell BK333.out 1).trans rfl
            have hfs45 := blk_frozen BK333.out 1
            have hns45_0 := NB317_333.out
            have hms45_0 := NB333_317.out
            refine skip_ (w1 := ?_) (by rfl) rfl ?_ ?_
            rotate_left
            · go_simp
              rfl
            refine hK.out _ _ ?_
            clear hK K
            refine done_ (done_of HT_.out (by kernel_rfl)) ?_
            try go_wp2
            go_roundg k1
            case measure => have := HK1.out; omega
            case rel => exact ⟨(wrap64 (x7_1 + 1)), (x318003_1), (x318005_1), (x318006_1), (t341), (t357), (t347), (t350), (t351), (t354), (t355), (.slice Ao30 t341.length co30), (.slice Ao44 t357.length co44), (.slice Ao34 t347.length co34), (.slice Ao37 t351.length co37), (by first | rfl | (simp; done) | (simp [*]; done)), H', ⟨by have := HK1.out; omega⟩, ⟨by (with_reducible repeat (first | apply Kd.N_alloc | apply Kd.N_drewN | apply Kd.N_drew)); exact Kd.N_mono (Kd.N_far (p := ⟨gb333, 1, none⟩) (Kd.N_mono HO343.out (fun k_ hk => (⟨hk, hk.1.2.2.2.2.2⟩ : _ ∧ k_ ≠ gb333))) (fun _ hk => hk.2) (.slice Ao44 t357.length co44)) (fun _ hk => ⟨hk.1.1.1, ⟨hk.1.2, ⟨hk.1.1.2.2.1, ⟨hk.1.1.2.2.2.1, ⟨hk.1.1.2.2.2.2.1, hk.1.1.2.2.2.2.2⟩⟩⟩⟩⟩)⟩, ⟨by (with_reducible repeat (first | apply Kd.R_alloc | apply Kd.R_drewN | apply Kd.R_drew)); exact Kd.R_mono (Kd.R_far (p := ⟨gb333, 1, none⟩) (Kd.R_types HO359.out BK333.out (by decide)) (fun _ hk => hk.2) (.slice Ao44 t357.length co44)) (fun _ hk => hk.1.1.1)⟩, ⟨by (with_reducible repeat (first | apply Kd.R_alloc | apply Kd.R_drewN | apply Kd.R_drew)); exact Kd.R_mono (Kd.R_far (p := ⟨gb333, 1, none⟩) (Kd.R_types HO349.out BK333.out (by decide)) (fun _ hk => hk.2) (.slice Ao44 t357.length co44)) (fun _ hk => hk.1)⟩, ⟨by (with_reducible repeat (first | apply Kd.R_alloc | apply Kd.R_drewN | apply Kd.R_drew)); exact Kd.R_mono (Kd.R_far (p := ⟨gb333, 1, none⟩) (Kd.R_types HO353.out BK333.out (by decide)) (fun _ hk => hk.2) (.slice Ao44 t357.length co44)) (fun _ hk => hk.1)⟩, ⟨by (with_reducible repeat (first | refine blk_drewN ?_ _ | refine blk_drew ?_ | refine blk_alloc ?_ _)); refine blk_far ?_ NB317_333.out _; (with_reducible repeat (first | refine blk_drewN ?_ _ | refine blk_drew ?_ | refine blk_alloc ?_ _)); exact BK317.out⟩, ⟨by (with_reducible repeat (first | refine blk_drewN ?_ _ | refine blk_drew ?_ | refine blk_alloc ?_ _)); refine blk_put (cs := #[.slice Ao30 t341.length co30, .slice Ao32 t344.length co32, .slice Ao34 t347.length co34, .int .i64 t350, .slice Ao37 t351.length co37, .int .i64 t354, .bool t355]) ?_ 1 _ rfl; (with_reducible repeat (first | refine blk_drewN ?_ _ | refine blk_drew ?_ | refine blk_alloc ?_ _)); exact BK333.out⟩, ⟨by repeat (first | (with_reducible first | exact HB.out | apply below_alloc | apply pw_below_drewN | apply below_drew1 | refine below_set ?_ GE317.out | refine below_set ?_ GE333.out) | exact HB.out)⟩⟩
          · rw [if_neg c16] at H
            have c16b0 : (t335 == 0) = false := beq_eq_false_iff_ne.mpr c16
            have c16b1 : (t335 != 0) = true := bne_iff_ne.mpr c16
            simp only [Option.some.injEq, Prod.mk.injEq] at H
            obtain ⟨rfl, rfl, rfl, rfl, rfl, rfl, rfl, rfl⟩ := H
            try go_wp2
            have n0_ := Aside0.mk (Kd.N_drew HO_334000.out)
            have n1_ := Aside0.mk (Kd.R_drew HO_334001.out)
            have n2_ := Aside0.mk (Kd.R_drew HO_334002.out)
            have n3_ := Aside0.mk (Kd.R_drew HO_334004.out)
            have n4_ := Aside0.mk (blk_drew BK317.out)
            have n5_ := Aside0.mk (blk_drew BK333.out)
            have n6_ := Aside0.mk (below_drew1 HB.out)
            clear HO_334000
            clear HO_334001
            clear HO_334002
            clear HO_334004
            clear BK317
            clear BK333
            clear HB
            have HO_334000 := n0_
            have HO_334001 := n1_
            have HO_334002 := n2_
            have HO_334004 := n3_
            have BK317 := n4_
            have BK333 := n5_
            have HB := n6_
            clear n0_ n1_ n2_ n3_ n4_ n5_ n6_
            have p334 : 0 ≤ (x7_1 : Int) := of_decide_eq_true (by first | (with_reducible assumption) | assumption)
            have q334 : x7_1 < (l1.length : Int) := of_decide_eq_true (by first | (with_reducible assumption) | assumption)
            obtain ⟨ad334, A334_1, c334_1, e334, hx334_0, hx334_1, hl334_1, hi334_1⟩ := at_T40 HR1.out x7_1 p334 q334
            have hw334_1 := hx334_1
            have hw334_0 := hx334_0
            cases e334
            replace hx334_0 := (HB.out.cell (World.block_lt_of_cell? w _ hx334_0)).trans hx334_0
            replace hx334_1 := (HB.out.cell (World.block_lt_of_cell? w _ hx334_1)).trans hx334_1
            have HR334_1 := Aside0.mk hi334_1
            have HC334_1 := Aside0.mk hl334_1
            clear hi334_1 hl334_1
            replace p334 := eq_true p334
            replace q334 := eq_true q334
            obtain ⟨Ao47, co47, eo47⟩ := Kd.N_slice HO_334000.out
            (first | subst eo47 | (injection eo47 with f1_ f2_ f3_; have f4_ := f1_.symm; have f5_ := f3_.symm; clear f1_ f2_ f3_; subst f4_; subst f5_))
            obtain ⟨Ao48, co48, eo48⟩ := Kd.R_slice HO_334001.out
            (first | subst eo48 | (injection eo48 with f1_ f2_ f3_; have f4_ := f1_.symm; have f5_ := f3_.symm; clear f1_ f2_ f3_; subst f4_; subst f5_))
            obtain ⟨Ao49, co49, eo49⟩ := Kd.R_slice HO_334002.out
            (first | subst eo49 | (injection eo49 with f1_ f2_ f3_; have f4_ := f1_.symm; have f5_ := f3_.symm; clear f1_ f2_ f3_; subst f4_; subst f5_))
            obtain ⟨Ao50, co50, eo50⟩ := Kd.R_slice HO_334004.out
            (first | subst eo50 | (injection eo50 with f1_ f2_ f3_; have f4_ := f1_.symm; have f5_ := f3_.symm; clear f1_ f2_ f3_; subst f4_; subst f5_))
            refine start_ (n := 8) (S := fun w' => w'.cell? ⟨gb333, 0, none⟩ = some (.slice Ao47 x334000_1.length co47) ∧ w'.cell? ⟨gb333, 1, none⟩ = some (.slice Ao48 x334001_1.length co48) ∧ w'.cell? ⟨gb333, 2, none⟩ = some (.slice Ao49 x334002_1.length co49) ∧ w'.cell? ⟨gb333, 3, none⟩ = some (.int .i64 x334003_1) ∧ w'.cell? ⟨gb333, 4, none⟩ = some (.slice Ao50 x334004_1.length co50) ∧ w'.cell? ⟨gb333, 5, none⟩ = some (.int .i64 x334005_1) ∧ w'.cell? ⟨gb333, 6, none⟩ = some (.bool x334006_1) ∧ w'.cell? (ad334.add ((x7_1).toNat * 2)) = some (.string ((rd_T40 l1 x7_1).f0)) ∧ w'.cell? ⟨(ad334.add ((x7_1).toNat * 2)).block, (ad334.add ((x7_1).toNat * 2)).off + 1, none⟩ = some (.slice A334_1 ((rd_T40 l1 x7_1).f1).length c334_1)) (ds := []) #[false, false, false, false, false, false, false, false] (by kernel_rfl) rfl rfl ⟨(blk_cell BK333.out 0).trans rfl, (blk_cell BK333.out 1).trans rfl, (blk_cell BK333.out 2).trans rfl, (blk_cell BK333.out 3).trans rfl, (blk_cell BK333.out 4).trans rfl, (blk_cell BK333.out 5).trans rfl, (blk_cell BK333.out 6).trans rfl, ((HB.out.cell (World.block_lt_of_cell? w _ hw334_0)).trans hw334_0), ((HB.out.cell (World.block_lt_of_cell? w _ hw334_1)).trans hw334_1)⟩ (fun hHeld => ?_); refine with_tabW stoaref14_Load.tab5 stoaref14_Load.bits5 (fun HT_ HW_ => ?_)
            generalize wr.drew = w46 at HO_334000 HO_334001 HO_334002 HO_334004 BK317 BK333 HB HR334_1 hx334_0 hx334_1 hHeld ⊢
            refine pure_ (i := 1) (N := some 18) (v := ?_) (a' := ?_) #[false, true, false, false, false, false, false, false] rfl rfl (any_of HT_.out (by kernel_rfl)) (fun _ _ _ h => h) (Or.inl ⟨by rfl, ?_⟩) ?_ ?_
            rotate_left
            · intro w'
              go_simp
              with_reducible rfl
            rotate_left
            · simp only [Act.put, List.setIfInBounds_toArray, List.set_cons_zero, List.set_cons_succ, i64_w, i32_w]
              rfl
            refine pure_ (i := 2) (N := some 19) (v := ?_) (a' := ?_) #[false, true, true, false, false, false, false, false] rfl rfl (any_of HT_.out (by kernel_rfl)) (fun _ _ _ h => h) (Or.inl ⟨by rfl, ?_⟩) ?_ ?_
            rotate_left
            · intro w'
              go_simp
              with_reducible rfl
            rotate_left
            · simp only [Act.put, List.setIfInBounds_toArray, List.set_cons_zero, List.set_cons_succ, i64_w, i32_w]
              rfl
            refine pure_ (i := 3) (N := some 20) (v := ?_) (a' := ?_) #[false, true, true, true, false, false, false, false] rfl rfl (any_of HT_.out (by kernel_rfl)) (fun _ _ _ h => h) (Or.inl ⟨by rfl, ?_⟩) ?_ ?_
            rotate_left
            · intro w'
              go_simp
              with_reducible rfl
            rotate_left
            · simp only [Act.put, List.setIfInBounds_toArray, List.set_cons_zero, List.set_cons_succ, i64_w, i32_w]
              rfl
            refine pure_ (i := 4) (N := some 21) (v := ?_) (a' := ?_) #[false, true, true, true, true, false, false, false] rfl rfl (any_of HT_.out (by kernel_rfl)) (fun _ _ _ h => h) (Or.inl ⟨by rfl, ?_⟩) ?_ ?_
            rotate_left
            · intro w'
              go_simp
              with_reducible rfl
            rotate_left
            · simp only [Act.put, List.setIfInBounds_toArray, List.set_cons_zero, List.set_cons_succ, i64_w, i32_w]
              rfl
            refine take_ (i := 0) (N := some 17) (v := ?_) (a' := ?_) #[true, true, true, true, true, false, false, false] rfl rfl (take_ofW HT_.out HW_.out (by kernel_rfl)) (fun _ _ _ h => h) (Or.inl ⟨by rfl, ?_⟩) hHeld ?_ ?_
            rotate_left
            · rintro w' ⟨s0, s1, s2, s3, s4, s5, s6, s7, s8⟩
              go_simp
              with_reducible rfl
            rotate_left
            · simp only [Act.put, List.setIfInBounds_toArray, List.set_cons_zero, List.set_cons_succ, i64_w, i32_w]
              rfl
            refine take_ (i := 5) (N := some 22) (v := ?_) (a' := ?_) #[true, true, true, true, true, true, false, false] rfl rfl (take_ofW HT_.out HW_.out (by kernel_rfl)) (fun _ _ _ h => h) (Or.inl ⟨by rfl, ?_⟩) hHeld ?_ ?_
            rotate_left
            · rintro w' ⟨s0, s1, s2, s3, s4, s5, s6, s7, s8⟩
              go_simp
              with_reducible rfl
            rotate_left
            · simp only [Act.put, List.setIfInBounds_toArray, List.set_cons_zero, List.set_cons_succ, i64_w, i32_w]
              rfl
            refine one_ (i := 6) (N := some 23) #[true, true, true, true, true, true, true, false] rfl rfl (one_of HT_.out (by kernel_rfl)) (by decide) (fun K hK => ?_)
            refine goes_ Tryz.func41 (by kernel_rfl) rfl #[.agg #[.slice Ao47 x334000_1.length co47, .slice Ao48 x334001_1.length co48, .slice Ao49 x334002_1.length co49, .int .i64 x334003_1, .slice Ao50 x334004_1.length co50, .int .i64 x334005_1, .bool x334006_1], .string ((rd_T40 l1 x7_1).f0)] (by rfl) rfl rfl (by (try simp only [List.map_toArray, List.map_cons, List.map_nil]); first | done | rfl | (simp only [List.length_drop, List.length_take]; rfl)) ?_
            with_reducible refine (stoaref14_refuse.calls k1 _ _ x334000_1 _ _ x334001_1 _ _ x334002_1 x334003_1 _ _ x334004_1 x334005_1 x334006_1 ((rd_T40 l1 x7_1).f0) t335 _ ?side1 ?side2 ?side3 ?side4 ?side5 ?side6 ?side7 ?side8 A15.out).mono ?_
            (case side1 => repeat (first | exact (Kd.N_reads' HO_334000.out).2.2 | (with_reducible refine Kd.C_alloc ?_ _) | (with_reducible refine Kd.C_drewN ?_ _) | (with_reducible refine Kd.C_drew ?_)))
            (case side2 => exact (Kd.N_reads' HO_334000.out).2.1)
            (case side3 => repeat (first | exact (Kd.R_reads' HO_334001.out).2.2 | (with_reducible refine Kd.C_alloc ?_ _) | (with_reducible refine Kd.C_drewN ?_ _) | (with_reducible refine Kd.C_drew ?_)))
            (case side4 => exact (Kd.R_reads' HO_334001.out).2.1)
            (case side5 => repeat (first | exact (Kd.R_reads' HO_334002.out).2.2 | (with_reducible refine Kd.C_alloc ?_ _) | (with_reducible refine Kd.C_drewN ?_ _) | (with_reducible refine Kd.C_drew ?_)))
            (case side6 => exact (Kd.R_reads' HO_334002.out).2.1)
            (case side7 => repeat (first | exact (Kd.R_reads' HO_334004.out).2.2 | (with_reducible refine Kd.C_alloc ?_ _) | (with_reducible refine Kd.C_drewN ?_ _) | (with_reducible refine Kd.C_drew ?_)))
            (case side8 => exact (Kd.R_reads' HO_334004.out).2.1)
            rintro e w51 ⟨rfl, hb⟩
            refine ⟨_, rfl, ?_⟩
            have n0_ := Aside0.mk (Kd.N_below (by (with_reducible repeat (first | apply Kd.N_alloc | apply Kd.N_drewN | apply Kd.N_drew)); exact HO_334000.out) hb)
            have n1_ := Aside0.mk (Kd.R_below (by (with_reducible repeat (first | apply Kd.R_alloc | apply Kd.R_drewN | apply Kd.R_drew)); exact HO_334001.out) hb)
            have n2_ := Aside0.mk (Kd.R_below (by (with_reducible repeat (first | apply Kd.R_alloc | apply Kd.R_drewN | apply Kd.R_drew)); exact HO_334002.out) hb)
            have n3_ := Aside0.mk (Kd.R_below (by (with_reducible repeat (first | apply Kd.R_alloc | apply Kd.R_drewN | apply Kd.R_drew)); exact HO_334004.out) hb)
            have n4_ := Aside0.mk (blk_below (g := gb317) (o := .cells #[.slice none 0 0, .slice none 0 0, .slice none 0 0, .int .i64 x318003_1, .slice none 0 0, .int .i64 x318005_1, .bool x318006_1] 35 (0, 0)) (by (with_reducible repeat (first | refine blk_drewN ?_ _ | refine blk_drew ?_ | refine blk_alloc ?_ _)); exact BK317.out) hb)
            have n5_ := Aside0.mk (blk_below (g := gb333) (o := .cells #[.slice Ao47 x334000_1.length co47, .slice Ao48 x334001_1.length co48, .slice Ao49 x334002_1.length co49, .int .i64 x334003_1, .slice Ao50 x334004_1.length co50, .int .i64 x334005_1, .bool x334006_1] 35 (0, 0)) (by (with_reducible repeat (first | refine blk_drewN ?_ _ | refine blk_drew ?_ | refine blk_alloc ?_ _)); exact BK333.out) hb)
            have n6_ := Aside0.mk (below_step (by repeat (first | (with_reducible first | exact HB.out | apply below_alloc | apply pw_below_drewN | apply below_drew1 | refine below_set ?_ GE317.out | refine below_set ?_ GE333.out) | exact HB.out)) hb)
            clear HO_334000
            clear HO_334001
            clear HO_334002
            clear HO_334004
            clear BK317
            clear BK333
            clear HB
            have HO_334000 := n0_
            have HO_334001 := n1_
            have HO_334002 := n2_
            have HO_334004 := n3_
            have BK317 := n4_
            have BK333 := n5_
            have HB := n6_
            clear n0_ n1_ n2_ n3_ n4_ n5_ n6_
            (try clear hb)
            (try clear hb2)
            (try clear hk)
            (try clear hi)
            refine hK.out _ _ ⟨(blk_cell BK333.out 0).trans rfl, (blk_cell BK333.out 1).trans rfl, (blk_cell BK333.out 2).trans rfl, (blk_cell BK333.out 3).trans rfl, (blk_cell BK333.out 4).trans rfl, (blk_cell BK333.out 5).trans rfl, (blk_cell BK333.out 6).trans rfl, ((HB.out.cell (World.block_lt_of_cell? w _ hw334_0)).trans hw334_0), ((HB.out.cell (World.block_lt_of_cell? w _ hw334_1)).trans hw334_1)⟩ (fun hHeld => ?_)
            clear hK K
            refine norm_ (a' := ?_) ?_ ?_
            rotate_left
            · show Act.put _ (some 23) _ = _
              simp only [Act.put, List.setIfInBounds_toArray, List.set_cons_zero, List.set_cons_succ, i64_w, i32_w]
              rfl
            refine pure_ (i := 7) (N := some 8) (v := ?_) (a' := ?_) #[true, true, true, true, true, true, true, true] rfl rfl (any_of HT_.out (by kernel_rfl)) (fun _ _ _ h => h) (Or.inl ⟨by rfl, ?_⟩) ?_ ?_
            rotate_left
            · intro w'
              go_simp
              with_reducible rfl
            rotate_left
            · simp only [Act.put, List.setIfInBounds_toArray, List.set_cons_zero, List.set_cons_succ, i64_w, i32_w]
              rfl
            refine done_ (done_of HT_.out (by kernel_rfl)) ?_
            have hnb52 := NB317_333.out
            have hnc52 := NB333_317.out
            have hcz53_0 : w51.cell? ⟨gb317, 0, none⟩ = some (.slice none 0 0) := (blk_cell BK317.out 0).trans rfl
            have hcz53_1 : w51.cell? ⟨gb317, 1, none⟩ = some (.slice none 0 0) := (blk_cell BK317.out 1).trans rfl
            have hcz53_2 : w51.cell? ⟨gb317, 2, none⟩ = some (.slice none 0 0) := (blk_cell BK317.out 2).trans rfl
            have hcz53_3 : w51.cell? ⟨gb317, 3, none⟩ = some (.int .i64 x318003_1) := (blk_cell BK317.out 3).trans rfl
            have hcz53_4 : w51.cell? ⟨gb317, 4, none⟩ = some (.slice none 0 0) := (blk_cell BK317.out 4).trans rfl
            have hcz53_5 : w51.cell? ⟨gb317, 5, none⟩ = some (.int .i64 x318005_1) := (blk_cell BK317.out 5).trans rfl
            have hcz53_6 : w51.cell? ⟨gb317, 6, none⟩ = some (.bool x318006_1) := (blk_cell BK317.out 6).trans rfl
            have hfz53_0 := blk_frozen BK317.out 0
            have hfz53_1 := blk_frozen BK317.out 1
            have hfz53_2 := blk_frozen BK317.out 2
            have hfz53_3 := blk_frozen BK317.out 3
            have hfz53_4 := blk_frozen BK317.out 4
            have hfz53_5 := blk_frozen BK317.out 5
            have hfz53_6 := blk_frozen BK317.out 6
            try go_wp2
            refine bodyPost_ret (results_ct rfl _ _ gb317 35 #[.slice none 0 0, .slice none 0 0, .slice none 0 0, .int .i64 0, .slice none 0 0, .int .i64 0, .bool false] (0, 0) _ rfl (by (with_reducible repeat (first | refine blk_drewN ?_ _ | refine blk_drew ?_ | refine blk_alloc ?_ _)); refine blk_put (cs := #[.slice none 0 0, .slice none 0 0, .slice none 0 0, .int .i64 0, .slice none 0 0, .int .i64 0, .bool x318006_1]) ?_ 6 _ rfl; (with_reducible repeat (first | refine blk_drewN ?_ _ | refine blk_drew ?_ | refine blk_alloc ?_ _)); refine blk_put (cs := #[.slice none 0 0, .slice none 0 0, .slice none 0 0, .int .i64 0, .slice none 0 0, .int .i64 x318005_1, .bool x318006_1]) ?_ 5 _ rfl; (with_reducible repeat (first | refine blk_drewN ?_ _ | refine blk_drew ?_ | refine blk_alloc ?_ _)); refine blk_put (cs := #[.slice none 0 0, .slice none 0 0, .slice none 0 0, .int .i64 0, .slice none 0 0, .int .i64 x318005_1, .bool x318006_1]) ?_ 4 _ rfl; (with_reducible repeat (first | refine blk_drewN ?_ _ | refine blk_drew ?_ | refine blk_alloc ?_ _)); refine blk_put (cs := #[.slice none 0 0, .slice none 0 0, .slice none 0 0, .int .i64 x318003_1, .slice none 0 0, .int .i64 x318005_1, .bool x318006_1]) ?_ 3 _ rfl; (with_reducible repeat (first | refine blk_drewN ?_ _ | refine blk_drew ?_ | refine blk_alloc ?_ _)); refine blk_put (cs := #[.slice none 0 0, .slice none 0 0, .slice none 0 0, .int .i64 x318003_1, .slice none 0 0, .int .i64 x318005_1, .bool x318006_1]) ?_ 2 _ rfl; (with_reducible repeat (first | refine blk_drewN ?_ _ | refine blk_drew ?_ | refine blk_alloc ?_ _)); refine blk_put (cs := #[.slice none 0 0, .slice none 0 0, .slice none 0 0, .int .i64 x318003_1, .slice none 0 0, .int .i64 x318005_1, .bool x318006_1]) ?_ 1 _ rfl; (with_reducible repeat (first | refine blk_drewN ?_ _ | refine blk_drew ?_ | refine blk_alloc ?_ _)); refine blk_put (cs := #[.slice none 0 0, .slice none 0 0, .slice none 0 0, .int .i64 x318003_1, .slice none 0 0, .int .i64 x318005_1, .bool x318006_1]) ?_ 0 _ rfl; (with_reducible repeat (first | refine blk_drewN ?_ _ | refine blk_drew ?_ | refine blk_alloc ?_ _)); exact BK317.out) Tryz.underlying35 rfl (by kernel_rfl)) rfl ?_
            exact ⟨_, _, _, _, by first | rfl | (simp [errW_none, errW_some] <;> rfl) | (simp [*, errW_none, errW_some] <;> rfl), by first | exact Kd.S_nil _ _ _ _ _ | exact Kd.N_nil _ _ _ _ _ | exact Kd.V_nil _ _ _ _ _ | exact Kd.Q_nil _ _ _ _ _ | exact Kd.R_nil _ _ _ _ _, by first | exact Kd.R_nil _ _ _ _ _ | exact Kd.N_nil _ _ _ _ _ | exact Kd.V_nil _ _ _ _ _ | exact Kd.Q_nil _ _ _ _ _ | exact Kd.S_nil _ _ _ _ _, by first | exact Kd.R_nil _ _ _ _ _ | exact Kd.N_nil _ _ _ _ _ | exact Kd.V_nil _ _ _ _ _ | exact Kd.Q_nil _ _ _ _ _ | exact Kd.S_nil _ _ _ _ _, by first | exact Kd.R_nil _ _ _ _ _ | exact Kd.N_nil _ _ _ _ _ | exact Kd.V_nil _ _ _ _ _ | exact Kd.Q_nil _ _ _ _ _ | exact Kd.S_nil _ _ _ _ _, by repeat (first | (with_reducible first | exact HB.out | apply below_alloc | apply pw_below_drewN | apply below_drew1 | refine below_set ?_ GE317.out | refine below_set ?_ GE333.out) | exact HB.out)⟩
        · rw [if_neg c14] at H
          exact absurd H (by simp)
      · rw [if_neg c13] at H
        have c13b0 : decide (x7_1 < (l1.length : Int)) = false := decide_eq_false c13
        clear c13
        simp only [Option.some.injEq, Prod.mk.injEq] at H
        obtain ⟨rfl, rfl, rfl, rfl, rfl, rfl, rfl, rfl⟩ := H
        have hnb54 := NB333_317.out
        have hnc54 := NB317_333.out
        have hcz55_0 : wr.cell? ⟨gb333, 0, none⟩ = some (u334000) := (blk_cell BK333.out 0).trans rfl
        have hcz55_1 : wr.cell? ⟨gb333, 1, none⟩ = some (u334001) := (blk_cell BK333.out 1).trans rfl
        have hcz55_2 : wr.cell? ⟨gb333, 2, none⟩ = some (u334002) := (blk_cell BK333.out 2).trans rfl
        have hcz55_3 : wr.cell? ⟨gb333, 3, none⟩ = some (.int .i64 x334003_1) := (blk_cell BK333.out 3).trans rfl
        have hcz55_4 : wr.cell? ⟨gb333, 4, none⟩ = some (u334004) := (blk_cell BK333.out 4).trans rfl
        have hcz55_5 : wr.cell? ⟨gb333, 5, none⟩ = some (.int .i64 x334005_1) := (blk_cell BK333.out 5).trans rfl
        have hcz55_6 : wr.cell? ⟨gb333, 6, none⟩ = some (.bool x334006_1) := (blk_cell BK333.out 6).trans rfl
        have hfz55_0 := blk_frozen BK333.out 0
        have hfz55_1 := blk_frozen BK333.out 1
        have hfz55_2 := blk_frozen BK333.out 2
        have hfz55_3 := blk_frozen BK333.out 3
        have hfz55_4 := blk_frozen BK333.out 4
        have hfz55_5 := blk_frozen BK333.out 5
        have hfz55_6 := blk_frozen BK333.out 6
        obtain ⟨Ao56, co56, eo56⟩ := Kd.N_slice HO_334000.out
        subst eo56
        have hcz57_0 : wr.cell? ⟨gb317, 0, none⟩ = some (.slice none 0 0) := (blk_cell BK317.out 0).trans rfl
        have hcz57_1 : wr.cell? ⟨gb317, 1, none⟩ = some (.slice none 0 0) := (blk_cell BK317.out 1).trans rfl
        have hcz57_2 : wr.cell? ⟨gb317, 2, none⟩ = some (.slice none 0 0) := (blk_cell BK317.out 2).trans rfl
        have hcz57_3 : wr.cell? ⟨gb317, 3, none⟩ = some (.int .i64 x318003_1) := (blk_cell BK317.out 3).trans rfl
        have hcz57_4 : wr.cell? ⟨gb317, 4, none⟩ = some (.slice none 0 0) := (blk_cell BK317.out 4).trans rfl
        have hcz57_5 : wr.cell? ⟨gb317, 5, none⟩ = some (.int .i64 x318005_1) := (blk_cell BK317.out 5).trans rfl
        have hcz57_6 : wr.cell? ⟨gb317, 6, none⟩ = some (.bool x318006_1) := (blk_cell BK317.out 6).trans rfl
        have hfz57_0 := blk_frozen BK317.out 0
        have hfz57_1 := blk_frozen BK317.out 1
        have hfz57_2 := blk_frozen BK317.out 2
        have hfz57_3 := blk_frozen BK317.out 3
        have hfz57_4 := blk_frozen BK317.out 4
        have hfz57_5 := blk_frozen BK317.out 5
        have hfz57_6 := blk_frozen BK317.out 6
        obtain ⟨Ao58, co58, eo58⟩ := Kd.R_slice HO_334001.out
        subst eo58
        obtain ⟨Ao59, co59, eo59⟩ := Kd.R_slice HO_334002.out
        subst eo59
        obtain ⟨Ao60, co60, eo60⟩ := Kd.R_slice HO_334004.out
        subst eo60
        go_wp2
        refine bodyPost_ret (results_ct rfl _ _ gb317 35 #[.slice Ao56 x334000_1.length co56, .slice Ao58 x334001_1.length co58, .slice Ao59 x334002_1.length co59, .int .i64 x334003_1, .slice Ao60 x334004_1.length co60, .int .i64 x334005_1, .bool x334006_1] (0, 0) _ rfl (by (with_reducible repeat (first | refine blk_drewN ?_ _ | refine blk_drew ?_ | refine blk_alloc ?_ _)); refine blk_put (cs := #[.slice Ao56 x334000_1.length co56, .slice Ao58 x334001_1.length co58, .slice Ao59 x334002_1.length co59, .int .i64 x334003_1, .slice Ao60 x334004_1.length co60, .int .i64 x334005_1, .bool x318006_1]) ?_ 6 _ rfl; (with_reducible repeat (first | refine blk_drewN ?_ _ | refine blk_drew ?_ | refine blk_alloc ?_ _)); refine blk_put (cs := #[.slice Ao56 x334000_1.length co56, .slice Ao58 x334001_1.length co58, .slice Ao59 x334002_1.length co59, .int .i64 x334003_1, .slice Ao60 x334004_1.length co60, .int .i64 x318005_1, .bool x318006_1]) ?_ 5 _ rfl; (with_reducible repeat (first | refine blk_drewN ?_ _ | refine blk_drew ?_ | refine blk_alloc ?_ _)); refine blk_put (cs := #[.slice Ao56 x334000_1.length co56, .slice Ao58 x334001_1.length co58, .slice Ao59 x334002_1.length co59, .int .i64 x334003_1, .slice none 0 0, .int .i64 x318005_1, .bool x318006_1]) ?_ 4 _ rfl; (with_reducible repeat (first | refine blk_drewN ?_ _ | refine blk_drew ?_ | refine blk_alloc ?_ _)); refine blk_put (cs := #[.slice Ao56 x334000_1.length co56, .slice Ao58 x334001_1.length co58, .slice Ao59 x334002_1.length co59, .int .i64 x318003_1, .slice none 0 0, .int .i64 x318005_1, .bool x318006_1]) ?_ 3 _ rfl; (with_reducible repeat (first | refine blk_drewN ?_ _ | refine blk_drew ?_ | refine blk_alloc ?_ _)); refine blk_put (cs := #[.slice Ao56 x334000_1.length co56, .slice Ao58 x334001_1.length co58, .slice none 0 0, .int .i64 x318003_1, .slice none 0 0, .int .i64 x318005_1, .bool x318006_1]) ?_ 2 _ rfl; (with_reducible repeat (first | refine blk_drewN ?_ _ | refine blk_drew ?_ | refine blk_alloc ?_ _)); refine blk_put (cs := #[.slice Ao56 x334000_1.length co56, .slice none 0 0, .slice none 0 0, .int .i64 x318003_1, .slice none 0 0, .int .i64 x318005_1, .bool x318006_1]) ?_ 1 _ rfl; (with_reducible repeat (first | refine blk_drewN ?_ _ | refine blk_drew ?_ | refine blk_alloc ?_ _)); refine blk_put (cs := #[.slice none 0 0, .slice none 0 0, .slice none 0 0, .int .i64 x318003_1, .slice none 0 0, .int .i64 x318005_1, .bool x318006_1]) ?_ 0 _ rfl; (with_reducible repeat (first | refine blk_drewN ?_ _ | refine blk_drew ?_ | refine blk_alloc ?_ _)); exact BK317.out) Tryz.underlying35 rfl (by kernel_rfl)) rfl ?_
        exact ⟨_, _, _, _, by first | rfl | (simp [errW_none, errW_some] <;> rfl) | (simp [*, errW_none, errW_some] <;> rfl), by (with_reducible repeat (first | apply Kd.N_alloc | apply Kd.N_drewN | apply Kd.N_drew)); exact Kd.N_mono (Kd.N_far (p := ⟨gb317, 6, none⟩) (Kd.N_far (p := ⟨gb317, 5, none⟩) (Kd.N_far (p := ⟨gb317, 4, none⟩) (Kd.N_far (p := ⟨gb317, 3, none⟩) (Kd.N_far (p := ⟨gb317, 2, none⟩) (Kd.N_far (p := ⟨gb317, 1, none⟩) (Kd.N_far (p := ⟨gb317, 0, none⟩) (Kd.N_mono HO_334000.out (fun k_ hk => (⟨hk, hk.2.2.2.2.1⟩ : _ ∧ k_ ≠ gb317))) (fun _ hk => hk.2) (.slice Ao56 x334000_1.length co56)) (fun _ hk => hk.2) (.slice Ao58 x334001_1.length co58)) (fun _ hk => hk.2) (.slice Ao59 x334002_1.length co59)) (fun _ hk => hk.2) (.int .i64 x334003_1)) (fun _ hk => hk.2) (.slice Ao60 x334004_1.length co60)) (fun _ hk => hk.2) (.int .i64 x334005_1)) (fun _ hk => hk.2) (.bool x334006_1)) (fun _ hk => ⟨hk.1.1, ⟨hk.1.2.1, ⟨hk.1.2.2.1, hk.1.2.2.2.1⟩⟩⟩), by (with_reducible repeat (first | apply Kd.R_alloc | apply Kd.R_drewN | apply Kd.R_drew)); exact Kd.R_mono (Kd.R_far (p := ⟨gb317, 6, none⟩) (Kd.R_far (p := ⟨gb317, 5, none⟩) (Kd.R_far (p := ⟨gb317, 4, none⟩) (Kd.R_far (p := ⟨gb317, 3, none⟩) (Kd.R_far (p := ⟨gb317, 2, none⟩) (Kd.R_far (p := ⟨gb317, 1, none⟩) (Kd.R_far (p := ⟨gb317, 0, none⟩) (Kd.R_types HO_334001.out BK317.out (by decide)) (fun _ hk => hk.2) (.slice Ao56 x334000_1.length co56)) (fun _ hk => hk.2) (.slice Ao58 x334001_1.length co58)) (fun _ hk => hk.2) (.slice Ao59 x334002_1.length co59)) (fun _ hk => hk.2) (.int .i64 x334003_1)) (fun _ hk => hk.2) (.slice Ao60 x334004_1.length co60)) (fun _ hk => hk.2) (.int .i64 x334005_1)) (fun _ hk => hk.2) (.bool x334006_1)) (fun _ hk => hk.1), by (with_reducible repeat (first | apply Kd.R_alloc | apply Kd.R_drewN | apply Kd.R_drew)); exact Kd.R_mono (Kd.R_far (p := ⟨gb317, 6, none⟩) (Kd.R_far (p := ⟨gb317, 5, none⟩) (Kd.R_far (p := ⟨gb317, 4, none⟩) (Kd.R_far (p := ⟨gb317, 3, none⟩) (Kd.R_far (p := ⟨gb317, 2, none⟩) (Kd.R_far (p := ⟨gb317, 1, none⟩) (Kd.R_far (p := ⟨gb317, 0, none⟩) (Kd.R_types HO_334002.out BK317.out (by decide)) (fun _ hk => hk.2) (.slice Ao56 x334000_1.length co56)) (fun _ hk => hk.2) (.slice Ao58 x334001_1.length co58)) (fun _ hk => hk.2) (.slice Ao59 x334002_1.length co59)) (fun _ hk => hk.2) (.int .i64 x334003_1)) (fun _ hk => hk.2) (.slice Ao60 x334004_1.length co60)) (fun _ hk => hk.2) (.int .i64 x334005_1)) (fun _ hk => hk.2) (.bool x334006_1)) (fun _ hk => hk.1), by (with_reducible repeat (first | apply Kd.R_alloc | apply Kd.R_drewN | apply Kd.R_drew)); exact Kd.R_mono (Kd.R_far (p := ⟨gb317, 6, none⟩) (Kd.R_far (p := ⟨gb317, 5, none⟩) (Kd.R_far (p := ⟨gb317, 4, none⟩) (Kd.R_far (p := ⟨gb317, 3, none⟩) (Kd.R_far (p := ⟨gb317, 2, none⟩) (Kd.R_far (p := ⟨gb317, 1, none⟩) (Kd.R_far (p := ⟨gb317, 0, none⟩) (Kd.R_types HO_334004.out BK317.out (by decide)) (fun _ hk => hk.2) (.slice Ao56 x334000_1.length co56)) (fun _ hk => hk.2) (.slice Ao58 x334001_1.length co58)) (fun _ hk => hk.2) (.slice Ao59 x334002_1.length co59)) (fun _ hk => hk.2) (.int .i64 x334003_1)) (fun _ hk => hk.2) (.slice Ao60 x334004_1.length co60)) (fun _ hk => hk.2) (.int .i64 x334005_1)) (fun _ hk => hk.2) (.bool x334006_1)) (fun _ hk => hk.1), by repeat (first | (with_reducible first | exact HB.out | apply below_alloc | apply pw_below_drewN | apply below_drew1 | refine below_set ?_ GE317.out | refine below_set ?_ GE333.out) | exact HB.out)⟩

end Go.Proofs.YtgcpiofpjogjcaaGreatDoor.PK
end
