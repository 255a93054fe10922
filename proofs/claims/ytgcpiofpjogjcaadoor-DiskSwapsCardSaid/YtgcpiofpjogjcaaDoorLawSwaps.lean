/-
  DiskSwaps: for all bytes, fates and numbers the law returns true, and each argument reads as it did. The row lists two tables of Go's library, which the call does not read; the card ties them to the program's text.
-/
import Derived.Test.YtgcpiofpjogjcaaDoorRows
import Derived.Test.YtgcpiofpjogjcaaDoorCards
import Derived.Test.YtgcpiofpjogjcaaDoorTie
import Derived.Test.YtgcpiofpjogjcaaDoorQ7
import Derived.ChangeOld
import Derived.Carry
import Derived.ProofKit
import Derived.OpenShut
import Derived.LaidMore
import Derived.Lay
import Derived.SevenTiedAt
import Derived.Stop.Joined
namespace Go.Proofs.YtgcpiofpjogjcaaDoor
open Go.ChangeShapes Go.WideShapes Go.ChangeAt Go.RowKit Go.Proofs.YtgcpiofpjogjcaaDoorW.PrintWords PK

namespace Swaps
theorem own : ownKnob Tryd.prog.godebug = none := by kernel_rfl
theorem laidOut : laidOutB Tryd.prog = true := by kernel_rfl

set_option maxRecDepth 100000 in
theorem lifted (os : Os) (started : os.Started) (H : Type) (enc : TypeId × Value → H) :
    ReturnsInHanded {} Tryd.checked os 4 .any (fun w args => (Rows.diskSwapsSpec.pre enc Tryd.prog Tryd.f4 Rows.diskSwapsRow.domain false w args ∧ laidMetH Tryd.prog Rows.diskSwapsRow.laid w) ∧ sizedMet enc Tryd.prog Tryd.f4 (OpenSpec.ofChange Rows.diskSwapsSpec) false w args)
      (Rows.diskSwapsSpec.post enc Tryd.prog Tryd.f4 false true false false) := by
  refine returnsInHanded_of_change_and (C := Tryd.checked) (X := fun w _ => laidMetH Tryd.prog Rows.diskSwapsRow.laid w) (fun _ _ _ hh h => h.of_heap hh) own started (by kernel_rfl) Tryd.func4
    (ChangeSpec.witness_shaped (enc := enc) (C := Tryd.checked) (os := os) (X := fun w _ => laidMetH Tryd.prog Rows.diskSwapsRow.laid w) false (World.laidAll Tryd.prog os Rows.diskSwapsRow.laid) #[.slice none 0 0, .slice none 0 0, .slice none 0 0, .slice none 0 0] 8 (World.laidAll_os _ _ _)
      (World.shaped_of_ZipB (by kernel_rfl) (by kernel_rfl)) (by kernel_rfl) (by kernel_rfl) (by kernel_rfl)
      (by rw [MakeChecks.laidMetH_plain _ _ _ (by kernel_rfl)]; exact laidMet_laidAll _ (by kernel_rfl) (by kernel_rfl))) ?_
  intro W base args ds gs before hval0 hW hcnd hsz0 hL _
  have hsz : (DataW.weightsEach Tryd.prog (Tryd.f4.params.toList ++ Rows.diskSwapsSpec.plain.varTypes Tryd.prog) (ds ++ gs)).all (· ≤ reachBytes) = true := hsz0
  have hval : ∀ (j : Nat) t v, Tryd.f4.params[j]? = some t → args[j]? = some v → Value.okWide Tryd.prog W .any base t v := hval0
  have hW' := hW
  obtain ⟨p, q, hA0, hV, rfl, hfz, hnd⟩ := hW
  have hA : DataW.TrodAll enc Tryd.prog W 0 (fun _ => true) true Tryd.f4.params.toList args.toList ds p := hA0
  rw [Tryd.params4] at hA hval hsz
  obtain ⟨v0, v1, v2, v3, d0, d1, d2, d3, p0, p1, p2, p3, rfl, rfl, rfl, h0, h1, h2, h3⟩ := trodAll_four hA
  obtain ⟨rfl, rfl⟩ := trodVars_none hV
  obtain ⟨a0, len0, cap0, rfl⟩ := okWide_slice Tryd.underlying22 (hval 0 22 v0 rfl rfl)
  obtain ⟨a1, len1, cap1, rfl⟩ := okWide_slice Tryd.underlying22 (hval 1 22 v1 rfl rfl)
  obtain ⟨a2, len2, cap2, rfl⟩ := okWide_slice Tryd.underlying43 (hval 2 43 v2 rfl rfl)
  obtain ⟨a3, len3, cap3, rfl⟩ := okWide_slice Tryd.underlying24 (hval 3 24 v3 rfl rfl)
  have k0 := h0; have k1 := h1; have k2 := h2; have k3 := h3
  have lt0 : ∀ x ∈ p0, x.block < W.heap.size := by obtain ⟨m, hm⟩ := k0; exact DataW.trod_lt m _ _ _ hm
  have lt1 : ∀ x ∈ p1, x.block < W.heap.size := by obtain ⟨m, hm⟩ := k1; exact DataW.trod_lt m _ _ _ hm
  have lt2 : ∀ x ∈ p2, x.block < W.heap.size := by obtain ⟨m, hm⟩ := k2; exact DataW.trod_lt m _ _ _ hm
  have lt3 : ∀ x ∈ p3, x.block < W.heap.size := by obtain ⟨m, hm⟩ := k3; exact DataW.trod_lt m _ _ _ hm
  obtain ⟨xs, hK0, hB0, hL0⟩ := open_var opens_bytes hsz (j := 0) rfl rfl h0
  obtain ⟨rfl, c0, C0⟩ := slice_cells hK0
  obtain ⟨ys, hK1, hB1, hL1⟩ := open_var opens_bytes hsz (j := 1) rfl rfl h1
  obtain ⟨rfl, c1, C1⟩ := slice_cells hK1
  obtain ⟨fs, hK2, hF, hN⟩ := open_var opens_fates hsz (j := 2) rfl rfl h2
  obtain ⟨rfl, c2, C2⟩ := slice_cells hK2
  obtain ⟨ks, hK3, _, _⟩ := open_var opens_ints hsz (j := 3) rfl rfl h3
  obtain ⟨rfl, c3, C3⟩ := slice_cells hK3
  clear hA0 hval0 hsz0 hsz
  have hsw := diskSwaps_any a0 a1 a2 a3 cap0 cap1 cap2 cap3 xs ys (fs.map toFat) ks W C0 c0 hB0 (by omega) C1 c1 hB1 (by rw [List.length_map]; exact fatC_of C2) (by rw [List.length_map]; omega) (fun c hc => by obtain ⟨p, hp, rfl⟩ := List.mem_map.1 hc; exact hF p hp) C3 c3
  rw [List.length_map] at hsw
  refine hsw.mono fun e W' ⟨he, bel⟩ => ?_
  subst he
  exact ⟨_, rfl, _, _, _, [], _, [], hW', trodAll_mk1 (shut_bool Tryd.underlying4 _), trodAll_mk4 (Below.trod laidOut (by kernel_rfl) (of_decide_eq_true (by kernel_rfl)) k0 bel lt0) (Below.trod laidOut (by kernel_rfl) (of_decide_eq_true (by kernel_rfl)) k1 bel lt1) (Below.trod laidOut (by kernel_rfl) (of_decide_eq_true (by kernel_rfl)) k2 bel lt2) (Below.trod laidOut (by kernel_rfl) (of_decide_eq_true (by kernel_rfl)) k3 bel lt3), rfl, bel.frame _, fun h => by cases h⟩
end Swaps

theorem diskSwaps_row : Rows.DiskSwapsSaid :=
  OpenClaim.holds_of_wide 4 Tryd.f4 rfl rfl rfl rfl rfl rfl rfl ⟨rfl, rfl, rfl, rfl, rfl⟩ rfl rfl rfl rfl rfl (by kernel_rfl) Tryd.func4 (by kernel_rfl)
    (of_decide_eq_true (by kernel_rfl)) (by unfold Func.isWrapper; first | (rw [if_pos (by decide +kernel)]; kernel_rfl) | (rw [if_neg (by decide +kernel)]; exact ⟨rfl, rfl⟩))
    (fun os started H enc _ => Swaps.lifted os started H enc)

theorem diskSwaps_holds : Rows.DiskSwapsCardSaid :=
  Claim7.holds_tied_plain_at .later [] [.data, .pinned] true (Rows.diskSwapsCard.stood.harness) true
    diskSwaps_row (fun _ h => by cases h) (by kernel_rfl) (fun _ h => by cases h) diskSwaps_row_tie rfl ⟨rfl, rfl⟩ (by kernel_rfl) rfl
    (fun f fn hf hfn => by
      obtain rfl : f = 4 := Option.some.inj ((show Tryd.prog.funcNamed "stoa/stoalaw14.DiskSwaps" = some 4 by kernel_rfl).symm.trans hf) |>.symm
      obtain rfl : fn = Tryd.f4 := (Option.some.inj (Tryd.func4.symm.trans hfn)).symm
      exact ⟨by kernel_rfl, fun j t ht => by
        rw [Tryd.params4] at ht
        have hm : t ∈ [22, 22, 43, 24] := by simpa using Array.mem_of_getElem? ht
        have hall : ([22, 22, 43, 24].all fun u => !Tryd.prog.wantsStandIn u) = true := by kernel_rfl
        exact (show Tryd.prog.wantsStandIn t = false by simpa using List.all_eq_true.1 hall t hm)⟩)
    (by kernel_rfl)
#print axioms diskSwaps_holds
end Go.Proofs.YtgcpiofpjogjcaaDoor
