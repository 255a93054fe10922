/-
  DiskMemory: for all files, names and bytes the law returns true, and each argument reads as it did. The row lists two tables of Go's library, which the call does not read; the card ties them to the program's text.
-/
import Derived.Test.YtgcpiofpjogjcaaGreatDoorRows
import Derived.Test.YtgcpiofpjogjcaaGreatDoorCards
import Derived.Test.YtgcpiofpjogjcaaGreatDoorTie
import Derived.Test.YtgcpiofpjogjcaaGreatDoorQ19
import Derived.ChangeOld
import Derived.Carry
import Derived.ProofKit
import Derived.OpenShut
import Derived.LaidMore
import Derived.Lay
import Derived.SevenTiedAt
import Derived.Stop.Joined
namespace Go.Proofs.YtgcpiofpjogjcaaGreatDoor
open Go.ChangeShapes Go.WideShapes Go.ChangeAt Go.RowKit Go.Proofs.YtgcpiofpjogjcaaGreatDoorW.PrintWords PK

/-! ### A call that writes nothing that was there -/
theorem Hold.same {W w' : World} (h : PK.Hold W.heap.size W w') {p : MemPlace} (hp : p.block < W.heap.size) : W.sameAt w' p := by
  cases p with
  | cell b o => exact World.cell?_of_block (w := W) (h.block b hp hp)
  | map b => exact h.block b hp hp
theorem Hold.frame {W w' : World} (h : PK.Hold W.heap.size W w') (may : MemPlace → Prop) : W.keptBut w' may := by
  refine ⟨h.os, h.output, fun i hi => ?_⟩
  rw [h.block i hi hi]
  split <;> simp_all
theorem Hold.trod {H : Type} {enc : TypeId × Value → H} {P : Program} {t : TypeId} (hl : laidOutB P = true) (hr : P.readableRec t = true) (hrow : t < P.types.size) {W W' : World} {v : Value} {d : DataW H} {ps : List MemPlace}
    (h : DataW.Trod enc P W 0 (fun _ => true) true t v d ps) (hb : PK.Hold W.heap.size W W') (hlt : ∀ x ∈ ps, x.block < W.heap.size) :
    DataW.Trod enc P W' 0 (fun b => decide (b < W.heap.size)) true t v d ps :=
  WideElems.Trod_stays hl hr hrow h (fun x hx => Hold.same hb (hlt x hx)) (fun x hx => by simpa using hlt x hx)

namespace Memory
theorem own : ownKnob Tryz.prog.godebug = none := by kernel_rfl
theorem laidOut : laidOutB Tryz.prog = true := by kernel_rfl

set_option maxRecDepth 100000 in
theorem lifted (os : Os) (started : os.Started) (H : Type) (enc : TypeId × Value → H) :
    ReturnsInHanded {} Tryz.checked os 3 .any (fun w args => (Rows.diskMemorySpec.pre enc Tryz.prog Tryz.f3 Rows.diskMemoryRow.domain false w args ∧ laidMetH Tryz.prog Rows.diskMemoryRow.laid w) ∧ sizedMet enc Tryz.prog Tryz.f3 (OpenSpec.ofChange Rows.diskMemorySpec) false w args)
      (Rows.diskMemorySpec.post enc Tryz.prog Tryz.f3 false true false false) := by
  refine returnsInHanded_of_change_and (C := Tryz.checked) (X := fun w _ => laidMetH Tryz.prog Rows.diskMemoryRow.laid w) (fun _ _ _ hh h => h.of_heap hh) own started (by kernel_rfl) Tryz.func3
    (ChangeSpec.witness_shaped (enc := enc) (C := Tryz.checked) (os := os) (X := fun w _ => laidMetH Tryz.prog Rows.diskMemoryRow.laid w) false (World.laidAll Tryz.prog os Rows.diskMemoryRow.laid) #[.slice none 0 0, .string ⟨#[]⟩, .slice none 0 0] 8 (World.laidAll_os _ _ _)
      (World.shaped_of_ZipB (by kernel_rfl) (by kernel_rfl)) (by kernel_rfl) (by kernel_rfl) (by kernel_rfl)
      (by rw [MakeChecks.laidMetH_plain _ _ _ (by kernel_rfl)]; exact laidMet_laidAll _ (by kernel_rfl) (by kernel_rfl))) ?_
  intro W base args ds gs before hval0 hW hcnd hsz0 hL _
  have hsz : (DataW.weightsEach Tryz.prog (Tryz.f3.params.toList ++ Rows.diskMemorySpec.plain.varTypes Tryz.prog) (ds ++ gs)).all (· ≤ reachBytes) = true := hsz0
  have hval : ∀ (j : Nat) t v, Tryz.f3.params[j]? = some t → args[j]? = some v → Value.okWide Tryz.prog W .any base t v := hval0
  have hW' := hW
  obtain ⟨p, q, hA0, hV, rfl, hfz, hnd⟩ := hW
  have hA : DataW.TrodAll enc Tryz.prog W 0 (fun _ => true) true Tryz.f3.params.toList args.toList ds p := hA0
  rw [Tryz.params3] at hA hval hsz
  obtain ⟨v0, v1, v2, d0, d1, d2, p0, p1, p2, rfl, rfl, rfl, h0, h1, h2⟩ := trodAll_three hA
  obtain ⟨rfl, rfl⟩ := trodVars_none hV
  obtain ⟨a0, len0, cap0, rfl⟩ := okWide_slice Tryz.underlying22 (hval 0 22 v0 rfl rfl)
  obtain ⟨nm0, rfl⟩ := okWide_string Tryz.underlying9 (hval 1 9 v1 rfl rfl)
  obtain ⟨a2, len2, cap2, rfl⟩ := okWide_slice Tryz.underlying23 (hval 2 23 v2 rfl rfl)
  have k0 := h0; have k1 := h1; have k2 := h2
  have lt0 : ∀ x ∈ p0, x.block < W.heap.size := by obtain ⟨m, hm⟩ := k0; exact DataW.trod_lt m _ _ _ hm
  have lt1 : ∀ x ∈ p1, x.block < W.heap.size := by obtain ⟨m, hm⟩ := k1; exact DataW.trod_lt m _ _ _ hm
  have lt2 : ∀ x ∈ p2, x.block < W.heap.size := by obtain ⟨m, hm⟩ := k2; exact DataW.trod_lt m _ _ _ hm
  obtain ⟨fs, hK0, hF, hN⟩ := open_var opens_files hsz (j := 0) rfl rfl h0
  obtain ⟨rfl, c0, C0⟩ := slice_cells hK0
  obtain ⟨nm, hK1, hS⟩ := open_var (opens_string Tryz.underlying9) hsz (j := 1) rfl rfl h1
  obtain rfl : nm0 = nm := by
    have h : [Value.string nm0] = [Value.string nm] := hK1
    injection h with h _
    injection h
  obtain ⟨xs, hK2, hX⟩ := open_var opens_bytes hsz (j := 2) rfl rfl h2
  obtain ⟨rfl, c2, C2⟩ := slice_cells hK2
  clear hA0 hval0 hsz0 hsz
  refine (diskMemory_any a0 cap0 fs nm0 a2 cap2 xs W C0 c0 (by omega) (fun p hp => ⟨(hF p hp).1, (hF p hp).2.2, (hF p hp).2.1⟩) hS C2 c2 hX.2 hX.1).mono fun e W' ⟨he, bel⟩ => ?_
  subst he
  exact ⟨_, rfl, _, _, _, [], _, [], hW', trodAll_mk1 (shut_bool Tryz.underlying4 _), trodAll_mk3 (Hold.trod laidOut (by kernel_rfl) (of_decide_eq_true (by kernel_rfl)) k0 bel lt0) (Hold.trod laidOut (by kernel_rfl) (of_decide_eq_true (by kernel_rfl)) k1 bel lt1) (Hold.trod laidOut (by kernel_rfl) (of_decide_eq_true (by kernel_rfl)) k2 bel lt2), rfl, Hold.frame bel _, fun h => by cases h⟩
end Memory

theorem diskMemory_row : Rows.DiskMemorySaid :=
  OpenClaim.holds_of_wide 3 Tryz.f3 rfl rfl rfl rfl rfl rfl rfl ⟨rfl, rfl, rfl, rfl, rfl⟩ rfl rfl rfl rfl rfl (by kernel_rfl) Tryz.func3 (by kernel_rfl)
    (of_decide_eq_true (by kernel_rfl)) (by unfold Func.isWrapper; first | (rw [if_pos (by decide +kernel)]; kernel_rfl) | (rw [if_neg (by decide +kernel)]; exact ⟨rfl, rfl⟩))
    (fun os started H enc _ => Memory.lifted os started H enc)

theorem diskMemory_holds : Rows.DiskMemoryCardSaid :=
  Claim7.holds_tied_plain_at .later [] [.data, .pinned] true (Rows.diskMemoryCard.stood.harness) true
    diskMemory_row (fun _ h => by cases h) (by kernel_rfl) (fun _ h => by cases h) diskMemory_row_tie rfl ⟨rfl, rfl⟩ (by kernel_rfl) rfl
    (fun f fn hf hfn => by
      obtain rfl : f = 3 := Option.some.inj ((show Tryz.prog.funcNamed "stoa/stoalaw14.DiskMemory" = some 3 by kernel_rfl).symm.trans hf) |>.symm
      obtain rfl : fn = Tryz.f3 := (Option.some.inj (Tryz.func3.symm.trans hfn)).symm
      exact ⟨by kernel_rfl, fun j t ht => by
        rw [Tryz.params3] at ht
        have hm : t ∈ [22, 9, 23] := by simpa using Array.mem_of_getElem? ht
        have hall : ([22, 9, 23].all fun u => !Tryz.prog.wantsStandIn u) = true := by kernel_rfl
        exact (show Tryz.prog.wantsStandIn t = false by simpa using List.all_eq_true.1 hall t hm)⟩)
    (by kernel_rfl)
#print axioms diskMemory_holds
end Go.Proofs.YtgcpiofpjogjcaaGreatDoor
