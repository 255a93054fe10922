/-
  DictBack: for all texts and bytes the law returns true, and both arguments read as they did. No condition.
-/
import Derived.Test.YtiijkehiphkkiaaKw
import Derived.Test.YtiijkehiphkkiaaKx
import Derived.Test.YtiijkehiphkkiaaWSized
import Derived.ChangeOld
namespace Go.Proofs.Ytiijkehiphkkiaa
open Go.ChangeShapes Go.WideShapes Go.ChangeAt Go.RowKit Go.Proofs.YtiijkehiphkkiaaW.PrintWords PD

namespace Back
theorem own : ownKnob Try.prog.godebug = none := by kernel_rfl
theorem laidOut : laidOutB Try.prog = true := by kernel_rfl

theorem walk (p q : Option Addr) (cap cap' : Nat) (ss : List (List Int)) (b : List Int) (w : World) (hr : Kd.C (Kd.slice 5 (Kd.int .u8)) w p ss.length ss) (hc : ss.length ≤ cap) (hb : ∀ s ∈ ss, Bys s)
    (hB : Kd.C (Kd.int .u8) w q b.length b) (hd : b.length ≤ cap') (hbb : Bys b) (hbl : b.length ≤ 140737488355328) :
    Calls Try.prog 10 #[.slice p ss.length cap, .slice q b.length cap'] w fun e w' => e = .returned (.bool true) ∧ Below w.heap.size w w' := by
  by_cases h0 : (idx ss).2.2 = 0
  · exact dback_ok p q cap cap' ss b w hr hc hb h0 hB hd hbb hbl
  · exact dback_err p q cap cap' ss b w hr hc hb h0

set_option maxRecDepth 100000 in
theorem lifted (os : Os) (started : os.Started) (H : Type) (enc : TypeId × Value → H) :
    ReturnsInHanded {} Try.checked os 10 .any (Rows.dictBackSpec.pre6 enc Try.prog Try.f10 Rows.dictBackRow.domain false) (Rows.dictBackSpec.post enc Try.prog Try.f10 false true false false) := by
  refine returnsInHanded_of_change_sized (C := Try.checked) own started (by kernel_rfl) Try.func10
    (ChangeSpec.witness6 (enc := enc) (C := Try.checked) false ⟨#[], #[.slice none 0 0, .slice none 0 0], []⟩ 8 (by kernel_rfl) (by kernel_rfl) (by kernel_rfl) (by kernel_rfl)) ?_
  intro W base args ds gs before hval0 hW hcnd hsz0 _
  have hsz : (DataW.weightsEach Try.prog (Try.f10.params.toList ++ Rows.dictBackSpec.plain.varTypes Try.prog) (ds ++ gs)).all (· ≤ reachBytes) = true := hsz0
  have hval : ∀ (j : Nat) t v, Try.f10.params[j]? = some t → args[j]? = some v → Value.okWide Try.prog W .any base t v := hval0
  have hW' := hW
  obtain ⟨p, q, hA0, hV, rfl, hfz, hnd⟩ := hW
  have hA : DataW.TrodAll enc Try.prog W 0 (fun _ => true) true Try.f10.params.toList args.toList ds p := hA0
  rw [Try.params10] at hA hval hsz
  obtain ⟨v0, v1, d0, d1, p0, p1, rfl, rfl, rfl, h0, h1⟩ := trodAll_two hA
  obtain ⟨rfl, rfl⟩ := trodVars_none hV
  obtain ⟨a0, len0, cap0, rfl⟩ := okWide_slice Try.underlying45 (hval 0 45 v0 rfl rfl)
  obtain ⟨a1, len1, cap1, rfl⟩ := okWide_slice Try.underlying55 (hval 1 55 v1 rfl rfl)
  have k0 := h0
  have k1 := h1
  have lt0 : ∀ x ∈ p0, x.block < W.heap.size := by obtain ⟨m, hm⟩ := k0; exact DataW.trod_lt m _ _ _ hm
  have lt1 : ∀ x ∈ p1, x.block < W.heap.size := by obtain ⟨m, hm⟩ := k1; exact DataW.trod_lt m _ _ _ hm
  have z1 := sized_ints hsz (j := 1) rfl rfl Try.underlying55 Try.underlying5 (by kernel_rfl) (B := 1) (by kernel_rfl) h1
  obtain ⟨ss, rfl, c0, C0, B0⟩ := open_texts h0
  obtain ⟨b, rfl, c1, C1, B1⟩ := open_bytes h1
  clear hA0 hval0 hsz0 hsz
  refine (walk a0 a1 cap0 cap1 ss b W C0 c0 B0 C1 c1 B1 (by omega)).mono fun e W' ⟨he, bel⟩ => ?_
  subst he
  exact ⟨_, rfl, _, _, _, [], _, [], hW', trodAll_mk1 (shut_bool Try.underlying4 _), trodAll_mk2 (Below.trod laidOut (by kernel_rfl) (of_decide_eq_true (by kernel_rfl)) k0 bel lt0) (Below.trod laidOut (by kernel_rfl) (of_decide_eq_true (by kernel_rfl)) k1 bel lt1), rfl, bel.frame _, fun h => by cases h⟩

end Back

theorem dictBack_holds : Rows.DictBackSaid :=
  OpenClaim.holds_of_wide 10 Try.f10 rfl rfl rfl rfl rfl rfl rfl ⟨rfl, rfl, rfl, rfl, rfl⟩ rfl rfl rfl rfl rfl (by kernel_rfl) Try.func10 (by kernel_rfl)
    (of_decide_eq_true (by kernel_rfl)) (by unfold Func.isWrapper; first | (rw [if_pos (by decide +kernel)]; kernel_rfl) | (rw [if_neg (by decide +kernel)]; exact ⟨rfl, rfl⟩))
    (fun os started H enc _ => Back.lifted os started H enc)

#print axioms dictBack_holds

end Go.Proofs.Ytiijkehiphkkiaa
