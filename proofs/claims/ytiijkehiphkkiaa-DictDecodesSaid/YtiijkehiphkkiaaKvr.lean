/-
  The reference's Get: plain law.
-/
import Derived.Test.YtiijkehiphkkiaaKv
import Derived.Test.YtiijkehiphkkiaaD8
namespace Go.Proofs.Ytiijkehiphkkiaa.PD
open Go.RowKit Go.Proofs.YtiijkehiphkkiaaW.PrintWords Go.Proofs.YtiijkehiphkkiaaW.PrintLast Go.Proofs.YtiijkehiphkkiaaW.PrintMore
set_option linter.unusedVariables false
set_option linter.unusedSimpArgs false

theorem rget_l0 (l : List Int) (p : Nat) (hb : Bys l) (hl : l.length < 1152921504606846976) (hp : p ≤ l.length) : ∀ (cs : List Int) (i u : Nat), l.drop (p + i) = cs → p + i ≤ l.length → i ≤ 9 → u < 128 ^ i →
    stoaref02_Get.l0 (2 * cs.length + 2) l (p : Int) (u : Int) ((128 ^ i : Nat) : Int) ((p + i : Nat) : Int) = some (((vgo cs i u).1 : Int), ((if (vgo cs i u).2.2 = 0 then p + (vgo cs i u).2.1 else 0 : Nat) : Int), (vgo cs i u).2.2) := by
  intro cs
  induction cs with
  | nil =>
    intro i u hd hpi hi hu
    have : l.length ≤ p + i := by
      have := congrArg List.length hd
      simp at this; omega
    unfold stoaref02_Get.l0
    rw [if_neg (by omega)]
    rfl
  | cons c cs ih =>
    intro i u hd hpi hi hu
    obtain ⟨hlt, hc, hd'⟩ := drop_cons_at hd
    have hcb := hb c (by rw [← hc]; exact List.getElem_mem hlt)
    have hrec := ih (i + 1) (u + c.toNat % 128 * 128 ^ i) (by rw [← hd']; congr 1) (by omega)
    rw [show 2 * (c :: cs).length + 2 = (2 * cs.length + 2) + 1 + 1 from by simp; omega]
    unfold stoaref02_Get.l0
    have e7 : IntKind.u64.wrap c = c := by rw [IntKind.wrap_u64]; omega
    rw [if_pos (by omega), if_pos (by omega), rd_at hlt, hc, e7, show wrap64 (((p + i : Nat) : Int) - p) = i from by rw [w64 (by omega) (by omega)]; omega]
    have hj : ∀ q : Bool, q = decide (i = 9 ∧ 1 < c) → stoaref02_Get.j2 ((2 * cs.length + 2) + 1) l (p : Int) (u : Int) ((128 ^ i : Nat) : Int) ((p + i : Nat) : Int) c q = some (((vgo (c :: cs) i u).1 : Int), ((if (vgo (c :: cs) i u).2.2 = 0 then p + (vgo (c :: cs) i u).2.1 else 0 : Nat) : Int), (vgo (c :: cs) i u).2.2) := by
      rintro q rfl
      unfold stoaref02_Get.j2
      by_cases h9 : i = 9 ∧ 1 < c
      · rw [if_pos (by simp [h9])]
        simp only [vgo, if_pos h9]
        rfl
      · rw [if_neg (by simpa using h9)]
        have h9' : i = 9 → c ≤ 1 := fun h => by omega
        have hd := digit_lt hi (c := c.toNat % 128) (by omega) (fun h => by have := h9' h; omega)
        have hu9 : u + c.toNat % 128 * 128 ^ i < 18446744073709551616 := by
          by_cases h : i = 9
          · subst h
            have := h9' rfl
            have h2 : c.toNat % 128 * 128 ^ 9 ≤ 1 * 128 ^ 9 := Nat.mul_le_mul_right _ (by omega)
            omega
          · have h1 : 128 ^ i ≤ 128 ^ 8 := Nat.pow_le_pow_right (by decide) (by omega)
            have h2 : c.toNat % 128 * 128 ^ i ≤ 127 * 128 ^ 8 := Nat.mul_le_mul (by omega) h1
            omega
        have e6 : wrap64 (((p + i : Nat) : Int) + 1) = ((p + (i + 1) : Nat) : Int) := by rw [w64 (by omega) (by omega)]; omega
        have e8 : IntKind.u64.wrap ((u : Int) + IntKind.u64.wrap (Int.tmod c 128 * ((128 ^ i : Nat) : Int))) = ((u + c.toNat % 128 * 128 ^ i : Nat) : Int) := by
          rw [Int.tmod_eq_emod_of_nonneg hcb.1, show c % 128 = ((c.toNat % 128 : Nat) : Int) from by omega, ← Int.natCast_mul, wraps_u64 (((c.toNat % 128 * 128 ^ i : Nat)) : Int) (by omega) (by omega), wraps_u64 _ (by omega) (by omega)]
          omega
        rw [e8, e6]
        by_cases h1 : 128 ≤ c
        · rw [if_neg (by omega)]
          have hi8 : i ≤ 8 := by omega
          have e9 : IntKind.u64.wrap (((128 ^ i : Nat) : Int) * 128) = ((128 ^ (i + 1) : Nat) : Int) := by
            have h3 : 128 ^ (i + 1) ≤ 128 ^ 9 := Nat.pow_le_pow_right (by decide) (by omega)
            rw [Nat.pow_succ] at h3 ⊢
            rw [wraps_u64 _ (by omega) (by omega)]
            omega
          rw [e9, hrec (by omega) ?_]
          · simp only [vgo, if_neg h9, if_pos h1]
          · rw [Nat.pow_succ]
            have : c.toNat % 128 * 128 ^ i ≤ 127 * 128 ^ i := Nat.mul_le_mul_right _ (by omega)
            omega
        · have e5 : c.toNat % 128 = c.toNat := by omega
          rw [if_pos (by omega), e5]
          simp only [vgo, if_neg h9, if_neg h1]
          by_cases h0 : c = 0
          · rw [if_pos h0]
            by_cases h2 : 0 < i
            · rw [if_pos (by omega), if_pos ⟨h0, h2⟩]; rfl
            · rw [if_neg (by omega), if_neg (by omega)]; rfl
          · rw [if_neg h0, if_neg (by omega)]; rfl
    by_cases h9 : i = 9
    · rw [if_pos (by omega)]
      exact hj _ (by simp [h9])
    · rw [if_neg (by omega)]
      exact hj _ (by simp [h9])
theorem rget_law (l : List Int) (p : Nat) (hb : Bys l) (hl : l.length < 1152921504606846976) (hp : p ≤ l.length) : stoaref02_Get.f (2 * (l.drop p).length + 3) l (p : Int) = some (((vget l p).1 : Int), ((vget l p).2.1 : Int), (vget l p).2.2) := by
  unfold stoaref02_Get.f
  rw [if_neg (by omega), show 2 * (l.drop p).length + 3 = (2 * (l.drop p).length + 2) + 1 from rfl, stoaref02_Get.j0, if_neg (by simp; omega)]
  exact rget_l0 l p hb hl hp (l.drop p) 0 0 (by rfl) (by omega) (by omega) (by decide)

end Go.Proofs.Ytiijkehiphkkiaa.PD
