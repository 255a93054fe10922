/-
  vint's Put and Get, and the reference's: plain laws.
-/
import Derived.Test.YtiijkehiphkkiaaKd
import Derived.Test.YtiijkehiphkkiaaD1
import Derived.Test.YtiijkehiphkkiaaD2
import Derived.Test.YtiijkehiphkkiaaD5
import Derived.Lib.EndianBits
import Derived.Laws.Bits64b
namespace Go.Proofs.Ytiijkehiphkkiaa.PD
open Go.RowKit Go.Proofs.YtiijkehiphkkiaaW.PrintWords Go.Proofs.YtiijkehiphkkiaaW.PrintLast Go.Proofs.YtiijkehiphkkiaaW.PrintMore
set_option linter.unusedVariables false
set_option linter.unusedSimpArgs false

theorem Bys.cons {x : Int} {xs : List Int} (h : Bys (x :: xs)) : (0 ≤ x ∧ x < 256) ∧ Bys xs := ⟨h x (by simp), fun y hy => h y (by simp [hy])⟩
theorem Bys.append {a b : List Int} (ha : Bys a) (hb : Bys b) : Bys (a ++ b) := fun x hx => (List.mem_append.1 hx).elim (ha x) (hb x)
theorem Bys.drop {a : List Int} (ha : Bys a) (n : Nat) : Bys (a.drop n) := fun x hx => ha x (List.mem_of_mem_drop hx)
theorem Bys.take {a : List Int} (ha : Bys a) (n : Nat) : Bys (a.take n) := fun x hx => ha x (List.mem_of_mem_take hx)

/-! ### Put -/
def vputA : Nat → Nat → List Int
  | 0, n => [(n : Int)]
  | f + 1, n => if n < 128 then [(n : Int)] else ((n % 128 + 128 : Nat) : Int) :: vputA f (n / 128)
/-- The number's bytes. -/
def vput (n : Nat) : List Int := vputA 9 n

theorem or128F : ∀ n : Fin 256, Go.bits .or .u8 (n.val : Int) 128 = ((n.val % 128 + 128 : Nat) : Int) := by decide +kernel
theorem or128 (n : Nat) : Go.bits .or .u8 ((n : Int) % 256) 128 = ((n % 128 + 128 : Nat) : Int) := by
  have h := or128F ⟨n % 256, by omega⟩
  have e : ((n % 256 : Nat) : Int) = (n : Int) % 256 := by omega
  rw [← e]
  rw [h]
  simp only
  omega
theorem put_l0 : ∀ (f n : Nat) (acc : List Int), n < 128 ^ (f + 1) → acc.length + f + 1 ≤ 140737488355328 → vint_Put.l0 (f + 1) (n : Int) acc = some (acc ++ vputA f n) := by
  intro f
  induction f with
  | zero =>
    intro n acc h hl
    unfold vint_Put.l0
    rw [if_neg (by omega), if_pos (by omega), show (n : Int) % 256 = n from by omega]
    rfl
  | succ f ih =>
    intro n acc h hl
    unfold vint_Put.l0
    by_cases h1 : n < 128
    · rw [if_neg (by omega), if_pos (by omega), show (n : Int) % 256 = n from by omega]
      simp only [vputA, if_pos h1]
    · rw [if_pos (by omega), if_pos (by omega), or128, show (n : Int) / 128 = ((n / 128 : Nat) : Int) from by omega, ih (n / 128) _ ?_ (by simp; omega)]
      · simp only [vputA, if_neg h1, List.append_assoc, List.singleton_append]
      · rw [Nat.pow_succ] at h
        exact Nat.div_lt_of_lt_mul (by rw [Nat.mul_comm]; exact h)
theorem put_law (n : Nat) (h : n < 18446744073709551616) : vint_Put.f 10 (n : Int) = some (vput n) := by
  have h1 := put_l0 9 n [] (by omega) (by simp)
  exact h1
theorem rput_l0 : ∀ (f n : Nat) (acc : List Int), n < 128 ^ (f + 1) → n < 18446744073709551616 → acc.length + f + 1 ≤ 140737488355328 → stoaref02_Put.l0 (f + 1) (n : Int) acc = some (acc ++ vputA f n) := by
  intro f
  induction f with
  | zero =>
    intro n acc h h0 hl
    unfold stoaref02_Put.l0
    rw [if_neg (by omega), if_pos (by omega), show (n : Int) % 256 = n from by omega]
    rfl
  | succ f ih =>
    intro n acc h h0 hl
    unfold stoaref02_Put.l0
    by_cases h1 : n < 128
    · rw [if_neg (by omega), if_pos (by omega), show (n : Int) % 256 = n from by omega]
      simp only [vputA, if_pos h1]
    · rw [if_pos (by omega), if_pos (by omega), Int.tdiv_eq_ediv_of_nonneg (by omega), Int.tmod_eq_emod_of_nonneg (by omega), IntKind.wrap_u64, IntKind.wrap_u64,
        show ((n : Int) % 128 + 128) % 18446744073709551616 % 256 = ((n % 128 + 128 : Nat) : Int) from by omega, show (n : Int) / 128 % 18446744073709551616 = ((n / 128 : Nat) : Int) from by omega, ih (n / 128) _ ?_ (by omega) (by simp; omega)]
      · simp only [vputA, if_neg h1, List.append_assoc, List.singleton_append]
      · rw [Nat.pow_succ] at h
        exact Nat.div_lt_of_lt_mul (by rw [Nat.mul_comm]; exact h)
theorem rput_law (n : Nat) (h : n < 18446744073709551616) : stoaref02_Put.f 10 (n : Int) = some (vput n) := by
  have h1 := rput_l0 9 n [] (by omega) h (by simp)
  exact h1
theorem vputA_length : ∀ f n, (vputA f n).length ≤ f + 1 := by
  intro f
  induction f with
  | zero => intro n; simp [vputA]
  | succ f ih =>
    intro n
    simp only [vputA]
    split
    · simp
    · have := ih (n / 128); simp; omega
theorem vput_length (n : Nat) : (vput n).length ≤ 10 := vputA_length 9 n
theorem vputA_bys : ∀ f n, n < 128 ^ (f + 1) → Bys (vputA f n) := by
  intro f
  induction f with
  | zero => intro n h x hx; simp [vputA] at hx; omega
  | succ f ih =>
    intro n h x hx
    simp only [vputA] at hx
    split at hx
    · simp at hx; omega
    · rcases List.mem_cons.1 hx with rfl | hx
      · omega
      · refine ih (n / 128) ?_ x hx
        rw [Nat.pow_succ] at h
        exact Nat.div_lt_of_lt_mul (by rw [Nat.mul_comm]; exact h)
theorem vput_bys (n : Nat) (h : n < 18446744073709551616) : Bys (vput n) := vputA_bys 9 n (by omega)

/-! ### Get -/
/-- The number that a row begins with, how many bytes it has, the error's number; i bytes have been read, u is what they tell. -/
def vgo : List Int → Nat → Nat → Nat × Nat × Int
  | [], _, _ => (0, 0, 2)
  | c :: cs, i, u => if i = 9 ∧ 1 < c then (0, 0, 20) else if 128 ≤ c then vgo cs (i + 1) (u + c.toNat % 128 * 128 ^ i) else if c = 0 ∧ 0 < i then (0, 0, 5) else (u + c.toNat * 128 ^ i, i + 1, 0)
/-- A number from place at on: the number, the place behind it, the error's number. -/
def vget (l : List Int) (p : Nat) : Nat × Nat × Int := ((vgo (l.drop p) 0 0).1, if (vgo (l.drop p) 0 0).2.2 = 0 then p + (vgo (l.drop p) 0 0).2.1 else 0, (vgo (l.drop p) 0 0).2.2)

theorem pow128 (i : Nat) : 128 ^ i = 2 ^ (7 * i) := by rw [show (128 : Nat) = 2 ^ 7 from rfl, ← Nat.pow_mul]
theorem digit_lt {i : Nat} {c : Nat} (hi : i ≤ 9) (hc : c < 128) (h9 : i = 9 → c ≤ 1) : c * 128 ^ i < 18446744073709551616 := by
  by_cases h : i = 9
  · subst h
    have := h9 rfl
    have h2 : c * 128 ^ 9 ≤ 1 * 128 ^ 9 := Nat.mul_le_mul_right _ this
    omega
  · have h1 : 128 ^ i ≤ 128 ^ 8 := Nat.pow_le_pow_right (by decide) (by omega)
    have h2 : c * 128 ^ i ≤ 127 * 128 ^ 8 := Nat.mul_le_mul (by omega) h1
    omega
theorem get_or {c : Int} (hc : 0 ≤ c ∧ c < 256) {i u : Nat} (hi : i ≤ 9) (hu : u < 128 ^ i) (h9 : i = 9 → c ≤ 1) :
    Go.bits .or .u64 (u : Int) (shl .u64 (IntKind.u64.wrap (Go.bits .and .u8 c 127)) ((7 * i : Nat) : Int)) = ((u + c.toNat % 128 * 128 ^ i : Nat) : Int) := by
  obtain ⟨d, rfl⟩ := Int.eq_ofNat_of_zero_le hc.1
  have e1 : Go.bits .and .u8 (d : Int) 127 = (d : Int) % 128 := by
    have := bits_mask .u8 8 (by decide) wraps_u8 7 (by decide) (d : Int) (by omega) (by omega)
    simpa using this
  have hd := digit_lt hi (c := d % 128) (by omega) (fun h => by have := h9 h; omega)
  have hu9 : u < 18446744073709551616 := Nat.lt_of_lt_of_le hu (Nat.le_trans (Nat.pow_le_pow_right (by decide) hi) (by decide))
  have e2 : IntKind.u64.wrap ((d : Int) % 128) = ((d % 128 : Nat) : Int) := by rw [IntKind.wrap_u64]; omega
  have e3 : shl .u64 ((d % 128 : Nat) : Int) ((7 * i : Nat) : Int) = ((d % 128 * 128 ^ i : Nat) : Int) := by
    unfold shl
    rw [show min ((7 * i : Nat) : Int).toNat IntKind.u64.bits = 7 * i from by simp [IntKind.bits]; omega, show ((d % 128 : Nat) : Int) * 2 ^ (7 * i) = ((d % 128 * 128 ^ i : Nat) : Int) from by rw [pow128]; simp]
    exact wraps_u64 _ (by omega) (by omega)
  rw [e1, e2, e3, bits_join_low .u64 64 (by decide) wraps_u64 (7 * i) _ _ (by omega) ?_ (by omega) (by omega) ?_ (by omega)]
  · simp only [Int.toNat_natCast]
    omega
  · rw [pow128] at hu
    exact_mod_cast hu
  · rw [pow128]
    have : (d % 128 * 2 ^ (7 * i)) % 2 ^ (7 * i) = 0 := Nat.mul_mod_left _ _
    exact_mod_cast this

theorem drop_cons_at {l cs : List Int} {p : Nat} {c : Int} (h : l.drop p = c :: cs) : ∃ hp : p < l.length, l[p] = c ∧ l.drop (p + 1) = cs := by
  have hp : p < l.length := by
    rcases Nat.lt_or_ge p l.length with h1 | h1
    · exact h1
    · rw [List.drop_of_length_le h1] at h; cases h
  rw [List.drop_eq_getElem_cons hp] at h
  exact ⟨hp, (List.cons.inj h).1, (List.cons.inj h).2⟩

theorem get_l0 (l : List Int) (p : Nat) (hb : Bys l) (hl : l.length < 1152921504606846976) (hp : p ≤ l.length) : ∀ (cs : List Int) (i u : Nat), l.drop (p + i) = cs → p + i ≤ l.length → i ≤ 9 → u < 128 ^ i →
    vint_Get.l0 (2 * cs.length + 2) l (p : Int) (u : Int) (i : Int) = some (((vgo cs i u).1 : Int), ((if (vgo cs i u).2.2 = 0 then p + (vgo cs i u).2.1 else 0 : Nat) : Int), (vgo cs i u).2.2) := by
  intro cs
  induction cs with
  | nil =>
    intro i u hd hpi hi hu
    have : l.length ≤ p + i := by
      have := congrArg List.length hd
      simp at this; omega
    unfold vint_Get.l0
    rw [w64 (by omega) (by omega), if_pos (by omega)]
    rfl
  | cons c cs ih =>
    intro i u hd hpi hi hu
    obtain ⟨hlt, hc, hd'⟩ := drop_cons_at hd
    have hcb := hb c (by rw [← hc]; exact List.getElem_mem hlt)
    have hrec := ih (i + 1) (u + c.toNat % 128 * 128 ^ i) (by rw [← hd']; congr 1) (by omega)
    rw [show 2 * (c :: cs).length + 2 = (2 * cs.length + 2) + 1 + 1 from by simp; omega]
    unfold vint_Get.l0
    rw [w64 (by omega) (by omega), if_neg (by omega), show wrap64 ((p : Int) + i) = ((p + i : Nat) : Int) from by rw [w64 (by omega) (by omega)]; omega, if_pos (by omega), if_pos (by omega), rd_at hlt, hc]
    have hj : ∀ q : Bool, q = decide (i = 9 ∧ 1 < c) → vint_Get.j2 ((2 * cs.length + 2) + 1) l (p : Int) (u : Int) (i : Int) c q = some (((vgo (c :: cs) i u).1 : Int), ((if (vgo (c :: cs) i u).2.2 = 0 then p + (vgo (c :: cs) i u).2.1 else 0 : Nat) : Int), (vgo (c :: cs) i u).2.2) := by
      rintro q rfl
      unfold vint_Get.j2
      by_cases h9 : i = 9 ∧ 1 < c
      · rw [if_pos (by simp [h9])]
        simp only [vgo, if_pos h9]
        rfl
      · rw [if_neg (by simpa using h9)]
        have h9' : i = 9 → c ≤ 1 := fun h => by omega
        have e4 : IntKind.u64.wrap (wrap64 (7 * (i : Int))) = ((7 * i : Nat) : Int) := by rw [w64 (by omega) (by omega), IntKind.wrap_u64]; omega
        have e6 : wrap64 (((p + i : Nat) : Int) + 1) = ((p + (i + 1) : Nat) : Int) := by rw [w64 (by omega) (by omega)]; omega
        rw [e4, if_pos (by omega), get_or hcb hi hu h9']
        by_cases h1 : 128 ≤ c
        · rw [if_pos (by omega), w64s i (by omega), hrec (by omega) ?_]
          · simp only [vgo, if_neg h9, if_pos h1]
          · rw [Nat.pow_succ]
            have : c.toNat % 128 * 128 ^ i ≤ 127 * 128 ^ i := Nat.mul_le_mul_right _ (by omega)
            omega
        · have e5 : c.toNat % 128 = c.toNat := by omega
          rw [if_neg (by omega), show wrap64 ((p : Int) + i) = ((p + i : Nat) : Int) from by rw [w64 (by omega) (by omega)]; omega, e6, e5]
          simp only [vgo, if_neg h9, if_neg h1]
          by_cases h0 : c = 0
          · rw [if_pos h0]
            by_cases h2 : 0 < i
            · rw [if_pos (by omega), if_pos ⟨h0, h2⟩]; rfl
            · rw [if_neg (by omega), if_neg (by omega)]; rfl
          · rw [if_neg h0, if_neg (by omega)]; rfl
    by_cases h9 : i = 9
    · rw [if_pos (by omega)]
      exact hj _ (by simp [h9])
    · rw [if_neg (by omega)]
      exact hj _ (by simp [h9])
theorem get_law (l : List Int) (p : Nat) (hb : Bys l) (hl : l.length < 1152921504606846976) (hp : p ≤ l.length) : vint_Get.f (2 * (l.drop p).length + 3) l (p : Int) = some (((vget l p).1 : Int), ((vget l p).2.1 : Int), (vget l p).2.2) := by
  unfold vint_Get.f
  rw [if_neg (by omega), show 2 * (l.drop p).length + 3 = (2 * (l.drop p).length + 2) + 1 from rfl, vint_Get.j0, if_neg (by simp; omega)]
  exact get_l0 l p hb hl hp (l.drop p) 0 0 (by rfl) (by omega) (by omega) (by decide)

/-- What was read stands there. -/
theorem vgo_used : ∀ (cs : List Int) (i u v t : Nat), Bys cs → i ≤ 9 → vgo cs i u = (v, t, 0) →
    ∃ m, v = u + m * 128 ^ i ∧ i < t ∧ t - i ≤ cs.length ∧ cs.take (t - i) = vputA (9 - i) m ∧ (0 < i → m ≠ 0) := by
  intro cs
  induction cs with
  | nil => intro i u v t hb hi h; simp [vgo] at h
  | cons c cs ih =>
    intro i u v t hb hi h
    obtain ⟨hc, hb'⟩ := hb.cons
    simp only [vgo] at h
    split at h
    · simp at h
    · rename_i h9
      split at h
      · rename_i h1
        obtain ⟨m, h2, h3, h4, h5, h6⟩ := ih (i + 1) _ v t hb' (by omega) h
        have hm := h6 (by omega)
        have e1 : (c.toNat % 128 + 128 * m) / 128 = m := by omega
        refine ⟨c.toNat % 128 + 128 * m, ?_, by omega, by simp; omega, ?_, fun _ => by omega⟩
        · rw [h2, Nat.pow_succ, Nat.add_mul, Nat.add_assoc]
          congr 2
          rw [Nat.mul_comm 128 m, Nat.mul_assoc, Nat.mul_comm 128 (128 ^ i)]
        · rw [show 9 - i = (9 - (i + 1)) + 1 from by omega, show t - i = (t - (i + 1)) + 1 from by omega]
          simp only [vputA, List.take_succ_cons]
          rw [if_neg (by omega), e1, h5]
          congr 1
          omega
      · rename_i h1
        split at h
        · simp at h
        · rename_i h0
          simp only [Prod.mk.injEq] at h
          obtain ⟨h2, h3, _⟩ := h
          refine ⟨c.toNat, h2.symm, by omega, by simp; omega, ?_, fun h => by omega⟩
          subst h3
          rw [show i + 1 - i = 1 from by omega]
          simp only [List.take_succ_cons, List.take_zero]
          cases (9 - i) with
          | zero => simp only [vputA]; congr 1; omega
          | succ f =>
            simp only [vputA]
            rw [if_pos (by omega)]
            congr 1
            omega
theorem vget_used {l : List Int} {p v q : Nat} (hb : Bys l) (h : vget l p = (v, q, 0)) : p < q ∧ q ≤ l.length ∧ l.drop p = vput v ++ l.drop q := by
  unfold vget at h
  rcases hv : vgo (l.drop p) 0 0 with ⟨v1, t, e⟩
  rw [hv] at h
  simp only [Prod.mk.injEq] at h
  obtain ⟨h1, h2, h3⟩ := h
  subst h1 h3
  rw [if_pos rfl] at h2
  obtain ⟨m, k1, k2, k3, k4, _⟩ := vgo_used _ 0 0 v1 t (hb.drop p) (by omega) hv
  rw [List.length_drop] at k3
  have e1 : v1 = m := by simp at k1; exact k1
  subst e1
  refine ⟨by omega, by omega, ?_⟩
  rw [← h2, ← List.drop_drop]
  rw [show vput v1 = (l.drop p).take t from k4.symm, List.take_append_drop]
theorem vput_small (n : Nat) (h : n < 16384) : vput n = if n < 128 then [(n : Int)] else [((n % 128 + 128 : Nat) : Int), ((n / 128 : Nat) : Int)] := by
  unfold vput
  rw [show (9 : Nat) = 8 + 1 from rfl, vputA]
  split
  · rfl
  · rw [show (8 : Nat) = 7 + 1 from rfl, vputA, if_pos (by omega)]
/-- What was written is read. -/
theorem vgo_vput (n : Nat) (h : n < 16384) (rest : List Int) : vgo (vput n ++ rest) 0 0 = (n, (vput n).length, 0) := by
  rw [vput_small n h]
  split
  · rename_i h1
    rw [List.singleton_append, vgo, if_neg (by omega), if_neg (by omega), if_neg (by omega)]
    simp
  · rename_i h1
    rw [List.cons_append, List.cons_append, List.nil_append, vgo, if_neg (by omega), if_pos (by omega), vgo, if_neg (by omega), if_neg (by omega), if_neg (by omega)]
    simp
    omega
theorem vget_vput {l rest : List Int} {p n : Nat} (h : n < 16384) (hl : l.drop p = vput n ++ rest) : vget l p = (n, p + (vput n).length, 0) := by
  unfold vget
  rw [hl, vgo_vput n h]
  simp
end Go.Proofs.Ytiijkehiphkkiaa.PD
