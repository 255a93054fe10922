/-
  The reference's Unpack: plain law.
-/
import Derived.Test.YtiijkehiphkkiaaKu
import Derived.Test.YtiijkehiphkkiaaKvr
import Derived.Test.YtiijkehiphkkiaaD8
import Derived.Test.YtiijkehiphkkiaaD9
namespace Go.Proofs.Ytiijkehiphkkiaa.PD
open Go.RowKit Go.Proofs.YtiijkehiphkkiaaW.PrintWords Go.Proofs.YtiijkehiphkkiaaW.PrintLast Go.Proofs.YtiijkehiphkkiaaW.PrintMore
set_option linter.unusedVariables false
set_option linter.unusedSimpArgs false

theorem rget_ev (l : List Int) (p : Nat) (hb : Bys l) (hl : l.length < 1152921504606846976) (hp : p ≤ l.length) : Ev (fun k => stoaref02_Get.f k l (p : Int)) (((vget l p).1 : Int), ((vget l p).2.1 : Int), (vget l p).2.2) := Ev.up (fun k => stoaref02_Get.mono _ _ k) (rget_law l p hb hl hp)

theorem bit_law {b : List Int} (hb : Bys b) (hl : b.length < 1000000000000000) (p : Nat) (hp : p < 8 * b.length) : Ev (fun k => stoaref01_bit.f k b (p : Int)) ((le b / 2 ^ p % 2 : Nat) : Int) := by
  obtain ⟨q, hq⟩ : ∃ q, q = p / 8 := ⟨_, rfl⟩
  obtain ⟨r, hr⟩ : ∃ r, r = p % 8 := ⟨_, rfl⟩
  have hpq : p = 8 * q + r := by omega
  have hql : q < b.length := by omega
  have er : Int.tmod (p : Int) 8 = (r : Int) := by rw [Int.tmod_eq_emod_of_nonneg (by omega)]; omega
  have eq : wrap64 (Int.tdiv (p : Int) 8) = (q : Int) := by rw [Int.tdiv_eq_ediv_of_nonneg (by omega), w64 (by omega) (by omega)]; omega
  have hby := hb b[q] (List.getElem_mem hql)
  have ey : rd b (q : Int) = ((b[q].toNat : Nat) : Int) := by rw [rd_at hql]; omega
  refine Ev.same (g := fun k => (stoaref01_power.f k (r : Int)).bind fun t => if t = 0 then none else some (Int.tmod (IntKind.u64.wrap (Int.tdiv ((b[q].toNat : Nat) : Int) t)) 2)) (fun k => ?_) (Ev.bind (power_law r (by omega)) (Ev.same (fun k => ?_) (Ev.now _)))
  · unfold stoaref01_bit.f
    rw [eq, er, if_pos (by omega), if_pos (by omega), ey, wraps_u64 _ (by omega) (by omega)]
  · have h0 : 0 < 2 ^ r := Nat.pow_pos (by decide)
    have hd : b[q].toNat / 2 ^ r ≤ b[q].toNat := Nat.div_le_self _ _
    have h1 := byte_bits hb hpq hql (t := 1) (by omega)
    rw [Nat.pow_one] at h1
    rw [← h1, if_neg (by omega), Int.tdiv_eq_ediv_of_nonneg (by omega), ← Int.natCast_ediv]
    generalize b[q].toNat / 2 ^ r = y at *
    rw [wraps_u64 _ (by omega) (by omega), Int.tmod_eq_emod_of_nonneg (by omega)]
    congr 1
theorem number_law {b : List Int} (hb : Bys b) (hl : b.length < 1000000000000000) {w : Nat} (hw : w ≤ 64) (p : Nat) (hp : p + w ≤ 8 * b.length) : Ev (fun k => stoaref01_number.f k b (p : Int) (w : Int)) ((le b / 2 ^ p % 2 ^ w : Nat) : Int) := by
  have key : ∀ m : Nat, m ≤ w → Ev (fun k => stoaref01_number.l0 k b (p : Int) ((le b / 2 ^ (p + m) % 2 ^ (w - m) : Nat) : Int) ((m : Int) - 1)) ((le b / 2 ^ p % 2 ^ w : Nat) : Int) := by
    intro m
    induction m with
    | zero =>
      intro hm
      refine Ev.step (fun k => ?_) (Ev.now _)
      rw [stoaref01_number.l0, if_neg (by omega)]
      rfl
    | succ m ih =>
      intro hm
      refine Ev.step (g := fun k => (stoaref01_bit.f k b ((p + m : Nat) : Int)).bind fun t => stoaref01_number.l0 k b (p : Int) (IntKind.u64.wrap ((IntKind.u64.wrap (((le b / 2 ^ (p + (m + 1)) % 2 ^ (w - (m + 1)) : Nat) : Int) * 2)) + t)) ((m : Int) - 1)) (fun k => ?_) (Ev.bind (bit_law hb hl (p + m) (by omega)) ?_)
      · rw [stoaref01_number.l0, if_pos (by omega), show wrap64 ((p : Int) + (((m + 1 : Nat) : Int) - 1)) = ((p + m : Nat) : Int) from by rw [w64 (by omega) (by omega)]; omega, show wrap64 ((((m + 1 : Nat) : Int) - 1) - 1) = (m : Int) - 1 from by rw [w64 (by omega) (by omega)]; omega]
      · have hx : le b / 2 ^ (p + (m + 1)) % 2 ^ (w - (m + 1)) < 2 ^ (w - (m + 1)) := Nat.mod_lt _ (Nat.pow_pos (by decide))
        have h4 : 2 ^ (w - (m + 1)) ≤ 9223372036854775808 := Nat.pow_le_pow_right (n := 2) (j := 63) (by decide) (by omega)
        have e0 : le b / 2 ^ (p + m) % 2 ^ (w - m) = le b / 2 ^ (p + m) % 2 + 2 * (le b / 2 ^ (p + (m + 1)) % 2 ^ (w - (m + 1))) := by
          conv => lhs; rw [show w - m = 1 + (w - (m + 1)) from by omega, Nat.pow_add 2 1, Nat.pow_one, Nat.mod_mul, Nat.div_div_eq_div_mul, ← Nat.pow_succ]
          rfl
        have e1 : IntKind.u64.wrap ((IntKind.u64.wrap (((le b / 2 ^ (p + (m + 1)) % 2 ^ (w - (m + 1)) : Nat) : Int) * 2)) + ((le b / 2 ^ (p + m) % 2 : Nat) : Int)) = ((le b / 2 ^ (p + m) % 2 ^ (w - m) : Nat) : Int) := by
          rw [e0]
          have hb2 : le b / 2 ^ (p + m) % 2 < 2 := Nat.mod_lt _ (by decide)
          generalize le b / 2 ^ (p + (m + 1)) % 2 ^ (w - (m + 1)) = X at *
          generalize le b / 2 ^ (p + m) % 2 = Y at *
          rw [wraps_u64 ((X : Int) * 2) (by omega) (by omega), wraps_u64 _ (by omega) (by omega)]
          omega
        rw [e1]
        exact ih (by omega)
  have := key w (Nat.le_refl _)
  rw [Nat.sub_self, Nat.pow_zero, Nat.mod_one] at this
  refine Ev.same (fun k => ?_) this
  unfold stoaref01_number.f
  rw [w64 (by omega) (by omega)]
  rfl
theorem runpack_l0 {b : List Int} (hb : Bys b) (hl : b.length < 1000000000000000) {w m : Nat} (res) (hres : le b < 2 ^ (w * m) → Ev (fun k => stoaref01_Unpack.l1 k b (w : Int) (m : Int) [] 0) res) : ∀ n p : Nat, p + n = 8 * b.length → (le b / 2 ^ p = 0 ↔ le b < 2 ^ (w * m)) → 
    Ev (fun k => stoaref01_Unpack.l0 k b (w : Int) (m : Int) (p : Int)) (if le b < 2 ^ (w * m) then res else ([], 5)) := by
  intro n
  induction n with
  | zero =>
    intro p h hiff
    have hlt := le_lt hb
    rw [pow256, ← h, Nat.add_zero] at hlt
    have h0 := hiff.1 (Nat.div_eq_of_lt hlt)
    rw [if_pos h0]
    refine Ev.step (fun k => ?_) (hres h0)
    rw [stoaref01_Unpack.l0, if_neg (by rw [w64 (by omega) (by omega)]; omega)]
  | succ n ih =>
    intro p h hiff
    have hh : le b / 2 ^ (p + 1) = le b / 2 ^ p / 2 := by rw [Nat.pow_succ, Nat.div_div_eq_div_mul]
    refine Ev.step (g := fun k => (stoaref01_bit.f k b (p : Int)).bind fun t => if t = 0 then stoaref01_Unpack.l0 k b (w : Int) (m : Int) ((p + 1 : Nat) : Int) else some (([] : List Int), 5)) (fun k => ?_) (Ev.bind (bit_law hb hl p (by omega)) ?_)
    · rw [stoaref01_Unpack.l0, if_pos (by rw [w64 (by omega) (by omega)]; omega), w64s p (by omega)]
    · have hrec := ih (p + 1) (by omega)
      rw [hh] at hrec
      generalize le b / 2 ^ p = Y at *
      by_cases h1 : Y % 2 = 0
      · rw [h1]
        exact hrec (by rw [← hiff]; omega)
      · rw [show Y % 2 = 1 from by omega, if_neg (fun hc => by have := hiff.2 hc; omega)]
        exact Ev.now _
theorem runpack_l1 {b : List Int} (hb : Bys b) (hl : b.length < 1000000000000000) {w m : Nat} (hw : w ≤ 64) (hm : m ≤ 4096) (hwm : w * m ≤ 8 * b.length) : ∀ n i : Nat, i + n = m →
    Ev (fun k => stoaref01_Unpack.l1 k b (w : Int) (m : Int) ((List.range i).map fun j => ((le b / 2 ^ (w * j) % 2 ^ w : Nat) : Int)) (i : Int)) ((List.range m).map fun i => ((le b / 2 ^ (w * i) % 2 ^ w : Nat) : Int), 0) := by
  intro n
  induction n with
  | zero =>
    intro i h
    obtain rfl : i = m := by omega
    refine Ev.step (fun k => ?_) (Ev.now _)
    rw [stoaref01_Unpack.l1, if_neg (by omega)]
  | succ n ih =>
    intro i h
    have hi : i < m := by omega
    have hwl : w * i + w ≤ w * m := by
      have : w * (i + 1) ≤ w * m := Nat.mul_le_mul_left _ hi
      rwa [Nat.mul_add, Nat.mul_one] at this
    have hwi : w * i ≤ 64 * 4096 := Nat.mul_le_mul hw (by omega)
    refine Ev.step (g := fun k => (stoaref01_number.f k b ((w * i : Nat) : Int) (w : Int)).bind fun t => stoaref01_Unpack.l1 k b (w : Int) (m : Int) (((List.range i).map fun j => ((le b / 2 ^ (w * j) % 2 ^ w : Nat) : Int)) ++ [t]) ((i + 1 : Nat) : Int)) (fun k => ?_) (Ev.bind (number_law hb hl hw (w * i) (by omega)) ?_)
    · rw [stoaref01_Unpack.l1, if_pos (by omega), show wrap64 ((i : Int) * w) = ((w * i : Nat) : Int) from by rw [← Int.natCast_mul, Nat.mul_comm, w64 (by omega) (by omega)]]
      congr 1
      funext t
      rw [if_pos (by simp; omega), w64s i (by omega)]
    · have := ih (i + 1) (by omega)
      rw [List.range_succ, List.map_append] at this
      exact this
theorem runpack {b : List Int} (hb : Bys b) (hl : b.length < 1000000000000000) {w m : Nat} (hw : w ≤ 64) (hm : m ≤ 4096) : Ev (fun k => stoaref01_Unpack.f k b (w : Int) (m : Int)) (unpackS b w m) := by
  have hwm : w * m ≤ 64 * 4096 := Nat.mul_le_mul hw hm
  have em : wrap64 ((w : Int) * (m : Int)) = ((w * m : Nat) : Int) := by rw [← Int.natCast_mul w m, w64 (by omega) (by omega)]
  have el : wrap64 (8 * (b.length : Int)) = ((8 * b.length : Nat) : Int) := by rw [w64 (by omega) (by omega)]; omega
  refine Ev.same (g := fun k => stoaref01_Unpack.j0 k b (w : Int) (m : Int) false) (fun k => ?_) ?_
  · unfold stoaref01_Unpack.f
    rw [if_neg (by omega), if_neg (by omega), if_neg (by omega)]
    congr 1
    simp
    omega
  · unfold unpackS
    by_cases h2 : 8 * b.length < w * m
    · rw [if_pos h2]
      refine Ev.step (fun k => ?_) (Ev.now _)
      rw [stoaref01_Unpack.j0, if_neg (by simp), em, el, if_pos (by omega)]
    · rw [if_neg h2]
      have ed : wrap64 (((8 * b.length : Nat) : Int) - ((w * m : Nat) : Int)) = ((8 * b.length - w * m : Nat) : Int) := by rw [w64 (by omega) (by omega)]; omega
      by_cases h3 : w * m + 8 ≤ 8 * b.length
      · rw [if_pos h3]
        refine Ev.step (fun k => ?_) (Ev.now _)
        rw [stoaref01_Unpack.j0, if_neg (by simp), em, el, if_neg (by omega), ed, if_pos (by omega)]
      · rw [if_neg h3]
        have hpos : 0 < 2 ^ (w * m) := Nat.pow_pos (by decide)
        have := runpack_l0 hb hl (w := w) (m := m) ((List.range m).map fun i => ((le b / 2 ^ (w * i) % 2 ^ w : Nat) : Int), 0) (fun _ => runpack_l1 hb hl hw hm (by omega) m 0 (by omega)) (8 * b.length - w * m) (w * m) (by omega)
          ⟨fun h => by
            rcases Nat.lt_or_ge (le b) (2 ^ (w * m)) with h1 | h1
            · exact h1
            · have := Nat.div_pos h1 hpos; omega, fun h => Nat.div_eq_of_lt h⟩
        have e5 : (if 2 ^ (w * m) ≤ le b then (([] : List Int), (5 : Int)) else ((List.range m).map fun i => ((le b / 2 ^ (w * i) % 2 ^ w : Nat) : Int), 0)) = (if le b < 2 ^ (w * m) then ((List.range m).map fun i => ((le b / 2 ^ (w * i) % 2 ^ w : Nat) : Int), 0) else ([], 5)) := by
          by_cases h5 : 2 ^ (w * m) ≤ le b
          · rw [if_pos h5, if_neg (by omega)]
          · rw [if_neg h5, if_pos (by omega)]
        rw [e5]
        refine Ev.step (fun k => ?_) this
        rw [stoaref01_Unpack.j0, if_neg (by simp), em, el, if_neg (by omega), ed, if_neg (by omega)]

end Go.Proofs.Ytiijkehiphkkiaa.PD
