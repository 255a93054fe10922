/-
  bits' Unpack, and the reference's: plain laws.
-/
import Derived.Test.YtiijkehiphkkiaaKp
namespace Go.Proofs.Ytiijkehiphkkiaa.PD
open Go.RowKit Go.Proofs.YtiijkehiphkkiaaW.PrintWords Go.Proofs.YtiijkehiphkkiaaW.PrintLast Go.Proofs.YtiijkehiphkkiaaW.PrintMore
set_option linter.unusedVariables false
set_option linter.unusedSimpArgs false

/-- The bits from place p on, out of the byte in which p lies. -/
theorem byte_bits {b : List Int} (hb : Bys b) {p q r t : Nat} (hp : p = 8 * q + r) (hq : q < b.length) (ht : t + r ≤ 8) : b[q].toNat / 2 ^ r % 2 ^ t = le b / 2 ^ p % 2 ^ t := by
  rw [← le_get hb hq, hp, Nat.pow_add, ← Nat.div_div_eq_div_mul, ← pow256]
  rw [show (256 : Nat) = 2 ^ r * 2 ^ (8 - r) from by rw [← Nat.pow_add, show r + (8 - r) = 8 from by omega], Nat.mod_mul_right_div_self]
  rw [Nat.mod_mod_of_dvd _ (Nat.pow_dvd_pow 2 (by omega))]

set_option maxHeartbeats 2000000 in
theorem read_in {b : List Int} (hb : Bys b) (hl : b.length < 1000000000000000) {w : Nat} (hw : w ≤ 64) (p0 : Nat) (hp0 : p0 + w ≤ 8 * b.length) : ∀ (n g : Nat), w - g ≤ n → g ≤ w →
    Ev (fun k => bits_read.l0 k b ((p0 + g : Nat) : Int) (w : Int) ((le b / 2 ^ p0 % 2 ^ g : Nat) : Int) (g : Int)) ((le b / 2 ^ p0 % 2 ^ w : Nat) : Int) := by
  intro n
  induction n with
  | zero =>
    intro g hg hgw
    obtain rfl : g = w := by omega
    refine Ev.step (fun k => ?_) (Ev.now _)
    rw [bits_read.l0, if_neg (by omega)]
  | succ n ih =>
    intro g hg hgw
    by_cases h0 : g = w
    · subst h0
      refine Ev.step (fun k => ?_) (Ev.now _)
      rw [bits_read.l0, if_neg (by omega)]
    · obtain ⟨p, hpe⟩ : ∃ p, p = p0 + g := ⟨_, rfl⟩
      obtain ⟨q, hq⟩ : ∃ q, q = p / 8 := ⟨_, rfl⟩
      obtain ⟨r, hr⟩ : ∃ r, r = p % 8 := ⟨_, rfl⟩
      obtain ⟨t, ht⟩ : ∃ t, t = min (8 - r) (w - g) := ⟨_, rfl⟩
      have hpq : p = 8 * q + r := by omega
      have hql : q < b.length := by omega
      refine Ev.step (fun k => ?_) (ih (g + t) (by omega) (by omega))
      have ea : Go.bits .and .i64 (p : Int) 7 = (r : Int) := by
        rw [and7 p (by omega), ← hr]
      have em : mn (wrap64 (8 - (r : Int))) (wrap64 ((w : Int) - g)) = (t : Int) := by
        rw [w64 (by omega) (by omega), w64 (by omega) (by omega), show (8 : Int) - r = ((8 - r : Nat) : Int) from by omega, show (w : Int) - g = ((w - g : Nat) : Int) from by omega, mn_nat, ← ht]
      have eq : (p : Int) / 8 = (q : Int) := by omega
      have et : IntKind.u64.wrap (t : Int) = (t : Int) := wraps_u64 _ (by omega) (by omega)
      have er : IntKind.u64.wrap (r : Int) = (r : Int) := wraps_u64 _ (by omega) (by omega)
      have eg : IntKind.u64.wrap (g : Int) = (g : Int) := wraps_u64 _ (by omega) (by omega)
      have hby := hb b[q] (List.getElem_mem hql)
      have ey : rd b (q : Int) = ((b[q].toNat : Nat) : Int) := by rw [rd_at hql]; omega
      have es : shr .u8 ((b[q].toNat : Nat) : Int) (r : Int) = ((b[q].toNat / 2 ^ r : Nat) : Int) := by
        unfold shr
        rw [show min ((r : Nat) : Int).toNat IntKind.u8.bits = r from by simp [IntKind.bits]; omega]
        simp
      have hsm : b[q].toNat / 2 ^ r ≤ b[q].toNat := Nat.div_le_self _ _
      have hbb := byte_bits hb hpq hql (t := t) (by omega)
      obtain ⟨y, hy⟩ : ∃ y, y = b[q].toNat / 2 ^ r := ⟨_, rfl⟩
      rw [← hy] at es hsm hbb
      obtain ⟨z, hz⟩ : ∃ z, z = le b / 2 ^ p % 2 ^ t := ⟨_, rfl⟩
      rw [← hz] at hbb
      obtain ⟨v, hv'⟩ : ∃ v, v = le b / 2 ^ p0 % 2 ^ g := ⟨_, rfl⟩
      have e1 : IntKind.u64.wrap (y : Int) = (y : Int) := wraps_u64 _ (by omega) (by omega)
      have e2 : Go.bits .and .u64 (y : Int) (IntKind.u64.wrap ((shl .u64 1 (t : Int)) - 1)) = (z : Int) := by
        rw [mask64 (by omega) (by omega), hbb]
      have hx : z < 2 ^ t := by rw [hz]; exact Nat.mod_lt _ (Nat.pow_pos (by decide))
      have h3 : (z + 1) * 2 ^ g ≤ 2 ^ t * 2 ^ g := Nat.mul_le_mul_right _ hx
      rw [← Nat.pow_add, Nat.add_mul, Nat.one_mul] at h3
      have h4 : 2 ^ (t + g) ≤ 18446744073709551616 := Nat.pow_le_pow_right (n := 2) (j := 64) (by decide) (by omega)
      have h5 : 0 < 2 ^ g := Nat.pow_pos (by decide)
      have hv : v < 2 ^ g := by rw [hv']; exact Nat.mod_lt _ h5
      have hv64 : v < 18446744073709551616 := by omega
      have hz64 : z * 2 ^ g < 18446744073709551616 := by omega
      have e3 : shl .u64 (z : Int) (g : Int) = ((z * 2 ^ g : Nat) : Int) := by
        unfold shl
        rw [show min ((g : Nat) : Int).toNat IntKind.u64.bits = g from by simp [IntKind.bits]; omega, show (z : Int) * 2 ^ g = ((z * 2 ^ g : Nat) : Int) from by simp]
        exact wraps_u64 _ (by omega) (by exact_mod_cast hz64)
      have e4 : Go.bits .or .u64 (v : Int) ((z * 2 ^ g : Nat) : Int) = ((le b / 2 ^ p0 % 2 ^ (g + t) : Nat) : Int) := by
        rw [bits_join_low .u64 64 (by decide) wraps_u64 g _ _ (by omega) (by exact_mod_cast hv) (by exact_mod_cast hv64) (by omega) ?_ (by exact_mod_cast hz64)]
        · rw [Nat.pow_add, Nat.mod_mul, Nat.div_div_eq_div_mul, ← Nat.pow_add, ← hpe, Nat.mul_comm (2 ^ g), ← hz, ← hv']
          omega
        · have : (z * 2 ^ g) % 2 ^ g = 0 := Nat.mul_mod_left _ _
          exact_mod_cast this
      rw [← hv']
      rw [bits_read.l0, if_pos (by omega), ← hpe, ea, em, eq, et, er, eg, if_pos (by omega), if_pos (by omega), if_pos (by omega), if_pos (by omega), if_pos (by omega), ey, es, e1, e2, e3, e4,
        show wrap64 ((p : Int) + t) = ((p0 + (g + t) : Nat) : Int) from by rw [w64 (by omega) (by omega)]; omega, show wrap64 ((g : Int) + t) = ((g + t : Nat) : Int) from by rw [w64 (by omega) (by omega)]; omega]
theorem read_law {b : List Int} (hb : Bys b) (hl : b.length < 1000000000000000) {w : Nat} (hw : w ≤ 64) (p : Nat) (hp : p + w ≤ 8 * b.length) : Ev (fun k => bits_read.f k b (p : Int) (w : Int)) ((le b / 2 ^ p % 2 ^ w : Nat) : Int) := by
  have := read_in hb hl hw p hp w 0 (by omega) (by omega)
  rw [Nat.pow_zero, Nat.mod_one, Nat.add_zero] at this
  exact this

/-- The n numbers that b packs, the error's number. -/
def unpackS (b : List Int) (w m : Nat) : List Int × Int :=
  if 8 * b.length < w * m then ([], 2) else if w * m + 8 ≤ 8 * b.length then ([], 3) else if 2 ^ (w * m) ≤ le b then ([], 5) else ((List.range m).map fun i => ((le b / 2 ^ (w * i) % 2 ^ w : Nat) : Int), 0)

theorem set_map (m i : Nat) (f : Nat → Int) : ((List.range m).map (fun j => if j < i then f j else 0)).set i (f i) = (List.range m).map (fun j => if j < i + 1 then f j else 0) := by
  apply List.ext_getElem
  · simp
  · intro j h1 h2
    rw [List.getElem_set]
    simp only [List.getElem_map, List.getElem_range]
    by_cases h : i = j
    · subst h; simp
    · rw [if_neg h]
      by_cases h3 : j < i
      · rw [if_pos h3, if_pos (by omega)]
      · rw [if_neg h3, if_neg (by omega)]
theorem unpack_l0 {b : List Int} (hb : Bys b) (hl : b.length < 1000000000000000) {w m : Nat} (hw : w ≤ 64) (hm : m ≤ 4096) (hwm : w * m ≤ 8 * b.length) : ∀ n i : Nat, i + n = m →
    Ev (fun k => bits_Unpack.l0 k b (w : Int) ((List.range m).map fun j => if j < i then ((le b / 2 ^ (w * j) % 2 ^ w : Nat) : Int) else 0) (m : Int) (i : Int)) ((List.range m).map fun i => ((le b / 2 ^ (w * i) % 2 ^ w : Nat) : Int), 0) := by
  intro n
  induction n with
  | zero =>
    intro i h
    refine Ev.step (fun k => ?_) (Ev.now _)
    rw [bits_Unpack.l0, if_neg (by omega)]
    congr 2
    refine List.map_congr_left fun j hj => ?_
    rw [List.mem_range] at hj
    rw [if_pos (by omega)]
  | succ n ih =>
    intro i h
    have hi : i < m := by omega
    have hwl : w * i + w ≤ w * m := by
      have : w * (i + 1) ≤ w * m := Nat.mul_le_mul_left _ hi
      rwa [Nat.mul_add, Nat.mul_one] at this
    have hwi : w * i ≤ 64 * 4096 := Nat.mul_le_mul hw (by omega)
    refine Ev.step (g := fun k => (bits_read.f k b ((w * i : Nat) : Int) (w : Int)).bind fun t => bits_Unpack.l0 k b (w : Int) (((List.range m).map fun j => if j < i then ((le b / 2 ^ (w * j) % 2 ^ w : Nat) : Int) else 0).set i t) (m : Int) ((i + 1 : Nat) : Int)) (fun k => ?_) (Ev.bind (read_law hb hl hw (w * i) (by omega)) ?_)
    · rw [bits_Unpack.l0, if_pos (by omega), show wrap64 ((i : Int) * w) = ((w * i : Nat) : Int) from by rw [← Int.natCast_mul, Nat.mul_comm, w64 (by omega) (by omega)]]
      congr 1
      funext t
      rw [if_pos (by omega), if_pos (by simp; omega), w64s i (by omega), Int.toNat_natCast]
    · rw [set_map m i (fun j => ((le b / 2 ^ (w * j) % 2 ^ w : Nat) : Int))]
      exact ih (i + 1) (by omega)
theorem need_law (w m : Nat) (h : w * m ≤ 1000000000) : bits_need.f (w : Int) (m : Int) = some ((((w * m + 7) / 8 : Nat)) : Int) := by
  unfold bits_need.f
  rw [← Int.natCast_mul, w64 (n := ((w * m : Nat) : Int)) (by omega) (by omega), w64 (n := ((w * m : Nat) : Int) + 7) (by omega) (by omega), Int.tdiv_eq_ediv_of_nonneg (by omega), w64 (by omega) (by omega)]
  congr 1
set_option maxHeartbeats 2000000 in
theorem punpack {b : List Int} (hb : Bys b) (hl : b.length < 1000000000000000) {w m : Nat} (hw : w ≤ 64) (hm : m ≤ 4096) : Ev (fun k => bits_Unpack.f k b (w : Int) (m : Int)) (unpackS b w m) := by
  have hwm : w * m ≤ 64 * 4096 := Nat.mul_le_mul hw hm
  refine Ev.same (g := fun k => bits_Unpack.j0 k b (w : Int) (m : Int) false) (fun k => ?_) ?_
  · unfold bits_Unpack.f
    unfold bits_badWidth.f
    rw [if_neg (by omega), Option.bind_some, if_neg (by simp; omega), if_neg (by omega)]
    congr 1
    simp
    omega
  · have need := need_law w m (by omega)
    have hlt := le_lt hb
    rw [pow256] at hlt
    have hj : ∀ q : Bool, w * m ≤ 8 * b.length → q = decide (2 ^ (w * m) ≤ le b) → Ev (fun k => bits_Unpack.j1 k b (w : Int) (m : Int) q) (if 2 ^ (w * m) ≤ le b then ([], 5) else ((List.range m).map fun i => ((le b / 2 ^ (w * i) % 2 ^ w : Nat) : Int), 0)) := by
      rintro q hle rfl
      by_cases h5 : 2 ^ (w * m) ≤ le b
      · rw [if_pos h5]
        refine Ev.step (fun k => ?_) (Ev.now _)
        rw [bits_Unpack.j1, if_pos (by simp [h5])]
      · rw [if_neg h5]
        refine Ev.step (fun k => ?_) (unpack_l0 hb hl hw hm hle m 0 (by omega))
        rw [bits_Unpack.j1, if_neg (by simp; omega), if_pos (by omega), if_pos (by simp; omega)]
        congr 1
        apply List.ext_getElem
        · simp
        · intro j h1 h2
          simp
    unfold unpackS
    by_cases h2 : 8 * b.length < w * m
    · rw [if_pos h2]
      refine Ev.step (fun k => ?_) (Ev.now _)
      rw [bits_Unpack.j0, if_neg (by simp), need, Option.bind_some, if_pos (by omega)]
    · rw [if_neg h2]
      by_cases h3 : w * m + 8 ≤ 8 * b.length
      · rw [if_pos h3]
        refine Ev.step (fun k => ?_) (Ev.now _)
        rw [bits_Unpack.j0, if_neg (by simp), need, Option.bind_some, if_neg (by omega), Option.bind_some, if_pos (by omega)]
      · rw [if_neg h3]
        have es : wrap64 ((wrap64 ((b.length : Int) * 8)) - (wrap64 ((w : Int) * (m : Int)))) = ((8 * b.length - w * m : Nat) : Int) := by
          rw [← Int.natCast_mul w m, w64 (n := (b.length : Int) * 8) (by omega) (by omega), w64 (n := ((w * m : Nat) : Int)) (by omega) (by omega), w64 (by omega) (by omega)]
          omega
        by_cases h0 : w * m = 8 * b.length
        · refine Ev.step (fun k => ?_) (hj false (by omega) (by rw [h0]; simp; omega))
          rw [bits_Unpack.j0, if_neg (by simp), need, Option.bind_some, if_neg (by omega), Option.bind_some, if_neg (by omega), es, if_neg (by omega)]
        · have hlen : b.length - 1 < b.length := by omega
          obtain ⟨r, hr⟩ : ∃ r, r = 8 - (8 * b.length - w * m) := ⟨_, rfl⟩
          have hwr : w * m = 8 * (b.length - 1) + r := by omega
          have hby := hb b[b.length - 1] (List.getElem_mem hlen)
          have ey : rd b (((b.length - 1 : Nat)) : Int) = ((b[b.length - 1].toNat : Nat) : Int) := by rw [rd_at hlen]; omega
          have el : wrap64 ((b.length : Int) - 1) = ((b.length - 1 : Nat) : Int) := by rw [w64 (by omega) (by omega)]; omega
          have er : IntKind.u64.wrap (wrap64 (8 - ((8 * b.length - w * m : Nat) : Int))) = (r : Int) := by rw [w64 (by omega) (by omega), wraps_u64 _ (by omega) (by omega)]; omega
          have esh : shr .u8 ((b[b.length - 1].toNat : Nat) : Int) (r : Int) = ((b[b.length - 1].toNat / 2 ^ r : Nat) : Int) := by
            unfold shr
            rw [show min ((r : Nat) : Int).toNat IntKind.u8.bits = r from by simp [IntKind.bits]; omega]
            simp
          have ed : b[b.length - 1].toNat / 2 ^ r = le b / 2 ^ (w * m) := by
            have h6 : le b / 256 ^ (b.length - 1) < 256 := by
              refine Nat.div_lt_of_lt_mul ?_
              rw [← Nat.pow_succ, pow256, show (b.length - 1).succ = b.length from by omega]
              exact hlt
            rw [← le_get hb hlen, Nat.mod_eq_of_lt h6, hwr, Nat.pow_add, ← Nat.div_div_eq_div_mul, ← pow256]
          refine Ev.step (fun k => ?_) (hj ((((b[b.length - 1].toNat / 2 ^ r : Nat) : Int)) != 0) (by omega) ?_)
          · rw [bits_Unpack.j0, if_neg (by simp), need, Option.bind_some, if_neg (by omega), Option.bind_some, if_neg (by omega), es, if_pos (by omega), el, if_pos (by omega), if_pos (by omega), er, if_pos (by omega), ey, esh]
          · rw [ed]
            have hpos : 0 < 2 ^ (w * m) := Nat.pow_pos (by decide)
            by_cases h5 : 2 ^ (w * m) ≤ le b
            · have := Nat.div_pos h5 hpos
              rw [decide_eq_true h5]
              generalize le b / 2 ^ (w * m) = D at *
              obtain ⟨D', rfl⟩ : ∃ D', D = D' + 1 := ⟨D - 1, by omega⟩
              rfl
            · rw [decide_eq_false h5, Nat.div_eq_of_lt (by omega)]
              rfl

/-! ### The reference -/
/-! ### There and back -/
theorem packS_length (w : Nat) (us : List Int) : (packS w us).length = (w * us.length + 7) / 8 := digits_length _ _
theorem packS_bys (w : Nat) (us : List Int) : Bys (packS w us) := digits_bys _ _
theorem packS_le {w : Nat} {us : List Int} (hf : Fit w us) : le (packS w us) = packN w us := by
  unfold packS
  rw [le_digits, pow256]
  exact Nat.mod_eq_of_lt (Nat.lt_of_lt_of_le (packN_lt hf) (Nat.pow_le_pow_right (by decide) (by omega)))
theorem unpack_pack {w : Nat} {us : List Int} (hf : Fit w us) : unpackS (packS w us) w us.length = (us, 0) := by
  have hlt := packN_lt hf
  unfold unpackS
  rw [packS_length, packS_le hf, if_neg (by omega), if_neg (by omega), if_neg (by omega)]
  congr 1
  apply List.ext_getElem
  · simp
  · intro i h1 h2
    simp only [List.getElem_map, List.getElem_range]
    rw [packN_get hf h2]
    exact Int.toNat_of_nonneg (hf us[i] (List.getElem_mem h2)).1
theorem packN_of (w : Nat) : ∀ (m X : Nat), X < 2 ^ (w * m) → packN w ((List.range m).map fun i => ((X / 2 ^ (w * i) % 2 ^ w : Nat) : Int)) = X := by
  intro m
  induction m with
  | zero => intro X h; simp at h; subst h; rfl
  | succ m ih =>
    intro X h
    have h1 : X / 2 ^ w < 2 ^ (w * m) := by
      refine Nat.div_lt_of_lt_mul ?_
      rw [← Nat.pow_add, Nat.add_comm w, ← Nat.mul_succ]
      exact h
    have h2 := ih (X / 2 ^ w) h1
    rw [List.range_succ_eq_map, List.map_cons, List.map_map]
    simp only [packN, Nat.mul_zero, Nat.pow_zero, Nat.div_one, Int.toNat_natCast]
    have e : ((fun i => ((X / 2 ^ (w * i) % 2 ^ w : Nat) : Int)) ∘ Nat.succ) = fun i => ((X / 2 ^ w / 2 ^ (w * i) % 2 ^ w : Nat) : Int) := by
      funext i
      simp only [Function.comp, Nat.div_div_eq_div_mul, ← Nat.pow_add]
      rw [Nat.mul_succ, Nat.add_comm]
    rw [e, h2]
    exact Nat.mod_add_div X (2 ^ w)
theorem pack_unpack {b : List Int} (hb : Bys b) {w m : Nat} {us : List Int} (h : unpackS b w m = (us, 0)) : us.length = m ∧ Fit w us ∧ packS w us = b := by
  unfold unpackS at h
  split at h
  · simp at h
  · split at h
    · simp at h
    · split at h
      · simp at h
      · rename_i h2 h3 h5
        simp only [Prod.mk.injEq] at h
        obtain ⟨rfl, _⟩ := h
        refine ⟨by simp, fun u hu => ?_, ?_⟩
        · obtain ⟨i, _, rfl⟩ := List.mem_map.1 hu
          have := Nat.mod_lt (le b / 2 ^ (w * i)) (Nat.pow_pos (n := w) (show 0 < 2 by decide))
          exact ⟨by omega, by exact_mod_cast this⟩
        · unfold packS
          rw [packN_of w m (le b) (by omega), List.length_map, List.length_range, show (w * m + 7) / 8 = b.length from by omega]
          exact digits_le hb
end Go.Proofs.Ytiijkehiphkkiaa.PD
