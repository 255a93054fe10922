/-
  bits' Pack, and the reference's: plain laws.
-/
import Derived.Test.YtiijkehiphkkiaaKv
namespace Go.Proofs.Ytiijkehiphkkiaa.PD
open Go.RowKit Go.Proofs.YtiijkehiphkkiaaW.PrintWords Go.Proofs.YtiijkehiphkkiaaW.PrintLast Go.Proofs.YtiijkehiphkkiaaW.PrintMore
set_option linter.unusedVariables false
set_option linter.unusedSimpArgs false

/-! ### With rounds enough -/
def Ev {α : Type} (g : Nat → Option α) (r : α) : Prop := ∃ K, ∀ k, K ≤ k → g k = some r
theorem Ev.step {α : Type} {g h : Nat → Option α} {r : α} (hs : ∀ k, h (k + 1) = g k) (hg : Ev g r) : Ev h r := by
  obtain ⟨K, hK⟩ := hg
  refine ⟨K + 1, fun k hk => ?_⟩
  obtain ⟨k', rfl⟩ : ∃ k', k = k' + 1 := ⟨k - 1, by omega⟩
  rw [hs]
  exact hK k' (by omega)
theorem Ev.same {α : Type} {g h : Nat → Option α} {r : α} (hs : ∀ k, h k = g k) (hg : Ev g r) : Ev h r := by
  obtain ⟨K, hK⟩ := hg
  exact ⟨K, fun k hk => (hs k).trans (hK k hk)⟩
theorem Ev.bind {α β : Type} {g : Nat → Option α} {f : Nat → α → Option β} {a : α} {r : β} (hg : Ev g a) (hf : Ev (fun k => f k a) r) : Ev (fun k => (g k).bind (f k)) r := by
  obtain ⟨K, hK⟩ := hg
  obtain ⟨K', hK'⟩ := hf
  refine ⟨max K K', fun k hk => ?_⟩
  show (g k).bind (f k) = some r
  rw [hK k (by omega), Option.bind_some]
  exact hK' k (by omega)
theorem Ev.now {α : Type} (r : α) : Ev (fun _ => some r) r := ⟨0, fun _ _ => rfl⟩
theorem Ev.up {α : Type} {g : Nat → Option α} (m : ∀ k, LeO (g k) (g (k + 1))) {k : Nat} {r : α} (h : g k = some r) : Ev g r := ⟨k, PD.up m h⟩
theorem Ev.ex {α : Type} {g : Nat → Option α} {r : α} (h : Ev g r) : ∃ k, g k = some r := by
  obtain ⟨K, hK⟩ := h
  exact ⟨K, hK K (Nat.le_refl _)⟩

theorem put_ev (n : Nat) (h : n < 18446744073709551616) : Ev (fun k => vint_Put.f k (n : Int)) (vput n) := Ev.up (fun k => vint_Put.mono _ k) (put_law n h)
theorem rput_ev (n : Nat) (h : n < 18446744073709551616) : Ev (fun k => stoaref02_Put.f k (n : Int)) (vput n) := Ev.up (fun k => stoaref02_Put.mono _ k) (rput_law n h)
theorem get_ev (l : List Int) (p : Nat) (hb : Bys l) (hl : l.length < 1152921504606846976) (hp : p ≤ l.length) : Ev (fun k => vint_Get.f k l (p : Int)) (((vget l p).1 : Int), ((vget l p).2.1 : Int), (vget l p).2.2) := Ev.up (fun k => vint_Get.mono _ _ k) (get_law l p hb hl hp)
/-! ### Rows of bytes as numbers -/
def le : List Int → Nat
  | [] => 0
  | b :: bs => b.toNat + 256 * le bs
theorem le_append (a b : List Int) : le (a ++ b) = le a + 256 ^ a.length * le b := by
  induction a with
  | nil => simp [le]
  | cons x a ih =>
    simp only [List.cons_append, le, ih, List.length_cons, Nat.pow_succ]
    rw [Nat.mul_add, ← Nat.mul_assoc, Nat.mul_comm 256 (256 ^ a.length)]
    omega
theorem le_lt {a : List Int} (h : Bys a) : le a < 256 ^ a.length := by
  induction a with
  | nil => simp [le]
  | cons x a ih =>
    obtain ⟨hx, ha⟩ := h.cons
    have := ih ha
    simp only [le, List.length_cons, Nat.pow_succ]
    omega
theorem le_div {a : List Int} (h : Bys a) (i : Nat) : le a / 256 ^ i = le (a.drop i) := by
  rcases Nat.lt_or_ge a.length i with hi | hi
  · rw [List.drop_of_length_le (by omega)]
    refine Nat.div_eq_of_lt (Nat.lt_of_lt_of_le (le_lt h) (Nat.pow_le_pow_right (by decide) (by omega)))
  · have e : le a = le (a.take i) + 256 ^ i * le (a.drop i) := by
      conv => lhs; rw [← List.take_append_drop i a, le_append]
      rw [List.length_take, Nat.min_eq_left hi]
    have h1 := le_lt (h.take i)
    rw [List.length_take, Nat.min_eq_left hi] at h1
    rw [e, Nat.add_mul_div_left _ _ (Nat.pow_pos (by decide)), Nat.div_eq_of_lt h1, Nat.zero_add]
theorem le_get {a : List Int} (h : Bys a) {i : Nat} (hi : i < a.length) : le a / 256 ^ i % 256 = a[i].toNat := by
  rw [le_div h, List.drop_eq_getElem_cons hi]
  have := h a[i] (List.getElem_mem hi)
  simp only [le]
  omega
theorem le_set (a : List Int) (i : Nat) (x : Int) (hi : i < a.length) : le (a.set i x) + a[i].toNat * 256 ^ i = le a + x.toNat * 256 ^ i := by
  induction a generalizing i with
  | nil => simp at hi
  | cons y a ih =>
    cases i with
    | zero => simp [le]; omega
    | succ i =>
      have := ih i (by simpa using hi)
      simp only [List.set_cons_succ, le, List.getElem_cons_succ, Nat.pow_succ]
      rw [← Nat.mul_assoc, ← Nat.mul_assoc]
      omega
theorem le_set_add {a : List Int} {i : Nat} (hi : i < a.length) (d : Nat) : le (a.set i ((a[i].toNat + d : Nat) : Int)) = le a + d * 256 ^ i := by
  have h1 := le_set a i ((a[i].toNat + d : Nat) : Int) hi
  rw [Int.toNat_natCast, Nat.add_mul] at h1
  omega
theorem Bys.set {a : List Int} (h : Bys a) {i : Nat} {x : Int} (hx : 0 ≤ x ∧ x < 256) : Bys (a.set i x) := fun y hy => by
  rcases List.mem_or_eq_of_mem_set hy with hy | rfl
  · exact h y hy
  · exact hx
theorem Bys.zeros (n : Nat) : Bys (List.replicate n 0) := fun x hx => by
  rw [List.eq_of_mem_replicate hx]; omega
theorem le_zeros (n : Nat) : le (List.replicate n 0) = 0 := by
  induction n with
  | zero => rfl
  | succ n ih => simp [List.replicate_succ, le, ih]
/-- The n lowest bytes of a number. -/
def digits : Nat → Nat → List Int
  | 0, _ => []
  | n + 1, N => ((N % 256 : Nat) : Int) :: digits n (N / 256)
theorem digits_le {x : List Int} (h : Bys x) : digits x.length (le x) = x := by
  induction x with
  | nil => rfl
  | cons b x ih =>
    obtain ⟨hb, hx⟩ := h.cons
    simp only [List.length_cons, digits, le]
    rw [show (b.toNat + 256 * le x) / 256 = le x from by omega, ih hx]
    congr 1
    omega
theorem digits_length (n N : Nat) : (digits n N).length = n := by
  induction n generalizing N with
  | zero => rfl
  | succ n ih => simp [digits, ih]
theorem digits_bys (n N : Nat) : Bys (digits n N) := by
  induction n generalizing N with
  | zero => intro x hx; simp [digits] at hx
  | succ n ih =>
    intro x hx
    rcases List.mem_cons.1 hx with rfl | hx
    · omega
    · exact ih _ x hx
theorem le_digits (n N : Nat) : le (digits n N) = N % 256 ^ n := by
  induction n generalizing N with
  | zero => simp [digits, le, Nat.mod_one]
  | succ n ih =>
    simp only [digits, le, ih, Int.toNat_natCast]
    rw [Nat.pow_succ, Nat.mul_comm (256 ^ n) 256, Nat.mod_mul]
theorem pow256 (q : Nat) : 256 ^ q = 2 ^ (8 * q) := by rw [show (256 : Nat) = 2 ^ 8 from rfl, ← Nat.pow_mul]

/-! ### Numbers of w bits -/
def packN (w : Nat) : List Int → Nat
  | [] => 0
  | u :: us => u.toNat + 2 ^ w * packN w us
/-- Numbers below 2 to the w. -/
def Fit (w : Nat) (us : List Int) : Prop := ∀ u ∈ us, 0 ≤ u ∧ u < 2 ^ w
theorem Fit.cons {w : Nat} {u : Int} {us : List Int} (h : Fit w (u :: us)) : (0 ≤ u ∧ u.toNat < 2 ^ w) ∧ Fit w us := by
  refine ⟨?_, fun y hy => h y (by simp [hy])⟩
  have h1 := h u (by simp)
  refine ⟨h1.1, ?_⟩
  obtain ⟨n, rfl⟩ := Int.eq_ofNat_of_zero_le h1.1
  have := h1.2
  rw [Int.toNat_natCast]
  exact_mod_cast this
theorem Fit.take {w : Nat} {us : List Int} (h : Fit w us) (n : Nat) : Fit w (us.take n) := fun x hx => h x (List.mem_of_mem_take hx)
theorem packN_snoc (w : Nat) (us : List Int) (u : Int) : packN w (us ++ [u]) = packN w us + u.toNat * 2 ^ (w * us.length) := by
  induction us with
  | nil => simp [packN]
  | cons x us ih =>
    simp only [List.cons_append, packN, ih, List.length_cons]
    rw [Nat.mul_add, Nat.add_assoc]
    congr 2
    rw [Nat.mul_add w us.length 1, Nat.mul_one, Nat.pow_add, Nat.mul_comm (2 ^ (w * us.length)) (2 ^ w), ← Nat.mul_assoc, ← Nat.mul_assoc, Nat.mul_comm (2 ^ w) u.toNat]
theorem packN_lt {w : Nat} {us : List Int} (h : Fit w us) : packN w us < 2 ^ (w * us.length) := by
  induction us with
  | nil => simp [packN]
  | cons u us ih =>
    obtain ⟨hu, hus⟩ := h.cons
    have h1 := ih hus
    simp only [packN, List.length_cons]
    rw [Nat.mul_add w us.length 1, Nat.mul_one, Nat.pow_add, Nat.mul_comm (2 ^ (w * us.length)) (2 ^ w)]
    have h2 : 2 ^ w * (packN w us + 1) ≤ 2 ^ w * 2 ^ (w * us.length) := Nat.mul_le_mul_left _ h1
    rw [Nat.mul_add] at h2
    omega
theorem packN_get {w : Nat} {us : List Int} (h : Fit w us) {i : Nat} (hi : i < us.length) : packN w us / 2 ^ (w * i) % 2 ^ w = us[i].toNat := by
  induction us generalizing i with
  | nil => simp at hi
  | cons u us ih =>
    obtain ⟨hu, hus⟩ := h.cons
    cases i with
    | zero => simp only [packN, Nat.mul_zero, Nat.pow_zero, Nat.div_one, List.getElem_cons_zero, Nat.add_mul_mod_self_left]; exact Nat.mod_eq_of_lt hu.2
    | succ i =>
      have := ih hus (by simpa using hi)
      simp only [packN, List.getElem_cons_succ]
      rw [Nat.mul_add w i 1, Nat.mul_one, Nat.add_comm (w * i) w, Nat.pow_add, ← Nat.div_div_eq_div_mul, Nat.add_mul_div_left _ _ (Nat.pow_pos (by decide)), Nat.div_eq_of_lt hu.2, Nat.zero_add]
      exact this
/-- The numbers' bytes. -/
def packS (w : Nat) (us : List Int) : List Int := digits ((w * us.length + 7) / 8) (packN w us)

theorem byte_lt {out : List Int} (hb : Bys out) {p q r : Nat} (hp : p = 8 * q + r) (hq : q < out.length) (hX : le out < 2 ^ p) : out[q].toNat < 2 ^ r := by
  rw [← le_get hb hq]
  refine Nat.lt_of_le_of_lt (Nat.mod_le _ _) (Nat.div_lt_of_lt_mul ?_)
  rw [pow256, ← Nat.pow_add, ← hp]
  exact hX

theorem wraps_i64 (n : Int) (h₀ : 0 ≤ n) (h₁ : n < 2 ^ 62) : IntKind.i64.wrap n = n := by rw [IntKind.wrap_i64]; omega
theorem and7 (p : Nat) (h : p < 4611686018427387904) : Go.bits .and .i64 (p : Int) 7 = ((p % 8 : Nat) : Int) := by
  have := bits_mask .i64 62 (by decide) wraps_i64 3 (by decide) (p : Int) (by omega) (by omega)
  have h2 : Go.bits .and .i64 (p : Int) 7 = (p : Int) % 8 := by simpa using this
  omega
theorem pow_le8 {t : Nat} (h : t ≤ 8) : 2 ^ t ≤ 256 := Nat.pow_le_pow_right (n := 2) (by decide) h
theorem mask64 {v t : Nat} (ht : t ≤ 8) (hv : v < 18446744073709551616) : Go.bits .and .u64 (v : Int) (IntKind.u64.wrap ((shl .u64 1 (t : Int)) - 1)) = ((v % 2 ^ t : Nat) : Int) := by
  have h1 := pow_le8 ht
  have h0 : 0 < 2 ^ t := Nat.pow_pos (by decide)
  have e1 : shl .u64 1 (t : Int) = ((2 ^ t : Nat) : Int) := by
    unfold shl
    rw [show min ((t : Nat) : Int).toNat IntKind.u64.bits = t from by simp [IntKind.bits]; omega, Int.one_mul, show ((2 : Int) ^ t) = ((2 ^ t : Nat) : Int) from by simp]
    exact wraps_u64 _ (by omega) (by omega)
  rw [e1, wraps_u64 _ (by omega) (by omega), show (((2 ^ t : Nat) : Int) - 1) = (2 : Int) ^ t - 1 from by simp, bits_mask .u64 64 (by decide) wraps_u64 t (by omega) (v : Int) (by omega) (by omega)]
  simp
theorem pack_byte {b v r t : Nat} (hr : r < 8) (ht : t + r ≤ 8) (hb : b < 2 ^ r) (hv : v < 18446744073709551616) :
    Go.bits .or .u8 (b : Int) (shl .u8 ((Go.bits .and .u64 (v : Int) (IntKind.u64.wrap ((shl .u64 1 (t : Int)) - 1))) % 256) (r : Int)) = ((b + v % 2 ^ t * 2 ^ r : Nat) : Int) ∧ b + v % 2 ^ t * 2 ^ r < 256 := by
  have h1 := pow_le8 (t := t) (by omega)
  have h0 : 0 < 2 ^ t := Nat.pow_pos (by decide)
  have h2 : v % 2 ^ t < 2 ^ t := Nat.mod_lt _ h0
  have h3 : (v % 2 ^ t + 1) * 2 ^ r ≤ 2 ^ t * 2 ^ r := Nat.mul_le_mul_right _ h2
  rw [← Nat.pow_add] at h3
  have h4 := pow_le8 ht
  rw [Nat.add_mul, Nat.one_mul] at h3
  have hr8 := pow_le8 (t := r) (by omega)
  refine ⟨?_, by omega⟩
  rw [mask64 (by omega) hv, show ((v % 2 ^ t : Nat) : Int) % 256 = ((v % 2 ^ t : Nat) : Int) from by omega]
  have e2 : shl .u8 ((v % 2 ^ t : Nat) : Int) (r : Int) = ((v % 2 ^ t * 2 ^ r : Nat) : Int) := by
    unfold shl
    rw [show min ((r : Nat) : Int).toNat IntKind.u8.bits = r from by simp [IntKind.bits]; omega, show ((v % 2 ^ t : Nat) : Int) * 2 ^ r = ((v % 2 ^ t * 2 ^ r : Nat) : Int) from by simp]
    exact wraps_u8 _ (by omega) (by omega)
  rw [e2, bits_join_low .u8 8 (by decide) wraps_u8 r _ _ (by omega) (by exact_mod_cast hb) (by omega) (by omega) ?_ (by omega)]
  · omega
  · have : (v % 2 ^ t * 2 ^ r) % 2 ^ r = 0 := Nat.mul_mod_left _ _
    exact_mod_cast this
theorem shr64 {v t : Nat} (ht : t ≤ 64) : shr .u64 (v : Int) (t : Int) = ((v / 2 ^ t : Nat) : Int) := by
  unfold shr
  rw [show min ((t : Nat) : Int).toNat IntKind.u64.bits = t from by simp [IntKind.bits]; omega]
  simp
/-- How many bits are taken. -/
theorem mn_nat (a b : Nat) : mn (a : Int) (b : Int) = ((min a b : Nat) : Int) := by
  unfold mn
  split <;> omega

theorem split_low (v t : Nat) : v % 2 ^ t + v / 2 ^ t * 2 ^ t = v := by
  have := Nat.mod_add_div v (2 ^ t)
  rw [Nat.mul_comm] at this
  exact this

set_option maxHeartbeats 2000000 in
theorem pack_in (w us len i) : ∀ (n left : Nat), left ≤ n → ∀ (out : List Int) (p v : Nat), Bys out → le out < 2 ^ p → p + left ≤ 8 * out.length → v < 2 ^ left → left ≤ 64 → p + left < 1099511627776 →
    ∃ out', Bys out' ∧ out'.length = out.length ∧ le out' = le out + v * 2 ^ p ∧ ∀ res, Ev (fun k => bits_Pack.l0 k w out' ((p + left : Nat) : Int) us len (wrap64 (i + 1))) res → Ev (fun k => bits_Pack.l1 k w out (p : Int) (v : Int) (left : Int) us len i) res := by
  intro n
  induction n with
  | zero =>
    intro left hn out p v hb hX hlen hv h64 hp
    obtain rfl : left = 0 := by omega
    have hv0 : v = 0 := by simpa using hv
    subst hv0
    refine ⟨out, hb, rfl, by simp, fun res h => Ev.step (fun k => ?_) h⟩
    rw [bits_Pack.l1, if_neg (by omega), Nat.add_zero]
  | succ n ih =>
    intro left hn out p v hb hX hlen hv h64 hp
    rcases Nat.eq_zero_or_pos left with h0 | h0
    · subst h0
      have hv0 : v = 0 := by simpa using hv
      subst hv0
      refine ⟨out, hb, rfl, by simp, fun res h => Ev.step (fun k => ?_) h⟩
      rw [bits_Pack.l1, if_neg (by omega), Nat.add_zero]
    · obtain ⟨q, hq⟩ : ∃ q, q = p / 8 := ⟨_, rfl⟩
      obtain ⟨r, hr⟩ : ∃ r, r = p % 8 := ⟨_, rfl⟩
      obtain ⟨t, ht⟩ : ∃ t, t = min (8 - r) left := ⟨_, rfl⟩
      have hpq : p = 8 * q + r := by omega
      have hql : q < out.length := by omega
      have hv64 : v < 18446744073709551616 := Nat.lt_of_lt_of_le hv (Nat.pow_le_pow_right (by decide) h64)
      have hbl := byte_lt hb hpq hql hX
      have hpb := pack_byte (b := out[q].toNat) (v := v) (r := r) (t := t) (by omega) (by omega) hbl hv64
      have hby := hb out[q] (List.getElem_mem hql)
      have hset := le_set_add hql (v % 2 ^ t * 2 ^ r)
      have e256 : v % 2 ^ t * 2 ^ r * 256 ^ q = v % 2 ^ t * 2 ^ p := by rw [pow256, Nat.mul_assoc, ← Nat.pow_add, hpq, Nat.add_comm]
      rw [e256] at hset
      have hvt : v % 2 ^ t < 2 ^ t := Nat.mod_lt _ (Nat.pow_pos (by decide))
      have hX' : le (out.set q ((out[q].toNat + v % 2 ^ t * 2 ^ r : Nat) : Int)) < 2 ^ (p + t) := by
        have h3 : (v % 2 ^ t + 1) * 2 ^ p ≤ 2 ^ t * 2 ^ p := Nat.mul_le_mul_right _ hvt
        rw [Nat.add_mul, Nat.one_mul] at h3
        rw [hset, Nat.pow_add, Nat.mul_comm (2 ^ p)]
        omega
      have hvl : v / 2 ^ t < 2 ^ (left - t) := by
        refine Nat.div_lt_of_lt_mul ?_
        rw [← Nat.pow_add, show t + (left - t) = left from by omega]
        exact hv
      obtain ⟨out', k1, k2, k3, k4⟩ := ih (left - t) (by omega) (out.set q ((out[q].toNat + v % 2 ^ t * 2 ^ r : Nat) : Int)) (p + t) (v / 2 ^ t) (hb.set (by omega)) hX' (by simp; omega) hvl (by omega) (by omega)
      refine ⟨out', k1, by simpa using k2, ?_, fun res h => ?_⟩
      · rw [k3, hset, Nat.pow_add, Nat.add_assoc]
        congr 1
        have := split_low v t
        conv => rhs; rw [← this, Nat.add_mul]
        congr 1
        rw [Nat.mul_comm (2 ^ p) (2 ^ t), Nat.mul_assoc]
      · refine Ev.step (g := fun k => bits_Pack.l1 k w (out.set q ((out[q].toNat + v % 2 ^ t * 2 ^ r : Nat) : Int)) ((p + t : Nat) : Int) ((v / 2 ^ t : Nat) : Int) ((left - t : Nat) : Int) us len i) (fun k => ?_) (k4 res (by rw [show p + t + (left - t) = p + left from by omega]; exact h))
        have ea : Go.bits .and .i64 (p : Int) 7 = (r : Int) := by rw [and7 p (by omega), ← hr]
        have em : mn (wrap64 (8 - (r : Int))) (left : Int) = (t : Int) := by
          rw [w64 (by omega) (by omega), show (8 : Int) - r = ((8 - r : Nat) : Int) from by omega, mn_nat, ← ht]
        have eq : (p : Int) / 8 = (q : Int) := by omega
        have et : IntKind.u64.wrap (t : Int) = (t : Int) := wraps_u64 _ (by omega) (by omega)
        have er : IntKind.u64.wrap (r : Int) = (r : Int) := wraps_u64 _ (by omega) (by omega)
        have ey : rd out (q : Int) = ((out[q].toNat : Nat) : Int) := by rw [rd_at hql]; omega
        rw [bits_Pack.l1, if_pos (by omega), ea, em, eq, et, er, if_pos (by omega), if_pos (by omega), if_pos (by omega), if_pos (by omega), ey, hpb.1, shr64 (by omega), Int.toNat_natCast,
          show wrap64 ((p : Int) + t) = ((p + t : Nat) : Int) from by rw [w64 (by omega) (by omega)]; omega, show wrap64 ((left : Int) - t) = ((left - t : Nat) : Int) from by rw [w64 (by omega) (by omega)]; omega]

theorem pack_out {w : Nat} (hw : w ≤ 64) {us : List Int} (hf : Fit w us) (hl : us.length ≤ 4096) : ∀ (n i : Nat) (out : List Int), i + n = us.length → Bys out → out.length = (w * us.length + 7) / 8 → le out = packN w (us.take i) →
    Ev (fun k => bits_Pack.l0 k (w : Int) out ((w * i : Nat) : Int) us (us.length : Int) (i : Int)) (packS w us, 0) := by
  intro n
  induction n with
  | zero =>
    intro i out h hb hlen hX
    refine Ev.step (fun k => ?_) (Ev.now _)
    rw [bits_Pack.l0, if_neg (by omega)]
    rw [List.take_of_length_le (by omega)] at hX
    rw [← digits_le hb, hlen, hX]
    rfl
  | succ n ih =>
    intro i out h hb hlen hX
    have hi : i < us.length := by omega
    have hu := (hf us[i] (List.getElem_mem hi))
    have hu2 : us[i].toNat < 2 ^ w := by
      obtain ⟨m, hm⟩ := Int.eq_ofNat_of_zero_le hu.1
      rw [hm] at hu ⊢
      rw [Int.toNat_natCast]
      exact_mod_cast hu.2
    have hwi : w * i ≤ 64 * 4096 := Nat.mul_le_mul hw (by omega)
    have hwl : w * i + w ≤ w * us.length := by
      have : w * (i + 1) ≤ w * us.length := Nat.mul_le_mul_left _ hi
      rwa [Nat.mul_add, Nat.mul_one] at this
    have hlt := packN_lt (hf.take i)
    rw [← hX, List.length_take, Nat.min_eq_left (by omega)] at hlt
    obtain ⟨out', k1, k2, k3, k4⟩ := pack_in (w : Int) us (us.length : Int) (i : Int) w w (Nat.le_refl _) out (w * i) us[i].toNat hb hlt (by omega) hu2 hw (by omega)
    refine Ev.step (g := fun k => bits_Pack.l1 k (w : Int) out ((w * i : Nat) : Int) ((us[i].toNat : Nat) : Int) (w : Int) us (us.length : Int) (i : Int)) (fun k => ?_) (k4 _ ?_)
    · rw [bits_Pack.l0, if_pos (by omega), if_pos (by omega), if_pos (by omega), rd_at hi, Int.toNat_of_nonneg hu.1]
    · rw [w64s i (by omega), show w * i + w = w * (i + 1) from by rw [Nat.mul_add, Nat.mul_one]]
      refine ih (i + 1) out' (by omega) k1 (by omega) ?_
      rw [k3, hX, ← take_snoc us i hi, packN_snoc, List.length_take, Nat.min_eq_left (by omega)]

/-! ### Width -/
theorem or_lt {w : Nat} (hw : w ≤ 64) {us : List Int} (hf : Fit w us) : ∀ (n i a : Nat), i + n = us.length → us.length ≤ 9223372036854775806 → a < 2 ^ w → ∃ b : Nat, b < 2 ^ w ∧ Ev (fun k => bits_Width.l0 k (a : Int) us (us.length : Int) (i : Int)) ((Lib.bitLen b : Nat) : Int) := by
  have hp : 2 ^ w ≤ 18446744073709551616 := Nat.pow_le_pow_right (n := 2) (by decide) hw
  intro n
  induction n with
  | zero =>
    intro i a h hl ha
    refine ⟨a, ha, Ev.step (fun k => ?_) (Ev.now _)⟩
    rw [bits_Width.l0, if_neg (by omega)]
    unfold bits_Len64.f
    rw [if_pos (by omega), if_pos (by omega), Option.bind_some, Int.toNat_natCast]
  | succ n ih =>
    intro i a h hl ha
    have hi : i < us.length := by omega
    have hu := (hf us[i] (List.getElem_mem hi))
    have hu2 : us[i].toNat < 2 ^ w := by
      obtain ⟨m, hm⟩ := Int.eq_ofNat_of_zero_le hu.1
      rw [hm] at hu ⊢
      rw [Int.toNat_natCast]
      exact_mod_cast hu.2
    obtain ⟨b, hb, he⟩ := ih (i + 1) (a ||| us[i].toNat) (by omega) hl (Nat.or_lt_two_pow ha hu2)
    refine ⟨b, hb, Ev.step (fun k => ?_) he⟩
    rw [bits_Width.l0, if_pos (by omega), if_pos (by omega), if_pos (by omega), rd_at hi, w64s i (by omega)]
    have : Go.bits .or .u64 (a : Int) us[i] = ((a ||| us[i].toNat : Nat) : Int) := by
      conv => lhs; rw [← Int.toNat_of_nonneg hu.1]
      exact bits_or_u64_nat a us[i].toNat (by omega) (by omega)
    rw [this]
theorem width_le {w : Nat} (hw : w ≤ 64) {us : List Int} (hf : Fit w us) (hl : us.length ≤ 9223372036854775806) : ∃ b : Nat, b ≤ w ∧ Ev (fun k => bits_Width.f k us) (b : Int) := by
  obtain ⟨b, hb, he⟩ := or_lt hw hf us.length 0 0 (by omega) hl (Nat.pow_pos (by decide))
  exact ⟨_, Lib.bitLen_le b w hw hb, he⟩
theorem width_one (x : Nat) (hx : x < 18446744073709551616) : Ev (fun k => bits_Width.f k [(x : Int)]) ((Lib.bitLen x : Nat) : Int) := by
  refine Ev.step (g := fun k => bits_Width.l0 k (x : Int) [(x : Int)] 1 1) (fun k => ?_) (Ev.step (fun k => ?_) (Ev.now _))
  · unfold bits_Width.f
    rw [bits_Width.l0, if_pos (by simp), if_pos (by simp), if_pos (by simp)]
    have : Go.bits .or .u64 (0 : Int) (x : Int) = (x : Int) := by
      have := bits_or_u64_nat 0 x (by omega) hx
      simpa using this
    rw [show rd [(x : Int)] 0 = x from rfl, this, show wrap64 (0 + 1) = 1 from by rw [w64 (by omega) (by omega)]; rfl]
    rfl
  · rw [bits_Width.l0, if_neg (by omega)]
    unfold bits_Len64.f
    rw [if_pos (by omega), if_pos (by omega), Option.bind_some, Int.toNat_natCast]
/-- The width of the numbers of n entries. -/
def wid (n : Nat) : Nat := Lib.bitLen (n - 1)
theorem wid_le (n : Nat) (h : n ≤ 4096) : wid n ≤ 12 := Lib.bitLen_le _ 12 (by decide) (by omega)
theorem dwidth_law (n : Nat) (hn : n ≤ 4611686018427387904) : Ev (fun k => dict_width.f k (n : Int)) ((wid n : Nat) : Int) := by
  have e : IntKind.u64.wrap (mx (wrap64 ((n : Int) - 1)) 0) = ((n - 1 : Nat) : Int) := by
    rw [w64 (by omega) (by omega)]
    unfold mx
    split
    · rw [wraps_u64 _ (by omega) (by omega)]; omega
    · rw [wraps_u64 _ (by omega) (by omega)]; omega
  refine Ev.same (g := fun k => (bits_Width.f k [((n - 1 : Nat) : Int)]).bind fun t => some t) (fun k => ?_) (Ev.bind (width_one (n - 1) (by omega)) (Ev.now _))
  unfold dict_width.f
  rw [e]

theorem ppack {w : Nat} (hw : w ≤ 64) {us : List Int} (hf : Fit w us) (hl : us.length ≤ 4096) : Ev (fun k => bits_Pack.f k (w : Int) us) (packS w us, 0) := by
  obtain ⟨b, hb, he⟩ := width_le hw hf (by omega)
  have hwl : w * us.length ≤ 64 * 4096 := Nat.mul_le_mul hw hl
  have hmain := pack_out hw hf hl us.length 0 (List.replicate ((w * us.length + 7) / 8) 0) (by omega) (Bys.zeros _) (by simp) (by rw [le_zeros]; rfl)
  refine Ev.same (g := fun k => (bits_Width.f k us).bind fun t => if t > (w : Int) then some (([] : List Int), 10) else bits_Pack.l0 k (w : Int) (List.replicate ((w * us.length + 7) / 8) 0) 0 us (us.length : Int) 0) (fun k => ?_) (Ev.bind he (Ev.same (fun k => ?_) hmain))
  · unfold bits_Pack.f
    unfold bits_badWidth.f
    have e1 : bits_need.f (w : Int) (us.length : Int) = some ((((w * us.length + 7) / 8 : Nat)) : Int) := by
      unfold bits_need.f
      rw [← Int.natCast_mul, w64 (n := ((w * us.length : Nat) : Int)) (by omega) (by omega), w64 (n := ((w * us.length : Nat) : Int) + 7) (by omega) (by omega), Int.tdiv_eq_ediv_of_nonneg (by omega), w64 (by omega) (by omega)]
      congr 1
    rw [if_neg (by omega), Option.bind_some, if_neg (by simp; omega), if_neg (by omega), e1]
    simp only [Option.bind_some]
    rw [if_pos (by omega), Int.toNat_natCast, if_pos (by omega)]
  · rw [if_neg (by omega)]
    rfl

/-! ### The reference's Width -/
theorem rw_in (us) : ∀ (f v c m i : Nat), v < 2 ^ f → f ≤ 64 → c + f < 1000 → ∀ res, Ev (fun k => stoaref01_Width.l0 k us (((max m (c + Lib.bitLen v) : Nat)) : Int) (wrap64 (i + 1))) res → Ev (fun k => stoaref01_Width.l1 k us (m : Int) (i : Int) (c : Int) (v : Int)) res := by
  intro f
  induction f with
  | zero =>
    intro v c m i hv hf hc res h
    obtain rfl : v = 0 := by simpa using hv
    refine Ev.step (fun k => ?_) h
    rw [stoaref01_Width.l1, if_neg (by omega), show Lib.bitLen 0 = 0 from rfl, Nat.add_zero]
    by_cases h1 : (c : Int) > (m : Int)
    · rw [if_pos h1, Nat.max_eq_right (by omega)]
    · rw [if_neg h1, Nat.max_eq_left (by omega)]
  | succ f ih =>
    intro v c m i hv hf hc res h
    have hp : 2 ^ (f + 1) ≤ 18446744073709551616 := Nat.pow_le_pow_right (n := 2) (by decide) hf
    by_cases h0 : v = 0
    · subst h0
      refine Ev.step (fun k => ?_) h
      rw [stoaref01_Width.l1, if_neg (by omega), show Lib.bitLen 0 = 0 from rfl, Nat.add_zero]
      by_cases h1 : (c : Int) > (m : Int)
      · rw [if_pos h1, Nat.max_eq_right (by omega)]
      · rw [if_neg h1, Nat.max_eq_left (by omega)]
    · have hh := Lib.bitLen_half v h0 (by omega)
      refine Ev.step (fun k => ?_) (ih (v / 2) (c + 1) m i (by rw [Nat.pow_succ] at hv; omega) (by omega) (by omega) res (by rw [show c + 1 + Lib.bitLen (v / 2) = c + Lib.bitLen v from by omega]; exact h))
      rw [stoaref01_Width.l1, if_pos (by omega), w64s c (by omega), Int.tdiv_eq_ediv_of_nonneg (by omega), wraps_u64 _ (by omega) (by omega), show (v : Int) / 2 = ((v / 2 : Nat) : Int) from by omega]
theorem rw_out {w : Nat} (hw : w ≤ 64) {us : List Int} (hf : Fit w us) (hl : us.length ≤ 9223372036854775806) : ∀ (n i m : Nat), i + n = us.length → m ≤ w → ∃ b : Nat, b ≤ w ∧ Ev (fun k => stoaref01_Width.l0 k us (m : Int) (i : Int)) (b : Int) := by
  intro n
  induction n with
  | zero =>
    intro i m h hm
    refine ⟨m, hm, Ev.step (fun k => ?_) (Ev.now _)⟩
    rw [stoaref01_Width.l0, if_neg (by omega)]
  | succ n ih =>
    intro i m h hm
    have hi : i < us.length := by omega
    have hu := (hf us[i] (List.getElem_mem hi))
    have hu2 : us[i].toNat < 2 ^ w := by
      obtain ⟨m, hm⟩ := Int.eq_ofNat_of_zero_le hu.1
      rw [hm] at hu ⊢
      rw [Int.toNat_natCast]
      exact_mod_cast hu.2
    have hbl := Lib.bitLen_le _ w hw hu2
    obtain ⟨b, hb, he⟩ := ih (i + 1) (max m (0 + Lib.bitLen us[i].toNat)) (by omega) (by omega)
    refine ⟨b, hb, Ev.step (g := fun k => stoaref01_Width.l1 k us (m : Int) (i : Int) ((0 : Nat) : Int) ((us[i].toNat : Nat) : Int)) (fun k => ?_) (rw_in us 64 us[i].toNat 0 m i (Nat.lt_of_lt_of_le hu2 (Nat.pow_le_pow_right (by decide) hw)) (by omega) (by omega) _ ?_)⟩
    · rw [stoaref01_Width.l0, if_pos (by omega), if_pos (by omega), rd_at hi, Int.toNat_of_nonneg hu.1]
      rfl
    · rw [w64s i (by omega)]
      exact he
theorem rwidth_one (x : Nat) (hx : x < 18446744073709551616) : Ev (fun k => stoaref01_Width.f k [(x : Int)]) ((Lib.bitLen x : Nat) : Int) := by
  refine Ev.step (g := fun k => stoaref01_Width.l1 k [(x : Int)] ((0 : Nat) : Int) ((0 : Nat) : Int) ((0 : Nat) : Int) (x : Int)) (fun k => ?_) (rw_in [(x : Int)] 64 x 0 0 0 (by omega) (by omega) (by omega) _ ?_)
  · unfold stoaref01_Width.f
    rw [stoaref01_Width.l0, if_pos (by simp), if_pos (by simp)]
    rfl
  · refine Ev.step (fun k => ?_) (Ev.now _)
    rw [show wrap64 (((0 : Nat) : Int) + 1) = 1 from by rw [w64 (by omega) (by omega)]; rfl, stoaref01_Width.l0, if_neg (by simp)]
    simp
/-! ### The reference's Pack -/
theorem power_law (r : Nat) (hr : r ≤ 63) : Ev (fun k => stoaref01_power.f k (r : Int)) ((2 ^ r : Nat) : Int) := by
  have key : ∀ n i : Nat, i + n = r → Ev (fun k => stoaref01_power.l0 k (r : Int) ((2 ^ i : Nat) : Int) (i : Int)) ((2 ^ r : Nat) : Int) := by
    intro n
    induction n with
    | zero =>
      intro i h
      refine Ev.step (fun k => ?_) (Ev.now _)
      rw [stoaref01_power.l0, if_neg (by omega), show i = r from by omega]
    | succ n ih =>
      intro i h
      refine Ev.step (fun k => ?_) (ih (i + 1) (by omega))
      have h1 : 2 ^ (i + 1) ≤ 2 ^ 63 := Nat.pow_le_pow_right (by decide) (by omega)
      rw [stoaref01_power.l0, if_pos (by omega), w64s i (by omega)]
      rw [Nat.pow_succ] at h1 ⊢
      rw [wraps_u64 _ (by omega) (by omega)]
      congr 1
  exact key r 0 (by omega)
end Go.Proofs.Ytiijkehiphkkiaa.PD
