/-
  bytes.Compare; dict.entry; dict.texts.
-/
import Derived.Test.YtiijkehiphkkiaaKf
import Derived.Lib.BytesEntry
import Derived.Laws.Externs
namespace Go.Proofs.Ytiijkehiphkkiaa.PD
open Go.RowKit Go.Maps Go.Proofs.YtiijkehiphkkiaaW.PrintWords Go.Proofs.YtiijkehiphkkiaaW.PrintLast Go.Proofs.YtiijkehiphkkiaaW.PrintMore
set_option linter.unusedVariables false
set_option linter.unusedSimpArgs false

theorem run_bytesOf {P : Program} {w : World} {A : Option Addr} {n c : Nat} {xs : List Int} (h : Kd.C (Kd.int .u8) w A n xs) : (Extern.Bytes.bytesOf (.slice A n c)).run P w = .ok ⟨(keyL xs).toArray⟩ w := by
  have hx := h.1
  rcases A with _ | ad
  · have h0 : n = 0 := by
      rcases Nat.eq_zero_or_pos n with h0 | h0
      · exact h0
      · obtain ⟨ad, h, _⟩ := h.2.2 h0; cases h
    obtain rfl : xs = [] := List.eq_nil_of_length_eq_zero (by omega)
    rfl
  · have hl := Lib.run_loadBytesX (P := P) w xs ad .empty (fun j x hj => by
      obtain ⟨hjl, rfl⟩ := List.getElem?_eq_some_iff.1 hj
      obtain ⟨ad', e, hc⟩ := Kd.at_int h (j : Int) (by omega) (by omega)
      injection e with e
      subst e
      rw [rd_at hjl, Int.toNat_natCast] at hc
      exact hc)
    rw [hx] at hl
    have he : (⟨ByteArray.empty.data ++ (Lib.bytesOf xs).toArray⟩ : ByteArray) = ⟨(keyL xs).toArray⟩ := by
      apply ByteArray.ext
      show (#[] : Array UInt8) ++ (Lib.bytesOf xs).toArray = (keyL xs).toArray
      simp
      rfl
    rw [he] at hl
    exact hl
theorem run_compare {P : Program} {w : World} {A B : Option Addr} {n c m d : Nat} {xs ys : List Int} (h : Kd.C (Kd.int .u8) w A n xs) (k : Kd.C (Kd.int .u8) w B m ys) :
    (Extern.BytealgCompare.compare #[.slice A n c, .slice B m d]).run P w = .ok (.int .i64 (Lib.compareBytes (keyL xs) (keyL ys))) w := by
  change Sem.run P (do pure (goInt (Extern.BytealgCompare.cmp (← Extern.Bytes.bytesOf (.slice A n c)) (← Extern.Bytes.bytesOf (.slice B m d))))) w = _
  simp only [Sem.run_bind, run_bytesOf h, run_bytesOf k, Sem.run_pure, Result.andThen]
  rw [Lib.cmp_eq]
  rfl
theorem compare_law {xs ys : List Int} (hx : Bys xs) (hy : Bys ys) : Lib.compareBytes (keyL xs) (keyL ys) = cmpL xs ys := by
  induction xs generalizing ys with
  | nil => cases ys <;> rfl
  | cons x xs ih => cases ys with
    | nil => rfl
    | cons y ys =>
      obtain ⟨h1, h2⟩ := hx.cons
      obtain ⟨h3, h4⟩ := hy.cons
      have := ih h2 h4
      simp only [keyL, List.map_cons, Lib.compareBytes, cmpL, of_lt h1 h3, of_lt h3 h1] at *
      rw [this]
set_option maxHeartbeats 2000000 in
set_option maxRecDepth 1000000 in
theorem bytes_Compare_any (A B : Option Addr) (n c m d : Nat) (xs ys : List Int) (w : World) (h : Kd.C (Kd.int .u8) w A n xs) (k : Kd.C (Kd.int .u8) w B m ys) (hx : Bys xs) (hy : Bys ys) :
    Calls Try.prog 101 #[.slice A n c, .slice B m d] w fun e w' => e = .returned (.int .i64 (cmpL xs ys)) ∧ w' = w := by
  go_enter Try.func101, Try.ntmps101
  go_wp2
  rw [run_callFunc_extern Try.func115 (by kernel_rfl) (by kernel_rfl) (by kernel_rfl) (e := Extern.BytealgCompare.compare) (by kernel_rfl), run_compare h k, compare_law hx hy]
  simp only [Result.andThen]
  rw [Oper.upon_value]
  go_wp2
  go_ret
  exact ⟨rfl, rfl⟩

/-- An entry from place p on, behind y. -/
def entryS (l : List Int) (p : Nat) (y : List Int) (first : Bool) : List Int × Nat × Int :=
  if (textS l p).2.2 = 0 then (if first = false ∧ cmpL (textS l p).1 y ≤ 0 then ([], 0, 5) else textS l p) else ([], 0, (textS l p).2.2)

set_option maxHeartbeats 1000000 in
set_option maxRecDepth 100000 in
theorem dentry_any (A B : Option Addr) (c d : Nat) (l y : List Int) (p : Nat) (first : Bool) (w : World) (hC : Kd.C (Kd.int .u8) w A l.length l) (hc : l.length ≤ c) (hY : Kd.C (Kd.int .u8) w B y.length y) (hl : Bys l) (hy : Bys y) (hlen : l.length ≤ 140737488355328) (hp : p ≤ l.length) :
    Calls Try.prog 80 #[.slice A l.length c, .int .i64 p, .slice B y.length d, .bool first] w fun e w' => Drawn0 w w' ∧ ∃ A' c', e = .returned (.tuple #[.slice A' (entryS l p y first).1.length c', .int .i64 (entryS l p y first).2.1, .int .i64 (entryS l p y first).2.2]) ∧ (entryS l p y first).1.length ≤ c' ∧ ∀ w0, Kd.C (Kd.int .u8) w0 A l.length l → Kd.C (Kd.int .u8) w0 A' (entryS l p y first).1.length (entryS l p y first).1 := by
  obtain ⟨kg, hkg⟩ := (get_ev l p hl (by omega) hp).ex
  obtain ⟨v, hv⟩ : ∃ v, v = (vget l p).1 := ⟨_, rfl⟩
  obtain ⟨q, hq⟩ : ∃ q, q = (vget l p).2.1 := ⟨_, rfl⟩
  obtain ⟨e, he⟩ : ∃ e, e = (vget l p).2.2 := ⟨_, rfl⟩
  rw [← hv, ← hq, ← he] at hkg
  by_cases h1 : e = 0
  · have hle := vget_le hl (by rw [← he]; exact h1)
    rw [← hq] at hle
    subst h1
    by_cases h2 : 200 < v
    · have ht : entryS l p y first = ([], 0, 4) := by
        have htx : textS l p = ([], 0, 4) := by
          unfold textS
          rw [if_pos he.symm, if_pos (by omega)]
        unfold entryS
        rw [htx, if_neg (by simp)]
      rw [ht]
      go_enter Try.func80, Try.ntmps80
      go_wp2_with (first
        | (go_at_call 79; refine (vint_Get.calls kg A c l (p : Int) (v : Int) (q : Int) 0 w hC hc hkg).mono ?_; rintro e w1 ⟨rfl, hD⟩))
      go_ret3
      exact ⟨hD, _, _, rfl, by simp, fun _ _ => Kd.C_nil _ _⟩
    · by_cases h3 : l.length - q < v
      · have ht : entryS l p y first = ([], 0, 2) := by
          have htx : textS l p = ([], 0, 2) := by
            unfold textS
            rw [if_pos he.symm, if_neg (by omega), if_pos (by omega)]
          unfold entryS
          rw [htx, if_neg (by simp)]
        rw [ht]
        go_enter Try.func80, Try.ntmps80
        go_wp2_with (first
          | (go_at_call 79; refine (vint_Get.calls kg A c l (p : Int) (v : Int) (q : Int) 0 w hC hc hkg).mono ?_; rintro e w1 ⟨rfl, hD⟩))
        go_ret3
        exact ⟨hD, _, _, rfl, by simp, fun _ _ => Kd.C_nil _ _⟩
      · have htx : textS l p = ((l.drop q).take v, q + v, 0) := by
          unfold textS
          rw [if_pos he.symm, if_neg (by omega), if_neg (by omega), ← hq, ← hv]
        obtain ⟨i5, hi, hz0, hz1, hz2⟩ := info_parts info5
        have hcut := cut_mid (P := Try.prog) 55 5 .i64 .i64 Try.underlying55 hi 1 hz1 A l.length c (q : Int) ((q : Int) + (v : Int)) (by omega) (by omega) (by omega) hc
        have hmid0 : ∀ w0, Kd.C (Kd.int .u8) w0 A l.length l → Kd.C (Kd.int .u8) w0 (if c = q then A else A.map (·.add (q * 1))) ((l.take (q + v)).drop q).length ((l.take (q + v)).drop q) := fun w0 h0 => Kd.C_mid (lo := q) (hi := q + v) h0 (by omega) (by omega) hc
        rw [Int.toNat_natCast, show ((q : Int) + (v : Int)).toNat - q = v from by omega] at hcut
        obtain ⟨s, hs⟩ : ∃ s, s = (l.drop q).take v := ⟨_, rfl⟩
        have hsv : s.length = v := by rw [hs, List.length_take, List.length_drop]; omega
        rw [List.drop_take, Nat.add_sub_cancel_left, ← hs] at hmid0
        have hmid := hmid0 w hC
        rw [← hs] at htx
        have hsb : Bys s := by rw [hs]; exact (hl.drop _).take _
        generalize (if c = q then A else A.map (·.add (q * 1))) = A' at *
        clear hs hv hq he hi hz0 hz1 hz2
        have hA' : s.length ≤ c - q := by omega
        subst hsv
        have hgo : ∀ (f : Bool) (r : List Int × Nat × Int), (f = true → r = (s, q + s.length, 0)) → (f = false → r = if cmpL s y ≤ 0 then ([], 0, 5) else (s, q + s.length, 0)) →
            Calls Try.prog 80 #[.slice A l.length c, .int .i64 p, .slice B y.length d, .bool f] w fun e w' => Drawn0 w w' ∧ ∃ A' c', e = .returned (.tuple #[.slice A' r.1.length c', .int .i64 r.2.1, .int .i64 r.2.2]) ∧ r.1.length ≤ c' ∧ ∀ w0, Kd.C (Kd.int .u8) w0 A l.length l → Kd.C (Kd.int .u8) w0 A' r.1.length r.1 := by
          intro f r hr1 hr2
          cases f with
          | true =>
            rw [hr1 rfl]
            clear hr1 hr2 htx
            go_enter Try.func80, Try.ntmps80
            go_wp2_with (first
              | (go_at_call 79; refine (vint_Get.calls kg A c l (p : Int) ((s.length : Nat) : Int) (q : Int) 0 w hC hc hkg).mono ?_; rintro e w1 ⟨rfl, hD⟩; have hm1 := Kd.C_below hmid hD.below))
            go_ret3
            rw [show ((q + s.length : Nat) : Int) = (q : Int) + (s.length : Int) from by omega]
            exact ⟨hD, A', c - q, rfl, hA', hmid0⟩
          | false =>
            rw [hr2 rfl]
            clear hr1 hr2 htx
            by_cases h5 : cmpL s y ≤ 0
            · rw [if_pos h5]
              go_enter Try.func80, Try.ntmps80
              go_wp2_with (first
                | (go_at_call 79; refine (vint_Get.calls kg A c l (p : Int) ((s.length : Nat) : Int) (q : Int) 0 w hC hc hkg).mono ?_; rintro e w1 ⟨rfl, hD⟩; have hm1 := Kd.C_below hmid hD.below; have hY1 := Kd.C_below hY hD.below)
                | (go_at_call 101; refine (bytes_Compare_any A' B s.length (c - q) y.length d s y _ hm1 hY1 hsb hy).mono ?_; rintro e w2 ⟨rfl, rfl⟩))
              go_ret3
              exact ⟨hD, _, _, rfl, Nat.le_refl _, fun _ _ => Kd.C_nil _ _⟩
            · rw [if_neg h5]
              go_enter Try.func80, Try.ntmps80
              go_wp2_with (first
                | (go_at_call 79; refine (vint_Get.calls kg A c l (p : Int) ((s.length : Nat) : Int) (q : Int) 0 w hC hc hkg).mono ?_; rintro e w1 ⟨rfl, hD⟩; have hm1 := Kd.C_below hmid hD.below; have hY1 := Kd.C_below hY hD.below)
                | (go_at_call 101; refine (bytes_Compare_any A' B s.length (c - q) y.length d s y _ hm1 hY1 hsb hy).mono ?_; rintro e w2 ⟨rfl, rfl⟩))
              go_ret3
              rw [show ((q + s.length : Nat) : Int) = (q : Int) + (s.length : Int) from by omega]
              exact ⟨hD, A', c - q, rfl, hA', hmid0⟩
        refine hgo first (entryS l p y first) (fun h => ?_) (fun h => ?_)
        · unfold entryS
          rw [htx, if_pos rfl, if_neg (by simp [h])]
        · unfold entryS
          rw [htx, if_pos rfl]
          simp [h]
  · have ht : entryS l p y first = ([], 0, e) := by
      have htx : textS l p = ([], 0, e) := by
        unfold textS
        rw [← he, if_neg h1]
      unfold entryS
      rw [htx, if_neg h1]
    rw [ht]
    clear ht hv hq he
    go_enter Try.func80, Try.ntmps80
    go_wp2_with (first
      | (go_at_call 79; refine (vint_Get.calls kg A c l (p : Int) (v : Int) (q : Int) e w hC hc hkg).mono ?_; rintro e w1 ⟨rfl, hD⟩))
    go_ret3
    exact ⟨hD, _, _, rfl, by simp, fun _ _ => Kd.C_nil _ _⟩
end Go.Proofs.Ytiijkehiphkkiaa.PD
