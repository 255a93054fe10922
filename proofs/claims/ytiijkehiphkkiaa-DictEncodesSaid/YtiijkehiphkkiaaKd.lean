/-
  Rows as keys: a row of bytes as a string, its order; a map of strings to whole numbers.
-/
import Derived.Test.YtiijkehiphkkiaaKc
import Derived.Maps.OwnSet
import Derived.Sort.KeysCollected
import Derived.StringKeys
namespace Go.Proofs.Ytiijkehiphkkiaa.PD
open Go.RowKit Go.Maps Go.Proofs.YtiijkehiphkkiaaW.PrintWords
set_option linter.unusedVariables false
set_option linter.unusedSimpArgs false

/-- A row of bytes. -/
def Bys (xs : List Int) : Prop := ∀ x ∈ xs, 0 ≤ x ∧ x < 256
def keyL (xs : List Int) : List UInt8 := xs.map fun n => UInt8.ofNat n.toNat
theorem key_data (xs : List Int) : (strOfNums xs).data.toList = keyL xs := rfl
theorem enc_key (xs : List Int) : encStr (keyL xs) = .string (strOfNums xs) := rfl
theorem bytes_key {xs : List Int} (h : Bys xs) : bytesOf (strOfNums xs) = xs := by
  unfold bytesOf
  rw [strOfNums_data, List.map_map]
  conv => rhs; rw [← List.map_id xs]
  refine List.map_congr_left fun x hx => ?_
  have := h x hx
  simp only [Function.comp, UInt8.toNat_ofNat', id]
  omega
theorem of_lt {x y : Int} (hx : 0 ≤ x ∧ x < 256) (hy : 0 ≤ y ∧ y < 256) : UInt8.ofNat x.toNat < UInt8.ofNat y.toNat ↔ x < y := by
  rw [UInt8.lt_iff_toNat_lt, UInt8.toNat_ofNat', UInt8.toNat_ofNat']
  omega
theorem of_eq {x y : Int} (hx : 0 ≤ x ∧ x < 256) (hy : 0 ≤ y ∧ y < 256) (h : UInt8.ofNat x.toNat = UInt8.ofNat y.toNat) : x = y := by
  have := congrArg UInt8.toNat h
  rw [UInt8.toNat_ofNat', UInt8.toNat_ofNat'] at this
  omega
theorem key_inj {a b : List Int} (ha : Bys a) (hb : Bys b) (h : keyL a = keyL b) : a = b := by
  induction a generalizing b with
  | nil => cases b with
    | nil => rfl
    | cons y b => simp [keyL] at h
  | cons x a ih => cases b with
    | nil => simp [keyL] at h
    | cons y b =>
      simp only [keyL, List.map_cons, List.cons.injEq] at h
      rw [of_eq (ha x (by simp)) (hb y (by simp)) h.1, ih (fun z hz => ha z (by simp [hz])) (fun z hz => hb z (by simp [hz])) h.2]
theorem key_lt {a b : List Int} (ha : Bys a) (hb : Bys b) (h : cmpL a b < 0) : keyL a < keyL b := by
  induction a generalizing b with
  | nil => cases b with
    | nil => simp [cmpL] at h
    | cons y b => exact List.nil_lt_cons _ _
  | cons x a ih => cases b with
    | nil => simp [cmpL] at h
    | cons y b =>
      have hx := ha x (by simp)
      have hy := hb y (by simp)
      simp only [cmpL] at h
      refine List.cons_lt_cons_iff.2 ?_
      by_cases h1 : x < y
      · exact .inl ((of_lt hx hy).2 h1)
      · rw [if_neg h1] at h
        by_cases h2 : x > y
        · rw [if_pos h2] at h; omega
        · rw [if_neg h2] at h
          obtain rfl : x = y := by omega
          exact .inr ⟨rfl, ih (fun z hz => ha z (by simp [hz])) (fun z hz => hb z (by simp [hz])) h⟩
theorem keys_sorted {es : List (List Int)} (hs : Rising es) (hb : ∀ r ∈ es, Bys r) : (es.map keyL).Pairwise (fun a b => leB a b = true) := by
  refine List.pairwise_map.2 (hs.imp_of_mem fun {a b} ha hb' h => ?_)
  simp only [leB, decide_eq_true_eq]
  exact List.le_of_lt (key_lt (hb a ha) (hb b hb') h)
theorem keys_nodup {es : List (List Int)} (hs : Rising es) (hb : ∀ r ∈ es, Bys r) : (es.map keyL).Nodup := by
  refine List.pairwise_map.2 (hs.imp_of_mem fun {a b} ha hb' h e => ?_)
  rw [key_inj (hb a ha) (hb b hb') e, cmpL_self] at h
  omega
theorem sort_is {es : List (List Int)} (hs : Rising es) (hb : ∀ r ∈ es, Bys r) {ss : List (List UInt8)} (h : ss.Perm (es.map keyL)) : ss.mergeSort (fun x y => decide (x ≤ y)) = es.map keyL := by
  rw [mergeSort_of_perm h]
  exact List.mergeSort_of_pairwise (keys_sorted hs hb)

/-! ### A map of strings to whole numbers -/
theorem law9 : Keyed Try.prog 9 := string_keyed Try.underlying9
theorem zero3 (w : World) : (zeroValue 3).run Try.prog w = .ok (.int .i64 0) w := by kernel_rfl
/-- Block b is a map of at most n entries that holds just the rows of l as keys; a row's number is f's. -/
structure MapAt (w : World) (b n : Nat) (l : List (List Int)) (f : List Int → Int) : Prop where
  own : ∃ D : DataW Unit, w.ownsMap Try.prog 9 (plainElem Try.prog 3) b n D ∧ (∀ x, has D (.string x) = decide (x ∈ l.map keyL)) ∧
    (∀ s ∈ l, D.atKey (.string (keyL s)) (.lit (.int .i64 0)) = .lit (.int .i64 (f s)))
theorem MapAt.kept {w w' : World} {b n : Nat} {l f} (h : MapAt w b n l f) (hb : w'.heap[b]? = w.heap[b]?) : MapAt w' b n l f := by
  obtain ⟨⟨D, ⟨es, clock, h1, h2⟩, h3⟩⟩ := h
  exact ⟨⟨D, ⟨es, clock, hb.trans h1, h2⟩, h3⟩⟩
theorem MapAt.lt {w : World} {b n : Nat} {l f} (h : MapAt w b n l f) : b < w.heap.size := by
  obtain ⟨⟨D, h1, _⟩⟩ := h
  exact h1.lt
theorem MapAt.empty {w : World} {b : Nat} (f) (h : w.heap[b]? = some (.map #[] 0)) : MapAt w b 0 [] f :=
  ⟨⟨.map [], ⟨#[], 0, h, ⟨by simp, MapKept.stamped_empty 0, by simp⟩, Nat.le_refl _, rfl⟩, fun x => rfl, fun x h => absurd h (by simp)⟩⟩
theorem hasS_put {D : DataW Unit} (hD : IsMap D) (t x : List UInt8) (d : DataW Unit) : has (D.put (.string t) d) (.string x) = (decide (x = t) || has D (.string x)) := by
  by_cases e : x = t
  · subst e; rw [has_put_same hD (k := .string x) trivial]; simp
  · rw [has_put_other (fun h => e (by injection h))]; simp [e]
theorem atS_put {D : DataW Unit} (hD : IsMap D) (t x : List UInt8) (d z : DataW Unit) : (D.put (.string t) d).atKey (.string x) z = if x = t then d else D.atKey (.string x) z := by
  by_cases e : x = t
  · subst e; rw [atKey_put_same hD (k := .string x) trivial]; simp
  · rw [atKey_put_other (fun h => e (by injection h))]; simp [e]
theorem key_of (xs : List Int) (h : xs.length ≤ 9223372036854775807) : keyOf Try.prog 9 (.string (strOfNums xs)) = some (.string (keyL xs)) :=
  Go.WideMaps.keyOf_string_mk Try.underlying9 (by rw [strOfNums_size]; exact h)

end Go.Proofs.Ytiijkehiphkkiaa.PD
