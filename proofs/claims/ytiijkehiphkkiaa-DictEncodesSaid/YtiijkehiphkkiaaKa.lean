/-
  THE REFERENCE's PLAIN LAWS, first part: Copy, Same, Order, place, with.
-/
import Derived.Test.YtiijkehiphkkiaaD4
import Derived.Test.YtiijkehiphkkiaaD5
namespace Go.Proofs.Ytiijkehiphkkiaa.PD
open Go.RowKit Go.Proofs.YtiijkehiphkkiaaW.PrintWords
set_option linter.unusedVariables false
set_option linter.unusedSimpArgs false

theorem w64 {n : Int} (h0 : -9223372036854775808 ≤ n) (h1 : n ≤ 9223372036854775807) : wrap64 n = n := by unfold wrap64; omega
theorem w64s (i : Nat) (h : i < 9223372036854775807) : wrap64 ((i : Int) + 1) = ((i + 1 : Nat) : Int) := by rw [w64 (by omega) (by omega)]; omega

theorem up {α : Type} {g : Nat → Option α} (m : ∀ k, LeO (g k) (g (k + 1))) {k : Nat} {r : α} (h : g k = some r) : ∀ k', k ≤ k' → g k' = some r := by
  intro k' hk
  induction hk with
  | refl => exact h
  | step _ ih => exact m _ _ ih

theorem rd_at {xs : List Int} {i : Nat} (h : i < xs.length) : rd xs (i : Int) = xs[i] := by
  simp [rd, List.getD, h]
theorem rd4_at {xs : List (List Int)} {i : Nat} (h : i < xs.length) : rd_L4 xs (i : Int) = xs[i] := by
  simp [rd_L4, List.getD, h]

theorem take_snoc {α : Type} (l : List α) (i : Nat) (h : i < l.length) : l.take i ++ [l[i]] = l.take (i + 1) := by
  rw [List.take_add_one, List.getElem?_eq_getElem h]; rfl

/-! ### Copy -/
theorem copy_l0 (l : List Int) (hl : l.length ≤ 140737488355328) : ∀ n i, i + n = l.length → stoaref01_Copy.l0 (n + 1) l (l.take i) (i : Int) = some l := by
  intro n
  induction n with
  | zero =>
    intro i h
    unfold stoaref01_Copy.l0
    rw [if_neg (by omega), List.take_of_length_le (by omega)]
  | succ n ih =>
    intro i h
    unfold stoaref01_Copy.l0
    rw [if_pos (by omega), if_pos (by omega), if_pos (by rw [List.length_take]; omega), rd_at (by omega), take_snoc l i (by omega), w64s i (by omega)]
    exact ih (i + 1) (by omega)
theorem copy_law (l : List Int) (hl : l.length ≤ 140737488355328) (k : Nat) (hk : l.length + 1 ≤ k) : stoaref01_Copy.f k l = some l :=
  up (g := fun k => stoaref01_Copy.f k l) (fun k => stoaref01_Copy.mono l k) (k := l.length + 1) (copy_l0 l hl l.length 0 (by omega)) k hk

theorem copy10_l0 (K : Nat) (l : List (List Int)) (hl : l.length ≤ 5864062014805) (hr : ∀ r ∈ l, r.length ≤ 140737488355328 ∧ r.length + 1 ≤ K) : ∀ n i, i + n = l.length → stoaref10_Copy.l0 (K + n + 1) l (l.take i) (i : Int) = some l := by
  intro n
  induction n with
  | zero =>
    intro i h
    unfold stoaref10_Copy.l0
    rw [if_neg (by omega), List.take_of_length_le (by omega)]
  | succ n ih =>
    intro i h
    have hi : i < l.length := by omega
    have hm := hr l[i] (List.getElem_mem hi)
    unfold stoaref10_Copy.l0
    rw [if_pos (by omega), if_pos (by omega), rd4_at hi, copy_law _ hm.1 _ (by omega), Option.bind_some, if_pos (by rw [List.length_take]; omega), take_snoc l i hi, w64s i (by omega)]
    exact ih (i + 1) (by omega)
theorem fuel_rows (l : List (List Int)) : ∃ K, ∀ r ∈ l, r.length + 1 ≤ K := by
  induction l with
  | nil => exact ⟨0, by simp⟩
  | cons a l ih =>
    obtain ⟨K, h⟩ := ih
    refine ⟨max K (a.length + 1), fun r hr => ?_⟩
    rcases List.mem_cons.1 hr with rfl | hr
    · omega
    · have := h r hr; omega
theorem copy10_law (l : List (List Int)) (hl : l.length ≤ 5864062014805) (hr : ∀ r ∈ l, r.length ≤ 140737488355328) : ∃ k, stoaref10_Copy.f k l = some l := by
  obtain ⟨K, hK⟩ := fuel_rows l
  exact ⟨K + l.length + 1, copy10_l0 K l hl (fun r h => ⟨hr r h, hK r h⟩) l.length 0 (by omega)⟩

/-! ### Same -/
theorem drop_yes {α : Type} [DecidableEq α] (a b : List α) (i : Nat) (ha : i < a.length) (hb : i < b.length) (h : a[i] = b[i]) : decide (a.drop i = b.drop i) = decide (a.drop (i + 1) = b.drop (i + 1)) := by
  have e1 : a.drop i = a[i] :: a.drop (i + 1) := List.drop_eq_getElem_cons ha
  have e2 : b.drop i = b[i] :: b.drop (i + 1) := List.drop_eq_getElem_cons hb
  refine decide_eq_decide.2 ⟨fun e => ?_, fun e => by rw [e1, e2, h, e]⟩
  rw [e1, e2] at e
  exact (List.cons.inj e).2
theorem drop_no {α : Type} [DecidableEq α] (a b : List α) (i : Nat) (ha : i < a.length) (hb : i < b.length) (h : a[i] ≠ b[i]) : decide (a.drop i = b.drop i) = false := by
  have e1 : a.drop i = a[i] :: a.drop (i + 1) := List.drop_eq_getElem_cons ha
  have e2 : b.drop i = b[i] :: b.drop (i + 1) := List.drop_eq_getElem_cons hb
  refine decide_eq_false fun e => ?_
  rw [e1, e2] at e
  exact h (List.cons.inj e).1
theorem same_l0 (a b : List Int) (hab : a.length = b.length) (hl : a.length < 9223372036854775807) : ∀ n i, i + n = a.length → stoaref01_Same.l0 (n + 1) a b (i : Int) = some (decide (a.drop i = b.drop i)) := by
  intro n
  induction n with
  | zero =>
    intro i h
    unfold stoaref01_Same.l0
    rw [if_neg (by omega), List.drop_of_length_le (by omega), List.drop_of_length_le (by omega)]
    simp
  | succ n ih =>
    intro i h
    unfold stoaref01_Same.l0
    rw [if_pos (by omega), if_pos (by omega), if_pos (by omega), rd_at (by omega), rd_at (by omega), w64s i (by omega), ih (i + 1) (by omega)]
    by_cases h1 : a[i] = b[i]
    · rw [if_pos h1, drop_yes a b i (by omega) (by omega) h1]
    · rw [if_neg h1, drop_no a b i (by omega) (by omega) h1]
theorem same_law (a b : List Int) (hl : a.length < 9223372036854775807) (k : Nat) (hk : a.length + 1 ≤ k) : stoaref01_Same.f k a b = some (decide (a = b)) := by
  refine up (g := fun k => stoaref01_Same.f k a b) (fun k => stoaref01_Same.mono a b k) (k := a.length + 1) ?_ k hk
  show stoaref01_Same.f _ _ _ = _
  unfold stoaref01_Same.f
  by_cases h : a.length = b.length
  · rw [if_pos (by omega)]
    exact same_l0 a b h hl a.length 0 (by omega)
  · rw [if_neg (by omega)]
    have : a ≠ b := fun e => h (by rw [e])
    simp [this]

theorem same10_l0 (K : Nat) (a b : List (List Int)) (hab : a.length = b.length) (hl : a.length < 9223372036854775807) (hr : ∀ r ∈ a, r.length < 9223372036854775807 ∧ r.length + 1 ≤ K) : ∀ n i, i + n = a.length → stoaref10_Same.l0 (K + n + 1) a b (i : Int) = some (decide (a.drop i = b.drop i)) := by
  intro n
  induction n with
  | zero =>
    intro i h
    unfold stoaref10_Same.l0
    rw [if_neg (by omega), List.drop_of_length_le (by omega), List.drop_of_length_le (by omega)]
    simp
  | succ n ih =>
    intro i h
    have hi : i < a.length := by omega
    have hm := hr a[i] (List.getElem_mem hi)
    unfold stoaref10_Same.l0
    rw [if_pos (by omega), if_pos (by omega), if_pos (by omega), rd4_at hi, rd4_at (by omega), same_law _ _ hm.1 _ (by omega), Option.bind_some, w64s i (by omega)]
    by_cases h1 : a[i] = b[i]
    · rw [drop_yes a b i hi (by omega) h1, ← ih (i + 1) (by omega)]
      simp [h1]; rfl
    · rw [drop_no a b i hi (by omega) h1]
      simp [h1]
theorem same10_law (a b : List (List Int)) (hl : a.length < 9223372036854775807) (hr : ∀ r ∈ a, r.length < 9223372036854775807) : ∃ k, stoaref10_Same.f k a b = some (decide (a = b)) := by
  obtain ⟨K, hK⟩ := fuel_rows a
  refine ⟨K + a.length + 1, ?_⟩
  unfold stoaref10_Same.f
  by_cases h : a.length = b.length
  · rw [if_pos (by omega)]
    exact same10_l0 K a b h hl (fun r hm => ⟨hr r hm, hK r hm⟩) a.length 0 (by omega)
  · rw [if_neg (by omega)]
    have : a ≠ b := fun e => h (by rw [e])
    simp [this]

/-! ### Order -/
def cmpL : List Int → List Int → Int
  | [], [] => 0
  | [], _ :: _ => -1
  | _ :: _, [] => 1
  | x :: xs, y :: ys => if x < y then -1 else if x > y then 1 else cmpL xs ys

theorem order_l0 (a b : List Int) (hl : a.length < 9223372036854775807) : ∀ n i, i + n = a.length → i ≤ b.length → stoaref05_Order.l0 (2 * n + 2) a b (i : Int) = some (cmpL (a.drop i) (b.drop i)) := by
  intro n
  induction n with
  | zero =>
    intro i h hb
    unfold stoaref05_Order.l0
    rw [if_neg (by omega)]
    unfold stoaref05_Order.j1
    rw [if_neg (by simp), List.drop_of_length_le (l := a) (by omega)]
    by_cases h1 : i < b.length
    · rw [if_pos (by omega), List.drop_eq_getElem_cons h1]; rfl
    · rw [if_neg (by omega), if_neg (by omega), List.drop_of_length_le (l := b) (by omega)]; rfl
  | succ n ih =>
    intro i h hb
    have hi : i < a.length := by omega
    rw [show 2 * (n + 1) + 2 = (2 * n + 2) + 1 + 1 from by omega]
    unfold stoaref05_Order.l0
    rw [if_pos (by omega)]
    unfold stoaref05_Order.j1
    by_cases h1 : i < b.length
    · rw [if_pos (by simp; omega), if_pos (by omega), if_pos (by omega), if_pos (by omega), rd_at hi, rd_at h1, w64s i (by omega), ih (i + 1) (by omega) (by omega),
        List.drop_eq_getElem_cons (i := i) (l := a) hi, List.drop_eq_getElem_cons (i := i) (l := b) h1]
      simp only [cmpL]
      by_cases h2 : a[i] < b[i]
      · rw [if_pos h2, if_pos h2]
      · rw [if_neg h2, if_neg h2]
        by_cases h3 : a[i] > b[i]
        · rw [if_pos h3, if_pos h3]
        · rw [if_neg h3, if_neg h3]
    · rw [if_neg (by simp; omega), if_neg (by omega), if_pos (by omega), List.drop_eq_getElem_cons (i := i) (l := a) hi, List.drop_of_length_le (l := b) (by omega)]
      rfl
theorem order_law (a b : List Int) (hl : a.length < 9223372036854775807) (k : Nat) (hk : 2 * a.length + 2 ≤ k) : stoaref05_Order.f k a b = some (cmpL a b) :=
  up (g := fun k => stoaref05_Order.f k a b) (fun k => stoaref05_Order.mono a b k) (k := 2 * a.length + 2) (order_l0 a b hl a.length 0 (by omega) (by omega)) k hk

theorem cmpL_self (a : List Int) : cmpL a a = 0 := by
  induction a with
  | nil => rfl
  | cons x a ih => simp [cmpL, ih]
theorem cmpL_eq {a b : List Int} (h : cmpL a b = 0) : a = b := by
  induction a generalizing b with
  | nil => cases b with
    | nil => rfl
    | cons y b => simp [cmpL] at h
  | cons x a ih => cases b with
    | nil => simp [cmpL] at h
    | cons y b =>
      simp only [cmpL] at h
      split at h
      · omega
      · split at h
        · omega
        · rw [ih h, show x = y from by omega]
theorem cmpL_lt_trans {a b c : List Int} (h1 : cmpL a b < 0) (h2 : cmpL b c < 0) : cmpL a c < 0 := by
  induction a generalizing b c with
  | nil => cases b with
    | nil => simp [cmpL] at h1
    | cons y b => cases c with
      | nil => simp [cmpL] at h2
      | cons z c => simp [cmpL]
  | cons x a ih => cases b with
    | nil => simp [cmpL] at h1
    | cons y b => cases c with
      | nil => simp [cmpL] at h2
      | cons z c =>
        simp only [cmpL] at h1 h2 ⊢
        split at h1
        · split at h2
          · rw [if_pos (by omega)]; omega
          · split at h2
            · omega
            · rw [if_pos (by omega)]; omega
        · split at h1
          · omega
          · split at h2
            · rw [if_pos (by omega)]; omega
            · split at h2
              · omega
              · rw [if_neg (by omega), if_neg (by omega)]
                exact ih h1 h2
theorem cmpL_swap (a b : List Int) : cmpL a b = - cmpL b a := by
  induction a generalizing b with
  | nil => cases b <;> simp [cmpL]
  | cons x a ih => cases b with
    | nil => simp [cmpL]
    | cons y b =>
      simp only [cmpL]
      by_cases h : x < y
      · rw [if_pos h, if_neg (by omega), if_pos (by omega)]
      · rw [if_neg h]
        by_cases h' : y < x
        · rw [if_pos (by omega), if_pos h']; rfl
        · rw [if_neg (by omega), if_neg h', if_neg (by omega)]
          exact ih b

end Go.Proofs.Ytiijkehiphkkiaa.PD
