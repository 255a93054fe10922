/-
  THE REFERENCE's PLAIN LAWS, second part: place, with, Index.
-/
import Derived.Test.YtiijkehiphkkiaaKa
namespace Go.Proofs.Ytiijkehiphkkiaa.PD
open Go.RowKit Go.Proofs.YtiijkehiphkkiaaW.PrintWords
set_option linter.unusedVariables false
set_option linter.unusedSimpArgs false

abbrev Rising (es : List (List Int)) : Prop := es.Pairwise (fun a b => cmpL a b < 0)
def pos : List (List Int) → List Int → Nat
  | [], _ => 0
  | e :: es, s => if cmpL e s < 0 then pos es s + 1 else 0
def ins : List (List Int) → List Int → List (List Int)
  | [], s => [s]
  | e :: es, s => if cmpL e s < 0 then e :: ins es s else if e = s then e :: es else s :: e :: es

structure IsPos (es : List (List Int)) (s : List Int) (p : Nat) : Prop where
  le : p ≤ es.length
  below : ∀ j (h : j < es.length), j < p → cmpL es[j] s < 0
  above : ∀ j (h : j < es.length), p ≤ j → ¬ cmpL es[j] s < 0
theorem IsPos.unique {es s p q} (hp : IsPos es s p) (hq : IsPos es s q) : p = q := by
  rcases Nat.lt_trichotomy p q with h | h | h
  · have l := hq.le
    exact absurd (hq.below p (by omega) h) (hp.above p (by omega) (Nat.le_refl _))
  · exact h
  · have l := hp.le
    exact absurd (hp.below q (by omega) h) (hq.above q (by omega) (Nat.le_refl _))
theorem not_lt_up {a b s : List Int} (hab : cmpL a b < 0) (h : ¬ cmpL a s < 0) : ¬ cmpL b s < 0 := fun h' => h (cmpL_lt_trans hab h')
theorem pos_is {es : List (List Int)} (hs : Rising es) (s : List Int) : IsPos es s (pos es s) := by
  induction es with
  | nil => exact ⟨by simp [pos], fun j h => absurd h (by simp), fun j h => absurd h (by simp)⟩
  | cons e es ih =>
    obtain ⟨h1, h2⟩ := List.pairwise_cons.1 hs
    have I := ih h2
    unfold pos
    split
    · rename_i hlt
      refine ⟨by have := I.le; simp; omega, fun j h hj => ?_, fun j h hj => ?_⟩
      · cases j with
        | zero => exact hlt
        | succ j => exact I.below j (by simpa using h) (by omega)
      · cases j with
        | zero => omega
        | succ j => exact I.above j (by simpa using h) (by omega)
    · rename_i hlt
      refine ⟨by simp, fun j h hj => by omega, fun j h hj => ?_⟩
      cases j with
      | zero => exact hlt
      | succ j => exact not_lt_up (h1 _ (List.getElem_mem (by simpa using h))) hlt

theorem Rising.get {es : List (List Int)} (hs : Rising es) {i j : Nat} (hij : i < j) (hj : j < es.length) : cmpL es[i] es[j] < 0 := List.pairwise_iff_getElem.1 hs i j (by omega) hj hij

theorem place_l0 (K : Nat) (es : List (List Int)) (s : List Int) (hs : Rising es) (hl : es.length < 4611686018427387904) (hr : ∀ r ∈ es, r.length < 9223372036854775807 ∧ 2 * r.length + 2 ≤ K) :
    ∀ n lo hi, hi ≤ lo + n → lo ≤ hi → hi ≤ es.length → (∀ j (h : j < es.length), j < lo → cmpL es[j] s < 0) → (∀ j (h : j < es.length), hi ≤ j → ¬ cmpL es[j] s < 0) →
      stoaref10_place.l0 (K + n + 1) es s (lo : Int) (hi : Int) = some ((pos es s : Nat) : Int) := by
  intro n
  induction n with
  | zero =>
    intro lo hi hn h1 h2 hb ha
    have : lo = hi := by omega
    subst this
    unfold stoaref10_place.l0
    rw [if_neg (by omega), IsPos.unique (pos_is hs s) ⟨h2, hb, ha⟩]
  | succ n ih =>
    intro lo hi hn h1 h2 hb ha
    unfold stoaref10_place.l0
    by_cases hlt : lo < hi
    · have em : wrap64 (Int.tdiv (wrap64 ((lo : Int) + (hi : Int))) 2) = (((lo + hi) / 2 : Nat) : Int) := by
        rw [w64 (n := (lo : Int) + hi) (by omega) (by omega), Int.tdiv_eq_ediv_of_nonneg (by omega), w64 (by omega) (by omega)]
        omega
      have hm1 : lo ≤ (lo + hi) / 2 := by omega
      have hm2 : (lo + hi) / 2 < hi := by omega
      have hm := hr es[(lo + hi) / 2] (List.getElem_mem (by omega))
      rw [if_pos (by omega), em, if_pos (by omega), if_pos (by omega), rd4_at (by omega), order_law _ _ hm.1 _ (by omega), Option.bind_some, w64s _ (by omega)]
      by_cases hc : cmpL es[(lo + hi) / 2] s < 0
      · rw [if_pos hc]
        refine ih _ hi (by omega) (by omega) h2 (fun j h hj => ?_) ha
        rcases Nat.lt_or_eq_of_le (Nat.le_of_lt_succ hj) with h' | h'
        · exact cmpL_lt_trans (hs.get h' (by omega)) hc
        · subst h'; exact hc
      · rw [if_neg hc]
        refine ih lo _ (by omega) (by omega) (by omega) hb (fun j h hj => ?_)
        rcases Nat.lt_or_eq_of_le hj with h' | h'
        · exact not_lt_up (hs.get h' h) hc
        · subst h'; exact hc
    · have : lo = hi := by omega
      subst this
      rw [if_neg (by omega), IsPos.unique (pos_is hs s) ⟨h2, hb, ha⟩]
theorem place_law (K : Nat) (es : List (List Int)) (s : List Int) (hs : Rising es) (hl : es.length < 4611686018427387904) (hr : ∀ r ∈ es, r.length < 9223372036854775807 ∧ 2 * r.length + 2 ≤ K) (k : Nat) (hk : K + es.length + 1 ≤ k) :
    stoaref10_place.f k es s = some ((pos es s : Nat) : Int) :=
  up (g := fun k => stoaref10_place.f k es s) (fun k => stoaref10_place.mono es s k) (k := K + es.length + 1)
    (place_l0 K es s hs hl hr es.length 0 es.length (by omega) (by omega) (by omega) (fun j _ h => by omega) (fun j h h' => by omega)) k hk

/-! ### with -/
theorem ins_yes {es : List (List Int)} (hs : Rising es) (s : List Int) (h : pos es s < es.length) (e : es[pos es s] = s) : ins es s = es := by
  induction es with
  | nil => simp at h
  | cons a es ih =>
    obtain ⟨h1, h2⟩ := List.pairwise_cons.1 hs
    unfold ins
    split
    · rename_i hlt
      have hp : pos (a :: es) s = pos es s + 1 := by simp [pos, hlt]
      simp only [hp, List.getElem_cons_succ] at e
      rw [ih h2 (by rw [hp] at h; simpa using h) e]
    · rename_i hlt
      have hp : pos (a :: es) s = 0 := by simp [pos, hlt]
      simp only [hp, List.getElem_cons_zero] at e
      rw [if_pos e]
theorem ins_no {es : List (List Int)} (hs : Rising es) (s : List Int) (h : ∀ h : pos es s < es.length, es[pos es s] ≠ s) : ins es s = es.take (pos es s) ++ s :: es.drop (pos es s) := by
  induction es with
  | nil => simp [ins, pos]
  | cons a es ih =>
    obtain ⟨h1, h2⟩ := List.pairwise_cons.1 hs
    unfold ins
    split
    · rename_i hlt
      have hp : pos (a :: es) s = pos es s + 1 := by simp [pos, hlt]
      simp only [hp, List.length_cons, Nat.add_lt_add_iff_right, List.getElem_cons_succ] at h
      rw [ih h2 h, hp]
      rfl
    · rename_i hlt
      have hp : pos (a :: es) s = 0 := by simp [pos, hlt]
      have := h (by rw [hp]; simp)
      simp only [hp, List.getElem_cons_zero] at this
      rw [if_neg this, hp]
      rfl
theorem ins_mem {es : List (List Int)} {s x : List Int} : x ∈ ins es s ↔ x = s ∨ x ∈ es := by
  induction es with
  | nil => simp [ins]
  | cons a es ih =>
    unfold ins
    split
    · rw [List.mem_cons, ih, List.mem_cons]
      constructor
      · rintro (h | h | h)
        · exact .inr (.inl h)
        · exact .inl h
        · exact .inr (.inr h)
      · rintro (h | h | h)
        · exact .inr (.inl h)
        · exact .inl h
        · exact .inr (.inr h)
    · split
      · rename_i h; subst h; simp
      · simp
theorem cmpL_pos {a b : List Int} (h : ¬ cmpL a b < 0) (hne : a ≠ b) : cmpL b a < 0 := by
  have h1 : cmpL a b ≠ 0 := fun e => hne (cmpL_eq e)
  rw [cmpL_swap]; omega
theorem ins_rising {es : List (List Int)} (hs : Rising es) (s : List Int) : Rising (ins es s) := by
  induction es with
  | nil => simp [ins, Rising]
  | cons a es ih =>
    obtain ⟨h1, h2⟩ := List.pairwise_cons.1 hs
    unfold ins
    split
    · rename_i hlt
      refine List.pairwise_cons.2 ⟨fun x hx => ?_, ih h2⟩
      rcases ins_mem.1 hx with rfl | hx
      · exact hlt
      · exact h1 x hx
    · rename_i hlt
      split
      · exact hs
      · rename_i hne
        have hsa := cmpL_pos hlt hne
        refine List.pairwise_cons.2 ⟨fun x hx => ?_, hs⟩
        rcases List.mem_cons.1 hx with rfl | hx
        · exact hsa
        · exact cmpL_lt_trans hsa (h1 x hx)
theorem ins_length (es : List (List Int)) (s : List Int) : (ins es s).length ≤ es.length + 1 := by
  induction es with
  | nil => simp [ins]
  | cons a es ih =>
    unfold ins
    split
    · simp; omega
    · split <;> simp

theorem with_l1 (es : List (List Int)) (hl : es.length < 5864062014804) : ∀ n (i : Nat) (out : List (List Int)), i + n = es.length → out.length ≤ i + 1 → stoaref10_with.l1 (n + 1) es out (i : Int) = some (out ++ es.drop i) := by
  intro n
  induction n with
  | zero =>
    intro i out h ho
    unfold stoaref10_with.l1
    rw [if_neg (by omega), List.drop_of_length_le (by omega), List.append_nil]
  | succ n ih =>
    intro i out h ho
    unfold stoaref10_with.l1
    rw [if_pos (by omega), if_pos (by omega), if_pos (by omega), rd4_at (by omega), w64s i (by omega), ih (i + 1) _ (by omega) (by simp; omega), List.append_assoc, List.drop_eq_getElem_cons (i := i) (l := es) (by omega)]
    rfl
theorem with_l0 (K : Nat) (es : List (List Int)) (s : List Int) (hl : es.length < 5864062014804) (hsl : s.length ≤ 140737488355328) (hK : s.length + 1 ≤ K ∧ es.length + 1 ≤ K) (p : Nat) (hp : p ≤ es.length) :
    ∀ n i, i + n = p → stoaref10_with.l0 (K + n + 1) es s (p : Int) (es.take i) (i : Int) = some (es.take p ++ s :: es.drop p) := by
  intro n
  induction n with
  | zero =>
    intro i h
    have : i = p := by omega
    subst this
    unfold stoaref10_with.l0
    rw [if_neg (by omega), copy_law s hsl _ (by omega), Option.bind_some, if_pos (by rw [List.length_take]; omega)]
    have h1 := with_l1 es hl (es.length - i) i (es.take i ++ [s]) (by omega) (by simp; omega)
    refine up (g := fun k => stoaref10_with.l1 k es (es.take i ++ [s]) (i : Int)) (fun k => ?_) (k := es.length - i + 1) (by rw [h1]; simp) _ (by omega)
    exact (stoaref10_with.mono_l k).2.2 _ _ _
  | succ n ih =>
    intro i h
    unfold stoaref10_with.l0
    rw [if_pos (by omega), if_pos (by omega), if_pos (by omega), if_pos (by rw [List.length_take]; omega), rd4_at (by omega), take_snoc es i (by omega), w64s i (by omega)]
    exact ih (i + 1) (by omega)
theorem with_law (K : Nat) (es : List (List Int)) (s : List Int) (hs : Rising es) (hl : es.length < 5864062014804) (hsl : s.length ≤ 140737488355328) (hK : s.length + 1 ≤ K ∧ es.length + 1 ≤ K)
    (hr : ∀ r ∈ es, r.length ≤ 140737488355328 ∧ 2 * r.length + 2 ≤ K) (k : Nat) (hk : K + es.length + 2 ≤ k) :
    stoaref10_with.f k es s = some (ins es s) := by
  unfold stoaref10_with.f
  rw [place_law K es s hs (by omega) (fun r h => ⟨by have := (hr r h).1; omega, (hr r h).2⟩) k (by omega), Option.bind_some]
  have no : (∀ h : pos es s < es.length, es[pos es s] ≠ s) → stoaref10_with.j0 k es s ((pos es s : Nat) : Int) false = some (ins es s) := by
    intro h
    obtain ⟨k, rfl⟩ : ∃ k', k = k' + 1 := ⟨k - 1, by omega⟩
    show stoaref10_with.l0 k es s ((pos es s : Nat) : Int) [] 0 = some (ins es s)
    rw [ins_no hs s h]
    have h0 := with_l0 K es s hl hsl hK (pos es s) (pos_is hs s).le (pos es s) 0 (by omega)
    have hp := (pos_is hs s).le
    exact up (g := fun k => stoaref10_with.l0 k es s ((pos es s : Nat) : Int) [] 0) (fun k => (stoaref10_with.mono_l k).2.1 _ _ _ _ _) (k := K + pos es s + 1) h0 _ (by omega)
  by_cases h : pos es s < es.length
  · have hm := hr es[pos es s] (List.getElem_mem h)
    rw [if_pos (by omega), if_pos (by omega), rd4_at h, same_law _ _ (by omega) _ (by omega), Option.bind_some]
    by_cases e : es[pos es s] = s
    · rw [decide_eq_true e]
      obtain ⟨k, rfl⟩ : ∃ k', k = k' + 1 := ⟨k - 1, by omega⟩
      show some es = some (ins es s)
      rw [ins_yes hs s h e]
    · rw [decide_eq_false e]
      exact no (fun _ => e)
  · rw [if_neg (by omega)]
    exact no (fun h' => absurd h' h)

end Go.Proofs.Ytiijkehiphkkiaa.PD
