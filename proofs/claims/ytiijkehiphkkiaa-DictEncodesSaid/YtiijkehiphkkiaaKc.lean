/-
  THE REFERENCE's PLAIN LAWS, third part: Index; sameInts.
-/
import Derived.Test.YtiijkehiphkkiaaKb
namespace Go.Proofs.Ytiijkehiphkkiaa.PD
open Go.RowKit Go.Proofs.YtiijkehiphkkiaaW.PrintWords
set_option linter.unusedVariables false
set_option linter.unusedSimpArgs false

def ents (ss : List (List Int)) : List (List Int) := ss.foldl ins []
theorem fold_mem {ss es : List (List Int)} {x : List Int} : x ∈ ss.foldl ins es ↔ x ∈ es ∨ x ∈ ss := by
  induction ss generalizing es with
  | nil => simp
  | cons s ss ih =>
    rw [List.foldl_cons, ih, ins_mem, List.mem_cons]
    constructor
    · rintro ((h | h) | h)
      · exact .inr (.inl h)
      · exact .inl h
      · exact .inr (.inr h)
    · rintro (h | h | h)
      · exact .inl (.inr h)
      · exact .inl (.inl h)
      · exact .inr h
theorem fold_rising {ss es : List (List Int)} (h : Rising es) : Rising (ss.foldl ins es) := by
  induction ss generalizing es with
  | nil => exact h
  | cons s ss ih => exact ih (ins_rising h s)
theorem fold_length (ss es : List (List Int)) : (ss.foldl ins es).length ≤ es.length + ss.length := by
  induction ss generalizing es with
  | nil => simp
  | cons s ss ih =>
    have := ih (ins es s)
    have := ins_length es s
    simp only [List.foldl_cons, List.length_cons]; omega
theorem ents_mem {ss : List (List Int)} {x : List Int} : x ∈ ents ss ↔ x ∈ ss := by rw [ents, fold_mem]; simp
theorem ents_rising (ss : List (List Int)) : Rising (ents ss) := fold_rising List.Pairwise.nil
theorem ents_length (ss : List (List Int)) : (ents ss).length ≤ ss.length := by have := fold_length ss []; simpa [ents] using this
theorem pos_at {es : List (List Int)} (hs : Rising es) {s : List Int} (hm : s ∈ es) : ∃ h : pos es s < es.length, es[pos es s] = s := by
  obtain ⟨i, hi, e⟩ := List.getElem_of_mem hm
  have I := pos_is hs s
  have : i = pos es s := by
    refine IsPos.unique ⟨by omega, fun j h hj => ?_, fun j h hj hlt => ?_⟩ I
    · have := hs.get hj hi
      rwa [e] at this
    · rcases Nat.lt_or_eq_of_le hj with h' | h'
      · have h1 := hs.get h' h
        rw [e] at h1
        have := cmpL_lt_trans h1 hlt
        rw [cmpL_self] at this; omega
      · subst h'; rw [e, cmpL_self] at hlt; omega
  subst this
  exact ⟨hi, e⟩

/-- What Index tells. -/
def idx (ss : List (List Int)) : List (List Int) × List Int × Int :=
  if 4096 < ss.length ∨ ∃ s ∈ ss, 200 < s.length then ([], [], 4) else (ents ss, ss.map (fun s => ((pos (ents ss) s : Nat) : Int)), 0)

theorem index_l1 (ss : List (List Int)) (es : List (List Int)) (hl : ss.length ≤ 4096) (hes : es.length ≤ 4096) (hs : Rising es) (hr : ∀ r ∈ es, r.length ≤ 200) :
    ∀ n i, i + n = ss.length → stoaref10_Index.l1 (10000 + n + 1) ss es ((ss.take i).map (fun s => ((pos es s : Nat) : Int))) (i : Int) = some (es, ss.map (fun s => ((pos es s : Nat) : Int)), 0) := by
  intro n
  induction n with
  | zero =>
    intro i h
    unfold stoaref10_Index.l1
    rw [if_neg (by omega), List.take_of_length_le (by omega)]
  | succ n ih =>
    intro i h
    unfold stoaref10_Index.l1
    rw [if_pos (by omega), if_pos (by omega), rd4_at (by omega), place_law 500 es _ hs (by omega) (fun r hm => by have := hr r hm; omega) _ (by omega), Option.bind_some,
      if_pos (by rw [List.length_map, List.length_take]; omega), w64s i (by omega)]
    have e : (ss.take i).map (fun s => ((pos es s : Nat) : Int)) ++ [((pos es ss[i] : Nat) : Int)] = (ss.take (i + 1)).map (fun s => ((pos es s : Nat) : Int)) := by
      rw [← take_snoc ss i (by omega), List.map_append]; rfl
    rw [e]
    exact ih (i + 1) (by omega)

theorem index_l0 (ss : List (List Int)) (hl : ss.length ≤ 4096) :
    ∀ n i, i + n = ss.length → (∀ s ∈ ss.take i, s.length ≤ 200) → stoaref10_Index.l0 (10000 + ss.length + 1 + n + 1) ss ((ss.take i).foldl ins []) (i : Int) = some (idx ss) := by
  intro n
  induction n with
  | zero =>
    intro i h ht
    rw [List.take_of_length_le (by omega)] at ht ⊢
    have hi : idx ss = (ents ss, ss.map (fun s => ((pos (ents ss) s : Nat) : Int)), 0) := by
      unfold idx
      rw [if_neg]
      rintro (h' | ⟨s, hs, h'⟩)
      · omega
      · have := ht s hs; omega
    unfold stoaref10_Index.l0
    rw [if_neg (by omega), hi]
    exact index_l1 ss (ents ss) hl (by have := ents_length ss; omega) (ents_rising ss) (fun r hr => ht r (ents_mem.1 hr)) ss.length 0 (by omega)
  | succ n ih =>
    intro i h ht
    have hi : i < ss.length := by omega
    unfold stoaref10_Index.l0
    rw [if_pos (by omega), if_pos (by omega), rd4_at hi]
    by_cases hc : 200 < ss[i].length
    · rw [if_pos (by omega)]
      unfold idx
      rw [if_pos (.inr ⟨ss[i], List.getElem_mem hi, hc⟩)]
    · have h1 := fold_length (ss.take i) []
      rw [List.length_take] at h1
      simp only [List.length_nil] at h1
      rw [if_neg (by omega), with_law 5000 _ ss[i] (fold_rising List.Pairwise.nil) (by omega) (by omega) (by omega) (fun r hr => by
          have := ht r (by simpa using fold_mem.1 hr)
          omega) _ (by omega), Option.bind_some, w64s i (by omega)]
      have e : ins ((ss.take i).foldl ins []) ss[i] = (ss.take (i + 1)).foldl ins [] := by
        rw [← take_snoc ss i hi, List.foldl_append]; rfl
      rw [e]
      refine ih (i + 1) (by omega) (fun s hs => ?_)
      rw [← take_snoc ss i hi] at hs
      rcases List.mem_append.1 hs with hs | hs
      · exact ht s hs
      · rw [List.mem_singleton.1 hs]; omega
theorem index_law (ss : List (List Int)) : ∃ k, stoaref10_Index.f k ss = some (idx ss) := by
  refine ⟨10000 + ss.length + 1 + ss.length + 1, ?_⟩
  unfold stoaref10_Index.f
  by_cases h : 4096 < ss.length
  · rw [if_pos (by omega)]
    unfold idx
    rw [if_pos (.inl h)]
  · rw [if_neg (by omega)]
    exact index_l0 ss (by omega) ss.length 0 (by omega) (by simp)

theorem ints_l0 (a b : List Int) (hab : a.length = b.length) (hl : a.length < 9223372036854775807) : ∀ n i, i + n = a.length → stoalaw10_sameInts.l0 (n + 1) a b (a.length : Int) (i : Int) = some (decide (a.drop i = b.drop i)) := by
  intro n
  induction n with
  | zero =>
    intro i h
    unfold stoalaw10_sameInts.l0
    rw [if_neg (by omega), List.drop_of_length_le (by omega), List.drop_of_length_le (by omega)]
    simp
  | succ n ih =>
    intro i h
    unfold stoalaw10_sameInts.l0
    rw [if_pos (by omega), if_pos (by omega), if_pos (by omega), if_pos (by omega), rd_at (by omega), rd_at (by omega), w64s i (by omega), ih (i + 1) (by omega)]
    by_cases h1 : a[i] = b[i]
    · rw [if_pos h1, drop_yes a b i (by omega) (by omega) h1]
    · rw [if_neg h1, drop_no a b i (by omega) (by omega) h1]
theorem ints_law (a b : List Int) (hl : a.length < 9223372036854775807) : ∃ k, stoalaw10_sameInts.f k a b = some (decide (a = b)) := by
  refine ⟨a.length + 1, ?_⟩
  unfold stoalaw10_sameInts.f
  by_cases h : a.length = b.length
  · rw [if_pos (by omega)]
    exact ints_l0 a b h hl a.length 0 (by omega)
  · rw [if_neg (by omega)]
    have : a ≠ b := fun e => h (by rw [e])
    simp [this]

/-- Two rising lists with the same members are one. -/
theorem rising_unique {a b : List (List Int)} (ha : Rising a) (hb : Rising b) (h : ∀ x, x ∈ a ↔ x ∈ b) : a = b := by
  induction a generalizing b with
  | nil => cases b with
    | nil => rfl
    | cons y b => exact absurd ((h y).2 (by simp)) (by simp)
  | cons x a ih => cases b with
    | nil => exact absurd ((h x).1 (by simp)) (by simp)
    | cons y b =>
      obtain ⟨ha1, ha2⟩ := List.pairwise_cons.1 ha
      obtain ⟨hb1, hb2⟩ := List.pairwise_cons.1 hb
      have irr : ∀ z : List Int, ¬ cmpL z z < 0 := fun z => by rw [cmpL_self]; omega
      have hxy : x = y := by
        rcases List.mem_cons.1 ((h x).1 (by simp)) with e | hx
        · exact e
        · rcases List.mem_cons.1 ((h y).2 (by simp)) with e | hy
          · exact e.symm
          · exact absurd (cmpL_lt_trans (hb1 x hx) (ha1 y hy)) (irr y)
      subst hxy
      congr 1
      refine ih ha2 hb2 fun z => ⟨fun hz => ?_, fun hz => ?_⟩
      · rcases List.mem_cons.1 ((h z).1 (List.mem_cons_of_mem _ hz)) with e | hz'
        · exact absurd (e ▸ ha1 z hz) (irr z)
        · exact hz'
      · rcases List.mem_cons.1 ((h z).2 (List.mem_cons_of_mem _ hz)) with e | hz'
        · exact absurd (e ▸ hb1 z hz) (irr z)
        · exact hz'

end Go.Proofs.Ytiijkehiphkkiaa.PD
