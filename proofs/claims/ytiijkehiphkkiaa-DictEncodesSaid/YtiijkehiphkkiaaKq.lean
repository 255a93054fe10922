/-
  What Encode and Decode tell, and the reference's: plain laws.
-/
import Derived.Test.YtiijkehiphkkiaaKu
namespace Go.Proofs.Ytiijkehiphkkiaa.PD
open Go.RowKit Go.Proofs.YtiijkehiphkkiaaW.PrintWords Go.Proofs.YtiijkehiphkkiaaW.PrintLast Go.Proofs.YtiijkehiphkkiaaW.PrintMore
set_option linter.unusedVariables false
set_option linter.unusedSimpArgs false

theorem index_ev (ss : List (List Int)) : Ev (fun k => stoaref10_Index.f k ss) (idx ss) := by
  obtain ⟨k, h⟩ := index_law ss
  exact Ev.up (fun k => stoaref10_Index.mono ss k) h

/-! ### Cat, Piece -/
theorem cat_ev (a b : List Int) (hl : a.length + b.length ≤ 140737488355328) : Ev (fun k => stoaref01_Cat.f k a b) (a ++ b) := by
  have h1 : ∀ n i : Nat, i + n = b.length → Ev (fun k => stoaref01_Cat.l1 k b (a ++ b.take i) (i : Int)) (a ++ b) := by
    intro n
    induction n with
    | zero =>
      intro i h
      refine Ev.step (fun k => ?_) (Ev.now _)
      rw [stoaref01_Cat.l1, if_neg (by omega), List.take_of_length_le (by omega)]
    | succ n ih =>
      intro i h
      have hi : i < b.length := by omega
      refine Ev.step (fun k => ?_) (ih (i + 1) (by omega))
      rw [stoaref01_Cat.l1, if_pos (by omega), if_pos (by omega), if_pos (by simp; omega), rd_at hi, w64s i (by omega), List.append_assoc, take_snoc b i hi]
  have h0 : ∀ n i : Nat, i + n = a.length → Ev (fun k => stoaref01_Cat.l0 k a b (a.take i) (i : Int)) (a ++ b) := by
    intro n
    induction n with
    | zero =>
      intro i h
      have := h1 b.length 0 (by omega)
      rw [List.take_zero, List.append_nil] at this
      refine Ev.step (fun k => ?_) this
      rw [stoaref01_Cat.l0, if_neg (by omega), List.take_of_length_le (by omega)]
      rfl
    | succ n ih =>
      intro i h
      have hi : i < a.length := by omega
      refine Ev.step (fun k => ?_) (ih (i + 1) (by omega))
      rw [stoaref01_Cat.l0, if_pos (by omega), if_pos (by omega), if_pos (by simp; omega), rd_at hi, w64s i (by omega), take_snoc a i hi]
  exact h0 a.length 0 (by omega)
/-! ### Encode -/
/-- An entry's bytes. -/
def one (s : List Int) : List Int := vput s.length ++ s
def encB (es : List (List Int)) (us : List Int) : List Int := vput es.length ++ (es.map one).flatten ++ vput us.length ++ packS (wid es.length) us
def encS (ss : List (List Int)) : List Int × Int := if (idx ss).2.2 = 0 then (encB (idx ss).1 (idx ss).2.1, 0) else ([], (idx ss).2.2)

theorem lt_bitLen : ∀ (f x : Nat), x < 2 ^ f → x < 2 ^ Lib.bitLenAux f x := by
  intro f
  induction f with
  | zero => intro x h; simpa [Lib.bitLenAux] using h
  | succ f ih =>
    intro x h
    simp only [Lib.bitLenAux]
    split
    · omega
    · have := ih (x / 2) (by rw [Nat.pow_succ] at h; omega)
      rw [Nat.add_comm, Nat.pow_succ]
      omega
theorem wid_fit {n u : Nat} (hn : n ≤ 4096) (hu : u < n) : u < 2 ^ wid n := by
  have := lt_bitLen 64 (n - 1) (by omega)
  have h2 : n - 1 < 2 ^ wid n := this
  omega
/-- Where Index answers. -/
theorem idx_ok {ss : List (List Int)} (h : (idx ss).2.2 = 0) : ss.length ≤ 4096 ∧ (∀ s ∈ ss, s.length ≤ 200) ∧ (idx ss).1 = ents ss ∧ (idx ss).2.1 = ss.map (fun s => ((pos (ents ss) s : Nat) : Int)) := by
  unfold idx at h ⊢
  by_cases h1 : 4096 < ss.length ∨ ∃ s ∈ ss, 200 < s.length
  · rw [if_pos h1] at h; simp at h
  · rw [if_neg h1]
    refine ⟨by omega, fun s hs => ?_, rfl, rfl⟩
    rcases Nat.lt_or_ge 200 s.length with h2 | h2
    · exact absurd (.inr ⟨s, hs, h2⟩) h1
    · exact h2
theorem idx_no {ss : List (List Int)} (h : (idx ss).2.2 ≠ 0) : idx ss = ([], [], 4) := by
  unfold idx at h ⊢
  by_cases h1 : 4096 < ss.length ∨ ∃ s ∈ ss, 200 < s.length
  · rw [if_pos h1]
  · rw [if_neg h1] at h; simp at h
theorem codes_fit {ss : List (List Int)} (hl : ss.length ≤ 4096) : Fit (wid (ents ss).length) (ss.map (fun s => ((pos (ents ss) s : Nat) : Int))) := by
  intro u hu
  obtain ⟨s, hs, rfl⟩ := List.mem_map.1 hu
  obtain ⟨h1, _⟩ := pos_at (ents_rising ss) (ents_mem.2 hs)
  have h2 := ents_length ss
  have := wid_fit (by omega) h1
  exact ⟨by omega, by exact_mod_cast this⟩
theorem one_length (s : List Int) (h : s.length ≤ 200) : (one s).length ≤ 210 := by
  unfold one
  have := vput_length s.length
  simp; omega
theorem ones_length (es : List (List Int)) (h : ∀ s ∈ es, s.length ≤ 200) : (es.map one).flatten.length ≤ 210 * es.length := by
  induction es with
  | nil => simp
  | cons s es ih =>
    have h1 := one_length s (h s (by simp))
    have h2 := ih (fun x hx => h x (by simp [hx]))
    simp only [List.map_cons, List.flatten_cons, List.length_append, List.length_cons]
    omega
theorem packS_short (w : Nat) (us : List Int) (hw : w ≤ 64) (hl : us.length ≤ 4096) : (packS w us).length ≤ 40000 := by
  have h : w * us.length ≤ 64 * 4096 := Nat.mul_le_mul hw hl
  rw [packS_length]
  omega
/-! ### Decode -/
/-- A text with its length from place p on. -/
def textS (b : List Int) (p : Nat) : List Int × Nat × Int :=
  if (vget b p).2.2 = 0 then (if 200 < (vget b p).1 then ([], 0, 4) else if b.length - (vget b p).2.1 < (vget b p).1 then ([], 0, 2) else ((b.drop (vget b p).2.1).take (vget b p).1, (vget b p).2.1 + (vget b p).1, 0)) else ([], 0, (vget b p).2.2)
/-- n entries from place p on, behind es. -/
def entS (b : List Int) : Nat → Nat → List (List Int) → List (List Int) × Nat × Int
  | 0, p, es => (es, p, 0)
  | n + 1, p, es => if (textS b p).2.2 = 0 then (if 0 < es.length ∧ cmpL (textS b p).1 (es.getD (es.length - 1) []) ≤ 0 then ([], 0, 5) else entS b n (textS b p).2.1 (es ++ [(textS b p).1])) else ([], 0, (textS b p).2.2)
/-- The texts of numbers. -/
def textsS (es : List (List Int)) (us : List Int) : List (List Int) × Int :=
  if (∀ u ∈ us, u < es.length) ∧ (∀ i < es.length, (i : Int) ∈ us) then (us.map fun u => es.getD u.toNat [], 0) else ([], 5)
def decT (b : List Int) (es : List (List Int)) (p : Nat) : List (List Int) × Int :=
  if (vget b p).2.2 = 0 then (if 4096 < (vget b p).1 then ([], 4) else if (unpackS (b.drop (vget b p).2.1) (wid es.length) (vget b p).1).2 = 0 then textsS es (unpackS (b.drop (vget b p).2.1) (wid es.length) (vget b p).1).1 else ([], (unpackS (b.drop (vget b p).2.1) (wid es.length) (vget b p).1).2)) else ([], (vget b p).2.2)
def decS (b : List Int) : List (List Int) × Int :=
  if (vget b 0).2.2 = 0 then (if 4096 < (vget b 0).1 then ([], 4) else if (entS b (vget b 0).1 (vget b 0).2.1 []).2.2 = 0 then decT b (entS b (vget b 0).1 (vget b 0).2.1 []).1 (entS b (vget b 0).1 (vget b 0).2.1 []).2.1 else ([], (entS b (vget b 0).1 (vget b 0).2.1 []).2.2)) else ([], (vget b 0).2.2)

theorem vget_le {b : List Int} (hb : Bys b) {p : Nat} (h : (vget b p).2.2 = 0) : (vget b p).2.1 ≤ b.length ∧ p < (vget b p).2.1 := by
  have := vget_used (l := b) (p := p) (v := (vget b p).1) (q := (vget b p).2.1) hb (by rw [← h])
  exact ⟨this.2.1, this.1⟩
theorem textS_le {b : List Int} (hb : Bys b) {p : Nat} (h : (textS b p).2.2 = 0) : (textS b p).2.1 ≤ b.length ∧ (textS b p).1.length ≤ 200 ∧ Bys (textS b p).1 ∧ p < (textS b p).2.1 := by
  unfold textS at h ⊢
  by_cases h1 : (vget b p).2.2 = 0
  · rw [if_pos h1] at h ⊢
    have := vget_le hb h1
    by_cases h2 : 200 < (vget b p).1
    · rw [if_pos h2] at h; simp at h
    · rw [if_neg h2] at h ⊢
      by_cases h3 : b.length - (vget b p).2.1 < (vget b p).1
      · rw [if_pos h3] at h; simp at h
      · rw [if_neg h3]
        exact ⟨by simp only; omega, by simp only [List.length_take, List.length_drop]; omega, (hb.drop _).take _, by simp only; omega⟩
  · rw [if_neg h1] at h; exact absurd h h1
/-! #### texts -/
theorem rd_copy_ev (l : List Int) (hl : l.length ≤ 140737488355328) : Ev (fun k => stoaref01_Copy.f k l) l := ⟨l.length + 1, fun k hk => copy_law l hl k hk⟩
theorem used_set (n i : Nat) (us : List Int) (hi : i < us.length) (h0 : 0 ≤ us[i]) : ((List.range n).map fun j : Nat => decide ((j : Int) ∈ us.take i)).set us[i].toNat true = (List.range n).map fun j : Nat => decide ((j : Int) ∈ us.take (i + 1)) := by
  apply List.ext_getElem
  · simp
  · intro j h1 h2
    rw [List.getElem_set]
    simp only [List.getElem_map, List.getElem_range]
    rw [← take_snoc us i hi]
    by_cases h : us[i].toNat = j
    · rw [if_pos h]
      have : (j : Int) ∈ us.take i ++ [us[i]] := List.mem_append_right _ (by simp; omega)
      exact (decide_eq_true this).symm
    · rw [if_neg h]
      have : (j : Int) ≠ us[i] := by omega
      exact decide_eq_decide.2 ⟨fun h => List.mem_append_left _ h, fun h => (List.mem_append.1 h).elim id (fun h => absurd (List.mem_singleton.1 h) this)⟩
/-! #### the whole -/
theorem unpackS_neg {b : List Int} {w m : Nat} : ∀ u ∈ (unpackS b w m).1, 0 ≤ u := by
  unfold unpackS
  intro u hu
  split at hu
  · simp at hu
  · split at hu
    · simp at hu
    · split at hu
      · simp at hu
      · obtain ⟨i, _, rfl⟩ := List.mem_map.1 hu
        omega
theorem unpackS_len {b : List Int} {w m : Nat} : (unpackS b w m).1.length ≤ m := by
  unfold unpackS
  split
  · simp
  · split
    · simp
    · split
      · simp
      · simp
theorem order_ev (a b : List Int) (hl : a.length < 9223372036854775807) : Ev (fun k => stoaref05_Order.f k a b) (cmpL a b) := ⟨2 * a.length + 2, fun k hk => order_law a b hl k hk⟩
end Go.Proofs.Ytiijkehiphkkiaa.PD
