/-
  The references' helpers (Copy, Same, Piece, Cat): their plain laws, and their calls.
-/
import Derived.Test.YtgcpiofpjogjcaaGreatDoorE1
import Derived.Test.YtgcpiofpjogjcaaGreatDoorE8
import Derived.Test.YtgcpiofpjogjcaaGreatDoorDuv
namespace Go.Proofs.YtgcpiofpjogjcaaGreatDoor.PK
open Go.RowKit Go.Proofs.YtgcpiofpjogjcaaGreatDoorW.PrintWords Go.Proofs.YtgcpiofpjogjcaaGreatDoorW.PrintLast Go.Proofs.YtgcpiofpjogjcaaGreatDoorW.PrintMore
set_option linter.unusedVariables false
set_option linter.unusedSimpArgs false
variable {own : Nat → Prop} {w w' : World}

theorem w64 {n : Int} (h0 : -9223372036854775808 ≤ n) (h1 : n ≤ 9223372036854775807) : wrap64 n = n := by unfold wrap64; omega
theorem w64s (i : Nat) (h : i < 9223372036854775807) : wrap64 ((i : Int) + 1) = ((i + 1 : Nat) : Int) := by rw [w64 (by omega) (by omega)]; omega
theorem up {α : Type} {g : Nat → Option α} (m : ∀ k, LeO (g k) (g (k + 1))) {k : Nat} {r : α} (h : g k = some r) : ∀ k', k ≤ k' → g k' = some r := by
  intro k' hk
  induction hk with
  | refl => exact h
  | step _ ih => exact m _ _ ih
theorem rd_at {xs : List Int} {i : Nat} (h : i < xs.length) : rd xs (i : Int) = xs[i] := by
  simp [rd, List.getD, h]
theorem take_snoc {α : Type} (l : List α) (i : Nat) (h : i < l.length) : l.take i ++ [l[i]] = l.take (i + 1) := by
  rw [List.take_add_one, List.getElem?_eq_getElem h]; rfl
theorem copy_l0 (l : List Int) (hl : l.length ≤ 140737488355328) : ∀ n i, i + n = l.length → stoaref01_Copy.l0 (n + 1) l (l.take i) (i : Int) = some l := by
  intro n
  induction n with
  | zero =>
    intro i h
    unfold stoaref01_Copy.l0
    rw [if_neg (by omega), List.take_of_length_le (by omega)]
  | succ n ih =>
    intro i h
    unfold stoaref01_Copy.l0
    rw [if_pos (by omega), if_pos (by omega), if_pos (by rw [List.length_take]; omega), rd_at (by omega), take_snoc l i (by omega), w64s i (by omega)]
    exact ih (i + 1) (by omega)
theorem drop_yes {α : Type} [DecidableEq α] (a b : List α) (i : Nat) (ha : i < a.length) (hb : i < b.length) (h : a[i] = b[i]) : decide (a.drop i = b.drop i) = decide (a.drop (i + 1) = b.drop (i + 1)) := by
  have e1 := List.drop_eq_getElem_cons ha
  have e2 := List.drop_eq_getElem_cons hb
  rw [decide_eq_decide, e1, e2, h]
  exact ⟨fun h => (List.cons.inj h).2, fun h => by rw [h]⟩
theorem drop_no {α : Type} [DecidableEq α] (a b : List α) (i : Nat) (ha : i < a.length) (hb : i < b.length) (h : a[i] ≠ b[i]) : decide (a.drop i = b.drop i) = false := by
  have e1 := List.drop_eq_getElem_cons ha
  have e2 := List.drop_eq_getElem_cons hb
  rw [decide_eq_false_iff_not, e1, e2]
  exact fun h' => h (List.cons.inj h').1
theorem same_l0 (a b : List Int) (hab : a.length = b.length) (hl : a.length < 9223372036854775807) : ∀ n i, i + n = a.length → stoaref01_Same.l0 (n + 1) a b (i : Int) = some (decide (a.drop i = b.drop i)) := by
  intro n
  induction n with
  | zero =>
    intro i h
    unfold stoaref01_Same.l0
    rw [if_neg (by omega), List.drop_of_length_le (by omega), List.drop_of_length_le (by omega)]
    simp
  | succ n ih =>
    intro i h
    unfold stoaref01_Same.l0
    rw [if_pos (by omega), if_pos (by omega), if_pos (by omega), rd_at (by omega), rd_at (by omega)]
    by_cases he : a[i]'(by omega) = b[i]'(by omega)
    · rw [if_pos he, w64s i (by omega), ih (i + 1) (by omega), drop_yes a b i (by omega) (by omega) he]
    · rw [if_neg he, drop_no a b i (by omega) (by omega) he]
theorem same_law (a b : List Int) (hl : a.length < 9223372036854775807) : stoaref01_Same.f (a.length + 1) a b = some (decide (a = b)) := by
  unfold stoaref01_Same.f
  by_cases h : a.length = b.length
  · rw [if_pos (by omega)]
    exact same_l0 a b h hl a.length 0 (by omega)
  · rw [if_neg (by omega)]
    have : ¬ a = b := fun e => h (by rw [e])
    simp [this]
theorem piece_l0 (l : List Int) (n : Nat) (hn : n ≤ l.length) (hl : l.length ≤ 140737488355328) : ∀ m i, i + m = n → stoaref01_Piece.l0 (m + 1) l (n : Int) (l.take i) (i : Int) = some (l.take n) := by
  intro m
  induction m with
  | zero =>
    intro i h
    obtain rfl : i = n := by omega
    unfold stoaref01_Piece.l0
    by_cases h1 : (i : Int) < l.length
    · rw [if_pos h1, if_neg (by omega)]
    · rw [if_neg h1]
  | succ m ih =>
    intro i h
    unfold stoaref01_Piece.l0
    rw [if_pos (by omega), if_pos (by omega), if_pos (by omega), if_pos (by rw [List.length_take]; omega), rd_at (by omega), take_snoc l i (by omega), w64s i (by omega)]
    exact ih (i + 1) (by omega)
theorem piece_law (l : List Int) (n : Nat) (hn : n ≤ l.length) (hl : l.length ≤ 140737488355328) : stoaref01_Piece.f (n + 2) l 0 n = some (l.take n) := by
  unfold stoaref01_Piece.f
  rw [Option.bind_some, if_neg (by omega)]
  unfold stoaref01_Piece.j0
  exact piece_l0 l n hn hl n 0 (by omega)
theorem cat_l1 (a b : List Int) (hl : a.length + b.length ≤ 140737488355328) : ∀ n i, i + n = b.length → stoaref01_Cat.l1 (n + 1) b (a ++ b.take i) (i : Int) = some (a ++ b) := by
  intro n
  induction n with
  | zero =>
    intro i h
    unfold stoaref01_Cat.l1
    rw [if_neg (by omega), List.take_of_length_le (by omega)]
  | succ n ih =>
    intro i h
    unfold stoaref01_Cat.l1
    rw [if_pos (by omega), if_pos (by omega), if_pos (by rw [List.length_append, List.length_take]; omega), rd_at (by omega), List.append_assoc, take_snoc b i (by omega), w64s i (by omega)]
    exact ih (i + 1) (by omega)
theorem cat_l0 (a b : List Int) (hl : a.length + b.length ≤ 140737488355328) : ∀ n i, i + n = a.length → stoaref01_Cat.l0 (n + b.length + 2) a b (a.take i) (i : Int) = some (a ++ b) := by
  intro n
  induction n with
  | zero =>
    intro i h
    unfold stoaref01_Cat.l0
    rw [if_neg (by omega), List.take_of_length_le (by omega)]
    have h1 := cat_l1 a b hl b.length 0 (by omega)
    rw [List.take_zero, List.append_nil] at h1
    rw [Nat.zero_add]
    exact h1
  | succ n ih =>
    intro i h
    rw [show n + 1 + b.length + 2 = (n + b.length + 2) + 1 from by omega]
    unfold stoaref01_Cat.l0
    rw [if_pos (by omega), if_pos (by omega), if_pos (by rw [List.length_take]; omega), rd_at (by omega), take_snoc a i (by omega), w64s i (by omega)]
    exact ih (i + 1) (by omega)

/-- Bytes that a call has made. -/
def BytesMade (xs : List Int) (w : World) (e : Ending) (w' : World) : Prop := ∃ A c, e = .returned (.slice A xs.length c) ∧ w'.ownsRow w.heap.size 5 1 (.slice A xs.length c) xs.length (nums .u8 xs) ∧ Below w.heap.size w w'
theorem made_of_R {xs : List Int} {e : Ending} {v : Value} (he : e = .returned v) (hR : Kd.R (Kd.int .u8) 5 w' w.heap.size (fun _ => True) v xs) (hb : Below w.heap.size w w') : BytesMade xs w e w' := by
  obtain ⟨A, c, rfl⟩ := Kd.R_slice hR
  exact ⟨A, c, he, Kd.own_of_R hR, hb⟩
theorem copy_any (A : Option Addr) (c : Nat) (xs : List Int) (w : World) (h : Kd.C (Kd.int .u8) w A xs.length xs) (hc : xs.length ≤ c) (hl : xs.length ≤ 140737488355328) :
    Calls Tryz.prog 35 #[.slice A xs.length c] w (BytesMade xs w) :=
  (stoaref01_Copy.calls (xs.length + 1) A c xs xs w h hc (copy_l0 xs hl xs.length 0 (by omega))).mono fun e w' ⟨v, he, hR, hb⟩ => made_of_R he hR hb
theorem same_any (A B : Option Addr) (c d : Nat) (a b : List Int) (w : World) (h : Kd.C (Kd.int .u8) w A a.length a) (hc : a.length ≤ c) (h2 : Kd.C (Kd.int .u8) w B b.length b) (hd : b.length ≤ d) (hl : a.length < 9223372036854775807) :
    Calls Tryz.prog 56 #[.slice A a.length c, .slice B b.length d] w fun e w' => e = .returned (.bool (decide (a = b))) ∧ Drawn0 w w' :=
  stoaref01_Same.calls (a.length + 1) A c a B d b _ w h hc h2 hd (same_law a b hl)
theorem piece_any (A : Option Addr) (c : Nat) (xs : List Int) (n : Nat) (w : World) (h : Kd.C (Kd.int .u8) w A xs.length xs) (hc : xs.length ≤ c) (hn : n ≤ xs.length) (hl : xs.length ≤ 140737488355328) :
    Calls Tryz.prog 53 #[.slice A xs.length c, .int .i64 0, .int .i64 n] w (BytesMade (xs.take n) w) :=
  (stoaref01_Piece.calls (n + 2) A c xs 0 n (xs.take n) w h hc (by first | exact piece_law xs n hn hl | (intros; exact piece_law xs n hn hl))).mono fun e w' ⟨v, he, hR, hb⟩ => made_of_R he hR hb
theorem cat_any (A B : Option Addr) (c d : Nat) (a b : List Int) (w : World) (h : Kd.C (Kd.int .u8) w A a.length a) (hc : a.length ≤ c) (h2 : Kd.C (Kd.int .u8) w B b.length b) (hd : b.length ≤ d) (hl : a.length + b.length ≤ 140737488355328) :
    Calls Tryz.prog 74 #[.slice A a.length c, .slice B b.length d] w (BytesMade (a ++ b) w) :=
  (stoaref01_Cat.calls (a.length + b.length + 2) A c a B d b (a ++ b) w h hc h2 hd (cat_l0 a b hl a.length 0 (by omega))).mono fun e w' ⟨v, he, hR, hb⟩ => made_of_R he hR hb
end Go.Proofs.YtgcpiofpjogjcaaGreatDoor.PK
