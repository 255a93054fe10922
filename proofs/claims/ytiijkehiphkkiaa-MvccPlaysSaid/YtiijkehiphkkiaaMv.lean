/-
  The contracts of the package mvcc: sets of times and the clock's methods, over lists of times. No conditions but sizes.
-/
import Derived.Test.YtiijkehiphkkiaaProg
import Derived.Maps.OwnSet
import Derived.Maps.RangeWalk
import Derived.WalkKit
import Derived.WalkSpells
import Derived.WalkLawsBesides
import Derived.Lib.Hide
import Derived.OneCell
import Derived.Deep.QuietTactic
import Derived.BigQuiet
import Derived.Deep.RegionWith
import Derived.IntWalk
namespace Go.Proofs.Ytiijkehiphkkiaa
open Go.RowKit Go.Maps

theorem law2 : Keyed Try.prog 2 := int_keyed Try.underlying2
theorem zero3 (w : World) : (zeroValue 3).run Try.prog w = .ok (.int .i64 0) w := by kernel_rfl

/-- Block b is a map of at most n entries that holds each time of l as often as it stands there. -/
structure SetAt (w : World) (b n : Nat) (l : List Int) : Prop where
  own : ∃ D : DataW Unit, w.ownsMap Try.prog 2 (plainElem Try.prog 3) b n D ∧ (∀ x, has D (.int .i64 x) = decide (x ∈ l)) ∧
    (∀ x, D.atKey (.int .i64 x) (.lit (.int .i64 0)) = .lit (.int .i64 (l.count x : Nat)))
  wf : ∀ x ∈ l, (Lit.int .i64 x).wf = true
  le : l.length ≤ n

theorem wf_nat {n : Nat} (h : n < 9223372036854775808) : (Lit.int .i64 (n : Int)).wf = true := WalkArith.wf_i64 (by omega)

theorem maxLen_is : maxLen = 9223372036854775807 := rfl

/-- The set of an empty map. -/
theorem SetAt.empty {w : World} {b : Nat} (h : w.heap[b]? = some (.map #[] 0)) : SetAt w b 0 [] := by
  exact ⟨⟨.map [], ⟨#[], 0, h, ⟨by simp, MapKept.stamped_empty 0, by simp⟩, Nat.le_refl _, rfl⟩, fun x => rfl, fun x => rfl⟩, by simp, by simp⟩

theorem SetAt.kept {w w' : World} {b n : Nat} {l : List Int} (h : SetAt w b n l) (hb : w'.heap[b]? = w.heap[b]?) : SetAt w' b n l := by
  obtain ⟨⟨D, ⟨es, clock, h1, h2⟩, h3⟩, h4, h5⟩ := h
  exact ⟨⟨D, ⟨es, clock, hb.trans h1, h2⟩, h3⟩, h4, h5⟩

theorem SetAt.lt {w : World} {b n : Nat} {l : List Int} (h : SetAt w b n l) : b < w.heap.size := by
  obtain ⟨⟨D, h1, _⟩, _⟩ := h
  exact h1.lt

theorem has_put {D : DataW Unit} (hD : IsMap D) (t x : Int) (d : DataW Unit) : has (D.put (.int .i64 t) d) (.int .i64 x) = (decide (x = t) || has D (.int .i64 x)) := by
  by_cases e : x = t
  · subst e; rw [has_put_same hD (k := .int .i64 x) trivial]; simp
  · rw [has_put_other (fun h => e (by injection h))]; simp [e]

theorem at_put {D : DataW Unit} (hD : IsMap D) (t x : Int) (d z : DataW Unit) : (D.put (.int .i64 t) d).atKey (.int .i64 x) z = if x = t then d else D.atKey (.int .i64 x) z := by
  by_cases e : x = t
  · subst e; rw [atKey_put_same hD (k := .int .i64 x) trivial]; simp
  · rw [atKey_put_other (fun h => e (by injection h))]; simp [e]

theorem has_del {D : DataW Unit} (t x : Int) : has (D.del (.int .i64 t)) (.int .i64 x) = (!decide (x = t) && has D (.int .i64 x)) := by
  by_cases e : x = t
  · subst e; rw [has_del_same]; simp
  · rw [has_del_other (fun h => e (by injection h))]; simp [e]

theorem at_del {D : DataW Unit} (t x : Int) (z : DataW Unit) : (D.del (.int .i64 t)).atKey (.int .i64 x) z = if x = t then z else D.atKey (.int .i64 x) z := by
  by_cases e : x = t
  · subst e; rw [atKey_del_same]; simp
  · rw [atKey_del_other (fun h => e (by injection h))]; simp [e]

theorem add_any (b n : Nat) (l : List Int) (t : Int) (w : World) (h : SetAt w b n l) (hn : n < 4611686018427387904) (ht : (Lit.int .i64 t).wf = true) :
    Calls Try.prog 50 #[.map (some b), .int .i64 t] w fun e w' => e = .returned (.tuple #[]) ∧ SetAt w' b (n + 1) (t :: l) ∧ w.mapTurned w' b := by
  obtain ⟨⟨D, hown, hhas, hat⟩, hwf, hle⟩ := h
  have hkey := keyOf_int_mk Try.underlying2 ht
  have hcl := List.count_le_length (a := t) (l := l)
  go_enter Try.func50, Try.ntmps50
  go_wp2_with (first
    | (at_lookup; refine wpList_lookup_own_int _ rfl _ _ 71 rfl 2 3 .i64 law2 Try.underlying71 Try.underlying3 (zero3 _) b n D rfl hown _ _ rfl hkey ?_; intro c hc hwc; have hc1 : 0 ≤ c ∧ c < 4611686018427387904 := by (rw [hat t] at hc; injection hc with hc; injection hc with _ hc; omega))
    | (at_mapUpdate; refine wpList_mapUpdate_in _ rfl _ _ _ 71 rfl 2 3 law2 Try.underlying71 _ b n D rfl hown (by unfold maxLen; omega) _ _ _ rfl rfl hkey _ [] (plainElem_int Try.underlying3 (WalkArith.wf_i64 (by omega))) ?_; intro w1 hown1 hturn1)
    | go_in)
  go_end0
  have hm := hown.isMap
  rw [hat t] at hc
  injection hc with hc; injection hc with _ hc
  refine ⟨rfl, ⟨⟨_, hown1, fun x => ?_, fun x => ?_⟩, ?_, ?_⟩, hturn1⟩
  · rw [has_put hm, hhas]; simp
  · rw [at_put hm, hat, ← hc]
    by_cases e : x = t
    · subst e; simp
    · simp [e, show ¬ t = x from fun h => e h.symm]
  · intro x hx; rcases List.mem_cons.1 hx with rfl | hx
    · exact ht
    · exact hwf x hx
  · simp; omega

set_option maxRecDepth 100000 in
theorem drop_yes (b n : Nat) (l : List Int) (t : Int) (w : World) (h : SetAt w b n l) (hn : n < 4611686018427387904) (hm : t ∈ l) :
    Calls Try.prog 88 #[.map (some b), .int .i64 t] w fun e w' => e = .returned (.bool true) ∧ SetAt w' b (n + 1) (l.erase t) ∧ w.mapTurned w' b := by
  obtain ⟨⟨D, hown, hhas, hat⟩, hwf, hle⟩ := h
  have ht := hwf t hm
  have hkey := keyOf_int_mk Try.underlying2 ht
  have hcl := List.count_le_length (a := t) (l := l)
  have hcp := List.count_pos_iff.2 hm
  have hh : has D (.int .i64 t) = true := by rw [hhas]; simpa using hm
  have hle2 := List.length_erase_le (a := t) (l := l)
  by_cases h1 : l.count t ≤ 1
  all_goals
    go_enter Try.func88, Try.ntmps88
    go_wp2_with (first
      | (at_lookup; refine wpList_lookup_own_ok_int _ rfl _ _ 71 rfl 2 3 .i64 law2 Try.underlying71 Try.underlying3 (zero3 _) b n D rfl hown _ _ rfl hkey ?_; intro c hc hwc; rw [hat t] at hc; injection hc with hc; injection hc with _ hc; subst hc)
      | (at_mapUpdate; refine wpList_mapUpdate_in _ rfl _ _ _ 71 rfl 2 3 law2 Try.underlying71 _ b n D rfl hown (by unfold maxLen; omega) _ _ _ rfl rfl hkey _ [] (plainElem_int Try.underlying3 (WalkArith.wf_i64 (by omega))) ?_; intro w1 hown1 hturn1)
      | (at_delete; refine wpList_delete_own _ rfl _ _ 71 2 rfl 3 law2 Try.underlying71 _ b n D rfl hown _ _ rfl hkey ?_; intro w1 hown1 hturn1)
      | go_in)
    go_ret
  · refine ⟨rfl, ⟨⟨_, hown1.mono (Nat.le_succ _), fun x => ?_, fun x => ?_⟩, fun x hx => hwf x (List.mem_of_mem_erase hx), by omega⟩, hturn1⟩
    · rw [has_del, hhas, Bool.eq_iff_iff]
      by_cases e : x = t
      · subst e
        have : List.count x (l.erase x) = 0 := by rw [List.count_erase_self]; omega
        have h0 : x ∉ l.erase x := List.count_eq_zero.1 this
        simp [h0]
      · simp [e, List.mem_erase_of_ne e]
    · rw [at_del, hat]
      by_cases e : x = t
      · subst e; rw [List.count_erase_self]; simp; omega
      · rw [List.count_erase_of_ne e]; simp [e]
  · have hd : IsMap D := hown.isMap
    refine ⟨rfl, ⟨⟨_, hown1, fun x => ?_, fun x => ?_⟩, fun x hx => hwf x (List.mem_of_mem_erase hx), by omega⟩, hturn1⟩
    · rw [has_put hd, hhas, Bool.eq_iff_iff]
      by_cases e : x = t
      · subst e
        have : 0 < List.count x (l.erase x) := by rw [List.count_erase_self]; omega
        have h0 : x ∈ l.erase x := List.count_pos_iff.1 this
        simp [h0]
      · simp [e, List.mem_erase_of_ne e]
    · rw [at_put hd, hat]
      by_cases e : x = t
      · subst e; rw [List.count_erase_self]; simp; omega
      · rw [List.count_erase_of_ne e]; simp [e]

set_option maxRecDepth 100000 in
theorem drop_no (b n : Nat) (l : List Int) (t : Int) (w : World) (h : SetAt w b n l) (hm : t ∉ l) (ht : (Lit.int .i64 t).wf = true) :
    Calls Try.prog 88 #[.map (some b), .int .i64 t] w fun e w' => e = .returned (.bool false) ∧ SetAt w' b n l ∧ w.mapTurned w' b := by
  obtain ⟨⟨D, hown, hhas, hat⟩, hwf, hle⟩ := h
  have hkey := keyOf_int_mk Try.underlying2 ht
  have hc0 := List.count_eq_zero.2 hm
  have hh : has D (.int .i64 t) = false := by rw [hhas]; simpa using hm
  go_enter Try.func88, Try.ntmps88
  go_wp2_with (first
    | (at_lookup; refine wpList_lookup_own_ok_int _ rfl _ _ 71 rfl 2 3 .i64 law2 Try.underlying71 Try.underlying3 (zero3 _) b n D rfl hown _ _ rfl hkey ?_; intro c hc hwc; rw [hat t, hc0] at hc; injection hc with hc; injection hc with _ hc; subst hc)
    | (at_delete; refine wpList_delete_own _ rfl _ _ 71 2 rfl 3 law2 Try.underlying71 _ b n D rfl hown _ _ rfl hkey ?_; intro w1 hown1 hturn1)
    | go_in)
  go_ret
  refine ⟨rfl, ⟨⟨_, hown1, fun x => ?_, fun x => ?_⟩, hwf, hle⟩, hturn1⟩
  · rw [has_del, hhas]
    by_cases e : x = t
    · subst e; simp [hm]
    · simp [e]
  · rw [at_del, hat]
    by_cases e : x = t
    · subst e; rw [hc0]; simp
    · simp [e]

theorem ret_int {k : IntKind} {a b : Int} (h : a = b) : Ending.returned (.int k a) = .returned (.int k b) := by rw [h]

/-- The smaller of t and of all of a list. -/
def leastOf (l : List Int) (t : Int) : Int := l.foldl min t

theorem leastOf_le : ∀ (l : List Int) (t : Int), leastOf l t ≤ t ∧ ∀ x ∈ l, leastOf l t ≤ x
  | [], t => by simp [leastOf]
  | a :: l, t => by
    have h := leastOf_le l (min t a)
    simp only [leastOf, List.foldl_cons] at h ⊢
    refine ⟨by omega, fun x hx => ?_⟩
    rcases List.mem_cons.1 hx with rfl | hx
    · omega
    · exact h.2 x hx

theorem leastOf_mem : ∀ (l : List Int) (t : Int), leastOf l t = t ∨ leastOf l t ∈ l
  | [], t => by simp [leastOf]
  | a :: l, t => by
    have h := leastOf_mem l (min t a)
    simp only [leastOf, List.foldl_cons] at h ⊢
    rcases h with h | h
    · rw [h]
      by_cases e : t ≤ a
      · left; omega
      · right; rw [show min t a = a by omega]; simp
    · right; simp [h]

theorem leastOf_unique {l : List Int} {t m : Int} (h1 : m ≤ t) (h2 : ∀ x ∈ l, m ≤ x) (h3 : m = t ∨ m ∈ l) : m = leastOf l t := by
  have h4 := leastOf_le l t
  rcases leastOf_mem l t with h5 | h5 <;> rcases h3 with h6 | h6
  · omega
  · have := h4.2 m h6; omega
  · have := h2 _ h5; omega
  · have := h4.2 m h6; have := h2 _ h5; omega

theorem least_any (b n : Nat) (l : List Int) (t : Int) (w : World) (h : SetAt w b n l) :
    Calls Try.prog 54 #[.map (some b), .int .i64 t] w fun e w' => e = .returned (.int .i64 (leastOf l t)) ∧ Below w.heap.size w w' := by
  obtain ⟨⟨D, hown, hhas, hat⟩, hwf, hle⟩ := h
  have HH := Lib.hid hhas; have HA := Lib.hid hat; clear hhas hat
  go_enter Try.func54, Try.ntmps54
  go_wp2_with (first
    | (at_range; refine wpList_range_own _ rfl _ 71 rfl 2 3 law2 Try.underlying71 _ b n D rfl hown ?_; intro w0 hrg0 hg0 hs0)
    | go_in)
  go_frame
  go_loopw [1, 5] (fun v _ wr => ∃ (m : Int) (left : Lit → Bool) (cnt : Nat), v = .int .i64 m ∧ wr.ranges Try.prog 2 (plainElem Try.prog 3) b w.heap.size n D left cnt ∧ Below w.heap.size w wr ∧ m ≤ t ∧ (m = t ∨ m ∈ l) ∧ (∀ x ∈ l, m ≤ x ∨ left (.int .i64 x) = true))
    (fun _ _ wr => wr.rangeLeft b w.heap.size)
  case atStart => 
    refine ⟨t, _, _, rfl, hrg0, (Below.refl _ _).grown hg0 (Nat.le_refl _) (fun r e => by cases e), Int.le_refl _, .inl rfl, fun x hx => .inr ?_⟩
    rw [HH.out]; simpa using hx
  case round =>
    obtain ⟨m, left, cnt, rfl, hrg, hb, h1, h2, h3⟩ := hrel
    have H2 := Lib.hid h2; have H3 := Lib.hid h3; clear h2 h3
    go_wp2_with (first
      | (at_next; refine wpList_next_ranges_ii _ rfl _ rfl 2 3 .i64 .i64 law2 Try.underlying2 Try.underlying3 b w.heap.size n D _ _ rfl hrg ?_ ?_)
      | go_in)
    · intro hc0 hl0
      go_wp2
      go_ret
      exact ⟨ret_int (leastOf_unique h1 (fun x hx => by rcases H3.out x hx with h | h
                                                        · exact h
                                                        · rw [hl0] at h; cases h) H2.out), hb⟩
    · intro x c w2 cnt2 hwx hwc hlk hat hrg2 hlt hg2 hs2 hen
      clear hs2
      have hx : x ∈ l := by
        have h4 := HH.out x
        by_cases e : x ∈ l
        · exact e
        · have h5 := atKey_of_not_has (h4.trans (by simpa using e)) .nil
          rw [hat] at h5; cases h5
      have HX := Lib.hid hx; have HAT := Lib.hid hat; clear hx hat
      go_wp2
      go_roundw
      case rel =>
        refine ⟨_, _, cnt2, rfl, hrg2, hb.grown hg2 hb.size (fun r e => by cases e; exact Nat.le_refl _), by split <;> omega, ?_, fun y hy => ?_⟩
        · split
          · exact .inr HX.out
          · exact H2.out
        · rcases H3.out y hy with h | h
          · left; split <;> omega
          · by_cases e : y = x
            · subst e; left; split <;> omega
            · right; rw [h, sameKey_ne (fun e' => e (by injection e'))]; rfl
      case measure => rw [hrg2.left_eq, hrg.left_eq]; exact hlt

/-- Only the three blocks of a clock, from c on, may have turned. -/
structure Turn (c : Nat) (w w' : World) : Prop where
  os : w'.os = w.os
  tape : w'.tape = w.tape
  output : w'.output = w.output
  size : w.heap.size ≤ w'.heap.size
  block : ∀ k, k < w.heap.size → (k < c ∨ c + 2 < k) → w'.heap[k]? = w.heap[k]?

theorem Turn.refl (c : Nat) (w : World) : Turn c w w := ⟨rfl, rfl, rfl, Nat.le_refl _, fun _ _ _ => rfl⟩
theorem Turn.trans {c : Nat} {a b d : World} (h : Turn c a b) (k : Turn c b d) : Turn c a d :=
  ⟨k.os.trans h.os, k.tape.trans h.tape, k.output.trans h.output, Nat.le_trans h.size k.size, fun i hi hj => (k.block i (Nat.lt_of_lt_of_le hi h.size) hj).trans (h.block i hi hj)⟩
theorem Turn.of_below {c : Nat} {w w' : World} (h : Below w.heap.size w w') : Turn c w w' := ⟨h.os, h.tape, h.output, h.size, fun k hk _ => h.block k hk⟩
theorem Turn.drewN {c : Nat} {w w' : World} (h : Turn c w w') (n : Nat) : Turn c w (w'.drewN n) := ⟨h.os, h.tape, h.output, h.size, h.block⟩
theorem Turn.of_grown {c b : Nat} {w w' : World} (h : w.grownBy w' (some b)) (h1 : c ≤ b) (h2 : b ≤ c + 2) : Turn c w w' :=
  ⟨h.os, h.tape, h.output, h.size, fun k hk hj => h.block k hk (fun e => by injection e with e; omega)⟩
theorem Turn.setCell {c : Nat} {w : World} (a : Addr) (u : Value) (h1 : c ≤ a.block) (h2 : a.block ≤ c + 2) : Turn c w (w.setCell a u) :=
  ⟨rfl, rfl, rfl, by simp [World.setCell], fun k hk hj => Below.heap_setCell _ _ _ _ (by omega)⟩
theorem Turn.below {c B : Nat} {w w' : World} (h : Turn c w w') (h1 : B ≤ c) (h2 : c ≤ w.heap.size) : Below B w w' :=
  ⟨h.os, h.tape, h.output, h.size, fun k hk => h.block k (by omega) (by omega)⟩

/-- A clock's state. -/
structure St where
  now : Int
  last : Int
  mark : Int
  F : List Int
  P : List Int

structure ClockAt (w : World) (c n : Nat) (s : St) : Prop where
  blk : w.heap[c + 2]? = some (.cells #[.int .i64 s.now, .int .i64 s.last, .int .i64 s.mark, .map (some c), .map (some (c + 1))] 73 (0, 0))
  fl : SetAt w c n s.F
  pi : SetAt w (c + 1) n s.P
  now0 : 0 ≤ s.now
  now1 : s.now ≤ 1099511627777
  last0 : -1 ≤ s.last
  last1 : s.last ≤ 1099511627776
  mark0 : 0 ≤ s.mark
  mark1 : s.mark ≤ 1099511627776
  f0 : ∀ x ∈ s.F, 0 ≤ x ∧ x ≤ 1099511627776
  p0 : ∀ x ∈ s.P, 0 ≤ x ∧ x ≤ 1099511627776

theorem five_cells {w : World} {b : Nat} {a0 a1 a2 a3 a4 : Value} {t : TypeId} (h : w.heap[b]? = some (.cells #[a0, a1, a2, a3, a4] t (0, 0))) :
    w.cell? ⟨b, 0, none⟩ = some a0 ∧ w.cell? ⟨b, 1, none⟩ = some a1 ∧ w.cell? ⟨b, 2, none⟩ = some a2 ∧ w.cell? ⟨b, 3, none⟩ = some a3 ∧ w.cell? ⟨b, 4, none⟩ = some a4 := by
  refine ⟨?_, ?_, ?_, ?_, ?_⟩ <;> simp [World.cell?, h]

theorem five_free {w : World} {b : Nat} {cs : Array Value} {t : TypeId} (h : w.heap[b]? = some (.cells cs t (0, 0))) (i : Nat) : w.frozen? ⟨b, i, none⟩ = false := by simp [World.frozen?, h]

theorem block_setCell {w : World} {b i : Nat} {cs : Array Value} {u : Value} {t : TypeId} {m : Nat × Nat} (h : w.heap[b]? = some (.cells cs t m)) : (w.setCell ⟨b, i, none⟩ u).heap[b]? = some (.cells (cs.setIfInBounds i u) t m) := by
  have hlt := lt_of_block h
  have h' : w.heap[b] = .cells cs t m := by simpa [Array.getElem?_eq_getElem hlt] using h
  show (w.heap.modify b _)[b]? = _
  rw [Array.getElem?_eq_getElem (by simpa using hlt), Array.getElem_modify_self, h']
  rfl

theorem ClockAt.kept {w w' : World} {c n : Nat} {s : St} (h : ClockAt w c n s) (h0 : w'.heap[c]? = w.heap[c]?) (h1 : w'.heap[c + 1]? = w.heap[c + 1]?) (h2 : w'.heap[c + 2]? = w.heap[c + 2]?) : ClockAt w' c n s :=
  ⟨h2.trans h.blk, h.fl.kept h0, h.pi.kept h1, h.now0, h.now1, h.last0, h.last1, h.mark0, h.mark1, h.f0, h.p0⟩

theorem ClockAt.lt {w : World} {c n : Nat} {s : St} (h : ClockAt w c n s) : c + 2 < w.heap.size := lt_of_block h.blk

theorem ClockAt.below {w w' : World} {c n : Nat} {s : St} (h : ClockAt w c n s) (hb : Below w.heap.size w w') : ClockAt w' c n s :=
  h.kept (hb.block _ (by have := h.lt; omega)) (hb.block _ (by have := h.lt; omega)) (hb.block _ h.lt)

theorem ClockAt.drewN {w : World} {c n : Nat} {s : St} (h : ClockAt w c n s) (k : Nat) : ClockAt (w.drewN k) c n s := h.kept rfl rfl rfl

theorem SetAt.mono {w : World} {b n n' : Nat} {l : List Int} (h : SetAt w b n l) (hn : n ≤ n') : SetAt w b n' l := by
  obtain ⟨⟨D, h1, h2⟩, h3, h4⟩ := h
  exact ⟨⟨D, h1.mono hn, h2⟩, h3, by omega⟩

theorem ClockAt.mono {w : World} {c n n' : Nat} {s : St} (h : ClockAt w c n s) (hn : n ≤ n') : ClockAt w c n' s :=
  ⟨h.blk, h.fl.mono hn, h.pi.mono hn, h.now0, h.now1, h.last0, h.last1, h.mark0, h.mark1, h.f0, h.p0⟩

theorem new_any (w : World) : Calls Try.prog 11 #[] w fun e w' => e = .returned (.pointer (some ⟨w.heap.size + 2, 0, none⟩)) ∧
    w' = ((w.alloc (.map #[] 0)).alloc (.map #[] 0)).alloc (.cells #[.int .i64 0, .int .i64 (-1), .int .i64 0, .map (some w.heap.size), .map (some (w.heap.size + 1))] 73 (0, 0)) := by
  have hmm := @run_makeMap Try.prog
  go_enter Try.func11, Try.ntmps11
  go_wp2
  go_ret
  exact ⟨rfl, rfl⟩

theorem mark_any (c n : Nat) (s : St) (w : World) (h : ClockAt w c n s) : Calls Try.prog 23 #[.pointer (some ⟨c + 2, 0, none⟩)] w fun e w' => e = .returned (.int .i64 s.mark) ∧ w = w' := by
  obtain ⟨c0, c1, c2, c3, c4⟩ := five_cells h.blk
  go_enter Try.func23, Try.ntmps23
  go_wp2
  go_ret
  exact ⟨rfl, rfl⟩

theorem last_any (c n : Nat) (s : St) (w : World) (h : ClockAt w c n s) : Calls Try.prog 21 #[.pointer (some ⟨c + 2, 0, none⟩)] w fun e w' => e = .returned (.int .i64 s.last) ∧ w = w' := by
  obtain ⟨c0, c1, c2, c3, c4⟩ := five_cells h.blk
  go_enter Try.func21, Try.ntmps21
  go_wp2
  go_ret
  exact ⟨rfl, rfl⟩

theorem now_any (c n : Nat) (s : St) (w : World) (h : ClockAt w c n s) : Calls Try.prog 18 #[.pointer (some ⟨c + 2, 0, none⟩)] w fun e w' => e = .returned (.int .i64 s.now) ∧ w = w' := by
  obtain ⟨c0, c1, c2, c3, c4⟩ := five_cells h.blk
  go_enter Try.func18, Try.ntmps18
  go_wp2
  go_ret
  exact ⟨rfl, rfl⟩

def St.next (s : St) : Int := max s.now (s.last + 1)

theorem next_any (c n : Nat) (s : St) (w : World) (h : ClockAt w c n s) : Calls Try.prog 49 #[.pointer (some ⟨c + 2, 0, none⟩)] w fun e w' => e = .returned (.int .i64 s.next) ∧ ∃ k, w' = w.drewN k := by
  obtain ⟨c0, c1, c2, c3, c4⟩ := five_cells h.blk
  have b0 := h.now0; have b1 := h.now1; have b2 := h.last0; have b3 := h.last1
  go_enter Try.func49, Try.ntmps49
  go_wp2_with fail
  go_quiet (fail)
  go_wp2
  all_goals (go_ret; exact ⟨ret_int (by unfold St.next; omega), _, rfl⟩)

theorem ClockAt.turnF {w w' : World} {c n n' : Nat} {s : St} {F' : List Int} (h : ClockAt w c n s) (ht : w.mapTurned w' c) (hs : SetAt w' c n' F') (hn : n ≤ n') (hf : ∀ x ∈ F', 0 ≤ x ∧ x ≤ 1099511627776) : ClockAt w' c n' { s with F := F' } :=
  ⟨(ht.grown.block _ h.lt (by simp)).trans h.blk, hs, (h.pi.kept (ht.grown.block _ h.pi.lt (by simp))).mono hn, h.now0, h.now1, h.last0, h.last1, h.mark0, h.mark1, hf, h.p0⟩

theorem ClockAt.turnP {w w' : World} {c n n' : Nat} {s : St} {P' : List Int} (h : ClockAt w c n s) (ht : w.mapTurned w' (c + 1)) (hs : SetAt w' (c + 1) n' P') (hn : n ≤ n') (hf : ∀ x ∈ P', 0 ≤ x ∧ x ≤ 1099511627776) : ClockAt w' c n' { s with P := P' } :=
  ⟨(ht.grown.block _ h.lt (by simp)).trans h.blk, (h.fl.kept (ht.grown.block _ h.fl.lt (by simp))).mono hn, hs, h.now0, h.now1, h.last0, h.last1, h.mark0, h.mark1, h.f0, hf⟩

theorem ClockAt.other {w : World} {c n i : Nat} {s : St} (h : ClockAt w c n s) (u : Value) : SetAt (w.setCell ⟨c + 2, i, none⟩ u) c n s.F ∧ SetAt (w.setCell ⟨c + 2, i, none⟩ u) (c + 1) n s.P :=
  ⟨h.fl.kept (Below.heap_setCell _ _ _ _ (by simp)), h.pi.kept (Below.heap_setCell _ _ _ _ (by simp))⟩

theorem ClockAt.setLast {w : World} {c n : Nat} {s : St} (h : ClockAt w c n s) (x : Int) (h0 : -1 ≤ x) (h1 : x ≤ 1099511627776) : ClockAt (w.setCell ⟨c + 2, 1, none⟩ (.int .i64 x)) c n { s with last := x } :=
  ⟨block_setCell h.blk, (h.other _).1, (h.other _).2, h.now0, h.now1, h0, h1, h.mark0, h.mark1, h.f0, h.p0⟩

theorem ClockAt.setNow {w : World} {c n : Nat} {s : St} (h : ClockAt w c n s) (x : Int) (h0 : 0 ≤ x) (h1 : x ≤ 1099511627777) : ClockAt (w.setCell ⟨c + 2, 0, none⟩ (.int .i64 x)) c n { s with now := x } :=
  ⟨block_setCell h.blk, (h.other _).1, (h.other _).2, h0, h1, h.last0, h.last1, h.mark0, h.mark1, h.f0, h.p0⟩

theorem ClockAt.setMark {w : World} {c n : Nat} {s : St} (h : ClockAt w c n s) (x : Int) (h0 : 0 ≤ x) (h1 : x ≤ 1099511627776) : ClockAt (w.setCell ⟨c + 2, 2, none⟩ (.int .i64 x)) c n { s with mark := x } :=
  ⟨block_setCell h.blk, (h.other _).1, (h.other _).2, h.now0, h.now1, h.last0, h.last1, h0, h1, h.f0, h.p0⟩

theorem begin_no (c n : Nat) (s : St) (w : World) (h : ClockAt w c n s) (hm : 1099511627776 < s.next) :
    Calls Try.prog 13 #[.pointer (some ⟨c + 2, 0, none⟩)] w fun e w' => e = .returned (.tuple #[.int .i64 0, .int .i64 170]) ∧ ClockAt w' c n s ∧ Turn c w w' := by
  go_enter Try.func13, Try.ntmps13
  go_wp2_with (go_at_call 49; refine (next_any c n s _ h).mono ?_; rintro e w' ⟨rfl, k, rfl⟩)
  go_ret2
  exact ⟨rfl, h.drewN k, (Turn.refl _ _).drewN k⟩

theorem begin_yes (c n : Nat) (s : St) (w : World) (h : ClockAt w c n s) (hm : s.next ≤ 1099511627776) (hn : n < 4611686018427387904) :
    Calls Try.prog 13 #[.pointer (some ⟨c + 2, 0, none⟩)] w fun e w' => e = .returned (.tuple #[.int .i64 s.next, .int .i64 0]) ∧ ClockAt w' c (n + 1) { s with last := s.next, F := s.next :: s.F } ∧ Turn c w w' := by
  have hx : 0 ≤ s.next := by have := h.now0; unfold St.next; omega
  have ht : (Lit.int .i64 s.next).wf = true := WalkArith.wf_i64 (by omega)
  obtain ⟨c0, c1, c2, c3, c4⟩ := five_cells h.blk
  have f1 := five_free h.blk 1
  go_enter Try.func13, Try.ntmps13
  go_wp2_with (go_at_call 49; refine (next_any c n s _ h).mono ?_; rintro e w' ⟨rfl, k, rfl⟩)
  have h2 : ClockAt ((w.drewN k).setCell ⟨c + 2, 1, none⟩ (.int .i64 s.next)) c n { s with last := s.next } := (h.drewN k).setLast s.next (by omega) hm
  refine (add_any c n s.F s.next _ h2.fl hn ht).mono ?_
  rintro e w1 ⟨rfl, h3, h4⟩
  go_wp2
  go_ret2
  exact ⟨rfl, h2.turnF h4 h3 (by omega) (fun x hx => by rcases List.mem_cons.1 hx with rfl | hx
                                                        · omega
                                                        · exact h.f0 x hx), ((Turn.refl _ _).drewN k).trans ((Turn.setCell _ _ (by simp) (by simp)).trans (Turn.of_grown h4.grown (by omega) (by omega)))⟩

theorem end_yes (c n : Nat) (s : St) (t : Int) (w : World) (h : ClockAt w c n s) (hn : n < 4611686018427387904) (hm : t ∈ s.F) :
    Calls Try.prog 51 #[.pointer (some ⟨c + 2, 0, none⟩), .int .i64 t] w fun e w' => e = .returned (.int .i64 0) ∧ ClockAt w' c (n + 1) { s with F := s.F.erase t } ∧ Turn c w w' := by
  obtain ⟨c0, c1, c2, c3, c4⟩ := five_cells h.blk
  go_enter Try.func51, Try.ntmps51
  go_wp2_with (go_at_call 88; refine (drop_yes c n s.F t _ h.fl hn hm).mono ?_; rintro e w1 ⟨rfl, h3, h4⟩)
  go_ret
  exact ⟨rfl, h.turnF h4 h3 (by omega) (fun x hx => h.f0 x (List.mem_of_mem_erase hx)), Turn.of_grown h4.grown (by omega) (by omega)⟩

theorem end_no (c n : Nat) (s : St) (t : Int) (w : World) (h : ClockAt w c n s) (hm : t ∉ s.F) (ht : (Lit.int .i64 t).wf = true) :
    Calls Try.prog 51 #[.pointer (some ⟨c + 2, 0, none⟩), .int .i64 t] w fun e w' => e = .returned (.int .i64 172) ∧ ClockAt w' c n s ∧ Turn c w w' := by
  obtain ⟨c0, c1, c2, c3, c4⟩ := five_cells h.blk
  go_enter Try.func51, Try.ntmps51
  go_wp2_with (go_at_call 88; refine (drop_no c n s.F t _ h.fl hm ht).mono ?_; rintro e w1 ⟨rfl, h3, h4⟩)
  go_ret
  exact ⟨rfl, h.turnF h4 h3 (by omega) h.f0, Turn.of_grown h4.grown (by omega) (by omega)⟩

/-- A clock's state behind a commit or an abort; whether there was one. -/
def St.end (s : St) (t : Int) : St := if t ∈ s.F then { s with F := s.F.erase t } else s
def St.endErr (s : St) (t : Int) : Int := if t ∈ s.F then 0 else 172

theorem end_any (c n : Nat) (s : St) (t : Int) (w : World) (h : ClockAt w c n s) (hn : n < 4611686018427387904) (ht : (Lit.int .i64 t).wf = true) :
    Calls Try.prog 51 #[.pointer (some ⟨c + 2, 0, none⟩), .int .i64 t] w fun e w' => e = .returned (.int .i64 (s.endErr t)) ∧ ClockAt w' c (n + 1) (s.end t) ∧ Turn c w w' := by
  unfold St.endErr St.end
  by_cases hm : t ∈ s.F
  · rw [if_pos hm, if_pos hm]; exact end_yes c n s t w h hn hm
  · rw [if_neg hm, if_neg hm]; exact (end_no c n s t w h hm ht).mono fun e w' ⟨a, b, d⟩ => ⟨a, b.mono (Nat.le_succ _), d⟩

theorem commit_any (c n : Nat) (s : St) (t : Int) (w : World) (h : ClockAt w c n s) (hn : n < 4611686018427387904) (ht : (Lit.int .i64 t).wf = true) :
    Calls Try.prog 14 #[.pointer (some ⟨c + 2, 0, none⟩), .int .i64 t] w fun e w' => e = .returned (.int .i64 (s.endErr t)) ∧ ClockAt w' c (n + 1) (s.end t) ∧ Turn c w w' := by
  go_enter Try.func14, Try.ntmps14
  go_wp2_with (go_at_call 51; refine (end_any c n s t _ h hn ht).mono ?_; rintro e w1 ⟨rfl, h3, h4⟩)
  go_ret
  exact ⟨rfl, h3, h4⟩

theorem abort_any (c n : Nat) (s : St) (t : Int) (w : World) (h : ClockAt w c n s) (hn : n < 4611686018427387904) (ht : (Lit.int .i64 t).wf = true) :
    Calls Try.prog 15 #[.pointer (some ⟨c + 2, 0, none⟩), .int .i64 t] w fun e w' => e = .returned (.int .i64 (s.endErr t)) ∧ ClockAt w' c (n + 1) (s.end t) ∧ Turn c w w' := by
  go_enter Try.func15, Try.ntmps15
  go_wp2_with (go_at_call 51; refine (end_any c n s t _ h hn ht).mono ?_; rintro e w1 ⟨rfl, h3, h4⟩)
  go_ret
  exact ⟨rfl, h3, h4⟩

/-- What is up to where all is settled; up to where history isn't asked for. -/
def St.clean (s : St) : Int := leastOf s.F s.next - 1
def St.floor (s : St) : Int := leastOf s.P s.mark

theorem wf_bounds {t : Int} (h : (Lit.int .i64 t).wf = true) : -9223372036854775808 ≤ t ∧ t ≤ 9223372036854775807 := by
  simp [Lit.wf] at h; exact h

theorem St.next_in {w : World} {c n : Nat} {s : St} (h : ClockAt w c n s) : 0 ≤ s.next ∧ s.next ≤ 1099511627777 := by
  have := h.now0; have := h.now1; have := h.last1; unfold St.next; omega

theorem leastOf_in {l : List Int} {t : Int} (h : ∀ x ∈ l, 0 ≤ x ∧ x ≤ 1099511627776) (h0 : 0 ≤ t) (h1 : t ≤ 1099511627777) : 0 ≤ leastOf l t ∧ leastOf l t ≤ 1099511627777 := by
  have h4 := (leastOf_le l t).1
  rcases leastOf_mem l t with h5 | h5
  · omega
  · have := h _ h5; omega

theorem clean_any (c n : Nat) (s : St) (w : World) (h : ClockAt w c n s) :
    Calls Try.prog 20 #[.pointer (some ⟨c + 2, 0, none⟩)] w fun e w' => e = .returned (.int .i64 s.clean) ∧ Below w.heap.size w w' := by
  obtain ⟨c0, c1, c2, c3, c4⟩ := five_cells h.blk
  have hx := St.next_in h
  have hy := leastOf_in h.f0 hx.1 hx.2
  have hz : IntKind.i64.wrap (leastOf s.F s.next - 1) = leastOf s.F s.next - 1 := IntWalk.i64_in _ (by omega)
  have HZ := Lib.hid hz; clear hz
  go_enter Try.func20, Try.ntmps20
  go_wp2_with fail
  go_region_with (first
    | (go_at_call 49; refine (next_any c n s _ (by first | exact h | exact h.drewN _)).mono ?_; rintro e w' ⟨rfl, k, rfl⟩)
    | (go_at_call 54; refine (least_any c n s.F s.next _ (by first | exact h.fl | exact (h.drewN _).fl)).mono ?_; rintro e w1 ⟨rfl, hb⟩))
  all_goals go_wp2
  all_goals go_ret
  all_goals exact ⟨ret_int HZ.out, ⟨hb.os, hb.tape, hb.output, hb.size, hb.block⟩⟩

theorem floor_any (c n : Nat) (s : St) (w : World) (h : ClockAt w c n s) :
    Calls Try.prog 22 #[.pointer (some ⟨c + 2, 0, none⟩)] w fun e w' => e = .returned (.int .i64 s.floor) ∧ Below w.heap.size w w' := by
  obtain ⟨c0, c1, c2, c3, c4⟩ := five_cells h.blk
  go_enter Try.func22, Try.ntmps22
  go_wp2_with fail
  go_region_with (go_at_call 54; refine (least_any (c + 1) n s.P s.mark _ (by first | exact h.pi | exact (h.drewN _).pi)).mono ?_; rintro e w1 ⟨rfl, hb⟩)
  all_goals go_wp2
  all_goals go_ret
  all_goals exact ⟨rfl, ⟨hb.os, hb.tape, hb.output, hb.size, hb.block⟩⟩

end Go.Proofs.Ytiijkehiphkkiaa
