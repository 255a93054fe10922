/-
  ApartAll: rows of the call's own turned, appended to, and looked at again.
-/
import Derived.Test.YtiijkehiphkkiaaKs
namespace Go.Proofs.Ytiijkehiphkkiaa.PD
open Go.RowKit Go.Maps Go.Proofs.YtiijkehiphkkiaaW.PrintWords Go.Proofs.YtiijkehiphkkiaaW.PrintLast Go.Proofs.YtiijkehiphkkiaaW.PrintMore
set_option linter.unusedVariables false
set_option linter.unusedSimpArgs false

/-- The later world is as it was but for the blocks from base on below B. -/
structure Side (base B : Nat) (w w' : World) : Prop where
  os : w'.os = w.os
  output : w'.output = w.output
  size : w.heap.size ≤ w'.heap.size
  block : ∀ k, k < w.heap.size → (k < base ∨ B ≤ k) → w'.heap[k]? = w.heap[k]?
theorem Side.refl (base B : Nat) (w : World) : Side base B w w := ⟨rfl, rfl, Nat.le_refl _, fun _ _ _ => rfl⟩
theorem Side.trans {base B : Nat} {a b c : World} (h : Side base B a b) (k : Side base B b c) : Side base B a c :=
  ⟨k.os.trans h.os, k.output.trans h.output, Nat.le_trans h.size k.size, fun i hi hl => (k.block i (by have := h.size; omega) hl).trans (h.block i hi hl)⟩
theorem Side.of_below {base B : Nat} {w w' : World} (h : Below w.heap.size w w') : Side base B w w' := ⟨h.os, h.output, h.size, fun k hk _ => h.block k hk⟩
theorem Side.drewN {base B : Nat} {w w' : World} (h : Side base B w w') (n : Nat) : Side base B w (w'.drewN n) := h.trans (Side.of_below (pw_below_drewN (Below.refl _ _) n))
theorem Side.hold {base B : Nat} {w w' : World} (h : Side base B w w') : Hold base w w' := ⟨h.os, h.output, h.size, fun k hk hl => h.block k hl (.inl hk)⟩

/-- Rows of bytes of the call's own, each in a block of its own below B; the cells that show them, their blocks. -/
structure EntX (w : World) (base B : Nat) (v : Value) (vs : List Value) (ogs : List (Option Nat)) (es : List (List Int)) : Prop where
  row : w.ownsRow base 55 1 v es.length vs
  len : ogs.length = es.length
  apart : ∀ (i j : Nat) (g : Nat), i < j → ogs[i]? = some (some g) → ogs[j]? ≠ some (some g)
  low : ∀ (i : Nat) (g : Nat), ogs[i]? = some (some g) → g < B
  each : ∀ i (h : i < es.length), ∃ u og, vs[i]? = some u ∧ ogs[i]? = some og ∧ Byt w base og u es[i]
theorem EntX.of {w : World} {base : Nat} {v : Value} {es : List (List Int)} (h : EntB w base v es) : ∃ vs ogs, EntX w base w.heap.size v vs ogs es := by
  obtain ⟨vs, ogs, h1, h2, h3, h4⟩ := h
  refine ⟨vs, ogs, h1, h2, h3, fun i g hg => ?_, h4⟩
  obtain ⟨hi, _⟩ := List.getElem?_eq_some_iff.1 hg
  obtain ⟨u, og, _, hog, hB⟩ := h4 i (by omega)
  rw [hg] at hog
  injection hog with hog
  exact hB.lt g hog.symm
theorem EntX.entB {w : World} {base B : Nat} {v : Value} {vs : List Value} {ogs : List (Option Nat)} {es : List (List Int)} (h : EntX w base B v vs ogs es) : EntB w base v es := ⟨vs, ogs, h.row, h.len, h.apart, h.each⟩
theorem EntX.below {w w' : World} {base B : Nat} {v : Value} {vs : List Value} {ogs : List (Option Nat)} {es : List (List Int)} (h : EntX w base B v vs ogs es) (hb : ∀ k, k < w.heap.size → w'.heap[k]? = w.heap[k]?) : EntX w' base B v vs ogs es := by
  refine ⟨own_move h.row (fun k hk => hb k (own_lt h.row k hk)), h.len, h.apart, h.low, fun i hi => ?_⟩
  obtain ⟨u, og, hu, hog, hB⟩ := h.each i hi
  exact ⟨u, og, hu, hog, hB.keep (fun g hg => hb g (hB.lt g hg))⟩
/-- Row i becomes x; no block but its own has turned. -/
theorem EntX.upd {w w' : World} {base B : Nat} {v : Value} {vs : List Value} {ogs : List (Option Nat)} {es : List (List Int)} (h : EntX w base B v vs ogs es) {i : Nat} (hi : i < es.length) {u : Value} {og : Option Nat} {x : List Int}
    (hu : vs[i]? = some u) (hog : ogs[i]? = some og) (hx : Byt w' base og u x) (hos : w'.os = w.os) (hout : w'.output = w.output) (hsz : w.heap.size ≤ w'.heap.size) (hk : ∀ k, k < w.heap.size → og ≠ some k → w'.heap[k]? = w.heap[k]?) :
    EntX w' base B v vs ogs (es.set i x) ∧ Side base B w w' := by
  obtain ⟨u0, og0, hu0, hog0, hB0⟩ := h.each i hi
  rw [hu] at hu0
  rw [hog] at hog0
  injection hu0 with hu0
  injection hog0 with hog0
  subst hu0
  subst hog0
  refine ⟨⟨?_, by rw [List.length_set]; exact h.len, h.apart, h.low, fun j hj => ?_⟩, hos, hout, hsz, fun k hk' hs => ?_⟩
  · rw [List.length_set]
    refine own_move h.row (fun k hk' => hk k (own_lt h.row k hk') (fun e => ?_))
    obtain ⟨c1, m1, t1⟩ := hB0.typed k e
    obtain ⟨c2, t2⟩ := own_typed h.row k hk'
    rw [t1] at t2
    injection t2 with t2
    injection t2 with _ t2 _
    exact absurd t2 (by decide)
  · rw [List.length_set] at hj
    by_cases hij : i = j
    · subst hij
      refine ⟨u, og, hu, hog, ?_⟩
      rw [List.getElem_set_self]
      exact hx
    · obtain ⟨u', og', hu', hog', hB'⟩ := h.each j hj
      refine ⟨u', og', hu', hog', ?_⟩
      rw [List.getElem_set_ne hij]
      refine hB'.keep (fun g hg => hk g (hB'.lt g hg) (fun e => ?_))
      subst hg
      subst e
      rcases Nat.lt_or_ge i j with h1 | h1
      · exact h.apart i j g h1 hog hog'
      · exact h.apart j i g (by omega) hog' hog
  · refine hk k hk' (fun e => ?_)
    subst e
    have h1 := h.low i k hog
    have h2 := hB0.base_le k rfl
    omega
theorem Byt.kept {w w' : World} {base : Nat} {og : Option Nat} {v : Value} {xs : List Int} {may : MemPlace → Prop} (h : Byt w base og v xs) (hk : w.keptBut w' may) (hm : ∀ g j, og = some g → j < xs.length → ¬ may (.cell g j)) : Byt w' base og v xs := by
  rcases h with h | ⟨g, cap, cells, m, h1, h2, h3, h4, hh, h6, h7, hx, hcell⟩
  · exact .inl h
  · have hlt := lt_of_block hh
    have hb := hk.2.2 g hlt
    rw [hh] at hb
    cases hw : w'.heap[g]? with
    | none => rw [hw] at hb; simp at hb
    | some o =>
      rw [hw] at hb
      cases o with
      | cells c t fr =>
        simp only at hb
        obtain ⟨rfl, rfl, hs, hc⟩ := hb
        refine .inr ⟨g, cap, c, _, h1, h2, h3, h4, hw, by omega, h7, hx, fun i hi => ?_⟩
        rw [hc i (hm g i h1 hi)]
        exact hcell i hi
      | _ => simp at hb

/-- What an append is told of a row. -/
theorem Byt.came {w : World} {base : Nat} {og : Option Nat} {v : Value} {xs : List Int} (h : Byt w base og v xs) : ∃ ao b cap, v = .slice ao xs.length cap ∧ Came w 1 ao b 0 xs.length cap (nums .u8 xs) ∧ cap ≤ maxLen ∧ (0 < cap → og = some b) := by
  rcases h with ⟨_, rfl, rfl⟩ | ⟨g, cap, cells, m, h1, h2, h3, h4, hh, h6, h7, hx, hcell⟩
  · exact ⟨none, 0, 0, rfl, ⟨Nat.le_refl _, fun h => absurd h (by omega), fun h => absurd h (by omega), rfl, fun j u hj => by simp [nums] at hj, fun j hj => by simp at hj⟩, Nat.zero_le _, fun h => absurd h (by omega)⟩
  · refine ⟨_, g, cap, h2, ⟨h4, fun _ => rfl, fun _ => lt_of_block hh, by simp [nums], fun j u hj => ?_, fun j hj => ?_⟩, hx, fun _ => h1⟩
    · rw [nums, List.getElem?_map, Option.map_eq_some_iff] at hj
      obtain ⟨x, hj, rfl⟩ := hj
      obtain ⟨hjl, rfl⟩ := List.getElem?_eq_some_iff.1 hj
      simp only [World.cell?, hh, Nat.zero_add]
      rw [hcell j hjl]
      simp
    · have hjc : 0 + xs.length * 1 + j < cells.size := by omega
      refine ⟨?_, ?_⟩
      · simp only [World.cell?, hh]
        rw [if_neg (by simp), Array.getElem?_eq_getElem hjc]
        rfl
      · simp only [World.frozen?, hh]
        rcases h7 with h7 | h7
        · simp; omega
        · simp; omega
/-- Behind the appends. -/
theorem EntX.upon {w w' : World} {base B : Nat} {v : Value} {vs : List Value} {ogs : List (Option Nat)} {es : List (List Int)} (h : EntX w base B v vs ogs es) {i : Nat} (hi : i < es.length) {u : Value} {og : Option Nat} (hu : vs[i]? = some u) (hog : ogs[i]? = some og)
    {ao : Option Addr} {b cap : Nat} (hcap : 0 < cap → og = some b) {v9 : Value} {m : Nat} {ks : List Value} {r : Nat} (hU : Upon w 5 1 ao b 0 es[i].length cap (nums .u8 es[i]) w' v9 m ks r) :
    EntX w' base B v vs ogs es ∧ Side base B w w' := by
  obtain ⟨u0, og0, hu0, hog0, hB0⟩ := h.each i hi
  rw [hu] at hu0
  rw [hog] at hog0
  injection hu0 with hu0
  injection hog0 with hog0
  subst hu0
  subst hog0
  have hm : ∀ g j, og = some g → j < es[i].length → ¬ (∃ j', j' < r ∧ MemPlace.cell g j = .cell b (0 + es[i].length * 1 + j')) := by
    rintro g j hg hj ⟨j', _, e⟩
    injection e with e1 e2
    omega
  have hx := hB0.kept hU.kept hm
  have := h.upd hi hu hog hx hU.kept.1 hU.kept.2.1 hU.kept.size (fun k hk hne => by
    refine hU.kept.block hk ?_
    rintro p ⟨j, hj, rfl⟩ e
    have e : b = k := e
    exact hne (by rw [hcap (hU.capPos hj), e]))
  rw [List.set_getElem_self] at this
  exact this

/-! ### Turned -/
theorem turned_l0 (xs : List Int) (hl : xs.length < 9223372036854775807) : ∀ n i : Nat, i + n = xs.length → stoaref01_Turned.l0 (n + 1) (xs.map tw) xs (i : Int) = some true := by
  intro n
  induction n with
  | zero =>
    intro i h
    rw [stoaref01_Turned.l0, if_neg (by omega)]
  | succ n ih =>
    intro i h
    have hi : i < xs.length := by omega
    rw [stoaref01_Turned.l0, if_pos (by omega), if_pos (by omega), if_pos (by rw [List.length_map]; omega), rd_at (xs := xs.map tw) (by rw [List.length_map]; exact hi), rd_at hi, if_pos (by rw [List.getElem_map]; rfl), w64s i (by omega)]
    exact ih (i + 1) (by omega)
theorem turned_law (xs : List Int) (hl : xs.length < 9223372036854775807) : stoaref01_Turned.f (xs.length + 1) (xs.map tw) xs = some true := by
  unfold stoaref01_Turned.f
  rw [if_pos (by rw [List.length_map])]
  exact turned_l0 xs hl xs.length 0 (by omega)

/-! ### A list behind i rounds -/
def mixE (es : List (List Int)) (i : Nat) : List (List Int) := (es.take i).map (fun s => s.map tw) ++ es.drop i
theorem mixE_length (es : List (List Int)) (i : Nat) : (mixE es i).length = es.length := by
  unfold mixE
  rw [List.length_append, List.length_map, List.length_take, List.length_drop]
  omega
theorem mixE_get (es : List (List Int)) (i : Nat) (hi : i < es.length) : (mixE es i)[i]'(by rw [mixE_length]; exact hi) = es[i] := by
  have h : (mixE es i)[i]? = some es[i] := by
    unfold mixE
    rw [List.getElem?_append_right (by rw [List.length_map, List.length_take]; omega), List.length_map, List.length_take, Nat.min_eq_left (by omega), Nat.sub_self, List.getElem?_drop, Nat.add_zero, List.getElem?_eq_getElem hi]
  rw [List.getElem?_eq_getElem (by rw [mixE_length]; exact hi)] at h
  injection h
theorem mixE_set (es : List (List Int)) (i : Nat) (hi : i < es.length) : (mixE es i).set i (es[i].map tw) = mixE es (i + 1) := by
  unfold mixE
  rw [← take_snoc es i hi, List.map_append, List.drop_eq_getElem_cons hi, List.set_append_right _ _ (by rw [List.length_map, List.length_take]; omega), List.length_map, List.length_take, Nat.min_eq_left (by omega), Nat.sub_self, List.append_assoc]
  rfl
theorem mixE_zero (es : List (List Int)) : mixE es 0 = es := by simp [mixE]
theorem mixE_all (es : List (List Int)) : mixE es es.length = es.map (fun s => s.map tw) := by simp [mixE]
end Go.Proofs.Ytiijkehiphkkiaa.PD
