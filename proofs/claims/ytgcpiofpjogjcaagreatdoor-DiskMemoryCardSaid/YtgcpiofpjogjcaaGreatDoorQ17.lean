/-
  Parts of the proof: Sa, Sb, Sc.
-/
import Derived.Test.YtgcpiofpjogjcaaGreatDoorQ16
import Derived.Test.YtgcpiofpjogjcaaGreatDoorQ10
import Derived.Test.YtgcpiofpjogjcaaGreatDoorQ12
import Derived.Deep.Upon
import Derived.Test.YtgcpiofpjogjcaaGreatDoorQ2
import Derived.Test.YtgcpiofpjogjcaaGreatDoorQ11
section
/-
  Rows of bytes that may be written over: Spoil, Apart, ApartAll, walked.
-/
namespace Go.Proofs.YtgcpiofpjogjcaaGreatDoor.PK
open Go.RowKit Go.Maps Go.Proofs.YtgcpiofpjogjcaaGreatDoorW.PrintWords Go.Proofs.YtgcpiofpjogjcaaGreatDoorW.PrintLast Go.Proofs.YtgcpiofpjogjcaaGreatDoorW.PrintMore
set_option linter.unusedVariables false
set_option linter.unusedSimpArgs false

theorem owned_cells {w : World} {base n : Nat} {e : TypeId} {v : Value} {xs : List Value} (h : w.ownsRow base e 1 v n xs) :
    ∃ A c, v = .slice A n c ∧ n ≤ c ∧ (0 < n → ∃ g, base ≤ g ∧ g < w.heap.size ∧ A = some ⟨g, 0, none⟩ ∧ ∀ j, j < n → w.cell? ⟨g, j, none⟩ = xs[j]?) := by
  have h' := h
  obtain ⟨h1, h2⟩ := h
  rcases h2 with ⟨rfl, rfl⟩ | ⟨g, cap, cur, rfl, hg, hcur, r1, r2, r3, r4⟩
  · exact ⟨none, 0, rfl, Nat.le_refl _, fun h => absurd h (by omega)⟩
  · exact ⟨_, cap, rfl, r1, fun _ => ⟨g, hg, lt_of_block hcur, rfl, fun j hj => h'.cellAt j (by omega)⟩⟩
/-- A row of bytes of the call's own, in block og; none is nil. -/
def Byt (w : World) (base : Nat) (og : Option Nat) (v : Value) (xs : List Int) : Prop :=
  (og = none ∧ v = .slice none 0 0 ∧ xs = []) ∨
  ∃ g cap cells m, og = some g ∧ v = .slice (some ⟨g, 0, none⟩) xs.length cap ∧ base ≤ g ∧ xs.length ≤ cap ∧ w.heap[g]? = some (Obj.cells cells 5 m) ∧ cells.size = cap ∧ (cap ≤ m.1 ∨ m.2 ≤ m.1) ∧ cap ≤ maxLen ∧ ∀ i (h : i < xs.length), cells[i]? = some (.int .u8 xs[i])
theorem Byt.of_own {w : World} {base n : Nat} {v : Value} {xs : List Int} (h : w.ownsRow base 5 1 v n (nums .u8 xs)) : Byt w base v.ownBlock v xs := by
  have hl : xs.length = n := by have := h.1; rw [nums_length] at this; omega
  rcases h.2 with ⟨rfl, h2⟩ | ⟨g, cap, cur, rfl, hg, hcur, r1, r2, r3, r4⟩
  · exact .inl ⟨rfl, rfl, List.eq_nil_of_length_eq_zero (by omega)⟩
  · refine .inr ⟨g, cap, cur, (0, 0), rfl, by rw [hl], hg, by omega, hcur, by omega, .inr (Nat.le_refl _), r2, fun i hi => ?_⟩
    have := h.cellAt (g := g) i (by omega)
    rw [nums, List.getElem?_map, List.getElem?_eq_getElem hi] at this
    simpa [World.cell?, hcur] using this
theorem Byt.keep {w w' : World} {base og v xs} (h : Byt w base og v xs) (hb : ∀ g, og = some g → w'.heap[g]? = w.heap[g]?) : Byt w' base og v xs := by
  rcases h with h | ⟨g, cap, cells, m, h1, h2, h3, h4, h5, h6⟩
  · exact .inl h
  · exact .inr ⟨g, cap, cells, m, h1, h2, h3, h4, (hb g h1).trans h5, h6⟩
theorem Byt.lt {w : World} {base og v xs} (h : Byt w base og v xs) : ∀ g, og = some g → g < w.heap.size := by
  rintro g rfl
  rcases h with h | ⟨g', cap, cells, m, h1, h2, h3, h4, h5, h6⟩
  · exact absurd h.1 (by simp)
  · injection h1 with h1; subst h1; exact lt_of_block h5
theorem Byt.base_le {w : World} {base og v xs} (h : Byt w base og v xs) : ∀ g, og = some g → base ≤ g := by
  rintro g rfl
  rcases h with h | ⟨g', cap, cells, m, h1, h2, h3, h4, h5, h6⟩
  · exact absurd h.1 (by simp)
  · injection h1 with h1; subst h1; exact h3
theorem Byt.typed {w : World} {base og v xs} (h : Byt w base og v xs) : ∀ g, og = some g → ∃ cells m, w.heap[g]? = some (Obj.cells cells 5 m) := by
  rintro g rfl
  rcases h with h | ⟨g', cap, cells, m, h1, h2, h3, h4, h5, h6⟩
  · exact absurd h.1 (by simp)
  · injection h1 with h1; subst h1; exact ⟨_, _, h5⟩
theorem Byt.reads {w : World} {base og v xs} (h : Byt w base og v xs) : ∃ A c, v = .slice A xs.length c ∧ xs.length ≤ c ∧ Kd.C (Kd.int .u8) w A xs.length xs := by
  rcases h with ⟨_, rfl, rfl⟩ | ⟨g, cap, cells, m, h1, rfl, h3, h4, hh, h6, h7, hx, hcell⟩
  · exact ⟨none, 0, rfl, Nat.le_refl _, Kd.C_nil _ _⟩
  · refine ⟨_, cap, rfl, h4, Kd.C_of_reads (d := 0) ⟨rfl, by unfold maxLen at hx; omega, fun _ => ⟨_, rfl, fun j hj => ?_⟩⟩⟩
    rw [add_plain]
    simp only [World.cell?, hh]
    rw [hcell j hj, List.getD_eq_getElem?_getD, List.getElem?_eq_getElem hj]
    simp

/-- Rows of bytes of the call's own, each in a block of its own. -/
def EntB (w : World) (base : Nat) (v : Value) (es : List (List Int)) : Prop :=
  ∃ (vs : List Value) (ogs : List (Option Nat)), w.ownsRow base 23 1 v es.length vs ∧ ogs.length = es.length ∧ (∀ (i j : Nat) (g : Nat), i < j → ogs[i]? = some (some g) → ogs[j]? ≠ some (some g)) ∧
    ∀ i (h : i < es.length), ∃ u og, vs[i]? = some u ∧ ogs[i]? = some og ∧ Byt w base og u es[i]
theorem EntB.keep {w w' : World} {base : Nat} {v : Value} {es : List (List Int)} (h : EntB w base v es) (hb : ∀ k, base ≤ k → k < w.heap.size → w'.heap[k]? = w.heap[k]?) : EntB w' base v es := by
  obtain ⟨vs, ogs, h1, h2, h4, h5⟩ := h
  refine ⟨vs, ogs, own_move h1 (fun k hk => hb k (own_base h1 k hk) (own_lt h1 k hk)), h2, h4, fun i h => ?_⟩
  obtain ⟨u, og, hu, hog, hB⟩ := h5 i h
  exact ⟨u, og, hu, hog, hB.keep (fun g hg => hb g (hB.base_le g hg) (hB.lt g hg))⟩
theorem EntB.below {w w' : World} {base : Nat} {v : Value} {es : List (List Int)} (h : EntB w base v es) (hb : Below w.heap.size w w') : EntB w' base v es := h.keep (fun k _ hk => hb.block k hk)
theorem EntB.nil (w : World) (base : Nat) : EntB w base (.slice none 0 0) [] := ⟨[], [], own_nil _ _ _ _, rfl, fun i j g _ h => by simp at h, fun i h => absurd h (by simp)⟩
theorem EntB.reads {w : World} {base : Nat} {v : Value} {es : List (List Int)} (hE : EntB w base v es) : ∃ A c, v = .slice A es.length c ∧ es.length ≤ c ∧ Kd.C (Kd.slice 5 (Kd.int .u8)) w A es.length es := by
  obtain ⟨vs, gs, h1, h2, h4, h6⟩ := hE
  obtain ⟨A, c, rfl, hc, hcells⟩ := owned_cells h1
  have hn : es.length ≤ 9223372036854775807 := by
    rcases h1.2 with ⟨_, h⟩ | ⟨g', cap', cur, he, _, _, h3, h5, _⟩
    · omega
    · simp only [maxLen] at h5
      omega
  refine ⟨A, c, rfl, hc, rfl, hn, fun hp => ?_⟩
  obtain ⟨g, _, _, rfl, hcl⟩ := hcells hp
  refine ⟨_, rfl, fun j p hj => ?_⟩
  obtain ⟨hjl, rfl⟩ := List.getElem?_eq_some_iff.1 hj
  obtain ⟨u, og, hu, _, hM⟩ := h6 j hjl
  obtain ⟨A', c', rfl, hc', hC'⟩ := hM.reads
  refine ⟨[.slice A' es[j].length c'], rfl, ⟨A', c', rfl, hc', hC'⟩, fun i x hx => ?_⟩
  cases i with
  | zero =>
    simp at hx
    subst hx
    have := hcl j hjl
    rw [hu] at this
    rw [add_plain]
    simpa [Kd.slice] using this
  | succ i => simp at hx

/-! ### Spoil -/

/-- A byte turned. -/
def tw (x : Int) : Int := Go.bits .xor .u8 x 90
/-- Below block B the later world is as it was. -/
structure Hold (B : Nat) (w w' : World) : Prop where
  os : w'.os = w.os
  output : w'.output = w.output
  size : w.heap.size ≤ w'.heap.size
  block : ∀ k, k < B → k < w.heap.size → w'.heap[k]? = w.heap[k]?
theorem Hold.of_below {B : Nat} {w w' : World} (h : Below B w w') : Hold B w w' := ⟨h.os, h.output, h.size, fun k hk _ => h.block k hk⟩
theorem Hold.trans {B : Nat} {a b c : World} (h : Hold B a b) (k : Hold B b c) : Hold B a c :=
  ⟨k.os.trans h.os, k.output.trans h.output, Nat.le_trans h.size k.size, fun i hi hl => (k.block i hi (by have := h.size; omega)).trans (h.block i hi hl)⟩
theorem Hold.mono {B B' : Nat} {w w' : World} (h : Hold B w w') (hB : B' ≤ B) : Hold B' w w' := ⟨h.os, h.output, h.size, fun k hk hl => h.block k (by omega) hl⟩
/-- The later world with the elder tape. -/
theorem Hold.below {w w' : World} (h : Hold w.heap.size w w') : Below w.heap.size w { w' with tape := w.tape } := ⟨h.os, rfl, h.output, h.size, fun k hk => h.block k hk hk⟩
theorem Byt.cell {w : World} {base : Nat} {og : Option Nat} {v : Value} {xs : List Int} (h : Byt w base og v xs) {i : Nat} (hi : i < xs.length) : ∃ g cap, og = some g ∧ v = .slice (some ⟨g, 0, none⟩) xs.length cap ∧ w.cell? ⟨g, i, none⟩ = some (.int .u8 xs[i]) ∧ w.frozen? ⟨g, i, none⟩ = false := by
  rcases h with ⟨_, _, rfl⟩ | ⟨g, cap, cells, m, h1, h2, h3, h4, hh, h6, h7, hx, hcell⟩
  · simp at hi
  · refine ⟨g, cap, h1, h2, ?_, ?_⟩
    · simp only [World.cell?, hh]
      rw [hcell i hi]
      simp
    · simp only [World.frozen?, hh]
      rcases h7 with h7 | h7
      · simp; omega
      · simp; omega
theorem Byt.store {w : World} {base g : Nat} {v : Value} {xs : List Int} (h : Byt w base (some g) v xs) {i : Nat} (hi : i < xs.length) (x : Int) : Byt (w.setCell ⟨g, i, none⟩ (.int .u8 x)) base (some g) v (xs.set i x) ∧ w.grownBy (w.setCell ⟨g, i, none⟩ (.int .u8 x)) (some g) := by
  rcases h with ⟨h, _⟩ | ⟨g', cap, cells, m, h1, h2, h3, h4, hh, h6, h7, hx, hcell⟩
  · cases h
  · injection h1 with h1
    subst h1
    refine ⟨.inr ⟨g, cap, cells.setIfInBounds i (.int .u8 x), m, rfl, by rw [List.length_set]; exact h2, h3, by rw [List.length_set]; exact h4, ?_, by simpa using h6, h7, hx, fun j hj => ?_⟩, ⟨rfl, rfl, rfl, by simp, fun k _ hk => heap_setCell_other w ⟨g, i, none⟩ k _ (fun e => hk (by simp [e]))⟩⟩
    · simp only [World.setCell, Array.getElem?_modify, if_pos rfl, hh]
      rfl
    · rw [List.length_set] at hj
      rw [Array.getElem?_setIfInBounds]
      by_cases hij : i = j
      · subst hij
        rw [if_pos rfl, if_pos (by omega)]
        simp
      · rw [if_neg hij, hcell j hj, List.getElem_set_ne hij]

/-- The row behind i rounds. -/
def spo (xs : List Int) (i : Nat) : List Int := (xs.take i).map tw ++ xs.drop i
theorem spo_length (xs : List Int) (i : Nat) : (spo xs i).length = xs.length := by
  unfold spo
  rw [List.length_append, List.length_map, List.length_take, List.length_drop]
  omega
theorem spo_get (xs : List Int) (i : Nat) (hi : i < xs.length) : (spo xs i)[i]'(by rw [spo_length]; exact hi) = xs[i] := by
  have h : (spo xs i)[i]? = some xs[i] := by
    unfold spo
    rw [List.getElem?_append_right (by rw [List.length_map, List.length_take]; omega), List.length_map, List.length_take, Nat.min_eq_left (by omega), Nat.sub_self, List.getElem?_drop, Nat.add_zero, List.getElem?_eq_getElem hi]
  rw [List.getElem?_eq_getElem (by rw [spo_length]; exact hi)] at h
  injection h
theorem spo_set (xs : List Int) (i : Nat) (hi : i < xs.length) : (spo xs i).set i (tw xs[i]) = spo xs (i + 1) := by
  unfold spo
  rw [← take_snoc xs i hi, List.map_append, List.drop_eq_getElem_cons hi, List.set_append_right _ _ (by rw [List.length_map, List.length_take]; omega), List.length_map, List.length_take, Nat.min_eq_left (by omega), Nat.sub_self, List.append_assoc]
  rfl
theorem spo_zero (xs : List Int) : spo xs 0 = xs := by simp [spo]
theorem spo_all (xs : List Int) : spo xs xs.length = xs.map tw := by simp [spo]

set_option maxHeartbeats 1000000 in
set_option maxRecDepth 100000 in
theorem spoil_any (base : Nat) (og : Option Nat) (v : Value) (xs : List Int) (w : World) (h : Byt w base og v xs) (hl : xs.length ≤ 140737488355328) :
    Calls Tryz.prog 10 #[v] w fun e w' => e = .returned (.tuple #[]) ∧ Byt w' base og v (xs.map tw) ∧ w.grownBy w' og := by
  obtain ⟨A0, c0, rfl, hc0, _⟩ := h.reads
  have H0 := Lib.hid h
  clear h
  go_enter Tryz.func10, Tryz.ntmps10
  go_wp2
  go_loopw [2] (fun vi wq => ∃ i : Nat, i ≤ xs.length ∧ vi = .int .i64 i ∧ Byt wq base og (.slice A0 xs.length c0) (spo xs i) ∧ w.grownBy wq og) (fun vi _ => xs.length - (intOf vi).toNat)
  case atStart => exact ⟨0, by omega, rfl, by rw [spo_zero]; exact H0.out, ⟨rfl, rfl, rfl, Nat.le_refl _, fun _ _ _ => rfl⟩⟩
  case round =>
    obtain ⟨i, hi, rfl, hB, hg⟩ := hrel
    by_cases hlt : i < xs.length
    · obtain ⟨g, cap, rfl, hv, hcell, hfr⟩ := hB.cell (i := i) (by rw [spo_length]; exact hlt)
      rw [spo_get xs i hlt] at hcell
      rw [spo_length] at hv
      injection hv with hv _ hcap
      subst hv
      subst hcap
      obtain ⟨x, hx⟩ : ∃ x, x = xs[i] := ⟨_, rfl⟩
      rw [← hx] at hcell
      have HB := Lib.hid hB; have HX := Lib.hid hx; have HLT := Lib.hid hlt
      clear hB hx
      go_wp2
      obtain ⟨k1, k2⟩ := HB.out.store (i := i) (by rw [spo_length]; exact HLT.out) (tw x)
      rw [HX.out, spo_set xs i hlt, ← HX.out] at k1
      exact ⟨⟨i + 1, by omega, by go_num, k1, hg.trans k2⟩, by simp [intOf]; omega⟩
    · obtain rfl : i = xs.length := by omega
      rw [spo_all] at hB
      go_wp2
      first | go_end0 | ((try simp only [Exit.inBlock, Exit.then]); refine bodyPost_ret (results_none rfl _ _ _) rfl ?_)
      exact ⟨rfl, hB, hg⟩

/-! ### ApartAll, Apart -/
theorem at_LB {w : World} {A : Option Addr} {n : Nat} {xs : List (List Int)} (h : Kd.C (Kd.slice 5 (Kd.int .u8)) w A n xs) (i : Nat) (hi : i < xs.length) :
    ∃ ad A0 c0, A = some ad ∧ w.cell? (ad.add i) = some (.slice A0 xs[i].length c0) ∧ xs[i].length ≤ c0 ∧ Kd.C (Kd.int .u8) w A0 xs[i].length xs[i] := by
  obtain ⟨hl, hm, hp⟩ := h
  obtain ⟨ad, rfl, hr⟩ := hp (by omega)
  obtain ⟨c, hsz, ⟨A0, c0, rfl, hl0, g0⟩, hcell⟩ := hr i _ (List.getElem?_eq_getElem hi)
  have h1 := hcell 0 _ rfl
  rw [show i * (Kd.slice 5 (Kd.int .u8)).sz + 0 = i from Nat.mul_one i] at h1
  exact ⟨ad, A0, c0, rfl, h1, hl0, g0⟩

/-- The later world is as it was but for the blocks from base on below B. -/
structure Side (base B : Nat) (w w' : World) : Prop where
  os : w'.os = w.os
  output : w'.output = w.output
  size : w.heap.size ≤ w'.heap.size
  block : ∀ k, k < w.heap.size → (k < base ∨ B ≤ k) → w'.heap[k]? = w.heap[k]?
theorem Side.refl (base B : Nat) (w : World) : Side base B w w := ⟨rfl, rfl, Nat.le_refl _, fun _ _ _ => rfl⟩
theorem Side.trans {base B : Nat} {a b c : World} (h : Side base B a b) (k : Side base B b c) : Side base B a c :=
  ⟨k.os.trans h.os, k.output.trans h.output, Nat.le_trans h.size k.size, fun i hi hl => (k.block i (by have := h.size; omega) hl).trans (h.block i hi hl)⟩
theorem Side.of_below {base B : Nat} {w w' : World} (h : Below w.heap.size w w') : Side base B w w' := ⟨h.os, h.output, h.size, fun k hk _ => h.block k hk⟩
theorem Side.drewN {base B : Nat} {w w' : World} (h : Side base B w w') (n : Nat) : Side base B w (w'.drewN n) := h.trans (Side.of_below (pw_below_drewN (Below.refl _ _) n))
theorem Side.hold {base B : Nat} {w w' : World} (h : Side base B w w') : Hold base w w' := ⟨h.os, h.output, h.size, fun k hk hl => h.block k hl (.inl hk)⟩

/-- Rows of bytes of the call's own, each in a block of its own below B; the cells that show them, their blocks. -/
structure EntX (w : World) (base B : Nat) (v : Value) (vs : List Value) (ogs : List (Option Nat)) (es : List (List Int)) : Prop where
  row : w.ownsRow base 23 1 v es.length vs
  len : ogs.length = es.length
  apart : ∀ (i j : Nat) (g : Nat), i < j → ogs[i]? = some (some g) → ogs[j]? ≠ some (some g)
  low : ∀ (i : Nat) (g : Nat), ogs[i]? = some (some g) → g < B
  each : ∀ i (h : i < es.length), ∃ u og, vs[i]? = some u ∧ ogs[i]? = some og ∧ Byt w base og u es[i]
theorem EntX.of {w : World} {base : Nat} {v : Value} {es : List (List Int)} (h : EntB w base v es) : ∃ vs ogs, EntX w base w.heap.size v vs ogs es := by
  obtain ⟨vs, ogs, h1, h2, h3, h4⟩ := h
  refine ⟨vs, ogs, h1, h2, h3, fun i g hg => ?_, h4⟩
  obtain ⟨hi, _⟩ := List.getElem?_eq_some_iff.1 hg
  obtain ⟨u, og, _, hog, hB⟩ := h4 i (by omega)
  rw [hg] at hog
  injection hog with hog
  exact hB.lt g hog.symm
theorem EntX.entB {w : World} {base B : Nat} {v : Value} {vs : List Value} {ogs : List (Option Nat)} {es : List (List Int)} (h : EntX w base B v vs ogs es) : EntB w base v es := ⟨vs, ogs, h.row, h.len, h.apart, h.each⟩
theorem EntX.below {w w' : World} {base B : Nat} {v : Value} {vs : List Value} {ogs : List (Option Nat)} {es : List (List Int)} (h : EntX w base B v vs ogs es) (hb : ∀ k, k < w.heap.size → w'.heap[k]? = w.heap[k]?) : EntX w' base B v vs ogs es := by
  refine ⟨own_move h.row (fun k hk => hb k (own_lt h.row k hk)), h.len, h.apart, h.low, fun i hi => ?_⟩
  obtain ⟨u, og, hu, hog, hB⟩ := h.each i hi
  exact ⟨u, og, hu, hog, hB.keep (fun g hg => hb g (hB.lt g hg))⟩
/-- Row i becomes x; no block but its own has turned. -/
theorem EntX.upd {w w' : World} {base B : Nat} {v : Value} {vs : List Value} {ogs : List (Option Nat)} {es : List (List Int)} (h : EntX w base B v vs ogs es) {i : Nat} (hi : i < es.length) {u : Value} {og : Option Nat} {x : List Int}
    (hu : vs[i]? = some u) (hog : ogs[i]? = some og) (hx : Byt w' base og u x) (hos : w'.os = w.os) (hout : w'.output = w.output) (hsz : w.heap.size ≤ w'.heap.size) (hk : ∀ k, k < w.heap.size → og ≠ some k → w'.heap[k]? = w.heap[k]?) :
    EntX w' base B v vs ogs (es.set i x) ∧ Side base B w w' := by
  obtain ⟨u0, og0, hu0, hog0, hB0⟩ := h.each i hi
  rw [hu] at hu0
  rw [hog] at hog0
  injection hu0 with hu0
  injection hog0 with hog0
  subst hu0
  subst hog0
  refine ⟨⟨?_, by rw [List.length_set]; exact h.len, h.apart, h.low, fun j hj => ?_⟩, hos, hout, hsz, fun k hk' hs => ?_⟩
  · rw [List.length_set]
    refine own_move h.row (fun k hk' => hk k (own_lt h.row k hk') (fun e => ?_))
    obtain ⟨c1, m1, t1⟩ := hB0.typed k e
    obtain ⟨c2, t2⟩ := own_typed h.row k hk'
    rw [t1] at t2
    injection t2 with t2
    injection t2 with _ t2 _
    exact absurd t2 (by decide)
  · rw [List.length_set] at hj
    by_cases hij : i = j
    · subst hij
      refine ⟨u, og, hu, hog, ?_⟩
      rw [List.getElem_set_self]
      exact hx
    · obtain ⟨u', og', hu', hog', hB'⟩ := h.each j hj
      refine ⟨u', og', hu', hog', ?_⟩
      rw [List.getElem_set_ne hij]
      refine hB'.keep (fun g hg => hk g (hB'.lt g hg) (fun e => ?_))
      subst hg
      subst e
      rcases Nat.lt_or_ge i j with h1 | h1
      · exact h.apart i j g h1 hog hog'
      · exact h.apart j i g (by omega) hog' hog
  · refine hk k hk' (fun e => ?_)
    subst e
    have h1 := h.low i k hog
    have h2 := hB0.base_le k rfl
    omega
theorem Byt.kept {w w' : World} {base : Nat} {og : Option Nat} {v : Value} {xs : List Int} {may : MemPlace → Prop} (h : Byt w base og v xs) (hk : w.keptBut w' may) (hm : ∀ g j, og = some g → j < xs.length → ¬ may (.cell g j)) : Byt w' base og v xs := by
  rcases h with h | ⟨g, cap, cells, m, h1, h2, h3, h4, hh, h6, h7, hx, hcell⟩
  · exact .inl h
  · have hlt := lt_of_block hh
    have hb := hk.2.2 g hlt
    rw [hh] at hb
    cases hw : w'.heap[g]? with
    | none => rw [hw] at hb; simp at hb
    | some o =>
      rw [hw] at hb
      cases o with
      | cells c t fr =>
        simp only at hb
        obtain ⟨rfl, rfl, hs, hc⟩ := hb
        refine .inr ⟨g, cap, c, _, h1, h2, h3, h4, hw, by omega, h7, hx, fun i hi => ?_⟩
        rw [hc i (hm g i h1 hi)]
        exact hcell i hi
      | _ => simp at hb

/-- What an append is told of a row. -/
theorem Byt.came {w : World} {base : Nat} {og : Option Nat} {v : Value} {xs : List Int} (h : Byt w base og v xs) : ∃ ao b cap, v = .slice ao xs.length cap ∧ Came w 1 ao b 0 xs.length cap (nums .u8 xs) ∧ cap ≤ maxLen ∧ (0 < cap → og = some b) := by
  rcases h with ⟨_, rfl, rfl⟩ | ⟨g, cap, cells, m, h1, h2, h3, h4, hh, h6, h7, hx, hcell⟩
  · exact ⟨none, 0, 0, rfl, ⟨Nat.le_refl _, fun h => absurd h (by omega), fun h => absurd h (by omega), rfl, fun j u hj => by simp [nums] at hj, fun j hj => by simp at hj⟩, Nat.zero_le _, fun h => absurd h (by omega)⟩
  · refine ⟨_, g, cap, h2, ⟨h4, fun _ => rfl, fun _ => lt_of_block hh, by simp [nums], fun j u hj => ?_, fun j hj => ?_⟩, hx, fun _ => h1⟩
    · rw [nums, List.getElem?_map, Option.map_eq_some_iff] at hj
      obtain ⟨x, hj, rfl⟩ := hj
      obtain ⟨hjl, rfl⟩ := List.getElem?_eq_some_iff.1 hj
      simp only [World.cell?, hh, Nat.zero_add]
      rw [hcell j hjl]
      simp
    · have hjc : 0 + xs.length * 1 + j < cells.size := by omega
      refine ⟨?_, ?_⟩
      · simp only [World.cell?, hh]
        rw [if_neg (by simp), Array.getElem?_eq_getElem hjc]
        rfl
      · simp only [World.frozen?, hh]
        rcases h7 with h7 | h7
        · simp; omega
        · simp; omega
/-- Behind the appends. -/
theorem EntX.upon {w w' : World} {base B : Nat} {v : Value} {vs : List Value} {ogs : List (Option Nat)} {es : List (List Int)} (h : EntX w base B v vs ogs es) {i : Nat} (hi : i < es.length) {u : Value} {og : Option Nat} (hu : vs[i]? = some u) (hog : ogs[i]? = some og)
    {ao : Option Addr} {b cap : Nat} (hcap : 0 < cap → og = some b) {v9 : Value} {m : Nat} {ks : List Value} {r : Nat} (hU : Upon w 5 1 ao b 0 es[i].length cap (nums .u8 es[i]) w' v9 m ks r) :
    EntX w' base B v vs ogs es ∧ Side base B w w' := by
  obtain ⟨u0, og0, hu0, hog0, hB0⟩ := h.each i hi
  rw [hu] at hu0
  rw [hog] at hog0
  injection hu0 with hu0
  injection hog0 with hog0
  subst hu0
  subst hog0
  have hm : ∀ g j, og = some g → j < es[i].length → ¬ (∃ j', j' < r ∧ MemPlace.cell g j = .cell b (0 + es[i].length * 1 + j')) := by
    rintro g j hg hj ⟨j', _, e⟩
    injection e with e1 e2
    omega
  have hx := hB0.kept hU.kept hm
  have := h.upd hi hu hog hx hU.kept.1 hU.kept.2.1 hU.kept.size (fun k hk hne => by
    refine hU.kept.block hk ?_
    rintro p ⟨j, hj, rfl⟩ e
    have e : b = k := e
    exact hne (by rw [hcap (hU.capPos hj), e]))
  rw [List.set_getElem_self] at this
  exact this

/-! ### Turned -/
theorem turned_l0 (xs : List Int) (hl : xs.length < 9223372036854775807) : ∀ n i : Nat, i + n = xs.length → stoaref01_Turned.l0 (n + 1) (xs.map tw) xs (i : Int) = some true := by
  intro n
  induction n with
  | zero =>
    intro i h
    rw [stoaref01_Turned.l0, if_neg (by omega)]
  | succ n ih =>
    intro i h
    have hi : i < xs.length := by omega
    rw [stoaref01_Turned.l0, if_pos (by omega), if_pos (by omega), if_pos (by rw [List.length_map]; omega), rd_at (xs := xs.map tw) (by rw [List.length_map]; exact hi), rd_at hi, if_pos (by rw [List.getElem_map]; rfl), w64s i (by omega)]
    exact ih (i + 1) (by omega)
theorem turned_law (xs : List Int) (hl : xs.length < 9223372036854775807) : stoaref01_Turned.f (xs.length + 1) (xs.map tw) xs = some true := by
  unfold stoaref01_Turned.f
  rw [if_pos (by rw [List.length_map])]
  exact turned_l0 xs hl xs.length 0 (by omega)

/-! ### A list behind i rounds -/
def mixE (es : List (List Int)) (i : Nat) : List (List Int) := (es.take i).map (fun s => s.map tw) ++ es.drop i
theorem mixE_length (es : List (List Int)) (i : Nat) : (mixE es i).length = es.length := by
  unfold mixE
  rw [List.length_append, List.length_map, List.length_take, List.length_drop]
  omega
theorem mixE_get (es : List (List Int)) (i : Nat) (hi : i < es.length) : (mixE es i)[i]'(by rw [mixE_length]; exact hi) = es[i] := by
  have h : (mixE es i)[i]? = some es[i] := by
    unfold mixE
    rw [List.getElem?_append_right (by rw [List.length_map, List.length_take]; omega), List.length_map, List.length_take, Nat.min_eq_left (by omega), Nat.sub_self, List.getElem?_drop, Nat.add_zero, List.getElem?_eq_getElem hi]
  rw [List.getElem?_eq_getElem (by rw [mixE_length]; exact hi)] at h
  injection h
theorem mixE_set (es : List (List Int)) (i : Nat) (hi : i < es.length) : (mixE es i).set i (es[i].map tw) = mixE es (i + 1) := by
  unfold mixE
  rw [← take_snoc es i hi, List.map_append, List.drop_eq_getElem_cons hi, List.set_append_right _ _ (by rw [List.length_map, List.length_take]; omega), List.length_map, List.length_take, Nat.min_eq_left (by omega), Nat.sub_self, List.append_assoc]
  rfl
theorem mixE_zero (es : List (List Int)) : mixE es 0 = es := by simp [mixE]
theorem mixE_all (es : List (List Int)) : mixE es es.length = es.map (fun s => s.map tw) := by simp [mixE]

/-- Place i of the rows: the cell and the row behind it. -/
theorem EntX.at {w : World} {base B : Nat} {ad : Addr} {n c : Nat} {vs : List Value} {ogs : List (Option Nat)} {es : List (List Int)} (h : EntX w base B (.slice (some ad) n c) vs ogs es) {i : Nat} (hi : i < es.length) :
    ∃ A' c' og, vs[i]? = some (.slice A' es[i].length c') ∧ ogs[i]? = some og ∧ Byt w base og (.slice A' es[i].length c') es[i] ∧ es[i].length ≤ c' ∧ Kd.C (Kd.int .u8) w A' es[i].length es[i] ∧ w.cell? (ad.add i) = some (.slice A' es[i].length c') := by
  obtain ⟨u, og, hu, hog, hB⟩ := h.each i hi
  obtain ⟨A', c', rfl, hc', hC'⟩ := hB.reads
  refine ⟨A', c', og, hu, hog, hB, hc', hC', ?_⟩
  have h1 := h.row
  have hn : n = es.length := by
    rcases h1.2 with ⟨h, _⟩ | ⟨g', cap', cur, h, _⟩
    · cases h
    · injection h
  subst hn
  rcases h1.2 with ⟨h', _⟩ | ⟨g, cap, cur, h', hg, hcur, _⟩
  · cases h'
  · injection h' with h' _ _
    injection h' with h'
    subst h'
    rw [add_plain]
    exact (h1.cellAt (g := g) i (by omega)).trans hu

set_option maxHeartbeats 4000000 in
set_option maxRecDepth 100000 in
theorem apartall_any (base B : Nat) (v : Value) (vs : List Value) (ogs : List (Option Nat)) (es : List (List Int)) (A : Option Addr) (c : Nat) (w : World) (hE : EntX w base B v vs ogs es) (hW : ∀ w', Side base B w w' → Kd.C (Kd.slice 5 (Kd.int .u8)) w' A es.length es) (hc : es.length ≤ c)
    (hn : es.length ≤ 4096) (hes : ∀ s ∈ es, s.length ≤ 140737488351232) :
    Calls Tryz.prog 20 #[v, .slice A es.length c] w fun e w' => e = .returned (.bool true) ∧ Side base B w w' := by
  obtain ⟨A0, c0, rfl, hc0, _⟩ := hE.entB.reads
  go_enter Tryz.func20, Tryz.ntmps20
  go_upto_region 3 with (fail)
  go_wp2
  go_loopw [5] (fun vi wq => ∃ i : Nat, i ≤ es.length ∧ vi = .int .i64 i ∧ EntX wq base B (.slice A0 es.length c0) vs ogs es ∧ Side base B w wq) (fun vi _ => es.length - (intOf vi).toNat)
  case atStart => exact ⟨0, by omega, rfl, hE, Side.refl _ _ _⟩
  case round =>
    obtain ⟨i, hi, rfl, hX, hS⟩ := hrel
    by_cases hlt : i < es.length
    · have hCW := hW wr hS
      obtain ⟨ad, A3, c3, rfl, hx, hc3, hC3⟩ := at_LB hCW i hlt
      obtain ⟨ad0, rfl⟩ : ∃ ad0, A0 = some ad0 := by
        rcases hX.row.2 with ⟨h', h2⟩ | ⟨g, cap, cur, h', _⟩
        · omega
        · injection h' with h' _ _; exact ⟨_, h'⟩
      obtain ⟨A4, c4, og, hu, hog, hB, hc4, hC4, hy⟩ := hX.at hlt
      have hsl := hes es[i] (List.getElem_mem hlt)
      obtain ⟨s, hs⟩ : ∃ s, s = es[i] := ⟨_, rfl⟩
      rw [← hs] at hx hc3 hC3 hc4 hC4 hy hsl
      have hcall := fun W (hWb : Below wr.heap.size wr W) => stoaref01_Same.calls (s.length + 1) A4 c4 s A3 c3 s true W (Kd.C_below hC4 hWb) hc4 (Kd.C_below hC3 hWb) hc3 (by rw [same_law s s (by omega)]; simp)
      have HX := Lib.hid hX
      have HLT := Lib.hid hlt
      clear hu hog hB hC3 hC4 hs hCW hX hE
      go_upto_region 6 with (fail)
      go_quiet (first | (go_at_call 56; refine (hcall _ (by repeat (first | exact Below.refl _ _ | apply below_drew | apply pw_below_drewN))).mono ?_; rintro e w4 ⟨rfl, ⟨nd, rfl⟩⟩; (try first | exact ⟨rfl, _, World.drewN_drewN _ _ _⟩ | exact ⟨rfl, _, Eq.trans (World.drewN_drewN _ _ _) (congrArg (World.drewN _) (Nat.add_assoc _ _ _))⟩)))
      go_wp2
      exact ⟨⟨i + 1, by omega, by go_num, HX.out.below (fun k hk => (pw_below_drewN (Below.refl _ wr) nq).block k hk), hS.drewN nq⟩, by simp [intOf]; omega⟩
    · obtain rfl : i = es.length := by omega
      clear hi hlt
      go_upto_region 8 with (fail)
      go_wp2
      go_loopw [6] (fun vi wq => ∃ i : Nat, i ≤ es.length ∧ vi = .int .i64 i ∧ EntX wq base B (.slice A0 es.length c0) vs ogs (mixE es i) ∧ Side base B w wq) (fun vi _ => es.length - (intOf vi).toNat)
      case atStart => exact ⟨0, by omega, rfl, by rw [mixE_zero]; exact hX, hS⟩
      case round =>
        obtain ⟨i, hi, rfl, hX, hS⟩ := hrel
        by_cases hlt : i < es.length
        · obtain ⟨ad0, rfl⟩ : ∃ ad0, A0 = some ad0 := by
            rcases hX.row.2 with ⟨h', h2⟩ | ⟨g, cap, cur, h', _⟩
            · rw [mixE_length] at h2; omega
            · injection h' with h' _ _; exact ⟨_, h'⟩
          obtain ⟨A4, c4, og, hu, hog, hB, hc4, hC4, hy⟩ := hX.at (i := i) (by rw [mixE_length]; exact hlt)
          rw [mixE_get es i hlt] at hu hB hc4 hC4 hy
          have hsl := hes es[i] (List.getElem_mem hlt)
          obtain ⟨s, hs⟩ : ∃ s, s = es[i] := ⟨_, rfl⟩
          rw [← hs] at hu hB hc4 hC4 hy hsl
          have HX := Lib.hid hX; have HLT := Lib.hid hlt; have HS := Lib.hid hs; have HU := Lib.hid hu; have HOG := Lib.hid hog; have HBY := Lib.hid hB
          clear hu hog hB hC4 hs hX hE
          go_wp2_with (first
            | (go_at_call 10; refine (spoil_any base og _ s _ HBY.out (by omega)).mono ?_; rintro e w4 ⟨rfl, hB4, hg4⟩))
          have hlt := HLT.out
          obtain ⟨k1, k2⟩ := HX.out.upd (by rw [mixE_length]; exact hlt) HU.out HOG.out hB4 hg4.os hg4.output hg4.size (fun k hk hne => hg4.block k hk (fun e => hne e.symm))
          rw [HS.out, mixE_set es i hlt] at k1
          exact ⟨⟨i + 1, by omega, by go_num, k1, hS.trans k2⟩, by simp [intOf]; omega⟩
        · obtain rfl : i = es.length := by omega
          rw [mixE_all] at hX
          clear hi hlt
          obtain ⟨te, hte⟩ : ∃ te, te = es.map (fun s => s.map tw) := ⟨_, rfl⟩
          have htl : te.length = es.length := by rw [hte, List.length_map]
          have hts : ∀ s ∈ te, s.length ≤ 140737488351232 := by
            intro s hs
            rw [hte] at hs
            obtain ⟨s', hs', rfl⟩ := List.mem_map.1 hs
            rw [List.length_map]
            exact hes s' hs'
          rw [← hte] at hX
          have HTE := Lib.hid hte; have HTL := Lib.hid htl
          clear hte htl
          go_upto_region 13 with (fail)
          go_wp2
          go_loopw [7, 8] (fun v7 vi wq => ∃ (i m : Nat), i ≤ es.length ∧ vi = .int .i64 i ∧ v7 = .int .i64 m ∧ m ≤ i * 140737488355328 ∧ EntX wq base B (.slice A0 es.length c0) vs ogs te ∧ Side base B w wq) (fun _ vi _ => es.length - (intOf vi).toNat)
          case atStart => exact ⟨0, 0, by omega, rfl, rfl, by omega, hX, hS⟩
          case round =>
            obtain ⟨i, m, hi, rfl, rfl, hm, hX, hS⟩ := hrel
            by_cases hlt : i < es.length
            · have hlt2 : i < te.length := by have := HTL.out; omega
              obtain ⟨ad0, rfl⟩ : ∃ ad0, A0 = some ad0 := by
                rcases hX.row.2 with ⟨h', h2⟩ | ⟨g, cap, cur, h', _⟩
                · omega
                · injection h' with h' _ _; exact ⟨_, h'⟩
              obtain ⟨A4, c4, og, hu, hog, hB, hc4, hC4, hy⟩ := hX.at hlt2
              have hsl := hts te[i] (List.getElem_mem hlt2)
              obtain ⟨ao, b, cap, hv, hCame, hcap, hcb⟩ := hB.came
              injection hv with hv1 _ hv2
              subst hv1
              subst hv2
              obtain ⟨s, hs⟩ : ∃ s, s = te[i] := ⟨_, rfl⟩
              rw [← hs] at hu hc4 hy hsl hCame
              have HX := Lib.hid hX; have HS := Lib.hid hs; have HU := Lib.hid hu; have HOG := Lib.hid hog; have HCB := Lib.hid hcb; have HCA := Lib.hid hCame
              clear hu hog hB hC4 hs hX hE hcb hCame
              have hn8 : i ≤ 4096 := by omega
              go_upto_region 17 with (fail)
              go_wp2
              go_loopw [9, 10] (fun v9 vk wq => ∃ (k : Nat) (ks : List Value) (r : Nat), k ≤ 70 ∧ vk = .int .i64 k ∧ Upon wr 5 1 A4 b 0 s.length c4 (nums .u8 s) wq v9 k ks r) (fun _ vk _ => 70 - (intOf vk).toNat)
              case atStart => exact ⟨0, [], 0, by omega, rfl, Upon.start HCA.out⟩
              case round =>
                obtain ⟨k, ks, r, hk, rfl, hU⟩ := hrel
                by_cases hlk : k < 70
                · obtain ⟨A9, c9, rfl⟩ := hU.shape
                  obtain ⟨i0, hi0, hz0, hz1, hz2⟩ := info_parts info5
                  have HUP := Lib.hid hU
                  clear hU
                  go_wp2_with (first | (at_builtin; refine wpList_append_upon _ rfl _ _ 23 23 rfl HCA.out i0 (.int .u8 0) 1 Tryz.underlying23 hi0 hz0 hz1 hz2 rfl rfl (HUP.out.alloc HCA.out _) _ 1 [.int .u8 (((k : Int) + (i : Int)) % 256)] rfl (Src.ofSlice _ Tryz.underlying23 _ 1 1 _ rfl (cell_one_new _ _ _) (by simp [Value.oneCell'])) (by unfold maxLen; omega) (by omega) ?_; intro v' w5 hU5))
                  exact ⟨⟨k + 1, _, _, by omega, by go_num, hU5⟩, by simp [intOf]; omega⟩
                · obtain rfl : k = 70 := by omega
                  obtain ⟨A9, c9, rfl⟩ := hU.shape
                  have HUP := Lib.hid hU
                  clear hU
                  go_wp2
                  have hU := HUP.out
                  rw [HS.out] at hU
                  obtain ⟨k1, k2⟩ := HX.out.upon hlt2 HU.out HOG.out HCB.out hU
                  exact ⟨⟨i + 1, m + (s.length + 70), by omega, by go_num, by go_num, by omega, k1, hS.trans k2⟩, by simp [intOf]; omega⟩
            · obtain rfl : i = es.length := by omega
              clear hi hlt
              have hm0 : (0 : Int) ≤ (m : Int) := by omega
              go_upto_region 22 with (fail)
              go_wp2
              go_loopw [11] (fun vi wq => ∃ i : Nat, i ≤ es.length ∧ vi = .int .i64 i ∧ EntX wq base B (.slice A0 es.length c0) vs ogs te ∧ Side base B w wq) (fun vi _ => es.length - (intOf vi).toNat)
              case atStart => exact ⟨0, by omega, rfl, hX, hS⟩
              case round =>
                obtain ⟨i, hi, rfl, hX, hS⟩ := hrel
                by_cases hlt : i < es.length
                · have hlt2 : i < te.length := by have := HTL.out; omega
                  have hCW := hW wr hS
                  obtain ⟨ad, A3, c3, rfl, hx, hc3, hC3⟩ := at_LB hCW i hlt
                  obtain ⟨ad0, rfl⟩ : ∃ ad0, A0 = some ad0 := by
                    rcases hX.row.2 with ⟨h', h2⟩ | ⟨g, cap, cur, h', _⟩
                    · omega
                    · injection h' with h' _ _; exact ⟨_, h'⟩
                  obtain ⟨A4, c4, og, hu, hog, hB, hc4, hC4, hy⟩ := hX.at hlt2
                  have hsl := hes es[i] (List.getElem_mem hlt)
                  have hts2 : te[i] = es[i].map tw := by simp only [HTE.out, List.getElem_map]
                  obtain ⟨s, hs⟩ : ∃ s, s = es[i] := ⟨_, rfl⟩
                  obtain ⟨t, ht⟩ : ∃ t, t = te[i] := ⟨_, rfl⟩
                  rw [← hs] at hx hc3 hC3 hsl hts2
                  rw [← ht] at hc4 hC4 hy hts2
                  have hcall := fun W (hWb : Below wr.heap.size wr W) => stoaref01_Turned.calls (s.length + 1) A4 c4 t A3 c3 s true W (Kd.C_below hC4 hWb) hc4 (Kd.C_below hC3 hWb) hc3 (by rw [hts2]; exact turned_law s (by omega))
                  have HX := Lib.hid hX
                  have HLT := Lib.hid hlt
                  clear hu hog hB hC3 hC4 hs ht hts2 hCW hX
                  go_upto_region 25 with (fail)
                  go_quiet (first | (go_at_call 57; refine (hcall _ (by repeat (first | exact Below.refl _ _ | apply below_drew | apply pw_below_drewN))).mono ?_; rintro e w4 ⟨rfl, ⟨nd, rfl⟩⟩; (try first | exact ⟨rfl, _, World.drewN_drewN _ _ _⟩ | exact ⟨rfl, _, Eq.trans (World.drewN_drewN _ _ _) (congrArg (World.drewN _) (Nat.add_assoc _ _ _))⟩)))
                  go_wp2
                  exact ⟨⟨i + 1, by omega, by go_num, HX.out.below (fun k hk => (pw_below_drewN (Below.refl _ wr) nq).block k hk), hS.drewN nq⟩, by simp [intOf]; omega⟩
                · obtain rfl : i = es.length := by omega
                  go_wp2
                  go_ret
                  exact ⟨rfl, hS⟩

theorem Byt.side {w w' : World} {base B : Nat} {og : Option Nat} {u : Value} {xs : List Int} (h : Byt w base og u xs) (hlow : ∀ g, og = some g → g < B) (hos : w'.os = w.os) (hout : w'.output = w.output) (hsz : w.heap.size ≤ w'.heap.size) (hk : ∀ k, k < w.heap.size → og ≠ some k → w'.heap[k]? = w.heap[k]?) : Side base B w w' :=
  ⟨hos, hout, hsz, fun k hk' hs => hk k hk' (fun e => by
    have h1 := hlow k e
    have h2 := h.base_le k e
    omega)⟩
theorem Byt.upon {w w' : World} {base B : Nat} {og : Option Nat} {u : Value} {xs : List Int} (h : Byt w base og u xs) (hlow : ∀ g, og = some g → g < B) {ao : Option Addr} {b cap : Nat} (hcap : 0 < cap → og = some b) {v9 : Value} {m : Nat} {ks : List Value} {r : Nat}
    (hU : Upon w 5 1 ao b 0 xs.length cap (nums .u8 xs) w' v9 m ks r) : Byt w' base og u xs ∧ Side base B w w' := by
  have hm : ∀ g j, og = some g → j < xs.length → ¬ (∃ j', j' < r ∧ MemPlace.cell g j = .cell b (0 + xs.length * 1 + j')) := by
    rintro g j hg hj ⟨j', _, e⟩
    injection e with e1 e2
    omega
  refine ⟨h.kept hU.kept hm, h.side hlow hU.kept.1 hU.kept.2.1 hU.kept.size (fun k hk hne => ?_)⟩
  refine hU.kept.block hk ?_
  rintro p ⟨j, hj, rfl⟩ e
  have e : b = k := e
  exact hne (by rw [hcap (hU.capPos hj), e])

set_option maxHeartbeats 4000000 in
set_option maxRecDepth 100000 in
theorem apart_any (base B : Nat) (og : Option Nat) (va : Value) (xs : List Int) (Ay Aw : Option Addr) (cy cw : Nat) (w : World) (hA : Byt w base og va xs) (hlow : ∀ g, og = some g → g < B)
    (hY : ∀ w', Side base B w w' → Kd.C (Kd.int .u8) w' Ay xs.length xs) (hcy : xs.length ≤ cy) (hWt : ∀ w', Side base B w w' → Kd.C (Kd.int .u8) w' Aw xs.length xs) (hcw : xs.length ≤ cw) (hl : xs.length ≤ 140737488351232) :
    Calls Tryz.prog 24 #[va, .slice Ay xs.length cy, .slice Aw xs.length cw] w fun e w' => e = .returned (.bool true) ∧ Side base B w w' := by
  obtain ⟨A0, c0, rfl, hc0, hC0⟩ := hA.reads
  have hsm : stoaref01_Same.f (xs.length + 1) xs xs = some true := by rw [same_law xs xs (by omega)]; simp
  have htu := turned_law xs (by omega)
  have HA := Lib.hid hA; have HY := Lib.hid hY; have HWT := Lib.hid hWt; have HLOW := Lib.hid hlow
  have hcall2 := fun W (hWb : Side base B w W) => stoaref01_Same.calls (xs.length + 1) Ay cy xs Aw cw xs true W (hY W hWb) hcy (hWt W hWb) hcw hsm
  have hBl : Below w.heap.size w w := Below.refl _ _
  clear hA hY hWt hlow
  go_enter Tryz.func24, Tryz.ntmps24
  go_upto_region 3 with (first
    | (go_at_call 56; refine (stoaref01_Same.calls (xs.length + 1) _ _ xs Aw cw xs true _ ?s0 ?s1 ?s2 hcw hsm).mono ?_; (case s0 => first | exact Kd.C_below hC0 hBl | exact HY.out _ (Side.of_below hBl)); (case s1 => first | exact hc0 | exact hcy); (case s2 => exact HWT.out _ (Side.of_below hBl)); rintro e w2 ⟨rfl, hD⟩; replace hBl := below_then hBl hBl.size hD.below; clear hD))
  have hb2 := hBl
  have hA2 := HA.out.keep (fun g hg => hb2.block g (HA.out.lt g hg))
  go_upto_region 4 with (first
    | (go_at_call 10; refine (spoil_any base og _ xs w2 hA2 (by omega)).mono ?_; rintro e w3 ⟨rfl, hB3, hg3⟩))
  have S3 := (Side.of_below (base := base) (B := B) hb2).trans (hA2.side HLOW.out hg3.os hg3.output hg3.size (fun k hk hne => hg3.block k hk (fun e => hne e.symm)))
  obtain ⟨ts, hts⟩ : ∃ ts, ts = xs.map tw := ⟨_, rfl⟩
  have htl : ts.length = xs.length := by rw [hts, List.length_map]
  rw [← hts] at hB3 htu
  obtain ⟨ao, b, cap, hv, hCame, hcap, hcb⟩ := hB3.came
  rw [htl] at hv hCame
  injection hv with hv1 _ hv2
  subst hv1
  subst hv2
  have HTL := Lib.hid htl
  have HB3 := Lib.hid hB3; have HCB := Lib.hid hcb; have HCA := Lib.hid hCame
  clear hts htl hB3 hcb hCame hg3 hA2 hC0
  go_wp2
  go_loopw [7, 8] (fun v9 vk wq => ∃ (k : Nat) (ks : List Value) (r : Nat), k ≤ 70 ∧ vk = .int .i64 k ∧ Upon w3 5 1 A0 b 0 xs.length c0 (nums .u8 ts) wq v9 k ks r) (fun _ vk _ => 70 - (intOf vk).toNat)
  case atStart => exact ⟨0, [], 0, by omega, rfl, Upon.start HCA.out⟩
  case round =>
    obtain ⟨k, ks, r, hk, rfl, hU⟩ := hrel
    by_cases hlk : k < 70
    · obtain ⟨A9, c9, rfl⟩ := hU.shape
      obtain ⟨i0, hi0, hz0, hz1, hz2⟩ := info_parts info5
      have HUP := Lib.hid hU
      clear hU
      go_wp2_with (first | (at_builtin; refine wpList_append_upon _ rfl _ _ 23 23 rfl HCA.out i0 (.int .u8 0) 1 Tryz.underlying23 hi0 hz0 hz1 hz2 rfl rfl (HUP.out.alloc HCA.out _) _ 1 [.int .u8 (k : Int)] rfl (Src.ofSlice _ Tryz.underlying23 _ 1 1 _ rfl (cell_one_new _ _ _) (by simp [Value.oneCell'])) (by unfold maxLen; omega) (by omega) ?_; intro v' w5 hU5))
      exact ⟨⟨k + 1, _, _, by omega, by go_num, hU5⟩, by simp [intOf]; omega⟩
    · obtain rfl : k = 70 := by omega
      have hU := hU
      rw [← HTL.out] at hU
      obtain ⟨hB4, S4⟩ := HB3.out.upon HLOW.out HCB.out hU
      rw [HTL.out] at hU
      obtain ⟨A9, c9, rfl⟩ := hU.shape
      have S5 := S3.trans S4
      obtain ⟨A6, c6, hv6, hc6, hC6⟩ := hB4.reads
      rw [HTL.out] at hv6
      injection hv6 with hv6 _ hv7
      subst hv6
      subst hv7
      have hcall3 := stoaref01_Turned.calls (xs.length + 1) A0 c0 ts Aw cw xs true wr hC6 (by have := HTL.out; omega) (HWT.out wr S5) hcw htu
      rw [HTL.out] at hcall3
      clear hU hB4 hC6
      go_wp2_with (first
        | (go_at_call 57; refine hcall3.mono ?_; rintro e w6 ⟨rfl, hD6⟩; have S6 := S5.trans (Side.of_below hD6.below))
        | (go_at_call 56; refine (hcall2 _ S6).mono ?_; rintro e w7 ⟨rfl, hD7⟩))
      go_ret
      exact ⟨rfl, S6.trans (Side.of_below hD7.below)⟩
end Go.Proofs.YtgcpiofpjogjcaaGreatDoor.PK
end
section
/-
  Lists of files, each in memory of its own: Files, Safe, Datas; a disk while others write.
-/
namespace Go.Proofs.YtgcpiofpjogjcaaGreatDoor.PK
open Go.RowKit Go.Maps Go.Sort Go.Proofs.YtgcpiofpjogjcaaGreatDoorW.PrintWords
set_option linter.unusedVariables false
set_option linter.unusedSimpArgs false
variable {own : Nat → Prop} {w w' : World}

/-! ### A disk while others write -/
theorem DiskIn.turn {d bn bs cc cp : Nat} {pc pp : Option Addr} {pd : Nat → Option Addr} {cd : Nat → Nat} {S : Dk} (h : DiskIn w own d bn bs pc cc pp cp pd cd S) (hk : ∀ k, own k → k < w.heap.size → w'.heap[k]? = w.heap[k]?) : DiskIn w' own d bn bs pc cc pp cp pd cd S :=
  { h with
    blk := (hk d h.od (lt_of_block h.blk)).trans h.blk
    now := h.now.kept (hk bn h.on h.now.lt)
    safe := h.safe.kept (hk bs h.os h.safe.lt)
    chg := ownsRow_kept h.chg (fun g hg => by
      cases pc with
      | none => simp [Value.ownBlock] at hg
      | some a => simp only [Value.ownBlock, Option.some.injEq] at hg; rw [← hg]; obtain ⟨cur, hc⟩ := ownsRow_blk h.chg; exact hk _ (h.oc a rfl) (lt_of_block hc))
    plan := ownsRow_kept h.plan (fun g hg => by
      cases pp with
      | none => simp [Value.ownBlock] at hg
      | some a => simp only [Value.ownBlock, Option.some.injEq] at hg; rw [← hg]; obtain ⟨cur, hc⟩ := ownsRow_blk h.plan; exact hk _ (h.op a rfl) (lt_of_block hc))
    files := fun f hf => (h.files f hf).kept (hk f (h.files f hf).mine (h.files f hf).lt) (fun a ha => hk _ ((h.files f hf).rown a ha) (by
      have h1 := (h.files f hf).row
      rw [ha] at h1
      obtain ⟨cur, hc⟩ := ownsRow_blk h1
      exact lt_of_block hc)) }
theorem DiskAt.turn {d : Nat} {S : Dk} (h : DiskAt w own d S) (hk : ∀ k, own k → k < w.heap.size → w'.heap[k]? = w.heap[k]?) : DiskAt w' own d S := by
  obtain ⟨bn, bs, pc, cc, pp, cp, pd, cd, h⟩ := h
  exact ⟨bn, bs, pc, cc, pp, cp, pd, cd, h.turn hk⟩
/-- Blocks from a on below b. -/
def zn (a b : Nat) : Nat → Prop := fun k => a ≤ k ∧ k < b

/-! ### Files, each in memory of its own -/
def FilesApart (c : Cont) (w : World) (e : Ending) (w' : World) : Prop := ∃ A n cp, e = .returned (.slice A n cp) ∧ Kd.S fileK 40 w' w.heap.size (fun k => w.heap.size ≤ k) (.slice A n cp) (listed c) ∧ Below w.heap.size w w'

set_option maxRecDepth 100000 in
set_option maxHeartbeats 3200000 in
theorem files_apart (b : Nat) (l : Dir) (pd : Nat → Option Addr) (cd : Nat → Nat) (dat : Nat → List Int) (saf : Nat → Nat) (w : World) (h : DirAt w b l.length l) (hl : l.length ≤ 1099511627776) (hf : ∀ p ∈ l, FileIn w own p.2 (pd p.2) (cd p.2) (dat p.2) (saf p.2)) :
    Calls Tryz.prog 54 #[.map (some b)] w (FilesApart (cont dat l) w) := by
  have hnm := names_any b _ l w h hl
  have HH := Lib.hid h; have HFL := Lib.hid hf
  clear h hf
  go_enter Tryz.func54, Tryz.ntmps54
  go_wp2_with (go_at_call 76; refine hnm.mono ?_; rintro e w2 ⟨v, rfl, hrow, hb2⟩; obtain ⟨vA, vc, rfl⟩ := own_slice hrow)
  have HROW := Lib.hid hrow
  have hsz2 := hb2.size
  clear hrow hnm
  go_loopw [3, 5, 9] (fun s3 _ s9 wr => ∃ i : Nat, i ≤ l.length ∧ s9 = .int .i64 i ∧ Kd.S fileK 40 wr w2.heap.size (fun k => w2.heap.size ≤ k) s3 (listed (cont dat (l.take i))) ∧ Below w2.heap.size w2 wr) (fun _ _ s9 _ => l.length - (intOf s9).toNat)
  case atStart => exact ⟨0, Nat.zero_le _, rfl, Kd.S_nil _ _ _ _ _, Below.refl _ _⟩
  case round =>
    obtain ⟨i, hi, rfl, hR, hbr⟩ := hrel
    obtain ⟨oA, oc, rfl⟩ := Kd.S_slice hR
    by_cases hlt : i < l.length
    · obtain ⟨kx, f, hkf⟩ : ∃ kx f, l[i] = (kx, f) := ⟨_, _, rfl⟩
      have hmem : (kx, f) ∈ l := by rw [← hkf]; exact List.getElem_mem hlt
      have hff := HFL.out _ hmem
      simp only at hff
      obtain ⟨f0, f1⟩ := two_cells hff.blk
      have lf := hff.lt
      have hlk := look_of_mem HH.out.sorted hmem
      have hks : kx.length ≤ 9223372036854775807 := HH.out.short (kx, f) hmem
      obtain ⟨s, hss0⟩ : ∃ s, s = nameB kx := ⟨_, rfl⟩
      have hsk : s.data.toList = kx := by rw [hss0]; exact key_nameB kx
      have hse : encStr kx = .string s := by rw [hss0]; rfl
      have hss : s.size ≤ 9223372036854775807 := by
        have e1 : s.data.toList.length = s.size := by rw [Array.length_toList]; rfl
        rw [hsk] at e1; omega
      have hlk : look l s.data.toList = some f := by rw [hsk]; exact hlk
      obtain ⟨g, cap, hv, _, lg⟩ := HROW.out.form (by omega)
      injection hv with hv _ hcv
      subst hv
      subst hcv
      have hbw : Below w.heap.size w wr := hb2.trans (hbr.mono hsz2)
      have rn : wr.cell? ⟨g, i, none⟩ = some (.string s) := by
        rw [← hse]
        have h1 := HROW.out.cellAt (g := g) i (by omega)
        rw [hbr.cell (p := ⟨g, i, none⟩) lg, h1, List.getElem?_map, List.getElem?_eq_getElem hlt, hkf]
        rfl
      have g0 := (hbw.cell (p := ⟨f, 0, none⟩) lf).trans f0
      have hdw := HH.out.kept (hbw.block _ HH.out.lt)
      have hbc := bclone_any (pd f) (cd f) (dat f) wr (Kd.C_below hff.C hbw) hff.short
      have htk : listed (cont dat (l.take (i + 1))) = listed (cont dat (l.take i)) ++ [(s, dat f)] := by
        rw [List.take_succ_eq_append_getElem hlt, hkf, hss0]; simp [listed, cont]
      have hll : (listed (cont dat (l.take i))).length ≤ 1099511627776 := by simp [listed, cont]; omega
      have HT := Lib.hid htk; have HD := Lib.hid hdw; have HLK := Lib.hid hlk; have HR := Lib.hid hR; have HBR := Lib.hid hbr; have HS := Lib.hid hss0
      clear htk hdw hlk hR hbr hkf hff hmem hsk hse hks hss0 f0 f1
      go_wp2_with (first
        | (at_lookup; refine wpList_lookup_dir _ rfl _ _ rfl b _ l rfl HD.out s rfl hss ?_; rw [HLK.out]; simp only [fileV])
        | (go_at_call 38; refine hbc.mono ?_; rintro e w3 ⟨A', c', rfl, ho3, hb3⟩; have hp3 : fileK.M w3 w2.heap.size (fun k => wr.heap.size ≤ k) (s, dat f) [.string s, .slice A' (dat f).length c'] := ⟨[.string s], [.slice A' (dat f).length c'], rfl, rfl, _, rfl, Kd.R_of_own (h1 := fun _ => rfl) (own_weaken ho3 HBR.out.size) (fun k hk => own_base ho3 k hk)⟩; have hR3 := Lib.hid (Kd.S_mono (ok' := fun k => w2.heap.size ≤ k ∧ ¬ wr.heap.size ≤ k) (Kd.S_old HR.out hb3) (fun k hk => ⟨hk.1, by have := hk.2; omega⟩)); have hb23 : Below w2.heap.size w2 w3 := HBR.out.trans (hb3.mono HBR.out.size); have hokp : ∀ k, wr.heap.size ≤ k → w2.heap.size ≤ k ∧ some k ≠ (Value.slice oA (listed (cont dat (l.take i))).length oc).ownBlock := fun k hk => ⟨Nat.le_trans HBR.out.size hk, fun e => (by have := Kd.S_lt HR.out k e.symm; omega)⟩; have hkp := Lib.hid hokp; clear hokp; have hP3 := Lib.hid hp3; clear hp3; have hsz3 := hb23.size)
        | (at_builtin; refine Kd.S_append fileK (w0 := w2) (W := w3) w2.heap.size rfl _ _ 22 40 _ 40 rfl Tryz.underlying22 infoF rfl (by decide) (by omega) (.slice oA _ oc) (listed (cont dat (l.take i))) (s, dat f) [.string s, .slice A' (dat f).length c'] (fun k => w2.heap.size ≤ k) (fun k => wr.heap.size ≤ k) rfl rfl hP3.out hkp.out (fun k hk => Nat.le_trans hsz3 hk) hR3.out hb23 hsz3 (by omega) ?_; intro v1 w4 hR4 hb4 hg4 hat4))
      refine ⟨⟨i + 1, by omega, by go_num, ?_, hb4⟩, by simp [intOf]; omega⟩
      rw [HT.out]; exact hR4
    · obtain rfl : i = l.length := by omega
      simp only [List.take_length] at hR ⊢
      go_wp2
      go_ret
      exact ⟨_, _, _, rfl, Kd.S_mono (Kd.S_lower hR hsz2) (fun k hk => Nat.le_trans hsz2 hk), hb2.trans (hbr.mono hsz2)⟩

set_option maxRecDepth 100000 in
set_option maxHeartbeats 1600000 in
theorem filesOf_apart (d : Nat) (S : Dk) (w : World) (h : DiskAt w own d S) :
    Calls Tryz.prog 17 #[.pointer (some ⟨d, 0, none⟩)] w (FilesApart (PK.cont S.dat S.now) w) := by
  obtain ⟨bn, bs, pc, cc, pp, cp, pd, cd, h⟩ := h
  obtain ⟨c0, c1, c2, c3, c4, c5, c6⟩ := seven_cells h.blk
  have hn1 := h.now1
  have hc := files_apart (own := own) bn S.now pd cd S.dat S.saf w h.now (by omega) (fun p hp => h.files p.2 (h.ref _ (.inl ⟨p.1, hp⟩)))
  clear h
  go_enter Tryz.func17, Tryz.ntmps17
  go_wp2_with (go_at_call 54; refine hc.mono ?_; rintro e w1 ⟨A, n, cp', rfl, hR, hb⟩)
  go_ret
  exact ⟨A, n, cp', rfl, hR, hb⟩
set_option maxRecDepth 100000 in
theorem safe_apart (d : Nat) (S : Dk) (w : World) (h : DiskAt w own d S) (hfr : Fresh own w) (hbig : S.chg.length ≤ 1099511627776) (hsafe : S.safe.length ≤ 400) (hlen : (S.leftDir []).length ≤ 400) :
    Calls Tryz.prog 18 #[.pointer (some ⟨d, 0, none⟩)] w (FilesApart (S.leftCont []) w) := by
  have hle := left_any d S none 0 [] w h hfr (Kd.C_nil _ _) (Nat.le_refl _) hbig hsafe hlen
  clear h hfr
  go_enter Tryz.func18, Tryz.ntmps18
  go_wp2_with fail
  go_at_call 55
  refine hle.mono ?_
  rintro e w1 ⟨b, l, pd, cd, dat, rfl, hbw, hdir, hmade, hcont, hb1⟩
  have hll : l.length ≤ 1099511627776 := by
    have := congrArg List.length hcont
    rw [leftCont_length] at this
    simp only [cont, List.length_map] at this
    omega
  have hfl := files_apart (own := own) b l pd cd dat (fun f => (dat f).length) w1 hdir hll hmade.files
  rw [hcont] at hfl
  clear hle hdir hmade
  go_wp2_with (go_at_call 54; refine hfl.mono ?_; rintro e w2 ⟨A, n, cp, rfl, hR, hb2⟩)
  go_ret
  exact ⟨A, n, cp, rfl, Kd.S_mono (Kd.S_lower hR hb1.size) (fun k hk => Nat.le_trans hb1.size hk), hb1.trans (hb2.mono hb1.size)⟩

/-! ### Datas -/
theorem own_empty (w : World) (e : TypeId) (sz : Nat) {g : Nat} (hg : g = w.heap.size) : (w.alloc (.cells #[] e)).ownsRow w.heap.size e sz (.slice (some ⟨g, 0, none⟩) 0 0) 0 [] := by
  subst hg
  exact ⟨by simp, .inr ⟨w.heap.size, 0, #[], rfl, Nat.le_refl _, heap_alloc_new w _, Nat.le_refl _, by decide, by simp, by simp⟩⟩
theorem infoBy : (Tryz.prog.info? 23).map (fun i => (i.zero, i.size, i.bytes)) = some (some (.slice none 0 0), 1, 24) := by kernel_rfl
set_option maxRecDepth 100000 in
set_option maxHeartbeats 1600000 in
theorem datas_any (A : Option Addr) (c : Nat) (us : List Value) (w : World) (hus : ∀ u ∈ us, ∃ a m cc, u = .slice a m cc) (hl : us.length ≤ 1099511627776)
    (hC : ∀ i (h : i < us.length), ∃ ad, A = some ad ∧ w.cell? ⟨(ad.add (i * 2)).block, (ad.add (i * 2)).off + 1, none⟩ = some us[i]) :
    Calls Tryz.prog 21 #[.slice A us.length c] w fun e w' => ∃ v, e = .returned v ∧ w'.ownsRow w.heap.size 23 1 v us.length us ∧ Below w.heap.size w w' := by
  have HC := Lib.hid hC; have HU := Lib.hid hus
  clear hC hus
  go_enter Tryz.func21, Tryz.ntmps21
  go_wp2
  go_loopw [3, 4] (fun s3 s4 wr => ∃ i : Nat, i ≤ us.length ∧ s4 = .int .i64 i ∧ wr.ownsRow w.heap.size 23 1 s3 i (us.take i) ∧ Below w.heap.size w wr) (fun _ s4 _ => us.length - (intOf s4).toNat)
  case atStart => exact ⟨0, Nat.zero_le _, rfl, own_empty w _ _ rfl, (Below.refl _ _).alloc (Nat.le_refl _) _⟩
  case round =>
    obtain ⟨i, hi, rfl, hR, hbr⟩ := hrel
    obtain ⟨oA, oc, rfl⟩ := own_slice hR
    by_cases hlt : i < us.length
    · obtain ⟨ad, rfl, hc0⟩ := HC.out i hlt
      obtain ⟨a, m, cc, hu⟩ := HU.out _ (List.getElem_mem hlt)
      have lc := World.block_lt_of_cell? w _ hc0
      have hc1 := (hbr.cell lc).trans hc0
      rw [hu] at hc1
      have htk : us.take (i + 1) = us.take i ++ [.slice a m cc] := by rw [List.take_succ_eq_append_getElem hlt, hu]
      have HT := Lib.hid htk; have HR := Lib.hid hR; have HB := Lib.hid hbr
      clear htk hR hbr hu hc0
      go_wp2_with (first
        | (at_builtin; refine print_append_cells (w0 := w) (W := wr) w.heap.size rfl _ _ 50 23 _ 1 24 rfl Tryz.underlying50 infoBy rfl (by decide) (by omega) (.slice oA i oc) i (us.take i) [.slice a m cc] rfl rfl rfl (by intro u hu; rw [List.mem_singleton.1 hu]; rfl) HR.out HB.out HB.out.size (by omega) ?_; intro v1 w4 hR4 hb4 hg4 hat4))
      refine ⟨⟨i + 1, by omega, by go_num, ?_, hb4⟩, by simp [intOf]; omega⟩
      rw [HT.out]; exact hR4
    · obtain rfl : i = us.length := by omega
      rw [List.take_length] at hR
      go_wp2
      go_ret
      exact ⟨_, rfl, hR, hbr⟩
end Go.Proofs.YtgcpiofpjogjcaaGreatDoor.PK
end
section
/-
  The reference's disk behind an append, and behind a loss of power: plain laws (Used, Files, Wide, Intact).
-/
namespace Go.Proofs.YtgcpiofpjogjcaaGreatDoor.PK
open Go.RowKit Go.Proofs.YtgcpiofpjogjcaaGreatDoorW.PrintWords Go.Proofs.YtgcpiofpjogjcaaGreatDoorW.PrintLast Go.Proofs.YtgcpiofpjogjcaaGreatDoorW.PrintMore
set_option linter.unusedVariables false
set_option linter.unusedSimpArgs false

def bodyOf (bs : List S54) (e : S93) : S54 := bs.getD e.f1.toNat z54
/-- What a directory needs of its files. -/
def Fits (bs : List S54) (dir : List S93) : Prop := ∀ e ∈ dir, 0 ≤ e.f1 ∧ e.f1 < bs.length
theorem contE_eq (bs : List S54) (dir : List S93) : contE bs dir = dir.map fun e => (key e.f0, (bodyOf bs e).f0) := rfl

/-! ### Used -/
def usedC (c : Cont) : Nat := (c.map fun p => p.2.length).sum
theorem usedC_cons (p : List UInt8 × List Int) (c : Cont) : usedC (p :: c) = p.2.length + usedC c := by simp [usedC]
theorem used_C (dat : Nat → List Int) : ∀ l : Dir, used dat l = usedC (cont dat l)
  | [] => rfl
  | p :: l => by rw [used, used_C dat l, show cont dat (p :: l) = (p.1, dat p.2) :: cont dat l from rfl, usedC_cons]
theorem usedC_le (c : Cont) (h : ∀ p ∈ c, p.2.length ≤ 140737488355328) : usedC c ≤ c.length * 140737488355328 := by
  induction c with
  | nil => simp [usedC]
  | cons p c ih =>
    rw [usedC_cons, List.length_cons]
    have h1 := h p (List.mem_cons_self ..)
    have h2 := ih (fun q hq => h q (List.mem_cons_of_mem _ hq))
    omega
theorem usedC_mem {c : Cont} {p : List UInt8 × List Int} (h : p ∈ c) : p.2.length ≤ usedC c := by
  induction c with
  | nil => cases h
  | cons q c ih =>
    rw [usedC_cons]
    rcases List.mem_cons.1 h with rfl | h
    · omega
    · have := ih h
      omega
theorem used_l0 (bs : List S54) (dir : List S93) (room : Int) (pl : List S69) (st : Int) (off : Bool) (hf : Fits bs dir) (hl : dir.length < 1000000) : ∀ (n i m : Nat), i + n = dir.length → m + usedC (contE bs (dir.drop i)) ≤ 4611686018427387904 →
    Ev (fun k => stoaref14_Used.l0 k dir (m : Int) (i : Int) bs dir [] room pl st off) ((m + usedC (contE bs (dir.drop i)) : Nat) : Int) := by
  intro n
  induction n with
  | zero =>
    intro i m h hm
    refine Ev.step (f := fun _ => some (m : Int)) (fun k => ?_) ?_
    · rw [stoaref14_Used.l0, if_neg (by omega)]
    · rw [List.drop_of_length_le (by omega)]; exact Ev.now _
  | succ n ih =>
    intro i m h hm
    have hi : i < dir.length := by omega
    obtain ⟨h0, h1⟩ := hf _ (List.getElem_mem hi)
    have hd : contE bs (dir.drop i) = (key dir[i].f0, (bodyOf bs dir[i]).f0) :: contE bs (dir.drop (i + 1)) := by
      rw [List.drop_eq_getElem_cons hi]; rfl
    rw [hd, usedC_cons] at hm ⊢
    simp only at hm ⊢
    refine Ev.step (f := fun k => stoaref14_Used.l0 k dir ((m + (bodyOf bs dir[i]).f0.length : Nat) : Int) ((i + 1 : Nat) : Int) bs dir [] room pl st off) (fun k => ?_) ?_
    · rw [stoaref14_Used.l0, if_pos (by omega), if_pos (by omega), rdE_at hi, if_pos h0, if_pos h1, w64s i (by omega)]
      rw [show wrap64 ((m : Int) + ((rd_T54 bs dir[i].f1).f0.length : Int)) = ((m + (bodyOf bs dir[i]).f0.length : Nat) : Int) from by
        rw [show rd_T54 bs dir[i].f1 = bodyOf bs dir[i] from rfl, w64 (by omega) (by omega)]; omega]
    · exact Ev.to (ih (i + 1) _ (by omega) (by omega)) (by congr 1; omega)
theorem used_law (bs : List S54) (dir : List S93) (room : Int) (pl : List S69) (st : Int) (off : Bool) (hf : Fits bs dir) (hl : dir.length ≤ 400) (hs : ∀ p ∈ contE bs dir, p.2.length ≤ 140737488355328) :
    Ev (fun k => stoaref14_Used.f k bs dir [] room pl st off) (usedC (contE bs dir) : Int) := by
  unfold stoaref14_Used.f
  refine Ev.bind (now_nil bs dir room pl st off) ?_
  have hu := usedC_le _ hs
  have hcl : (contE bs dir).length = dir.length := by simp [contE]
  have := used_l0 bs dir room pl st off hf (by omega) dir.length 0 0 (by omega) (by rw [List.drop_zero]; have : (contE bs dir).length * 140737488355328 ≤ 400 * 140737488355328 := Nat.mul_le_mul_right _ (by omega); omega)
  rw [List.drop_zero, Nat.zero_add] at this
  exact this

/-! ### Files -/
def filesE (bs : List S54) (dir : List S93) : List S40 := dir.map fun e => ⟨e.f0, (bodyOf bs e).f0⟩
theorem files_l0 (bs : List S54) (dir : List S93) (room : Int) (pl : List S69) (st : Int) (off : Bool) (hf : Fits bs dir) (hl : dir.length < 1000000) (hs : ∀ p ∈ contE bs dir, p.2.length ≤ 140737488355328) : ∀ (n i : Nat) (out : List S40), i + n = dir.length → out.length + n ≤ 1000000 →
    Ev (fun k => stoaref14_Files.l0 k dir out (i : Int) bs dir [] room pl st off) (out ++ filesE bs (dir.drop i)) := by
  intro n
  induction n with
  | zero =>
    intro i out h ho
    refine Ev.step (f := fun _ => some out) (fun k => ?_) ?_
    · rw [stoaref14_Files.l0, if_neg (by omega)]
    · rw [List.drop_of_length_le (by omega), show filesE bs [] = [] from rfl, List.append_nil]; exact Ev.now _
  | succ n ih =>
    intro i out h ho
    have hi : i < dir.length := by omega
    obtain ⟨h0, h1⟩ := hf _ (List.getElem_mem hi)
    have hx : (bodyOf bs dir[i]).f0.length ≤ 140737488355328 := hs (key dir[i].f0, (bodyOf bs dir[i]).f0) (by rw [contE_eq]; exact List.mem_map.2 ⟨_, List.getElem_mem hi, rfl⟩)
    refine Ev.step (f := fun k => (stoaref01_Copy.f k (bodyOf bs dir[i]).f0).bind fun t => stoaref14_Files.l0 k dir (out ++ [⟨dir[i].f0, t⟩]) ((i + 1 : Nat) : Int) bs dir [] room pl st off) (fun k => ?_) ?_
    · rw [stoaref14_Files.l0, if_pos (by omega), if_pos (by omega), rdE_at hi, if_pos h0, if_pos h1, w64s i (by omega), show rd_T54 bs dir[i].f1 = bodyOf bs dir[i] from rfl]
      congr 1
      funext t
      rw [if_pos (by omega)]
    · refine Ev.bind (copy_ev _ hx) ?_
      rw [List.drop_eq_getElem_cons hi]
      exact Ev.to (ih (i + 1) _ (by omega) (by rw [List.length_append, List.length_singleton]; omega)) (by rw [List.append_assoc]; rfl)
theorem files_law (bs : List S54) (dir : List S93) (room : Int) (pl : List S69) (st : Int) (off : Bool) (hf : Fits bs dir) (hl : dir.length ≤ 400) (hs : ∀ p ∈ contE bs dir, p.2.length ≤ 140737488355328) :
    Ev (fun k => stoaref14_Files.f k bs dir [] room pl st off) (filesE bs dir) := by
  unfold stoaref14_Files.f
  refine Ev.bind (now_nil bs dir room pl st off) ?_
  have := files_l0 bs dir room pl st off hf (by omega) hs dir.length 0 [] (by omega) (by simp; omega)
  rw [List.drop_zero, List.nil_append] at this
  exact this
/-- The program's list and the document's are alike. -/
theorem alike_files (bs : List S54) (dir : List S93) (c : Cont) (h : contE bs dir = c) : alikeB ((listed c).map toF) (filesE bs dir) = true := by
  subst h
  unfold alikeB listed filesE
  rw [decide_eq_true_eq, contE_eq]
  simp only [List.map_map]
  refine List.map_congr_left (fun e _ => ?_)
  simp only [Function.comp, toF, toList_key, key_nameB]

/-! ### Append -/
/-- The content behind an append. -/
def appC (c : Cont) (k : List UInt8) (xs : List Int) : Cont := c.map fun p => if p.1 = k then (p.1, p.2 ++ xs) else p
/-- What the document's append does and answers. -/
def appB (bs : List S54) (dir : List S93) (room : Int) (s : ByteArray) (xs : List Int) : List S54 × Int :=
  if findE dir s < 0 then (bs, 143) else if room - (usedC (contE bs dir) : Int) < xs.length then (bs, 142)
  else (bs.set (findE dir s).toNat ⟨(bs.getD (findE dir s).toNat z54).f0 ++ xs, (bs.getD (findE dir s).toNat z54).f1⟩, 0)
def findC (c : Cont) (k : List UInt8) : Bool := c.any fun p => p.1 == k
/-- .. as names with bytes. -/
def appS (c : Cont) (room : Int) (k : List UInt8) (xs : List Int) : Cont × Int :=
  if findC c k = false then (c, 143) else if room - (usedC c : Int) < xs.length then (c, 142) else (appC c k xs, 0)
theorem findE_mem {dir : List S93} {s : ByteArray} (h : 0 ≤ findE dir s) : ∃ e ∈ dir, key e.f0 = key s ∧ findE dir s = e.f1 := by
  unfold findE at h ⊢
  cases hf : dir.find? (fun e => e.f0.toList == s.toList) with
  | none => rw [hf] at h; simp at h
  | some e =>
    have := List.find?_some hf
    exact ⟨e, List.mem_of_find?_eq_some hf, by rw [← toList_key, ← toList_key]; simpa using this, rfl⟩
theorem findE_neg {dir : List S93} {s : ByteArray} (hI : Ids dir) : (findE dir s < 0) ↔ ∀ e ∈ dir, key e.f0 ≠ key s := by
  have h := findE_has hI s
  constructor
  · intro hn
    rw [decide_eq_false (by omega)] at h
    unfold hasE at h
    rw [List.any_eq_false] at h
    intro e he hk
    refine h e he ?_
    simpa [toList_key] using hk
  · intro hn
    rcases Int.lt_or_le (findE dir s) 0 with h1 | h1
    · exact h1
    · obtain ⟨e, he, hk, _⟩ := findE_mem h1
      exact absurd hk (hn e he)
/-- Names once each, files once each. -/
structure Uniq (bs : List S54) (dir : List S93) : Prop where
  fits : Fits bs dir
  names : ∀ e ∈ dir, ∀ f ∈ dir, key e.f0 = key f.f0 → e = f
  ids : ∀ e ∈ dir, ∀ f ∈ dir, e.f1 = f.f1 → e = f
theorem appB_C {bs : List S54} {dir : List S93} (hu : Uniq bs dir) (room : Int) (s : ByteArray) (xs : List Int) :
    contE (appB bs dir room s xs).1 dir = (appS (contE bs dir) room (key s) xs).1 ∧ (appB bs dir room s xs).2 = (appS (contE bs dir) room (key s) xs).2 := by
  have hI : Ids dir := fun e he => (hu.fits e he).1
  have hn : findC (contE bs dir) (key s) = false ↔ findE dir s < 0 := by
    rw [findE_neg hI]
    unfold findC
    rw [List.any_eq_false, contE_eq]
    constructor
    · intro h e he hk
      exact h (key e.f0, (bodyOf bs e).f0) (List.mem_map.2 ⟨e, he, rfl⟩) (by simpa using hk)
    · intro h p hp
      obtain ⟨e, he, rfl⟩ := List.mem_map.1 hp
      simpa using h e he
  unfold appB appS
  by_cases h1 : findE dir s < 0
  · rw [if_pos h1, if_pos (hn.2 h1)]
    exact ⟨rfl, rfl⟩
  · rw [if_neg h1, if_neg (fun h => h1 (hn.1 h))]
    by_cases h2 : room - (usedC (contE bs dir) : Int) < xs.length
    · rw [if_pos h2, if_pos h2]
      exact ⟨rfl, rfl⟩
    · rw [if_neg h2, if_neg h2]
      refine ⟨?_, rfl⟩
      obtain ⟨e0, he0, hk0, hf0⟩ := findE_mem (dir := dir) (s := s) (by omega)
      obtain ⟨f0, f1⟩ := hu.fits e0 he0
      simp only
      rw [hf0]
      unfold appC
      rw [contE_eq, contE_eq, List.map_map]
      refine List.map_congr_left (fun e he => ?_)
      obtain ⟨g0, g1⟩ := hu.fits e he
      simp only [Function.comp]
      by_cases hk : key e.f0 = key s
      · have : e = e0 := hu.names e he e0 he0 (hk.trans hk0.symm)
        subst this
        rw [if_pos hk]
        unfold bodyOf
        rw [List.getD_eq_getElem?_getD (l := bs.set _ _), List.getElem?_set_self (by omega)]
        rfl
      · rw [if_neg hk]
        have hne : e0.f1.toNat ≠ e.f1.toNat := fun h => hk (by rw [hu.ids e he e0 he0 (by omega)]; exact hk0)
        unfold bodyOf
        rw [List.getD_eq_getElem?_getD (l := bs.set _ _), List.getElem?_set_ne hne, ← List.getD_eq_getElem?_getD]
theorem appB_len (bs : List S54) (dir : List S93) (room : Int) (s : ByteArray) (xs : List Int) : (appB bs dir room s xs).1.length = bs.length := by
  unfold appB
  split
  · rfl
  · split
    · rfl
    · exact List.length_set ..

/-! ### A loss of power -/
def onB (bs : List S54) (dir : List S93) : List S54 := dir.map fun e => ⟨(bodyOf bs e).f0.take (bodyOf bs e).f1.toNat, (bodyOf bs e).f1⟩
def onD (dir : List S93) : List S93 := dir.mapIdx fun i e => ⟨e.f0, i⟩
theorem on_fits (bs : List S54) (dir : List S93) : Fits (onB bs dir) (onD dir) := by
  intro e he
  unfold onD at he
  obtain ⟨i, hi, rfl⟩ := List.mem_mapIdx.1 he
  simp [onB]
  omega
theorem on_cont (bs : List S54) (dir : List S93) : contE (onB bs dir) (onD dir) = dir.map fun e => (key e.f0, (bodyOf bs e).f0.take (bodyOf bs e).f1.toNat) := by
  apply List.ext_getElem?
  intro i
  rw [contE_eq, List.getElem?_map]
  unfold onD
  rw [List.getElem?_mapIdx, List.getElem?_map]
  cases hi : dir[i]? with
  | none => rfl
  | some e =>
    simp only [Option.map_some, Option.some.injEq, Prod.mk.injEq, true_and]
    unfold bodyOf onB
    rw [List.getD_eq_getElem?_getD, Int.toNat_natCast, List.getElem?_map, hi]
    rfl
/-- What is safe of the document's disk is what was there ahead of the append. -/
theorem on_appB {bs : List S54} {dir : List S93} {c : Cont} (h : RefC bs dir c) (hu : Uniq bs dir) (room : Int) (s : ByteArray) (xs : List Int) : contE (onB (appB bs dir room s xs).1 dir) (onD dir) = c := by
  rw [on_cont, ← h.cont, contE_eq]
  refine List.map_congr_left (fun e he => ?_)
  obtain ⟨g0, g1⟩ := hu.fits e he
  have hsf : (bodyOf bs e).f1 = (bodyOf bs e).f0.length := h.saf _ (by unfold bodyOf; rw [List.getD_eq_getElem?_getD, List.getElem?_eq_getElem (show e.f1.toNat < bs.length by omega), Option.getD_some]; exact List.getElem_mem _)
  have hall : (bodyOf bs e).f0.take (bodyOf bs e).f1.toNat = (bodyOf bs e).f0 := by rw [hsf, Int.toNat_natCast, List.take_length]
  refine Prod.ext rfl ?_
  simp only
  unfold appB
  split
  · exact hall
  · split
    · exact hall
    · rename_i h1 h2
      obtain ⟨e0, he0, hk0, hf0⟩ := findE_mem (dir := dir) (s := s) (by omega)
      rw [hf0]
      by_cases hid : e.f1 = e0.f1
      · obtain rfl := hu.ids e he e0 he0 hid
        have hb : bodyOf (bs.set e.f1.toNat ⟨(bs.getD e.f1.toNat z54).f0 ++ xs, (bs.getD e.f1.toNat z54).f1⟩) e = ⟨(bodyOf bs e).f0 ++ xs, (bodyOf bs e).f1⟩ := by
          unfold bodyOf
          rw [List.getD_eq_getElem?_getD (l := bs.set _ _), List.getElem?_set_self (by omega)]
          rfl
        rw [hb]
        simp only
        rw [hsf, Int.toNat_natCast, List.take_left]
      · have hb : bodyOf (bs.set e0.f1.toNat ⟨(bs.getD e0.f1.toNat z54).f0 ++ xs, (bs.getD e0.f1.toNat z54).f1⟩) e = bodyOf bs e := by
          have := hu.fits e0 he0
          unfold bodyOf
          rw [List.getD_eq_getElem?_getD (l := bs.set _ _), List.getElem?_set_ne (by omega), ← List.getD_eq_getElem?_getD]
        rw [hb]
        exact hall

/-! ### Wide, Intact -/
def padN (i : Int) : Int := (wrap64 (192 + Int.tmod i 7)) % 256
def pads (n : Nat) : List Int := (List.range n).map fun i : Nat => padN (i : Int)
theorem wide_l0 : ∀ (n i : Nat) (xs : List Int), i + n = 64 → xs.length + n < 140737488355328 → Ev (fun k => stoaref01_Wide.l0 k xs (i : Int)) (xs ++ (List.range' i n).map fun i : Nat => padN (i : Int)) := by
  intro n
  induction n with
  | zero =>
    intro i xs h hl
    refine Ev.step (f := fun _ => some xs) (fun k => ?_) ?_
    · rw [stoaref01_Wide.l0, if_neg (by omega)]
    · exact Ev.to (Ev.now _) (by simp)
  | succ n ih =>
    intro i xs h hl
    refine Ev.step (f := fun k => stoaref01_Wide.l0 k (xs ++ [padN (i : Int)]) ((i + 1 : Nat) : Int)) (fun k => ?_) ?_
    · rw [stoaref01_Wide.l0, if_pos (by omega), if_pos (by omega), w64s i (by omega)]
      rfl
    · exact Ev.to (ih (i + 1) _ (by omega) (by rw [List.length_append, List.length_singleton]; omega)) (by rw [List.range'_succ, List.map_cons, List.append_assoc]; rfl)
theorem wide_law (xs : List Int) (hl : xs.length + 64 < 140737488355328) : Ev (fun k => stoaref01_Wide.f k xs) (xs ++ pads 64) := by
  unfold stoaref01_Wide.f
  refine Ev.bind (copy_ev xs (by omega)) ?_
  exact Ev.to (wide_l0 64 0 xs (by omega) (by omega)) (by unfold pads; rw [List.range_eq_range'])
theorem pads_length (n : Nat) : (pads n).length = n := by simp [pads]
theorem intact_l1 (xs : List Int) (hl : xs.length + 64 < 140737488355328) : ∀ (n i : Nat), i + n = 64 → Ev (fun k => stoaref01_Intact.l1 k (xs ++ pads 64) xs (i : Int)) true := by
  intro n
  induction n with
  | zero =>
    intro i h
    refine Ev.step (f := fun _ => some true) (fun k => ?_) (Ev.now _)
    rw [stoaref01_Intact.l1, if_neg (by omega)]
  | succ n ih =>
    intro i h
    have hlen : (xs ++ pads 64).length = xs.length + 64 := by rw [List.length_append, pads_length]
    refine Ev.step (f := fun k => stoaref01_Intact.l1 k (xs ++ pads 64) xs ((i + 1 : Nat) : Int)) (fun k => ?_) (ih (i + 1) (by omega))
    have hw : wrap64 ((xs.length : Int) + (i : Int)) = ((xs.length + i : Nat) : Int) := by rw [w64 (by omega) (by omega)]; omega
    have hr : rd (xs ++ pads 64) ((xs.length + i : Nat) : Int) = padN (i : Int) := by
      rw [rd_at (by omega), List.getElem_append_right (by omega)]
      simp [pads]
    rw [stoaref01_Intact.l1, if_pos (by omega), hw, if_pos (by omega), if_pos (by omega), hr, if_pos (show padN (i : Int) = (wrap64 (192 + Int.tmod (i : Int) 7)) % 256 from rfl), w64s i (by omega)]
theorem intact_l0 (xs : List Int) (hl : xs.length + 64 < 140737488355328) : ∀ (n i : Nat), i + n = xs.length → Ev (fun k => stoaref01_Intact.l0 k (xs ++ pads 64) xs (i : Int)) true := by
  intro n
  induction n with
  | zero =>
    intro i h
    refine Ev.step (f := fun k => stoaref01_Intact.l1 k (xs ++ pads 64) xs 0) (fun k => ?_) (intact_l1 xs hl 64 0 (by omega))
    rw [stoaref01_Intact.l0, if_neg (by omega)]
  | succ n ih =>
    intro i h
    have hlen : (xs ++ pads 64).length = xs.length + 64 := by rw [List.length_append, pads_length]
    have hi : i < xs.length := by omega
    refine Ev.step (f := fun k => stoaref01_Intact.l0 k (xs ++ pads 64) xs ((i + 1 : Nat) : Int)) (fun k => ?_) (ih (i + 1) (by omega))
    have hr : rd (xs ++ pads 64) (i : Int) = rd xs (i : Int) := by
      rw [rd_at (by omega), rd_at hi, List.getElem_append_left hi]
    rw [stoaref01_Intact.l0, if_pos (by omega), if_pos (by omega), if_pos (by omega), hr, if_pos rfl, w64s i (by omega)]
theorem intact_law (xs : List Int) (hl : xs.length + 64 < 140737488355328) : Ev (fun k => stoaref01_Intact.f k (xs ++ pads 64) xs) true := by
  unfold stoaref01_Intact.f
  have hlen : (xs ++ pads 64).length = xs.length + 64 := by rw [List.length_append, pads_length]
  refine Ev.congr (fun k => if_pos ?_) (intact_l0 xs hl xs.length 0 (by omega))
  rw [w64 (by omega) (by omega), hlen]; omega
end Go.Proofs.YtgcpiofpjogjcaaGreatDoor.PK
end
