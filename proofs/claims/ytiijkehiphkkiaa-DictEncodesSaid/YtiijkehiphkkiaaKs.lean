/-
  Spoil at a row of bytes of whatever make; what 70 appends leave.
-/
import Derived.Test.YtiijkehiphkkiaaKh
import Derived.Deep.Upon
namespace Go.Proofs.Ytiijkehiphkkiaa.PD
open Go.RowKit Go.Maps Go.Proofs.YtiijkehiphkkiaaW.PrintWords Go.Proofs.YtiijkehiphkkiaaW.PrintLast Go.Proofs.YtiijkehiphkkiaaW.PrintMore
set_option linter.unusedVariables false
set_option linter.unusedSimpArgs false

/-- A byte turned. -/
def tw (x : Int) : Int := Go.bits .xor .u8 x 90
/-- Below block B the later world is as it was. -/
structure Hold (B : Nat) (w w' : World) : Prop where
  os : w'.os = w.os
  output : w'.output = w.output
  size : w.heap.size ≤ w'.heap.size
  block : ∀ k, k < B → k < w.heap.size → w'.heap[k]? = w.heap[k]?
theorem Hold.of_below {B : Nat} {w w' : World} (h : Below B w w') : Hold B w w' := ⟨h.os, h.output, h.size, fun k hk _ => h.block k hk⟩
theorem Hold.trans {B : Nat} {a b c : World} (h : Hold B a b) (k : Hold B b c) : Hold B a c :=
  ⟨k.os.trans h.os, k.output.trans h.output, Nat.le_trans h.size k.size, fun i hi hl => (k.block i hi (by have := h.size; omega)).trans (h.block i hi hl)⟩
theorem Hold.mono {B B' : Nat} {w w' : World} (h : Hold B w w') (hB : B' ≤ B) : Hold B' w w' := ⟨h.os, h.output, h.size, fun k hk hl => h.block k (by omega) hl⟩
/-- The later world with the elder tape. -/
theorem Hold.below {w w' : World} (h : Hold w.heap.size w w') : Below w.heap.size w { w' with tape := w.tape } := ⟨h.os, rfl, h.output, h.size, fun k hk => h.block k hk hk⟩
theorem C_hold {w w' : World} {A : Option Addr} {n : Nat} {xs : List Int} (h : Kd.C (Kd.int .u8) w A n xs) (hh : Hold w.heap.size w w') : Kd.C (Kd.int .u8) w' A n xs := by
  have h2 := Kd.C_below h hh.below
  exact h2
theorem C_hold2 {w w' : World} {A : Option Addr} {n : Nat} {xs : List (List Int)} (h : Kd.C (Kd.slice 5 (Kd.int .u8)) w A n xs) (hh : Hold w.heap.size w w') : Kd.C (Kd.slice 5 (Kd.int .u8)) w' A n xs := by
  have h2 := Kd.C_below h hh.below
  exact h2

theorem Byt.cell {w : World} {base : Nat} {og : Option Nat} {v : Value} {xs : List Int} (h : Byt w base og v xs) {i : Nat} (hi : i < xs.length) : ∃ g cap, og = some g ∧ v = .slice (some ⟨g, 0, none⟩) xs.length cap ∧ w.cell? ⟨g, i, none⟩ = some (.int .u8 xs[i]) ∧ w.frozen? ⟨g, i, none⟩ = false := by
  rcases h with ⟨_, _, rfl⟩ | ⟨g, cap, cells, m, h1, h2, h3, h4, hh, h6, h7, hx, hcell⟩
  · simp at hi
  · refine ⟨g, cap, h1, h2, ?_, ?_⟩
    · simp only [World.cell?, hh]
      rw [hcell i hi]
      simp
    · simp only [World.frozen?, hh]
      rcases h7 with h7 | h7
      · simp; omega
      · simp; omega
theorem Byt.store {w : World} {base g : Nat} {v : Value} {xs : List Int} (h : Byt w base (some g) v xs) {i : Nat} (hi : i < xs.length) (x : Int) : Byt (w.setCell ⟨g, i, none⟩ (.int .u8 x)) base (some g) v (xs.set i x) ∧ w.grownBy (w.setCell ⟨g, i, none⟩ (.int .u8 x)) (some g) := by
  rcases h with ⟨h, _⟩ | ⟨g', cap, cells, m, h1, h2, h3, h4, hh, h6, h7, hx, hcell⟩
  · cases h
  · injection h1 with h1
    subst h1
    refine ⟨.inr ⟨g, cap, cells.setIfInBounds i (.int .u8 x), m, rfl, by rw [List.length_set]; exact h2, h3, by rw [List.length_set]; exact h4, ?_, by simpa using h6, h7, hx, fun j hj => ?_⟩, ⟨rfl, rfl, rfl, by simp, fun k _ hk => heap_setCell_other w ⟨g, i, none⟩ k _ (fun e => hk (by simp [e]))⟩⟩
    · simp only [World.setCell, Array.getElem?_modify, if_pos rfl, hh]
      rfl
    · rw [List.length_set] at hj
      rw [Array.getElem?_setIfInBounds]
      by_cases hij : i = j
      · subst hij
        rw [if_pos rfl, if_pos (by omega)]
        simp
      · rw [if_neg hij, hcell j hj, List.getElem_set_ne hij]

/-- The row behind i rounds. -/
def spo (xs : List Int) (i : Nat) : List Int := (xs.take i).map tw ++ xs.drop i
theorem spo_length (xs : List Int) (i : Nat) : (spo xs i).length = xs.length := by
  unfold spo
  rw [List.length_append, List.length_map, List.length_take, List.length_drop]
  omega
theorem spo_get (xs : List Int) (i : Nat) (hi : i < xs.length) : (spo xs i)[i]'(by rw [spo_length]; exact hi) = xs[i] := by
  have h : (spo xs i)[i]? = some xs[i] := by
    unfold spo
    rw [List.getElem?_append_right (by rw [List.length_map, List.length_take]; omega), List.length_map, List.length_take, Nat.min_eq_left (by omega), Nat.sub_self, List.getElem?_drop, Nat.add_zero, List.getElem?_eq_getElem hi]
  rw [List.getElem?_eq_getElem (by rw [spo_length]; exact hi)] at h
  injection h
theorem spo_set (xs : List Int) (i : Nat) (hi : i < xs.length) : (spo xs i).set i (tw xs[i]) = spo xs (i + 1) := by
  unfold spo
  rw [← take_snoc xs i hi, List.map_append, List.drop_eq_getElem_cons hi, List.set_append_right _ _ (by rw [List.length_map, List.length_take]; omega), List.length_map, List.length_take, Nat.min_eq_left (by omega), Nat.sub_self, List.append_assoc]
  rfl
theorem spo_zero (xs : List Int) : spo xs 0 = xs := by simp [spo]
theorem spo_all (xs : List Int) : spo xs xs.length = xs.map tw := by simp [spo]

set_option maxHeartbeats 1000000 in
set_option maxRecDepth 100000 in
theorem spoil_any (base : Nat) (og : Option Nat) (v : Value) (xs : List Int) (w : World) (h : Byt w base og v xs) (hl : xs.length ≤ 140737488355328) :
    Calls Try.prog 70 #[v] w fun e w' => e = .returned (.tuple #[]) ∧ Byt w' base og v (xs.map tw) ∧ w.grownBy w' og := by
  obtain ⟨A0, c0, rfl, hc0, _⟩ := h.reads
  have H0 := Lib.hid h
  clear h
  go_enter Try.func70, Try.ntmps70
  go_wp2
  go_loopw [2] (fun vi wq => ∃ i : Nat, i ≤ xs.length ∧ vi = .int .i64 i ∧ Byt wq base og (.slice A0 xs.length c0) (spo xs i) ∧ w.grownBy wq og) (fun vi _ => xs.length - (intOf vi).toNat)
  case atStart => exact ⟨0, by omega, rfl, by rw [spo_zero]; exact H0.out, ⟨rfl, rfl, rfl, Nat.le_refl _, fun _ _ _ => rfl⟩⟩
  case round =>
    obtain ⟨i, hi, rfl, hB, hg⟩ := hrel
    by_cases hlt : i < xs.length
    · obtain ⟨g, cap, rfl, hv, hcell, hfr⟩ := hB.cell (i := i) (by rw [spo_length]; exact hlt)
      rw [spo_get xs i hlt] at hcell
      rw [spo_length] at hv
      injection hv with hv _ hcap
      subst hv
      subst hcap
      obtain ⟨x, hx⟩ : ∃ x, x = xs[i] := ⟨_, rfl⟩
      rw [← hx] at hcell
      have HB := Lib.hid hB; have HX := Lib.hid hx; have HLT := Lib.hid hlt
      clear hB hx
      go_wp2
      obtain ⟨k1, k2⟩ := HB.out.store (i := i) (by rw [spo_length]; exact HLT.out) (tw x)
      rw [HX.out, spo_set xs i hlt, ← HX.out] at k1
      exact ⟨⟨i + 1, by omega, by go_num, k1, hg.trans k2⟩, by simp [intOf]; omega⟩
    · obtain rfl : i = xs.length := by omega
      rw [spo_all] at hB
      go_wp2
      first | go_end0 | ((try simp only [Exit.inBlock, Exit.then]); refine bodyPost_ret (results_none rfl _ _ _) rfl ?_)
      exact ⟨rfl, hB, hg⟩
end Go.Proofs.Ytiijkehiphkkiaa.PD
