/-
  The arguments of the four laws of dict, opened: texts, bytes.
-/
import Derived.Test.YtiijkehiphkkiaaRows
import Derived.Test.YtiijkehiphkkiaaD0
import Derived.Test.YtiijkehiphkkiaaKd
import Derived.WalkKit
import Derived.ProofKit
import Derived.OpenShut
import Derived.SizedLaws
import Derived.Deep.Matrix
namespace Go.Proofs.Ytiijkehiphkkiaa.PD
open Go.ChangeShapes Go.WideShapes Go.ChangeAt Go.RowKit Go.Deep Go.Proofs.YtiijkehiphkkiaaW.PrintWords
set_option linter.unusedVariables false
set_option linter.unusedSimpArgs false

theorem wf_byte {n : Int} (h : (Lit.int .u8 n).wf = true) : 0 ≤ n ∧ n < 256 := by
  simp only [Lit.wf, IntKind.min, IntKind.max, IntKind.signed, IntKind.bits, Bool.and_eq_true, decide_eq_true_eq] at h
  simp at h
  omega
theorem row_of_cells {W : World} {A : Option Addr} {L C : Nat} {zs : List Int} (hL : L ≤ C) (hC : C ≤ maxLen) (hz : zs.length = C) (hn : A = none → C = 0) (hc : ∀ a, A = some a → ∀ c, c < C → W.cell? (a.add c) = some (.int .u8 (zs.getD c 0))) :
    Kd.C (Kd.int .u8) W A (zs.take L).length (zs.take L) := by
  have hl : (zs.take L).length = L := by rw [List.length_take]; omega
  refine Kd.C_of_reads (d := 0) ⟨rfl, by rw [hl]; unfold maxLen at hC; omega, fun hp => ?_⟩
  rw [hl] at hp
  rcases A with _ | a
  · have := hn rfl
    omega
  · refine ⟨a, rfl, fun j hj => ?_⟩
    rw [hl] at hj
    rw [hc a rfl j (by omega)]
    simp [List.getD_eq_getElem?_getD, List.getElem?_take, hj]

theorem open_texts {H : Type} {enc : TypeId × Value → H} {W : World} {p : Option Addr} {len cap : Nat} {d : DataW H} {ps : List MemPlace} (h : DataW.Trod enc Try.prog W 0 (fun _ => true) true 45 (.slice p len cap) d ps) :
    ∃ ss : List (List Int), ss.length = len ∧ ss.length ≤ cap ∧ Kd.C (Kd.slice 5 (Kd.int .u8)) W p ss.length ss ∧ ∀ s ∈ ss, Bys s := by
  obtain ⟨fuel, hf⟩ := h
  rcases open_int_rows Try.underlying45 Try.underlying55 Try.underlying5 (by kernel_rfl) (by kernel_rfl) hf with ⟨hcs, _⟩ | ⟨a, l, c, A, L, C, Z, hcs, _, hl, hm, hx, hr⟩
  · simp [Value.cells] at hcs
    obtain ⟨rfl, rfl, rfl⟩ := hcs
    exact ⟨[], rfl, Nat.le_refl _, Kd.C_nil _ _, fun s hs => by simp at hs⟩
  · simp [Value.cells] at hcs
    obtain ⟨rfl, rfl, rfl⟩ := hcs
    have hll : ((List.range len).map fun r => (Z r).take (L r)).length = len := by simp
    refine ⟨(List.range len).map fun r => (Z r).take (L r), hll, by omega, ⟨rfl, by rw [hll]; unfold maxLen at hm; omega, fun _ => ⟨a, rfl, fun j s hj => ?_⟩⟩, fun s hs => ?_⟩
    · obtain ⟨hjl, rfl⟩ := List.getElem?_eq_some_iff.1 hj
      rw [hll] at hjl
      obtain ⟨h1, h2, h3, h4, h5, h6, h7⟩ := hr j (by omega)
      simp only [List.getElem_map, List.getElem_range]
      have hrow := row_of_cells h2 h3 h4 h6 (fun a' ha' => (h7 a' ha').2) (W := W)
      have hLz : ((Z j).take (L j)).length = L j := by rw [List.length_take]; omega
      refine ⟨[.slice (A j) (L j) (C j)], rfl, ⟨A j, C j, by rw [hLz], by rw [hLz]; exact h2, hrow⟩, fun i u hu => ?_⟩
      cases i with
      | zero =>
        simp at hu
        subst hu
        rw [show j * (Kd.slice 5 (Kd.int .u8)).sz + 0 = j from by show j * 1 + 0 = j; omega]
        exact h1
      | succ i => simp at hu
    · obtain ⟨r, hr', rfl⟩ := List.mem_map.1 hs
      rw [List.mem_range] at hr'
      obtain ⟨h1, h2, h3, h4, h5, h6, h7⟩ := hr r (by omega)
      intro x hx
      exact wf_byte (h5 x (List.mem_of_mem_take hx))
theorem open_bytes {H : Type} {enc : TypeId × Value → H} {W : World} {p : Option Addr} {len cap : Nat} {d : DataW H} {ps : List MemPlace} (h : DataW.Trod enc Try.prog W 0 (fun _ => true) true 55 (.slice p len cap) d ps) :
    ∃ b : List Int, b.length = len ∧ b.length ≤ cap ∧ Kd.C (Kd.int .u8) W p b.length b ∧ Bys b := by
  obtain ⟨fuel, hf⟩ := h
  rcases open_ints Try.underlying55 Try.underlying5 (by kernel_rfl) hf with ⟨hcs, _⟩ | ⟨a, l, c, zs, hcs, _, hl, hm, hz, hx, hc, hw⟩
  · simp [Value.cells] at hcs
    obtain ⟨rfl, rfl, rfl⟩ := hcs
    exact ⟨[], rfl, Nat.le_refl _, Kd.C_nil _ _, fun s hs => by simp at hs⟩
  · simp [Value.cells] at hcs
    obtain ⟨rfl, rfl, rfl⟩ := hcs
    simp only [if_true] at hz
    refine ⟨zs.take len, by rw [List.length_take]; omega, by rw [List.length_take]; omega, row_of_cells hl hm hz (fun h => by cases h) (fun a' ha' c hc' => ?_), fun x hx => wf_byte (hw x (List.mem_of_mem_take hx))⟩
    injection ha' with ha'
    subst ha'
    exact hc c (by omega)
end Go.Proofs.Ytiijkehiphkkiaa.PD
