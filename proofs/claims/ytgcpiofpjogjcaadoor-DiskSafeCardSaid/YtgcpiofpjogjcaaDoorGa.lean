/-
  Arguments opened: bytes, whole numbers, strings.
-/
import Derived.Test.YtgcpiofpjogjcaaDoorDuv
import Derived.SizedLaws
import Derived.Deep.Strs
import Derived.ProofKit
import Derived.OpenShut
namespace Go.Proofs.YtgcpiofpjogjcaaDoor.PK
open Go.ChangeShapes Go.WideShapes Go.ChangeAt Go.RowKit Go.Proofs.YtgcpiofpjogjcaaDoorW.PrintWords
set_option linter.unusedVariables false
set_option linter.unusedSimpArgs false

theorem wf_byte {n : Int} (h : (Lit.int .u8 n).wf = true) : 0 ≤ n ∧ n < 256 := by
  simp only [Lit.wf, IntKind.min, IntKind.max, IntKind.signed, IntKind.bits, Bool.and_eq_true, decide_eq_true_eq] at h
  simp at h
  omega
theorem row_of_cells {k : IntKind} {W : World} {A : Option Addr} {L C : Nat} {zs : List Int} (hL : L ≤ C) (hC : C ≤ maxLen) (hz : zs.length = C) (hn : A = none → C = 0) (hc : ∀ a, A = some a → ∀ c, c < C → W.cell? (a.add c) = some (.int k (zs.getD c 0))) :
    Kd.C (Kd.int k) W A (zs.take L).length (zs.take L) := by
  have hl : (zs.take L).length = L := by rw [List.length_take]; omega
  refine Kd.C_of_reads (d := 0) ⟨rfl, by rw [hl]; unfold maxLen at hC; omega, fun hp => ?_⟩
  rw [hl] at hp
  rcases A with _ | a
  · have := hn rfl
    omega
  · refine ⟨a, rfl, fun j hj => ?_⟩
    rw [hl] at hj
    rw [hc a rfl j (by omega)]
    simp [List.getD_eq_getElem?_getD, List.getElem?_take, hj]
set_option maxRecDepth 100000 in
theorem open_nums {H : Type} {enc : TypeId × Value → H} {W : World} {t e : TypeId} {k : IntKind} (ht : Tryd.prog.underlying t = some (.slice e)) (he : Tryd.prog.underlying e = some (.int k)) (hcl : Tryd.prog.cellsOf e = 1) {p : Option Addr} {len cap : Nat} {d : DataW H} {ps : List MemPlace} (h : DataW.Trod enc Tryd.prog W 0 (fun _ => true) true t (.slice p len cap) d ps) :
    ∃ b : List Int, b.length = len ∧ b.length ≤ cap ∧ Kd.C (Kd.int k) W p b.length b ∧ ∀ x ∈ b, (Lit.int k x).wf = true := by
  obtain ⟨fuel, hf⟩ := h
  rcases open_ints ht he hcl hf with ⟨hcs, _⟩ | ⟨a, l, c, zs, hcs, _, hl, hm, hz, hx, hc, hw⟩
  · simp [Value.cells] at hcs
    obtain ⟨rfl, rfl, rfl⟩ := hcs
    exact ⟨[], rfl, Nat.le_refl _, Kd.C_nil _ _, fun s hs => by simp at hs⟩
  · simp [Value.cells] at hcs
    obtain ⟨rfl, rfl, rfl⟩ := hcs
    simp only [if_true] at hz
    refine ⟨zs.take len, by rw [List.length_take]; omega, by rw [List.length_take]; omega, row_of_cells hl hm hz (fun h => by cases h) (fun a' ha' c hc' => ?_), fun x hx => hw x (List.mem_of_mem_take hx)⟩
    injection ha' with ha'
    subst ha'
    exact hc c (by omega)
set_option maxRecDepth 100000 in
theorem open_names {H : Type} {enc : TypeId × Value → H} {W : World} {p : Option Addr} {len cap : Nat} {d : DataW H} {ps : List MemPlace} {ts : List TypeId} {ds : List (DataW H)} {j : Nat} (hsz : (DataW.weightsEach Tryd.prog ts ds).all (· ≤ reachBytes) = true) (htj : ts[j]? = some 23) (hdj : ds[j]? = some d) (h : DataW.Trod enc Tryd.prog W 0 (fun _ => true) true 23 (.slice p len cap) d ps) :
    ∃ b : List ByteArray, b.length = len ∧ b.length ≤ cap ∧ Kd.C Kd.string W p b.length b ∧ (∀ x ∈ b, x.size ≤ 9223372036854775807) ∧ b.length ≤ 140737488355328 := by
  obtain ⟨fuel, hf⟩ := h
  rcases Go.Deep.open_strs Tryd.underlying23 Tryd.underlying9 (by kernel_rfl) hf with ⟨hcs, _⟩ | ⟨a, l, c, m, Sx, hcs, _, hl, hm, hmm, hx, hc⟩
  · simp [Value.cells] at hcs
    obtain ⟨rfl, rfl, rfl⟩ := hcs
    have hb : ([] : List ByteArray).length ≤ 140737488355328 := Nat.zero_le _
    generalize 140737488355328 = BB at hb ⊢
    generalize 9223372036854775807 = MM
    exact ⟨[], rfl, Nat.le_refl _, Kd.C_nil _ _, (fun s hs => by cases hs), hb⟩
  · simp [Value.cells] at hcs
    obtain ⟨rfl, rfl, rfl⟩ := hcs
    simp only [if_true] at hmm
    subst hmm
    have hlen : ((List.range len).map Sx).length = len := by simp
    have hbd : len ≤ 140737488355328 := by
      obtain ⟨hx, _⟩ := Prod.mk.inj hx
      subst hx
      have z := sized_slice hsz htj hdj Tryd.underlying23
      rw [show Tryd.prog.bytesOf 9 = 16 from by kernel_rfl] at z
      simp only [List.length_map, List.length_range] at z
      have := reachBytes_lt
      omega
    refine ⟨(List.range len).map Sx, hlen, by rw [hlen]; exact hl, Kd.C_of_reads (d := (⟨#[]⟩ : ByteArray)) ⟨rfl, by rw [hlen]; omega, fun _ => ⟨a, rfl, fun j hj => ?_⟩⟩, fun x hx => ?_, by rw [hlen]; exact hbd⟩
    · rw [hlen] at hj
      rw [(hc j (by omega)).1]
      simp [List.getD_eq_getElem?_getD, hj]
    · obtain ⟨i, hi, rfl⟩ := List.mem_map.1 hx
      rw [List.mem_range] at hi
      have := (hc i (by omega)).2
      unfold maxLen at this
      omega
end Go.Proofs.YtgcpiofpjogjcaaDoor.PK
