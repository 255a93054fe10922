/-
  The texts' argument of a law of dict, opened, with its bounds; what a walk that holds old memory gives at the end.
-/
import Derived.Test.YtiijkehiphkkiaaKx
import Derived.Test.YtiijkehiphkkiaaKs
import Derived.Carry
namespace Go.Proofs.Ytiijkehiphkkiaa.PD
open Go.ChangeShapes Go.WideShapes Go.ChangeAt Go.RowKit Go.Deep Go.Proofs.YtiijkehiphkkiaaW.PrintWords
set_option linter.unusedVariables false
set_option linter.unusedSimpArgs false

theorem mem_weightsAll {H : Type} {P : Program} {e : TypeId} {x : DataW H} {n : Nat} : ∀ {l : List (DataW H)}, x ∈ l → n ∈ x.weights P e → n ∈ DataW.weightsAll P e l
  | y :: l, hx, hn => by
    rw [DataW.weightsAll]
    rcases List.mem_cons.1 hx with rfl | hx
    · exact List.mem_append_left _ hn
    · exact List.mem_append_right _ (mem_weightsAll hx hn)
  | [], hx, _ => by simp at hx
theorem open_texts_sized {H : Type} {enc : TypeId × Value → H} {W : World} {p : Option Addr} {len cap : Nat} {d : DataW H} {ps : List MemPlace} {ts : List TypeId} {ds : List (DataW H)} {j : Nat} (hsz : (DataW.weightsEach Try.prog ts ds).all (· ≤ reachBytes) = true) (ht : ts[j]? = some 45) (hd : ds[j]? = some d) (h : DataW.Trod enc Try.prog W 0 (fun _ => true) true 45 (.slice p len cap) d ps) :
    ∃ ss : List (List Int), ss.length = len ∧ ss.length ≤ cap ∧ Kd.C (Kd.slice 5 (Kd.int .u8)) W p ss.length ss ∧ (∀ s ∈ ss, Bys s) ∧ ss.length ≤ 5864062014805 ∧ ∀ s ∈ ss, s.length ≤ 140737488355328 := by
  obtain ⟨fuel, hf⟩ := h
  rcases open_int_rows Try.underlying45 Try.underlying55 Try.underlying5 (by kernel_rfl) (by kernel_rfl) hf with ⟨hcs, _⟩ | ⟨a, l, c, A, L, C, Z, hcs, _, hl, hm, hx, hr⟩
  · simp [Value.cells] at hcs
    obtain ⟨rfl, rfl, rfl⟩ := hcs
    exact ⟨[], rfl, Nat.le_refl _, Kd.C_nil _ _, (fun s hs => by simp at hs), by simp, fun s hs => by simp at hs⟩
  · simp [Value.cells] at hcs
    obtain ⟨rfl, rfl, rfl⟩ := hcs
    obtain ⟨hx, _⟩ := Prod.mk.inj hx
    subst hx
    have hrb : reachBytes ≤ 140737488351232 := by decide
    have z1 := sized_slice hsz ht hd Try.underlying45
    rw [show Try.prog.bytesOf 55 = 24 from by kernel_rfl] at z1
    simp only [List.length_map, List.length_range] at z1
    have hll : ((List.range len).map fun r => (Z r).take (L r)).length = len := by simp
    refine ⟨(List.range len).map fun r => (Z r).take (L r), hll, by omega, ⟨rfl, by rw [hll]; unfold maxLen at hm; omega, fun _ => ⟨a, rfl, fun j s hj => ?_⟩⟩, fun s hs => ?_, by omega, fun s hs => ?_⟩
    · obtain ⟨hjl, rfl⟩ := List.getElem?_eq_some_iff.1 hj
      rw [hll] at hjl
      obtain ⟨h1, h2, h3, h4, h5, h6, h7⟩ := hr j (by omega)
      simp only [List.getElem_map, List.getElem_range]
      have hrow := row_of_cells h2 h3 h4 h6 (fun a' ha' => (h7 a' ha').2) (W := W)
      have hLz : ((Z j).take (L j)).length = L j := by rw [List.length_take]; omega
      refine ⟨[.slice (A j) (L j) (C j)], rfl, ⟨A j, C j, by rw [hLz], by rw [hLz]; exact h2, hrow⟩, fun i u hu => ?_⟩
      cases i with
      | zero =>
        simp at hu
        subst hu
        rw [show j * (Kd.slice 5 (Kd.int .u8)).sz + 0 = j from by show j * 1 + 0 = j; omega]
        exact h1
      | succ i => simp at hu
    · obtain ⟨r, hr', rfl⟩ := List.mem_map.1 hs
      rw [List.mem_range] at hr'
      obtain ⟨h1, h2, h3, h4, h5, h6, h7⟩ := hr r (by omega)
      intro x hx
      exact wf_byte (h5 x (List.mem_of_mem_take hx))
    · obtain ⟨r, hr', rfl⟩ := List.mem_map.1 hs
      rw [List.mem_range] at hr'
      obtain ⟨h1, h2, h3, h4, h5, h6, h7⟩ := hr r (by omega)
      have hlt : ((Z r).take (L r)).length ≤ L r := by rw [List.length_take]; omega
      cases hA : A r with
      | none => have := h6 hA; omega
      | some a' =>
        have hw : ((Z r).take (L r)).length + ((Z r).drop (L r)).length ∈ DataW.weights Try.prog 45 (DataW.slice ((List.range len).map fun r => intRow (H := H) .u8 (A r) (L r) (Z r)) ((List.range (cap - len)).map fun j => intRow .u8 (A (len + j)) (L (len + j)) (Z (len + j)))) := by
          rw [DataW.weights, Try.underlying45]
          refine List.mem_cons_of_mem _ (List.mem_append_left _ (mem_weightsAll (x := intRow .u8 (A r) (L r) (Z r)) (List.mem_map.2 ⟨r, List.mem_range.2 hr', rfl⟩) ?_))
          rw [hA]
          simp only [intRow]
          rw [DataW.weights, Try.underlying55]
          refine List.mem_cons.2 (.inl ?_)
          rw [show Try.prog.bytesOf 5 = 1 from by kernel_rfl]
          simp [lits]
        have := List.all_eq_true.1 hsz _ (DataW.weights_mem_each ht hd _ hw)
        simp only [decide_eq_true_eq] at this
        omega

theorem Hold.same {W w' : World} (h : Hold W.heap.size W w') {p : MemPlace} (hp : p.block < W.heap.size) : W.sameAt w' p := by
  cases p with
  | cell b o => exact World.cell?_of_block (w := W) (h.block b hp hp)
  | map b => exact h.block b hp hp
theorem Hold.frame {W w' : World} (h : Hold W.heap.size W w') (may : MemPlace → Prop) : W.keptBut w' may := by
  refine ⟨h.os, h.output, fun i hi => ?_⟩
  rw [h.block i hi hi]
  split <;> simp_all
theorem Hold.trod {H : Type} {enc : TypeId × Value → H} {P : Program} {t : TypeId} (hl : laidOutB P = true) (hr : P.readableRec t = true) (hrow : t < P.types.size) {W W' : World} {v : Value} {d : DataW H} {ps : List MemPlace}
    (h : DataW.Trod enc P W 0 (fun _ => true) true t v d ps) (hb : Hold W.heap.size W W') (hlt : ∀ x ∈ ps, x.block < W.heap.size) :
    DataW.Trod enc P W' 0 (fun b => decide (b < W.heap.size)) true t v d ps :=
  WideElems.Trod_stays hl hr hrow h (fun x hx => hb.same (hlt x hx)) (fun x hx => by simpa using hlt x hx)
end Go.Proofs.Ytiijkehiphkkiaa.PD
