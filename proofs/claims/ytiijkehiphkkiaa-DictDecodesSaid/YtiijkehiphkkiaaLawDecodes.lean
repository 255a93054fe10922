/-
  DictDecodes: for all bytes the law returns true, and the argument reads as it did. No condition.
-/
import Derived.SizedLaws
import Derived.ChangeSlices
import Derived.Test.YtiijkehiphkkiaaRows
import Derived.Test.YtiijkehiphkkiaaD0
import Derived.Test.YtiijkehiphkkiaaKd
import Derived.WalkKit
import Derived.ProofKit
import Derived.OpenShut
import Derived.Deep.Matrix
import Derived.Test.YtiijkehiphkkiaaKs
import Derived.Carry
import Derived.Test.YtiijkehiphkkiaaKt
import Derived.Test.YtiijkehiphkkiaaKl
import Derived.Test.YtiijkehiphkkiaaKr
import Derived.Test.YtiijkehiphkkiaaKqd
import Derived.Test.YtiijkehiphkkiaaD7w
import Derived.ChangeOld
section
-- PRINTED BY print.sh 35421559b90ae4d0a3588c463048766b98c2df88dd9212a6774a882060cdf62d: not written by this session
-- PRINTED WORDS (module Derived/Print/Sized.lean): go-gate-2's, for the rows of laws over slices: an AI agent of Go's test side, Tue Nov 17 2026; no person has read it. Lean checks it.
namespace Go.Proofs.YtiijkehiphkkiaaW.PrintWords
open Go.ChangeShapes Go.WideShapes
/-- A row's slice of whole numbers is no longer than its weight allows. -/
theorem sized_ints {H : Type} {enc : TypeId × Value → H} {P : Program} {W : World} {base : Nat} {spare : Nat → Bool} {held : Bool} {t e : TypeId} {k : IntKind} {a : Option Addr} {len cap : Nat} {d : DataW H} {ps : List MemPlace} {ts : List TypeId} {ds : List (DataW H)} {j : Nat}
    (hsz : (DataW.weightsEach P ts ds).all (· ≤ reachBytes) = true) (ht : ts[j]? = some t) (hd : ds[j]? = some d) (hu : P.underlying t = some (.slice e)) (he : P.underlying e = some (.int k)) (hc : P.cellsOf e = 1) {B : Nat} (hB : P.bytesOf e = B)
    (h : DataW.Trod enc P W base spare held t (.slice a len cap) d ps) : len * B ≤ 140737488351232 := by
  obtain ⟨fuel, hf⟩ := h
  rcases open_ints hu he hc hf with ⟨hcs, _⟩ | ⟨x, l, c, zs, hcs, _, hl, _, hz, hx, _, _⟩
  · simp [Value.cells] at hcs
    obtain ⟨rfl, rfl, rfl⟩ := hcs
    simp
  · simp [Value.cells] at hcs
    obtain ⟨rfl, rfl, rfl⟩ := hcs
    obtain ⟨hx, _⟩ := Prod.mk.inj hx
    subst hx
    have z := sized_slice hsz ht hd hu
    rw [hB] at z
    have hl2 : len ≤ zs.length := by
      rw [hz]
      split
      · exact hl
      · exact Nat.le_refl _
    have h1 : (lits (H := H) k (zs.take len)).length + (lits (H := H) k (zs.drop len)).length = zs.length := by
      simp [lits]
      omega
    rw [h1] at z
    exact Nat.le_trans (Nat.mul_le_mul_right _ hl2) z
end Go.Proofs.YtiijkehiphkkiaaW.PrintWords
end
section
namespace Go.Proofs.Ytiijkehiphkkiaa.PD
open Go.ChangeShapes Go.WideShapes Go.ChangeAt Go.RowKit Go.Deep Go.Proofs.YtiijkehiphkkiaaW.PrintWords
set_option linter.unusedVariables false
set_option linter.unusedSimpArgs false

theorem wf_byte {n : Int} (h : (Lit.int .u8 n).wf = true) : 0 ≤ n ∧ n < 256 := by
  simp only [Lit.wf, IntKind.min, IntKind.max, IntKind.signed, IntKind.bits, Bool.and_eq_true, decide_eq_true_eq] at h
  simp at h
  omega
theorem row_of_cells {W : World} {A : Option Addr} {L C : Nat} {zs : List Int} (hL : L ≤ C) (hC : C ≤ maxLen) (hz : zs.length = C) (hn : A = none → C = 0) (hc : ∀ a, A = some a → ∀ c, c < C → W.cell? (a.add c) = some (.int .u8 (zs.getD c 0))) :
    Kd.C (Kd.int .u8) W A (zs.take L).length (zs.take L) := by
  have hl : (zs.take L).length = L := by rw [List.length_take]; omega
  refine Kd.C_of_reads (d := 0) ⟨rfl, by rw [hl]; unfold maxLen at hC; omega, fun hp => ?_⟩
  rw [hl] at hp
  rcases A with _ | a
  · have := hn rfl
    omega
  · refine ⟨a, rfl, fun j hj => ?_⟩
    rw [hl] at hj
    rw [hc a rfl j (by omega)]
    simp [List.getD_eq_getElem?_getD, List.getElem?_take, hj]

theorem open_texts {H : Type} {enc : TypeId × Value → H} {W : World} {p : Option Addr} {len cap : Nat} {d : DataW H} {ps : List MemPlace} (h : DataW.Trod enc Try.prog W 0 (fun _ => true) true 45 (.slice p len cap) d ps) :
    ∃ ss : List (List Int), ss.length = len ∧ ss.length ≤ cap ∧ Kd.C (Kd.slice 5 (Kd.int .u8)) W p ss.length ss ∧ ∀ s ∈ ss, Bys s := by
  obtain ⟨fuel, hf⟩ := h
  rcases open_int_rows Try.underlying45 Try.underlying55 Try.underlying5 (by kernel_rfl) (by kernel_rfl) hf with ⟨hcs, _⟩ | ⟨a, l, c, A, L, C, Z, hcs, _, hl, hm, hx, hr⟩
  · simp [Value.cells] at hcs
    obtain ⟨rfl, rfl, rfl⟩ := hcs
    exact ⟨[], rfl, Nat.le_refl _, Kd.C_nil _ _, fun s hs => by simp at hs⟩
  · simp [Value.cells] at hcs
    obtain ⟨rfl, rfl, rfl⟩ := hcs
    have hll : ((List.range len).map fun r => (Z r).take (L r)).length = len := by simp
    refine ⟨(List.range len).map fun r => (Z r).take (L r), hll, by omega, ⟨rfl, by rw [hll]; unfold maxLen at hm; omega, fun _ => ⟨a, rfl, fun j s hj => ?_⟩⟩, fun s hs => ?_⟩
    · obtain ⟨hjl, rfl⟩ := List.getElem?_eq_some_iff.1 hj
      rw [hll] at hjl
      obtain ⟨h1, h2, h3, h4, h5, h6, h7⟩ := hr j (by omega)
      simp only [List.getElem_map, List.getElem_range]
      have hrow := row_of_cells h2 h3 h4 h6 (fun a' ha' => (h7 a' ha').2) (W := W)
      have hLz : ((Z j).take (L j)).length = L j := by rw [List.length_take]; omega
      refine ⟨[.slice (A j) (L j) (C j)], rfl, ⟨A j, C j, by rw [hLz], by rw [hLz]; exact h2, hrow⟩, fun i u hu => ?_⟩
      cases i with
      | zero =>
        simp at hu
        subst hu
        rw [show j * (Kd.slice 5 (Kd.int .u8)).sz + 0 = j from by show j * 1 + 0 = j; omega]
        exact h1
      | succ i => simp at hu
    · obtain ⟨r, hr', rfl⟩ := List.mem_map.1 hs
      rw [List.mem_range] at hr'
      obtain ⟨h1, h2, h3, h4, h5, h6, h7⟩ := hr r (by omega)
      intro x hx
      exact wf_byte (h5 x (List.mem_of_mem_take hx))
theorem open_bytes {H : Type} {enc : TypeId × Value → H} {W : World} {p : Option Addr} {len cap : Nat} {d : DataW H} {ps : List MemPlace} (h : DataW.Trod enc Try.prog W 0 (fun _ => true) true 55 (.slice p len cap) d ps) :
    ∃ b : List Int, b.length = len ∧ b.length ≤ cap ∧ Kd.C (Kd.int .u8) W p b.length b ∧ Bys b := by
  obtain ⟨fuel, hf⟩ := h
  rcases open_ints Try.underlying55 Try.underlying5 (by kernel_rfl) hf with ⟨hcs, _⟩ | ⟨a, l, c, zs, hcs, _, hl, hm, hz, hx, hc, hw⟩
  · simp [Value.cells] at hcs
    obtain ⟨rfl, rfl, rfl⟩ := hcs
    exact ⟨[], rfl, Nat.le_refl _, Kd.C_nil _ _, fun s hs => by simp at hs⟩
  · simp [Value.cells] at hcs
    obtain ⟨rfl, rfl, rfl⟩ := hcs
    simp only [if_true] at hz
    refine ⟨zs.take len, by rw [List.length_take]; omega, by rw [List.length_take]; omega, row_of_cells hl hm hz (fun h => by cases h) (fun a' ha' c hc' => ?_), fun x hx => wf_byte (hw x (List.mem_of_mem_take hx))⟩
    injection ha' with ha'
    subst ha'
    exact hc c (by omega)
end Go.Proofs.Ytiijkehiphkkiaa.PD
end
section
namespace Go.Proofs.Ytiijkehiphkkiaa.PD
open Go.ChangeShapes Go.WideShapes Go.ChangeAt Go.RowKit Go.Deep Go.Proofs.YtiijkehiphkkiaaW.PrintWords
set_option linter.unusedVariables false
set_option linter.unusedSimpArgs false

theorem mem_weightsAll {H : Type} {P : Program} {e : TypeId} {x : DataW H} {n : Nat} : ∀ {l : List (DataW H)}, x ∈ l → n ∈ x.weights P e → n ∈ DataW.weightsAll P e l
  | y :: l, hx, hn => by
    rw [DataW.weightsAll]
    rcases List.mem_cons.1 hx with rfl | hx
    · exact List.mem_append_left _ hn
    · exact List.mem_append_right _ (mem_weightsAll hx hn)
  | [], hx, _ => by simp at hx
theorem open_texts_sized {H : Type} {enc : TypeId × Value → H} {W : World} {p : Option Addr} {len cap : Nat} {d : DataW H} {ps : List MemPlace} {ts : List TypeId} {ds : List (DataW H)} {j : Nat} (hsz : (DataW.weightsEach Try.prog ts ds).all (· ≤ reachBytes) = true) (ht : ts[j]? = some 45) (hd : ds[j]? = some d) (h : DataW.Trod enc Try.prog W 0 (fun _ => true) true 45 (.slice p len cap) d ps) :
    ∃ ss : List (List Int), ss.length = len ∧ ss.length ≤ cap ∧ Kd.C (Kd.slice 5 (Kd.int .u8)) W p ss.length ss ∧ (∀ s ∈ ss, Bys s) ∧ ss.length ≤ 5864062014805 ∧ ∀ s ∈ ss, s.length ≤ 140737488355328 := by
  obtain ⟨fuel, hf⟩ := h
  rcases open_int_rows Try.underlying45 Try.underlying55 Try.underlying5 (by kernel_rfl) (by kernel_rfl) hf with ⟨hcs, _⟩ | ⟨a, l, c, A, L, C, Z, hcs, _, hl, hm, hx, hr⟩
  · simp [Value.cells] at hcs
    obtain ⟨rfl, rfl, rfl⟩ := hcs
    exact ⟨[], rfl, Nat.le_refl _, Kd.C_nil _ _, (fun s hs => by simp at hs), by simp, fun s hs => by simp at hs⟩
  · simp [Value.cells] at hcs
    obtain ⟨rfl, rfl, rfl⟩ := hcs
    obtain ⟨hx, _⟩ := Prod.mk.inj hx
    subst hx
    have hrb : reachBytes ≤ 140737488351232 := by decide
    have z1 := sized_slice hsz ht hd Try.underlying45
    rw [show Try.prog.bytesOf 55 = 24 from by kernel_rfl] at z1
    simp only [List.length_map, List.length_range] at z1
    have hll : ((List.range len).map fun r => (Z r).take (L r)).length = len := by simp
    refine ⟨(List.range len).map fun r => (Z r).take (L r), hll, by omega, ⟨rfl, by rw [hll]; unfold maxLen at hm; omega, fun _ => ⟨a, rfl, fun j s hj => ?_⟩⟩, fun s hs => ?_, by omega, fun s hs => ?_⟩
    · obtain ⟨hjl, rfl⟩ := List.getElem?_eq_some_iff.1 hj
      rw [hll] at hjl
      obtain ⟨h1, h2, h3, h4, h5, h6, h7⟩ := hr j (by omega)
      simp only [List.getElem_map, List.getElem_range]
      have hrow := row_of_cells h2 h3 h4 h6 (fun a' ha' => (h7 a' ha').2) (W := W)
      have hLz : ((Z j).take (L j)).length = L j := by rw [List.length_take]; omega
      refine ⟨[.slice (A j) (L j) (C j)], rfl, ⟨A j, C j, by rw [hLz], by rw [hLz]; exact h2, hrow⟩, fun i u hu => ?_⟩
      cases i with
      | zero =>
        simp at hu
        subst hu
        rw [show j * (Kd.slice 5 (Kd.int .u8)).sz + 0 = j from by show j * 1 + 0 = j; omega]
        exact h1
      | succ i => simp at hu
    · obtain ⟨r, hr', rfl⟩ := List.mem_map.1 hs
      rw [List.mem_range] at hr'
      obtain ⟨h1, h2, h3, h4, h5, h6, h7⟩ := hr r (by omega)
      intro x hx
      exact wf_byte (h5 x (List.mem_of_mem_take hx))
    · obtain ⟨r, hr', rfl⟩ := List.mem_map.1 hs
      rw [List.mem_range] at hr'
      obtain ⟨h1, h2, h3, h4, h5, h6, h7⟩ := hr r (by omega)
      have hlt : ((Z r).take (L r)).length ≤ L r := by rw [List.length_take]; omega
      cases hA : A r with
      | none => have := h6 hA; omega
      | some a' =>
        have hw : ((Z r).take (L r)).length + ((Z r).drop (L r)).length ∈ DataW.weights Try.prog 45 (DataW.slice ((List.range len).map fun r => intRow (H := H) .u8 (A r) (L r) (Z r)) ((List.range (cap - len)).map fun j => intRow .u8 (A (len + j)) (L (len + j)) (Z (len + j)))) := by
          rw [DataW.weights, Try.underlying45]
          refine List.mem_cons_of_mem _ (List.mem_append_left _ (mem_weightsAll (x := intRow .u8 (A r) (L r) (Z r)) (List.mem_map.2 ⟨r, List.mem_range.2 hr', rfl⟩) ?_))
          rw [hA]
          simp only [intRow]
          rw [DataW.weights, Try.underlying55]
          refine List.mem_cons.2 (.inl ?_)
          rw [show Try.prog.bytesOf 5 = 1 from by kernel_rfl]
          simp [lits]
        have := List.all_eq_true.1 hsz _ (DataW.weights_mem_each ht hd _ hw)
        simp only [decide_eq_true_eq] at this
        omega

theorem Hold.same {W w' : World} (h : Hold W.heap.size W w') {p : MemPlace} (hp : p.block < W.heap.size) : W.sameAt w' p := by
  cases p with
  | cell b o => exact World.cell?_of_block (w := W) (h.block b hp hp)
  | map b => exact h.block b hp hp
theorem Hold.frame {W w' : World} (h : Hold W.heap.size W w') (may : MemPlace → Prop) : W.keptBut w' may := by
  refine ⟨h.os, h.output, fun i hi => ?_⟩
  rw [h.block i hi hi]
  split <;> simp_all
theorem Hold.trod {H : Type} {enc : TypeId × Value → H} {P : Program} {t : TypeId} (hl : laidOutB P = true) (hr : P.readableRec t = true) (hrow : t < P.types.size) {W W' : World} {v : Value} {d : DataW H} {ps : List MemPlace}
    (h : DataW.Trod enc P W 0 (fun _ => true) true t v d ps) (hb : Hold W.heap.size W W') (hlt : ∀ x ∈ ps, x.block < W.heap.size) :
    DataW.Trod enc P W' 0 (fun b => decide (b < W.heap.size)) true t v d ps :=
  WideElems.Trod_stays hl hr hrow h (fun x hx => hb.same (hlt x hx)) (fun x hx => by simpa using hlt x hx)
end Go.Proofs.Ytiijkehiphkkiaa.PD
end
section
namespace Go.Proofs.Ytiijkehiphkkiaa.PD
open Go.RowKit Go.Maps Go.Proofs.YtiijkehiphkkiaaW.PrintWords Go.Proofs.YtiijkehiphkkiaaW.PrintLast Go.Proofs.YtiijkehiphkkiaaW.PrintMore
set_option linter.unusedVariables false
set_option linter.unusedSimpArgs false

/-- Place i of the rows: the cell and the row behind it. -/
theorem EntX.at {w : World} {base B : Nat} {ad : Addr} {n c : Nat} {vs : List Value} {ogs : List (Option Nat)} {es : List (List Int)} (h : EntX w base B (.slice (some ad) n c) vs ogs es) {i : Nat} (hi : i < es.length) :
    ∃ A' c' og, vs[i]? = some (.slice A' es[i].length c') ∧ ogs[i]? = some og ∧ Byt w base og (.slice A' es[i].length c') es[i] ∧ es[i].length ≤ c' ∧ Kd.C (Kd.int .u8) w A' es[i].length es[i] ∧ w.cell? (ad.add i) = some (.slice A' es[i].length c') := by
  obtain ⟨u, og, hu, hog, hB⟩ := h.each i hi
  obtain ⟨A', c', rfl, hc', hC'⟩ := hB.reads
  refine ⟨A', c', og, hu, hog, hB, hc', hC', ?_⟩
  have h1 := h.row
  have hn : n = es.length := by
    rcases h1.2 with ⟨h, _⟩ | ⟨g', cap', cur, h, _⟩
    · cases h
    · injection h
  subst hn
  rcases h1.2 with ⟨h', _⟩ | ⟨g, cap, cur, h', hg, hcur, _⟩
  · cases h'
  · injection h' with h' _ _
    injection h' with h'
    subst h'
    rw [add_plain]
    exact (h1.cellAt (g := g) i (by omega)).trans hu

set_option maxHeartbeats 4000000 in
set_option maxRecDepth 100000 in
theorem apartall_any (base B : Nat) (v : Value) (vs : List Value) (ogs : List (Option Nat)) (es : List (List Int)) (A : Option Addr) (c : Nat) (w : World) (hE : EntX w base B v vs ogs es) (hW : ∀ w', Side base B w w' → Kd.C (Kd.slice 5 (Kd.int .u8)) w' A es.length es) (hc : es.length ≤ c)
    (hn : es.length ≤ 4096) (hes : ∀ s ∈ es, s.length ≤ 200) :
    Calls Try.prog 37 #[v, .slice A es.length c] w fun e w' => e = .returned (.bool true) ∧ Side base B w w' := by
  obtain ⟨A0, c0, rfl, hc0, _⟩ := hE.entB.reads
  go_enter Try.func37, Try.ntmps37
  go_upto_region 3 with (fail)
  go_wp2
  go_loopw [5] (fun vi wq => ∃ i : Nat, i ≤ es.length ∧ vi = .int .i64 i ∧ EntX wq base B (.slice A0 es.length c0) vs ogs es ∧ Side base B w wq) (fun vi _ => es.length - (intOf vi).toNat)
  case atStart => exact ⟨0, by omega, rfl, hE, Side.refl _ _ _⟩
  case round =>
    obtain ⟨i, hi, rfl, hX, hS⟩ := hrel
    by_cases hlt : i < es.length
    · have hCW := hW wr hS
      obtain ⟨ad, A3, c3, rfl, hx, hc3, hC3⟩ := at_L4 hCW (i : Int) (by omega) (by omega)
      rw [rd4_at hlt, Int.toNat_natCast] at hx
      rw [rd4_at hlt] at hc3 hC3
      obtain ⟨ad0, rfl⟩ : ∃ ad0, A0 = some ad0 := by
        rcases hX.row.2 with ⟨h', h2⟩ | ⟨g, cap, cur, h', _⟩
        · omega
        · injection h' with h' _ _; exact ⟨_, h'⟩
      obtain ⟨A4, c4, og, hu, hog, hB, hc4, hC4, hy⟩ := hX.at hlt
      have hsl := hes es[i] (List.getElem_mem hlt)
      obtain ⟨s, hs⟩ : ∃ s, s = es[i] := ⟨_, rfl⟩
      rw [← hs] at hx hc3 hC3 hc4 hC4 hy hsl
      have hcall := fun W (hWb : Below wr.heap.size wr W) => stoaref01_Same.calls (s.length + 1) A4 c4 s A3 c3 s true W (Kd.C_below hC4 hWb) hc4 (Kd.C_below hC3 hWb) hc3 (by rw [same_law s s (by omega) _ (Nat.le_refl _)]; simp)
      have HX := Lib.hid hX
      have HLT := Lib.hid hlt
      clear hu hog hB hC3 hC4 hs hCW hX hE
      go_upto_region 6 with (fail)
      go_quiet (first | (go_at_call 45; refine (hcall _ (by repeat (first | exact Below.refl _ _ | apply below_drew | apply pw_below_drewN))).mono ?_; rintro e w4 ⟨rfl, ⟨nd, rfl⟩⟩; (try first | exact ⟨rfl, _, World.drewN_drewN _ _ _⟩ | exact ⟨rfl, _, Eq.trans (World.drewN_drewN _ _ _) (congrArg (World.drewN _) (Nat.add_assoc _ _ _))⟩)))
      go_wp2
      exact ⟨⟨i + 1, by omega, by go_num, HX.out.below (fun k hk => (pw_below_drewN (Below.refl _ wr) nq).block k hk), hS.drewN nq⟩, by simp [intOf]; omega⟩
    · obtain rfl : i = es.length := by omega
      clear hi hlt
      go_upto_region 8 with (fail)
      go_wp2
      go_loopw [6] (fun vi wq => ∃ i : Nat, i ≤ es.length ∧ vi = .int .i64 i ∧ EntX wq base B (.slice A0 es.length c0) vs ogs (mixE es i) ∧ Side base B w wq) (fun vi _ => es.length - (intOf vi).toNat)
      case atStart => exact ⟨0, by omega, rfl, by rw [mixE_zero]; exact hX, hS⟩
      case round =>
        obtain ⟨i, hi, rfl, hX, hS⟩ := hrel
        by_cases hlt : i < es.length
        · obtain ⟨ad0, rfl⟩ : ∃ ad0, A0 = some ad0 := by
            rcases hX.row.2 with ⟨h', h2⟩ | ⟨g, cap, cur, h', _⟩
            · rw [mixE_length] at h2; omega
            · injection h' with h' _ _; exact ⟨_, h'⟩
          obtain ⟨A4, c4, og, hu, hog, hB, hc4, hC4, hy⟩ := hX.at (i := i) (by rw [mixE_length]; exact hlt)
          rw [mixE_get es i hlt] at hu hB hc4 hC4 hy
          have hsl := hes es[i] (List.getElem_mem hlt)
          obtain ⟨s, hs⟩ : ∃ s, s = es[i] := ⟨_, rfl⟩
          rw [← hs] at hu hB hc4 hC4 hy hsl
          have HX := Lib.hid hX; have HLT := Lib.hid hlt; have HS := Lib.hid hs; have HU := Lib.hid hu; have HOG := Lib.hid hog; have HBY := Lib.hid hB
          clear hu hog hB hC4 hs hX hE
          go_wp2_with (first
            | (go_at_call 70; refine (spoil_any base og _ s _ HBY.out (by omega)).mono ?_; rintro e w4 ⟨rfl, hB4, hg4⟩))
          have hlt := HLT.out
          obtain ⟨k1, k2⟩ := HX.out.upd (by rw [mixE_length]; exact hlt) HU.out HOG.out hB4 hg4.os hg4.output hg4.size (fun k hk hne => hg4.block k hk (fun e => hne e.symm))
          rw [HS.out, mixE_set es i hlt] at k1
          exact ⟨⟨i + 1, by omega, by go_num, k1, hS.trans k2⟩, by simp [intOf]; omega⟩
        · obtain rfl : i = es.length := by omega
          rw [mixE_all] at hX
          clear hi hlt
          obtain ⟨te, hte⟩ : ∃ te, te = es.map (fun s => s.map tw) := ⟨_, rfl⟩
          have htl : te.length = es.length := by rw [hte, List.length_map]
          have hts : ∀ s ∈ te, s.length ≤ 200 := by
            intro s hs
            rw [hte] at hs
            obtain ⟨s', hs', rfl⟩ := List.mem_map.1 hs
            rw [List.length_map]
            exact hes s' hs'
          rw [← hte] at hX
          have HTE := Lib.hid hte; have HTL := Lib.hid htl
          clear hte htl
          go_upto_region 13 with (fail)
          go_wp2
          go_loopw [7, 8] (fun v7 vi wq => ∃ (i m : Nat), i ≤ es.length ∧ vi = .int .i64 i ∧ v7 = .int .i64 m ∧ m ≤ i * 1000000 ∧ EntX wq base B (.slice A0 es.length c0) vs ogs te ∧ Side base B w wq) (fun _ vi _ => es.length - (intOf vi).toNat)
          case atStart => exact ⟨0, 0, by omega, rfl, rfl, by omega, hX, hS⟩
          case round =>
            obtain ⟨i, m, hi, rfl, rfl, hm, hX, hS⟩ := hrel
            by_cases hlt : i < es.length
            · have hlt2 : i < te.length := by have := HTL.out; omega
              obtain ⟨ad0, rfl⟩ : ∃ ad0, A0 = some ad0 := by
                rcases hX.row.2 with ⟨h', h2⟩ | ⟨g, cap, cur, h', _⟩
                · omega
                · injection h' with h' _ _; exact ⟨_, h'⟩
              obtain ⟨A4, c4, og, hu, hog, hB, hc4, hC4, hy⟩ := hX.at hlt2
              have hsl := hts te[i] (List.getElem_mem hlt2)
              obtain ⟨ao, b, cap, hv, hCame, hcap, hcb⟩ := hB.came
              injection hv with hv1 _ hv2
              subst hv1
              subst hv2
              obtain ⟨s, hs⟩ : ∃ s, s = te[i] := ⟨_, rfl⟩
              rw [← hs] at hu hc4 hy hsl hCame
              have HX := Lib.hid hX; have HS := Lib.hid hs; have HU := Lib.hid hu; have HOG := Lib.hid hog; have HCB := Lib.hid hcb; have HCA := Lib.hid hCame
              clear hu hog hB hC4 hs hX hE hcb hCame
              have hn8 : i ≤ 4096 := by omega
              go_upto_region 17 with (fail)
              go_wp2
              go_loopw [9, 10] (fun v9 vk wq => ∃ (k : Nat) (ks : List Value) (r : Nat), k ≤ 70 ∧ vk = .int .i64 k ∧ Upon wr 5 1 A4 b 0 s.length c4 (nums .u8 s) wq v9 k ks r) (fun _ vk _ => 70 - (intOf vk).toNat)
              case atStart => exact ⟨0, [], 0, by omega, rfl, Upon.start HCA.out⟩
              case round =>
                obtain ⟨k, ks, r, hk, rfl, hU⟩ := hrel
                by_cases hlk : k < 70
                · obtain ⟨A9, c9, rfl⟩ := hU.shape
                  obtain ⟨i0, hi0, hz0, hz1, hz2⟩ := info_parts info5
                  have HUP := Lib.hid hU
                  clear hU
                  go_wp2_with (first | (at_builtin; refine wpList_append_upon _ rfl _ _ 55 55 rfl HCA.out i0 (.int .u8 0) 1 Try.underlying55 hi0 hz0 hz1 hz2 rfl rfl (HUP.out.alloc HCA.out _) _ 1 [.int .u8 (((k : Int) + (i : Int)) % 256)] rfl (Src.ofSlice _ Try.underlying55 _ 1 1 _ rfl (cell_one_new _ _ _) (by simp [Value.oneCell'])) (by unfold maxLen; omega) (by omega) ?_; intro v' w5 hU5))
                  exact ⟨⟨k + 1, _, _, by omega, by go_num, hU5⟩, by simp [intOf]; omega⟩
                · obtain rfl : k = 70 := by omega
                  obtain ⟨A9, c9, rfl⟩ := hU.shape
                  have HUP := Lib.hid hU
                  clear hU
                  go_wp2
                  have hU := HUP.out
                  rw [HS.out] at hU
                  obtain ⟨k1, k2⟩ := HX.out.upon hlt2 HU.out HOG.out HCB.out hU
                  exact ⟨⟨i + 1, m + (s.length + 70), by omega, by go_num, by go_num, by omega, k1, hS.trans k2⟩, by simp [intOf]; omega⟩
            · obtain rfl : i = es.length := by omega
              clear hi hlt
              have hm0 : (0 : Int) ≤ (m : Int) := by omega
              go_upto_region 22 with (fail)
              go_wp2
              go_loopw [11] (fun vi wq => ∃ i : Nat, i ≤ es.length ∧ vi = .int .i64 i ∧ EntX wq base B (.slice A0 es.length c0) vs ogs te ∧ Side base B w wq) (fun vi _ => es.length - (intOf vi).toNat)
              case atStart => exact ⟨0, by omega, rfl, hX, hS⟩
              case round =>
                obtain ⟨i, hi, rfl, hX, hS⟩ := hrel
                by_cases hlt : i < es.length
                · have hlt2 : i < te.length := by have := HTL.out; omega
                  have hCW := hW wr hS
                  obtain ⟨ad, A3, c3, rfl, hx, hc3, hC3⟩ := at_L4 hCW (i : Int) (by omega) (by omega)
                  rw [rd4_at hlt, Int.toNat_natCast] at hx
                  rw [rd4_at hlt] at hc3 hC3
                  obtain ⟨ad0, rfl⟩ : ∃ ad0, A0 = some ad0 := by
                    rcases hX.row.2 with ⟨h', h2⟩ | ⟨g, cap, cur, h', _⟩
                    · omega
                    · injection h' with h' _ _; exact ⟨_, h'⟩
                  obtain ⟨A4, c4, og, hu, hog, hB, hc4, hC4, hy⟩ := hX.at hlt2
                  have hsl := hes es[i] (List.getElem_mem hlt)
                  have hts2 : te[i] = es[i].map tw := by simp only [HTE.out, List.getElem_map]
                  obtain ⟨s, hs⟩ : ∃ s, s = es[i] := ⟨_, rfl⟩
                  obtain ⟨t, ht⟩ : ∃ t, t = te[i] := ⟨_, rfl⟩
                  rw [← hs] at hx hc3 hC3 hsl hts2
                  rw [← ht] at hc4 hC4 hy hts2
                  have hcall := fun W (hWb : Below wr.heap.size wr W) => stoaref01_Turned.calls (s.length + 1) A4 c4 t A3 c3 s true W (Kd.C_below hC4 hWb) hc4 (Kd.C_below hC3 hWb) hc3 (by rw [hts2]; exact turned_law s (by omega))
                  have HX := Lib.hid hX
                  have HLT := Lib.hid hlt
                  clear hu hog hB hC3 hC4 hs ht hts2 hCW hX
                  go_upto_region 25 with (fail)
                  go_quiet (first | (go_at_call 71; refine (hcall _ (by repeat (first | exact Below.refl _ _ | apply below_drew | apply pw_below_drewN))).mono ?_; rintro e w4 ⟨rfl, ⟨nd, rfl⟩⟩; (try first | exact ⟨rfl, _, World.drewN_drewN _ _ _⟩ | exact ⟨rfl, _, Eq.trans (World.drewN_drewN _ _ _) (congrArg (World.drewN _) (Nat.add_assoc _ _ _))⟩)))
                  go_wp2
                  exact ⟨⟨i + 1, by omega, by go_num, HX.out.below (fun k hk => (pw_below_drewN (Below.refl _ wr) nq).block k hk), hS.drewN nq⟩, by simp [intOf]; omega⟩
                · obtain rfl : i = es.length := by omega
                  go_wp2
                  go_ret
                  exact ⟨rfl, hS⟩
end Go.Proofs.Ytiijkehiphkkiaa.PD
end
section
namespace Go.Proofs.Ytiijkehiphkkiaa.PD
open Go.RowKit Go.Maps Go.Proofs.YtiijkehiphkkiaaW.PrintWords Go.Proofs.YtiijkehiphkkiaaW.PrintLast Go.Proofs.YtiijkehiphkkiaaW.PrintMore
set_option linter.unusedVariables false
set_option linter.unusedSimpArgs false

/-- The marks behind. -/
def tl (i : Nat) : List Int := (List.range i).map fun j => ((192 + j % 7 : Nat) : Int)
theorem tl_length (i : Nat) : (tl i).length = i := by simp [tl]
theorem tl_get (i j : Nat) (h : j < i) : (tl i)[j]'(by rw [tl_length]; exact h) = ((192 + j % 7 : Nat) : Int) := by simp [tl]
theorem mark (i : Nat) (h : i < 64) : (wrap64 (192 + (Int.tmod (i : Int) 7))) % 256 = ((192 + i % 7 : Nat) : Int) := by
  rw [Int.tmod_eq_emod_of_nonneg (by omega), w64 (by omega) (by omega)]
  omega
theorem wide_ev (b : List Int) (hl : b.length ≤ 140737488351232) : Ev (fun k => stoaref01_Wide.f k b) (b ++ tl 64) := by
  have h0 : ∀ n i : Nat, i + n = 64 → Ev (fun k => stoaref01_Wide.l0 k (b ++ tl i) (i : Int)) (b ++ tl 64) := by
    intro n
    induction n with
    | zero =>
      intro i h
      obtain rfl : i = 64 := by omega
      refine Ev.step (fun k => ?_) (Ev.now _)
      rw [stoaref01_Wide.l0, if_neg (by omega)]
    | succ n ih =>
      intro i h
      refine Ev.step (fun k => ?_) (ih (i + 1) (by omega))
      have e : (b ++ tl i) ++ [((192 + i % 7 : Nat) : Int)] = b ++ tl (i + 1) := by
        rw [List.append_assoc]
        congr 1
        simp only [tl, List.range_succ, List.map_append, List.map_cons, List.map_nil]
      rw [stoaref01_Wide.l0, if_pos (by omega), if_pos (by rw [List.length_append, tl_length]; omega), mark i (by omega), e, w64s i (by omega)]
  have h1 := h0 64 0 (by omega)
  rw [show tl 0 = [] from rfl, List.append_nil] at h1
  refine Ev.bind (rd_copy_ev b (by omega)) ?_
  exact h1
theorem intact_ev (b : List Int) (hl : b.length ≤ 140737488351232) : Ev (fun k => stoaref01_Intact.f k (b ++ tl 64) b) true := by
  have hlen : (b ++ tl 64).length = b.length + 64 := by rw [List.length_append, tl_length]
  have h1 : ∀ n i : Nat, i + n = 64 → Ev (fun k => stoaref01_Intact.l1 k (b ++ tl 64) b (i : Int)) true := by
    intro n
    induction n with
    | zero =>
      intro i h
      refine Ev.step (fun k => ?_) (Ev.now _)
      rw [stoaref01_Intact.l1, if_neg (by omega)]
    | succ n ih =>
      intro i h
      refine Ev.step (fun k => ?_) (ih (i + 1) (by omega))
      have e : wrap64 ((b.length : Int) + (i : Int)) = ((b.length + i : Nat) : Int) := by rw [w64 (by omega) (by omega)]; omega
      have e2 : rd (b ++ tl 64) ((b.length + i : Nat) : Int) = ((192 + i % 7 : Nat) : Int) := by
        rw [rd_at (by omega), List.getElem_append_right (by omega)]
        simp only [Nat.add_sub_cancel_left]
        exact tl_get 64 i (by omega)
      rw [stoaref01_Intact.l1, if_pos (by omega), e, if_pos (by omega), if_pos (by rw [hlen]; omega), e2, mark i (by omega), if_pos rfl, w64s i (by omega)]
  have h0 : ∀ n i : Nat, i + n = b.length → Ev (fun k => stoaref01_Intact.l0 k (b ++ tl 64) b (i : Int)) true := by
    intro n
    induction n with
    | zero =>
      intro i h
      refine Ev.step (fun k => ?_) (h1 64 0 (by omega))
      rw [stoaref01_Intact.l0, if_neg (by omega)]
      rfl
    | succ n ih =>
      intro i h
      have hi : i < b.length := by omega
      refine Ev.step (fun k => ?_) (ih (i + 1) (by omega))
      rw [stoaref01_Intact.l0, if_pos (by omega), if_pos (by omega), if_pos (by rw [hlen]; omega), rd_at (xs := b ++ tl 64) (by omega), rd_at hi, List.getElem_append_left hi, if_pos rfl, w64s i (by omega)]
  refine Ev.same (fun k => ?_) (h0 b.length 0 (by omega))
  unfold stoaref01_Intact.f
  rw [w64 (by omega) (by omega), if_pos (by rw [hlen]; omega)]
  rfl
theorem dec_small {b : List Int} (hb : Bys b) : (decS b).1.length ≤ 4096 ∧ ∀ s ∈ (decS b).1, s.length ≤ 200 := by
  by_cases h : (decS b).2 = 0
  · have he := enc_dec hb h
    have h0 : (idx (decS b).1).2.2 = 0 := by
      refine Classical.byContradiction fun hc => ?_
      unfold encS at he
      rw [if_neg hc] at he
      simp only [Prod.mk.injEq] at he
      exact hc he.2
    obtain ⟨h1, h2, _⟩ := idx_ok h0
    exact ⟨h1, h2⟩
  · rw [dec_err h]
    exact ⟨by simp, fun s hs => by simp at hs⟩

set_option maxHeartbeats 4000000 in
set_option maxRecDepth 100000 in
theorem ddecodes_any (A : Option Addr) (c : Nat) (b : List Int) (w : World) (hr : Kd.C (Kd.int .u8) w A b.length b) (hc : b.length ≤ c) (hb : Bys b) (hl : b.length ≤ 140737488351232) :
    Calls Try.prog 9 #[.slice A b.length c] w fun e w' => e = .returned (.bool true) ∧ Hold w.heap.size w w' := by
  obtain ⟨kw, hkw⟩ := (wide_ev b hl).ex
  obtain ⟨kd, hkd⟩ := (rdec_law hb (by omega)).ex
  obtain ⟨kn, hkn⟩ := (intact_ev b hl).ex
  obtain ⟨hs1, hs2⟩ := dec_small hb
  obtain ⟨es, hes⟩ : ∃ es, es = (decS b).1 := ⟨_, rfl⟩
  obtain ⟨er, her⟩ : ∃ er, er = (decS b).2 := ⟨_, rfl⟩
  have hdec : decS b = (es, er) := by rw [hes, her]
  rw [← hes] at hs1 hs2
  rw [hdec] at hkd
  have HI := Lib.hid hdec; have HB := Lib.hid hb
  clear hes her hdec hb
  have hwl : (b ++ tl 64).length = b.length + 64 := by rw [List.length_append, tl_length]
  have HWL := Lib.hid hwl
  clear hwl
  obtain ⟨wh, hwh⟩ : ∃ wh, wh = b ++ tl 64 := ⟨_, rfl⟩
  have htk : wh.take b.length = b := by rw [hwh, List.take_left]
  rw [← hwh] at hkw hkn HWL
  have HTK := Lib.hid htk
  clear hwh htk
  go_enter Try.func9, Try.ntmps9
  go_upto_region 4 with (first
    | (go_at_call 31; refine (alive_any _).mono ?_; rintro e w1 ⟨rfl, hb1⟩)
    | (go_at_call 41; refine (stoaref01_Wide.calls kw A c b wh _ (Kd.C_below hr hb1) hc hkw).mono ?_; rintro e w2 ⟨v3, rfl, hR3, hb2⟩; obtain ⟨A3, c3, rfl, hc3, hC3⟩ := Kd.R_reads hR3; have hB2 := below_then hb1 hb1.size hb2))
  obtain ⟨i5, hi5, hz0, hz1, hz2⟩ := info_parts info5
  have hwl := HWL.out
  have hcut := cut_to (P := Try.prog) 55 5 .i64 Try.underlying55 hi5 A3 wh.length c3 (b.length : Int) (by omega) (by omega) hc3
  rw [Int.toNat_natCast] at hcut
  have hCb := Kd.C_take (m := b.length) hC3 (by omega)
  rw [HTK.out] at hCb
  have hcb : b.length ≤ c3 := by omega
  have hcall := ddecode_any A3 c3 b w2 hCb hcb HB.out (by omega)
  rw [HI.out] at hcall
  clear hwl hi5 hz0 hz1 hz2 hCb hkw
  go_upto_region 6 with (first
    | (go_at_call 42; refine hcall.mono ?_; rintro e w3 ⟨v4, rfl, hb3, hE⟩; have hB3 := below_then hB2 hB2.size hb3)
    | (go_at_call 43; refine (stoaref10_Decode.calls kd A c b es er _ (Kd.C_below hr hB3) hc hkd).mono ?_; rintro e w4 ⟨v6, rfl, hS6, hb4⟩; obtain ⟨A6, c6, rfl, hc6, hC6⟩ := Kd.S_reads hS6; have hB4 := below_then hB3 hB3.size hb4))
  have B24 := below_then hb3 hb3.size hb4
  obtain ⟨vs, ogs, hX3⟩ := EntX.of hE
  have hX4 := hX3.below (fun k hk => hb4.block k hk)
  have hR6 := Kd.R_bound (Kd.S_R hS6)
  have hW : ∀ w', Side w2.heap.size w3.heap.size w4 w' → Kd.C (Kd.slice 5 (Kd.int .u8)) w' A6 es.length es := fun w' hs => (Kd.R_reads' (Kd.R_step hR6 (fun k hk hl => hs.block k hl (.inr hk.2.1)))).2.2
  have hcall2 := apartall_any w2.heap.size w3.heap.size v4 vs ogs es A6 c6 w4 hX4 hW hc6 hs1 hs2
  clear hX3 hX4 hW hR6 hS6 hC6 hE hkd hR3 hcall hcut
  go_wp2_with (first
    | (go_at_call 37; refine hcall2.mono ?_; rintro e w7 ⟨rfl, hS7⟩; have hH7 := (Hold.of_below hB4).trans (hS7.hold.mono hB2.size))
    | (go_at_call 44; refine (stoaref01_Intact.calls kn A3 c3 wh A c b true _ (C_hold hC3 ((Hold.of_below B24).trans hS7.hold)) hc3 (C_hold hr hH7) hc hkn).mono ?_; rintro e w8 ⟨rfl, hD8⟩))
  go_ret
  exact ⟨rfl, hH7.trans (Hold.of_below (hD8.below.mono hH7.size))⟩
end Go.Proofs.Ytiijkehiphkkiaa.PD
end
section
namespace Go.Proofs.Ytiijkehiphkkiaa
open Go.ChangeShapes Go.WideShapes Go.ChangeAt Go.RowKit Go.Proofs.YtiijkehiphkkiaaW.PrintWords PD

namespace Decodes
theorem own : ownKnob Try.prog.godebug = none := by kernel_rfl
theorem laidOut : laidOutB Try.prog = true := by kernel_rfl

set_option maxRecDepth 100000 in
theorem lifted (os : Os) (started : os.Started) (H : Type) (enc : TypeId × Value → H) :
    ReturnsInHanded {} Try.checked os 9 .any (Rows.dictDecodesSpec.pre6 enc Try.prog Try.f9 Rows.dictDecodesRow.domain false) (Rows.dictDecodesSpec.post enc Try.prog Try.f9 false true false false) := by
  refine returnsInHanded_of_change_sized (C := Try.checked) own started (by kernel_rfl) Try.func9
    (ChangeSpec.witness6 (enc := enc) (C := Try.checked) false ⟨#[], #[.slice none 0 0], []⟩ 8 (by kernel_rfl) (by kernel_rfl) (by kernel_rfl) (by kernel_rfl)) ?_
  intro W base args ds gs before hval0 hW hcnd hsz0 _
  have hsz : (DataW.weightsEach Try.prog (Try.f9.params.toList ++ Rows.dictDecodesSpec.plain.varTypes Try.prog) (ds ++ gs)).all (· ≤ reachBytes) = true := hsz0
  have hval : ∀ (j : Nat) t v, Try.f9.params[j]? = some t → args[j]? = some v → Value.okWide Try.prog W .any base t v := hval0
  have hW' := hW
  obtain ⟨p, q, hA0, hV, rfl, hfz, hnd⟩ := hW
  have hA : DataW.TrodAll enc Try.prog W 0 (fun _ => true) true Try.f9.params.toList args.toList ds p := hA0
  rw [Try.params9] at hA hval hsz
  obtain ⟨v0, d0, rfl, rfl, h0⟩ := trodAll_one hA
  obtain ⟨rfl, rfl⟩ := trodVars_none hV
  obtain ⟨a0, len0, cap0, rfl⟩ := okWide_slice Try.underlying55 (hval 0 55 v0 rfl rfl)
  have k0 := h0
  have lt0 : ∀ x ∈ p, x.block < W.heap.size := by obtain ⟨m, hm⟩ := k0; exact DataW.trod_lt m _ _ _ hm
  have z0 := sized_ints hsz (j := 0) rfl rfl Try.underlying55 Try.underlying5 (by kernel_rfl) (B := 1) (by kernel_rfl) h0
  obtain ⟨b, rfl, c0, C0, B0⟩ := open_bytes h0
  clear hA0 hval0 hsz0 hsz
  refine (ddecodes_any a0 cap0 b W C0 c0 B0 (by omega)).mono fun e W' ⟨he, bel⟩ => ?_
  subst he
  exact ⟨_, rfl, _, _, _, [], _, [], hW', trodAll_mk1 (shut_bool Try.underlying4 _), trodAll_mk1 (Hold.trod laidOut (by kernel_rfl) (of_decide_eq_true (by kernel_rfl)) k0 bel lt0), rfl, bel.frame _, fun h => by cases h⟩

end Decodes

theorem dictDecodes_holds : Rows.DictDecodesSaid :=
  OpenClaim.holds_of_wide 9 Try.f9 rfl rfl rfl rfl rfl rfl rfl ⟨rfl, rfl, rfl, rfl, rfl⟩ rfl rfl rfl rfl rfl (by kernel_rfl) Try.func9 (by kernel_rfl)
    (of_decide_eq_true (by kernel_rfl)) (by unfold Func.isWrapper; first | (rw [if_pos (by decide +kernel)]; kernel_rfl) | (rw [if_neg (by decide +kernel)]; exact ⟨rfl, rfl⟩))
    (fun os started H enc _ => Decodes.lifted os started H enc)

#print axioms dictDecodes_holds

end Go.Proofs.Ytiijkehiphkkiaa
end
