/-
  DictEncodes: for all texts the law returns true, and the argument reads as it did. No condition.
-/
import Derived.Test.YtiijkehiphkkiaaRows
import Derived.Test.YtiijkehiphkkiaaD0
import Derived.Test.YtiijkehiphkkiaaKd
import Derived.WalkKit
import Derived.ProofKit
import Derived.OpenShut
import Derived.SizedLaws
import Derived.Deep.Matrix
import Derived.Test.YtiijkehiphkkiaaKs
import Derived.Carry
import Derived.Test.YtiijkehiphkkiaaKt
import Derived.Test.YtiijkehiphkkiaaKl
import Derived.Test.YtiijkehiphkkiaaKqe
import Derived.Test.YtiijkehiphkkiaaKf
import Derived.Test.YtiijkehiphkkiaaKa
import Derived.Test.YtiijkehiphkkiaaKh
import Derived.Test.YtiijkehiphkkiaaKw
import Derived.ChangeOld
section
namespace Go.Proofs.Ytiijkehiphkkiaa.PD
open Go.ChangeShapes Go.WideShapes Go.ChangeAt Go.RowKit Go.Deep Go.Proofs.YtiijkehiphkkiaaW.PrintWords
set_option linter.unusedVariables false
set_option linter.unusedSimpArgs false

theorem wf_byte {n : Int} (h : (Lit.int .u8 n).wf = true) : 0 ≤ n ∧ n < 256 := by
  simp only [Lit.wf, IntKind.min, IntKind.max, IntKind.signed, IntKind.bits, Bool.and_eq_true, decide_eq_true_eq] at h
  simp at h
  omega
theorem row_of_cells {W : World} {A : Option Addr} {L C : Nat} {zs : List Int} (hL : L ≤ C) (hC : C ≤ maxLen) (hz : zs.length = C) (hn : A = none → C = 0) (hc : ∀ a, A = some a → ∀ c, c < C → W.cell? (a.add c) = some (.int .u8 (zs.getD c 0))) :
    Kd.C (Kd.int .u8) W A (zs.take L).length (zs.take L) := by
  have hl : (zs.take L).length = L := by rw [List.length_take]; omega
  refine Kd.C_of_reads (d := 0) ⟨rfl, by rw [hl]; unfold maxLen at hC; omega, fun hp => ?_⟩
  rw [hl] at hp
  rcases A with _ | a
  · have := hn rfl
    omega
  · refine ⟨a, rfl, fun j hj => ?_⟩
    rw [hl] at hj
    rw [hc a rfl j (by omega)]
    simp [List.getD_eq_getElem?_getD, List.getElem?_take, hj]

theorem open_texts {H : Type} {enc : TypeId × Value → H} {W : World} {p : Option Addr} {len cap : Nat} {d : DataW H} {ps : List MemPlace} (h : DataW.Trod enc Try.prog W 0 (fun _ => true) true 45 (.slice p len cap) d ps) :
    ∃ ss : List (List Int), ss.length = len ∧ ss.length ≤ cap ∧ Kd.C (Kd.slice 5 (Kd.int .u8)) W p ss.length ss ∧ ∀ s ∈ ss, Bys s := by
  obtain ⟨fuel, hf⟩ := h
  rcases open_int_rows Try.underlying45 Try.underlying55 Try.underlying5 (by kernel_rfl) (by kernel_rfl) hf with ⟨hcs, _⟩ | ⟨a, l, c, A, L, C, Z, hcs, _, hl, hm, hx, hr⟩
  · simp [Value.cells] at hcs
    obtain ⟨rfl, rfl, rfl⟩ := hcs
    exact ⟨[], rfl, Nat.le_refl _, Kd.C_nil _ _, fun s hs => by simp at hs⟩
  · simp [Value.cells] at hcs
    obtain ⟨rfl, rfl, rfl⟩ := hcs
    have hll : ((List.range len).map fun r => (Z r).take (L r)).length = len := by simp
    refine ⟨(List.range len).map fun r => (Z r).take (L r), hll, by omega, ⟨rfl, by rw [hll]; unfold maxLen at hm; omega, fun _ => ⟨a, rfl, fun j s hj => ?_⟩⟩, fun s hs => ?_⟩
    · obtain ⟨hjl, rfl⟩ := List.getElem?_eq_some_iff.1 hj
      rw [hll] at hjl
      obtain ⟨h1, h2, h3, h4, h5, h6, h7⟩ := hr j (by omega)
      simp only [List.getElem_map, List.getElem_range]
      have hrow := row_of_cells h2 h3 h4 h6 (fun a' ha' => (h7 a' ha').2) (W := W)
      have hLz : ((Z j).take (L j)).length = L j := by rw [List.length_take]; omega
      refine ⟨[.slice (A j) (L j) (C j)], rfl, ⟨A j, C j, by rw [hLz], by rw [hLz]; exact h2, hrow⟩, fun i u hu => ?_⟩
      cases i with
      | zero =>
        simp at hu
        subst hu
        rw [show j * (Kd.slice 5 (Kd.int .u8)).sz + 0 = j from by show j * 1 + 0 = j; omega]
        exact h1
      | succ i => simp at hu
    · obtain ⟨r, hr', rfl⟩ := List.mem_map.1 hs
      rw [List.mem_range] at hr'
      obtain ⟨h1, h2, h3, h4, h5, h6, h7⟩ := hr r (by omega)
      intro x hx
      exact wf_byte (h5 x (List.mem_of_mem_take hx))
theorem open_bytes {H : Type} {enc : TypeId × Value → H} {W : World} {p : Option Addr} {len cap : Nat} {d : DataW H} {ps : List MemPlace} (h : DataW.Trod enc Try.prog W 0 (fun _ => true) true 55 (.slice p len cap) d ps) :
    ∃ b : List Int, b.length = len ∧ b.length ≤ cap ∧ Kd.C (Kd.int .u8) W p b.length b ∧ Bys b := by
  obtain ⟨fuel, hf⟩ := h
  rcases open_ints Try.underlying55 Try.underlying5 (by kernel_rfl) hf with ⟨hcs, _⟩ | ⟨a, l, c, zs, hcs, _, hl, hm, hz, hx, hc, hw⟩
  · simp [Value.cells] at hcs
    obtain ⟨rfl, rfl, rfl⟩ := hcs
    exact ⟨[], rfl, Nat.le_refl _, Kd.C_nil _ _, fun s hs => by simp at hs⟩
  · simp [Value.cells] at hcs
    obtain ⟨rfl, rfl, rfl⟩ := hcs
    simp only [if_true] at hz
    refine ⟨zs.take len, by rw [List.length_take]; omega, by rw [List.length_take]; omega, row_of_cells hl hm hz (fun h => by cases h) (fun a' ha' c hc' => ?_), fun x hx => wf_byte (hw x (List.mem_of_mem_take hx))⟩
    injection ha' with ha'
    subst ha'
    exact hc c (by omega)
end Go.Proofs.Ytiijkehiphkkiaa.PD
end
section
namespace Go.Proofs.Ytiijkehiphkkiaa.PD
open Go.ChangeShapes Go.WideShapes Go.ChangeAt Go.RowKit Go.Deep Go.Proofs.YtiijkehiphkkiaaW.PrintWords
set_option linter.unusedVariables false
set_option linter.unusedSimpArgs false

theorem mem_weightsAll {H : Type} {P : Program} {e : TypeId} {x : DataW H} {n : Nat} : ∀ {l : List (DataW H)}, x ∈ l → n ∈ x.weights P e → n ∈ DataW.weightsAll P e l
  | y :: l, hx, hn => by
    rw [DataW.weightsAll]
    rcases List.mem_cons.1 hx with rfl | hx
    · exact List.mem_append_left _ hn
    · exact List.mem_append_right _ (mem_weightsAll hx hn)
  | [], hx, _ => by simp at hx
theorem open_texts_sized {H : Type} {enc : TypeId × Value → H} {W : World} {p : Option Addr} {len cap : Nat} {d : DataW H} {ps : List MemPlace} {ts : List TypeId} {ds : List (DataW H)} {j : Nat} (hsz : (DataW.weightsEach Try.prog ts ds).all (· ≤ reachBytes) = true) (ht : ts[j]? = some 45) (hd : ds[j]? = some d) (h : DataW.Trod enc Try.prog W 0 (fun _ => true) true 45 (.slice p len cap) d ps) :
    ∃ ss : List (List Int), ss.length = len ∧ ss.length ≤ cap ∧ Kd.C (Kd.slice 5 (Kd.int .u8)) W p ss.length ss ∧ (∀ s ∈ ss, Bys s) ∧ ss.length ≤ 5864062014805 ∧ ∀ s ∈ ss, s.length ≤ 140737488355328 := by
  obtain ⟨fuel, hf⟩ := h
  rcases open_int_rows Try.underlying45 Try.underlying55 Try.underlying5 (by kernel_rfl) (by kernel_rfl) hf with ⟨hcs, _⟩ | ⟨a, l, c, A, L, C, Z, hcs, _, hl, hm, hx, hr⟩
  · simp [Value.cells] at hcs
    obtain ⟨rfl, rfl, rfl⟩ := hcs
    exact ⟨[], rfl, Nat.le_refl _, Kd.C_nil _ _, (fun s hs => by simp at hs), by simp, fun s hs => by simp at hs⟩
  · simp [Value.cells] at hcs
    obtain ⟨rfl, rfl, rfl⟩ := hcs
    obtain ⟨hx, _⟩ := Prod.mk.inj hx
    subst hx
    have hrb : reachBytes ≤ 140737488351232 := by decide
    have z1 := sized_slice hsz ht hd Try.underlying45
    rw [show Try.prog.bytesOf 55 = 24 from by kernel_rfl] at z1
    simp only [List.length_map, List.length_range] at z1
    have hll : ((List.range len).map fun r => (Z r).take (L r)).length = len := by simp
    refine ⟨(List.range len).map fun r => (Z r).take (L r), hll, by omega, ⟨rfl, by rw [hll]; unfold maxLen at hm; omega, fun _ => ⟨a, rfl, fun j s hj => ?_⟩⟩, fun s hs => ?_, by omega, fun s hs => ?_⟩
    · obtain ⟨hjl, rfl⟩ := List.getElem?_eq_some_iff.1 hj
      rw [hll] at hjl
      obtain ⟨h1, h2, h3, h4, h5, h6, h7⟩ := hr j (by omega)
      simp only [List.getElem_map, List.getElem_range]
      have hrow := row_of_cells h2 h3 h4 h6 (fun a' ha' => (h7 a' ha').2) (W := W)
      have hLz : ((Z j).take (L j)).length = L j := by rw [List.length_take]; omega
      refine ⟨[.slice (A j) (L j) (C j)], rfl, ⟨A j, C j, by rw [hLz], by rw [hLz]; exact h2, hrow⟩, fun i u hu => ?_⟩
      cases i with
      | zero =>
        simp at hu
        subst hu
        rw [show j * (Kd.slice 5 (Kd.int .u8)).sz + 0 = j from by show j * 1 + 0 = j; omega]
        exact h1
      | succ i => simp at hu
    · obtain ⟨r, hr', rfl⟩ := List.mem_map.1 hs
      rw [List.mem_range] at hr'
      obtain ⟨h1, h2, h3, h4, h5, h6, h7⟩ := hr r (by omega)
      intro x hx
      exact wf_byte (h5 x (List.mem_of_mem_take hx))
    · obtain ⟨r, hr', rfl⟩ := List.mem_map.1 hs
      rw [List.mem_range] at hr'
      obtain ⟨h1, h2, h3, h4, h5, h6, h7⟩ := hr r (by omega)
      have hlt : ((Z r).take (L r)).length ≤ L r := by rw [List.length_take]; omega
      cases hA : A r with
      | none => have := h6 hA; omega
      | some a' =>
        have hw : ((Z r).take (L r)).length + ((Z r).drop (L r)).length ∈ DataW.weights Try.prog 45 (DataW.slice ((List.range len).map fun r => intRow (H := H) .u8 (A r) (L r) (Z r)) ((List.range (cap - len)).map fun j => intRow .u8 (A (len + j)) (L (len + j)) (Z (len + j)))) := by
          rw [DataW.weights, Try.underlying45]
          refine List.mem_cons_of_mem _ (List.mem_append_left _ (mem_weightsAll (x := intRow .u8 (A r) (L r) (Z r)) (List.mem_map.2 ⟨r, List.mem_range.2 hr', rfl⟩) ?_))
          rw [hA]
          simp only [intRow]
          rw [DataW.weights, Try.underlying55]
          refine List.mem_cons.2 (.inl ?_)
          rw [show Try.prog.bytesOf 5 = 1 from by kernel_rfl]
          simp [lits]
        have := List.all_eq_true.1 hsz _ (DataW.weights_mem_each ht hd _ hw)
        simp only [decide_eq_true_eq] at this
        omega

theorem Hold.same {W w' : World} (h : Hold W.heap.size W w') {p : MemPlace} (hp : p.block < W.heap.size) : W.sameAt w' p := by
  cases p with
  | cell b o => exact World.cell?_of_block (w := W) (h.block b hp hp)
  | map b => exact h.block b hp hp
theorem Hold.frame {W w' : World} (h : Hold W.heap.size W w') (may : MemPlace → Prop) : W.keptBut w' may := by
  refine ⟨h.os, h.output, fun i hi => ?_⟩
  rw [h.block i hi hi]
  split <;> simp_all
theorem Hold.trod {H : Type} {enc : TypeId × Value → H} {P : Program} {t : TypeId} (hl : laidOutB P = true) (hr : P.readableRec t = true) (hrow : t < P.types.size) {W W' : World} {v : Value} {d : DataW H} {ps : List MemPlace}
    (h : DataW.Trod enc P W 0 (fun _ => true) true t v d ps) (hb : Hold W.heap.size W W') (hlt : ∀ x ∈ ps, x.block < W.heap.size) :
    DataW.Trod enc P W' 0 (fun b => decide (b < W.heap.size)) true t v d ps :=
  WideElems.Trod_stays hl hr hrow h (fun x hx => hb.same (hlt x hx)) (fun x hx => by simpa using hlt x hx)
end Go.Proofs.Ytiijkehiphkkiaa.PD
end
section
namespace Go.Proofs.Ytiijkehiphkkiaa.PD
open Go.RowKit Go.Maps Go.Proofs.YtiijkehiphkkiaaW.PrintWords Go.Proofs.YtiijkehiphkkiaaW.PrintLast Go.Proofs.YtiijkehiphkkiaaW.PrintMore
set_option linter.unusedVariables false
set_option linter.unusedSimpArgs false

theorem Byt.side {w w' : World} {base B : Nat} {og : Option Nat} {u : Value} {xs : List Int} (h : Byt w base og u xs) (hlow : ∀ g, og = some g → g < B) (hos : w'.os = w.os) (hout : w'.output = w.output) (hsz : w.heap.size ≤ w'.heap.size) (hk : ∀ k, k < w.heap.size → og ≠ some k → w'.heap[k]? = w.heap[k]?) : Side base B w w' :=
  ⟨hos, hout, hsz, fun k hk' hs => hk k hk' (fun e => by
    have h1 := hlow k e
    have h2 := h.base_le k e
    omega)⟩
theorem Byt.upon {w w' : World} {base B : Nat} {og : Option Nat} {u : Value} {xs : List Int} (h : Byt w base og u xs) (hlow : ∀ g, og = some g → g < B) {ao : Option Addr} {b cap : Nat} (hcap : 0 < cap → og = some b) {v9 : Value} {m : Nat} {ks : List Value} {r : Nat}
    (hU : Upon w 5 1 ao b 0 xs.length cap (nums .u8 xs) w' v9 m ks r) : Byt w' base og u xs ∧ Side base B w w' := by
  have hm : ∀ g j, og = some g → j < xs.length → ¬ (∃ j', j' < r ∧ MemPlace.cell g j = .cell b (0 + xs.length * 1 + j')) := by
    rintro g j hg hj ⟨j', _, e⟩
    injection e with e1 e2
    omega
  refine ⟨h.kept hU.kept hm, h.side hlow hU.kept.1 hU.kept.2.1 hU.kept.size (fun k hk hne => ?_)⟩
  refine hU.kept.block hk ?_
  rintro p ⟨j, hj, rfl⟩ e
  have e : b = k := e
  exact hne (by rw [hcap (hU.capPos hj), e])

set_option maxHeartbeats 4000000 in
set_option maxRecDepth 100000 in
theorem apart_any (base B : Nat) (og : Option Nat) (va : Value) (xs : List Int) (Ay Aw : Option Addr) (cy cw : Nat) (w : World) (hA : Byt w base og va xs) (hlow : ∀ g, og = some g → g < B)
    (hY : ∀ w', Side base B w w' → Kd.C (Kd.int .u8) w' Ay xs.length xs) (hcy : xs.length ≤ cy) (hWt : ∀ w', Side base B w w' → Kd.C (Kd.int .u8) w' Aw xs.length xs) (hcw : xs.length ≤ cw) (hl : xs.length ≤ 1000000) :
    Calls Try.prog 40 #[va, .slice Ay xs.length cy, .slice Aw xs.length cw] w fun e w' => e = .returned (.bool true) ∧ Side base B w w' := by
  obtain ⟨A0, c0, rfl, hc0, hC0⟩ := hA.reads
  have hsm : stoaref01_Same.f (xs.length + 1) xs xs = some true := by rw [same_law xs xs (by omega) _ (Nat.le_refl _)]; simp
  have htu := turned_law xs (by omega)
  have HA := Lib.hid hA; have HY := Lib.hid hY; have HWT := Lib.hid hWt; have HLOW := Lib.hid hlow
  have hcall2 := fun W (hWb : Side base B w W) => stoaref01_Same.calls (xs.length + 1) Ay cy xs Aw cw xs true W (hY W hWb) hcy (hWt W hWb) hcw hsm
  have hBl : Below w.heap.size w w := Below.refl _ _
  clear hA hY hWt hlow
  go_enter Try.func40, Try.ntmps40
  go_upto_region 3 with (first
    | (go_at_call 45; refine (stoaref01_Same.calls (xs.length + 1) _ _ xs Aw cw xs true _ ?s0 ?s1 ?s2 hcw hsm).mono ?_; (case s0 => first | exact Kd.C_below hC0 hBl | exact HY.out _ (Side.of_below hBl)); (case s1 => first | exact hc0 | exact hcy); (case s2 => exact HWT.out _ (Side.of_below hBl)); rintro e w2 ⟨rfl, hD⟩; replace hBl := below_then hBl hBl.size hD.below; clear hD))
  have hb2 := hBl
  have hA2 := HA.out.keep (fun g hg => hb2.block g (HA.out.lt g hg))
  go_upto_region 4 with (first
    | (go_at_call 70; refine (spoil_any base og _ xs w2 hA2 (by omega)).mono ?_; rintro e w3 ⟨rfl, hB3, hg3⟩))
  have S3 := (Side.of_below (base := base) (B := B) hb2).trans (hA2.side HLOW.out hg3.os hg3.output hg3.size (fun k hk hne => hg3.block k hk (fun e => hne e.symm)))
  obtain ⟨ts, hts⟩ : ∃ ts, ts = xs.map tw := ⟨_, rfl⟩
  have htl : ts.length = xs.length := by rw [hts, List.length_map]
  rw [← hts] at hB3 htu
  obtain ⟨ao, b, cap, hv, hCame, hcap, hcb⟩ := hB3.came
  rw [htl] at hv hCame
  injection hv with hv1 _ hv2
  subst hv1
  subst hv2
  have HTL := Lib.hid htl
  have HB3 := Lib.hid hB3; have HCB := Lib.hid hcb; have HCA := Lib.hid hCame
  clear hts htl hB3 hcb hCame hg3 hA2 hC0
  go_wp2
  go_loopw [7, 8] (fun v9 vk wq => ∃ (k : Nat) (ks : List Value) (r : Nat), k ≤ 70 ∧ vk = .int .i64 k ∧ Upon w3 5 1 A0 b 0 xs.length c0 (nums .u8 ts) wq v9 k ks r) (fun _ vk _ => 70 - (intOf vk).toNat)
  case atStart => exact ⟨0, [], 0, by omega, rfl, Upon.start HCA.out⟩
  case round =>
    obtain ⟨k, ks, r, hk, rfl, hU⟩ := hrel
    by_cases hlk : k < 70
    · obtain ⟨A9, c9, rfl⟩ := hU.shape
      obtain ⟨i0, hi0, hz0, hz1, hz2⟩ := info_parts info5
      have HUP := Lib.hid hU
      clear hU
      go_wp2_with (first | (at_builtin; refine wpList_append_upon _ rfl _ _ 55 55 rfl HCA.out i0 (.int .u8 0) 1 Try.underlying55 hi0 hz0 hz1 hz2 rfl rfl (HUP.out.alloc HCA.out _) _ 1 [.int .u8 (k : Int)] rfl (Src.ofSlice _ Try.underlying55 _ 1 1 _ rfl (cell_one_new _ _ _) (by simp [Value.oneCell'])) (by unfold maxLen; omega) (by omega) ?_; intro v' w5 hU5))
      exact ⟨⟨k + 1, _, _, by omega, by go_num, hU5⟩, by simp [intOf]; omega⟩
    · obtain rfl : k = 70 := by omega
      have hU := hU
      rw [← HTL.out] at hU
      obtain ⟨hB4, S4⟩ := HB3.out.upon HLOW.out HCB.out hU
      rw [HTL.out] at hU
      obtain ⟨A9, c9, rfl⟩ := hU.shape
      have S5 := S3.trans S4
      obtain ⟨A6, c6, hv6, hc6, hC6⟩ := hB4.reads
      rw [HTL.out] at hv6
      injection hv6 with hv6 _ hv7
      subst hv6
      subst hv7
      have hcall3 := stoaref01_Turned.calls (xs.length + 1) A0 c0 ts Aw cw xs true wr hC6 (by have := HTL.out; omega) (HWT.out wr S5) hcw htu
      rw [HTL.out] at hcall3
      clear hU hB4 hC6
      go_wp2_with (first
        | (go_at_call 71; refine hcall3.mono ?_; rintro e w6 ⟨rfl, hD6⟩; have S6 := S5.trans (Side.of_below hD6.below))
        | (go_at_call 45; refine (hcall2 _ S6).mono ?_; rintro e w7 ⟨rfl, hD7⟩))
      go_ret
      exact ⟨rfl, S6.trans (Side.of_below hD7.below)⟩
end Go.Proofs.Ytiijkehiphkkiaa.PD
end
section
namespace Go.Proofs.Ytiijkehiphkkiaa.PD
open Go.RowKit Go.Maps Go.Proofs.YtiijkehiphkkiaaW.PrintWords Go.Proofs.YtiijkehiphkkiaaW.PrintLast Go.Proofs.YtiijkehiphkkiaaW.PrintMore
set_option linter.unusedVariables false
set_option linter.unusedSimpArgs false

theorem encS_len (ss : List (List Int)) : (encS ss).1.length ≤ 1000000 := by
  by_cases h : (idx ss).2.2 = 0
  · exact encS_short h
  · unfold encS
    rw [if_neg h]
    simp

set_option maxHeartbeats 4000000 in
set_option maxRecDepth 100000 in
theorem dencodes_any (A : Option Addr) (c : Nat) (ss : List (List Int)) (w : World) (hr : Kd.C (Kd.slice 5 (Kd.int .u8)) w A ss.length ss) (hc : ss.length ≤ c) (hb : ∀ s ∈ ss, Bys s) (hl : ss.length ≤ 5864062014805) (hrl : ∀ s ∈ ss, s.length ≤ 140737488355328) :
    Calls Try.prog 8 #[.slice A ss.length c] w fun e w' => e = .returned (.bool true) ∧ Hold w.heap.size w w' := by
  obtain ⟨kc, hkc⟩ := copy10_law ss hl hrl
  obtain ⟨ke, hke⟩ := (renc_law ss).ex
  obtain ⟨k1, hk1⟩ := same10_law ss ss (by omega) (fun s hs => by have := hrl s hs; omega)
  rw [decide_eq_true rfl] at hk1
  have hen := encS_len ss
  have HEN := fun (A : Option Addr) (c : Nat) (w : World) (hr : Kd.C (Kd.slice 5 (Kd.int .u8)) w A ss.length ss) (hc : ss.length ≤ c) => dencode_any A c ss w hr hc hb
  obtain ⟨xs, hxs⟩ : ∃ xs, xs = (encS ss).1 := ⟨_, rfl⟩
  obtain ⟨er, her⟩ : ∃ er, er = (encS ss).2 := ⟨_, rfl⟩
  have hes : encS ss = (xs, er) := by rw [hxs, her]
  rw [← hxs] at hen
  rw [← hxs, ← her] at HEN
  rw [hes] at hke
  clear hxs her hes hb hrl
  go_enter Try.func8, Try.ntmps8
  go_upto_region 7 with (first
    | (go_at_call 31; refine (alive_any _).mono ?_; rintro e w1 ⟨rfl, hb1⟩)
    | (go_at_call 32; refine (stoaref10_Copy.calls kc A c ss ss _ (Kd.C_below hr hb1) hc hkc).mono ?_; rintro e w2 ⟨v3, rfl, hS3, hb2⟩; obtain ⟨A3, c3, rfl, hc3, hC3⟩ := Kd.S_reads hS3; have hB2 := below_then hb1 hb1.size hb2)
    | (go_at_call 38; refine (HEN A3 c3 _ ?c hc3).mono ?_; (case c => with_reducible exact hC3); rintro e w3 ⟨v4, rfl, hb3, hR4⟩; have hB3 := below_then hB2 hB2.size hb3)
    | (go_at_call 38; refine (HEN A3 c3 _ ?c hc3).mono ?_; (case c => exact Kd.C_below hC3 hb3); rintro e w4 ⟨v5, rfl, hb4, hR5⟩; have hB4 := below_then hB3 hB3.size hb4)
    | (go_at_call 39; refine (stoaref10_Encode.calls ke A c ss xs er _ (Kd.C_below hr hB4) hc hke).mono ?_; rintro e w5 ⟨v6, rfl, hR6, hb5⟩; have hB5 := below_then hB4 hB4.size hb5))
  have B35 := below_then hb4 hb4.size hb5
  have B25 := below_then hb3 hb3.size B35
  obtain ⟨A5, c5, rfl, hc5, hC5⟩ := Kd.R_reads hR5
  obtain ⟨A6, c6, rfl, hc6, hC6⟩ := Kd.R_reads hR6
  have hX := Byt.of_own (Kd.own_of_R hR4)
  have hlow := hX.lt
  have hX5 := hX.keep (fun g hg => B35.block g (hlow g hg))
  have hR5' := Kd.R_bound (Kd.R_below hR5 hb5)
  have hR6' := Kd.R_bound hR6
  have hY : ∀ w', Side w2.heap.size w3.heap.size w5 w' → Kd.C (Kd.int .u8) w' A5 xs.length xs := fun w' hs => (Kd.R_reads' (Kd.R_step hR5' (fun k hk hl => hs.block k hl (.inr hk.2.1)))).2.2
  have hW : ∀ w', Side w2.heap.size w3.heap.size w5 w' → Kd.C (Kd.int .u8) w' A6 xs.length xs := fun w' hs => (Kd.R_reads' (Kd.R_step hR6' (fun k hk hl => hs.block k hl (.inr (Nat.le_trans hb4.size hk.2.1))))).2.2
  have hcall := apart_any w2.heap.size w3.heap.size _ v4 xs A5 A6 c5 c6 w5 hX5 hlow hY hc5 hW hc6 hen
  clear hX hX5 hlow hR5' hR6' hY hW hC5 hC6 hR4 hR5 hR6 hS3 hke hkc HEN
  go_wp2_with (first
    | (go_at_call 40; refine hcall.mono ?_; rintro e w7 ⟨rfl, hS7⟩; have hH7 := (Hold.of_below hB5).trans (hS7.hold.mono hB2.size))
    | (go_at_call 36; refine (stoaref10_Same.calls k1 A3 c3 ss A c ss true _ (C_hold2 hC3 ((Hold.of_below B25).trans hS7.hold)) hc3 (C_hold2 hr hH7) hc hk1).mono ?_; rintro e w8 ⟨rfl, hD8⟩))
  go_ret
  exact ⟨rfl, hH7.trans (Hold.of_below (hD8.below.mono hH7.size))⟩
end Go.Proofs.Ytiijkehiphkkiaa.PD
end
section
namespace Go.Proofs.Ytiijkehiphkkiaa
open Go.ChangeShapes Go.WideShapes Go.ChangeAt Go.RowKit Go.Proofs.YtiijkehiphkkiaaW.PrintWords PD

namespace Encodes
theorem own : ownKnob Try.prog.godebug = none := by kernel_rfl
theorem laidOut : laidOutB Try.prog = true := by kernel_rfl

set_option maxRecDepth 100000 in
theorem lifted (os : Os) (started : os.Started) (H : Type) (enc : TypeId × Value → H) :
    ReturnsInHanded {} Try.checked os 8 .any (Rows.dictEncodesSpec.pre6 enc Try.prog Try.f8 Rows.dictEncodesRow.domain false) (Rows.dictEncodesSpec.post enc Try.prog Try.f8 false true false false) := by
  refine returnsInHanded_of_change_sized (C := Try.checked) own started (by kernel_rfl) Try.func8
    (ChangeSpec.witness6 (enc := enc) (C := Try.checked) false ⟨#[], #[.slice none 0 0], []⟩ 8 (by kernel_rfl) (by kernel_rfl) (by kernel_rfl) (by kernel_rfl)) ?_
  intro W base args ds gs before hval0 hW hcnd hsz0 _
  have hsz : (DataW.weightsEach Try.prog (Try.f8.params.toList ++ Rows.dictEncodesSpec.plain.varTypes Try.prog) (ds ++ gs)).all (· ≤ reachBytes) = true := hsz0
  have hval : ∀ (j : Nat) t v, Try.f8.params[j]? = some t → args[j]? = some v → Value.okWide Try.prog W .any base t v := hval0
  have hW' := hW
  obtain ⟨p, q, hA0, hV, rfl, hfz, hnd⟩ := hW
  have hA : DataW.TrodAll enc Try.prog W 0 (fun _ => true) true Try.f8.params.toList args.toList ds p := hA0
  rw [Try.params8] at hA hval hsz
  obtain ⟨v0, d0, rfl, rfl, h0⟩ := trodAll_one hA
  obtain ⟨rfl, rfl⟩ := trodVars_none hV
  obtain ⟨a0, len0, cap0, rfl⟩ := okWide_slice Try.underlying45 (hval 0 45 v0 rfl rfl)
  have k0 := h0
  have lt0 : ∀ x ∈ p, x.block < W.heap.size := by obtain ⟨m, hm⟩ := k0; exact DataW.trod_lt m _ _ _ hm
  obtain ⟨ss, rfl, c0, C0, B0, L0, R0⟩ := open_texts_sized hsz (j := 0) rfl rfl h0
  clear hA0 hval0 hsz0 hsz
  refine (dencodes_any a0 cap0 ss W C0 c0 B0 L0 R0).mono fun e W' ⟨he, bel⟩ => ?_
  subst he
  exact ⟨_, rfl, _, _, _, [], _, [], hW', trodAll_mk1 (shut_bool Try.underlying4 _), trodAll_mk1 (Hold.trod laidOut (by kernel_rfl) (of_decide_eq_true (by kernel_rfl)) k0 bel lt0), rfl, bel.frame _, fun h => by cases h⟩

end Encodes

theorem dictEncodes_holds : Rows.DictEncodesSaid :=
  OpenClaim.holds_of_wide 8 Try.f8 rfl rfl rfl rfl rfl rfl rfl ⟨rfl, rfl, rfl, rfl, rfl⟩ rfl rfl rfl rfl rfl (by kernel_rfl) Try.func8 (by kernel_rfl)
    (of_decide_eq_true (by kernel_rfl)) (by unfold Func.isWrapper; first | (rw [if_pos (by decide +kernel)]; kernel_rfl) | (rw [if_neg (by decide +kernel)]; exact ⟨rfl, rfl⟩))
    (fun os started H enc _ => Encodes.lifted os started H enc)

#print axioms dictEncodes_holds

end Go.Proofs.Ytiijkehiphkkiaa
end
