/-
  ApartAll, walked.
-/
import Derived.Test.YtiijkehiphkkiaaKt
namespace Go.Proofs.Ytiijkehiphkkiaa.PD
open Go.RowKit Go.Maps Go.Proofs.YtiijkehiphkkiaaW.PrintWords Go.Proofs.YtiijkehiphkkiaaW.PrintLast Go.Proofs.YtiijkehiphkkiaaW.PrintMore
set_option linter.unusedVariables false
set_option linter.unusedSimpArgs false

/-- Place i of the rows: the cell and the row behind it. -/
theorem EntX.at {w : World} {base B : Nat} {ad : Addr} {n c : Nat} {vs : List Value} {ogs : List (Option Nat)} {es : List (List Int)} (h : EntX w base B (.slice (some ad) n c) vs ogs es) {i : Nat} (hi : i < es.length) :
    ∃ A' c' og, vs[i]? = some (.slice A' es[i].length c') ∧ ogs[i]? = some og ∧ Byt w base og (.slice A' es[i].length c') es[i] ∧ es[i].length ≤ c' ∧ Kd.C (Kd.int .u8) w A' es[i].length es[i] ∧ w.cell? (ad.add i) = some (.slice A' es[i].length c') := by
  obtain ⟨u, og, hu, hog, hB⟩ := h.each i hi
  obtain ⟨A', c', rfl, hc', hC'⟩ := hB.reads
  refine ⟨A', c', og, hu, hog, hB, hc', hC', ?_⟩
  have h1 := h.row
  have hn : n = es.length := by
    rcases h1.2 with ⟨h, _⟩ | ⟨g', cap', cur, h, _⟩
    · cases h
    · injection h
  subst hn
  rcases h1.2 with ⟨h', _⟩ | ⟨g, cap, cur, h', hg, hcur, _⟩
  · cases h'
  · injection h' with h' _ _
    injection h' with h'
    subst h'
    rw [add_plain]
    exact (h1.cellAt (g := g) i (by omega)).trans hu

set_option maxHeartbeats 4000000 in
set_option maxRecDepth 100000 in
theorem apartall_any (base B : Nat) (v : Value) (vs : List Value) (ogs : List (Option Nat)) (es : List (List Int)) (A : Option Addr) (c : Nat) (w : World) (hE : EntX w base B v vs ogs es) (hW : ∀ w', Side base B w w' → Kd.C (Kd.slice 5 (Kd.int .u8)) w' A es.length es) (hc : es.length ≤ c)
    (hn : es.length ≤ 4096) (hes : ∀ s ∈ es, s.length ≤ 200) :
    Calls Try.prog 37 #[v, .slice A es.length c] w fun e w' => e = .returned (.bool true) ∧ Side base B w w' := by
  obtain ⟨A0, c0, rfl, hc0, _⟩ := hE.entB.reads
  go_enter Try.func37, Try.ntmps37
  go_upto_region 3 with (fail)
  go_wp2
  go_loopw [5] (fun vi wq => ∃ i : Nat, i ≤ es.length ∧ vi = .int .i64 i ∧ EntX wq base B (.slice A0 es.length c0) vs ogs es ∧ Side base B w wq) (fun vi _ => es.length - (intOf vi).toNat)
  case atStart => exact ⟨0, by omega, rfl, hE, Side.refl _ _ _⟩
  case round =>
    obtain ⟨i, hi, rfl, hX, hS⟩ := hrel
    by_cases hlt : i < es.length
    · have hCW := hW wr hS
      obtain ⟨ad, A3, c3, rfl, hx, hc3, hC3⟩ := at_L4 hCW (i : Int) (by omega) (by omega)
      rw [rd4_at hlt, Int.toNat_natCast] at hx
      rw [rd4_at hlt] at hc3 hC3
      obtain ⟨ad0, rfl⟩ : ∃ ad0, A0 = some ad0 := by
        rcases hX.row.2 with ⟨h', h2⟩ | ⟨g, cap, cur, h', _⟩
        · omega
        · injection h' with h' _ _; exact ⟨_, h'⟩
      obtain ⟨A4, c4, og, hu, hog, hB, hc4, hC4, hy⟩ := hX.at hlt
      have hsl := hes es[i] (List.getElem_mem hlt)
      obtain ⟨s, hs⟩ : ∃ s, s = es[i] := ⟨_, rfl⟩
      rw [← hs] at hx hc3 hC3 hc4 hC4 hy hsl
      have hcall := fun W (hWb : Below wr.heap.size wr W) => stoaref01_Same.calls (s.length + 1) A4 c4 s A3 c3 s true W (Kd.C_below hC4 hWb) hc4 (Kd.C_below hC3 hWb) hc3 (by rw [same_law s s (by omega) _ (Nat.le_refl _)]; simp)
      have HX := Lib.hid hX
      have HLT := Lib.hid hlt
      clear hu hog hB hC3 hC4 hs hCW hX hE
      go_upto_region 6 with (fail)
      go_quiet (first | (go_at_call 45; refine (hcall _ (by repeat (first | exact Below.refl _ _ | apply below_drew | apply pw_below_drewN))).mono ?_; rintro e w4 ⟨rfl, ⟨nd, rfl⟩⟩; (try first | exact ⟨rfl, _, World.drewN_drewN _ _ _⟩ | exact ⟨rfl, _, Eq.trans (World.drewN_drewN _ _ _) (congrArg (World.drewN _) (Nat.add_assoc _ _ _))⟩)))
      go_wp2
      exact ⟨⟨i + 1, by omega, by go_num, HX.out.below (fun k hk => (pw_below_drewN (Below.refl _ wr) nq).block k hk), hS.drewN nq⟩, by simp [intOf]; omega⟩
    · obtain rfl : i = es.length := by omega
      clear hi hlt
      go_upto_region 8 with (fail)
      go_wp2
      go_loopw [6] (fun vi wq => ∃ i : Nat, i ≤ es.length ∧ vi = .int .i64 i ∧ EntX wq base B (.slice A0 es.length c0) vs ogs (mixE es i) ∧ Side base B w wq) (fun vi _ => es.length - (intOf vi).toNat)
      case atStart => exact ⟨0, by omega, rfl, by rw [mixE_zero]; exact hX, hS⟩
      case round =>
        obtain ⟨i, hi, rfl, hX, hS⟩ := hrel
        by_cases hlt : i < es.length
        · obtain ⟨ad0, rfl⟩ : ∃ ad0, A0 = some ad0 := by
            rcases hX.row.2 with ⟨h', h2⟩ | ⟨g, cap, cur, h', _⟩
            · rw [mixE_length] at h2; omega
            · injection h' with h' _ _; exact ⟨_, h'⟩
          obtain ⟨A4, c4, og, hu, hog, hB, hc4, hC4, hy⟩ := hX.at (i := i) (by rw [mixE_length]; exact hlt)
          rw [mixE_get es i hlt] at hu hB hc4 hC4 hy
          have hsl := hes es[i] (List.getElem_mem hlt)
          obtain ⟨s, hs⟩ : ∃ s, s = es[i] := ⟨_, rfl⟩
          rw [← hs] at hu hB hc4 hC4 hy hsl
          have HX := Lib.hid hX; have HLT := Lib.hid hlt; have HS := Lib.hid hs; have HU := Lib.hid hu; have HOG := Lib.hid hog; have HBY := Lib.hid hB
          clear hu hog hB hC4 hs hX hE
          go_wp2_with (first
            | (go_at_call 70; refine (spoil_any base og _ s _ HBY.out (by omega)).mono ?_; rintro e w4 ⟨rfl, hB4, hg4⟩))
          have hlt := HLT.out
          obtain ⟨k1, k2⟩ := HX.out.upd (by rw [mixE_length]; exact hlt) HU.out HOG.out hB4 hg4.os hg4.output hg4.size (fun k hk hne => hg4.block k hk (fun e => hne e.symm))
          rw [HS.out, mixE_set es i hlt] at k1
          exact ⟨⟨i + 1, by omega, by go_num, k1, hS.trans k2⟩, by simp [intOf]; omega⟩
        · obtain rfl : i = es.length := by omega
          rw [mixE_all] at hX
          clear hi hlt
          obtain ⟨te, hte⟩ : ∃ te, te = es.map (fun s => s.map tw) := ⟨_, rfl⟩
          have htl : te.length = es.length := by rw [hte, List.length_map]
          have hts : ∀ s ∈ te, s.length ≤ 200 := by
            intro s hs
            rw [hte] at hs
            obtain ⟨s', hs', rfl⟩ := List.mem_map.1 hs
            rw [List.length_map]
            exact hes s' hs'
          rw [← hte] at hX
          have HTE := Lib.hid hte; have HTL := Lib.hid htl
          clear hte htl
          go_upto_region 13 with (fail)
          go_wp2
          go_loopw [7, 8] (fun v7 vi wq => ∃ (i m : Nat), i ≤ es.length ∧ vi = .int .i64 i ∧ v7 = .int .i64 m ∧ m ≤ i * 1000000 ∧ EntX wq base B (.slice A0 es.length c0) vs ogs te ∧ Side base B w wq) (fun _ vi _ => es.length - (intOf vi).toNat)
          case atStart => exact ⟨0, 0, by omega, rfl, rfl, by omega, hX, hS⟩
          case round =>
            obtain ⟨i, m, hi, rfl, rfl, hm, hX, hS⟩ := hrel
            by_cases hlt : i < es.length
            · have hlt2 : i < te.length := by have := HTL.out; omega
              obtain ⟨ad0, rfl⟩ : ∃ ad0, A0 = some ad0 := by
                rcases hX.row.2 with ⟨h', h2⟩ | ⟨g, cap, cur, h', _⟩
                · omega
                · injection h' with h' _ _; exact ⟨_, h'⟩
              obtain ⟨A4, c4, og, hu, hog, hB, hc4, hC4, hy⟩ := hX.at hlt2
              have hsl := hts te[i] (List.getElem_mem hlt2)
              obtain ⟨ao, b, cap, hv, hCame, hcap, hcb⟩ := hB.came
              injection hv with hv1 _ hv2
              subst hv1
              subst hv2
              obtain ⟨s, hs⟩ : ∃ s, s = te[i] := ⟨_, rfl⟩
              rw [← hs] at hu hc4 hy hsl hCame
              have HX := Lib.hid hX; have HS := Lib.hid hs; have HU := Lib.hid hu; have HOG := Lib.hid hog; have HCB := Lib.hid hcb; have HCA := Lib.hid hCame
              clear hu hog hB hC4 hs hX hE hcb hCame
              have hn8 : i ≤ 4096 := by omega
              go_upto_region 17 with (fail)
              go_wp2
              go_loopw [9, 10] (fun v9 vk wq => ∃ (k : Nat) (ks : List Value) (r : Nat), k ≤ 70 ∧ vk = .int .i64 k ∧ Upon wr 5 1 A4 b 0 s.length c4 (nums .u8 s) wq v9 k ks r) (fun _ vk _ => 70 - (intOf vk).toNat)
              case atStart => exact ⟨0, [], 0, by omega, rfl, Upon.start HCA.out⟩
              case round =>
                obtain ⟨k, ks, r, hk, rfl, hU⟩ := hrel
                by_cases hlk : k < 70
                · obtain ⟨A9, c9, rfl⟩ := hU.shape
                  obtain ⟨i0, hi0, hz0, hz1, hz2⟩ := info_parts info5
                  have HUP := Lib.hid hU
                  clear hU
                  go_wp2_with (first | (at_builtin; refine wpList_append_upon _ rfl _ _ 55 55 rfl HCA.out i0 (.int .u8 0) 1 Try.underlying55 hi0 hz0 hz1 hz2 rfl rfl (HUP.out.alloc HCA.out _) _ 1 [.int .u8 (((k : Int) + (i : Int)) % 256)] rfl (Src.ofSlice _ Try.underlying55 _ 1 1 _ rfl (cell_one_new _ _ _) (by simp [Value.oneCell'])) (by unfold maxLen; omega) (by omega) ?_; intro v' w5 hU5))
                  exact ⟨⟨k + 1, _, _, by omega, by go_num, hU5⟩, by simp [intOf]; omega⟩
                · obtain rfl : k = 70 := by omega
                  obtain ⟨A9, c9, rfl⟩ := hU.shape
                  have HUP := Lib.hid hU
                  clear hU
                  go_wp2
                  have hU := HUP.out
                  rw [HS.out] at hU
                  obtain ⟨k1, k2⟩ := HX.out.upon hlt2 HU.out HOG.out HCB.out hU
                  exact ⟨⟨i + 1, m + (s.length + 70), by omega, by go_num, by go_num, by omega, k1, hS.trans k2⟩, by simp [intOf]; omega⟩
            · obtain rfl : i = es.length := by omega
              clear hi hlt
              have hm0 : (0 : Int) ≤ (m : Int) := by omega
              go_upto_region 22 with (fail)
              go_wp2
              go_loopw [11] (fun vi wq => ∃ i : Nat, i ≤ es.length ∧ vi = .int .i64 i ∧ EntX wq base B (.slice A0 es.length c0) vs ogs te ∧ Side base B w wq) (fun vi _ => es.length - (intOf vi).toNat)
              case atStart => exact ⟨0, by omega, rfl, hX, hS⟩
              case round =>
                obtain ⟨i, hi, rfl, hX, hS⟩ := hrel
                by_cases hlt : i < es.length
                · have hlt2 : i < te.length := by have := HTL.out; omega
                  have hCW := hW wr hS
                  obtain ⟨ad, A3, c3, rfl, hx, hc3, hC3⟩ := at_L4 hCW (i : Int) (by omega) (by omega)
                  rw [rd4_at hlt, Int.toNat_natCast] at hx
                  rw [rd4_at hlt] at hc3 hC3
                  obtain ⟨ad0, rfl⟩ : ∃ ad0, A0 = some ad0 := by
                    rcases hX.row.2 with ⟨h', h2⟩ | ⟨g, cap, cur, h', _⟩
                    · omega
                    · injection h' with h' _ _; exact ⟨_, h'⟩
                  obtain ⟨A4, c4, og, hu, hog, hB, hc4, hC4, hy⟩ := hX.at hlt2
                  have hsl := hes es[i] (List.getElem_mem hlt)
                  have hts2 : te[i] = es[i].map tw := by simp only [HTE.out, List.getElem_map]
                  obtain ⟨s, hs⟩ : ∃ s, s = es[i] := ⟨_, rfl⟩
                  obtain ⟨t, ht⟩ : ∃ t, t = te[i] := ⟨_, rfl⟩
                  rw [← hs] at hx hc3 hC3 hsl hts2
                  rw [← ht] at hc4 hC4 hy hts2
                  have hcall := fun W (hWb : Below wr.heap.size wr W) => stoaref01_Turned.calls (s.length + 1) A4 c4 t A3 c3 s true W (Kd.C_below hC4 hWb) hc4 (Kd.C_below hC3 hWb) hc3 (by rw [hts2]; exact turned_law s (by omega))
                  have HX := Lib.hid hX
                  have HLT := Lib.hid hlt
                  clear hu hog hB hC3 hC4 hs ht hts2 hCW hX
                  go_upto_region 25 with (fail)
                  go_quiet (first | (go_at_call 71; refine (hcall _ (by repeat (first | exact Below.refl _ _ | apply below_drew | apply pw_below_drewN))).mono ?_; rintro e w4 ⟨rfl, ⟨nd, rfl⟩⟩; (try first | exact ⟨rfl, _, World.drewN_drewN _ _ _⟩ | exact ⟨rfl, _, Eq.trans (World.drewN_drewN _ _ _) (congrArg (World.drewN _) (Nat.add_assoc _ _ _))⟩)))
                  go_wp2
                  exact ⟨⟨i + 1, by omega, by go_num, HX.out.below (fun k hk => (pw_below_drewN (Below.refl _ wr) nq).block k hk), hS.drewN nq⟩, by simp [intOf]; omega⟩
                · obtain rfl : i = es.length := by omega
                  go_wp2
                  go_ret
                  exact ⟨rfl, hS⟩
end Go.Proofs.Ytiijkehiphkkiaa.PD
