/-
  dict.Encode at all texts.
-/
import Derived.Test.YtiijkehiphkkiaaKe
import Derived.Test.YtiijkehiphkkiaaKq
namespace Go.Proofs.Ytiijkehiphkkiaa.PD
open Go.RowKit Go.Maps Go.Proofs.YtiijkehiphkkiaaW.PrintWords Go.Proofs.YtiijkehiphkkiaaW.PrintLast Go.Proofs.YtiijkehiphkkiaaW.PrintMore
set_option linter.unusedVariables false
set_option linter.unusedSimpArgs false

theorem Made.reads {w : World} {base g : Nat} {v : Value} {xs : List Int} (h : Made w base g v xs) : ∃ A c, v = .slice A xs.length c ∧ xs.length ≤ c ∧ Kd.C (Kd.int .u8) w A xs.length xs := by
  obtain ⟨cap, cells, m, rfl, hg, hc, hh, hs, hm, hx, hcell⟩ := h
  refine ⟨_, cap, rfl, hc, Kd.C_of_reads (d := 0) ⟨rfl, by unfold maxLen at hx; omega, fun _ => ⟨_, rfl, fun j hj => ?_⟩⟩⟩
  rw [add_plain]
  simp only [World.cell?, hh]
  rw [hcell j hj, List.getD_eq_getElem?_getD, List.getElem?_eq_getElem hj]
  simp
theorem Ent.reads {w : World} {base : Nat} {v : Value} {es : List (List Int)} (hE : Ent w base v es) : ∃ A c, v = .slice A es.length c ∧ es.length ≤ c ∧ Kd.C (Kd.slice 5 (Kd.int .u8)) w A es.length es := by
  obtain ⟨vs, gs, h1, h2, h4, h6⟩ := hE
  obtain ⟨A, c, rfl, hc, hcells⟩ := owned_cells h1
  have hn : es.length ≤ 9223372036854775807 := by
    rcases h1.2 with ⟨_, h⟩ | ⟨g', cap', cur, he, _, _, h3, h5, _⟩
    · omega
    · simp only [maxLen] at h5
      omega
  refine ⟨A, c, rfl, hc, rfl, hn, fun hp => ?_⟩
  obtain ⟨g, _, _, rfl, hcl⟩ := hcells hp
  refine ⟨_, rfl, fun j p hj => ?_⟩
  obtain ⟨hjl, rfl⟩ := List.getElem?_eq_some_iff.1 hj
  obtain ⟨u, hu, hM⟩ := h6 j hjl (by omega)
  obtain ⟨A', c', rfl, hc', hC'⟩ := hM.reads
  refine ⟨[.slice A' es[j].length c'], rfl, ⟨A', c', rfl, hc', hC'⟩, fun i x hx => ?_⟩
  cases i with
  | zero =>
    simp at hx
    subst hx
    have := hcl j hjl
    rw [hu] at this
    rw [add_plain]
    simpa [Kd.slice] using this
  | succ i => simp at hx

/-- The numbers behind k rounds. -/
def usd (us : List Int) (k : Nat) : List Int := (List.range us.length).map fun j => if j < k then us.getD j 0 else 0
theorem usd_set (us : List Int) (k : Nat) (h : k < us.length) : (usd us k).set k us[k] = usd us (k + 1) := by
  have := set_map us.length k (fun j => us.getD j 0)
  rw [List.getD_eq_getElem?_getD, List.getElem?_eq_getElem h] at this
  exact this
theorem usd_zero (us : List Int) : usd us 0 = List.replicate us.length 0 := by
  apply List.ext_getElem
  · simp [usd]
  · intro j h1 h2
    simp [usd]
theorem usd_all (us : List Int) : usd us us.length = us := by
  apply List.ext_getElem
  · simp [usd]
  · intro j h1 h2
    simp only [usd, List.getElem_map, List.getElem_range, if_pos h2]
    rw [List.getD_eq_getElem?_getD, List.getElem?_eq_getElem h2]
    rfl

set_option maxRecDepth 100000 in
set_option maxHeartbeats 600000 in
theorem dencode_any (A : Option Addr) (c : Nat) (ss : List (List Int)) (w : World) (hr : Kd.C (Kd.slice 5 (Kd.int .u8)) w A ss.length ss) (hc : ss.length ≤ c) (hb : ∀ s ∈ ss, Bys s) :
    Calls Try.prog 38 #[.slice A ss.length c] w fun e w' => ∃ v, e = .returned (.tuple #[v, .int .i64 (encS ss).2]) ∧ Below w.heap.size w w' ∧ Kd.R (Kd.int .u8) 5 w' w.heap.size (fun _ => True) v (encS ss).1 := by
  by_cases h0 : (idx ss).2.2 = 0
  · obtain ⟨h1, h2, h3, h4⟩ := idx_ok h0
    have h5 := ents_length ss
    have hfit := codes_fit h1
    have hes : ∀ s ∈ ents ss, s.length ≤ 200 := fun s hs => h2 s (ents_mem.1 hs)
    have henc : encS ss = (encB (ents ss) (ss.map (fun s => ((pos (ents ss) s : Nat) : Int))), 0) := by
      unfold encS
      rw [if_pos h0, h3, h4]
    have hul : (ss.map (fun s => ((pos (ents ss) s : Nat) : Int))).length ≤ 4096 := by simpa using h1
    rw [henc]
    generalize hus : ss.map (fun s => ((pos (ents ss) s : Nat) : Int)) = us at *
    generalize hes' : ents ss = es at *
    have hel : es.length ≤ 4096 := by omega
    obtain ⟨n, hn⟩ : ∃ n, n = es.length := ⟨_, rfl⟩
    go_enter Try.func38, Try.ntmps38
    go_wp2_with (first
      | (go_at_call 33; refine (dindex_any A c ss _ hr hc hb).mono ?_; rw [h0, h3, h4]; rintro e w1 ⟨v1, v2, rfl, hb1, hE, hR⟩; obtain ⟨A1, c1, rfl, hc1, hC1⟩ := hE.reads; obtain ⟨A2, c2, rfl, hc2, hC2⟩ := Kd.R_reads hR; rw [← hn] at hc1 hC1)
      | (go_at_call 72; refine (vint_Put.calls 10 ((es.length : Nat) : Int) (vput es.length) _ (put_law es.length (by omega))).mono ?_; rintro e w2 ⟨v3, rfl, hR3, hb3⟩))
    have hC1w := hC1
    have hC2w := hC2
    have hb2 : Below w.heap.size w w2 := below_then hb1 hb1.size hb3
    go_loopw [7, 29] (fun vo vi wq => ∃ i : Nat, i ≤ es.length ∧ vi = .int .i64 i ∧ Kd.R (Kd.int .u8) 5 wq w1.heap.size (fun _ => True) vo (vput es.length ++ ((es.take i).map one).flatten) ∧ Below w1.heap.size w1 wq) (fun _ vi _ => es.length - (intOf vi).toNat)
    case atStart => exact ⟨0, by omega, rfl, by simpa using hR3, hb3⟩
    case round =>
      obtain ⟨i, hi, rfl, hRo, hbr⟩ := hrel
      by_cases hlt : i < es.length
      · obtain ⟨ad, A3, c3, rfl, hx0, hc3, hC0⟩ := at_L4 hC1 (i : Int) (by omega) (by omega)
        rw [rd4_at hlt, Int.toNat_natCast] at *
        have hx := (hbr.cell (World.block_lt_of_cell? w1 _ hx0)).trans hx0
        obtain ⟨s, hs⟩ : ∃ s, s = es[i] := ⟨_, rfl⟩
        rw [← hs] at hx hC0 hc3
        have hsl := hes s (by rw [hs]; exact List.getElem_mem hlt)
        have hl1 := ones_length (es.take i) (fun s hm => hes s (List.mem_of_mem_take hm))
        rw [List.length_take] at hl1
        have hl2 := vput_length es.length
        have hl3 := vput_length s.length
        obtain ⟨out, hout⟩ : ∃ out, out = vput es.length ++ ((es.take i).map one).flatten := ⟨_, rfl⟩
        have hl4 : out.length ≤ 1000000 := by rw [hout, List.length_append]; omega
        rw [← hout] at hRo
        obtain ⟨A7, c7, rfl, hc7, _⟩ := Kd.R_reads hRo
        have HS := Lib.hid hs; have HO := Lib.hid hout; have HR0 := Lib.hid hRo; have HB := Lib.hid hbr; have HC := Lib.hid hC0; have HLT := Lib.hid hlt
        clear hs hl1 hl2 hout hRo hC0 hr hb hx0 hE hR hR3 hC1w hC2w
        go_wp2_with (first
          | (go_at_call 72; refine (vint_Put.calls 10 ((s.length : Nat) : Int) (vput s.length) _ (put_law s.length (by omega))).mono ?_; rintro e w3 ⟨v4, rfl, hR4, hb4⟩; obtain ⟨A4, c4, rfl, hc4, hC4⟩ := Kd.R_reads hR4; have hb5 := below_then HB.out HB.out.size hb4; have hRo3 := Kd.R_below HR0.out hb4)
          | (at_builtin; refine Kd.R_append_row (w0 := w1) (Value.int .u8) 0 w1.heap.size rfl _ _ 55 5 (.int .u8 0) 1 rfl Try.underlying55 info5 rfl (by decide) _ out (vput s.length) A4 _ c4 (fun _ => True) rfl rfl (fun _ _ => trivial) hRo3 hC4 hb5 hb5.size (by omega) ?_; intro v5 w4 hR5 hb6 hg5 hat5)
          | (at_builtin; refine Kd.R_append_row (w0 := w1) (Value.int .u8) 0 w1.heap.size rfl _ _ 55 5 (.int .u8 0) 1 rfl Try.underlying55 info5 rfl (by decide) _ (out ++ vput s.length) s A3 _ c3 (fun _ => True) rfl rfl (fun _ _ => trivial) hR5 (Kd.C_below HC.out hb6) hb6 hb6.size (by rw [List.length_append]; omega) ?_; intro v6 w5 hR6 hb7 hg6 hat6))
        have hs := HS.out
        have hlt := HLT.out
        refine ⟨⟨i + 1, by omega, by go_num, ?_, hb7⟩, by simp [intOf]; omega⟩
        rw [← take_snoc es i hlt, List.map_append, List.flatten_append, ← hs, ← List.append_assoc, ← HO.out]
        simp only [List.map_cons, List.map_nil, List.flatten_cons, List.flatten_nil, List.append_nil, one]
        rw [← List.append_assoc]
        exact hR6
      · obtain rfl : i = es.length := by omega
        rw [List.take_length] at hRo
        have hmk := print_make (P := Try.prog) 94 93 .u64 8 Try.underlying94 info93 (by decide) us.length (by omega)
        have hRM := own_made wr w1.heap.size 93 .u64 us.length hbr.size (by omega)
        have hBM : Below w1.heap.size w1 (wr.alloc (.cells (madeCells #[.int .u64 0] us.length) 93)) := hbr.alloc hbr.size _
        have hRo2 := Kd.own_of_R (Kd.R_alloc hRo (.cells (madeCells #[.int .u64 0] us.length) 93))
        rw [← usd_zero] at hRM
        have hl1 := ones_length es hes
        have hl2 := vput_length es.length
        have hl3 := vput_length us.length
        have hl5 := packS_short (wid es.length) us (by have := wid_le es.length hel; omega) hul
        obtain ⟨out, hout⟩ : ∃ out, out = vput es.length ++ (es.map one).flatten := ⟨_, rfl⟩
        have hl4 : out.length ≤ 1000000 := by rw [hout, List.length_append]; omega
        rw [← hout] at hRo hRo2
        go_upto_region 11 with (fail)
        generalize (wr.alloc (.cells (madeCells #[.int .u64 0] us.length) 93)) = wy at *
        generalize wr.heap.size = g3 at *
        clear hRo hbr hmk hC1 hE
        have HO := Lib.hid hout
        clear hout hr
        go_wp2
        go_loopw [47] (fun vi wq => ∃ k : Nat, k ≤ us.length ∧ vi = .int .i64 k ∧ wq.ownsRow w1.heap.size 93 1 (.slice (some ⟨g3, 0, none⟩) us.length us.length) us.length (nums .u64 (usd us k)) ∧ wq.ownsRow w1.heap.size 5 1 u7 out.length (nums .u8 out) ∧ Below w1.heap.size w1 wq) (fun vi _ => us.length - (intOf vi).toNat)
        case atStart => exact ⟨0, by omega, rfl, hRM, hRo2, hBM⟩
        case round =>
          obtain ⟨k, hk, rfl, hR9, hO9, hbr⟩ := hrel
          by_cases hlt : k < us.length
          · obtain ⟨ad, rfl, hx0⟩ := Kd.at_int hC2 (k : Int) (by omega) (by omega)
            rw [rd_at hlt, Int.toNat_natCast] at hx0
            have hx := (hbr.cell (World.block_lt_of_cell? w1 _ hx0)).trans hx0
            have hu := hfit us[k] (List.getElem_mem hlt)
            have hw := wid_le es.length hel
            have hp12 : (2 : Int) ^ wid es.length ≤ 4096 := by
              have : 2 ^ wid es.length ≤ 2 ^ 12 := Nat.pow_le_pow_right (n := 2) (by decide) hw
              exact_mod_cast this
            obtain ⟨u, hus⟩ : ∃ u, u = us[k] := ⟨_, rfl⟩
            rw [← hus] at hx hu
            have hu0 := hu.1
            have hu1 : u < 4096 := by omega
            obtain ⟨hcc, hfr⟩ := own_at hR9 (k : Int) (by omega) (by omega)
            rw [Int.toNat_natCast] at hcc hfr
            have HU := Lib.hid hus; have HR := Lib.hid hR9; have HO9 := Lib.hid hO9
            clear hus hR9 hO9 hC2 hx0 hp12 hu
            go_wp2
            go_roundw
            case rel =>
              have hst := own_store HR.out (k : Int) u
              rw [Int.toNat_natCast] at hst
              obtain ⟨hst1, hst2⟩ := hst
              rw [HU.out, usd_set us k hlt, ← HU.out] at hst1
              refine ⟨k + 1, by omega, by go_num, hst1, own_other HO9.out hst2 (own_type_ne HO9.out HR.out (by decide)), hbr.grown hst2 hbr.size (fun k' hk' => ?_)⟩
              injection hk' with hk'
              have := own_base HR.out g3 rfl
              omega
            case measure => simp [intOf]; omega
          · obtain rfl : k = us.length := by omega
            rw [usd_all] at hR9
            have hw := wid_le es.length hel
            obtain ⟨kw, hkw⟩ := (dwidth_law es.length (by omega)).ex
            obtain ⟨kp, hkp⟩ := (ppack (w := wid es.length) (by omega) hfit hul).ex
            have hRU : Kd.R (Kd.int .u64) 93 wr w1.heap.size (fun _ => True) (.slice (some ⟨g3, 0, none⟩) us.length us.length) us := Kd.R_of_own hR9 (fun _ _ => trivial)
            have hRo : Kd.R (Kd.int .u8) 5 wr w1.heap.size (fun _ => True) u7 out := Kd.R_of_own hO9 (fun _ _ => trivial)
            obtain ⟨_, _, hCU⟩ := Kd.R_reads' hRU
            clear hR9 hO9 hRU hC2 hfit
            go_wp2_with (first
              | (go_at_call 74; refine (dict_width.calls kw ((es.length : Nat) : Int) ((wid es.length : Nat) : Int) _ hkw).mono ?_; rintro e w3 ⟨rfl, hb3'⟩; have hb4 := below_then hbr hbr.size hb3'; have hCU3 := Kd.C_below hCU hb3'; have hRo3 := Kd.R_below hRo hb3')
              | (go_at_call 73; refine (bits_Pack.calls kp ((wid es.length : Nat) : Int) (some ⟨g3, 0, none⟩) us.length us (packS (wid es.length) us) 0 _ hCU3 (Nat.le_refl _) hkp).mono ?_; rintro e w4 ⟨v13, rfl, hR13, hb5⟩; have hR13n := Kd.R_newR hR13 hRo3; obtain ⟨A13, c13, rfl, hc13, hC13⟩ := Kd.R_reads hR13; have hb6 := below_then hb4 hb4.size hb5; have hRo4 := Kd.R_below hRo3 hb5)
              | (go_at_call 72; refine (vint_Put.calls 10 ((us.length : Nat) : Int) (vput us.length) _ (put_law us.length (by omega))).mono ?_; rintro e w5 ⟨v14, rfl, hR14, hb7⟩; obtain ⟨A14, c14, rfl, hc14, hC14⟩ := Kd.R_reads hR14; have hb8 := below_then hb6 hb6.size hb7; have hRo5 := Kd.R_below hRo4 hb7; have hR13m := Kd.R_below hR13n hb7)
              | (at_builtin; refine Kd.R_append_row (w0 := w1) (Value.int .u8) 0 w1.heap.size rfl _ _ 55 5 (.int .u8 0) 1 rfl Try.underlying55 info5 rfl (by decide) _ out (vput us.length) A14 _ c14 (fun _ => True) rfl rfl (fun _ _ => trivial) hRo5 hC14 hb8 hb8.size (by omega) ?_; intro v15 w6 hR15 hb9 hg15 hat15; have hR13o := Kd.R_grown hR13m hg15 (fun k hk => hk.2); obtain ⟨_, _, hC13o⟩ := Kd.R_reads' hR13o)
              | (at_builtin; refine Kd.R_append_row (w0 := w1) (Value.int .u8) 0 w1.heap.size rfl _ _ 55 5 (.int .u8 0) 1 rfl Try.underlying55 info5 rfl (by decide) _ (out ++ vput us.length) (packS (wid es.length) us) A13 _ c13 (fun _ => True) rfl rfl (fun _ _ => trivial) hR15 hC13o hb9 hb9.size (by rw [List.length_append]; omega) ?_; intro v16 w7 hR16 hb10 hg16 hat16))
            go_ret2
            rw [HO.out] at hR16
            exact ⟨_, rfl, below_then hb1 hb1.size hb10, Kd.R_lower hR16 hb1.size⟩
  · have h1 := idx_no h0
    have henc : encS ss = ([], 4) := by
      unfold encS
      rw [if_neg h0, h1]
    rw [henc]
    go_enter Try.func38, Try.ntmps38
    go_wp2_with (first
      | (go_at_call 33; refine (dindex_any A c ss _ hr hc hb).mono ?_; rw [h1]; rintro e w1 ⟨v1, v2, rfl, hb1, hE, hR⟩; obtain ⟨A1, c1, rfl, hc1, hC1⟩ := hE.reads; obtain ⟨A2, c2, rfl, hc2, hC2⟩ := Kd.R_reads hR))
    go_ret2
    exact ⟨_, rfl, hb1, Kd.R_nil _ _ _ _ _⟩
end Go.Proofs.Ytiijkehiphkkiaa.PD
