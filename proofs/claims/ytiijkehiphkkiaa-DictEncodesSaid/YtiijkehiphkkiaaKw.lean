/-
  DictBack at all texts and bytes.
-/
import Derived.Test.YtiijkehiphkkiaaKl
import Derived.Test.YtiijkehiphkkiaaKr
namespace Go.Proofs.Ytiijkehiphkkiaa.PD
open Go.RowKit Go.Maps Go.Proofs.YtiijkehiphkkiaaW.PrintWords Go.Proofs.YtiijkehiphkkiaaW.PrintLast Go.Proofs.YtiijkehiphkkiaaW.PrintMore
set_option linter.unusedVariables false
set_option linter.unusedSimpArgs false

theorem encS_short {ss : List (List Int)} (h : (idx ss).2.2 = 0) : (encS ss).1.length ≤ 1000000 := by
  obtain ⟨h1, h2, h3, h4⟩ := idx_ok h
  have hel := ents_length ss
  have hlen : ∀ s ∈ ents ss, s.length ≤ 200 := fun s hs => h2 s (ents_mem.1 hs)
  have k1 := ones_length (ents ss) hlen
  have k2 := vput_length (ents ss).length
  have k3 := wid_le (ents ss).length (by omega)
  unfold encS
  rw [if_pos h, h3, h4]
  have hul : (ss.map (fun s => ((pos (ents ss) s : Nat) : Int))).length ≤ 4096 := by simpa using h1
  have k4 := packS_short (wid (ents ss).length) _ (by omega) hul
  have k5 := vput_length (ss.map (fun s => ((pos (ents ss) s : Nat) : Int))).length
  simp only [encB, List.length_append]
  omega
theorem encS_bys {ss : List (List Int)} (h : (idx ss).2.2 = 0) (hb : ∀ s ∈ ss, Bys s) : Bys (encS ss).1 := by
  obtain ⟨h1, h2, h3, h4⟩ := idx_ok h
  have hel := ents_length ss
  unfold encS
  rw [if_pos h, h3, h4]
  simp only [encB]
  refine ((Bys.append (vput_bys _ (by omega)) ?_).append (vput_bys _ (by rw [List.length_map]; omega))).append (packS_bys _ _)
  intro x hx
  obtain ⟨l, hl, hx⟩ := List.mem_flatten.1 hx
  obtain ⟨s, hs, rfl⟩ := List.mem_map.1 hl
  unfold one at hx
  have hsl := h2 s (ents_mem.1 hs)
  rcases List.mem_append.1 hx with hx | hx
  · exact vput_bys _ (by omega) x hx
  · exact hb s (ents_mem.1 hs) x hx
theorem dec_idx {b : List Int} (hb : Bys b) (h : (decS b).2 = 0) : (idx (decS b).1).2.2 = 0 ∧ ∀ s ∈ (decS b).1, Bys s := by
  have he := enc_dec hb h
  have h0 : (idx (decS b).1).2.2 = 0 := by
    refine Classical.byContradiction fun hc => ?_
    unfold encS at he
    rw [if_neg hc] at he
    simp only [Prod.mk.injEq] at he
    exact hc he.2
  refine ⟨h0, fun s hs x hx => ?_⟩
  obtain ⟨h1, h2, h3, h4⟩ := idx_ok h0
  refine hb x ?_
  have e : b = (encS (decS b).1).1 := by rw [he]
  rw [e]
  unfold encS
  rw [if_pos h0, h3]
  simp only [encB]
  refine List.mem_append_left _ (List.mem_append_left _ (List.mem_append_right _ ?_))
  exact List.mem_flatten.2 ⟨one s, List.mem_map.2 ⟨s, ents_mem.2 hs, rfl⟩, List.mem_append_right _ hx⟩

set_option maxHeartbeats 2000000 in
set_option maxRecDepth 100000 in
theorem dback_err (A B : Option Addr) (c d : Nat) (ss : List (List Int)) (b : List Int) (w : World) (hr : Kd.C (Kd.slice 5 (Kd.int .u8)) w A ss.length ss) (hc : ss.length ≤ c) (hb : ∀ s ∈ ss, Bys s) (h0 : (idx ss).2.2 ≠ 0) :
    Calls Try.prog 10 #[.slice A ss.length c, .slice B b.length d] w fun e w' => e = .returned (.bool true) ∧ Below w.heap.size w w' := by
  have h1 := idx_no h0
  have henc : encS ss = ([], 4) := by
    unfold encS
    rw [if_neg h0, h1]
  obtain ⟨ki, hki⟩ := (index_ev ss).ex
  rw [h1] at hki
  go_enter Try.func10, Try.ntmps10
  go_wp2_with (first
    | (go_at_call 31; refine (alive_any _).mono ?_; rintro e w1 ⟨rfl, hb1⟩)
    | (go_at_call 33; refine (dindex_any A c ss _ (Kd.C_below hr hb1) hc hb).mono ?_; rw [h1]; rintro e w2 ⟨v1, v2, rfl, hb2, hE, hR⟩; have hB2 := below_then hb1 hb1.size hb2; obtain ⟨A1, c1, hv1, _, _⟩ := hE.reads; obtain ⟨A2, c2, hv2, _, _⟩ := Kd.R_reads hR; have hv1' : v1 = .slice A1 0 c1 := hv1; have hv2' : v2 = .slice A2 0 c2 := hv2; subst hv1'; subst hv2'; clear hE hR hv1 hv2)
    | (go_at_call 38; refine (dencode_any A c ss _ (Kd.C_below hr hB2) hc hb).mono ?_; rw [henc]; rintro e w3 ⟨v4, rfl, hb3, hR4⟩; have hB3 := below_then hB2 hB2.size hb3; obtain ⟨A4, c4, hv4, _, _⟩ := Kd.R_reads hR4; have hv4' : v4 = .slice A4 0 c4 := hv4; subst hv4'; clear hR4 hv4)
    | (go_at_call 34; refine (stoaref10_Index.calls ki A c ss [] [] 4 _ (Kd.C_below hr hB3) hc hki).mono ?_; rintro e w4 ⟨v5, v6, rfl, _, _, hb4⟩; have hB4 := below_then hB3 hB3.size hb4))
  go_ret
  exact ⟨rfl, hB4⟩

set_option maxHeartbeats 4000000 in
set_option maxRecDepth 100000 in
theorem dback_ok (A B : Option Addr) (c d : Nat) (ss : List (List Int)) (b : List Int) (w : World) (hr : Kd.C (Kd.slice 5 (Kd.int .u8)) w A ss.length ss) (hc : ss.length ≤ c) (hb : ∀ s ∈ ss, Bys s) (h0 : (idx ss).2.2 = 0)
    (hB : Kd.C (Kd.int .u8) w B b.length b) (hd : b.length ≤ d) (hbb : Bys b) (hbl : b.length ≤ 140737488355328) :
    Calls Try.prog 10 #[.slice A ss.length c, .slice B b.length d] w fun e w' => e = .returned (.bool true) ∧ Below w.heap.size w w' := by
  obtain ⟨h1, h2, h3, h4⟩ := idx_ok h0
  have hel := ents_length ss
  have hesl : ∀ s ∈ ents ss, s.length ≤ 200 := fun s hs => h2 s (ents_mem.1 hs)
  have hps := encS_short h0
  have hpb := encS_bys h0 hb
  have hde := dec_enc h0
  have hri := ents_rising ss
  have hpa : ∀ s ∈ ss, ∃ h : pos (ents ss) s < (ents ss).length, (ents ss)[pos (ents ss) s] = s := fun s hs => pos_at hri (ents_mem.2 hs)
  have he2 : (encS ss).2 = 0 := by
    unfold encS
    rw [if_pos h0]
  obtain ⟨p, hp⟩ : ∃ p, p = (encS ss).1 := ⟨_, rfl⟩
  have henc : encS ss = (p, 0) := by rw [hp, ← he2]
  rw [← hp] at hps hpb hde
  obtain ⟨us, hus⟩ : ∃ us, us = ss.map (fun s => ((pos (ents ss) s : Nat) : Int)) := ⟨_, rfl⟩
  have hul : us.length = ss.length := by rw [hus, List.length_map]
  have hug : ∀ i (h : i < ss.length) (h' : i < us.length), us[i] = ((pos (ents ss) ss[i] : Nat) : Int) := fun i h h' => by simp only [hus, List.getElem_map]
  rw [← hus] at h4
  obtain ⟨es, hes⟩ : ∃ es, es = ents ss := ⟨_, rfl⟩
  rw [← hes] at h3 hel hesl hri hpa hug
  have hidx : idx ss = (es, us, 0) := by rw [← h3, ← h4, ← h0]
  clear h3 h4 hp hus hes he2
  have HUL := Lib.hid hul
  clear hul
  go_enter Try.func10, Try.ntmps10
  go_upto_region 10 with (first
    | (go_at_call 31; refine (alive_any _).mono ?_; rintro e w1 ⟨rfl, hb1⟩)
    | (go_at_call 33; refine (dindex_any A c ss _ (Kd.C_below hr hb1) hc hb).mono ?_; rw [hidx]; rintro e w2 ⟨v1, v2, rfl, hb2, hE, hR⟩; have hB2 := below_then hb1 hb1.size hb2; obtain ⟨A1, c1, rfl, hc1, hC1⟩ := hE.reads; obtain ⟨A2, c2, hv2, hc2, hC2⟩ := Kd.R_reads hR; rw [HUL.out] at hv2 hc2 hC2; subst hv2)
    | (go_at_call 38; refine (dencode_any A c ss _ (Kd.C_below hr hB2) hc hb).mono ?_; rw [henc]; rintro e w3 ⟨v4, rfl, hb3, hR4⟩; have hB3 := below_then hB2 hB2.size hb3; obtain ⟨A4, c4, rfl, hc4, hC4⟩ := Kd.R_reads hR4; have hC1w := Kd.C_below hC1 hb3; have hC2w := Kd.C_below hC2 hb3; clear hE hR hR4 hC1 hC2))
  have HHP := Lib.hid hpa; have HUG := Lib.hid hug; have HDE := Lib.hid hde; have HRI := Lib.hid hri; have HESL := Lib.hid hesl; have HPB := Lib.hid hpb; have HB := Lib.hid hb; have HBB := Lib.hid hbb; have HH2 := Lib.hid h2
  clear hpa hug hde hri hesl hpb hb hbb h2 henc hidx h0
  go_wp2
  go_loopw [73] (fun vi wq => ∃ i : Nat, i ≤ ss.length ∧ vi = .int .i64 i ∧ Below w3.heap.size w3 wq) (fun vi _ => ss.length - (intOf vi).toNat)
  case atStart => exact ⟨0, by omega, rfl, Below.refl _ _⟩
  case round =>
    obtain ⟨i, hi, rfl, hbr⟩ := hrel
    by_cases hlt : i < ss.length
    · have hbw := below_then hB3 hB3.size hbr
      obtain ⟨s, hs⟩ : ∃ s, s = ss[i] := ⟨_, rfl⟩
      have hsm : s ∈ ss := by rw [hs]; exact List.getElem_mem hlt
      obtain ⟨hq, hqe⟩ := HHP.out s hsm
      have hu := HUG.out i hlt (by have := HUL.out; omega)
      rw [← hs] at hu
      obtain ⟨q, hqq⟩ : ∃ q, q = pos es s := ⟨_, rfl⟩
      rw [← hqq] at hu
      simp only [← hqq] at hq hqe
      have hsl := HH2.out s hsm
      obtain ⟨ad, A3, c3, rfl, hx0, hc3, hC0⟩ := at_L4 hr (i : Int) (by omega) (by omega)
      rw [rd4_at hlt, Int.toNat_natCast] at *
      rw [← hs] at hx0 hC0 hc3
      have hx := (hbw.cell (World.block_lt_of_cell? w _ hx0)).trans hx0
      have hC3 := Kd.C_below hC0 hbw
      obtain ⟨ad2, rfl, hy0⟩ := Kd.at_int hC2w (i : Int) (by omega) (by omega)
      rw [rd_at (by have := HUL.out; omega), Int.toNat_natCast, hu] at hy0
      have hy := (hbr.cell (World.block_lt_of_cell? w3 _ hy0)).trans hy0
      obtain ⟨ad3, A6, c6, rfl, hz0, hc6, hD0⟩ := at_L4 hC1w (q : Int) (by omega) (by omega)
      rw [rd4_at hq, Int.toNat_natCast, hqe] at hz0
      rw [rd4_at hq, hqe] at hc6 hD0
      have hz := (hbr.cell (World.block_lt_of_cell? w3 _ hz0)).trans hz0
      have hD3 := Kd.C_below hD0 hbr
      have hcall := stoaref01_Same.calls (s.length + 1) A6 c6 s A3 c3 s true wr hD3 hc6 hC3 hc3 (by rw [same_law s s (by omega) _ (Nat.le_refl _)]; simp)
      clear hs hqq hqe hu hx0 hC0 hy0 hz0 hD0 hC3 hD3 hr hB hC4 hC1w hC2w
      go_wp2_with (first
        | (go_at_call 45; refine hcall.mono ?_; rintro e w4 ⟨rfl, hDr⟩))
      exact ⟨⟨i + 1, by omega, by go_num, below_then hbr hbr.size hDr.below⟩, by simp [intOf]; omega⟩
    · obtain rfl : i = ss.length := by omega
      clear hlt hi
      go_upto_region 16 with (fail)
      go_wp2
      go_loopw [107] (fun vi wq => ∃ k : Nat, k ≤ es.length ∧ vi = .int .i64 k ∧ Below w3.heap.size w3 wq) (fun vi _ => es.length - (intOf vi).toNat)
      case atStart => exact ⟨0, by omega, rfl, hbr⟩
      case round =>
        obtain ⟨k, hk, rfl, hbr⟩ := hrel
        by_cases hlt : k < es.length
        · by_cases hk0 : k = 0
          · subst hk0
            go_upto_region 19 with (fail)
            go_quiet (fail)
            go_wp2
            exact ⟨⟨1, by omega, rfl, pw_below_drewN hbr nq⟩, by simp [intOf]; omega⟩
          · obtain ⟨j, rfl⟩ : ∃ j, k = j + 1 := ⟨k - 1, by omega⟩
            obtain ⟨ad3, A6, c6, rfl, hz0, hc6, hD0⟩ := at_L4 hC1w ((j + 1 : Nat) : Int) (by omega) (by omega)
            rw [rd4_at hlt, Int.toNat_natCast] at hz0
            rw [rd4_at hlt] at hc6 hD0
            have hlt1 : j < es.length := by omega
            obtain ⟨ad4, A7, c7, e4, hy0, hc7, hE0⟩ := at_L4 hC1w (j : Int) (by omega) (by omega)
            injection e4 with e4
            subst e4
            rw [rd4_at hlt1, Int.toNat_natCast] at hy0
            rw [rd4_at hlt1] at hc7 hE0
            have hord := HRI.out.get (i := j) (j := j + 1) (by omega) hlt
            have hsl := HESL.out es[j] (List.getElem_mem hlt1)
            have hz := (hbr.cell (World.block_lt_of_cell? w3 _ hz0)).trans hz0
            have hy := (hbr.cell (World.block_lt_of_cell? w3 _ hy0)).trans hy0
            have hcall := fun W (hW : Below w3.heap.size w3 W) => stoaref05_Order.calls (2 * es[j].length + 2) A7 c7 es[j] A6 c6 es[j + 1] (cmpL es[j] es[j + 1]) W (Kd.C_below hE0 hW) hc7 (Kd.C_below hD0 hW) hc6 (order_law _ _ (by omega) _ (Nat.le_refl _))
            generalize es[j] = s1 at *
            generalize es[j + 1] = s2 at *
            have hwj : IntKind.i64.wrap (j : Int) = (j : Int) := wraps_i64 _ (by omega) (by omega)
            have hix : ∀ W : World, (Instr.indexAt 45 (.slice (some ad3) es.length c1) (.int .i64 ((j : Int) + 1))).run Try.prog W = .ok (.pointer (some (ad3.add (j + 1)))) W := by
              intro W
              obtain ⟨i0, hi0, hz0, hz1, hz2⟩ := info_parts info55
              have hel : Try.prog.elem 45 = 55 := by simp [Program.elem, Try.underlying45]
              rw [run_indexAt_slice W 45 ad3 es.length c1 .i64 _ (by rw [hel]; exact Try.underlying45), if_pos ⟨by omega, by omega⟩, hel]
              simp [sizeOf, typeInfo, hi0, hz1, Result.andThen]
            have eadd : ad3.add (j + 1) = ⟨ad3.block, ad3.off + (j + 1), none⟩ := by unfold Addr.add; simp
            rw [eadd] at hz
            simp only [eadd] at hix
            clear eadd
            clear hz0 hy0 hD0 hE0 hr hB hC4 hC1w hC2w
            go_upto_region 19 with (fail)
            go_quiet (first | (go_at_call 46; refine (hcall _ (by repeat (first | exact hbr | apply below_drew | apply pw_below_drewN))).mono ?_; rintro e w4 ⟨rfl, ⟨nd, rfl⟩⟩; (try first | exact ⟨rfl, _, World.drewN_drewN _ _ _⟩ | exact ⟨rfl, _, Eq.trans (World.drewN_drewN _ _ _) (congrArg (World.drewN _) (Nat.add_assoc _ _ _))⟩)))
            go_wp2
            exact ⟨⟨j + 2, by omega, by go_num, pw_below_drewN hbr nq⟩, by simp [intOf]; omega⟩
        · obtain rfl : k = es.length := by omega
          have hw3 := below_then hB3 hB3.size hbr
          have hr1 := Kd.C_below hr hw3
          have hB1 := Kd.C_below hB hw3
          have hC41 := Kd.C_below hC4 hbr
          obtain ⟨k1, hk1⟩ := same10_law ss ss (by omega) (fun s hs => by have := HH2.out s hs; omega)
          rw [decide_eq_true rfl] at hk1
          have hcp := copy_law b hbl (b.length + 1) (Nat.le_refl _)
          obtain ⟨y, hy⟩ : ∃ y, y = (decS b).1 := ⟨_, rfl⟩
          obtain ⟨er, her⟩ : ∃ er, er = (decS b).2 := ⟨_, rfl⟩
          have hdb : decS b = (y, er) := by rw [hy, her]
          clear hr hB hC4 hC1w hC2w
          have HDE2 := Lib.hid hdb
          clear hdb
          go_upto_region 25 with (first
            | (go_at_call 42; refine (ddecode_any A4 c4 p _ hC41 hc4 HPB.out (by omega)).mono ?_; rw [HDE.out]; rintro e w5 ⟨v16, rfl, hb5, hE5⟩; obtain ⟨A5, c5, rfl, hc5, hC5⟩ := hE5.reads; have hr2 := Kd.C_below hr1 hb5; have hB2 := Kd.C_below hB1 hb5; have hw5 := below_then hw3 hw3.size hb5; clear hE5)
            | (go_at_call 36; refine (stoaref10_Same.calls k1 A5 c5 ss A c ss true _ hC5 hc5 hr2 hc hk1).mono ?_; rintro e w6 ⟨rfl, hD6⟩; have hB3' := Kd.C_below hB2 hD6.below; have hw6 := below_then hw5 hw5.size hD6.below))
          have hdb := HDE2.out
          clear hr1 hr2 hB1 hB2 hC5 hC41
          by_cases he0 : er = 0
          · subst he0
            have hq := enc_dec HBB.out her.symm
            obtain ⟨hi0, hyb⟩ := dec_idx HBB.out her.symm
            rw [← hy] at hq hyb
            have hsb := same_law b b (by omega) (b.length + 1) (Nat.le_refl _)
            rw [decide_eq_true rfl] at hsb
            have HQ := Lib.hid hq
            clear hy her hi0 hq
            have HDB := Lib.hid hdb
            clear hdb
            go_wp2_with (first
              | (go_at_call 47; refine (stoaref01_Copy.calls (b.length + 1) B d b b _ hB3' hd hcp).mono ?_; rintro e w7 ⟨v7, rfl, hR7, hb7⟩; obtain ⟨A7, c7, rfl, hc7, hC7⟩ := Kd.R_reads hR7; have hw7 := below_then hw6 hw6.size hb7; have hB4 := Kd.C_below hB3' hb7)
              | (go_at_call 42; refine (ddecode_any A7 c7 b _ hC7 hc7 HBB.out hbl).mono ?_; rw [HDB.out]; rintro e w8 ⟨v8, rfl, hb8, hE8⟩; obtain ⟨A8, c8, rfl, hc8, hC8⟩ := hE8.reads; have hw8 := below_then hw7 hw7.size hb8; have hB5 := Kd.C_below hB4 hb8; clear hE8)
              | (go_at_call 38; refine (dencode_any A8 c8 y _ hC8 hc8 hyb).mono ?_; rw [HQ.out]; rintro e w9 ⟨v9, rfl, hb9, hR9⟩; obtain ⟨A9, c9, rfl, hc9, hC9⟩ := Kd.R_reads hR9; have hw9 := below_then hw8 hw8.size hb9; have hB6 := Kd.C_below hB5 hb9)
              | (go_at_call 45; refine (stoaref01_Same.calls (b.length + 1) A9 c9 b B d b true _ hC9 hc9 hB6 hd hsb).mono ?_; rintro e w10 ⟨rfl, hD10⟩; have hw10 := below_then hw9 hw9.size hD10.below))
            go_ret
            exact ⟨rfl, hw10⟩
          · have hye : y = [] := by rw [hy]; exact dec_err (by rw [← her]; exact he0)
            subst hye
            have HDB := Lib.hid hdb
            clear hdb hy her
            go_wp2_with (first
              | (go_at_call 47; refine (stoaref01_Copy.calls (b.length + 1) B d b b _ hB3' hd hcp).mono ?_; rintro e w7 ⟨v7, rfl, hR7, hb7⟩; obtain ⟨A7, c7, rfl, hc7, hC7⟩ := Kd.R_reads hR7; have hw7 := below_then hw6 hw6.size hb7)
              | (go_at_call 42; refine (ddecode_any A7 c7 b _ hC7 hc7 HBB.out hbl).mono ?_; rw [HDB.out]; rintro e w8 ⟨v8, rfl, hb8, hE8⟩; obtain ⟨A8, c8, hv8, hc8, hC8⟩ := hE8.reads; have hv8' : v8 = .slice A8 0 c8 := hv8; subst hv8'; have hw8 := below_then hw7 hw7.size hb8; clear hE8 hv8))
            go_ret
            exact ⟨rfl, hw8⟩
end Go.Proofs.Ytiijkehiphkkiaa.PD
