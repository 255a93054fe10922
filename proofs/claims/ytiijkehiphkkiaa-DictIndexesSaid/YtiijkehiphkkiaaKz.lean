/-
  DictIndexes at all texts.
-/
import Derived.Test.YtiijkehiphkkiaaKy
import Derived.Test.YtiijkehiphkkiaaKl
namespace Go.Proofs.Ytiijkehiphkkiaa.PD
open Go.RowKit Go.Maps Go.Proofs.YtiijkehiphkkiaaW.PrintWords Go.Proofs.YtiijkehiphkkiaaW.PrintLast Go.Proofs.YtiijkehiphkkiaaW.PrintMore
set_option linter.unusedVariables false
set_option linter.unusedSimpArgs false

theorem idx_small (ss : List (List Int)) : (idx ss).1.length ≤ 4096 ∧ ∀ s ∈ (idx ss).1, s.length ≤ 200 := by
  by_cases h : (idx ss).2.2 = 0
  · obtain ⟨h1, h2, h3, h4⟩ := idx_ok h
    rw [h3]
    have := ents_length ss
    exact ⟨by omega, fun s hs => h2 s (ents_mem.1 hs)⟩
  · rw [idx_no h]
    exact ⟨by simp, fun s hs => by simp at hs⟩

set_option maxHeartbeats 4000000 in
set_option maxRecDepth 100000 in
theorem dindexes_any (A : Option Addr) (c : Nat) (ss : List (List Int)) (w : World) (hr : Kd.C (Kd.slice 5 (Kd.int .u8)) w A ss.length ss) (hc : ss.length ≤ c) (hb : ∀ s ∈ ss, Bys s) (hl : ss.length ≤ 5864062014805) (hrl : ∀ s ∈ ss, s.length ≤ 140737488355328) :
    Calls Try.prog 7 #[.slice A ss.length c] w fun e w' => e = .returned (.bool true) ∧ Hold w.heap.size w w' := by
  obtain ⟨kc, hkc⟩ := copy10_law ss hl hrl
  obtain ⟨ki, hki⟩ := (index_ev ss).ex
  obtain ⟨hs1, hs2⟩ := idx_small ss
  obtain ⟨es, hes⟩ : ∃ es, es = (idx ss).1 := ⟨_, rfl⟩
  obtain ⟨us, hus⟩ : ∃ us, us = (idx ss).2.1 := ⟨_, rfl⟩
  obtain ⟨er, her⟩ : ∃ er, er = (idx ss).2.2 := ⟨_, rfl⟩
  have hidx : idx ss = (es, us, er) := by rw [hes, hus, her]
  rw [← hes] at hs1 hs2
  have hul : us.length ≤ 4096 := by
    by_cases h : (idx ss).2.2 = 0
    · obtain ⟨h1, h2, h3, h4⟩ := idx_ok h
      rw [hus, h4, List.length_map]
      exact h1
    · rw [hus, idx_no h]; simp
  obtain ⟨ku, hku⟩ := ints_law us us (by omega)
  obtain ⟨k1, hk1⟩ := same10_law ss ss (by omega) (fun s hs => by have := hrl s hs; omega)
  rw [decide_eq_true rfl] at hku hk1
  rw [hidx] at hki
  have HI := Lib.hid hidx; have HB := Lib.hid hb
  clear hes hus her hidx hb hrl
  go_enter Try.func7, Try.ntmps7
  go_upto_region 8 with (first
    | (go_at_call 31; refine (alive_any _).mono ?_; rintro e w1 ⟨rfl, hb1⟩)
    | (go_at_call 32; refine (stoaref10_Copy.calls kc A c ss ss _ (Kd.C_below hr hb1) hc hkc).mono ?_; rintro e w2 ⟨v3, rfl, hS3, hb2⟩; obtain ⟨A3, c3, rfl, hc3, hC3⟩ := Kd.S_reads hS3; have hB2 := below_then hb1 hb1.size hb2)
    | (go_at_call 33; refine (dindex_any A3 c3 ss _ hC3 hc3 HB.out).mono ?_; rw [HI.out]; rintro e w3 ⟨v1, v2, rfl, hb3, hE, hR⟩; obtain ⟨A1, c1, rfl, hc1, hC1⟩ := hE.reads; obtain ⟨A2, c2, rfl, hc2, hC2⟩ := Kd.R_reads hR; have hB3 := below_then hB2 hB2.size hb3)
    | (go_at_call 34; refine (stoaref10_Index.calls ki A c ss es us er _ (Kd.C_below hr hB3) hc hki).mono ?_; rintro e w4 ⟨v5, v6, rfl, hV5, hR6, hb4⟩; obtain ⟨A5, c5, rfl, hc5, hF5⟩ := hV5; obtain ⟨A6, c6, rfl, hc6, hC6⟩ := Kd.R_reads hR6; have hB4 := below_then hB3 hB3.size hb4)
    | (go_at_call 35; refine (stoalaw10_sameInts.calls ku A2 c2 us A6 c6 us true _ (Kd.C_below hC2 hb4) hc2 hC6 hc6 hku).mono ?_; rintro e w5 ⟨rfl, hD5⟩; have hB5 := below_then hB4 hB4.size hD5.below)
    | (go_at_call 36; refine (stoaref10_Same.calls k1 A3 c3 ss A c ss true _ (Kd.C_below (Kd.C_below (Kd.C_below hC3 hb3) hb4) hD5.below) hc3 (Kd.C_below hr hB5) hc hk1).mono ?_; rintro e w6 ⟨rfl, hD6⟩; have hB6 := below_then hB5 hB5.size hD6.below))
  have B46 := below_then hD5.below hD5.below.size hD6.below
  have B36 := below_then hb4 hb4.size B46
  have B26 := below_then hb3 hb3.size B36
  have hF6 := Kd.F_step hF5 (fun k _ hk => B46.block k hk)
  obtain ⟨vs, ogs, hX3⟩ := EntX.of (EntB.of_ent hE)
  have hX6 := hX3.below (fun k hk => B36.block k hk)
  have hW : ∀ w', Side w2.heap.size w3.heap.size w6 w' → Kd.C (Kd.slice 5 (Kd.int .u8)) w' A5 es.length es := fun w' hs => Kd.F_now (Kd.F_step hF6 (fun k hk hl => hs.block k hl (.inr hk.1)))
  have hcall := apartall_any w2.heap.size w3.heap.size _ vs ogs es A5 c5 w6 hX6 hW hc5 hs1 hs2
  clear hX3 hX6 hW hF5 hF6 hE hC1 hC2 hC6 hR hR6 hS3 hki hku
  go_wp2_with (first
    | (go_at_call 37; refine hcall.mono ?_; rintro e w7 ⟨rfl, hS7⟩; have hH7 := (Hold.of_below hB6).trans (hS7.hold.mono hB2.size))
    | (go_at_call 36; refine (stoaref10_Same.calls k1 A3 c3 ss A c ss true _ (C_hold2 hC3 ((Hold.of_below B26).trans hS7.hold)) hc3 (C_hold2 hr hH7) hc hk1).mono ?_; rintro e w8 ⟨rfl, hD8⟩))
  go_ret
  exact ⟨rfl, hH7.trans (Hold.of_below (hD8.below.mono hH7.size))⟩
end Go.Proofs.Ytiijkehiphkkiaa.PD
