/-
  Parts of the proof: Sg.
-/
import Derived.Test.YtgcpiofpjogjcaaGreatDoorQ18
import Derived.Test.YtgcpiofpjogjcaaGreatDoorQ16
section
/-
  DiskMemory, walked.
-/
namespace Go.Proofs.YtgcpiofpjogjcaaGreatDoor.PK
open Go.RowKit Go.Maps Go.Sort Go.Proofs.YtgcpiofpjogjcaaGreatDoorW.PrintWords Go.Proofs.YtgcpiofpjogjcaaGreatDoorW.PrintLast Go.Proofs.YtgcpiofpjogjcaaGreatDoorW.PrintMore
set_option linter.unusedVariables false
set_option linter.unusedSimpArgs false
variable {own : Nat → Prop} {w w' : World}

theorem DiskAt.mine {d : Nat} {S : Dk} (h : DiskAt w own d S) : own d ∧ d < w.heap.size := by
  obtain ⟨bn, bs, pc, cc, pp, cp, pd, cd, h⟩ := h
  exact ⟨h.od, lt_of_block h.blk⟩
theorem DiskAt.srt {d : Nat} {S : Dk} (h : DiskAt w own d S) : Srt S.now := by
  obtain ⟨bn, bs, pc, cc, pp, cp, pd, cd, h⟩ := h
  exact h.now.sorted
theorem Turn.hold {B : Nat} {w w' : World} (h : Turn own w w') (ho : ∀ k, own k → B ≤ k) : Hold B w w' := ⟨h.os, h.output, h.size, fun k hk hlt => h.block k hlt (fun e => by have := ho k e; omega)⟩
theorem Below.hold {B : Nat} {w w' : World} (h : RowKit.Below w.heap.size w w') : Hold B w w' := ⟨h.os, h.output, h.size, fun k _ hlt => h.block k hlt⟩
/-- A list of files, one of which is being written over. -/
structure Mine (B1 B2 : Nat) (A : Option Addr) (c n : Nat) (w5 wr : World) : Prop where
  row : ∃ gs : List S40, gs.length = n ∧ Kd.S k40 40 wr B1 (fun k => k < B2) (.slice A n c) gs ∧ ∀ p ∈ gs, p.f1.length ≤ 140737488355328
  turn : Turn (zn B1 B2) w5 wr
theorem grown_turn {a b : World} {og : Option Nat} {own : Nat → Prop} (h : a.grownBy b og) (ho : ∀ k, og = some k → own k) : Turn own a b := Turn.of_grown h ho

def TrueHold (w : World) (e : Ending) (w' : World) : Prop := e = .returned (.bool true) ∧ Hold w.heap.size w w'

set_option maxRecDepth 100000 in
set_option maxHeartbeats 12800000 in
theorem diskMemory_any (A : Option Addr) (c : Nat) (fs : List (ByteArray × List Int)) (nm : ByteArray) (Ab : Option Addr) (cb : Nat) (xs : List Int) (w : World)
    (h0 : fileK.C w A fs.length fs) (hc0 : fs.length ≤ c) (hl0 : fs.length < 3518437208883) (hs0 : ∀ p ∈ fs, p.1.size ≤ 9223372036854775807 ∧ p.2.length ≤ 140737488351232 ∧ (∀ x ∈ p.2, 0 ≤ x ∧ x < 256)) (hnm : nm.size ≤ 9223372036854775807)
    (hb : Kd.C (Kd.int .u8) w Ab xs.length xs) (hcb : xs.length ≤ cb) (hxl : xs.length ≤ 140737488351232) (hby : ∀ x ∈ xs, 0 ≤ x ∧ x < 256) :
    Calls Tryz.prog 3 #[.slice A fs.length c, .string nm, .slice Ab xs.length cb] w (TrueHold w) := by
  have hal := alive_any w
  have hs1 : ∀ p ∈ fs, p.1.size ≤ 9223372036854775807 ∧ p.2.length ≤ 140737488355328 ∧ (∀ x ∈ p.2, 0 ≤ x ∧ x < 256) := fun p hp => ⟨(hs0 p hp).1, by have := (hs0 p hp).2.1; omega, (hs0 p hp).2.2⟩
  have hcs : ∀ p ∈ (ldC [] fs).2, p.2.length ≤ 140737488351232 := ldC_short fs [] (fun p hp => by cases hp) (fun p hp => (hs0 p hp).2.1)
  have Z0 := Lib.hid h0; have Y1 := Lib.hid hs1; have ZB := Lib.hid hb; have BY := Lib.hid hby; have CS := Lib.hid hcs
  clear h0 hs0 hs1 hb hby hcs
  go_enter Tryz.func3, Tryz.ntmps3
  go_wp2_with fail
  go_at_call 6
  refine hal.mono ?_
  rintro e w1 ⟨rfl, hb1⟩
  have htw := twin_any A c fs w1 (Kd.C_below Z0.out hb1) hc0 hl0 (fun p hp => (Y1.out p hp).2.1)
  have hz1 := hb1.size
  have B1 := Lib.hid hb1
  clear hal hb1
  go_wp2_with fail
  go_at_call 7
  refine htw.mono ?_
  rintro e w2 ⟨v, rfl, hS2, hb2⟩
  have hz2 := hb2.size
  obtain ⟨A2, c2, rfl, hl2, hC2⟩ := Kd.S_reads hS2
  have b2 : Below w.heap.size w w2 := B1.out.trans (hb2.mono B1.out.size)
  have hlt : (fs.map toF).length = fs.length := List.length_map ..
  have hC2' : fileK.C w2 A2 fs.length fs := by
    have := fileC_ofF hC2
    rw [prF_toF, hlt] at this
    exact this
  rw [hlt] at hl2
  rw [hlt] at hS2
  have hld := load_any 16777216 A2 c2 fs w2 hC2' Y1.out
  rw [hlt]
  have B2 := Lib.hid b2; have S2 := Lib.hid (Kd.S_mono (Kd.S_bound hS2) (fun k hk => hk.2.2.1)); have HC2 := Lib.hid hC2'
  clear htw hS2 hb2 hC2 hC2' b2 B1
  go_wp2_with fail
  go_at_call 8
  refine hld.mono ?_
  clear hld
  rintro e w3 (⟨hne, rfl, hb3⟩ | ⟨h0, d, S, rfl, hL, hD, hb3⟩)
  · have hld2 := load_any 16777216 A2 c2 fs w3 (Kd.C_below HC2.out hb3) Y1.out
    have hz3 := hb3.size
    have B3 := Lib.hid (B2.out.trans (hb3.mono B2.out.size))
    have NE := Lib.hid hne
    clear hb3 hne
    go_wp2_with fail
    go_at_call 8
    refine hld2.mono ?_
    clear hld2
    rintro e w4 (⟨_, rfl, hb4⟩ | ⟨h0, _⟩)
    · have b4 := B3.out.trans (hb4.mono B3.out.size)
      have hrl := rload_any 16777216 A c fs w4 (Kd.C_below Z0.out b4) hc0 (by omega) (fun p hp => (Y1.out p hp).2.1)
      have hne := NE.out
      have B4 := Lib.hid b4
      clear hb4 b4 B3 NE
      have hn0 : ((ldC [] fs).1 != 0) = true := by simpa using hne
      have hn1 : decide ((ldC [] fs).1 = 0) = false := by simpa using hne
      have hn2 : ((ldC [] fs).1 == 0) = false := by simpa using hne
      go_wp2_with (go_at_call 9; refine hrl.mono ?_; rintro e w5 ⟨a0, n0, c0, a1, n1, c1, a2, n2, c3, a4, n4, c4, r4, r6, r7, rfl, hb5, hx⟩; clear hx)
      go_ret
      exact ⟨rfl, Hold.of_below ((B4.out.trans (hb5.mono B4.out.size)).alloc (Nat.le_trans B4.out.size hb5.size) _)⟩
    · exact absurd h0 NE.out
  · have hld2 := load_any 16777216 A2 c2 fs w3 (Kd.C_below HC2.out hb3) Y1.out
    have hz3 := hb3.size
    have b3 := B2.out.trans (hb3.mono B2.out.size)
    have S3 := Lib.hid (Kd.S_below S2.out hb3)
    have HC3 := Lib.hid (Kd.C_below HC2.out hb3)
    have hD3 := hD.imp (own' := zn w2.heap.size w3.heap.size) (fun k hk ho => ⟨ho, hk⟩)
    have B3 := Lib.hid b3; have HD3 := Lib.hid hD3; have HL := Lib.hid hL
    clear hb3 hD hD3 b3 B2 S2 HC2 hL
    go_wp2_with fail
    go_at_call 8
    refine hld2.mono ?_
    clear hld2
    rintro e w4 (⟨hne, _⟩ | ⟨_, o, T, rfl, hLT, hDT, hb4⟩)
    · exact absurd h0 hne
    · have b4 := B3.out.trans (hb4.mono B3.out.size)
      have hz4 := hb4.size
      have hrl := rload_any 16777216 A c fs w4 (Kd.C_below Z0.out b4) hc0 (by omega) (fun p hp => (Y1.out p hp).2.1)
      have S4 := Lib.hid (Kd.S_below S3.out hb4)
      have HD4 := Lib.hid (HD3.out.below hb4)
      have HT4 := Lib.hid (hDT.imp (own' := zn w3.heap.size w4.heap.size) (fun k hk ho => ⟨ho, hk⟩))
      have B4 := Lib.hid b4; have HLT := Lib.hid hLT
      clear hb4 b4 B3 hLT hDT S3 HD3 HC3
      go_upto_region 7 with (go_at_call 9; refine hrl.mono ?_; rintro e v5 ⟨a0, n0, k0, a1, n1, k1, a2, n2, k2, a4, n4, k4, r4, r6, r7, rfl, hb5, hx⟩; obtain ⟨hr4, rfl, rfl, bs, dir, hRef, hN, hRd, hRc, hRp⟩ := hx h0; have hr5 : r4 = 16777216 := hr4.trans (by decide); clear hr4 hx; subst hr5; have e0 := (Kd.N_reads' hN).1; subst e0; have e1 := (Kd.R_reads' hRd).1; subst e1; have e2 := (Kd.R_reads' hRc).1; simp only [List.length_nil] at e2; subst e2; have e4 := (Kd.R_reads' hRp).1; simp only [List.length_nil] at e4; subst e4; rw [h0])
      obtain ⟨w5, hw5⟩ : ∃ w5, w5 = v5.alloc (.cells #[.slice a0 bs.length k0, .slice a1 dir.length k1, .slice a2 0 k2, .int .i64 16777216, .slice a4 0 k4, .int .i64 0, .bool false] 35) := ⟨_, rfl⟩
      have hba : Below v5.heap.size v5 w5 := by rw [hw5]; exact (Below.refl _ _).alloc (Nat.le_refl _) _
      have hz5 : w5.heap.size = v5.heap.size + 1 := by rw [hw5]; simp
      have hzv := hb5.size
      have m12 : w5.heap[v5.heap.size]? = some (.cells #[.slice a0 bs.length k0, .slice a1 dir.length k1, .slice a2 0 k2, .int .i64 16777216, .slice a4 0 k4, .int .i64 0, .bool false] 35 (0, 0)) := by rw [hw5]; exact heap_alloc_new v5 _
      have hb45 : Below w4.heap.size w4 w5 := hb5.trans (hba.mono hb5.size)
      have hk0 := (Kd.N_reads' hN).2.1
      have hk1 := (Kd.R_reads' hRd).2.1
      have FB5 := Lib.hid (Kd.F_below (Kd.F_mono (ok' := zn w4.heap.size v5.heap.size) (Kd.F_bound (Kd.N_F hN)) (fun k hk => ⟨hk.1.1, hk.2⟩)) hba)
      have FE5 := Lib.hid (Kd.F_below (Kd.F_mono (ok' := zn w4.heap.size v5.heap.size) (Kd.F_bound (Kd.R_F hRd)) (fun k hk => ⟨hk.1, hk.2⟩)) hba)
      have S5 := Lib.hid (Kd.S_below S4.out hb45)
      have HD5 := Lib.hid (HD4.out.below hb45)
      have HT5 := Lib.hid (HT4.out.below hb45)
      have B5 := Lib.hid (B4.out.trans (hb45.mono B4.out.size))
      have M5 := Lib.hid m12; have RF := Lib.hid hRef
      have hbl : bs.length = dir.length := hRef.len
      have hdl : dir.length ≤ 400 := by
        have h1 : (contE bs dir).length = dir.length := by simp [contE]
        have h2 : (cont S.dat S.now).length = S.now.length := by simp [cont]
        have h3 := HD4.out.now1
        rw [hRef.cont] at h1
        rw [HL.out.cont] at h2
        omega
      have HBL := Lib.hid hbl
      clear hbl
      have LS := Lib.hid (show Loaded S 16777216 (ldC [] fs).2 from HL.out)
      have LT := Lib.hid (show Loaded T 16777216 (ldC [] fs).2 from HLT.out)
      simp only [← hw5]
      clear hw5 hba hb5 hb45 hN hRd hRc hRp hRef m12 S4 HD4 HT4 B4 HL HLT hrl
      go_wp2
      go_loopw [14, 73] (fun _ s73 wr => ∃ i : Nat, i ≤ fs.length ∧ s73 = .int .i64 i ∧ Mine w1.heap.size w2.heap.size A2 c2 fs.length w5 wr) (fun _ s73 _ => fs.length - (intOf s73).toNat)
      case atStart => exact ⟨0, Nat.zero_le _, rfl, ⟨fs.map toF, hlt, S5.out, fun p hp => by obtain ⟨q, hq, rfl⟩ := List.mem_map.1 hp; exact (Y1.out q hq).2.1⟩, Turn.refl _ _⟩
      case round =>
        obtain ⟨i, hi, rfl, ⟨gs, hgl, hSr, hgs⟩, htr⟩ := hrel
        have TR := Lib.hid htr
        have hszr := htr.size
        clear htr
        by_cases hin : i < fs.length
        · obtain ⟨ad, rfl, _⟩ := (Kd.S_reads' hSr).2.2.2.2 (by omega)
          obtain ⟨oki, cs, hcl, hM, hcell, hoki, hback⟩ := Kd.S_borrow hSr z40 (i : Int) (by omega) (by omega)
          rw [Int.toNat_natCast] at hM hcell hback
          have hgm : gs.getD i z40 = gs[i]'(by omega) := by rw [List.getD_eq_getElem?_getD, List.getElem?_eq_getElem (by omega), Option.getD_some]
          have hgl2 := hgs _ (List.getElem_mem (show i < gs.length by omega))
          rw [hgm] at hM
          generalize gs[i]'(by omega) = p at hM hgl2 hgm
          obtain ⟨v1, rfl, hR1⟩ := k40_openM hM
          have c1 : wr.cell? ⟨(ad.add (i * 2)).block, (ad.add (i * 2)).off + 1, none⟩ = some v1 := by
            rw [← add_field _ _ 1 (by omega)]; exact hcell 1 _ rfl
          have hsp := spoil_own w1.heap.size v1 p.f1 wr (Kd.own_of_R hR1) hgl2
          obtain ⟨A1', c1', rfl⟩ := Kd.R_slice hR1
          have H1 := Lib.hid hR1; have HB := Lib.hid hoki; have HS := Lib.hid hSr; have HG := Lib.hid hgs
          have HBK := Lib.hid (show ∀ (w' : World) (row : Option Nat) (x' : S40), wr.grownBy w' row → (∀ k, row = some k → oki k) → k40.M w' w1.heap.size oki x' [.string p.f0, .slice A1' p.f1.length c1'] → Kd.S k40 40 w' w1.heap.size (fun k => k < w2.heap.size) (.slice (some ad) fs.length c2) (gs.set i x') from fun w' row x' h1 h2 h3 => hback h1 h2 h3)
          clear hM hcell hR1 hoki hback hSr hgs
          go_wp2_with (go_at_call 10; refine hsp.mono ?_; rintro e w6 ⟨rfl, ho6, hg6⟩)
          have hok : ∀ k, (Value.slice A1' p.f1.length c1').ownBlock = some k → oki k := H1.out.1
          have hzn : ∀ k, (Value.slice A1' p.f1.length c1').ownBlock = some k → zn w1.heap.size w2.heap.size k := fun k hk => ⟨Kd.R_base H1.out k hk, (HB.out k (hok k hk)).1⟩
          have hM6 := k40_mkM w6 w1.heap.size oki (⟨p.f0, p.f1.map tw⟩ : S40) (v1 := .slice A1' p.f1.length c1') (Kd.R_of_own (h1 := fun _ => rfl) (by rw [List.length_map]; exact ho6) hok)
          refine ⟨⟨i + 1, by omega, by go_num, ⟨gs.set i ⟨p.f0, p.f1.map tw⟩, by rw [List.length_set]; exact hgl, HBK.out _ _ _ hg6 hok hM6, fun q hq => ?_⟩, TR.out.trans (grown_turn hg6 hzn)⟩, by simp [intOf]; omega⟩
          rcases List.mem_or_eq_of_mem_set hq with hq | rfl
          · exact HG.out q hq
          · simp only [List.length_map]; exact hgl2
        · obtain rfl : i = fs.length := by omega
          clear hSr hgs
          have hDr := HD5.out.turn (fun k hk hlt => TR.out.block k hlt (fun e => by unfold zn at hk e; omega))
          have hTr := HT5.out.turn (fun k hk hlt => TR.out.block k hlt (fun e => by unfold zn at hk e; omega))
          have hBr := B5.out.trans (TR.out.below (B := w.heap.size) (fun k hk => by unfold zn at hk; omega) B5.out.size)
          have HDR := Lib.hid hDr; have HTR := Lib.hid hTr; have BRR := Lib.hid hBr
          have FBR := Lib.hid (Kd.F_step FB5.out (fun k hk hlt => TR.out.block k hlt (fun e => by unfold zn at hk e; omega)))
          have FER := Lib.hid (Kd.F_step FE5.out (fun k hk hlt => TR.out.block k hlt (fun e => by unfold zn at hk e; omega)))
          have MR := Lib.hid ((TR.out.block _ (by omega) (fun e => by unfold zn at e; omega)).trans M5.out)
          obtain ⟨ws, hws⟩ : ∃ ws, ws = xs ++ pads 64 := ⟨_, rfl⟩
          have hwl : ws.length = xs.length + 64 := by rw [hws, List.length_append, pads_length]
          obtain ⟨kw, hkw⟩ := (wide_law xs (by omega)).rounds
          obtain ⟨ki, hki⟩ := (intact_law xs (by omega)).rounds
          have htake : ws.take xs.length = xs := by rw [hws, List.take_left]
          rw [← hws] at hkw hki
          have hwi := stoaref01_Wide.calls kw Ab cb xs ws wr (Kd.C_below ZB.out hBr) hcb hkw
          have HKI := Lib.hid hki; have HTK := Lib.hid htake; have HWL := Lib.hid hwl
          have hwp : 0 < ws.length := by omega
          clear hDr hTr hBr HD5 HT5 FB5 FE5 M5 B5 hws hkw hki htake
          clear hwl
          go_upto_region 17 with (go_at_call 11; refine hwi.mono ?_; rintro e w7 ⟨v7, rfl, hR7, hb7⟩; obtain ⟨gw, cw, rfl, hgw1, hgw2, _⟩ := Kd.R_form hR7 hwp)
          clear hwi
          have hwl := HWL.out
          have hz7 := hb7.size
          have hcw := (Kd.R_reads' hR7).2.1
          have hxc : xs.length ≤ cw := by omega
          have hR7t := Kd.R_tight rfl hR7
          have hC7 : Kd.C (Kd.int .u8) w7 (some ⟨gw, 0, none⟩) xs.length xs := by
            have := (Kd.R_reads' (Kd.R_take hR7 (m := xs.length) (by omega))).2.2
            rw [HTK.out] at this
            exact this
          have hdm := HDR.out.mine
          have hD7 := (HDR.out.below hb7).imp (own' := fun k => zn w2.heap.size w3.heap.size k ∨ w7.heap.size ≤ k) (fun k _ h => .inl h)
          have happ := append_any d S nm (some ⟨gw, 0, none⟩) cw xs w7 hD7 (fun k hk => .inr hk) hnm hC7 BY.out (fun a ha => by injection ha with ha; subst ha; have := hdm.1.2; simp only; omega) (by rw [fate_none LS.out.calm.plan]; decide) (by rw [LS.out.steps]; decide) (by rw [LS.out.calm.plan]; simp)
          have R7 := Lib.hid hR7t; have B7 := Lib.hid hb7; have D7 := Lib.hid hD7
          clear hR7 hR7t hb7 hC7 hD7 hdm hwl
          go_upto_region 18 with (go_at_call 12; refine happ.mono ?_; rintro e w8 ⟨x8, S8, rfl, hsd, hD8, ht8⟩)
          clear happ
          obtain ⟨hx8, hA8⟩ := appended_of LS.out D7.out hsd
          subst hx8
          have hz8 := ht8.size
          have hR8 := Kd.R_step R7.out (fun k hk hlt => ht8.block k hlt (fun e => by simp only [Value.ownBlock, Option.some.injEq] at hk; unfold zn at e; omega))
          have hB8 := BRR.out.trans ((B7.out.mono BRR.out.size).trans (ht8.below (fun k hk => by unfold zn at hk; omega) (by omega)))
          have hin := stoaref01_Intact.calls ki (some ⟨gw, 0, none⟩) cw ws Ab cb xs true w8 (Kd.R_reads' hR8).2.2 hcw (Kd.C_below ZB.out hB8) hcb HKI.out
          have R8 := Lib.hid hR8; have D8 := Lib.hid hD8; have T8 := Lib.hid ht8; have A8 := Lib.hid hA8; have HWP := Lib.hid hwp
          clear hR8 hD8 ht8 hA8 hB8 hsd D7 hwp
          go_upto_region 20 with (go_at_call 13; refine hin.mono ?_; rintro e w9 ⟨rfl, hd9⟩)
          clear hin
          have hb9 := hd9.below
          have hz9 := hb9.size
          have hsp := spoil_own wr.heap.size (.slice (some ⟨gw, 0, none⟩) ws.length cw) ws w9 (Kd.own_of_R (Kd.R_below R8.out hb9)) (by have := HWL.out; omega)
          have B9 := Lib.hid hb9
          clear hd9 hb9
          go_upto_region 21 with (go_at_call 10; refine hsp.mono ?_; rintro e w10 ⟨rfl, ho10, hg10⟩)
          clear hsp ho10
          have hz10 := hg10.size
          have hgb : (Value.slice (some ⟨gw, 0, none⟩) ws.length cw).ownBlock = some gw := rfl
          rw [hgb] at hg10
          have ht10 : Turn (fun k => zn w2.heap.size w3.heap.size k ∨ wr.heap.size ≤ k) wr w10 := (Turn.of_below B7.out).trans ((T8.out.widen (fun k hk => by rcases hk with hk | hk; exact .inl hk; exact .inr (by omega))).trans ((Turn.of_below B9.out).trans (grown_turn hg10 (fun k hk => by injection hk with hk; exact .inr (by omega)))))
          have hD10 := ((D8.out.imp (own' := fun k => zn w2.heap.size w3.heap.size k ∨ zn w7.heap.size w8.heap.size k) (fun k hk ho => by rcases ho with ho | ho; exact .inl ho; exact .inr ⟨ho, hk⟩)).below B9.out).turn (w' := w10) (fun k hk hlt => hg10.block k hlt (fun e => by injection e with e; unfold zn at hk; omega))
          have hT10 := HTR.out.turn (fun k hk hlt => ht10.block k hlt (fun e => by unfold zn at hk e; omega))
          have hFB := Kd.F_step FBR.out (fun k hk hlt => ht10.block k hlt (fun e => by unfold zn at hk e; omega))
          have hFE := Kd.F_step FER.out (fun k hk hlt => ht10.block k hlt (fun e => by unfold zn at hk e; omega))
          have hM10 := (ht10.block _ (by omega) (fun e => by unfold zn at e; omega)).trans MR.out
          have hB10 := BRR.out.trans (ht10.below (fun k hk => by unfold zn at hk; have := BRR.out.size; omega) BRR.out.size)
          have hcE : contE bs dir = (ldC [] fs).2 := RF.out.cont
          have hun : Uniq bs dir := ⟨RF.out.ids, RF.out.names, RF.out.once⟩
          have hcE2 : ∀ p ∈ contE bs dir, p.2.length ≤ 140737488351232 := by rw [hcE]; exact CS.out
          have hdo := Do_any a0 a1 a2 a4 Ab k0 k1 k2 k4 cb bs dir 16777216 nm xs (zn w4.heap.size v5.heap.size) w10 hFB hk0 (Kd.F_now hFE) hk1 (Kd.C_below ZB.out hB10) hcb RF.out.ids hdl (by have := HBL.out; omega) hcE2 hxl ⟨by decide, by decide⟩
          obtain ⟨hap1, hap2⟩ := appB_C hun 16777216 nm xs
          rw [hcE] at hap1 hap2
          obtain ⟨q0, q1, q2, q3, q4, q5, q6⟩ := seven_cells hM10
          have D10 := Lib.hid hD10; have T10 := Lib.hid hT10; have FB := Lib.hid hFB; have FE := Lib.hid hFE; have M10 := Lib.hid hM10; have B10 := Lib.hid hB10; have CE := Lib.hid hcE; have UN := Lib.hid hun; have AP1 := Lib.hid hap1; have AP2 := Lib.hid hap2
          clear hD10 hT10 hFB hFE hM10 hB10 hcE hun hcE2 hap1 hap2 ht10 hg10 hgb HDR HTR FBR FER MR R7 R8 D8 T8 B7 B9 TR S5
          go_upto_region 22 with (go_at_call 14; refine hdo.mono ?_; rintro e w11 ⟨A11, k11, rfl, hk11, hF11, hb11⟩; rw [AP2.out])
          obtain ⟨wB, hwB⟩ : ∃ wB, wB = w11.alloc (.cells #[.slice A11 bs.length k11, .slice a1 dir.length k1, .slice a2 0 k2, .int .i64 16777216, .slice a4 0 k4, .int .i64 1, .bool false] 35) := ⟨_, rfl⟩
          have hbB : Below w11.heap.size w11 wB := by rw [hwB]; exact (Below.refl _ _).alloc (Nat.le_refl _) _
          have hzB : wB.heap.size = w11.heap.size + 1 := by rw [hwB]; simp
          have hz11 := hb11.size
          have m17 : wB.heap[w11.heap.size]? = some (.cells #[.slice A11 bs.length k11, .slice a1 dir.length k1, .slice a2 0 k2, .int .i64 16777216, .slice a4 0 k4, .int .i64 1, .bool false] 35 (0, 0)) := by rw [hwB]; exact heap_alloc_new w11 _
          have hb1B : Below w10.heap.size w10 wB := hb11.trans (hbB.mono hb11.size)
          obtain ⟨bs', hbs'⟩ : ∃ bs', bs' = (appB bs dir 16777216 nm xs).1 := ⟨_, rfl⟩
          obtain ⟨c', hc'⟩ : ∃ c', c' = (appS (ldC [] fs).2 16777216 (key nm) xs).1 := ⟨_, rfl⟩
          have hlb' : bs'.length = bs.length := by rw [hbs']; exact appB_len ..
          have hcE' : contE bs' dir = c' := by rw [hbs', hc']; exact AP1.out
          have hcs' : ∀ p ∈ c', p.2.length ≤ 140737488351232 := by rw [hc']; exact appS_short CS.out (by decide)
          have hsf' : ∀ e ∈ dir, 0 ≤ (bodyOf bs' e).f1 ∧ (bodyOf bs' e).f1 ≤ (bodyOf bs' e).f0.length := by rw [hbs']; exact appB_safe RF.out UN.out _ _ _
          have hon' : contE (onB bs' dir) (onD dir) = (ldC [] fs).2 := by rw [hbs']; exact on_appB RF.out UN.out _ _ _
          have hfit' : Fits bs' dir := fun e he => by have := RF.out.ids e he; rw [hlb']; exact this
          have hcl' : c'.length ≤ 400 := by rw [← hcE', contE_len]; exact hdl
          have hcl0 : (ldC [] fs).2.length ≤ 400 := by rw [← CE.out, contE_len]; exact hdl
          have hA8 := A8.out
          rw [← hc'] at hA8
          rw [← hbs'] at hF11
          have hFN := Kd.F_below (Kd.F_mono (ok' := fun k => zn w4.heap.size v5.heap.size k ∨ zn w10.heap.size w11.heap.size k) (Kd.F_bound hF11) (fun k hk => by rcases hk with ⟨hk | hk, hk2⟩; exact .inl hk; exact .inr ⟨hk, hk2⟩)) hbB
          have hFE := Kd.F_below FE.out hb1B
          have hf1 := rfiles_any A11 a1 a2 a4 k11 k1 k2 k4 bs' dir 16777216 1 false wB.drew (by rw [hlb']; exact Kd.C_below (Kd.F_now hFN) (Below.refl _ wB).drew) (by rw [hlb']; exact hk11) (Kd.C_below (Kd.F_now hFE) (Below.refl _ wB).drew) hk1 hfit' hdl (fun p hp => by rw [hcE'] at hp; have := hcs' p hp; omega)
          rw [hlb'] at hf1
          have FN := Lib.hid hFN; have FEB := Lib.hid hFE; have FBB := Lib.hid (Kd.F_below FB.out hb1B); have DB := Lib.hid (D10.out.below hb1B); have TB := Lib.hid (T10.out.below hb1B); have MB := Lib.hid ((hb1B.block _ (by omega)).trans M10.out); have BB := Lib.hid (B10.out.trans (hb1B.mono B10.out.size)); have M17 := Lib.hid m17
          have HA8 := Lib.hid hA8; have CE' := Lib.hid hcE'; have CS' := Lib.hid hcs'; have SF' := Lib.hid hsf'; have ON' := Lib.hid hon'; have FIT' := Lib.hid hfit'; have HLB := Lib.hid hlb'
          simp only [← hwB]
          obtain ⟨h0c, h1c, h2c, h3c, h4c, h5c, h6c⟩ := seven_cells m17
          clear hwB hbB hb1B hb11 hF11 hFN hFE m17 hA8 hcE' hcs' hsf' hon' hfit' hlb' hbs' hc' hdo FB FE D10 T10 M10 B10 AP1 AP2 A8 q0 q1 q2 q3 q4 q5 q6
          go_upto_region 24 with fail
          go_region_held3 (fun w' => w'.cell? ⟨w11.heap.size, 0, none⟩ = some (.slice A11 bs.length k11) ∧ w'.cell? ⟨w11.heap.size, 1, none⟩ = some (.slice a1 dir.length k1) ∧ w'.cell? ⟨w11.heap.size, 2, none⟩ = some (.slice a2 0 k2) ∧ w'.cell? ⟨w11.heap.size, 3, none⟩ = some (.int .i64 16777216) ∧ w'.cell? ⟨w11.heap.size, 4, none⟩ = some (.slice a4 0 k4) ∧ w'.cell? ⟨w11.heap.size, 5, none⟩ = some (.int .i64 1) ∧ w'.cell? ⟨w11.heap.size, 6, none⟩ = some (.bool false))
            (go_keep)
            (first
              | (go_at_call 15; refine hf1.mono ?_; clear hf1; rintro e w13 ⟨v13, rfl, hS13, hb13⟩; obtain ⟨A13, k13, rfl⟩ := Kd.S_slice hS13; have hbd : Below wB.heap.size wB w13 := (Below.refl wB.heap.size wB).drew.trans hb13; have hz13 := hbd.size; have i0 := (hbd.cell (p := ⟨w11.heap.size, 0, none⟩) (by simp only; omega)).trans h0c; have i1 := (hbd.cell (p := ⟨w11.heap.size, 1, none⟩) (by simp only; omega)).trans h1c; have i2 := (hbd.cell (p := ⟨w11.heap.size, 2, none⟩) (by simp only; omega)).trans h2c; have i3 := (hbd.cell (p := ⟨w11.heap.size, 3, none⟩) (by simp only; omega)).trans h3c; have i4 := (hbd.cell (p := ⟨w11.heap.size, 4, none⟩) (by simp only; omega)).trans h4c; have i5 := (hbd.cell (p := ⟨w11.heap.size, 5, none⟩) (by simp only; omega)).trans h5c; have i6 := (hbd.cell (p := ⟨w11.heap.size, 6, none⟩) (by simp only; omega)).trans h6c; have hon := ron_any A11 a1 a2 a4 k11 k1 k2 k4 bs' dir 16777216 1 w13 (by rw [HLB.out]; exact Kd.C_below (Kd.F_now FN.out) hbd) (by rw [HLB.out]; exact hk11) (zn w4.heap.size v5.heap.size) (Kd.F_below FEB.out hbd) hk1 FIT'.out hdl (fun e he => ⟨CS'.out (key e.f0, (bodyOf bs' e).f0) (by rw [← CE'.out, contE_eq]; exact List.mem_map.2 ⟨e, he, rfl⟩), SF'.out e he⟩); rw [HLB.out] at hon; have S13 := Lib.hid hS13; have B13 := Lib.hid hbd; clear hS13 hb13 hbd)
              | (go_at_call 16; refine hon.mono ?_; clear hon; rintro e w14 ⟨A0', k0', A1', k1', A4', k4', rfl, hk0', hk1', hC0', hC1', hb14⟩; have hz14 := hb14.size; have j0 := (hb14.cell (p := ⟨w11.heap.size, 0, none⟩) (by simp only; omega)).trans i0; have j1 := (hb14.cell (p := ⟨w11.heap.size, 1, none⟩) (by simp only; omega)).trans i1; have j2 := (hb14.cell (p := ⟨w11.heap.size, 2, none⟩) (by simp only; omega)).trans i2; have j3 := (hb14.cell (p := ⟨w11.heap.size, 3, none⟩) (by simp only; omega)).trans i3; have j4 := (hb14.cell (p := ⟨w11.heap.size, 4, none⟩) (by simp only; omega)).trans i4; have j5 := (hb14.cell (p := ⟨w11.heap.size, 5, none⟩) (by simp only; omega)).trans i5; have j6 := (hb14.cell (p := ⟨w11.heap.size, 6, none⟩) (by simp only; omega)).trans i6; have hf2 := rfiles_any A0' A1' none A4' k0' k1' 0 k4' (onB bs' dir) (onD dir) 16777216 1 false w14 (by simpa [onB] using hC0') (by simpa [onB] using hk0') (by simpa [onD] using hC1') (by simpa [onD] using hk1') (on_fits bs' dir) (by simpa [onD] using hdl) (fun p hp => by rw [ON'.out] at hp; have := CS.out p hp; omega); rw [show (onB bs' dir).length = dir.length from List.length_map .., show (onD dir).length = dir.length from List.length_mapIdx ..] at hf2; have B14 := Lib.hid hb14; clear hb14 hC0' hC1')
              | (go_at_call 15; refine hf2.mono ?_; clear hf2; rintro e w15 ⟨v15, rfl, hS15, hb15⟩; obtain ⟨A15, k15, rfl⟩ := Kd.S_slice hS15; have hz15 := hb15.size; have l0 := (hb15.cell (p := ⟨w11.heap.size, 0, none⟩) (by simp only; omega)).trans j0; have l1 := (hb15.cell (p := ⟨w11.heap.size, 1, none⟩) (by simp only; omega)).trans j1; have l2 := (hb15.cell (p := ⟨w11.heap.size, 2, none⟩) (by simp only; omega)).trans j2; have l3 := (hb15.cell (p := ⟨w11.heap.size, 3, none⟩) (by simp only; omega)).trans j3; have l4 := (hb15.cell (p := ⟨w11.heap.size, 4, none⟩) (by simp only; omega)).trans j4; have l5 := (hb15.cell (p := ⟨w11.heap.size, 5, none⟩) (by simp only; omega)).trans j5; have l6 := (hb15.cell (p := ⟨w11.heap.size, 6, none⟩) (by simp only; omega)).trans j6; have S15 := Lib.hid hS15; have B15 := Lib.hid hb15; clear hS15 hb15))
          clear i0 i1 i2 i3 i4 i5 i6 j0 j1 j2 j3 j4 j5 j6 h0c h1c h2c h3c h4c h5c h6c
          have hbc5 : Below wB.heap.size wB w15 := B13.out.trans ((B14.out.mono B13.out.size).trans (B15.out.mono (by omega)))
          have hD15 := DB.out.below hbc5
          have hx := filesOf_apart d S8 w15 hD15
          rw [HA8.out.now] at hx
          have hS13 := Kd.S_bound S13.out
          have hS15 := Kd.S_bound S15.out
          have hzd : wB.drew.heap.size = wB.heap.size := rfl
          have E13 := Lib.hid (Kd.S_mono (ok' := fun k => wB.heap.size ≤ k ∧ k < w13.heap.size) hS13 (fun k hk => ⟨hk.1, hk.2.2.1⟩))
          have E15 := Lib.hid (Kd.S_mono (ok' := fun k => w14.heap.size ≤ k ∧ k < w15.heap.size) hS15 (fun k hk => ⟨hk.1, hk.2.2.1⟩))
          have D15 := Lib.hid hD15; have BC5 := Lib.hid hbc5
          have hnow := hD15.now1
          have FN15 := Lib.hid (Kd.F_below FN.out hbc5); have FE15 := Lib.hid (Kd.F_below FEB.out hbc5); have FB15 := Lib.hid (Kd.F_below FBB.out hbc5); have T15 := Lib.hid (TB.out.below hbc5); have M15 := Lib.hid ((hbc5.block _ (by omega)).trans MB.out); have M175 := Lib.hid ((hbc5.block _ (by omega)).trans M17.out)
          clear hbc5 hD15 hS13 hS15 S13 S15 DB FN FEB FBB TB MB M17
          go_upto_region 26 with (first
            | (go_at_call 17; refine hx.mono ?_; clear hx; rintro e w16 ⟨Ax, nx, kx, rfl, hSx, hb16⟩; have hz16 := hb16.size; have hsa := safe_apart d S8 w16 ((D15.out.below hb16).imp (own' := fun k => (zn w2.heap.size w3.heap.size k ∨ zn w7.heap.size w8.heap.size k) ∨ w16.heap.size ≤ k) (fun k _ h => .inl h)) (fun k hk => .inr hk) (by rw [HA8.out.chg]; decide) (by rw [HA8.out.safe]; exact hnow) (by rw [HA8.out.leftD]; exact hnow); rw [HA8.out.left] at hsa; have SX := Lib.hid (Kd.S_mono (ok' := fun k => w15.heap.size ≤ k ∧ k < w16.heap.size) (Kd.S_bound hSx) (fun k hk => ⟨hk.1, hk.2.2.1⟩)); have B16 := Lib.hid hb16; clear hSx hb16)
            | (go_at_call 18; refine hsa.mono ?_; clear hsa; rintro e w17 ⟨Ay, ny, ky, rfl, hSy, hb17⟩; have hz17 := hb17.size; have SY := Lib.hid (Kd.S_mono (ok' := fun k => w16.heap.size ≤ k ∧ k < w17.heap.size) (Kd.S_bound hSy) (fun k hk => ⟨hk.1, hk.2.2.1⟩)); have B17 := Lib.hid hb17; clear hSy hb17))
          have hb57 : Below w15.heap.size w15 w17 := B16.out.trans (B17.out.mono B16.out.size)
          have hal1 := alike_x (w := w17) (Kd.S_below SX.out B17.out) (Kd.S_below (Kd.S_below E13.out ((B14.out.trans (B15.out.mono B14.out.size)))) hb57) CE'.out CS'.out hcl'
          have B57 := Lib.hid hb57
          clear hb57
          go_upto_region 28 with (first
            | (go_at_call 19; refine hal1.mono ?_; clear hal1; rintro e w18 ⟨rfl, hd18⟩; have hb18 := hd18.below; have hz18 := hb18.size; have hal2 := alike_x (w := w18) (Kd.S_below SY.out hb18) (Kd.S_below (Kd.S_below E15.out B57.out) hb18) ON'.out CS.out hcl0; have B18 := Lib.hid hb18; clear hd18 hb18)
            | (go_at_call 19; refine hal2.mono ?_; clear hal2; rintro e w19 ⟨rfl, hd19⟩; have hb19 := hd19.below; have hz19 := hb19.size; have B19 := Lib.hid hb19; clear hd19 hb19))
          have hb79 : Below w17.heap.size w17 w19 := B18.out.trans (B19.out.mono B18.out.size)
          have hb69 : Below w16.heap.size w16 w19 := B17.out.trans (hb79.mono B17.out.size)
          have hb59 : Below w15.heap.size w15 w19 := B57.out.trans (hb79.mono B57.out.size)
          have hb39 : Below w13.heap.size w13 w19 := B14.out.trans ((B15.out.mono B14.out.size).trans (hb59.mono (by omega)))
          have hdx := datas_ent (w := w19) (B := w16.heap.size) (fun p => p.2) fileM rfl (⟨#[]⟩, []) (Kd.S_below SX.out hb69) (fun k hk => hk.2) (by rw [listed_length]; exact hcl') (by omega)
          have hls : (listed c').map (fun p => p.2) = c'.map (fun p => p.2) := datas_files c'
          have hle : (filesE bs' dir).map (fun p => p.f1) = c'.map (fun p => p.2) := by rw [datas_filesE, CE'.out]
          have hls0 : (listed (ldC [] fs).2).map (fun p => p.2) = (ldC [] fs).2.map (fun p => p.2) := datas_files _
          have hle0 : (filesE (onB bs' dir) (onD dir)).map (fun p => p.f1) = (ldC [] fs).2.map (fun p => p.2) := by rw [datas_filesE, ON'.out]
          rw [hls] at hdx
          have LE := Lib.hid hle; have LS0 := Lib.hid hls0; have LE0 := Lib.hid hle0
          have hes : ∀ s ∈ c'.map (fun p => p.2), s.length ≤ 140737488351232 := fun s hs => by obtain ⟨p, hp, rfl⟩ := List.mem_map.1 hs; exact CS'.out p hp
          have hes0 : ∀ s ∈ (ldC [] fs).2.map (fun p => p.2), s.length ≤ 140737488351232 := fun s hs => by obtain ⟨p, hp, rfl⟩ := List.mem_map.1 hs; exact CS.out p hp
          have HES := Lib.hid hes; have HES0 := Lib.hid hes0
          have B79 := Lib.hid hb79; have B59 := Lib.hid hb59; have B39 := Lib.hid hb39
          have hlo : (onD dir).length = dir.length := List.length_mapIdx ..
          clear hls hle hls0 hle0 hes hes0 hb79 hb69 hb59 hb39
          go_upto_region 30 with (first
            | (go_at_call 21; refine hdx.mono ?_; clear hdx; rintro e w20 ⟨vx, ux, rfl, hEx, hb20, hvx⟩; have hz20 := hb20.size; have hdn := datas_ent (w := w20) (B := w13.heap.size) (fun p => p.f1) fileM2 rfl z40 (Kd.S_below (Kd.S_below E13.out B39.out) hb20) (fun k hk => hk.2) (by rw [filesE_len]; exact hdl) (by omega); rw [LE.out] at hdn; have EX := Lib.hid hEx; have B20 := Lib.hid hb20; clear hEx hb20 hvx)
            | (go_at_call 21; refine hdn.mono ?_; clear hdn; rintro e w21 ⟨vn, un, rfl, hEn, hb21, hvn⟩; have hz21 := hb21.size; obtain ⟨An', kn', rfl, hkn', _⟩ := hEn.entB.reads; have hap := apartall_any w15.heap.size w16.heap.size vx ux _ (c'.map (fun p => p.2)) An' kn' w21 (EX.out.below (fun k hk => hb21.block k hk)) (hEn.want (.inl (by omega)) (fun k hk => .inr (by have := hvn k hk; omega))) hkn' (by rw [List.length_map]; omega) HES.out; rw [List.length_map] at hap; have B21 := Lib.hid hb21; clear hEn hb21 hvn)
            | (go_at_call 20; refine hap.mono ?_; clear hap; rintro e w22 ⟨rfl, hs22⟩; have hz22 := hs22.size; have hk22 : ∀ k, k < w15.heap.size ∨ (w16.heap.size ≤ k ∧ k < w19.heap.size) → w22.heap[k]? = w19.heap[k]? := fun k hk => (hs22.block k (by omega) (by omega)).trans ((B21.out.block k (by omega)).trans (B20.out.block k (by omega))); have hdy := datas_ent (w := w22) (B := w22.heap.size) (fun p => p.2) fileM rfl (⟨#[]⟩, []) (Kd.S_step (Kd.S_below SY.out B79.out) (fun k hk hlt => hk22 k (.inr ⟨hk.1, by omega⟩))) (fun k hk => (by have := hk.2; omega)) (by rw [listed_length]; exact hcl0) (by omega); rw [LS0.out] at hdy; have S22 := Lib.hid hs22; have K22 := Lib.hid hk22; clear hs22 hk22)
            | (go_at_call 21; refine hdy.mono ?_; clear hdy; rintro e w23 ⟨vy, uy, rfl, hEy, hb23, hvy⟩; have hz23 := hb23.size; have hdf := datas_ent (w := w23) (B := w15.heap.size) (fun p => p.f1) fileM2 rfl z40 (Kd.S_below (Kd.S_step (Kd.S_below E15.out B59.out) (fun k hk hlt => K22.out k (.inl hk.2))) hb23) (fun k hk => hk.2) (by rw [filesE_len, hlo]; exact hdl) (by omega); rw [LE0.out] at hdf; have EY := Lib.hid hEy; have B23 := Lib.hid hb23; clear hEy hb23 hvy)
            | (go_at_call 21; refine hdf.mono ?_; clear hdf; rintro e w24 ⟨vf, uf, rfl, hEf, hb24, hvf⟩; have hz24 := hb24.size; obtain ⟨Af', kf', rfl, hkf', _⟩ := hEf.entB.reads; have hap := apartall_any w16.heap.size w22.heap.size vy uy _ ((ldC [] fs).2.map (fun p => p.2)) Af' kf' w24 (EY.out.below (fun k hk => hb24.block k hk)) (hEf.want (.inl (by omega)) (fun k hk => .inr (by have := hvf k hk; omega))) hkf' (by rw [List.length_map]; omega) HES0.out; rw [List.length_map] at hap; have B24 := Lib.hid hb24; clear hEf hb24 hvf)
            | (go_at_call 20; refine hap.mono ?_; clear hap; rintro e w25 ⟨rfl, hs25⟩; have hz25 := hs25.size; have S25 := Lib.hid hs25; clear hs25))
          have hk25 : ∀ k, k < w15.heap.size → w25.heap[k]? = w15.heap[k]? := fun k hk => (S25.out.block k (by omega) (by omega)).trans ((B24.out.block k (by omega)).trans ((B23.out.block k (by omega)).trans ((K22.out k (.inl hk)).trans (B59.out.block k hk))))
          have hH25 : Hold w.heap.size w w25 := by
            have h1 : Below w.heap.size w w21 := BB.out.trans ((BC5.out.mono BB.out.size).trans ((B59.out.mono (by have := BB.out.size; omega)).trans ((B20.out.mono (by have := BB.out.size; omega)).trans (B21.out.mono (by have := BB.out.size; omega)))))
            have h2 : Below w.heap.size w22 w24 := (B23.out.mono (by have := h1.size; omega)).trans (B24.out.mono (by have := h1.size; omega))
            exact (Hold.of_below h1).trans ((S22.out.hold.mono (by have := BB.out.size; omega)).trans ((Hold.of_below h2).trans (S25.out.hold.mono (by have := BB.out.size; omega))))
          have HH25 := Lib.hid hH25; have KK25 := Lib.hid hk25
          have hwsz : w.heap.size ≤ w15.heap.size := by have := BB.out.size; omega
          have hzp : w8.heap.size ≤ w15.heap.size ∧ w3.heap.size ≤ w15.heap.size ∧ w4.heap.size ≤ w15.heap.size ∧ v5.heap.size < w15.heap.size ∧ w11.heap.size < w15.heap.size ∧ w13.heap.size ≤ w15.heap.size ∧ w15.heap.size ≤ w25.heap.size := by omega
          have FN25 := Lib.hid (Kd.F_step FN15.out (fun k hk hlt => hk25 k hlt))
          have FE25 := Lib.hid (Kd.F_step FE15.out (fun k hk hlt => hk25 k hlt))
          have D25 := Lib.hid (D15.out.turn (fun k hk hlt => hk25 k hlt))
          have M25 := Lib.hid ((hk25 _ (by omega)).trans M175.out)
          obtain ⟨q0, q1, q2, q3, q4, q5, q6⟩ := seven_cells M25.out
          have hfd := rfind_any A11 a1 a2 a4 k11 k1 k2 k4 bs' dir 16777216 1 false nm w25 (by rw [HLB.out]; exact Kd.F_now FN25.out) (by rw [HLB.out]; exact hk11) (Kd.F_now FE25.out) hk1 hdl
          rw [HLB.out] at hfd
          have hSrt := D25.out.srt
          clear hH25 hk25 S25 B24 B23 K22 S22 B20 B21 EX EY SX SY LE LS0 LE0 HES HES0 B79 B39 B57 B16 B17 B18 B19
          go_upto_if 145 with (go_at_call 22; refine hfd.mono ?_; rintro e w26 ⟨rfl, hb26⟩)
          have hz26 := hb26.size
          have B26 := Lib.hid hb26
          clear hfd hb26 q1 q2 q3 q4 q5 q6
          go_cut [23] (fun s23 wx => s23 = .int .i64 (findE dir nm) ∧ Hold w15.heap.size w26 wx)
          case first =>
            by_cases hneg : findE dir nm < 0
            · have u1 : decide ((0 : Int) ≤ findE dir nm) = false := by simp; omega
              go_wp2
              go_meet
              case rel => exact ⟨rfl, ⟨rfl, rfl, Nat.le_refl _, fun _ _ _ => rfl⟩⟩
            · obtain ⟨n, hn⟩ : ∃ n : Nat, findE dir nm = (n : Int) := ⟨(findE dir nm).toNat, by omega⟩
              have hnl : n < bs.length := by
                obtain ⟨e0, he0, _, hf0⟩ := findE_mem (dir := dir) (s := nm) (by omega)
                have := FIT'.out e0 he0
                rw [HLB.out] at this
                omega
              obtain ⟨f, hlk, hdat⟩ := read_id (S' := S8) hSrt HA8.out.now CE'.out hn
              have hys : (bs'.getD n z54).f0.length ≤ 140737488351232 := by
                obtain ⟨e0, he0, _, hf0⟩ := findE_mem (dir := dir) (s := nm) (by omega)
                have h1 := CS'.out (key e0.f0, (bodyOf bs' e0).f0) (by rw [← CE'.out, contE_eq]; exact List.mem_map.2 ⟨e0, he0, rfl⟩)
                have h3 : bodyOf bs' e0 = bs'.getD n z54 := by unfold bodyOf; rw [← hf0, hn, Int.toNat_natCast]
                rw [h3] at h1
                exact h1
              have hF26 := Kd.F_below FN25.out B26.out
              have hnl' : n < bs'.length := by have := HLB.out; omega
              obtain ⟨ad, A', cc, hA11, p0, p1, pl, pF, _⟩ := at_FB hF26 n hnl'
              subst hA11
              have hD26 := D25.out.below B26.out
              have hrd := fun W (hb : Below w26.heap.size w26 W) => read_any d S8 nm f (bs'.getD n z54).f0.length W (hD26.below hb) hnm HA8.out.calm.off hlk (by rw [hdat]; exact Nat.le_refl _)
              rw [hdat, List.take_length] at hrd
              have o0 := (B26.out.cell (p := ⟨w11.heap.size, 0, none⟩) (by simp only; omega)).trans q0
              rw [hn]
              have PF := Lib.hid pF; have HRD := Lib.hid hrd
              generalize (bs'.getD n z54).f0 = ys at *
              clear hlk hdat hF26 hD26 pF hSrt p1 hrd
              have u1 : decide ((0 : Int) ≤ (n : Int)) = true := by simp
              go_upto_region 35 with (first
                | (go_at_call 23; refine (HRD.out w26 (Below.refl _ _)).mono ?_; rintro e w27 ⟨A27, k27, rfl, ho27, hb27⟩; have hz27 := hb27.size; have g0 := (hb27.cell (World.block_lt_of_cell? w26 _ o0)).trans o0; have r0 := (hb27.cell (World.block_lt_of_cell? w26 _ p0)).trans p0; have O27 := Lib.hid ho27; have B27 := Lib.hid hb27; clear ho27 hb27)
                | (go_at_call 23; refine (HRD.out w27 B27.out).mono ?_; rintro e w28 ⟨A28, k28, rfl, ho28, hb28⟩; have hz28 := hb28.size; have g1 := (hb28.cell (World.block_lt_of_cell? w27 _ g0)).trans g0; have r1 := (hb28.cell (World.block_lt_of_cell? w27 _ r0)).trans r0; have O28 := Lib.hid ho28; have B28 := Lib.hid hb28; clear ho28 hb28))
              have hb68 : Below w26.heap.size w26 w28 := B27.out.trans (B28.out.mono B27.out.size)
              have hby27 := Byt.of_own O27.out
              have hF28 := Kd.F_below PF.out hb68
              have hR28 := Kd.R_of_own (h1 := fun _ => rfl) (enc := fun n => Value.int .u8 n) O28.out (ok := fun k => w27.heap.size ≤ k) (fun k hk => own_base O28.out k hk)
              have hap := apart_any w26.heap.size w27.heap.size _ (.slice A27 ys.length k27) ys A28 A' k28 cc w28 (hby27.keep (fun g hg => B28.out.block g (hby27.lt g hg))) (fun g hg => hby27.lt g hg) (fun w' hs => (Kd.R_reads' (Kd.R_step hR28 (fun k hk hlt => hs.block k hlt (.inr hk)))).2.2) (Kd.R_reads' hR28).2.1 (fun w' hs => Kd.F_now (Kd.F_step hF28 (fun k hk hlt => hs.block k hlt (.inl (by unfold zn at hk; omega))))) pl hys
              have B68 := Lib.hid hb68
              clear hb68 hby27 hF28 hR28
              go_wp2_with (go_at_call 24; refine hap.mono ?_; rintro e w29 ⟨rfl, hs29⟩)
              go_meet
              case rel => exact ⟨by rw [hn], (Hold.of_below (B68.out.mono (by omega))).trans (hs29.hold.mono (by omega))⟩
          case rest =>
            obtain ⟨rfl, hhc⟩ := hcut
            have hkc : ∀ k, k < w15.heap.size → wc.heap[k]? = w15.heap[k]? := fun k hk => (hhc.block k hk (by omega)).trans ((B26.out.block k (by omega)).trans (KK25.out k hk))
            have hzc := hhc.size
            have hHc : Hold w.heap.size w wc := HH25.out.trans ((Hold.of_below (B26.out.mono (by omega))).trans (hhc.mono hwsz))
            have hbd : Below wc.heap.size wc wc.drew := (Below.refl _ _).drew
            have DC := Lib.hid (D15.out.turn (w' := wc) (fun k hk hlt => hkc k hlt)); have TC := Lib.hid (T15.out.turn (w' := wc) (fun k hk hlt => hkc k hlt))
            have hMc := (hkc _ (by omega)).trans M15.out
            have E13C := Lib.hid (Kd.S_step (w1 := wc) (Kd.S_below E13.out (B14.out.trans (B15.out.mono B14.out.size))) (fun k hk hlt => hkc k hlt))
            have E15C := Lib.hid (Kd.S_step (w1 := wc) E15.out (fun k hk hlt => hkc k hlt))
            have FBC := Lib.hid (Kd.F_step (W1 := wc) FB15.out (fun k hk hlt => hkc k hlt))
            have FEC := Lib.hid (Kd.F_step (W1 := wc) FE15.out (fun k hk hlt => hkc k hlt))
            obtain ⟨m0, m1, m2, m3, m4, m5, m6⟩ := seven_cells hMc
            have hg1 := filesOf_apart d S8 wc.drew (DC.out.below hbd)
            rw [HA8.out.now] at hg1
            have HHC := Lib.hid hHc; have HBD := Lib.hid hbd
            have hv5 : v5.heap.size < wc.heap.size := by omega
            clear hhc hkc hHc hMc hbd HH25 KK25 D15 T15 M15 E13 E15 FB15 FE15 FN15 FN25 FE25 D25 M25 M175 B26 q0 hSrt hzp
            have hmf := fun W (hb : Below wc.heap.size wc W) => rfiles_any a0 a1 a2 a4 k0 k1 k2 k4 bs dir 16777216 0 false W (Kd.C_below (Kd.F_now FBC.out) hb) hk0 (Kd.C_below (Kd.F_now FEC.out) hb) hk1 RF.out.ids hdl (fun p hp => by rw [CE.out] at hp; have := CS.out p hp; omega)
            have HMF := Lib.hid hmf
            clear hmf
            go_upto_region 37 with fail
            go_region_held3 (fun w' => w'.cell? ⟨v5.heap.size, 0, none⟩ = some (.slice a0 bs.length k0) ∧ w'.cell? ⟨v5.heap.size, 1, none⟩ = some (.slice a1 dir.length k1) ∧ w'.cell? ⟨v5.heap.size, 2, none⟩ = some (.slice a2 0 k2) ∧ w'.cell? ⟨v5.heap.size, 3, none⟩ = some (.int .i64 16777216) ∧ w'.cell? ⟨v5.heap.size, 4, none⟩ = some (.slice a4 0 k4) ∧ w'.cell? ⟨v5.heap.size, 5, none⟩ = some (.int .i64 0) ∧ w'.cell? ⟨v5.heap.size, 6, none⟩ = some (.bool false))
              (go_keep)
              (first
                | (go_at_call 17; refine hg1.mono ?_; clear hg1; rintro e w30 ⟨Az, nz, kz, rfl, hSz, hb30⟩; have hbc0 : Below wc.heap.size wc w30 := HBD.out.trans hb30; have hzc0 := hbc0.size; have aa0 := (hbc0.cell (p := ⟨v5.heap.size, 0, none⟩) (by simp only; omega)).trans m0; have a1 := (hbc0.cell (p := ⟨v5.heap.size, 1, none⟩) (by simp only; omega)).trans m1; have a2 := (hbc0.cell (p := ⟨v5.heap.size, 2, none⟩) (by simp only; omega)).trans m2; have a3 := (hbc0.cell (p := ⟨v5.heap.size, 3, none⟩) (by simp only; omega)).trans m3; have a4 := (hbc0.cell (p := ⟨v5.heap.size, 4, none⟩) (by simp only; omega)).trans m4; have a5 := (hbc0.cell (p := ⟨v5.heap.size, 5, none⟩) (by simp only; omega)).trans m5; have a6 := (hbc0.cell (p := ⟨v5.heap.size, 6, none⟩) (by simp only; omega)).trans m6; have hq1 := alike_x (w := w30) hSz (Kd.S_below E13C.out hbc0) CE'.out CS'.out hcl'; have BC0 := Lib.hid hbc0; clear hSz hb30 hbc0)
                | (go_at_call 19; refine hq1.mono ?_; clear hq1; rintro e w31 ⟨rfl, hd31⟩; have hbc1 : Below wc.heap.size wc w31 := BC0.out.trans (hd31.below.mono BC0.out.size); have hzc1 := hbc1.size; have b0 := (hbc1.cell (p := ⟨v5.heap.size, 0, none⟩) (by simp only; omega)).trans m0; have b1 := (hbc1.cell (p := ⟨v5.heap.size, 1, none⟩) (by simp only; omega)).trans m1; have b2 := (hbc1.cell (p := ⟨v5.heap.size, 2, none⟩) (by simp only; omega)).trans m2; have b3 := (hbc1.cell (p := ⟨v5.heap.size, 3, none⟩) (by simp only; omega)).trans m3; have b4 := (hbc1.cell (p := ⟨v5.heap.size, 4, none⟩) (by simp only; omega)).trans m4; have b5 := (hbc1.cell (p := ⟨v5.heap.size, 5, none⟩) (by simp only; omega)).trans m5; have b6 := (hbc1.cell (p := ⟨v5.heap.size, 6, none⟩) (by simp only; omega)).trans m6; have hsa := safe_apart d S8 w31 ((DC.out.below hbc1).imp (own' := fun k => (zn w2.heap.size w3.heap.size k ∨ zn w7.heap.size w8.heap.size k) ∨ w31.heap.size ≤ k) (fun k _ h => .inl h)) (fun k hk => .inr hk) (by rw [HA8.out.chg]; decide) (by rw [HA8.out.safe]; exact hnow) (by rw [HA8.out.leftD]; exact hnow); rw [HA8.out.left] at hsa; have BC1 := Lib.hid hbc1; clear hd31 hbc1)
                | (go_at_call 18; refine hsa.mono ?_; clear hsa; rintro e w32 ⟨Ay2, ny2, ky2, rfl, hSy2, hb32⟩; have hbc2 : Below wc.heap.size wc w32 := BC1.out.trans (hb32.mono BC1.out.size); have hzc2 := hbc2.size; have cc0 := (hbc2.cell (p := ⟨v5.heap.size, 0, none⟩) (by simp only; omega)).trans m0; have c1 := (hbc2.cell (p := ⟨v5.heap.size, 1, none⟩) (by simp only; omega)).trans m1; have c2 := (hbc2.cell (p := ⟨v5.heap.size, 2, none⟩) (by simp only; omega)).trans m2; have c3 := (hbc2.cell (p := ⟨v5.heap.size, 3, none⟩) (by simp only; omega)).trans m3; have c4 := (hbc2.cell (p := ⟨v5.heap.size, 4, none⟩) (by simp only; omega)).trans m4; have c5 := (hbc2.cell (p := ⟨v5.heap.size, 5, none⟩) (by simp only; omega)).trans m5; have c6 := (hbc2.cell (p := ⟨v5.heap.size, 6, none⟩) (by simp only; omega)).trans m6; have hq2 := alike_x (w := w32) hSy2 (Kd.S_below E15C.out hbc2) ON'.out CS.out hcl0; have BC2 := Lib.hid hbc2; clear hSy2 hb32 hbc2)
                | (go_at_call 19; refine hq2.mono ?_; clear hq2; rintro e w33 ⟨rfl, hd33⟩; have hbc3 : Below wc.heap.size wc w33 := BC2.out.trans (hd33.below.mono BC2.out.size); have hzc3 := hbc3.size; have d0 := (hbc3.cell (p := ⟨v5.heap.size, 0, none⟩) (by simp only; omega)).trans m0; have d1 := (hbc3.cell (p := ⟨v5.heap.size, 1, none⟩) (by simp only; omega)).trans m1; have d2 := (hbc3.cell (p := ⟨v5.heap.size, 2, none⟩) (by simp only; omega)).trans m2; have d3 := (hbc3.cell (p := ⟨v5.heap.size, 3, none⟩) (by simp only; omega)).trans m3; have d4 := (hbc3.cell (p := ⟨v5.heap.size, 4, none⟩) (by simp only; omega)).trans m4; have d5 := (hbc3.cell (p := ⟨v5.heap.size, 5, none⟩) (by simp only; omega)).trans m5; have d6 := (hbc3.cell (p := ⟨v5.heap.size, 6, none⟩) (by simp only; omega)).trans m6; have hg2 := filesOf_apart o T w33 (TC.out.below hbc3); rw [LT.out.cont] at hg2; have BC3 := Lib.hid hbc3; clear hd33 hbc3)
                | (go_at_call 17; refine hg2.mono ?_; clear hg2; rintro e w34 ⟨Ao2, no2, ko2, rfl, hSo2, hb34⟩; have hbc4 : Below wc.heap.size wc w34 := BC3.out.trans (hb34.mono BC3.out.size); have hzc4 := hbc4.size; have e0 := (hbc4.cell (p := ⟨v5.heap.size, 0, none⟩) (by simp only; omega)).trans m0; have e1 := (hbc4.cell (p := ⟨v5.heap.size, 1, none⟩) (by simp only; omega)).trans m1; have e2 := (hbc4.cell (p := ⟨v5.heap.size, 2, none⟩) (by simp only; omega)).trans m2; have e3 := (hbc4.cell (p := ⟨v5.heap.size, 3, none⟩) (by simp only; omega)).trans m3; have e4 := (hbc4.cell (p := ⟨v5.heap.size, 4, none⟩) (by simp only; omega)).trans m4; have e5 := (hbc4.cell (p := ⟨v5.heap.size, 5, none⟩) (by simp only; omega)).trans m5; have e6 := (hbc4.cell (p := ⟨v5.heap.size, 6, none⟩) (by simp only; omega)).trans m6; have SO2 := Lib.hid hSo2; have BC4 := Lib.hid hbc4; clear hSo2 hb34 hbc4)
                | (go_at_call 15; refine (HMF.out w34 BC4.out).mono ?_; rintro e w35 ⟨v35, rfl, hS35, hb35⟩; obtain ⟨A35, k35, rfl⟩ := Kd.S_slice hS35; have hbc5 : Below wc.heap.size wc w35 := BC4.out.trans (hb35.mono BC4.out.size); have hzc5 := hbc5.size; have f0 := (hbc5.cell (p := ⟨v5.heap.size, 0, none⟩) (by simp only; omega)).trans m0; have f1 := (hbc5.cell (p := ⟨v5.heap.size, 1, none⟩) (by simp only; omega)).trans m1; have f2 := (hbc5.cell (p := ⟨v5.heap.size, 2, none⟩) (by simp only; omega)).trans m2; have f3 := (hbc5.cell (p := ⟨v5.heap.size, 3, none⟩) (by simp only; omega)).trans m3; have f4 := (hbc5.cell (p := ⟨v5.heap.size, 4, none⟩) (by simp only; omega)).trans m4; have f5 := (hbc5.cell (p := ⟨v5.heap.size, 5, none⟩) (by simp only; omega)).trans m5; have f6 := (hbc5.cell (p := ⟨v5.heap.size, 6, none⟩) (by simp only; omega)).trans m6; have hq3 := alike_x (w := w35) (Kd.S_below SO2.out hb35) hS35 CE.out CS.out hcl0; have BC55 := Lib.hid hbc5; clear hS35 hb35 hbc5)
                | (go_at_call 19; refine hq3.mono ?_; clear hq3; rintro e w36 ⟨rfl, hd36⟩; have hbc6 : Below wc.heap.size wc w36 := BC55.out.trans (hd36.below.mono BC55.out.size); have hzc6 := hbc6.size; have g0 := (hbc6.cell (p := ⟨v5.heap.size, 0, none⟩) (by simp only; omega)).trans m0; have g1 := (hbc6.cell (p := ⟨v5.heap.size, 1, none⟩) (by simp only; omega)).trans m1; have g2 := (hbc6.cell (p := ⟨v5.heap.size, 2, none⟩) (by simp only; omega)).trans m2; have g3 := (hbc6.cell (p := ⟨v5.heap.size, 3, none⟩) (by simp only; omega)).trans m3; have g4 := (hbc6.cell (p := ⟨v5.heap.size, 4, none⟩) (by simp only; omega)).trans m4; have g5 := (hbc6.cell (p := ⟨v5.heap.size, 5, none⟩) (by simp only; omega)).trans m5; have g6 := (hbc6.cell (p := ⟨v5.heap.size, 6, none⟩) (by simp only; omega)).trans m6; have BC6 := Lib.hid hbc6; clear hd36 hbc6))
            all_goals go_wp2
            all_goals go_ret
            all_goals exact ⟨rfl, HHC.out.trans (Hold.of_below (BC6.out.mono (by omega)))⟩
end Go.Proofs.YtgcpiofpjogjcaaGreatDoor.PK
end
