/-
  Parts of the proof: Sx, Sy.
-/
import Derived.Test.YtgcpiofpjogjcaaDoorQ6
import Derived.Test.YtgcpiofpjogjcaaDoorQ1
section
/-
  DiskSwaps, walked.
-/
namespace Go.Proofs.YtgcpiofpjogjcaaDoor.PK
open Go.RowKit Go.Maps Go.Sort Go.Proofs.YtgcpiofpjogjcaaDoorW.PrintWords
set_option linter.unusedVariables false
set_option linter.unusedSimpArgs false
variable {own : Nat → Prop} {w w' : World}

theorem loaded_one {S : Dk} {f : List Int} (h : Loaded S 16777216 [(nmK, f)]) : ∃ f0, P0 S 0 [] f0 f := by
  have hc := h.cont
  have hl : S.now.length = 1 := by rw [show S.now.length = (cont S.dat S.now).length from by simp [cont], hc]; rfl
  obtain ⟨p, hp⟩ := List.length_eq_one_iff.1 hl
  rw [hp] at hc
  obtain ⟨k, f0⟩ := p
  simp only [cont, List.map_cons, List.map_nil, List.cons.injEq, Prod.mk.injEq, and_true] at hc
  obtain ⟨rfl, h2⟩ := hc
  refine ⟨f0, h.room, h.steps, h.calm.plan, hp, by rw [h.safe, hp], h.chg, h2, ?_⟩
  rw [h.saf (nmK, f0) (by rw [hp]; simp), h2]
theorem P0.planned {S : Dk} {st : Int} {f0 : Nat} {old : List Int} (h : P0 S st [] f0 old) (fs : List Fat) : P0 { S with plan := fs } st fs f0 old := ⟨h.room, h.steps, rfl, h.now, h.safe, h.chg, h.dat, h.saf⟩
theorem ld_one (old : List Int) : ldC [] [(nmB, old)] = (0, [(nmK, old)]) := by
  have h : refuseC [] nmB = 0 := by decide +kernel
  rw [ldC, if_pos h, ldC]
  rfl
theorem Good.woke {S S' : Dk} {X : List Int → Prop} {ks : List Int} (h : Good S X) (hw : S.woke S' (S.leftCont ks)) (hs : Srt S'.now) : ∃ x g, X x ∧ look S'.now nmK = some g ∧ S'.dat g = x := by
  obtain ⟨_, x, hx, hm⟩ := h.left ks
  rw [← hw.cont] at hm
  obtain ⟨p, hp, hpe⟩ := List.mem_map.1 hm
  injection hpe with h1 h2
  refine ⟨x, p.2, hx, ?_, h2⟩
  rw [← h1]
  exact look_of_mem hs hp
theorem fileC_one {A : Option Addr} {c : Nat} {xs : List Int} (h : Kd.C (Kd.int .u8) w A xs.length xs) (hc : xs.length ≤ c) : fileK.C (w.alloc (.cells #[.string nmB, .slice A xs.length c] 47)) (some ⟨w.heap.size, 0, none⟩) 1 [(nmB, xs)] := by
  refine ⟨rfl, by simp, fun _ => ⟨_, rfl, fun j p hj => ?_⟩⟩
  cases j with
  | zero =>
    simp only [List.getElem?_cons_zero, Option.some.injEq] at hj
    subst hj
    refine ⟨[.string nmB, .slice A xs.length c], rfl, ⟨[.string nmB], [.slice A xs.length c], rfl, rfl, A, c, rfl, hc, Kd.C_below h ((Below.refl _ _).alloc (Nat.le_refl _) _)⟩, fun i u hu => ?_⟩
    rw [addr_add]
    rcases i with _ | _ | i
    · simp at hu; subst hu; simp [World.cell?_alloc_at]
    · simp at hu; subst hu; simp [World.cell?_alloc_at]
    · simp at hu
  | succ j => simp at hj
/-- What is under way between the calls. -/
structure At (w : World) (own : Nat → Prop) (d : Nat) (S : Dk) (w' : World) : Prop where
  disk : DiskAt w' own d S
  turn : Turn own w w'
theorem Good.read {d : Nat} {S S' : Dk} {X : List Int → Prop} {ks : List Int} (h : Good S X) (hX : ∀ x, X x → x.length ≤ 1048576) (hw : S.woke S' (S.leftCont ks)) (hD : DiskAt w own d S') :
    ∃ x, X x ∧ (Calls Tryd.prog 13 #[.pointer (some ⟨d, 0, none⟩), .string nmB] w fun e w' => e = .returned (.tuple #[.int .i64 (x.length : Int), .int .i64 0]) ∧ w = w') ∧
      Calls Tryd.prog 14 #[.pointer (some ⟨d, 0, none⟩), .string nmB, .int .i64 0, .int .i64 x.length] w (ReadMade x w) := by
  obtain ⟨x, g, hx, hl, rfl⟩ := h.woke hw hD.sorted
  refine ⟨_, hx, ?_, ?_⟩
  · have hsz := size_any d S' nmB w hD (by decide)
    have e1 : S'.find nmB = some g := by unfold Dk.find; rw [hw.off]; exact hl
    have e2 : S'.findErr nmB = 0 := by
      unfold Dk.findErr
      rw [hw.off, show look S'.now (key nmB) = some g from hl]
      simp
    rw [e1, e2] at hsz
    exact hsz
  · have hrd := read_any d S' nmB g (S'.dat g).length w hD (by decide) hw.off hl (Nat.le_refl _)
    rw [List.take_length] at hrd
    exact hrd
def TrueBelow (w : World) (e : Ending) (w' : World) : Prop := e = .returned (.bool true) ∧ Below w.heap.size w w'
set_option maxRecDepth 100000 in
set_option maxHeartbeats 6400000 in
theorem diskSwaps_any (A0 A1 A2 A3 : Option Addr) (c0 c1 c2 c3 : Nat) (old fresh : List Int) (fs : List Fat) (ks : List Int) (w : World)
    (h0 : Kd.C (Kd.int .u8) w A0 old.length old) (hc0 : old.length ≤ c0) (b0 : ∀ x ∈ old, 0 ≤ x ∧ x < 256) (hl0 : old.length ≤ 140737488355328)
    (h1 : Kd.C (Kd.int .u8) w A1 fresh.length fresh) (hc1 : fresh.length ≤ c1) (b1 : ∀ x ∈ fresh, 0 ≤ x ∧ x < 256)
    (h2 : fatK.C w A2 fs.length fs) (hl2 : fs.length ≤ 5864062014805) (hf : ∀ c ∈ fs, (Lit.int .i64 c.step).wf = true ∧ (Lit.int .i64 c.kind).wf = true ∧ (Lit.int .i64 c.n).wf = true)
    (h3 : Kd.C (Kd.int .i64) w A3 ks.length ks) (hc3 : ks.length ≤ c3) :
    Calls Tryd.prog 4 #[.slice A0 old.length c0, .slice A1 fresh.length c1, .slice A2 fs.length c2, .slice A3 ks.length c3] w (TrueBelow w) := by
  have hal := alive_any w
  have Z0 := Lib.hid h0; have Z1 := Lib.hid h1; have Z2 := Lib.hid h2; have Z3 := Lib.hid h3; have Y0 := Lib.hid b0; have Y1 := Lib.hid b1; have Y2 := Lib.hid hf
  clear h0 h1 h2 h3 b0 b1 hf
  go_enter Tryd.func4, Tryd.ntmps4
  go_wp2_with fail
  go_at_call 5
  refine hal.mono ?_
  rintro e w1 ⟨rfl, hb1⟩
  have hcp := copy_any A0 c0 old w1 (Kd.C_below Z0.out hb1) hc0 hl0
  have B1 := Lib.hid hb1
  clear hal hb1
  go_wp2_with fail
  go_at_call 9
  refine hcp.mono ?_
  rintro e w2 ⟨A', c', rfl, hrow, hb2⟩
  obtain ⟨hC2, hcc⟩ := row_C hrow
  have b2 := B1.out.trans (hb2.mono B1.out.size)
  have hld : ∀ w5, w5 = w2.alloc (.cells #[.string nmB, .slice A' old.length c'] 47) → Calls Tryd.prog 19 #[.int .i64 16777216, .slice (some ⟨w2.heap.size, 0, none⟩) 1 1] w5 fun e w' => ∃ (own : Nat → Prop) (d : Nat) (S : Dk) (f0 : Nat), e = .returned (.tuple #[.pointer (some ⟨d, 0, none⟩), .int .i64 0]) ∧ P0 S 0 [] f0 old ∧ S.off = false ∧ S.fs f0 ∧ DiskAt w' own d S ∧ Below w.heap.size w w' ∧ Fresh own w' ∧ (∀ k, own k → w.heap.size ≤ k) := by
    rintro w5 rfl
    have b5 := b2.alloc b2.size (.cells #[.string nmB, .slice A' old.length c'] 47)
    refine (load_any 16777216 (some ⟨w2.heap.size, 0, none⟩) 1 [(nmB, old)] _ (fileC_one hC2 hcc) (fun p hp => by rw [List.mem_singleton.1 hp]; exact ⟨show nmB.size ≤ 9223372036854775807 from by decide, hl0, Y0.out⟩)).mono ?_
    rintro e w6 (⟨hne, _⟩ | ⟨_, d, S, rfl, hL, hD, hb⟩)
    · rw [ld_one] at hne; exact absurd rfl hne
    · rw [ld_one] at hL
      obtain ⟨f0, hP⟩ := loaded_one hL
      exact ⟨_, d, S, f0, rfl, hP, hL.calm.off, hD.fs (k := nmK) (by rw [hP.now]; rfl), hD, b5.trans (hb.mono b5.size), fun k hk => Nat.le_trans hb.size hk, fun k hk => Nat.le_trans b5.size hk⟩
  clear hcp hrow hC2 hcc hb2 B1
  go_wp2_with fail
  go_at_call 19
  refine (hld _ rfl).mono ?_
  clear hld b2
  rintro e w3 ⟨own, d, S, f0, rfl, hP, hoff, hfs, hD, b3, hF, ho⟩
  by_cases hy : fresh.length ≤ 1048576
  rotate_left
  · have hd1 : decide ((1048576 : Int) < ↑fresh.length) = true := by simp; omega
    go_wp2
    go_ret
    exact ⟨rfl, b3⟩
  have hd1 : decide ((1048576 : Int) < ↑fresh.length) = false := by simp; omega
  by_cases hx : old.length ≤ 1048576
  rotate_left
  · have hd2 : decide ((1048576 : Int) < ↑old.length) = true := by simp; omega
    go_wp2
    go_ret
    exact ⟨rfl, b3⟩
  have hd2 : decide ((1048576 : Int) < ↑old.length) = false := by simp; omega
  have hbl : ∀ w9, Turn own w3 w9 → Below w.heap.size w w9 := fun w9 t => b3.trans (t.below ho b3.size)
  have hpl := plan_any d S A2 c2 fs w3 hD hF (Kd.C_below Z2.out b3) hl2 Y2.out
  have hP := hP.planned fs
  obtain ⟨S1, hS1⟩ : ∃ S1 : Dk, S1 = { S with plan := fs } := ⟨_, rfl⟩
  have hoff1 : S1.off = false := by rw [hS1]; exact hoff
  have hfs1 : S1.fs f0 := by rw [hS1]; exact hfs
  rw [← hS1] at hpl hP
  have BL := Lib.hid hbl; have HF := Lib.hid hF; have HP := Lib.hid hP; have OF := Lib.hid hoff1; have FS := Lib.hid hfs1
  clear hbl hF hP hoff hfs hD hS1 hoff1 hfs1 b3 ho
  go_wp2_with fail
  go_at_call 20
  refine hpl.mono ?_
  rintro e w4 ⟨rfl, hD4, t4⟩
  have hcr := create_any d S1 tmB w4 hD4 (HF.out.step t4.size) (by decide) (by rw [HP.out.steps]; decide) (by rw [HP.out.plan]; omega) (by rw [HP.out.chg]; decide)
  have T4 := Lib.hid t4
  clear hpl hD4 t4
  go_upto_region 7 with fail
  go_cut [11] (fun v11 wc => ∃ (b : Bool) (S' : Dk), v11 = .bool b ∧ RowKit.Hid ((b = true → S'.off = false ∧ ∃ f1, P2 S' 4 fs f0 f1 old fresh) ∧ (b = false → Good S' fun y => y = old ∨ y = fresh)) ∧ RowKit.Hid (DiskAt wc own d S') ∧ RowKit.Hid (Turn own w3 wc))
  case first =>
    go_wp2_with fail
    go_at_call 7
    refine hcr.mono ?_
    rintro e w5 ⟨x5, S5, rfl, hS5, hD5, ht5⟩
    have t5 := T4.out.trans ht5
    have hq5 := HP.out.create FS.out OF.out hS5
    have T5 := Lib.hid t5; have D5 := Lib.hid hD5
    clear hcr hS5 ht5 t5 hD5 T4
    rcases hq5 with ⟨rfl, o5, f1, p5⟩ | ⟨hx5, g5⟩
    rotate_left
    · have w0 : (x5 == 0) = false := by simpa using hx5
      have g5 := g5.imp (Y := fun y => y = old ∨ y = fresh) (fun y e => .inl e)
      clear hx5
      go_wp2_with fail
      go_meet
      exact ⟨false, S5, rfl, ⟨fun h => (by cases h), fun _ => g5⟩, D5, T5⟩
    have P5 := Lib.hid p5; have O5 := Lib.hid o5
    clear p5 o5
    have hcp := copy_any A1 c1 fresh w5 (Kd.C_below Z1.out (BL.out _ T5.out)) hc1 (by omega)
    go_wp2_with fail
    go_at_call 9
    refine hcp.mono ?_
    rintro e w6 ⟨A6, c6, rfl, hrow, hb6⟩
    have l5 := D5.out.lt
    have hA6 : ∀ a, A6 = some a → a.block ≠ d := fun a ha => by
      subst ha
      have := own_base hrow _ rfl
      omega
    have t6 := T5.out.trans (Turn.of_below hb6)
    have hap := append_all d S5 tmB A6 c6 fresh w6 (D5.out.below hb6) (HF.out.step t6.size) (by decide) (row_C hrow).1 Y1.out hA6 (row_C hrow).2 (by rw [P5.out.stg.steps]; decide) (by rw [P5.out.stg.plan]; omega)
    have T6 := Lib.hid t6
    clear hcp hrow hb6 hA6 l5 t6 D5 T5
    go_wp2_with fail
    go_at_call 8
    refine hap.mono ?_
    rintro e w7 ⟨x7, S7, rfl, hS7, hD7, ht7⟩
    have t7 := T6.out.trans ht7
    have hq7 := P5.out.append O5.out hx hy hS7
    have T7 := Lib.hid t7; have D7 := Lib.hid hD7
    clear hap hS7 ht7 t7 hD7 T6 P5 O5
    rcases hq7 with ⟨rfl, o7, p7⟩ | ⟨hx7, g7⟩
    rotate_left
    · have w0 : (x7 == 0) = false := by simpa using hx7
      have g7 := g7.imp (Y := fun y => y = old ∨ y = fresh) (fun y e => .inl e)
      clear hx7
      go_wp2_with fail
      go_meet
      exact ⟨false, S7, rfl, ⟨fun h => (by cases h), fun _ => g7⟩, D7, T7⟩
    have P7 := Lib.hid p7; have O7 := Lib.hid o7
    clear p7 o7
    have hsy := sync_any d S7 tmB w7 D7.out (HF.out.step T7.out.size) (by decide) (by rw [P7.out.stg.steps]; decide) (by rw [P7.out.stg.plan]; omega)
    go_wp2_with fail
    go_at_call 10
    refine hsy.mono ?_
    rintro e w8 ⟨x8, S8, rfl, hS8, hD8, ht8⟩
    have t8 := T7.out.trans ht8
    have hq8 := P7.out.sync O7.out hS8
    have T8 := Lib.hid t8; have D8 := Lib.hid hD8
    clear hsy hS8 ht8 t8 hD8 T7 P7 O7 D7
    rcases hq8 with ⟨rfl, o8, p8⟩ | ⟨hx8, g8⟩
    rotate_left
    · have w0 : (x8 == 0) = false := by simpa using hx8
      have g8 := g8.imp (Y := fun y => y = old ∨ y = fresh) (fun y e => .inl e)
      clear hx8
      go_wp2_with fail
      go_meet
      exact ⟨false, S8, rfl, ⟨fun h => (by cases h), fun _ => g8⟩, D8, T8⟩
    have P8 := Lib.hid p8; have O8 := Lib.hid o8
    clear p8 o8
    have hre := rename_any d S8 tmB nmB w8 D8.out (HF.out.step T8.out.size) (by decide) (by decide) (fun _ => by decide) (by rw [P8.out.stg.chg]; simp) (by rw [P8.out.stg.steps]; decide) (by rw [P8.out.stg.plan]; omega)
    go_wp2_with fail
    go_at_call 21
    refine hre.mono ?_
    rintro e w9 ⟨x9, S9, rfl, hS9, hD9, ht9⟩
    have t9 := T8.out.trans ht9
    have hq9 := P8.out.rename O8.out hS9
    have T9 := Lib.hid t9; have D9 := Lib.hid hD9
    clear hre hS9 ht9 t9 hD9 T8 P8 O8 D8
    rcases hq9 with ⟨rfl, o9, p9⟩ | ⟨hx9, g9⟩
    rotate_left
    · have w0 : (x9 == 0) = false := by simpa using hx9
      have g9 := g9
      clear hx9
      go_wp2_with fail
      go_meet
      exact ⟨false, S9, rfl, ⟨fun h => (by cases h), fun _ => g9⟩, D9, T9⟩
    go_wp2_with fail
    go_meet
    exact ⟨true, S9, rfl, ⟨fun _ => ⟨o9, f1, p9⟩, fun h => (by cases h)⟩, D9, T9⟩
  case rest =>
    obtain ⟨b, S9, rfl, hq, D9, T9⟩ := hcut
    clear hcr T4 HP OF FS
    cases b with
    | false =>
      have g9 := hq.out.2 rfl
      clear hq
      have hbt := BL.out _ T9.out
      have hon := on_any d S9 A3 c3 ks wc D9.out (HF.out.step T9.out.size) (Kd.C_below Z3.out hbt) hc3 (Nat.le_trans g9.chg (by decide)) g9.safe (g9.left ks).1
      have GG := Lib.hid g9
      clear hbt g9
      go_wp2_with fail
      go_at_call 12
      refine hon.mono ?_
      rintro e wa ⟨rfl, ⟨Sa, hwo, hDa⟩, hta⟩
      have ta := T9.out.trans hta
      have ba := BL.out _ ta
      obtain ⟨x, hxx, hsz, hrd⟩ := GG.out.read (by first | exact fun y e => e ▸ hy | exact fun y e => e.elim (fun e => e ▸ hx) (fun e => e ▸ hy)) hwo hDa
      have BA := Lib.hid ba
      clear hon hwo hDa hta ta GG ba
      go_wp2_with fail
      go_at_call 13
      refine hsz.mono ?_
      rintro e wa' ⟨rfl, rfl⟩
      go_wp2_with fail
      go_at_call 14
      refine hrd.mono ?_
      rintro e wb ⟨A5, c5, rfl, hrow5, hbb⟩
      have bb := BA.out.trans (hbb.mono BA.out.size)
      have hC5 := row_C hrow5
      have hxl : x.length < 9223372036854775807 := by rcases hxx with rfl | rfl <;> omega
      have hsm0 := same_any A5 A0 c5 c0 x old wb hC5.1 hC5.2 (Kd.C_below Z0.out bb) hc0 hxl
      have hsm1 := fun wc (hb : Below w.heap.size w wc) (hb2 : Below wb.heap.size wb wc) => same_any A5 A1 c5 c1 x fresh wc (Kd.C_below hC5.1 hb2) hC5.2 (Kd.C_below Z1.out hb) hc1 hxl
      have BB := Lib.hid bb; have HS1 := Lib.hid hsm1
      clear hrow5 hbb bb hC5 hrd hsz BA hsm1
      by_cases hxo : x = old
      · rw [show decide (x = old) = true from by simpa using hxo] at hsm0
        clear hxx hxo hxl
        go_wp2_with (go_at_call 15; with_reducible refine hsm0.mono ?_; rintro e wc ⟨rfl, hdr⟩)
        go_ret
        exact ⟨rfl, BB.out.trans (hdr.below.mono BB.out.size)⟩
      · have hxf : x = fresh := hxx.resolve_left hxo
        rw [show decide (x = old) = false from by simpa using hxo] at hsm0
        have HSM := Lib.hid hsm0; have HXF := Lib.hid (show decide (x = fresh) = true from by simpa using hxf)
        clear hxx hxo hxl hxf hsm0
        go_wp2_with fail
        go_at_call 15
        with_reducible refine HSM.out.mono ?_
        rintro e wc ⟨rfl, hdr⟩
        have bc := BB.out.trans (hdr.below.mono BB.out.size)
        have hsm1 := HS1.out wc bc hdr.below
        rw [HXF.out] at hsm1
        go_wp2_with (go_at_call 15; with_reducible refine hsm1.mono ?_; rintro e wd ⟨rfl, hdr2⟩)
        go_ret
        exact ⟨rfl, bc.trans (hdr2.below.mono bc.size)⟩
    | true =>
      obtain ⟨o9, f1, p9⟩ := hq.out.1 rfl
      have P9 := Lib.hid p9; have O9 := Lib.hid o9
      clear p9 o9 hq
      have hsd := syncDir_any d S9 wc D9.out (HF.out.step T9.out.size) (by rw [P9.out.stg.steps]; decide) (by rw [P9.out.stg.plan]; omega)
      go_wp2_with fail
      go_at_call 11
      refine hsd.mono ?_
      rintro e w10 ⟨x10, S10, rfl, hS10, hD10, ht10⟩
      have t10 := T9.out.trans ht10
      have hq10 := P9.out.syncDir O9.out hS10
      have T10 := Lib.hid t10; have D10 := Lib.hid hD10
      clear hsd hS10 ht10 t10 hD10 T9 P9 O9 D9
      rcases hq10 with ⟨rfl, g10⟩ | ⟨hx10, g10⟩
      rotate_left
      · have w0 : (x10 == 0) = false := by simpa using hx10
        clear hx10
        have hbt := BL.out _ T10.out
        have hon := on_any d S10 A3 c3 ks w10 D10.out (HF.out.step T10.out.size) (Kd.C_below Z3.out hbt) hc3 (Nat.le_trans g10.chg (by decide)) g10.safe (g10.left ks).1
        have GG := Lib.hid g10
        clear hbt g10
        go_wp2_with fail
        go_at_call 12
        refine hon.mono ?_
        rintro e wa ⟨rfl, ⟨Sa, hwo, hDa⟩, hta⟩
        have ta := T10.out.trans hta
        have ba := BL.out _ ta
        obtain ⟨x, hxx, hsz, hrd⟩ := GG.out.read (by first | exact fun y e => e ▸ hy | exact fun y e => e.elim (fun e => e ▸ hx) (fun e => e ▸ hy)) hwo hDa
        have BA := Lib.hid ba
        clear hon hwo hDa hta ta GG ba
        go_wp2_with fail
        go_at_call 13
        refine hsz.mono ?_
        rintro e wa' ⟨rfl, rfl⟩
        go_wp2_with fail
        go_at_call 14
        refine hrd.mono ?_
        rintro e wb ⟨A5, c5, rfl, hrow5, hbb⟩
        have bb := BA.out.trans (hbb.mono BA.out.size)
        have hC5 := row_C hrow5
        have hxl : x.length < 9223372036854775807 := by rcases hxx with rfl | rfl <;> omega
        have hsm0 := same_any A5 A0 c5 c0 x old wb hC5.1 hC5.2 (Kd.C_below Z0.out bb) hc0 hxl
        have hsm1 := fun wc (hb : Below w.heap.size w wc) (hb2 : Below wb.heap.size wb wc) => same_any A5 A1 c5 c1 x fresh wc (Kd.C_below hC5.1 hb2) hC5.2 (Kd.C_below Z1.out hb) hc1 hxl
        have BB := Lib.hid bb; have HS1 := Lib.hid hsm1
        clear hrow5 hbb bb hC5 hrd hsz BA hsm1
        by_cases hxo : x = old
        · rw [show decide (x = old) = true from by simpa using hxo] at hsm0
          clear hxx hxo hxl
          go_wp2_with (go_at_call 15; with_reducible refine hsm0.mono ?_; rintro e wc ⟨rfl, hdr⟩)
          go_ret
          exact ⟨rfl, BB.out.trans (hdr.below.mono BB.out.size)⟩
        · have hxf : x = fresh := hxx.resolve_left hxo
          rw [show decide (x = old) = false from by simpa using hxo] at hsm0
          have HSM := Lib.hid hsm0; have HXF := Lib.hid (show decide (x = fresh) = true from by simpa using hxf)
          clear hxx hxo hxl hxf hsm0
          go_wp2_with fail
          go_at_call 15
          with_reducible refine HSM.out.mono ?_
          rintro e wc ⟨rfl, hdr⟩
          have bc := BB.out.trans (hdr.below.mono BB.out.size)
          have hsm1 := HS1.out wc bc hdr.below
          rw [HXF.out] at hsm1
          go_wp2_with (go_at_call 15; with_reducible refine hsm1.mono ?_; rintro e wd ⟨rfl, hdr2⟩)
          go_ret
          exact ⟨rfl, bc.trans (hdr2.below.mono bc.size)⟩
      have hbt := BL.out _ T10.out
      have hon := on_any d S10 A3 c3 ks w10 D10.out (HF.out.step T10.out.size) (Kd.C_below Z3.out hbt) hc3 (Nat.le_trans g10.chg (by decide)) g10.safe (g10.left ks).1
      have GG := Lib.hid g10
      clear hbt g10
      go_wp2_with fail
      go_at_call 12
      refine hon.mono ?_
      rintro e wa ⟨rfl, ⟨Sa, hwo, hDa⟩, hta⟩
      have ta := T10.out.trans hta
      have ba := BL.out _ ta
      obtain ⟨x, hxx, hsz, hrd⟩ := GG.out.read (by first | exact fun y e => e ▸ hy | exact fun y e => e.elim (fun e => e ▸ hx) (fun e => e ▸ hy)) hwo hDa
      have BA := Lib.hid ba
      clear hon hwo hDa hta ta GG ba
      have hxe : x = fresh := hxx
      rw [hxe] at hsz hrd
      clear hxe hxx
      go_wp2_with fail
      go_at_call 13
      refine hsz.mono ?_
      rintro e wa' ⟨rfl, rfl⟩
      go_wp2_with fail
      go_at_call 14
      refine hrd.mono ?_
      rintro e wb ⟨A5, c5, rfl, hrow5, hbb⟩
      have bb := BA.out.trans (hbb.mono BA.out.size)
      have hC5 := row_C hrow5
      have hsm := same_any A5 A1 c5 c1 fresh fresh wb hC5.1 hC5.2 (Kd.C_below Z1.out bb) hc1 (by omega)
      rw [show decide (fresh = fresh) = true from by simp] at hsm
      have BB := Lib.hid bb
      clear hrow5 hbb bb hC5 hrd hsz BA
      go_wp2_with (go_at_call 15; with_reducible refine hsm.mono ?_; rintro e wc ⟨rfl, hdr⟩)
      go_ret
      exact ⟨rfl, BB.out.trans (hdr.below.mono BB.out.size)⟩
end Go.Proofs.YtgcpiofpjogjcaaDoor.PK
end
section
/-
  DiskSwaps' arguments: fates.
-/
namespace Go.Proofs.YtgcpiofpjogjcaaDoor.PK
open Go.RowKit Go.Maps Go.Sort Go.Proofs.YtgcpiofpjogjcaaDoorW.PrintWords
set_option linter.unusedVariables false
set_option linter.unusedSimpArgs false
variable {w : World}

def toFat (p : Int × Int × Int) : Fat := ⟨p.1, p.2.1, p.2.2⟩
theorem fatC_of {A : Option Addr} {n : Nat} {l : List (Int × Int × Int)} (h : kFate.C w A n l) : fatK.C w A n (l.map toFat) := by
  refine ⟨by rw [List.length_map]; exact h.1, h.2.1, fun hp => ?_⟩
  obtain ⟨ad, rfl, hr⟩ := h.2.2 hp
  refine ⟨ad, rfl, fun j p hj => ?_⟩
  rw [List.getElem?_map] at hj
  obtain ⟨q, hq, rfl⟩ := Option.map_eq_some_iff.1 hj
  obtain ⟨c, h1, ⟨_, _, rfl, rfl, _, _, rfl, rfl, rfl⟩, h3⟩ := hr j q hq
  exact ⟨_, h1, rfl, h3⟩
end Go.Proofs.YtgcpiofpjogjcaaDoor.PK
end
