/-
  DiskSafe, walked: what was synced under a safe name is there behind every crash.
-/
import Derived.Test.YtgcpiofpjogjcaaDoorDy
import Derived.Test.YtgcpiofpjogjcaaDoorEa
namespace Go.Proofs.YtgcpiofpjogjcaaDoor.PK
open Go.RowKit Go.Maps Go.Sort Go.Proofs.YtgcpiofpjogjcaaDoorW.PrintWords
set_option linter.unusedVariables false
set_option linter.unusedSimpArgs false
variable {own : Nat → Prop} {w w' : World}

theorem look_applyC {l : Dir} {c : Chg} {k : List UInt8} (ha : c.a = ⟨#[]⟩) (hb : key c.b ≠ k) : look (applyC l c) k = look l k := by
  unfold applyC
  simp only [ha, if_true]
  split
  · rfl
  · split
    · rw [look_put, if_neg (fun e => hb e.symm)]
    · rfl
theorem look_foldl {k : List UInt8} : ∀ {cs : List Chg} {l : Dir}, (∀ c ∈ cs, c.a = ⟨#[]⟩ ∧ key c.b ≠ k) → look (cs.foldl applyC l) k = look l k
  | [], l, _ => rfl
  | c :: cs, l, h => by
    rw [List.foldl_cons, look_foldl (fun c' hc => h c' (List.mem_cons_of_mem _ hc)), look_applyC (h c (List.mem_cons_self ..)).1 (h c (List.mem_cons_self ..)).2]
theorem length_put_new {l : Dir} {k : List UInt8} {f : Nat} (h : look l k = none) : (put l k f).length = l.length + 1 := by
  unfold put
  rw [length_ins, del_same h]

/-- While other files are made: file f has the name k safely. -/
structure Grow (S : Dk) (k : List UInt8) (f : Nat) (xs : List Int) (s : Nat) (n : Int) : Prop where
  calm : S.calm
  safe : S.safe = [(k, f)]
  dat : S.dat f = xs
  saf : S.saf f = s
  chg : ∀ c ∈ S.chg, c.a = ⟨#[]⟩ ∧ key c.b ≠ k
  len : S.now.length = S.chg.length + 1
  steps : S.steps ≤ n
section
variable {S : Dk} {d : Nat} {k : List UInt8} {f s : Nat} {xs : List Int} {n : Int}
theorem Grow.create (h : DiskAt w own d S) (hG : Grow S k f xs s n) {b : ByteArray} (hb : key b ≠ k) {S' : Dk} (hc : S.stepped.created b S') : Grow S' k f xs s (n + 1) := by
  have hn := hG.steps
  unfold Dk.created at hc
  split at hc
  · next hr =>
    obtain ⟨g, hg, rfl⟩ := hc
    have hfs : S.fs f := by
      obtain ⟨bn, bs, pc, cc, pp, cp, pd, cd, h⟩ := h
      exact h.ref f (.inr (.inl ⟨k, by rw [hG.safe]; simp⟩))
    have hfg : f ≠ g := fun e => hg (e ▸ hfs)
    have hl : look S.now (key b) = none := by
      unfold Dk.refuse at hr
      by_cases h1 : bad b = true
      · rw [if_pos h1] at hr; omega
      · rw [if_neg h1] at hr
        by_cases h2 : look S.stepped.now (key b) = none
        · exact h2
        · rw [if_pos h2] at hr; omega
    have hbe : b ≠ ⟨#[]⟩ := by
      rintro rfl
      unfold Dk.refuse at hr
      rw [if_pos (by decide +kernel)] at hr
      omega
    refine ⟨⟨hG.calm.plan, hG.calm.off⟩, hG.safe, ?_, ?_, ?_, ?_, ?_⟩
    · show upd S.dat g [] f = xs
      rw [upd_other _ _ hfg]; exact hG.dat
    · show upd S.saf g 0 f = s
      rw [upd_other _ _ hfg]; exact hG.saf
    · intro c hc
      rcases List.mem_append.1 hc with hc | hc
      · exact hG.chg c hc
      · obtain rfl := List.mem_singleton.1 hc
        exact ⟨rfl, hb⟩
    · show (applyC S.now ⟨⟨#[]⟩, b, some g⟩).length = (S.chg ++ _).length + 1
      unfold applyC
      simp only [if_true, if_neg hbe]
      rw [length_put_new hl, hG.len]; simp
    · show S.steps + 1 ≤ n + 1
      omega
  · subst hc
    exact ⟨⟨hG.calm.plan, hG.calm.off⟩, hG.safe, hG.dat, hG.saf, hG.chg, hG.len, by show S.steps + 1 ≤ n + 1; omega⟩
theorem DiskAt.now1 (h : DiskAt w own d S) : S.now.length ≤ 400 := by
  obtain ⟨bn, bs, pc, cc, pp, cp, pd, cd, h⟩ := h
  exact h.now1
theorem Grow.left (h : DiskAt w own d S) (hG : Grow S k f xs s n) (ks : List Int) : look (S.leftDir ks) k = some f ∧ (S.leftDir ks).length ≤ 400 := by
  have h1 := h.now1
  have h2 := hG.len
  constructor
  · unfold Dk.leftDir
    rw [look_foldl (fun c hc => hG.chg c (List.mem_of_mem_take hc)), hG.safe]
    simp [look]
  · unfold Dk.leftDir
    have h3 := foldl_length (S.chg.take (keepN ks 0)) S.safe
    rw [List.length_take, hG.safe] at h3
    simp only [List.length_singleton] at h3
    rw [hG.safe]
    omega
end
def GrowAt (w : World) (d : Nat) (k : List UInt8) (f : Nat) (xs : List Int) (s : Nat) (n : Int) (wr : World) : Prop := ∃ S, Grow S k f xs s n ∧ DiskAt wr (fun k => w.heap.size ≤ k) d S ∧ Turn (fun k => w.heap.size ≤ k) w wr
def TrueBelow (w : World) (e : Ending) (w' : World) : Prop := e = .returned (.bool true) ∧ Below w.heap.size w w'

set_option maxRecDepth 100000 in
set_option maxHeartbeats 6400000 in
theorem diskSafe_any (A0 A1 A2 A3 : Option Addr) (c0 c1 c2 c3 : Nat) (xs ys : List Int) (ns : List ByteArray) (ks : List Int) (w : World)
    (h0 : Kd.C (Kd.int .u8) w A0 xs.length xs) (hc0 : xs.length ≤ c0) (b0 : ∀ x ∈ xs, 0 ≤ x ∧ x < 256) (h1 : Kd.C (Kd.int .u8) w A1 ys.length ys) (hc1 : ys.length ≤ c1) (b1 : ∀ x ∈ ys, 0 ≤ x ∧ x < 256)
    (h2 : Kd.C Kd.string w A2 ns.length ns) (hn2 : ns.length ≤ 140737488355328) (hs2 : ∀ s ∈ ns, s.size ≤ 9223372036854775807) (h3 : Kd.C (Kd.int .i64) w A3 ks.length ks) (hc3 : ks.length ≤ c3) :
    Calls Tryd.prog 3 #[.slice A0 xs.length c0, .slice A1 ys.length c1, .slice A2 ns.length c2, .slice A3 ks.length c3] w (TrueBelow w) := by
  have hal := alive_any w
  have hl0 := h0.2.1
  have hl1 := h1.2.1
  have hl2 := h2.2.1
  have Z0 := Lib.hid h0; have Z1 := Lib.hid h1; have Z2 := Lib.hid h2; have Z3 := Lib.hid h3; have Y0 := Lib.hid b0; have Y1 := Lib.hid b1; have Y2 := Lib.hid hs2
  clear h0 h1 h2 h3 b0 b1 hs2
  by_cases hbig : xs.length ≤ 1048576 ∧ ys.length ≤ 1048576
  · obtain ⟨hx, hy⟩ := hbig
    go_enter Tryd.func3, Tryd.ntmps3
    go_wp2_with fail
    go_at_call 5
    refine hal.mono ?_
    rintro e w1 ⟨rfl, hb1⟩
    have hF : Fresh (fun k => w.heap.size ≤ k) w1 := fun k hk => Nat.le_trans hb1.size hk
    have hnew := new_any (own := fun k => w.heap.size ≤ k) 16777216 w1 hF
    have t1 : Turn (fun k => w.heap.size ≤ k) w w1 := Turn.of_below hb1
    have hff : ∀ w2, Turn (fun k => w.heap.size ≤ k) w w2 → Fresh (fun k => w.heap.size ≤ k) w2 := fun w2 t k hk => Nat.le_trans t.size hk
    have FF := Lib.hid hff
    have hd1 : decide ((1048576 : Int) < ↑xs.length) = false := by simp; omega
    have hd2 : decide ((1048576 : Int) < ↑ys.length) = false := by simp; omega
    clear hal hff hF
    go_wp2_with fail
    go_at_call 6
    refine hnew.mono ?_
    rintro e w2 ⟨d, hd, rfl, hD2, hb2⟩
    have t2 := t1.trans (Turn.of_below hb2)
    clear hnew hb2
    go_wp2_with fail
    go_at_call 7
    refine (create_plain d _ ⟨#[102]⟩ w2 hD2 (FF.out _ t2) (new_calm 16777216) (by decide) (by decide) (by decide)).mono ?_
    rw [show (Dk.new 16777216).refuse ⟨#[102]⟩ = 0 from by decide +kernel]
    rintro e w3 ⟨rfl, ⟨S3, hc3', hD3⟩, ht3⟩
    have t3 := t2.trans ht3
    obtain ⟨f, hO3⟩ := One.created (new_calm 16777216) rfl (by decide) (by decide +kernel) hc3'
    have H3 : One S3 16777216 1 [102] f [] 0 [] [⟨⟨#[]⟩, ⟨#[102]⟩, some f⟩] := hO3
    have H3 := Lib.hid H3
    clear hO3 hc3' hD2 ht3
    have hC0 := Kd.C_below Z0.out (t3.below (fun k hk => hk) (Nat.le_refl _))
    have hcp := copy_any A0 c0 xs w3 hC0 hc0 (by omega)
    clear hC0
    go_wp2_with fail
    go_at_call 9
    refine hcp.mono ?_
    rintro e w4 ⟨A4, c4, rfl, hrow4, hb4⟩
    have t4 := t3.trans (Turn.of_below hb4)
    have l3 := hD3.lt
    have hA4 : ∀ a, A4 = some a → a.block ≠ d := fun a ha => by
      subst ha
      have := own_base hrow4 _ rfl
      omega
    have hD4 := hD3.below hb4
    have hap := append_one hD4 (FF.out _ t4) H3.out (b := ⟨#[102]⟩) (by rfl) (by decide) (row_C hrow4).1 Y0.out hA4 (c := c4) (by decide) (by simp; omega)
    clear hcp hb4 hD3 hrow4 hA4
    go_wp2_with fail
    go_at_call 8
    refine hap.mono ?_
    rintro e w5 ⟨rfl, ⟨S5, hO5, hD5⟩, ht5⟩
    have t5 := t4.trans ht5
    have H5 : One S5 16777216 2 [102] f xs 0 [] [⟨⟨#[]⟩, ⟨#[102]⟩, some f⟩] := hO5
    have H5 := Lib.hid H5
    clear hO5 ht5 hap hD4 H3
    go_wp2_with fail
    go_at_call 10
    refine (sync_one hD5 (FF.out _ t5) H5.out (by rfl) (by decide) (by decide)).mono ?_
    rintro e w6 ⟨rfl, ⟨S6, hO6, hD6⟩, ht6⟩
    have t6 := t5.trans ht6
    have H6 : One S6 16777216 3 [102] f xs xs.length [] [⟨⟨#[]⟩, ⟨#[102]⟩, some f⟩] := hO6
    have H6 := Lib.hid H6
    clear hO6 ht6 hD5 H5
    go_wp2_with fail
    go_at_call 11
    refine (syncDir_one hD6 (FF.out _ t6) H6.out (by decide)).mono ?_
    rintro e w7 ⟨rfl, ⟨S7, hO7, hD7⟩, ht7⟩
    have t7 := t6.trans ht7
    have H7 : One S7 16777216 4 [102] f xs xs.length [([102], f)] [] := hO7
    have H7 := Lib.hid H7
    clear hO7 ht7 hD6 H6
    have hC1 := Kd.C_below Z1.out (t7.below (fun k hk => hk) (Nat.le_refl _))
    have hcp := copy_any A1 c1 ys w7 hC1 hc1 (by omega)
    clear hC1
    go_wp2_with fail
    go_at_call 9
    refine hcp.mono ?_
    rintro e w8 ⟨A8, c8, rfl, hrow8, hb8⟩
    have t8 := t7.trans (Turn.of_below hb8)
    have l7 := hD7.lt
    have hA8 : ∀ a, A8 = some a → a.block ≠ d := fun a ha => by
      subst ha
      have := own_base hrow8 _ rfl
      omega
    have hD8 := hD7.below hb8
    have hap := append_one hD8 (FF.out _ t8) H7.out (b := ⟨#[102]⟩) (by rfl) (by decide) (row_C hrow8).1 Y1.out hA8 (c := c8) (by decide) (by omega)
    clear hcp hb8 hD7 hrow8 hA8
    go_wp2_with fail
    go_at_call 8
    refine hap.mono ?_
    rintro e w9 ⟨rfl, ⟨S9, hO9, hD9⟩, ht9⟩
    have t9 := t8.trans ht9
    have hG9 : Grow S9 [102] f (xs ++ ys) xs.length 5 := ⟨hO9.calm, hO9.safe, hO9.dat, hO9.saf, (by rw [hO9.chg]; intro c hc; cases hc), (by rw [hO9.now, hO9.chg]; rfl), (by rw [hO9.steps]; decide)⟩
    have G9 := Lib.hid hG9; have T9 := Lib.hid t9; have D9 := Lib.hid hD9
    clear hO9 ht9 hap hD8 H7 hG9 t9 hD9 t1 t2 t3 t4 t5 t6 t7 t8
    go_wp2_with fail
    go_loopw [11, 62] (fun _ s62 wr => ∃ i : Nat, i ≤ ns.length ∧ s62 = .int .i64 i ∧ GrowAt w d [102] f (xs ++ ys) xs.length (5 + i) wr) (fun _ s62 _ => ns.length - (intOf s62).toNat)
    case atStart => exact ⟨0, Nat.zero_le _, rfl, S9, by simpa using G9.out, D9.out, T9.out⟩
    case round =>
      obtain ⟨i, hi, rfl, S, hG, hD, t⟩ := hrel
      have HG := Lib.hid hG; have HD := Lib.hid hD; have HT := Lib.hid t
      clear hG hD t
      by_cases hlt : i < ns.length
      · have hC2 := (Kd.C_below Z2.out (HT.out.below (fun k hk => hk) (Nat.le_refl _)))
        obtain ⟨ad, rfl, hcell⟩ := (Kd.reads_of_C (d := (⟨#[]⟩ : ByteArray)) hC2).2.2 (by omega)
        have rn := hcell i hlt
        have hsz := Y2.out _ (List.getElem_mem hlt)
        rw [List.getD_eq_getElem?_getD, List.getElem?_eq_getElem hlt] at rn
        simp only [Option.getD_some] at rn
        generalize ns[i] = s at rn hsz
        clear hcell hC2
        by_cases hs : s = ⟨#[102]⟩
        · subst hs
          go_wp2
          exact ⟨⟨i + 1, by omega, by go_num, S, ⟨HG.out.calm, HG.out.safe, HG.out.dat, HG.out.saf, HG.out.chg, HG.out.len, by have := HG.out.steps; omega⟩, HD.out, HT.out⟩, by simp [intOf]; omega⟩
        · have hne := toList_ne hs
          have hcr := create_plain d S s wr HD.out (FF.out _ HT.out) HG.out.calm hsz (by have := HG.out.steps; omega) (by have h1 := HG.out.len; have h2 := HD.out.now1; omega)
          have hks : key s ≠ [102] := fun e => hs (by obtain ⟨⟨l⟩⟩ := s; simp only [key] at e; rw [e])
          have HKS := Lib.hid hks
          clear hs hks
          go_wp2_with (go_at_call 7; refine hcr.mono ?_; rintro e w2 ⟨rfl, ⟨S2, hc2, hD2⟩, ht2⟩)
          · exact ⟨⟨i + 1, by omega, by go_num, S2, (by have := HG.out.create HD.out HKS.out hc2; rw [show (5 : Int) + ((i + 1 : Nat) : Int) = 5 + (i : Int) + 1 from by omega]; exact this), hD2, HT.out.trans ht2⟩, by simp [intOf]; omega⟩
          · exact ⟨⟨i + 1, by omega, by go_num, S, ⟨HG.out.calm, HG.out.safe, HG.out.dat, HG.out.saf, HG.out.chg, HG.out.len, by have := HG.out.steps; omega⟩, HD.out, HT.out⟩, by simp [intOf]; omega⟩
      · obtain rfl : i = ns.length := by omega
        have hBw := HT.out.below (fun k hk => hk) (Nat.le_refl _)
        obtain ⟨hlk, hll⟩ := HG.out.left HD.out ks
        have hon := on_any d S A3 c3 ks wr HD.out (FF.out _ HT.out) (Kd.C_below Z3.out hBw) hc3 (by have h1 := HG.out.len; have h2 := HD.out.now1; omega) (by rw [HG.out.safe]; simp) hll
        have HLK := Lib.hid hlk
        clear hlk hll
        go_wp2_with fail
        go_at_call 12
        refine hon.mono ?_
        rintro e wa ⟨rfl, ⟨Sa, hwo, hDa⟩, hta⟩
        have ta := HT.out.trans hta
        obtain ⟨g, j, hgl, hgd, hgs⟩ := woke_look hwo hDa.sorted HLK.out
        rw [HG.out.dat] at hgd
        unfold Dk.leftLen at hgd
        rw [HG.out.dat, HG.out.saf, List.length_append] at hgd
        obtain ⟨N, hN⟩ : ∃ N, N = xs.length + min (keepN ks (j + 1)) (xs.length + ys.length - xs.length) := ⟨_, rfl⟩
        rw [← hN] at hgd
        have hN1 : xs.length ≤ N := by omega
        have hN2 : N ≤ xs.length + ys.length := by omega
        have hNl : (Sa.dat g).length = N := by rw [hgd, List.length_take, List.length_append]; omega
        have hsz := size_any d Sa ⟨#[102]⟩ wa hDa (by decide)
        have e1 : Sa.find ⟨#[102]⟩ = some g := by unfold Dk.find; rw [hwo.off]; exact hgl
        have e2 : Sa.findErr ⟨#[102]⟩ = 0 := by
          unfold Dk.findErr
          rw [hwo.off, show look Sa.now (key ⟨#[102]⟩) = some g from hgl]
          simp
        rw [e1, e2] at hsz
        simp only [hNl] at hsz
        have hrd := read_any d Sa ⟨#[102]⟩ g N wa hDa (by decide) hwo.off hgl (by omega)
        rw [hgd, List.take_take, Nat.min_self] at hrd
        have hTl : ((xs ++ ys).take N).length = N := by rw [List.length_take, List.length_append]; omega
        have HTL := Lib.hid hTl; have WO := Lib.hid hwo; have DA := Lib.hid hDa; have TA := Lib.hid ta
        clear hon hwo hDa hta ta hgl hgd hgs hN hNl e1 e2 hTl
        go_wp2_with fail
        go_at_call 13
        refine hsz.mono ?_
        rintro e wa' ⟨rfl, rfl⟩
        go_wp2_with fail
        go_at_call 14
        refine hrd.mono ?_
        rintro e wb ⟨A5, c5, rfl, hrow5, hbb⟩
        rw [HTL.out] at hrow5
        have hC5 := row_C hrow5
        have TB := Lib.hid (TA.out.trans (Turn.of_below hbb))
        have DB := Lib.hid (DA.out.below hbb)
        have hBb := TB.out.below (fun k hk => hk) (Nat.le_refl _)
        have hcat := cat_any A0 A1 c0 c1 xs ys wb (Kd.C_below Z0.out hBb) hc0 (Kd.C_below Z1.out hBb) hc1 (by omega)
        have hNx : decide ((xs.length : Int) ≤ (N : Int)) = true := by simp; exact_mod_cast hN1
        have HC5 := Lib.hid hC5
        clear hrow5 hbb hBb hrd hsz hC5
        simp only [HTL.out]
        go_wp2_with fail
        go_at_call 17
        refine hcat.mono ?_
        rintro e wc ⟨A6, c6, rfl, hrow6, hbc⟩
        have hC6 := row_C hrow6
        have hlen6 : (xs ++ ys).length = xs.length + ys.length := List.length_append
        have hpc := piece_any A6 c6 (xs ++ ys) N wc hC6.1 hC6.2 (by omega) (by omega)
        rw [List.length_append] at hpc
        have hC5c := Kd.C_below HC5.out.1 hbc
        have TC := Lib.hid (TB.out.trans (Turn.of_below hbc)); have DC := Lib.hid (DB.out.below hbc); have HC5c := Lib.hid hC5c
        clear hcat hrow6 hbc hC6 hlen6 hC5c
        go_wp2_with fail
        go_at_call 16
        with_reducible refine hpc.mono ?_
        rintro e wd ⟨A7, c7, rfl, hrow7, hbd⟩
        rw [HTL.out] at hrow7
        have hC7 := row_C hrow7
        have hC5d := Kd.C_below HC5c.out hbd
        have hsm := same_any A5 A7 c5 c7 ((xs ++ ys).take N) ((xs ++ ys).take N) wd (by rw [HTL.out]; exact hC5d) (by rw [HTL.out]; exact HC5.out.2) (by rw [HTL.out]; exact hC7.1) (by rw [HTL.out]; exact hC7.2) (by rw [HTL.out]; omega)
        rw [HTL.out, show decide ((xs ++ ys).take N = (xs ++ ys).take N) = true from by simp] at hsm
        have TD := Lib.hid (TC.out.trans (Turn.of_below hbd)); have DD := Lib.hid (DC.out.below hbd)
        clear hpc hrow7 hbd hC7 hC5d
        simp only [HTL.out]
        go_wp2_with fail
        go_at_call 15
        with_reducible refine hsm.mono ?_
        rintro e we ⟨rfl, hdr⟩
        have hlo := loose_any d Sa we (DD.out.below hdr.below)
        rw [WO.out.chg] at hlo
        have TE := Lib.hid (TD.out.trans (Turn.of_below hdr.below))
        clear hsm hdr
        go_wp2_with (go_at_call 18; refine hlo.mono ?_; rintro e wf ⟨rfl, rfl⟩)
        go_ret
        exact ⟨rfl, TE.out.below (fun k hk => hk) (Nat.le_refl _)⟩
  · by_cases hx : xs.length ≤ 1048576
    · have hd1 : decide ((1048576 : Int) < ↑xs.length) = false := by simp; omega
      have hd2 : decide ((1048576 : Int) < ↑ys.length) = true := by simp; omega
      clear hbig
      go_enter Tryd.func3, Tryd.ntmps3
      go_wp2_with fail
      go_at_call 5
      refine hal.mono ?_
      rintro e w1 ⟨rfl, hb1⟩
      have hnew := new_any (own := fun k => w1.heap.size ≤ k) 16777216 w1 (fun k hk => hk)
      go_wp2_with (go_at_call 6; refine hnew.mono ?_; rintro e w2 ⟨d, hd, rfl, hD2, hb2⟩)
      go_ret
      exact ⟨rfl, hb1.trans (hb2.mono hb1.size)⟩
    · have hd1 : decide ((1048576 : Int) < ↑xs.length) = true := by simp; omega
      clear hbig
      go_enter Tryd.func3, Tryd.ntmps3
      go_wp2_with fail
      go_at_call 5
      refine hal.mono ?_
      rintro e w1 ⟨rfl, hb1⟩
      have hnew := new_any (own := fun k => w1.heap.size ≤ k) 16777216 w1 (fun k hk => hk)
      go_wp2_with (go_at_call 6; refine hnew.mono ?_; rintro e w2 ⟨d, hd, rfl, hD2, hb2⟩)
      go_ret
      exact ⟨rfl, hb1.trans (hb2.mono hb1.size)⟩
end Go.Proofs.YtgcpiofpjogjcaaDoor.PK
