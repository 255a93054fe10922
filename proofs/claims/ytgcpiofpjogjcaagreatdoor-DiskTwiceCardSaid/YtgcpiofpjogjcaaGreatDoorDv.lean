/-
  A directory's files, listed (files, Files, Safe): walked.
-/
import Derived.Test.YtgcpiofpjogjcaaGreatDoorDt
namespace Go.Proofs.YtgcpiofpjogjcaaGreatDoor.PK
open Go.RowKit Go.Maps Go.Sort Go.Proofs.YtgcpiofpjogjcaaGreatDoorW.PrintWords
set_option linter.unusedVariables false
set_option linter.unusedSimpArgs false
variable {own : Nat → Prop} {w w' : World}

/-- How a file of the list reads: its name, its bytes. -/
def fileK : Kd (ByteArray × List Int) := Kd.pair Kd.string (Kd.slice 5 (Kd.int .u8))
def nameB (k : List UInt8) : ByteArray := ⟨k.toArray⟩
theorem key_nameB (k : List UInt8) : key (nameB k) = k := by simp [key, nameB]
def listed (c : Cont) : List (ByteArray × List Int) := c.map fun p => (nameB p.1, p.2)
theorem infoF : (Tryz.prog.info? 40).map (fun i => (i.zero, i.size, i.bytes)) = some (some (.agg #[.string ⟨#[]⟩, .slice none 0 0]), fileK.sz, 40) := by kernel_rfl
def FilesMade (c : Cont) (w : World) (e : Ending) (w' : World) : Prop := ∃ A n cp, e = .returned (.slice A n cp) ∧ fileK.R 40 w' w.heap.size (fun k => w.heap.size ≤ k) (.slice A n cp) (listed c) ∧ Below w.heap.size w w'

set_option maxRecDepth 100000 in
set_option maxHeartbeats 3200000 in
theorem files_any (b : Nat) (l : Dir) (pd : Nat → Option Addr) (cd : Nat → Nat) (dat : Nat → List Int) (saf : Nat → Nat) (w : World) (h : DirAt w b l.length l) (hl : l.length ≤ 1099511627776) (hf : ∀ p ∈ l, FileIn w own p.2 (pd p.2) (cd p.2) (dat p.2) (saf p.2)) :
    Calls Tryz.prog 54 #[.map (some b)] w (FilesMade (cont dat l) w) := by
  have hnm := names_any b _ l w h hl
  have HH := Lib.hid h; have HFL := Lib.hid hf
  clear h hf
  go_enter Tryz.func54, Tryz.ntmps54
  go_wp2_with (go_at_call 76; refine hnm.mono ?_; rintro e w2 ⟨v, rfl, hrow, hb2⟩; obtain ⟨vA, vc, rfl⟩ := own_slice hrow)
  have HROW := Lib.hid hrow
  have hsz2 := hb2.size
  clear hrow hnm
  go_loopw [3, 5, 9] (fun s3 _ s9 wr => ∃ i : Nat, i ≤ l.length ∧ s9 = .int .i64 i ∧ fileK.R 40 wr w2.heap.size (fun k => w2.heap.size ≤ k) s3 (listed (cont dat (l.take i))) ∧ Below w2.heap.size w2 wr) (fun _ _ s9 _ => l.length - (intOf s9).toNat)
  case atStart => exact ⟨0, Nat.zero_le _, rfl, Kd.R_nil _ _ _ _ _, Below.refl _ _⟩
  case round =>
    obtain ⟨i, hi, rfl, hR, hbr⟩ := hrel
    obtain ⟨oA, oc, rfl⟩ := Kd.R_slice hR
    by_cases hlt : i < l.length
    · obtain ⟨kx, f, hkf⟩ : ∃ kx f, l[i] = (kx, f) := ⟨_, _, rfl⟩
      have hmem : (kx, f) ∈ l := by rw [← hkf]; exact List.getElem_mem hlt
      have hff := HFL.out _ hmem
      simp only at hff
      obtain ⟨f0, f1⟩ := two_cells hff.blk
      have lf := hff.lt
      have hlk := look_of_mem HH.out.sorted hmem
      have hks : kx.length ≤ 9223372036854775807 := HH.out.short (kx, f) hmem
      obtain ⟨s, hss0⟩ : ∃ s, s = nameB kx := ⟨_, rfl⟩
      have hsk : s.data.toList = kx := by rw [hss0]; exact key_nameB kx
      have hse : encStr kx = .string s := by rw [hss0]; rfl
      have hss : s.size ≤ 9223372036854775807 := by
        have e1 : s.data.toList.length = s.size := by rw [Array.length_toList]; rfl
        rw [hsk] at e1; omega
      have hlk : look l s.data.toList = some f := by rw [hsk]; exact hlk
      obtain ⟨g, cap, hv, _, lg⟩ := HROW.out.form (by omega)
      injection hv with hv _ hcv
      subst hv
      subst hcv
      have hbw : Below w.heap.size w wr := hb2.trans (hbr.mono hsz2)
      have rn : wr.cell? ⟨g, i, none⟩ = some (.string s) := by
        rw [← hse]
        have h1 := HROW.out.cellAt (g := g) i (by omega)
        rw [hbr.cell (p := ⟨g, i, none⟩) lg, h1, List.getElem?_map, List.getElem?_eq_getElem hlt, hkf]
        rfl
      have g0 := (hbw.cell (p := ⟨f, 0, none⟩) lf).trans f0
      have hdw := HH.out.kept (hbw.block _ HH.out.lt)
      have hbc := bclone_any (pd f) (cd f) (dat f) wr (Kd.C_below hff.C hbw) hff.short
      have htk : listed (cont dat (l.take (i + 1))) = listed (cont dat (l.take i)) ++ [(s, dat f)] := by
        rw [List.take_succ_eq_append_getElem hlt, hkf, hss0]; simp [listed, cont]
      have hll : (listed (cont dat (l.take i))).length ≤ 1099511627776 := by simp [listed, cont]; omega
      have HT := Lib.hid htk; have HD := Lib.hid hdw; have HLK := Lib.hid hlk; have HR := Lib.hid hR; have HBR := Lib.hid hbr; have HS := Lib.hid hss0
      clear htk hdw hlk hR hbr hkf hff hmem hsk hse hks hss0 f0 f1
      go_wp2_with (first
        | (at_lookup; refine wpList_lookup_dir _ rfl _ _ rfl b _ l rfl HD.out s rfl hss ?_; rw [HLK.out]; simp only [fileV])
        | (go_at_call 38; refine hbc.mono ?_; rintro e w3 ⟨A', c', rfl, ho3, hb3⟩; have hp3 : fileK.M w3 w2.heap.size (fun k => wr.heap.size ≤ k) (s, dat f) [.string s, .slice A' (dat f).length c'] := ⟨[.string s], [.slice A' (dat f).length c'], rfl, rfl, _, rfl, Kd.R_of_own (h1 := fun _ => rfl) (own_weaken ho3 HBR.out.size) (fun k hk => own_base ho3 k hk)⟩; have hR3 := Lib.hid (Kd.R_below HR.out hb3); have hb23 : Below w2.heap.size w2 w3 := HBR.out.trans (hb3.mono HBR.out.size); have hokp : ∀ k, wr.heap.size ≤ k → w2.heap.size ≤ k ∧ some k ≠ (Value.slice oA (listed (cont dat (l.take i))).length oc).ownBlock := fun k hk => ⟨Nat.le_trans HBR.out.size hk, fun e => (by obtain ⟨inn, ho⟩ := Kd.R_own HR.out; have := own_lt ho k e.symm; omega)⟩; have hkp := Lib.hid hokp; clear hokp; have hP3 := Lib.hid hp3; clear hp3; have hsz3 := hb23.size)
        | (at_builtin; refine Kd.R_append fileK (w0 := w2) (W := w3) w2.heap.size rfl _ _ 22 40 _ 40 rfl Tryz.underlying22 infoF rfl (by decide) (by omega) (.slice oA _ oc) (listed (cont dat (l.take i))) (s, dat f) [.string s, .slice A' (dat f).length c'] (fun k => w2.heap.size ≤ k) (fun k => wr.heap.size ≤ k) rfl rfl hP3.out hkp.out (fun k hk => Nat.le_trans hsz3 hk) hR3.out hb23 hsz3 (by omega) ?_; intro v1 w4 hR4 hb4 hg4 hat4))
      refine ⟨⟨i + 1, by omega, by go_num, ?_, hb4⟩, by simp [intOf]; omega⟩
      rw [HT.out]; exact hR4
    · obtain rfl : i = l.length := by omega
      simp only [List.take_length] at hR ⊢
      go_wp2
      go_ret
      exact ⟨_, _, _, rfl, Kd.R_mono (Kd.R_lower hR hsz2) (fun k hk => Nat.le_trans hsz2 hk), hb2.trans (hbr.mono hsz2)⟩

set_option maxRecDepth 100000 in
set_option maxHeartbeats 1600000 in
theorem filesOf_any (d : Nat) (S : Dk) (w : World) (h : DiskAt w own d S) :
    Calls Tryz.prog 17 #[.pointer (some ⟨d, 0, none⟩)] w (FilesMade (PK.cont S.dat S.now) w) := by
  obtain ⟨bn, bs, pc, cc, pp, cp, pd, cd, h⟩ := h
  obtain ⟨c0, c1, c2, c3, c4, c5, c6⟩ := seven_cells h.blk
  have hn1 := h.now1
  have hc := files_any (own := own) bn S.now pd cd S.dat S.saf w h.now (by omega) (fun p hp => h.files p.2 (h.ref _ (.inl ⟨p.1, hp⟩)))
  clear h
  go_enter Tryz.func17, Tryz.ntmps17
  go_wp2_with (go_at_call 54; refine hc.mono ?_; rintro e w1 ⟨A, n, cp', rfl, hR, hb⟩)
  go_ret
  exact ⟨A, n, cp', rfl, hR, hb⟩
end Go.Proofs.YtgcpiofpjogjcaaGreatDoor.PK
