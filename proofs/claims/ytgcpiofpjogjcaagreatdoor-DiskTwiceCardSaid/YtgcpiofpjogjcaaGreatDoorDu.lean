/-
  The power comes back (On); bytes are read (Read): walked.
-/
import Derived.Test.YtgcpiofpjogjcaaGreatDoorDt
namespace Go.Proofs.YtgcpiofpjogjcaaGreatDoor.PK
open Go.RowKit Go.Maps Go.Sort Go.Proofs.YtgcpiofpjogjcaaGreatDoorW.PrintWords
set_option linter.unusedVariables false
set_option linter.unusedSimpArgs false
variable {own : Nat → Prop} {w w' : World}

/-- The disk behind On, whatever files there are. -/
def Dk.wake (S : Dk) (l : Dir) (dat : Nat → List Int) : Dk := { S with now := l, safe := l, chg := [], off := false, fs := fun f => ∃ k, (k, f) ∈ l, dat := dat, saf := fun f => (dat f).length }
theorem Dk.wake_woke (S : Dk) (l : Dir) (dat : Nat → List Int) (c : Cont) (h : PK.cont dat l = c) : S.woke (S.wake l dat) c := ⟨rfl, rfl, rfl, rfl, rfl, rfl, h, fun _ _ => rfl⟩
theorem cont_length {dat : Nat → List Int} {l : Dir} {c : Cont} (h : cont dat l = c) : l.length = c.length := by rw [← h]; simp [cont]

def Woken (own : Nat → Prop) (d : Nat) (S : Dk) (c : Cont) (w : World) (e : Ending) (w' : World) : Prop := e = .returned (.tuple #[]) ∧ (∃ S', S.woke S' c ∧ DiskAt w' own d S') ∧ Turn own w w'
set_option maxRecDepth 100000 in
set_option maxHeartbeats 3200000 in
theorem on_any (d : Nat) (S : Dk) (A : Option Addr) (c : Nat) (ks : List Int) (w : World) (h : DiskAt w own d S) (hfr : Fresh own w) (hC : Kd.C (Kd.int .i64) w A ks.length ks) (hcc : ks.length ≤ c) (hbig : S.chg.length ≤ 1099511627776) (hsafe : S.safe.length ≤ 400) (hlen : (S.leftDir ks).length ≤ 400) :
    Calls Tryz.prog 26 #[.pointer (some ⟨d, 0, none⟩), .slice A ks.length c] w (Woken own d S (S.leftCont ks) w) := by
  have hle := left_any d S A c ks w h hfr hC hcc hbig hsafe hlen
  obtain ⟨bn, bs, pc, cc, pp, cp, pd0, cd0, h⟩ := h
  obtain ⟨c0, c1, c2, c3, c4, c5, c6⟩ := seven_cells h.blk
  have ld := lt_of_block h.blk
  have z1 := all_free h.blk 1
  have HH := Lib.hid h; have HF := Lib.hid hfr
  clear h hfr hC
  go_enter Tryz.func26, Tryz.ntmps26
  go_wp2_with fail
  go_at_call 55
  refine hle.mono ?_
  rintro e w1 ⟨b, l, pd, cd, dat, rfl, hbw, hdir, hmade, hcont, hb1⟩
  have d1 := (hb1.cell (p := ⟨d, 1, none⟩) ld).trans c1
  have y1 := (hb1.frozen (p := ⟨d, 1, none⟩) ld).trans z1
  have hd1 := (hb1.block d ld).trans HH.out.blk
  obtain ⟨wc, hwc⟩ : ∃ wc, wc = w1.setCell ⟨d, 1, none⟩ (.map (some b)) := ⟨_, rfl⟩
  have hdc : wc.heap[d]? = some (.cells #[.int .i64 S.room, .map (some b), .map (some bs), .slice pc S.chg.length cc, .slice pp S.plan.length cp, .int .i64 S.steps, .bool S.off] 82 (0, 0)) := by rw [hwc]; exact block_setCell hd1
  have hco : ∀ k, k ≠ d → wc.heap[k]? = w1.heap[k]? := fun k hk => by rw [hwc]; exact Below.heap_setCell _ _ _ _ hk
  have hcs : wc.heap.size = w1.heap.size := by rw [hwc]; simp [World.setCell]
  have hdl := hdir.lt
  have hcl := clone_any b l.length l wc (hdir.kept (hco b (by omega)))
  obtain ⟨q0, q1, q2, q3, q4, q5, q6⟩ := seven_cells hdc
  have zz := fun i => all_free hdc i
  have z2 := zz 2; have z3 := zz 3; have z6 := zz 6
  have HD := Lib.hid hdir; have HM := Lib.hid hmade; have HCN := Lib.hid hcont; have HCO := Lib.hid hco; have HDC := Lib.hid hdc; have HB1 := Lib.hid hb1
  have hsz := hb1.size
  clear hdir hmade hcont hco hdc hb1 hle zz hd1
  go_upto_region 1 with fail
  simp only [← hwc]
  have HWC := Lib.hid hwc
  clear hwc
  go_wp2_with (go_at_call 39; refine hcl.mono ?_; rintro e w2 ⟨rfl, hs2, hb2⟩; have e2 := (hb2.cell (p := ⟨d, 2, none⟩) (by simp only; omega)).trans q2; have e3 := (hb2.cell (p := ⟨d, 3, none⟩) (by simp only; omega)).trans q3; have e6 := (hb2.cell (p := ⟨d, 6, none⟩) (by simp only; omega)).trans q6; have x2 := (hb2.frozen (p := ⟨d, 2, none⟩) (by simp only; omega)).trans z2; have x3 := (hb2.frozen (p := ⟨d, 3, none⟩) (by simp only; omega)).trans z3; have x6 := (hb2.frozen (p := ⟨d, 6, none⟩) (by simp only; omega)).trans z6)
  go_end0
  have hd2 := (hb2.block d (by omega)).trans HDC.out
  have hfin : ∀ (u2 u3 u6 : Value), (((w2.setCell ⟨d, 2, none⟩ u2).setCell ⟨d, 3, none⟩ u3).setCell ⟨d, 6, none⟩ u6).heap[d]? = some (.cells #[.int .i64 S.room, .map (some b), u2, u3, .slice pp S.plan.length cp, .int .i64 S.steps, u6] 82 (0, 0)) := fun u2 u3 u6 => block_setCell (block_setCell (block_setCell hd2))
  have hoth : ∀ (u2 u3 u6 : Value) (k : Nat), k ≠ d → (((w2.setCell ⟨d, 2, none⟩ u2).setCell ⟨d, 3, none⟩ u3).setCell ⟨d, 6, none⟩ u6).heap[k]? = w2.heap[k]? := fun u2 u3 u6 k hk => ((Below.heap_setCell _ _ _ _ hk).trans (Below.heap_setCell _ _ _ _ hk)).trans (Below.heap_setCell _ _ _ _ hk)
  have hkw : ∀ (u2 u3 u6 : Value) (k : Nat), k ≠ d → k < w1.heap.size → (((w2.setCell ⟨d, 2, none⟩ u2).setCell ⟨d, 3, none⟩ u3).setCell ⟨d, 6, none⟩ u6).heap[k]? = w1.heap[k]? := fun u2 u3 u6 k hk hlt => ((hoth u2 u3 u6 k hk).trans (hb2.block k (by omega))).trans (HCO.out k hk)
  have h := HH.out
  have hpp : ∀ a, pp = some a → a.block < w.heap.size ∧ a.block ≠ d := fun a ha => by
    have h1 := h.plan
    rw [ha] at h1
    obtain ⟨cur, hcur⟩ := ownsRow_blk h1
    exact ⟨lt_of_block hcur, ty_ne hcur h.blk (by decide)⟩
  rw [hcs] at hs2
  refine ⟨rfl, ⟨S.wake l dat, S.wake_woke l dat _ HCN.out, b, w1.heap.size, none, 0, pp, cp, pd, cd, {
    blk := hfin _ _ _
    now := HD.out.kept (hkw _ _ _ b (by omega) HD.out.lt)
    safe := hs2.kept (hoth _ _ _ _ (by omega))
    ne := by omega
    chg := ⟨rfl, .inl ⟨rfl, rfl⟩⟩
    plan := own_ext h.plan (fun a ha => (hkw _ _ _ _ (hpp a ha).2 (by have := (hpp a ha).1; omega)).trans (HB1.out.block _ (hpp a ha).1))
    ref := fun f hf => by
      rcases hf with ⟨k, hk⟩ | ⟨k, hk⟩ | ⟨c, hc, _⟩
      · exact ⟨k, hk⟩
      · exact ⟨k, hk⟩
      · cases hc
    files := fun f ⟨k, hk⟩ => by
      have hf := HM.out.files _ hk
      have hd1 := (HB1.out.block d ld).trans h.blk
      exact hf.kept (hkw _ _ _ _ (ty_ne hf.blk hd1 (by decide)) hf.lt) (fun a ha => by
        have h1 := hf.row
        rw [ha] at h1
        obtain ⟨cur, hcur⟩ := ownsRow_blk h1
        exact hkw _ _ _ _ (ty_ne hcur hd1 (by decide)) (lt_of_block hcur))
    apart := fun f g ⟨k, hk⟩ ⟨k', hk'⟩ hne a b ha hb => HM.out.apart _ hk _ hk' hne a b ha hb
    od := h.od
    on := HF.out _ hbw
    os := HF.out _ (by omega)
    oc := fun a ha => by cases ha
    op := h.op
    room0 := h.room0
    room1 := h.room1
    steps0 := h.steps0
    now1 := by
      have h1 := cont_length HCN.out
      rw [leftCont_length] at h1
      show l.length ≤ 400
      omega
    chgs := fun c hc => by cases hc
    fates := h.fates }⟩, ?_⟩
  exact ((((Turn.of_below HB1.out).trans (by rw [HWC.out]; exact Turn.setCell _ _ h.od)).trans (Turn.of_below hb2)).trans (Turn.setCell _ _ h.od)).trans ((Turn.setCell _ _ h.od).trans (Turn.setCell _ _ h.od))
end Go.Proofs.YtgcpiofpjogjcaaGreatDoor.PK
