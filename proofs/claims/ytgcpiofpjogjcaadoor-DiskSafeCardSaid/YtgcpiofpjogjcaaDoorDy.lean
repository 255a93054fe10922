/-
  The document's example, walked: alive.
-/
import Derived.Test.YtgcpiofpjogjcaaDoorDx
namespace Go.Proofs.YtgcpiofpjogjcaaDoor.PK
open Go.RowKit Go.Maps Go.Sort Go.Proofs.YtgcpiofpjogjcaaDoorW.PrintWords
set_option linter.unusedVariables false
set_option linter.unusedSimpArgs false
variable {own : Nat → Prop} {w w' : World}

theorem DiskAt.imp {own' : Nat → Prop} {d : Nat} {S : Dk} (h : DiskAt w own d S) (hi : ∀ k, k < w.heap.size → own k → own' k) : DiskAt w own' d S := by
  obtain ⟨bn, bs, pc, cc, pp, cp, pd, cd, h⟩ := h
  refine ⟨bn, bs, pc, cc, pp, cp, pd, cd, { h with
    files := fun f hf => by
      have hff := h.files f hf
      exact { hff with mine := hi _ hff.lt hff.mine, rown := fun a ha => hi _ (hff.pblock ha).1 (hff.rown a ha) }
    od := hi _ (lt_of_block h.blk) h.od
    on := hi _ h.now.lt h.on
    os := hi _ h.safe.lt h.os
    oc := fun a ha => hi _ (by
      have h1 := h.chg
      rw [ha] at h1
      obtain ⟨cur, hcur⟩ := ownsRow_blk h1
      exact lt_of_block hcur) (h.oc a ha)
    op := fun a ha => hi _ (by
      have h1 := h.plan
      rw [ha] at h1
      obtain ⟨cur, hcur⟩ := ownsRow_blk h1
      exact lt_of_block hcur) (h.op a ha) }⟩
/-- What a disk may turn behind a call that only makes memory: all but what that call has made. -/
def skip (own : Nat → Prop) (a b : Nat) : Nat → Prop := fun k => own k ∧ (k < a ∨ b ≤ k)
theorem DiskAt.skip {d : Nat} {S : Dk} {w2 : World} (h : DiskAt w own d S) (hb : Below w.heap.size w w2) : DiskAt w2 (skip own w.heap.size w2.heap.size) d S :=
  (h.imp (own' := PK.skip own w.heap.size w2.heap.size) (fun k hk ho => ⟨ho, .inl hk⟩)).below hb
theorem Fresh.skip {w2 : World} (h : Fresh own w) (hs : w.heap.size ≤ w2.heap.size) : Fresh (skip own w.heap.size w2.heap.size) w2 := fun k hk => ⟨h k (by omega), .inr hk⟩
theorem Turn.unskip {a b : Nat} {w1 w2 : World} (h : Turn (skip own a b) w1 w2) : Turn own w1 w2 := ⟨h.os, h.tape, h.output, h.size, fun k hk hn => h.block k hk (fun ho => hn ho.1)⟩
theorem row_C {base n : Nat} {k : IntKind} {A : Option Addr} {c : Nat} {xs : List Int} {e : TypeId} (h : w.ownsRow base e 1 (.slice A n c) n (nums k xs)) : Kd.C (Kd.int k) w A n xs ∧ n ≤ c := by
  have hl : xs.length = n := by have := h.1; rw [nums_length] at this; omega
  subst hl
  obtain ⟨A', c', he, hl, hr⟩ := Kd.R_reads (d := Kd.int k) (ok := fun _ => True) (Kd.R_of_own (h1 := fun _ => rfl) h (fun _ _ => trivial))
  injection he with he _ hc
  exact ⟨he ▸ hr, hc ▸ hl⟩

set_option maxRecDepth 100000 in
set_option maxHeartbeats 3200000 in
theorem alive_any (w : World) : Calls Tryd.prog 5 #[] w fun e w' => e = .returned (.bool true) ∧ Below w.heap.size w w' := by
  have hbeg := begun_any w
  have hk : ∀ (W : World) (C : Array Value) (n c k : Nat), W.heap.size = k → (convert 22 22 (.slice (some ⟨k, 0, none⟩) n c)).run Tryd.prog (W.alloc (.cells C 5)) = .ok (.slice (some ⟨k, 0, none⟩) n c) (W.alloc (.cells C 5 (C.size, C.size + 1))) := by
    rintro W C n c k rfl
    exact Lib.run_convert_bytes_const (P := Tryd.prog) W 22 5 C n c Tryd.underlying22 Tryd.underlying5
  go_enter Tryd.func5, Tryd.ntmps5
  go_wp2_with fail
  go_at_call 22
  refine hbeg.mono ?_
  rintro e w1 ⟨d, S1, g, rfl, hO, hD1, t1⟩
  have hF1 : Fresh (fun k => w.heap.size ≤ k) w1 := fun k hk => Nat.le_trans t1.size hk
  have H1 := Lib.hid hO; have F1 := Lib.hid hF1
  clear hO hF1 hbeg
  have hread := read_one (n := 4) hD1 H1.out (b := ⟨#[97]⟩) (by rfl) (by decide) (by decide)
  go_wp2_with fail
  go_at_call 14
  refine hread.mono ?_
  rintro e w2 ⟨A1, c1, rfl, hrow1, hb2⟩
  have hD2 := hD1.skip hb2
  have F2 := Lib.hid (F1.out.skip hb2.size)
  have hrow1 : w2.ownsRow w1.heap.size 5 1 (.slice A1 4 c1) 4 (nums .u8 [120, 121, 122, 117]) := hrow1
  have hC1 := (row_C hrow1).1
  have hb1 : ∀ a, A1 = some a → w1.heap.size ≤ a.block ∧ a.block < w2.heap.size := fun a ha => by
    subst ha
    exact ⟨own_base hrow1 _ rfl, own_lt hrow1 _ rfl⟩
  have R1 := Lib.hid hC1; have B1 := Lib.hid hb1; have BB := Lib.hid hb2
  clear hrow1 hC1 hb1 hb2 hD1 hread
  go_wp2_with fail
  go_at_call 7
  refine (create_duo hD2 F2.out H1.out).mono ?_
  rintro e w3 ⟨rfl, ⟨S3, ⟨h, hO3⟩, hD3⟩, t3⟩
  have F3 := Lib.hid (F2.out.step t3.size)
  have H3 := Lib.hid hO3; have T3 := Lib.hid t3
  clear hO3 t3 hD2 H1
  have l3 := hD3.lt
  go_wp2_with fail
  go_at_call 8
  refine (append_duo (hD3.below ((Below.refl _ _).alloc (Nat.le_refl _) _)) (F3.out.step (by simp)) H3.out (C_row_u8 [119] rfl (by decide)) (away l3)).mono ?_
  rintro e w4 ⟨rfl, ⟨S4, hO4, hD4⟩, t4⟩
  have t4 := (T3.out.trans (Turn.alloc _)).trans t4
  have F4 := Lib.hid (F2.out.step t4.size)
  have H4 := Lib.hid hO4; have T4 := Lib.hid t4
  clear hO4 t4 hD3 H3
  go_wp2_with fail
  go_at_call 10
  refine (sync_duo hD4 F4.out H4.out).mono ?_
  rintro e w5 ⟨rfl, ⟨S5, hO5, hD5⟩, t5⟩
  have t5 := T4.out.trans t5
  have F5 := Lib.hid (F2.out.step t5.size)
  have H5 := Lib.hid hO5; have T5 := Lib.hid t5
  clear hO5 t5 hD4 H4
  go_wp2_with fail
  go_at_call 21
  refine (rename_duo hD5 F5.out H5.out).mono ?_
  rintro e w6 ⟨rfl, ⟨S6, hO6, hD6⟩, t6⟩
  have t6 := T5.out.trans t6
  have F6 := Lib.hid (F2.out.step t6.size)
  have H6 := Lib.hid hO6; have T6 := Lib.hid t6
  clear hO6 t6 hD5 H5
  have l6 := hD6.lt
  go_wp2_with fail
  go_at_call 12
  refine (on_one (ks := [2]) (hD6.below ((Below.refl _ _).alloc (Nat.le_refl _) _)) (F6.out.step (by simp)) H6.out.plan (C_row_i64 [2] rfl (by decide)) (by decide) (by rw [H6.out.chg]; decide) (by rw [H6.out.safe]; decide) H6.out.left).mono ?_
  rintro e w7 ⟨rfl, ⟨S7, ⟨g7, hO7⟩, hD7⟩, t7⟩
  have t7 := (T6.out.trans (Turn.alloc _)).trans t7
  have e1 : (S6.dat h).take (S6.leftLen [2] 0 h) = [119] := by unfold Dk.leftLen; rw [H6.out.dat, H6.out.saf]; rfl
  rw [e1, H6.out.room, H6.out.steps] at hO7
  have H7 := Lib.hid hO7; have T7 := Lib.hid t7
  clear hO7 t7 hD6 H6 e1
  have hread := read_one (n := 1) hD7 H7.out (b := ⟨#[97]⟩) (by rfl) (by decide) (by decide)
  go_wp2_with fail
  go_at_call 14
  refine hread.mono ?_
  rintro e w8 ⟨A2, c2, rfl, hrow2, hb8⟩
  have hrow2 : w8.ownsRow w7.heap.size 5 1 (.slice A2 1 c2) 1 (nums .u8 [119]) := hrow2
  have hC2 := (row_C hrow2).1
  have hC1 : Kd.C (Kd.int .u8) w8 A1 4 [120, 121, 122, 117] := Kd.C_below (C_move R1.out (fun a ha hlt => T7.out.block _ hlt (fun ho => by have := B1.out a ha; have := ho.2; omega))) hb8
  have hv1 := Kd.C_string (P := Tryd.prog) (c := c1) Tryd.underlying22 Tryd.underlying5 Tryd.underlying9 hC1
  have hv2 := Kd.C_string (P := Tryd.prog) (c := c2) Tryd.underlying22 Tryd.underlying5 Tryd.underlying9 hC2
  rw [show strOfNums [120, 121, 122, 117] = ⟨#[120, 121, 122, 117]⟩ from by rfl] at hv1
  rw [show strOfNums [119] = ⟨#[119]⟩ from by rfl] at hv2
  have hD8 := hD7.below hb8
  have hfs := filesOf_any d S7 w8 hD8
  have B8 := Lib.hid hb8; have D8 := Lib.hid hD8
  clear hrow2 hC2 hC1 hb8 hread hD7 hD8
  go_wp2_with fail
  go_at_call 23
  refine hfs.mono ?_
  rintro e w9 ⟨A9, n9, c9, rfl, hR9, hb9⟩
  have hn9 : n9 = 1 := by
    obtain ⟨A', c', he⟩ := Kd.R_slice hR9
    injection he with _ he _
    rw [he]
    simp [listed, cont, H7.out.now]
  subst hn9
  have hst := steps_any d S7 w9 (D8.out.below hb9)
  rw [H7.out.steps] at hst
  have B9 := Lib.hid hb9
  clear hR9 hb9 hfs hv1 hv2
  go_wp2_with (go_at_call 24; refine hst.mono ?_; rintro e w10 ⟨rfl, rfl⟩)
  go_ret
  exact ⟨rfl, ((((t1.trans (Turn.of_below BB.out)).trans T7.out.unskip).trans (Turn.of_below B8.out)).trans (Turn.of_below B9.out)).below (fun k hk => hk) (Nat.le_refl _)⟩
end Go.Proofs.YtgcpiofpjogjcaaDoor.PK
