/-
  DiskTwice: for all files, scripts and numbers the law returns true, and each argument reads as it did. The row lists two tables of Go's library, which the call does not read; the card ties them to the program's text.
-/
import Derived.Test.YtgcpiofpjogjcaaGreatDoorDwo
import Derived.Test.YtgcpiofpjogjcaaGreatDoorDv
import Derived.Lib.SlBytesConst
import Derived.Test.YtgcpiofpjogjcaaGreatDoorEa
import Derived.Test.YtgcpiofpjogjcaaGreatDoorE4
import Derived.Test.YtgcpiofpjogjcaaGreatDoorDrr
import Derived.Test.YtgcpiofpjogjcaaGreatDoorE1
import Derived.Test.YtgcpiofpjogjcaaGreatDoorE8
import Derived.Test.YtgcpiofpjogjcaaGreatDoorE2
import Derived.Test.YtgcpiofpjogjcaaGreatDoorE3
import Derived.Test.YtgcpiofpjogjcaaGreatDoorE5
import Derived.Test.YtgcpiofpjogjcaaGreatDoorE6
import Derived.Test.YtgcpiofpjogjcaaGreatDoorE7
import Derived.SizedLaws
import Derived.ChangeSame
import Derived.Deep.Slices
import Derived.Deep.Strs
import Derived.ProofKit
import Derived.OpenShut
import Derived.Test.YtgcpiofpjogjcaaGreatDoorRows
import Derived.Test.YtgcpiofpjogjcaaGreatDoorCards
import Derived.Test.YtgcpiofpjogjcaaGreatDoorTie
import Derived.ChangeOld
import Derived.Carry
import Derived.LaidMore
import Derived.Lay
import Derived.SevenTiedAt
import Derived.Stop.Joined
section
namespace Go.Proofs.YtgcpiofpjogjcaaGreatDoor.PK
open Go.RowKit Go.Maps Go.Sort Go.Proofs.YtgcpiofpjogjcaaGreatDoorW.PrintWords
set_option linter.unusedVariables false
set_option linter.unusedSimpArgs false
variable {own : Nat → Prop} {w w' : World}

theorem C_row {k : IntKind} {w : World} {b : Nat} {xs : List Int} {cs : Array Value} {t : TypeId} {m : Nat × Nat} (h : w.heap[b]? = some (.cells cs t m)) (hc : ∀ i, i < xs.length → cs[i]? = some (.int k (xs.getD i 0))) (hl : xs.length ≤ 1000000) : Kd.C (Kd.int k) w (some ⟨b, 0, none⟩) xs.length xs := by
  refine Kd.C_of_reads (d := (0 : Int)) ⟨rfl, by omega, fun _ => ⟨_, rfl, fun j hj => ?_⟩⟩
  have : (⟨b, 0, none⟩ : Addr).add j = ⟨b, j, none⟩ := by unfold Addr.add; split <;> simp_all
  rw [this]
  simp only [World.cell?, h]
  exact hc j hj
theorem C_row_u8 {w : World} (xs : List Int) {cs : Array Value} {t : TypeId} {m : Nat × Nat} (hc : cs = (xs.map (Value.int .u8)).toArray) (hl : xs.length ≤ 1000000) : Kd.C (Kd.int .u8) (w.alloc (.cells cs t m)) (some ⟨w.heap.size, 0, none⟩) xs.length xs :=
  C_row (heap_alloc_new w _) (fun i hi => by subst hc; simp [List.getD_eq_getElem?_getD, List.getElem?_eq_getElem hi]) hl
theorem C_row_i64 {w : World} (xs : List Int) {cs : Array Value} {t : TypeId} {m : Nat × Nat} (hc : cs = (xs.map (Value.int .i64)).toArray) (hl : xs.length ≤ 1000000) : Kd.C (Kd.int .i64) (w.alloc (.cells cs t m)) (some ⟨w.heap.size, 0, none⟩) xs.length xs :=
  C_row (heap_alloc_new w _) (fun i hi => by subst hc; simp [List.getD_eq_getElem?_getD, List.getElem?_eq_getElem hi]) hl
theorem DiskAt.alloc {d : Nat} {S : Dk} (h : DiskAt w own d S) (o : Obj) : DiskAt (w.alloc o) own d S := h.below ((Below.refl _ _).alloc (Nat.le_refl _) _)
theorem away {w : World} {d : Nat} (h : d < w.heap.size) : ∀ a : Addr, some (⟨w.heap.size, 0, none⟩ : Addr) = some a → a.block ≠ d := fun a ha => by injection ha with ha; subst ha; simp only; omega
theorem DiskAt.lt {d : Nat} {S : Dk} (h : DiskAt w own d S) : d < w.heap.size := h.flag.2.2
theorem new_calm (room : Int) : (Dk.new room).calm := ⟨rfl, rfl⟩

def Begun (w : World) (e : Ending) (w' : World) : Prop := ∃ d S g, e = .returned (.pointer (some ⟨d, 0, none⟩)) ∧ One S 10 5 [97] g [120, 121, 122, 117] 4 [([97], g)] [] ∧ DiskAt w' (fun k => w.heap.size ≤ k) d S ∧ Turn (fun k => w.heap.size ≤ k) w w'
set_option maxRecDepth 100000 in
set_option maxHeartbeats 3200000 in
theorem begun_any (w : World) : Calls Tryz.prog 31 #[] w (Begun w) := by
  have hfr : Fresh (fun k => w.heap.size ≤ k) w := fun k hk => hk
  have HF := Lib.hid hfr
  have hnew := new_any (own := fun k => w.heap.size ≤ k) 10 w hfr
  clear hfr
  have hk : ∀ (W : World) (C : Array Value) (n c k : Nat), W.heap.size = k → (convert 23 23 (.slice (some ⟨k, 0, none⟩) n c)).run Tryz.prog (W.alloc (.cells C 5)) = .ok (.slice (some ⟨k, 0, none⟩) n c) (W.alloc (.cells C 5 (C.size, C.size + 1))) := by
    rintro W C n c k rfl
    exact Lib.run_convert_bytes_const (P := Tryz.prog) W 23 5 C n c Tryz.underlying23 Tryz.underlying5
  go_enter Tryz.func31, Tryz.ntmps31
  go_wp2_with fail
  go_at_call 36
  refine hnew.mono ?_
  rintro e w1 ⟨d, hd, rfl, hD1, hb1⟩
  have t1 : Turn (fun k => w.heap.size ≤ k) w w1 := Turn.of_below hb1
  clear hnew
  go_wp2_with fail
  go_at_call 32
  refine (create_plain d _ ⟨#[97]⟩ w1 hD1 (HF.out.step t1.size) (new_calm 10) (by decide) (by decide) (by decide)).mono ?_
  rintro e w2 ⟨rfl, ⟨S2, hc2, hD2⟩, ht2⟩
  have t2 := t1.trans ht2
  obtain ⟨f, hO2⟩ := One.created (new_calm 10) rfl (by decide) (by decide +kernel) hc2
  have H2 : One S2 10 1 [97] f [] 0 [] [⟨⟨#[]⟩, ⟨#[97]⟩, some f⟩] := hO2
  have H2 := Lib.hid H2
  clear hO2 hc2 hD1 ht2
  have l2 := hD2.lt
  go_wp2_with fail
  go_at_call 12
  refine (append_one (bs := [120, 121, 122]) (hD2.below ((Below.refl _ _).alloc (Nat.le_refl _) _)) (HF.out.step (by have := t2.size; simp; omega)) H2.out (by rfl) (by decide) (C_row_u8 [120, 121, 122] rfl (by decide)) (by decide) (away l2) (by decide) (by decide)).mono ?_
  rintro e w3 ⟨rfl, ⟨S3, hO3, hD3⟩, ht3⟩
  have t3 := (t2.trans (Turn.alloc _)).trans ht3
  have H3 : One S3 10 2 [97] f [120, 121, 122] 0 [] [⟨⟨#[]⟩, ⟨#[97]⟩, some f⟩] := hO3
  have H3 := Lib.hid H3
  clear hO3 ht3 hD2 H2
  go_wp2_with fail
  go_at_call 33
  refine (sync_one hD3 (HF.out.step t3.size) H3.out (by rfl) (by decide) (by decide)).mono ?_
  rintro e w4 ⟨rfl, ⟨S4, hO4, hD4⟩, ht4⟩
  have t4 := t3.trans ht4
  have H4 : One S4 10 3 [97] f [120, 121, 122] 3 [] [⟨⟨#[]⟩, ⟨#[97]⟩, some f⟩] := hO4
  have H4 := Lib.hid H4
  clear hO4 ht4 hD3 H3
  go_wp2_with fail
  go_at_call 60
  refine (syncDir_one hD4 (HF.out.step t4.size) H4.out (by decide)).mono ?_
  rintro e w5 ⟨rfl, ⟨S5, hO5, hD5⟩, ht5⟩
  have t5 := t4.trans ht5
  have H5 : One S5 10 4 [97] f [120, 121, 122] 3 [([97], f)] [] := hO5
  have H5 := Lib.hid H5
  clear hO5 ht5 hD4 H4
  have l5 := hD5.lt
  go_wp2_with fail
  go_at_call 12
  refine (append_one (bs := [117, 118]) (hD5.below ((Below.refl _ _).alloc (Nat.le_refl _) _)) (HF.out.step (by have := t5.size; simp; omega)) H5.out (by rfl) (by decide) (C_row_u8 [117, 118] rfl (by decide)) (by decide) (away l5) (by decide) (by decide)).mono ?_
  rintro e w6 ⟨rfl, ⟨S6, hO6, hD6⟩, ht6⟩
  have t6 := (t5.trans (Turn.alloc _)).trans ht6
  have H6 : One S6 10 5 [97] f [120, 121, 122, 117, 118] 3 [([97], f)] [] := hO6
  have H6 := Lib.hid H6
  clear hO6 ht6 hD5 H5
  go_wp2_with fail
  go_at_call 26
  refine (on_one (ks := [0, 1]) (hD6.below ((Below.refl _ _).alloc (Nat.le_refl _) _)) (HF.out.step (by have := t6.size; simp; omega)) H6.out.calm.plan (C_row_i64 [0, 1] rfl (by decide)) (by decide) (by rw [H6.out.chg]; decide) (by rw [H6.out.safe]; simp) (show S6.leftDir [0, 1] = [([97], f)] from (by unfold Dk.leftDir; rw [H6.out.chg, H6.out.safe]; rfl))).mono ?_
  rintro e w7 ⟨rfl, ⟨S7, ⟨g, hO7⟩, hD7⟩, ht7⟩
  have t7 := (t6.trans (Turn.alloc _)).trans ht7
  have e1 : (S6.dat f).take (S6.leftLen [0, 1] 0 f) = [120, 121, 122, 117] := by unfold Dk.leftLen; rw [H6.out.dat, H6.out.saf]; rfl
  rw [e1, H6.out.room, H6.out.steps, hO7.now] at hO7
  have H7 : One S7 10 5 [97] g [120, 121, 122, 117] 4 [([97], g)] [] := hO7
  have H7 := Lib.hid H7
  clear hO7 ht7 hD6 H6 e1
  go_wp2_with fail
  go_ret
  exact ⟨d, S7, g, rfl, H7.out, hD7, t7⟩
end Go.Proofs.YtgcpiofpjogjcaaGreatDoor.PK
end
section
namespace Go.Proofs.YtgcpiofpjogjcaaGreatDoor.PK
open Go.RowKit Go.Maps Go.Sort Go.Proofs.YtgcpiofpjogjcaaGreatDoorW.PrintWords
set_option linter.unusedVariables false
set_option linter.unusedSimpArgs false
variable {own : Nat → Prop} {w w' : World}

theorem DiskAt.imp {own' : Nat → Prop} {d : Nat} {S : Dk} (h : DiskAt w own d S) (hi : ∀ k, k < w.heap.size → own k → own' k) : DiskAt w own' d S := by
  obtain ⟨bn, bs, pc, cc, pp, cp, pd, cd, h⟩ := h
  refine ⟨bn, bs, pc, cc, pp, cp, pd, cd, { h with
    files := fun f hf => by
      have hff := h.files f hf
      exact { hff with mine := hi _ hff.lt hff.mine, rown := fun a ha => hi _ (hff.pblock ha).1 (hff.rown a ha) }
    od := hi _ (lt_of_block h.blk) h.od
    on := hi _ h.now.lt h.on
    os := hi _ h.safe.lt h.os
    oc := fun a ha => hi _ (by
      have h1 := h.chg
      rw [ha] at h1
      obtain ⟨cur, hcur⟩ := ownsRow_blk h1
      exact lt_of_block hcur) (h.oc a ha)
    op := fun a ha => hi _ (by
      have h1 := h.plan
      rw [ha] at h1
      obtain ⟨cur, hcur⟩ := ownsRow_blk h1
      exact lt_of_block hcur) (h.op a ha) }⟩
/-- What a disk may turn behind a call that only makes memory: all but what that call has made. -/
def skip (own : Nat → Prop) (a b : Nat) : Nat → Prop := fun k => own k ∧ (k < a ∨ b ≤ k)
theorem DiskAt.skip {d : Nat} {S : Dk} {w2 : World} (h : DiskAt w own d S) (hb : Below w.heap.size w w2) : DiskAt w2 (skip own w.heap.size w2.heap.size) d S :=
  (h.imp (own' := PK.skip own w.heap.size w2.heap.size) (fun k hk ho => ⟨ho, .inl hk⟩)).below hb
theorem Fresh.skip {w2 : World} (h : Fresh own w) (hs : w.heap.size ≤ w2.heap.size) : Fresh (skip own w.heap.size w2.heap.size) w2 := fun k hk => ⟨h k (by omega), .inr hk⟩
theorem Turn.unskip {a b : Nat} {w1 w2 : World} (h : Turn (skip own a b) w1 w2) : Turn own w1 w2 := ⟨h.os, h.tape, h.output, h.size, fun k hk hn => h.block k hk (fun ho => hn ho.1)⟩
theorem row_C {base n : Nat} {k : IntKind} {A : Option Addr} {c : Nat} {xs : List Int} {e : TypeId} (h : w.ownsRow base e 1 (.slice A n c) n (nums k xs)) : Kd.C (Kd.int k) w A n xs ∧ n ≤ c := by
  have hl : xs.length = n := by have := h.1; rw [nums_length] at this; omega
  subst hl
  obtain ⟨A', c', he, hl, hr⟩ := Kd.R_reads (d := Kd.int k) (ok := fun _ => True) (Kd.R_of_own (h1 := fun _ => rfl) h (fun _ _ => trivial))
  injection he with he _ hc
  exact ⟨he ▸ hr, hc ▸ hl⟩

set_option maxRecDepth 100000 in
set_option maxHeartbeats 3200000 in
theorem alive_any (w : World) : Calls Tryz.prog 6 #[] w fun e w' => e = .returned (.bool true) ∧ Below w.heap.size w w' := by
  have hbeg := begun_any w
  have hk : ∀ (W : World) (C : Array Value) (n c k : Nat), W.heap.size = k → (convert 23 23 (.slice (some ⟨k, 0, none⟩) n c)).run Tryz.prog (W.alloc (.cells C 5)) = .ok (.slice (some ⟨k, 0, none⟩) n c) (W.alloc (.cells C 5 (C.size, C.size + 1))) := by
    rintro W C n c k rfl
    exact Lib.run_convert_bytes_const (P := Tryz.prog) W 23 5 C n c Tryz.underlying23 Tryz.underlying5
  go_enter Tryz.func6, Tryz.ntmps6
  go_wp2_with fail
  go_at_call 31
  refine hbeg.mono ?_
  rintro e w1 ⟨d, S1, g, rfl, hO, hD1, t1⟩
  have hF1 : Fresh (fun k => w.heap.size ≤ k) w1 := fun k hk => Nat.le_trans t1.size hk
  have H1 := Lib.hid hO; have F1 := Lib.hid hF1
  clear hO hF1 hbeg
  have hread := read_one (n := 4) hD1 H1.out (b := ⟨#[97]⟩) (by rfl) (by decide) (by decide)
  go_wp2_with fail
  go_at_call 23
  refine hread.mono ?_
  rintro e w2 ⟨A1, c1, rfl, hrow1, hb2⟩
  have hD2 := hD1.skip hb2
  have F2 := Lib.hid (F1.out.skip hb2.size)
  have hrow1 : w2.ownsRow w1.heap.size 5 1 (.slice A1 4 c1) 4 (nums .u8 [120, 121, 122, 117]) := hrow1
  have hC1 := (row_C hrow1).1
  have hb1 : ∀ a, A1 = some a → w1.heap.size ≤ a.block ∧ a.block < w2.heap.size := fun a ha => by
    subst ha
    exact ⟨own_base hrow1 _ rfl, own_lt hrow1 _ rfl⟩
  have R1 := Lib.hid hC1; have B1 := Lib.hid hb1; have BB := Lib.hid hb2
  clear hrow1 hC1 hb1 hb2 hD1 hread
  go_wp2_with fail
  go_at_call 32
  refine (create_duo hD2 F2.out H1.out).mono ?_
  rintro e w3 ⟨rfl, ⟨S3, ⟨h, hO3⟩, hD3⟩, t3⟩
  have F3 := Lib.hid (F2.out.step t3.size)
  have H3 := Lib.hid hO3; have T3 := Lib.hid t3
  clear hO3 t3 hD2 H1
  have l3 := hD3.lt
  go_wp2_with fail
  go_at_call 12
  refine (append_duo (hD3.below ((Below.refl _ _).alloc (Nat.le_refl _) _)) (F3.out.step (by simp)) H3.out (C_row_u8 [119] rfl (by decide)) (away l3)).mono ?_
  rintro e w4 ⟨rfl, ⟨S4, hO4, hD4⟩, t4⟩
  have t4 := (T3.out.trans (Turn.alloc _)).trans t4
  have F4 := Lib.hid (F2.out.step t4.size)
  have H4 := Lib.hid hO4; have T4 := Lib.hid t4
  clear hO4 t4 hD3 H3
  go_wp2_with fail
  go_at_call 33
  refine (sync_duo hD4 F4.out H4.out).mono ?_
  rintro e w5 ⟨rfl, ⟨S5, hO5, hD5⟩, t5⟩
  have t5 := T4.out.trans t5
  have F5 := Lib.hid (F2.out.step t5.size)
  have H5 := Lib.hid hO5; have T5 := Lib.hid t5
  clear hO5 t5 hD4 H4
  go_wp2_with fail
  go_at_call 34
  refine (rename_duo hD5 F5.out H5.out).mono ?_
  rintro e w6 ⟨rfl, ⟨S6, hO6, hD6⟩, t6⟩
  have t6 := T5.out.trans t6
  have F6 := Lib.hid (F2.out.step t6.size)
  have H6 := Lib.hid hO6; have T6 := Lib.hid t6
  clear hO6 t6 hD5 H5
  have l6 := hD6.lt
  go_wp2_with fail
  go_at_call 26
  refine (on_one (ks := [2]) (hD6.below ((Below.refl _ _).alloc (Nat.le_refl _) _)) (F6.out.step (by simp)) H6.out.plan (C_row_i64 [2] rfl (by decide)) (by decide) (by rw [H6.out.chg]; decide) (by rw [H6.out.safe]; decide) H6.out.left).mono ?_
  rintro e w7 ⟨rfl, ⟨S7, ⟨g7, hO7⟩, hD7⟩, t7⟩
  have t7 := (T6.out.trans (Turn.alloc _)).trans t7
  have e1 : (S6.dat h).take (S6.leftLen [2] 0 h) = [119] := by unfold Dk.leftLen; rw [H6.out.dat, H6.out.saf]; rfl
  rw [e1, H6.out.room, H6.out.steps] at hO7
  have H7 := Lib.hid hO7; have T7 := Lib.hid t7
  clear hO7 t7 hD6 H6 e1
  have hread := read_one (n := 1) hD7 H7.out (b := ⟨#[97]⟩) (by rfl) (by decide) (by decide)
  go_wp2_with fail
  go_at_call 23
  refine hread.mono ?_
  rintro e w8 ⟨A2, c2, rfl, hrow2, hb8⟩
  have hrow2 : w8.ownsRow w7.heap.size 5 1 (.slice A2 1 c2) 1 (nums .u8 [119]) := hrow2
  have hC2 := (row_C hrow2).1
  have hC1 : Kd.C (Kd.int .u8) w8 A1 4 [120, 121, 122, 117] := Kd.C_below (C_move R1.out (fun a ha hlt => T7.out.block _ hlt (fun ho => by have := B1.out a ha; have := ho.2; omega))) hb8
  have hv1 := Kd.C_string (P := Tryz.prog) (c := c1) Tryz.underlying23 Tryz.underlying5 Tryz.underlying9 hC1
  have hv2 := Kd.C_string (P := Tryz.prog) (c := c2) Tryz.underlying23 Tryz.underlying5 Tryz.underlying9 hC2
  rw [show strOfNums [120, 121, 122, 117] = ⟨#[120, 121, 122, 117]⟩ from by rfl] at hv1
  rw [show strOfNums [119] = ⟨#[119]⟩ from by rfl] at hv2
  have hD8 := hD7.below hb8
  have hfs := filesOf_any d S7 w8 hD8
  have B8 := Lib.hid hb8; have D8 := Lib.hid hD8
  clear hrow2 hC2 hC1 hb8 hread hD7 hD8
  go_wp2_with fail
  go_at_call 17
  refine hfs.mono ?_
  rintro e w9 ⟨A9, n9, c9, rfl, hR9, hb9⟩
  have hn9 : n9 = 1 := by
    obtain ⟨A', c', he⟩ := Kd.R_slice hR9
    injection he with _ he _
    rw [he]
    simp [listed, cont, H7.out.now]
  subst hn9
  have hst := steps_any d S7 w9 (D8.out.below hb9)
  rw [H7.out.steps] at hst
  have B9 := Lib.hid hb9
  clear hR9 hb9 hfs hv1 hv2
  go_wp2_with (go_at_call 27; refine hst.mono ?_; rintro e w10 ⟨rfl, rfl⟩)
  go_ret
  exact ⟨rfl, ((((t1.trans (Turn.of_below BB.out)).trans T7.out.unskip).trans (Turn.of_below B8.out)).trans (Turn.of_below B9.out)).below (fun k hk => hk) (Nat.le_refl _)⟩
end Go.Proofs.YtgcpiofpjogjcaaGreatDoor.PK
end
section
namespace Go.Proofs.YtgcpiofpjogjcaaGreatDoor.PK
open Go.RowKit Go.Maps Go.Sort Go.Proofs.YtgcpiofpjogjcaaGreatDoorW.PrintWords
set_option linter.unusedVariables false
set_option linter.unusedSimpArgs false
variable {own : Nat → Prop} {w w' : World}

/-! ### What Load answers, on names with bytes -/
def insC (x : List UInt8 × List Int) : Cont → Cont
  | [] => [x]
  | y :: r => if bytesBefore x.1 y.1 then x :: y :: r else y :: insC x r
def hasC (c : Cont) (k : List UInt8) : Bool := c.any fun p => p.1 == k
def refuseC (c : Cont) (s : ByteArray) : Int := if bad s then 145 else if hasC c (key s) then 144 else if 400 ≤ c.length then 142 else 0
/-- The error's number, and what there is where it is 0. -/
def ldC : Cont → List (ByteArray × List Int) → Int × Cont
  | c, [] => (0, c)
  | c, p :: r => if refuseC c p.1 = 0 then ldC (insC (key p.1, p.2) c) r else (refuseC c p.1, [])

theorem hasC_cont (dat : Nat → List Int) (l : Dir) (k : List UInt8) : hasC (cont dat l) k = (look l k).isSome := by
  unfold hasC cont look
  induction l with
  | nil => rfl
  | cons y r ih =>
    rw [List.map_cons, List.any_cons, ih]
    by_cases h : y.1 = k
    · rw [List.find?_cons_of_pos (by simp [h])]; simp [h]
    · rw [List.find?_cons_of_neg (by simp [h])]; simp [h]
theorem insC_cont {dat : Nat → List Int} {f : Nat} {xs : List Int} {k : List UInt8} : ∀ {l : Dir}, (∀ p ∈ l, p.2 ≠ f) → insC (k, xs) (cont dat l) = cont (upd dat f xs) (ins (k, f) l)
  | [], _ => by simp [insC, cont, ins, upd_same]
  | y :: r, h => by
    have hy := h y (List.mem_cons_self ..)
    have ih := insC_cont (dat := dat) (xs := xs) (k := k) (l := r) (fun p hp => h p (List.mem_cons_of_mem _ hp))
    have hr : cont dat r = cont (upd dat f xs) r := List.map_congr_left (fun p hp => by rw [upd_other _ _ (h p (List.mem_cons_of_mem _ hp))])
    unfold ins
    rw [show cont dat (y :: r) = (y.1, dat y.2) :: cont dat r from rfl, insC]
    by_cases hb : bytesBefore k y.1 = true
    · rw [if_pos hb, if_pos hb, show cont (upd dat f xs) ((k, f) :: y :: r) = (k, upd dat f xs f) :: (y.1, upd dat f xs y.2) :: cont (upd dat f xs) r from rfl, upd_same, upd_other _ _ hy, hr]
    · rw [if_neg hb, if_neg hb, ih, show cont (upd dat f xs) (y :: ins (k, f) r) = (y.1, upd dat f xs y.2) :: cont (upd dat f xs) (ins (k, f) r) from rfl, upd_other _ _ hy]
theorem refuse_cont {S : Dk} {c : Cont} (h : cont S.dat S.now = c) (s : ByteArray) : S.refuse s = refuseC c s := by
  have hl : S.now.length = c.length := by rw [← h]; simp [cont]
  unfold Dk.refuse refuseC
  rw [← h, hasC_cont, h, hl]
  cases look S.now (key s) <;> simp

/-- A disk while its files are loaded. -/
structure Lod (S : Dk) (room : Int) (c : Cont) : Prop where
  calm : S.calm
  room : S.room = room
  steps : S.steps = 0
  safe : S.safe = []
  chg : S.chg = []
  cont : cont S.dat S.now = c
  saf : ∀ p ∈ S.now, S.saf p.2 = (S.dat p.2).length
  good : ∀ p ∈ S.now, ∃ s, bad s = false ∧ key s = p.1
/-- .. and when they are. -/
structure Loaded (S : Dk) (room : Int) (c : Cont) : Prop where
  calm : S.calm
  room : S.room = room
  steps : S.steps = 0
  safe : S.safe = S.now
  chg : S.chg = []
  cont : PK.cont S.dat S.now = c
  saf : ∀ p ∈ S.now, S.saf p.2 = (S.dat p.2).length
  good : ∀ p ∈ S.now, ∃ s, bad s = false ∧ key s = p.1

/-- A new file with bytes, named. -/
def Dk.put (S : Dk) (s : ByteArray) (f : Nat) (xs : List Int) : Dk := { S with now := PK.put S.now (key s) f, fs := fun g => S.fs g ∨ g = f, dat := upd S.dat f xs, saf := upd S.saf f xs.length }
theorem Lod.put {S : Dk} {room : Int} {c : Cont} (h : Lod S room c) {s : ByteArray} {f : Nat} {xs : List Int} (hr : refuseC c s = 0) (hf : ∀ p ∈ S.now, p.2 ≠ f) : Lod (S.put s f xs) room (insC (key s, xs) c) ∧ (S.put s f xs).now.length ≤ 400 := by
  rw [← refuse_cont h.cont] at hr
  have hb : bad s = false ∧ look S.now (key s) = none ∧ S.now.length < 400 := by
    unfold Dk.refuse at hr
    cases hb : bad s
    · rw [hb, if_neg (by simp)] at hr
      by_cases h1 : look S.now (key s) = none
      · rw [if_neg (by simp [h1])] at hr
        by_cases h2 : 400 ≤ S.now.length
        · rw [if_pos h2] at hr; omega
        · exact ⟨rfl, h1, by omega⟩
      · rw [if_pos h1] at hr; omega
    · rw [hb, if_pos rfl] at hr; omega
  have hmem : ∀ p, p ∈ PK.put S.now (key s) f → p = (key s, f) ∨ p ∈ S.now := fun p hp => by
    rcases mem_put.1 hp with h | h
    · exact .inl h
    · exact .inr h.1
  refine ⟨⟨⟨h.calm.plan, h.calm.off⟩, h.room, h.steps, h.safe, h.chg, ?_, ?_, ?_⟩, ?_⟩
  · show PK.cont (upd S.dat f xs) (PK.put S.now (key s) f) = _
    unfold PK.put
    rw [del_same hb.2.1, ← insC_cont hf, h.cont]
  · intro p hp
    show upd S.saf f xs.length p.2 = (upd S.dat f xs p.2).length
    rcases hmem p hp with rfl | hp
    · rw [upd_same, upd_same]
    · rw [upd_other _ _ (hf p hp), upd_other _ _ (hf p hp)]; exact h.saf p hp
  · intro p hp
    rcases hmem p hp with rfl | hp
    · exact ⟨s, hb.1, rfl⟩
    · exact h.good p hp
  · have := length_put S.now (key s) f
    show (PK.put S.now (key s) f).length ≤ 400
    omega

theorem DiskIn.putFile {d bn bs cc cp : Nat} {pc pp : Option Addr} {pd : Nat → Option Addr} {cd : Nat → Nat} {S : Dk} (h : DiskIn w own d bn bs pc cc pp cp pd cd S) (hk : ∀ k, k < w.heap.size → k ≠ bn → w'.heap[k]? = w.heap[k]?) {g c' : Nat} (hg : w.heap.size ≤ g) (hog : own g) {s : ByteArray} {A' : Option Addr} {xs : List Int}
    (hnow : DirAt w' bn (PK.put S.now (key s) g).length (PK.put S.now (key s) g)) (hblk : w'.heap[g]? = some (.cells #[.slice A' xs.length c', .int .i64 xs.length] 77 (0, 0))) (hrow : w'.ownsRow 0 5 1 (.slice A' xs.length c') xs.length (nums .u8 xs))
    (hA : ∀ a, A' = some a → w.heap.size ≤ a.block) (hown : ∀ a, A' = some a → own a.block) (hb : ∀ x ∈ xs, 0 ≤ x ∧ x < 256) (hl : xs.length ≤ 140737488355328) (hlen : (PK.put S.now (key s) g).length ≤ 400) : DiskAt w' own d (S.put s g xs) := by
  obtain ⟨en, cn, hen⟩ := h.now.map
  obtain ⟨es, cs, hes⟩ := h.safe.map
  have hcells : ∀ k cur t m, w.heap[k]? = some (Obj.cells cur t m) → w'.heap[k]? = w.heap[k]? := fun k cur t m hk1 => hk k (lt_of_block hk1) (map_ne hk1 hen)
  have hfn : ∀ f, S.fs f → f ≠ g := fun f hf e => by have := (h.files f hf).lt; omega
  have hpl : ∀ f, S.fs f → ∀ a, pd f = some a → a.block < w.heap.size := fun f hf a ha => ((h.files f hf).pblock ha).1
  have hrowk : ∀ {e sz n c : Nat} {p : Option Addr} {l : List Value}, w.ownsRow 0 e sz (.slice p n c) n l → w'.ownsRow 0 e sz (.slice p n c) n l := fun hr => own_ext hr (fun a ha => by
    subst ha
    obtain ⟨cur, hcur⟩ := ownsRow_blk hr
    exact hcells _ _ _ _ hcur)
  refine ⟨bn, bs, pc, cc, pp, cp, upd pd g A', upd cd g c', { h with
    blk := (hcells _ _ _ _ h.blk).trans h.blk
    now := hnow
    safe := h.safe.kept (hk bs h.safe.lt (fun e => h.ne e.symm))
    chg := hrowk h.chg
    plan := hrowk h.plan
    ref := fun f hf => by
      rcases hf with ⟨k, hk⟩ | hf | hf
      · rcases mem_put.1 hk with hk | ⟨hk, _⟩
        · injection hk with _ hk; exact .inr hk
        · exact .inl (h.ref f (.inl ⟨k, hk⟩))
      · exact .inl (h.ref f (.inr (.inl hf)))
      · exact .inl (h.ref f (.inr (.inr hf)))
    files := fun f hf => by
      by_cases e : f = g
      · subst e
        simp only [Dk.put, upd_same]
        exact ⟨hog, hblk, hrow, hown, Nat.le_refl _, hb, hl⟩
      · have hf' : S.fs f := by
          rcases hf with hf | hf
          · exact hf
          · exact absurd hf e
        have hff := h.files f hf'
        simp only [Dk.put, upd_other _ _ e]
        exact hff.kept (hcells _ _ _ _ hff.blk) (fun a ha => by
          have h1 := hff.row
          rw [ha] at h1
          obtain ⟨cur, hcur⟩ := ownsRow_blk h1
          exact hcells _ _ _ _ hcur)
    apart := fun f1 f2 h1 h2 hne a b ha hb' => by
      have gs : ∀ f, (S.put s g xs).fs f → f ≠ g → S.fs f := fun f hf e => by
        rcases hf with hf | hf
        · exact hf
        · exact absurd hf e
      by_cases e1 : f1 = g
      · subst e1
        rw [upd_same] at ha
        have e2 : f2 ≠ f1 := fun e => hne e.symm
        rw [upd_other _ _ e2] at hb'
        have h3 := hA a ha
        have h4 := hpl f2 (gs f2 h2 e2) b hb'
        omega
      · rw [upd_other _ _ e1] at ha
        by_cases e2 : f2 = g
        · subst e2
          rw [upd_same] at hb'
          have h3 := hA b hb'
          have h4 := hpl f1 (gs f1 h1 e1) a ha
          omega
        · rw [upd_other _ _ e2] at hb'
          exact h.apart f1 f2 (gs f1 h1 e1) (gs f2 h2 e2) hne a b ha hb'
    now1 := hlen }⟩
theorem DiskIn.setSafe0 {d bn bs cc cp bs' : Nat} {pc pp : Option Addr} {pd : Nat → Option Addr} {cd : Nat → Nat} {S : Dk} (h : DiskIn w own d bn bs pc cc pp cp pd cd S) (hbs : w.heap.size ≤ bs') (ho : own bs')
    (hblk : w'.heap[d]? = some (.cells #[.int .i64 S.room, .map (some bn), .map (some bs'), .slice pc S.chg.length cc, .slice pp S.plan.length cp, .int .i64 S.steps, .bool S.off] 82 (0, 0)))
    (hsafe : DirAt w' bs' S.now.length S.now) (hk : ∀ k, k < w.heap.size → k ≠ d → w'.heap[k]? = w.heap[k]?) :
    DiskIn w' own d bn bs' pc cc pp cp pd cd { S with safe := S.now } := by
  obtain ⟨en, cn, hen⟩ := h.now.map
  have hcells : ∀ k cur t m, w.heap[k]? = some (Obj.cells cur t m) → t ≠ 82 → w'.heap[k]? = w.heap[k]? := fun k cur t m hk1 ht1 =>
    hk k (lt_of_block hk1) (ty_ne hk1 h.blk ht1)
  have hlt := h.now.lt
  have hrowc : ∀ {sz n c : Nat} {e : TypeId} {p : Option Addr} {l : List Value}, e ≠ 82 → w.ownsRow 0 e sz (.slice p n c) n l → w'.ownsRow 0 e sz (.slice p n c) n l := fun he hr => own_ext hr (fun a ha => by
    subst ha
    obtain ⟨cur, hcur⟩ := ownsRow_blk hr
    exact hcells _ _ _ _ hcur he)
  exact { h with
    blk := hblk
    now := h.now.kept (hk bn h.now.lt (fun e => map_ne h.blk hen e.symm))
    safe := hsafe
    ne := by omega
    chg := hrowc (by decide) h.chg
    plan := hrowc (by decide) h.plan
    ref := fun f hf => by
      rcases hf with hf | hf | hf
      · exact h.ref f (.inl hf)
      · exact h.ref f (.inl hf)
      · exact h.ref f (.inr (.inr hf))
    files := fun f hf => (h.files f hf).kept (hcells _ _ _ _ (h.files f hf).blk (by decide)) (fun a ha => by
      have h1 := (h.files f hf).row
      rw [ha] at h1
      obtain ⟨cur, hcur⟩ := ownsRow_blk h1
      exact hcells _ _ _ _ hcur (by decide))
    os := ho }
theorem addr_add {b o j : Nat} : (⟨b, o, none⟩ : Addr).add j = ⟨b, o + j, none⟩ := by unfold Addr.add; split <;> simp_all
theorem addr_spot {w : World} {b o : Nat} {sp : Option Nat} {v : Value} (h : w.cell? ((⟨b, o, sp⟩ : Addr).add 0) = some v) : sp = none := by
  have e : (⟨b, o, sp⟩ : Addr).add 0 = ⟨b, o, sp⟩ := by simp [Addr.add]
  rw [e] at h
  unfold World.cell? at h
  cases sp with
  | none => rfl
  | some n =>
    exfalso
    cases hh : w.heap[b]? with
    | none => simp [hh] at h
    | some o => cases o <;> simp [hh] at h
theorem row_spot {α : Type} {d : Kd α} {w : World} {b o n : Nat} {sp : Option Nat} {l : List α} (h : d.C w (some ⟨b, o, sp⟩) n l) (hn : 0 < n) (hs : 0 < d.sz) : sp = none := by
  obtain ⟨ad, he, hc⟩ := h.2.2 hn
  injection he with he
  subst he
  have hl : 0 < l.length := by have := h.1; omega
  obtain ⟨c, hsz, _, hcell⟩ := hc 0 _ (List.getElem?_eq_getElem hl)
  have h0 : 0 < c.length := by omega
  have h1 := hcell 0 _ (List.getElem?_eq_getElem h0)
  rw [Nat.zero_mul] at h1
  exact addr_spot h1
theorem row_spot' {α : Type} {d : Kd α} {w : World} {ad : Addr} {n : Nat} {l : List α} (h : d.C w (some ad) n l) (hn : 0 < n) (hs : 0 < d.sz) : ad.spot = none := by
  obtain ⟨b, o, sp⟩ := ad
  exact row_spot h hn hs
def LoadMade (room : Int) (fs : List (ByteArray × List Int)) (w : World) (e : Ending) (w' : World) : Prop :=
  ((ldC [] fs).1 ≠ 0 ∧ e = .returned (.tuple #[.pointer none, .int .i64 (ldC [] fs).1]) ∧ Below w.heap.size w w') ∨
  ((ldC [] fs).1 = 0 ∧ ∃ d S, e = .returned (.tuple #[.pointer (some ⟨d, 0, none⟩), .int .i64 0]) ∧ Loaded S (min (max room 0) 16777216) (ldC [] fs).2 ∧ DiskAt w' (fun k => w.heap.size ≤ k) d S ∧ Below w.heap.size w w')
def LodAt (room : Int) (w : World) (d : Nat) (c : Cont) (wr : World) : Prop := ∃ S, Lod S room c ∧ DiskAt wr (fun k => w.heap.size ≤ k) d S ∧ Below w.heap.size w wr

set_option maxRecDepth 100000 in
set_option maxHeartbeats 6400000 in
theorem load_any (room : Int) (A : Option Addr) (cp : Nat) (fs : List (ByteArray × List Int)) (w : World) (hC : fileK.C w A fs.length fs) (hs : ∀ p ∈ fs, p.1.size ≤ 9223372036854775807 ∧ p.2.length ≤ 140737488355328 ∧ (∀ x ∈ p.2, 0 ≤ x ∧ x < 256)) :
    Calls Tryz.prog 8 #[.int .i64 room, .slice A fs.length cp] w (LoadMade room fs w) := by
  have hl := hC.2.1
  have hnew := new_any (own := fun k => w.heap.size ≤ k) room w (fun k hk => hk)
  have Z := Lib.hid hC; have Y := Lib.hid hs
  clear hC hs
  go_enter Tryz.func8, Tryz.ntmps8
  go_wp2_with (go_at_call 36; refine hnew.mono ?_; rintro e w1 ⟨d, hd, rfl, hD1, hb1⟩)
  have HD1 := Lib.hid hD1; have HB1 := Lib.hid hb1
  clear hD1 hb1 hnew
  go_loopw [8, 9, 14] (fun _ _ s14 wr => ∃ i : Nat, i ≤ fs.length ∧ s14 = .int .i64 i ∧ ∃ c, ldC [] fs = ldC c (fs.drop i) ∧ LodAt (min (max room 0) 16777216) w d c wr) (fun _ _ s14 _ => fs.length - (intOf s14).toNat)
  case atStart => exact ⟨0, Nat.zero_le _, rfl, [], rfl, Dk.new room, ⟨⟨rfl, rfl⟩, rfl, rfl, rfl, rfl, rfl, fun p hp => (by cases hp), fun p hp => (by cases hp)⟩, HD1.out, HB1.out⟩
  case round =>
    obtain ⟨i, hi, rfl, c, hld, S, hL, hD, hb⟩ := hrel
    have HLD := Lib.hid hld; have HL := Lib.hid hL; have HD := Lib.hid hD; have HB := Lib.hid hb
    clear hld hL hD hb
    by_cases hlt : i < fs.length
    · have hCr := Kd.C_below Z.out HB.out
      obtain ⟨ad, rfl, hcells⟩ := hCr.2.2 (by omega)
      have hsp := row_spot' hCr (by omega) (by decide)
      clear hCr
      obtain ⟨cs, hcs, hK, hcell⟩ := hcells i _ (List.getElem?_eq_getElem hlt)
      obtain ⟨s, xs, hsx⟩ : ∃ s xs, fs[i] = (s, xs) := ⟨_, _, rfl⟩
      rw [hsx] at hK
      obtain ⟨_, _, rfl, rfl, A2, c2, rfl, hc2, hR2⟩ := hK
      obtain ⟨b, off, sp⟩ := ad
      simp only at hsp
      subst hsp
      have r0 : wr.cell? ⟨b, off + i * 2, none⟩ = some (.string s) := by
        have h := hcell 0 _ rfl
        rw [addr_add] at h
        exact h
      have r1 : wr.cell? ⟨b, off + i * 2 + 1, none⟩ = some (.slice A2 xs.length c2) := by
        have h := hcell 1 _ rfl
        rw [addr_add] at h
        exact h
      have hdr : fs.drop i = (s, xs) :: fs.drop (i + 1) := by rw [List.drop_eq_getElem_cons hlt, hsx]
      have hy := Y.out _ (List.getElem_mem hlt)
      rw [hsx] at hy
      obtain ⟨hss, hxl, hxb⟩ := hy
      obtain ⟨wa, hwa⟩ : ∃ wa, wa = wr.alloc (.cells #[.string s, .slice A2 xs.length c2] 40) := ⟨_, rfl⟩
      have hba : Below wr.heap.size wr wa := by rw [hwa]; exact (Below.refl _ _).alloc (Nat.le_refl _) _
      have hDa := HD.out.below hba
      have hre := refuse_any d S s wa hDa hss
      rw [refuse_cont HL.out.cont] at hre
      have g0 : wa.cell? ⟨wr.heap.size, 0, none⟩ = some (.string s) := by rw [hwa]; simp [World.cell?_alloc_at]
      have g1 : wa.cell? ⟨wr.heap.size, 1, none⟩ = some (.slice A2 xs.length c2) := by rw [hwa]; simp [World.cell?_alloc_at]
      have hC2 : Kd.C (Kd.int .u8) wa A2 xs.length xs := Kd.C_below hR2 hba
      have lfa : wr.heap.size < wa.heap.size := by rw [hwa]; simp
      have HBA := Lib.hid hba; have HDA := Lib.hid hDa; have HDR := Lib.hid hdr; have HC2 := Lib.hid hC2
      clear hba hDa hdr hC2 hR2 hcell hsx hcells hcs
      go_upto_region 5 with fail
      simp only [← hwa]
      have HWA := Lib.hid hwa
      clear hwa
      by_cases h0 : refuseC c s = 0
      · have hne : (refuseC c s != 0) = false := by simpa using h0
        rw [h0] at hre
        have H0 := Lib.hid h0
        clear h0 hne
        obtain ⟨bn, bs, pc, cc, pp, cp', pd, cd, hin⟩ := HDA.out
        obtain ⟨c0, c1, c2', c3, c4, c5, c6⟩ := seven_cells hin.blk
        have ld := lt_of_block hin.blk
        have hn1 := hin.now1
        have HI := Lib.hid hin
        clear hin c0 c2' c3 c4 c5 c6
        go_upto_region 8 with (go_at_call 37; refine hre.mono ?_; rintro e w2 ⟨rfl, hb2⟩; have d1 := (hb2.cell (p := ⟨d, 1, none⟩) ld).trans c1; have f0 := (hb2.cell (p := ⟨wr.heap.size, 0, none⟩) lfa).trans g0; have f1 := (hb2.cell (p := ⟨wr.heap.size, 1, none⟩) lfa).trans g1)
        have hsz2 := hb2.size
        have hbc := bclone_any A2 c2 xs w2.drew (Kd.C_below HC2.out (hb2.trans ((Below.refl _ _).drew))) hxl
        have hnow2 : DirAt w2.drew bn S.now.length S.now := HI.out.now.kept (hb2.block _ HI.out.now.lt)
        have HNW := Lib.hid hnow2; have HB2 := Lib.hid hb2
        have lbn := hnow2.lt
        have ldn : d ≠ bn := map_ne HI.out.blk HI.out.now.map.choose_spec.choose_spec
        have lbf : wr.heap.size ≠ bn := map_ne (show wa.heap[wr.heap.size]? = _ from (by rw [HWA.out]; exact heap_alloc_new wr _)) HI.out.now.map.choose_spec.choose_spec
        clear hnow2 hb2
        go_region_held3 (fun w' => w'.cell? ⟨d, 1, none⟩ = some (.map (some bn)) ∧ w'.cell? ⟨wr.heap.size, 0, none⟩ = some (.string s) ∧ w'.cell? ⟨wr.heap.size, 1, none⟩ = some (.slice A2 xs.length c2))
          (go_keep)
          (first | (go_at_call 38; refine hbc.mono ?_; rintro e w3 ⟨A', c', rfl, ho3, hb3⟩; have d3 := (hb3.cell (p := ⟨d, 1, none⟩) (by simp only [World.drew]; omega)).trans d1; have f03 := (hb3.cell (p := ⟨wr.heap.size, 0, none⟩) (by simp only [World.drew]; omega)).trans f0; have f13 := (hb3.cell (p := ⟨wr.heap.size, 1, none⟩) (by simp only [World.drew]; omega)).trans f1; have hs3 : w2.heap.size ≤ w3.heap.size := hb3.size; have hown3 : (w3.alloc (.cells #[.slice A' xs.length c', .int .i64 ↑xs.length] 77)).ownsMap Tryz.prog 9 fileElem bn S.now.length (dmap S.now) := World.ownsMap.alloc (HNW.out.kept (hb3.block _ lbn)) _; obtain ⟨w4, hrun, hown4, hturn4⟩ := World.ownsMap.store hown3 law9 Tryz.underlying79 (by unfold maxLen; omega) (key9 s hss) (val := .pointer (some ⟨w3.heap.size, 0, none⟩)) (d := .held w3.heap.size) (ps := []) rfl; have hg4 := hturn4.grown; have hq4 : ∀ (a : Addr) (v : Value), a.block < w3.heap.size → a.block ≠ bn → w3.cell? a = some v → w4.cell? a = some v := fun a v hl hn hc => (hg4.cell_far a (by simp; omega) (fun e => hn (by injection e))).trans (cell_old hc); have d4 := hq4 ⟨d, 1, none⟩ _ (by simp only; omega) ldn d3; have f04 := hq4 ⟨wr.heap.size, 0, none⟩ _ (by simp only; omega) lbf f03; have f14 := hq4 ⟨wr.heap.size, 1, none⟩ _ (by simp only; omega) lbf f13; clear hq4))
        all_goals go_wp2
        all_goals
          have hin := HI.out
          have hrg : refuseC c s = 0 := H0.out
          have hsa : wa.heap.size = wr.heap.size + 1 := by rw [HWA.out]; simp
          have hk3 : ∀ k, k < w2.heap.size → w3.heap[k]? = w2.heap[k]? := fun k hk => hb3.block k hk
          have hk4 : ∀ k, k < w3.heap.size + 1 → k ≠ bn → w4.heap[k]? = (w3.alloc (.cells #[.slice A' xs.length c', .int .i64 ↑xs.length] 77)).heap[k]? := fun k hk hkb => hg4.block k (by simp; omega) (fun e => hkb (by injection e))
          have hk : ∀ k, k < wa.heap.size → k ≠ bn → w4.heap[k]? = wa.heap[k]? := fun k hk hkb => (((hk4 k (by omega) hkb).trans (Below.heap_alloc _ _ _ (by omega))).trans (hk3 k (by omega))).trans (HB2.out.block k hk)
          have lb2 : bn < wa.heap.size := hin.now.lt
          have hblk4 : w4.heap[w3.heap.size]? = some (.cells #[.slice A' xs.length c', .int .i64 ↑xs.length] 77 (0, 0)) := (hk4 _ (by omega) (by omega)).trans (heap_alloc_new w3 _)
          have hA' : ∀ a, A' = some a → w2.heap.size ≤ a.block ∧ a.block < w3.heap.size := fun a ha => by
            subst ha
            exact ⟨own_base ho3 _ rfl, own_lt ho3 _ rfl⟩
          have hrow4 : w4.ownsRow 0 5 1 (.slice A' xs.length c') xs.length (nums .u8 xs) := own_weaken (own_ext ho3 (fun a ha => (hk4 _ (by have := hA' a ha; omega) (by have := hA' a ha; omega)).trans (Below.heap_alloc _ _ _ (hA' a ha).2))) (Nat.zero_le _)
          have hwle := HB.out.size
          have hfn : ∀ p ∈ S.now, p.2 ≠ w3.heap.size := fun p hp e => by have := (hin.files p.2 (hin.ref _ (.inl ⟨p.1, hp⟩))).lt; omega
          obtain ⟨hL2, hlen⟩ := HL.out.put (xs := xs) hrg hfn
          have hnow4 := DirAt.of_put hown4
          have hD4 := DiskIn.putFile hin hk (g := w3.heap.size) (by omega) (by show w.heap.size ≤ w3.heap.size; omega) (s := s) hnow4.tight hblk4 hrow4 (fun a ha => by have := hA' a ha; omega) (fun a ha => by have := hA' a ha; show w.heap.size ≤ a.block; omega) hxb hxl hlen
          refine ⟨⟨i + 1, by omega, by go_num, insC (key s, xs) c, ?_, S.put s w3.heap.size xs, hL2, hD4, ?_⟩, by simp [intOf]; omega⟩
          · rw [HLD.out, HDR.out, ldC, if_pos hrg]
          · exact ((((HB.out.trans (HBA.out.mono HB.out.size)).trans (HB2.out.mono (by omega))).drew.trans (hb3.mono (by show w.heap.size ≤ w2.heap.size; omega))).alloc (by omega) _).grown hg4 (by simp; omega) (fun r e => by injection e with e; rw [← e]; exact hin.on)
      · have hne : (refuseC c s != 0) = true := by simpa using h0
        have hld : ldC [] fs = (refuseC c s, []) := by rw [HLD.out, HDR.out, ldC, if_neg h0]
        have HL2 := Lib.hid hld; have H0 := Lib.hid h0
        clear hld h0
        go_wp2_with (go_at_call 37; refine hre.mono ?_; rintro e w2 ⟨rfl, hb2⟩)
        go_ret2
        left
        rw [HL2.out]
        exact ⟨H0.out, rfl, (HB.out.trans (HBA.out.mono HB.out.size)).trans (hb2.mono (by have := HB.out.size; omega))⟩
    · obtain rfl : i = fs.length := by omega
      have hld : ldC [] fs = (0, c) := by rw [HLD.out, List.drop_length]; rfl
      have HL2 := Lib.hid hld
      clear hld
      obtain ⟨bn, bs, pc, cc, pp, cp', pd, cd, hin⟩ := HD.out
      obtain ⟨c0, c1, c2, c3, c4, c5, c6⟩ := seven_cells hin.blk
      have ld := lt_of_block hin.blk
      have z2 := all_free hin.blk 2
      have hcl := clone_any bn _ S.now wr hin.now
      have HI := Lib.hid hin
      clear hin
      go_wp2_with (go_at_call 39; refine hcl.mono ?_; rintro e w2 ⟨rfl, hs2, hb2⟩; have e2 := (hb2.cell (p := ⟨d, 2, none⟩) ld).trans c2; have x2 := (hb2.frozen (p := ⟨d, 2, none⟩) ld).trans z2)
      go_ret2
      right
      rw [HL2.out]
      have hh := HI.out
      have hd2 := (hb2.block d ld).trans hh.blk
      have hd3 := block_setCell (i := 2) (u := .map (some wr.heap.size)) hd2
      have hdi := DiskIn.setSafe0 (w := wr) (w' := w2.setCell ⟨d, 2, none⟩ (.map (some wr.heap.size))) hh (Nat.le_refl _) (show w.heap.size ≤ wr.heap.size from HB.out.size) hd3 (hs2.kept (Below.heap_setCell _ _ _ _ (Nat.ne_of_gt ld))) (fun k hk hkd => (Below.heap_setCell _ _ _ _ hkd).trans (hb2.block k hk))
      refine ⟨rfl, d, { S with safe := S.now }, rfl, ?_, ⟨_, _, _, _, _, _, _, _, hdi⟩, ?_⟩
      · exact ⟨⟨HL.out.calm.plan, HL.out.calm.off⟩, HL.out.room, HL.out.steps, rfl, HL.out.chg, HL.out.cont, HL.out.saf, HL.out.good⟩
      · exact (HB.out.trans (hb2.mono HB.out.size)).setCell (by exact hd) _
end Go.Proofs.YtgcpiofpjogjcaaGreatDoor.PK
end
section
namespace Go.Proofs.YtgcpiofpjogjcaaGreatDoor.PK
open Go.RowKit Go.Proofs.YtgcpiofpjogjcaaGreatDoorW.PrintWords Go.Proofs.YtgcpiofpjogjcaaGreatDoorW.PrintLast Go.Proofs.YtgcpiofpjogjcaaGreatDoorW.PrintMore
set_option linter.unusedVariables false
set_option linter.unusedSimpArgs false

/-! ### Names -/
def okU (b : UInt8) : Bool := (97 ≤ b.toNat && b.toNat ≤ 122) || (48 ≤ b.toNat && b.toNat ≤ 57) || b.toNat == 46 || b.toNat == 95 || b.toNat == 45
theorem okU_cut : ∀ b : UInt8, cutB.data.toList.contains b = okU b := by
  intro b
  have h : ∀ n : Fin 256, cutB.data.toList.contains (UInt8.ofNat n.val) = okU (UInt8.ofNat n.val) := by decide +kernel
  have := h ⟨b.toNat, b.toNat_lt⟩
  simpa using this
theorem dropWhile_nil {α : Type} {p : α → Bool} {l : List α} : l.dropWhile p = [] ↔ ∀ x ∈ l, p x = true := by
  induction l with
  | nil => simp
  | cons a l ih =>
    rw [List.dropWhile_cons]
    by_cases h : p a = true
    · rw [if_pos h, ih]; simp [h]
    · rw [if_neg h]; simp [h]
theorem trimS_nil (l cs : List UInt8) : Lib.trimS l cs = [] ↔ ∀ x ∈ l, cs.contains x = true := by
  unfold Lib.trimS Lib.trimLeftS Lib.trimRightS
  rw [dropWhile_nil]
  constructor
  · intro h
    have h2 : l.reverse.dropWhile (cs.contains ·) = [] := by
      cases hm : l.reverse.dropWhile (cs.contains ·) with
      | nil => rfl
      | cons a m =>
        exfalso
        have h3 := List.head?_dropWhile_not (cs.contains ·) l.reverse
        rw [hm] at h3
        simp only [List.head?_cons] at h3
        rw [hm] at h
        have := h a (by simp)
        rw [this] at h3
        cases h3
    rw [dropWhile_nil] at h2
    intro x hx
    exact h2 x (by simpa using hx)
  · intro h x hx
    rw [List.mem_reverse] at hx
    exact h x (by have := List.dropWhile_sublist (cs.contains ·) |>.subset hx; simpa using this)
theorem bad_eq (s : ByteArray) : bad s = !(decide (s.size ≠ 0) && (decide (s.size ≤ 40) && s.data.toList.all okU)) := by
  have h1 : s = ⟨#[]⟩ ↔ s.size = 0 := by
    constructor
    · rintro rfl; rfl
    · intro h
      obtain ⟨⟨l⟩⟩ := s
      have : l.length = 0 := h
      rw [List.eq_nil_of_length_eq_zero this]
  have h2 : trimmed s = ⟨#[]⟩ ↔ s.data.toList.all okU = true := by
    unfold trimmed
    have : (⟨(Lib.trimS s.data.toList cutB.data.toList).toArray⟩ : ByteArray) = ⟨#[]⟩ ↔ Lib.trimS s.data.toList cutB.data.toList = [] := by
      constructor
      · intro h
        have := congrArg (fun b : ByteArray => b.data.toList) h
        simpa using this
      · intro h; rw [h]
    rw [this, trimS_nil, List.all_eq_true]
    exact ⟨fun h x hx => by rw [← okU_cut]; exact h x hx, fun h x hx => by rw [okU_cut]; exact h x hx⟩
  unfold bad
  by_cases a1 : s.size = 0 <;> by_cases a2 : s.size ≤ 40 <;> by_cases a3 : s.data.toList.all okU = true
  all_goals simp [h1, h2, a1, a2, a3]
  all_goals (try omega)
theorem bt_at {s : ByteArray} {i : Nat} (h : i < s.size) : bt s (i : Int) = ((s.data.toList[i]'(by rw [Array.length_toList]; exact h)).toNat : Int) := by
  unfold bt
  rw [dif_pos (by simpa using h)]
  simp
  rfl
theorem named_l0 (s : ByteArray) (hs : s.size ≤ 9223372036854775806) : ∀ n i, i + n = s.size → stoaref14_Named.l0 (n + 1) s (i : Int) = some ((s.data.toList.drop i).all okU) := by
  have hlen : s.data.toList.length = s.size := by rw [Array.length_toList]; rfl
  intro n
  induction n with
  | zero =>
    intro i h
    unfold stoaref14_Named.l0
    rw [if_neg (by omega), List.drop_of_length_le (by omega)]
    rfl
  | succ n ih =>
    intro i h
    have hi : i < s.data.toList.length := by omega
    have ih := ih (i + 1) (by omega)
    unfold stoaref14_Named.l0
    rw [if_pos (by omega), if_pos (by omega), bt_at (by omega), w64s i (by omega), List.drop_eq_getElem_cons hi, List.all_cons, ih]
    generalize s.data.toList[i] = b
    have hb : okU b = true ↔ (97 ≤ (b.toNat : Int) ∧ (b.toNat : Int) ≤ 122) ∨ (48 ≤ (b.toNat : Int) ∧ (b.toNat : Int) ≤ 57) ∨ (b.toNat : Int) = 46 ∨ (b.toNat : Int) = 95 ∨ (b.toNat : Int) = 45 := by
      unfold okU
      simp only [Bool.or_eq_true, Bool.and_eq_true, decide_eq_true_eq, beq_iff_eq]
      omega
    by_cases hk : okU b = true
    · rw [hk, Bool.true_and]
      have h1 := hb.1 hk
      repeat' split
      all_goals first | rfl | (exfalso; omega)
    · have h1 := fun h => hk (hb.2 h)
      rw [Bool.eq_false_iff.2 hk, Bool.false_and]
      repeat' split
      all_goals first | rfl | (exfalso; exact h1 (by omega))
theorem named_law (s : ByteArray) : Ev (fun k => stoaref14_Named.f k s) (!bad s) := by
  refine Ev.of (fun k => stoaref14_Named.mono s k) (k := s.size + 2) ?_
  rw [bad_eq, Bool.not_not]
  unfold stoaref14_Named.f
  have j1 : stoaref14_Named.j0 (s.size + 2) s true = some false := by unfold stoaref14_Named.j0; rfl
  have j2 : stoaref14_Named.j0 (s.size + 2) s false = stoaref14_Named.l0 (s.size + 1) s 0 := by
    rw [show s.size + 2 = (s.size + 1) + 1 from rfl]
    simp only [stoaref14_Named.j0]
    rfl
  by_cases h1 : s.size = 0
  · rw [if_pos (by omega), j1]
    simp [h1]
  · rw [if_neg (by omega)]
    by_cases h2 : s.size ≤ 40
    · have h0 : stoaref14_Named.l0 (s.size + 1) s 0 = _ := named_l0 s (by omega) s.size 0 (by omega)
      rw [show decide ((s.size : Int) > 40) = false from by simp; omega, j2, h0]
      simp [h1, h2]
    · rw [show decide ((s.size : Int) > 40) = true from by simp; omega, j1]
      simp [h1, h2]
end Go.Proofs.YtgcpiofpjogjcaaGreatDoor.PK
end
section
namespace Go.Proofs.YtgcpiofpjogjcaaGreatDoor.PK
open Go.RowKit Go.Maps Go.Sort Go.Proofs.YtgcpiofpjogjcaaGreatDoorW.PrintWords Go.Proofs.YtgcpiofpjogjcaaGreatDoorW.PrintLast Go.Proofs.YtgcpiofpjogjcaaGreatDoorW.PrintMore
open Go.Op (binOp)
set_option linter.unusedVariables false
set_option linter.unusedSimpArgs false
variable {own : Nat → Prop} {w w' : World}

/-! ### Plan -/
def fatK : Kd Fat where
  sz := 3
  E := []
  K := fun _ x cs => cs = fateV x
  M := fun _ _ _ x cs => cs = fateV x
  K_len := fun h => by rw [h]; rfl
  K_one := fun h u hu => by
    rw [h] at hu
    simp only [fateV, List.mem_cons, List.not_mem_nil, or_false] at hu
    rcases hu with rfl | rfl | rfl <;> rfl
  K_below := fun _ h => h
  K_of_M := fun h => h
  M_mono := fun _ h => h
  M_bound := fun h => h
  M_move := fun _ h => h
  M_lower := fun _ h => h
theorem fat_inner : ∀ {xs : List Fat} {inner : List Value}, Reps (fun x cs => cs = fateV x) 3 xs inner → inner = xs.flatMap fateV
  | [], inner, h => by
    have := h.1
    simp at this
    rw [this]; rfl
  | x :: r, inner, h => by
    have h0 := h.2 0 x rfl
    rw [Nat.zero_mul, List.drop_zero] at h0
    have hr : Reps (fun x cs => cs = fateV x) 3 r (inner.drop 3) := by
      refine ⟨?_, fun j p hj => ?_⟩
      · have := h.1
        rw [List.length_drop, this, List.length_cons]; omega
      · have := h.2 (j + 1) p (by simpa using hj)
        rw [List.drop_drop, show 3 + j * 3 = (j + 1) * 3 from by omega]
        exact this
    rw [List.flatMap_cons, ← fat_inner hr, ← h0, List.take_append_drop]
theorem infoFat : (Tryz.prog.info? 69).map (fun i => (i.zero, i.size, i.bytes)) = some (some (.agg #[.int .i64 0, .int .i64 0, .int .i64 0]), fatK.sz, 24) := by kernel_rfl
def FatesMade (fs : List Fat) (w : World) (e : Ending) (w' : World) : Prop := ∃ A c, e = .returned (.slice A fs.length c) ∧ w'.ownsRow w.heap.size 69 3 (.slice A fs.length c) fs.length (fs.flatMap fateV) ∧ Below w.heap.size w w'
theorem fates_of_R {fs : List Fat} {v : Value} {e : Ending} {ok : Nat → Prop} (he : e = .returned v) (hR : fatK.R 69 w' w.heap.size ok v fs) (hb : Below w.heap.size w w') : FatesMade fs w e w' := by
  obtain ⟨A, c, rfl⟩ := Kd.R_slice hR
  obtain ⟨_, inner, ho, hr⟩ := hR
  exact ⟨A, c, he, by rw [← fat_inner hr]; exact ho, hb⟩
set_option maxRecDepth 100000 in
theorem cloneFates_any (A : Option Addr) (c : Nat) (fs : List Fat) (w : World) (hC : fatK.C w A fs.length fs) (hl : fs.length ≤ 5497558138880) :
    Calls Tryz.prog 61 #[.slice A fs.length c] w (FatesMade fs w) := by
  have hq : ∀ (w : World) (a : Option Addr) (n c n' c' : Nat), (binOp .eql 33 (.slice a n c) (.slice none n' c')).run Tryz.prog w = .ok (.bool a.isNone) w := fun w a n c n' c' => Lib.run_eql_slice_nil w _ _ a n c n' c' Tryz.underlying33
  cases A with
  | none =>
    have h0 : fs.length = 0 := by
      rcases Nat.eq_zero_or_pos fs.length with h | h
      · exact h
      · obtain ⟨ad, h, _⟩ := hC.2.2 h
        cases h
    obtain rfl := List.eq_nil_of_length_eq_zero h0
    go_enter Tryz.func61, Tryz.ntmps61
    go_wp2
    go_ret
    exact ⟨none, 0, rfl, (own_nil _ _ _ _ : _), Below.refl _ _⟩
  | some ad =>
    go_enter Tryz.func61, Tryz.ntmps61
    go_wp2_with (first
      | ((with_reducible refine gate_dst (N := 5) rfl ?_); refine Kd.R_lit fatK _ 69 ?hg (N := 5) ?hd (xs := ([] : List Fat)) (inner := []) (ok := fun k => w.heap.size ≤ k) (okp := fun _ => False) ?hr ?hp (fun _ hk => hk.elim) (Nat.le_refl _) (Below.refl _ _) (Nat.le_refl _) (by simp) ?_; (case hd => rfl); (case hg => rfl); (case hr => first | (go_simp; done) | (go_simp; rfl)); (case hp => exact (Reps.none _ _)); intro v1 w1 hR1 hb1 hg1 hat1; have HR1 := Lib.hid hR1; have HB1 := Lib.hid hb1; have hCr := Kd.C_below hC hb1; have HC := Lib.hid hCr; clear hg1 hat1 hR1 hb1 hCr)
      | (at_builtin; refine Kd.R_append_rows fatK (w0 := w) w.heap.size rfl (.tmp 5) (.tmp 6) 33 69 (.agg #[.int .i64 0, .int .i64 0, .int .i64 0]) 24 rfl Tryz.underlying33 infoFat rfl (by decide) (by omega) v1 [] fs (some ad) fs.length c (fun k => w.heap.size ≤ k) (fun _ => False) rfl rfl HR1.out HC.out (fun x cs h => h) (fun _ h => h.elim) (fun k hk => Nat.le_trans HB1.out.size hk) HB1.out HB1.out.size (by simp; omega) ?_; intro v2 w2 hR2 hb2 hg2 hat2))
    go_ret
    exact fates_of_R rfl (by simpa using hR2) hb2

theorem DiskIn.setPlan {d bn bs cc cp cp' : Nat} {pc pp pp' : Option Addr} {pd : Nat → Option Addr} {cd : Nat → Nat} {S : Dk} {fs : List Fat} (h : DiskIn w own d bn bs pc cc pp cp pd cd S)
    (hb : w'.heap[d]? = some (.cells #[.int .i64 S.room, .map (some bn), .map (some bs), .slice pc S.chg.length cc, .slice pp' fs.length cp', .int .i64 S.steps, .bool S.off] 82 (0, 0)))
    (hk : ∀ k, k < w.heap.size → k ≠ d → w'.heap[k]? = w.heap[k]?) (hp : w'.ownsRow 0 69 3 (.slice pp' fs.length cp') fs.length (fs.flatMap fateV)) (ho : ∀ a, pp' = some a → own a.block)
    (hf : ∀ c ∈ fs, (Lit.int .i64 c.step).wf = true ∧ (Lit.int .i64 c.kind).wf = true ∧ (Lit.int .i64 c.n).wf = true) : DiskIn w' own d bn bs pc cc pp' cp' pd cd { S with plan := fs } := by
  obtain ⟨en, cn, hen⟩ := h.now.map
  obtain ⟨es, cs, hes⟩ := h.safe.map
  have hcells : ∀ k cur t m, w.heap[k]? = some (Obj.cells cur t m) → t ≠ 82 → w'.heap[k]? = w.heap[k]? := fun k cur t m hk1 ht1 =>
    hk k (lt_of_block hk1) (ty_ne hk1 h.blk ht1)
  exact { h with
    blk := hb
    now := h.now.kept (hk bn h.now.lt (fun e => map_ne h.blk hen e.symm))
    safe := h.safe.kept (hk bs h.safe.lt (fun e => map_ne h.blk hes e.symm))
    chg := ownsRow_kept h.chg (fun g hg => by
      cases pc with
      | none => simp [Value.ownBlock] at hg
      | some a =>
        simp only [Value.ownBlock, Option.some.injEq] at hg
        subst hg
        obtain ⟨cur, hcur⟩ := ownsRow_blk h.chg
        exact hcells _ _ _ _ hcur (by decide))
    plan := hp
    ref := h.ref
    files := fun f hf => (h.files f hf).kept (hcells _ _ _ _ (h.files f hf).blk (by decide)) (fun a ha => by
      have h1 := (h.files f hf).row
      rw [ha] at h1
      obtain ⟨cur, hcur⟩ := ownsRow_blk h1
      exact hcells _ _ _ _ hcur (by decide))
    op := ho
    fates := hf }
set_option maxRecDepth 100000 in
theorem plan_any (d : Nat) (S : Dk) (A : Option Addr) (c : Nat) (fs : List Fat) (w : World) (h : DiskAt w own d S) (hfr : Fresh own w) (hC : fatK.C w A fs.length fs) (hl : fs.length ≤ 5497558138880)
    (hf : ∀ c ∈ fs, (Lit.int .i64 c.step).wf = true ∧ (Lit.int .i64 c.kind).wf = true ∧ (Lit.int .i64 c.n).wf = true) :
    Calls Tryz.prog 30 #[.pointer (some ⟨d, 0, none⟩), .slice A fs.length c] w fun e w' => e = .returned (.tuple #[]) ∧ DiskAt w' own d { S with plan := fs } ∧ Turn own w w' := by
  have hcl := cloneFates_any A c fs w hC hl
  obtain ⟨bn, bs, pc, cc, pp, cp, pd, cd, h⟩ := h
  obtain ⟨c0, c1, c2, c3, c4, c5, c6⟩ := seven_cells h.blk
  have ld := lt_of_block h.blk
  have z4 := all_free h.blk 4
  have HH := Lib.hid h; have HF := Lib.hid hfr
  clear h hfr hC c0 c1 c2 c3 c5 c6
  go_enter Tryz.func30, Tryz.ntmps30
  go_wp2_with (go_at_call 61; refine hcl.mono ?_; rintro e w1 ⟨A', c', rfl, ho1, hb1⟩; have d4 := (hb1.cell (p := ⟨d, 4, none⟩) ld).trans c4; have y4 := (hb1.frozen (p := ⟨d, 4, none⟩) ld).trans z4; have hd1 := (hb1.block d ld).trans HH.out.blk)
  go_end0
  have hk : ∀ k, k ≠ d → (w1.setCell ⟨d, 4, none⟩ (.slice A' fs.length c')).heap[k]? = w1.heap[k]? := fun k hk => Below.heap_setCell _ _ _ _ hk
  have hA' : ∀ a, A' = some a → w.heap.size ≤ a.block := fun a ha => by subst ha; exact own_base ho1 _ rfl
  refine ⟨rfl, ⟨bn, bs, pc, cc, A', c', pd, cd, HH.out.setPlan (block_setCell hd1) (fun k hlt hne => (hk k hne).trans (hb1.block k hlt)) ?_ (fun a ha => HF.out _ (hA' a ha)) hf⟩, (Turn.of_below hb1).trans (Turn.setCell _ _ HH.out.od)⟩
  exact own_weaken (own_ext ho1 (fun a ha => hk _ (by have := hA' a ha; omega))) (Nat.zero_le _)
theorem power_any (d : Nat) (S : Dk) (w : World) (h : DiskAt w own d S) :
    Calls Tryz.prog 29 #[.pointer (some ⟨d, 0, none⟩)] w fun e w' => e = .returned (.bool !S.off) ∧ w' = w := by
  obtain ⟨bn, bs, pc, cc, pp, cp, pd, cd, h⟩ := h
  obtain ⟨c0, c1, c2, c3, c4, c5, c6⟩ := seven_cells h.blk
  clear h c0 c1 c2 c3 c4 c5
  go_enter Tryz.func29, Tryz.ntmps29
  go_wp2
  go_ret
  exact ⟨rfl, rfl⟩

/-! ### Twin, Alike -/
def toF (p : ByteArray × List Int) : S40 := ⟨p.1, p.2⟩
def prF (p : S40) : ByteArray × List Int := (p.f0, p.f1)
theorem toF_prF (l : List S40) : (l.map prF).map toF = l := by rw [List.map_map]; exact (List.map_congr_left (fun _ _ => rfl)).trans (List.map_id _)
theorem prF_toF (l : List (ByteArray × List Int)) : (l.map toF).map prF = l := by rw [List.map_map]; exact (List.map_congr_left (fun _ _ => rfl)).trans (List.map_id _)
theorem fileC_toF {A : Option Addr} {n : Nat} {fs : List (ByteArray × List Int)} (h : fileK.C w A n fs) : Kd.C k40 w A n (fs.map toF) := by
  refine ⟨by rw [List.length_map]; exact h.1, h.2.1, fun hp => ?_⟩
  obtain ⟨ad, rfl, hr⟩ := h.2.2 hp
  refine ⟨ad, rfl, fun j p hj => ?_⟩
  rw [List.getElem?_map] at hj
  obtain ⟨q, hq, rfl⟩ := Option.map_eq_some_iff.1 hj
  exact hr j q hq
theorem fileC_ofF {A : Option Addr} {n : Nat} {fs : List S40} (h : Kd.C k40 w A n fs) : fileK.C w A n (fs.map prF) := by
  refine ⟨by rw [List.length_map]; exact h.1, h.2.1, fun hp => ?_⟩
  obtain ⟨ad, rfl, hr⟩ := h.2.2 hp
  refine ⟨ad, rfl, fun j p hj => ?_⟩
  rw [List.getElem?_map] at hj
  obtain ⟨q, hq, rfl⟩ := Option.map_eq_some_iff.1 hj
  exact hr j q hq
theorem Ev.to {α : Type} {g : Nat → Option α} {r r' : α} (h : Ev g r) (e : r = r') : Ev g r' := e ▸ h
theorem rdF_at {l : List S40} {i : Nat} (h : i < l.length) : rd_T40 l (i : Int) = l[i] := by unfold rd_T40; rw [Int.toNat_natCast, List.getD_eq_getElem?_getD, List.getElem?_eq_getElem h, Option.getD_some]
theorem copy_ev (l : List Int) (hl : l.length ≤ 140737488355328) : Ev (fun k => stoaref01_Copy.f k l) l := ⟨l.length + 1, fun k hk => up (fun k => stoaref01_Copy.mono l k) (copy_l0 l hl l.length 0 (by omega)) k hk⟩
theorem same_ev (a b : List Int) (hl : a.length < 9223372036854775807) : Ev (fun k => stoaref01_Same.f k a b) (decide (a = b)) := ⟨a.length + 1, fun k hk => up (fun k => stoaref01_Same.mono a b k) (same_law a b hl) k hk⟩
theorem twin_l0 (l : List S40) (hl : l.length < 3518437208883) (hs : ∀ p ∈ l, p.f1.length ≤ 140737488355328) : ∀ (n i : Nat) (out : List S40), i + n = l.length → out.length + n ≤ 3518437208882 → Ev (fun k => stoaref14_Twin.l0 k l out (i : Int)) (out ++ l.drop i) := by
  intro n
  induction n with
  | zero =>
    intro i out h ho
    refine Ev.step (f := fun _ => some out) (fun k => ?_) ?_
    · rw [stoaref14_Twin.l0, if_neg (by omega)]
    · rw [List.drop_of_length_le (by omega), List.append_nil]; exact Ev.now _
  | succ n ih =>
    intro i out h ho
    have hi : i < l.length := by omega
    have hx := hs _ (List.getElem_mem hi)
    refine Ev.step (f := fun k => (stoaref01_Copy.f k l[i].f1).bind fun t => stoaref14_Twin.l0 k l (out ++ [⟨l[i].f0, t⟩]) ((i + 1 : Nat) : Int)) (fun k => ?_) ?_
    · rw [stoaref14_Twin.l0, if_pos (by omega), if_pos (by omega), rdF_at hi, w64s i (by omega)]
      congr 1
      funext t
      rw [if_pos (by omega)]
    · refine Ev.bind (copy_ev _ hx) ?_
      rw [List.drop_eq_getElem_cons hi]
      exact Ev.to (ih (i + 1) (out ++ [l[i]]) (by omega) (by rw [List.length_append, List.length_singleton]; omega)) (by simp)
theorem twin_any (A : Option Addr) (c : Nat) (fs : List (ByteArray × List Int)) (w : World) (h : fileK.C w A fs.length fs) (hc : fs.length ≤ c) (hl : fs.length < 3518437208883) (hs : ∀ p ∈ fs, p.2.length ≤ 140737488355328) :
    Calls Tryz.prog 7 #[.slice A fs.length c] w fun e w' => ∃ v, e = .returned v ∧ Kd.S k40 40 w' w.heap.size (fun _ => True) v (fs.map toF) ∧ Below w.heap.size w w' := by
  have hlen : (fs.map toF).length = fs.length := List.length_map ..
  obtain ⟨k, hk⟩ := (show Ev (fun k => stoaref14_Twin.f k (fs.map toF)) (fs.map toF) from by
    have := twin_l0 (fs.map toF) (by omega) (by intro p hp; obtain ⟨q, hq, rfl⟩ := List.mem_map.1 hp; exact hs q hq) (fs.map toF).length 0 [] (by omega) (by simp; omega)
    exact Ev.to this (by simp)).rounds
  have := stoaref14_Twin.calls k A c (fs.map toF) (fs.map toF) w (by rw [hlen]; exact fileC_toF h) (by omega) hk
  rw [hlen] at this
  exact this
/-- Are two lists of files the same? -/
def alikeB (a b : List S40) : Bool := decide (a.map (fun p => (p.f0.toList, p.f1)) = b.map (fun p => (p.f0.toList, p.f1)))
theorem alikeB_cons (x y : S40) (r s : List S40) : alikeB (x :: r) (y :: s) = (decide (x.f0.toList = y.f0.toList ∧ x.f1 = y.f1) && alikeB r s) := by
  unfold alikeB
  rw [List.map_cons, List.map_cons]
  by_cases h1 : x.f0.toList = y.f0.toList <;> by_cases h2 : x.f1 = y.f1 <;> simp [h1, h2]
theorem alike_l0 (a b : List S40) (hab : a.length = b.length) (hl : a.length < 9223372036854775807) (hs : ∀ p ∈ a, p.f1.length < 9223372036854775807) : ∀ n i : Nat, i + n = a.length → Ev (fun k => stoaref14_Alike.l0 k a b (i : Int)) (alikeB (a.drop i) (b.drop i)) := by
  intro n
  induction n with
  | zero =>
    intro i h
    refine Ev.step (f := fun _ => some true) (fun k => ?_) ?_
    · rw [stoaref14_Alike.l0, if_neg (by omega)]
    · rw [List.drop_of_length_le (by omega), List.drop_of_length_le (by omega)]; exact Ev.now _
  | succ n ih =>
    intro i h
    have hi : i < a.length := by omega
    have hj : i < b.length := by omega
    have hx := hs _ (List.getElem_mem hi)
    rw [List.drop_eq_getElem_cons hi, List.drop_eq_getElem_cons hj]
    by_cases he : a[i].f0.toList = b[i].f0.toList
    · refine Ev.step (f := fun k => (stoaref01_Same.f k a[i].f1 b[i].f1).bind fun t => if t = true then stoaref14_Alike.l0 k a b ((i + 1 : Nat) : Int) else some false) (fun k => ?_) ?_
      · rw [stoaref14_Alike.l0, if_pos (by omega), if_pos (by omega), if_pos (by omega), rdF_at hi, rdF_at hj, if_pos he, w64s i (by omega)]
      · refine Ev.bind (same_ev _ _ hx) ?_
        by_cases h2 : a[i].f1 = b[i].f1
        · refine Ev.congr (fun k => if_pos (by simpa using h2)) (Ev.to (ih (i + 1) (by omega)) ?_)
          rw [alikeB_cons, decide_eq_true ⟨he, h2⟩, Bool.true_and]
        · refine Ev.congr (fun k => if_neg (by simpa using h2)) (Ev.to (Ev.now false) ?_)
          rw [alikeB_cons, decide_eq_false (fun e => h2 e.2), Bool.false_and]
    · refine Ev.step (f := fun _ => some false) (fun k => ?_) (Ev.to (Ev.now false) ?_)
      · rw [stoaref14_Alike.l0, if_pos (by omega), if_pos (by omega), if_pos (by omega), rdF_at hi, rdF_at hj, if_neg he]
      · rw [alikeB_cons, decide_eq_false (fun e => he e.1), Bool.false_and]
theorem alike_law (a b : List S40) (hl : a.length < 9223372036854775807) (hs : ∀ p ∈ a, p.f1.length < 9223372036854775807) : Ev (fun k => stoaref14_Alike.f k a b) (alikeB a b) := by
  unfold stoaref14_Alike.f
  by_cases h : a.length = b.length
  · refine Ev.congr (fun k => if_pos (by omega)) ?_
    have := alike_l0 a b h hl hs a.length 0 (by omega)
    rw [List.drop_zero, List.drop_zero] at this
    exact this
  · refine Ev.congr (fun k => if_neg (by omega)) (Ev.to (Ev.now false) ?_)
    unfold alikeB
    symm
    rw [decide_eq_false_iff_not]
    intro e
    have := congrArg List.length e
    simp at this
    exact h this
theorem alike_any (A B : Option Addr) (c d : Nat) (a b : List S40) (w : World) (h : Kd.C k40 w A a.length a) (hc : a.length ≤ c) (h2 : Kd.C k40 w B b.length b) (hd : b.length ≤ d) (hl : a.length < 9223372036854775807) (hs : ∀ p ∈ a, p.f1.length < 9223372036854775807) :
    Calls Tryz.prog 19 #[.slice A a.length c, .slice B b.length d] w fun e w' => e = .returned (.bool (alikeB a b)) ∧ Drawn0 w w' := by
  obtain ⟨k, hk⟩ := (alike_law a b hl hs).rounds
  exact stoaref14_Alike.calls k A c a B d b _ w h hc h2 hd hk
theorem alikeB_refl (a : List S40) : alikeB a a = true := by unfold alikeB; simp
end Go.Proofs.YtgcpiofpjogjcaaGreatDoor.PK
end
section
namespace Go.Proofs.YtgcpiofpjogjcaaGreatDoor.PK
open Go.RowKit Go.Proofs.YtgcpiofpjogjcaaGreatDoorW.PrintWords Go.Proofs.YtgcpiofpjogjcaaGreatDoorW.PrintLast Go.Proofs.YtgcpiofpjogjcaaGreatDoorW.PrintMore
set_option linter.unusedVariables false
set_option linter.unusedSimpArgs false


theorem rdE_at {dir : List S93} {i : Nat} (h : i < dir.length) : rd_T93 dir (i : Int) = dir[i] := by unfold rd_T93; rw [Int.toNat_natCast, List.getD_eq_getElem?_getD, List.getElem?_eq_getElem h, Option.getD_some]
theorem rdB_at {bs : List S54} {i : Nat} (h : i < bs.length) : rd_T54 bs (i : Int) = bs[i] := by unfold rd_T54; rw [Int.toNat_natCast, List.getD_eq_getElem?_getD, List.getElem?_eq_getElem h, Option.getD_some]


/-! ### Find -/
/-- The number of a name's file. -/
def findE (dir : List S93) (s : ByteArray) : Int := match dir.find? (fun e => e.f0.toList == s.toList) with | some e => e.f1 | none => -1
def hasE (dir : List S93) (s : ByteArray) : Bool := dir.any fun e => e.f0.toList == s.toList
/-- Numbers that may stand in a directory. -/
def Ids (dir : List S93) : Prop := ∀ e ∈ dir, 0 ≤ e.f1
theorem findE_has {dir : List S93} (h : Ids dir) (s : ByteArray) : hasE dir s = decide (0 ≤ findE dir s) := by
  unfold hasE findE
  induction dir with
  | nil => simp
  | cons e r ih =>
    have ih := ih (fun x hx => h x (List.mem_cons_of_mem _ hx))
    rw [List.any_cons]
    by_cases he : e.f0.toList = s.toList
    · rw [List.find?_cons_of_pos (by simpa using he)]
      have := h e (List.mem_cons_self ..)
      simp [he, this]
    · rw [List.find?_cons_of_neg (by simpa using he), ← ih]
      simp [he]
theorem find_l0 (s : ByteArray) (dir : List S93) (hl : dir.length < 9223372036854775807) : ∀ n i : Nat, i + n = dir.length → Ev (fun k => stoaref14_Find.l0 k s dir (i : Int)) (findE (dir.drop i) s) := by
  intro n
  induction n with
  | zero =>
    intro i h
    refine Ev.step (f := fun _ => some (-1)) (fun k => ?_) ?_
    · rw [stoaref14_Find.l0, if_neg (by omega)]
    · rw [List.drop_of_length_le (by omega)]; exact Ev.now _
  | succ n ih =>
    intro i h
    have hi : i < dir.length := by omega
    rw [List.drop_eq_getElem_cons hi]
    by_cases he : dir[i].f0.toList = s.toList
    · refine Ev.step (f := fun _ => some (dir[i].f1)) (fun k => ?_) ?_
      · rw [stoaref14_Find.l0, if_pos (by omega), if_pos (by omega), rdE_at hi, if_pos he]
      · unfold findE
        rw [List.find?_cons_of_pos (by simpa using he)]
        exact Ev.now _
    · refine Ev.step (f := fun k => stoaref14_Find.l0 k s dir ((i + 1 : Nat) : Int)) (fun k => ?_) ?_
      · rw [stoaref14_Find.l0, if_pos (by omega), if_pos (by omega), rdE_at hi, if_neg he, w64s i (by omega)]
      · unfold findE
        rw [List.find?_cons_of_neg (by simpa using he)]
        exact ih (i + 1) (by omega)
theorem after_nil (bs : List S54) (dir : List S93) (room : Int) (pl : List S69) (st : Int) (off : Bool) (n : Int) : Ev (fun k => stoaref14_After.f k bs dir [] room pl st off n) dir := by
  unfold stoaref14_After.f
  refine Ev.step (f := fun k => stoaref14_After.j1 k n dir 0 false bs dir [] room pl st off) (fun k => ?_) (Ev.step (f := fun _ => some dir) (fun k => ?_) (Ev.now _))
  · rw [stoaref14_After.l0, if_neg (by simp)]
  · rw [stoaref14_After.j1, if_neg (by simp)]
theorem now_nil (bs : List S54) (dir : List S93) (room : Int) (pl : List S69) (st : Int) (off : Bool) : Ev (fun k => stoaref14_Now.f k bs dir [] room pl st off) dir := by
  unfold stoaref14_Now.f
  exact Ev.bind (after_nil bs dir room pl st off _) (Ev.now _)
theorem find_nil (bs : List S54) (dir : List S93) (room : Int) (pl : List S69) (st : Int) (off : Bool) (s : ByteArray) (hl : dir.length < 9223372036854775807) : Ev (fun k => stoaref14_Find.f k bs dir [] room pl st off s) (findE dir s) := by
  unfold stoaref14_Find.f
  exact Ev.bind (now_nil bs dir room pl st off) (by have := find_l0 s dir hl dir.length 0 (by omega); rw [List.drop_zero] at this; exact this)

/-! ### refuse -/
def refuseE (dir : List S93) (s : ByteArray) : Int := if bad s then 145 else if hasE dir s then 144 else if 400 ≤ dir.length then 142 else 0
theorem refuse_nil (bs : List S54) (dir : List S93) (room : Int) (pl : List S69) (st : Int) (off : Bool) (s : ByteArray) (hi : Ids dir) (hl : dir.length < 9223372036854775807) : Ev (fun k => stoaref14_refuse.f k bs dir [] room pl st off s) (refuseE dir s) := by
  unfold stoaref14_refuse.f refuseE
  refine Ev.bind (named_law s) ?_
  cases hb : bad s
  · rw [if_neg (show ¬ (false = true) from by simp)]
    refine Ev.congr (fun k => if_pos rfl) (Ev.bind (find_nil bs dir room pl st off s hl) ?_)
    rw [findE_has hi s]
    by_cases h1 : 0 ≤ findE dir s
    · rw [if_pos (by simpa using h1)]
      exact Ev.congr (fun k => if_pos h1) (Ev.now _)
    · rw [if_neg (by simpa using h1)]
      refine Ev.congr (fun k => if_neg h1) (Ev.bind (now_nil bs dir room pl st off) ?_)
      by_cases h2 : 400 ≤ dir.length
      · rw [if_pos h2]
        exact Ev.congr (fun k => if_pos (by omega)) (Ev.now _)
      · rw [if_neg h2]
        exact Ev.congr (fun k => if_neg (by omega)) (Ev.now _)
  · rw [if_pos rfl]
    exact Ev.congr (fun k => if_neg (by simp)) (Ev.now _)

/-! ### with -/
def withoutE (dir : List S93) (s : ByteArray) : List S93 := dir.filter fun e => !(e.f0.toList == s.toList)
def insE (x : S93) : List S93 → List S93
  | [] => [x]
  | y :: r => if Op.bytesLess x.f0.toList y.f0.toList = true then x :: y :: r else y :: insE x r
theorem without_l0 (dir : List S93) (s : ByteArray) (hl : dir.length < 1099511627776) : ∀ (n i : Nat) (out : List S93), i + n = dir.length → out.length + n ≤ 1099511627776 → Ev (fun k => stoaref14_without.l0 k dir s out (i : Int)) (out ++ withoutE (dir.drop i) s) := by
  intro n
  induction n with
  | zero =>
    intro i out h ho
    refine Ev.step (f := fun _ => some out) (fun k => ?_) ?_
    · rw [stoaref14_without.l0, if_neg (by omega)]
    · rw [List.drop_of_length_le (by omega)]
      unfold withoutE
      rw [List.filter_nil, List.append_nil]
      exact Ev.now _
  | succ n ih =>
    intro i out h ho
    have hi : i < dir.length := by omega
    rw [List.drop_eq_getElem_cons hi]
    by_cases he : dir[i].f0.toList = s.toList
    · refine Ev.step (f := fun k => stoaref14_without.l0 k dir s out ((i + 1 : Nat) : Int)) (fun k => ?_) ?_
      · rw [stoaref14_without.l0, if_pos (by omega), if_pos (by omega), rdE_at hi, if_pos he, w64s i (by omega)]
      · unfold withoutE
        rw [List.filter_cons_of_neg (by simpa using he)]
        exact ih (i + 1) out (by omega) (by omega)
    · refine Ev.step (f := fun k => stoaref14_without.l0 k dir s (out ++ [dir[i]]) ((i + 1 : Nat) : Int)) (fun k => ?_) ?_
      · rw [stoaref14_without.l0, if_pos (by omega), if_pos (by omega), rdE_at hi, if_neg he, if_pos (by omega), w64s i (by omega)]
      · unfold withoutE
        rw [List.filter_cons_of_pos (by simpa using he)]
        exact Ev.to (ih (i + 1) (out ++ [dir[i]]) (by omega) (by rw [List.length_append]; simp; omega)) (by simp [withoutE])
theorem withoutE_not {dir : List S93} {s : ByteArray} (h : hasE dir s = false) : withoutE dir s = dir := by
  unfold withoutE
  rw [List.filter_eq_self]
  intro e he
  unfold hasE at h
  rw [List.any_eq_false] at h
  simpa using h e he
theorem with_done (s : ByteArray) (id : Int) (dir : List S93) (hl : dir.length < 1099511627776) : ∀ (n i : Nat) (out : List S93), i + n = dir.length → out.length + n ≤ 1099511627777 → Ev (fun k => stoaref14_with.l0 k s id dir out true (i : Int)) (out ++ dir.drop i) := by
  intro n
  induction n with
  | zero =>
    intro i out h ho
    refine Ev.step (f := fun _ => some out) (fun k => ?_) ?_
    · rw [stoaref14_with.l0, if_neg (by omega), if_pos rfl]
    · rw [List.drop_of_length_le (by omega), List.append_nil]
      exact Ev.now _
  | succ n ih =>
    intro i out h ho
    have hi : i < dir.length := by omega
    rw [List.drop_eq_getElem_cons hi]
    refine Ev.step (f := fun k => stoaref14_with.l0 k s id dir (out ++ [dir[i]]) true ((i + 1 : Nat) : Int)) (fun k => ?_) ?_
    · rw [stoaref14_with.l0, if_pos (by omega), if_pos rfl, if_pos (by omega), if_pos (by omega), rdE_at hi, w64s i (by omega)]
    · exact Ev.to (ih (i + 1) (out ++ [dir[i]]) (by omega) (by rw [List.length_append]; simp; omega)) (by simp)
theorem with_l0 (s : ByteArray) (id : Int) (dir : List S93) (hl : dir.length < 1099511627776) : ∀ (n i : Nat) (out : List S93), i + n = dir.length → out.length + n ≤ 1099511627776 → Ev (fun k => stoaref14_with.l0 k s id dir out false (i : Int)) (out ++ insE ⟨s, id⟩ (dir.drop i)) := by
  intro n
  induction n with
  | zero =>
    intro i out h ho
    refine Ev.step (f := fun _ => some (out ++ [⟨s, id⟩])) (fun k => ?_) ?_
    · rw [stoaref14_with.l0, if_neg (by omega), if_neg (by simp), if_pos (by omega)]
    · rw [List.drop_of_length_le (by omega)]
      exact Ev.now _
  | succ n ih =>
    intro i out h ho
    have hi : i < dir.length := by omega
    rw [List.drop_eq_getElem_cons hi, insE]
    by_cases hb : Op.bytesLess s.toList dir[i].f0.toList = true
    · rw [if_pos hb]
      refine Ev.step (f := fun k => stoaref14_with.l0 k s id dir ((out ++ [⟨s, id⟩]) ++ [dir[i]]) true ((i + 1 : Nat) : Int)) (fun k => ?_) ?_
      · rw [stoaref14_with.l0, if_pos (by omega), if_neg (by simp), if_pos (by omega), rdE_at hi, if_pos hb, if_pos (by omega), Option.bind_some, if_pos (by rw [List.length_append, List.length_singleton]; omega), w64s i (by omega)]
      · exact Ev.to (with_done s id dir hl n (i + 1) _ (by omega) (by rw [List.length_append, List.length_append]; simp; omega)) (by simp)
    · rw [if_neg hb]
      refine Ev.step (f := fun k => stoaref14_with.l0 k s id dir (out ++ [dir[i]]) false ((i + 1 : Nat) : Int)) (fun k => ?_) ?_
      · rw [stoaref14_with.l0, if_pos (by omega), if_neg (by simp), if_pos (by omega), rdE_at hi, if_neg hb, if_pos (by omega), w64s i (by omega)]
      · exact Ev.to (ih (i + 1) (out ++ [dir[i]]) (by omega) (by rw [List.length_append]; simp; omega)) (by simp)
theorem with_law (dir : List S93) (s : ByteArray) (id : Int) (h : hasE dir s = false) (hl : dir.length < 1099511627776) : Ev (fun k => stoaref14_with.f k dir s id) (insE ⟨s, id⟩ dir) := by
  unfold stoaref14_with.f
  have h1 := without_l0 dir s hl dir.length 0 [] (by omega) (by simp; omega)
  have h2 := with_l0 s id dir hl dir.length 0 [] (by omega) (by simp; omega)
  rw [List.drop_zero, List.nil_append] at h1 h2
  rw [withoutE_not h] at h1
  exact Ev.bind h1 h2

/-! ### body -/
theorem body_l0 (bs : List S54) (dir : List S93) (cs : List S113) (room : Int) (pl : List S69) (st : Int) (off : Bool) (d : List Int) (sf : Int) (hl : bs.length < 1099511627776) : ∀ (n i : Nat) (out : List S54), i + n = bs.length → out.length + n ≤ 1099511627776 →
    Ev (fun k => stoaref14_body.l0 k out (i : Int) bs dir cs room pl st off d sf) (out ++ bs.drop i ++ [⟨d, sf⟩], dir, cs, room, pl, st, off) := by
  intro n
  induction n with
  | zero =>
    intro i out h ho
    refine Ev.step (f := fun _ => some (out ++ [⟨d, sf⟩], dir, cs, room, pl, st, off)) (fun k => ?_) ?_
    · rw [stoaref14_body.l0, if_neg (by omega), if_pos (by omega)]
    · rw [List.drop_of_length_le (by omega), List.append_nil]
      exact Ev.now _
  | succ n ih =>
    intro i out h ho
    have hi : i < bs.length := by omega
    rw [List.drop_eq_getElem_cons hi]
    refine Ev.step (f := fun k => stoaref14_body.l0 k (out ++ [bs[i]]) ((i + 1 : Nat) : Int) bs dir cs room pl st off d sf) (fun k => ?_) ?_
    · rw [stoaref14_body.l0, if_pos (by omega), if_pos (by omega), if_pos (by omega), rdB_at hi, w64s i (by omega)]
    · exact Ev.to (ih (i + 1) (out ++ [bs[i]]) (by omega) (by rw [List.length_append]; simp; omega)) (by simp)
theorem body_law (bs : List S54) (dir : List S93) (cs : List S113) (room : Int) (pl : List S69) (st : Int) (off : Bool) (d : List Int) (sf : Int) (hl : bs.length < 1099511627776) : Ev (fun k => stoaref14_body.f k bs dir cs room pl st off d sf) (bs ++ [⟨d, sf⟩], dir, cs, room, pl, st, off) := by
  unfold stoaref14_body.f
  have h := body_l0 bs dir cs room pl st off d sf hl bs.length 0 [] (by omega) (by simp; omega)
  rw [List.drop_zero, List.nil_append] at h
  exact h

/-! ### Load -/
theorem new_law (room : Int) : stoaref14_New.f room = some ([], [], [], min (max room 0) 16777216, [], 0, false) := by
  unfold stoaref14_New.f
  by_cases h1 : room < 0
  · rw [if_pos h1, if_neg (by omega), show min (max room 0) 16777216 = 0 from by omega]
  · rw [if_neg h1]
    by_cases h2 : room > 16777216
    · rw [if_pos h2, show min (max room 0) 16777216 = 16777216 from by omega]
    · rw [if_neg h2, show min (max room 0) 16777216 = room from by omega]
abbrev RefR := List S54 × List S93 × List S113 × Int × List S69 × Int × Bool × Int
def ldE (room : Int) : List S54 → List S93 → List S40 → RefR
  | bs, dir, [] => (bs, dir, [], room, [], 0, false, 0)
  | bs, dir, p :: r => if refuseE dir p.f0 = 0 then ldE room (bs ++ [⟨p.f1, p.f1.length⟩]) (insE ⟨p.f0, bs.length⟩ dir) r else ([], [], [], 0, [], 0, false, refuseE dir p.f0)
theorem insE_length (x : S93) : ∀ dir, (insE x dir).length = dir.length + 1
  | [] => rfl
  | y :: r => by rw [insE]; split <;> simp [insE_length x r]
theorem insE_mem {x e : S93} : ∀ {dir}, e ∈ insE x dir ↔ e = x ∨ e ∈ dir
  | [] => by simp [insE]
  | y :: r => by
    rw [insE]
    split
    · simp
    · rw [List.mem_cons, insE_mem (dir := r), List.mem_cons]
      constructor
      · rintro (h | h | h) <;> simp [h]
      · rintro (h | h | h) <;> simp [h]
theorem refuseE_zero {dir : List S93} {s : ByteArray} (h : refuseE dir s = 0) : bad s = false ∧ hasE dir s = false ∧ dir.length < 400 := by
  unfold refuseE at h
  split at h
  · exact absurd h (by decide)
  · split at h
    · exact absurd h (by decide)
    · split at h
      · exact absurd h (by decide)
      · rename_i h1 h2 h3
        exact ⟨by simpa using h1, by simpa using h2, by omega⟩
theorem load_l0 (room : Int) (l : List S40) (hl : l.length < 9223372036854775807) (hs : ∀ p ∈ l, p.f1.length ≤ 140737488355328) : ∀ (n i : Nat) (bs : List S54) (dir : List S93), i + n = l.length → bs.length = dir.length → dir.length ≤ 400 → Ids dir →
    Ev (fun k => stoaref14_Load.l0 k l (i : Int) bs dir [] room [] 0 false) (ldE room bs dir (l.drop i)) := by
  intro n
  induction n with
  | zero =>
    intro i bs dir h hb hd hI
    refine Ev.step (f := fun _ => some (bs, dir, [], room, [], 0, false, 0)) (fun k => ?_) ?_
    · rw [stoaref14_Load.l0, if_neg (by omega)]
    · rw [List.drop_of_length_le (by omega)]
      exact Ev.now _
  | succ n ih =>
    intro i bs dir h hb hd hI
    have hi : i < l.length := by omega
    have hx := hs _ (List.getElem_mem hi)
    rw [List.drop_eq_getElem_cons hi, ldE]
    generalize hp : l[i] = p at hx ⊢
    refine Ev.step (f := fun k => (stoaref14_refuse.f k bs dir [] room [] 0 false p.f0).bind fun t335 => (if t335 = 0 then ((stoaref01_Copy.f k p.f1).bind fun t337 => ((stoaref14_body.f k bs dir [] room [] 0 false t337 (p.f1.length : Int)).bind fun bt341 => ((stoaref14_with.f k bt341.2.1 p.f0 (wrap64 ((bt341.1.length : Int) - 1))).bind fun t357 => (stoaref14_Load.l0 k l ((i + 1 : Nat) : Int) bt341.1 t357 bt341.2.2.1 bt341.2.2.2.1 bt341.2.2.2.2.1 bt341.2.2.2.2.2.1 bt341.2.2.2.2.2.2)))) else (some (([] : List (S54)), ([] : List (S93)), ([] : List (S113)), 0, ([] : List (S69)), 0, false, t335)))) (fun k => ?_) ?_
    · rw [stoaref14_Load.l0, if_pos (by omega), if_pos (by omega), rdF_at hi, hp, w64s i (by omega)]
    · refine Ev.bind (refuse_nil bs dir room [] 0 false p.f0 hI (by omega)) ?_
      by_cases h0 : refuseE dir p.f0 = 0
      · obtain ⟨hb0, hh0, hl0⟩ := refuseE_zero h0
        rw [if_pos h0]
        refine Ev.congr (fun k => if_pos h0) (Ev.bind (a := p.f1) ⟨p.f1.length + 1, fun k hk => ?_⟩ (Ev.bind (body_law bs dir [] room [] 0 false p.f1 p.f1.length (by omega)) (Ev.bind (a := insE ⟨p.f0, bs.length⟩ dir) ?_ ?_)))
        · exact up (fun k => stoaref01_Copy.mono p.f1 k) (copy_l0 p.f1 hx p.f1.length 0 (by omega)) k hk
        · rw [show wrap64 (((bs ++ [(⟨p.f1, p.f1.length⟩ : S54)]).length : Int) - 1) = (bs.length : Int) from by rw [List.length_append, List.length_singleton, w64 (by omega) (by omega)]; omega]
          exact with_law dir p.f0 bs.length hh0 (by omega)
        · refine ih (i + 1) _ _ (by omega) (by rw [List.length_append, insE_length, List.length_singleton]; omega) (by rw [insE_length]; omega) (fun e he => ?_)
          rcases insE_mem.1 he with rfl | he
          · simp
          · exact hI e he
      · rw [if_neg h0]
        exact Ev.congr (fun k => if_neg h0) (Ev.now _)
theorem load_law (room : Int) (l : List S40) (hl : l.length < 9223372036854775807) (hs : ∀ p ∈ l, p.f1.length ≤ 140737488355328) : Ev (fun k => stoaref14_Load.f k room l) (ldE (min (max room 0) 16777216) [] [] l) := by
  unfold stoaref14_Load.f
  rw [new_law]
  refine Ev.congr (fun k => Option.bind_some _ _) ?_
  have h := load_l0 (min (max room 0) 16777216) l hl hs l.length 0 [] [] (by omega) rfl (by simp) (fun e he => by cases he)
  rw [List.drop_zero] at h
  exact h

/-! ### What it answers, and Load's answer -/
theorem less_before : ∀ a b : List UInt8, Op.bytesLess a b = bytesBefore a b
  | [], [] => rfl
  | [], _ :: _ => rfl
  | _ :: _, [] => rfl
  | a :: r, b :: s => by simp only [Op.bytesLess, bytesBefore, less_before r s]
theorem toList_key (s : ByteArray) : s.toList = key s := ByteArray.toList_eq s
/-- The reference's directory and files, as names with bytes. -/
def contE (bs : List S54) (dir : List S93) : Cont := dir.map fun e => (key e.f0, (bs.getD e.f1.toNat z54).f0)
structure RefC (bs : List S54) (dir : List S93) (c : Cont) : Prop where
  cont : contE bs dir = c
  ids : ∀ e ∈ dir, 0 ≤ e.f1 ∧ e.f1 < bs.length
  len : bs.length = dir.length
  saf : ∀ b ∈ bs, b.f1 = b.f0.length
theorem hasE_hasC {bs : List S54} {dir : List S93} {c : Cont} (h : RefC bs dir c) (s : ByteArray) : hasE dir s = hasC c (key s) := by
  rw [← h.cont]
  unfold hasE hasC contE
  rw [List.any_map]
  congr 1
  funext e
  simp only [Function.comp, toList_key]
theorem refuseE_C {bs : List S54} {dir : List S93} {c : Cont} (h : RefC bs dir c) (s : ByteArray) : refuseE dir s = refuseC c s := by
  unfold refuseE refuseC
  rw [hasE_hasC h, ← h.cont]
  simp [contE]
theorem insE_insC {bs : List S54} {s : ByteArray} {xs : List Int} {n : Int} : ∀ {dir : List S93}, (∀ e ∈ dir, 0 ≤ e.f1 ∧ e.f1 < bs.length) → contE (bs ++ [⟨xs, n⟩]) (insE ⟨s, bs.length⟩ dir) = insC (key s, xs) (contE bs dir)
  | [], _ => by simp [insE, insC, contE]
  | y :: r, h => by
    have hy := h y (List.mem_cons_self ..)
    have ih := insE_insC (bs := bs) (s := s) (xs := xs) (n := n) (dir := r) (fun p hp => h p (List.mem_cons_of_mem _ hp))
    have hold : ∀ e : S93, 0 ≤ e.f1 ∧ e.f1 < bs.length → ((bs ++ [(⟨xs, n⟩ : S54)]).getD e.f1.toNat z54) = bs.getD e.f1.toNat z54 := by
      intro e he
      rw [List.getD_eq_getElem?_getD, List.getD_eq_getElem?_getD, List.getElem?_append_left (by omega)]
    have hr : contE (bs ++ [⟨xs, n⟩]) r = contE bs r := List.map_congr_left (fun p hp => by rw [hold p (h p (List.mem_cons_of_mem _ hp))])
    rw [insE, show contE bs (y :: r) = (key y.f0, (bs.getD y.f1.toNat z54).f0) :: contE bs r from rfl, insC, less_before, toList_key, toList_key]
    by_cases hb : bytesBefore (key s) (key y.f0) = true
    · rw [if_pos hb, if_pos hb]
      show (key s, ((bs ++ [(⟨xs, n⟩ : S54)]).getD ((bs.length : Int)).toNat z54).f0) :: (key y.f0, ((bs ++ [(⟨xs, n⟩ : S54)]).getD y.f1.toNat z54).f0) :: contE (bs ++ [⟨xs, n⟩]) r = _
      rw [hold y hy, hr]
      simp
    · rw [if_neg hb, if_neg hb]
      show (key y.f0, ((bs ++ [(⟨xs, n⟩ : S54)]).getD y.f1.toNat z54).f0) :: contE (bs ++ [⟨xs, n⟩]) (insE ⟨s, bs.length⟩ r) = _
      rw [hold y hy, ih]


theorem ldE_spec (room : Int) : ∀ (l : List S40) (bs : List S54) (dir : List S93) (c : Cont), RefC bs dir c →
    (ldE room bs dir l).2.2.2.2.2.2.2 = (ldC c (l.map prF)).1 ∧ ((ldC c (l.map prF)).1 = 0 → ∃ bs' dir', ldE room bs dir l = (bs', dir', [], room, [], 0, false, 0) ∧ RefC bs' dir' (ldC c (l.map prF)).2)
  | [], bs, dir, c, h => ⟨rfl, fun _ => ⟨bs, dir, rfl, h⟩⟩
  | p :: r, bs, dir, c, h => by
    rw [ldE, List.map_cons, ldC, refuseE_C h, show (prF p).1 = p.f0 from rfl, show (prF p).2 = p.f1 from rfl]
    by_cases h0 : refuseC c p.f0 = 0
    · rw [if_pos h0, if_pos h0]
      refine ldE_spec room r _ _ _ ⟨?_, ?_, ?_, ?_⟩
      · rw [insE_insC h.ids, h.cont]
      · intro e he
        rw [List.length_append, List.length_singleton]
        rcases insE_mem.1 he with rfl | he
        · simp
          omega
        · have := h.ids e he
          omega
      · rw [List.length_append, insE_length, List.length_singleton, h.len]
      · intro b hb
        rcases List.mem_append.1 hb with hb | hb
        · exact h.saf b hb
        · rw [List.mem_singleton.1 hb]
    · rw [if_neg h0, if_neg h0]
      exact ⟨rfl, fun h1 => absurd h1 h0⟩
theorem refNil : RefC [] [] [] := ⟨rfl, fun e he => (by cases he), rfl, fun b hb => (by cases hb)⟩

/-! ### The call -/
/-- What the reference's Load answers: the error's number; where it is 0, its disk. -/
def RLoadMade (room : Int) (fs : List (ByteArray × List Int)) (w : World) (e : Ending) (w' : World) : Prop :=
  ∃ (a0 : Option Addr) (n0 c0 : Nat) (a1 : Option Addr) (n1 c1 : Nat) (a2 : Option Addr) (n2 c2 : Nat) (a4 : Option Addr) (n4 c4 : Nat) (r4 r6 : Int) (r7 : Bool), e = .returned (.tuple #[.agg #[.slice a0 n0 c0, .slice a1 n1 c1, .slice a2 n2 c2, .int .i64 r4, .slice a4 n4 c4, .int .i64 r6, .bool r7], .int .i64 (ldC [] fs).1]) ∧ Below w.heap.size w w' ∧
    ((ldC [] fs).1 = 0 → r4 = min (max room 0) 16777216 ∧ r6 = 0 ∧ r7 = false ∧ ∃ bs dir, RefC bs dir (ldC [] fs).2 ∧
      Kd.N k54 54 w' w.heap.size (fun k_ => (w.heap.size ≤ k_) ∧ some k_ ≠ (Value.slice a1 n1 c1).ownBlock ∧ some k_ ≠ (Value.slice a2 n2 c2).ownBlock ∧ some k_ ≠ (Value.slice a4 n4 c4).ownBlock) (.slice a0 n0 c0) bs ∧ Kd.R k93 93 w' w.heap.size (fun k_ => (w.heap.size ≤ k_)) (.slice a1 n1 c1) dir ∧ Kd.R k113 113 w' w.heap.size (fun k_ => (w.heap.size ≤ k_)) (.slice a2 n2 c2) [] ∧ Kd.R k69 69 w' w.heap.size (fun k_ => (w.heap.size ≤ k_)) (.slice a4 n4 c4) [])
theorem rload_any (room : Int) (A : Option Addr) (cp : Nat) (fs : List (ByteArray × List Int)) (w : World) (hC : fileK.C w A fs.length fs) (hc : fs.length ≤ cp) (hl : fs.length < 9223372036854775807) (hs : ∀ p ∈ fs, p.2.length ≤ 140737488355328) :
    Calls Tryz.prog 9 #[.int .i64 room, .slice A fs.length cp] w (RLoadMade room fs w) := by
  have hlen : (fs.map toF).length = fs.length := List.length_map ..
  have hpr : (fs.map toF).map prF = fs := prF_toF fs
  obtain ⟨k, hk⟩ := (load_law room (fs.map toF) (by omega) (by intro p hp; obtain ⟨q, hq, rfl⟩ := List.mem_map.1 hp; exact hs q hq)).rounds
  obtain ⟨h1, h2⟩ := ldE_spec (min (max room 0) 16777216) (fs.map toF) [] [] [] refNil
  rw [hpr] at h1 h2
  obtain ⟨r1, r2, r3, r4, r5, r6, r7, r8, hr⟩ : ∃ r1 r2 r3 r4 r5 r6 r7 r8, ldE (min (max room 0) 16777216) [] [] (fs.map toF) = (r1, r2, r3, r4, r5, r6, r7, r8) := ⟨_, _, _, _, _, _, _, _, rfl⟩
  rw [hr] at hk h1 h2
  have hcall := stoaref14_Load.calls k room A cp (fs.map toF) r1 r2 r3 r4 r5 r6 r7 r8 w (by rw [hlen]; exact fileC_toF hC) (by omega) hk
  rw [hlen] at hcall
  refine hcall.mono ?_
  rintro e w' ⟨v0, v1, v2, v4, rfl, hN, hR1, hR2, hR4, hb⟩
  simp only at h1
  subst h1
  obtain ⟨a0, c0, rfl⟩ := Kd.N_slice hN
  obtain ⟨a1, c1, rfl⟩ := Kd.R_slice hR1
  obtain ⟨a2, c2, rfl⟩ := Kd.R_slice hR2
  obtain ⟨a4, c4, rfl⟩ := Kd.R_slice hR4
  refine ⟨a0, _, c0, a1, _, c1, a2, _, c2, a4, _, c4, r4, r6, r7, rfl, hb, fun h0 => ?_⟩
  obtain ⟨bs, dir, he, hRef⟩ := h2 h0
  simp only [Prod.mk.injEq] at he
  obtain ⟨rfl, rfl, rfl, rfl, rfl, rfl, rfl, _⟩ := he
  exact ⟨rfl, rfl, rfl, r1, r2, hRef, hN, hR1, hR2, hR4⟩
end Go.Proofs.YtgcpiofpjogjcaaGreatDoor.PK
end
section
namespace Go.Proofs.YtgcpiofpjogjcaaGreatDoor.PK
open Go.RowKit Go.Maps Go.Sort Go.Proofs.YtgcpiofpjogjcaaGreatDoorW.PrintWords
set_option linter.unusedVariables false
set_option linter.unusedSimpArgs false
variable {own : Nat → Prop} {w w' : World}

/-- A call of a script: its kind, names and bytes. -/
structure Call where
  kind : Int
  name : ByteArray
  dest : ByteArray
  data : List Int
def Dk.opE (S : Dk) (o : Call) : Int := if o.kind = 1 then S.refuse o.name else if o.kind = 2 then S.appE o.name o.data.length else if o.kind = 3 then S.has o.name else if o.kind = 4 then S.renE o.name o.dest else if o.kind = 5 then S.has o.name else 0
def Dk.opS (S : Dk) (o : Call) (T : Dk) : Prop := if o.kind = 1 then S.created o.name T else T = (if o.kind = 2 then S.appended o.name o.data else if o.kind = 3 then S.synced o.name else if o.kind = 4 then S.renamed o.name o.dest else if o.kind = 5 then S.removed o.name else S.syncDir)
theorem Dk.stepSaid.to {S : Dk} {E : Int} {D : Dk → Prop} {P P' : Int → Dk → Prop} {x : Int} {S' : Dk} (h : S.stepSaid E D P x S') (hk : S.fate.kind ≠ 2) : S.stepSaid E D P' x S' := by
  unfold Dk.stepSaid at h ⊢
  rw [if_neg hk] at h ⊢
  exact h
theorem eight_cells {w : World} {b : Nat} {a0 a1 a2 a3 a4 a5 a6 a7 : Value} {t : TypeId} (h : w.heap[b]? = some (.cells #[a0, a1, a2, a3, a4, a5, a6, a7] t (0, 0))) :
    w.cell? ⟨b, 0, none⟩ = some a0 ∧ w.cell? ⟨b, 1, none⟩ = some a1 ∧ w.cell? ⟨b, 2, none⟩ = some a2 ∧ w.cell? ⟨b, 3, none⟩ = some a3 ∧ w.cell? ⟨b, 4, none⟩ = some a4 ∧ w.cell? ⟨b, 5, none⟩ = some a5 ∧ w.cell? ⟨b, 6, none⟩ = some a6 ∧ w.cell? ⟨b, 7, none⟩ = some a7 := by
  refine ⟨?_, ?_, ?_, ?_, ?_, ?_, ?_, ?_⟩ <;> simp [World.cell?, h]
def Stepped (own : Nat → Prop) (d : Nat) (S : Dk) (o : Call) (w : World) (e : Ending) (w' : World) : Prop := ∃ x S', e = .returned (.int .i64 x) ∧ S.stepSaid (S.stepped.opE o) (S.stepped.opS o) (fun _ _ => False) x S' ∧ DiskAt w' own d S' ∧ Turn own w w'
set_option maxRecDepth 100000 in
set_option maxHeartbeats 3200000 in
theorem lstep_any (d : Nat) (S : Dk) (o : Call) (n m : Int) (A : Option Addr) (c : Nat) (v6 v7 : Option Addr) (n6 c6 n7 c7 : Nat) (w : World) (h : DiskAt w own d S) (hfr : Fresh own w) (hC : Kd.C (Kd.int .u8) w A o.data.length o.data) (hc : o.data.length ≤ c) (hby : ∀ x ∈ o.data, 0 ≤ x ∧ x < 256) (hdl : o.data.length ≤ 140737488355328)
    (hs : o.name.size ≤ 9223372036854775807) (ht : o.dest.size ≤ 9223372036854775807) (hne : look S.now (key o.name) ≠ none → o.name ≠ ⟨#[]⟩) (hk2 : S.fate.kind ≠ 2) (hst : S.steps ≤ 4611686018427387904) (hpl : S.plan.length ≤ 4611686018427387904) (hbig : S.chg.length ≤ 1099511627776) :
    Calls Tryz.prog 25 #[.pointer (some ⟨d, 0, none⟩), .agg #[.int .i64 o.kind, .string o.name, .string o.dest, .int .i64 n, .int .i64 m, .slice A o.data.length c, .slice v6 n6 c6, .slice v7 n7 c7]] w (Stepped own d S o w) := by
  obtain ⟨wa, hwa⟩ : ∃ wa, wa = w.alloc (.cells #[.int .i64 o.kind, .string o.name, .string o.dest, .int .i64 n, .int .i64 m, .slice A o.data.length c, .slice v6 n6 c6, .slice v7 n7 c7] 62) := ⟨_, rfl⟩
  have hba : Below w.heap.size w wa := by rw [hwa]; exact (Below.refl _ _).alloc (Nat.le_refl _) _
  have hsa : wa.heap.size = w.heap.size + 1 := by rw [hwa]; simp
  have hblk : wa.heap[w.heap.size]? = some (.cells #[.int .i64 o.kind, .string o.name, .string o.dest, .int .i64 n, .int .i64 m, .slice A o.data.length c, .slice v6 n6 c6, .slice v7 n7 c7] 62 (0, 0)) := by rw [hwa]; exact heap_alloc_new w _
  obtain ⟨q0, q1, q2, q3, q4, q5, q6, q7⟩ := eight_cells hblk
  have tA : Turn own w wa := Turn.of_below hba
  have hDa : DiskAt wa own d S := h.below hba
  have hFa : Fresh own wa := hfr.step hba.size
  have hDk : DiskAt wa (skip own w.heap.size wa.heap.size) d S := h.skip hba
  have hFk : Fresh (skip own w.heap.size wa.heap.size) wa := hfr.skip hba.size
  have hcr := create_any d S o.name wa hDa hFa hs hst hpl hbig
  have hsy := sync_any d S o.name wa hDa hFa hs hst hpl
  have hrn := rename_any d S o.name o.dest wa hDa hFa hs ht hne hbig hst hpl
  have hrm := remove_any d S o.name wa hDa hFa hs hbig hst hpl
  have hsd := syncDir_any d S wa hDa hFa hst hpl
  have hCa : Kd.C (Kd.int .u8) wa A o.data.length o.data := Kd.C_below hC hba
  have hdw : Below wa.heap.size wa wa.drew := (Below.refl _ _).drew
  have hcp := copy_any A c o.data wa.drew (Kd.C_below hCa hdw) hc hdl
  have ldw : d < w.heap.size := h.lt
  have Z := Lib.hid hDk; have ZF := Lib.hid hFk; have ZT := Lib.hid tA; have ZB := Lib.hid hby
  clear hDk hFk tA hby hDa hFa h hfr hC hCa q3 q4 q6 q7
  have E1 : ∀ (D : Dk → Prop) (P : Int → Dk → Prop) (E x : Int) (S' : Dk) (e : Ending) (w2 : World), e = .returned (.int .i64 x) → S.stepSaid E D P x S' → DiskAt w2 own d S' → Turn own wa w2 → E = S.stepped.opE o → D = S.stepped.opS o → Stepped own d S o w e w2 := fun D P E x S' e w2 he hS hD hT hE hD2 => ⟨_, _, he, by subst hE; subst hD2; exact hS.to hk2, hD, ZT.out.trans hT⟩
  have HE := Lib.hid E1
  clear E1
  obtain ⟨kd, nm, dt, da⟩ := o
  simp only at *
  by_cases k1 : kd = 1
  · subst k1
    have HS := Lib.hid hsy; have HR := Lib.hid hrn; clear hsy hrn hrm hsd hcp
    go_enter Tryz.func25, Tryz.ntmps25
    go_upto_region 1 with fail
    simp only [← hwa]
    clear hwa
    go_wp2_with (go_at_call 32; refine hcr.mono ?_; rintro e w2 ⟨x, T, rfl, hT, h2, t2⟩)
    go_ret
    refine HE.out _ _ _ _ _ _ _ rfl hT h2 t2 ?_ ?_
    · unfold Dk.opE; simp
    · funext T; unfold Dk.opS; simp
  · by_cases k2 : kd = 2
    · subst k2
      clear hsy hrn hrm hsd hcr
      go_enter Tryz.func25, Tryz.ntmps25
      go_upto_region 1 with fail
      simp only [← hwa]
      clear hwa
      go_upto_region 5 with fail
      go_region_held3 (fun w' => w'.cell? ⟨w.heap.size, 1, none⟩ = some (.string nm) ∧ w'.cell? ⟨w.heap.size, 5, none⟩ = some (.slice A da.length c))
        (go_keep)
        (first
          | (go_at_call 35; refine hcp.mono ?_; rintro e w2 ⟨A2, c2, rfl, ho2, hb20⟩; have hb2 : Below wa.heap.size wa w2 := hdw.trans hb20; have r1 := (hb2.cell (p := ⟨w.heap.size, 1, none⟩) (by simp only; omega)).trans q1; have r5 := (hb2.cell (p := ⟨w.heap.size, 5, none⟩) (by simp only; omega)).trans q5; have hz2 := hb2.size)
          | (go_at_call 12; refine (append_any (own := skip own w.heap.size wa.heap.size) d S nm A2 c2 da w2 (Z.out.below hb2) (ZF.out.step hz2) hs (row_C ho2).1 ZB.out (fun a ha => by subst ha; have := own_base ho2 _ rfl; simp only [World.drew] at this; omega) hk2 hst hpl).mono ?_; rintro e w3 ⟨x, T, rfl, hT, h3, t3⟩; have u1 := (World.cell?_of_block (a := ⟨w.heap.size, 1, none⟩) (t3.block _ (by simp only; omega) (fun ho => by have := ho.2; simp only at this; omega))).trans r1; have u5 := (World.cell?_of_block (a := ⟨w.heap.size, 5, none⟩) (t3.block _ (by simp only; omega) (fun ho => by have := ho.2; simp only at this; omega))).trans r5))
      all_goals go_wp2
      all_goals go_ret
      all_goals
        refine HE.out _ _ _ _ _ _ _ rfl hT (h3.imp (fun k _ ho => ho.1)) ((Turn.of_below hb2).trans t3.unskip) ?_ ?_
        · unfold Dk.opE; simp
        · funext T; unfold Dk.opS; simp
    · by_cases k3 : kd = 3
      · subst k3
        clear hcr hrn hrm hsd hcp
        go_enter Tryz.func25, Tryz.ntmps25
        go_upto_region 1 with fail
        simp only [← hwa]
        clear hwa
        go_wp2_with (go_at_call 33; refine hsy.mono ?_; rintro e w2 ⟨x, T, rfl, hT, h2, t2⟩)
        go_ret
        refine HE.out _ _ _ _ _ _ _ rfl hT h2 t2 ?_ ?_
        · unfold Dk.opE; simp
        · funext T; unfold Dk.opS; simp
      · by_cases k4 : kd = 4
        · subst k4
          clear hcr hsy hrm hsd hcp
          go_enter Tryz.func25, Tryz.ntmps25
          go_upto_region 1 with fail
          simp only [← hwa]
          clear hwa
          go_wp2_with (go_at_call 34; refine hrn.mono ?_; rintro e w2 ⟨x, T, rfl, hT, h2, t2⟩)
          go_ret
          refine HE.out _ _ _ _ _ _ _ rfl hT h2 t2 ?_ ?_
          · unfold Dk.opE; simp
          · funext T; unfold Dk.opS; simp
        · by_cases k5 : kd = 5
          · subst k5
            clear hcr hsy hrn hsd hcp
            go_enter Tryz.func25, Tryz.ntmps25
            go_upto_region 1 with fail
            simp only [← hwa]
            clear hwa
            go_wp2_with (go_at_call 59; refine hrm.mono ?_; rintro e w2 ⟨x, T, rfl, hT, h2, t2⟩)
            go_ret
            refine HE.out _ _ _ _ _ _ _ rfl hT h2 t2 ?_ ?_
            · unfold Dk.opE; simp
            · funext T; unfold Dk.opS; simp
          · have d1 : decide (kd = 1) = false := by simpa using k1
            have d2 : decide (kd = 2) = false := by simpa using k2
            have d3 : decide (kd = 3) = false := by simpa using k3
            have d4 : decide (kd = 4) = false := by simpa using k4
            have d5 : decide (kd = 5) = false := by simpa using k5
            clear hcr hsy hrn hrm hcp
            go_enter Tryz.func25, Tryz.ntmps25
            go_upto_region 1 with fail
            simp only [← hwa]
            clear hwa
            go_wp2_with (go_at_call 60; refine hsd.mono ?_; rintro e w2 ⟨x, T, rfl, hT, h2, t2⟩)
            go_ret
            refine HE.out _ _ _ _ _ _ _ rfl hT h2 t2 ?_ ?_
            · unfold Dk.opE; simp [k1, k2, k3, k4, k5]
            · funext T; unfold Dk.opS; simp [k1, k2, k3, k4, k5]
end Go.Proofs.YtgcpiofpjogjcaaGreatDoor.PK
end
section
namespace Go.Proofs.YtgcpiofpjogjcaaGreatDoor.PK
open Go.RowKit Go.Maps Go.Sort Go.Proofs.YtgcpiofpjogjcaaGreatDoorW.PrintWords
set_option linter.unusedVariables false
set_option linter.unusedSimpArgs false
variable {own : Nat → Prop} {w w' : World}

theorem op_refused {S T : Dk} {o : Call} (hE : S.opE o ≠ 0) (h : S.opS o T) : T = S := by
  unfold Dk.opE at hE
  unfold Dk.opS at h
  by_cases k1 : o.kind = 1
  · rw [if_pos k1] at hE h
    unfold Dk.created at h
    rw [if_neg hE] at h
    exact h
  rw [if_neg k1] at hE h
  by_cases k2 : o.kind = 2
  · rw [if_pos k2] at hE h
    rw [h]
    unfold Dk.appE at hE
    unfold Dk.appended
    cases hl : look S.now (key o.name) with
    | none => rfl
    | some f =>
      rw [hl] at hE
      simp only
      by_cases h2 : S.room - (used S.dat S.now : Nat) < (o.data.length : Int)
      · rw [if_pos h2]
      · rw [if_neg (by simp), if_neg h2] at hE
        exact absurd rfl hE
  rw [if_neg k2] at hE h
  by_cases k3 : o.kind = 3
  · rw [if_pos k3] at hE h
    rw [h]
    unfold Dk.has at hE
    unfold Dk.synced
    cases hl : look S.now (key o.name) with
    | none => rfl
    | some f => rw [hl, if_neg (by simp)] at hE; exact absurd rfl hE
  rw [if_neg k3] at hE h
  by_cases k4 : o.kind = 4
  · rw [if_pos k4] at hE h
    rw [h]
    unfold Dk.renE at hE
    unfold Dk.renamed
    cases hl : look S.now (key o.name) with
    | none => rfl
    | some f =>
      rw [hl, if_neg (by simp)] at hE
      simp only
      by_cases h2 : bad o.dest = true
      · rw [if_pos h2]
      · rw [if_neg h2] at hE
        exact absurd rfl hE
  rw [if_neg k4] at hE h
  by_cases k5 : o.kind = 5
  · rw [if_pos k5] at hE h
    rw [h]
    unfold Dk.has at hE
    unfold Dk.removed
    cases hl : look S.now (key o.name) with
    | none => rfl
    | some f => rw [hl, if_neg (by simp)] at hE; exact absurd rfl hE
  rw [if_neg k5] at hE
  exact absurd rfl hE
theorem loaded_name {S : Dk} {room : Int} {c : Cont} (h : Loaded S room c) (s : ByteArray) : look S.now (key s) ≠ none → s ≠ ⟨#[]⟩ := by
  intro hl he
  subst he
  cases hf : look S.now (key ⟨#[]⟩) with
  | none => exact hl hf
  | some f =>
    obtain ⟨t, ht, hk⟩ := h.good _ (look_mem hf)
    have : t = ⟨#[]⟩ := by
      obtain ⟨⟨l⟩⟩ := t
      simp only [key] at hk
      rw [hk]
    rw [this] at ht
    exact absurd ht (by decide +kernel)
/-- What is left behind a crash where nothing is loose and all is safe: all. -/
theorem left_all {S : Dk} {c : Cont} (hchg : S.chg = []) (hsafe : S.safe = S.now) (hsaf : ∀ p ∈ S.now, S.saf p.2 = (S.dat p.2).length) (hc : cont S.dat S.now = c) (ks : List Int) : S.leftDir ks = S.now ∧ S.leftCont ks = c := by
  have h1 : S.leftDir ks = S.now := by unfold Dk.leftDir; rw [hchg, List.take_nil]; exact hsafe
  refine ⟨h1, ?_⟩
  unfold Dk.leftCont
  rw [h1, ← hc]
  unfold cont
  apply List.ext_getElem?
  intro i
  rw [List.getElem?_mapIdx, List.getElem?_map]
  cases hi : S.now[i]? with
  | none => rfl
  | some p =>
    have hm : p ∈ S.now := List.mem_of_getElem? hi
    simp only [Option.map_some, Option.some.injEq, Prod.mk.injEq, true_and]
    unfold Dk.leftLen
    rw [hsaf p hm, List.take_of_length_le (by omega)]
theorem listed_length (c : Cont) : (listed c).length = c.length := by simp [listed]
theorem R_turn {α : Type} {d : Kd α} {e base : Nat} {v : Value} {xs : List α} {w1 w2 w3 : World} {own : Nat → Prop} (h : d.R e w2 base (fun k => w1.heap.size ≤ k) v xs) (t : Turn (skip own w1.heap.size w2.heap.size) w2 w3) : d.R e w3 base (fun k => w1.heap.size ≤ k) v xs :=
  Kd.R_step h (fun k hk hlt => t.block k hlt (fun ho => by have := ho.2; omega))
theorem cont_short {d : Nat} {S : Dk} (h : DiskAt w own d S) : ∀ p ∈ cont S.dat S.now, p.2.length ≤ 140737488355328 := by
  intro p hp
  obtain ⟨q, hq, rfl⟩ := List.mem_map.1 hp
  obtain ⟨bn, bs, pc, cc, pp, cp, pd, cd, h⟩ := h
  exact (h.files q.2 (h.ref _ (.inl ⟨q.1, hq⟩))).short
/-- Files, and how it compares with another list of them. -/
theorem files_alike (A B : Option Addr) (n m c d : Nat) (x y : Cont) (w : World) {e1 e2 b1 b2 : Nat} {ok1 ok2 : Nat → Prop} (h1 : fileK.R e1 w b1 ok1 (.slice A n c) (listed x)) (h2 : fileK.R e2 w b2 ok2 (.slice B m d) (listed y)) (hx : ∀ p ∈ x, p.2.length ≤ 140737488355328) (hxl : x.length ≤ 400) (hxy : x = y) :
    Calls Tryz.prog 19 #[.slice A n c, .slice B m d] w fun e w' => e = .returned (.bool true) ∧ Drawn0 w w' := by
  subst hxy
  obtain ⟨A', c', he, hc, hC⟩ := Kd.R_reads h1
  injection he with hA hn hcc
  subst hA; subst hn; subst hcc
  obtain ⟨B', d', he, hd, hD⟩ := Kd.R_reads h2
  injection he with hB hm hdd
  subst hB; subst hm; subst hdd
  have hlen : ((listed x).map toF).length = (listed x).length := List.length_map ..
  have := alike_any A B c d ((listed x).map toF) ((listed x).map toF) w (by rw [hlen]; exact fileC_toF hC) (by rw [hlen]; exact hc) (by rw [hlen]; exact fileC_toF hD) (by rw [hlen]; exact hd) (by rw [hlen, listed_length]; omega) (by
    intro p hp
    obtain ⟨q, hq, rfl⟩ := List.mem_map.1 hp
    obtain ⟨r, hr, rfl⟩ := List.mem_map.1 hq
    have := hx r hr
    show r.2.length < _
    omega)
  rw [hlen, alikeB_refl] at this
  exact this
def TrueBelow (w : World) (e : Ending) (w' : World) : Prop := e = .returned (.bool true) ∧ Below w.heap.size w w'
theorem DiskAt.now1 {d : Nat} {S : Dk} (h : DiskAt w own d S) : S.now.length ≤ 400 := by
  obtain ⟨bn, bs, pc, cc, pp, cp, pd, cd, h⟩ := h
  exact h.now1
theorem fate_one {S : Dk} {kind : Int} (h : S.steps = 0) (hp : S.plan = [⟨1, kind, 0⟩]) : S.fate = ⟨1, kind, 0⟩ := by
  unfold Dk.fate
  rw [h, hp]
  rfl
theorem planned {S : Dk} {kind : Int} (hk : kind = 1 ∨ kind = 3) (hp : S.plan = [⟨1, kind, 0⟩]) (h : S.steps = 0) (ho : S.off = false) {E : Int} {D : Dk → Prop} {P : Int → Dk → Prop} {x : Int} {S' : Dk} (hs : S.stepSaid E D P x S') :
    x = (if kind = 1 then 141 else 140) ∧ S' = { S.stepped with off := decide (kind = 3) } := by
  unfold Dk.stepSaid at hs
  rw [ho, fate_one h hp] at hs
  rcases hk with rfl | rfl
  · simp at hs
    refine ⟨hs.1, ?_⟩
    rw [hs.2]
    simp [Dk.stepped, ho]
  · simp at hs
    exact ⟨hs.1, hs.2⟩
/-- A disk that a step has left as it was. -/
structure Same (S : Dk) (c : Cont) (off : Bool) (steps : Int) : Prop where
  cont : PK.cont S.dat S.now = c
  chg : S.chg = []
  safe : S.safe = S.now
  saf : ∀ p ∈ S.now, S.saf p.2 = (S.dat p.2).length
  off : S.off = off
  steps : S.steps = steps

set_option maxRecDepth 100000 in
set_option maxHeartbeats 6400000 in
theorem diskFails_any (A : Option Addr) (c : Nat) (fs : List (ByteArray × List Int)) (o : Call) (n m : Int) (Ad : Option Addr) (cd : Nat) (v6 v7 : Option Addr) (n6 c6 n7 c7 : Nat) (kind : Int) (w : World)
    (h0 : fileK.C w A fs.length fs) (hc0 : fs.length ≤ c) (hl0 : fs.length < 3518437208883) (hs0 : ∀ p ∈ fs, p.1.size ≤ 9223372036854775807 ∧ p.2.length ≤ 140737488355328 ∧ (∀ x ∈ p.2, 0 ≤ x ∧ x < 256))
    (hC : Kd.C (Kd.int .u8) w Ad o.data.length o.data) (hc : o.data.length ≤ cd) (hby : ∀ x ∈ o.data, 0 ≤ x ∧ x < 256) (hdl : o.data.length ≤ 140737488355328) (hs : o.name.size ≤ 9223372036854775807) (ht : o.dest.size ≤ 9223372036854775807) :
    Calls Tryz.prog 5 #[.slice A fs.length c, .agg #[.int .i64 o.kind, .string o.name, .string o.dest, .int .i64 n, .int .i64 m, .slice Ad o.data.length cd, .slice v6 n6 c6, .slice v7 n7 c7], .int .i64 kind] w (TrueBelow w) := by
  obtain ⟨wa, hwa⟩ : ∃ wa, wa = w.alloc (.cells #[.int .i64 o.kind, .string o.name, .string o.dest, .int .i64 n, .int .i64 m, .slice Ad o.data.length cd, .slice v6 n6 c6, .slice v7 n7 c7] 62) := ⟨_, rfl⟩
  have hba : Below w.heap.size w wa := by rw [hwa]; exact (Below.refl _ _).alloc (Nat.le_refl _) _
  have hsa : wa.heap.size = w.heap.size + 1 := by rw [hwa]; simp
  have hblk : wa.heap[w.heap.size]? = some (.cells #[.int .i64 o.kind, .string o.name, .string o.dest, .int .i64 n, .int .i64 m, .slice Ad o.data.length cd, .slice v6 n6 c6, .slice v7 n7 c7] 62 (0, 0)) := by rw [hwa]; exact heap_alloc_new w _
  have hal := alive_any wa
  have Z0 := Lib.hid h0; have Y0 := Lib.hid hs0; have ZD := Lib.hid hC; have YD := Lib.hid hby; have HBK := Lib.hid hblk; have HBA := Lib.hid hba
  clear h0 hs0 hC hby hblk hba
  go_enter Tryz.func5, Tryz.ntmps5
  go_upto_region 1 with fail
  simp only [← hwa]
  have HWA := Lib.hid hwa
  clear hwa
  go_wp2_with fail
  go_at_call 6
  refine hal.mono ?_
  rintro e w1 ⟨rfl, hb1⟩
  have b1 : Below w.heap.size w w1 := HBA.out.trans (hb1.mono HBA.out.size)
  have k1 := (hb1.block w.heap.size (by omega)).trans HBK.out
  have htw := twin_any A c fs w1 (Kd.C_below Z0.out b1) hc0 hl0 (fun p hp => (Y0.out p hp).2.1)
  have hz1 := hb1.size
  have B1 := Lib.hid b1; have K1 := Lib.hid k1
  clear hal hb1 b1 k1 HBK HBA HWA
  go_wp2_with fail
  go_at_call 7
  refine htw.mono ?_
  rintro e w2 ⟨v, rfl, hS2, hb2⟩
  have hz2 := hb2.size
  obtain ⟨A2, c2, rfl, hl2, hC2⟩ := Kd.R_reads (Kd.S_R hS2)
  have b2 : Below w.heap.size w w2 := B1.out.trans (hb2.mono B1.out.size)
  have k2 := (hb2.block w.heap.size (by omega)).trans K1.out
  have hlt : (fs.map toF).length = fs.length := List.length_map ..
  have hC2' : fileK.C w2 A2 fs.length fs := by
    have := fileC_ofF hC2
    rw [prF_toF, hlt] at this
    exact this
  have hld := load_any 16777216 A2 c2 fs w2 hC2' Y0.out
  rw [hlt]
  have B2 := Lib.hid b2; have K2 := Lib.hid k2
  clear htw hS2 hb2 hC2 hC2' b2 k2 B1 K1 hl2 hlt
  go_wp2_with fail
  go_at_call 8
  refine hld.mono ?_
  clear hld
  rintro e w3 (⟨hne, rfl, hb3⟩ | ⟨h0, d, S, rfl, hL, hD, hb3⟩)
  · have b3 : Below w.heap.size w w3 := B2.out.trans (hb3.mono B2.out.size)
    have hrl := rload_any 16777216 A c fs w3 (Kd.C_below Z0.out b3) hc0 (by omega) (fun p hp => (Y0.out p hp).2.1)
    have hn0 : ((ldC [] fs).1 != 0) = true := by simpa using hne
    have B3 := Lib.hid b3
    clear hb3 b3 K2 B2 hne
    go_wp2_with (go_at_call 9; refine hrl.mono ?_; rintro e w4 ⟨a0, n0, c0, a1, n1, c1, a2, n2, c2, a4, n4, c4, r4, r6, r7, rfl, hb4, hx⟩; clear hx)
    go_ret
    exact ⟨rfl, (B3.out.trans (hb4.mono B3.out.size)).alloc (Nat.le_trans B3.out.size hb4.size) _⟩
  · have b3 : Below w.heap.size w w3 := B2.out.trans (hb3.mono B2.out.size)
    have k3 := (hb3.block w.heap.size (by omega)).trans K2.out
    have hz3 := hb3.size
    have hF3 : Fresh (fun k => w2.heap.size ≤ k) w3 := fun k hk => Nat.le_trans hz3 hk
    have hfl := filesOf_any d S w3 hD
    rw [hL.cont] at hfl
    have hcs := cont_short hD
    have hcl : (ldC [] fs).2.length ≤ 400 := by rw [← hL.cont]; simp only [cont, List.length_map]; exact hD.now1
    rw [hL.cont] at hcs
    have l3 := hD.lt
    generalize (ldC [] fs).2 = x at hL hfl hcs hcl
    obtain ⟨q0, q1, q2, q3, q4, q5, q6, q7⟩ := eight_cells k3
    have HL := Lib.hid hL; have B3 := Lib.hid b3; have HD := Lib.hid hD; have HF := Lib.hid hF3; have K3 := Lib.hid k3; have HCS := Lib.hid hcs
    clear hb3 b3 k3 hF3 B2 K2 hL hD hcs
    by_cases hko : 1 ≤ o.kind ∧ o.kind ≤ 6
    · obtain ⟨g1, g2⟩ := hko
      have u1 : decide (o.kind < 1) = false := by simp; omega
      have u2 : decide (6 < o.kind) = false := by simp; omega
      go_wp2_with fail
      go_at_call 17
      refine hfl.mono ?_
      rintro e w4 ⟨B, nB, cB, rfl, hB, hb4⟩
      have hz4 := hb4.size
      have hD4 := HD.out.skip hb4
      have hF4 := HF.out.skip hb4.size
      have k4 := (hb4.block w.heap.size (by omega)).trans K3.out
      have b4 := B3.out.trans (hb4.mono B3.out.size)
      obtain ⟨p0, p1, p2, p3, p4, p5, p6, p7⟩ := eight_cells k4
      have D4 := Lib.hid hD4; have F4 := Lib.hid hF4; have K4 := Lib.hid k4; have B4 := Lib.hid b4; have HB := Lib.hid hB
      clear hfl hb4 hD4 hF4 k4 b4 hB HD HF K3 B3 q0 q1 q2 q3 q4 q5 q6 q7
      by_cases hk : kind = 1 ∨ kind = 3
      · have hpl5 : ∀ w5, w5 = w4.alloc (.cells #[.int .i64 1, .int .i64 kind, .int .i64 0] 69) → Calls Tryz.prog 30 #[.pointer (some ⟨d, 0, none⟩), .slice (some ⟨w4.heap.size, 0, none⟩) 1 1] w5 fun e w' => e = .returned (.tuple #[]) ∧ DiskAt w' (skip (fun k => w2.heap.size ≤ k) w3.heap.size w4.heap.size) d { S with plan := [⟨1, kind, 0⟩] } ∧ Turn (skip (fun k => w2.heap.size ≤ k) w3.heap.size w4.heap.size) w5 w' := by
          rintro w5 rfl
          refine plan_any d S (some ⟨w4.heap.size, 0, none⟩) 1 [⟨1, kind, 0⟩] _ (D4.out.alloc _) (F4.out.step (by simp)) ⟨rfl, by simp, fun _ => ⟨_, rfl, fun j p hj => ?_⟩⟩ (by simp) ?_
          · cases j with
            | zero =>
              simp only [List.getElem?_cons_zero, Option.some.injEq] at hj
              subst hj
              refine ⟨fateV ⟨1, kind, 0⟩, rfl, rfl, fun i u hu => ?_⟩
              rw [addr_add]
              simp only [fateV] at hu
              rcases i with _ | _ | _ | i
              · simp at hu; subst hu; simp [World.cell?_alloc_at]
              · simp at hu; subst hu; simp [World.cell?_alloc_at]
              · simp at hu; subst hu; simp [World.cell?_alloc_at]
              · simp at hu
            | succ j => simp at hj
          · intro p hp
            rw [List.mem_singleton.1 hp]
            rcases hk with rfl | rfl <;> exact ⟨by decide, by decide, by decide⟩
        obtain ⟨S5, hS5⟩ : ∃ S5 : Dk, S5 = { S with plan := [⟨1, kind, 0⟩] } := ⟨_, rfl⟩
        rw [← hS5] at hpl5
        have s5p : S5.plan = [⟨1, kind, 0⟩] := by rw [hS5]
        have s5s : S5.steps = 0 := by rw [hS5]; exact HL.out.steps
        have s5o : S5.off = false := by rw [hS5]; exact HL.out.calm.off
        have s5n : S5.now = S.now := by rw [hS5]
        have s5c : S5.chg = [] := by rw [hS5]; exact HL.out.chg
        have s5same : ∀ b, Same { S5.stepped with off := b } x b 1 := fun b => by
          rw [hS5]
          exact ⟨HL.out.cont, HL.out.chg, HL.out.safe, HL.out.saf, rfl, by show S.steps + 1 = 1; rw [HL.out.steps]; rfl⟩
        have hne : look S5.now (key o.name) ≠ none → o.name ≠ ⟨#[]⟩ := by rw [s5n]; exact loaded_name HL.out o.name
        have hpd := fun (E : Int) (D : Dk → Prop) (P : Int → Dk → Prop) (x : Int) (S' : Dk) (h : S5.stepSaid E D P x S') => planned hk s5p s5s s5o h
        have hk2 : S5.fate.kind ≠ 2 := by rw [fate_one s5s s5p]; rcases hk with rfl | rfl <;> decide
        have HPD := Lib.hid hpd; have HSM := Lib.hid s5same; have HNE := Lib.hid hne
        clear hpd s5same hne s5n hS5
        have T4 : Turn (skip (fun k => w2.heap.size ≤ k) w3.heap.size w4.heap.size) w4 (w4.alloc (.cells #[.int .i64 1, .int .i64 kind, .int .i64 0] 69)) := Turn.alloc _
        have hbel : ∀ w9, Turn (skip (fun k => w2.heap.size ≤ k) w3.heap.size w4.heap.size) w4 w9 → Below w.heap.size w w9 := fun _ t => B4.out.trans (t.below (fun k hk => by have := hk.1; have := B4.out.size; omega) B4.out.size)
        have hopb : ∀ w9, Turn (skip (fun k => w2.heap.size ≤ k) w3.heap.size w4.heap.size) w4 w9 → w9.heap[w.heap.size]? = _ := fun _ t => (t.block w.heap.size (by omega) (fun ho => by have := ho.1; omega)).trans K4.out
        have HBL := Lib.hid hbel; have HOP := Lib.hid hopb
        clear hbel hopb
        rcases hk with rfl | rfl
        all_goals
          go_wp2_with fail
          go_at_call 30
          refine (hpl5 _ rfl).mono ?_
          rintro e w6 ⟨rfl, hD6, ht6⟩
          have t6 := T4.trans ht6
          obtain ⟨j0, j1, j2, j3, j4, j5, j6, j7⟩ := eight_cells (HOP.out _ t6)
          have hst := lstep_any d S5 o n m Ad cd v6 v7 n6 c6 n7 c7 w6 hD6 (F4.out.step t6.size) (Kd.C_below ZD.out (HBL.out _ t6)) hc YD.out hdl hs ht HNE.out hk2 (by rw [s5s]; decide) (by rw [s5p]; decide) (by rw [s5c]; decide)
          clear hpl5 hD6 ht6
          go_wp2_with fail
          go_at_call 25
          refine hst.mono ?_
          clear hst
          rintro e w7 ⟨x7, S7, rfl, hS7, hD7, ht7⟩
          obtain ⟨hx7, hs7⟩ := HPD.out _ _ _ _ _ hS7
          simp only [Int.reduceEq, if_true, if_false, decide_true, decide_false] at hx7 hs7
          subst hx7
          have hm7 := HSM.out S7.off
          rw [show ({ S5.stepped with off := S7.off } : Dk) = S7 from by rw [hs7]] at hm7
          have hpw := power_any d S7 w7 hD7
          first
            | rw [(show S7.off = false from congrArg Dk.off hs7)] at hpw
            | rw [(show S7.off = true from congrArg Dk.off hs7)] at hpw
          have t7 := t6.trans ht7
          have hfl7 := filesOf_any d S7 w7 hD7
          rw [hm7.cont] at hfl7
          have hlo : ∀ w8, Below w7.heap.size w7 w8 → Calls Tryz.prog 28 #[.pointer (some ⟨d, 0, none⟩)] w8 fun e w' => e = .returned (.int .i64 0) ∧ w8 = w' := fun w8 hb => (loose_any d S7 w8 (hD7.below hb)).mono fun e w' ⟨he, hw⟩ => ⟨by rw [he, hm7.chg]; rfl, hw⟩
          have hsp : ∀ w8, Below w7.heap.size w7 w8 → Calls Tryz.prog 27 #[.pointer (some ⟨d, 0, none⟩)] w8 fun e w' => e = .returned (.int .i64 1) ∧ w8 = w' := fun w8 hb => (steps_any d S7 w8 (hD7.below hb)).mono fun e w' ⟨he, hw⟩ => ⟨by rw [he, hm7.steps], hw⟩
          have hB7 := R_turn (w1 := w3) HB.out t7
          obtain ⟨hl1, hl2⟩ := left_all hm7.chg hm7.safe hm7.saf hm7.cont [1099511627776, 1099511627776]
          have hon : ∀ w8, Below w7.heap.size w7 w8 → ∀ A8, Kd.C (Kd.int .i64) w8 A8 2 [1099511627776, 1099511627776] → Calls Tryz.prog 26 #[.pointer (some ⟨d, 0, none⟩), .slice A8 2 2] w8 (Woken (skip (fun k => w2.heap.size ≤ k) w3.heap.size w4.heap.size) d S7 x w8) := fun w8 hb A8 hC8 => by
            have := on_any d S7 A8 2 [1099511627776, 1099511627776] w8 (hD7.below hb) (F4.out.step (Nat.le_trans t7.size hb.size)) hC8 (by decide) (by rw [hm7.chg]; decide) (by rw [hm7.safe]; exact hD7.now1) (by rw [hl1]; exact hD7.now1)
            rw [hl2] at this
            exact this
          have HON := Lib.hid hon; have HLO := Lib.hid hlo; have HSP := Lib.hid hsp; have HB7 := Lib.hid hB7; have T7 := Lib.hid t7
          clear hon hlo hsp hB7 t6 hm7 hs7 hl1 hl2 hS7 HPD HSM HNE T4 hD7 ht7
          go_upto_region 18 with (first
            | (go_at_call 29; refine hpw.mono ?_; rintro e wP ⟨rfl, rfl⟩)
            | (go_at_call 17; refine hfl7.mono ?_; rintro e w8 ⟨B8, n8, c8, rfl, hB8, hb8⟩; have hal := files_alike B8 B n8 nB c8 cB x x w8 hB8 (Kd.R_below HB7.out hb8) HCS.out hcl rfl)
            | (go_at_call 19; refine hal.mono ?_; rintro e w9 ⟨rfl, hd9⟩; have hb9 := hb8.trans (hd9.below.mono hb8.size))
            | (go_at_call 28; refine (HLO.out _ hb9).mono ?_; rintro e w10 ⟨rfl, rfl⟩)
            | (go_at_call 27; refine (HSP.out _ hb9).mono ?_; rintro e w11 ⟨rfl, rfl⟩)
            | (go_at_call 26; refine (HON.out _ (hb9.alloc hb9.size _) _ (C_row_i64 [1099511627776, 1099511627776] rfl (by decide))).mono ?_; rintro e w12 ⟨rfl, ⟨S12, hwo, hD12⟩, ht12⟩))
          have t12 := T7.out.trans ((Turn.of_below hb9).trans ((Turn.alloc _).trans ht12))
          have hfl12 := filesOf_any d S12 w12 hD12
          rw [hwo.cont] at hfl12
          have hB12 := R_turn (w1 := w3) HB.out t12
          have hpw12 := fun w14 (hb : Below w12.heap.size w12 w14) => power_any d S12 w14 (hD12.below hb)
          rw [hwo.off] at hpw12
          have b12 := HBL.out _ t12
          clear hal hfl7 hpw
          go_wp2_with (first
            | (go_at_call 17; refine hfl12.mono ?_; rintro e w13 ⟨B13, n13, c13, rfl, hB13, hb13⟩; have hal := files_alike B13 B n13 nB c13 cB x x w13 hB13 (Kd.R_below hB12 hb13) HCS.out hcl rfl)
            | (go_at_call 19; refine hal.mono ?_; rintro e w14 ⟨rfl, hd14⟩; have hb14 := hb13.trans (hd14.below.mono hb13.size))
            | (go_at_call 29; refine (hpw12 _ hb14).mono ?_; rintro e w15 ⟨rfl, rfl⟩))
          go_ret
          exact ⟨rfl, b12.trans (hb14.mono b12.size)⟩
      · have v1 : (kind == 1) = false := by simp; omega
        have v3 : (kind == 3) = false := by simp; omega
        have hne := loaded_name HL.out o.name
        have hst := lstep_any d S o n m Ad cd v6 v7 n6 c6 n7 c7 w4 D4.out F4.out (Kd.C_below ZD.out B4.out) hc YD.out hdl hs ht hne (by rw [fate_none HL.out.calm.plan]; decide) (by rw [HL.out.steps]; decide) (by rw [HL.out.calm.plan]; simp) (by rw [HL.out.chg]; simp)
        clear hk
        go_wp2_with fail
        go_at_call 25
        refine hst.mono ?_
        rintro e w5 ⟨x5, S5, rfl, hS5, hD5, ht5⟩
        obtain ⟨hx5, ho5⟩ := said_plain HL.out.calm.plan HL.out.calm.off hS5
        have b5 : Below w.heap.size w w5 := B4.out.trans (ht5.below (fun k hk => by have := hk.1; have := B4.out.size; omega) B4.out.size)
        by_cases hx0 : x5 = 0
        · have w0 : (x5 == 0) = true := by simpa using hx0
          clear hx0 hx5 ho5
          go_wp2
          go_ret
          exact ⟨rfl, b5⟩
        · have w0 : (x5 == 0) = false := by simpa using hx0
          have hr5 := op_refused (by rw [← hx5]; exact hx0) ho5
          subst hr5
          have hfl := filesOf_any d _ w5 hD5
          rw [show cont S.stepped.dat S.stepped.now = x from HL.out.cont] at hfl
          have hB5 := R_turn (w1 := w3) HB.out ht5
          have hlo : ∀ w8, Below w5.heap.size w5 w8 → Calls Tryz.prog 28 #[.pointer (some ⟨d, 0, none⟩)] w8 fun e w' => e = .returned (.int .i64 0) ∧ w8 = w' := fun w8 hb => (loose_any d _ w8 (hD5.below hb)).mono fun e w' ⟨he, hw⟩ => ⟨by rw [he, show S.stepped.chg = [] from HL.out.chg]; rfl, hw⟩
          clear hx0 hx5
          go_wp2_with (first
            | (go_at_call 17; refine hfl.mono ?_; rintro e w8 ⟨B8, n8, c8, rfl, hB8, hb8⟩; have hal := files_alike B8 B n8 nB c8 cB x x w8 hB8 (Kd.R_below hB5 hb8) HCS.out hcl rfl)
            | (go_at_call 19; refine hal.mono ?_; rintro e w9 ⟨rfl, hd9⟩; have hb9 := hb8.trans (hd9.below.mono hb8.size))
            | (go_at_call 28; refine (hlo _ hb9).mono ?_; rintro e w10 ⟨rfl, rfl⟩))
          go_ret
          exact ⟨rfl, b5.trans (hb9.mono b5.size)⟩
    · have hor : o.kind < 1 ∨ 6 < o.kind := by omega
      clear hfl
      rcases hor with hor | hor
      · have u1 : decide (o.kind < 1) = true := by simpa using hor
        go_wp2_with fail
        go_ret
        exact ⟨rfl, B3.out⟩
      · have u1 : decide (o.kind < 1) = false := by simp; omega
        have u2 : decide (6 < o.kind) = true := by simpa using hor
        go_wp2_with fail
        go_ret
        exact ⟨rfl, B3.out⟩
end Go.Proofs.YtgcpiofpjogjcaaGreatDoor.PK
end
section
namespace Go.Proofs.YtgcpiofpjogjcaaGreatDoor.PK
open Go.ChangeShapes Go.WideShapes Go.ChangeAt Go.RowKit Go.Deep Go.Proofs.YtgcpiofpjogjcaaGreatDoorW.PrintWords
set_option linter.unusedVariables false
set_option linter.unusedSimpArgs false

theorem reachBytes_eq : reachBytes = 140737488351232 := by decide
theorem list_of {α : Type} {Q : Nat → α → Prop} : ∀ n, (∀ i, i < n → ∃ y, Q i y) → ∃ l : List α, l.length = n ∧ ∀ i y, l[i]? = some y → Q i y
  | 0, _ => ⟨[], rfl, fun i y h => (by simp at h)⟩
  | n + 1, h => by
    obtain ⟨l, h1, h2⟩ := list_of n (fun i hi => h i (by omega))
    obtain ⟨y, hy⟩ := h n (by omega)
    refine ⟨l ++ [y], by simp [h1], fun i z hz => ?_⟩
    by_cases hi : i < n
    · rw [List.getElem?_append_left (by omega)] at hz
      exact h2 i z hz
    · have : i = n := by
        have := (List.getElem?_eq_some_iff.1 hz).1
        simp [h1] at this
        omega
      subst this
      rw [List.getElem?_append_right (by omega), h1, Nat.sub_self] at hz
      simp at hz
      exact hz ▸ hy
section
variable {P : Program} {W : World}
/-- What the claim says of a value of type t gives kind k's cells, with G. -/
def Opens (P : Program) (W : World) {α : Type} (t : TypeId) (k : Kd α) (G : α → Prop) : Prop :=
  ∀ (H : Type) (enc : TypeId × Value → H) (fuel : Nat) (cs : List Value) (x : DataW H × List MemPlace), DataW.trod enc P W 0 (fun _ => true) true fuel t cs = some x → (x.1.weights P t).all (· ≤ reachBytes) = true → ∃ a, k.K W a cs ∧ G a
theorem Opens.imp {α : Type} {t : TypeId} {k : Kd α} {G G' : α → Prop} (h : Opens P W t k G) (hi : ∀ a, G a → G' a) : Opens P W t k G' := fun H enc fuel cs x hx hw => by
  obtain ⟨a, h1, h2⟩ := h H enc fuel cs x hx hw
  exact ⟨a, h1, hi a h2⟩
theorem opens_int {t : TypeId} {q : IntKind} (ht : P.underlying t = some (.int q)) : Opens P W t (Kd.int q) (fun n => (Lit.int q n).wf = true) := by
  intro H enc fuel cs x hx hw
  cases fuel with
  | zero => simp [DataW.trod] at hx
  | succ fuel =>
    unfold DataW.trod at hx
    rw [ht] at hx
    split at hx <;> simp_all
    rename_i k' n h1
    obtain ⟨⟨rfl, h2⟩, _⟩ := hx
    exact ⟨n, rfl, h2⟩
theorem opens_string {t : TypeId} (ht : P.underlying t = some .string) : Opens P W t Kd.string (fun s => s.size ≤ 9223372036854775807) := by
  intro H enc fuel cs x hx hw
  cases fuel with
  | zero => simp [DataW.trod] at hx
  | succ fuel =>
    unfold DataW.trod at hx
    rw [ht] at hx
    split at hx <;> simp_all
    rename_i s
    exact ⟨_, rfl, hx.1⟩
theorem weightsAll_mem {H : Type} {e : TypeId} : ∀ {l : List (DataW H)} {d : DataW H}, d ∈ l → ∀ n ∈ d.weights P e, n ∈ DataW.weightsAll P e l
  | [], d, hd, n, hn => by cases hd
  | d0 :: l, d, hd, n, hn => by
    rw [DataW.weightsAll, List.mem_append]
    rcases List.mem_cons.1 hd with rfl | hd
    · exact .inl hn
    · exact .inr (weightsAll_mem hd n hn)
theorem opens_slice {α : Type} {t e : TypeId} {k : Kd α} {G : α → Prop} {B : Nat} (ht : P.underlying t = some (.slice e)) (hk : Opens P W e k G) (hc : P.cellsOf e = k.sz) (hB : P.bytesOf e = B) : Opens P W t (Kd.slice e k) (fun l => (∀ a ∈ l, G a) ∧ l.length * B ≤ 140737488351232) := by
  intro H enc fuel cs x hx hw
  rcases open_slice ht hx with ⟨rfl, rfl⟩ | ⟨a, len, cap, m, n, D, Pl, rfl, _, hl, hm, hmm, rfl, hel⟩
  · exact ⟨[], ⟨none, 0, rfl, Nat.le_refl _, Kd.C_nil _ _⟩, ⟨fun a ha => (by cases ha), by simp⟩⟩
  · simp only [if_true] at hmm
    subst hmm
    simp only [DataW.weights, ht, List.length_map, List.length_range, List.all_cons, Bool.and_eq_true, decide_eq_true_eq, List.all_append] at hw
    obtain ⟨hw1, hw2, _⟩ := hw
    rw [hB] at hw1
    have hel' : ∀ i, i < len → ∃ y c, c.length = k.sz ∧ (∀ j u, c[j]? = some u → W.cell? (a.add (i * k.sz + j)) = some u) ∧ k.K W y c ∧ G y := by
      intro i hi
      obtain ⟨cs', h1, h2⟩ := hel i (by omega)
      obtain ⟨_, hlen, hcell⟩ := World.cells?_some h1
      rw [hc] at hlen hcell
      obtain ⟨y, hy, hG⟩ := hk H enc n cs' _ h2 (by
        rw [List.all_eq_true] at hw2 ⊢
        intro z hz
        exact hw2 z (weightsAll_mem (List.mem_map.2 ⟨i, List.mem_range.2 hi, rfl⟩) z hz))
      refine ⟨y, cs', hlen, fun j u hu => ?_, hy, hG⟩
      have hj : j < k.sz := by rw [← hlen]; exact (List.getElem?_eq_some_iff.1 hu).1
      have := hcell j hj
      rw [hu] at this
      rw [← this]
      congr 1
      exact (Go.Deep.add_add _ _ _).symm
    obtain ⟨l, hll, hlq⟩ := list_of len hel'
    refine ⟨l, ⟨some a, m, by rw [hll], by omega, ⟨rfl, by rw [hll]; unfold maxLen at hm; omega, fun _ => ⟨a, rfl, fun j p hj => ?_⟩⟩⟩, fun y hy => ?_, ?_⟩
    · obtain ⟨c, h1, h2, h3, _⟩ := hlq j p hj
      exact ⟨c, h1, h3, h2⟩
    · obtain ⟨j, hj, rfl⟩ := List.mem_iff_getElem.1 hy
      exact (hlq j _ (List.getElem?_eq_getElem hj)).choose_spec.2.2.2
    · rw [hll]
      have := reachBytes_eq
      refine Nat.le_trans (Nat.mul_le_mul_right _ (show len ≤ len + (m - len) by omega)) (by omega)
/-- A run of a struct's fields, from an offset on. -/
def OpensL (P : Program) (W : World) {α : Type} (fs : List Field) (off : Nat) (k : Kd α) (G : α → Prop) : Prop :=
  ∀ (H : Type) (enc : TypeId × Value → H) (n : Nat) (cs : List Value) (xs : List (DataW H × List MemPlace)), off + k.sz ≤ cs.length → xs.length = fs.length → (∀ (i : Nat) (f : Field), fs[i]? = some f → DataW.trod enc P W 0 (fun _ => true) true n f.type ((cs.drop f.offset).take (P.cellsOf f.type)) = xs[i]?) →
    (DataW.weightsEach P (fs.map (·.type)) (xs.map (·.1))).all (· ≤ reachBytes) = true → ∃ a, k.K W a ((cs.drop off).take k.sz) ∧ G a
theorem opensL_one {α : Type} {f : Field} {off : Nat} {k : Kd α} {G : α → Prop} (h : Opens P W f.type k G) (ho : f.offset = off) (hc : P.cellsOf f.type = k.sz) : OpensL P W [f] off k G := by
  intro H enc n cs xs hl hx hf hw
  match xs, hx with
  | [x], _ =>
    have h0 := hf 0 f rfl
    rw [ho, hc] at h0
    simp only [List.map_cons, List.map_nil, DataW.weightsEach, List.append_nil] at hw
    exact h H enc n _ x h0 hw
theorem opensL_cons {α β : Type} {f : Field} {r : List Field} {off : Nat} {k : Kd α} {G : α → Prop} {kr : Kd β} {Gr : β → Prop} (h : Opens P W f.type k G) (ho : f.offset = off) (hc : P.cellsOf f.type = k.sz) (hr : OpensL P W r (off + k.sz) kr Gr) : OpensL P W (f :: r) off (Kd.pair k kr) (fun p => G p.1 ∧ Gr p.2) := by
  intro H enc n cs xs hl hx hf hw
  match xs, hx with
  | x :: xs, hx =>
    have h0 := hf 0 f rfl
    rw [ho, hc] at h0
    simp only [List.map_cons, DataW.weightsEach, List.all_append, Bool.and_eq_true] at hw
    have hsz : (Kd.pair k kr).sz = k.sz + kr.sz := rfl
    rw [hsz] at hl ⊢
    obtain ⟨a, ha, hG⟩ := h H enc n _ x h0 hw.1
    obtain ⟨b, hb, hGr⟩ := hr H enc n cs xs (by omega) (by simpa using hx) (fun i g hg => hf (i + 1) g hg) hw.2
    refine ⟨(a, b), ⟨_, _, ?_, ha, hb⟩, hG, hGr⟩
    rw [List.take_add, List.drop_drop]
theorem opens_struct {α : Type} {t : TypeId} {fs : Array Field} {k : Kd α} {G : α → Prop} (ht : P.underlying t = some (.struct fs)) (hc : P.cellsOf t = k.sz) (h : OpensL P W fs.toList 0 k G) : Opens P W t k G := by
  intro H enc fuel cs x hx hw
  obtain ⟨xs, n, _, rfl, hl, hlen, hf⟩ := DataW.trod_struct ht hx
  rw [hc] at hl
  simp only [DataW.weights, ht] at hw
  obtain ⟨a, ha, hG⟩ := h H enc n cs xs (by omega) (by simpa using hlen) (fun i f hi => hf i f (by simpa using hi)) hw
  rw [List.drop_zero, List.take_of_length_le (by omega)] at ha
  exact ⟨a, ha, hG⟩
/-- A variable's value opened. -/
theorem open_var {α : Type} {H : Type} {enc : TypeId × Value → H} {t : TypeId} {k : Kd α} {G : α → Prop} (h : Opens P W t k G) {ts : List TypeId} {ds : List (DataW H)} {j : Nat} {d : DataW H} {v : Value} {ps : List MemPlace} (hsz : (DataW.weightsEach P ts ds).all (· ≤ reachBytes) = true) (ht : ts[j]? = some t) (hd : ds[j]? = some d)
    (hv : DataW.Trod enc P W 0 (fun _ => true) true t v d ps) : ∃ a, k.K W a v.cells.toList ∧ G a := by
  obtain ⟨fuel, hf⟩ := hv
  refine h H enc fuel _ _ hf ?_
  rw [List.all_eq_true] at hsz ⊢
  intro n hn
  exact hsz n (DataW.weights_mem_each ht hd n hn)
theorem slice_cells {α : Type} {e : Nat} {k : Kd α} {a : List α} {p : Option Addr} {len cap : Nat} (h : (Kd.slice e k).K W a (Value.slice p len cap).cells.toList) : len = a.length ∧ a.length ≤ cap ∧ k.C W p a.length a := by
  obtain ⟨A, c, he, hl, hC⟩ := h
  simp [Value.cells] at he
  obtain ⟨rfl, rfl, rfl⟩ := he
  exact ⟨rfl, hl, hC⟩
theorem agg_cells {v : Value} {cs : List Value} (h : v.cells.toList = cs) (hl : 1 < cs.length) : v = .agg cs.toArray := by
  unfold Value.cells at h
  split at h
  · rw [← h]
  · subst h
    simp at hl
end
end Go.Proofs.YtgcpiofpjogjcaaGreatDoor.PK
end
section
namespace Go.Proofs.YtgcpiofpjogjcaaGreatDoor.PK
open Go.ChangeShapes Go.WideShapes Go.ChangeAt Go.RowKit Go.Deep Go.Proofs.YtgcpiofpjogjcaaGreatDoorW.PrintWords
set_option linter.unusedVariables false
set_option linter.unusedSimpArgs false
variable {W : World}

theorem byte_wf {n : Int} (h : (Lit.int .u8 n).wf = true) : 0 ≤ n ∧ n < 256 := by
  simp only [Lit.wf, IntKind.min, IntKind.max, IntKind.signed, IntKind.bits, Bool.and_eq_true, decide_eq_true_eq] at h
  simp at h
  omega
def okBytes (l : List Int) : Prop := (∀ x ∈ l, 0 ≤ x ∧ x < 256) ∧ l.length ≤ 140737488351232
theorem opens_bytes : Opens Tryz.prog W 23 (Kd.slice 5 (Kd.int .u8)) okBytes :=
  (opens_slice (B := 1) Tryz.underlying23 (opens_int Tryz.underlying5) (by kernel_rfl) (by kernel_rfl)).imp fun l h => ⟨fun x hx => byte_wf (h.1 x hx), by have := h.2; omega⟩
def okFile (p : ByteArray × List Int) : Prop := p.1.size ≤ 9223372036854775807 ∧ okBytes p.2
set_option maxRecDepth 100000 in
theorem opens_file : Opens Tryz.prog W 40 fileK okFile :=
  opens_struct Tryz.underlying40 (by kernel_rfl) (opensL_cons (opens_string Tryz.underlying9) rfl (by kernel_rfl) (opensL_one opens_bytes rfl (by kernel_rfl)))
theorem opens_files : Opens Tryz.prog W 22 (Kd.slice 40 fileK) (fun l => (∀ p ∈ l, okFile p) ∧ l.length * 40 ≤ 140737488351232) :=
  opens_slice Tryz.underlying22 opens_file (by kernel_rfl) (by kernel_rfl)
theorem opens_ints : Opens Tryz.prog W 60 (Kd.slice 3 (Kd.int .i64)) (fun l => (∀ x ∈ l, (Lit.int .i64 x).wf = true) ∧ l.length * 8 ≤ 140737488351232) :=
  opens_slice Tryz.underlying60 (opens_int Tryz.underlying3) (by kernel_rfl) (by kernel_rfl)
/-- A fate, as the argument has it. -/
def kFate : Kd (Int × Int × Int) := Kd.pair (Kd.int .i64) (Kd.pair (Kd.int .i64) (Kd.int .i64))
set_option maxRecDepth 100000 in
theorem opens_fate : Opens Tryz.prog W 69 kFate (fun p => (Lit.int .i64 p.1).wf = true ∧ (Lit.int .i64 p.2.1).wf = true ∧ (Lit.int .i64 p.2.2).wf = true) :=
  opens_struct Tryz.underlying69 (by kernel_rfl) (opensL_cons (opens_int Tryz.underlying3) rfl (by kernel_rfl) (opensL_cons (opens_int Tryz.underlying3) rfl (by kernel_rfl) (opensL_one (opens_int Tryz.underlying3) rfl (by kernel_rfl))))
theorem opens_fates : Opens Tryz.prog W 33 (Kd.slice 69 kFate) (fun l => (∀ p ∈ l, (Lit.int .i64 p.1).wf = true ∧ (Lit.int .i64 p.2.1).wf = true ∧ (Lit.int .i64 p.2.2).wf = true) ∧ l.length * 24 ≤ 140737488351232) :=
  opens_slice Tryz.underlying33 opens_fate (by kernel_rfl) (by kernel_rfl)
abbrev OpT := Int × ByteArray × ByteArray × Int × Int × List Int × List (Int × Int × Int) × List Int
/-- A call, as the argument has it. -/
def kOp : Kd OpT := Kd.pair (Kd.int .i64) (Kd.pair Kd.string (Kd.pair Kd.string (Kd.pair (Kd.int .i64) (Kd.pair (Kd.int .i64) (Kd.pair (Kd.slice 5 (Kd.int .u8)) (Kd.pair (Kd.slice 69 kFate) (Kd.slice 3 (Kd.int .i64))))))))
def okOp (o : OpT) : Prop := o.2.1.size ≤ 9223372036854775807 ∧ o.2.2.1.size ≤ 9223372036854775807 ∧ okBytes o.2.2.2.2.2.1
set_option maxRecDepth 100000 in
theorem opens_op : Opens Tryz.prog W 62 kOp okOp :=
  Opens.imp (opens_struct Tryz.underlying62 (by kernel_rfl) (opensL_cons (opens_int Tryz.underlying3) rfl (by kernel_rfl) (opensL_cons (opens_string Tryz.underlying9) rfl (by kernel_rfl) (opensL_cons (opens_string Tryz.underlying9) rfl (by kernel_rfl) (opensL_cons (opens_int Tryz.underlying3) rfl (by kernel_rfl) (opensL_cons (opens_int Tryz.underlying3) rfl (by kernel_rfl)
    (opensL_cons opens_bytes rfl (by kernel_rfl) (opensL_cons opens_fates rfl (by kernel_rfl) (opensL_one opens_ints rfl (by kernel_rfl))))))))))
    fun o h => ⟨h.2.1, h.2.2.1, h.2.2.2.2.2.1⟩
theorem opens_ops : Opens Tryz.prog W 59 (Kd.slice 62 kOp) (fun l => (∀ o ∈ l, okOp o) ∧ l.length * 128 ≤ 140737488351232) :=
  opens_slice Tryz.underlying59 opens_op (by kernel_rfl) (by kernel_rfl)
/-- A call's eight values. -/
theorem op_cells {o : OpT} {cs : List Value} (h : kOp.K W o cs) : ∃ A c A6 n6 c6 A7 n7 c7, cs = [.int .i64 o.1, .string o.2.1, .string o.2.2.1, .int .i64 o.2.2.2.1, .int .i64 o.2.2.2.2.1, .slice A o.2.2.2.2.2.1.length c, .slice A6 n6 c6, .slice A7 n7 c7] ∧ o.2.2.2.2.2.1.length ≤ c ∧ Kd.C (Kd.int .u8) W A o.2.2.2.2.2.1.length o.2.2.2.2.2.1 := by
  obtain ⟨_, _, rfl, rfl, _, _, rfl, rfl, _, _, rfl, rfl, _, _, rfl, rfl, _, _, rfl, rfl, _, _, rfl, ⟨A, c, rfl, hc, hC⟩, _, _, rfl, ⟨A6, c6, rfl, _, _⟩, A7, c7, rfl, _, _⟩ := h
  exact ⟨A, c, A6, _, c6, A7, _, c7, rfl, hc, hC⟩
end Go.Proofs.YtgcpiofpjogjcaaGreatDoor.PK
end
section
namespace Go.Proofs.YtgcpiofpjogjcaaGreatDoor.PK
open Go.RowKit Go.Maps Go.Sort Go.Proofs.YtgcpiofpjogjcaaGreatDoorW.PrintWords
set_option linter.unusedVariables false
set_option linter.unusedSimpArgs false
variable {own : Nat → Prop} {w w' : World}

/-! ### Safe -/
set_option maxRecDepth 100000 in
theorem safe_any (d : Nat) (S : Dk) (w : World) (h : DiskAt w own d S) (hfr : Fresh own w) (hbig : S.chg.length ≤ 1099511627776) (hsafe : S.safe.length ≤ 400) (hlen : (S.leftDir []).length ≤ 400) :
    Calls Tryz.prog 18 #[.pointer (some ⟨d, 0, none⟩)] w (FilesMade (S.leftCont []) w) := by
  have hle := left_any d S none 0 [] w h hfr (Kd.C_nil _ _) (Nat.le_refl _) hbig hsafe hlen
  clear h hfr
  go_enter Tryz.func18, Tryz.ntmps18
  go_wp2_with fail
  go_at_call 55
  refine hle.mono ?_
  rintro e w1 ⟨b, l, pd, cd, dat, rfl, hbw, hdir, hmade, hcont, hb1⟩
  have hll : l.length ≤ 1099511627776 := by
    have := congrArg List.length hcont
    rw [leftCont_length] at this
    simp only [cont, List.length_map] at this
    omega
  have hfl := files_any (own := own) b l pd cd dat (fun f => (dat f).length) w1 hdir hll hmade.files
  rw [hcont] at hfl
  clear hle hdir hmade
  go_wp2_with (go_at_call 54; refine hfl.mono ?_; rintro e w2 ⟨A, n, cp, rfl, hR, hb2⟩)
  go_ret
  exact ⟨A, n, cp, rfl, Kd.R_mono (Kd.R_lower hR hb1.size) (fun k hk => Nat.le_trans hb1.size hk), hb1.trans (hb2.mono hb1.size)⟩

/-! ### A script's disk -/
/-- A disk behind at most n calls. -/
structure Run (S : Dk) (n : Nat) : Prop where
  calm : S.calm
  steps : S.steps ≤ n
  chg : S.chg.length ≤ n
  path : S.chg.foldl applyC S.safe = S.now
  short : ∀ k, ((S.chg.take k).foldl applyC S.safe).length ≤ 400
  good : ∀ p ∈ S.now, ∃ s, bad s = false ∧ key s = p.1
theorem good_name {S : Dk} (hg : ∀ p ∈ S.now, ∃ s, bad s = false ∧ key s = p.1) (s : ByteArray) : look S.now (key s) ≠ none → s ≠ ⟨#[]⟩ := by
  intro hl he
  subst he
  cases hf : look S.now (key ⟨#[]⟩) with
  | none => exact hl hf
  | some f =>
    obtain ⟨t, ht, hk⟩ := hg _ (look_mem hf)
    have : t = ⟨#[]⟩ := by
      obtain ⟨⟨l⟩⟩ := t
      simp only [key] at hk
      rw [hk]
    rw [this] at ht
    exact absurd ht (by decide +kernel)
theorem good_apply {l : Dir} {c : Chg} (hg : ∀ p ∈ l, ∃ s, bad s = false ∧ key s = p.1) (hc : c.b ≠ ⟨#[]⟩ → bad c.b = false) : ∀ p ∈ applyC l c, ∃ s, bad s = false ∧ key s = p.1 := by
  have h1 : ∀ q, q ∈ (if c.a = ⟨#[]⟩ then l else del l (key c.a)) → q ∈ l := by
    intro q hq
    split at hq
    · exact hq
    · exact (mem_del.1 hq).1
  intro p hp
  unfold applyC at hp
  simp only at hp
  by_cases hb : c.b = ⟨#[]⟩
  · rw [if_pos hb] at hp
    exact hg p (h1 p hp)
  · rw [if_neg hb] at hp
    cases hf : c.f with
    | none =>
      rw [hf] at hp
      exact hg p (h1 p hp)
    | some f =>
      rw [hf] at hp
      rcases mem_put.1 hp with rfl | ⟨hp, _⟩
      · exact ⟨c.b, hc hb, rfl⟩
      · exact hg p (h1 p hp)
theorem Run.same {S T : Dk} {n : Nat} (h : Run S n) (h1 : T.plan = S.plan) (h2 : T.off = S.off) (h3 : T.steps = S.steps + 1) (h4 : T.chg = S.chg) (h5 : T.safe = S.safe) (h6 : T.now = S.now) : Run T (n + 1) :=
  ⟨⟨h1.trans h.calm.plan, h2.trans h.calm.off⟩, by rw [h3]; have := h.steps; omega, by rw [h4]; have := h.chg; omega, by rw [h4, h5, h6]; exact h.path, by rw [h4, h5]; exact h.short, by rw [h6]; exact h.good⟩
theorem Run.alter {S T : Dk} {n : Nat} {c : Chg} (h : Run S n) (h1 : T.plan = S.plan) (h2 : T.off = S.off) (h3 : T.steps = S.steps + 1) (h4 : T.chg = S.chg ++ [c]) (h5 : T.safe = S.safe) (h6 : T.now = applyC S.now c) (hl : T.now.length ≤ 400) (hc : c.b ≠ ⟨#[]⟩ → bad c.b = false) : Run T (n + 1) := by
  have hp : T.chg.foldl applyC T.safe = T.now := by rw [h4, h5, h6, List.foldl_append, h.path]; rfl
  refine ⟨⟨h1.trans h.calm.plan, h2.trans h.calm.off⟩, by rw [h3]; have := h.steps; omega, by rw [h4, List.length_append, List.length_singleton]; have := h.chg; omega, hp, fun k => ?_, by rw [h6]; exact good_apply h.good hc⟩
  by_cases hk : k ≤ S.chg.length
  · rw [h4, h5, List.take_append_of_le_length hk]
    exact h.short k
  · rw [List.take_of_length_le (by rw [h4, List.length_append, List.length_singleton]; omega), hp]
    exact hl
theorem Run.step {S T : Dk} {n : Nat} {o : Call} (h : Run S n) (hT : S.stepped.opS o T) (hl : T.now.length ≤ 400) : Run T (n + 1) := by
  have hsame : Run S.stepped (n + 1) := h.same rfl rfl rfl rfl rfl rfl
  unfold Dk.opS at hT
  by_cases k1 : o.kind = 1
  · rw [if_pos k1] at hT
    unfold Dk.created at hT
    split at hT
    · rename_i hr
      obtain ⟨f, _, rfl⟩ := hT
      refine h.alter (c := ⟨⟨#[]⟩, o.name, some f⟩) rfl rfl rfl rfl rfl rfl hl (fun _ => ?_)
      unfold Dk.refuse at hr
      cases hb : bad o.name
      · rfl
      · rw [if_pos hb] at hr; exact absurd hr (by decide)
    · rw [hT]; exact hsame
  rw [if_neg k1] at hT
  by_cases k2 : o.kind = 2
  · rw [if_pos k2] at hT
    subst hT
    unfold Dk.appended
    cases look S.stepped.now (key o.name) with
    | none => exact hsame
    | some f =>
      simp only
      split
      · exact hsame
      · exact h.same rfl rfl rfl rfl rfl rfl
  rw [if_neg k2] at hT
  by_cases k3 : o.kind = 3
  · rw [if_pos k3] at hT
    subst hT
    unfold Dk.synced
    cases look S.stepped.now (key o.name) with
    | none => exact hsame
    | some f => exact h.same rfl rfl rfl rfl rfl rfl
  rw [if_neg k3] at hT
  by_cases k4 : o.kind = 4
  · rw [if_pos k4] at hT
    subst hT
    unfold Dk.renamed at hl ⊢
    cases hlk : look S.stepped.now (key o.name) with
    | none => exact hsame
    | some f =>
      rw [hlk] at hl
      simp only at hl ⊢
      by_cases hb : bad o.dest = true
      · rw [if_pos hb]; exact hsame
      · rw [if_neg hb] at hl ⊢
        by_cases he : o.name = o.dest
        · rw [if_pos he]; exact hsame
        · rw [if_neg he] at hl ⊢
          exact h.alter (c := ⟨o.name, o.dest, some f⟩) rfl rfl rfl rfl rfl rfl hl (fun _ => by simpa using hb)
  rw [if_neg k4] at hT
  by_cases k5 : o.kind = 5
  · rw [if_pos k5] at hT
    subst hT
    unfold Dk.removed at hl ⊢
    cases hlk : look S.stepped.now (key o.name) with
    | none => exact hsame
    | some f =>
      rw [hlk] at hl
      exact h.alter (c := ⟨o.name, ⟨#[]⟩, none⟩) rfl rfl rfl rfl rfl rfl hl (fun hb => absurd rfl hb)
  rw [if_neg k5] at hT
  subst hT
  exact ⟨⟨h.calm.plan, h.calm.off⟩, by show S.steps + 1 ≤ _; have := h.steps; omega, by show ([] : List Chg).length ≤ _; simp, rfl, fun k => by show (([] : List Chg).take k |>.foldl applyC S.now).length ≤ 400; rw [List.take_nil]; exact hl, h.good⟩
theorem Run.mono {S : Dk} {n m : Nat} (h : Run S n) (hnm : n ≤ m) : Run S m := ⟨h.calm, by have := h.steps; omega, by have := h.chg; omega, h.path, h.short, h.good⟩
theorem Loaded.run {S : Dk} {room : Int} {c : Cont} (h : Loaded S room c) (hl : S.now.length ≤ 400) : Run S 0 :=
  ⟨h.calm, by rw [h.steps]; decide, by rw [h.chg]; decide, by rw [h.chg, h.safe]; rfl, fun k => by rw [h.chg, List.take_nil, h.safe]; exact hl, h.good⟩
theorem Run.left {S : Dk} {n : Nat} (h : Run S n) (ks : List Int) : (S.leftDir ks).length ≤ 400 := h.short _
def RunAt (w2 : World) (w : World) (d : Nat) (i : Nat) (wr : World) : Prop := ∃ S, Run S i ∧ DiskAt wr (fun k => w2.heap.size ≤ k) d S ∧ Turn (fun k => w2.heap.size ≤ k) w wr
end Go.Proofs.YtgcpiofpjogjcaaGreatDoor.PK
end
section
namespace Go.Proofs.YtgcpiofpjogjcaaGreatDoor.PK
open Go.RowKit Go.Maps Go.Sort Go.Proofs.YtgcpiofpjogjcaaGreatDoorW.PrintWords
set_option linter.unusedVariables false
set_option linter.unusedSimpArgs false
variable {own : Nat → Prop} {w w' : World}

theorem R_keep2 {α : Type} {d : Kd α} {e base : Nat} {ok : Nat → Prop} {v : Value} {xs : List α} {w2 w3 : World} (h : d.R e w2 base ok v xs) (t : Turn own w2 w3) (hn : ∀ k, ok k → k < w2.heap.size → ¬ own k) : d.R e w3 base ok v xs :=
  Kd.R_step h (fun k hk hlt => t.block k hlt (hn k hk hlt))

set_option maxRecDepth 100000 in
set_option maxHeartbeats 6400000 in
theorem diskTwice_any (A : Option Addr) (c : Nat) (fs : List (ByteArray × List Int)) (Ao : Option Addr) (co : Nat) (os : List OpT) (Ak : Option Addr) (ck : Nat) (ks : List Int) (Aa : Option Addr) (ca : Nat) (as_ : List Int) (w : World)
    (h0 : fileK.C w A fs.length fs) (hc0 : fs.length ≤ c) (hl0 : fs.length < 3518437208883) (hs0 : ∀ p ∈ fs, p.1.size ≤ 9223372036854775807 ∧ p.2.length ≤ 140737488355328 ∧ (∀ x ∈ p.2, 0 ≤ x ∧ x < 256))
    (ho : kOp.C w Ao os.length os) (hlo : os.length ≤ 1099511627776) (hoo : ∀ o ∈ os, okOp o) (hk : Kd.C (Kd.int .i64) w Ak ks.length ks) (hck : ks.length ≤ ck) (ha : Kd.C (Kd.int .i64) w Aa as_.length as_) (hca : as_.length ≤ ca) :
    Calls Tryz.prog 4 #[.slice A fs.length c, .slice Ao os.length co, .slice Ak ks.length ck, .slice Aa as_.length ca] w (TrueBelow w) := by
  have hal := alive_any w
  have Z0 := Lib.hid h0; have Y0 := Lib.hid hs0; have ZO := Lib.hid ho; have YO := Lib.hid hoo; have ZK := Lib.hid hk; have ZA := Lib.hid ha
  clear h0 hs0 ho hoo hk ha
  go_enter Tryz.func4, Tryz.ntmps4
  go_wp2_with fail
  go_at_call 6
  refine hal.mono ?_
  rintro e w1 ⟨rfl, hb1⟩
  have htw := twin_any A c fs w1 (Kd.C_below Z0.out hb1) hc0 hl0 (fun p hp => (Y0.out p hp).2.1)
  have hz1 := hb1.size
  have B1 := Lib.hid hb1
  clear hal hb1
  go_wp2_with fail
  go_at_call 7
  refine htw.mono ?_
  rintro e w2 ⟨v, rfl, hS2, hb2⟩
  have hz2 := hb2.size
  obtain ⟨A2, c2, rfl, hl2, hC2⟩ := Kd.R_reads (Kd.S_R hS2)
  have b2 : Below w.heap.size w w2 := B1.out.trans (hb2.mono B1.out.size)
  have hlt : (fs.map toF).length = fs.length := List.length_map ..
  have hC2' : fileK.C w2 A2 fs.length fs := by
    have := fileC_ofF hC2
    rw [prF_toF, hlt] at this
    exact this
  have hld := load_any 16777216 A2 c2 fs w2 hC2' Y0.out
  rw [hlt]
  have B2 := Lib.hid b2
  clear htw hS2 hb2 hC2 hC2' b2 B1 hl2 hlt
  go_wp2_with fail
  go_at_call 8
  refine hld.mono ?_
  clear hld
  rintro e w3 (⟨hne, rfl, hb3⟩ | ⟨h0, d, S, rfl, hL, hD, hb3⟩)
  · have b3 : Below w.heap.size w w3 := B2.out.trans (hb3.mono B2.out.size)
    have hrl := rload_any 16777216 A c fs w3 (Kd.C_below Z0.out b3) hc0 (by omega) (fun p hp => (Y0.out p hp).2.1)
    have hn0 : ((ldC [] fs).1 != 0) = true := by simpa using hne
    have B3 := Lib.hid b3
    clear hb3 b3 B2 hne
    go_wp2_with (go_at_call 9; refine hrl.mono ?_; rintro e w4 ⟨a0, n0, c0, a1, n1, c1, a2, n2, c2, a4, n4, c4, r4, r6, r7, rfl, hb4, hx⟩; clear hx)
    go_ret
    exact ⟨rfl, (B3.out.trans (hb4.mono B3.out.size)).alloc (Nat.le_trans B3.out.size hb4.size) _⟩
  · have hff : ∀ {wx}, Turn (fun k => w2.heap.size ≤ k) w2 wx → Fresh (fun k => w2.heap.size ≤ k) wx := fun t k hk => Nat.le_trans t.size hk
    have hbw : ∀ wx, Turn (fun k => w2.heap.size ≤ k) w2 wx → Below w.heap.size w wx := fun wx t => B2.out.trans (t.below (fun k hk => Nat.le_trans B2.out.size hk) B2.out.size)
    have hR := hL.run hD.now1
    have t3 : Turn (fun k => w2.heap.size ≤ k) w2 w3 := Turn.of_below hb3
    have HR := Lib.hid hR; have HD := Lib.hid hD; have T3 := Lib.hid t3; have HBW := Lib.hid hbw
    clear hb3 hL hR hD t3 hbw
    go_wp2_with fail
    go_loopw [14, 46] (fun _ s46 wr => ∃ i : Nat, i ≤ os.length ∧ s46 = .int .i64 i ∧ RunAt w2 w2 d i wr) (fun _ s46 _ => os.length - (intOf s46).toNat)
    case atStart => exact ⟨0, Nat.zero_le _, rfl, S, HR.out, HD.out, T3.out⟩
    case round =>
      obtain ⟨i, hi, rfl, S1, hR1, hD1, t1⟩ := hrel
      have b1 := HBW.out _ t1
      have hF1 : Fresh (fun k => w2.heap.size ≤ k) wr := hff t1
      have HR1 := Lib.hid hR1; have HD1 := Lib.hid hD1; have T1 := Lib.hid t1; have BW1 := Lib.hid b1; have F1 := Lib.hid hF1
      clear hR1 hD1 t1 b1 hF1 HR HD T3
      by_cases hlt : i < os.length
      · have hCr := Kd.C_below ZO.out BW1.out
        obtain ⟨ad, rfl, hcells⟩ := hCr.2.2 (by omega)
        have hsp := row_spot' hCr (by omega) (by decide)
        clear hCr
        obtain ⟨cs, hcs, hK, hcell⟩ := hcells i _ (List.getElem?_eq_getElem hlt)
        have hok := YO.out _ (List.getElem_mem hlt)
        generalize os[i] = o at hK hok
        obtain ⟨Ad, cd, A6, n6, c6, A7, n7, c7, rfl, hcd, hCd⟩ := op_cells hK
        obtain ⟨b, off, sp⟩ := ad
        simp only at hsp
        subst hsp
        have hq : ∀ (j : Nat) (u : Value), [Value.int .i64 o.1, .string o.2.1, .string o.2.2.1, .int .i64 o.2.2.2.1, .int .i64 o.2.2.2.2.1, .slice Ad o.2.2.2.2.2.1.length cd, .slice A6 n6 c6, .slice A7 n7 c7][j]? = some u → wr.cell? ⟨b, off + (i * 8 + j), none⟩ = some u := by
          intro j u hu
          have h := hcell j u hu
          rw [addr_add] at h
          exact h
        have r0 := hq 0 _ rfl
        have r1 := hq 1 _ rfl
        have r2 := hq 2 _ rfl
        have r3 := hq 3 _ rfl
        have r4 := hq 4 _ rfl
        have r5 := hq 5 _ rfl
        have r6 := hq 6 _ rfl
        have r7 := hq 7 _ rfl
        simp only [Nat.add_zero, ← Nat.add_assoc] at r0 r1 r2 r3 r4 r5 r6 r7
        obtain ⟨hs1, ht1, hb1, hl1⟩ := hok
        clear hcell hcells hcs hK hq
        obtain ⟨wa, hwa⟩ : ∃ wa, wa = wr.alloc (.cells #[.int .i64 o.1, .string o.2.1, .string o.2.2.1, .int .i64 o.2.2.2.1, .int .i64 o.2.2.2.2.1, .slice Ad o.2.2.2.2.2.1.length cd, .slice A6 n6 c6, .slice A7 n7 c7] 62) := ⟨_, rfl⟩
        have hba : Below wr.heap.size wr wa := by rw [hwa]; exact (Below.refl _ _).alloc (Nat.le_refl _) _
        have hblk : wa.heap[wr.heap.size]? = some (.cells #[.int .i64 o.1, .string o.2.1, .string o.2.2.1, .int .i64 o.2.2.2.1, .int .i64 o.2.2.2.2.1, .slice Ad o.2.2.2.2.2.1.length cd, .slice A6 n6 c6, .slice A7 n7 c7] 62 (0, 0)) := by rw [hwa]; exact heap_alloc_new wr _
        obtain ⟨e0, e1, e2, e3, e4, e5, e6, e7⟩ := eight_cells hblk
        have hDa := HD1.out.below hba
        have ta : Turn (fun k => w2.heap.size ≤ k) w2 wa := T1.out.trans (Turn.of_below hba)
        have hst := lstep_any d S1 ⟨o.1, o.2.1, o.2.2.1, o.2.2.2.2.2.1⟩ o.2.2.2.1 o.2.2.2.2.1 Ad cd A6 A7 n6 c6 n7 c7 wa hDa (F1.out.step hba.size) (Kd.C_below hCd hba) hcd hb1 (by show o.2.2.2.2.2.1.length ≤ _; omega) hs1 ht1 (good_name HR1.out.good _) (by rw [fate_none HR1.out.calm.plan]; decide) (by have := HR1.out.steps; omega) (by rw [HR1.out.calm.plan]; simp) (by have := HR1.out.chg; omega)
        have HDA := Lib.hid hDa; have TA := Lib.hid ta
        clear hCd hblk hDa ta
        go_upto_region 10 with fail
        simp only [← hwa]
        clear hwa
        by_cases hin : 1 ≤ o.1 ∧ o.1 ≤ 6
        · obtain ⟨g1, g2⟩ := hin
          have u1 : decide ((1 : Int) ≤ o.1) = true := by simpa using g1
          have u2 : decide (o.1 ≤ 6) = true := by simpa using g2
          go_wp2_with (go_at_call 25; refine hst.mono ?_; rintro e w5 ⟨x5, S5, rfl, hS5, hD5, ht5⟩)
          obtain ⟨_, ho5⟩ := said_plain HR1.out.calm.plan HR1.out.calm.off hS5
          exact ⟨⟨i + 1, by omega, by go_num, S5, HR1.out.step ho5 hD5.now1, hD5, TA.out.trans ht5⟩, by simp [intOf]; omega⟩
        · clear hst
          have hor : o.1 < 1 ∨ 6 < o.1 := by omega
          rcases hor with hor | hor
          · have u1 : decide ((1 : Int) ≤ o.1) = false := by simp; omega
            go_wp2
            exact ⟨⟨i + 1, by omega, by go_num, S1, HR1.out.mono (Nat.le_succ _), HDA.out, TA.out⟩, by simp [intOf]; omega⟩
          · have u1 : decide ((1 : Int) ≤ o.1) = true := by simp; omega
            have u2 : decide (o.1 ≤ 6) = false := by simp; omega
            go_wp2
            exact ⟨⟨i + 1, by omega, by go_num, S1, HR1.out.mono (Nat.le_succ _), HDA.out, TA.out⟩, by simp [intOf]; omega⟩
      · obtain rfl : i = os.length := by omega
        have hon := on_any d S1 Ak ck ks wr HD1.out F1.out (Kd.C_below ZK.out BW1.out) hck (by have := HR1.out.chg; omega) (by have := HR1.out.short 0; simpa using this) (HR1.out.left ks)
        go_wp2_with fail
        go_at_call 26
        refine hon.mono ?_
        rintro e w4 ⟨rfl, ⟨S4, hwo4, hD4⟩, ht4⟩
        have t4 := T1.out.trans ht4
        generalize S1.leftCont ks = x at hwo4
        have hcs := cont_short hD4
        have hcl : x.length ≤ 400 := by rw [← hwo4.cont]; simp only [cont, List.length_map]; exact hD4.now1
        rw [hwo4.cont] at hcs
        have hfl4 := filesOf_any d S4 w4 hD4
        rw [hwo4.cont] at hfl4
        have hst4 := fun w5 (hb : Below w4.heap.size w4 w5) => steps_any d S4 w5 (hD4.below hb)
        obtain ⟨hl1, hl2⟩ := left_all hwo4.chg hwo4.safe hwo4.saf hwo4.cont []
        obtain ⟨hl3, hl4⟩ := left_all hwo4.chg hwo4.safe hwo4.saf hwo4.cont as_
        have n4 := hD4.now1
        have F4 : Fresh (fun k => w2.heap.size ≤ k) w4 := hff t4
        have HD4 := Lib.hid hD4; have T4 := Lib.hid t4; have BW4 := Lib.hid (HBW.out _ t4); have HF4 := Lib.hid F4; have HCS := Lib.hid hcs
        have hsz4 := t4.size
        clear hon ht4 hD4 t4 HR1 HD1 T1 BW1 F1 F4 hcs
        go_upto_region 17 with (first
          | (go_at_call 17; refine hfl4.mono ?_; rintro e w5 ⟨B5, n5, c5, rfl, hB5, hb5⟩; have hD5 := HD4.out.skip hb5; have hF5 := HF4.out.skip hb5.size; have hsf := safe_any d S4 w5 hD5 hF5 (by rw [hwo4.chg]; decide) (by rw [hwo4.safe]; exact n4) (by rw [hl1]; exact n4); rw [hl2] at hsf; have b5 := BW4.out.trans (hb5.mono BW4.out.size); have hz5 := hb5.size)
          | (go_at_call 27; refine (hst4 _ hb5).mono ?_; rintro e w5s ⟨rfl, rfl⟩)
          | (go_at_call 18; refine hsf.mono ?_; rintro e w6 ⟨B6, n6, c6, rfl, hB6, hb6⟩; have hD6 := hD5.skip hb6; have hF6 := hF5.skip hb6.size; have b6 := b5.trans (hb6.mono b5.size); have hz6 := hb6.size; have hon2 := on_any d S4 Aa ca as_ w6 hD6 hF6 (Kd.C_below ZA.out b6) hca (by rw [hwo4.chg]; decide) (by rw [hwo4.safe]; exact n4) (by rw [hl3]; exact n4); rw [hl4] at hon2)
          | (go_at_call 26; refine hon2.mono ?_; rintro e w7 ⟨rfl, ⟨S7, hwo7, hD7⟩, ht7⟩))
        have b7 := b6.trans (ht7.below (fun k hk => by have := hk.1.1; have := B2.out.size; omega) b6.size)
        have hB57 := R_keep2 (Kd.R_below hB5 hb6) ht7 (fun k hk hlt ho => by have h1 := ho.2; have h2 := ho.1.2; omega)
        have hB67 := R_keep2 hB6 ht7 (fun k hk hlt ho => by have h1 := ho.2; omega)
        have hfl7 := filesOf_any d S7 w7 hD7
        rw [hwo7.cont] at hfl7
        have hst7 : ∀ w9, Below w7.heap.size w7 w9 → Calls Tryz.prog 27 #[.pointer (some ⟨d, 0, none⟩)] w9 fun e w' => e = .returned (.int .i64 S4.steps) ∧ w9 = w' := fun w9 hb => (steps_any d S7 w9 (hD7.below hb)).mono fun e w' ⟨he, hw⟩ => ⟨by rw [he, hwo7.steps], hw⟩
        have hlo7 : ∀ w9, Below w7.heap.size w7 w9 → Calls Tryz.prog 28 #[.pointer (some ⟨d, 0, none⟩)] w9 fun e w' => e = .returned (.int .i64 0) ∧ w9 = w' := fun w9 hb => (loose_any d S7 w9 (hD7.below hb)).mono fun e w' ⟨he, hw⟩ => ⟨by rw [he, hwo7.chg]; rfl, hw⟩
        have hpw7 := fun w9 (hb : Below w7.heap.size w7 w9) => power_any d S7 w9 (hD7.below hb)
        rw [hwo7.off] at hpw7
        clear hfl4 hsf hon2 hst4
        go_wp2_with (first
          | (go_at_call 17; refine hfl7.mono ?_; rintro e w8 ⟨B8, n8, c8, rfl, hB8, hb8⟩; have hal := files_alike B8 B5 n8 n5 c8 c5 x x w8 hB8 (Kd.R_below hB57 hb8) HCS.out hcl rfl)
          | (go_at_call 19; refine hal.mono ?_; clear hal; rintro e w9 ⟨rfl, hd9⟩; have hb9 := hb8.trans (hd9.below.mono hb8.size); have hal2 := files_alike B6 B5 n6 n5 c6 c5 x x w9 (Kd.R_below hB67 hb9) (Kd.R_below hB57 hb9) HCS.out hcl rfl)
          | (go_at_call 19; refine hal2.mono ?_; rintro e w10 ⟨rfl, hd10⟩; have hb10 := hb9.trans (hd10.below.mono hb9.size))
          | (go_at_call 27; refine (hst7 _ hb10).mono ?_; rintro e w11 ⟨rfl, rfl⟩)
          | (go_at_call 28; refine (hlo7 _ hb10).mono ?_; rintro e w12 ⟨rfl, rfl⟩)
          | (go_at_call 29; refine (hpw7 _ hb10).mono ?_; rintro e w13 ⟨rfl, rfl⟩))
        go_ret
        exact ⟨rfl, b7.trans (hb10.mono b7.size)⟩
end Go.Proofs.YtgcpiofpjogjcaaGreatDoor.PK
end
section
namespace Go.Proofs.YtgcpiofpjogjcaaGreatDoor
open Go.ChangeShapes Go.WideShapes Go.ChangeAt Go.RowKit Go.Proofs.YtgcpiofpjogjcaaGreatDoorW.PrintWords PK

namespace Twice
theorem own : ownKnob Tryz.prog.godebug = none := by kernel_rfl
theorem laidOut : laidOutB Tryz.prog = true := by kernel_rfl

set_option maxRecDepth 100000 in
theorem lifted (os : Os) (started : os.Started) (H : Type) (enc : TypeId × Value → H) :
    ReturnsInHanded {} Tryz.checked os 4 .any (fun w args => (Rows.diskTwiceSpec.pre enc Tryz.prog Tryz.f4 Rows.diskTwiceRow.domain false w args ∧ laidMetH Tryz.prog Rows.diskTwiceRow.laid w) ∧ sizedMet enc Tryz.prog Tryz.f4 (OpenSpec.ofChange Rows.diskTwiceSpec) false w args)
      (Rows.diskTwiceSpec.post enc Tryz.prog Tryz.f4 false true false false) := by
  refine returnsInHanded_of_change_and (C := Tryz.checked) (X := fun w _ => laidMetH Tryz.prog Rows.diskTwiceRow.laid w) (fun _ _ _ hh h => h.of_heap hh) own started (by kernel_rfl) Tryz.func4
    (ChangeSpec.witness_shaped (enc := enc) (C := Tryz.checked) (os := os) (X := fun w _ => laidMetH Tryz.prog Rows.diskTwiceRow.laid w) false (World.laidAll Tryz.prog os Rows.diskTwiceRow.laid) #[.slice none 0 0, .slice none 0 0, .slice none 0 0, .slice none 0 0] 8 (World.laidAll_os _ _ _)
      (World.shaped_of_ZipB (by kernel_rfl) (by kernel_rfl)) (by kernel_rfl) (by kernel_rfl) (by kernel_rfl)
      (by rw [MakeChecks.laidMetH_plain _ _ _ (by kernel_rfl)]; exact laidMet_laidAll _ (by kernel_rfl) (by kernel_rfl))) ?_
  intro W base args ds gs before hval0 hW hcnd hsz0 hL _
  have hsz : (DataW.weightsEach Tryz.prog (Tryz.f4.params.toList ++ Rows.diskTwiceSpec.plain.varTypes Tryz.prog) (ds ++ gs)).all (· ≤ reachBytes) = true := hsz0
  have hval : ∀ (j : Nat) t v, Tryz.f4.params[j]? = some t → args[j]? = some v → Value.okWide Tryz.prog W .any base t v := hval0
  have hW' := hW
  obtain ⟨p, q, hA0, hV, rfl, hfz, hnd⟩ := hW
  have hA : DataW.TrodAll enc Tryz.prog W 0 (fun _ => true) true Tryz.f4.params.toList args.toList ds p := hA0
  rw [Tryz.params4] at hA hval hsz
  obtain ⟨v0, v1, v2, v3, d0, d1, d2, d3, p0, p1, p2, p3, rfl, rfl, rfl, h0, h1, h2, h3⟩ := trodAll_four hA
  obtain ⟨rfl, rfl⟩ := trodVars_none hV
  obtain ⟨a0, len0, cap0, rfl⟩ := okWide_slice Tryz.underlying22 (hval 0 22 v0 rfl rfl)
  obtain ⟨a1, len1, cap1, rfl⟩ := okWide_slice Tryz.underlying59 (hval 1 59 v1 rfl rfl)
  obtain ⟨a2, len2, cap2, rfl⟩ := okWide_slice Tryz.underlying60 (hval 2 60 v2 rfl rfl)
  obtain ⟨a3, len3, cap3, rfl⟩ := okWide_slice Tryz.underlying60 (hval 3 60 v3 rfl rfl)
  have k0 := h0; have k1 := h1; have k2 := h2; have k3 := h3
  have lt0 : ∀ x ∈ p0, x.block < W.heap.size := by obtain ⟨m, hm⟩ := k0; exact DataW.trod_lt m _ _ _ hm
  have lt1 : ∀ x ∈ p1, x.block < W.heap.size := by obtain ⟨m, hm⟩ := k1; exact DataW.trod_lt m _ _ _ hm
  have lt2 : ∀ x ∈ p2, x.block < W.heap.size := by obtain ⟨m, hm⟩ := k2; exact DataW.trod_lt m _ _ _ hm
  have lt3 : ∀ x ∈ p3, x.block < W.heap.size := by obtain ⟨m, hm⟩ := k3; exact DataW.trod_lt m _ _ _ hm
  obtain ⟨fs, hK0, hF, hN⟩ := open_var opens_files hsz (j := 0) rfl rfl h0
  obtain ⟨rfl, c0, C0⟩ := slice_cells hK0
  obtain ⟨os1, hK1, hO, hM⟩ := open_var opens_ops hsz (j := 1) rfl rfl h1
  obtain ⟨rfl, c1, C1⟩ := slice_cells hK1
  obtain ⟨ks, hK2, _, _⟩ := open_var opens_ints hsz (j := 2) rfl rfl h2
  obtain ⟨rfl, c2, C2⟩ := slice_cells hK2
  obtain ⟨as1, hK3, _, _⟩ := open_var opens_ints hsz (j := 3) rfl rfl h3
  obtain ⟨rfl, c3, C3⟩ := slice_cells hK3
  clear hA0 hval0 hsz0 hsz
  refine (diskTwice_any a0 cap0 fs a1 cap1 os1 a2 cap2 ks a3 cap3 as1 W C0 c0 (by omega) (fun p hp => ⟨(hF p hp).1, by have := (hF p hp).2.2; omega, (hF p hp).2.1⟩) C1 (by omega) hO C2 c2 C3 c3).mono fun e W' ⟨he, bel⟩ => ?_
  subst he
  exact ⟨_, rfl, _, _, _, [], _, [], hW', trodAll_mk1 (shut_bool Tryz.underlying4 _), trodAll_mk4 (Below.trod laidOut (by kernel_rfl) (of_decide_eq_true (by kernel_rfl)) k0 bel lt0) (Below.trod laidOut (by kernel_rfl) (of_decide_eq_true (by kernel_rfl)) k1 bel lt1) (Below.trod laidOut (by kernel_rfl) (of_decide_eq_true (by kernel_rfl)) k2 bel lt2) (Below.trod laidOut (by kernel_rfl) (of_decide_eq_true (by kernel_rfl)) k3 bel lt3), rfl, bel.frame _, fun h => by cases h⟩
end Twice

theorem diskTwice_row : Rows.DiskTwiceSaid :=
  OpenClaim.holds_of_wide 4 Tryz.f4 rfl rfl rfl rfl rfl rfl rfl ⟨rfl, rfl, rfl, rfl, rfl⟩ rfl rfl rfl rfl rfl (by kernel_rfl) Tryz.func4 (by kernel_rfl)
    (of_decide_eq_true (by kernel_rfl)) (by unfold Func.isWrapper; first | (rw [if_pos (by decide +kernel)]; kernel_rfl) | (rw [if_neg (by decide +kernel)]; exact ⟨rfl, rfl⟩))
    (fun os started H enc _ => Twice.lifted os started H enc)

theorem diskTwice_holds : Rows.DiskTwiceCardSaid :=
  Claim7.holds_tied_plain_at .later [] [.data, .pinned] true (Rows.diskTwiceCard.stood.harness) true
    diskTwice_row (fun _ h => by cases h) (by kernel_rfl) (fun _ h => by cases h) diskTwice_row_tie rfl ⟨rfl, rfl⟩ (by kernel_rfl) rfl
    (fun f fn hf hfn => by
      obtain rfl : f = 4 := Option.some.inj ((show Tryz.prog.funcNamed "stoa/stoalaw14.DiskTwice" = some 4 by kernel_rfl).symm.trans hf) |>.symm
      obtain rfl : fn = Tryz.f4 := (Option.some.inj (Tryz.func4.symm.trans hfn)).symm
      exact ⟨by kernel_rfl, fun j t ht => by
        rw [Tryz.params4] at ht
        have hm : t ∈ [22, 59, 60, 60] := by simpa using Array.mem_of_getElem? ht
        have hall : ([22, 59, 60, 60].all fun u => !Tryz.prog.wantsStandIn u) = true := by kernel_rfl
        exact (show Tryz.prog.wantsStandIn t = false by simpa using List.all_eq_true.1 hall t hm)⟩)
    (by kernel_rfl)
#print axioms diskTwice_holds
end Go.Proofs.YtgcpiofpjogjcaaGreatDoor
end
