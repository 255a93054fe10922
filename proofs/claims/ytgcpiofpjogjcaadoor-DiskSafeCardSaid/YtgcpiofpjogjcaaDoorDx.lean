/-
  The document's example, walked: begun, alive.
-/
import Derived.Test.YtgcpiofpjogjcaaDoorDwo
import Derived.Test.YtgcpiofpjogjcaaDoorDv
import Derived.Lib.SlBytesConst
namespace Go.Proofs.YtgcpiofpjogjcaaDoor.PK
open Go.RowKit Go.Maps Go.Sort Go.Proofs.YtgcpiofpjogjcaaDoorW.PrintWords
set_option linter.unusedVariables false
set_option linter.unusedSimpArgs false
variable {own : Nat → Prop} {w w' : World}

theorem C_row {k : IntKind} {w : World} {b : Nat} {xs : List Int} {cs : Array Value} {t : TypeId} {m : Nat × Nat} (h : w.heap[b]? = some (.cells cs t m)) (hc : ∀ i, i < xs.length → cs[i]? = some (.int k (xs.getD i 0))) (hl : xs.length ≤ 1000000) : Kd.C (Kd.int k) w (some ⟨b, 0, none⟩) xs.length xs := by
  refine Kd.C_of_reads (d := (0 : Int)) ⟨rfl, by omega, fun _ => ⟨_, rfl, fun j hj => ?_⟩⟩
  have : (⟨b, 0, none⟩ : Addr).add j = ⟨b, j, none⟩ := by unfold Addr.add; split <;> simp_all
  rw [this]
  simp only [World.cell?, h]
  exact hc j hj
theorem C_row_u8 {w : World} (xs : List Int) {cs : Array Value} {t : TypeId} {m : Nat × Nat} (hc : cs = (xs.map (Value.int .u8)).toArray) (hl : xs.length ≤ 1000000) : Kd.C (Kd.int .u8) (w.alloc (.cells cs t m)) (some ⟨w.heap.size, 0, none⟩) xs.length xs :=
  C_row (heap_alloc_new w _) (fun i hi => by subst hc; simp [List.getD_eq_getElem?_getD, List.getElem?_eq_getElem hi]) hl
theorem C_row_i64 {w : World} (xs : List Int) {cs : Array Value} {t : TypeId} {m : Nat × Nat} (hc : cs = (xs.map (Value.int .i64)).toArray) (hl : xs.length ≤ 1000000) : Kd.C (Kd.int .i64) (w.alloc (.cells cs t m)) (some ⟨w.heap.size, 0, none⟩) xs.length xs :=
  C_row (heap_alloc_new w _) (fun i hi => by subst hc; simp [List.getD_eq_getElem?_getD, List.getElem?_eq_getElem hi]) hl
theorem DiskAt.alloc {d : Nat} {S : Dk} (h : DiskAt w own d S) (o : Obj) : DiskAt (w.alloc o) own d S := h.below ((Below.refl _ _).alloc (Nat.le_refl _) _)
theorem away {w : World} {d : Nat} (h : d < w.heap.size) : ∀ a : Addr, some (⟨w.heap.size, 0, none⟩ : Addr) = some a → a.block ≠ d := fun a ha => by injection ha with ha; subst ha; simp only; omega
theorem DiskAt.lt {d : Nat} {S : Dk} (h : DiskAt w own d S) : d < w.heap.size := h.flag.2.2
theorem new_calm (room : Int) : (Dk.new room).calm := ⟨rfl, rfl⟩

def Begun (w : World) (e : Ending) (w' : World) : Prop := ∃ d S g, e = .returned (.pointer (some ⟨d, 0, none⟩)) ∧ One S 10 5 [97] g [120, 121, 122, 117] 4 [([97], g)] [] ∧ DiskAt w' (fun k => w.heap.size ≤ k) d S ∧ Turn (fun k => w.heap.size ≤ k) w w'
set_option maxRecDepth 100000 in
set_option maxHeartbeats 3200000 in
theorem begun_any (w : World) : Calls Tryd.prog 22 #[] w (Begun w) := by
  have hfr : Fresh (fun k => w.heap.size ≤ k) w := fun k hk => hk
  have HF := Lib.hid hfr
  have hnew := new_any (own := fun k => w.heap.size ≤ k) 10 w hfr
  clear hfr
  have hk : ∀ (W : World) (C : Array Value) (n c k : Nat), W.heap.size = k → (convert 22 22 (.slice (some ⟨k, 0, none⟩) n c)).run Tryd.prog (W.alloc (.cells C 5)) = .ok (.slice (some ⟨k, 0, none⟩) n c) (W.alloc (.cells C 5 (C.size, C.size + 1))) := by
    rintro W C n c k rfl
    exact Lib.run_convert_bytes_const (P := Tryd.prog) W 22 5 C n c Tryd.underlying22 Tryd.underlying5
  go_enter Tryd.func22, Tryd.ntmps22
  go_wp2_with fail
  go_at_call 6
  refine hnew.mono ?_
  rintro e w1 ⟨d, hd, rfl, hD1, hb1⟩
  have t1 : Turn (fun k => w.heap.size ≤ k) w w1 := Turn.of_below hb1
  clear hnew
  go_wp2_with fail
  go_at_call 7
  refine (create_plain d _ ⟨#[97]⟩ w1 hD1 (HF.out.step t1.size) (new_calm 10) (by decide) (by decide) (by decide)).mono ?_
  rintro e w2 ⟨rfl, ⟨S2, hc2, hD2⟩, ht2⟩
  have t2 := t1.trans ht2
  obtain ⟨f, hO2⟩ := One.created (new_calm 10) rfl (by decide) (by decide +kernel) hc2
  have H2 : One S2 10 1 [97] f [] 0 [] [⟨⟨#[]⟩, ⟨#[97]⟩, some f⟩] := hO2
  have H2 := Lib.hid H2
  clear hO2 hc2 hD1 ht2
  have l2 := hD2.lt
  go_wp2_with fail
  go_at_call 8
  refine (append_one (bs := [120, 121, 122]) (hD2.below ((Below.refl _ _).alloc (Nat.le_refl _) _)) (HF.out.step (by have := t2.size; simp; omega)) H2.out (by rfl) (by decide) (C_row_u8 [120, 121, 122] rfl (by decide)) (by decide) (away l2) (by decide) (by decide)).mono ?_
  rintro e w3 ⟨rfl, ⟨S3, hO3, hD3⟩, ht3⟩
  have t3 := (t2.trans (Turn.alloc _)).trans ht3
  have H3 : One S3 10 2 [97] f [120, 121, 122] 0 [] [⟨⟨#[]⟩, ⟨#[97]⟩, some f⟩] := hO3
  have H3 := Lib.hid H3
  clear hO3 ht3 hD2 H2
  go_wp2_with fail
  go_at_call 10
  refine (sync_one hD3 (HF.out.step t3.size) H3.out (by rfl) (by decide) (by decide)).mono ?_
  rintro e w4 ⟨rfl, ⟨S4, hO4, hD4⟩, ht4⟩
  have t4 := t3.trans ht4
  have H4 : One S4 10 3 [97] f [120, 121, 122] 3 [] [⟨⟨#[]⟩, ⟨#[97]⟩, some f⟩] := hO4
  have H4 := Lib.hid H4
  clear hO4 ht4 hD3 H3
  go_wp2_with fail
  go_at_call 11
  refine (syncDir_one hD4 (HF.out.step t4.size) H4.out (by decide)).mono ?_
  rintro e w5 ⟨rfl, ⟨S5, hO5, hD5⟩, ht5⟩
  have t5 := t4.trans ht5
  have H5 : One S5 10 4 [97] f [120, 121, 122] 3 [([97], f)] [] := hO5
  have H5 := Lib.hid H5
  clear hO5 ht5 hD4 H4
  have l5 := hD5.lt
  go_wp2_with fail
  go_at_call 8
  refine (append_one (bs := [117, 118]) (hD5.below ((Below.refl _ _).alloc (Nat.le_refl _) _)) (HF.out.step (by have := t5.size; simp; omega)) H5.out (by rfl) (by decide) (C_row_u8 [117, 118] rfl (by decide)) (by decide) (away l5) (by decide) (by decide)).mono ?_
  rintro e w6 ⟨rfl, ⟨S6, hO6, hD6⟩, ht6⟩
  have t6 := (t5.trans (Turn.alloc _)).trans ht6
  have H6 : One S6 10 5 [97] f [120, 121, 122, 117, 118] 3 [([97], f)] [] := hO6
  have H6 := Lib.hid H6
  clear hO6 ht6 hD5 H5
  go_wp2_with fail
  go_at_call 12
  refine (on_one (ks := [0, 1]) (hD6.below ((Below.refl _ _).alloc (Nat.le_refl _) _)) (HF.out.step (by have := t6.size; simp; omega)) H6.out.calm.plan (C_row_i64 [0, 1] rfl (by decide)) (by decide) (by rw [H6.out.chg]; decide) (by rw [H6.out.safe]; simp) (show S6.leftDir [0, 1] = [([97], f)] from (by unfold Dk.leftDir; rw [H6.out.chg, H6.out.safe]; rfl))).mono ?_
  rintro e w7 ⟨rfl, ⟨S7, ⟨g, hO7⟩, hD7⟩, ht7⟩
  have t7 := (t6.trans (Turn.alloc _)).trans ht7
  have e1 : (S6.dat f).take (S6.leftLen [0, 1] 0 f) = [120, 121, 122, 117] := by unfold Dk.leftLen; rw [H6.out.dat, H6.out.saf]; rfl
  rw [e1, H6.out.room, H6.out.steps, hO7.now] at hO7
  have H7 : One S7 10 5 [97] g [120, 121, 122, 117] 4 [([97], g)] [] := hO7
  have H7 := Lib.hid H7
  clear hO7 ht7 hD6 H6 e1
  go_wp2_with fail
  go_ret
  exact ⟨d, S7, g, rfl, H7.out, hD7, t7⟩
end Go.Proofs.YtgcpiofpjogjcaaDoor.PK
