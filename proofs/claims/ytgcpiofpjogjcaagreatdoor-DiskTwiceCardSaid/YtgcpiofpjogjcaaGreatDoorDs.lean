/-
  A directory's names in order; a copy of bytes; what is kept of a file: walked.
-/
import Derived.Test.YtgcpiofpjogjcaaGreatDoorDo
import Derived.Test.YtgcpiofpjogjcaaGreatDoorDr
import Derived.Sort.KeysCollected
namespace Go.Proofs.YtgcpiofpjogjcaaGreatDoor.PK
open Go.RowKit Go.Maps Go.Sort Go.Proofs.YtgcpiofpjogjcaaGreatDoorW.PrintWords
set_option linter.unusedVariables false
set_option linter.unusedSimpArgs false
variable {own : Nat → Prop} {w w' : World}

theorem bb_lt : ∀ {a b : List UInt8}, bytesBefore a b = true → a < b
  | [], [], h => by simp [bytesBefore] at h
  | [], _ :: _, _ => List.nil_lt_cons _ _
  | _ :: _, [], h => by simp [bytesBefore] at h
  | a :: r, b :: s, h => by
    simp only [bytesBefore, Bool.or_eq_true, decide_eq_true_eq, Bool.and_eq_true, beq_iff_eq] at h
    rw [List.cons_lt_cons_iff]
    rcases h with h | ⟨h1, h2⟩
    · exact .inl h
    · exact .inr ⟨h1, bb_lt h2⟩
theorem names_sorted {l : Dir} (h : Srt l) : (l.map (·.1)).Pairwise (fun a b => leB a b = true) := by
  refine List.pairwise_map.2 (h.imp (fun {a b} hab => ?_))
  simp only [leB, decide_eq_true_eq]
  exact List.le_of_lt (bb_lt hab)
theorem strKeys_dmap (l : Dir) : strKeys (dmap l) = l.map (·.1) := by
  unfold strKeys dmap
  simp only [List.map_map]
  rfl
theorem keys_any (b : Nat) (w : World) : Calls Tryz.prog 85 #[.map (some b)] w fun e w' => e = .returned (.func (.func 95) #[] #[.pointer (some ⟨w.heap.size, 0, none⟩)]) ∧ w' = w.alloc (.cells #[.map (some b)] 79) :=
  callsIn_wide.1 (Tryz.maps_Keys_85 (some b) w)
theorem sorted_any (b n : Nat) (l : Dir) (w : World) (h : DirAt w b n l) (hl : l.length ≤ 1099511627776) :
    Calls Tryz.prog 84 #[.func (.func 95) #[] #[.pointer (some ⟨w.heap.size, 0, none⟩)]] (w.alloc (.cells #[.map (some b)] 79)) fun e w' => ∃ v : Value, e = .returned v ∧
      w'.ownsRow (w.heap.size + 1) 9 1 v l.length (l.map fun p => encStr p.1) ∧ Below (w.heap.size + 1) (w.alloc (.cells #[.map (some b)] 79)) w' := by
  refine (callsIn_wide.1 (Tryz.slices_Sorted_keys_84_85 b n (dmap l) _ w h (by rw [dmap_size]; unfold maxLen; omega) (by rw [dmap_size]; omega))).mono ?_
  rintro e w' ⟨v, ts, rfl, h1, h2, h3, h4⟩
  have e1 : (w.alloc (.cells #[.map (some b)] 79)).heap.size = w.heap.size + 1 := by simp
  rw [strKeys_dmap] at h1
  have h6 : ts.mergeSort (fun x y => decide (x ≤ y)) = l.map (·.1) := by
    rw [mergeSort_of_perm h1]
    exact List.mergeSort_of_pairwise (names_sorted h.sorted)
  have h7 : ts.length = l.length := by rw [h1.length_eq, List.length_map]
  rw [e1] at h2 h4
  rw [h6, h7, List.map_map] at h2
  exact ⟨v, rfl, h2, h4⟩

def NamesMade (l : Dir) (w : World) (e : Ending) (w' : World) : Prop := ∃ v, e = .returned v ∧ w'.ownsRow w.heap.size 9 1 v l.length (l.map fun p => encStr p.1) ∧ Below w.heap.size w w'
set_option maxRecDepth 100000 in
theorem names_any (b n : Nat) (l : Dir) (w : World) (h : DirAt w b n l) (hl : l.length ≤ 1099511627776) :
    Calls Tryz.prog 76 #[.map (some b)] w (NamesMade l w) := by
  have hk := keys_any b w
  have hs := sorted_any b n l w h hl
  go_enter Tryz.func76, Tryz.ntmps76
  go_wp2_with (first
    | (go_at_call 85; refine hk.mono ?_; rintro e w1 ⟨rfl, rfl⟩)
    | (go_at_call 84; refine hs.mono ?_; rintro e w2 ⟨v, rfl, ho, hb⟩))
  go_ret
  exact ⟨v, rfl, own_weaken ho (by omega), ((Below.refl _ _).alloc (Nat.le_refl _) _).trans (hb.mono (by omega))⟩

theorem bclone_any (A : Option Addr) (c : Nat) (xs : List Int) (w : World) (h : Kd.C (Kd.int .u8) w A xs.length xs) (hl : xs.length ≤ 140737488355328) :
    Calls Tryz.prog 38 #[.slice A xs.length c] w fun e w' => ∃ A' c', e = .returned (.slice A' xs.length c') ∧ w'.ownsRow w.heap.size 5 1 (.slice A' xs.length c') xs.length (nums .u8 xs) ∧ Below w.heap.size w w' := by
  rcases A with _ | ad
  · have h0 : xs = [] := by
      rcases Nat.eq_zero_or_pos xs.length with h0 | h0
      · exact List.eq_nil_of_length_eq_zero h0
      · obtain ⟨ad, h, _⟩ := h.2.2 h0; cases h
    subst h0
    refine (Tryz.bytes_Clone_nil 0 c w).mono ?_
    rintro e w' ⟨rfl, rfl⟩
    exact ⟨none, 0, rfl, own_nil _ _ _ _, Below.refl _ _⟩
  · refine (Tryz.bytes_Clone_at ad xs.length c xs w rfl hl (fun i hi => ?_)).mono ?_
    · obtain ⟨ad', e, hc⟩ := (Kd.reads_of_C (d := (0 : Int)) h).2.2 (by omega)
      injection e with e
      subst e
      exact hc i hi
    · rintro e w' ⟨v', rfl, ho, _, hb⟩
      obtain ⟨A', c', rfl⟩ := own_slice ho
      exact ⟨A', c', rfl, ho, hb⟩

set_option maxRecDepth 100000 in
theorem left1_any (i : Int) (kb : Nat) (A : Option Addr) (c : Nat) (ks : List Int) (w : World) (h0 : 0 ≤ i) (hk : w.cell? ⟨kb, 0, none⟩ = some (.slice A ks.length c)) (hC : Kd.C (Kd.int .i64) w A ks.length ks) (hc : ks.length ≤ c) :
    Calls Tryz.prog 77 #[.int .i64 i, .pointer (some ⟨kb, 0, none⟩)] w fun e w' => e = .returned (.int .i64 (keepN ks i.toNat : Nat)) ∧ w = w' := by
  have hl := hC.2.1
  by_cases hi : i < ks.length
  · obtain ⟨ad, rfl, hcell⟩ := (Kd.reads_of_C (d := (0 : Int)) hC).2.2 (by omega)
    have hx := hcell i.toNat (by omega)
    have hv : (keepN ks i.toNat : Int) = max (ks.getD i.toNat 0) 0 := by unfold keepN; omega
    rw [hv]
    generalize ks.getD i.toNat 0 = z at hx
    clear hC hcell hv
    go_enter Tryz.func77, Tryz.ntmps77
    go_wp2
    go_ret
    exact ⟨rfl, rfl⟩
  · have hv : (keepN ks i.toNat : Int) = 0 := by
      unfold keepN
      rw [List.getD_eq_getElem?_getD, List.getElem?_eq_none (by omega)]
      rfl
    rw [hv]
    clear hC hv
    go_enter Tryz.func77, Tryz.ntmps77
    go_wp2
    go_ret
    exact ⟨rfl, rfl⟩
end Go.Proofs.YtgcpiofpjogjcaaGreatDoor.PK
