/-
  Names, walked: badName, refuse.
-/
import Derived.Test.YtgcpiofpjogjcaaGreatDoorDe
namespace Go.Proofs.YtgcpiofpjogjcaaGreatDoor.PK
open Go.RowKit Go.Maps Go.Proofs.YtgcpiofpjogjcaaGreatDoorW.PrintWords
set_option linter.unusedVariables false
set_option linter.unusedSimpArgs false
variable {own : Nat → Prop} {w w' : World}

/-- The bytes that a name may have. -/
def cutB : ByteArray := ⟨#[97, 98, 99, 100, 101, 102, 103, 104, 105, 106, 107, 108, 109, 110, 111, 112, 113, 114, 115, 116, 117, 118, 119, 120, 121, 122, 48, 49, 50, 51, 52, 53, 54, 55, 56, 57, 46, 95, 45]⟩
theorem cut_ascii : ∀ (j : Nat) b, cutB.data.toList[j]? = some b → b.toNat < 128 := ascii_of_all (by decide +kernel)
def trimmed (s : ByteArray) : ByteArray := ⟨(Lib.trimS s.data.toList cutB.data.toList).toArray⟩
/-- No file's name. -/
def bad (s : ByteArray) : Bool := decide (s = ⟨#[]⟩) || (decide (40 < s.size) || decide (trimmed s ≠ ⟨#[]⟩))

set_option maxRecDepth 100000 in
theorem badName_any (s : ByteArray) (w : World) (hs : s.size ≤ 9223372036854775807) :
    Calls Tryz.prog 67 #[.string s] w fun e w' => e = .returned (.bool (bad s)) ∧ Below w.heap.size w w' := by
  have ht := Tryz.strings_Trim s cutB w hs (by decide +kernel) cut_ascii
  rw [show (⟨(Lib.trimS s.data.toList cutB.data.toList).toArray⟩ : ByteArray) = trimmed s from rfl] at ht
  by_cases h0 : s = ⟨#[]⟩
  · subst h0
    go_enter Tryz.func67, Tryz.ntmps67
    go_wp2
    go_ret
    exact ⟨by simp [bad], Below.refl _ _⟩
  · have e0 := notEmpty h0
    by_cases h1 : 40 < s.size
    · have hb : bad s = true := by simp [bad, h1]
      rw [hb]
      go_enter Tryz.func67, Tryz.ntmps67
      go_wp2
      go_ret
      exact ⟨rfl, Below.refl _ _⟩
    · by_cases h2 : trimmed s = ⟨#[]⟩
      · have hb : bad s = false := by simp [bad, h0, h1, h2]
        rw [hb]
        rw [h2] at ht
        unfold cutB at ht
        go_enter Tryz.func67, Tryz.ntmps67
        go_wp2_with (go_at_call 81; refine ht.mono ?_; rintro e w1 ⟨rfl, hw⟩)
        go_ret
        exact ⟨by simp; omega, hw⟩
      · have hb : bad s = true := by simp [bad, h2]
        rw [hb]
        have e2 := notEmpty h2
        unfold cutB at ht
        go_enter Tryz.func67, Tryz.ntmps67
        go_wp2_with (go_at_call 81; refine ht.mono ?_; rintro e w1 ⟨rfl, hw⟩)
        go_ret
        exact ⟨rfl, hw⟩

/-- Why a file can't be made. -/
def Dk.refuse (S : Dk) (s : ByteArray) : Int := if bad s then 145 else if look S.now (key s) ≠ none then 144 else if 400 ≤ S.now.length then 142 else 0
theorem bool_eq_of {a b : Bool} (h : a = b) : a = b := h
set_option maxRecDepth 100000 in
theorem refuse_any (d : Nat) (S : Dk) (s : ByteArray) (w : World) (h : DiskAt w own d S) (hs : s.size ≤ 9223372036854775807) :
    Calls Tryz.prog 37 #[.pointer (some ⟨d, 0, none⟩), .string s] w fun e w' => e = .returned (.int .i64 (S.refuse s)) ∧ Below w.heap.size w w' := by
  obtain ⟨bn, bs, pc, cc, pp, cp, pd, cd, h⟩ := h
  have ht := badName_any s w hs
  unfold Dk.refuse
  cases hb : bad s
  · rw [hb] at ht
    rw [if_neg (by simp)]
    have hl : ∀ w1, Below w.heap.size w w1 → DirAt w1 bn S.now.length S.now ∧ w1.cell? ⟨d, 1, none⟩ = some (.map (some bn)) := fun w1 hw => ⟨h.now.kept (hw.block _ h.now.lt), (hw.cell (p := ⟨d, 1, none⟩) (lt_of_block h.blk)).trans (seven_cells h.blk).2.1⟩
    clear h
    cases hf : look S.now (key s) with
    | some f =>
      rw [if_pos (by simp)]
      go_enter Tryz.func37, Tryz.ntmps37
      go_wp2_with (first
        | (go_at_call 67; refine ht.mono ?_; rintro e w1 ⟨rfl, hw⟩; obtain ⟨hn1, c1⟩ := hl w1 hw)
        | (at_lookup; refine wpList_lookup_dir _ rfl _ _ rfl bn _ S.now rfl hn1 s rfl hs ?_; rw [show look S.now s.data.toList = _ from hf]; simp only [fileV]))
      go_ret
      exact ⟨rfl, hw⟩
    | none =>
      rw [if_neg (by simp)]
      by_cases hn : 400 ≤ S.now.length
      · rw [if_pos hn]
        go_enter Tryz.func37, Tryz.ntmps37
        go_wp2_with (first
          | (go_at_call 67; refine ht.mono ?_; rintro e w1 ⟨rfl, hw⟩; obtain ⟨hn1, c1⟩ := hl w1 hw)
          | (at_lookup; refine wpList_lookup_dir _ rfl _ _ rfl bn _ S.now rfl hn1 s rfl hs ?_; rw [show look S.now s.data.toList = _ from hf]; simp only [fileV])
          | (at_len; refine wpList_len_own _ rfl _ 79 rfl 9 75 Tryz.underlying79 fileElem bn _ _ rfl hn1 ?_; rw [dmap_size]))
        go_ret
        exact ⟨rfl, hw⟩
      · rw [if_neg hn]
        go_enter Tryz.func37, Tryz.ntmps37
        go_wp2_with (first
          | (go_at_call 67; refine ht.mono ?_; rintro e w1 ⟨rfl, hw⟩; obtain ⟨hn1, c1⟩ := hl w1 hw)
          | (at_lookup; refine wpList_lookup_dir _ rfl _ _ rfl bn _ S.now rfl hn1 s rfl hs ?_; rw [show look S.now s.data.toList = _ from hf]; simp only [fileV])
          | (at_len; refine wpList_len_own _ rfl _ 79 rfl 9 75 Tryz.underlying79 fileElem bn _ _ rfl hn1 ?_; rw [dmap_size]))
        go_ret
        exact ⟨rfl, hw⟩
  · rw [hb] at ht
    rw [if_pos rfl]
    go_enter Tryz.func37, Tryz.ntmps37
    go_wp2_with (go_at_call 67; refine ht.mono ?_; rintro e w1 ⟨rfl, hw⟩)
    go_ret
    exact ⟨rfl, hw⟩
end Go.Proofs.YtgcpiofpjogjcaaGreatDoor.PK
