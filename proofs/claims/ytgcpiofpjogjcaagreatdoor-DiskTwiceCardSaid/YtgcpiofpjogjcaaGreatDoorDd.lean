/-
  A directory's changes, walked: apply.
-/
import Derived.Test.YtgcpiofpjogjcaaGreatDoorDc
import Derived.Lib.TrimAscii
namespace Go.Proofs.YtgcpiofpjogjcaaGreatDoor.PK
open Go.RowKit Go.Maps Go.Proofs.YtgcpiofpjogjcaaGreatDoorW.PrintWords
set_option linter.unusedVariables false
set_option linter.unusedSimpArgs false
variable {own : Nat → Prop}

theorem DirAt.of_del {w : World} {b n : Nat} {l : Dir} {k : List UInt8} (h : w.ownsMap Tryz.prog 9 fileElem b n ((dmap l).del (.string k))) : DirAt w b n (del l k) := by
  rw [dmap_del] at h; exact h
theorem DirAt.of_put {w : World} {b n : Nat} {l : Dir} {k : List UInt8} {f : Nat} (h : w.ownsMap Tryz.prog 9 fileElem b n ((dmap l).put (.string k) (.held f))) : DirAt w b n (put l k f) := by
  rw [dmap_put] at h; exact h
theorem length_put (l : Dir) (k : List UInt8) (f : Nat) : (put l k f).length ≤ l.length + 1 := by
  unfold put
  rw [length_ins]
  have := length_del l k
  omega
theorem length_applyC (l : Dir) (c : Chg) : (applyC l c).length ≤ l.length + 1 := by
  unfold applyC
  have h1 : (if c.a = ⟨#[]⟩ then l else del l (key c.a)).length ≤ l.length := by
    split
    · exact Nat.le_refl _
    · exact length_del _ _
  simp only
  split
  · omega
  · split
    · have := length_put (if c.a = ⟨#[]⟩ then l else del l (key c.a)) (key c.b) (by assumption)
      omega
    · omega

theorem notEmpty {s : ByteArray} (h : s ≠ ⟨#[]⟩) : s.toList.isEmpty = false := by
  rw [ByteArray.toList_eq]
  cases hl : s.data.toList with
  | nil => exact absurd (by obtain ⟨d⟩ := s; obtain ⟨l⟩ := d; simp only at hl; rw [hl]) h
  | cons _ _ => rfl

set_option maxRecDepth 100000 in
theorem apply_any (b : Nat) (l : Dir) (c : Chg) (w : World) (h : DirAt w b l.length l) (hc : c.ok) (hn : l.length < 4611686018427387904) (ho : own b) :
    Calls Tryz.prog 78 #[.map (some b), .agg #[.string c.a, .string c.b, fileV c.f]] w fun e w' => e = .returned (.tuple #[]) ∧ DirAt w' b (applyC l c).length (applyC l c) ∧ Turn own w w' ∧ (∀ k, k < w.heap.size → k ≠ b → w'.heap[k]? = w.heap[k]?) := by
  obtain ⟨ca, cb, cf⟩ := c
  obtain ⟨ha, hb, hf⟩ := hc
  unfold applyC
  simp only at ha hb hf ⊢
  by_cases h1 : ca = ⟨#[]⟩ <;> by_cases h2 : cb = ⟨#[]⟩
  · subst h1; subst h2
    rw [if_pos rfl, if_pos rfl]
    go_enter Tryz.func78, Tryz.ntmps78
    go_wp2
    go_end0
    exact ⟨rfl, h.kept (Below.heap_alloc _ _ _ h.lt), Turn.alloc _, fun k hk _ => Below.heap_alloc _ _ _ hk⟩
  · subst h1
    have e2 := notEmpty h2
    obtain ⟨f, rfl⟩ := hf h2
    rw [if_pos rfl, if_neg h2]
    simp only [fileV]
    have ho1 : (w.alloc (.cells #[.string ⟨#[]⟩, .string cb, .pointer (some ⟨f, 0, none⟩)] 103)).ownsMap Tryz.prog 9 fileElem b l.length (dmap l) := World.ownsMap.alloc h _
    go_enter Tryz.func78, Tryz.ntmps78
    go_wp2_with (at_mapUpdate; refine wpList_mapUpdate_in _ rfl _ _ _ 79 rfl 9 75 law9 Tryz.underlying79 fileElem b l.length _ rfl ho1 (by unfold maxLen; omega) _ _ _ rfl rfl (key9 cb hb) (.held f) [] rfl ?_; intro w1 hown1 hturn1)
    go_end0
    have hg := hturn1.grown
    exact ⟨rfl, (DirAt.of_put hown1).tight, (Turn.alloc _).trans (Turn.of_grown hg (fun k hk => by injection hk with hk; rw [← hk]; exact ho)), fun k hk hkb => (hg.block k (by simp; omega) (fun e => hkb (by injection e))).trans (Below.heap_alloc _ _ _ hk)⟩
  · subst h2
    have e1 := notEmpty h1
    rw [if_neg h1, if_pos rfl]
    have hlb := h.lt
    have ho1 : (w.alloc (.cells #[.string ca, .string ⟨#[]⟩, fileV cf] 103)).ownsMap Tryz.prog 9 fileElem b l.length (dmap l) := World.ownsMap.alloc h _
    go_enter Tryz.func78, Tryz.ntmps78
    go_wp2_with (at_delete; refine wpList_delete_own _ rfl _ _ 79 9 rfl 75 law9 Tryz.underlying79 fileElem b l.length _ rfl ho1 _ _ rfl (key9 ca ha) ?_; intro w1 hown1 hturn1; have hg := hturn1.grown; have c0 := hg.cell_far ⟨w.heap.size, 1, none⟩ (by simp) (by simp; omega); have c1 := hg.cell_far ⟨w.heap.size, 2, none⟩ (by simp) (by simp; omega); simp [World.cell?_alloc_at] at c0 c1)
    go_end0
    exact ⟨rfl, (DirAt.of_del hown1).tight, (Turn.alloc _).trans (Turn.of_grown hg (fun k hk => by injection hk with hk; rw [← hk]; exact ho)), fun k hk hkb => (hg.block k (by simp; omega) (fun e => hkb (by injection e))).trans (Below.heap_alloc _ _ _ hk)⟩
  · have e1 := notEmpty h1
    have e2 := notEmpty h2
    obtain ⟨f, rfl⟩ := hf h2
    rw [if_neg h1, if_neg h2]
    simp only [fileV]
    have hlb := h.lt
    have ho1 : (w.alloc (.cells #[.string ca, .string cb, .pointer (some ⟨f, 0, none⟩)] 103)).ownsMap Tryz.prog 9 fileElem b l.length (dmap l) := World.ownsMap.alloc h _
    go_enter Tryz.func78, Tryz.ntmps78
    go_wp2_with (first
      | (at_delete; refine wpList_delete_own _ rfl _ _ 79 9 rfl 75 law9 Tryz.underlying79 fileElem b l.length _ rfl ho1 _ _ rfl (key9 ca ha) ?_; intro w1 hown1 hturn1; have hg := hturn1.grown; have c0 := hg.cell_far ⟨w.heap.size, 1, none⟩ (by simp) (by simp; omega); have c1 := hg.cell_far ⟨w.heap.size, 2, none⟩ (by simp) (by simp; omega); simp [World.cell?_alloc_at] at c0 c1)
      | (at_mapUpdate; refine wpList_mapUpdate_in _ rfl _ _ _ 79 rfl 9 75 law9 Tryz.underlying79 fileElem b l.length _ rfl hown1 (by unfold maxLen; omega) _ _ _ rfl rfl (key9 cb hb) (.held f) [] rfl ?_; intro w2 hown2 hturn2))
    go_end0
    have hg2 := hturn2.grown
    have hd := DirAt.of_del hown1
    exact ⟨rfl, (DirAt.of_put (l := del l (key ca)) (by rw [← dmap_del]; exact hown2)).tight, ((Turn.alloc _).trans (Turn.of_grown hg (fun k hk => by injection hk with hk; rw [← hk]; exact ho))).trans (Turn.of_grown hg2 (fun k hk => by injection hk with hk; rw [← hk]; exact ho)), fun k hk hkb => ((hg2.block k (by have := hg.size; simp at this; omega) (fun e => hkb (by injection e))).trans (hg.block k (by simp; omega) (fun e => hkb (by injection e)))).trans (Below.heap_alloc _ _ _ hk)⟩
end Go.Proofs.YtgcpiofpjogjcaaGreatDoor.PK
