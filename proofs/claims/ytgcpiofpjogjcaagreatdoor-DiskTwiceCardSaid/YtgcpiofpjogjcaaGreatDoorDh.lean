/-
  The steps of a disk, walked: Create.
-/
import Derived.Test.YtgcpiofpjogjcaaGreatDoorDg
namespace Go.Proofs.YtgcpiofpjogjcaaGreatDoor.PK
open Go.RowKit Go.Maps Go.Proofs.YtgcpiofpjogjcaaGreatDoorW.PrintWords
set_option linter.unusedVariables false
set_option linter.unusedSimpArgs false
variable {own : Nat → Prop} {w w' : World}

def upd {α : Type} (g : Nat → α) (f : Nat) (x : α) : Nat → α := fun k => if k = f then x else g k
theorem upd_same {α : Type} (g : Nat → α) (f : Nat) (x : α) : upd g f x f = x := by simp [upd]
theorem upd_other {α : Type} (g : Nat → α) {f k : Nat} (x : α) (h : k ≠ f) : upd g f x k = g k := by simp [upd, h]
/-- A new file, empty. -/
def Dk.addFile (S : Dk) (f : Nat) : Dk := { S with fs := fun g => S.fs g ∨ g = f, dat := upd S.dat f [], saf := upd S.saf f 0 }
theorem DiskAt.addFile {d f : Nat} {S : Dk} (h : DiskAt w own d S) (hn : ∀ k, k < w.heap.size → w'.heap[k]? = w.heap[k]?) (hf : w.heap.size ≤ f) (ho : own f) (hb : w'.heap[f]? = some (.cells #[.slice none 0 0, .int .i64 0] 77 (0, 0))) :
    DiskAt w' own d (S.addFile f) ∧ ¬ S.fs f := by
  obtain ⟨bn, bs, pc, cc, pp, cp, pd, cd, h⟩ := h
  have hnf : ¬ S.fs f := fun e => by have := (h.files f e).lt; omega
  have hk := h.kept hn
  refine ⟨⟨bn, bs, pc, cc, pp, cp, upd pd f none, upd cd f 0, ?_⟩, hnf⟩
  exact { hk with
    ref := fun g hg => .inl (hk.ref g hg)
    files := fun g hg => by
      rcases hg with hg | rfl
      · have e : g ≠ f := fun e => hnf (e ▸ hg)
        simp only [Dk.addFile, upd_other _ _ e]
        exact hk.files g hg
      · simp only [Dk.addFile, upd_same]
        exact ⟨ho, hb, ⟨rfl, .inl ⟨rfl, rfl⟩⟩, fun a ha => by simp at ha, Nat.le_refl _, fun x hx => by simp at hx, by simp⟩
    apart := fun g1 g2 h1 h2 hne a b ha hb => by
      rcases h1 with h1 | rfl
      · have e1 : g1 ≠ f := fun e => hnf (e ▸ h1)
        rw [upd_other _ _ e1] at ha
        rcases h2 with h2 | rfl
        · have e2 : g2 ≠ f := fun e => hnf (e ▸ h2)
          rw [upd_other _ _ e2] at hb
          exact hk.apart g1 g2 h1 h2 hne a b ha hb
        · rw [upd_same] at hb; simp at hb
      · rw [upd_same] at ha; simp at ha }

theorem length_ins' (x : List UInt8 × Nat) (l : Dir) : (ins x l).length = l.length + 1 := length_ins x l
theorem del_same {l : Dir} {k : List UInt8} (h : look l k = none) : del l k = l := by
  unfold look at h
  simp only [Option.map_eq_none_iff, List.find?_eq_none] at h
  exact List.filter_eq_self.2 (fun p hp => by have := h p hp; simpa using this)
theorem created_len {S : Dk} {s : ByteArray} {f : Nat} (h1 : look S.now (key s) = none) (h2 : S.now.length < 400) : (applyC (S.addFile f).now ⟨⟨#[]⟩, s, some f⟩).length ≤ 400 := by
  unfold applyC
  simp only [Dk.addFile, if_true]
  split
  · omega
  · have := length_put S.now (key s) f
    omega
/-- The disk behind a Create. -/
def Dk.created (S : Dk) (s : ByteArray) (S' : Dk) : Prop :=
  if S.refuse s = 0 then ∃ f, ¬ S.fs f ∧ S' = (S.addFile f).alter ⟨⟨#[]⟩, s, some f⟩ else S' = S

set_option maxRecDepth 100000 in
theorem create1_any (xb nb d : Nat) (S : Dk) (s : ByteArray) (w : World) (h : DiskAt w own d S) (hfr : Fresh own w) (hs : s.size ≤ 9223372036854775807) (hbig : S.chg.length ≤ 1099511627776)
    (hx : w.cell? ⟨xb, 0, none⟩ = some (.pointer (some ⟨d, 0, none⟩))) (hn : w.cell? ⟨nb, 0, none⟩ = some (.string s)) :
    Calls Tryz.prog 62 #[.pointer (some ⟨xb, 0, none⟩), .pointer (some ⟨nb, 0, none⟩)] w fun e w' => e = .returned (.int .i64 (S.refuse s)) ∧ ∃ S', S.created s S' ∧ DiskAt w' own d S' ∧ Turn own w w' := by
  have hr := refuse_any d S s w h hs
  unfold Dk.created
  have lx := World.block_lt_of_cell? w _ hx
  have ln := World.block_lt_of_cell? w _ hn
  by_cases h0 : S.refuse s = 0
  · simp only [if_pos h0]
    rw [h0] at hr ⊢
    have hH := Lib.hid h; have hF := Lib.hid hfr
    clear h hfr
    have hr0 : bad s = false ∧ look S.now (key s) = none ∧ S.now.length < 400 := by
      unfold Dk.refuse at h0
      cases hb : bad s
      · rw [hb, if_neg (by simp)] at h0
        by_cases h1 : look S.now (key s) = none
        · rw [if_neg (by simp [h1])] at h0
          by_cases h2 : 400 ≤ S.now.length
          · rw [if_pos h2] at h0; omega
          · exact ⟨rfl, h1, by omega⟩
        · rw [if_pos h1] at h0; omega
      · rw [hb, if_pos rfl] at h0; omega
    have HR := Lib.hid hr0
    clear hr0
    go_enter Tryz.func62, Tryz.ntmps62
    go_wp2_with (first
      | (go_at_call 37; refine hr.mono ?_; rintro e w1 ⟨rfl, hb1⟩; have x1 := (hb1.cell (p := ⟨xb, 0, none⟩) lx).trans hx; have n1 := (hb1.cell (p := ⟨nb, 0, none⟩) ln).trans hn)
      | (go_at_call 63; obtain ⟨hA, hnf⟩ := DiskAt.addFile (w' := w1.alloc (.cells #[.slice none 0 0, .int .i64 0] 77)) (f := w1.heap.size) (hH.out.below hb1) (fun k hk => Below.heap_alloc _ _ _ hk) (Nat.le_refl _) (hF.out _ hb1.size) (heap_alloc_new w1 _); have hF2 : Fresh own (w1.alloc (.cells #[.slice none 0 0, .int .i64 0] 77)) := hF.out.step (by have := hb1.size; simp; omega); refine (alter_any d _ ⟨⟨#[]⟩, s, some w1.heap.size⟩ _ hA hF2 ⟨(by show (0 : Nat) ≤ 9223372036854775807; omega), hs, fun _ => ⟨_, rfl⟩⟩ (fun f hf => by injection hf with hf; exact .inr hf.symm) (created_len HR.out.2.1 HR.out.2.2) hbig).mono ?_; rintro e w2 ⟨rfl, hd2, ht2⟩))
    go_ret
    exact ⟨rfl, _, ⟨_, hnf, rfl⟩, hd2, ((Turn.of_below hb1).trans (Turn.alloc _)).trans ht2⟩
  · simp only [if_neg h0]
    go_enter Tryz.func62, Tryz.ntmps62
    go_wp2_with (first
      | (go_at_call 37; refine hr.mono ?_; rintro e w1 ⟨rfl, hb1⟩))
    go_ret
    exact ⟨rfl, S, rfl, h.below hb1, Turn.of_below hb1⟩
end Go.Proofs.YtgcpiofpjogjcaaGreatDoor.PK
