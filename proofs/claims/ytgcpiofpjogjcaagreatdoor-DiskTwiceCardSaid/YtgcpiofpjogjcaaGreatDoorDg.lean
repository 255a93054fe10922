/-
  The bytes of all files, walked: Used.
-/
import Derived.Test.YtgcpiofpjogjcaaGreatDoorDf
import Derived.Sort.MapsRangeIn
namespace Go.Proofs.YtgcpiofpjogjcaaGreatDoor.PK
open Go.RowKit Go.Maps Go.Proofs.YtgcpiofpjogjcaaGreatDoorW.PrintWords
set_option linter.unusedVariables false
set_option linter.unusedSimpArgs false
variable {own : Nat → Prop} {w w' : World}

theorem DirAt.nodup {b n : Nat} {l : Dir} (h : DirAt w b n l) : l.Pairwise (fun p q => p.1 ≠ q.1) := by
  obtain ⟨es, he, hp, _⟩ := World.ownsMap.entries h law9
  unfold dmap at he
  injection he with he
  rw [← he, List.pairwise_map] at hp
  exact hp.imp (fun h e => h (by rw [e]))
/-- The bytes of a directory's files, of those alone whose names are left. -/
def sumL (dat : Nat → List Int) (left : Lit → Bool) : Dir → Nat
  | [] => 0
  | p :: l => (if left (.string p.1) = true then (dat p.2).length else 0) + sumL dat left l
def used (dat : Nat → List Int) : Dir → Nat
  | [] => 0
  | p :: l => (dat p.2).length + used dat l
theorem sumL_all (dat : Nat → List Int) (left : Lit → Bool) (l : Dir) (h : ∀ p ∈ l, left (.string p.1) = true) : sumL dat left l = used dat l := by
  induction l with
  | nil => rfl
  | cons p l ih =>
    rw [sumL, used, if_pos (h p (List.mem_cons_self ..)), ih (fun q hq => h q (List.mem_cons_of_mem _ hq))]
theorem sumL_none (dat : Nat → List Int) (left : Lit → Bool) (l : Dir) (h : ∀ kl, left kl = false) : sumL dat left l = 0 := by
  induction l with
  | nil => rfl
  | cons p l ih => rw [sumL, if_neg (by rw [h]; simp), ih]
theorem sumL_le (dat : Nat → List Int) (left : Lit → Bool) (l : Dir) : sumL dat left l ≤ used dat l := by
  induction l with
  | nil => simp [sumL, used]
  | cons p l ih =>
    rw [sumL, used]
    split <;> omega
theorem sumL_congr (dat : Nat → List Int) {l1 l2 : Lit → Bool} (l : Dir) (h : ∀ p ∈ l, l1 (.string p.1) = l2 (.string p.1)) : sumL dat l1 l = sumL dat l2 l := by
  induction l with
  | nil => rfl
  | cons p l ih =>
    rw [sumL, sumL, h p (List.mem_cons_self ..), ih (fun q hq => h q (List.mem_cons_of_mem _ hq))]
theorem sumL_step (dat : Nat → List Int) (left : Lit → Bool) (k : List UInt8) (f : Nat) : ∀ (l : Dir), l.Pairwise (fun p q => p.1 ≠ q.1) → look l k = some f → left (.string k) = true →
    sumL dat left l = sumL dat (fun z => left z && !z.sameKey (.string k)) l + (dat f).length := by
  intro l
  induction l with
  | nil => intro _ h; simp [look] at h
  | cons p l ih =>
    intro hp hl hk
    rw [List.pairwise_cons] at hp
    have hsame : ∀ q : List UInt8 × Nat, (Lit.string q.1).sameKey (.string k) = (q.1 == k) := fun q => rfl
    by_cases e : p.1 = k
    · have hf : p.2 = f := by
        unfold look at hl
        rw [List.find?_cons_of_pos (by simp [e])] at hl
        simpa using hl
      have hrest : sumL dat (fun z => left z && !z.sameKey (.string k)) l = sumL dat left l := sumL_congr dat l (fun q hq => by
        have : (q.1 == k) = false := by simpa using fun h => hp.1 q hq (e.trans h.symm)
        simp only [hsame, this, Bool.not_false, Bool.and_true])
      rw [sumL, sumL, if_pos (by rw [e]; exact hk), if_neg (by simp only [hsame, e]; simp [Lit.sameKey]), hrest, hf]
      omega
    · have hl2 : look l k = some f := by
        unfold look at hl ⊢
        rw [List.find?_cons_of_neg (by simp [e])] at hl
        exact hl
      have ih := ih hp.2 hl2 hk
      have h1 : (left (.string p.1) && !(Lit.string p.1).sameKey (.string k)) = left (.string p.1) := by
        have : (p.1 == k) = false := by simpa using e
        simp only [hsame, this, Bool.not_false, Bool.and_true]
      rw [sumL, sumL, h1, ih]
      omega
theorem used_small (dat : Nat → List Int) (l : Dir) (h : ∀ p ∈ l, (dat p.2).length ≤ 140737488355328) : used dat l ≤ l.length * 140737488355328 := by
  induction l with
  | nil => simp [used]
  | cons p l ih =>
    have h1 := h p (List.mem_cons_self ..)
    have h2 := ih (fun q hq => h q (List.mem_cons_of_mem _ hq))
    simp only [used, List.length_cons]
    omega
theorem look_at {l : Dir} {k : List UInt8} {y : DataW Nat} (h : ∀ zd, (dmap l).atKey (.string k) zd = y) : ∃ f, look l k = some f ∧ y = .held f := by
  have h1 := h .nil
  rw [dmap_look] at h1
  cases hl : look l k with
  | some f => rw [hl] at h1; exact ⟨f, rfl, h1.symm⟩
  | none =>
    exfalso
    rw [hl] at h1
    have h2 := h (.held 0)
    have : (dmap l).atKey (.string k) (.held 0) = .held 0 := by
      unfold dmap DataW.atKey
      unfold look at hl
      simp only [Option.map_eq_none_iff] at hl
      simp only [List.find?_map]
      rw [show ((fun p : Lit × DataW Nat => p.1.sameKey (.string k)) ∘ fun p : List UInt8 × Nat => ((.string p.1 : Lit), (.held p.2 : DataW Nat))) = fun p => p.1 == k from rfl, hl]
      rfl
    rw [this, ← h1] at h2
    cases h2

theorem ret_int {k : IntKind} {a b : Int} (h : a = b) : Ending.returned (.int k a) = .returned (.int k b) := by rw [h]
theorem invK9 : ∀ key kl, keyOf Tryz.prog 9 key = some kl → ∃ x : ByteArray, key = .string x := fun key kl h => by
  exact Maps.keyOf_string_inv Tryz.underlying9 h
theorem invV9 : ∀ (v : Value) (y : DataW Nat × List MemPlace), fileElem v = some y → ∃ c, v = fileV c := fun v y h => by
  unfold fileElem at h
  split at h
  · exact ⟨none, rfl⟩
  · exact ⟨some _, rfl⟩
  · simp at h

set_option maxRecDepth 100000 in
set_option maxHeartbeats 1600000 in
theorem used_any (d : Nat) (S : Dk) (w : World) (h : DiskAt w own d S) :
    Calls Tryz.prog 46 #[.pointer (some ⟨d, 0, none⟩)] w fun e w' => e = .returned (.int .i64 (used S.dat S.now : Nat)) ∧ Below w.heap.size w w' := by
  obtain ⟨bn, bs, pc, cc, pp, cp, pd, cd, h⟩ := h
  obtain ⟨c0, c1, c2, c3, c4, c5, c6⟩ := seven_cells h.blk
  have hnow := h.now
  have hnd := h.now.nodup
  have hn1 := h.now1
  have hfc : ∀ p ∈ S.now, w.cell? ⟨p.2, 0, none⟩ = some (.slice (pd p.2) (S.dat p.2).length (cd p.2)) ∧ p.2 < w.heap.size ∧ (S.dat p.2).length ≤ 140737488355328 := fun p hp => by
    have hf := h.files p.2 (h.ref _ (.inl ⟨p.1, hp⟩))
    exact ⟨(two_cells hf.blk).1, hf.lt, hf.short⟩
  have hsm := used_small S.dat S.now (fun p hp => (hfc p hp).2.2)
  have HS : used S.dat S.now ≤ 400 * 140737488355328 := Nat.le_trans hsm (Nat.mul_le_mul_right _ hn1)
  have hh : ∀ p ∈ S.now, Maps.has (dmap S.now) (.string p.1) = true := fun p hp => by
    simp only [dmap, Maps.has, List.any_map, List.any_eq_true]
    exact ⟨p, hp, by simp [Lit.sameKey]⟩
  have HH := Lib.hid hh; have HFC := Lib.hid hfc; have HND := Lib.hid hnd
  clear hh hfc hnd h hsm
  go_enter Tryz.func46, Tryz.ntmps46
  go_wp2_with (first
    | (at_range; refine wpList_range_own _ rfl _ 79 rfl 9 75 law9 Tryz.underlying79 fileElem bn _ (dmap S.now) rfl hnow ?_; intro w0 hrg0 hg0 hs0)
    | go_in)
  go_frame
  go_loopw [3, 5] (fun v _ wr => ∃ (m : Nat) (left : Lit → Bool) (cnt : Nat), v = .int .i64 (m : Int) ∧ wr.ranges Tryz.prog 9 fileElem bn w.heap.size S.now.length (dmap S.now) left cnt ∧ Below w.heap.size w wr ∧ m + sumL S.dat left S.now = used S.dat S.now)
    (fun _ _ wr => wr.rangeLeft bn w.heap.size)
  case atStart =>
    refine ⟨0, _, _, rfl, hrg0, (Below.refl _ _).grown hg0 (Nat.le_refl _) (fun r e => by cases e), ?_⟩
    rw [sumL_all _ _ _ HH.out]; omega
  case round =>
    obtain ⟨m, left, cnt, rfl, hrg, hb, h1⟩ := hrel
    have H1 := Lib.hid h1; clear h1
    go_wp2_with (first
      | (at_next; refine wpList_next_ranges _ rfl _ rfl 9 law9 fileElem Value.string fileV invK9 invV9 bn w.heap.size S.now.length (dmap S.now) _ _ rfl hrg ?_ ?_)
      | go_in)
    · intro hc0 hl0
      go_wp2
      go_ret
      have h1 := H1.out
      rw [sumL_none _ _ _ hl0] at h1
      exact ⟨ret_int (by omega), hb⟩
    · intro x c kl y1 y2 w2 cnt2 hkey hlk hy hat hrg2 hlt hg2 hs2 hen
      clear hs2
      have hkl : kl = .string (key x) := by
        have hx : x.size ≤ 9223372036854775807 := by
          refine Classical.byContradiction fun hc => ?_
          simp [keyOf, mapKey, Tryz.underlying9, maxLen, hc] at hkey
        rw [key9 x hx] at hkey
        injection hkey with hkey
        exact hkey.symm
      subst hkl
      obtain ⟨f, hf, hyf⟩ := look_at hat
      have hcf : fileV c = fileV (some f) := by
        subst hyf
        exact fileElem_held hy
      have hstep := sumL_step S.dat left (key x) f S.now HND.out hf hlk
      have h1 := H1.out
      have hle := sumL_le S.dat left S.now
      obtain ⟨e0, lf, ls⟩ := HFC.out _ (look_mem hf)
      simp only at e0 lf ls
      have hb2 : Below w.heap.size w w2 := hb.grown hg2 hb.size (fun r e => by cases e; exact Nat.le_refl _)
      have e2 := (hb2.cell (p := ⟨f, 0, none⟩) lf).trans e0
      rw [hcf] at hen ⊢
      simp only [fileV] at hen ⊢
      have HC := Lib.hid (And.intro hstep (And.intro h1 hle))
      have bm : (m : Int) + ((S.dat f).length : Int) < 9223372036854775807 := by omega
      clear hat hcf hf hyf hy hkey hstep h1 hle e0
      go_wp2
      go_roundw
      case rel =>
        obtain ⟨hstep, h1, hle⟩ := HC.out
        exact ⟨m + (S.dat f).length, _, cnt2, by go_num, hrg2, hb2, by omega⟩
      · have l1 := hrg2.left_eq
        have l2 := hrg.left_eq
        omega
end Go.Proofs.YtgcpiofpjogjcaaGreatDoor.PK
