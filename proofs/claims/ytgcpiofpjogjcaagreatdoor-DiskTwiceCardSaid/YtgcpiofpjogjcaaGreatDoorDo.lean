/-
  What a loss of power leaves, as lists.
-/
import Derived.Test.YtgcpiofpjogjcaaGreatDoorDn
namespace Go.Proofs.YtgcpiofpjogjcaaGreatDoor.PK
open Go.RowKit Go.Maps Go.Proofs.YtgcpiofpjogjcaaGreatDoorW.PrintWords
set_option linter.unusedVariables false
set_option linter.unusedSimpArgs false
variable {own : Nat → Prop} {w w' : World}

def toL (p : List UInt8 × Nat) : Lit × DataW Nat := (.string p.1, .held p.2)
theorem toL_inj {p q : List UInt8 × Nat} (h : toL p = toL q) : p = q := by
  unfold toL at h
  simp only [Prod.mk.injEq, Lit.string.injEq, DataW.held.injEq] at h
  exact Prod.ext h.1 h.2
/-- A directory in the order of names. -/
def Srt (l : Dir) : Prop := l.Pairwise fun p q => bytesBefore p.1 q.1 = true
theorem srt_ins {x : List UInt8 × Nat} {l : Dir} (h : Srt l) (hn : ∀ p ∈ l, p.1 ≠ x.1) : Srt (ins x l) := by
  induction l with
  | nil => exact List.pairwise_singleton _ _
  | cons y r ih =>
    have h' := List.pairwise_cons.1 h
    unfold ins
    split
    · next hb =>
      refine List.pairwise_cons.2 ⟨fun q hq => ?_, h⟩
      rcases List.mem_cons.1 hq with rfl | hq
      · exact hb
      · exact WideShapes.bytes_trans _ _ _ hb (h'.1 q hq)
    · next hb =>
      refine List.pairwise_cons.2 ⟨fun q hq => ?_, ih h'.2 (fun p hp => hn p (List.mem_cons_of_mem _ hp))⟩
      rcases mem_ins.1 hq with rfl | hq
      · rcases WideAt.bytes_total y.1 q.1 (hn y (List.mem_cons_self ..)) with h1 | h1
        · exact h1
        · exact absurd h1 hb
      · exact h'.1 q hq
theorem srt_foldr (l : Dir) (h : l.Pairwise fun p q => p.1 ≠ q.1) : Srt (l.foldr ins []) ∧ ∀ p, p ∈ l.foldr ins [] ↔ p ∈ l := by
  induction l with
  | nil => exact ⟨List.Pairwise.nil, fun p => by simp⟩
  | cons x r ih =>
    have h' := List.pairwise_cons.1 h
    obtain ⟨i1, i2⟩ := ih h'.2
    refine ⟨srt_ins i1 (fun p hp e => h'.1 p ((i2 p).1 hp) e.symm), fun p => ?_⟩
    rw [List.foldr_cons, mem_ins, i2, List.mem_cons]
theorem foldr_toL (l : Dir) : (l.map toL).foldr DataW.insert [] = (l.foldr ins []).map toL := by
  induction l with
  | nil => rfl
  | cons x r ih =>
    rw [List.map_cons, List.foldr_cons, List.foldr_cons, ih]
    exact dmap_ins x _
theorem map_toL_inj : ∀ {a b : Dir}, a.map toL = b.map toL → a = b
  | [], [], _ => rfl
  | [], _ :: _, h => by simp at h
  | _ :: _, [], h => by simp at h
  | x :: a, y :: b, h => by
    rw [List.map_cons, List.map_cons] at h
    injection h with h1 h2
    rw [toL_inj h1, map_toL_inj h2]
theorem of_toL : ∀ {X : List (Lit × DataW Nat)}, (∀ x ∈ X, ∃ p, x = toL p) → ∃ l : Dir, X = l.map toL
  | [], _ => ⟨[], rfl⟩
  | x :: X, h => by
    obtain ⟨p, hp⟩ := h x (List.mem_cons_self ..)
    obtain ⟨l, hl⟩ := of_toL (X := X) (fun y hy => h y (List.mem_cons_of_mem _ hy))
    exact ⟨p :: l, by rw [hp, hl]; rfl⟩
theorem DirAt.sorted {b n : Nat} {l : Dir} (h : DirAt w b n l) : Srt l := by
  have hnd := h.nodup
  obtain ⟨es, clock, h1, h2, h3, h4⟩ := h
  unfold dmap at h4
  injection h4 with h4
  have h4 : l.map toL = _ := h4
  have hperm := WideShapes.sorted_perm (es.toList.map (WideElems.rg Tryz.prog 9 fileElem))
  rw [← h4] at hperm
  obtain ⟨X, hX⟩ := of_toL (X := es.toList.map (WideElems.rg Tryz.prog 9 fileElem)) (fun x hx => by
    have := hperm.mem_iff.2 hx
    obtain ⟨p, _, hp⟩ := List.mem_map.1 this
    exact ⟨p, hp.symm⟩)
  rw [hX, foldr_toL] at h4
  have e := map_toL_inj h4
  rw [hX] at hperm
  have hnx : X.Pairwise fun p q => p.1 ≠ q.1 := by
    have h5 : (l.map toL).Pairwise fun p q => p.1 ≠ q.1 := by
      rw [List.pairwise_map]
      exact hnd.imp (fun {a b} hab h => hab (by simpa [toL] using h))
    have h6 := (hperm.pairwise_iff (fun {_ _} hne => Ne.symm hne)).1 h5
    rw [List.pairwise_map] at h6
    exact h6.imp (fun {a b} hab h => hab (by simp [toL, h]))
  rw [e]
  exact (srt_foldr X hnx).1

theorem ins_front {k : List UInt8} {g : Nat} : ∀ {r : Dir}, (∀ p ∈ r, bytesBefore k p.1 = true) → ins (k, g) r = (k, g) :: r
  | [], _ => rfl
  | y :: r, h => by unfold ins; rw [if_pos (h y (List.mem_cons_self ..))]
theorem not_before {a b : List UInt8} (h : bytesBefore a b = true) : bytesBefore b a = false := by
  cases h1 : bytesBefore b a
  · rfl
  · have := WideShapes.bytes_trans _ _ _ h h1
    rw [WideAt.bytes_irrefl] at this
    cases this
theorem put_mid {k : List UInt8} {f g : Nat} : ∀ {a r : Dir}, Srt (a ++ (k, f) :: r) → put (a ++ (k, f) :: r) k g = a ++ (k, g) :: r
  | [], r, h => by
    have h' := List.pairwise_cons.1 h
    unfold put
    have : del ((k, f) :: r) k = r := by
      unfold del
      rw [List.filter_cons_of_neg (by simp)]
      refine List.filter_eq_self.2 (fun p hp => ?_)
      have := h'.1 p hp
      have hne : p.1 ≠ k := fun e => by rw [e, WideAt.bytes_irrefl] at this; cases this
      simpa using hne
    rw [List.nil_append, this, List.nil_append]
    exact ins_front h'.1
  | y :: a, r, h => by
    have h' := List.pairwise_cons.1 h
    have ih := put_mid (g := g) h'.2
    unfold put at ih ⊢
    have hy := h'.1 (k, f) (by simp)
    have hne : y.1 ≠ k := fun e => by simp only [e, WideAt.bytes_irrefl] at hy; cases hy
    have hd : del (y :: a ++ (k, f) :: r) k = y :: del (a ++ (k, f) :: r) k := by
      unfold del
      rw [List.cons_append, List.filter_cons_of_pos (by simpa using hne)]
    rw [hd, ins, if_neg (by rw [not_before hy]; simp), ih, List.cons_append]
theorem look_mid {k : List UInt8} {f : Nat} : ∀ {a r : Dir}, Srt (a ++ (k, f) :: r) → look (a ++ (k, f) :: r) k = some f
  | [], r, h => by simp [look]
  | y :: a, r, h => by
    have h' := List.pairwise_cons.1 h
    have ih := look_mid h'.2
    have hy := h'.1 (k, f) (by simp)
    have hne : y.1 ≠ k := fun e => by simp only [e, WideAt.bytes_irrefl] at hy; cases hy
    unfold look at ih ⊢
    rw [List.cons_append, List.find?_cons_of_neg (by simpa using hne)]
    exact ih
theorem srt_names {l m : Dir} (h : Srt l) (he : m.map (·.1) = l.map (·.1)) : Srt m := by
  have h1 : (l.map (·.1)).Pairwise fun p q => bytesBefore p q = true := List.pairwise_map.2 h
  rw [← he] at h1
  exact List.pairwise_map.1 h1
theorem look_of_mem {l : Dir} {k : List UInt8} {f : Nat} (h : Srt l) (hm : (k, f) ∈ l) : look l k = some f := by
  obtain ⟨a, r, rfl⟩ := List.append_of_mem hm
  exact look_mid h

/-- What is kept of the i-th thing. -/
def keepN (ks : List Int) (i : Nat) : Nat := (ks.getD i 0).toNat
def Dk.leftDir (S : Dk) (ks : List Int) : Dir := (S.chg.take (keepN ks 0)).foldl applyC S.safe
def Dk.leftLen (S : Dk) (ks : List Int) (i f : Nat) : Nat := S.saf f + min (keepN ks (i + 1)) ((S.dat f).length - S.saf f)
/-- Names with bytes. -/
abbrev Cont := List (List UInt8 × List Int)
def cont (dat : Nat → List Int) (l : Dir) : Cont := l.map fun p => (p.1, dat p.2)
def Dk.leftCont (S : Dk) (ks : List Int) : Cont := (S.leftDir ks).mapIdx fun i p => (p.1, (S.dat p.2).take (S.leftLen ks i p.2))
theorem leftCont_length (S : Dk) (ks : List Int) : (S.leftCont ks).length = (S.leftDir ks).length := by simp [Dk.leftCont]
theorem leftCont_get (S : Dk) (ks : List Int) (i : Nat) (h : i < (S.leftDir ks).length) : (S.leftCont ks)[i]? = some ((S.leftDir ks)[i].1, (S.dat (S.leftDir ks)[i].2).take (S.leftLen ks i (S.leftDir ks)[i].2)) := by
  simp [Dk.leftCont, List.getElem?_mapIdx, List.getElem?_eq_getElem h]
theorem mem_foldl {cs : List Chg} {l : Dir} {p : List UInt8 × Nat} (h : p ∈ cs.foldl applyC l) : p ∈ l ∨ ∃ c ∈ cs, c.f = some p.2 := by
  induction cs generalizing l with
  | nil => exact .inl h
  | cons c cs ih =>
    rcases ih h with h | ⟨c', hc, e⟩
    · rcases mem_applyC h with h | h
      · exact .inl h
      · exact .inr ⟨c, List.mem_cons_self .., h⟩
    · exact .inr ⟨c', List.mem_cons_of_mem _ hc, e⟩
theorem leftDir_live {S : Dk} {ks : List Int} {p : List UInt8 × Nat} (h : p ∈ S.leftDir ks) : S.live p.2 := by
  rcases mem_foldl h with h | ⟨c, hc, e⟩
  · exact .inr (.inl ⟨p.1, h⟩)
  · exact .inr (.inr ⟨c, List.mem_of_mem_take hc, e⟩)
/-- A disk behind a loss of power: what is there, all of it safe. -/
structure Dk.woke (S S' : Dk) (c : Cont) : Prop where
  room : S'.room = S.room
  plan : S'.plan = S.plan
  steps : S'.steps = S.steps
  off : S'.off = false
  chg : S'.chg = []
  safe : S'.safe = S'.now
  cont : cont S'.dat S'.now = c
  saf : ∀ p ∈ S'.now, S'.saf p.2 = (S'.dat p.2).length
end Go.Proofs.YtgcpiofpjogjcaaGreatDoor.PK
