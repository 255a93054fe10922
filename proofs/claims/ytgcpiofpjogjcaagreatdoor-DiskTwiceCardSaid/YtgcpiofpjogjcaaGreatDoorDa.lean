/-
  Directories: maps of names to files, as lists.
-/
import Derived.Test.YtgcpiofpjogjcaaGreatDoorProg
import Derived.Maps.OwnSet
import Derived.Maps.RangeWalk
import Derived.Maps.StringElems
import Derived.WalkKit
import Derived.WalkSpells
import Derived.WalkLawsBesides
import Derived.Lib.Hide
import Derived.OneCell
import Derived.Deep.QuietTactic
import Derived.BigQuiet
import Derived.Deep.RegionWith
import Derived.IntWalk
import Derived.RegionTactic
import Derived.BigRegion
import Derived.Below
namespace Go.Proofs.YtgcpiofpjogjcaaGreatDoor.PK
open Go.RowKit Go.Maps
set_option linter.unusedVariables false
set_option linter.unusedSimpArgs false

/-- How a pointer to a file reads: by its block's number. -/
def fileElem : Value → Option (DataW Nat × List MemPlace)
  | .pointer none => some (.nil, [])
  | .pointer (some ⟨b, 0, none⟩) => some (.held b, [])
  | _ => none
theorem fileElem_held {v : Value} {f : Nat} {ps : List MemPlace} (h : fileElem v = some (.held f, ps)) : v = .pointer (some ⟨f, 0, none⟩) := by
  unfold fileElem at h
  split at h
  · simp at h
  · simp only [Option.some.injEq, Prod.mk.injEq, DataW.held.injEq] at h
    rw [h.1]
  · simp at h
theorem fileElem_nil {v : Value} {ps : List MemPlace} (h : fileElem v = some (.nil, ps)) : v = .pointer none := by
  unfold fileElem at h
  split at h
  · rfl
  · simp at h
  · simp at h

/-- A directory: names with their files' blocks, in the order of names. -/
abbrev Dir := List (List UInt8 × Nat)
def dmap (l : Dir) : DataW Nat := .map (l.map fun p => (.string p.1, .held p.2))
def look (l : Dir) (k : List UInt8) : Option Nat := (l.find? (fun p => p.1 == k)).map (·.2)
def del (l : Dir) (k : List UInt8) : Dir := l.filter fun p => !(p.1 == k)
def ins (x : List UInt8 × Nat) : Dir → Dir
  | [] => [x]
  | y :: r => if bytesBefore x.1 y.1 then x :: y :: r else y :: ins x r
def put (l : Dir) (k : List UInt8) (f : Nat) : Dir := ins (k, f) (del l k)

theorem dmap_ins (x : List UInt8 × Nat) (l : Dir) : DataW.insert (.string x.1, (.held x.2 : DataW Nat)) (l.map fun p => (.string p.1, .held p.2)) = (ins x l).map fun p => (.string p.1, .held p.2) := by
  induction l with
  | nil => rfl
  | cons y r ih =>
    rw [List.map_cons, DataW.insert, ins]
    by_cases h : bytesBefore x.1 y.1 = true
    · rw [if_pos h, if_pos (show ((Lit.string x.1, (.held x.2 : DataW Nat)).1.before (Lit.string y.1, (.held y.2 : DataW Nat)).1) = true from h)]; rfl
    · rw [if_neg h, if_neg (show ¬ ((Lit.string x.1, (.held x.2 : DataW Nat)).1.before (Lit.string y.1, (.held y.2 : DataW Nat)).1) = true from h), ih]; rfl
theorem dmap_del (l : Dir) (k : List UInt8) : (dmap l).del (.string k) = dmap (del l k) := by
  unfold dmap DataW.del del
  simp only [List.filter_map]
  rfl
theorem dmap_put (l : Dir) (k : List UInt8) (f : Nat) : (dmap l).put (.string k) (.held f) = dmap (put l k f) := by
  unfold put
  rw [show dmap (ins (k, f) (del l k)) = .map ((ins (k, f) (del l k)).map fun p => (.string p.1, .held p.2)) from rfl, ← dmap_ins]
  have h := dmap_del l k
  unfold dmap DataW.del at h
  injection h with h
  unfold DataW.put dmap
  simp only
  rw [h]
theorem dmap_look (l : Dir) (k : List UInt8) : (dmap l).atKey (.string k) .nil = (match look l k with | some f => .held f | none => .nil) := by
  unfold dmap DataW.atKey look
  simp only [List.find?_map]
  rw [show ((fun p : Lit × DataW Nat => p.1.sameKey (.string k)) ∘ fun p : List UInt8 × Nat => ((.string p.1 : Lit), (.held p.2 : DataW Nat))) = fun p => p.1 == k from rfl]
  cases l.find? (fun p => p.1 == k) <;> rfl
theorem dmap_size (l : Dir) : Maps.size (dmap l) = l.length := by simp [dmap, Maps.size]

theorem look_mem {l : Dir} {k : List UInt8} {f : Nat} (h : look l k = some f) : (k, f) ∈ l := by
  unfold look at h
  cases hf : l.find? (fun p => p.1 == k) with
  | none => rw [hf] at h; simp at h
  | some p =>
    rw [hf] at h
    have h1 := List.mem_of_find?_eq_some hf
    have h2 := List.find?_some hf
    simp at h h2
    rw [← h, ← h2]
    exact h1
theorem look_del (l : Dir) (k j : List UInt8) : look (del l k) j = if j = k then none else look l j := by
  unfold look del
  by_cases e : j = k
  · subst e
    rw [if_pos rfl]
    have : (l.filter fun p => !(p.1 == j)).find? (fun p => p.1 == j) = none := by
      rw [List.find?_eq_none]
      intro p hp
      have := (List.mem_filter.1 hp).2
      simpa using this
    rw [this]; rfl
  · rw [if_neg e]
    congr 1
    induction l with
    | nil => rfl
    | cons p r ih =>
      by_cases h1 : p.1 = k
      · rw [List.filter_cons_of_neg (by simp [h1]), ih, List.find?_cons_of_neg (by simp [h1]; exact fun h => e h.symm)]
      · rw [List.filter_cons_of_pos (by simp [h1])]
        by_cases h2 : p.1 = j
        · rw [List.find?_cons_of_pos (by simp [h2]), List.find?_cons_of_pos (by simp [h2])]
        · rw [List.find?_cons_of_neg (by simp [h2]), List.find?_cons_of_neg (by simp [h2]), ih]
theorem look_ins (x : List UInt8 × Nat) (l : Dir) (j : List UInt8) (hn : look l x.1 = none) : look (ins x l) j = if j = x.1 then some x.2 else look l j := by
  have hn' : ∀ p ∈ l, p.1 ≠ x.1 := by
    unfold look at hn
    simp only [Option.map_eq_none_iff, List.find?_eq_none] at hn
    intro p hp h
    have := hn p hp
    simp [h] at this
  clear hn
  induction l with
  | nil =>
    unfold look ins
    by_cases e : j = x.1
    · subst e; simp
    · rw [if_neg e]; simp [List.find?_cons, show ¬ x.1 = j from fun h => e h.symm]
  | cons y r ih =>
    have ih := ih (fun p hp => hn' p (List.mem_cons_of_mem _ hp))
    have hy := hn' y (List.mem_cons_self ..)
    unfold ins
    split
    · unfold look
      by_cases e : j = x.1
      · subst e; simp
      · rw [if_neg e, List.find?_cons_of_neg (by simp; exact fun h => e h.symm)]
    · unfold look at ih ⊢
      by_cases h2 : y.1 = j
      · rw [List.find?_cons_of_pos (by simp [h2]), List.find?_cons_of_pos (by simp [h2]), if_neg (by rw [← h2]; exact hy)]
      · rw [List.find?_cons_of_neg (by simp [h2]), List.find?_cons_of_neg (by simp [h2])]
        exact ih
theorem look_put (l : Dir) (k j : List UInt8) (f : Nat) : look (put l k f) j = if j = k then some f else look l j := by
  unfold put
  rw [look_ins _ _ _ (by rw [look_del, if_pos rfl]), look_del]
  by_cases e : j = k
  · simp [e]
  · simp [e]
theorem mem_ins {x p : List UInt8 × Nat} {l : Dir} : p ∈ ins x l ↔ p = x ∨ p ∈ l := by
  induction l with
  | nil => simp [ins]
  | cons y r ih =>
    unfold ins
    split
    · simp
    · simp [ih]; exact or_left_comm
theorem mem_del {p : List UInt8 × Nat} {l : Dir} {k : List UInt8} : p ∈ del l k ↔ p ∈ l ∧ p.1 ≠ k := by
  unfold del
  simp
theorem mem_put {p : List UInt8 × Nat} {l : Dir} {k : List UInt8} {f : Nat} : p ∈ put l k f ↔ p = (k, f) ∨ (p ∈ l ∧ p.1 ≠ k) := by
  unfold put
  rw [mem_ins, mem_del]
theorem length_del (l : Dir) (k : List UInt8) : (del l k).length ≤ l.length := List.length_filter_le ..
theorem length_ins (x : List UInt8 × Nat) (l : Dir) : (ins x l).length = l.length + 1 := by
  induction l with
  | nil => rfl
  | cons y r ih =>
    unfold ins
    split
    · rfl
    · simp [ih]

theorem law9 : Keyed Tryz.prog 9 := string_keyed Tryz.underlying9
theorem zeroP (w : World) : (zeroValue 75).run Tryz.prog w = .ok (.pointer none) w := by kernel_rfl

/-- Block b is the map of a directory. -/
def DirAt (w : World) (b n : Nat) (l : Dir) : Prop := w.ownsMap Tryz.prog 9 fileElem b n (dmap l)
theorem DirAt.lt {w : World} {b n : Nat} {l : Dir} (h : DirAt w b n l) : b < w.heap.size := World.ownsMap.lt h
theorem DirAt.kept {w w' : World} {b n : Nat} {l : Dir} (h : DirAt w b n l) (hb : w'.heap[b]? = w.heap[b]?) : DirAt w' b n l := by
  obtain ⟨es, clock, h1, h2⟩ := h
  exact ⟨es, clock, hb.trans h1, h2⟩
theorem DirAt.empty {w : World} {b : Nat} (h : w.heap[b]? = some (.map #[] 0)) : DirAt w b 0 [] :=
  ⟨#[], 0, h, ⟨by simp, MapKept.stamped_empty 0, by simp⟩, Nat.le_refl _, rfl⟩
theorem DirAt.tight {w : World} {b n : Nat} {l : Dir} (h : DirAt w b n l) : DirAt w b l.length l := by
  obtain ⟨es, clock, h1, h2, h3, h4⟩ := h
  refine ⟨es, clock, h1, h2, ?_, h4⟩
  have := congrArg Maps.size h4
  rw [dmap_size, Maps.size, length_read] at this
  omega
theorem DirAt.map {w : World} {b n : Nat} {l : Dir} (h : DirAt w b n l) : ∃ es c, w.heap[b]? = some (.map es c) := by
  obtain ⟨es, clock, h1, _⟩ := h
  exact ⟨es, clock, h1⟩
theorem key9 (s : ByteArray) (h : s.size ≤ 9223372036854775807) : keyOf Tryz.prog 9 (.string s) = some (.string s.data.toList) := 
  Go.WideMaps.keyOf_string_mk Tryz.underlying9 h

/-- 'm[k]' of a directory. -/
def fileV : Option Nat → Value
  | none => .pointer none
  | some f => .pointer (some ⟨f, 0, none⟩)
theorem fileV_of {v : Value} {o : Option Nat} {ps : List MemPlace} (h : fileElem v = some ((match o with | some f => .held f | none => .nil), ps)) : v = fileV o := by
  cases o with
  | none => exact fileElem_nil h
  | some f => exact fileElem_held h
theorem wpList_lookup_dir (w : World) {ops : Array Oper} {rest : List Oper} {o : Oper} {a : Act} {Q : Exit → Act → World → Prop}
    (hg : o.guard = none) (m x : Operand) (hop : o.op = Op.lookup 79 m x false) (b n : Nat) (l : Dir)
    (hm : a.eval m = .map (some b)) (hown : DirAt w b n l) (s : ByteArray) (hx : a.eval x = .string s) (hs : s.size ≤ 9223372036854775807)
    (hK : wpList Tryz.prog ops Q rest (a.put o.dst (fileV (look l s.data.toList))) w) :
    wpList Tryz.prog ops Q (o :: rest) a w := by
  refine wpList_plain hg fun K' hK' => ?_
  obtain ⟨v, ps, hrun, hv⟩ := World.ownsMap.lookup (z := .pointer none) (zd := .nil) (zp := []) hown law9 Tryz.underlying79 (zeroP w) rfl (key9 s hs)
  rw [dmap_look] at hv
  have := fileV_of hv
  subst this
  unfold Oper.wp
  simp [execOp, hop, hm, hx, hrun, Result.andThen]
  exact hK' _ _ hK
end Go.Proofs.YtgcpiofpjogjcaaGreatDoor.PK
