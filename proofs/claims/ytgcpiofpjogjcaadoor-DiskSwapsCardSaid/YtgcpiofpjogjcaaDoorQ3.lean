/-
  Parts of the proof: Da, Ld, Db, Dc, Dd, De, Df, Dg, Dh.
-/
import Derived.Test.YtgcpiofpjogjcaaDoorProg
import Derived.Maps.OwnSet
import Derived.Maps.RangeWalk
import Derived.Maps.StringElems
import Derived.WalkKit
import Derived.WalkSpells
import Derived.WalkLawsBesides
import Derived.Lib.Hide
import Derived.OneCell
import Derived.Deep.QuietTactic
import Derived.BigQuiet
import Derived.Deep.RegionWith
import Derived.IntWalk
import Derived.RegionTactic
import Derived.BigRegion
import Derived.Below
import Derived.Shelf.Strings.SlTrimAscii
import Derived.Ground.SlbCloneProg
import Derived.Shelf.Bytes.SlClone
import Derived.Shelf.SlIter.Nil
import Derived.Shelf.SortM.Plain
import Derived.Shelf.SortM.SortNone
import Derived.Ground.GgzProg
import Derived.Ground.SlgmProg
import Derived.Test.YtgcpiofpjogjcaaDoorQ0
import Derived.Lib.TrimAscii
import Derived.Deep.RegionHeld3
import Derived.Deep.AppendLies
import Derived.Deep.RegionLaw
import Derived.KernelRfl
import Derived.Tactics
import Derived.Tactics2
import Derived.StillTactics
import Derived.OwnWalk
import Derived.Laws.Pointers
import Derived.Sort.MapsRangeIn
section
/-
  Directories: maps of names to files, as lists.
-/
namespace Go.Proofs.YtgcpiofpjogjcaaDoor.PK
open Go.RowKit Go.Maps
set_option linter.unusedVariables false
set_option linter.unusedSimpArgs false

/-- How a pointer to a file reads: by its block's number. -/
def fileElem : Value → Option (DataW Nat × List MemPlace)
  | .pointer none => some (.nil, [])
  | .pointer (some ⟨b, 0, none⟩) => some (.held b, [])
  | _ => none
theorem fileElem_held {v : Value} {f : Nat} {ps : List MemPlace} (h : fileElem v = some (.held f, ps)) : v = .pointer (some ⟨f, 0, none⟩) := by
  unfold fileElem at h
  split at h
  · simp at h
  · simp only [Option.some.injEq, Prod.mk.injEq, DataW.held.injEq] at h
    rw [h.1]
  · simp at h
theorem fileElem_nil {v : Value} {ps : List MemPlace} (h : fileElem v = some (.nil, ps)) : v = .pointer none := by
  unfold fileElem at h
  split at h
  · rfl
  · simp at h
  · simp at h

/-- A directory: names with their files' blocks, in the order of names. -/
abbrev Dir := List (List UInt8 × Nat)
def dmap (l : Dir) : DataW Nat := .map (l.map fun p => (.string p.1, .held p.2))
def look (l : Dir) (k : List UInt8) : Option Nat := (l.find? (fun p => p.1 == k)).map (·.2)
def del (l : Dir) (k : List UInt8) : Dir := l.filter fun p => !(p.1 == k)
def ins (x : List UInt8 × Nat) : Dir → Dir
  | [] => [x]
  | y :: r => if bytesBefore x.1 y.1 then x :: y :: r else y :: ins x r
def put (l : Dir) (k : List UInt8) (f : Nat) : Dir := ins (k, f) (del l k)

theorem dmap_ins (x : List UInt8 × Nat) (l : Dir) : DataW.insert (.string x.1, (.held x.2 : DataW Nat)) (l.map fun p => (.string p.1, .held p.2)) = (ins x l).map fun p => (.string p.1, .held p.2) := by
  induction l with
  | nil => rfl
  | cons y r ih =>
    rw [List.map_cons, DataW.insert, ins]
    by_cases h : bytesBefore x.1 y.1 = true
    · rw [if_pos h, if_pos (show ((Lit.string x.1, (.held x.2 : DataW Nat)).1.before (Lit.string y.1, (.held y.2 : DataW Nat)).1) = true from h)]; rfl
    · rw [if_neg h, if_neg (show ¬ ((Lit.string x.1, (.held x.2 : DataW Nat)).1.before (Lit.string y.1, (.held y.2 : DataW Nat)).1) = true from h), ih]; rfl
theorem dmap_del (l : Dir) (k : List UInt8) : (dmap l).del (.string k) = dmap (del l k) := by
  unfold dmap DataW.del del
  simp only [List.filter_map]
  rfl
theorem dmap_put (l : Dir) (k : List UInt8) (f : Nat) : (dmap l).put (.string k) (.held f) = dmap (put l k f) := by
  unfold put
  rw [show dmap (ins (k, f) (del l k)) = .map ((ins (k, f) (del l k)).map fun p => (.string p.1, .held p.2)) from rfl, ← dmap_ins]
  have h := dmap_del l k
  unfold dmap DataW.del at h
  injection h with h
  unfold DataW.put dmap
  simp only
  rw [h]
theorem dmap_look (l : Dir) (k : List UInt8) : (dmap l).atKey (.string k) .nil = (match look l k with | some f => .held f | none => .nil) := by
  unfold dmap DataW.atKey look
  simp only [List.find?_map]
  rw [show ((fun p : Lit × DataW Nat => p.1.sameKey (.string k)) ∘ fun p : List UInt8 × Nat => ((.string p.1 : Lit), (.held p.2 : DataW Nat))) = fun p => p.1 == k from rfl]
  cases l.find? (fun p => p.1 == k) <;> rfl
theorem dmap_size (l : Dir) : Maps.size (dmap l) = l.length := by simp [dmap, Maps.size]

theorem look_mem {l : Dir} {k : List UInt8} {f : Nat} (h : look l k = some f) : (k, f) ∈ l := by
  unfold look at h
  cases hf : l.find? (fun p => p.1 == k) with
  | none => rw [hf] at h; simp at h
  | some p =>
    rw [hf] at h
    have h1 := List.mem_of_find?_eq_some hf
    have h2 := List.find?_some hf
    simp at h h2
    rw [← h, ← h2]
    exact h1
theorem mem_ins {x p : List UInt8 × Nat} {l : Dir} : p ∈ ins x l ↔ p = x ∨ p ∈ l := by
  induction l with
  | nil => simp [ins]
  | cons y r ih =>
    unfold ins
    split
    · simp
    · simp [ih]; exact or_left_comm
theorem mem_del {p : List UInt8 × Nat} {l : Dir} {k : List UInt8} : p ∈ del l k ↔ p ∈ l ∧ p.1 ≠ k := by
  unfold del
  simp
theorem mem_put {p : List UInt8 × Nat} {l : Dir} {k : List UInt8} {f : Nat} : p ∈ put l k f ↔ p = (k, f) ∨ (p ∈ l ∧ p.1 ≠ k) := by
  unfold put
  rw [mem_ins, mem_del]
theorem length_del (l : Dir) (k : List UInt8) : (del l k).length ≤ l.length := List.length_filter_le ..
theorem length_ins (x : List UInt8 × Nat) (l : Dir) : (ins x l).length = l.length + 1 := by
  induction l with
  | nil => rfl
  | cons y r ih =>
    unfold ins
    split
    · rfl
    · simp [ih]

theorem law9 : Keyed Tryd.prog 9 := string_keyed Tryd.underlying9
theorem zeroP (w : World) : (zeroValue 61).run Tryd.prog w = .ok (.pointer none) w := by kernel_rfl

/-- Block b is the map of a directory. -/
def DirAt (w : World) (b n : Nat) (l : Dir) : Prop := w.ownsMap Tryd.prog 9 fileElem b n (dmap l)
theorem DirAt.lt {w : World} {b n : Nat} {l : Dir} (h : DirAt w b n l) : b < w.heap.size := World.ownsMap.lt h
theorem DirAt.kept {w w' : World} {b n : Nat} {l : Dir} (h : DirAt w b n l) (hb : w'.heap[b]? = w.heap[b]?) : DirAt w' b n l := by
  obtain ⟨es, clock, h1, h2⟩ := h
  exact ⟨es, clock, hb.trans h1, h2⟩
theorem DirAt.empty {w : World} {b : Nat} (h : w.heap[b]? = some (.map #[] 0)) : DirAt w b 0 [] :=
  ⟨#[], 0, h, ⟨by simp, MapKept.stamped_empty 0, by simp⟩, Nat.le_refl _, rfl⟩
theorem DirAt.tight {w : World} {b n : Nat} {l : Dir} (h : DirAt w b n l) : DirAt w b l.length l := by
  obtain ⟨es, clock, h1, h2, h3, h4⟩ := h
  refine ⟨es, clock, h1, h2, ?_, h4⟩
  have := congrArg Maps.size h4
  rw [dmap_size, Maps.size, length_read] at this
  omega
theorem DirAt.map {w : World} {b n : Nat} {l : Dir} (h : DirAt w b n l) : ∃ es c, w.heap[b]? = some (.map es c) := by
  obtain ⟨es, clock, h1, _⟩ := h
  exact ⟨es, clock, h1⟩
theorem key9 (s : ByteArray) (h : s.size ≤ 9223372036854775807) : keyOf Tryd.prog 9 (.string s) = some (.string s.data.toList) := 
  Go.WideMaps.keyOf_string_mk Tryd.underlying9 h

/-- 'm[k]' of a directory. -/
def fileV : Option Nat → Value
  | none => .pointer none
  | some f => .pointer (some ⟨f, 0, none⟩)
theorem fileV_of {v : Value} {o : Option Nat} {ps : List MemPlace} (h : fileElem v = some ((match o with | some f => .held f | none => .nil), ps)) : v = fileV o := by
  cases o with
  | none => exact fileElem_nil h
  | some f => exact fileElem_held h
theorem wpList_lookup_dir (w : World) {ops : Array Oper} {rest : List Oper} {o : Oper} {a : Act} {Q : Exit → Act → World → Prop}
    (hg : o.guard = none) (m x : Operand) (hop : o.op = Op.lookup 55 m x false) (b n : Nat) (l : Dir)
    (hm : a.eval m = .map (some b)) (hown : DirAt w b n l) (s : ByteArray) (hx : a.eval x = .string s) (hs : s.size ≤ 9223372036854775807)
    (hK : wpList Tryd.prog ops Q rest (a.put o.dst (fileV (look l s.data.toList))) w) :
    wpList Tryd.prog ops Q (o :: rest) a w := by
  refine wpList_plain hg fun K' hK' => ?_
  obtain ⟨v, ps, hrun, hv⟩ := World.ownsMap.lookup (z := .pointer none) (zd := .nil) (zp := []) hown law9 Tryd.underlying55 (zeroP w) rfl (key9 s hs)
  rw [dmap_look] at hv
  have := fileV_of hv
  subst this
  unfold Oper.wp
  simp [execOp, hop, hm, hx, hrun, Result.andThen]
  exact hK' _ _ hK
end Go.Proofs.YtgcpiofpjogjcaaDoor.PK
end
section
/-
  DERIVED: THE SHELF's CONTRACTS AT THIS DUMP, IN PLAIN WORDS (tools/lay-plain.mjs out of 'TrydSrc.lean', which tools/lay-shelf.mjs wrote): THE SAME DECLARATIONS UNDER THE SAME NAMES: 'import', 'namespace', 'open', 'def', 'theorem' AND NOTHING ELSE: no command of the shelf's: FOR A HAND-IN. Each laying: the table of numbers ('.._ren') and one theorem, a field a fact of the dump's own or the kernel's comparison; each contract: ONE APPLICATION.
-/
namespace Go.Proofs
open Go.Shelf
def Tryd.lays160_ren : Go.Shelf.Ren := ⟨fun | 160 => 48 | 232 => 54 | 231 => 53 | 227 => 55 | 234 => 57 | 233 => 56 | 236 => 59 | 235 => 58 | 228 => 63 | 271 => 66 | 151 => 65 | 197 => 64 | 120 => 72 | 152 => 71 | 260 => 70 | 137 => 84 | 119 => 85 | 224 => 86 | 225 => 87 | 217 => 94 | 266 => 96 | n => n, fun | 9 => 9 | 4 => 4 | 3 => 3 | 5 => 5 | 117 => 90 | 116 => 89 | 0 => 0 | 124 => 93 | 21 => 21 | 105 => 96 | 46 => 102 | 119 => 117 | 139 => 120 | 138 => 119 | n => n, fun | 3 => 0 | 4 => 1 | n => n⟩
theorem Tryd.lays160 : Go.Proofs.Lays.n160 Tryd.prog Tryd.lays160_ren := {
  mixed := by kernel_rfl
  f119 := Tryd.func85.trans (congrArg some (by kernel_rfl))
  f120 := Tryd.func72.trans (congrArg some (by kernel_rfl))
  f137 := Tryd.func84.trans (congrArg some (by kernel_rfl))
  f151 := Tryd.func65.trans (congrArg some (by kernel_rfl))
  f152 := Tryd.func71.trans (congrArg some (by kernel_rfl))
  f160 := Tryd.func48.trans (congrArg some (by kernel_rfl))
  f197 := Tryd.func64.trans (congrArg some (by kernel_rfl))
  f217 := Tryd.func94.trans (congrArg some (by kernel_rfl))
  f224 := Tryd.func86.trans (congrArg some (by kernel_rfl))
  f225 := Tryd.func87.trans (congrArg some (by kernel_rfl))
  f227 := Tryd.func55.trans (congrArg some (by kernel_rfl))
  f228 := Tryd.func63.trans (congrArg some (by kernel_rfl))
  f231 := Tryd.func53.trans (congrArg some (by kernel_rfl))
  f232 := Tryd.func54.trans (congrArg some (by kernel_rfl))
  f233 := Tryd.func56.trans (congrArg some (by kernel_rfl))
  f234 := Tryd.func57.trans (congrArg some (by kernel_rfl))
  f235 := Tryd.func58.trans (congrArg some (by kernel_rfl))
  f236 := Tryd.func59.trans (congrArg some (by kernel_rfl))
  f260 := Tryd.func70.trans (congrArg some (by kernel_rfl))
  f266 := Tryd.func96.trans (congrArg some (by kernel_rfl))
  f271 := Tryd.func66.trans (congrArg some (by kernel_rfl))
  t0 := Tryd.underlying0
  a0 := Tryd.isAgg0
  z0 := Tryd.sizeOf0
  v0 := Tryd.zeroValue0
  t3 := Tryd.underlying3
  a3 := Tryd.isAgg3
  z3 := Tryd.sizeOf3
  v3 := Tryd.zeroValue3
  t4 := Tryd.underlying4
  a4 := Tryd.isAgg4
  z4 := Tryd.sizeOf4
  v4 := Tryd.zeroValue4
  t5 := Tryd.underlying5
  a5 := Tryd.isAgg5
  z5 := Tryd.sizeOf5
  v5 := Tryd.zeroValue5
  t9 := Tryd.underlying9
  a9 := Tryd.isAgg9
  z9 := Tryd.sizeOf9
  v9 := Tryd.zeroValue9
  t21 := Tryd.underlying21
  a21 := Tryd.isAgg21
  z21 := Tryd.sizeOf21
  v21 := Tryd.zeroValue21
  t46 := Tryd.underlying102
  a46 := Tryd.isAgg102
  z46 := Tryd.sizeOf102
  v46 := Tryd.zeroValue102
  t105 := Tryd.underlying96
  a105 := Tryd.isAgg96
  z105 := Tryd.sizeOf96
  v105 := Tryd.zeroValue96
  t116 := Tryd.underlying89
  a116 := Tryd.isAgg89
  z116 := Tryd.sizeOf89
  t117 := Tryd.underlying90
  a117 := Tryd.isAgg90
  z117 := Tryd.sizeOf90
  v117 := Tryd.zeroValue90
  t119 := Tryd.underlying117
  a119 := Tryd.isAgg117
  z119 := Tryd.sizeOf117
  t124 := Tryd.underlying93
  a124 := Tryd.isAgg93
  z124 := Tryd.sizeOf93
  v124 := Tryd.zeroValue93
  t138 := Tryd.underlying119
  a138 := Tryd.isAgg119
  z138 := Tryd.sizeOf119
  v138 := Tryd.zeroValue119
  t139 := Tryd.underlying120
  a139 := Tryd.isAgg120
  z139 := Tryd.sizeOf120
  v139 := Tryd.zeroValue120
  g3 := by kernel_rfl
  g4 := by kernel_rfl }
open Go.RowKit in
theorem Tryd.strings_Trim (s cutset : ByteArray) (w : World) (hs : s.size ≤ 9223372036854775807) (hcs : cutset.size < 4294967281) (ha : ∀ (j : Nat) b, cutset.data.toList[j]? = some b → b.toNat < 128) :
    Calls Tryd.prog 48 #[.string s, .string cutset] w fun e w' => e = .returned (.string ⟨(Lib.trimS s.data.toList cutset.data.toList).toArray⟩) ∧ Below w.heap.size w w' := Any.strings_Trim_laid Tryd.lays160 (by kernel_rfl) s cutset w hs hcs ha
def Tryd.laysSlK4_ren : Go.Shelf.Ren := ⟨fun | 4 => 38 | n => n, fun | 22 => 22 | 4 => 4 | 5 => 5 | n => n, fun | n => n⟩
theorem Tryd.laysSlK4 : Go.Proofs.SlLaysK.n4 Tryd.prog Tryd.laysSlK4_ren := {
  mixed := by kernel_rfl
  f4 := Tryd.func38.trans (congrArg some (by kernel_rfl))
  t4 := Tryd.underlying4
  a4 := Tryd.isAgg4
  z4 := Tryd.sizeOf4
  v4 := Tryd.zeroValue4
  t22 := Tryd.underlying22
  a22 := Tryd.isAgg22
  z22 := Tryd.sizeOf22
  v22 := Tryd.zeroValue22
  t5 := Tryd.underlying5
  i5 := by kernel_rfl }
open Go.RowKit Go.Lib in
/-- bytes.Clone: "Clone returns a copy of b[:len(b)]. The result may have additional unused capacity.": OF A SLICE THAT IS NOT nil IT RETURNS A SLICE THAT IS NOT nil, OF THE SAME BYTES, IN MEMORY OF THE CALL's OWN: in the how-to's words (6f): 'w'.ownsRow B e 1 v' n cells' · 'Below B w w'', B the heap's size at the call. b AT WHATEVER ADDRESS, its cells as 'open_ints' hands them ('a.add i'; the numbers 'xs'). No byte: no cell is asked for. (LAID: no walk: one application.) -/
theorem Tryd.bytes_Clone_at (a : Addr) (n c : Nat) (xs : List Int) (w : World) (hx : xs.length = n) (hbig : n ≤ 140737488355328) (hc : ∀ i, i < n → w.cell? (a.add i) = some (.int .u8 (xs.getD i 0))) :
    Calls Tryd.prog 38 #[.slice (some a) n c] w fun e w' => ∃ v', e = .returned v' ∧ w'.ownsRow w.heap.size 5 1 v' n (xs.map (Value.int .u8)) ∧ v' ≠ .slice none 0 0 ∧ Below w.heap.size w w' := Any.bytes_Clone_at Tryd.laysSlK4 a n c xs w hx hbig hc
open Go.RowKit Go.Lib in
/-- "Clone(nil) returns nil.": the world is as it was. (LAID: no walk: one application.) -/
theorem Tryd.bytes_Clone_nil (n c : Nat) (w : World) :
    Calls Tryd.prog 38 #[.slice none n c] w fun e w' => e = .returned (.slice none 0 0) ∧ w' = w := Any.bytes_Clone_nil Tryd.laysSlK4 n c w
def Tryd.keys52_ren : Go.Shelf.Ren := ⟨fun | 7 => 52 | 10 => 62 | n => n, fun | 23 => 55 | 26 => 9 | 3 => 61 | 28 => 85 | 0 => 0 | 27 => 84 | 33 => 74 | 4 => 4 | n => n, fun | n => n⟩
theorem Tryd.keys52 : Go.Proofs.SlLaysZ.n7 Tryd.prog Tryd.keys52_ren := {
  mixed := by kernel_rfl
  f7 := ⟨Tryd.f52.name, by decide, Tryd.func52.trans (congrArg some (by kernel_rfl))⟩
  f10 := ⟨Tryd.f62.name, by decide, Tryd.func62.trans (congrArg some (by kernel_rfl))⟩
  t0 := Tryd.underlying0
  a0 := Tryd.isAgg0
  z0 := Tryd.sizeOf0
  v0 := Tryd.zeroValue0
  t4 := Tryd.underlying4
  a4 := Tryd.isAgg4
  z4 := Tryd.sizeOf4
  v4 := Tryd.zeroValue4
  t23 := Tryd.underlying55
  a23 := Tryd.isAgg55
  z23 := Tryd.sizeOf55
  v23 := Tryd.zeroValue55
  t26 := Tryd.underlying9
  a26 := Tryd.isAgg9
  z26 := Tryd.sizeOf9
  v26 := Tryd.zeroValue9
  t27 := Tryd.underlying84
  a27 := Tryd.isAgg84
  z27 := Tryd.sizeOf84
  v27 := Tryd.zeroValue84
  t28 := Tryd.underlying85
  a28 := Tryd.isAgg85
  z28 := Tryd.sizeOf85
  v28 := Tryd.zeroValue85
  t33 := Tryd.underlying74
  a33 := Tryd.isAgg74
  z33 := Tryd.sizeOf74
  v33 := Tryd.zeroValue74 }
def Tryd.sorted51_ren : Go.Shelf.Ren := ⟨fun | 6 => 51 | 8 => 60 | 9 => 61 | 11 => 67 | 13 => 69 | 12 => 68 | 23 => 82 | 24 => 83 | 14 => 73 | 15 => 74 | 16 => 75 | 17 => 76 | 18 => 77 | 19 => 78 | 20 => 79 | 21 => 80 | 22 => 81 | 25 => 88 | 26 => 89 | 27 => 90 | 28 => 91 | 29 => 92 | 30 => 93 | 31 => 95 | n => n, fun | 26 => 9 | 28 => 85 | 24 => 23 | 0 => 0 | 3 => 3 | 37 => 102 | 48 => 114 | 50 => 116 | 4 => 4 | 40 => 106 | 39 => 105 | 45 => 111 | 5 => 5 | 9 => 9 | 51 => 124 | 55 => 128 | 57 => 130 | 58 => 131 | 33 => 74 | n => n, fun | n => n⟩
theorem Tryd.sorted51 : Go.Proofs.SlLaysZ.n6 Tryd.prog Tryd.sorted51_ren := {
  mixed := by kernel_rfl
  f6 := ⟨Tryd.f51.name, by decide, Tryd.func51.trans (congrArg some (by kernel_rfl))⟩
  f8 := ⟨Tryd.f60.name, by decide, Tryd.func60.trans (congrArg some (by kernel_rfl))⟩
  f11 := ⟨Tryd.f67.name, by decide, Tryd.func67.trans (congrArg some (by kernel_rfl))⟩
  t0 := Tryd.underlying0
  a0 := Tryd.isAgg0
  z0 := Tryd.sizeOf0
  v0 := Tryd.zeroValue0
  t24 := Tryd.underlying23
  a24 := Tryd.isAgg23
  z24 := Tryd.sizeOf23
  v24 := Tryd.zeroValue23
  t26 := Tryd.underlying9
  a26 := Tryd.isAgg9
  z26 := Tryd.sizeOf9
  v26 := Tryd.zeroValue9
  t28 := Tryd.underlying85
  a28 := Tryd.isAgg85
  z28 := Tryd.sizeOf85
  v28 := Tryd.zeroValue85
  i26 := by kernel_rfl }
def Tryd.sort61_ren : Go.Shelf.Ren := ⟨fun | 6 => 61 | 8 => 69 | 9 => 68 | 19 => 82 | 20 => 83 | 21 => 73 | 22 => 74 | 23 => 75 | 24 => 76 | 25 => 77 | 26 => 78 | 27 => 79 | 28 => 80 | 29 => 81 | 36 => 88 | 31 => 89 | 32 => 90 | 37 => 91 | 38 => 92 | 39 => 93 | 41 => 95 | n => n, fun | 27 => 23 | 29 => 9 | 3 => 3 | 32 => 102 | 26 => 23 | 0 => 0 | 44 => 114 | 46 => 116 | 4 => 4 | 36 => 106 | 35 => 105 | 41 => 111 | 5 => 5 | 9 => 9 | 53 => 124 | 57 => 128 | 63 => 130 | 64 => 131 | n => n, fun | n => n⟩
theorem Tryd.sort61 : Go.Proofs.SlLaysM.n6 Tryd.prog Tryd.sort61_ren := {
  mixed := by kernel_rfl
  f6 := ⟨Tryd.f61.name, by decide, Tryd.func61.trans (congrArg some (by kernel_rfl))⟩
  f8 := Tryd.func69.trans (congrArg some (by kernel_rfl))
  f9 := ⟨Tryd.f68.name, by decide, Tryd.func68.trans (congrArg some (by kernel_rfl))⟩
  f19 := Tryd.func82.trans (congrArg some (by kernel_rfl))
  f20 := Tryd.func83.trans (congrArg some (by kernel_rfl))
  f21 := ⟨Tryd.f73.name, by decide, Tryd.func73.trans (congrArg some (by kernel_rfl))⟩
  f22 := ⟨Tryd.f74.name, by decide, Tryd.func74.trans (congrArg some (by kernel_rfl))⟩
  f23 := ⟨Tryd.f75.name, by decide, Tryd.func75.trans (congrArg some (by kernel_rfl))⟩
  f24 := ⟨Tryd.f76.name, by decide, Tryd.func76.trans (congrArg some (by kernel_rfl))⟩
  f25 := ⟨Tryd.f77.name, by decide, Tryd.func77.trans (congrArg some (by kernel_rfl))⟩
  f26 := ⟨Tryd.f78.name, by decide, Tryd.func78.trans (congrArg some (by kernel_rfl))⟩
  f27 := ⟨Tryd.f79.name, by decide, Tryd.func79.trans (congrArg some (by kernel_rfl))⟩
  f28 := ⟨Tryd.f80.name, by decide, Tryd.func80.trans (congrArg some (by kernel_rfl))⟩
  f29 := ⟨Tryd.f81.name, by decide, Tryd.func81.trans (congrArg some (by kernel_rfl))⟩
  f31 := Tryd.func89.trans (congrArg some (by kernel_rfl))
  f32 := Tryd.func90.trans (congrArg some (by kernel_rfl))
  f36 := ⟨Tryd.f88.name, by decide, Tryd.func88.trans (congrArg some (by kernel_rfl))⟩
  f37 := ⟨Tryd.f91.name, by decide, Tryd.func91.trans (congrArg some (by kernel_rfl))⟩
  f38 := ⟨Tryd.f92.name, by decide, Tryd.func92.trans (congrArg some (by kernel_rfl))⟩
  f39 := ⟨Tryd.f93.name, by decide, Tryd.func93.trans (congrArg some (by kernel_rfl))⟩
  f41 := ⟨Tryd.f95.name, by decide, Tryd.func95.trans (congrArg some (by kernel_rfl))⟩
  t0 := Tryd.underlying0
  a0 := Tryd.isAgg0
  z0 := Tryd.sizeOf0
  v0 := Tryd.zeroValue0
  t3 := Tryd.underlying3
  a3 := Tryd.isAgg3
  z3 := Tryd.sizeOf3
  v3 := Tryd.zeroValue3
  t4 := Tryd.underlying4
  a4 := Tryd.isAgg4
  z4 := Tryd.sizeOf4
  v4 := Tryd.zeroValue4
  t5 := Tryd.underlying5
  a5 := Tryd.isAgg5
  z5 := Tryd.sizeOf5
  v5 := Tryd.zeroValue5
  t9 := Tryd.underlying9
  a9 := Tryd.isAgg9
  z9 := Tryd.sizeOf9
  v9 := Tryd.zeroValue9
  t26 := Tryd.underlying23
  a26 := Tryd.isAgg23
  z26 := Tryd.sizeOf23
  v26 := Tryd.zeroValue23
  t27 := Tryd.underlying23
  a27 := Tryd.isAgg23
  z27 := Tryd.sizeOf23
  v27 := Tryd.zeroValue23
  t29 := Tryd.underlying9
  a29 := Tryd.isAgg9
  z29 := Tryd.sizeOf9
  v29 := Tryd.zeroValue9
  t32 := Tryd.underlying102
  a32 := Tryd.isAgg102
  z32 := Tryd.sizeOf102
  v32 := Tryd.zeroValue102
  t35 := Tryd.underlying105
  a35 := Tryd.isAgg105
  z35 := Tryd.sizeOf105
  v35 := Tryd.zeroValue105
  t36 := Tryd.underlying106
  a36 := Tryd.isAgg106
  z36 := Tryd.sizeOf106
  v36 := Tryd.zeroValue106
  t41 := Tryd.underlying111
  a41 := Tryd.isAgg111
  z41 := Tryd.sizeOf111
  v41 := Tryd.zeroValue111
  t44 := Tryd.underlying114
  a44 := Tryd.isAgg114
  z44 := Tryd.sizeOf114
  v44 := Tryd.zeroValue114
  t46 := Tryd.underlying116
  a46 := Tryd.isAgg116
  z46 := Tryd.sizeOf116
  v46 := Tryd.zeroValue116
  t53 := Tryd.underlying124
  a53 := Tryd.isAgg124
  z53 := Tryd.sizeOf124
  v53 := Tryd.zeroValue124
  t57 := Tryd.underlying128
  a57 := Tryd.isAgg128
  z57 := Tryd.sizeOf128
  v57 := Tryd.zeroValue128
  t63 := Tryd.underlying130
  a63 := Tryd.isAgg130
  z63 := Tryd.sizeOf130
  v63 := Tryd.zeroValue130
  t64 := Tryd.underlying131
  a64 := Tryd.isAgg131
  z64 := Tryd.sizeOf131
  v64 := Tryd.zeroValue131 }
open Go.RowKit Go.Maps Go.Sort Go.Lib in
theorem Tryd.sorts51 (m : Nat) : AnyZ.SortsIn Tryd.prog Tryd.sorted51_ren Fence.wide m :=
  ⟨fun blk off cap ss W hH hblk hsz => callsIn_wide.2 (AnyM.slices_Sort_string Tryd.sort61 blk off cap ss W hH hblk hsz),
   fun p cap W => callsIn_wide.2 (AnyM.slices_Sort_string_none Tryd.sort61 p cap W)⟩
open Go.RowKit Go.Maps Go.Sort Go.Lib in
theorem Tryd.maps_Keys_52 (mb : Option Nat) (W : World) : CallsIn Fence.wide 5 Tryd.prog 52 #[.map mb] W fun e w' => e = .returned (.func (.func 62) #[] #[.pointer (some ⟨W.heap.size, 0, none⟩)]) ∧ w' = W.alloc (.cells #[.map mb] 55) :=
  AnyZ.keys_in Tryd.keys52 Fence.wide 5 trivial rfl mb W
open Go.RowKit Go.Maps Go.Sort Go.Lib in
theorem Tryd.slices_Sorted_keys_51_52 {H : Type} (b nn : Nat) (D0 : DataW H) (R : Value → Option (DataW H × List MemPlace)) (w : World) (hown : w.ownsMap Tryd.prog 9 R b nn D0) (hmax : Maps.size D0 ≤ maxLen) (hbytes : Maps.size D0 * 16 ≤ 140737488355328) :
    CallsIn Fence.wide 5 Tryd.prog 51 #[.func (.func 62) #[] #[.pointer (some ⟨w.heap.size, 0, none⟩)]] (w.alloc (.cells #[.map (some b)] 55)) fun e w' => ∃ (v : Value) (ss : List (List UInt8)), e = .returned v ∧ ss.Perm (strKeys D0) ∧
      w'.ownsRow (w.alloc (.cells #[.map (some b)] 55)).heap.size 9 1 v ss.length ((ss.mergeSort (fun x y => decide (x ≤ y))).map encStr) ∧ (v = .slice none 0 0 ↔ ss = []) ∧ Below (w.alloc (.cells #[.map (some b)] 55)).heap.size (w.alloc (.cells #[.map (some b)] 55)) w' := by
  have hbl := hown.lt
  have hseq : SeqGives Fence.wide 2 Tryd.prog 62 #[.pointer (some ⟨w.heap.size, 0, none⟩)] encStr (fun ss => ss.Perm (strKeys D0)) (Maps.size D0) (w.alloc (.cells #[.map (some b)] 55)) :=
    AnyZ.keys_gives (ρ := Tryd.keys52_ren) { Tryd.keys52 with } Fence.wide _ trivial rfl (by omega) w.heap.size b nn D0 _ (by simp) (by simp) (by
      obtain ⟨es, clock, hb, Ft, hs, hD⟩ := hown
      exact ⟨es, clock, (Below.heap_alloc _ _ b hbl).trans hb, Ft, hs, hD⟩)
  exact AnyZ.sorted_in Tryd.sorted51 Fence.wide 5 trivial trivial trivial trivial rfl (by omega) (Tryd.sorts51 _) (enters_of Tryd.func61 (by kernel_rfl) rfl) 62 #[.pointer (some ⟨w.heap.size, 0, none⟩)] trivial (enters_of Tryd.func62 (by kernel_rfl) rfl) _ _ hmax hbytes _ hseq
end Go.Proofs
end
section
/-
  A disk in memory: its state, what its calls may turn.
-/
namespace Go.Proofs.YtgcpiofpjogjcaaDoor.PK
open Go.RowKit Go.Maps Go.Proofs.YtgcpiofpjogjcaaDoorW.PrintWords
set_option linter.unusedVariables false
set_option linter.unusedSimpArgs false

/-- What a disk's calls may turn: blocks of 'own' alone. -/
structure Turn (own : Nat → Prop) (w w' : World) : Prop where
  os : w'.os = w.os
  tape : w'.tape = w.tape
  output : w'.output = w.output
  size : w.heap.size ≤ w'.heap.size
  block : ∀ k, k < w.heap.size → ¬ own k → w'.heap[k]? = w.heap[k]?
variable {own : Nat → Prop} {w w' : World}
theorem Turn.refl (own : Nat → Prop) (w : World) : Turn own w w := ⟨rfl, rfl, rfl, Nat.le_refl _, fun _ _ _ => rfl⟩
theorem Turn.trans {a b d : World} (h : Turn own a b) (k : Turn own b d) : Turn own a d :=
  ⟨k.os.trans h.os, k.tape.trans h.tape, k.output.trans h.output, Nat.le_trans h.size k.size, fun i hi hj => (k.block i (Nat.lt_of_lt_of_le hi h.size) hj).trans (h.block i hi hj)⟩
theorem Turn.of_below (h : Below w.heap.size w w') : Turn own w w' := ⟨h.os, h.tape, h.output, h.size, fun k hk _ => h.block k hk⟩
theorem Turn.drewN (h : Turn own w w') (n : Nat) : Turn own w (w'.drewN n) := ⟨h.os, h.tape, h.output, h.size, h.block⟩
theorem Turn.drew (h : Turn own w w') : Turn own w w'.drew := ⟨h.os, h.tape, h.output, h.size, h.block⟩
theorem Turn.of_grown {row : Option Nat} (h : w.grownBy w' row) (ho : ∀ k, row = some k → own k) : Turn own w w' :=
  ⟨h.os, h.tape, h.output, h.size, fun k hk hj => h.block k hk (fun e => hj (ho k e.symm))⟩
theorem Turn.setCell (a : Addr) (u : Value) (h : own a.block) : Turn own w (w.setCell a u) :=
  ⟨rfl, rfl, rfl, by simp [World.setCell], fun k hk hj => Below.heap_setCell _ _ _ _ (fun e => hj (by rw [e]; exact h))⟩
theorem Turn.alloc (o : Obj) : Turn own w (w.alloc o) := Turn.of_below ((Below.refl _ _).alloc (Nat.le_refl _) _)
theorem Turn.below {B : Nat} (h : Turn own w w') (ho : ∀ k, own k → B ≤ k) (hB : B ≤ w.heap.size) : Below B w w' :=
  ⟨h.os, h.tape, h.output, h.size, fun k hk => h.block k (by omega) (fun e => by have := ho k e; omega)⟩
/-- New blocks are the disk's to turn. -/
def Fresh (own : Nat → Prop) (w : World) : Prop := ∀ k, w.heap.size ≤ k → own k
theorem Fresh.step (h : Fresh own w) (hs : w.heap.size ≤ w'.heap.size) : Fresh own w' := fun k hk => h k (Nat.le_trans hs hk)

/-- A change of the directory: from, to, the file. -/
structure Chg where
  a : ByteArray
  b : ByteArray
  f : Option Nat
def chV (c : Chg) : List Value := [.string c.a, .string c.b, fileV c.f]
def key (s : ByteArray) : List UInt8 := s.data.toList
/-- A change that may stand in a disk: names of sane length; a name that comes has a file. -/
structure Chg.ok (c : Chg) : Prop where
  a : c.a.size ≤ 9223372036854775807
  b : c.b.size ≤ 9223372036854775807
  f : c.b ≠ ⟨#[]⟩ → ∃ f, c.f = some f
def applyC (l : Dir) (c : Chg) : Dir :=
  let l1 := if c.a = ⟨#[]⟩ then l else del l (key c.a)
  if c.b = ⟨#[]⟩ then l1 else match c.f with | some f => put l1 (key c.b) f | none => l1
structure Fat where
  step : Int
  kind : Int
  n : Int
def fateV (c : Fat) : List Value := [.int .i64 c.step, .int .i64 c.kind, .int .i64 c.n]

/-- A disk's state. -/
structure Dk where
  room : Int
  now : Dir
  safe : Dir
  chg : List Chg
  plan : List Fat
  steps : Int
  off : Bool
  fs : Nat → Prop
  dat : Nat → List Int
  saf : Nat → Nat

/-- The files that names or changes tell of. -/
def Dk.live (S : Dk) (f : Nat) : Prop := (∃ k, (k, f) ∈ S.now) ∨ (∃ k, (k, f) ∈ S.safe) ∨ (∃ c ∈ S.chg, c.f = some f)

/-- A file in memory. -/
structure FileIn (w : World) (own : Nat → Prop) (f : Nat) (p : Option Addr) (c : Nat) (xs : List Int) (s : Nat) : Prop where
  mine : own f
  blk : w.heap[f]? = some (.cells #[.slice p xs.length c, .int .i64 s] 63 (0, 0))
  row : w.ownsRow 0 5 1 (.slice p xs.length c) xs.length (nums .u8 xs)
  rown : ∀ a, p = some a → own a.block
  safe : s ≤ xs.length
  bys : ∀ x ∈ xs, 0 ≤ x ∧ x < 256
  short : xs.length ≤ 140737488355328
theorem ownsRow_kept {e size n base : Nat} {v : Value} {xs : List Value} (h : w.ownsRow base e size v n xs) (hb : ∀ g, v.ownBlock = some g → w'.heap[g]? = w.heap[g]?) : w'.ownsRow base e size v n xs := by
  obtain ⟨h1, h2⟩ := h
  refine ⟨h1, ?_⟩
  rcases h2 with h2 | ⟨g, cap, cur, hv, hg, hh, r⟩
  · exact .inl h2
  · exact .inr ⟨g, cap, cur, hv, hg, (hb g (by rw [hv]; rfl)).trans hh, r⟩
theorem FileIn.kept {f c s : Nat} {p : Option Addr} {xs : List Int} (h : FileIn w own f p c xs s) (hf : w'.heap[f]? = w.heap[f]?) (hp : ∀ a, p = some a → w'.heap[a.block]? = w.heap[a.block]?) : FileIn w' own f p c xs s :=
  ⟨h.mine, hf.trans h.blk, ownsRow_kept h.row (fun g hg => by
    cases p with
    | none => simp [Value.ownBlock] at hg
    | some a => simp only [Value.ownBlock, Option.some.injEq] at hg; rw [← hg]; exact hp a rfl), h.rown, h.safe, h.bys, h.short⟩
theorem FileIn.lt {f c s : Nat} {p : Option Addr} {xs : List Int} (h : FileIn w own f p c xs s) : f < w.heap.size := lt_of_block h.blk
theorem ownsRow_blk {e size n base : Nat} {a : Addr} {m c : Nat} {xs : List Value} (h : w.ownsRow base e size (.slice (some a) m c) n xs) : ∃ cur, w.heap[a.block]? = some (.cells cur e (0, 0)) := by
  rcases h.2 with ⟨h2, _⟩ | ⟨g, cap, cur, hv, hg, hh, r⟩
  · simp at h2
  · injection hv with hv
    injection hv with hv
    rw [hv]
    exact ⟨cur, hh⟩

/-- A disk in memory: d its block, bn and bs its maps, pc and pp its rows, pd and cd the files' rows. -/
structure DiskIn (w : World) (own : Nat → Prop) (d bn bs : Nat) (pc : Option Addr) (cc : Nat) (pp : Option Addr) (cp : Nat) (pd : Nat → Option Addr) (cd : Nat → Nat) (S : Dk) : Prop where
  blk : w.heap[d]? = some (.cells #[.int .i64 S.room, .map (some bn), .map (some bs), .slice pc S.chg.length cc, .slice pp S.plan.length cp, .int .i64 S.steps, .bool S.off] 58 (0, 0))
  now : DirAt w bn S.now.length S.now
  safe : DirAt w bs S.safe.length S.safe
  ne : bn ≠ bs
  chg : w.ownsRow 0 65 3 (.slice pc S.chg.length cc) S.chg.length (S.chg.flatMap chV)
  plan : w.ownsRow 0 73 3 (.slice pp S.plan.length cp) S.plan.length (S.plan.flatMap fateV)
  ref : ∀ f, S.live f → S.fs f
  files : ∀ f, S.fs f → FileIn w own f (pd f) (cd f) (S.dat f) (S.saf f)
  apart : ∀ f g, S.fs f → S.fs g → f ≠ g → ∀ a b, pd f = some a → pd g = some b → a.block ≠ b.block
  od : own d
  on : own bn
  os : own bs
  oc : ∀ a, pc = some a → own a.block
  op : ∀ a, pp = some a → own a.block
  room0 : 0 ≤ S.room
  room1 : S.room ≤ 16777216
  steps0 : 0 ≤ S.steps
  now1 : S.now.length ≤ 400
  chgs : ∀ c ∈ S.chg, c.ok
  fates : ∀ c ∈ S.plan, (Lit.int .i64 c.step).wf = true ∧ (Lit.int .i64 c.kind).wf = true ∧ (Lit.int .i64 c.n).wf = true

/-- All of the disk's blocks are as they were. -/
theorem DiskIn.kept {d bn bs cc cp : Nat} {pc pp : Option Addr} {pd : Nat → Option Addr} {cd : Nat → Nat} {S : Dk} (h : DiskIn w own d bn bs pc cc pp cp pd cd S) (hk : ∀ k, k < w.heap.size → w'.heap[k]? = w.heap[k]?) : DiskIn w' own d bn bs pc cc pp cp pd cd S where
  blk := (hk d (lt_of_block h.blk)).trans h.blk
  now := h.now.kept (hk bn h.now.lt)
  safe := h.safe.kept (hk bs h.safe.lt)
  ne := h.ne
  chg := ownsRow_kept h.chg (fun g hg => hk g (by
    cases pc with
    | none => simp [Value.ownBlock] at hg
    | some a => simp only [Value.ownBlock, Option.some.injEq] at hg; rw [← hg]; obtain ⟨cur, hc⟩ := ownsRow_blk h.chg; exact lt_of_block hc))
  plan := ownsRow_kept h.plan (fun g hg => hk g (by
    cases pp with
    | none => simp [Value.ownBlock] at hg
    | some a => simp only [Value.ownBlock, Option.some.injEq] at hg; rw [← hg]; obtain ⟨cur, hc⟩ := ownsRow_blk h.plan; exact lt_of_block hc))
  ref := h.ref
  files := fun f hf => (h.files f hf).kept (hk f (h.files f hf).lt) (fun a ha => hk _ (by
    have h1 := (h.files f hf).row
    rw [ha] at h1
    obtain ⟨cur, hc⟩ := ownsRow_blk h1
    exact lt_of_block hc))
  apart := h.apart
  od := h.od
  on := h.on
  os := h.os
  oc := h.oc
  op := h.op
  room0 := h.room0
  room1 := h.room1
  steps0 := h.steps0
  now1 := h.now1
  chgs := h.chgs
  fates := h.fates
theorem DiskIn.below {d bn bs cc cp : Nat} {pc pp : Option Addr} {pd : Nat → Option Addr} {cd : Nat → Nat} {S : Dk} (h : DiskIn w own d bn bs pc cc pp cp pd cd S) (hb : Below w.heap.size w w') : DiskIn w' own d bn bs pc cc pp cp pd cd S := h.kept hb.block

theorem ty_ne {w : World} {a b : Nat} {c1 c2 : Array Value} {t1 t2 : TypeId} {m1 m2 : Nat × Nat} (ha : w.heap[a]? = some (.cells c1 t1 m1)) (hb : w.heap[b]? = some (.cells c2 t2 m2)) (h : t1 ≠ t2) : a ≠ b := by
  rintro rfl
  rw [ha] at hb
  injection hb with hb
  injection hb with _ hb
  exact h hb
theorem map_ne {w : World} {a b : Nat} {c1 : Array Value} {t1 : TypeId} {m1 : Nat × Nat} {es : Array MapEntry} {c : Nat} (ha : w.heap[a]? = some (.cells c1 t1 m1)) (hb : w.heap[b]? = some (.map es c)) : a ≠ b := by
  rintro rfl
  rw [ha] at hb
  injection hb with hb
  cases hb
/-- A disk at block d. -/
def DiskAt (w : World) (own : Nat → Prop) (d : Nat) (S : Dk) : Prop := ∃ bn bs pc cc pp cp pd cd, DiskIn w own d bn bs pc cc pp cp pd cd S
theorem DiskAt.below {d : Nat} {S : Dk} (h : DiskAt w own d S) (hb : Below w.heap.size w w') : DiskAt w' own d S := by
  obtain ⟨bn, bs, pc, cc, pp, cp, pd, cd, h⟩ := h
  exact ⟨bn, bs, pc, cc, pp, cp, pd, cd, h.below hb⟩
end Go.Proofs.YtgcpiofpjogjcaaDoor.PK
end
section
/-
  The disk's small calls, walked: New, Steps, Loose, look, Size.
-/
namespace Go.Proofs.YtgcpiofpjogjcaaDoor.PK
open Go.RowKit Go.Maps Go.Proofs.YtgcpiofpjogjcaaDoorW.PrintWords
set_option linter.unusedVariables false
set_option linter.unusedSimpArgs false
variable {own : Nat → Prop}

def Dk.new (room : Int) : Dk := { room := min (max room 0) 16777216, now := [], safe := [], chg := [], plan := [], steps := 0, off := false, fs := fun _ => False, dat := fun _ => [], saf := fun _ => 0 }

theorem new_any (room : Int) (w : World) (hf : Fresh own w) :
    Calls Tryd.prog 6 #[.int .i64 room] w fun e w' => ∃ d, w.heap.size ≤ d ∧ e = .returned (.pointer (some ⟨d, 0, none⟩)) ∧ DiskAt w' own d (Dk.new room) ∧ Below w.heap.size w w' := by
  have hmk : ∀ w, (Instr.makeMap 55 none).run Tryd.prog w = .ok (.map (some w.heap.size)) (w.alloc (.map #[] 0)) := fun w => by kernel_rfl
  go_enter Tryd.func6, Tryd.ntmps6
  go_wp2
  go_ret
  have h0 : ∀ (o1 o2 o3 : Obj), (((w.alloc o1).alloc o2).alloc o3).heap[w.heap.size]? = some o1 ∧ (((w.alloc o1).alloc o2).alloc o3).heap[w.heap.size + 1]? = some o2 ∧ (((w.alloc o1).alloc o2).alloc o3).heap[w.heap.size + 1 + 1]? = some o3 := by
    intro o1 o2 o3
    refine ⟨?_, ?_, ?_⟩
    · rw [Below.heap_alloc _ _ _ (by simp; omega), Below.heap_alloc _ _ _ (by simp)]; exact heap_alloc_new w _
    · rw [Below.heap_alloc _ _ _ (by simp), show w.heap.size + 1 = (w.alloc o1).heap.size from by simp]; exact heap_alloc_new _ _
    · rw [show w.heap.size + 1 + 1 = ((w.alloc o1).alloc o2).heap.size from by simp]; exact heap_alloc_new _ _
  obtain ⟨h1, h2, h3⟩ := h0 (.map #[] 0) (.map #[] 0) (.cells #[Value.int IntKind.i64 (min (max room 0) 16777216), Value.map (some w.heap.size), Value.map (some (w.heap.size + 1)), Value.slice none 0 0, Value.slice none 0 0, Value.int IntKind.i64 0, Value.bool false] 58)
  refine ⟨w.heap.size + 1 + 1, by omega, rfl, ⟨w.heap.size, w.heap.size + 1, none, 0, none, 0, fun _ => none, fun _ => 0, ?_⟩, (((Below.refl _ _).alloc (Nat.le_refl _) _).alloc (by simp) _).alloc (by simp; omega) _⟩
  exact {
    blk := h3
    now := DirAt.empty h1
    safe := DirAt.empty h2
    ne := by omega
    chg := ⟨rfl, .inl ⟨rfl, rfl⟩⟩
    plan := ⟨rfl, .inl ⟨rfl, rfl⟩⟩
    ref := fun f hf => by
      rcases hf with ⟨k, hk⟩ | ⟨k, hk⟩ | ⟨c, hc, _⟩
      · simp [Dk.new] at hk
      · simp [Dk.new] at hk
      · simp [Dk.new] at hc
    files := fun f hf => hf.elim
    apart := fun f g _ _ _ a b ha => by simp at ha
    od := hf _ (by omega)
    on := hf _ (by omega)
    os := hf _ (by omega)
    oc := fun a ha => by simp at ha
    op := fun a ha => by simp at ha
    room0 := by simp only [Dk.new]; omega
    room1 := by simp only [Dk.new]; omega
    steps0 := by simp [Dk.new]
    now1 := by simp [Dk.new]
    chgs := fun c hc => by simp [Dk.new] at hc
    fates := fun c hc => by simp [Dk.new] at hc }

theorem seven_cells {w : World} {b : Nat} {a0 a1 a2 a3 a4 a5 a6 : Value} {t : TypeId} (h : w.heap[b]? = some (.cells #[a0, a1, a2, a3, a4, a5, a6] t (0, 0))) :
    w.cell? ⟨b, 0, none⟩ = some a0 ∧ w.cell? ⟨b, 1, none⟩ = some a1 ∧ w.cell? ⟨b, 2, none⟩ = some a2 ∧ w.cell? ⟨b, 3, none⟩ = some a3 ∧ w.cell? ⟨b, 4, none⟩ = some a4 ∧ w.cell? ⟨b, 5, none⟩ = some a5 ∧ w.cell? ⟨b, 6, none⟩ = some a6 := by
  refine ⟨?_, ?_, ?_, ?_, ?_, ?_, ?_⟩ <;> simp [World.cell?, h]
theorem all_free {w : World} {b : Nat} {cs : Array Value} {t : TypeId} (h : w.heap[b]? = some (.cells cs t (0, 0))) (i : Nat) : w.frozen? ⟨b, i, none⟩ = false := by simp [World.frozen?, h]

theorem steps_any (d : Nat) (S : Dk) (w : World) (h : DiskAt w own d S) :
    Calls Tryd.prog 24 #[.pointer (some ⟨d, 0, none⟩)] w fun e w' => e = .returned (.int .i64 S.steps) ∧ w = w' := by
  obtain ⟨bn, bs, pc, cc, pp, cp, pd, cd, h⟩ := h
  obtain ⟨c0, c1, c2, c3, c4, c5, c6⟩ := seven_cells h.blk
  go_enter Tryd.func24, Tryd.ntmps24
  go_wp2
  go_ret
  exact ⟨rfl, rfl⟩
/-- What look answers. -/
def Dk.find (S : Dk) (s : ByteArray) : Option Nat := if S.off then none else look S.now (key s)
def Dk.findErr (S : Dk) (s : ByteArray) : Int := if S.off then 140 else if look S.now (key s) = none then 143 else 0
theorem look_any (d : Nat) (S : Dk) (s : ByteArray) (w : World) (h : DiskAt w own d S) (hs : s.size ≤ 9223372036854775807) :
    Calls Tryd.prog 37 #[.pointer (some ⟨d, 0, none⟩), .string s] w fun e w' => e = .returned (.tuple #[fileV (S.find s), .int .i64 (S.findErr s)]) ∧ w = w' := by
  obtain ⟨bn, bs, pc, cc, pp, cp, pd, cd, h⟩ := h
  obtain ⟨c0, c1, c2, c3, c4, c5, c6⟩ := seven_cells h.blk
  have hnow := h.now
  unfold Dk.find Dk.findErr
  cases ho : S.off <;> rw [ho] at c6
  · cases hl : look S.now (key s) with
    | none =>
      go_enter Tryd.func37, Tryd.ntmps37
      go_wp2_with (at_lookup; refine wpList_lookup_dir _ rfl _ _ rfl bn _ S.now rfl hnow s rfl hs ?_; rw [show look S.now s.data.toList = _ from hl]; simp only [fileV])
      go_ret2
      exact ⟨rfl, rfl⟩
    | some f =>
      go_enter Tryd.func37, Tryd.ntmps37
      go_wp2_with (at_lookup; refine wpList_lookup_dir _ rfl _ _ rfl bn _ S.now rfl hnow s rfl hs ?_; rw [show look S.now s.data.toList = _ from hl]; simp only [fileV])
      go_ret2
      exact ⟨rfl, rfl⟩
  · cases hl : look S.now (key s) with
    | none =>
      go_enter Tryd.func37, Tryd.ntmps37
      go_wp2_with (at_lookup; refine wpList_lookup_dir _ rfl _ _ rfl bn _ S.now rfl hnow s rfl hs ?_; rw [show look S.now s.data.toList = _ from hl]; simp only [fileV])
      go_ret2
      exact ⟨rfl, rfl⟩
    | some f =>
      go_enter Tryd.func37, Tryd.ntmps37
      go_wp2_with (at_lookup; refine wpList_lookup_dir _ rfl _ _ rfl bn _ S.now rfl hnow s rfl hs ?_; rw [show look S.now s.data.toList = _ from hl]; simp only [fileV])
      go_ret2
      exact ⟨rfl, rfl⟩
theorem Dk.find_cases (S : Dk) (s : ByteArray) : (S.find s = none ∧ (S.findErr s = 140 ∨ S.findErr s = 143)) ∨ (∃ f, S.find s = some f ∧ look S.now (key s) = some f ∧ S.off = false ∧ S.findErr s = 0) := by
  unfold Dk.find Dk.findErr
  cases S.off
  · cases look S.now (key s)
    · simp
    · simp
  · simp
theorem live_now {S : Dk} {k : List UInt8} {f : Nat} (h : look S.now k = some f) : S.live f := .inl ⟨k, look_mem h⟩
theorem two_cells {w : World} {b : Nat} {a0 a1 : Value} {t : TypeId} (h : w.heap[b]? = some (.cells #[a0, a1] t (0, 0))) :
    w.cell? ⟨b, 0, none⟩ = some a0 ∧ w.cell? ⟨b, 1, none⟩ = some a1 := by
  refine ⟨?_, ?_⟩ <;> simp [World.cell?, h]
theorem size_any (d : Nat) (S : Dk) (s : ByteArray) (w : World) (h : DiskAt w own d S) (hs : s.size ≤ 9223372036854775807) :
    Calls Tryd.prog 13 #[.pointer (some ⟨d, 0, none⟩), .string s] w fun e w' => e = .returned (.tuple #[.int .i64 ((match S.find s with | some f => (S.dat f).length | none => 0 : Nat) : Int), .int .i64 (S.findErr s)]) ∧ w = w' := by
  rcases S.find_cases s with ⟨h1, h2 | h2⟩ | ⟨f, h1, h2, h3, h4⟩
  · have hl := look_any d S s w h hs
    rw [h1, h2] at hl ⊢
    simp only [fileV] at hl
    go_enter Tryd.func13, Tryd.ntmps13
    go_wp2_with (go_at_call 37; refine hl.mono ?_; rintro e w1 ⟨rfl, rfl⟩)
    go_ret2
    exact ⟨rfl, rfl⟩
  · have hl := look_any d S s w h hs
    rw [h1, h2] at hl ⊢
    simp only [fileV] at hl
    go_enter Tryd.func13, Tryd.ntmps13
    go_wp2_with (go_at_call 37; refine hl.mono ?_; rintro e w1 ⟨rfl, rfl⟩)
    go_ret2
    exact ⟨rfl, rfl⟩
  · have hl := look_any d S s w h hs
    rw [h1, h4] at hl ⊢
    simp only [fileV] at hl
    obtain ⟨bn, bs, pc, cc, pp, cp, pd, cd, h⟩ := h
    obtain ⟨f0, f1⟩ := two_cells (h.files f (h.ref f (live_now h2))).blk
    go_enter Tryd.func13, Tryd.ntmps13
    go_wp2_with (go_at_call 37; refine hl.mono ?_; rintro e w1 ⟨rfl, rfl⟩)
    go_ret2
    exact ⟨rfl, rfl⟩
end Go.Proofs.YtgcpiofpjogjcaaDoor.PK
end
section
/-
  A directory's changes, walked: apply.
-/
namespace Go.Proofs.YtgcpiofpjogjcaaDoor.PK
open Go.RowKit Go.Maps Go.Proofs.YtgcpiofpjogjcaaDoorW.PrintWords
set_option linter.unusedVariables false
set_option linter.unusedSimpArgs false
variable {own : Nat → Prop}

theorem DirAt.of_del {w : World} {b n : Nat} {l : Dir} {k : List UInt8} (h : w.ownsMap Tryd.prog 9 fileElem b n ((dmap l).del (.string k))) : DirAt w b n (del l k) := by
  rw [dmap_del] at h; exact h
theorem DirAt.of_put {w : World} {b n : Nat} {l : Dir} {k : List UInt8} {f : Nat} (h : w.ownsMap Tryd.prog 9 fileElem b n ((dmap l).put (.string k) (.held f))) : DirAt w b n (put l k f) := by
  rw [dmap_put] at h; exact h
theorem length_put (l : Dir) (k : List UInt8) (f : Nat) : (put l k f).length ≤ l.length + 1 := by
  unfold put
  rw [length_ins]
  have := length_del l k
  omega
theorem length_applyC (l : Dir) (c : Chg) : (applyC l c).length ≤ l.length + 1 := by
  unfold applyC
  have h1 : (if c.a = ⟨#[]⟩ then l else del l (key c.a)).length ≤ l.length := by
    split
    · exact Nat.le_refl _
    · exact length_del _ _
  simp only
  split
  · omega
  · split
    · have := length_put (if c.a = ⟨#[]⟩ then l else del l (key c.a)) (key c.b) (by assumption)
      omega
    · omega

theorem notEmpty {s : ByteArray} (h : s ≠ ⟨#[]⟩) : s.toList.isEmpty = false := by
  rw [ByteArray.toList_eq]
  cases hl : s.data.toList with
  | nil => exact absurd (by obtain ⟨d⟩ := s; obtain ⟨l⟩ := d; simp only at hl; rw [hl]) h
  | cons _ _ => rfl

set_option maxRecDepth 100000 in
theorem apply_any (b : Nat) (l : Dir) (c : Chg) (w : World) (h : DirAt w b l.length l) (hc : c.ok) (hn : l.length < 4611686018427387904) (ho : own b) :
    Calls Tryd.prog 44 #[.map (some b), .agg #[.string c.a, .string c.b, fileV c.f]] w fun e w' => e = .returned (.tuple #[]) ∧ DirAt w' b (applyC l c).length (applyC l c) ∧ Turn own w w' ∧ (∀ k, k < w.heap.size → k ≠ b → w'.heap[k]? = w.heap[k]?) := by
  obtain ⟨ca, cb, cf⟩ := c
  obtain ⟨ha, hb, hf⟩ := hc
  unfold applyC
  simp only at ha hb hf ⊢
  by_cases h1 : ca = ⟨#[]⟩ <;> by_cases h2 : cb = ⟨#[]⟩
  · subst h1; subst h2
    rw [if_pos rfl, if_pos rfl]
    go_enter Tryd.func44, Tryd.ntmps44
    go_wp2
    go_end0
    exact ⟨rfl, h.kept (Below.heap_alloc _ _ _ h.lt), Turn.alloc _, fun k hk _ => Below.heap_alloc _ _ _ hk⟩
  · subst h1
    have e2 := notEmpty h2
    obtain ⟨f, rfl⟩ := hf h2
    rw [if_pos rfl, if_neg h2]
    simp only [fileV]
    have ho1 : (w.alloc (.cells #[.string ⟨#[]⟩, .string cb, .pointer (some ⟨f, 0, none⟩)] 65)).ownsMap Tryd.prog 9 fileElem b l.length (dmap l) := World.ownsMap.alloc h _
    go_enter Tryd.func44, Tryd.ntmps44
    go_wp2_with (at_mapUpdate; refine wpList_mapUpdate_in _ rfl _ _ _ 55 rfl 9 61 law9 Tryd.underlying55 fileElem b l.length _ rfl ho1 (by unfold maxLen; omega) _ _ _ rfl rfl (key9 cb hb) (.held f) [] rfl ?_; intro w1 hown1 hturn1)
    go_end0
    have hg := hturn1.grown
    exact ⟨rfl, (DirAt.of_put hown1).tight, (Turn.alloc _).trans (Turn.of_grown hg (fun k hk => by injection hk with hk; rw [← hk]; exact ho)), fun k hk hkb => (hg.block k (by simp; omega) (fun e => hkb (by injection e))).trans (Below.heap_alloc _ _ _ hk)⟩
  · subst h2
    have e1 := notEmpty h1
    rw [if_neg h1, if_pos rfl]
    have hlb := h.lt
    have ho1 : (w.alloc (.cells #[.string ca, .string ⟨#[]⟩, fileV cf] 65)).ownsMap Tryd.prog 9 fileElem b l.length (dmap l) := World.ownsMap.alloc h _
    go_enter Tryd.func44, Tryd.ntmps44
    go_wp2_with (at_delete; refine wpList_delete_own _ rfl _ _ 55 9 rfl 61 law9 Tryd.underlying55 fileElem b l.length _ rfl ho1 _ _ rfl (key9 ca ha) ?_; intro w1 hown1 hturn1; have hg := hturn1.grown; have c0 := hg.cell_far ⟨w.heap.size, 1, none⟩ (by simp) (by simp; omega); have c1 := hg.cell_far ⟨w.heap.size, 2, none⟩ (by simp) (by simp; omega); simp [World.cell?_alloc_at] at c0 c1)
    go_end0
    exact ⟨rfl, (DirAt.of_del hown1).tight, (Turn.alloc _).trans (Turn.of_grown hg (fun k hk => by injection hk with hk; rw [← hk]; exact ho)), fun k hk hkb => (hg.block k (by simp; omega) (fun e => hkb (by injection e))).trans (Below.heap_alloc _ _ _ hk)⟩
  · have e1 := notEmpty h1
    have e2 := notEmpty h2
    obtain ⟨f, rfl⟩ := hf h2
    rw [if_neg h1, if_neg h2]
    simp only [fileV]
    have hlb := h.lt
    have ho1 : (w.alloc (.cells #[.string ca, .string cb, .pointer (some ⟨f, 0, none⟩)] 65)).ownsMap Tryd.prog 9 fileElem b l.length (dmap l) := World.ownsMap.alloc h _
    go_enter Tryd.func44, Tryd.ntmps44
    go_wp2_with (first
      | (at_delete; refine wpList_delete_own _ rfl _ _ 55 9 rfl 61 law9 Tryd.underlying55 fileElem b l.length _ rfl ho1 _ _ rfl (key9 ca ha) ?_; intro w1 hown1 hturn1; have hg := hturn1.grown; have c0 := hg.cell_far ⟨w.heap.size, 1, none⟩ (by simp) (by simp; omega); have c1 := hg.cell_far ⟨w.heap.size, 2, none⟩ (by simp) (by simp; omega); simp [World.cell?_alloc_at] at c0 c1)
      | (at_mapUpdate; refine wpList_mapUpdate_in _ rfl _ _ _ 55 rfl 9 61 law9 Tryd.underlying55 fileElem b l.length _ rfl hown1 (by unfold maxLen; omega) _ _ _ rfl rfl (key9 cb hb) (.held f) [] rfl ?_; intro w2 hown2 hturn2))
    go_end0
    have hg2 := hturn2.grown
    have hd := DirAt.of_del hown1
    exact ⟨rfl, (DirAt.of_put (l := del l (key ca)) (by rw [← dmap_del]; exact hown2)).tight, ((Turn.alloc _).trans (Turn.of_grown hg (fun k hk => by injection hk with hk; rw [← hk]; exact ho))).trans (Turn.of_grown hg2 (fun k hk => by injection hk with hk; rw [← hk]; exact ho)), fun k hk hkb => ((hg2.block k (by have := hg.size; simp at this; omega) (fun e => hkb (by injection e))).trans (hg.block k (by simp; omega) (fun e => hkb (by injection e)))).trans (Below.heap_alloc _ _ _ hk)⟩
end Go.Proofs.YtgcpiofpjogjcaaDoor.PK
end
section
/-
  A change of the directory, walked: alter.
-/
namespace Go.Proofs.YtgcpiofpjogjcaaDoor.PK
open Go.RowKit Go.Maps Go.Proofs.YtgcpiofpjogjcaaDoorW.PrintWords
set_option linter.unusedVariables false
set_option linter.unusedSimpArgs false
variable {own : Nat → Prop} {w w' : World}

theorem infoC : (Tryd.prog.info? 65).map (fun i => (i.zero, i.size, i.bytes)) = some (some (.agg #[.string ⟨#[]⟩, .string ⟨#[]⟩, .pointer none]), 3, 40) := by kernel_rfl
/-- The disk behind a change of its directory. -/
def Dk.alter (S : Dk) (c : Chg) : Dk := { S with now := applyC S.now c, chg := S.chg ++ [c] }

theorem mem_applyC {l : Dir} {c : Chg} {p : List UInt8 × Nat} (h : p ∈ applyC l c) : p ∈ l ∨ c.f = some p.2 := by
  unfold applyC at h
  have h1 : ∀ q, q ∈ (if c.a = ⟨#[]⟩ then l else del l (key c.a)) → q ∈ l := by
    intro q hq
    split at hq
    · exact hq
    · exact (mem_del.1 hq).1
  simp only at h
  split at h
  · exact .inl (h1 _ h)
  · split at h
    · rcases mem_put.1 h with rfl | h
      · exact .inr (by assumption)
      · exact .inl (h1 _ h.1)
    · exact .inl (h1 _ h)

theorem DiskIn.altered {d bn bs cc cp : Nat} {pc pp : Option Addr} {pd : Nat → Option Addr} {cd : Nat → Nat} {S : Dk} (h : DiskIn w own d bn bs pc cc pp cp pd cd S) (c : Chg) (hc : c.ok) (hcf : ∀ f, c.f = some f → S.fs f) (hlen : (applyC S.now c).length ≤ 400)
    {pc' : Option Addr} {cc' : Nat}
    (hblk : w'.heap[d]? = some (.cells #[.int .i64 S.room, .map (some bn), .map (some bs), .slice pc' (S.chg.length + 1) cc', .slice pp S.plan.length cp, .int .i64 S.steps, .bool S.off] 58 (0, 0)))
    (hnow : DirAt w' bn (applyC S.now c).length (applyC S.now c))
    (hchg : w'.ownsRow 0 65 3 (.slice pc' (S.chg.length + 1) cc') (S.chg.length + 1) (S.chg.flatMap chV ++ chV c)) (hoc : ∀ a, pc' = some a → own a.block)
    (hk : ∀ k, k < w.heap.size → k ≠ d → k ≠ bn → (∀ a, pc = some a → k ≠ a.block) → w'.heap[k]? = w.heap[k]?) :
    DiskIn w' own d bn bs pc' cc' pp cp pd cd (S.alter c) := by
  obtain ⟨en, cn, hen⟩ := h.now.map
  obtain ⟨es, cs, hes⟩ := h.safe.map
  have hpc : ∀ a, pc = some a → ∃ cur, w.heap[a.block]? = some (Obj.cells cur 65 (0, 0)) := fun a ha => by
    have := h.chg
    rw [ha] at this
    exact ownsRow_blk this
  have hcells : ∀ k cur t m, w.heap[k]? = some (Obj.cells cur t m) → t ≠ 58 → t ≠ 65 → w'.heap[k]? = w.heap[k]? := fun k cur t m hk1 ht1 ht2 =>
    hk k (lt_of_block hk1) (ty_ne hk1 h.blk ht1) (map_ne hk1 hen) (fun a ha => by obtain ⟨cur', hcur⟩ := hpc a ha; exact ty_ne hk1 hcur ht2)
  exact {
    blk := by
      have : (S.alter c).chg.length = S.chg.length + 1 := by simp [Dk.alter]
      rw [this]
      exact hblk
    now := hnow
    safe := h.safe.kept (hk bs h.safe.lt (fun e => map_ne h.blk hes e.symm) (fun e => h.ne e.symm) (fun a ha e => by obtain ⟨cur', hcur⟩ := hpc a ha; exact map_ne hcur hes e.symm))
    ne := h.ne
    chg := by
      have : (S.alter c).chg.length = S.chg.length + 1 := by simp [Dk.alter]
      rw [this, show (S.alter c).chg.flatMap chV = S.chg.flatMap chV ++ chV c from by simp [Dk.alter]]
      exact hchg
    plan := ownsRow_kept h.plan (fun g hg => by
      cases pp with
      | none => simp [Value.ownBlock] at hg
      | some a =>
        simp only [Value.ownBlock, Option.some.injEq] at hg
        subst hg
        obtain ⟨cur, hcur⟩ := ownsRow_blk h.plan
        exact hcells _ _ _ _ hcur (by decide) (by decide))
    ref := fun f hf => by
      rcases hf with ⟨k, hk⟩ | ⟨k, hk⟩ | ⟨c', hc', e⟩
      · rcases mem_applyC hk with hk | hk
        · exact h.ref f (.inl ⟨k, hk⟩)
        · exact hcf f hk
      · exact h.ref f (.inr (.inl ⟨k, hk⟩))
      · rcases List.mem_append.1 hc' with hc' | hc'
        · exact h.ref f (.inr (.inr ⟨c', hc', e⟩))
        · obtain rfl := List.mem_singleton.1 hc'
          exact hcf f e
    files := fun f hf => (h.files f hf).kept (hcells _ _ _ _ (h.files f hf).blk (by decide) (by decide)) (fun a ha => by
      have h1 := (h.files f hf).row
      rw [ha] at h1
      obtain ⟨cur, hcur⟩ := ownsRow_blk h1
      exact hcells _ _ _ _ hcur (by decide) (by decide))
    apart := h.apart
    od := h.od
    on := h.on
    os := h.os
    oc := hoc
    op := h.op
    room0 := h.room0
    room1 := h.room1
    steps0 := h.steps0
    now1 := hlen
    chgs := fun c' hc' => by
      rcases List.mem_append.1 hc' with hc' | hc'
      · exact h.chgs c' hc'
      · obtain rfl := List.mem_singleton.1 hc'
        exact hc
    fates := h.fates }

theorem block_setCell {w : World} {b i : Nat} {cs : Array Value} {u : Value} {t : TypeId} {m : Nat × Nat} (h : w.heap[b]? = some (Obj.cells cs t m)) : (w.setCell ⟨b, i, none⟩ u).heap[b]? = some (.cells (cs.setIfInBounds i u) t m) := by
  have hlt := lt_of_block h
  have h' : w.heap[b] = Obj.cells cs t m := by simpa [Array.getElem?_eq_getElem hlt] using h
  show (w.heap.modify b _)[b]? = _
  rw [Array.getElem?_eq_getElem (by simpa using hlt), Array.getElem_modify_self, h']
  rfl

set_option maxRecDepth 100000 in
set_option maxHeartbeats 3200000 in
theorem alter_any (d : Nat) (S : Dk) (c : Chg) (w : World) (h : DiskAt w own d S) (hfr : Fresh own w) (hc : c.ok) (hcf : ∀ f, c.f = some f → S.fs f) (hlen : (applyC S.now c).length ≤ 400) (hbig : S.chg.length ≤ 1099511627776) :
    Calls Tryd.prog 28 #[.pointer (some ⟨d, 0, none⟩), .agg #[.string c.a, .string c.b, fileV c.f]] w fun e w' => e = .returned (.int .i64 0) ∧ DiskAt w' own d (S.alter c) ∧ Turn own w w' := by
  obtain ⟨bn, bs, pc, cc, pp, cp, pd, cd, h⟩ := h
  obtain ⟨en, cn, hen⟩ := h.now.map
  obtain ⟨i0, hi0, hz0, hz1, hz2⟩ := info_parts infoC
  have ld := lt_of_block h.blk
  have nd : d ≠ bn := map_ne h.blk hen
  obtain ⟨c0, c1, c2, c3, c4, c5, c6⟩ := seven_cells h.blk
  have f3 := all_free h.blk 3
  have hn1 := h.now1
  obtain ⟨pf, hpf⟩ : ∃ pf, fileV c.f = .pointer pf := by cases c.f <;> exact ⟨_, rfl⟩
  have hchv : chV c = [.string c.a, .string c.b, .pointer pf] := by rw [← hpf]; rfl
  rw [hpf]
  obtain ⟨wb, hwb⟩ : ∃ wb, wb = w.alloc (.cells #[.string c.a, .string c.b, .pointer pf] 65) := ⟨_, rfl⟩
  have hwbs : wb.heap.size = w.heap.size + 1 := by rw [hwb]; simp
  have hbb : Below w.heap.size w wb := by rw [hwb]; exact (Below.refl _ _).alloc (Nat.le_refl _) _
  have hap := apply_any (own := own) bn S.now c wb.drew (h.now.kept (hbb.block _ h.now.lt)) hc (by omega) h.on
  rw [hpf] at hap
  have e1 := (hbb.cell (p := ⟨d, 1, none⟩) ld).trans c1
  obtain ⟨p0, p1, p2⟩ : wb.cell? ⟨w.heap.size, 0, none⟩ = some (.string c.a) ∧ wb.cell? ⟨w.heap.size, 1, none⟩ = some (.string c.b) ∧ wb.cell? ⟨w.heap.size, 2, none⟩ = some (.pointer pf) := by
    rw [hwb]
    refine ⟨?_, ?_, ?_⟩ <;> simp [World.cell?_alloc_at]
  have e3 := (hbb.cell (p := ⟨d, 3, none⟩) ld).trans c3
  have g3 := (hbb.frozen (p := ⟨d, 3, none⟩) ld).trans f3
  have lbn := h.now.lt
  have hH := Lib.hid h; have hHN := Lib.hid hen
  clear h hen
  go_enter Tryd.func28, Tryd.ntmps28
  go_wp2
  simp only [← hwb]
  have HWB := Lib.hid hwb
  clear hwb
  go_region_held3 (fun w' => w'.cell? ⟨d, 1, none⟩ = some (.map (some bn)) ∧ w'.cell? ⟨w.heap.size, 0, none⟩ = some (.string c.a) ∧ w'.cell? ⟨w.heap.size, 1, none⟩ = some (.string c.b) ∧ w'.cell? ⟨w.heap.size, 2, none⟩ = some (.pointer pf))
    (go_keep)
    (first | (go_at_call 44; refine hap.mono ?_; rintro e w2 ⟨rfl, hd2, ht2, hk2⟩; have hq : ∀ (a : Addr), a.block < w.heap.size + 1 → a.block ≠ bn → w2.heap[a.block]? = wb.heap[a.block]? := fun a hl hn => hk2 a.block (by rw [show wb.drew.heap.size = wb.heap.size from rfl, hwbs]; exact hl) hn; have q1 := (World.cell?_of_block (w := wb) (hq ⟨d, 1, none⟩ (by simp; omega) nd)).trans e1; have q2 := (World.cell?_of_block (w := wb) (hq ⟨w.heap.size, 0, none⟩ (by simp) (by simp; omega))).trans p0; have q3 := (World.cell?_of_block (w := wb) (hq ⟨w.heap.size, 1, none⟩ (by simp) (by simp; omega))).trans p1; have q4 := (World.cell?_of_block (w := wb) (hq ⟨w.heap.size, 2, none⟩ (by simp) (by simp; omega))).trans p2; have q5 := (World.cell?_of_block (w := wb) (hq ⟨d, 3, none⟩ (by simp; omega) nd)).trans e3; have q6 := (World.frozen?_of_block (w := wb) (hq ⟨d, 3, none⟩ (by simp; omega) nd)).trans g3))
  go_wp2
  have ldt := lt_of_block hH.out.blk
  have hpcb : ∀ a, pc = some a → a.block < w.heap.size ∧ a.block ≠ bn ∧ a.block ≠ d := fun a ha => by
    have h1 := hH.out.chg
    rw [ha] at h1
    obtain ⟨cur, hcur⟩ := ownsRow_blk h1
    exact ⟨lt_of_block hcur, map_ne hcur hHN.out, ty_ne hcur hH.out.blk (by decide)⟩
  have hown : w2.ownsRow 0 65 3 (.slice pc S.chg.length cc) S.chg.length (S.chg.flatMap chV) := ownsRow_kept hH.out.chg (fun g hg => by
    cases hpc : pc with
    | none => rw [hpc] at hg; simp [Value.ownBlock] at hg
    | some a =>
      rw [hpc] at hg
      simp only [Value.ownBlock, Option.some.injEq] at hg
      subst hg
      obtain ⟨h1, h2, h3⟩ := hpcb a hpc
      exact (hq a (by omega) h2).trans (hbb.block _ h1))
  have ld2 : d < w2.heap.size := by have := ht2.size; have : wb.drew.heap.size = w.heap.size + 1 := hwbs; omega
  have lw2 : w.heap.size < w2.heap.size := by have := ht2.size; have : wb.drew.heap.size = w.heap.size + 1 := hwbs; omega
  have npd : some d ≠ (Value.slice pc S.chg.length cc).ownBlock := by
    cases hpc : pc with
    | none => simp [Value.ownBlock]
    | some a => simp only [Value.ownBlock, ne_eq, Option.some.injEq]; exact fun e => (hpcb a hpc).2.2 e.symm
  have npw : some w.heap.size ≠ (Value.slice pc S.chg.length cc).ownBlock := by
    cases hpc : pc with
    | none => simp [Value.ownBlock]
    | some a => simp only [Value.ownBlock, ne_eq, Option.some.injEq]; exact fun e => by have := (hpcb a hpc).1; omega
  have z1 : (w2.alloc (Obj.cells #[Value.string c.a, Value.string c.b, Value.pointer pf] 65)).drew.frozen? ⟨d, 3, none⟩ = false := (World.frozen?_of_block (w := w2) (w' := (w2.alloc (Obj.cells #[Value.string c.a, Value.string c.b, Value.pointer pf] 65)).drew) (a := ⟨d, 3, none⟩) (Below.heap_alloc _ _ _ ld2)).trans q6
  have z0 : (w2.alloc (Obj.cells #[Value.string c.a, Value.string c.b, Value.pointer pf] 65)).frozen? ⟨d, 3, none⟩ = false := z1
  have z3 : (w2.alloc (Obj.cells #[Value.string c.a, Value.string c.b, Value.pointer pf] 65)).drew.cell? ⟨d, 3, none⟩ = some (.slice pc S.chg.length cc) := (World.cell?_of_block (w := w2) (w' := (w2.alloc (Obj.cells #[Value.string c.a, Value.string c.b, Value.pointer pf] 65)).drew) (a := ⟨d, 3, none⟩) (Below.heap_alloc _ _ _ ld2)).trans q5
  have HT2 := Lib.hid ht2; have HK2 := Lib.hid hk2; have HPC := Lib.hid hpcb
  clear ht2 hk2 hq hpcb hap
  go_region_law
    ((refine step_append_lies _ (by rfl) _ _ _ (by rfl) 0 65 i0 _ 3 40 Tryd.underlying56 hi0 hz0 hz1 hz2 rfl (by omega) (.slice pc S.chg.length cc) S.chg.length _ (by rfl) ((hown.alloc _).drew)
        ⟨w2.heap.size, 0, none⟩ 1 1 [.string c.a, .string c.b, .pointer pf] (by rfl) (by rfl) (World.news_of_block (cs := #[.string c.a, .string c.b, .pointer pf]) (t := 65) (fr := (0, 0)) (heap_alloc_new w2 _)) (by simp [Value.oneCell'])
        (by omega) (by unfold maxLen; omega) (by omega) (by omega) (w2.heap.size + 1) (by simp) ?_; intro gg cap w3 hown3 hgrow hat hlt; have y0 := hgrow.frozen_far ⟨d, 3, none⟩ (by simp; omega) npd; have y1 := hgrow.cell_far ⟨d, 3, none⟩ (by simp; omega) npd; have y2 : w3.frozen? ⟨d, 3, none⟩ = false := y0.trans z1; have y3 : w3.cell? ⟨d, 3, none⟩ = some (.slice pc S.chg.length cc) := y1.trans z3))
  all_goals go_wp2
  all_goals go_ret
  all_goals
    have hh := hH.out
    have hal : ∀ k, k < w2.heap.size → (w2.alloc (Obj.cells #[Value.string c.a, Value.string c.b, Value.pointer pf] 65)).drew.heap[k]? = w2.heap[k]? := fun k hk => Below.heap_alloc _ _ _ hk
    have hs2 : (w2.alloc (Obj.cells #[Value.string c.a, Value.string c.b, Value.pointer pf] 65)).drew.heap.size = w2.heap.size + 1 := by simp
    have hw2 : ∀ k, k < w.heap.size → k ≠ bn → w2.heap[k]? = w.heap[k]? := fun k hk hkb => (HK2.out k (by have : wb.drew.heap.size = w.heap.size + 1 := hwbs; omega) hkb).trans (hbb.block k hk)
    have hw3 : ∀ k, k < w.heap.size → k ≠ bn → (∀ a, pc = some a → k ≠ a.block) → w3.heap[k]? = w.heap[k]? := fun k hk hkb hkp => ((hgrow.block k (by omega) (by
      cases pc with
      | none => simp [Value.ownBlock]
      | some a => simp only [Value.ownBlock, ne_eq, Option.some.injEq]; exact hkp a rfl)).trans (hal k (by omega))).trans (hw2 k hk hkb)
    have hd3 : w3.heap[d]? = _ := (hw3 d ldt nd (fun a ha => ((HPC.out a ha).2.2).symm)).trans hh.blk
    have hgg : ∃ cur, w3.heap[gg]? = some (Obj.cells cur 65 (0, 0)) := ownsRow_blk hown3
    obtain ⟨cur, hcur⟩ := hgg
    have ngd : gg ≠ d := ty_ne hcur hd3 (by decide)
    refine ⟨rfl, ⟨bn, bs, some ⟨gg, 0, none⟩, cap, pp, cp, pd, cd, DiskIn.altered hh c hc hcf hlen (block_setCell hd3) ?_ ?_ ?_ ?_⟩, ?_⟩
    · refine hd2.kept (((Below.heap_setCell _ _ _ _ (Ne.symm nd)).trans (hgrow.block bn (by omega) ?_)).trans (hal bn (by omega)))
      cases pc with
      | none => simp [Value.ownBlock]
      | some a => simp only [Value.ownBlock, ne_eq, Option.some.injEq]; exact ((HPC.out a rfl).2.1).symm
    · rw [hchv]
      exact ownsRow_kept hown3 (fun g hg => by
        simp only [Value.ownBlock, Option.some.injEq] at hg
        rw [← hg]
        exact Below.heap_setCell _ _ _ _ ngd)
    · intro a ha
      simp only [Option.some.injEq] at ha
      rw [← ha]
      rcases hat with hat | hat
      · cases pc with
        | none => simp [Value.ownBlock] at hat
        | some a' =>
          simp only [Value.ownBlock, Option.some.injEq] at hat
          have := hh.oc a' rfl
          rw [hat] at this
          exact this
      · exact hfr _ (by simp only; omega)
    · intro k hk hkd hkb hkp
      exact (Below.heap_setCell _ _ _ _ hkd).trans (hw3 k hk hkb hkp)
    · have t1 : Turn own w wb.drew := by rw [HWB.out]; exact (Turn.alloc _).drew
      have t2 : Turn own w2 (w2.alloc (Obj.cells #[Value.string c.a, Value.string c.b, Value.pointer pf] 65)).drew := (Turn.alloc _).drew
      refine (((t1.trans HT2.out).trans t2).trans (Turn.of_grown hgrow (fun k hk => ?_))).trans (Turn.setCell _ _ hh.od)
      cases pc with
      | none => simp [Value.ownBlock] at hk
      | some a =>
        simp only [Value.ownBlock, Option.some.injEq] at hk
        rw [← hk]
        exact hh.oc a rfl
end Go.Proofs.YtgcpiofpjogjcaaDoor.PK
end
section
/-
  Names, walked: badName, refuse.
-/
namespace Go.Proofs.YtgcpiofpjogjcaaDoor.PK
open Go.RowKit Go.Maps Go.Proofs.YtgcpiofpjogjcaaDoorW.PrintWords
set_option linter.unusedVariables false
set_option linter.unusedSimpArgs false
variable {own : Nat → Prop} {w w' : World}

/-- The bytes that a name may have. -/
def cutB : ByteArray := ⟨#[97, 98, 99, 100, 101, 102, 103, 104, 105, 106, 107, 108, 109, 110, 111, 112, 113, 114, 115, 116, 117, 118, 119, 120, 121, 122, 48, 49, 50, 51, 52, 53, 54, 55, 56, 57, 46, 95, 45]⟩
theorem cut_ascii : ∀ (j : Nat) b, cutB.data.toList[j]? = some b → b.toNat < 128 := ascii_of_all (by decide +kernel)
def trimmed (s : ByteArray) : ByteArray := ⟨(Lib.trimS s.data.toList cutB.data.toList).toArray⟩
/-- No file's name. -/
def bad (s : ByteArray) : Bool := decide (s = ⟨#[]⟩) || (decide (40 < s.size) || decide (trimmed s ≠ ⟨#[]⟩))

set_option maxRecDepth 100000 in
theorem badName_any (s : ByteArray) (w : World) (hs : s.size ≤ 9223372036854775807) :
    Calls Tryd.prog 41 #[.string s] w fun e w' => e = .returned (.bool (bad s)) ∧ Below w.heap.size w w' := by
  have ht := Tryd.strings_Trim s cutB w hs (by decide +kernel) cut_ascii
  rw [show (⟨(Lib.trimS s.data.toList cutB.data.toList).toArray⟩ : ByteArray) = trimmed s from rfl] at ht
  by_cases h0 : s = ⟨#[]⟩
  · subst h0
    go_enter Tryd.func41, Tryd.ntmps41
    go_wp2
    go_ret
    exact ⟨by simp [bad], Below.refl _ _⟩
  · have e0 := notEmpty h0
    by_cases h1 : 40 < s.size
    · have hb : bad s = true := by simp [bad, h1]
      rw [hb]
      go_enter Tryd.func41, Tryd.ntmps41
      go_wp2
      go_ret
      exact ⟨rfl, Below.refl _ _⟩
    · by_cases h2 : trimmed s = ⟨#[]⟩
      · have hb : bad s = false := by simp [bad, h0, h1, h2]
        rw [hb]
        rw [h2] at ht
        unfold cutB at ht
        go_enter Tryd.func41, Tryd.ntmps41
        go_wp2_with (go_at_call 48; refine ht.mono ?_; rintro e w1 ⟨rfl, hw⟩)
        go_ret
        exact ⟨by simp; omega, hw⟩
      · have hb : bad s = true := by simp [bad, h2]
        rw [hb]
        have e2 := notEmpty h2
        unfold cutB at ht
        go_enter Tryd.func41, Tryd.ntmps41
        go_wp2_with (go_at_call 48; refine ht.mono ?_; rintro e w1 ⟨rfl, hw⟩)
        go_ret
        exact ⟨rfl, hw⟩

/-- Why a file can't be made. -/
def Dk.refuse (S : Dk) (s : ByteArray) : Int := if bad s then 145 else if look S.now (key s) ≠ none then 144 else if 400 ≤ S.now.length then 142 else 0
set_option maxRecDepth 100000 in
theorem refuse_any (d : Nat) (S : Dk) (s : ByteArray) (w : World) (h : DiskAt w own d S) (hs : s.size ≤ 9223372036854775807) :
    Calls Tryd.prog 27 #[.pointer (some ⟨d, 0, none⟩), .string s] w fun e w' => e = .returned (.int .i64 (S.refuse s)) ∧ Below w.heap.size w w' := by
  obtain ⟨bn, bs, pc, cc, pp, cp, pd, cd, h⟩ := h
  have ht := badName_any s w hs
  unfold Dk.refuse
  cases hb : bad s
  · rw [hb] at ht
    rw [if_neg (by simp)]
    have hl : ∀ w1, Below w.heap.size w w1 → DirAt w1 bn S.now.length S.now ∧ w1.cell? ⟨d, 1, none⟩ = some (.map (some bn)) := fun w1 hw => ⟨h.now.kept (hw.block _ h.now.lt), (hw.cell (p := ⟨d, 1, none⟩) (lt_of_block h.blk)).trans (seven_cells h.blk).2.1⟩
    clear h
    cases hf : look S.now (key s) with
    | some f =>
      rw [if_pos (by simp)]
      go_enter Tryd.func27, Tryd.ntmps27
      go_wp2_with (first
        | (go_at_call 41; refine ht.mono ?_; rintro e w1 ⟨rfl, hw⟩; obtain ⟨hn1, c1⟩ := hl w1 hw)
        | (at_lookup; refine wpList_lookup_dir _ rfl _ _ rfl bn _ S.now rfl hn1 s rfl hs ?_; rw [show look S.now s.data.toList = _ from hf]; simp only [fileV]))
      go_ret
      exact ⟨rfl, hw⟩
    | none =>
      rw [if_neg (by simp)]
      by_cases hn : 400 ≤ S.now.length
      · rw [if_pos hn]
        go_enter Tryd.func27, Tryd.ntmps27
        go_wp2_with (first
          | (go_at_call 41; refine ht.mono ?_; rintro e w1 ⟨rfl, hw⟩; obtain ⟨hn1, c1⟩ := hl w1 hw)
          | (at_lookup; refine wpList_lookup_dir _ rfl _ _ rfl bn _ S.now rfl hn1 s rfl hs ?_; rw [show look S.now s.data.toList = _ from hf]; simp only [fileV])
          | (at_len; refine wpList_len_own _ rfl _ 55 rfl 9 61 Tryd.underlying55 fileElem bn _ _ rfl hn1 ?_; rw [dmap_size]))
        go_ret
        exact ⟨rfl, hw⟩
      · rw [if_neg hn]
        go_enter Tryd.func27, Tryd.ntmps27
        go_wp2_with (first
          | (go_at_call 41; refine ht.mono ?_; rintro e w1 ⟨rfl, hw⟩; obtain ⟨hn1, c1⟩ := hl w1 hw)
          | (at_lookup; refine wpList_lookup_dir _ rfl _ _ rfl bn _ S.now rfl hn1 s rfl hs ?_; rw [show look S.now s.data.toList = _ from hf]; simp only [fileV])
          | (at_len; refine wpList_len_own _ rfl _ 55 rfl 9 61 Tryd.underlying55 fileElem bn _ _ rfl hn1 ?_; rw [dmap_size]))
        go_ret
        exact ⟨rfl, hw⟩
  · rw [hb] at ht
    rw [if_pos rfl]
    go_enter Tryd.func27, Tryd.ntmps27
    go_wp2_with (go_at_call 41; refine ht.mono ?_; rintro e w1 ⟨rfl, hw⟩)
    go_ret
    exact ⟨rfl, hw⟩
end Go.Proofs.YtgcpiofpjogjcaaDoor.PK
end
section
/-
  The bytes of all files, walked: Used.
-/
namespace Go.Proofs.YtgcpiofpjogjcaaDoor.PK
open Go.RowKit Go.Maps Go.Proofs.YtgcpiofpjogjcaaDoorW.PrintWords
set_option linter.unusedVariables false
set_option linter.unusedSimpArgs false
variable {own : Nat → Prop} {w w' : World}

theorem DirAt.nodup {b n : Nat} {l : Dir} (h : DirAt w b n l) : l.Pairwise (fun p q => p.1 ≠ q.1) := by
  obtain ⟨es, he, hp, _⟩ := World.ownsMap.entries h law9
  unfold dmap at he
  injection he with he
  rw [← he, List.pairwise_map] at hp
  exact hp.imp (fun h e => h (by rw [e]))
/-- The bytes of a directory's files, of those alone whose names are left. -/
def sumL (dat : Nat → List Int) (left : Lit → Bool) : Dir → Nat
  | [] => 0
  | p :: l => (if left (.string p.1) = true then (dat p.2).length else 0) + sumL dat left l
def used (dat : Nat → List Int) : Dir → Nat
  | [] => 0
  | p :: l => (dat p.2).length + used dat l
theorem sumL_all (dat : Nat → List Int) (left : Lit → Bool) (l : Dir) (h : ∀ p ∈ l, left (.string p.1) = true) : sumL dat left l = used dat l := by
  induction l with
  | nil => rfl
  | cons p l ih =>
    rw [sumL, used, if_pos (h p (List.mem_cons_self ..)), ih (fun q hq => h q (List.mem_cons_of_mem _ hq))]
theorem sumL_none (dat : Nat → List Int) (left : Lit → Bool) (l : Dir) (h : ∀ kl, left kl = false) : sumL dat left l = 0 := by
  induction l with
  | nil => rfl
  | cons p l ih => rw [sumL, if_neg (by rw [h]; simp), ih]
theorem sumL_le (dat : Nat → List Int) (left : Lit → Bool) (l : Dir) : sumL dat left l ≤ used dat l := by
  induction l with
  | nil => simp [sumL, used]
  | cons p l ih =>
    rw [sumL, used]
    split <;> omega
theorem sumL_congr (dat : Nat → List Int) {l1 l2 : Lit → Bool} (l : Dir) (h : ∀ p ∈ l, l1 (.string p.1) = l2 (.string p.1)) : sumL dat l1 l = sumL dat l2 l := by
  induction l with
  | nil => rfl
  | cons p l ih =>
    rw [sumL, sumL, h p (List.mem_cons_self ..), ih (fun q hq => h q (List.mem_cons_of_mem _ hq))]
theorem sumL_step (dat : Nat → List Int) (left : Lit → Bool) (k : List UInt8) (f : Nat) : ∀ (l : Dir), l.Pairwise (fun p q => p.1 ≠ q.1) → look l k = some f → left (.string k) = true →
    sumL dat left l = sumL dat (fun z => left z && !z.sameKey (.string k)) l + (dat f).length := by
  intro l
  induction l with
  | nil => intro _ h; simp [look] at h
  | cons p l ih =>
    intro hp hl hk
    rw [List.pairwise_cons] at hp
    have hsame : ∀ q : List UInt8 × Nat, (Lit.string q.1).sameKey (.string k) = (q.1 == k) := fun q => rfl
    by_cases e : p.1 = k
    · have hf : p.2 = f := by
        unfold look at hl
        rw [List.find?_cons_of_pos (by simp [e])] at hl
        simpa using hl
      have hrest : sumL dat (fun z => left z && !z.sameKey (.string k)) l = sumL dat left l := sumL_congr dat l (fun q hq => by
        have : (q.1 == k) = false := by simpa using fun h => hp.1 q hq (e.trans h.symm)
        simp only [hsame, this, Bool.not_false, Bool.and_true])
      rw [sumL, sumL, if_pos (by rw [e]; exact hk), if_neg (by simp only [hsame, e]; simp [Lit.sameKey]), hrest, hf]
      omega
    · have hl2 : look l k = some f := by
        unfold look at hl ⊢
        rw [List.find?_cons_of_neg (by simp [e])] at hl
        exact hl
      have ih := ih hp.2 hl2 hk
      have h1 : (left (.string p.1) && !(Lit.string p.1).sameKey (.string k)) = left (.string p.1) := by
        have : (p.1 == k) = false := by simpa using e
        simp only [hsame, this, Bool.not_false, Bool.and_true]
      rw [sumL, sumL, h1, ih]
      omega
theorem used_small (dat : Nat → List Int) (l : Dir) (h : ∀ p ∈ l, (dat p.2).length ≤ 140737488355328) : used dat l ≤ l.length * 140737488355328 := by
  induction l with
  | nil => simp [used]
  | cons p l ih =>
    have h1 := h p (List.mem_cons_self ..)
    have h2 := ih (fun q hq => h q (List.mem_cons_of_mem _ hq))
    simp only [used, List.length_cons]
    omega
theorem look_at {l : Dir} {k : List UInt8} {y : DataW Nat} (h : ∀ zd, (dmap l).atKey (.string k) zd = y) : ∃ f, look l k = some f ∧ y = .held f := by
  have h1 := h .nil
  rw [dmap_look] at h1
  cases hl : look l k with
  | some f => rw [hl] at h1; exact ⟨f, rfl, h1.symm⟩
  | none =>
    exfalso
    rw [hl] at h1
    have h2 := h (.held 0)
    have : (dmap l).atKey (.string k) (.held 0) = .held 0 := by
      unfold dmap DataW.atKey
      unfold look at hl
      simp only [Option.map_eq_none_iff] at hl
      simp only [List.find?_map]
      rw [show ((fun p : Lit × DataW Nat => p.1.sameKey (.string k)) ∘ fun p : List UInt8 × Nat => ((.string p.1 : Lit), (.held p.2 : DataW Nat))) = fun p => p.1 == k from rfl, hl]
      rfl
    rw [this, ← h1] at h2
    cases h2

theorem ret_int {k : IntKind} {a b : Int} (h : a = b) : Ending.returned (.int k a) = .returned (.int k b) := by rw [h]
theorem invK9 : ∀ key kl, keyOf Tryd.prog 9 key = some kl → ∃ x : ByteArray, key = .string x := fun key kl h => by
  exact Maps.keyOf_string_inv Tryd.underlying9 h
theorem invV9 : ∀ (v : Value) (y : DataW Nat × List MemPlace), fileElem v = some y → ∃ c, v = fileV c := fun v y h => by
  unfold fileElem at h
  split at h
  · exact ⟨none, rfl⟩
  · exact ⟨some _, rfl⟩
  · simp at h

set_option maxRecDepth 100000 in
set_option maxHeartbeats 1600000 in
theorem used_any (d : Nat) (S : Dk) (w : World) (h : DiskAt w own d S) :
    Calls Tryd.prog 31 #[.pointer (some ⟨d, 0, none⟩)] w fun e w' => e = .returned (.int .i64 (used S.dat S.now : Nat)) ∧ Below w.heap.size w w' := by
  obtain ⟨bn, bs, pc, cc, pp, cp, pd, cd, h⟩ := h
  obtain ⟨c0, c1, c2, c3, c4, c5, c6⟩ := seven_cells h.blk
  have hnow := h.now
  have hnd := h.now.nodup
  have hn1 := h.now1
  have hfc : ∀ p ∈ S.now, w.cell? ⟨p.2, 0, none⟩ = some (.slice (pd p.2) (S.dat p.2).length (cd p.2)) ∧ p.2 < w.heap.size ∧ (S.dat p.2).length ≤ 140737488355328 := fun p hp => by
    have hf := h.files p.2 (h.ref _ (.inl ⟨p.1, hp⟩))
    exact ⟨(two_cells hf.blk).1, hf.lt, hf.short⟩
  have hsm := used_small S.dat S.now (fun p hp => (hfc p hp).2.2)
  have HS : used S.dat S.now ≤ 400 * 140737488355328 := Nat.le_trans hsm (Nat.mul_le_mul_right _ hn1)
  have hh : ∀ p ∈ S.now, Maps.has (dmap S.now) (.string p.1) = true := fun p hp => by
    simp only [dmap, Maps.has, List.any_map, List.any_eq_true]
    exact ⟨p, hp, by simp [Lit.sameKey]⟩
  have HH := Lib.hid hh; have HFC := Lib.hid hfc; have HND := Lib.hid hnd
  clear hh hfc hnd h hsm
  go_enter Tryd.func31, Tryd.ntmps31
  go_wp2_with (first
    | (at_range; refine wpList_range_own _ rfl _ 55 rfl 9 61 law9 Tryd.underlying55 fileElem bn _ (dmap S.now) rfl hnow ?_; intro w0 hrg0 hg0 hs0)
    | go_in)
  go_frame
  go_loopw [3, 5] (fun v _ wr => ∃ (m : Nat) (left : Lit → Bool) (cnt : Nat), v = .int .i64 (m : Int) ∧ wr.ranges Tryd.prog 9 fileElem bn w.heap.size S.now.length (dmap S.now) left cnt ∧ Below w.heap.size w wr ∧ m + sumL S.dat left S.now = used S.dat S.now)
    (fun _ _ wr => wr.rangeLeft bn w.heap.size)
  case atStart =>
    refine ⟨0, _, _, rfl, hrg0, (Below.refl _ _).grown hg0 (Nat.le_refl _) (fun r e => by cases e), ?_⟩
    rw [sumL_all _ _ _ HH.out]; omega
  case round =>
    obtain ⟨m, left, cnt, rfl, hrg, hb, h1⟩ := hrel
    have H1 := Lib.hid h1; clear h1
    go_wp2_with (first
      | (at_next; refine wpList_next_ranges _ rfl _ rfl 9 law9 fileElem Value.string fileV invK9 invV9 bn w.heap.size S.now.length (dmap S.now) _ _ rfl hrg ?_ ?_)
      | go_in)
    · intro hc0 hl0
      go_wp2
      go_ret
      have h1 := H1.out
      rw [sumL_none _ _ _ hl0] at h1
      exact ⟨ret_int (by omega), hb⟩
    · intro x c kl y1 y2 w2 cnt2 hkey hlk hy hat hrg2 hlt hg2 hs2 hen
      clear hs2
      have hkl : kl = .string (key x) := by
        have hx : x.size ≤ 9223372036854775807 := by
          refine Classical.byContradiction fun hc => ?_
          simp [keyOf, mapKey, Tryd.underlying9, maxLen, hc] at hkey
        rw [key9 x hx] at hkey
        injection hkey with hkey
        exact hkey.symm
      subst hkl
      obtain ⟨f, hf, hyf⟩ := look_at hat
      have hcf : fileV c = fileV (some f) := by
        subst hyf
        exact fileElem_held hy
      have hstep := sumL_step S.dat left (key x) f S.now HND.out hf hlk
      have h1 := H1.out
      have hle := sumL_le S.dat left S.now
      obtain ⟨e0, lf, ls⟩ := HFC.out _ (look_mem hf)
      simp only at e0 lf ls
      have hb2 : Below w.heap.size w w2 := hb.grown hg2 hb.size (fun r e => by cases e; exact Nat.le_refl _)
      have e2 := (hb2.cell (p := ⟨f, 0, none⟩) lf).trans e0
      rw [hcf] at hen ⊢
      simp only [fileV] at hen ⊢
      have HC := Lib.hid (And.intro hstep (And.intro h1 hle))
      have bm : (m : Int) + ((S.dat f).length : Int) < 9223372036854775807 := by omega
      clear hat hcf hf hyf hy hkey hstep h1 hle e0
      go_wp2
      go_roundw
      case rel =>
        obtain ⟨hstep, h1, hle⟩ := HC.out
        exact ⟨m + (S.dat f).length, _, cnt2, by go_num, hrg2, hb2, by omega⟩
      · have l1 := hrg2.left_eq
        have l2 := hrg.left_eq
        omega
end Go.Proofs.YtgcpiofpjogjcaaDoor.PK
end
section
/-
  The steps of a disk, walked: Create.
-/
namespace Go.Proofs.YtgcpiofpjogjcaaDoor.PK
open Go.RowKit Go.Maps Go.Proofs.YtgcpiofpjogjcaaDoorW.PrintWords
set_option linter.unusedVariables false
set_option linter.unusedSimpArgs false
variable {own : Nat → Prop} {w w' : World}

def upd {α : Type} (g : Nat → α) (f : Nat) (x : α) : Nat → α := fun k => if k = f then x else g k
theorem upd_same {α : Type} (g : Nat → α) (f : Nat) (x : α) : upd g f x f = x := by simp [upd]
theorem upd_other {α : Type} (g : Nat → α) {f k : Nat} (x : α) (h : k ≠ f) : upd g f x k = g k := by simp [upd, h]
/-- A new file, empty. -/
def Dk.addFile (S : Dk) (f : Nat) : Dk := { S with fs := fun g => S.fs g ∨ g = f, dat := upd S.dat f [], saf := upd S.saf f 0 }
theorem DiskAt.addFile {d f : Nat} {S : Dk} (h : DiskAt w own d S) (hn : ∀ k, k < w.heap.size → w'.heap[k]? = w.heap[k]?) (hf : w.heap.size ≤ f) (ho : own f) (hb : w'.heap[f]? = some (.cells #[.slice none 0 0, .int .i64 0] 63 (0, 0))) :
    DiskAt w' own d (S.addFile f) ∧ ¬ S.fs f := by
  obtain ⟨bn, bs, pc, cc, pp, cp, pd, cd, h⟩ := h
  have hnf : ¬ S.fs f := fun e => by have := (h.files f e).lt; omega
  have hk := h.kept hn
  refine ⟨⟨bn, bs, pc, cc, pp, cp, upd pd f none, upd cd f 0, ?_⟩, hnf⟩
  exact { hk with
    ref := fun g hg => .inl (hk.ref g hg)
    files := fun g hg => by
      rcases hg with hg | rfl
      · have e : g ≠ f := fun e => hnf (e ▸ hg)
        simp only [Dk.addFile, upd_other _ _ e]
        exact hk.files g hg
      · simp only [Dk.addFile, upd_same]
        exact ⟨ho, hb, ⟨rfl, .inl ⟨rfl, rfl⟩⟩, fun a ha => by simp at ha, Nat.le_refl _, fun x hx => by simp at hx, by simp⟩
    apart := fun g1 g2 h1 h2 hne a b ha hb => by
      rcases h1 with h1 | rfl
      · have e1 : g1 ≠ f := fun e => hnf (e ▸ h1)
        rw [upd_other _ _ e1] at ha
        rcases h2 with h2 | rfl
        · have e2 : g2 ≠ f := fun e => hnf (e ▸ h2)
          rw [upd_other _ _ e2] at hb
          exact hk.apart g1 g2 h1 h2 hne a b ha hb
        · rw [upd_same] at hb; simp at hb
      · rw [upd_same] at ha; simp at ha }

theorem del_same {l : Dir} {k : List UInt8} (h : look l k = none) : del l k = l := by
  unfold look at h
  simp only [Option.map_eq_none_iff, List.find?_eq_none] at h
  exact List.filter_eq_self.2 (fun p hp => by have := h p hp; simpa using this)
theorem created_len {S : Dk} {s : ByteArray} {f : Nat} (h1 : look S.now (key s) = none) (h2 : S.now.length < 400) : (applyC (S.addFile f).now ⟨⟨#[]⟩, s, some f⟩).length ≤ 400 := by
  unfold applyC
  simp only [Dk.addFile, if_true]
  split
  · omega
  · have := length_put S.now (key s) f
    omega
/-- The disk behind a Create. -/
def Dk.created (S : Dk) (s : ByteArray) (S' : Dk) : Prop :=
  if S.refuse s = 0 then ∃ f, ¬ S.fs f ∧ S' = (S.addFile f).alter ⟨⟨#[]⟩, s, some f⟩ else S' = S

set_option maxRecDepth 100000 in
theorem create1_any (xb nb d : Nat) (S : Dk) (s : ByteArray) (w : World) (h : DiskAt w own d S) (hfr : Fresh own w) (hs : s.size ≤ 9223372036854775807) (hbig : S.chg.length ≤ 1099511627776)
    (hx : w.cell? ⟨xb, 0, none⟩ = some (.pointer (some ⟨d, 0, none⟩))) (hn : w.cell? ⟨nb, 0, none⟩ = some (.string s)) :
    Calls Tryd.prog 26 #[.pointer (some ⟨xb, 0, none⟩), .pointer (some ⟨nb, 0, none⟩)] w fun e w' => e = .returned (.int .i64 (S.refuse s)) ∧ ∃ S', S.created s S' ∧ DiskAt w' own d S' ∧ Turn own w w' := by
  have hr := refuse_any d S s w h hs
  unfold Dk.created
  have lx := World.block_lt_of_cell? w _ hx
  have ln := World.block_lt_of_cell? w _ hn
  by_cases h0 : S.refuse s = 0
  · simp only [if_pos h0]
    rw [h0] at hr ⊢
    have hH := Lib.hid h; have hF := Lib.hid hfr
    clear h hfr
    have hr0 : bad s = false ∧ look S.now (key s) = none ∧ S.now.length < 400 := by
      unfold Dk.refuse at h0
      cases hb : bad s
      · rw [hb, if_neg (by simp)] at h0
        by_cases h1 : look S.now (key s) = none
        · rw [if_neg (by simp [h1])] at h0
          by_cases h2 : 400 ≤ S.now.length
          · rw [if_pos h2] at h0; omega
          · exact ⟨rfl, h1, by omega⟩
        · rw [if_pos h1] at h0; omega
      · rw [hb, if_pos rfl] at h0; omega
    have HR := Lib.hid hr0
    clear hr0
    go_enter Tryd.func26, Tryd.ntmps26
    go_wp2_with (first
      | (go_at_call 27; refine hr.mono ?_; rintro e w1 ⟨rfl, hb1⟩; have x1 := (hb1.cell (p := ⟨xb, 0, none⟩) lx).trans hx; have n1 := (hb1.cell (p := ⟨nb, 0, none⟩) ln).trans hn)
      | (go_at_call 28; obtain ⟨hA, hnf⟩ := DiskAt.addFile (w' := w1.alloc (.cells #[.slice none 0 0, .int .i64 0] 63)) (f := w1.heap.size) (hH.out.below hb1) (fun k hk => Below.heap_alloc _ _ _ hk) (Nat.le_refl _) (hF.out _ hb1.size) (heap_alloc_new w1 _); have hF2 : Fresh own (w1.alloc (.cells #[.slice none 0 0, .int .i64 0] 63)) := hF.out.step (by have := hb1.size; simp; omega); refine (alter_any d _ ⟨⟨#[]⟩, s, some w1.heap.size⟩ _ hA hF2 ⟨(by show (0 : Nat) ≤ 9223372036854775807; omega), hs, fun _ => ⟨_, rfl⟩⟩ (fun f hf => by injection hf with hf; exact .inr hf.symm) (created_len HR.out.2.1 HR.out.2.2) hbig).mono ?_; rintro e w2 ⟨rfl, hd2, ht2⟩))
    go_ret
    exact ⟨rfl, _, ⟨_, hnf, rfl⟩, hd2, ((Turn.of_below hb1).trans (Turn.alloc _)).trans ht2⟩
  · simp only [if_neg h0]
    go_enter Tryd.func26, Tryd.ntmps26
    go_wp2_with (first
      | (go_at_call 27; refine hr.mono ?_; rintro e w1 ⟨rfl, hb1⟩))
    go_ret
    exact ⟨rfl, S, rfl, h.below hb1, Turn.of_below hb1⟩
end Go.Proofs.YtgcpiofpjogjcaaDoor.PK
end
