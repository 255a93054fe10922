/-
  DERIVED: THE SHELF's CONTRACTS AT THIS DUMP, IN PLAIN WORDS (tools/lay-plain.mjs out of 'TrydSrc.lean', which tools/lay-shelf.mjs wrote): THE SAME DECLARATIONS UNDER THE SAME NAMES: 'import', 'namespace', 'open', 'def', 'theorem' AND NOTHING ELSE: no command of the shelf's: FOR A HAND-IN. Each laying: the table of numbers ('.._ren') and one theorem, a field a fact of the dump's own or the kernel's comparison; each contract: ONE APPLICATION.
-/
import Derived.Shelf.Strings.SlTrimAscii
import Derived.Shelf.Sort.Plain
import Derived.Shelf.Slices.In.SortNone
import Derived.Ground.SlbCloneProg
import Derived.Shelf.Bytes.SlClone
import Derived.Test.YtgcpiofpjogjcaaDoorProg
import Derived.Shelf.SlIter.Nil
import Derived.Shelf.SortM.Plain
import Derived.Shelf.SortM.SortNone
import Derived.Ground.GgzProg
import Derived.Ground.SlgmProg
import Derived.Test.YtgcpiofpjogjcaaDoorProg
namespace Go.Proofs
open Go.Shelf
def Tryd.lays160_ren : Go.Shelf.Ren := ⟨fun | 160 => 48 | 232 => 54 | 231 => 53 | 227 => 55 | 234 => 57 | 233 => 56 | 236 => 59 | 235 => 58 | 228 => 63 | 271 => 66 | 151 => 65 | 197 => 64 | 120 => 72 | 152 => 71 | 260 => 70 | 137 => 84 | 119 => 85 | 224 => 86 | 225 => 87 | 217 => 94 | 266 => 96 | n => n, fun | 9 => 9 | 4 => 4 | 3 => 3 | 5 => 5 | 117 => 90 | 116 => 89 | 0 => 0 | 124 => 93 | 21 => 21 | 105 => 96 | 46 => 102 | 119 => 117 | 139 => 120 | 138 => 119 | n => n, fun | 3 => 0 | 4 => 1 | n => n⟩
theorem Tryd.lays160 : Go.Proofs.Lays.n160 Tryd.prog Tryd.lays160_ren := {
  mixed := by kernel_rfl
  f119 := Tryd.func85.trans (congrArg some (by kernel_rfl))
  f120 := Tryd.func72.trans (congrArg some (by kernel_rfl))
  f137 := Tryd.func84.trans (congrArg some (by kernel_rfl))
  f151 := Tryd.func65.trans (congrArg some (by kernel_rfl))
  f152 := Tryd.func71.trans (congrArg some (by kernel_rfl))
  f160 := Tryd.func48.trans (congrArg some (by kernel_rfl))
  f197 := Tryd.func64.trans (congrArg some (by kernel_rfl))
  f217 := Tryd.func94.trans (congrArg some (by kernel_rfl))
  f224 := Tryd.func86.trans (congrArg some (by kernel_rfl))
  f225 := Tryd.func87.trans (congrArg some (by kernel_rfl))
  f227 := Tryd.func55.trans (congrArg some (by kernel_rfl))
  f228 := Tryd.func63.trans (congrArg some (by kernel_rfl))
  f231 := Tryd.func53.trans (congrArg some (by kernel_rfl))
  f232 := Tryd.func54.trans (congrArg some (by kernel_rfl))
  f233 := Tryd.func56.trans (congrArg some (by kernel_rfl))
  f234 := Tryd.func57.trans (congrArg some (by kernel_rfl))
  f235 := Tryd.func58.trans (congrArg some (by kernel_rfl))
  f236 := Tryd.func59.trans (congrArg some (by kernel_rfl))
  f260 := Tryd.func70.trans (congrArg some (by kernel_rfl))
  f266 := Tryd.func96.trans (congrArg some (by kernel_rfl))
  f271 := Tryd.func66.trans (congrArg some (by kernel_rfl))
  t0 := Tryd.underlying0
  a0 := Tryd.isAgg0
  z0 := Tryd.sizeOf0
  v0 := Tryd.zeroValue0
  t3 := Tryd.underlying3
  a3 := Tryd.isAgg3
  z3 := Tryd.sizeOf3
  v3 := Tryd.zeroValue3
  t4 := Tryd.underlying4
  a4 := Tryd.isAgg4
  z4 := Tryd.sizeOf4
  v4 := Tryd.zeroValue4
  t5 := Tryd.underlying5
  a5 := Tryd.isAgg5
  z5 := Tryd.sizeOf5
  v5 := Tryd.zeroValue5
  t9 := Tryd.underlying9
  a9 := Tryd.isAgg9
  z9 := Tryd.sizeOf9
  v9 := Tryd.zeroValue9
  t21 := Tryd.underlying21
  a21 := Tryd.isAgg21
  z21 := Tryd.sizeOf21
  v21 := Tryd.zeroValue21
  t46 := Tryd.underlying102
  a46 := Tryd.isAgg102
  z46 := Tryd.sizeOf102
  v46 := Tryd.zeroValue102
  t105 := Tryd.underlying96
  a105 := Tryd.isAgg96
  z105 := Tryd.sizeOf96
  v105 := Tryd.zeroValue96
  t116 := Tryd.underlying89
  a116 := Tryd.isAgg89
  z116 := Tryd.sizeOf89
  t117 := Tryd.underlying90
  a117 := Tryd.isAgg90
  z117 := Tryd.sizeOf90
  v117 := Tryd.zeroValue90
  t119 := Tryd.underlying117
  a119 := Tryd.isAgg117
  z119 := Tryd.sizeOf117
  t124 := Tryd.underlying93
  a124 := Tryd.isAgg93
  z124 := Tryd.sizeOf93
  v124 := Tryd.zeroValue93
  t138 := Tryd.underlying119
  a138 := Tryd.isAgg119
  z138 := Tryd.sizeOf119
  v138 := Tryd.zeroValue119
  t139 := Tryd.underlying120
  a139 := Tryd.isAgg120
  z139 := Tryd.sizeOf120
  v139 := Tryd.zeroValue120
  g3 := by kernel_rfl
  g4 := by kernel_rfl }
open Go.RowKit in
theorem Tryd.strings_Trim (s cutset : ByteArray) (w : World) (hs : s.size ≤ 9223372036854775807) (hcs : cutset.size < 4294967281) (ha : ∀ (j : Nat) b, cutset.data.toList[j]? = some b → b.toNat < 128) :
    Calls Tryd.prog 48 #[.string s, .string cutset] w fun e w' => e = .returned (.string ⟨(Lib.trimS s.data.toList cutset.data.toList).toArray⟩) ∧ Below w.heap.size w w' := Any.strings_Trim_laid Tryd.lays160 (by kernel_rfl) s cutset w hs hcs ha
def Tryd.lays190_ren : Go.Shelf.Ren := ⟨fun | 190 => 61 | 125 => 69 | 258 => 68 | 128 => 82 | 129 => 83 | 302 => 73 | 303 => 74 | 304 => 75 | 305 => 76 | 306 => 77 | 307 => 78 | 308 => 79 | 309 => 80 | 310 => 81 | 333 => 88 | 329 => 89 | 330 => 90 | 334 => 91 | 335 => 92 | 336 => 93 | 344 => 95 | n => n, fun | 31 => 23 | 9 => 9 | 3 => 3 | 46 => 102 | 0 => 0 | 51 => 114 | 53 => 116 | 4 => 4 | 183 => 106 | 182 => 105 | 131 => 111 | 5 => 5 | 218 => 124 | 222 => 128 | 228 => 130 | 229 => 131 | n => n, fun | n => n⟩
theorem Tryd.lays190 : Go.Proofs.Lays.n190 Tryd.prog Tryd.lays190_ren := {
  mixed := by kernel_rfl
  f125 := Tryd.func69.trans (congrArg some (by kernel_rfl))
  f128 := Tryd.func82.trans (congrArg some (by kernel_rfl))
  f129 := Tryd.func83.trans (congrArg some (by kernel_rfl))
  f190 := Tryd.func61.trans (congrArg some (by kernel_rfl))
  f258 := Tryd.func68.trans (congrArg some (by kernel_rfl))
  f302 := Tryd.func73.trans (congrArg some (by kernel_rfl))
  f303 := Tryd.func74.trans (congrArg some (by kernel_rfl))
  f304 := Tryd.func75.trans (congrArg some (by kernel_rfl))
  f305 := Tryd.func76.trans (congrArg some (by kernel_rfl))
  f306 := Tryd.func77.trans (congrArg some (by kernel_rfl))
  f307 := Tryd.func78.trans (congrArg some (by kernel_rfl))
  f308 := Tryd.func79.trans (congrArg some (by kernel_rfl))
  f309 := Tryd.func80.trans (congrArg some (by kernel_rfl))
  f310 := Tryd.func81.trans (congrArg some (by kernel_rfl))
  f329 := Tryd.func89.trans (congrArg some (by kernel_rfl))
  f330 := Tryd.func90.trans (congrArg some (by kernel_rfl))
  f333 := Tryd.func88.trans (congrArg some (by kernel_rfl))
  f334 := Tryd.func91.trans (congrArg some (by kernel_rfl))
  f335 := Tryd.func92.trans (congrArg some (by kernel_rfl))
  f336 := Tryd.func93.trans (congrArg some (by kernel_rfl))
  f344 := Tryd.func95.trans (congrArg some (by kernel_rfl))
  t0 := Tryd.underlying0
  a0 := Tryd.isAgg0
  z0 := Tryd.sizeOf0
  v0 := Tryd.zeroValue0
  t3 := Tryd.underlying3
  a3 := Tryd.isAgg3
  z3 := Tryd.sizeOf3
  v3 := Tryd.zeroValue3
  t4 := Tryd.underlying4
  a4 := Tryd.isAgg4
  z4 := Tryd.sizeOf4
  v4 := Tryd.zeroValue4
  t5 := Tryd.underlying5
  a5 := Tryd.isAgg5
  z5 := Tryd.sizeOf5
  v5 := Tryd.zeroValue5
  t9 := Tryd.underlying9
  a9 := Tryd.isAgg9
  z9 := Tryd.sizeOf9
  v9 := Tryd.zeroValue9
  t31 := Tryd.underlying23
  a31 := Tryd.isAgg23
  z31 := Tryd.sizeOf23
  v31 := Tryd.zeroValue23
  t46 := Tryd.underlying102
  a46 := Tryd.isAgg102
  z46 := Tryd.sizeOf102
  v46 := Tryd.zeroValue102
  t51 := Tryd.underlying114
  a51 := Tryd.isAgg114
  z51 := Tryd.sizeOf114
  v51 := Tryd.zeroValue114
  t53 := Tryd.underlying116
  a53 := Tryd.isAgg116
  z53 := Tryd.sizeOf116
  v53 := Tryd.zeroValue116
  t131 := Tryd.underlying111
  a131 := Tryd.isAgg111
  z131 := Tryd.sizeOf111
  v131 := Tryd.zeroValue111
  t182 := Tryd.underlying105
  a182 := Tryd.isAgg105
  z182 := Tryd.sizeOf105
  v182 := Tryd.zeroValue105
  t183 := Tryd.underlying106
  a183 := Tryd.isAgg106
  z183 := Tryd.sizeOf106
  v183 := Tryd.zeroValue106
  t218 := Tryd.underlying124
  a218 := Tryd.isAgg124
  z218 := Tryd.sizeOf124
  v218 := Tryd.zeroValue124
  t222 := Tryd.underlying128
  a222 := Tryd.isAgg128
  z222 := Tryd.sizeOf128
  v222 := Tryd.zeroValue128
  t228 := Tryd.underlying130
  a228 := Tryd.isAgg130
  z228 := Tryd.sizeOf130
  v228 := Tryd.zeroValue130
  t229 := Tryd.underlying131
  a229 := Tryd.isAgg131
  z229 := Tryd.sizeOf131
  v229 := Tryd.zeroValue131 }
open Go.Sort Go.RowKit in
theorem Tryd.slices_Sort_string (blk off cap : Nat) (ss : List (List UInt8)) (w : World) (hH : Holds encStr w blk off ss.toArray) (hblk : blk < w.heap.size) (hsz : ss.length < 4611686018427387904) :
    Calls Tryd.prog 61 #[.slice (some ⟨blk, off, none⟩) ss.length cap] w fun e w' =>
      e = .returned (.tuple #[]) ∧ ∃ n os, w' = grow (putRow encStr (Sort.ahead w n) blk off (ss.mergeSort fun x y => decide (x ≤ y)).toArray) os := Any.slices_Sort_string Tryd.lays190 blk off cap ss w hH hblk hsz
def Tryd.laysSlK4_ren : Go.Shelf.Ren := ⟨fun | 4 => 38 | n => n, fun | 22 => 22 | 4 => 4 | 5 => 5 | n => n, fun | n => n⟩
theorem Tryd.laysSlK4 : Go.Proofs.SlLaysK.n4 Tryd.prog Tryd.laysSlK4_ren := {
  mixed := by kernel_rfl
  f4 := Tryd.func38.trans (congrArg some (by kernel_rfl))
  t4 := Tryd.underlying4
  a4 := Tryd.isAgg4
  z4 := Tryd.sizeOf4
  v4 := Tryd.zeroValue4
  t22 := Tryd.underlying22
  a22 := Tryd.isAgg22
  z22 := Tryd.sizeOf22
  v22 := Tryd.zeroValue22
  t5 := Tryd.underlying5
  i5 := by kernel_rfl }
open Go.RowKit Go.Lib in
/-- bytes.Clone: "Clone returns a copy of b[:len(b)]. The result may have additional unused capacity.": OF A SLICE THAT IS NOT nil IT RETURNS A SLICE THAT IS NOT nil, OF THE SAME BYTES, IN MEMORY OF THE CALL's OWN: in the how-to's words (6f): 'w'.ownsRow B e 1 v' n cells' · 'Below B w w'', B the heap's size at the call. b AT WHATEVER ADDRESS, its cells as 'open_ints' hands them ('a.add i'; the numbers 'xs'). No byte: no cell is asked for. (LAID: no walk: one application.) -/
theorem Tryd.bytes_Clone_at (a : Addr) (n c : Nat) (xs : List Int) (w : World) (hx : xs.length = n) (hbig : n ≤ 140737488355328) (hc : ∀ i, i < n → w.cell? (a.add i) = some (.int .u8 (xs.getD i 0))) :
    Calls Tryd.prog 38 #[.slice (some a) n c] w fun e w' => ∃ v', e = .returned v' ∧ w'.ownsRow w.heap.size 5 1 v' n (xs.map (Value.int .u8)) ∧ v' ≠ .slice none 0 0 ∧ Below w.heap.size w w' := Any.bytes_Clone_at Tryd.laysSlK4 a n c xs w hx hbig hc
open Go.RowKit Go.Lib in
/-- "Clone(nil) returns nil.": the world is as it was. (LAID: no walk: one application.) -/
theorem Tryd.bytes_Clone_nil (n c : Nat) (w : World) :
    Calls Tryd.prog 38 #[.slice none n c] w fun e w' => e = .returned (.slice none 0 0) ∧ w' = w := Any.bytes_Clone_nil Tryd.laysSlK4 n c w
def Tryd.keys52_ren : Go.Shelf.Ren := ⟨fun | 7 => 52 | 10 => 62 | n => n, fun | 23 => 55 | 26 => 9 | 3 => 61 | 28 => 85 | 0 => 0 | 27 => 84 | 33 => 74 | 4 => 4 | n => n, fun | n => n⟩
theorem Tryd.keys52 : Go.Proofs.SlLaysZ.n7 Tryd.prog Tryd.keys52_ren := {
  mixed := by kernel_rfl
  f7 := ⟨Tryd.f52.name, by decide, Tryd.func52.trans (congrArg some (by kernel_rfl))⟩
  f10 := ⟨Tryd.f62.name, by decide, Tryd.func62.trans (congrArg some (by kernel_rfl))⟩
  t0 := Tryd.underlying0
  a0 := Tryd.isAgg0
  z0 := Tryd.sizeOf0
  v0 := Tryd.zeroValue0
  t4 := Tryd.underlying4
  a4 := Tryd.isAgg4
  z4 := Tryd.sizeOf4
  v4 := Tryd.zeroValue4
  t23 := Tryd.underlying55
  a23 := Tryd.isAgg55
  z23 := Tryd.sizeOf55
  v23 := Tryd.zeroValue55
  t26 := Tryd.underlying9
  a26 := Tryd.isAgg9
  z26 := Tryd.sizeOf9
  v26 := Tryd.zeroValue9
  t27 := Tryd.underlying84
  a27 := Tryd.isAgg84
  z27 := Tryd.sizeOf84
  v27 := Tryd.zeroValue84
  t28 := Tryd.underlying85
  a28 := Tryd.isAgg85
  z28 := Tryd.sizeOf85
  v28 := Tryd.zeroValue85
  t33 := Tryd.underlying74
  a33 := Tryd.isAgg74
  z33 := Tryd.sizeOf74
  v33 := Tryd.zeroValue74 }
def Tryd.sorted51_ren : Go.Shelf.Ren := ⟨fun | 6 => 51 | 8 => 60 | 9 => 61 | 11 => 67 | 13 => 69 | 12 => 68 | 23 => 82 | 24 => 83 | 14 => 73 | 15 => 74 | 16 => 75 | 17 => 76 | 18 => 77 | 19 => 78 | 20 => 79 | 21 => 80 | 22 => 81 | 25 => 88 | 26 => 89 | 27 => 90 | 28 => 91 | 29 => 92 | 30 => 93 | 31 => 95 | n => n, fun | 26 => 9 | 28 => 85 | 24 => 23 | 0 => 0 | 3 => 3 | 37 => 102 | 48 => 114 | 50 => 116 | 4 => 4 | 40 => 106 | 39 => 105 | 45 => 111 | 5 => 5 | 9 => 9 | 51 => 124 | 55 => 128 | 57 => 130 | 58 => 131 | 33 => 74 | n => n, fun | n => n⟩
theorem Tryd.sorted51 : Go.Proofs.SlLaysZ.n6 Tryd.prog Tryd.sorted51_ren := {
  mixed := by kernel_rfl
  f6 := ⟨Tryd.f51.name, by decide, Tryd.func51.trans (congrArg some (by kernel_rfl))⟩
  f8 := ⟨Tryd.f60.name, by decide, Tryd.func60.trans (congrArg some (by kernel_rfl))⟩
  f11 := ⟨Tryd.f67.name, by decide, Tryd.func67.trans (congrArg some (by kernel_rfl))⟩
  t0 := Tryd.underlying0
  a0 := Tryd.isAgg0
  z0 := Tryd.sizeOf0
  v0 := Tryd.zeroValue0
  t24 := Tryd.underlying23
  a24 := Tryd.isAgg23
  z24 := Tryd.sizeOf23
  v24 := Tryd.zeroValue23
  t26 := Tryd.underlying9
  a26 := Tryd.isAgg9
  z26 := Tryd.sizeOf9
  v26 := Tryd.zeroValue9
  t28 := Tryd.underlying85
  a28 := Tryd.isAgg85
  z28 := Tryd.sizeOf85
  v28 := Tryd.zeroValue85
  i26 := by kernel_rfl }
def Tryd.sort61_ren : Go.Shelf.Ren := ⟨fun | 6 => 61 | 8 => 69 | 9 => 68 | 19 => 82 | 20 => 83 | 21 => 73 | 22 => 74 | 23 => 75 | 24 => 76 | 25 => 77 | 26 => 78 | 27 => 79 | 28 => 80 | 29 => 81 | 36 => 88 | 31 => 89 | 32 => 90 | 37 => 91 | 38 => 92 | 39 => 93 | 41 => 95 | n => n, fun | 27 => 23 | 29 => 9 | 3 => 3 | 32 => 102 | 26 => 23 | 0 => 0 | 44 => 114 | 46 => 116 | 4 => 4 | 36 => 106 | 35 => 105 | 41 => 111 | 5 => 5 | 9 => 9 | 53 => 124 | 57 => 128 | 63 => 130 | 64 => 131 | n => n, fun | n => n⟩
theorem Tryd.sort61 : Go.Proofs.SlLaysM.n6 Tryd.prog Tryd.sort61_ren := {
  mixed := by kernel_rfl
  f6 := ⟨Tryd.f61.name, by decide, Tryd.func61.trans (congrArg some (by kernel_rfl))⟩
  f8 := Tryd.func69.trans (congrArg some (by kernel_rfl))
  f9 := ⟨Tryd.f68.name, by decide, Tryd.func68.trans (congrArg some (by kernel_rfl))⟩
  f19 := Tryd.func82.trans (congrArg some (by kernel_rfl))
  f20 := Tryd.func83.trans (congrArg some (by kernel_rfl))
  f21 := ⟨Tryd.f73.name, by decide, Tryd.func73.trans (congrArg some (by kernel_rfl))⟩
  f22 := ⟨Tryd.f74.name, by decide, Tryd.func74.trans (congrArg some (by kernel_rfl))⟩
  f23 := ⟨Tryd.f75.name, by decide, Tryd.func75.trans (congrArg some (by kernel_rfl))⟩
  f24 := ⟨Tryd.f76.name, by decide, Tryd.func76.trans (congrArg some (by kernel_rfl))⟩
  f25 := ⟨Tryd.f77.name, by decide, Tryd.func77.trans (congrArg some (by kernel_rfl))⟩
  f26 := ⟨Tryd.f78.name, by decide, Tryd.func78.trans (congrArg some (by kernel_rfl))⟩
  f27 := ⟨Tryd.f79.name, by decide, Tryd.func79.trans (congrArg some (by kernel_rfl))⟩
  f28 := ⟨Tryd.f80.name, by decide, Tryd.func80.trans (congrArg some (by kernel_rfl))⟩
  f29 := ⟨Tryd.f81.name, by decide, Tryd.func81.trans (congrArg some (by kernel_rfl))⟩
  f31 := Tryd.func89.trans (congrArg some (by kernel_rfl))
  f32 := Tryd.func90.trans (congrArg some (by kernel_rfl))
  f36 := ⟨Tryd.f88.name, by decide, Tryd.func88.trans (congrArg some (by kernel_rfl))⟩
  f37 := ⟨Tryd.f91.name, by decide, Tryd.func91.trans (congrArg some (by kernel_rfl))⟩
  f38 := ⟨Tryd.f92.name, by decide, Tryd.func92.trans (congrArg some (by kernel_rfl))⟩
  f39 := ⟨Tryd.f93.name, by decide, Tryd.func93.trans (congrArg some (by kernel_rfl))⟩
  f41 := ⟨Tryd.f95.name, by decide, Tryd.func95.trans (congrArg some (by kernel_rfl))⟩
  t0 := Tryd.underlying0
  a0 := Tryd.isAgg0
  z0 := Tryd.sizeOf0
  v0 := Tryd.zeroValue0
  t3 := Tryd.underlying3
  a3 := Tryd.isAgg3
  z3 := Tryd.sizeOf3
  v3 := Tryd.zeroValue3
  t4 := Tryd.underlying4
  a4 := Tryd.isAgg4
  z4 := Tryd.sizeOf4
  v4 := Tryd.zeroValue4
  t5 := Tryd.underlying5
  a5 := Tryd.isAgg5
  z5 := Tryd.sizeOf5
  v5 := Tryd.zeroValue5
  t9 := Tryd.underlying9
  a9 := Tryd.isAgg9
  z9 := Tryd.sizeOf9
  v9 := Tryd.zeroValue9
  t26 := Tryd.underlying23
  a26 := Tryd.isAgg23
  z26 := Tryd.sizeOf23
  v26 := Tryd.zeroValue23
  t27 := Tryd.underlying23
  a27 := Tryd.isAgg23
  z27 := Tryd.sizeOf23
  v27 := Tryd.zeroValue23
  t29 := Tryd.underlying9
  a29 := Tryd.isAgg9
  z29 := Tryd.sizeOf9
  v29 := Tryd.zeroValue9
  t32 := Tryd.underlying102
  a32 := Tryd.isAgg102
  z32 := Tryd.sizeOf102
  v32 := Tryd.zeroValue102
  t35 := Tryd.underlying105
  a35 := Tryd.isAgg105
  z35 := Tryd.sizeOf105
  v35 := Tryd.zeroValue105
  t36 := Tryd.underlying106
  a36 := Tryd.isAgg106
  z36 := Tryd.sizeOf106
  v36 := Tryd.zeroValue106
  t41 := Tryd.underlying111
  a41 := Tryd.isAgg111
  z41 := Tryd.sizeOf111
  v41 := Tryd.zeroValue111
  t44 := Tryd.underlying114
  a44 := Tryd.isAgg114
  z44 := Tryd.sizeOf114
  v44 := Tryd.zeroValue114
  t46 := Tryd.underlying116
  a46 := Tryd.isAgg116
  z46 := Tryd.sizeOf116
  v46 := Tryd.zeroValue116
  t53 := Tryd.underlying124
  a53 := Tryd.isAgg124
  z53 := Tryd.sizeOf124
  v53 := Tryd.zeroValue124
  t57 := Tryd.underlying128
  a57 := Tryd.isAgg128
  z57 := Tryd.sizeOf128
  v57 := Tryd.zeroValue128
  t63 := Tryd.underlying130
  a63 := Tryd.isAgg130
  z63 := Tryd.sizeOf130
  v63 := Tryd.zeroValue130
  t64 := Tryd.underlying131
  a64 := Tryd.isAgg131
  z64 := Tryd.sizeOf131
  v64 := Tryd.zeroValue131 }
open Go.RowKit Go.Maps Go.Sort Go.Lib in
theorem Tryd.sorts51 (m : Nat) : AnyZ.SortsIn Tryd.prog Tryd.sorted51_ren Fence.wide m :=
  ⟨fun blk off cap ss W hH hblk hsz => callsIn_wide.2 (AnyM.slices_Sort_string Tryd.sort61 blk off cap ss W hH hblk hsz),
   fun p cap W => callsIn_wide.2 (AnyM.slices_Sort_string_none Tryd.sort61 p cap W)⟩
open Go.RowKit Go.Maps Go.Sort Go.Lib in
theorem Tryd.maps_Keys_52 (mb : Option Nat) (W : World) : CallsIn Fence.wide 5 Tryd.prog 52 #[.map mb] W fun e w' => e = .returned (.func (.func 62) #[] #[.pointer (some ⟨W.heap.size, 0, none⟩)]) ∧ w' = W.alloc (.cells #[.map mb] 55) :=
  AnyZ.keys_in Tryd.keys52 Fence.wide 5 trivial rfl mb W
open Go.RowKit Go.Maps Go.Sort Go.Lib in
theorem Tryd.slices_Sorted_keys_51_52 {H : Type} (b nn : Nat) (D0 : DataW H) (R : Value → Option (DataW H × List MemPlace)) (w : World) (hown : w.ownsMap Tryd.prog 9 R b nn D0) (hmax : Maps.size D0 ≤ maxLen) (hbytes : Maps.size D0 * 16 ≤ 140737488355328) :
    CallsIn Fence.wide 5 Tryd.prog 51 #[.func (.func 62) #[] #[.pointer (some ⟨w.heap.size, 0, none⟩)]] (w.alloc (.cells #[.map (some b)] 55)) fun e w' => ∃ (v : Value) (ss : List (List UInt8)), e = .returned v ∧ ss.Perm (strKeys D0) ∧
      w'.ownsRow (w.alloc (.cells #[.map (some b)] 55)).heap.size 9 1 v ss.length ((ss.mergeSort (fun x y => decide (x ≤ y))).map encStr) ∧ (v = .slice none 0 0 ↔ ss = []) ∧ Below (w.alloc (.cells #[.map (some b)] 55)).heap.size (w.alloc (.cells #[.map (some b)] 55)) w' := by
  have hbl := hown.lt
  have hseq : SeqGives Fence.wide 2 Tryd.prog 62 #[.pointer (some ⟨w.heap.size, 0, none⟩)] encStr (fun ss => ss.Perm (strKeys D0)) (Maps.size D0) (w.alloc (.cells #[.map (some b)] 55)) :=
    AnyZ.keys_gives (ρ := Tryd.keys52_ren) { Tryd.keys52 with } Fence.wide _ trivial rfl (by omega) w.heap.size b nn D0 _ (by simp) (by simp) (by
      obtain ⟨es, clock, hb, Ft, hs, hD⟩ := hown
      exact ⟨es, clock, (Below.heap_alloc _ _ b hbl).trans hb, Ft, hs, hD⟩)
  exact AnyZ.sorted_in Tryd.sorted51 Fence.wide 5 trivial trivial trivial trivial rfl (by omega) (Tryd.sorts51 _) (enters_of Tryd.func61 (by kernel_rfl) rfl) 62 #[.pointer (some ⟨w.heap.size, 0, none⟩)] trivial (enters_of Tryd.func62 (by kernel_rfl) rfl) _ _ hmax hbytes _ hseq
open Go.RowKit Go.Maps Go.Sort Go.Lib in
theorem Tryd.slices_Sorted_keys_nil_51_52 (w : World) :
    CallsIn Fence.wide 5 Tryd.prog 51 #[.func (.func 62) #[] #[.pointer (some ⟨w.heap.size, 0, none⟩)]] (w.alloc (.cells #[.map none] 55)) fun e w' => ∃ (v : Value) (ss : List (List UInt8)), e = .returned v ∧ ss = [] ∧
      w'.ownsRow (w.alloc (.cells #[.map none] 55)).heap.size 9 1 v ss.length ((ss.mergeSort (fun x y => decide (x ≤ y))).map encStr) ∧ (v = .slice none 0 0 ↔ ss = []) ∧ Below (w.alloc (.cells #[.map none] 55)).heap.size (w.alloc (.cells #[.map none] 55)) w' := by
  have hseq : SeqGives Fence.wide 2 Tryd.prog 62 #[.pointer (some ⟨w.heap.size, 0, none⟩)] encStr (fun ss : List (List UInt8) => ss = []) 0 (w.alloc (.cells #[.map none] 55)) :=
    AnyZ.keys_gives_nil (ρ := Tryd.keys52_ren) { Tryd.keys52 with } Fence.wide _ trivial rfl w.heap.size _ (by simp) (by simp)
  exact AnyZ.sorted_in Tryd.sorted51 Fence.wide 5 trivial trivial trivial trivial rfl (by omega) (Tryd.sorts51 _) (enters_of Tryd.func61 (by kernel_rfl) rfl) 62 #[.pointer (some ⟨w.heap.size, 0, none⟩)] trivial (enters_of Tryd.func62 (by kernel_rfl) rfl) _ 0 (Nat.zero_le _) (by omega) _ hseq
end Go.Proofs
