/-
  DERIVED: THE SHELF's CONTRACTS AT THIS DUMP, IN PLAIN WORDS (tools/lay-plain.mjs out of 'TryzSrc.lean', which tools/lay-shelf.mjs wrote): THE SAME DECLARATIONS UNDER THE SAME NAMES: 'import', 'namespace', 'open', 'def', 'theorem' AND NOTHING ELSE: no command of the shelf's: FOR A HAND-IN. Each laying: the table of numbers ('.._ren') and one theorem, a field a fact of the dump's own or the kernel's comparison; each contract: ONE APPLICATION.
-/
import Derived.Shelf.Strings.SlTrimAscii
import Derived.Ground.SlbCloneProg
import Derived.Shelf.Bytes.SlClone
import Derived.Test.YtgcpiofpjogjcaaGreatDoorProg
import Derived.Shelf.SlIter.Nil
import Derived.Shelf.SortM.Plain
import Derived.Shelf.SortM.SortNone
import Derived.Ground.GgzProg
import Derived.Ground.SlgmProg
import Derived.Test.YtgcpiofpjogjcaaGreatDoorProg
namespace Go.Proofs
open Go.Shelf
def Tryz.lays160_ren : Go.Shelf.Ren := ⟨fun | 160 => 81 | 232 => 87 | 231 => 86 | 227 => 88 | 234 => 90 | 233 => 89 | 236 => 92 | 235 => 91 | 228 => 96 | 271 => 99 | 151 => 98 | 197 => 97 | 120 => 105 | 152 => 104 | 260 => 103 | 137 => 117 | 119 => 118 | 224 => 119 | 225 => 120 | 217 => 127 | 266 => 129 | n => n, fun | 9 => 9 | 4 => 4 | 3 => 3 | 5 => 5 | 117 => 128 | 116 => 127 | 0 => 0 | 124 => 131 | 21 => 21 | 105 => 134 | 46 => 140 | 119 => 155 | 139 => 158 | 138 => 157 | n => n, fun | 3 => 0 | 4 => 1 | n => n⟩
theorem Tryz.lays160 : Go.Proofs.Lays.n160 Tryz.prog Tryz.lays160_ren := {
  mixed := by kernel_rfl
  f119 := Tryz.func118.trans (congrArg some (by kernel_rfl))
  f120 := Tryz.func105.trans (congrArg some (by kernel_rfl))
  f137 := Tryz.func117.trans (congrArg some (by kernel_rfl))
  f151 := Tryz.func98.trans (congrArg some (by kernel_rfl))
  f152 := Tryz.func104.trans (congrArg some (by kernel_rfl))
  f160 := Tryz.func81.trans (congrArg some (by kernel_rfl))
  f197 := Tryz.func97.trans (congrArg some (by kernel_rfl))
  f217 := Tryz.func127.trans (congrArg some (by kernel_rfl))
  f224 := Tryz.func119.trans (congrArg some (by kernel_rfl))
  f225 := Tryz.func120.trans (congrArg some (by kernel_rfl))
  f227 := Tryz.func88.trans (congrArg some (by kernel_rfl))
  f228 := Tryz.func96.trans (congrArg some (by kernel_rfl))
  f231 := Tryz.func86.trans (congrArg some (by kernel_rfl))
  f232 := Tryz.func87.trans (congrArg some (by kernel_rfl))
  f233 := Tryz.func89.trans (congrArg some (by kernel_rfl))
  f234 := Tryz.func90.trans (congrArg some (by kernel_rfl))
  f235 := Tryz.func91.trans (congrArg some (by kernel_rfl))
  f236 := Tryz.func92.trans (congrArg some (by kernel_rfl))
  f260 := Tryz.func103.trans (congrArg some (by kernel_rfl))
  f266 := Tryz.func129.trans (congrArg some (by kernel_rfl))
  f271 := Tryz.func99.trans (congrArg some (by kernel_rfl))
  t0 := Tryz.underlying0
  a0 := Tryz.isAgg0
  z0 := Tryz.sizeOf0
  v0 := Tryz.zeroValue0
  t3 := Tryz.underlying3
  a3 := Tryz.isAgg3
  z3 := Tryz.sizeOf3
  v3 := Tryz.zeroValue3
  t4 := Tryz.underlying4
  a4 := Tryz.isAgg4
  z4 := Tryz.sizeOf4
  v4 := Tryz.zeroValue4
  t5 := Tryz.underlying5
  a5 := Tryz.isAgg5
  z5 := Tryz.sizeOf5
  v5 := Tryz.zeroValue5
  t9 := Tryz.underlying9
  a9 := Tryz.isAgg9
  z9 := Tryz.sizeOf9
  v9 := Tryz.zeroValue9
  t21 := Tryz.underlying21
  a21 := Tryz.isAgg21
  z21 := Tryz.sizeOf21
  v21 := Tryz.zeroValue21
  t46 := Tryz.underlying140
  a46 := Tryz.isAgg140
  z46 := Tryz.sizeOf140
  v46 := Tryz.zeroValue140
  t105 := Tryz.underlying134
  a105 := Tryz.isAgg134
  z105 := Tryz.sizeOf134
  v105 := Tryz.zeroValue134
  t116 := Tryz.underlying127
  a116 := Tryz.isAgg127
  z116 := Tryz.sizeOf127
  t117 := Tryz.underlying128
  a117 := Tryz.isAgg128
  z117 := Tryz.sizeOf128
  v117 := Tryz.zeroValue128
  t119 := Tryz.underlying155
  a119 := Tryz.isAgg155
  z119 := Tryz.sizeOf155
  t124 := Tryz.underlying131
  a124 := Tryz.isAgg131
  z124 := Tryz.sizeOf131
  v124 := Tryz.zeroValue131
  t138 := Tryz.underlying157
  a138 := Tryz.isAgg157
  z138 := Tryz.sizeOf157
  v138 := Tryz.zeroValue157
  t139 := Tryz.underlying158
  a139 := Tryz.isAgg158
  z139 := Tryz.sizeOf158
  v139 := Tryz.zeroValue158
  g3 := by kernel_rfl
  g4 := by kernel_rfl }
open Go.RowKit in
theorem Tryz.strings_Trim (s cutset : ByteArray) (w : World) (hs : s.size ≤ 9223372036854775807) (hcs : cutset.size < 4294967281) (ha : ∀ (j : Nat) b, cutset.data.toList[j]? = some b → b.toNat < 128) :
    Calls Tryz.prog 81 #[.string s, .string cutset] w fun e w' => e = .returned (.string ⟨(Lib.trimS s.data.toList cutset.data.toList).toArray⟩) ∧ Below w.heap.size w w' := Any.strings_Trim_laid Tryz.lays160 (by kernel_rfl) s cutset w hs hcs ha
def Tryz.laysSlK4_ren : Go.Shelf.Ren := ⟨fun | 4 => 38 | n => n, fun | 22 => 23 | 4 => 4 | 5 => 5 | n => n, fun | n => n⟩
theorem Tryz.laysSlK4 : Go.Proofs.SlLaysK.n4 Tryz.prog Tryz.laysSlK4_ren := {
  mixed := by kernel_rfl
  f4 := Tryz.func38.trans (congrArg some (by kernel_rfl))
  t4 := Tryz.underlying4
  a4 := Tryz.isAgg4
  z4 := Tryz.sizeOf4
  v4 := Tryz.zeroValue4
  t22 := Tryz.underlying23
  a22 := Tryz.isAgg23
  z22 := Tryz.sizeOf23
  v22 := Tryz.zeroValue23
  t5 := Tryz.underlying5
  i5 := by kernel_rfl }
open Go.RowKit Go.Lib in
/-- bytes.Clone: "Clone returns a copy of b[:len(b)]. The result may have additional unused capacity.": OF A SLICE THAT IS NOT nil IT RETURNS A SLICE THAT IS NOT nil, OF THE SAME BYTES, IN MEMORY OF THE CALL's OWN: in the how-to's words (6f): 'w'.ownsRow B e 1 v' n cells' · 'Below B w w'', B the heap's size at the call. b AT WHATEVER ADDRESS, its cells as 'open_ints' hands them ('a.add i'; the numbers 'xs'). No byte: no cell is asked for. (LAID: no walk: one application.) -/
theorem Tryz.bytes_Clone_at (a : Addr) (n c : Nat) (xs : List Int) (w : World) (hx : xs.length = n) (hbig : n ≤ 140737488355328) (hc : ∀ i, i < n → w.cell? (a.add i) = some (.int .u8 (xs.getD i 0))) :
    Calls Tryz.prog 38 #[.slice (some a) n c] w fun e w' => ∃ v', e = .returned v' ∧ w'.ownsRow w.heap.size 5 1 v' n (xs.map (Value.int .u8)) ∧ v' ≠ .slice none 0 0 ∧ Below w.heap.size w w' := Any.bytes_Clone_at Tryz.laysSlK4 a n c xs w hx hbig hc
open Go.RowKit Go.Lib in
/-- "Clone(nil) returns nil.": the world is as it was. (LAID: no walk: one application.) -/
theorem Tryz.bytes_Clone_nil (n c : Nat) (w : World) :
    Calls Tryz.prog 38 #[.slice none n c] w fun e w' => e = .returned (.slice none 0 0) ∧ w' = w := Any.bytes_Clone_nil Tryz.laysSlK4 n c w
def Tryz.keys85_ren : Go.Shelf.Ren := ⟨fun | 7 => 85 | 10 => 95 | n => n, fun | 23 => 79 | 26 => 9 | 3 => 75 | 28 => 123 | 0 => 0 | 27 => 122 | 33 => 104 | 4 => 4 | n => n, fun | n => n⟩
theorem Tryz.keys85 : Go.Proofs.SlLaysZ.n7 Tryz.prog Tryz.keys85_ren := {
  mixed := by kernel_rfl
  f7 := ⟨Tryz.f85.name, by decide, Tryz.func85.trans (congrArg some (by kernel_rfl))⟩
  f10 := ⟨Tryz.f95.name, by decide, Tryz.func95.trans (congrArg some (by kernel_rfl))⟩
  t0 := Tryz.underlying0
  a0 := Tryz.isAgg0
  z0 := Tryz.sizeOf0
  v0 := Tryz.zeroValue0
  t4 := Tryz.underlying4
  a4 := Tryz.isAgg4
  z4 := Tryz.sizeOf4
  v4 := Tryz.zeroValue4
  t23 := Tryz.underlying79
  a23 := Tryz.isAgg79
  z23 := Tryz.sizeOf79
  v23 := Tryz.zeroValue79
  t26 := Tryz.underlying9
  a26 := Tryz.isAgg9
  z26 := Tryz.sizeOf9
  v26 := Tryz.zeroValue9
  t27 := Tryz.underlying122
  a27 := Tryz.isAgg122
  z27 := Tryz.sizeOf122
  v27 := Tryz.zeroValue122
  t28 := Tryz.underlying123
  a28 := Tryz.isAgg123
  z28 := Tryz.sizeOf123
  v28 := Tryz.zeroValue123
  t33 := Tryz.underlying104
  a33 := Tryz.isAgg104
  z33 := Tryz.sizeOf104
  v33 := Tryz.zeroValue104 }
def Tryz.sorted84_ren : Go.Shelf.Ren := ⟨fun | 6 => 84 | 8 => 93 | 9 => 94 | 11 => 100 | 13 => 102 | 12 => 101 | 23 => 115 | 24 => 116 | 14 => 106 | 15 => 107 | 16 => 108 | 17 => 109 | 18 => 110 | 19 => 111 | 20 => 112 | 21 => 113 | 22 => 114 | 25 => 121 | 26 => 122 | 27 => 123 | 28 => 124 | 29 => 125 | 30 => 126 | 31 => 128 | n => n, fun | 26 => 9 | 28 => 123 | 24 => 114 | 0 => 0 | 3 => 3 | 37 => 140 | 48 => 152 | 50 => 154 | 4 => 4 | 40 => 144 | 39 => 143 | 45 => 149 | 5 => 5 | 9 => 9 | 51 => 162 | 55 => 166 | 57 => 168 | 58 => 169 | 33 => 104 | n => n, fun | n => n⟩
theorem Tryz.sorted84 : Go.Proofs.SlLaysZ.n6 Tryz.prog Tryz.sorted84_ren := {
  mixed := by kernel_rfl
  f6 := ⟨Tryz.f84.name, by decide, Tryz.func84.trans (congrArg some (by kernel_rfl))⟩
  f8 := ⟨Tryz.f93.name, by decide, Tryz.func93.trans (congrArg some (by kernel_rfl))⟩
  f11 := ⟨Tryz.f100.name, by decide, Tryz.func100.trans (congrArg some (by kernel_rfl))⟩
  t0 := Tryz.underlying0
  a0 := Tryz.isAgg0
  z0 := Tryz.sizeOf0
  v0 := Tryz.zeroValue0
  t24 := Tryz.underlying114
  a24 := Tryz.isAgg114
  z24 := Tryz.sizeOf114
  v24 := Tryz.zeroValue114
  t26 := Tryz.underlying9
  a26 := Tryz.isAgg9
  z26 := Tryz.sizeOf9
  v26 := Tryz.zeroValue9
  t28 := Tryz.underlying123
  a28 := Tryz.isAgg123
  z28 := Tryz.sizeOf123
  v28 := Tryz.zeroValue123
  i26 := by kernel_rfl }
def Tryz.sort94_ren : Go.Shelf.Ren := ⟨fun | 6 => 94 | 8 => 102 | 9 => 101 | 19 => 115 | 20 => 116 | 21 => 106 | 22 => 107 | 23 => 108 | 24 => 109 | 25 => 110 | 26 => 111 | 27 => 112 | 28 => 113 | 29 => 114 | 36 => 121 | 31 => 122 | 32 => 123 | 37 => 124 | 38 => 125 | 39 => 126 | 41 => 128 | n => n, fun | 27 => 114 | 29 => 9 | 3 => 3 | 32 => 140 | 26 => 114 | 0 => 0 | 44 => 152 | 46 => 154 | 4 => 4 | 36 => 144 | 35 => 143 | 41 => 149 | 5 => 5 | 9 => 9 | 53 => 162 | 57 => 166 | 63 => 168 | 64 => 169 | n => n, fun | n => n⟩
theorem Tryz.sort94 : Go.Proofs.SlLaysM.n6 Tryz.prog Tryz.sort94_ren := {
  mixed := by kernel_rfl
  f6 := ⟨Tryz.f94.name, by decide, Tryz.func94.trans (congrArg some (by kernel_rfl))⟩
  f8 := Tryz.func102.trans (congrArg some (by kernel_rfl))
  f9 := ⟨Tryz.f101.name, by decide, Tryz.func101.trans (congrArg some (by kernel_rfl))⟩
  f19 := Tryz.func115.trans (congrArg some (by kernel_rfl))
  f20 := Tryz.func116.trans (congrArg some (by kernel_rfl))
  f21 := ⟨Tryz.f106.name, by decide, Tryz.func106.trans (congrArg some (by kernel_rfl))⟩
  f22 := ⟨Tryz.f107.name, by decide, Tryz.func107.trans (congrArg some (by kernel_rfl))⟩
  f23 := ⟨Tryz.f108.name, by decide, Tryz.func108.trans (congrArg some (by kernel_rfl))⟩
  f24 := ⟨Tryz.f109.name, by decide, Tryz.func109.trans (congrArg some (by kernel_rfl))⟩
  f25 := ⟨Tryz.f110.name, by decide, Tryz.func110.trans (congrArg some (by kernel_rfl))⟩
  f26 := ⟨Tryz.f111.name, by decide, Tryz.func111.trans (congrArg some (by kernel_rfl))⟩
  f27 := ⟨Tryz.f112.name, by decide, Tryz.func112.trans (congrArg some (by kernel_rfl))⟩
  f28 := ⟨Tryz.f113.name, by decide, Tryz.func113.trans (congrArg some (by kernel_rfl))⟩
  f29 := ⟨Tryz.f114.name, by decide, Tryz.func114.trans (congrArg some (by kernel_rfl))⟩
  f31 := Tryz.func122.trans (congrArg some (by kernel_rfl))
  f32 := Tryz.func123.trans (congrArg some (by kernel_rfl))
  f36 := ⟨Tryz.f121.name, by decide, Tryz.func121.trans (congrArg some (by kernel_rfl))⟩
  f37 := ⟨Tryz.f124.name, by decide, Tryz.func124.trans (congrArg some (by kernel_rfl))⟩
  f38 := ⟨Tryz.f125.name, by decide, Tryz.func125.trans (congrArg some (by kernel_rfl))⟩
  f39 := ⟨Tryz.f126.name, by decide, Tryz.func126.trans (congrArg some (by kernel_rfl))⟩
  f41 := ⟨Tryz.f128.name, by decide, Tryz.func128.trans (congrArg some (by kernel_rfl))⟩
  t0 := Tryz.underlying0
  a0 := Tryz.isAgg0
  z0 := Tryz.sizeOf0
  v0 := Tryz.zeroValue0
  t3 := Tryz.underlying3
  a3 := Tryz.isAgg3
  z3 := Tryz.sizeOf3
  v3 := Tryz.zeroValue3
  t4 := Tryz.underlying4
  a4 := Tryz.isAgg4
  z4 := Tryz.sizeOf4
  v4 := Tryz.zeroValue4
  t5 := Tryz.underlying5
  a5 := Tryz.isAgg5
  z5 := Tryz.sizeOf5
  v5 := Tryz.zeroValue5
  t9 := Tryz.underlying9
  a9 := Tryz.isAgg9
  z9 := Tryz.sizeOf9
  v9 := Tryz.zeroValue9
  t26 := Tryz.underlying114
  a26 := Tryz.isAgg114
  z26 := Tryz.sizeOf114
  v26 := Tryz.zeroValue114
  t27 := Tryz.underlying114
  a27 := Tryz.isAgg114
  z27 := Tryz.sizeOf114
  v27 := Tryz.zeroValue114
  t29 := Tryz.underlying9
  a29 := Tryz.isAgg9
  z29 := Tryz.sizeOf9
  v29 := Tryz.zeroValue9
  t32 := Tryz.underlying140
  a32 := Tryz.isAgg140
  z32 := Tryz.sizeOf140
  v32 := Tryz.zeroValue140
  t35 := Tryz.underlying143
  a35 := Tryz.isAgg143
  z35 := Tryz.sizeOf143
  v35 := Tryz.zeroValue143
  t36 := Tryz.underlying144
  a36 := Tryz.isAgg144
  z36 := Tryz.sizeOf144
  v36 := Tryz.zeroValue144
  t41 := Tryz.underlying149
  a41 := Tryz.isAgg149
  z41 := Tryz.sizeOf149
  v41 := Tryz.zeroValue149
  t44 := Tryz.underlying152
  a44 := Tryz.isAgg152
  z44 := Tryz.sizeOf152
  v44 := Tryz.zeroValue152
  t46 := Tryz.underlying154
  a46 := Tryz.isAgg154
  z46 := Tryz.sizeOf154
  v46 := Tryz.zeroValue154
  t53 := Tryz.underlying162
  a53 := Tryz.isAgg162
  z53 := Tryz.sizeOf162
  v53 := Tryz.zeroValue162
  t57 := Tryz.underlying166
  a57 := Tryz.isAgg166
  z57 := Tryz.sizeOf166
  v57 := Tryz.zeroValue166
  t63 := Tryz.underlying168
  a63 := Tryz.isAgg168
  z63 := Tryz.sizeOf168
  v63 := Tryz.zeroValue168
  t64 := Tryz.underlying169
  a64 := Tryz.isAgg169
  z64 := Tryz.sizeOf169
  v64 := Tryz.zeroValue169 }
open Go.RowKit Go.Maps Go.Sort Go.Lib in
theorem Tryz.sorts84 (m : Nat) : AnyZ.SortsIn Tryz.prog Tryz.sorted84_ren Fence.wide m :=
  ⟨fun blk off cap ss W hH hblk hsz => callsIn_wide.2 (AnyM.slices_Sort_string Tryz.sort94 blk off cap ss W hH hblk hsz),
   fun p cap W => callsIn_wide.2 (AnyM.slices_Sort_string_none Tryz.sort94 p cap W)⟩
open Go.RowKit Go.Maps Go.Sort Go.Lib in
theorem Tryz.maps_Keys_85 (mb : Option Nat) (W : World) : CallsIn Fence.wide 5 Tryz.prog 85 #[.map mb] W fun e w' => e = .returned (.func (.func 95) #[] #[.pointer (some ⟨W.heap.size, 0, none⟩)]) ∧ w' = W.alloc (.cells #[.map mb] 79) :=
  AnyZ.keys_in Tryz.keys85 Fence.wide 5 trivial rfl mb W
open Go.RowKit Go.Maps Go.Sort Go.Lib in
theorem Tryz.slices_Sorted_keys_84_85 {H : Type} (b nn : Nat) (D0 : DataW H) (R : Value → Option (DataW H × List MemPlace)) (w : World) (hown : w.ownsMap Tryz.prog 9 R b nn D0) (hmax : Maps.size D0 ≤ maxLen) (hbytes : Maps.size D0 * 16 ≤ 140737488355328) :
    CallsIn Fence.wide 5 Tryz.prog 84 #[.func (.func 95) #[] #[.pointer (some ⟨w.heap.size, 0, none⟩)]] (w.alloc (.cells #[.map (some b)] 79)) fun e w' => ∃ (v : Value) (ss : List (List UInt8)), e = .returned v ∧ ss.Perm (strKeys D0) ∧
      w'.ownsRow (w.alloc (.cells #[.map (some b)] 79)).heap.size 9 1 v ss.length ((ss.mergeSort (fun x y => decide (x ≤ y))).map encStr) ∧ (v = .slice none 0 0 ↔ ss = []) ∧ Below (w.alloc (.cells #[.map (some b)] 79)).heap.size (w.alloc (.cells #[.map (some b)] 79)) w' := by
  have hbl := hown.lt
  have hseq : SeqGives Fence.wide 2 Tryz.prog 95 #[.pointer (some ⟨w.heap.size, 0, none⟩)] encStr (fun ss => ss.Perm (strKeys D0)) (Maps.size D0) (w.alloc (.cells #[.map (some b)] 79)) :=
    AnyZ.keys_gives (ρ := Tryz.keys85_ren) { Tryz.keys85 with } Fence.wide _ trivial rfl (by omega) w.heap.size b nn D0 _ (by simp) (by simp) (by
      obtain ⟨es, clock, hb, Ft, hs, hD⟩ := hown
      exact ⟨es, clock, (Below.heap_alloc _ _ b hbl).trans hb, Ft, hs, hD⟩)
  exact AnyZ.sorted_in Tryz.sorted84 Fence.wide 5 trivial trivial trivial trivial rfl (by omega) (Tryz.sorts84 _) (enters_of Tryz.func94 (by kernel_rfl) rfl) 95 #[.pointer (some ⟨w.heap.size, 0, none⟩)] trivial (enters_of Tryz.func95 (by kernel_rfl) rfl) _ _ hmax hbytes _ hseq
open Go.RowKit Go.Maps Go.Sort Go.Lib in
theorem Tryz.slices_Sorted_keys_nil_84_85 (w : World) :
    CallsIn Fence.wide 5 Tryz.prog 84 #[.func (.func 95) #[] #[.pointer (some ⟨w.heap.size, 0, none⟩)]] (w.alloc (.cells #[.map none] 79)) fun e w' => ∃ (v : Value) (ss : List (List UInt8)), e = .returned v ∧ ss = [] ∧
      w'.ownsRow (w.alloc (.cells #[.map none] 79)).heap.size 9 1 v ss.length ((ss.mergeSort (fun x y => decide (x ≤ y))).map encStr) ∧ (v = .slice none 0 0 ↔ ss = []) ∧ Below (w.alloc (.cells #[.map none] 79)).heap.size (w.alloc (.cells #[.map none] 79)) w' := by
  have hseq : SeqGives Fence.wide 2 Tryz.prog 95 #[.pointer (some ⟨w.heap.size, 0, none⟩)] encStr (fun ss : List (List UInt8) => ss = []) 0 (w.alloc (.cells #[.map none] 79)) :=
    AnyZ.keys_gives_nil (ρ := Tryz.keys85_ren) { Tryz.keys85 with } Fence.wide _ trivial rfl w.heap.size _ (by simp) (by simp)
  exact AnyZ.sorted_in Tryz.sorted84 Fence.wide 5 trivial trivial trivial trivial rfl (by omega) (Tryz.sorts84 _) (enters_of Tryz.func94 (by kernel_rfl) rfl) 95 #[.pointer (some ⟨w.heap.size, 0, none⟩)] trivial (enters_of Tryz.func95 (by kernel_rfl) rfl) _ 0 (Nat.zero_le _) (by omega) _ hseq
end Go.Proofs
