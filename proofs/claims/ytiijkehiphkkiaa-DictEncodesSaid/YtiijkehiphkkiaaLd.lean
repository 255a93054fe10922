/-
  DERIVED: THE SHELF's CONTRACTS AT THIS DUMP, IN PLAIN WORDS (tools/lay-plain.mjs out of 'TrySrcD.lean', which tools/lay-shelf.mjs wrote): THE SAME DECLARATIONS UNDER THE SAME NAMES: 'import', 'namespace', 'open', 'def', 'theorem' AND NOTHING ELSE: no command of the shelf's: FOR A HAND-IN. Each laying: the table of numbers ('.._ren') and one theorem, a field a fact of the dump's own or the kernel's comparison; each contract: ONE APPLICATION.
-/
import Derived.Shelf.Small.Bits
import Derived.Shelf.Strconv.Itoa0
import Derived.Shelf.Sort.Plain
import Derived.Shelf.Bits.Mul64
import Derived.Shelf.Slices.In.SortNone
import Derived.Ground.SlbCloneProg
import Derived.Shelf.Bytes.SlClone
import Derived.Ground.SlgmProg
import Derived.Shelf.SortM.Plain
import Derived.Shelf.SortM.SortNone
import Derived.Test.YtiijkehiphkkiaaProg
import Derived.Shelf.SlIter.Nil
import Derived.Ground.GgzProg
import Derived.Test.YtiijkehiphkkiaaProg
namespace Go.Proofs
open Go.Shelf
def Try.lays128_ren : Go.Shelf.Ren := ⟨fun | 128 => 130 | n => n, fun | 51 => 144 | 3 => 3 | 4 => 4 | 46 => 123 | 5 => 5 | 9 => 9 | n => n, fun | n => n⟩
theorem Try.lays128 : Go.Proofs.Lays.n128 Try.prog Try.lays128_ren := {
  mixed := by kernel_rfl
  f128 := Try.func130.trans (congrArg some (by kernel_rfl))
  t3 := Try.underlying3
  a3 := Try.isAgg3
  z3 := Try.sizeOf3
  v3 := Try.zeroValue3
  t4 := Try.underlying4
  a4 := Try.isAgg4
  z4 := Try.sizeOf4
  v4 := Try.zeroValue4
  t5 := Try.underlying5
  a5 := Try.isAgg5
  z5 := Try.sizeOf5
  v5 := Try.zeroValue5
  t9 := Try.underlying9
  a9 := Try.isAgg9
  z9 := Try.sizeOf9
  v9 := Try.zeroValue9
  t46 := Try.underlying123
  a46 := Try.isAgg123
  z46 := Try.sizeOf123
  v46 := Try.zeroValue123
  t51 := Try.underlying144
  a51 := Try.isAgg144
  z51 := Try.sizeOf144
  v51 := Try.zeroValue144 }
/-- bits.Len32: "Len32 returns the minimum number of bits required to represent x; the result is 0 for x == 0.": IT RETURNS 'Lib.bitLen x'; the world is as it was. ('h0', 'h1': x is a uint32.) (LAID: no walk: one application.) -/
theorem Try.bits_Len32 (x : Int) (w : World) (h0 : 0 ≤ x) (h1 : x ≤ 4294967295) :
    Calls Try.prog 130 #[.int .u32 x] w fun e w' => e = .returned (.int .i64 (Lib.bitLen x.toNat)) ∧ w' = w := Any.bits_Len32 Try.lays128 x w h0 h1
def Try.lays125_ren : Go.Shelf.Ren := ⟨fun | 125 => 113 | 128 => 130 | 129 => 114 | n => n, fun | 46 => 123 | 3 => 3 | 51 => 144 | 53 => 93 | 4 => 4 | 5 => 5 | 9 => 9 | n => n, fun | n => n⟩
theorem Try.lays125 : Go.Proofs.Lays.n125 Try.prog Try.lays125_ren := {
  mixed := by kernel_rfl
  f125 := Try.func113.trans (congrArg some (by kernel_rfl))
  f128 := Try.func130.trans (congrArg some (by kernel_rfl))
  f129 := Try.func114.trans (congrArg some (by kernel_rfl))
  t3 := Try.underlying3
  a3 := Try.isAgg3
  z3 := Try.sizeOf3
  v3 := Try.zeroValue3
  t4 := Try.underlying4
  a4 := Try.isAgg4
  z4 := Try.sizeOf4
  v4 := Try.zeroValue4
  t5 := Try.underlying5
  a5 := Try.isAgg5
  z5 := Try.sizeOf5
  v5 := Try.zeroValue5
  t9 := Try.underlying9
  a9 := Try.isAgg9
  z9 := Try.sizeOf9
  v9 := Try.zeroValue9
  t46 := Try.underlying123
  a46 := Try.isAgg123
  z46 := Try.sizeOf123
  v46 := Try.zeroValue123
  t51 := Try.underlying144
  a51 := Try.isAgg144
  z51 := Try.sizeOf144
  v51 := Try.zeroValue144
  t53 := Try.underlying93
  a53 := Try.isAgg93
  z53 := Try.sizeOf93
  v53 := Try.zeroValue93 }
/-- bits.Len: "Len returns the minimum number of bits required to represent x; the result is 0 for x == 0.": IT RETURNS 'Lib.bitLen x'; the world is as it was. (A uint has 64 bits in the model.) ITS CALLEE bits.Len64 IS MET BY ITS OWN CONTRACT OFF THE SHELF (lay that first). (LAID: no walk: one application.) -/
theorem Try.bits_Len (x : Int) (w : World) (h0 : 0 ≤ x) (h1 : x ≤ 18446744073709551615) :
    Calls Try.prog 113 #[.int .u64 x] w fun e w' => e = .returned (.int .i64 (Lib.bitLen x.toNat)) ∧ w' = w := Any.bits_Len Try.lays125 x w h0 h1
def Try.lays129_ren : Go.Shelf.Ren := ⟨fun | 129 => 114 | n => n, fun | 53 => 93 | 3 => 3 | 4 => 4 | 46 => 123 | 5 => 5 | 9 => 9 | n => n, fun | n => n⟩
theorem Try.lays129 : Go.Proofs.Lays.n129 Try.prog Try.lays129_ren := {
  mixed := by kernel_rfl
  f129 := Try.func114.trans (congrArg some (by kernel_rfl))
  t3 := Try.underlying3
  a3 := Try.isAgg3
  z3 := Try.sizeOf3
  v3 := Try.zeroValue3
  t4 := Try.underlying4
  a4 := Try.isAgg4
  z4 := Try.sizeOf4
  v4 := Try.zeroValue4
  t5 := Try.underlying5
  a5 := Try.isAgg5
  z5 := Try.sizeOf5
  v5 := Try.zeroValue5
  t9 := Try.underlying9
  a9 := Try.isAgg9
  z9 := Try.sizeOf9
  v9 := Try.zeroValue9
  t46 := Try.underlying123
  a46 := Try.isAgg123
  z46 := Try.sizeOf123
  v46 := Try.zeroValue123
  t53 := Try.underlying93
  a53 := Try.isAgg93
  z53 := Try.sizeOf93
  v53 := Try.zeroValue93 }
/-- bits.Len64: "Len64 returns the minimum number of bits required to represent x; the result is 0 for x == 0.": IT RETURNS 'Lib.bitLen x'; the world is as it was. ('h0', 'h1': x is a uint64.) (LAID: no walk: one application.) -/
theorem Try.bits_Len64 (x : Int) (w : World) (h0 : 0 ≤ x) (h1 : x ≤ 18446744073709551615) :
    Calls Try.prog 114 #[.int .u64 x] w fun e w' => e = .returned (.int .i64 (Lib.bitLen x.toNat)) ∧ w' = w := Any.bits_Len64 Try.lays129 x w h0 h1
def Try.lays190_ren : Go.Shelf.Ren := ⟨fun | 190 => 94 | 125 => 113 | 258 => 112 | 128 => 130 | 129 => 114 | 302 => 121 | 303 => 122 | 304 => 123 | 305 => 124 | 306 => 125 | 307 => 126 | 308 => 127 | 309 => 128 | 310 => 129 | 333 => 140 | 329 => 141 | 330 => 142 | 334 => 143 | 335 => 144 | 336 => 145 | 344 => 150 | n => n, fun | 31 => 84 | 9 => 9 | 3 => 3 | 46 => 123 | 0 => 0 | 51 => 144 | 53 => 93 | 4 => 4 | 183 => 151 | 182 => 150 | 131 => 133 | 5 => 5 | 218 => 164 | 222 => 168 | 228 => 172 | 229 => 173 | n => n, fun | n => n⟩
theorem Try.lays190 : Go.Proofs.Lays.n190 Try.prog Try.lays190_ren := {
  mixed := by kernel_rfl
  f125 := Try.func113.trans (congrArg some (by kernel_rfl))
  f128 := Try.func130.trans (congrArg some (by kernel_rfl))
  f129 := Try.func114.trans (congrArg some (by kernel_rfl))
  f190 := Try.func94.trans (congrArg some (by kernel_rfl))
  f258 := Try.func112.trans (congrArg some (by kernel_rfl))
  f302 := Try.func121.trans (congrArg some (by kernel_rfl))
  f303 := Try.func122.trans (congrArg some (by kernel_rfl))
  f304 := Try.func123.trans (congrArg some (by kernel_rfl))
  f305 := Try.func124.trans (congrArg some (by kernel_rfl))
  f306 := Try.func125.trans (congrArg some (by kernel_rfl))
  f307 := Try.func126.trans (congrArg some (by kernel_rfl))
  f308 := Try.func127.trans (congrArg some (by kernel_rfl))
  f309 := Try.func128.trans (congrArg some (by kernel_rfl))
  f310 := Try.func129.trans (congrArg some (by kernel_rfl))
  f329 := Try.func141.trans (congrArg some (by kernel_rfl))
  f330 := Try.func142.trans (congrArg some (by kernel_rfl))
  f333 := Try.func140.trans (congrArg some (by kernel_rfl))
  f334 := Try.func143.trans (congrArg some (by kernel_rfl))
  f335 := Try.func144.trans (congrArg some (by kernel_rfl))
  f336 := Try.func145.trans (congrArg some (by kernel_rfl))
  f344 := Try.func150.trans (congrArg some (by kernel_rfl))
  t0 := Try.underlying0
  a0 := Try.isAgg0
  z0 := Try.sizeOf0
  v0 := Try.zeroValue0
  t3 := Try.underlying3
  a3 := Try.isAgg3
  z3 := Try.sizeOf3
  v3 := Try.zeroValue3
  t4 := Try.underlying4
  a4 := Try.isAgg4
  z4 := Try.sizeOf4
  v4 := Try.zeroValue4
  t5 := Try.underlying5
  a5 := Try.isAgg5
  z5 := Try.sizeOf5
  v5 := Try.zeroValue5
  t9 := Try.underlying9
  a9 := Try.isAgg9
  z9 := Try.sizeOf9
  v9 := Try.zeroValue9
  t31 := Try.underlying84
  a31 := Try.isAgg84
  z31 := Try.sizeOf84
  v31 := Try.zeroValue84
  t46 := Try.underlying123
  a46 := Try.isAgg123
  z46 := Try.sizeOf123
  v46 := Try.zeroValue123
  t51 := Try.underlying144
  a51 := Try.isAgg144
  z51 := Try.sizeOf144
  v51 := Try.zeroValue144
  t53 := Try.underlying93
  a53 := Try.isAgg93
  z53 := Try.sizeOf93
  v53 := Try.zeroValue93
  t131 := Try.underlying133
  a131 := Try.isAgg133
  z131 := Try.sizeOf133
  v131 := Try.zeroValue133
  t182 := Try.underlying150
  a182 := Try.isAgg150
  z182 := Try.sizeOf150
  v182 := Try.zeroValue150
  t183 := Try.underlying151
  a183 := Try.isAgg151
  z183 := Try.sizeOf151
  v183 := Try.zeroValue151
  t218 := Try.underlying164
  a218 := Try.isAgg164
  z218 := Try.sizeOf164
  v218 := Try.zeroValue164
  t222 := Try.underlying168
  a222 := Try.isAgg168
  z222 := Try.sizeOf168
  v222 := Try.zeroValue168
  t228 := Try.underlying172
  a228 := Try.isAgg172
  z228 := Try.sizeOf172
  v228 := Try.zeroValue172
  t229 := Try.underlying173
  a229 := Try.isAgg173
  z229 := Try.sizeOf173
  v229 := Try.zeroValue173 }
open Go.Sort Go.RowKit in
theorem Try.slices_Sort_string (blk off cap : Nat) (ss : List (List UInt8)) (w : World) (hH : Holds encStr w blk off ss.toArray) (hblk : blk < w.heap.size) (hsz : ss.length < 4611686018427387904) :
    Calls Try.prog 94 #[.slice (some ⟨blk, off, none⟩) ss.length cap] w fun e w' =>
      e = .returned (.tuple #[]) ∧ ∃ n os, w' = grow (putRow encStr (Sort.ahead w n) blk off (ss.mergeSort fun x y => decide (x ≤ y)).toArray) os := Any.slices_Sort_string Try.lays190 blk off cap ss w hH hblk hsz
def Try.lays264_ren : Go.Shelf.Ren := ⟨fun | 264 => 120 | n => n, fun | 53 => 93 | 46 => 123 | n => n, fun | n => n⟩
theorem Try.lays264 : Go.Proofs.Lays.n264 Try.prog Try.lays264_ren := {
  mixed := by kernel_rfl
  f264 := Try.func120.trans (congrArg some (by kernel_rfl))
  t46 := Try.underlying123
  a46 := Try.isAgg123
  z46 := Try.sizeOf123
  v46 := Try.zeroValue123
  t53 := Try.underlying93
  a53 := Try.isAgg93
  z53 := Try.sizeOf93
  v53 := Try.zeroValue93 }
open Go.RowKit Go.Lib in
theorem Try.bits_Mul64 (x y : Nat) (hx : x < 18446744073709551616) (hy : y < 18446744073709551616) (w : World) :
    Calls Try.prog 120 #[.int .u64 x, .int .u64 y] w fun e w' => e = .returned (.tuple #[.int .u64 ((x * y / 18446744073709551616 : Nat) : Int), .int .u64 ((x * y % 18446744073709551616 : Nat) : Int)]) ∧ w' = w := Any.bits_Mul64 Try.lays264 x y hx hy w
def Try.lays212_ren : Go.Shelf.Ren := ⟨fun | 212 => 110 | 263 => 119 | 264 => 120 | n => n, fun | 46 => 123 | 51 => 144 | 146 => 145 | 53 => 93 | 148 => 147 | n => n, fun | n => n⟩
theorem Try.lays212 : Go.Proofs.Lays.n212 Try.prog Try.lays212_ren := {
  mixed := by kernel_rfl
  f212 := Try.func110.trans (congrArg some (by kernel_rfl))
  f263 := Try.func119.trans (congrArg some (by kernel_rfl))
  f264 := Try.func120.trans (congrArg some (by kernel_rfl))
  t46 := Try.underlying123
  a46 := Try.isAgg123
  z46 := Try.sizeOf123
  v46 := Try.zeroValue123
  t51 := Try.underlying144
  a51 := Try.isAgg144
  z51 := Try.sizeOf144
  v51 := Try.zeroValue144
  t53 := Try.underlying93
  a53 := Try.isAgg93
  z53 := Try.sizeOf93
  v53 := Try.zeroValue93
  t146 := Try.underlying145
  a146 := Try.isAgg145
  z146 := Try.sizeOf145
  v146 := Try.zeroValue145
  t148 := Try.underlying147
  a148 := Try.isAgg147
  z148 := Try.sizeOf147
  v148 := Try.zeroValue147 }
open Go.RowKit Go.Lib in
/-- math/bits.Mul: "Mul returns the full-width product of x and y": on a machine of 64 bits: Mul64's. (LAID: no walk: one application.) -/
theorem Try.bits_Mul (x y : Nat) (hx : x < 18446744073709551616) (hy : y < 18446744073709551616) (w : World) :
    Calls Try.prog 110 #[.int .u64 x, .int .u64 y] w fun e w' => e = .returned (.tuple #[.int .u64 ((x * y / 18446744073709551616 : Nat) : Int), .int .u64 ((x * y % 18446744073709551616 : Nat) : Int)]) ∧ w' = w := Any.bits_Mul Try.lays212 x y hx hy w
open Go.RowKit Go.Sort in
/-- .. and plain. (LAID: no walk: one application.) -/
theorem Try.slices_Sort_string_none (p : Option Addr) (cap : Nat) (w : World) :
    Calls Try.prog 94 #[.slice p 0 cap] w fun e w' => e = .returned (.tuple #[]) ∧ w' = w := Any.slices_Sort_string_none Try.lays190 p cap w
def Try.laysSlK4_ren : Go.Shelf.Ren := ⟨fun | 4 => 103 | n => n, fun | 22 => 55 | 4 => 4 | 5 => 5 | n => n, fun | n => n⟩
theorem Try.laysSlK4 : Go.Proofs.SlLaysK.n4 Try.prog Try.laysSlK4_ren := {
  mixed := by kernel_rfl
  f4 := Try.func103.trans (congrArg some (by kernel_rfl))
  t4 := Try.underlying4
  a4 := Try.isAgg4
  z4 := Try.sizeOf4
  v4 := Try.zeroValue4
  t22 := Try.underlying55
  a22 := Try.isAgg55
  z22 := Try.sizeOf55
  v22 := Try.zeroValue55
  t5 := Try.underlying5
  i5 := by kernel_rfl }
open Go.RowKit Go.Lib in
/-- bytes.Clone: "Clone returns a copy of b[:len(b)]. The result may have additional unused capacity.": OF A SLICE THAT IS NOT nil IT RETURNS A SLICE THAT IS NOT nil, OF THE SAME BYTES, IN MEMORY OF THE CALL's OWN: in the how-to's words (6f): 'w'.ownsRow B e 1 v' n cells' · 'Below B w w'', B the heap's size at the call. b AT WHATEVER ADDRESS, its cells as 'open_ints' hands them ('a.add i'; the numbers 'xs'). No byte: no cell is asked for. (LAID: no walk: one application.) -/
theorem Try.bytes_Clone_at (a : Addr) (n c : Nat) (xs : List Int) (w : World) (hx : xs.length = n) (hbig : n ≤ 140737488355328) (hc : ∀ i, i < n → w.cell? (a.add i) = some (.int .u8 (xs.getD i 0))) :
    Calls Try.prog 103 #[.slice (some a) n c] w fun e w' => ∃ v', e = .returned v' ∧ w'.ownsRow w.heap.size 5 1 v' n (xs.map (Value.int .u8)) ∧ v' ≠ .slice none 0 0 ∧ Below w.heap.size w w' := Any.bytes_Clone_at Try.laysSlK4 a n c xs w hx hbig hc
open Go.RowKit Go.Lib in
/-- "Clone(nil) returns nil.": the world is as it was. (LAID: no walk: one application.) -/
theorem Try.bytes_Clone_nil (n c : Nat) (w : World) :
    Calls Try.prog 103 #[.slice none n c] w fun e w' => e = .returned (.slice none 0 0) ∧ w' = w := Any.bytes_Clone_nil Try.laysSlK4 n c w
def Try.laysSlM5_f108_ren : Go.Shelf.Ren := ⟨fun | 5 => 108 | 8 => 113 | 7 => 118 | 19 => 130 | 20 => 114 | 10 => 131 | 11 => 132 | 12 => 133 | 13 => 134 | 14 => 135 | 15 => 136 | 16 => 137 | 17 => 138 | 18 => 139 | 30 => 146 | 31 => 141 | 32 => 142 | 33 => 147 | 34 => 148 | 35 => 149 | 40 => 151 | n => n, fun | 23 => 26 | 25 => 2 | 3 => 3 | 32 => 123 | 22 => 26 | 0 => 0 | 44 => 144 | 46 => 93 | 4 => 4 | 36 => 151 | 35 => 150 | 41 => 133 | 5 => 5 | 9 => 9 | 53 => 164 | 57 => 168 | 63 => 172 | 64 => 173 | n => n, fun | n => n⟩
theorem Try.laysSlM5_f108 : Go.Proofs.SlLaysM.n5 Try.prog Try.laysSlM5_f108_ren := {
  mixed := by kernel_rfl
  f5 := ⟨Try.f108.name, by decide, Try.func108.trans (congrArg some (by kernel_rfl))⟩
  f7 := ⟨Try.f118.name, by decide, Try.func118.trans (congrArg some (by kernel_rfl))⟩
  f8 := Try.func113.trans (congrArg some (by kernel_rfl))
  f10 := ⟨Try.f131.name, by decide, Try.func131.trans (congrArg some (by kernel_rfl))⟩
  f11 := ⟨Try.f132.name, by decide, Try.func132.trans (congrArg some (by kernel_rfl))⟩
  f12 := ⟨Try.f133.name, by decide, Try.func133.trans (congrArg some (by kernel_rfl))⟩
  f13 := ⟨Try.f134.name, by decide, Try.func134.trans (congrArg some (by kernel_rfl))⟩
  f14 := ⟨Try.f135.name, by decide, Try.func135.trans (congrArg some (by kernel_rfl))⟩
  f15 := ⟨Try.f136.name, by decide, Try.func136.trans (congrArg some (by kernel_rfl))⟩
  f16 := ⟨Try.f137.name, by decide, Try.func137.trans (congrArg some (by kernel_rfl))⟩
  f17 := ⟨Try.f138.name, by decide, Try.func138.trans (congrArg some (by kernel_rfl))⟩
  f18 := ⟨Try.f139.name, by decide, Try.func139.trans (congrArg some (by kernel_rfl))⟩
  f19 := Try.func130.trans (congrArg some (by kernel_rfl))
  f20 := Try.func114.trans (congrArg some (by kernel_rfl))
  f30 := ⟨Try.f146.name, by decide, Try.func146.trans (congrArg some (by kernel_rfl))⟩
  f31 := Try.func141.trans (congrArg some (by kernel_rfl))
  f32 := Try.func142.trans (congrArg some (by kernel_rfl))
  f33 := ⟨Try.f147.name, by decide, Try.func147.trans (congrArg some (by kernel_rfl))⟩
  f34 := ⟨Try.f148.name, by decide, Try.func148.trans (congrArg some (by kernel_rfl))⟩
  f35 := ⟨Try.f149.name, by decide, Try.func149.trans (congrArg some (by kernel_rfl))⟩
  f40 := ⟨Try.f151.name, by decide, Try.func151.trans (congrArg some (by kernel_rfl))⟩
  t0 := Try.underlying0
  a0 := Try.isAgg0
  z0 := Try.sizeOf0
  v0 := Try.zeroValue0
  t3 := Try.underlying3
  a3 := Try.isAgg3
  z3 := Try.sizeOf3
  v3 := Try.zeroValue3
  t4 := Try.underlying4
  a4 := Try.isAgg4
  z4 := Try.sizeOf4
  v4 := Try.zeroValue4
  t5 := Try.underlying5
  a5 := Try.isAgg5
  z5 := Try.sizeOf5
  v5 := Try.zeroValue5
  t9 := Try.underlying9
  a9 := Try.isAgg9
  z9 := Try.sizeOf9
  v9 := Try.zeroValue9
  t22 := Try.underlying26
  a22 := Try.isAgg26
  z22 := Try.sizeOf26
  v22 := Try.zeroValue26
  t23 := Try.underlying26
  a23 := Try.isAgg26
  z23 := Try.sizeOf26
  v23 := Try.zeroValue26
  t25 := Try.underlying2
  a25 := Try.isAgg2
  z25 := Try.sizeOf2
  v25 := Try.zeroValue2
  t32 := Try.underlying123
  a32 := Try.isAgg123
  z32 := Try.sizeOf123
  v32 := Try.zeroValue123
  t35 := Try.underlying150
  a35 := Try.isAgg150
  z35 := Try.sizeOf150
  v35 := Try.zeroValue150
  t36 := Try.underlying151
  a36 := Try.isAgg151
  z36 := Try.sizeOf151
  v36 := Try.zeroValue151
  t41 := Try.underlying133
  a41 := Try.isAgg133
  z41 := Try.sizeOf133
  v41 := Try.zeroValue133
  t44 := Try.underlying144
  a44 := Try.isAgg144
  z44 := Try.sizeOf144
  v44 := Try.zeroValue144
  t46 := Try.underlying93
  a46 := Try.isAgg93
  z46 := Try.sizeOf93
  v46 := Try.zeroValue93
  t53 := Try.underlying164
  a53 := Try.isAgg164
  z53 := Try.sizeOf164
  v53 := Try.zeroValue164
  t57 := Try.underlying168
  a57 := Try.isAgg168
  z57 := Try.sizeOf168
  v57 := Try.zeroValue168
  t63 := Try.underlying172
  a63 := Try.isAgg172
  z63 := Try.sizeOf172
  v63 := Try.zeroValue172
  t64 := Try.underlying173
  a64 := Try.isAgg173
  z64 := Try.sizeOf173
  v64 := Try.zeroValue173 }
open Go.Sort Go.RowKit in
theorem Try.slices_Sort_int (blk off cap : Nat) (zs : List Int) (w : World) (hH : Holds (Value.int .i64) w blk off zs.toArray) (hblk : blk < w.heap.size) (hsz : zs.length < 4611686018427387904) :
    Calls Try.prog 108 #[.slice (some ⟨blk, off, none⟩) zs.length cap] w fun e w' =>
      e = .returned (.tuple #[]) ∧ ∃ n os, w' = grow (putRow (Value.int .i64) (Sort.ahead w n) blk off (zs.mergeSort fun x y => decide (x ≤ y)).toArray) os := AnyM.slices_Sort_int Try.laysSlM5_f108 blk off cap zs w hH hblk hsz
open Go.RowKit Go.Sort in
/-- .. and plain. (LAID AT THE INSTANCE 'slices.Sort[[]int64,int64]': no walk: one application.) -/
theorem Try.slices_Sort_int_none (p : Option Addr) (cap : Nat) (w : World) :
    Calls Try.prog 108 #[.slice p 0 cap] w fun e w' => e = .returned (.tuple #[]) ∧ w' = w := AnyM.slices_Sort_int_none Try.laysSlM5_f108 p cap w
def Try.keys67_ren : Go.Shelf.Ren := ⟨fun | 7 => 67 | 10 => 95 | n => n, fun | 23 => 83 | 26 => 9 | 3 => 3 | 28 => 87 | 0 => 0 | 27 => 86 | 33 => 122 | 4 => 4 | n => n, fun | n => n⟩
theorem Try.keys67 : Go.Proofs.SlLaysZ.n7 Try.prog Try.keys67_ren := {
  mixed := by kernel_rfl
  f7 := ⟨Try.f67.name, by decide, Try.func67.trans (congrArg some (by kernel_rfl))⟩
  f10 := ⟨Try.f95.name, by decide, Try.func95.trans (congrArg some (by kernel_rfl))⟩
  t0 := Try.underlying0
  a0 := Try.isAgg0
  z0 := Try.sizeOf0
  v0 := Try.zeroValue0
  t4 := Try.underlying4
  a4 := Try.isAgg4
  z4 := Try.sizeOf4
  v4 := Try.zeroValue4
  t23 := Try.underlying83
  a23 := Try.isAgg83
  z23 := Try.sizeOf83
  v23 := Try.zeroValue83
  t26 := Try.underlying9
  a26 := Try.isAgg9
  z26 := Try.sizeOf9
  v26 := Try.zeroValue9
  t27 := Try.underlying86
  a27 := Try.isAgg86
  z27 := Try.sizeOf86
  v27 := Try.zeroValue86
  t28 := Try.underlying87
  a28 := Try.isAgg87
  z28 := Try.sizeOf87
  v28 := Try.zeroValue87
  t33 := Try.underlying122
  a33 := Try.isAgg122
  z33 := Try.sizeOf122
  v33 := Try.zeroValue122 }
def Try.sorted66_ren : Go.Shelf.Ren := ⟨fun | 6 => 66 | 8 => 93 | 9 => 94 | 11 => 111 | 13 => 113 | 12 => 112 | 23 => 130 | 24 => 114 | 14 => 121 | 15 => 122 | 16 => 123 | 17 => 124 | 18 => 125 | 19 => 126 | 20 => 127 | 21 => 128 | 22 => 129 | 25 => 140 | 26 => 141 | 27 => 142 | 28 => 143 | 29 => 144 | 30 => 145 | 31 => 150 | n => n, fun | 26 => 9 | 28 => 87 | 24 => 84 | 0 => 0 | 3 => 3 | 37 => 123 | 48 => 144 | 50 => 93 | 4 => 4 | 40 => 151 | 39 => 150 | 45 => 133 | 5 => 5 | 9 => 9 | 51 => 164 | 55 => 168 | 57 => 172 | 58 => 173 | 33 => 122 | n => n, fun | n => n⟩
theorem Try.sorted66 : Go.Proofs.SlLaysZ.n6 Try.prog Try.sorted66_ren := {
  mixed := by kernel_rfl
  f6 := ⟨Try.f66.name, by decide, Try.func66.trans (congrArg some (by kernel_rfl))⟩
  f8 := ⟨Try.f93.name, by decide, Try.func93.trans (congrArg some (by kernel_rfl))⟩
  f11 := ⟨Try.f111.name, by decide, Try.func111.trans (congrArg some (by kernel_rfl))⟩
  t0 := Try.underlying0
  a0 := Try.isAgg0
  z0 := Try.sizeOf0
  v0 := Try.zeroValue0
  t24 := Try.underlying84
  a24 := Try.isAgg84
  z24 := Try.sizeOf84
  v24 := Try.zeroValue84
  t26 := Try.underlying9
  a26 := Try.isAgg9
  z26 := Try.sizeOf9
  v26 := Try.zeroValue9
  t28 := Try.underlying87
  a28 := Try.isAgg87
  z28 := Try.sizeOf87
  v28 := Try.zeroValue87
  i26 := by kernel_rfl }
def Try.sort94_ren : Go.Shelf.Ren := ⟨fun | 6 => 94 | 8 => 113 | 9 => 112 | 19 => 130 | 20 => 114 | 21 => 121 | 22 => 122 | 23 => 123 | 24 => 124 | 25 => 125 | 26 => 126 | 27 => 127 | 28 => 128 | 29 => 129 | 36 => 140 | 31 => 141 | 32 => 142 | 37 => 143 | 38 => 144 | 39 => 145 | 41 => 150 | n => n, fun | 27 => 84 | 29 => 9 | 3 => 3 | 32 => 123 | 26 => 84 | 0 => 0 | 44 => 144 | 46 => 93 | 4 => 4 | 36 => 151 | 35 => 150 | 41 => 133 | 5 => 5 | 9 => 9 | 53 => 164 | 57 => 168 | 63 => 172 | 64 => 173 | n => n, fun | n => n⟩
theorem Try.sort94 : Go.Proofs.SlLaysM.n6 Try.prog Try.sort94_ren := {
  mixed := by kernel_rfl
  f6 := ⟨Try.f94.name, by decide, Try.func94.trans (congrArg some (by kernel_rfl))⟩
  f8 := Try.func113.trans (congrArg some (by kernel_rfl))
  f9 := ⟨Try.f112.name, by decide, Try.func112.trans (congrArg some (by kernel_rfl))⟩
  f19 := Try.func130.trans (congrArg some (by kernel_rfl))
  f20 := Try.func114.trans (congrArg some (by kernel_rfl))
  f21 := ⟨Try.f121.name, by decide, Try.func121.trans (congrArg some (by kernel_rfl))⟩
  f22 := ⟨Try.f122.name, by decide, Try.func122.trans (congrArg some (by kernel_rfl))⟩
  f23 := ⟨Try.f123.name, by decide, Try.func123.trans (congrArg some (by kernel_rfl))⟩
  f24 := ⟨Try.f124.name, by decide, Try.func124.trans (congrArg some (by kernel_rfl))⟩
  f25 := ⟨Try.f125.name, by decide, Try.func125.trans (congrArg some (by kernel_rfl))⟩
  f26 := ⟨Try.f126.name, by decide, Try.func126.trans (congrArg some (by kernel_rfl))⟩
  f27 := ⟨Try.f127.name, by decide, Try.func127.trans (congrArg some (by kernel_rfl))⟩
  f28 := ⟨Try.f128.name, by decide, Try.func128.trans (congrArg some (by kernel_rfl))⟩
  f29 := ⟨Try.f129.name, by decide, Try.func129.trans (congrArg some (by kernel_rfl))⟩
  f31 := Try.func141.trans (congrArg some (by kernel_rfl))
  f32 := Try.func142.trans (congrArg some (by kernel_rfl))
  f36 := ⟨Try.f140.name, by decide, Try.func140.trans (congrArg some (by kernel_rfl))⟩
  f37 := ⟨Try.f143.name, by decide, Try.func143.trans (congrArg some (by kernel_rfl))⟩
  f38 := ⟨Try.f144.name, by decide, Try.func144.trans (congrArg some (by kernel_rfl))⟩
  f39 := ⟨Try.f145.name, by decide, Try.func145.trans (congrArg some (by kernel_rfl))⟩
  f41 := ⟨Try.f150.name, by decide, Try.func150.trans (congrArg some (by kernel_rfl))⟩
  t0 := Try.underlying0
  a0 := Try.isAgg0
  z0 := Try.sizeOf0
  v0 := Try.zeroValue0
  t3 := Try.underlying3
  a3 := Try.isAgg3
  z3 := Try.sizeOf3
  v3 := Try.zeroValue3
  t4 := Try.underlying4
  a4 := Try.isAgg4
  z4 := Try.sizeOf4
  v4 := Try.zeroValue4
  t5 := Try.underlying5
  a5 := Try.isAgg5
  z5 := Try.sizeOf5
  v5 := Try.zeroValue5
  t9 := Try.underlying9
  a9 := Try.isAgg9
  z9 := Try.sizeOf9
  v9 := Try.zeroValue9
  t26 := Try.underlying84
  a26 := Try.isAgg84
  z26 := Try.sizeOf84
  v26 := Try.zeroValue84
  t27 := Try.underlying84
  a27 := Try.isAgg84
  z27 := Try.sizeOf84
  v27 := Try.zeroValue84
  t29 := Try.underlying9
  a29 := Try.isAgg9
  z29 := Try.sizeOf9
  v29 := Try.zeroValue9
  t32 := Try.underlying123
  a32 := Try.isAgg123
  z32 := Try.sizeOf123
  v32 := Try.zeroValue123
  t35 := Try.underlying150
  a35 := Try.isAgg150
  z35 := Try.sizeOf150
  v35 := Try.zeroValue150
  t36 := Try.underlying151
  a36 := Try.isAgg151
  z36 := Try.sizeOf151
  v36 := Try.zeroValue151
  t41 := Try.underlying133
  a41 := Try.isAgg133
  z41 := Try.sizeOf133
  v41 := Try.zeroValue133
  t44 := Try.underlying144
  a44 := Try.isAgg144
  z44 := Try.sizeOf144
  v44 := Try.zeroValue144
  t46 := Try.underlying93
  a46 := Try.isAgg93
  z46 := Try.sizeOf93
  v46 := Try.zeroValue93
  t53 := Try.underlying164
  a53 := Try.isAgg164
  z53 := Try.sizeOf164
  v53 := Try.zeroValue164
  t57 := Try.underlying168
  a57 := Try.isAgg168
  z57 := Try.sizeOf168
  v57 := Try.zeroValue168
  t63 := Try.underlying172
  a63 := Try.isAgg172
  z63 := Try.sizeOf172
  v63 := Try.zeroValue172
  t64 := Try.underlying173
  a64 := Try.isAgg173
  z64 := Try.sizeOf173
  v64 := Try.zeroValue173 }
open Go.RowKit Go.Maps Go.Sort Go.Lib in
theorem Try.sorts66 (m : Nat) : AnyZ.SortsIn Try.prog Try.sorted66_ren Fence.wide m :=
  ⟨fun blk off cap ss W hH hblk hsz => callsIn_wide.2 (AnyM.slices_Sort_string Try.sort94 blk off cap ss W hH hblk hsz),
   fun p cap W => callsIn_wide.2 (AnyM.slices_Sort_string_none Try.sort94 p cap W)⟩
open Go.RowKit Go.Maps Go.Sort Go.Lib in
theorem Try.maps_Keys_67 (mb : Option Nat) (W : World) : CallsIn Fence.wide 5 Try.prog 67 #[.map mb] W fun e w' => e = .returned (.func (.func 95) #[] #[.pointer (some ⟨W.heap.size, 0, none⟩)]) ∧ w' = W.alloc (.cells #[.map mb] 83) :=
  AnyZ.keys_in Try.keys67 Fence.wide 5 trivial rfl mb W
open Go.RowKit Go.Maps Go.Sort Go.Lib in
theorem Try.slices_Sorted_keys_66_67 {H : Type} (b nn : Nat) (D0 : DataW H) (R : Value → Option (DataW H × List MemPlace)) (w : World) (hown : w.ownsMap Try.prog 9 R b nn D0) (hmax : Maps.size D0 ≤ maxLen) (hbytes : Maps.size D0 * 16 ≤ 140737488355328) :
    CallsIn Fence.wide 5 Try.prog 66 #[.func (.func 95) #[] #[.pointer (some ⟨w.heap.size, 0, none⟩)]] (w.alloc (.cells #[.map (some b)] 83)) fun e w' => ∃ (v : Value) (ss : List (List UInt8)), e = .returned v ∧ ss.Perm (strKeys D0) ∧
      w'.ownsRow (w.alloc (.cells #[.map (some b)] 83)).heap.size 9 1 v ss.length ((ss.mergeSort (fun x y => decide (x ≤ y))).map encStr) ∧ (v = .slice none 0 0 ↔ ss = []) ∧ Below (w.alloc (.cells #[.map (some b)] 83)).heap.size (w.alloc (.cells #[.map (some b)] 83)) w' := by
  have hbl := hown.lt
  have hseq : SeqGives Fence.wide 2 Try.prog 95 #[.pointer (some ⟨w.heap.size, 0, none⟩)] encStr (fun ss => ss.Perm (strKeys D0)) (Maps.size D0) (w.alloc (.cells #[.map (some b)] 83)) :=
    AnyZ.keys_gives (ρ := Try.keys67_ren) { Try.keys67 with } Fence.wide _ trivial rfl (by omega) w.heap.size b nn D0 _ (by simp) (by simp) (by
      obtain ⟨es, clock, hb, Ft, hs, hD⟩ := hown
      exact ⟨es, clock, (Below.heap_alloc _ _ b hbl).trans hb, Ft, hs, hD⟩)
  exact AnyZ.sorted_in Try.sorted66 Fence.wide 5 trivial trivial trivial trivial rfl (by omega) (Try.sorts66 _) (enters_of Try.func94 (by kernel_rfl) rfl) 95 #[.pointer (some ⟨w.heap.size, 0, none⟩)] trivial (enters_of Try.func95 (by kernel_rfl) rfl) _ _ hmax hbytes _ hseq
open Go.RowKit Go.Maps Go.Sort Go.Lib in
theorem Try.slices_Sorted_keys_nil_66_67 (w : World) :
    CallsIn Fence.wide 5 Try.prog 66 #[.func (.func 95) #[] #[.pointer (some ⟨w.heap.size, 0, none⟩)]] (w.alloc (.cells #[.map none] 83)) fun e w' => ∃ (v : Value) (ss : List (List UInt8)), e = .returned v ∧ ss = [] ∧
      w'.ownsRow (w.alloc (.cells #[.map none] 83)).heap.size 9 1 v ss.length ((ss.mergeSort (fun x y => decide (x ≤ y))).map encStr) ∧ (v = .slice none 0 0 ↔ ss = []) ∧ Below (w.alloc (.cells #[.map none] 83)).heap.size (w.alloc (.cells #[.map none] 83)) w' := by
  have hseq : SeqGives Fence.wide 2 Try.prog 95 #[.pointer (some ⟨w.heap.size, 0, none⟩)] encStr (fun ss : List (List UInt8) => ss = []) 0 (w.alloc (.cells #[.map none] 83)) :=
    AnyZ.keys_gives_nil (ρ := Try.keys67_ren) { Try.keys67 with } Fence.wide _ trivial rfl w.heap.size _ (by simp) (by simp)
  exact AnyZ.sorted_in Try.sorted66 Fence.wide 5 trivial trivial trivial trivial rfl (by omega) (Try.sorts66 _) (enters_of Try.func94 (by kernel_rfl) rfl) 95 #[.pointer (some ⟨w.heap.size, 0, none⟩)] trivial (enters_of Try.func95 (by kernel_rfl) rfl) _ 0 (Nat.zero_le _) (by omega) _ hseq
end Go.Proofs
