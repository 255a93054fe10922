/-
  DERIVED: THE SHELF's CONTRACTS AT THIS DUMP, IN PLAIN WORDS (tools/lay-plain.mjs out of 'TrySrc.lean', which tools/lay-shelf.mjs wrote): THE SAME DECLARATIONS UNDER THE SAME NAMES: 'import', 'namespace', 'open', 'def', 'theorem' AND NOTHING ELSE: no command of the shelf's: FOR A HAND-IN. Each laying: the table of numbers ('.._ren') and one theorem, a field a fact of the dump's own or the kernel's comparison; each contract: ONE APPLICATION.
-/
import Derived.Shelf.Bits.Mul64
import Derived.Shelf.SlIter.Nil
import Derived.Shelf.SortM.Plain
import Derived.Shelf.SortM.SortNone
import Derived.Ground.GgzProg
import Derived.Ground.SlgmProg
import Derived.Shelf.SlIterI.Nil
import Derived.Shelf.SlIterI.Sorted
import Derived.Test.YtiijkehiphkkiaaProg
namespace Go.Proofs
open Go.Shelf
def Try.lays264_ren : Go.Shelf.Ren := ⟨fun | 264 => 120 | n => n, fun | 53 => 93 | 46 => 123 | n => n, fun | n => n⟩
theorem Try.lays264 : Go.Proofs.Lays.n264 Try.prog Try.lays264_ren := {
  mixed := by kernel_rfl
  f264 := Try.func120.trans (congrArg some (by kernel_rfl))
  t46 := Try.underlying123
  a46 := Try.isAgg123
  z46 := Try.sizeOf123
  v46 := Try.zeroValue123
  t53 := Try.underlying93
  a53 := Try.isAgg93
  z53 := Try.sizeOf93
  v53 := Try.zeroValue93 }
open Go.RowKit Go.Lib in
theorem Try.bits_Mul64 (x y : Nat) (hx : x < 18446744073709551616) (hy : y < 18446744073709551616) (w : World) :
    Calls Try.prog 120 #[.int .u64 x, .int .u64 y] w fun e w' => e = .returned (.tuple #[.int .u64 ((x * y / 18446744073709551616 : Nat) : Int), .int .u64 ((x * y % 18446744073709551616 : Nat) : Int)]) ∧ w' = w := Any.bits_Mul64 Try.lays264 x y hx hy w
def Try.lays212_ren : Go.Shelf.Ren := ⟨fun | 212 => 110 | 263 => 119 | 264 => 120 | n => n, fun | 46 => 123 | 51 => 144 | 146 => 145 | 53 => 93 | 148 => 147 | n => n, fun | n => n⟩
theorem Try.lays212 : Go.Proofs.Lays.n212 Try.prog Try.lays212_ren := {
  mixed := by kernel_rfl
  f212 := Try.func110.trans (congrArg some (by kernel_rfl))
  f263 := Try.func119.trans (congrArg some (by kernel_rfl))
  f264 := Try.func120.trans (congrArg some (by kernel_rfl))
  t46 := Try.underlying123
  a46 := Try.isAgg123
  z46 := Try.sizeOf123
  v46 := Try.zeroValue123
  t51 := Try.underlying144
  a51 := Try.isAgg144
  z51 := Try.sizeOf144
  v51 := Try.zeroValue144
  t53 := Try.underlying93
  a53 := Try.isAgg93
  z53 := Try.sizeOf93
  v53 := Try.zeroValue93
  t146 := Try.underlying145
  a146 := Try.isAgg145
  z146 := Try.sizeOf145
  v146 := Try.zeroValue145
  t148 := Try.underlying147
  a148 := Try.isAgg147
  z148 := Try.sizeOf147
  v148 := Try.zeroValue147 }
open Go.RowKit Go.Lib in
/-- math/bits.Mul: "Mul returns the full-width product of x and y": on a machine of 64 bits: Mul64's. (LAID: no walk: one application.) -/
theorem Try.bits_Mul (x y : Nat) (hx : x < 18446744073709551616) (hy : y < 18446744073709551616) (w : World) :
    Calls Try.prog 110 #[.int .u64 x, .int .u64 y] w fun e w' => e = .returned (.tuple #[.int .u64 ((x * y / 18446744073709551616 : Nat) : Int), .int .u64 ((x * y % 18446744073709551616 : Nat) : Int)]) ∧ w' = w := Any.bits_Mul Try.lays212 x y hx hy w
def Try.keys67_ren : Go.Shelf.Ren := ⟨fun | 7 => 67 | 10 => 95 | n => n, fun | 23 => 83 | 26 => 9 | 3 => 3 | 28 => 87 | 0 => 0 | 27 => 86 | 33 => 122 | 4 => 4 | n => n, fun | n => n⟩
theorem Try.keys67 : Go.Proofs.SlLaysZ.n7 Try.prog Try.keys67_ren := {
  mixed := by kernel_rfl
  f7 := ⟨Try.f67.name, by decide, Try.func67.trans (congrArg some (by kernel_rfl))⟩
  f10 := ⟨Try.f95.name, by decide, Try.func95.trans (congrArg some (by kernel_rfl))⟩
  t0 := Try.underlying0
  a0 := Try.isAgg0
  z0 := Try.sizeOf0
  v0 := Try.zeroValue0
  t4 := Try.underlying4
  a4 := Try.isAgg4
  z4 := Try.sizeOf4
  v4 := Try.zeroValue4
  t23 := Try.underlying83
  a23 := Try.isAgg83
  z23 := Try.sizeOf83
  v23 := Try.zeroValue83
  t26 := Try.underlying9
  a26 := Try.isAgg9
  z26 := Try.sizeOf9
  v26 := Try.zeroValue9
  t27 := Try.underlying86
  a27 := Try.isAgg86
  z27 := Try.sizeOf86
  v27 := Try.zeroValue86
  t28 := Try.underlying87
  a28 := Try.isAgg87
  z28 := Try.sizeOf87
  v28 := Try.zeroValue87
  t33 := Try.underlying122
  a33 := Try.isAgg122
  z33 := Try.sizeOf122
  v33 := Try.zeroValue122 }
def Try.sorted66_ren : Go.Shelf.Ren := ⟨fun | 6 => 66 | 8 => 93 | 9 => 94 | 11 => 111 | 13 => 113 | 12 => 112 | 23 => 130 | 24 => 114 | 14 => 121 | 15 => 122 | 16 => 123 | 17 => 124 | 18 => 125 | 19 => 126 | 20 => 127 | 21 => 128 | 22 => 129 | 25 => 140 | 26 => 141 | 27 => 142 | 28 => 143 | 29 => 144 | 30 => 145 | 31 => 150 | n => n, fun | 26 => 9 | 28 => 87 | 24 => 84 | 0 => 0 | 3 => 3 | 37 => 123 | 48 => 144 | 50 => 93 | 4 => 4 | 40 => 151 | 39 => 150 | 45 => 133 | 5 => 5 | 9 => 9 | 51 => 164 | 55 => 168 | 57 => 172 | 58 => 173 | 33 => 122 | n => n, fun | n => n⟩
theorem Try.sorted66 : Go.Proofs.SlLaysZ.n6 Try.prog Try.sorted66_ren := {
  mixed := by kernel_rfl
  f6 := ⟨Try.f66.name, by decide, Try.func66.trans (congrArg some (by kernel_rfl))⟩
  f8 := ⟨Try.f93.name, by decide, Try.func93.trans (congrArg some (by kernel_rfl))⟩
  f11 := ⟨Try.f111.name, by decide, Try.func111.trans (congrArg some (by kernel_rfl))⟩
  t0 := Try.underlying0
  a0 := Try.isAgg0
  z0 := Try.sizeOf0
  v0 := Try.zeroValue0
  t24 := Try.underlying84
  a24 := Try.isAgg84
  z24 := Try.sizeOf84
  v24 := Try.zeroValue84
  t26 := Try.underlying9
  a26 := Try.isAgg9
  z26 := Try.sizeOf9
  v26 := Try.zeroValue9
  t28 := Try.underlying87
  a28 := Try.isAgg87
  z28 := Try.sizeOf87
  v28 := Try.zeroValue87
  i26 := by kernel_rfl }
def Try.sort94_ren : Go.Shelf.Ren := ⟨fun | 6 => 94 | 8 => 113 | 9 => 112 | 19 => 130 | 20 => 114 | 21 => 121 | 22 => 122 | 23 => 123 | 24 => 124 | 25 => 125 | 26 => 126 | 27 => 127 | 28 => 128 | 29 => 129 | 36 => 140 | 31 => 141 | 32 => 142 | 37 => 143 | 38 => 144 | 39 => 145 | 41 => 150 | n => n, fun | 27 => 84 | 29 => 9 | 3 => 3 | 32 => 123 | 26 => 84 | 0 => 0 | 44 => 144 | 46 => 93 | 4 => 4 | 36 => 151 | 35 => 150 | 41 => 133 | 5 => 5 | 9 => 9 | 53 => 164 | 57 => 168 | 63 => 172 | 64 => 173 | n => n, fun | n => n⟩
theorem Try.sort94 : Go.Proofs.SlLaysM.n6 Try.prog Try.sort94_ren := {
  mixed := by kernel_rfl
  f6 := ⟨Try.f94.name, by decide, Try.func94.trans (congrArg some (by kernel_rfl))⟩
  f8 := Try.func113.trans (congrArg some (by kernel_rfl))
  f9 := ⟨Try.f112.name, by decide, Try.func112.trans (congrArg some (by kernel_rfl))⟩
  f19 := Try.func130.trans (congrArg some (by kernel_rfl))
  f20 := Try.func114.trans (congrArg some (by kernel_rfl))
  f21 := ⟨Try.f121.name, by decide, Try.func121.trans (congrArg some (by kernel_rfl))⟩
  f22 := ⟨Try.f122.name, by decide, Try.func122.trans (congrArg some (by kernel_rfl))⟩
  f23 := ⟨Try.f123.name, by decide, Try.func123.trans (congrArg some (by kernel_rfl))⟩
  f24 := ⟨Try.f124.name, by decide, Try.func124.trans (congrArg some (by kernel_rfl))⟩
  f25 := ⟨Try.f125.name, by decide, Try.func125.trans (congrArg some (by kernel_rfl))⟩
  f26 := ⟨Try.f126.name, by decide, Try.func126.trans (congrArg some (by kernel_rfl))⟩
  f27 := ⟨Try.f127.name, by decide, Try.func127.trans (congrArg some (by kernel_rfl))⟩
  f28 := ⟨Try.f128.name, by decide, Try.func128.trans (congrArg some (by kernel_rfl))⟩
  f29 := ⟨Try.f129.name, by decide, Try.func129.trans (congrArg some (by kernel_rfl))⟩
  f31 := Try.func141.trans (congrArg some (by kernel_rfl))
  f32 := Try.func142.trans (congrArg some (by kernel_rfl))
  f36 := ⟨Try.f140.name, by decide, Try.func140.trans (congrArg some (by kernel_rfl))⟩
  f37 := ⟨Try.f143.name, by decide, Try.func143.trans (congrArg some (by kernel_rfl))⟩
  f38 := ⟨Try.f144.name, by decide, Try.func144.trans (congrArg some (by kernel_rfl))⟩
  f39 := ⟨Try.f145.name, by decide, Try.func145.trans (congrArg some (by kernel_rfl))⟩
  f41 := ⟨Try.f150.name, by decide, Try.func150.trans (congrArg some (by kernel_rfl))⟩
  t0 := Try.underlying0
  a0 := Try.isAgg0
  z0 := Try.sizeOf0
  v0 := Try.zeroValue0
  t3 := Try.underlying3
  a3 := Try.isAgg3
  z3 := Try.sizeOf3
  v3 := Try.zeroValue3
  t4 := Try.underlying4
  a4 := Try.isAgg4
  z4 := Try.sizeOf4
  v4 := Try.zeroValue4
  t5 := Try.underlying5
  a5 := Try.isAgg5
  z5 := Try.sizeOf5
  v5 := Try.zeroValue5
  t9 := Try.underlying9
  a9 := Try.isAgg9
  z9 := Try.sizeOf9
  v9 := Try.zeroValue9
  t26 := Try.underlying84
  a26 := Try.isAgg84
  z26 := Try.sizeOf84
  v26 := Try.zeroValue84
  t27 := Try.underlying84
  a27 := Try.isAgg84
  z27 := Try.sizeOf84
  v27 := Try.zeroValue84
  t29 := Try.underlying9
  a29 := Try.isAgg9
  z29 := Try.sizeOf9
  v29 := Try.zeroValue9
  t32 := Try.underlying123
  a32 := Try.isAgg123
  z32 := Try.sizeOf123
  v32 := Try.zeroValue123
  t35 := Try.underlying150
  a35 := Try.isAgg150
  z35 := Try.sizeOf150
  v35 := Try.zeroValue150
  t36 := Try.underlying151
  a36 := Try.isAgg151
  z36 := Try.sizeOf151
  v36 := Try.zeroValue151
  t41 := Try.underlying133
  a41 := Try.isAgg133
  z41 := Try.sizeOf133
  v41 := Try.zeroValue133
  t44 := Try.underlying144
  a44 := Try.isAgg144
  z44 := Try.sizeOf144
  v44 := Try.zeroValue144
  t46 := Try.underlying93
  a46 := Try.isAgg93
  z46 := Try.sizeOf93
  v46 := Try.zeroValue93
  t53 := Try.underlying164
  a53 := Try.isAgg164
  z53 := Try.sizeOf164
  v53 := Try.zeroValue164
  t57 := Try.underlying168
  a57 := Try.isAgg168
  z57 := Try.sizeOf168
  v57 := Try.zeroValue168
  t63 := Try.underlying172
  a63 := Try.isAgg172
  z63 := Try.sizeOf172
  v63 := Try.zeroValue172
  t64 := Try.underlying173
  a64 := Try.isAgg173
  z64 := Try.sizeOf173
  v64 := Try.zeroValue173 }
open Go.RowKit Go.Maps Go.Sort Go.Lib in
theorem Try.sorts66 (m : Nat) : AnyZ.SortsIn Try.prog Try.sorted66_ren Fence.wide m :=
  ⟨fun blk off cap ss W hH hblk hsz => callsIn_wide.2 (AnyM.slices_Sort_string Try.sort94 blk off cap ss W hH hblk hsz),
   fun p cap W => callsIn_wide.2 (AnyM.slices_Sort_string_none Try.sort94 p cap W)⟩
open Go.RowKit Go.Maps Go.Sort Go.Lib in
theorem Try.maps_Keys_67 (mb : Option Nat) (W : World) : CallsIn Fence.wide 5 Try.prog 67 #[.map mb] W fun e w' => e = .returned (.func (.func 95) #[] #[.pointer (some ⟨W.heap.size, 0, none⟩)]) ∧ w' = W.alloc (.cells #[.map mb] 83) :=
  AnyZ.keys_in Try.keys67 Fence.wide 5 trivial rfl mb W
open Go.RowKit Go.Maps Go.Sort Go.Lib in
theorem Try.slices_Sorted_keys_66_67 {H : Type} (b nn : Nat) (D0 : DataW H) (R : Value → Option (DataW H × List MemPlace)) (w : World) (hown : w.ownsMap Try.prog 9 R b nn D0) (hmax : Maps.size D0 ≤ maxLen) (hbytes : Maps.size D0 * 16 ≤ 140737488355328) :
    CallsIn Fence.wide 5 Try.prog 66 #[.func (.func 95) #[] #[.pointer (some ⟨w.heap.size, 0, none⟩)]] (w.alloc (.cells #[.map (some b)] 83)) fun e w' => ∃ (v : Value) (ss : List (List UInt8)), e = .returned v ∧ ss.Perm (strKeys D0) ∧
      w'.ownsRow (w.alloc (.cells #[.map (some b)] 83)).heap.size 9 1 v ss.length ((ss.mergeSort (fun x y => decide (x ≤ y))).map encStr) ∧ (v = .slice none 0 0 ↔ ss = []) ∧ Below (w.alloc (.cells #[.map (some b)] 83)).heap.size (w.alloc (.cells #[.map (some b)] 83)) w' := by
  have hbl := hown.lt
  have hseq : SeqGives Fence.wide 2 Try.prog 95 #[.pointer (some ⟨w.heap.size, 0, none⟩)] encStr (fun ss => ss.Perm (strKeys D0)) (Maps.size D0) (w.alloc (.cells #[.map (some b)] 83)) :=
    AnyZ.keys_gives (ρ := Try.keys67_ren) { Try.keys67 with } Fence.wide _ trivial rfl (by omega) w.heap.size b nn D0 _ (by simp) (by simp) (by
      obtain ⟨es, clock, hb, Ft, hs, hD⟩ := hown
      exact ⟨es, clock, (Below.heap_alloc _ _ b hbl).trans hb, Ft, hs, hD⟩)
  exact AnyZ.sorted_in Try.sorted66 Fence.wide 5 trivial trivial trivial trivial rfl (by omega) (Try.sorts66 _) (enters_of Try.func94 (by kernel_rfl) rfl) 95 #[.pointer (some ⟨w.heap.size, 0, none⟩)] trivial (enters_of Try.func95 (by kernel_rfl) rfl) _ _ hmax hbytes _ hseq
open Go.RowKit Go.Maps Go.Sort Go.Lib in
theorem Try.slices_Sorted_keys_nil_66_67 (w : World) :
    CallsIn Fence.wide 5 Try.prog 66 #[.func (.func 95) #[] #[.pointer (some ⟨w.heap.size, 0, none⟩)]] (w.alloc (.cells #[.map none] 83)) fun e w' => ∃ (v : Value) (ss : List (List UInt8)), e = .returned v ∧ ss = [] ∧
      w'.ownsRow (w.alloc (.cells #[.map none] 83)).heap.size 9 1 v ss.length ((ss.mergeSort (fun x y => decide (x ≤ y))).map encStr) ∧ (v = .slice none 0 0 ↔ ss = []) ∧ Below (w.alloc (.cells #[.map none] 83)).heap.size (w.alloc (.cells #[.map none] 83)) w' := by
  have hseq : SeqGives Fence.wide 2 Try.prog 95 #[.pointer (some ⟨w.heap.size, 0, none⟩)] encStr (fun ss : List (List UInt8) => ss = []) 0 (w.alloc (.cells #[.map none] 83)) :=
    AnyZ.keys_gives_nil (ρ := Try.keys67_ren) { Try.keys67 with } Fence.wide _ trivial rfl w.heap.size _ (by simp) (by simp)
  exact AnyZ.sorted_in Try.sorted66 Fence.wide 5 trivial trivial trivial trivial rfl (by omega) (Try.sorts66 _) (enters_of Try.func94 (by kernel_rfl) rfl) 95 #[.pointer (some ⟨w.heap.size, 0, none⟩)] trivial (enters_of Try.func95 (by kernel_rfl) rfl) _ 0 (Nat.zero_le _) (by omega) _ hseq
def Try.keys90_ren : Go.Shelf.Ren := ⟨fun | 7 => 90 | 10 => 109 | n => n, fun | 23 => 71 | 26 => 2 | 3 => 3 | 28 => 117 | 0 => 0 | 27 => 116 | 33 => 114 | 4 => 4 | n => n, fun | n => n⟩
theorem Try.keys90 : Go.Proofs.SlLaysZI.n7 Try.prog Try.keys90_ren := {
  mixed := by kernel_rfl
  f7 := ⟨Try.f90.name, by decide, Try.func90.trans (congrArg some (by kernel_rfl))⟩
  f10 := ⟨Try.f109.name, by decide, Try.func109.trans (congrArg some (by kernel_rfl))⟩
  t0 := Try.underlying0
  a0 := Try.isAgg0
  z0 := Try.sizeOf0
  v0 := Try.zeroValue0
  t4 := Try.underlying4
  a4 := Try.isAgg4
  z4 := Try.sizeOf4
  v4 := Try.zeroValue4
  t23 := Try.underlying71
  a23 := Try.isAgg71
  z23 := Try.sizeOf71
  v23 := Try.zeroValue71
  t26 := Try.underlying2
  a26 := Try.isAgg2
  z26 := Try.sizeOf2
  v26 := Try.zeroValue2
  t27 := Try.underlying116
  a27 := Try.isAgg116
  z27 := Try.sizeOf116
  v27 := Try.zeroValue116
  t28 := Try.underlying117
  a28 := Try.isAgg117
  z28 := Try.sizeOf117
  v28 := Try.zeroValue117
  t33 := Try.underlying114
  a33 := Try.isAgg114
  z33 := Try.sizeOf114
  v33 := Try.zeroValue114 }
def Try.sorted89_ren : Go.Shelf.Ren := ⟨fun | 6 => 89 | 8 => 107 | 9 => 108 | 11 => 117 | 13 => 113 | 12 => 118 | 23 => 130 | 24 => 114 | 14 => 131 | 15 => 132 | 16 => 133 | 17 => 134 | 18 => 135 | 19 => 136 | 20 => 137 | 21 => 138 | 22 => 139 | 25 => 146 | 26 => 141 | 27 => 142 | 28 => 147 | 29 => 148 | 30 => 149 | 31 => 151 | n => n, fun | 26 => 2 | 28 => 117 | 24 => 26 | 0 => 0 | 3 => 3 | 37 => 123 | 48 => 144 | 50 => 93 | 4 => 4 | 40 => 151 | 39 => 150 | 45 => 133 | 5 => 5 | 9 => 9 | 51 => 164 | 55 => 168 | 57 => 172 | 58 => 173 | 33 => 114 | n => n, fun | n => n⟩
theorem Try.sorted89 : Go.Proofs.SlLaysZI.n6 Try.prog Try.sorted89_ren := {
  mixed := by kernel_rfl
  f6 := ⟨Try.f89.name, by decide, Try.func89.trans (congrArg some (by kernel_rfl))⟩
  f8 := ⟨Try.f107.name, by decide, Try.func107.trans (congrArg some (by kernel_rfl))⟩
  f11 := ⟨Try.f117.name, by decide, Try.func117.trans (congrArg some (by kernel_rfl))⟩
  t0 := Try.underlying0
  a0 := Try.isAgg0
  z0 := Try.sizeOf0
  v0 := Try.zeroValue0
  t24 := Try.underlying26
  a24 := Try.isAgg26
  z24 := Try.sizeOf26
  v24 := Try.zeroValue26
  t26 := Try.underlying2
  a26 := Try.isAgg2
  z26 := Try.sizeOf2
  v26 := Try.zeroValue2
  t28 := Try.underlying117
  a28 := Try.isAgg117
  z28 := Try.sizeOf117
  v28 := Try.zeroValue117
  i26 := by kernel_rfl }
def Try.sort108_ren : Go.Shelf.Ren := ⟨fun | 5 => 108 | 8 => 113 | 7 => 118 | 19 => 130 | 20 => 114 | 10 => 131 | 11 => 132 | 12 => 133 | 13 => 134 | 14 => 135 | 15 => 136 | 16 => 137 | 17 => 138 | 18 => 139 | 30 => 146 | 31 => 141 | 32 => 142 | 33 => 147 | 34 => 148 | 35 => 149 | 40 => 151 | n => n, fun | 23 => 26 | 25 => 2 | 3 => 3 | 32 => 123 | 22 => 26 | 0 => 0 | 44 => 144 | 46 => 93 | 4 => 4 | 36 => 151 | 35 => 150 | 41 => 133 | 5 => 5 | 9 => 9 | 53 => 164 | 57 => 168 | 63 => 172 | 64 => 173 | n => n, fun | n => n⟩
theorem Try.sort108 : Go.Proofs.SlLaysM.n5 Try.prog Try.sort108_ren := {
  mixed := by kernel_rfl
  f5 := ⟨Try.f108.name, by decide, Try.func108.trans (congrArg some (by kernel_rfl))⟩
  f7 := ⟨Try.f118.name, by decide, Try.func118.trans (congrArg some (by kernel_rfl))⟩
  f8 := Try.func113.trans (congrArg some (by kernel_rfl))
  f10 := ⟨Try.f131.name, by decide, Try.func131.trans (congrArg some (by kernel_rfl))⟩
  f11 := ⟨Try.f132.name, by decide, Try.func132.trans (congrArg some (by kernel_rfl))⟩
  f12 := ⟨Try.f133.name, by decide, Try.func133.trans (congrArg some (by kernel_rfl))⟩
  f13 := ⟨Try.f134.name, by decide, Try.func134.trans (congrArg some (by kernel_rfl))⟩
  f14 := ⟨Try.f135.name, by decide, Try.func135.trans (congrArg some (by kernel_rfl))⟩
  f15 := ⟨Try.f136.name, by decide, Try.func136.trans (congrArg some (by kernel_rfl))⟩
  f16 := ⟨Try.f137.name, by decide, Try.func137.trans (congrArg some (by kernel_rfl))⟩
  f17 := ⟨Try.f138.name, by decide, Try.func138.trans (congrArg some (by kernel_rfl))⟩
  f18 := ⟨Try.f139.name, by decide, Try.func139.trans (congrArg some (by kernel_rfl))⟩
  f19 := Try.func130.trans (congrArg some (by kernel_rfl))
  f20 := Try.func114.trans (congrArg some (by kernel_rfl))
  f30 := ⟨Try.f146.name, by decide, Try.func146.trans (congrArg some (by kernel_rfl))⟩
  f31 := Try.func141.trans (congrArg some (by kernel_rfl))
  f32 := Try.func142.trans (congrArg some (by kernel_rfl))
  f33 := ⟨Try.f147.name, by decide, Try.func147.trans (congrArg some (by kernel_rfl))⟩
  f34 := ⟨Try.f148.name, by decide, Try.func148.trans (congrArg some (by kernel_rfl))⟩
  f35 := ⟨Try.f149.name, by decide, Try.func149.trans (congrArg some (by kernel_rfl))⟩
  f40 := ⟨Try.f151.name, by decide, Try.func151.trans (congrArg some (by kernel_rfl))⟩
  t0 := Try.underlying0
  a0 := Try.isAgg0
  z0 := Try.sizeOf0
  v0 := Try.zeroValue0
  t3 := Try.underlying3
  a3 := Try.isAgg3
  z3 := Try.sizeOf3
  v3 := Try.zeroValue3
  t4 := Try.underlying4
  a4 := Try.isAgg4
  z4 := Try.sizeOf4
  v4 := Try.zeroValue4
  t5 := Try.underlying5
  a5 := Try.isAgg5
  z5 := Try.sizeOf5
  v5 := Try.zeroValue5
  t9 := Try.underlying9
  a9 := Try.isAgg9
  z9 := Try.sizeOf9
  v9 := Try.zeroValue9
  t22 := Try.underlying26
  a22 := Try.isAgg26
  z22 := Try.sizeOf26
  v22 := Try.zeroValue26
  t23 := Try.underlying26
  a23 := Try.isAgg26
  z23 := Try.sizeOf26
  v23 := Try.zeroValue26
  t25 := Try.underlying2
  a25 := Try.isAgg2
  z25 := Try.sizeOf2
  v25 := Try.zeroValue2
  t32 := Try.underlying123
  a32 := Try.isAgg123
  z32 := Try.sizeOf123
  v32 := Try.zeroValue123
  t35 := Try.underlying150
  a35 := Try.isAgg150
  z35 := Try.sizeOf150
  v35 := Try.zeroValue150
  t36 := Try.underlying151
  a36 := Try.isAgg151
  z36 := Try.sizeOf151
  v36 := Try.zeroValue151
  t41 := Try.underlying133
  a41 := Try.isAgg133
  z41 := Try.sizeOf133
  v41 := Try.zeroValue133
  t44 := Try.underlying144
  a44 := Try.isAgg144
  z44 := Try.sizeOf144
  v44 := Try.zeroValue144
  t46 := Try.underlying93
  a46 := Try.isAgg93
  z46 := Try.sizeOf93
  v46 := Try.zeroValue93
  t53 := Try.underlying164
  a53 := Try.isAgg164
  z53 := Try.sizeOf164
  v53 := Try.zeroValue164
  t57 := Try.underlying168
  a57 := Try.isAgg168
  z57 := Try.sizeOf168
  v57 := Try.zeroValue168
  t63 := Try.underlying172
  a63 := Try.isAgg172
  z63 := Try.sizeOf172
  v63 := Try.zeroValue172
  t64 := Try.underlying173
  a64 := Try.isAgg173
  z64 := Try.sizeOf173
  v64 := Try.zeroValue173 }
open Go.RowKit Go.Maps Go.Sort Go.Lib in
theorem Try.sorts89 (m : Nat) : AnyZI.SortsIn Try.prog Try.sorted89_ren Fence.wide m :=
  ⟨fun blk off cap ss W hH hblk hsz => callsIn_wide.2 (AnyM.slices_Sort_int Try.sort108 blk off cap ss W hH hblk hsz),
   fun p cap W => callsIn_wide.2 (AnyM.slices_Sort_int_none Try.sort108 p cap W)⟩
open Go.RowKit Go.Maps Go.Sort Go.Lib in
theorem Try.maps_Keys_90 (mb : Option Nat) (W : World) : CallsIn Fence.wide 5 Try.prog 90 #[.map mb] W fun e w' => e = .returned (.func (.func 109) #[] #[.pointer (some ⟨W.heap.size, 0, none⟩)]) ∧ w' = W.alloc (.cells #[.map mb] 71) :=
  AnyZI.keys_in Try.keys90 Fence.wide 5 trivial rfl mb W
open Go.RowKit Go.Maps Go.Sort Go.Lib in
theorem Try.slices_Sorted_keys_89_90 {H : Type} (b nn : Nat) (D0 : DataW H) (R : Value → Option (DataW H × List MemPlace)) (w : World) (hown : w.ownsMap Try.prog 2 R b nn D0) (hmax : Maps.size D0 ≤ maxLen) (hbytes : Maps.size D0 * 8 ≤ 140737488355328) :
    CallsIn Fence.wide 5 Try.prog 89 #[.func (.func 109) #[] #[.pointer (some ⟨w.heap.size, 0, none⟩)]] (w.alloc (.cells #[.map (some b)] 71)) fun e w' => ∃ (v : Value) (ss : List Int), e = .returned v ∧ ss.Perm (intKeys D0) ∧
      w'.ownsRow (w.alloc (.cells #[.map (some b)] 71)).heap.size 2 1 v ss.length ((ss.mergeSort (fun x y => decide (x ≤ y))).map encZ) ∧ (v = .slice none 0 0 ↔ ss = []) ∧ Below (w.alloc (.cells #[.map (some b)] 71)).heap.size (w.alloc (.cells #[.map (some b)] 71)) w' := by
  have hbl := hown.lt
  have hseq : SeqGives Fence.wide 2 Try.prog 109 #[.pointer (some ⟨w.heap.size, 0, none⟩)] encZ (fun ss => ss.Perm (intKeys D0)) (Maps.size D0) (w.alloc (.cells #[.map (some b)] 71)) :=
    AnyZI.keys_gives (ρ := Try.keys90_ren) { Try.keys90 with } Fence.wide _ trivial rfl (by omega) w.heap.size b nn D0 _ (by simp) (by simp) (by
      obtain ⟨es, clock, hb, Ft, hs, hD⟩ := hown
      exact ⟨es, clock, (Below.heap_alloc _ _ b hbl).trans hb, Ft, hs, hD⟩)
  exact AnyZI.sorted_in Try.sorted89 Fence.wide 5 trivial trivial trivial trivial rfl (by omega) (Try.sorts89 _) (enters_of Try.func108 (by kernel_rfl) rfl) 109 #[.pointer (some ⟨w.heap.size, 0, none⟩)] trivial (enters_of Try.func109 (by kernel_rfl) rfl) _ _ hmax hbytes _ hseq
end Go.Proofs
