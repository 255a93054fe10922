/-
  Parts of the proof: Ld.
-/
import Derived.Shelf.Small.Bits
import Derived.Ground.SlbCloneProg
import Derived.Shelf.Bytes.SlClone
import Derived.Test.YteeikgjjgfdjgaaGreatProg
import Derived.Shelf.SlIter.Nil
import Derived.Shelf.SortM.Plain
import Derived.Shelf.SortM.SortNone
import Derived.Ground.GgzProg
import Derived.Ground.SlgmProg
section
namespace Go.Proofs
open Go.Shelf
def Tryz.lays129_ren:Go.Shelf.Ren:=⟨fun|129=>104|n=>n,fun|53=>63|3=>3|4=>4|46=>88|5=>5|9=>9|n=>n,fun|n=>n⟩
theorem Tryz.lays129:Go.Proofs.Lays.n129 Tryz.prog Tryz.lays129_ren:={
 mixed:=by kernel_rfl
 f129:=Tryz.func104.trans (congrArg some (by kernel_rfl))
 t3:=Tryz.underlying3
 a3:=Tryz.isAgg3
 z3:=Tryz.sizeOf3
 v3:=Tryz.zeroValue3
 t4:=Tryz.underlying4
 a4:=Tryz.isAgg4
 z4:=Tryz.sizeOf4
 v4:=Tryz.zeroValue4
 t5:=Tryz.underlying5
 a5:=Tryz.isAgg5
 z5:=Tryz.sizeOf5
 v5:=Tryz.zeroValue5
 t9:=Tryz.underlying9
 a9:=Tryz.isAgg9
 z9:=Tryz.sizeOf9
 v9:=Tryz.zeroValue9
 t46:=Tryz.underlying88
 a46:=Tryz.isAgg88
 z46:=Tryz.sizeOf88
 v46:=Tryz.zeroValue88
 t53:=Tryz.underlying63
 a53:=Tryz.isAgg63
 z53:=Tryz.sizeOf63
 v53:=Tryz.zeroValue63 }
theorem Tryz.bits_Len64 (x:Int) (w:World) (h0:0≤x) (h1:x≤18446744073709551615) :
  Calls Tryz.prog 104 #[.int .u64 x] w fun e w'=>e=.returned (.int .i64 (Lib.bitLen x.toNat))∧w'=w:=Any.bits_Len64 Tryz.lays129 x w h0 h1
def Tryz.laysSlK4_ren:Go.Shelf.Ren:=⟨fun|4=>106|n=>n,fun|22=>25|4=>4|5=>5|n=>n,fun|n=>n⟩
theorem Tryz.laysSlK4:Go.Proofs.SlLaysK.n4 Tryz.prog Tryz.laysSlK4_ren:={
 mixed:=by kernel_rfl
 f4:=Tryz.func106.trans (congrArg some (by kernel_rfl))
 t4:=Tryz.underlying4
 a4:=Tryz.isAgg4
 z4:=Tryz.sizeOf4
 v4:=Tryz.zeroValue4
 t22:=Tryz.underlying25
 a22:=Tryz.isAgg25
 z22:=Tryz.sizeOf25
 v22:=Tryz.zeroValue25
 t5:=Tryz.underlying5
 i5:=by kernel_rfl }
open Go.RowKit Go.Lib in
theorem Tryz.bytes_Clone_at (a:Addr) (n c:Nat) (xs:List Int) (w:World) (hx:xs.length=n) (hbig:n≤140737488355328) (hc:∀ i,i<n→w.cell? (a.add i)=some (.int .u8 (xs.getD i 0))) :
  Calls Tryz.prog 106 #[.slice (some a) n c] w fun e w'=>∃ v',e=.returned v'∧w'.ownsRow w.heap.size 5 1 v' n (xs.map (Value.int .u8))∧v'≠.slice none 0 0∧Below w.heap.size w w':=Any.bytes_Clone_at Tryz.laysSlK4 a n c xs w hx hbig hc
open Go.RowKit Go.Lib in
theorem Tryz.bytes_Clone_nil (n c:Nat) (w:World) :
  Calls Tryz.prog 106 #[.slice none n c] w fun e w'=>e=.returned (.slice none 0 0)∧w'=w:=Any.bytes_Clone_nil Tryz.laysSlK4 n c w
def Tryz.keys141_ren:Go.Shelf.Ren:=⟨fun|7=>141|10=>150|n=>n,fun|23=>167|26=>9|3=>3|28=>171|0=>0|27=>170|33=>179|4=>4|n=>n,fun|n=>n⟩
theorem Tryz.keys141:Go.Proofs.SlLaysZ.n7 Tryz.prog Tryz.keys141_ren:={
 mixed:=by kernel_rfl
 f7:=⟨Tryz.f141.name,by decide,Tryz.func141.trans (congrArg some (by kernel_rfl))⟩
 f10:=⟨Tryz.f150.name,by decide,Tryz.func150.trans (congrArg some (by kernel_rfl))⟩
 t0:=Tryz.underlying0
 a0:=Tryz.isAgg0
 z0:=Tryz.sizeOf0
 v0:=Tryz.zeroValue0
 t4:=Tryz.underlying4
 a4:=Tryz.isAgg4
 z4:=Tryz.sizeOf4
 v4:=Tryz.zeroValue4
 t23:=Tryz.underlying167
 a23:=Tryz.isAgg167
 z23:=Tryz.sizeOf167
 v23:=Tryz.zeroValue167
 t26:=Tryz.underlying9
 a26:=Tryz.isAgg9
 z26:=Tryz.sizeOf9
 v26:=Tryz.zeroValue9
 t27:=Tryz.underlying170
 a27:=Tryz.isAgg170
 z27:=Tryz.sizeOf170
 v27:=Tryz.zeroValue170
 t28:=Tryz.underlying171
 a28:=Tryz.isAgg171
 z28:=Tryz.sizeOf171
 v28:=Tryz.zeroValue171
 t33:=Tryz.underlying179
 a33:=Tryz.isAgg179
 z33:=Tryz.sizeOf179
 v33:=Tryz.zeroValue179 }
def Tryz.sorted140_ren:Go.Shelf.Ren:=⟨fun|6=>140|8=>148|9=>149|11=>151|13=>153|12=>152|23=>163|24=>104|14=>154|15=>155|16=>156|17=>157|18=>158|19=>159|20=>160|21=>161|22=>162|25=>164|26=>165|27=>166|28=>167|29=>168|30=>169|31=>170|n=>n,fun|26=>9|28=>171|24=>168|0=>0|3=>3|37=>88|48=>49|50=>63|4=>4|40=>185|39=>184|45=>190|5=>5|9=>9|51=>193|55=>197|57=>199|58=>200|33=>179|n=>n,fun|n=>n⟩
theorem Tryz.sorted140:Go.Proofs.SlLaysZ.n6 Tryz.prog Tryz.sorted140_ren:={
 mixed:=by kernel_rfl
 f6:=⟨Tryz.f140.name,by decide,Tryz.func140.trans (congrArg some (by kernel_rfl))⟩
 f8:=⟨Tryz.f148.name,by decide,Tryz.func148.trans (congrArg some (by kernel_rfl))⟩
 f11:=⟨Tryz.f151.name,by decide,Tryz.func151.trans (congrArg some (by kernel_rfl))⟩
 t0:=Tryz.underlying0
 a0:=Tryz.isAgg0
 z0:=Tryz.sizeOf0
 v0:=Tryz.zeroValue0
 t24:=Tryz.underlying168
 a24:=Tryz.isAgg168
 z24:=Tryz.sizeOf168
 v24:=Tryz.zeroValue168
 t26:=Tryz.underlying9
 a26:=Tryz.isAgg9
 z26:=Tryz.sizeOf9
 v26:=Tryz.zeroValue9
 t28:=Tryz.underlying171
 a28:=Tryz.isAgg171
 z28:=Tryz.sizeOf171
 v28:=Tryz.zeroValue171
 i26:=by kernel_rfl }
def Tryz.sort149_ren:Go.Shelf.Ren:=⟨fun|6=>149|8=>153|9=>152|19=>163|20=>104|21=>154|22=>155|23=>156|24=>157|25=>158|26=>159|27=>160|28=>161|29=>162|36=>164|31=>165|32=>166|37=>167|38=>168|39=>169|41=>170|n=>n,fun|27=>168|29=>9|3=>3|32=>88|26=>168|0=>0|44=>49|46=>63|4=>4|36=>185|35=>184|41=>190|5=>5|9=>9|53=>193|57=>197|63=>199|64=>200|n=>n,fun|n=>n⟩
theorem Tryz.sort149:Go.Proofs.SlLaysM.n6 Tryz.prog Tryz.sort149_ren:={
 mixed:=by kernel_rfl
 f6:=⟨Tryz.f149.name,by decide,Tryz.func149.trans (congrArg some (by kernel_rfl))⟩
 f8:=Tryz.func153.trans (congrArg some (by kernel_rfl))
 f9:=⟨Tryz.f152.name,by decide,Tryz.func152.trans (congrArg some (by kernel_rfl))⟩
 f19:=Tryz.func163.trans (congrArg some (by kernel_rfl))
 f20:=Tryz.func104.trans (congrArg some (by kernel_rfl))
 f21:=⟨Tryz.f154.name,by decide,Tryz.func154.trans (congrArg some (by kernel_rfl))⟩
 f22:=⟨Tryz.f155.name,by decide,Tryz.func155.trans (congrArg some (by kernel_rfl))⟩
 f23:=⟨Tryz.f156.name,by decide,Tryz.func156.trans (congrArg some (by kernel_rfl))⟩
 f24:=⟨Tryz.f157.name,by decide,Tryz.func157.trans (congrArg some (by kernel_rfl))⟩
 f25:=⟨Tryz.f158.name,by decide,Tryz.func158.trans (congrArg some (by kernel_rfl))⟩
 f26:=⟨Tryz.f159.name,by decide,Tryz.func159.trans (congrArg some (by kernel_rfl))⟩
 f27:=⟨Tryz.f160.name,by decide,Tryz.func160.trans (congrArg some (by kernel_rfl))⟩
 f28:=⟨Tryz.f161.name,by decide,Tryz.func161.trans (congrArg some (by kernel_rfl))⟩
 f29:=⟨Tryz.f162.name,by decide,Tryz.func162.trans (congrArg some (by kernel_rfl))⟩
 f31:=Tryz.func165.trans (congrArg some (by kernel_rfl))
 f32:=Tryz.func166.trans (congrArg some (by kernel_rfl))
 f36:=⟨Tryz.f164.name,by decide,Tryz.func164.trans (congrArg some (by kernel_rfl))⟩
 f37:=⟨Tryz.f167.name,by decide,Tryz.func167.trans (congrArg some (by kernel_rfl))⟩
 f38:=⟨Tryz.f168.name,by decide,Tryz.func168.trans (congrArg some (by kernel_rfl))⟩
 f39:=⟨Tryz.f169.name,by decide,Tryz.func169.trans (congrArg some (by kernel_rfl))⟩
 f41:=⟨Tryz.f170.name,by decide,Tryz.func170.trans (congrArg some (by kernel_rfl))⟩
 t0:=Tryz.underlying0
 a0:=Tryz.isAgg0
 z0:=Tryz.sizeOf0
 v0:=Tryz.zeroValue0
 t3:=Tryz.underlying3
 a3:=Tryz.isAgg3
 z3:=Tryz.sizeOf3
 v3:=Tryz.zeroValue3
 t4:=Tryz.underlying4
 a4:=Tryz.isAgg4
 z4:=Tryz.sizeOf4
 v4:=Tryz.zeroValue4
 t5:=Tryz.underlying5
 a5:=Tryz.isAgg5
 z5:=Tryz.sizeOf5
 v5:=Tryz.zeroValue5
 t9:=Tryz.underlying9
 a9:=Tryz.isAgg9
 z9:=Tryz.sizeOf9
 v9:=Tryz.zeroValue9
 t26:=Tryz.underlying168
 a26:=Tryz.isAgg168
 z26:=Tryz.sizeOf168
 v26:=Tryz.zeroValue168
 t27:=Tryz.underlying168
 a27:=Tryz.isAgg168
 z27:=Tryz.sizeOf168
 v27:=Tryz.zeroValue168
 t29:=Tryz.underlying9
 a29:=Tryz.isAgg9
 z29:=Tryz.sizeOf9
 v29:=Tryz.zeroValue9
 t32:=Tryz.underlying88
 a32:=Tryz.isAgg88
 z32:=Tryz.sizeOf88
 v32:=Tryz.zeroValue88
 t35:=Tryz.underlying184
 a35:=Tryz.isAgg184
 z35:=Tryz.sizeOf184
 v35:=Tryz.zeroValue184
 t36:=Tryz.underlying185
 a36:=Tryz.isAgg185
 z36:=Tryz.sizeOf185
 v36:=Tryz.zeroValue185
 t41:=Tryz.underlying190
 a41:=Tryz.isAgg190
 z41:=Tryz.sizeOf190
 v41:=Tryz.zeroValue190
 t44:=Tryz.underlying49
 a44:=Tryz.isAgg49
 z44:=Tryz.sizeOf49
 v44:=Tryz.zeroValue49
 t46:=Tryz.underlying63
 a46:=Tryz.isAgg63
 z46:=Tryz.sizeOf63
 v46:=Tryz.zeroValue63
 t53:=Tryz.underlying193
 a53:=Tryz.isAgg193
 z53:=Tryz.sizeOf193
 v53:=Tryz.zeroValue193
 t57:=Tryz.underlying197
 a57:=Tryz.isAgg197
 z57:=Tryz.sizeOf197
 v57:=Tryz.zeroValue197
 t63:=Tryz.underlying199
 a63:=Tryz.isAgg199
 z63:=Tryz.sizeOf199
 v63:=Tryz.zeroValue199
 t64:=Tryz.underlying200
 a64:=Tryz.isAgg200
 z64:=Tryz.sizeOf200
 v64:=Tryz.zeroValue200 }
open Go.RowKit Go.Maps Go.Sort Go.Lib in
theorem Tryz.sorts140 (m:Nat):AnyZ.SortsIn Tryz.prog Tryz.sorted140_ren Fence.wide m:=
 ⟨fun blk off cap ss W hH hblk hsz=>callsIn_wide.2 (AnyM.slices_Sort_string Tryz.sort149 blk off cap ss W hH hblk hsz),
  fun p cap W=>callsIn_wide.2 (AnyM.slices_Sort_string_none Tryz.sort149 p cap W)⟩
open Go.RowKit Go.Maps Go.Sort Go.Lib in
theorem Tryz.maps_Keys_141 (mb:Option Nat) (W:World):CallsIn Fence.wide 5 Tryz.prog 141 #[.map mb] W fun e w'=>e=.returned (.func (.func 150) #[] #[.pointer (some ⟨W.heap.size,0,none⟩)])∧w'=W.alloc (.cells #[.map mb] 167):=
 AnyZ.keys_in Tryz.keys141 Fence.wide 5 trivial rfl mb W
open Go.RowKit Go.Maps Go.Sort Go.Lib in
theorem Tryz.slices_Sorted_keys_140_141 {H:Type} (b nn:Nat) (D0:DataW H) (R:Value→Option (DataW H×List MemPlace)) (w:World) (hown:w.ownsMap Tryz.prog 9 R b nn D0) (hmax:Maps.size D0≤maxLen) (hbytes:Maps.size D0*16≤140737488355328) :
  CallsIn Fence.wide 5 Tryz.prog 140 #[.func (.func 150) #[] #[.pointer (some ⟨w.heap.size,0,none⟩)]] (w.alloc (.cells #[.map (some b)] 167)) fun e w'=>∃ (v:Value) (ss:List (List UInt8)),e=.returned v∧ss.Perm (strKeys D0) ∧
   w'.ownsRow (w.alloc (.cells #[.map (some b)] 167)).heap.size 9 1 v ss.length ((ss.mergeSort (fun x y=>decide (x≤y))).map encStr)∧(v=.slice none 0 0↔ss=[])∧Below (w.alloc (.cells #[.map (some b)] 167)).heap.size (w.alloc (.cells #[.map (some b)] 167)) w':=by
 have hbl:=hown.lt
 have hseq:SeqGives Fence.wide 2 Tryz.prog 150 #[.pointer (some ⟨w.heap.size,0,none⟩)] encStr (fun ss=>ss.Perm (strKeys D0)) (Maps.size D0) (w.alloc (.cells #[.map (some b)] 167)):=
  AnyZ.keys_gives (ρ:=Tryz.keys141_ren) { Tryz.keys141 with } Fence.wide _ trivial rfl (by omega) w.heap.size b nn D0 _ (by simp) (by simp) (by
   obtain⟨es,clock,hb,Ft,hs,hD⟩:=hown
   exact⟨es,clock,(Below.heap_alloc _ _ b hbl).trans hb,Ft,hs,hD⟩)
 exact AnyZ.sorted_in Tryz.sorted140 Fence.wide 5 trivial trivial trivial trivial rfl (by omega) (Tryz.sorts140 _) (enters_of Tryz.func149 (by kernel_rfl) rfl) 150 #[.pointer (some ⟨w.heap.size,0,none⟩)] trivial (enters_of Tryz.func150 (by kernel_rfl) rfl) _ _ hmax hbytes _ hseq
end Go.Proofs
end
