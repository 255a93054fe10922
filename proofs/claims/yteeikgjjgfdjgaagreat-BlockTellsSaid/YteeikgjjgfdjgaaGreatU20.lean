/-
  Parts of the proof: E20, E21, E24, E25.
-/
import Derived.Test.YteeikgjjgfdjgaaGreatU11
section
namespace Go.Proofs.YteeikgjjgfdjgaaGreat.PK
open Go.RowKit YteeikgjjgfdjgaaGreatW.PrintWords YteeikgjjgfdjgaaGreatW.PrintLast YteeikgjjgfdjgaaGreatW.PrintMore
attribute [local go_sem] yco ycp yc5 yc4 yck ycl ycs yct
set_option linter.unusedVariables false
set_option linter.unusedSimpArgs false
mutual
def yec.j0:Nat→List Int→Int→Int→List Int→Option (List Int)
 | 0,_,_,_,_=>none
 | k+1,x0,x1,x2,x7=>yec.l0 k x0 x2 x7 x1
def yec.l0:Nat→List Int→Int→List Int→Int→Option (List Int)
 | 0,_,_,_,_=>none
 | k+1,x0,x2,x7,x8=>if x8<(x0.length:Int) then (if x8<x2 then (if 0≤x8 then (if x7.length<140737488355328 then (yec.l0 k x0 x2 (x7++[rd x0 x8]) (wrap64 (x8+1))) else (none)) else (none)) else (some x7)) else (some x7)
end
def yec.f (k:Nat) (l0:List Int) (a1:Int) (a2:Int):Option (List Int):=(some (([]:List Int):List Int)).bind fun y611=>(if a1<0 then (yec.j0 k l0 0 a2 y611) else (yec.j0 k l0 a1 a2 y611))
mutual
def stoaref01_Value.j0:Nat→List Int→Int→Int→Bool→Option (Int×Bool)
 | 0,_,_,_,_=>none
 | k+1,x0,x1,x2,x25=>if x25=true then (some (0,false)) else (stoaref01_Value.l0 k x0 x1 0 (wrap64 (x2-1)))
def stoaref01_Value.l0:Nat→List Int→Int→Int→Int→Option (Int×Bool)
 | 0,_,_,_,_=>none
 | k+1,x0,x1,x8,x9=>if x9≥0 then (if 0≤(wrap64 (x1+x9)) then (if (wrap64 (x1+x9))<(x0.length:Int) then (stoaref01_Value.l0 k x0 x1 (IntKind.u64.wrap ((IntKind.u64.wrap (x8*256))+(IntKind.u64.wrap (rd x0 (wrap64 (x1+x9)))))) (wrap64 (x9-1))) else (none)) else (none)) else (some (x8,true))
end
mutual
def stoaref02_Get.j0:Nat→List Int→Int→Bool→Option (Int×Int×Int)
 | 0,_,_,_=>none
 | k+1,x0,x1,x18=>if x18=true then (some (0,0,1)) else (stoaref02_Get.l0 k x0 x1 0 1 x1)
def stoaref02_Get.l0:Nat→List Int→Int→Int→Int→Int→Option (Int×Int×Int)
 | 0,_,_,_,_,_=>none
 | k+1,x0,x1,x7,x8,x9=>if x9<(x0.length:Int) then (if 0≤x9 then (if (wrap64 (x9-x1))=9 then (stoaref02_Get.j2 k x0 x1 x7 x8 x9 (IntKind.u64.wrap (rd x0 x9)) (decide ((IntKind.u64.wrap (rd x0 x9)) > 1))) else (stoaref02_Get.j2 k x0 x1 x7 x8 x9 (IntKind.u64.wrap (rd x0 x9)) false)) else (none)) else (some (0,0,2))
def stoaref02_Get.j2:Nat→List Int→Int→Int→Int→Int→Int→Bool→Option (Int×Int×Int)
 | 0,_,_,_,_,_,_,_=>none
 | k+1,x0,x1,x7,x8,x9,x10,x38=>if x38=true then (some (0,0,20)) else (if x10<128 then (if x10=0 then (if x9 > x1 then (some (0,0,5)) else (some (IntKind.u64.wrap (x7+(IntKind.u64.wrap ((Int.tmod x10 128)*x8))),wrap64 (x9+1),0))) else (some (IntKind.u64.wrap (x7+(IntKind.u64.wrap ((Int.tmod x10 128)*x8))),wrap64 (x9+1),0))) else (stoaref02_Get.l0 k x0 x1 (IntKind.u64.wrap (x7+(IntKind.u64.wrap ((Int.tmod x10 128)*x8)))) (IntKind.u64.wrap (x8*128)) (wrap64 (x9+1))))
end
def yj2.f (k:Nat) (l0:List Int) (a1:Int):Option (Int):=if 0≤(wrap64 (Int.tdiv a1 8)) then (if (wrap64 (Int.tdiv a1 8))<(l0.length:Int) then ((ybl.f k (Int.tmod a1 8)).bind fun t627=>(if t627=0 then (none) else (some (Int.tmod (IntKind.u64.wrap (Int.tdiv (IntKind.u64.wrap (rd l0 (wrap64 (Int.tdiv a1 8)))) t627)) 2)))) else (none)) else (none)
def yf6.l0:Nat→List Int→Int→Int→Int→Option (Int)
 | 0,_,_,_,_=>none
 | k+1,x0,x1,x7,x8=>if x8≥0 then ((yj2.f k x0 (wrap64 (x1+x8))).bind fun t628=>(yf6.l0 k x0 x1 (IntKind.u64.wrap ((IntKind.u64.wrap (x7*2))+t628)) (wrap64 (x8-1)))) else (some x7)
def yf6.f (k:Nat) (l0:List Int) (a1:Int) (a2:Int):Option (Int):=yf6.l0 k l0 a1 0 (wrap64 (a2-1))
end Go.Proofs.YteeikgjjgfdjgaaGreat.PK
end
section
namespace Go.Proofs.YteeikgjjgfdjgaaGreat.PK
open Go.RowKit YteeikgjjgfdjgaaGreatW.PrintWords YteeikgjjgfdjgaaGreatW.PrintLast YteeikgjjgfdjgaaGreatW.PrintMore
attribute [local go_sem] yco ycp yc5 yc4 yck ycl ycs yct
set_option linter.unusedVariables false
set_option linter.unusedSimpArgs false
mutual
def stoaref01_Unpack.j0:Nat→List Int→Int→Int→Bool→Option (List Int×Int)
 | 0,_,_,_,_=>none
 | k+1,x0,x1,x2,x24=>if x24=true then (some (([]:List Int),1)) else (if (wrap64 (8*(x0.length:Int)))<(wrap64 (x1*x2)) then (some (([]:List Int),2)) else (if (wrap64 ((wrap64 (8*(x0.length:Int)))-(wrap64 (x1*x2))))≥8 then (some (([]:List Int),3)) else (stoaref01_Unpack.l0 k x0 x1 x2 (wrap64 (x1*x2)))))
def stoaref01_Unpack.l0:Nat→List Int→Int→Int→Int→Option (List Int×Int)
 | 0,_,_,_,_=>none
 | k+1,x0,x1,x2,x8=>if x8<(wrap64 (8*(x0.length:Int))) then ((yj2.f k x0 x8).bind fun t629=>(if t629=0 then (stoaref01_Unpack.l0 k x0 x1 x2 (wrap64 (x8+1))) else (some (([]:List Int),5)))) else (stoaref01_Unpack.l1 k x0 x1 x2 (([]:List Int)) 0)
def stoaref01_Unpack.l1:Nat→List Int→Int→Int→List Int→Int→Option (List Int×Int)
 | 0,_,_,_,_,_=>none
 | k+1,x0,x1,x2,x9,x10=>if x10<x2 then ((yf6.f k x0 (wrap64 (x10*x1)) x1).bind fun t633=>(if x9.length<17592186044416 then (stoaref01_Unpack.l1 k x0 x1 x2 (x9++[t633]) (wrap64 (x10+1))) else (none))) else (some (x9,0))
end
end Go.Proofs.YteeikgjjgfdjgaaGreat.PK
end
section
namespace Go.Proofs.YteeikgjjgfdjgaaGreat.PK
open Go.RowKit YteeikgjjgfdjgaaGreatW.PrintWords YteeikgjjgfdjgaaGreatW.PrintLast YteeikgjjgfdjgaaGreatW.PrintMore
attribute [local go_sem] yco ycp yc5 yc4 yck ycl ycs yct
set_option linter.unusedVariables false
set_option linter.unusedSimpArgs false
mutual
def stoaref10_texts.l0:Nat→List (List Int)→List Int→List (List Int)→List Bool→Int→Option ((List (List Int))×Int)
 | 0,_,_,_,_,_=>none
 | k+1,x0,x1,x6,x7,x8=>if x8<(x0.length:Int) then (if x7.length<140737488355328 then (stoaref10_texts.l0 k x0 x1 x6 (x7++[false]) (wrap64 (x8+1))) else (none)) else (stoaref10_texts.l1 k x0 x1 x6 x7 0)
def stoaref10_texts.l1:Nat→List (List Int)→List Int→List (List Int)→List Bool→Int→Option ((List (List Int))×Int)
 | 0,_,_,_,_,_=>none
 | k+1,x0,x1,x6,x7,x9=>if x9<(x1.length:Int) then (if 0≤x9 then (if (rd x1 x9)≥(IntKind.u64.wrap ((x0.length:Int))) then (some (([]:List (List Int)),5)) else (if 0≤(rd x1 x9) then (if (rd x1 x9)<(x7.length:Int) then (if (rd x1 x9)<(x0.length:Int) then ((yas.f k (ybb x0 (rd x1 x9))).bind fun t747=>(if x6.length<5864062014805 then (stoaref10_texts.l1 k x0 x1 (x6++[t747]) (x7.set ((rd x1 x9):Int).toNat true) (wrap64 (x9+1))) else (none))) else (none)) else (none)) else (none))) else (none)) else (stoaref10_texts.l2 k x6 x7 0)
def stoaref10_texts.l2:Nat→List (List Int)→List Bool→Int→Option ((List (List Int))×Int)
 | 0,_,_,_=>none
 | k+1,x6,x7,x10=>if x10<(x7.length:Int) then (if 0≤x10 then (if rdOf false x7 x10=true then (stoaref10_texts.l2 k x6 x7 (wrap64 (x10+1))) else (some (([]:List (List Int)),5))) else (none)) else (some (x6,0))
end
end Go.Proofs.YteeikgjjgfdjgaaGreat.PK
end
section
namespace Go.Proofs.YteeikgjjgfdjgaaGreat.PK
open Go.RowKit YteeikgjjgfdjgaaGreatW.PrintWords YteeikgjjgfdjgaaGreatW.PrintLast YteeikgjjgfdjgaaGreatW.PrintMore
attribute [local go_sem] yco ycp yc5 yc4 yck ycl ycs yct
set_option linter.unusedVariables false
set_option linter.unusedSimpArgs false
end Go.Proofs.YteeikgjjgfdjgaaGreat.PK
end
