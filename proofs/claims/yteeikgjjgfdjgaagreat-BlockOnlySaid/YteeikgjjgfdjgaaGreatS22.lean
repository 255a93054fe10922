/-
  Parts of the proof: E19, E26.
-/
import Derived.Test.YteeikgjjgfdjgaaGreatS3
import Derived.Test.YteeikgjjgfdjgaaGreatS9
import Derived.Test.YteeikgjjgfdjgaaGreatS7
import Derived.Test.YteeikgjjgfdjgaaGreatS12
import Derived.Test.YteeikgjjgfdjgaaGreatS14
section
namespace Go.Proofs.YteeikgjjgfdjgaaGreat.PK
open Go.RowKit Go.Proofs.YteeikgjjgfdjgaaGreatW.PrintWords Go.Proofs.YteeikgjjgfdjgaaGreatW.PrintLast Go.Proofs.YteeikgjjgfdjgaaGreatW.PrintMore
attribute [local go_sem] max2_int min2_int max_two min_two max_three min_three max_four min_four
set_option linter.unusedVariables false
set_option linter.unusedSimpArgs false
end Go.Proofs.YteeikgjjgfdjgaaGreat.PK
end
section
namespace Go.Proofs.YteeikgjjgfdjgaaGreat.PK
open Go.RowKit Go.Proofs.YteeikgjjgfdjgaaGreatW.PrintWords Go.Proofs.YteeikgjjgfdjgaaGreatW.PrintLast Go.Proofs.YteeikgjjgfdjgaaGreatW.PrintMore
attribute [local go_sem] max2_int min2_int max_two min_two max_three min_three max_four min_four
set_option linter.unusedVariables false
set_option linter.unusedSimpArgs false
mutual
def stoaref11_text.j0:Nat → List Int → List Int → Bool → Int → Int → Int → Bool → Option (List Int × Int × Int)
 | 0,_,_,_,_,_,_,_=>none
 | k + 1,x0,x2,x3,x11,x14,x15,x49=>if x49 = true then (some (([]:List Int),0,5)) else (if x14 > 200 then (stoaref11_text.j1 k x0 x2 x3 x11 x14 x15 true) else (stoaref11_text.j1 k x0 x2 x3 x11 x14 x15 (decide ((IntKind.u64.wrap (x11 + x14)) > 200))))
def stoaref11_text.j1:Nat → List Int → List Int → Bool → Int → Int → Int → Bool → Option (List Int × Int × Int)
 | 0,_,_,_,_,_,_,_=>none
 | k + 1,x0,x2,x3,x11,x14,x15,x57=>if x57 = true then (some (([]:List Int),0,4)) else (if x14 > (IntKind.u64.wrap (wrap64 ((x0.length:Int) - x15))) then (some (([]:List Int),0,2)) else ((stoaref01_Piece.f k x2 0 (wrap64 (x11))).bind fun t796=>((stoaref01_Piece.f k x0 x15 (wrap64 (x15 + (wrap64 (x14))))).bind fun t799=>((stoaref01_Cat.f k t796 t799).bind fun t802=>(if x3 = true then (some (t802,wrap64 (x15 + (wrap64 (x14))),0)) else ((stoaref11_same.f k x2 t802).bind fun t805=>(if t805 > (wrap64 (x11)) then (some (([]:List Int),0,5)) else (some (t802,wrap64 (x15 + (wrap64 (x14))),0)))))))))
end
mutual
def stoaref01_Intact.l0:Nat → List Int → List Int → Int → Option (Bool)
 | 0,_,_,_=>none
 | k + 1,x0,x1,x5=>if x5 < (x1.length:Int) then (if 0 ≤ x5 then (if x5 < (x0.length:Int) then (if (rd x0 x5) = (rd x1 x5) then (stoaref01_Intact.l0 k x0 x1 (wrap64 (x5 + 1))) else (some false)) else (none)) else (none)) else (stoaref01_Intact.l1 k x0 x1 0)
def stoaref01_Intact.l1:Nat → List Int → List Int → Int → Option (Bool)
 | 0,_,_,_=>none
 | k + 1,x0,x1,x6=>if x6 < 64 then (if 0 ≤ (wrap64 ((x1.length:Int) + x6)) then (if (wrap64 ((x1.length:Int) + x6)) < (x0.length:Int) then (if (rd x0 (wrap64 ((x1.length:Int) + x6))) = ((wrap64 (192 + (Int.tmod x6 7))) % 256) then (stoaref01_Intact.l1 k x0 x1 (wrap64 (x6 + 1))) else (some false)) else (none)) else (none)) else (some true)
end
end Go.Proofs.YteeikgjjgfdjgaaGreat.PK
end
