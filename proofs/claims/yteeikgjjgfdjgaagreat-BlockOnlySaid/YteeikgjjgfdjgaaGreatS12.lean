/-
  Parts of the proof: E15, E16, E17, E18, E27.
-/
import Derived.Test.YteeikgjjgfdjgaaGreatS3
import Derived.Test.YteeikgjjgfdjgaaGreatS7
import Derived.Test.YteeikgjjgfdjgaaGreatS6
import Derived.Test.YteeikgjjgfdjgaaGreatS9
section
namespace Go.Proofs.YteeikgjjgfdjgaaGreat.PK
open Go.RowKit Go.Proofs.YteeikgjjgfdjgaaGreatW.PrintWords Go.Proofs.YteeikgjjgfdjgaaGreatW.PrintLast Go.Proofs.YteeikgjjgfdjgaaGreatW.PrintMore
attribute [local go_sem] max2_int min2_int max_two min_two max_three min_three max_four min_four
set_option linter.unusedVariables false
set_option linter.unusedSimpArgs false
mutual
def stoaref10_Encode.l0:Nat → List (List Int) → List Int → List Int → Int → Option (List Int × Int)
 | 0,_,_,_,_=>none
 | k + 1,x4,x5,x7,x8=>if x8 < (x4.length:Int) then (if 0 ≤ x8 then ((stoaref02_Put.f k (IntKind.u64.wrap (((rd_L3 x4 x8).length:Int)))).bind fun t768=>((stoaref01_Cat.f k x7 t768).bind fun t771=>((stoaref01_Cat.f k t771 (rd_L3 x4 x8)).bind fun t775=>(stoaref10_Encode.l0 k x4 x5 t775 (wrap64 (x8 + 1)))))) else (none)) else (stoaref10_Encode.l1 k x4 x5 x7 (([]:List Int)) 0)
def stoaref10_Encode.l1:Nat → List (List Int) → List Int → List Int → List Int → Int → Option (List Int × Int)
 | 0,_,_,_,_,_=>none
 | k + 1,x4,x5,x7,x9,x10=>if x10 < (x5.length:Int) then (if 0 ≤ x10 then (if x9.length < 17592186044416 then (stoaref10_Encode.l1 k x4 x5 x7 (x9 ++ [IntKind.u64.wrap (rd x5 x10)]) (wrap64 (x10 + 1))) else (none)) else (none)) else ((stoaref10_width.f k (x4.length:Int)).bind fun t785=>((stoaref01_Pack.f k t785 x9).bind fun bt786=>((stoaref02_Put.f k (IntKind.u64.wrap ((x9.length:Int)))).bind fun t790=>((stoaref01_Cat.f k x7 t790).bind fun t793=>((stoaref01_Cat.f k t793 bt786.1).bind fun t796=>(some (t796,0)))))))
end
def stoaref10_Encode.f (k:Nat) (l0:List (List Int)):Option (List Int × Int):=(stoaref10_Index.f k l0).bind fun bt757=>(if bt757.2.2 = 0 then ((stoaref02_Put.f k (IntKind.u64.wrap ((bt757.1.length:Int)))).bind fun t764=>(stoaref10_Encode.l0 k bt757.1 bt757.2.1 t764 0)) else (some (([]:List Int),bt757.2.2)))
def stoaref11_same.l0:Nat → List Int → List Int → Int → Option (Int)
 | 0,_,_,_=>none
 | k + 1,x0,x1,x5=>if x5 < (x0.length:Int) then (if x5 ≥ (x1.length:Int) then (some x5) else (if 0 ≤ x5 then (if x5 < (x1.length:Int) then (if (rd x0 x5) = (rd x1 x5) then (stoaref11_same.l0 k x0 x1 (wrap64 (x5 + 1))) else (some x5)) else (none)) else (none))) else (some (x0.length:Int))
def stoaref11_same.f (k:Nat) (l0:List Int) (l1:List Int):Option (Int):=stoaref11_same.l0 k l0 l1 0
def stoaref11_put.l0:Nat → List Int → List Int → Int → Option (List Int)
 | 0,_,_,_=>none
 | k + 1,x0,x1,x5=>if x5 < (x1.length:Int) then (if 0 ≤ x5 then (if x0.length < 140737488355328 then (stoaref11_put.l0 k (x0 ++ [rd x1 x5]) x1 (wrap64 (x5 + 1))) else (none)) else (none)) else (some x0)
def stoaref11_put.f (k:Nat) (l0:List Int) (l1:List Int):Option (List Int):=stoaref11_put.l0 k l0 l1 0
end Go.Proofs.YteeikgjjgfdjgaaGreat.PK
end
section
namespace Go.Proofs.YteeikgjjgfdjgaaGreat.PK
open Go.RowKit Go.Proofs.YteeikgjjgfdjgaaGreatW.PrintWords Go.Proofs.YteeikgjjgfdjgaaGreatW.PrintLast Go.Proofs.YteeikgjjgfdjgaaGreatW.PrintMore
attribute [local go_sem] max2_int min2_int max_two min_two max_three min_three max_four min_four
set_option linter.unusedVariables false
set_option linter.unusedSimpArgs false
mutual
def stoaref11_Encode.l0:Nat → List (List Int) → List Int → Int → Option (List Int × Int)
 | 0,_,_,_=>none
 | k + 1,x0,x4,x5=>if x5 < (x0.length:Int) then (if 0 ≤ x5 then (if ((rd_L3 x0 x5).length:Int) > 200 then (some (([]:List Int),4)) else (stoaref11_Encode.l0 k x0 x4 (wrap64 (x5 + 1)))) else (none)) else (stoaref11_Encode.l1 k x0 x4 0)
def stoaref11_Encode.l1:Nat → List (List Int) → List Int → Int → Option (List Int × Int)
 | 0,_,_,_=>none
 | k + 1,x0,x4,x6=>if x6 < (x0.length:Int) then (if (Int.tmod x6 16) = 0 then (stoaref11_Encode.j2 k x0 x4 x6 0) else (if 0 ≤ (wrap64 (x6 - 1)) then (if (wrap64 (x6 - 1)) < (x0.length:Int) then (if 0 ≤ x6 then ((stoaref11_same.f k (rd_L3 x0 (wrap64 (x6 - 1))) (rd_L3 x0 x6)).bind fun t811=>(stoaref11_Encode.j2 k x0 x4 x6 t811)) else (none)) else (none)) else (none))) else (some (x4,0))
def stoaref11_Encode.j2:Nat → List (List Int) → List Int → Int → Int → Option (List Int × Int)
 | 0,_,_,_,_=>none
 | k + 1,x0,x4,x6,x7=>(stoaref02_Put.f k (IntKind.u64.wrap (x7))).bind fun t812=>((stoaref11_put.f k x4 t812).bind fun t815=>(if 0 ≤ x6 then (if x6 < (x0.length:Int) then ((stoaref02_Put.f k (IntKind.u64.wrap (wrap64 (((rd_L3 x0 x6).length:Int) - x7)))).bind fun t819=>((stoaref11_put.f k t815 t819).bind fun t822=>(if 0 ≤ x7 then (if x7 ≤ ((rd_L3 x0 x6).length:Int) then ((stoaref11_put.f k t822 ((rd_L3 x0 x6).drop (x7:Int).toNat)).bind fun t827=>(stoaref11_Encode.l1 k x0 t827 (wrap64 (x6 + 1)))) else (none)) else (none)))) else (none)) else (none)))
end
def stoaref11_Encode.f (k:Nat) (l0:List (List Int)):Option (List Int × Int):=if (l0.length:Int) > 4096 then (some (([]:List Int),4)) else ((stoaref02_Put.f k (IntKind.u64.wrap ((l0.length:Int)))).bind fun t805=>(stoaref11_Encode.l0 k l0 t805 0))
end Go.Proofs.YteeikgjjgfdjgaaGreat.PK
end
section
namespace Go.Proofs.YteeikgjjgfdjgaaGreat.PK
open Go.RowKit Go.Proofs.YteeikgjjgfdjgaaGreatW.PrintWords Go.Proofs.YteeikgjjgfdjgaaGreatW.PrintLast Go.Proofs.YteeikgjjgfdjgaaGreatW.PrintMore
attribute [local go_sem] max2_int min2_int max_two min_two max_three min_three max_four min_four
set_option linter.unusedVariables false
set_option linter.unusedSimpArgs false
def stoaref12_body.l0:Nat → Int → Int → List (S53) → List Int → List (List Int) → List Int → Int → Option (List Int)
 | 0,_,_,_,_,_,_,_=>none
 | k + 1,x0,x1,x2,x7,x8,x9,x10=>if x10 < (x2.length:Int) then (if 0 ≤ x10 then (if ((rd_T53 x2 x10).f0 = true) then (stoaref12_body.l0 k x0 x1 x2 x7 x8 x9 (wrap64 (x10 + 1))) else (if x7.length < 17592186044416 then ((some (x7 ++ [(rd_T53 x2 x10).f1]:List Int)).bind fun y841=>(if x8.length < 5864062014805 then ((some (x8 ++ [(rd_T53 x2 x10).f2]:List (List Int))).bind fun y845=>(if x0 ≤ 6 then ((stoaref05_Fold.f ((rd_T53 x2 x10).f1)).bind fun t849=>((stoaref02_Put.f k t849).bind fun t850=>((stoaref12_add.f k x9 t850).bind fun t853=>(stoaref12_body.l0 k x0 x1 x2 y841 y845 t853 (wrap64 (x10 + 1)))))) else ((stoaref02_Put.f k (IntKind.u64.wrap ((((rd_T53 x2 x10).f2).length:Int)))).bind fun t857=>((stoaref12_add.f k x9 t857).bind fun t860=>((stoaref12_add.f k t860 ((rd_T53 x2 x10).f2)).bind fun t864=>(stoaref12_body.l0 k x0 x1 x2 y841 y845 t864 (wrap64 (x10 + 1)))))))) else (none))) else (none))) else (none)) else (if x1 = 2 then ((stoaref08_Encode.f k x7).bind fun bt867=>(some bt867.1)) else (if x1 = 3 then ((stoaref09_Encode.f k x7).bind fun bt871=>(some bt871.1)) else (if x1 = 4 then ((stoaref10_Encode.f k x8).bind fun bt875=>(some bt875.1)) else (if x1 = 5 then ((stoaref11_Encode.f k x8).bind fun bt879=>(some bt879.1)) else (some x9)))))
def stoaref12_body.f (k:Nat) (a0:Int) (a1:Int) (l2:List (S53)):Option (List Int):=stoaref12_body.l0 k a0 a1 l2 (([]:List Int)) (([]:List (List Int))) (([]:List Int)) 0
end Go.Proofs.YteeikgjjgfdjgaaGreat.PK
end
section
namespace Go.Proofs.YteeikgjjgfdjgaaGreat.PK
open Go.RowKit Go.Proofs.YteeikgjjgfdjgaaGreatW.PrintWords Go.Proofs.YteeikgjjgfdjgaaGreatW.PrintLast Go.Proofs.YteeikgjjgfdjgaaGreatW.PrintMore
attribute [local go_sem] max2_int min2_int max_two min_two max_three min_three max_four min_four
set_option linter.unusedVariables false
set_option linter.unusedSimpArgs false
mutual
def stoaref12_write.l0:Nat → Int → Int → List (S53) → List Int → List Int → Int → Int → Option (List Int × Int)
 | 0,_,_,_,_,_,_,_=>none
 | k + 1,x0,x1,x2,x8,x9,x10,x11=>if x11 < (x2.length:Int) then (if 0 ≤ x11 then (if (rd_T53 x2 x11).f0 = true then (if x9.length < 17592186044416 then (stoaref12_write.l0 k x0 x1 x2 x8 (x9 ++ [1]) 1 (wrap64 (x11 + 1))) else (none)) else (if x9.length < 17592186044416 then (stoaref12_write.l0 k x0 x1 x2 x8 (x9 ++ [0]) x10 (wrap64 (x11 + 1))) else (none))) else (none)) else (if x8.length < 140737488355328 then ((some (x8 ++ [x10]:List Int)).bind fun y902=>(if x10 = 1 then ((stoaref01_Pack.f k 1 x9).bind fun bt905=>((stoaref12_add.f k y902 bt905.1).bind fun t909=>(stoaref12_write.j1 k x0 x1 x2 t909))) else (stoaref12_write.j1 k x0 x1 x2 y902))) else (none))
def stoaref12_write.j1:Nat → Int → Int → List (S53) → List Int → Option (List Int × Int)
 | 0,_,_,_,_=>none
 | k + 1,x0,x1,x2,x8=>(stoaref12_body.f k x0 x1 x2).bind fun t912=>((stoaref12_add.f k x8 t912).bind fun t915=>(if (wrap64 ((t915.length:Int) + 4)) > 65000 then (some (([]:List Int),4)) else ((stoaref03_Seal.f k t915).bind fun t918=>(some (t918,0)))))
end
def stoaref12_write.f (k:Nat) (a0:Int) (a1:Int) (l2:List (S53)):Option (List Int × Int):=(stoaref02_Put.f k (IntKind.u64.wrap ((l2.length:Int)))).bind fun t886=>((stoaref12_add.f k (([(a1) % 256]:List Int)) t886).bind fun t889=>(stoaref12_write.l0 k a0 a1 l2 t889 (([]:List Int)) 0 0))
end Go.Proofs.YteeikgjjgfdjgaaGreat.PK
end
section
namespace Go.Proofs.YteeikgjjgfdjgaaGreat.PK
open Go.RowKit Go.Proofs.YteeikgjjgfdjgaaGreatW.PrintWords Go.Proofs.YteeikgjjgfdjgaaGreatW.PrintLast Go.Proofs.YteeikgjjgfdjgaaGreatW.PrintMore
attribute [local go_sem] max2_int min2_int max_two min_two max_three min_three max_four min_four
set_option linter.unusedVariables false
set_option linter.unusedSimpArgs false
mutual
def stoaref12_Best.j0:Nat → Int → List (S53) → Bool → Option (Int × List Int × Int)
 | 0,_,_,_=>none
 | k + 1,x0,x1,x18=>if x18 = true then (some (0,([]:List Int),1)) else ((stoaref12_check.f k x0 x1).bind fun t927=>(if t927 = 0 then (stoaref12_Best.l0 k x0 x1 0 (([]:List Int)) 1) else (some (0,([]:List Int),t927))))
def stoaref12_Best.l0:Nat → Int → List (S53) → Int → List Int → Int → Option (Int × List Int × Int)
 | 0,_,_,_,_,_=>none
 | k + 1,x0,x1,x8,x9,x10=>if x10 ≤ 5 then ((stoaref12_Fits.f x0 x10).bind fun t931=>(if t931 = true then ((stoaref12_write.f k x0 x10 x1).bind fun bt932=>(if bt932.2 = 0 then (if x8 = 0 then (stoaref12_Best.l0 k x0 x1 x10 bt932.1 (wrap64 (x10 + 1))) else (if (bt932.1.length:Int) < (x9.length:Int) then (stoaref12_Best.l0 k x0 x1 x10 bt932.1 (wrap64 (x10 + 1))) else (stoaref12_Best.l0 k x0 x1 x8 x9 (wrap64 (x10 + 1))))) else (stoaref12_Best.l0 k x0 x1 x8 x9 (wrap64 (x10 + 1))))) else (stoaref12_Best.l0 k x0 x1 x8 x9 (wrap64 (x10 + 1))))) else (if x8 = 0 then (some (0,([]:List Int),4)) else (some (x8,x9,0)))
end
mutual
def stoaref03_Turn.j0:Nat → List Int → Int → Int → List Int → Bool → Option (List Int)
 | 0,_,_,_,_,_=>none
 | k + 1,x0,x1,x2,x7,x22=>if x22 = true then (some x7) else (stoaref03_Turn.l0 k x0 x7 (IntKind.u64.wrap (x2)) x1)
def stoaref03_Turn.l0:Nat → List Int → List Int → Int → Int → Option (List Int)
 | 0,_,_,_,_=>none
 | k + 1,x0,x7,x8,x9=>if x8 > 0 then (if x9 ≥ (wrap64 (8 * (x0.length:Int))) then ((stoaref01_Copy.f k x0).bind fun t919=>(some t919)) else (if (Int.tmod x8 2) = 1 then (stoaref03_Turn.l1 k x0 x7 x8 x9 1 0) else (stoaref03_Turn.l0 k x0 x7 (IntKind.u64.wrap (Int.tdiv x8 2)) (wrap64 (x9 + 1))))) else (some x7)
def stoaref03_Turn.l1:Nat → List Int → List Int → Int → Int → Int → Int → Option (List Int)
 | 0,_,_,_,_,_,_=>none
 | k + 1,x0,x7,x8,x9,x10,x11=>if x11 < (Int.tmod x9 8) then (stoaref03_Turn.l1 k x0 x7 x8 x9 ((x10 * 2) % 256) (wrap64 (x11 + 1))) else (if 0 ≤ (wrap64 (Int.tdiv x9 8)) then (if (wrap64 (Int.tdiv x9 8)) < (x7.length:Int) then (stoaref03_Turn.l0 k x0 (x7.set ((wrap64 (Int.tdiv x9 8)):Int).toNat (Go.bits .xor .u8 (rd x7 (wrap64 (Int.tdiv x9 8))) x10)) (IntKind.u64.wrap (Int.tdiv x8 2)) (wrap64 (x9 + 1))) else (none)) else (none))
end
end Go.Proofs.YteeikgjjgfdjgaaGreat.PK
end
