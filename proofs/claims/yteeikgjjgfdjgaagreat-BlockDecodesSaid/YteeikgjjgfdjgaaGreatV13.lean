/-
  Parts of the proof: E15, E16, E17, E18, E27.
-/
import Derived.Test.YteeikgjjgfdjgaaGreatV10
set_option maxHeartbeats 8000000
set_option maxRecDepth 100000
section
namespace Go.Proofs.YteeikgjjgfdjgaaGreat.PK
open Go.RowKit YteeikgjjgfdjgaaGreatW.PrintWords YteeikgjjgfdjgaaGreatW.PrintLast YteeikgjjgfdjgaaGreatW.PrintMore
attribute [local go_sem] yce ycf ycu ycv yb8 yb7 ycm yco
set_option linter.unusedVariables false
set_option linter.unusedSimpArgs false
mutual
def yeq.l0:Nat→List (List Int)→List Int→List Int→Int→Option (List Int×Int)
 | 0,_,_,_,_=>none
 | k+1,x4,x5,x7,x8=>if x8<(x4.length:Int) then (if 0≤x8 then ((ycl.f k (IntKind.u64.wrap (((ydn x4 x8).length:Int)))).bind fun t768=>((yaz.f k x7 t768).bind fun t771=>((yaz.f k t771 (ydn x4 x8)).bind fun t775=>(yeq.l0 k x4 x5 t775 (wrap64 (x8+1)))))) else (none)) else (yeq.l1 k x4 x5 x7 (([]:List Int)) 0)
def yeq.l1:Nat→List (List Int)→List Int→List Int→List Int→Int→Option (List Int×Int)
 | 0,_,_,_,_,_=>none
 | k+1,x4,x5,x7,x9,x10=>if x10<(x5.length:Int) then (if 0≤x10 then (if x9.length<17592186044416 then (yeq.l1 k x4 x5 x7 (x9++[IntKind.u64.wrap (rd x5 x10)]) (wrap64 (x10+1))) else (none)) else (none)) else ((ydf.f k (x4.length:Int)).bind fun t785=>((ydb.f k t785 x9).bind fun bt786=>((ycl.f k (IntKind.u64.wrap ((x9.length:Int)))).bind fun t790=>((yaz.f k x7 t790).bind fun t793=>((yaz.f k t793 bt786.1).bind fun t796=>(some (t796,0)))))))
end
def yeq.f (k:Nat) (l0:List (List Int)):Option (List Int×Int):=(yez.f k l0).bind fun bt757=>(if bt757.2.2=0 then ((ycl.f k (IntKind.u64.wrap ((bt757.1.length:Int)))).bind fun t764=>(yeq.l0 k bt757.1 bt757.2.1 t764 0)) else (some (([]:List Int),bt757.2.2)))
def ybo.l0:Nat→List Int→List Int→Int→Option (Int)
 | 0,_,_,_=>none
 | k+1,x0,x1,x5=>if x5<(x0.length:Int) then (if x5≥(x1.length:Int) then (some x5) else (if 0≤x5 then (if x5<(x1.length:Int) then (if (rd x0 x5)=(rd x1 x5) then (ybo.l0 k x0 x1 (wrap64 (x5+1))) else (some x5)) else (none)) else (none))) else (some (x0.length:Int))
def ybo.f (k:Nat) (l0:List Int) (l1:List Int):Option (Int):=ybo.l0 k l0 l1 0
theorem ybo.calls (k:Nat) (A0:Option Addr) (c0:Nat) (l0:List Int) (A1:Option Addr) (c1:Nat) (l1:List Int) (r:Int) (w:World) (hr0:Kd.C (Kd.int .u8) w A0 l0.length l0) (hc0:l0.length≤c0) (hr1:Kd.C (Kd.int .u8) w A1 l1.length l1) (hc1:l1.length≤c1) (h:ybo.f k l0 l1=some r) :
  Calls Tryz.prog 133 #[.slice A0 l0.length c0,.slice A1 l1.length c1] w fun e w'=>e=.returned (.int .i64 r)∧yap w w':=by
 have HR0:=yaa.mk hr0
 have HC0:=yaa.mk hc0
 clear hr0 hc0
 have HR1:=yaa.mk hr1
 have HC1:=yaa.mk hc1
 clear hr1 hc1
 have H:(ybo.l0 k l0 l1 0)=some r:=h
 clear h
 have H':=yaa.mk H
 clear H
 go_enter Tryz.func133,Tryz.ntmps133
 go_wp2
 repeat (go_quiet (fail);try go_wp2)
 go_loopg [5] k (fun kq v5 w'=>∃ (x5_1:Int),v5=.int .i64 x5_1∧yaa (ybo.l0 kq l0 l1 x5_1=some r)∧yaa (kq≤k)∧yap w w')
 case atStart=>exact⟨(0),zF,H',⟨Nat.le_refl _⟩,zD⟩
 case round =>
  clear H'
  try clear c1
  try clear p2
  obtain⟨x5_1,rfl,HA,HK1,⟨m1,rfl⟩⟩:=hrel
  cases gk with
  | zero=>exact absurd HA.out (by simp [ybo.l0])
  | succ k1 =>
   have H:=HA.out
   clear HA
   simp only[ybo.l0] at H
   by_cases c3:x5_1<(l0.length:Int)
   ·rw[if_pos c3] at H
    have c3b0:=decide_eq_true c3
    clear c3
    by_cases c4:x5_1≥(l1.length:Int)
    ·rw[if_pos c4] at H
     have c4b0:decide ((l1.length:Int)≤x5_1)=true:=decide_eq_true c4
     clear c4
     obtain rfl:=Option.some.inj H
     go_wp2
     repeat (go_quiet (fail);try go_wp2)
     go_ret
     exact⟨zF,zD⟩
    ·rw[if_neg c4] at H
     have c4b0:decide ((l1.length:Int)≤x5_1)=false:=decide_eq_false c4
     clear c4
     by_cases c5:0≤x5_1
     ·rw[if_pos c5] at H
      have c5b0:=decide_eq_true c5
      clear c5
      by_cases c6:x5_1<(l1.length:Int)
      ·rw[if_pos c6] at H
       have c6b0:=decide_eq_true c6
       clear c6
       by_cases c7:(rd l0 x5_1)=(rd l1 x5_1)
       ·rw[if_pos c7] at H
        have c7b0:((rd l0 x5_1) == (rd l1 x5_1))=true:=beq_iff_eq.mpr c7
        have c7b1:((rd l0 x5_1) != (rd l1 x5_1))=false:=bne_eq_false_iff_eq.mpr c7
        clear c7
        have H':=yaa.mk H
        clear H
        have p799:0≤(x5_1:Int):=of_decide_eq_true zA
        have q799:x5_1<(l0.length:Int):=of_decide_eq_true zA
        obtain⟨ad799,e799,hx799_0⟩:=Kd.at_int HR0.out x5_1 p799 q799
        cases e799
        replace p799:=eq_true p799
        replace q799:=eq_true q799
        have p800:0≤(x5_1:Int):=of_decide_eq_true zA
        have q800:x5_1<(l1.length:Int):=of_decide_eq_true zA
        obtain⟨ad800,e800,hx800_0⟩:=Kd.at_int HR1.out x5_1 p800 q800
        cases e800
        replace p800:=eq_true p800
        replace q800:=eq_true q800
        go_wp2
        repeat (go_quiet (fail);try go_wp2)
        go_roundg k1
        case measure=>have:=HK1.out;omega
        case rel=>exact⟨(wrap64 (x5_1+1)),zF,H',⟨by have:=HK1.out;omega⟩,zD⟩
       ·rw[if_neg c7] at H
        have c7b0:((rd l0 x5_1) == (rd l1 x5_1))=false:=beq_eq_false_iff_ne.mpr c7
        have c7b1:((rd l0 x5_1) != (rd l1 x5_1))=true:=bne_iff_ne.mpr c7
        obtain rfl:=Option.some.inj H
        have p799:0≤(x5_1:Int):=of_decide_eq_true zA
        have q799:x5_1<(l0.length:Int):=of_decide_eq_true zA
        obtain⟨ad799,e799,hx799_0⟩:=Kd.at_int HR0.out x5_1 p799 q799
        cases e799
        replace p799:=eq_true p799
        replace q799:=eq_true q799
        have p800:0≤(x5_1:Int):=of_decide_eq_true zA
        have q800:x5_1<(l1.length:Int):=of_decide_eq_true zA
        obtain⟨ad800,e800,hx800_0⟩:=Kd.at_int HR1.out x5_1 p800 q800
        cases e800
        replace p800:=eq_true p800
        replace q800:=eq_true q800
        go_wp2
        repeat (go_quiet (fail);try go_wp2)
        go_ret
        exact⟨zF,zD⟩
      ·rw[if_neg c6] at H
       exact absurd H (by simp)
     ·rw[if_neg c5] at H
      exact absurd H (by simp)
   ·rw[if_neg c3] at H
    have c3b0:=decide_eq_false c3
    clear c3
    obtain rfl:=Option.some.inj H
    go_wp2
    repeat (go_quiet (fail);try go_wp2)
    go_ret
    exact⟨zF,zD⟩
def yfm.l0:Nat→List Int→List Int→Int→Option (List Int)
 | 0,_,_,_=>none
 | k+1,x0,x1,x5=>if x5<(x1.length:Int) then (if 0≤x5 then (if x0.length<140737488355328 then (yfm.l0 k (x0++[rd x1 x5]) x1 (wrap64 (x5+1))) else (none)) else (none)) else (some x0)
def yfm.f (k:Nat) (l0:List Int) (l1:List Int):Option (List Int):=yfm.l0 k l0 l1 0
end Go.Proofs.YteeikgjjgfdjgaaGreat.PK
end
section
namespace Go.Proofs.YteeikgjjgfdjgaaGreat.PK
open Go.RowKit YteeikgjjgfdjgaaGreatW.PrintWords YteeikgjjgfdjgaaGreatW.PrintLast YteeikgjjgfdjgaaGreatW.PrintMore
attribute [local go_sem] yce ycf ycu ycv yb8 yb7 ycm yco
set_option linter.unusedVariables false
set_option linter.unusedSimpArgs false
mutual
def ydi.l0:Nat→List (List Int)→List Int→Int→Option (List Int×Int)
 | 0,_,_,_=>none
 | k+1,x0,x4,x5=>if x5<(x0.length:Int) then (if 0≤x5 then (if ((ydn x0 x5).length:Int) > 200 then (some (([]:List Int),4)) else (ydi.l0 k x0 x4 (wrap64 (x5+1)))) else (none)) else (ydi.l1 k x0 x4 0)
def ydi.l1:Nat→List (List Int)→List Int→Int→Option (List Int×Int)
 | 0,_,_,_=>none
 | k+1,x0,x4,x6=>if x6<(x0.length:Int) then (if (Int.tmod x6 16)=0 then (ydi.j2 k x0 x4 x6 0) else (if 0≤(wrap64 (x6-1)) then (if (wrap64 (x6-1))<(x0.length:Int) then (if 0≤x6 then ((ybo.f k (ydn x0 (wrap64 (x6-1))) (ydn x0 x6)).bind fun t811=>(ydi.j2 k x0 x4 x6 t811)) else (none)) else (none)) else (none))) else (some (x4,0))
def ydi.j2:Nat→List (List Int)→List Int→Int→Int→Option (List Int×Int)
 | 0,_,_,_,_=>none
 | k+1,x0,x4,x6,x7=>(ycl.f k (IntKind.u64.wrap (x7))).bind fun t812=>((yfm.f k x4 t812).bind fun t815=>(if 0≤x6 then (if x6<(x0.length:Int) then ((ycl.f k (IntKind.u64.wrap (wrap64 (((ydn x0 x6).length:Int)-x7)))).bind fun t819=>((yfm.f k t815 t819).bind fun t822=>(if 0≤x7 then (if x7≤((ydn x0 x6).length:Int) then ((yfm.f k t822 ((ydn x0 x6).drop (x7:Int).toNat)).bind fun t827=>(ydi.l1 k x0 t827 (wrap64 (x6+1)))) else (none)) else (none)))) else (none)) else (none)))
end
def ydi.f (k:Nat) (l0:List (List Int)):Option (List Int×Int):=if (l0.length:Int) > 4096 then (some (([]:List Int),4)) else ((ycl.f k (IntKind.u64.wrap ((l0.length:Int)))).bind fun t805=>(ydi.l0 k l0 t805 0))
end Go.Proofs.YteeikgjjgfdjgaaGreat.PK
end
section
namespace Go.Proofs.YteeikgjjgfdjgaaGreat.PK
open Go.RowKit YteeikgjjgfdjgaaGreatW.PrintWords YteeikgjjgfdjgaaGreatW.PrintLast YteeikgjjgfdjgaaGreatW.PrintMore
attribute [local go_sem] yce ycf ycu ycv yb8 yb7 ycm yco
set_option linter.unusedVariables false
set_option linter.unusedSimpArgs false
def yfg.l0:Nat→Int→Int→List (S53)→List Int→List (List Int)→List Int→Int→Option (List Int)
 | 0,_,_,_,_,_,_,_=>none
 | k+1,x0,x1,x2,x7,x8,x9,x10=>if x10<(x2.length:Int) then (if 0≤x10 then (if ((yar x2 x10).f0=true) then (yfg.l0 k x0 x1 x2 x7 x8 x9 (wrap64 (x10+1))) else (if x7.length<17592186044416 then ((some (x7++[(yar x2 x10).f1]:List Int)).bind fun y841=>(if x8.length<5864062014805 then ((some (x8++[(yar x2 x10).f2]:List (List Int))).bind fun y845=>(if x0≤6 then ((yhp.f ((yar x2 x10).f1)).bind fun t849=>((ycl.f k t849).bind fun t850=>((yek.f k x9 t850).bind fun t853=>(yfg.l0 k x0 x1 x2 y841 y845 t853 (wrap64 (x10+1)))))) else ((ycl.f k (IntKind.u64.wrap ((((yar x2 x10).f2).length:Int)))).bind fun t857=>((yek.f k x9 t857).bind fun t860=>((yek.f k t860 ((yar x2 x10).f2)).bind fun t864=>(yfg.l0 k x0 x1 x2 y841 y845 t864 (wrap64 (x10+1)))))))) else (none))) else (none))) else (none)) else (if x1=2 then ((yge.f k x7).bind fun bt867=>(some bt867.1)) else (if x1=3 then ((ygg.f k x7).bind fun bt871=>(some bt871.1)) else (if x1=4 then ((yeq.f k x8).bind fun bt875=>(some bt875.1)) else (if x1=5 then ((ydi.f k x8).bind fun bt879=>(some bt879.1)) else (some x9)))))
def yfg.f (k:Nat) (a0:Int) (a1:Int) (l2:List (S53)):Option (List Int):=yfg.l0 k a0 a1 l2 (([]:List Int)) (([]:List (List Int))) (([]:List Int)) 0
end Go.Proofs.YteeikgjjgfdjgaaGreat.PK
end
section
namespace Go.Proofs.YteeikgjjgfdjgaaGreat.PK
open Go.RowKit YteeikgjjgfdjgaaGreatW.PrintWords YteeikgjjgfdjgaaGreatW.PrintLast YteeikgjjgfdjgaaGreatW.PrintMore
attribute [local go_sem] yce ycf ycu ycv yb8 yb7 ycm yco
set_option linter.unusedVariables false
set_option linter.unusedSimpArgs false
mutual
def yeg.l0:Nat→Int→Int→List (S53)→List Int→List Int→Int→Int→Option (List Int×Int)
 | 0,_,_,_,_,_,_,_=>none
 | k+1,x0,x1,x2,x8,x9,x10,x11=>if x11<(x2.length:Int) then (if 0≤x11 then (if (yar x2 x11).f0=true then (if x9.length<17592186044416 then (yeg.l0 k x0 x1 x2 x8 (x9++[1]) 1 (wrap64 (x11+1))) else (none)) else (if x9.length<17592186044416 then (yeg.l0 k x0 x1 x2 x8 (x9++[0]) x10 (wrap64 (x11+1))) else (none))) else (none)) else (if x8.length<140737488355328 then ((some (x8++[x10]:List Int)).bind fun y902=>(if x10=1 then ((ydb.f k 1 x9).bind fun bt905=>((yek.f k y902 bt905.1).bind fun t909=>(yeg.j1 k x0 x1 x2 t909))) else (yeg.j1 k x0 x1 x2 y902))) else (none))
def yeg.j1:Nat→Int→Int→List (S53)→List Int→Option (List Int×Int)
 | 0,_,_,_,_=>none
 | k+1,x0,x1,x2,x8=>(yfg.f k x0 x1 x2).bind fun t912=>((yek.f k x8 t912).bind fun t915=>(if (wrap64 ((t915.length:Int)+4)) > 65000 then (some (([]:List Int),4)) else ((yff.f k t915).bind fun t918=>(some (t918,0)))))
end
def yeg.f (k:Nat) (a0:Int) (a1:Int) (l2:List (S53)):Option (List Int×Int):=(ycl.f k (IntKind.u64.wrap ((l2.length:Int)))).bind fun t886=>((yek.f k (([(a1)%256]:List Int)) t886).bind fun t889=>(yeg.l0 k a0 a1 l2 t889 (([]:List Int)) 0 0))
end Go.Proofs.YteeikgjjgfdjgaaGreat.PK
end
section
namespace Go.Proofs.YteeikgjjgfdjgaaGreat.PK
open Go.RowKit YteeikgjjgfdjgaaGreatW.PrintWords YteeikgjjgfdjgaaGreatW.PrintLast YteeikgjjgfdjgaaGreatW.PrintMore
attribute [local go_sem] yce ycf ycu ycv yb8 yb7 ycm yco
set_option linter.unusedVariables false
set_option linter.unusedSimpArgs false
mutual
def stoaref12_Best.j0:Nat→Int→List (S53)→Bool→Option (Int×List Int×Int)
 | 0,_,_,_=>none
 | k+1,x0,x1,x18=>if x18=true then (some (0,([]:List Int),1)) else ((yb0.f k x0 x1).bind fun t927=>(if t927=0 then (stoaref12_Best.l0 k x0 x1 0 (([]:List Int)) 1) else (some (0,([]:List Int),t927))))
def stoaref12_Best.l0:Nat→Int→List (S53)→Int→List Int→Int→Option (Int×List Int×Int)
 | 0,_,_,_,_,_=>none
 | k+1,x0,x1,x8,x9,x10=>if x10≤5 then ((ye2.f x0 x10).bind fun t931=>(if t931=true then ((yeg.f k x0 x10 x1).bind fun bt932=>(if bt932.2=0 then (if x8=0 then (stoaref12_Best.l0 k x0 x1 x10 bt932.1 (wrap64 (x10+1))) else (if (bt932.1.length:Int)<(x9.length:Int) then (stoaref12_Best.l0 k x0 x1 x10 bt932.1 (wrap64 (x10+1))) else (stoaref12_Best.l0 k x0 x1 x8 x9 (wrap64 (x10+1))))) else (stoaref12_Best.l0 k x0 x1 x8 x9 (wrap64 (x10+1))))) else (stoaref12_Best.l0 k x0 x1 x8 x9 (wrap64 (x10+1))))) else (if x8=0 then (some (0,([]:List Int),4)) else (some (x8,x9,0)))
end
mutual
def stoaref03_Turn.j0:Nat→List Int→Int→Int→List Int→Bool→Option (List Int)
 | 0,_,_,_,_,_=>none
 | k+1,x0,x1,x2,x7,x22=>if x22=true then (some x7) else (stoaref03_Turn.l0 k x0 x7 (IntKind.u64.wrap (x2)) x1)
def stoaref03_Turn.l0:Nat→List Int→List Int→Int→Int→Option (List Int)
 | 0,_,_,_,_=>none
 | k+1,x0,x7,x8,x9=>if x8 > 0 then (if x9≥(wrap64 (8*(x0.length:Int))) then ((yay.f k x0).bind fun t919=>(some t919)) else (if (Int.tmod x8 2)=1 then (stoaref03_Turn.l1 k x0 x7 x8 x9 1 0) else (stoaref03_Turn.l0 k x0 x7 (IntKind.u64.wrap (Int.tdiv x8 2)) (wrap64 (x9+1))))) else (some x7)
def stoaref03_Turn.l1:Nat→List Int→List Int→Int→Int→Int→Int→Option (List Int)
 | 0,_,_,_,_,_,_=>none
 | k+1,x0,x7,x8,x9,x10,x11=>if x11<(Int.tmod x9 8) then (stoaref03_Turn.l1 k x0 x7 x8 x9 ((x10*2)%256) (wrap64 (x11+1))) else (if 0≤(wrap64 (Int.tdiv x9 8)) then (if (wrap64 (Int.tdiv x9 8))<(x7.length:Int) then (stoaref03_Turn.l0 k x0 (x7.set ((wrap64 (Int.tdiv x9 8)):Int).toNat (Go.bits .xor .u8 (rd x7 (wrap64 (Int.tdiv x9 8))) x10)) (IntKind.u64.wrap (Int.tdiv x8 2)) (wrap64 (x9+1))) else (none)) else (none))
end
end Go.Proofs.YteeikgjjgfdjgaaGreat.PK
end
