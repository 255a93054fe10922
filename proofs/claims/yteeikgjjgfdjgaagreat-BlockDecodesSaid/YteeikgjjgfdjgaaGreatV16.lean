/-
  Parts of the proof: E21, E24.
-/
import Derived.Test.YteeikgjjgfdjgaaGreatV15
set_option maxHeartbeats 8000000
set_option maxRecDepth 100000
section
namespace Go.Proofs.YteeikgjjgfdjgaaGreat.PK
open Go.RowKit YteeikgjjgfdjgaaGreatW.PrintWords YteeikgjjgfdjgaaGreatW.PrintLast YteeikgjjgfdjgaaGreatW.PrintMore
attribute [local go_sem] yce ycf ycu ycv yb8 yb7 ycm yco
set_option linter.unusedVariables false
set_option linter.unusedSimpArgs false
mutual
def yah.j0:Nat→List Int→Int→Int→Bool→Option (List Int×Int)
 | 0,_,_,_,_=>none
 | k+1,x0,x1,x2,x24=>if x24=true then (some (([]:List Int),1)) else (if (wrap64 (8*(x0.length:Int)))<(wrap64 (x1*x2)) then (some (([]:List Int),2)) else (if (wrap64 ((wrap64 (8*(x0.length:Int)))-(wrap64 (x1*x2))))≥8 then (some (([]:List Int),3)) else (yah.l0 k x0 x1 x2 (wrap64 (x1*x2)))))
def yah.l0:Nat→List Int→Int→Int→Int→Option (List Int×Int)
 | 0,_,_,_,_=>none
 | k+1,x0,x1,x2,x8=>if x8<(wrap64 (8*(x0.length:Int))) then ((ydw.f k x0 x8).bind fun t629=>(if t629=0 then (yah.l0 k x0 x1 x2 (wrap64 (x8+1))) else (some (([]:List Int),5)))) else (yah.l1 k x0 x1 x2 (([]:List Int)) 0)
def yah.l1:Nat→List Int→Int→Int→List Int→Int→Option (List Int×Int)
 | 0,_,_,_,_,_=>none
 | k+1,x0,x1,x2,x9,x10=>if x10<x2 then ((ybu.f k x0 (wrap64 (x10*x1)) x1).bind fun t633=>(if x9.length<17592186044416 then (yah.l1 k x0 x1 x2 (x9++[t633]) (wrap64 (x10+1))) else (none))) else (some (x9,0))
end
def yah.f (k:Nat) (l0:List Int) (a1:Int) (a2:Int):Option (List Int×Int):=if a1<0 then (yah.j0 k l0 a1 a2 true) else (if a1 > 64 then (yah.j0 k l0 a1 a2 true) else (if a2<0 then (yah.j0 k l0 a1 a2 true) else (yah.j0 k l0 a1 a2 (decide (a2 > 4096)))))
theorem yah.calls (k:Nat) (A0:Option Addr) (c0:Nat) (l0:List Int) (a1:Int) (a2:Int) (r1:List Int) (r2:Int) (w:World) (hr0:Kd.C (Kd.int .u8) w A0 l0.length l0) (hc0:l0.length≤c0) (h:yah.f k l0 a1 a2=some (r1,r2)) :
  Calls Tryz.prog 73 #[.slice A0 l0.length c0,.int .i64 a1,.int .i64 a2] w fun e w'=>∃ v0_:Value,e=.returned (.tuple #[v0_,.int .i64 r2])∧Kd.R (Kd.int .u64) 63 w' w.heap.size (fun _=>True) v0_ r1∧Below w.heap.size w w':=by
 have HR0:=yaa.mk hr0
 have HC0:=yaa.mk hc0
 clear hr0 hc0
 have HB:=yaa.mk (Below.refl w.heap.size w)
 have H:(if a1<0 then (yah.j0 k l0 a1 a2 true) else (if a1 > 64 then (yah.j0 k l0 a1 a2 true) else (if a2<0 then (yah.j0 k l0 a1 a2 true) else (yah.j0 k l0 a1 a2 (decide (a2 > 4096))))))=some (r1,r2):=h
 clear h
 have HC4:=yaa.mk H
 clear H
 go_enter Tryz.func73,Tryz.ntmps73
 go_upto_region 1 with (fail)
 go_cut [24] (fun v24 wc=>∃ (kq:Nat) (x24_3:Bool),v24=.bool x24_3∧yaa (yah.j0 kq l0 a1 a2 x24_3=some (r1,r2))∧yaa (kq≤k)∧yaa (Below w.heap.size w wc))
 case first =>
  have H:=HC4.out
  clear HC4
  by_cases c5:a1<0
  ·rw[if_pos c5] at H
   have c5b0:=decide_eq_true c5
   clear c5
   (first|rw[c5b0]|(simp only[ybz,ycs];rw[c5b0])|skip)
   have H':=yaa.mk H
   clear H
   go_wp2
   go_meet
   case rel=>exact⟨_,(true),zF,H',⟨by first|omega|exact Nat.le_refl _⟩,⟨zB⟩⟩
  ·rw[if_neg c5] at H
   have c5b0:=decide_eq_false c5
   clear c5
   (first|rw[c5b0]|(simp only[ybz,ycs];rw[c5b0])|skip)
   by_cases c6:a1 > 64
   ·rw[if_pos c6] at H
    have c6b0:decide (64<a1)=true:=decide_eq_true c6
    clear c6
    have H':=yaa.mk H
    clear H
    go_wp2
    go_meet
    case rel=>exact⟨_,(true),zF,H',⟨by first|omega|exact Nat.le_refl _⟩,⟨zB⟩⟩
   ·rw[if_neg c6] at H
    have c6b0:decide (64<a1)=false:=decide_eq_false c6
    clear c6
    by_cases c7:a2<0
    ·rw[if_pos c7] at H
     have c7b0:=decide_eq_true c7
     clear c7
     have H':=yaa.mk H
     clear H
     go_wp2
     go_meet
     case rel=>exact⟨_,(true),zF,H',⟨by first|omega|exact Nat.le_refl _⟩,⟨zB⟩⟩
    ·rw[if_neg c7] at H
     have c7b0:=decide_eq_false c7
     clear c7
     have H':=yaa.mk H
     clear H
     go_wp2
     go_meet
     case rel=>exact⟨_,(decide (a2 > 4096)),zF,H',⟨by first|omega|exact Nat.le_refl _⟩,⟨zB⟩⟩
 case rest =>
  clear HC4
  try clear p2
  try clear c5
  try clear c5b0
  try clear c6
  try clear c6b0
  try clear c7
  try clear c7b0
  obtain⟨kq,x24_3,rfl,HA,HJ3,HB⟩:=hcut
  cases kq with
  | zero=>exact absurd HA.out (by simp [yah.j0])
  | succ kj3 =>
   have H:=HA.out
   clear HA
   simp only[yah.j0] at H
   by_cases c8:x24_3=true
   ·subst c8
    have H1:(some (([]:List Int),1))=some (r1,r2):=by rw[if_pos rfl] at H;exact H
    clear H
    have H:=H1
    clear H1
    simp only[Option.some.injEq,Prod.mk.injEq] at H
    obtain⟨rfl,rfl⟩:=H
    go_wp2
    go_ret2
    exact⟨_,zG,zN,zB⟩
   ·replace c8:=Bool.eq_false_iff.mpr c8
    subst c8
    have H1:(if (wrap64 (8*(l0.length:Int)))<(wrap64 (a1*a2)) then (some (([]:List Int),2)) else (if (wrap64 ((wrap64 (8*(l0.length:Int)))-(wrap64 (a1*a2))))≥8 then (some (([]:List Int),3)) else (yah.l0 kj3 l0 a1 a2 (wrap64 (a1*a2)))))=some (r1,r2):=by rw[if_neg (show ¬ (false=true) by decide)] at H;exact H
    clear H
    have H:=H1
    clear H1
    by_cases c9:(wrap64 (8*(l0.length:Int)))<(wrap64 (a1*a2))
    ·rw[if_pos c9] at H
     have c9b0:=decide_eq_true c9
     clear c9
     simp only[Option.some.injEq,Prod.mk.injEq] at H
     obtain⟨rfl,rfl⟩:=H
     go_wp2
     go_ret2
     exact⟨_,zG,zN,zB⟩
    ·rw[if_neg c9] at H
     have c9b0:=decide_eq_false c9
     clear c9
     by_cases c10:(wrap64 ((wrap64 (8*(l0.length:Int)))-(wrap64 (a1*a2))))≥8
     ·rw[if_pos c10] at H
      have c10b0:decide (8≤(wrap64 ((wrap64 (8*(l0.length:Int)))-(wrap64 (a1*a2)))))=true:=decide_eq_true c10
      clear c10
      simp only[Option.some.injEq,Prod.mk.injEq] at H
      obtain⟨rfl,rfl⟩:=H
      go_wp2
      go_ret2
      exact⟨_,zG,zN,zB⟩
     ·rw[if_neg c10] at H
      have c10b0:decide (8≤(wrap64 ((wrap64 (8*(l0.length:Int)))-(wrap64 (a1*a2)))))=false:=decide_eq_false c10
      clear c10
      have H':=yaa.mk H
      clear H
      go_wp2
      go_loopg [8] kj3 (fun kq v8 w'=>∃ (x8_2:Int),v8=.int .i64 x8_2∧yaa (yah.l0 kq l0 a1 a2 x8_2=some (r1,r2))∧yaa (kq≤kj3)∧yaa (Below w.heap.size w w'))
      case atStart=>exact⟨(wrap64 (a1*a2)),zF,H',⟨Nat.le_refl _⟩,⟨zB⟩⟩
      case round =>
       clear H'
       try clear c1
       try clear p2
       try clear c5
       try clear c5b0
       try clear c6
       try clear c6b0
       try clear p6
       try clear c7
       try clear c7b0
       try clear c8
       try clear c9
       try clear c9b0
       try clear c10
       try clear c10b0
       try clear p2
       obtain⟨x8_2,rfl,HA,HK2,HB⟩:=hrel
       cases gk with
       | zero=>exact absurd HA.out (by simp [yah.l0])
       | succ k2 =>
        have H:=HA.out
        clear HA
        simp only[yah.l0] at H
        by_cases c11:x8_2<(wrap64 (8*(l0.length:Int)))
        ·rw[if_pos c11] at H
         have c11b0:=decide_eq_true c11
         clear c11
         replace H:=Option.bind_eq_some_iff.mp H
         obtain⟨t629,A120,H⟩:=H
         try dsimp only at H
         have A12:=yaa.mk A120
         clear A120
         by_cases c13:t629=0
         ·rw[if_pos c13] at H
          have c13b0:(t629 == 0)=true:=beq_iff_eq.mpr c13
          have c13b1:(t629 != 0)=false:=bne_eq_false_iff_eq.mpr c13
          clear c13
          have H':=yaa.mk H
          clear H
          go_wp2_with (first|((with_reducible refine yad (f:=113) rfl ?_);refine yak (some 52) rfl rfl Tryz.func113 (by kernel_rfl) rfl #[.slice A0 l0.length c0,.int .i64 x8_2] rfl zE ?_;(with_reducible refine(ydw.calls k2 _ _ l0 x8_2 t629 _ ?side1 ?side2 A12.out).mono ?_);(case side1=>exact zC (Kd.C_below HR0.out HB.out));(case side2=>exact HC0.out);rintro e w' ⟨rfl,⟨nd,rfl⟩⟩;refine⟨_,rfl,?_⟩))
          go_roundg k2
          case measure=>have:=HJ3.out;have:=HK2.out;omega
          case rel=>exact⟨(wrap64 (x8_2+1)),zF,H',⟨by have:=HJ3.out;have:=HK2.out;omega⟩,⟨zB⟩⟩
         ·rw[if_neg c13] at H
          have c13b0:(t629 == 0)=false:=beq_eq_false_iff_ne.mpr c13
          have c13b1:(t629 != 0)=true:=bne_iff_ne.mpr c13
          simp only[Option.some.injEq,Prod.mk.injEq] at H
          obtain⟨rfl,rfl⟩:=H
          go_wp2_with (first|((with_reducible refine yad (f:=113) rfl ?_);refine yak (some 52) rfl rfl Tryz.func113 (by kernel_rfl) rfl #[.slice A0 l0.length c0,.int .i64 x8_2] rfl zE ?_;(with_reducible refine(ydw.calls k2 _ _ l0 x8_2 t629 _ ?side1 ?side2 A12.out).mono ?_);(case side1=>exact zC (Kd.C_below HR0.out HB.out));(case side2=>exact HC0.out);rintro e w' ⟨rfl,⟨nd,rfl⟩⟩;refine⟨_,rfl,?_⟩))
          go_ret2
          exact⟨_,zG,zN,zB⟩
        ·rw[if_neg c11] at H
         have c11b0:=decide_eq_false c11
         clear c11
         obtain⟨y630,hy630⟩:∃ y_:List Int,y_=(([]:List Int)):=⟨_,rfl⟩
         replace H:(yah.l1 k2 l0 a1 a2 y630 0)=some (r1,r2):=by first|(rw[hy630];with_reducible exact H)|(have H2_:=(Option.bind_some _ _).symm.trans H;rw[hy630];with_reducible exact H2_)|(have H2_:=(Option.bind_some _ _).symm.trans H;with_reducible exact H2_)|with_reducible exact H|(rw[hy630];exact H)|exact H
         have Ny630:=yaa.mk hy630
         clear hy630
         have H':=yaa.mk H
         clear H
         go_wp2_with (first|((with_reducible refine yb1 (N:=54) rfl ?_);refine Kd.R_lit (Kd.int .u64) _ 63 ?hg (N:=54) ?hd (xs:=([]:List Int)) (inner:=[]) (ok:=fun _=>True) (okp:=fun _=>True) ?hr ?hp (fun _ hk=>hk) trivial (Below.refl _ _) (Nat.le_refl _) (by simp) ?_;(case hd=>rfl);(case hg=>rfl);(case hr=>first|(go_simp;done)|(go_simp;rfl));(case hp=>exact(Reps.none _ _));intro v631 w14 ho15 hb hg_ hnew_;clear hg_ hnew_;(first|rw[← Ny630.out] at ho15|(simp only[Int.reduceToNat] at ho15;rw[← Ny630.out] at ho15));have n0_:=yaa.mk (Kd.R_lower ho15 (yaf zB));have n1_:=yaa.mk (yai zB hb);clear HB;have HO632:=n0_;have HB:=n1_;clear n0_ n1_;clear hb ho15))
         go_loopg [9,10] k2 (fun kq v9 v10 w'=>∃ (x9_3:List Int) (x10_3:Int),v10=.int .i64 x10_3∧yaa (yah.l1 kq l0 a1 a2 x9_3 x10_3=some (r1,r2))∧yaa (kq≤k2)∧yaa (Kd.R (Kd.int .u64) 63 w' w.heap.size (fun _=>True) v9 x9_3)∧yaa (Below w.heap.size w w'))
         case atStart=>exact⟨(y630),(0),zF,H',⟨Nat.le_refl _⟩,⟨zR HO632.out⟩,⟨zB⟩⟩
         case round =>
          clear H'
          try clear c1
          try clear p2
          try clear c5
          try clear c5b0
          try clear c6
          try clear c6b0
          try clear p6
          try clear c7
          try clear c7b0
          try clear c8
          try clear c9
          try clear c9b0
          try clear c10
          try clear c10b0
          try clear c11
          try clear c11b0
          try clear c13
          try clear c13b0
          try clear c13b1
          try clear p2
          try clear p6
          obtain⟨x9_3,x10_3,rfl,HA,HK3,HO_9,HB⟩:=hrel
          cases gk with
          | zero=>exact absurd HA.out (by simp [yah.l1])
          | succ k3 =>
           have H:=HA.out
           clear HA
           simp only[yah.l1] at H
           by_cases c16:x10_3<a2
           ·rw[if_pos c16] at H
            have c16b0:=decide_eq_true c16
            clear c16
            replace H:=Option.bind_eq_some_iff.mp H
            obtain⟨t633,A170,H⟩:=H
            try dsimp only at H
            have A17:=yaa.mk A170
            clear A170
            by_cases c18:x9_3.length<17592186044416
            ·rw[if_pos c18] at H
             have LMc18:=yaa.mk c18
             clear c18
             obtain⟨y634,hy634⟩:∃ y_:List Int,y_=(x9_3++[t633]):=⟨_,rfl⟩
             replace H:(yah.l1 k3 l0 a1 a2 y634 (wrap64 (x10_3+1)))=some (r1,r2):=by first|(rw[hy634];with_reducible exact H)|(have H2_:=(Option.bind_some _ _).symm.trans H;rw[hy634];with_reducible exact H2_)|(have H2_:=(Option.bind_some _ _).symm.trans H;with_reducible exact H2_)|with_reducible exact H|(rw[hy634];exact H)|exact H
             have Ny634:=yaa.mk hy634
             clear hy634
             have H':=yaa.mk H
             clear H
             go_wp2_with (first|((with_reducible refine yad (f:=114) rfl ?_);refine yak (some 66) rfl rfl Tryz.func114 (by kernel_rfl) rfl #[.slice A0 l0.length c0,.int .i64 (wrap64 (x10_3*a1)),.int .i64 a1] rfl zE ?_;(with_reducible refine(ybu.calls k3 _ _ l0 (wrap64 (x10_3*a1)) a1 t633 _ ?side1 ?side2 A17.out).mono ?_);(case side1=>exact zC (Kd.C_below HR0.out HB.out));(case side2=>exact HC0.out);rintro e w' ⟨rfl,⟨nd,rfl⟩⟩;refine⟨_,rfl,?_⟩)|((with_reducible refine ybm (b:=.append) (xs:=#[.tmp 60,.tmp 67]) rfl ?_);at_builtin;refine Kd.R_append (Kd.int .u64) (w0:=w) w.heap.size rfl (.tmp 60) (.tmp 67) 66 63 (.int .u64 0) 8 rfl Tryz.underlying66 yim rfl (by decide) (by omega) u9 x9_3 t633 [.int .u64 t633] (fun _=>True) (fun _=>False) rfl rfl ?aP (fun _ hk=>hk.elim) ?aF ?aO ?aB ?aS ?aL ?_;(case aP=>exact rfl);(case aB=>exact zB);(case aF=>exact fun _ _=>trivial);(case aO=>exact(zR HO_9.out));(case aS=>exact(yaf zB));(case aL=>have:=LMc18.out;omega);intro v635 w19 ho hb hg hat;rw[← Ny634.out] at ho;have n0_:=yaa.mk (hb);have n1_:=yaa.mk (ho);clear HB;clear HO_9;have HB:=n0_;have HO636:=n1_;clear n0_ n1_;clear ho hb hg hat))
             go_roundg k3
             case measure=>have:=HJ3.out;have:=HK2.out;have:=HK3.out;omega
             case rel=>exact⟨(y634),(wrap64 (x10_3+1)),zF,H',⟨by have:=HJ3.out;have:=HK2.out;have:=HK3.out;omega⟩,⟨zR HO636.out⟩,⟨zB⟩⟩
            ·rw[if_neg c18] at H
             exact absurd H (by simp)
           ·rw[if_neg c16] at H
            have c16b0:=decide_eq_false c16
            clear c16
            simp only[Option.some.injEq,Prod.mk.injEq] at H
            obtain⟨rfl,rfl⟩:=H
            go_wp2
            go_ret2
            exact⟨_,zG,zR HO_9.out,zB⟩
def ybn.l0:Nat→Int→Int→List Int→Int→Option (List Int×Int×Int)
 | 0,_,_,_,_=>none
 | k+1,x1,x2,x9,x10=>if x10<x2 then (if x9.length<17592186044416 then (ybn.l0 k x1 x2 (x9++[0]) (wrap64 (x10+1))) else (none)) else (some (x9,wrap64 (x1+1),0))
def ybn.f (k:Nat) (l0:List Int) (a1:Int) (a2:Int):Option (List Int×Int×Int):=if a1≥(l0.length:Int) then (some (([]:List Int),0,2)) else (if 0≤a1 then (if a1<(l0.length:Int) then (if (rd l0 a1) > 1 then (some (([]:List Int),0,5)) else (if (rd l0 a1)=0 then (ybn.l0 k a1 a2 (([]:List Int)) 0) else (if (wrap64 ((wrap64 ((l0.length:Int)-a1))-1))<(wrap64 (Int.tdiv (wrap64 (a2+7)) 8)) then (some (([]:List Int),0,2)) else ((yag.f k l0 (wrap64 (a1+1)) (wrap64 ((wrap64 (a1+1))+(wrap64 (Int.tdiv (wrap64 (a2+7)) 8))))).bind fun t646=>((yah.f k t646 1 a2).bind fun bt649=>(if bt649.2=0 then ((yal.f k bt649.1).bind fun t653=>(if t653=0 then (some (([]:List Int),0,5)) else (some (bt649.1,wrap64 ((wrap64 (a1+1))+(wrap64 (Int.tdiv (wrap64 (a2+7)) 8))),0)))) else (some (([]:List Int),0,bt649.2)))))))) else (none)) else (none))
theorem ybn.calls (k:Nat) (A0:Option Addr) (c0:Nat) (l0:List Int) (a1:Int) (a2:Int) (r1:List Int) (r2:Int) (r3:Int) (w:World) (hr0:Kd.C (Kd.int .u8) w A0 l0.length l0) (hc0:l0.length≤c0) (h:ybn.f k l0 a1 a2=some (r1,r2,r3)) :
  Calls Tryz.prog 45 #[.slice A0 l0.length c0,.int .i64 a1,.int .i64 a2] w fun e w'=>∃ v0_:Value,e=.returned (.tuple #[v0_,.int .i64 r2,.int .i64 r3])∧Kd.R (Kd.int .u64) 63 w' w.heap.size (fun _=>True) v0_ r1∧Below w.heap.size w w':=by
 have HR0:=yaa.mk hr0
 have HC0:=yaa.mk hc0
 clear hr0 hc0
 have HB:=yaa.mk (Below.refl w.heap.size w)
 have H:(if a1≥(l0.length:Int) then (some (([]:List Int),0,2)) else (if 0≤a1 then (if a1<(l0.length:Int) then (if (rd l0 a1) > 1 then (some (([]:List Int),0,5)) else (if (rd l0 a1)=0 then (ybn.l0 k a1 a2 (([]:List Int)) 0) else (if (wrap64 ((wrap64 ((l0.length:Int)-a1))-1))<(wrap64 (Int.tdiv (wrap64 (a2+7)) 8)) then (some (([]:List Int),0,2)) else ((yag.f k l0 (wrap64 (a1+1)) (wrap64 ((wrap64 (a1+1))+(wrap64 (Int.tdiv (wrap64 (a2+7)) 8))))).bind fun t646=>((yah.f k t646 1 a2).bind fun bt649=>(if bt649.2=0 then ((yal.f k bt649.1).bind fun t653=>(if t653=0 then (some (([]:List Int),0,5)) else (some (bt649.1,wrap64 ((wrap64 (a1+1))+(wrap64 (Int.tdiv (wrap64 (a2+7)) 8))),0)))) else (some (([]:List Int),0,bt649.2)))))))) else (none)) else (none)))=some (r1,r2,r3):=h
 clear h
 by_cases c4:a1≥(l0.length:Int)
 ·rw[if_pos c4] at H
  have c4b0:decide ((l0.length:Int)≤a1)=true:=decide_eq_true c4
  clear c4
  simp only[Option.some.injEq,Prod.mk.injEq] at H
  obtain⟨rfl,rfl,rfl⟩:=H
  go_enter Tryz.func45,Tryz.ntmps45
  go_wp2
  go_ret3
  exact⟨_,zG,zN,zB⟩
 ·rw[if_neg c4] at H
  have c4b0:decide ((l0.length:Int)≤a1)=false:=decide_eq_false c4
  clear c4
  obtain⟨y638,hy638⟩:∃ y_:List Int,y_=(([]:List Int)):=⟨_,rfl⟩
  replace H:(if 0≤a1 then (if a1<(l0.length:Int) then (if (rd l0 a1) > 1 then (some (([]:List Int),0,5)) else (if (rd l0 a1)=0 then (ybn.l0 k a1 a2 y638 0) else (if (wrap64 ((wrap64 ((l0.length:Int)-a1))-1))<(wrap64 (Int.tdiv (wrap64 (a2+7)) 8)) then (some (([]:List Int),0,2)) else ((yag.f k l0 (wrap64 (a1+1)) (wrap64 ((wrap64 (a1+1))+(wrap64 (Int.tdiv (wrap64 (a2+7)) 8))))).bind fun t646=>((yah.f k t646 1 a2).bind fun bt649=>(if bt649.2=0 then ((yal.f k bt649.1).bind fun t653=>(if t653=0 then (some (([]:List Int),0,5)) else (some (bt649.1,wrap64 ((wrap64 (a1+1))+(wrap64 (Int.tdiv (wrap64 (a2+7)) 8))),0)))) else (some (([]:List Int),0,bt649.2)))))))) else (none)) else (none))=some (r1,r2,r3):=by first|(rw[hy638];with_reducible exact H)|(have H2_:=(Option.bind_some _ _).symm.trans H;rw[hy638];with_reducible exact H2_)|(have H2_:=(Option.bind_some _ _).symm.trans H;with_reducible exact H2_)|with_reducible exact H|(rw[hy638];exact H)|exact H
  have Ny638:=yaa.mk hy638
  clear hy638
  by_cases c5:0≤a1
  ·rw[if_pos c5] at H
   have c5b0:=decide_eq_true c5
   clear c5
   by_cases c6:a1<(l0.length:Int)
   ·rw[if_pos c6] at H
    have c6b0:=decide_eq_true c6
    clear c6
    by_cases c7:(rd l0 a1) > 1
    ·rw[if_pos c7] at H
     have c7b0:decide (1<(rd l0 a1))=true:=decide_eq_true c7
     clear c7
     simp only[Option.some.injEq,Prod.mk.injEq] at H
     obtain⟨rfl,rfl,rfl⟩:=H
     go_enter Tryz.func45,Tryz.ntmps45
     go_wp2_with (first|((with_reducible refine yb1 (N:=17) rfl ?_);refine Kd.R_lit (Kd.int .u64) _ 63 ?hg (N:=17) ?hd (xs:=([]:List Int)) (inner:=[]) (ok:=fun _=>True) (okp:=fun _=>True) ?hr ?hp (fun _ hk=>hk) trivial (Below.refl _ _) (Nat.le_refl _) (by simp) ?_;(case hd=>rfl);(case hg=>rfl);(case hr=>first|(go_simp;done)|(go_simp;rfl));(case hp=>exact(Reps.none _ _));intro v639 w8 ho9 hb hg_ hnew_;clear hg_ hnew_;(first|rw[← Ny638.out] at ho9|(simp only[Int.reduceToNat] at ho9;rw[← Ny638.out] at ho9));have n0_:=yaa.mk (Kd.R_lower ho9 (yaf zB));have n1_:=yaa.mk (yai zB hb);clear HB;have HO640:=n0_;have HB:=n1_;clear n0_ n1_;clear hb ho9;have p641:0≤(a1:Int):=of_decide_eq_true zA;have q641:a1<(l0.length:Int):=of_decide_eq_true zA;obtain⟨ad641,e641,hx641_0⟩:=Kd.at_int HR0.out a1 p641 q641;cases e641;replace hx641_0:=(HB.out.cell (World.block_lt_of_cell? w _ hx641_0)).trans hx641_0;replace p641:=eq_true p641;replace q641:=eq_true q641))
     go_ret3
     exact⟨_,zG,zN,zB⟩
    ·rw[if_neg c7] at H
     have c7b0:decide (1<(rd l0 a1))=false:=decide_eq_false c7
     clear c7
     by_cases c10:(rd l0 a1)=0
     ·rw[if_pos c10] at H
      have c10b0:((rd l0 a1) == 0)=true:=beq_iff_eq.mpr c10
      have c10b1:((rd l0 a1) != 0)=false:=bne_eq_false_iff_eq.mpr c10
      clear c10
      have H':=yaa.mk H
      clear H
      go_enter Tryz.func45,Tryz.ntmps45
      go_wp2_with (first|((with_reducible refine yb1 (N:=17) rfl ?_);refine Kd.R_lit (Kd.int .u64) _ 63 ?hg (N:=17) ?hd (xs:=([]:List Int)) (inner:=[]) (ok:=fun _=>True) (okp:=fun _=>True) ?hr ?hp (fun _ hk=>hk) trivial (Below.refl _ _) (Nat.le_refl _) (by simp) ?_;(case hd=>rfl);(case hg=>rfl);(case hr=>first|(go_simp;done)|(go_simp;rfl));(case hp=>exact(Reps.none _ _));intro v639 w11 ho12 hb hg_ hnew_;clear hg_ hnew_;(first|rw[← Ny638.out] at ho12|(simp only[Int.reduceToNat] at ho12;rw[← Ny638.out] at ho12));have n0_:=yaa.mk (Kd.R_lower ho12 (yaf zB));have n1_:=yaa.mk (yai zB hb);clear HB;have HO640:=n0_;have HB:=n1_;clear n0_ n1_;clear hb ho12;have p641:0≤(a1:Int):=of_decide_eq_true zA;have q641:a1<(l0.length:Int):=of_decide_eq_true zA;obtain⟨ad641,e641,hx641_0⟩:=Kd.at_int HR0.out a1 p641 q641;cases e641;replace hx641_0:=(HB.out.cell (World.block_lt_of_cell? w _ hx641_0)).trans hx641_0;replace p641:=eq_true p641;replace q641:=eq_true q641;have p642:0≤(a1:Int):=of_decide_eq_true zA;have q642:a1<(l0.length:Int):=of_decide_eq_true zA;obtain⟨ad642,e642,hx642_0⟩:=Kd.at_int HR0.out a1 p642 q642;obtain rfl:ad641=ad642:=(by injection e642);replace hx642_0:=(HB.out.cell (World.block_lt_of_cell? w _ hx642_0)).trans hx642_0;replace p642:=eq_true p642;replace q642:=eq_true q642))
      go_loopg [9,10] k (fun kq v9 v10 w'=>∃ (x9_1:List Int) (x10_1:Int),v10=.int .i64 x10_1∧yaa (ybn.l0 kq a1 a2 x9_1 x10_1=some (r1,r2,r3))∧yaa (kq≤k)∧yaa (Kd.R (Kd.int .u64) 63 w' w.heap.size (fun _=>True) v9 x9_1)∧yaa (Below w.heap.size w w'))
      case atStart=>exact⟨(y638),(0),zF,H',⟨Nat.le_refl _⟩,⟨zR HO640.out⟩,⟨zB⟩⟩
      case round =>
       clear H'
       try clear c1
       try clear p2
       try clear c4
       try clear c4b0
       try clear c5
       try clear c5b0
       try clear c6
       try clear c6b0
       try clear p6
       try clear q6
       try clear hx6
       try clear c7
       try clear c7b0
       try clear c10
       try clear c10b0
       try clear c10b1
       try clear hx641_0
       try clear hx642_0
       try clear p641
       try clear p642
       try clear q641
       try clear q642
       obtain⟨x9_1,x10_1,rfl,HA,HK1,HO_9,HB⟩:=hrel
       cases gk with
       | zero=>exact absurd HA.out (by simp [ybn.l0])
       | succ k1 =>
        have H:=HA.out
        clear HA
        simp only[ybn.l0] at H
        by_cases c13:x10_1<a2
        ·rw[if_pos c13] at H
         have c13b0:=decide_eq_true c13
         clear c13
         by_cases c14:x9_1.length<17592186044416
         ·rw[if_pos c14] at H
          have LMc14:=yaa.mk c14
          clear c14
          obtain⟨y643,hy643⟩:∃ y_:List Int,y_=(x9_1++[0]):=⟨_,rfl⟩
          replace H:(ybn.l0 k1 a1 a2 y643 (wrap64 (x10_1+1)))=some (r1,r2,r3):=by first|(rw[hy643];with_reducible exact H)|(have H2_:=(Option.bind_some _ _).symm.trans H;rw[hy643];with_reducible exact H2_)|(have H2_:=(Option.bind_some _ _).symm.trans H;with_reducible exact H2_)|with_reducible exact H|(rw[hy643];exact H)|exact H
          have Ny643:=yaa.mk hy643
          clear hy643
          have H':=yaa.mk H
          clear H
          go_wp2_with (first|((with_reducible refine ybm (b:=.append) (xs:=#[.tmp 33,.tmp 34]) rfl ?_);at_builtin;refine Kd.R_append (Kd.int .u64) (w0:=w) w.heap.size rfl (.tmp 33) (.tmp 34) 66 63 (.int .u64 0) 8 rfl Tryz.underlying66 yim rfl (by decide) (by omega) u9 x9_1 0 [.int .u64 0] (fun _=>True) (fun _=>False) rfl rfl ?aP (fun _ hk=>hk.elim) ?aF ?aO ?aB ?aS ?aL ?_;(case aP=>exact rfl);(case aB=>exact zB);(case aF=>exact fun _ _=>trivial);(case aO=>exact(zR HO_9.out));(case aS=>exact(yaf zB));(case aL=>have:=LMc14.out;omega);intro v644 w15 ho hb hg hat;rw[← Ny643.out] at ho;have n0_:=yaa.mk (hb);have n1_:=yaa.mk (ho);clear HB;clear HO_9;have HB:=n0_;have HO645:=n1_;clear n0_ n1_;clear ho hb hg hat))
          go_roundg k1
          case measure=>have:=HK1.out;omega
          case rel=>exact⟨(y643),(wrap64 (x10_1+1)),zF,H',⟨by have:=HK1.out;omega⟩,⟨zR HO645.out⟩,⟨zB⟩⟩
         ·rw[if_neg c14] at H
          exact absurd H (by simp)
        ·rw[if_neg c13] at H
         have c13b0:=decide_eq_false c13
         clear c13
         simp only[Option.some.injEq,Prod.mk.injEq] at H
         obtain⟨rfl,rfl,rfl⟩:=H
         go_wp2
         go_ret3
         exact⟨_,zG,zR HO_9.out,zB⟩
     ·rw[if_neg c10] at H
      have c10b0:((rd l0 a1) == 0)=false:=beq_eq_false_iff_ne.mpr c10
      have c10b1:((rd l0 a1) != 0)=true:=bne_iff_ne.mpr c10
      by_cases c16:(wrap64 ((wrap64 ((l0.length:Int)-a1))-1))<(wrap64 (Int.tdiv (wrap64 (a2+7)) 8))
      ·rw[if_pos c16] at H
       have c16b0:=decide_eq_true c16
       clear c16
       simp only[Option.some.injEq,Prod.mk.injEq] at H
       obtain⟨rfl,rfl,rfl⟩:=H
       go_enter Tryz.func45,Tryz.ntmps45
       go_wp2_with (first|((with_reducible refine yb1 (N:=17) rfl ?_);refine Kd.R_lit (Kd.int .u64) _ 63 ?hg (N:=17) ?hd (xs:=([]:List Int)) (inner:=[]) (ok:=fun _=>True) (okp:=fun _=>True) ?hr ?hp (fun _ hk=>hk) trivial (Below.refl _ _) (Nat.le_refl _) (by simp) ?_;(case hd=>rfl);(case hg=>rfl);(case hr=>first|(go_simp;done)|(go_simp;rfl));(case hp=>exact(Reps.none _ _));intro v639 w17 ho18 hb hg_ hnew_;clear hg_ hnew_;(first|rw[← Ny638.out] at ho18|(simp only[Int.reduceToNat] at ho18;rw[← Ny638.out] at ho18));have n0_:=yaa.mk (Kd.R_lower ho18 (yaf zB));have n1_:=yaa.mk (yai zB hb);clear HB;have HO640:=n0_;have HB:=n1_;clear n0_ n1_;clear hb ho18;have p641:0≤(a1:Int):=of_decide_eq_true zA;have q641:a1<(l0.length:Int):=of_decide_eq_true zA;obtain⟨ad641,e641,hx641_0⟩:=Kd.at_int HR0.out a1 p641 q641;cases e641;replace hx641_0:=(HB.out.cell (World.block_lt_of_cell? w _ hx641_0)).trans hx641_0;replace p641:=eq_true p641;replace q641:=eq_true q641;have p642:0≤(a1:Int):=of_decide_eq_true zA;have q642:a1<(l0.length:Int):=of_decide_eq_true zA;obtain⟨ad642,e642,hx642_0⟩:=Kd.at_int HR0.out a1 p642 q642;obtain rfl:ad641=ad642:=(by injection e642);replace hx642_0:=(HB.out.cell (World.block_lt_of_cell? w _ hx642_0)).trans hx642_0;replace p642:=eq_true p642;replace q642:=eq_true q642))
       go_ret3
       exact⟨_,zG,zN,zB⟩
      ·rw[if_neg c16] at H
       have c16b0:=decide_eq_false c16
       clear c16
       replace H:=Option.bind_eq_some_iff.mp H
       obtain⟨t646,A190,H⟩:=H
       try dsimp only at H
       have A19:=yaa.mk A190
       clear A190
       replace H:=Option.bind_eq_some_iff.mp H
       obtain⟨⟨t649,t650⟩,A200,H⟩:=H
       try dsimp only at H
       have A20:=yaa.mk A200
       clear A200
       by_cases c21:t650=0
       ·rw[if_pos c21] at H
        have c21b0:(t650 == 0)=true:=beq_iff_eq.mpr c21
        have c21b1:(t650 != 0)=false:=bne_eq_false_iff_eq.mpr c21
        clear c21
        replace H:=Option.bind_eq_some_iff.mp H
        obtain⟨t653,A220,H⟩:=H
        try dsimp only at H
        have A22:=yaa.mk A220
        clear A220
        by_cases c23:t653=0
        ·rw[if_pos c23] at H
         have c23b0:(t653 == 0)=true:=beq_iff_eq.mpr c23
         have c23b1:(t653 != 0)=false:=bne_eq_false_iff_eq.mpr c23
         clear c23
         simp only[Option.some.injEq,Prod.mk.injEq] at H
         obtain⟨rfl,rfl,rfl⟩:=H
         go_enter Tryz.func45,Tryz.ntmps45
         go_wp2_with (first|((with_reducible refine yb1 (N:=17) rfl ?_);refine Kd.R_lit (Kd.int .u64) _ 63 ?hg (N:=17) ?hd (xs:=([]:List Int)) (inner:=[]) (ok:=fun _=>True) (okp:=fun _=>True) ?hr ?hp (fun _ hk=>hk) trivial (Below.refl _ _) (Nat.le_refl _) (by simp) ?_;(case hd=>rfl);(case hg=>rfl);(case hr=>first|(go_simp;done)|(go_simp;rfl));(case hp=>exact(Reps.none _ _));intro v639 w24 ho25 hb hg_ hnew_;clear hg_ hnew_;(first|rw[← Ny638.out] at ho25|(simp only[Int.reduceToNat] at ho25;rw[← Ny638.out] at ho25));have n0_:=yaa.mk (Kd.R_lower ho25 (yaf zB));have n1_:=yaa.mk (yai zB hb);clear HB;have HO640:=n0_;have HB:=n1_;clear n0_ n1_;clear hb ho25;have p641:0≤(a1:Int):=of_decide_eq_true zA;have q641:a1<(l0.length:Int):=of_decide_eq_true zA;obtain⟨ad641,e641,hx641_0⟩:=Kd.at_int HR0.out a1 p641 q641;cases e641;replace hx641_0:=(HB.out.cell (World.block_lt_of_cell? w _ hx641_0)).trans hx641_0;replace p641:=eq_true p641;replace q641:=eq_true q641;have p642:0≤(a1:Int):=of_decide_eq_true zA;have q642:a1<(l0.length:Int):=of_decide_eq_true zA;obtain⟨ad642,e642,hx642_0⟩:=Kd.at_int HR0.out a1 p642 q642;obtain rfl:ad641=ad642:=(by injection e642);replace hx642_0:=(HB.out.cell (World.block_lt_of_cell? w _ hx642_0)).trans hx642_0;replace p642:=eq_true p642;replace q642:=eq_true q642)|((with_reducible refine yad (f:=43) rfl ?_);refine yak (some 57) rfl rfl Tryz.func43 (by kernel_rfl) rfl #[.slice (some ad641) l0.length c0,.int .i64 (wrap64 (a1+1)),.int .i64 (wrap64 ((wrap64 (a1+1))+(wrap64 (Int.tdiv (wrap64 (a2+7)) 8))))] rfl zE ?_;(with_reducible refine(yag.calls k _ _ l0 (wrap64 (a1+1)) (wrap64 ((wrap64 (a1+1))+(wrap64 (Int.tdiv (wrap64 (a2+7)) 8)))) t646 _ ?side1 ?side2 A19.out).mono ?_);(case side1=>exact zC (Kd.C_below HR0.out HB.out));(case side2=>exact HC0.out);rintro e w26 ⟨v647,rfl,ho0,hb⟩;refine⟨_,rfl,?_⟩;have n0_:=yaa.mk (Kd.R_below (zR HO640.out) hb);have n1_:=yaa.mk (Kd.R_lower ho0 (yaf zB));have n2_:=yaa.mk (yai zB hb);clear HO640;clear HB;have HO640:=n0_;have HO648:=n1_;have HB:=n2_;clear n0_ n1_ n2_;(try clear hb);(try clear hb2);(try clear hk);(try clear hi);(try clear ho0);obtain⟨Ao27,co27,eo27⟩:=Kd.R_slice HO648.out;subst eo27)|((with_reducible refine yad (f:=73) rfl ?_);refine yak (some 59) rfl rfl Tryz.func73 (by kernel_rfl) rfl #[.slice Ao27 t646.length co27,.int .i64 1,.int .i64 a2] rfl zE ?_;(with_reducible refine(yah.calls k _ _ t646 1 a2 t649 t650 _ ?side1 ?side2 A20.out).mono ?_);(case side1=>exact zC (Kd.R_reads' HO648.out).2.2);(case side2=>exact(Kd.R_reads' HO648.out).2.1);rintro e w28 ⟨v651,rfl,ho0,hb⟩;refine⟨_,rfl,?_⟩;have n0_:=yaa.mk (Kd.R_elder' (zR HO640.out) (Kd.R_base ho0) hb);have n1_:=yaa.mk (Kd.R_below (zR HO648.out) hb);have n2_:=yaa.mk (Kd.R_lower (Kd.R_new' ho0 (Kd.R_lt (zR HO640.out))) (yaf zB));have n3_:=yaa.mk (yai zB hb);clear HO640;clear HO648;clear HB;have HO640:=n0_;have HO648:=n1_;have HO652:=n2_;have HB:=n3_;clear n0_ n1_ n2_ n3_;(try clear hb);(try clear hb2);(try clear hk);(try clear hi);(try clear ho0);obtain⟨Ao29,co29,eo29⟩:=Kd.R_slice HO652.out;subst eo29)|((with_reducible refine yad (f:=74) rfl ?_);refine yak (some 66) rfl rfl Tryz.func74 (by kernel_rfl) rfl #[.slice Ao29 t649.length co29] rfl zE ?_;(with_reducible refine(yal.calls k _ _ t649 t653 _ ?side1 ?side2 A22.out).mono ?_);(case side1=>exact zC (Kd.R_reads' HO652.out).2.2);(case side2=>exact(Kd.R_reads' HO652.out).2.1);rintro e w' ⟨rfl,⟨nd,rfl⟩⟩;refine⟨_,rfl,?_⟩))
         go_ret3
         exact⟨_,zG,zN,zB⟩
        ·rw[if_neg c23] at H
         have c23b0:(t653 == 0)=false:=beq_eq_false_iff_ne.mpr c23
         have c23b1:(t653 != 0)=true:=bne_iff_ne.mpr c23
         simp only[Option.some.injEq,Prod.mk.injEq] at H
         obtain⟨rfl,rfl,rfl⟩:=H
         go_enter Tryz.func45,Tryz.ntmps45
         go_wp2_with (first|((with_reducible refine yb1 (N:=17) rfl ?_);refine Kd.R_lit (Kd.int .u64) _ 63 ?hg (N:=17) ?hd (xs:=([]:List Int)) (inner:=[]) (ok:=fun _=>True) (okp:=fun _=>True) ?hr ?hp (fun _ hk=>hk) trivial (Below.refl _ _) (Nat.le_refl _) (by simp) ?_;(case hd=>rfl);(case hg=>rfl);(case hr=>first|(go_simp;done)|(go_simp;rfl));(case hp=>exact(Reps.none _ _));intro v639 w30 ho31 hb hg_ hnew_;clear hg_ hnew_;(first|rw[← Ny638.out] at ho31|(simp only[Int.reduceToNat] at ho31;rw[← Ny638.out] at ho31));have n0_:=yaa.mk (Kd.R_lower ho31 (yaf zB));have n1_:=yaa.mk (yai zB hb);clear HB;have HO640:=n0_;have HB:=n1_;clear n0_ n1_;clear hb ho31;have p641:0≤(a1:Int):=of_decide_eq_true zA;have q641:a1<(l0.length:Int):=of_decide_eq_true zA;obtain⟨ad641,e641,hx641_0⟩:=Kd.at_int HR0.out a1 p641 q641;cases e641;replace hx641_0:=(HB.out.cell (World.block_lt_of_cell? w _ hx641_0)).trans hx641_0;replace p641:=eq_true p641;replace q641:=eq_true q641;have p642:0≤(a1:Int):=of_decide_eq_true zA;have q642:a1<(l0.length:Int):=of_decide_eq_true zA;obtain⟨ad642,e642,hx642_0⟩:=Kd.at_int HR0.out a1 p642 q642;obtain rfl:ad641=ad642:=(by injection e642);replace hx642_0:=(HB.out.cell (World.block_lt_of_cell? w _ hx642_0)).trans hx642_0;replace p642:=eq_true p642;replace q642:=eq_true q642)|((with_reducible refine yad (f:=43) rfl ?_);refine yak (some 57) rfl rfl Tryz.func43 (by kernel_rfl) rfl #[.slice (some ad641) l0.length c0,.int .i64 (wrap64 (a1+1)),.int .i64 (wrap64 ((wrap64 (a1+1))+(wrap64 (Int.tdiv (wrap64 (a2+7)) 8))))] rfl zE ?_;(with_reducible refine(yag.calls k _ _ l0 (wrap64 (a1+1)) (wrap64 ((wrap64 (a1+1))+(wrap64 (Int.tdiv (wrap64 (a2+7)) 8)))) t646 _ ?side1 ?side2 A19.out).mono ?_);(case side1=>exact zC (Kd.C_below HR0.out HB.out));(case side2=>exact HC0.out);rintro e w32 ⟨v647,rfl,ho0,hb⟩;refine⟨_,rfl,?_⟩;have n0_:=yaa.mk (Kd.R_below (zR HO640.out) hb);have n1_:=yaa.mk (Kd.R_lower ho0 (yaf zB));have n2_:=yaa.mk (yai zB hb);clear HO640;clear HB;have HO640:=n0_;have HO648:=n1_;have HB:=n2_;clear n0_ n1_ n2_;(try clear hb);(try clear hb2);(try clear hk);(try clear hi);(try clear ho0);obtain⟨Ao33,co33,eo33⟩:=Kd.R_slice HO648.out;subst eo33)|((with_reducible refine yad (f:=73) rfl ?_);refine yak (some 59) rfl rfl Tryz.func73 (by kernel_rfl) rfl #[.slice Ao33 t646.length co33,.int .i64 1,.int .i64 a2] rfl zE ?_;(with_reducible refine(yah.calls k _ _ t646 1 a2 t649 t650 _ ?side1 ?side2 A20.out).mono ?_);(case side1=>exact zC (Kd.R_reads' HO648.out).2.2);(case side2=>exact(Kd.R_reads' HO648.out).2.1);rintro e w34 ⟨v651,rfl,ho0,hb⟩;refine⟨_,rfl,?_⟩;have n0_:=yaa.mk (Kd.R_elder' (zR HO640.out) (Kd.R_base ho0) hb);have n1_:=yaa.mk (Kd.R_below (zR HO648.out) hb);have n2_:=yaa.mk (Kd.R_lower (Kd.R_new' ho0 (Kd.R_lt (zR HO640.out))) (yaf zB));have n3_:=yaa.mk (yai zB hb);clear HO640;clear HO648;clear HB;have HO640:=n0_;have HO648:=n1_;have HO652:=n2_;have HB:=n3_;clear n0_ n1_ n2_ n3_;(try clear hb);(try clear hb2);(try clear hk);(try clear hi);(try clear ho0);obtain⟨Ao35,co35,eo35⟩:=Kd.R_slice HO652.out;subst eo35)|((with_reducible refine yad (f:=74) rfl ?_);refine yak (some 66) rfl rfl Tryz.func74 (by kernel_rfl) rfl #[.slice Ao35 t649.length co35] rfl zE ?_;(with_reducible refine(yal.calls k _ _ t649 t653 _ ?side1 ?side2 A22.out).mono ?_);(case side1=>exact zC (Kd.R_reads' HO652.out).2.2);(case side2=>exact(Kd.R_reads' HO652.out).2.1);rintro e w' ⟨rfl,⟨nd,rfl⟩⟩;refine⟨_,rfl,?_⟩))
         go_ret3
         exact⟨_,zG,by (with_reducible repeat (first|apply Kd.R_alloc|apply Kd.R_drewN|apply Kd.R_drew));exact Kd.R_mono HO652.out (fun _ hk=>trivial),zB⟩
       ·rw[if_neg c21] at H
        have c21b0:(t650 == 0)=false:=beq_eq_false_iff_ne.mpr c21
        have c21b1:(t650 != 0)=true:=bne_iff_ne.mpr c21
        simp only[Option.some.injEq,Prod.mk.injEq] at H
        obtain⟨rfl,rfl,rfl⟩:=H
        go_enter Tryz.func45,Tryz.ntmps45
        go_wp2_with (first|((with_reducible refine yb1 (N:=17) rfl ?_);refine Kd.R_lit (Kd.int .u64) _ 63 ?hg (N:=17) ?hd (xs:=([]:List Int)) (inner:=[]) (ok:=fun _=>True) (okp:=fun _=>True) ?hr ?hp (fun _ hk=>hk) trivial (Below.refl _ _) (Nat.le_refl _) (by simp) ?_;(case hd=>rfl);(case hg=>rfl);(case hr=>first|(go_simp;done)|(go_simp;rfl));(case hp=>exact(Reps.none _ _));intro v639 w36 ho37 hb hg_ hnew_;clear hg_ hnew_;(first|rw[← Ny638.out] at ho37|(simp only[Int.reduceToNat] at ho37;rw[← Ny638.out] at ho37));have n0_:=yaa.mk (Kd.R_lower ho37 (yaf zB));have n1_:=yaa.mk (yai zB hb);clear HB;have HO640:=n0_;have HB:=n1_;clear n0_ n1_;clear hb ho37;have p641:0≤(a1:Int):=of_decide_eq_true zA;have q641:a1<(l0.length:Int):=of_decide_eq_true zA;obtain⟨ad641,e641,hx641_0⟩:=Kd.at_int HR0.out a1 p641 q641;cases e641;replace hx641_0:=(HB.out.cell (World.block_lt_of_cell? w _ hx641_0)).trans hx641_0;replace p641:=eq_true p641;replace q641:=eq_true q641;have p642:0≤(a1:Int):=of_decide_eq_true zA;have q642:a1<(l0.length:Int):=of_decide_eq_true zA;obtain⟨ad642,e642,hx642_0⟩:=Kd.at_int HR0.out a1 p642 q642;obtain rfl:ad641=ad642:=(by injection e642);replace hx642_0:=(HB.out.cell (World.block_lt_of_cell? w _ hx642_0)).trans hx642_0;replace p642:=eq_true p642;replace q642:=eq_true q642)|((with_reducible refine yad (f:=43) rfl ?_);refine yak (some 57) rfl rfl Tryz.func43 (by kernel_rfl) rfl #[.slice (some ad641) l0.length c0,.int .i64 (wrap64 (a1+1)),.int .i64 (wrap64 ((wrap64 (a1+1))+(wrap64 (Int.tdiv (wrap64 (a2+7)) 8))))] rfl zE ?_;(with_reducible refine(yag.calls k _ _ l0 (wrap64 (a1+1)) (wrap64 ((wrap64 (a1+1))+(wrap64 (Int.tdiv (wrap64 (a2+7)) 8)))) t646 _ ?side1 ?side2 A19.out).mono ?_);(case side1=>exact zC (Kd.C_below HR0.out HB.out));(case side2=>exact HC0.out);rintro e w38 ⟨v647,rfl,ho0,hb⟩;refine⟨_,rfl,?_⟩;have n0_:=yaa.mk (Kd.R_below (zR HO640.out) hb);have n1_:=yaa.mk (Kd.R_lower ho0 (yaf zB));have n2_:=yaa.mk (yai zB hb);clear HO640;clear HB;have HO640:=n0_;have HO648:=n1_;have HB:=n2_;clear n0_ n1_ n2_;(try clear hb);(try clear hb2);(try clear hk);(try clear hi);(try clear ho0);obtain⟨Ao39,co39,eo39⟩:=Kd.R_slice HO648.out;subst eo39)|((with_reducible refine yad (f:=73) rfl ?_);refine yak (some 59) rfl rfl Tryz.func73 (by kernel_rfl) rfl #[.slice Ao39 t646.length co39,.int .i64 1,.int .i64 a2] rfl zE ?_;(with_reducible refine(yah.calls k _ _ t646 1 a2 t649 t650 _ ?side1 ?side2 A20.out).mono ?_);(case side1=>exact zC (Kd.R_reads' HO648.out).2.2);(case side2=>exact(Kd.R_reads' HO648.out).2.1);rintro e w40 ⟨v651,rfl,ho0,hb⟩;refine⟨_,rfl,?_⟩;have n0_:=yaa.mk (Kd.R_elder' (zR HO640.out) (Kd.R_base ho0) hb);have n1_:=yaa.mk (Kd.R_below (zR HO648.out) hb);have n2_:=yaa.mk (Kd.R_lower (Kd.R_new' ho0 (Kd.R_lt (zR HO640.out))) (yaf zB));have n3_:=yaa.mk (yai zB hb);clear HO640;clear HO648;clear HB;have HO640:=n0_;have HO648:=n1_;have HO652:=n2_;have HB:=n3_;clear n0_ n1_ n2_ n3_;(try clear hb);(try clear hb2);(try clear hk);(try clear hi);(try clear ho0)))
        go_ret3
        exact⟨_,zG,zN,zB⟩
   ·rw[if_neg c6] at H
    exact absurd H (by simp)
  ·rw[if_neg c5] at H
   exact absurd H (by simp)
def yc1.f (a0:Int):Option (Int):=if (Int.tmod a0 2)=0 then (some (wrap64 (IntKind.u64.wrap (Int.tdiv a0 2)))) else (some (wrap64 ((wrap64 (-(wrap64 (IntKind.u64.wrap (Int.tdiv a0 2)))))-1)))
theorem yc1.calls (a0:Int) (r:Int) (w:World) (h:yc1.f a0=some r) :
  Calls Tryz.prog 115 #[.int .u64 a0] w fun e w'=>e=.returned (.int .i64 r)∧yap w w':=by
 have H:(if (Int.tmod a0 2)=0 then (some (wrap64 (IntKind.u64.wrap (Int.tdiv a0 2)))) else (some (wrap64 ((wrap64 (-(wrap64 (IntKind.u64.wrap (Int.tdiv a0 2)))))-1))))=some r:=h
 clear h
 by_cases c2:(Int.tmod a0 2)=0
 ·rw[if_pos c2] at H
  have c2b0:((Int.tmod a0 2) == 0)=true:=beq_iff_eq.mpr c2
  have c2b1:((Int.tmod a0 2) != 0)=false:=bne_eq_false_iff_eq.mpr c2
  clear c2
  obtain rfl:=Option.some.inj H
  go_enter Tryz.func115,Tryz.ntmps115
  go_wp2
  go_ret
  exact⟨zF,zD⟩
 ·rw[if_neg c2] at H
  have c2b0:((Int.tmod a0 2) == 0)=false:=beq_eq_false_iff_ne.mpr c2
  have c2b1:((Int.tmod a0 2) != 0)=true:=bne_iff_ne.mpr c2
  obtain rfl:=Option.some.inj H
  go_enter Tryz.func115,Tryz.ntmps115
  go_wp2
  go_ret
  exact⟨zF,zD⟩
end Go.Proofs.YteeikgjjgfdjgaaGreat.PK
end
section
namespace Go.Proofs.YteeikgjjgfdjgaaGreat.PK
open Go.RowKit YteeikgjjgfdjgaaGreatW.PrintWords YteeikgjjgfdjgaaGreatW.PrintLast YteeikgjjgfdjgaaGreatW.PrintMore
attribute [local go_sem] yce ycf ycu ycv yb8 yb7 ycm yco
set_option linter.unusedVariables false
set_option linter.unusedSimpArgs false
def yeb.f (k:Nat) (l0:List Int) (a1:Int):Option (List Int×Int×Int):=(yac.f k l0 a1).bind fun bt719=>(if bt719.2.2=0 then (if bt719.1 > 200 then (some (([]:List Int),0,4)) else (if bt719.1 > (IntKind.u64.wrap (wrap64 ((l0.length:Int)-bt719.2.1))) then (some (([]:List Int),0,2)) else ((yag.f k l0 bt719.2.1 (wrap64 (bt719.2.1+(wrap64 (bt719.1))))).bind fun t722=>(some (t722,wrap64 (bt719.2.1+(wrap64 (bt719.1))),0))))) else (some (([]:List Int),0,bt719.2.2)))
theorem yeb.calls (k:Nat) (A0:Option Addr) (c0:Nat) (l0:List Int) (a1:Int) (r1:List Int) (r2:Int) (r3:Int) (w:World) (hr0:Kd.C (Kd.int .u8) w A0 l0.length l0) (hc0:l0.length≤c0) (h:yeb.f k l0 a1=some (r1,r2,r3)) :
  Calls Tryz.prog 117 #[.slice A0 l0.length c0,.int .i64 a1] w fun e w'=>∃ v0_:Value,e=.returned (.tuple #[v0_,.int .i64 r2,.int .i64 r3])∧Kd.R (Kd.int .u8) 5 w' w.heap.size (fun _=>True) v0_ r1∧Below w.heap.size w w':=by
 have HR0:=yaa.mk hr0
 have HC0:=yaa.mk hc0
 clear hr0 hc0
 have HB:=yaa.mk (Below.refl w.heap.size w)
 have H:((yac.f k l0 a1).bind fun bt719=>(if bt719.2.2=0 then (if bt719.1 > 200 then (some (([]:List Int),0,4)) else (if bt719.1 > (IntKind.u64.wrap (wrap64 ((l0.length:Int)-bt719.2.1))) then (some (([]:List Int),0,2)) else ((yag.f k l0 bt719.2.1 (wrap64 (bt719.2.1+(wrap64 (bt719.1))))).bind fun t722=>(some (t722,wrap64 (bt719.2.1+(wrap64 (bt719.1))),0))))) else (some (([]:List Int),0,bt719.2.2))))=some (r1,r2,r3):=h
 clear h
 replace H:=Option.bind_eq_some_iff.mp H
 obtain⟨⟨t719,t720,t721⟩,A30,H⟩:=H
 try dsimp only at H
 have A3:=yaa.mk A30
 clear A30
 by_cases c4:t721=0
 ·rw[if_pos c4] at H
  have c4b0:(t721 == 0)=true:=beq_iff_eq.mpr c4
  have c4b1:(t721 != 0)=false:=bne_eq_false_iff_eq.mpr c4
  clear c4
  by_cases c5:t719 > 200
  ·rw[if_pos c5] at H
   have c5b0:decide (200<t719)=true:=decide_eq_true c5
   clear c5
   simp only[Option.some.injEq,Prod.mk.injEq] at H
   obtain⟨rfl,rfl,rfl⟩:=H
   go_enter Tryz.func117,Tryz.ntmps117
   go_wp2_with (first|((with_reducible refine yad (f:=44) rfl ?_);refine yak (some 13) rfl rfl Tryz.func44 (by kernel_rfl) rfl #[.slice A0 l0.length c0,.int .i64 a1] rfl zE ?_;(with_reducible refine(yac.calls k _ _ l0 a1 t719 t720 t721 _ ?side1 ?side2 A3.out).mono ?_);(case side1=>exact zC HR0.out);(case side2=>exact HC0.out);rintro e w' ⟨rfl,⟨nd,rfl⟩⟩;refine⟨_,rfl,?_⟩))
   go_ret3
   exact⟨_,zG,zN,zB⟩
  ·rw[if_neg c5] at H
   have c5b0:decide (200<t719)=false:=decide_eq_false c5
   clear c5
   by_cases c6:t719 > (IntKind.u64.wrap (wrap64 ((l0.length:Int)-t720)))
   ·rw[if_pos c6] at H
    have c6b0:decide ((IntKind.u64.wrap (wrap64 ((l0.length:Int)-t720)))<t719)=true:=decide_eq_true c6
    clear c6
    simp only[Option.some.injEq,Prod.mk.injEq] at H
    obtain⟨rfl,rfl,rfl⟩:=H
    go_enter Tryz.func117,Tryz.ntmps117
    go_wp2_with (first|((with_reducible refine yad (f:=44) rfl ?_);refine yak (some 13) rfl rfl Tryz.func44 (by kernel_rfl) rfl #[.slice A0 l0.length c0,.int .i64 a1] rfl zE ?_;(with_reducible refine(yac.calls k _ _ l0 a1 t719 t720 t721 _ ?side1 ?side2 A3.out).mono ?_);(case side1=>exact zC HR0.out);(case side2=>exact HC0.out);rintro e w' ⟨rfl,⟨nd,rfl⟩⟩;refine⟨_,rfl,?_⟩))
    go_ret3
    exact⟨_,zG,zN,zB⟩
   ·rw[if_neg c6] at H
    have c6b0:decide ((IntKind.u64.wrap (wrap64 ((l0.length:Int)-t720)))<t719)=false:=decide_eq_false c6
    clear c6
    replace H:=Option.bind_eq_some_iff.mp H
    obtain⟨t722,A70,H⟩:=H
    try dsimp only at H
    have A7:=yaa.mk A70
    clear A70
    simp only[Option.some.injEq,Prod.mk.injEq] at H
    obtain⟨rfl,rfl,rfl⟩:=H
    go_enter Tryz.func117,Tryz.ntmps117
    go_wp2_with (first|((with_reducible refine yad (f:=44) rfl ?_);refine yak (some 13) rfl rfl Tryz.func44 (by kernel_rfl) rfl #[.slice A0 l0.length c0,.int .i64 a1] rfl zE ?_;(with_reducible refine(yac.calls k _ _ l0 a1 t719 t720 t721 _ ?side1 ?side2 A3.out).mono ?_);(case side1=>exact zC HR0.out);(case side2=>exact HC0.out);rintro e w' ⟨rfl,⟨nd,rfl⟩⟩;refine⟨_,rfl,?_⟩)|((with_reducible refine yad (f:=43) rfl ?_);refine yak (some 35) rfl rfl Tryz.func43 (by kernel_rfl) rfl #[.slice A0 l0.length c0,.int .i64 t720,.int .i64 (wrap64 (t720+(wrap64 (t719))))] rfl zE ?_;(with_reducible refine(yag.calls k _ _ l0 t720 (wrap64 (t720+(wrap64 (t719)))) t722 _ ?side1 ?side2 A7.out).mono ?_);(case side1=>exact zC HR0.out);(case side2=>exact HC0.out);rintro e w8 ⟨v723,rfl,ho0,hb⟩;refine⟨_,rfl,?_⟩;have n0_:=yaa.mk (Kd.R_lower ho0 (yaf zB));have n1_:=yaa.mk (yai zB hb);clear HB;have HO724:=n0_;have HB:=n1_;clear n0_ n1_;(try clear hb);(try clear hb2);(try clear hk);(try clear hi);(try clear ho0)))
    go_ret3
    exact⟨_,zG,zR HO724.out,zB⟩
 ·rw[if_neg c4] at H
  have c4b0:(t721 == 0)=false:=beq_eq_false_iff_ne.mpr c4
  have c4b1:(t721 != 0)=true:=bne_iff_ne.mpr c4
  simp only[Option.some.injEq,Prod.mk.injEq] at H
  obtain⟨rfl,rfl,rfl⟩:=H
  go_enter Tryz.func117,Tryz.ntmps117
  go_wp2_with (first|((with_reducible refine yad (f:=44) rfl ?_);refine yak (some 13) rfl rfl Tryz.func44 (by kernel_rfl) rfl #[.slice A0 l0.length c0,.int .i64 a1] rfl zE ?_;(with_reducible refine(yac.calls k _ _ l0 a1 t719 t720 t721 _ ?side1 ?side2 A3.out).mono ?_);(case side1=>exact zC HR0.out);(case side2=>exact HC0.out);rintro e w' ⟨rfl,⟨nd,rfl⟩⟩;refine⟨_,rfl,?_⟩))
  go_ret3
  exact⟨_,zG,zN,zB⟩
mutual
def yao.l0:Nat→List (List Int)→List Int→List (List Int)→List Bool→Int→Option ((List (List Int))×Int)
 | 0,_,_,_,_,_=>none
 | k+1,x0,x1,x6,x7,x8=>if x8<(x0.length:Int) then (if x7.length<140737488355328 then (yao.l0 k x0 x1 x6 (x7++[false]) (wrap64 (x8+1))) else (none)) else (yao.l1 k x0 x1 x6 x7 0)
def yao.l1:Nat→List (List Int)→List Int→List (List Int)→List Bool→Int→Option ((List (List Int))×Int)
 | 0,_,_,_,_,_=>none
 | k+1,x0,x1,x6,x7,x9=>if x9<(x1.length:Int) then (if 0≤x9 then (if (rd x1 x9)≥(IntKind.u64.wrap ((x0.length:Int))) then (some (([]:List (List Int)),5)) else (if 0≤(rd x1 x9) then (if (rd x1 x9)<(x7.length:Int) then (if (rd x1 x9)<(x0.length:Int) then ((yay.f k (ydn x0 (rd x1 x9))).bind fun t747=>(if x6.length<5864062014805 then (yao.l1 k x0 x1 (x6++[t747]) (x7.set ((rd x1 x9):Int).toNat true) (wrap64 (x9+1))) else (none))) else (none)) else (none)) else (none))) else (none)) else (yao.l2 k x6 x7 0)
def yao.l2:Nat→List (List Int)→List Bool→Int→Option ((List (List Int))×Int)
 | 0,_,_,_=>none
 | k+1,x6,x7,x10=>if x10<(x7.length:Int) then (if 0≤x10 then (if rdOf false x7 x10=true then (yao.l2 k x6 x7 (wrap64 (x10+1))) else (some (([]:List (List Int)),5))) else (none)) else (some (x6,0))
end
def yao.f (k:Nat) (l0:List (List Int)) (l1:List Int):Option ((List (List Int))×Int):=yao.l0 k l0 l1 (([]:List (List Int))) (([]:List Bool)) 0
theorem yao.calls (k:Nat) (A0:Option Addr) (c0:Nat) (l0:List (List Int)) (A1:Option Addr) (c1:Nat) (l1:List Int) (r1:List (List Int)) (r2:Int) (w:World) (hr0:Kd.C (Kd.slice 5 (Kd.int .u8)) w A0 l0.length l0) (hc0:l0.length≤c0) (hr1:Kd.C (Kd.int .u64) w A1 l1.length l1) (hc1:l1.length≤c1) (h:yao.f k l0 l1=some (r1,r2)) :
  Calls Tryz.prog 120 #[.slice A0 l0.length c0,.slice A1 l1.length c1] w fun e w'=>∃ v0_:Value,e=.returned (.tuple #[v0_,.int .i64 r2])∧Kd.S (Kd.slice 5 (Kd.int .u8)) 25 w' w.heap.size (fun _=>True) v0_ r1∧Below w.heap.size w w':=by
 have HR0:=yaa.mk hr0
 have HC0:=yaa.mk hc0
 clear hr0 hc0
 have HR1:=yaa.mk hr1
 have HC1:=yaa.mk hc1
 clear hr1 hc1
 have HB:=yaa.mk (Below.refl w.heap.size w)
 have H:(yao.l0 k l0 l1 (([]:List (List Int))) (([]:List Bool)) 0)=some (r1,r2):=h
 clear h
 obtain⟨y733,hy733⟩:∃ y_:List (List Int),y_=(([]:List (List Int))):=⟨_,rfl⟩
 replace H:(yao.l0 k l0 l1 y733 (([]:List Bool)) 0)=some (r1,r2):=by first|(rw[hy733];with_reducible exact H)|(have H2_:=(Option.bind_some _ _).symm.trans H;rw[hy733];with_reducible exact H2_)|(have H2_:=(Option.bind_some _ _).symm.trans H;with_reducible exact H2_)|with_reducible exact H|(rw[hy733];exact H)|exact H
 have Ny733:=yaa.mk hy733
 clear hy733
 obtain⟨y736,hy736⟩:∃ y_:List Bool,y_=(([]:List Bool)):=⟨_,rfl⟩
 replace H:(yao.l0 k l0 l1 y733 y736 0)=some (r1,r2):=by first|(rw[hy736];with_reducible exact H)|(have H2_:=(Option.bind_some _ _).symm.trans H;rw[hy736];with_reducible exact H2_)|(have H2_:=(Option.bind_some _ _).symm.trans H;with_reducible exact H2_)|with_reducible exact H|(rw[hy736];exact H)|exact H
 have Ny736:=yaa.mk hy736
 clear hy736
 have H':=yaa.mk H
 clear H
 go_enter Tryz.func120,Tryz.ntmps120
 go_wp2_with (first|((with_reducible refine yb1 (N:=11) rfl ?_);refine Kd.S_lit (Kd.slice 5 (Kd.int .u8)) _ 25 ?hg (N:=11) ?hd (xs:=([]:List (List Int))) (inner:=[]) (ok:=fun _=>True) (okp:=fun _=>True) ?hr ?hp (fun _ hk=>hk) trivial (Below.refl _ _) (Nat.le_refl _) (by simp) ?_;(case hd=>rfl);(case hg=>rfl);(case hr=>first|(go_simp;done)|(go_simp;rfl));(case hp=>exact(Reps.none _ _));intro v734 w3 ho4 hb hg_ hnew_;clear hg_ hnew_;(first|rw[← Ny733.out] at ho4|(simp only[Int.reduceToNat] at ho4;rw[← Ny733.out] at ho4));have n0_:=yaa.mk (Kd.S_lower ho4 (yaf zB));have n1_:=yaa.mk (yai zB hb);clear HB;have HO735:=n0_;have HB:=n1_;clear n0_ n1_;clear hb ho4)|((with_reducible refine yb1 (N:=12) rfl ?_);refine Kd.R_lit Kd.bool _ 4 ?hg (N:=12) ?hd (xs:=([]:List Bool)) (inner:=[]) (ok:=fun _=>True) (okp:=fun _=>True) ?hr ?hp (fun _ hk=>hk) trivial (Below.refl _ _) (Nat.le_refl _) (by simp) ?_;(case hd=>rfl);(case hg=>rfl);(case hr=>first|(go_simp;done)|(go_simp;rfl));(case hp=>exact(Reps.none _ _));intro v737 w5 ho6 hb hg_ hnew_;clear hg_ hnew_;(first|rw[← Ny736.out] at ho6|(simp only[Int.reduceToNat] at ho6;rw[← Ny736.out] at ho6));have n0_:=yaa.mk (Kd.S_below (zS HO735.out) hb);have n1_:=yaa.mk (Kd.R_lower ho6 (yaf zB));have n2_:=yaa.mk (yai zB hb);clear HO735;clear HB;have HO735:=n0_;have HO738:=n1_;have HB:=n2_;clear n0_ n1_ n2_;clear hb ho6))
 go_loopg [7,8] k (fun kq v7 v8 w'=>∃ (x7_1:List Bool) (x8_1:Int),v8=.int .i64 x8_1∧yaa (yao.l0 kq l0 l1 y733 x7_1 x8_1=some (r1,r2))∧yaa (kq≤k)∧yaa (Kd.S (Kd.slice 5 (Kd.int .u8)) 25 w' w.heap.size (fun _=>True) v734 y733)∧yaa (Kd.R Kd.bool 4 w' w.heap.size (fun _=>True) v7 x7_1)∧yaa (Below w.heap.size w w'))
 case atStart=>exact⟨(y736),(0),zF,H',⟨Nat.le_refl _⟩,⟨zS HO735.out⟩,⟨zR HO738.out⟩,⟨zB⟩⟩
 case round =>
  clear H'
  try clear c1
  try clear p2
  obtain⟨x7_1,x8_1,rfl,HA,HK1,HO_6,HO_7,HB⟩:=hrel
  cases gk with
  | zero=>exact absurd HA.out (by simp [yao.l0])
  | succ k1 =>
   have H:=HA.out
   clear HA
   simp only[yao.l0] at H
   by_cases c7:x8_1<(l0.length:Int)
   ·rw[if_pos c7] at H
    have c7b0:=decide_eq_true c7
    clear c7
    by_cases c8:x7_1.length<140737488355328
    ·rw[if_pos c8] at H
     have LMc8:=yaa.mk c8
     clear c8
     obtain⟨y739,hy739⟩:∃ y_:List Bool,y_=(x7_1++[false]):=⟨_,rfl⟩
     replace H:(yao.l0 k1 l0 l1 y733 y739 (wrap64 (x8_1+1)))=some (r1,r2):=by first|(rw[hy739];with_reducible exact H)|(have H2_:=(Option.bind_some _ _).symm.trans H;rw[hy739];with_reducible exact H2_)|(have H2_:=(Option.bind_some _ _).symm.trans H;with_reducible exact H2_)|with_reducible exact H|(rw[hy739];exact H)|exact H
     have Ny739:=yaa.mk hy739
     clear hy739
     have H':=yaa.mk H
     clear H
     go_wp2_with (first|((with_reducible refine ybm (b:=.append) (xs:=#[.tmp 19,.tmp 20]) rfl ?_);at_builtin;refine Kd.R_append Kd.bool (w0:=w) w.heap.size rfl (.tmp 19) (.tmp 20) 163 4 (.bool false) 1 rfl Tryz.underlying163 info4 rfl (by decide) (by omega) u7 x7_1 false [.bool false] (fun _=>True) (fun _=>False) rfl rfl ?aP (fun _ hk=>hk.elim) ?aF ?aO ?aB ?aS ?aL ?_;(case aP=>exact rfl);(case aB=>exact zB);(case aF=>exact fun _ _=>trivial);(case aO=>exact(zR HO_7.out));(case aS=>exact(yaf zB));(case aL=>have:=LMc8.out;omega);intro v740 w9 ho hb hg hat;rw[← Ny739.out] at ho;have n0_:=yaa.mk (Kd.S_over' (zS HO_6.out) (Kd.R_typed (zR HO_7.out)) (by decide) hg);have n1_:=yaa.mk (hb);have n2_:=yaa.mk (ho);clear HO_6;clear HB;clear HO_7;have HO_6:=n0_;have HB:=n1_;have HO741:=n2_;clear n0_ n1_ n2_;clear ho hb hg hat))
     go_roundg k1
     case measure=>have:=HK1.out;omega
     case rel=>exact⟨(y739),(wrap64 (x8_1+1)),zF,H',⟨by have:=HK1.out;omega⟩,⟨zS HO_6.out⟩,⟨zR HO741.out⟩,⟨zB⟩⟩
    ·rw[if_neg c8] at H
     exact absurd H (by simp)
   ·rw[if_neg c7] at H
    have c7b0:=decide_eq_false c7
    clear c7
    have H':=yaa.mk H
    clear H
    go_wp2
    go_loopg [6,9] k1 (fun kq v6 v9 w'=>∃ (x6_2:List (List Int)) (x7_2:List Bool) (x9_2:Int),v9=.int .i64 x9_2∧yaa (yao.l1 kq l0 l1 x6_2 x7_2 x9_2=some (r1,r2))∧yaa (kq≤k1)∧yaa (Kd.S (Kd.slice 5 (Kd.int .u8)) 25 w' w.heap.size (fun _=>True) v6 x6_2)∧yaa (Kd.R Kd.bool 4 w' w.heap.size (fun _=>True) u7 x7_2)∧yaa (Below w.heap.size w w'))
    case atStart=>exact⟨(y733),(x7_1),(0),zF,H',⟨Nat.le_refl _⟩,⟨zS HO_6.out⟩,⟨zR HO_7.out⟩,⟨zB⟩⟩
    case round =>
     clear H'
     try clear c1
     try clear p2
     try clear p6
     try clear c7
     try clear c7b0
     try clear c8
     try clear p2
     obtain⟨x6_2,x7_2,x9_2,rfl,HA,HK2,HO_6,HO_7,HB⟩:=hrel
     cases gk with
     | zero=>exact absurd HA.out (by simp [yao.l1])
     | succ k2 =>
      have H:=HA.out
      clear HA
      simp only[yao.l1] at H
      by_cases c10:x9_2<(l1.length:Int)
      ·rw[if_pos c10] at H
       have c10b0:=decide_eq_true c10
       clear c10
       by_cases c11:0≤x9_2
       ·rw[if_pos c11] at H
        have c11b0:=decide_eq_true c11
        clear c11
        by_cases c12:(rd l1 x9_2)≥(IntKind.u64.wrap ((l0.length:Int)))
        ·rw[if_pos c12] at H
         have c12b0:decide ((IntKind.u64.wrap ((l0.length:Int)))≤(rd l1 x9_2))=true:=decide_eq_true c12
         clear c12
         simp only[Option.some.injEq,Prod.mk.injEq] at H
         obtain⟨rfl,rfl⟩:=H
         have p742:0≤(x9_2:Int):=of_decide_eq_true zA
         have q742:x9_2<(l1.length:Int):=of_decide_eq_true zA
         obtain⟨ad742,e742,hx742_0⟩:=Kd.at_int HR1.out x9_2 p742 q742
         cases e742
         replace hx742_0:=(HB.out.cell (World.block_lt_of_cell? w _ hx742_0)).trans hx742_0
         replace p742:=eq_true p742
         replace q742:=eq_true q742
         go_wp2
         go_ret2
         exact⟨_,zG,by first|exact Kd.S_nil _ _ _ _ _|exact Kd.N_nil _ _ _ _ _|exact Kd.V_nil _ _ _ _ _|exact Kd.Q_nil _ _ _ _ _|exact Kd.R_nil _ _ _ _ _,zB⟩
        ·rw[if_neg c12] at H
         have c12b0:decide ((IntKind.u64.wrap ((l0.length:Int)))≤(rd l1 x9_2))=false:=decide_eq_false c12
         clear c12
         by_cases c13:0≤(rd l1 x9_2)
         ·rw[if_pos c13] at H
          have c13b0:=decide_eq_true c13
          clear c13
          by_cases c14:(rd l1 x9_2)<(x7_2.length:Int)
          ·rw[if_pos c14] at H
           have c14b0:=decide_eq_true c14
           clear c14
           obtain⟨y744,hy744⟩:∃ y_:List Bool,y_=(x7_2.set ((rd l1 x9_2):Int).toNat true):=⟨_,rfl⟩
           replace H:(if (rd l1 x9_2)<(l0.length:Int) then ((yay.f k2 (ydn l0 (rd l1 x9_2))).bind fun t747=>(if x6_2.length<5864062014805 then (yao.l1 k2 l0 l1 (x6_2++[t747]) y744 (wrap64 (x9_2+1))) else (none))) else (none))=some (r1,r2):=by first|(rw[hy744];with_reducible exact H)|(have H2_:=(Option.bind_some _ _).symm.trans H;rw[hy744];with_reducible exact H2_)|(have H2_:=(Option.bind_some _ _).symm.trans H;with_reducible exact H2_)|with_reducible exact H|(rw[hy744];exact H)|exact H
           have Ny744:=yaa.mk hy744
           clear hy744
           by_cases c16:(rd l1 x9_2)<(l0.length:Int)
           ·rw[if_pos c16] at H
            have c16b0:=decide_eq_true c16
            clear c16
            replace H:=Option.bind_eq_some_iff.mp H
            obtain⟨t747,A170,H⟩:=H
            try dsimp only at H
            have A17:=yaa.mk A170
            clear A170
            by_cases c18:x6_2.length<5864062014805
            ·rw[if_pos c18] at H
             have LMc18:=yaa.mk c18
             clear c18
             obtain⟨y750,hy750⟩:∃ y_:List (List Int),y_=(x6_2++[t747]):=⟨_,rfl⟩
             replace H:(yao.l1 k2 l0 l1 y750 y744 (wrap64 (x9_2+1)))=some (r1,r2):=by first|(rw[hy750];with_reducible exact H)|(have H2_:=(Option.bind_some _ _).symm.trans H;rw[hy750];with_reducible exact H2_)|(have H2_:=(Option.bind_some _ _).symm.trans H;with_reducible exact H2_)|with_reducible exact H|(rw[hy750];exact H)|exact H
             have Ny750:=yaa.mk hy750
             clear hy750
             have H':=yaa.mk H
             clear H
             have p742:0≤(x9_2:Int):=of_decide_eq_true zA
             have q742:x9_2<(l1.length:Int):=of_decide_eq_true zA
             obtain⟨ad742,e742,hx742_0⟩:=Kd.at_int HR1.out x9_2 p742 q742
             cases e742
             replace hx742_0:=(HB.out.cell (World.block_lt_of_cell? w _ hx742_0)).trans hx742_0
             replace p742:=eq_true p742
             replace q742:=eq_true q742
             have p743:0≤(x9_2:Int):=of_decide_eq_true zA
             have q743:x9_2<(l1.length:Int):=of_decide_eq_true zA
             obtain⟨ad743,e743,hx743_0⟩:=Kd.at_int HR1.out x9_2 p743 q743
             obtain rfl:ad742=ad743:=(by injection e743)
             replace hx743_0:=(HB.out.cell (World.block_lt_of_cell? w _ hx743_0)).trans hx743_0
             replace p743:=eq_true p743
             replace q743:=eq_true q743
             have p15:0≤((rd l1 x9_2):Int):=of_decide_eq_true zA
             have q15:((rd l1 x9_2):Int)<((x7_2.length:Int):Int):=of_decide_eq_true zA
             obtain⟨go15,co15,eo15,gb15,gl15,cl15,HG15⟩:=Kd.R_form HO_7.out (by omega)
             (first|cases eo15|(injection eo15 with ea_ en_ ec_;(first|subst ea_|(injection ea_ with ea_;subst ea_));subst ec_;clear en_))
             have GB15:=yaa.mk gb15
             have GG15:=yaa.mk HG15
             clear gb15 gl15 HG15
             obtain⟨hx15_0,hf15_0⟩:=Kd.R_celln false HO_7.out ((rd l1 x9_2):Int) p15 q15
             replace p15:=eq_true p15
             replace q15:=eq_true q15
             have HP19:=Kd.R_putg HO_7.out ((rd l1 x9_2):Int) true
             go_wp2_with (first|((with_reducible refine yfu (t:=4) (p:=41) rfl ?_);refine yfc (t:=4) (p:=41) (v:=?vo_w20) (w1:=(wr.setCell ⟨go15,((rd l1 x9_2):Int).toNat,none⟩ (.bool true))) ?hg ?ho ?hn ?hr ?_;(case ho=>rfl);(case hg=>rfl);(case hn=>rfl);(case hr=>first|(go_simp;done)|(go_simp;rfl));intro w20 hw;have hg:wr.grownBy w20 (some go15):=(by rw[hw];exact HP19.2);have hp_:Kd.R Kd.bool 4 w20 w.heap.size (fun _=>True) (.slice (some ⟨go15,0,none⟩) x7_2.length co15) y744:=(by rw[hw,Ny744.out];exact HP19.1);clear HP19;have n0_:=yaa.mk (Kd.S_over' (v:=(.slice (some ⟨go15,0,none⟩) x7_2.length co15)) (zS HO_6.out) (Kd.R_typed HO_7.out) (by decide) hg);have n1_:=yaa.mk (hp_);have n2_:=yaa.mk ((by rw[hw];exact yga (HB.out) GB15.out:Below w.heap.size w w20));clear HO_6;clear HO_7;clear HB;have HO_6:=n0_;have HO_7:=n1_;have HB:=n2_;clear n0_ n1_ n2_;clear hg hw hp_;have p745:0≤(x9_2:Int):=of_decide_eq_true zA;have q745:x9_2<(l1.length:Int):=of_decide_eq_true zA;obtain⟨ad745,e745,hx745_0⟩:=Kd.at_int HR1.out x9_2 p745 q745;obtain rfl:ad742=ad745:=(by injection e745);replace hx745_0:=(HB.out.cell (World.block_lt_of_cell? w _ hx745_0)).trans hx745_0;replace p745:=eq_true p745;replace q745:=eq_true q745;have p746:0≤((rd l1 x9_2):Int):=of_decide_eq_true zA;have q746:(rd l1 x9_2)<(l0.length:Int):=of_decide_eq_true zA;obtain⟨ad746,A746_0,c746_0,e746,hx746_0,hl746_0,hi746_0⟩:=yhl HR0.out (rd l1 x9_2) p746 q746;cases e746;replace hx746_0:=(HB.out.cell (World.block_lt_of_cell? w _ hx746_0)).trans hx746_0;have HR746_0:=yaa.mk hi746_0;have HC746_0:=yaa.mk hl746_0;clear hi746_0 hl746_0;replace p746:=eq_true p746;replace q746:=eq_true q746)|((with_reducible refine yad (f:=24) rfl ?_);refine yak (some 50) rfl rfl Tryz.func24 (by kernel_rfl) rfl #[.slice A746_0 (ydn l0 (rd l1 x9_2)).length c746_0] rfl zE ?_;(with_reducible refine(yay.calls k2 _ _ (ydn l0 (rd l1 x9_2)) t747 _ ?side1 ?side2 A17.out).mono ?_);(case side1=>exact zC (Kd.C_below HR746_0.out HB.out));(case side2=>exact HC746_0.out);rintro e w21 ⟨v748,rfl,ho0,hb⟩;refine⟨_,rfl,?_⟩;have n0_:=yaa.mk (Kd.S_elder' (zS HO_6.out) (Kd.R_base ho0) hb);have n1_:=yaa.mk (Kd.R_below (zR HO_7.out) hb);have n2_:=yaa.mk (Kd.R_lower ho0 (yaf zB));have n3_:=yaa.mk (yai zB hb);clear HO_6;clear HO_7;clear HB;have HO_6:=n0_;have HO_7:=n1_;have HO749:=n2_;have HB:=n3_;clear n0_ n1_ n2_ n3_;(try clear hb);(try clear hb2);(try clear hk);(try clear hi);(try clear ho0);obtain⟨Ao23,co23,eo23⟩:=Kd.R_slice HO749.out;subst eo23)|((with_reducible refine ybm (b:=.append) (xs:=#[.tmp 42,.tmp 51]) rfl ?_);at_builtin;refine Kd.S_append (Kd.slice 5 (Kd.int .u8)) (w0:=w) w.heap.size rfl (.tmp 42) (.tmp 51) 46 25 (.slice none 0 0) 24 rfl Tryz.underlying46 ygm rfl (by decide) (by omega) u6 x6_2 t747 [.slice Ao23 t747.length co23] (fun _=>True) (fun k_=>some k_=(.slice Ao23 t747.length co23:Value).ownBlock) rfl rfl ?aP (fun k_ hk_=>((Kd.R_mono (ok':=fun k_=>((fun _=>True)) k_∧some k_≠(u6:Value).ownBlock) (Kd.R_apart' (HO749.out) (Kd.S_typed HO_6.out) (by decide)) (fun k_ hk=>⟨trivial,hk.2⟩))).1 k_ hk_.symm) ?aF ?aO ?aB ?aS ?aL ?_;(case aP=>exact Kd.M_row (Kd.R_mono (Kd.R_tight rfl (Kd.R_mono (ok':=fun k_=>((fun _=>True)) k_∧some k_≠(u6:Value).ownBlock) (Kd.R_apart' (HO749.out) (Kd.S_typed HO_6.out) (by decide)) (fun k_ hk=>⟨trivial,hk.2⟩))) (fun _ h_=>h_)));(case aB=>exact zB);(case aF=>exact fun _ _=>trivial);(case aO=>exact(by (with_reducible repeat (first|apply Kd.S_alloc|apply Kd.S_drewN|apply Kd.S_drew));exact Kd.S_mono HO_6.out (fun k_ hk=>⟨trivial,fun e_=>hk.2 e_⟩)));(case aS=>exact(yaf zB));(case aL=>have:=LMc18.out;omega);intro v751 w22 ho hb hg hat;rw[← Ny750.out] at ho;have n0_:=yaa.mk (Kd.R_over' (zR HO_7.out) (Kd.S_typed (zS HO_6.out)) (by decide) hg);have n1_:=yaa.mk (hb);have n2_:=yaa.mk (ho);clear HO_7;clear HB;clear HO_6;clear HO749;have HO_7:=n0_;have HB:=n1_;have HO752:=n2_;clear n0_ n1_ n2_;clear ho hb hg hat))
             go_roundg k2
             case measure=>have:=HK1.out;have:=HK2.out;omega
             case rel=>exact⟨(y750),(y744),(wrap64 (x9_2+1)),zF,H',⟨by have:=HK1.out;have:=HK2.out;omega⟩,⟨zS HO752.out⟩,⟨zR HO_7.out⟩,⟨zB⟩⟩
            ·rw[if_neg c18] at H
             exact absurd H (by simp)
           ·rw[if_neg c16] at H
            exact absurd H (by simp)
          ·rw[if_neg c14] at H
           exact absurd H (by simp)
         ·rw[if_neg c13] at H
          exact absurd H (by simp)
       ·rw[if_neg c11] at H
        exact absurd H (by simp)
      ·rw[if_neg c10] at H
       have c10b0:=decide_eq_false c10
       clear c10
       have H':=yaa.mk H
       clear H
       go_wp2
       go_loopg [10] k2 (fun kq v10 w'=>∃ (x10_3:Int),v10=.int .i64 x10_3∧yaa (yao.l2 kq x6_2 x7_2 x10_3=some (r1,r2))∧yaa (kq≤k2)∧yaa (Kd.S (Kd.slice 5 (Kd.int .u8)) 25 w' w.heap.size (fun _=>True) u6 x6_2)∧yaa (Kd.R Kd.bool 4 w' w.heap.size (fun _=>True) u7 x7_2)∧yaa (Below w.heap.size w w'))
       case atStart=>exact⟨(0),zF,H',⟨Nat.le_refl _⟩,⟨zS HO_6.out⟩,⟨zR HO_7.out⟩,⟨zB⟩⟩
       case round =>
        clear H'
        try clear c1
        try clear p1
        try clear q1
        try clear hx1
        try clear c2
        try clear p2
        try clear p6
        try clear c7
        try clear c7b0
        try clear p7
        try clear q7
        try clear hx7
        try clear c8
        try clear c10
        try clear c10b0
        try clear c11
        try clear c11b0
        try clear c12
        try clear c12b0
        try clear c13
        try clear c13b0
        try clear c14
        try clear c14b0
        try clear p15
        try clear q15
        try clear hx15
        try clear hf15
        try clear c16
        try clear c16b0
        try clear c18
        try clear hx15_0
        try clear hx742_0
        try clear hx743_0
        try clear hx745_0
        try clear hx746_0
        try clear p15
        try clear p2
        try clear p6
        try clear p742
        try clear p743
        try clear p745
        try clear p746
        try clear q15
        try clear q742
        try clear q743
        try clear q745
        try clear q746
        obtain⟨x10_3,rfl,HA,HK3,HO_6,HO_7,HB⟩:=hrel
        cases gk with
        | zero=>exact absurd HA.out (by simp [yao.l2])
        | succ k3 =>
         have H:=HA.out
         clear HA
         simp only[yao.l2] at H
         by_cases c24:x10_3<(x7_2.length:Int)
         ·rw[if_pos c24] at H
          have c24b0:=decide_eq_true c24
          clear c24
          by_cases c25:0≤x10_3
          ·rw[if_pos c25] at H
           have c25b0:=decide_eq_true c25
           clear c25
           obtain⟨bq26,hbq26⟩:∃ b_:Bool,b_=(rdOf false x7_2 x10_3):=⟨_,rfl⟩
           replace H:(if bq26=true then (yao.l2 k3 x6_2 x7_2 (wrap64 (x10_3+1))) else (some (([]:List (List Int)),5)))=some (r1,r2):=by rw[← hbq26] at H;exact H
           have Nbq26:=yaa.mk hbq26
           clear hbq26
           by_cases c27:bq26=true
           ·subst c27
            have H1:(yao.l2 k3 x6_2 x7_2 (wrap64 (x10_3+1)))=some (r1,r2):=by rw[if_pos rfl] at H;exact H
            clear H
            have H:=H1
            clear H1
            have H':=yaa.mk H
            clear H
            obtain⟨Ao28,co28,eo28⟩:=Kd.R_slice HO_7.out
            subst eo28
            have p753:0≤(x10_3:Int):=of_decide_eq_true zA
            have q753:x10_3<(x7_2.length:Int):=of_decide_eq_true zA
            obtain⟨ad753,e753,hx753_0⟩:=Kd.at_bool (Kd.R_reads' HO_7.out).2.2 x10_3 p753 q753
            (try rw[← Nbq26.out] at hx753_0)
            cases e753
            replace p753:=eq_true p753
            replace q753:=eq_true q753
            go_wp2
            go_roundg k3
            case measure=>have:=HK1.out;have:=HK2.out;have:=HK3.out;omega
            case rel=>exact⟨(wrap64 (x10_3+1)),zF,H',⟨by have:=HK1.out;have:=HK2.out;have:=HK3.out;omega⟩,⟨zS HO_6.out⟩,⟨zR HO_7.out⟩,⟨zB⟩⟩
           ·replace c27:=Bool.eq_false_iff.mpr c27
            subst c27
            have H1:(some (([]:List (List Int)),5))=some (r1,r2):=by rw[if_neg (show ¬ (false=true) by decide)] at H;exact H
            clear H
            have H:=H1
            clear H1
            simp only[Option.some.injEq,Prod.mk.injEq] at H
            obtain⟨rfl,rfl⟩:=H
            obtain⟨Ao29,co29,eo29⟩:=Kd.R_slice HO_7.out
            subst eo29
            have p753:0≤(x10_3:Int):=of_decide_eq_true zA
            have q753:x10_3<(x7_2.length:Int):=of_decide_eq_true zA
            obtain⟨ad753,e753,hx753_0⟩:=Kd.at_bool (Kd.R_reads' HO_7.out).2.2 x10_3 p753 q753
            (try rw[← Nbq26.out] at hx753_0)
            cases e753
            replace p753:=eq_true p753
            replace q753:=eq_true q753
            go_wp2
            go_ret2
            exact⟨_,zG,by first|exact Kd.S_nil _ _ _ _ _|exact Kd.N_nil _ _ _ _ _|exact Kd.V_nil _ _ _ _ _|exact Kd.Q_nil _ _ _ _ _|exact Kd.R_nil _ _ _ _ _,zB⟩
          ·rw[if_neg c25] at H
           exact absurd H (by simp)
         ·rw[if_neg c24] at H
          have c24b0:=decide_eq_false c24
          clear c24
          simp only[Option.some.injEq,Prod.mk.injEq] at H
          obtain⟨rfl,rfl⟩:=H
          obtain⟨Ao30,co30,eo30⟩:=Kd.R_slice HO_7.out
          subst eo30
          go_wp2
          go_ret2
          exact⟨_,zG,zS HO_6.out,zB⟩
end Go.Proofs.YteeikgjjgfdjgaaGreat.PK
end
